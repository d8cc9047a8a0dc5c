/- strings.Split at one byte, in plain words. -/
import Derived.Shelf.Strings.Split
namespace Go.Cf
open Go Go.Lib
def cutAt (c:UInt8):List UInt8→List (List UInt8)
 | []=>[[]]
 | b::l=>if b==c then []::cutAt c l else match cutAt c l with
  | []=>[[b]]
  | w::ws=>(b::w)::ws
theorem splitK_cut (c:UInt8) : ∀l:List UInt8,splitK [c] 0 (count l [c]) l=cutAt c l
 | []=>by rw [count_one]; rfl
 | b::l=>by
  have ih:=splitK_cut c l
  by_cases h:b=c
  ·subst h
   rw [count_cons_eq,Nat.add_comm]
   have hix:index (b::l) [b]=0:=by rw [index]; simp [List.isPrefixOf]
   simp only [splitK,hix,cutAt,beq_self_eq_true,if_true]
   rw [if_neg (by decide)]
   simpa using ih
  ·have hp:([c]:List UInt8).isPrefixOf (b::l)=false:=by simp [List.isPrefixOf,Ne.symm h]
   have hix:index (b::l) [c]=if index l [c] == -1 then -1 else index l [c]+1:=by rw [index,hp]; simp
   rw [count_cons_ne b c l h]
   have hbc:(b==c)=false:=by simpa using h
   simp only [cutAt,hbc,Bool.false_eq_true,if_false]
   rw [← ih]
   by_cases hm:index l [c] = -1
   ·rw [count_miss hm]; rfl
   ·have hge:=index_ge l [c]
    obtain ⟨j,hj⟩ : ∃j:Nat,index l [c]=j:=⟨(index l [c]).toNat,by omega⟩
    have hix':index (b::l) [c]=((j+1:Nat):Int):=by rw [hix,if_neg (fun e=>hm (beq_iff_eq.1 e)),hj]; omega
    have hc:=count_hit (sub:=[c]) (by simp) hj
    rw [hc,Nat.add_comm]
    have h1 : ¬((((j+1:Nat):Int) == -1)=true):=fun e=>by have:=beq_iff_eq.1 e; omega
    have h2 : ¬(((j:Int) == -1)=true):=fun e=>by have:=beq_iff_eq.1 e; omega
    simp only [splitK,hix',hj]
    rw [if_neg h1,if_neg h2]
    simp
def words (c:UInt8) (s:ByteArray):List ByteArray:=(cutAt c s.data.toList).map fun l=>⟨l.toArray⟩
theorem splitB_words (c:UInt8) (s:ByteArray):splitB ⟨#[c]⟩ 0 (countB s ⟨#[c]⟩) s=words c s:=by
 have h:=splitB_data ⟨#[c]⟩ 0 (countB s ⟨#[c]⟩) s
 unfold words
 rw [← splitK_cut]
 have e : ∀L:List ByteArray,(L.map (·.data.toList)).map (fun l=>(⟨l.toArray⟩:ByteArray))=L:=fun L=>by
  rw [List.map_map]
  conv=>rhs; rw [← List.map_id L]
  exact List.map_congr_left fun x _=>rfl
 exact (e _).symm.trans (congrArg _ h)
theorem words_len (c:UInt8) (s:ByteArray):(words c s).length=countB s ⟨#[c]⟩+1:=by
 rw [← splitB_words]
 exact splitB_all ⟨#[c]⟩ (Nat.le_refl 1) 0 _ s rfl
end Go.Cf
