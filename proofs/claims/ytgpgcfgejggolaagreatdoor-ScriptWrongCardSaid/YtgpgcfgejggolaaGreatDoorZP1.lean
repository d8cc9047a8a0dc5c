/- The plain law of ScriptWrong. -/
import Derived.KernelRfl
import Derived.Test.YtgpgcfgejggolaaGreatDoorZM1
namespace Go.Cf
open Go
set_option maxRecDepth 100000
def err20:ByteArray:=ByteArray.mk #[101,114,114,111,114,32,50,48]
theorem toList_mk (l:List UInt8):(ByteArray.mk (List.toArray l)).toList=l:=by rw [ByteArray.toList_eq]
theorem sEq_mk (l l':List UInt8):sEq (ByteArray.mk (List.toArray l)) (ByteArray.mk (List.toArray l'))=(l==l'):=by
 unfold sEq; rw [toList_mk,toList_mk]
theorem said20:M.script_said 100 20=some err20:=by kernel_rfl
theorem sEq_ne {b b':UInt8} {l l':List UInt8} (h:b≠b'):sEq (ByteArray.mk (List.toArray (b::l))) (ByteArray.mk (List.toArray (b'::l')))=false:=by
 rw [sEq_mk]
 simp [h]
theorem form_x (w:List UInt8):M.script_form 100 (ByteArray.mk (List.toArray (120::w)))=some (ByteArray.mk #[],false):=by
 have h : ∀(b:UInt8) (l:List UInt8),b≠120→sEq (ByteArray.mk (List.toArray (120::w))) (ByteArray.mk (List.toArray (b::l)))=false:=fun b l hb=>sEq_ne (Ne.symm hb)
 unfold M.script_form
 simp only [h 110 _ (by decide),h 115 _ (by decide),h 99 _ (by decide),h 98 _ (by decide),h 97 _ (by decide),h 108 _ (by decide),h 114 _ (by decide),h 109 _ (by decide),h 116 _ (by decide),h 100 _ (by decide),h 104 _ (by decide),h 119 _ (by decide),h 112 _ (by decide),h 102 _ (by decide),h 118 _ (by decide),cond_false,M.script_form_k1,M.script_form_k2,M.script_form_k3,M.script_form_k4,M.script_form_k5]
theorem do_x (c:Option T_cluster_Cluster) (l:List UInt8) (hl:l.length≤1000):M.script_Shell_Do 100 ⟨c⟩ (ByteArray.mk (List.toArray (120::l)))=some (err20,⟨c⟩):=by
 unfold M.script_Shell_Do
 have h1:sEq (ByteArray.mk (List.toArray (120::l))) (ByteArray.mk #[])=false:=by
  rw [sEq_mk]; rfl
 have h2:sIx (ByteArray.mk (List.toArray (120::l))) 0=some 120:=rfl
 rw [h1,h2]
 simp only [cond_false,Option.bind_some]
 rw [show ((120:Int)==35)=false from rfl,cond_false,said20]
 simp only [Option.bind_some]
 obtain ⟨w,ws,hw⟩ : ∃w ws,cutAt 32 (120::l)=(120::w)::ws:=by
  simp only [cutAt]
  rw [if_neg (by decide)]
  cases cutAt 32 l with
  | nil=>exact ⟨[],[],rfl⟩
  | cons w ws=>exact ⟨w,ws,rfl⟩
 have h3:M.strings_Split 100 (ByteArray.mk (List.toArray (120::l))) (ByteArray.mk #[32])=some (ByteArray.mk (List.toArray (120::w))::ws.map fun l=>⟨l.toArray⟩):=by
  unfold M.strings_Split
  rw [if_pos (by show (120::l).length<_; simp; omega)]
  show some (words 32 _)=_
  unfold words
  show some (List.map _ (cutAt 32 (120::l)))=_
  rw [hw]; rfl
 rw [h3]
 simp only [Option.bind_some]
 rw [show idx (ByteArray.mk (List.toArray (120::w))::ws.map fun l=>(⟨l.toArray⟩:ByteArray)) 0=some (ByteArray.mk (List.toArray (120::w))) from rfl]
 simp only [Option.bind_some,form_x]
 rfl
def bads (x:ByteArray):List ByteArray:=[x,(ByteArray.mk #[98,101,103,105,110]),(ByteArray.mk #[98,101,103,105,110,32,48,32,48]),(ByteArray.mk #[98,101,103,105,110,32,48,48]),(ByteArray.mk #[98,101,103,105,110,32,43,49]),(ByteArray.mk #[98,101,103,105,110,32,57,50,50,51,51,55,50,48,51,54,56,53,52,55,55,53,56,48,56]),(ByteArray.mk #[114,101,97,100,32,48,32]),(ByteArray.mk #[119,114,105,116,101,32,48,32,97]),(ByteArray.mk #[98,101,103,105,110,32,32,48]),(ByteArray.mk #[32,98,101,103,105,110,32,48]),(ByteArray.mk #[98,101,103,105,110,32,48,32]),(ByteArray.mk #[99,111,109,109,105,116,32,120]),(ByteArray.mk #[97,99,107,101,100,32,49])]
theorem bad_lines (c:Option T_cluster_Cluster) : ∀t∈(bads ByteArray.empty).tail,M.script_Shell_Do 100 ⟨c⟩ t=some (err20,⟨c⟩):=by
 intro t ht
 simp only [bads,List.tail_cons,List.mem_cons,List.not_mem_nil,or_false] at ht
 rcases ht with rfl|rfl|rfl|rfl|rfl|rfl|rfl|rfl|rfl|rfl|rfl|rfl<;>kernel_rfl
theorem bad_first (l:List UInt8) : ∀t∈(bads ByteArray.empty).tail,sEq t (ByteArray.mk (List.toArray (120::l)))=false:=by
 intro t ht
 simp only [bads,List.tail_cons,List.mem_cons,List.not_mem_nil,or_false] at ht
 rcases ht with rfl|rfl|rfl|rfl|rfl|rfl|rfl|rfl|rfl|rfl|rfl|rfl<;>exact sEq_ne (by decide)
section
variable (a:ByteArray)(l:List UInt8)(c:Option T_cluster_Cluster)(hc:sCat (ByteArray.mk #[120]) a=some (ByteArray.mk (List.toArray (120::l))))
include hc
theorem wrong_step (fuel i:Nat) (hi:i<13):M.law24_ScriptWrong_L1 100 (fuel+1) a (ByteArray.mk (List.toArray (120::l))) c (i:Int)=M.law24_ScriptWrong_L1 100 fuel a (ByteArray.mk (List.toArray (120::l))) c ((i+1:Nat):Int):=by
 obtain ⟨t,ht,hg⟩ : ∃t,idx (bads (ByteArray.mk (List.toArray (120::l)))) (i:Int)=some t∧((t=ByteArray.mk (List.toArray (120::l)))∨t∈(bads ByteArray.empty).tail):=by
  have hlen:i<(bads (ByteArray.mk (List.toArray (120::l)))).length:=hi
  refine ⟨(bads (ByteArray.mk (List.toArray (120::l))))[i],?_,?_⟩
  ·unfold idx
   rw [if_pos (by omega),Int.toNat_natCast]
   exact List.getElem?_eq_getElem hlen
  ·have:=List.getElem_mem hlen
   rcases List.mem_cons.1 this with h|h
   ·exact .inl h
   ·exact .inr h
 rw [M.law24_ScriptWrong_L1]
 show (bif decide ((i:Int)<((bads (ByteArray.mk (List.toArray (120::l)))).length:Int)) then Option.bind (idx (bads (ByteArray.mk (List.toArray (120::l)))) (i:Int)) _ else _)=_
 rw [show decide ((i:Int)<((bads (ByteArray.mk (List.toArray (120::l)))).length:Int))=true from decide_eq_true (by show (i:Int)<13; omega),cond_true]
 have hw:IntKind.i64.wrap ((i:Int)+1)=((i+1:Nat):Int):=by
  have:i∈List.range 13:=List.mem_range.2 hi
  revert this
  generalize i=k
  intro hk
  simp only [List.range,List.range.loop,List.mem_cons,List.not_mem_nil,or_false] at hk
  rcases hk with rfl|rfl|rfl|rfl|rfl|rfl|rfl|rfl|rfl|rfl|rfl|rfl|rfl<;>rfl
 rw [ht]
 simp only [Option.bind_some]
 rw [hc]
 simp only [Option.bind_some,hw]
 rcases hg with rfl|hg
 ·rw [sEq_mk]
  simp
 ·rw [bad_first l t hg,show M.script_Shell_Do 100 (T_script_Shell.mk c) t=_ from bad_lines c t hg]
  simp only [Bool.not_false,cond_true,Option.bind_some]
  rw [show sEq err20 (ByteArray.mk #[101,114,114,111,114,32,50,48])=true from by kernel_rfl]
  rfl
theorem wrong_run:M.law24_ScriptWrong_L1 100 100 a (ByteArray.mk (List.toArray (120::l))) c 0=M.law24_ScriptWrong_L1 100 87 a (ByteArray.mk (List.toArray (120::l))) c 13:=by
 have h:=wrong_step a l c hc
 exact (h 99 0 (by omega)).trans ((h 98 1 (by omega)).trans ((h 97 2 (by omega)).trans ((h 96 3 (by omega)).trans ((h 95 4 (by omega)).trans ((h 94 5 (by omega)).trans ((h 93 6 (by omega)).trans ((h 92 7 (by omega)).trans ((h 91 8 (by omega)).trans ((h 90 9 (by omega)).trans ((h 89 10 (by omega)).trans ((h 88 11 (by omega)).trans (h 87 12 (by omega)))))))))))))
end
def okW:ByteArray:=ByteArray.mk #[111,107]
def new211:ByteArray:=ByteArray.mk #[110,101,119,32,50,32,49,32,49]
noncomputable def sh1:Option T_cluster_Cluster:=((M.script_Shell_Do 100 ⟨none⟩ new211).map (fun x=>x.2.c)).getD none
theorem h211:M.script_Shell_Do 100 ⟨none⟩ new211=some (okW,⟨sh1⟩):=by kernel_rfl
theorem tail1:(Option.bind (M.script_Shell_Do 100 (T_script_Shell.mk sh1) (ByteArray.mk #[108,97,115,116,32,48])) fun x118=>(bif (sEq x118.1 (ByteArray.mk #[110,111,110,101])) then (Option.bind (M.script_Shell_Do 100 (T_script_Shell.mk x118.2.c) (ByteArray.mk #[114,111,108,101,32,48])) fun x121=>(some (sEq x121.1 (ByteArray.mk #[50])))) else (some false)))=some true:=by kernel_rfl
theorem awake24:M.law24_awake 100=some true:=by kernel_rfl
theorem sCat_x (a:ByteArray) (h:a.size≤200):sCat (ByteArray.mk #[120]) a=some (ByteArray.mk (List.toArray (120::a.data.toList))):=by
 unfold sCat
 rw [if_pos (by show 1+a.size≤_; omega)]
 congr 1
theorem pScriptWrong (a b:ByteArray):M.law24_ScriptWrong 100 a b=some true:=by
 unfold M.law24_ScriptWrong
 rw [show M.script_New 100=some ⟨none⟩ from rfl]
 simp only [Option.bind_some]
 rw [show M.script_Shell_Do 100 (T_script_Shell.mk none) (ByteArray.mk #[110,101,119,32,50,32,49,32,49])=_ from h211]
 simp only [Option.bind_some]
 rw [show sEq okW (ByteArray.mk #[111,107])=true from by kernel_rfl]
 simp only [Bool.not_true,cond_false]
 rw [show (bif decide ((a.size:Int) > 200) then some true else some (decide ((b.size:Int) > 200)))=some (decide ((a.size:Int) > 200∨(b.size:Int) > 200)) from by
  by_cases h:(a.size:Int) > 200<;>simp [h]]
 simp only [Option.bind_some,awake24,cond_true]
 by_cases hs:(a.size:Int) > 200∨(b.size:Int) > 200
 ·rw [decide_eq_true hs]; rfl
 rw [decide_eq_false hs,cond_false]
 have ha:a.size≤200:=by omega
 obtain ⟨v,hv⟩ : ∃v,(bif (sEq a (ByteArray.mk #[])) then (some true) else (Option.bind (sIx a 0) fun x25=>(some (x25==35))))=some v:=by
  obtain ⟨⟨l⟩⟩:=a
  cases l with
  | nil=>exact ⟨true,by rw [show sEq (ByteArray.mk (Array.mk [])) (ByteArray.mk #[])=true from (sEq_mk [] []).trans rfl]; rfl⟩
  | cons c l=>
   rw [show sEq (ByteArray.mk (List.toArray (c::l))) (ByteArray.mk #[])=false from by rw [sEq_mk]; rfl]
   exact ⟨_,rfl⟩
 rw [hv]
 simp only [Option.bind_some]
 cases v with
 | true=>
  rw [cond_true]
  have hd:M.script_Shell_Do 100 (T_script_Shell.mk sh1) a=some (ByteArray.mk #[],⟨sh1⟩):=by
   unfold M.script_Shell_Do
   rw [hv]; rfl
  rw [hd]
  simp only [Option.bind_some]
  rw [sEq_mk]; rfl
 | false=>
  rw [cond_false,sCat_x a ha]
  simp only [Option.bind_some]
  have hr:=wrong_run a a.data.toList sh1 (sCat_x a ha)
  have hl:a.data.toList.length≤1000:=by
   have:a.data.toList.length=a.size:=rfl
   omega
  refine hr.trans ?_
  rw [M.law24_ScriptWrong_L1]
  show (bif decide ((13:Int)<13) then _ else _)=_
  rw [show decide ((13:Int)<13)=false from rfl,cond_false,awake24]
  simp only [Option.bind_some,cond_true]
  rw [sCat_x a ha]
  simp only [Option.bind_some]
  rw [do_x sh1 a.data.toList hl]
  simp only [Option.bind_some]
  rw [show sEq err20 (ByteArray.mk #[101,114,114,111,114,32,50,48])=true from by kernel_rfl,cond_true,tail1]
  rfl
end Go.Cf
