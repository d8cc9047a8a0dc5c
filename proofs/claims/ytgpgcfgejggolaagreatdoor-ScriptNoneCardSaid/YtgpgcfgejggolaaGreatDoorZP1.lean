/- Of scripts: lines that are blank, remarks; texts of blank lines. -/
import Derived.KernelRfl
import Derived.Lib.AtoiAllCases
import Derived.Test.YtgpgcfgejggolaaGreatDoorZM1
namespace Go.Cf
open Go
set_option maxRecDepth 100000
abbrev bmk (l:List UInt8):ByteArray:=ByteArray.mk (List.toArray l)
theorem toList_bmk (l:List UInt8):(bmk l).toList=l:=by rw [ByteArray.toList_eq]
theorem sEq_bmk (l l':List UInt8):sEq (bmk l) (bmk l')=(l==l'):=by
 unfold sEq; rw [toList_bmk,toList_bmk]
end Go.Cf
namespace Go.Cf
open Go
set_option maxRecDepth 100000
theorem cutAt_ne (c:UInt8) : ∀l:List UInt8,∃w ws,cutAt c l=w::ws
 | []=>⟨[],[],rfl⟩
 | b::l=>by
  obtain ⟨w,ws,h⟩:=cutAt_ne c l
  unfold cutAt
  split
  ·exact ⟨_,_,rfl⟩
  ·rw [h]; exact ⟨_,_,rfl⟩
theorem cutAt_len (c:UInt8) : ∀l:List UInt8,∀w∈cutAt c l,w.length≤l.length
 | [],w,h=>by
  simp only [cutAt,List.mem_singleton] at h
  subst h; exact Nat.le_refl _
 | b::l,w,h=>by
  have ih:=cutAt_len c l
  unfold cutAt at h
  split at h
  ·rcases List.mem_cons.1 h with rfl|h
   ·exact Nat.zero_le _
   ·exact Nat.le_succ_of_le (ih w h)
  ·obtain ⟨w0,ws,h0⟩:=cutAt_ne c l
   rw [h0] at h ih
   rcases List.mem_cons.1 h with rfl|h
   ·have:=ih w0 (List.mem_cons_self ..)
    simpa using this
   ·exact Nat.le_succ_of_le (ih w (List.mem_cons_of_mem _ h))
theorem words_ok {s:ByteArray} (hs:s.size≤200) : ∃w ws,words 32 s=w::ws∧w.size≤200 ∧ ∀x∈ws,x.size≤200:=by
 obtain ⟨w,ws,h⟩:=cutAt_ne 32 s.data.toList
 have hl:=cutAt_len 32 s.data.toList
 rw [h] at hl
 have hs':s.data.toList.length≤200:=hs
 refine ⟨bmk w,ws.map fun l=>⟨l.toArray⟩,by unfold words; rw [h]; rfl,?_,fun x hx=>?_⟩
 ·exact Nat.le_trans (hl w (List.mem_cons_self ..)) hs'
 ·obtain ⟨y,hy,rfl⟩:=List.mem_map.1 hx
  exact Nat.le_trans (hl y (List.mem_cons_of_mem _ hy)) hs'
def goodF (f:ByteArray):Prop:=f∈[bmk [],bmk [110],bmk [110,110],bmk [110,110,110],bmk [110,110,110,110],bmk [110,116],bmk [110,116,116],bmk [110,110,116]]
def FormQ (r:Option (ByteArray×Bool)):Prop := ∃f b,r=some (f,b)∧goodF f
theorem cond_ok {α:Type} {P:α→Prop} {b:Bool} {x y:α} (h1:b=true→P x) (h2:b=false→P y):P (bif b then x else y):=by
 cases b
 ·exact h2 rfl
 ·exact h1 rfl
theorem fq (f:ByteArray) (b:Bool) (h:goodF f):FormQ (some (f,b)):=⟨f,b,rfl,h⟩
theorem form_ok (N:Nat) (w:ByteArray):FormQ (M.script_form N w):=by
 have g0:goodF (ByteArray.mk #[]):=by simp [goodF,bmk]
 have g1:goodF (ByteArray.mk #[110]):=by simp [goodF,bmk]
 have g2:goodF (ByteArray.mk #[110,110]):=by simp [goodF,bmk]
 have g3:goodF (ByteArray.mk #[110,110,110]):=by simp [goodF,bmk]
 have g4:goodF (ByteArray.mk #[110,110,110,110]):=by simp [goodF,bmk]
 have g5:goodF (ByteArray.mk #[110,116]):=by simp [goodF,bmk]
 have g6:goodF (ByteArray.mk #[110,116,116]):=by simp [goodF,bmk]
 have g7:goodF (ByteArray.mk #[110,110,116]):=by simp [goodF,bmk]
 have k5 : ∀y,FormQ (M.script_form_k5 N y):=fun y=>by
  unfold M.script_form_k5
  exact cond_ok (fun _=>fq _ _ g0) fun _=>fq _ _ g0
 have k4 : ∀a y,FormQ (M.script_form_k4 N a y):=fun a y=>by
  unfold M.script_form_k4
  exact cond_ok (fun _=>fq _ _ g5) fun _=>cond_ok (fun _=>fq _ _ g6) fun _=>cond_ok (fun _=>fq _ _ g7) fun _=>cond_ok (fun _=>k5 _) fun _=>cond_ok (fun _=>k5 _) fun _=>cond_ok (fun _=>k5 _) fun _=>k5 _
 have k3 : ∀a y,FormQ (M.script_form_k3 N a y):=fun a y=>by
  unfold M.script_form_k3
  exact cond_ok (fun _=>fq _ _ g3) fun _=>cond_ok (fun _=>fq _ _ g4) fun _=>cond_ok (fun _=>k4 _ _) fun _=>k4 _ _
 have k2 : ∀a y,FormQ (M.script_form_k2 N a y):=fun a y=>by
  unfold M.script_form_k2
  exact cond_ok (fun _=>fq _ _ g2) fun _=>cond_ok (fun _=>k3 _ _) fun _=>cond_ok (fun _=>k3 _ _) fun _=>cond_ok (fun _=>k3 _ _) fun _=>cond_ok (fun _=>k3 _ _) fun _=>cond_ok (fun _=>k3 _ _) fun _=>k3 _ _
 have k1 : ∀a y,FormQ (M.script_form_k1 N a y):=fun a y=>by
  unfold M.script_form_k1
  exact cond_ok (fun _=>fq _ _ g1) fun _=>cond_ok (fun _=>k2 _ _) fun _=>cond_ok (fun _=>k2 _ _) fun _=>k2 _ _
 unfold M.script_form
 exact cond_ok (fun _=>fq _ _ g3) fun _=>cond_ok (fun _=>k1 _ _) fun _=>cond_ok (fun _=>k1 _ _) fun _=>cond_ok (fun _=>k1 _ _) fun _=>cond_ok (fun _=>k1 _ _) fun _=>cond_ok (fun _=>k1 _ _) fun _=>cond_ok (fun _=>k1 _ _) fun _=>cond_ok (fun _=>k1 _ _) fun _=>cond_ok (fun _=>k1 _ _) fun _=>cond_ok (fun _=>k1 _ _) fun _=>cond_ok (fun _=>k1 _ _) fun _=>cond_ok (fun _=>k1 _ _) fun _=>cond_ok (fun _=>k1 _ _) fun _=>k1 _ _
theorem form_new (N:Nat) (w:ByteArray) (h:sEq w (ByteArray.mk #[110,101,119])=true):M.script_form N w=some (ByteArray.mk #[110,110,110],true):=by
 unfold M.script_form
 rw [h]; rfl
theorem sIx_some {f:ByteArray} {i:Nat} (h:i<f.size):sIx f (i:Int)=some ((f[i].toNat:Nat):Int):=by
 unfold sIx
 rw [if_pos (by omega),Int.toNat_natCast,getElem?_pos f i h]
 rfl
theorem idx_nat {α:Type} (l:List α) (i:Nat) (h:i<l.length):idx l (i:Int)=some l[i]:=by
 unfold idx
 rw [if_pos (by omega),Int.toNat_natCast,List.getElem?_eq_getElem h]
theorem number_ok (N:Nat) (w:ByteArray) (h:w.size≤200) : ∃v b,M.script_number N w=some (v,b):=by
 unfold M.script_number M.strconv_Atoi
 rw [if_pos (by omega)]
 simp only [Option.bind_some]
 cases ha:Lib.atoiAll w.data.toList with
 | ok v=>
  obtain ⟨h1,h2⟩:=Lib.atoiAll_bounds ha
  simp only [cond_true]
  unfold M.strconv_Itoa
  rw [if_pos ⟨h1,h2⟩]
  exact ⟨_,_,rfl⟩
 | _=>exact ⟨_,_,rfl⟩
theorem plain_ok (N:Nat)(w:ByteArray)(hw:w.size≤200) : ∀(k i fuel:Nat),w.size-i=k→i≤w.size→k<fuel → ∃b,M.script_plain_L1 N fuel w (i:Int)=some b
 | 0,i,fuel,hk,hi,hf=>by
  obtain ⟨g,rfl⟩ : ∃g,fuel=g+1:=⟨fuel-1,by omega⟩
  rw [M.script_plain_L1,decide_eq_false (by omega),cond_false]
  exact ⟨_,rfl⟩
 | k+1,i,fuel,hk,hi,hf=>by
  obtain ⟨g,rfl⟩ : ∃g,fuel=g+1:=⟨fuel-1,by omega⟩
  rw [M.script_plain_L1,decide_eq_true (by omega),cond_true,sIx_some (show i<w.size by omega)]
  simp only [Option.bind_some]
  obtain ⟨v,hv⟩ : ∃v,(bif decide (((w[i].toNat:Nat):Int)<33) then some true else some (decide (((w[i].toNat:Nat):Int) > 126)))=some v:=by
   cases decide (((w[i].toNat:Nat):Int)<33)<;>exact ⟨_,rfl⟩
  rw [hv]
  simp only [Option.bind_some]
  cases v with
  | true=>exact ⟨_,rfl⟩
  | false=>
   rw [cond_false,show IntKind.i64.wrap ((i:Int)+1)=((i+1:Nat):Int) by rw [IntKind.wrap_i64]; omega]
   exact plain_ok N w hw k (i+1) g (by omega) (by omega) (by omega)
theorem apd_one {α:Type} (l:List α) (x:α) (h:l.length<1000):apd l [x]=some (l++[x]):=by
 unfold apd
 rw [if_pos (by simp; omega)]
section
variable (N:Nat)(hN:300≤N)(hnew : ∀a b c:Int,∃x e t,M.cluster_New N (T_cluster_Setup.mk a b c false)=some (x,e)∧M.script_said N e=some t)(h7 : ∃t,M.script_said N 7=some t)(h20 : ∃t,M.script_said N 20=some t)
include hN hnew h7 in
theorem lock (x14 w0 f:ByteArray)(b:Bool)(ws:List ByteArray)(hlen:ws.length=f.size)(hfs:f.size≤4)(hn:sEq w0 (ByteArray.mk #[110,101,119])=true→f=ByteArray.mk #[110,110,110])(hws : ∀x∈ws,x.size≤200) :
  ∀(k i fuel:Nat) (ys:List Int) (ts:List ByteArray),ws.length-i=k→i≤ws.length→k<fuel→(f=ByteArray.mk #[110,110,110]→ys.length=i)→ys.length+ts.length≤i →
   ∃r c,M.script_Shell_Do_L1 N fuel ⟨none⟩ x14 (w0::ws) (f,b) ws ys ts (i:Int)=some (r,c)∧M.script_Shell_Do_nil0_L1 N fuel x14 (w0::ws) (f,b) ws ys ts (i:Int)=some r
 | 0,i,fuel,ys,ts,hk,hi,hf,h3,hyt=>by
  obtain ⟨g,rfl⟩ : ∃g,fuel=g+1:=⟨fuel-1,by omega⟩
  rw [M.script_Shell_Do_L1,M.script_Shell_Do_nil0_L1,decide_eq_false (show ¬((i:Int)<(ws.length:Int)) by omega)]
  simp only [cond_false]
  rw [show idx (w0::ws) 0=some w0 from rfl]
  simp only [Option.bind_some]
  cases hw:sEq w0 (ByteArray.mk #[110,101,119]) with
  | true=>
   have hf3:=hn hw
   have hy:ys.length=3:=by
    have h1:=h3 hf3
    have h2:f.size=3:=by rw [hf3]; rfl
    omega
   match ys,hy with
   | [a,b,c],_=>
    obtain ⟨x,e,t,h1,h2⟩:=hnew a b c
    simp only [cond_true]
    rw [show idx [a,b,c] 0=some a from rfl,show idx [a,b,c] 1=some b from rfl,show idx [a,b,c] 2=some c from rfl]
    simp only [Option.bind_some]
    rw [h1]
    simp only [Option.bind_some]
    cases he:(e==0) with
    | true=>
     simp only [cond_true,Option.bind_some]
     unfold M.script_Shell_Do_k3 M.script_Shell_Do_nil0_k3
     rw [h2]
     exact ⟨_,_,rfl,rfl⟩
    | false=>
     simp only [cond_false,Option.bind_some]
     unfold M.script_Shell_Do_k3 M.script_Shell_Do_nil0_k3
     rw [h2]
     exact ⟨_,_,rfl,rfl⟩
  | false=>
   obtain ⟨t,ht⟩:=h7
   simp only [cond_false]
   unfold oCase
   simp only [Option.bind_some,cond_true]
   rw [ht]
   exact ⟨_,_,rfl,rfl⟩
 | k+1,i,fuel,ys,ts,hk,hi,hf,h3,hyt=>by
  obtain ⟨g,rfl⟩ : ∃g,fuel=g+1:=⟨fuel-1,by omega⟩
  have hil:i<ws.length:=by omega
  have hmem:ws[i]∈ws:=List.getElem_mem hil
  have hwrap:IntKind.i64.wrap ((i:Int)+1)=((i+1:Nat):Int):=by rw [IntKind.wrap_i64]; omega
  rw [M.script_Shell_Do_L1,M.script_Shell_Do_nil0_L1,decide_eq_true (show ((i:Int)<(ws.length:Int)) by omega)]
  simp only [cond_true]
  rw [idx_nat ws i hil]
  simp only [Option.bind_some]
  rw [sIx_some (show i<f.size by omega)]
  simp only [Option.bind_some]
  cases hz:(((f[i]'(by omega)).toNat:Nat):Int)==110 with
  | true=>
   simp only [cond_true]
   obtain ⟨v,b',hv⟩:=number_ok N ws[i] (hws _ hmem)
   rw [hv]
   simp only [Option.bind_some]
   cases b' with
   | false=>exact ⟨_,_,rfl,rfl⟩
   | true=>
    simp only [Bool.not_true,cond_false]
    rw [apd_one ys v (by omega)]
    simp only [Option.bind_some]
    unfold M.script_Shell_Do_k2 M.script_Shell_Do_nil0_k2
    rw [hwrap]
    exact lock x14 w0 f b ws hlen hfs hn hws k (i+1) g _ ts (by omega) (by omega) (by omega) (fun h=>by rw [List.length_append,h3 h]; rfl) (by rw [List.length_append]; simp; omega)
  | false=>
   simp only [cond_false]
   obtain ⟨p,hp⟩:=plain_ok N ws[i] (hws _ hmem) _ 0 N rfl (Nat.zero_le _) (by have:=hws _ hmem; omega)
   rw [show M.script_plain N ws[i]=some p from hp]
   simp only [Option.bind_some]
   cases p with
   | false=>exact ⟨_,_,rfl,rfl⟩
   | true=>
    simp only [Bool.not_true,cond_false]
    rw [apd_one ts ws[i] (by omega)]
    simp only [Option.bind_some]
    unfold M.script_Shell_Do_k2 M.script_Shell_Do_nil0_k2
    rw [hwrap]
    refine lock x14 w0 f b ws hlen hfs hn hws k (i+1) g ys _ (by omega) (by omega) (by omega) (fun h=>?_) (by rw [List.length_append]; simp; omega)
    exfalso
    subst h
    have:i<3:=by have:(ByteArray.mk #[110,110,110]).size=3:=rfl; omega
    match i,this with
    | 0,_=>exact Bool.noConfusion (hz.symm.trans rfl)
    | 1,_=>exact Bool.noConfusion (hz.symm.trans rfl)
    | 2,_=>exact Bool.noConfusion (hz.symm.trans rfl)
include hN hnew h7 h20 in
theorem do_same (s:ByteArray) (hs:s.size≤200) : ∃r c,M.script_Shell_Do N ⟨none⟩ s=some (r,c)∧M.script_Shell_Do_nil0 N s=some r:=by
 unfold M.script_Shell_Do M.script_Shell_Do_nil0
 obtain ⟨v,hv⟩ : ∃v,(bif (sEq s (ByteArray.mk #[])) then (some true) else (Option.bind (sIx s 0) fun x11=>(some (x11==35))))=some v:=by
  obtain ⟨⟨l⟩⟩:=s
  cases l with
  | nil=>exact ⟨true,by rw [show sEq (ByteArray.mk (Array.mk [])) (ByteArray.mk #[])=true from (sEq_bmk [] []).trans rfl]; rfl⟩
  | cons c l=>
   rw [show sEq (ByteArray.mk (List.toArray (c::l))) (ByteArray.mk #[])=false from by rw [sEq_bmk]; rfl]
   exact ⟨_,rfl⟩
 rw [hv]
 simp only [Option.bind_some]
 cases v with
 | true=>exact ⟨_,_,rfl,rfl⟩
 | false=>
  simp only [cond_false]
  obtain ⟨t,ht⟩:=h20
  rw [ht]
  simp only [Option.bind_some]
  obtain ⟨w,ws,hw,hw1,hw2⟩:=words_ok hs
  rw [show M.strings_Split N s (ByteArray.mk #[32])=some (w::ws) from by
   unfold M.strings_Split
   rw [if_pos (by omega)]
   exact congrArg some hw]
  simp only [Option.bind_some]
  rw [show idx (w::ws) 0=some w from rfl]
  simp only [Option.bind_some]
  obtain ⟨f,b,hf,hg⟩:=form_ok N w
  rw [hf]
  simp only [Option.bind_some]
  have hfs:f.size≤4:=by
   simp only [goodF,List.mem_cons,List.not_mem_nil,or_false] at hg
   rcases hg with rfl|rfl|rfl|rfl|rfl|rfl|rfl|rfl<;>decide
  obtain ⟨q,hq,hq2⟩ : ∃q,(bif !b then some true else some ((((w::ws).length:Nat):Int) != IntKind.i64.wrap ((f.size:Int)+1)))=some q∧(q=false→ws.length=f.size):=by
   cases b with
   | false=>exact ⟨true,rfl,fun h=>by cases h⟩
   | true=>
    refine ⟨_,rfl,fun h=>?_⟩
    have h':(((w::ws).length:Nat):Int)=IntKind.i64.wrap ((f.size:Int)+1):=by simpa using h
    rw [IntKind.wrap_i64] at h'
    simp only [List.length_cons] at h'
    omega
  rw [hq]
  simp only [Option.bind_some]
  cases q with
  | true=>exact ⟨_,_,rfl,rfl⟩
  | false=>
   have hl:=hq2 rfl
   simp only [cond_false]
   rw [show slc (w::ws) 1 (((w::ws).length:Nat):Int)=some ws from by
    unfold slc
    rw [if_pos ⟨by decide,by simp only [List.length_cons]; omega,Int.le_refl _⟩,Int.toNat_natCast,List.take_length]
    rfl]
   simp only [Option.bind_some]
   refine lock N hN hnew h7 t w f b ws hl hfs (fun h=>?_) hw2 _ 0 N [] [] rfl (Nat.zero_le _) (by omega) (fun _=>rfl) (Nat.le_refl _)
   have:=(form_new N w h).symm.trans hf
   simp only [Option.some.injEq,Prod.mk.injEq] at this
   exact this.1.symm
end
theorem none24:M.law24_awake 1000=some true:=by kernel_rfl
theorem said7:M.script_said 1000 7=some (ByteArray.mk #[101,114,114,111,114,32,55]):=by kernel_rfl
theorem said20n:M.script_said 1000 20=some (ByteArray.mk #[101,114,114,111,114,32,50,48]):=by kernel_rfl
theorem said1:M.script_said 1000 1=some (ByteArray.mk #[101,114,114,111,114,32,49]):=by kernel_rfl
theorem said0:M.script_said 1000 0=some (ByteArray.mk #[111,107]):=by kernel_rfl
noncomputable def newOk (a b c:Int):Bool:=match M.cluster_New 1000 (T_cluster_Setup.mk a b c false) with
 | some (_,e)=>e==0
 | none=>false
theorem news_ok:(([1,2,3,4]:List Int).all fun a=>([1,2,3,4]:List Int).all fun b=>([1,2,3,4]:List Int).all fun c=>decide (a<b)||newOk a b c)=true:=by kernel_rfl
theorem in4 {a:Int} (h0 : ¬a<1) (h1 : ¬a > 4):a∈([1,2,3,4]:List Int):=by
 simp only [List.mem_cons,List.not_mem_nil,or_false]
 omega
theorem new_total (a b c:Int) : ∃x e t,M.cluster_New 1000 (T_cluster_Setup.mk a b c false)=some (x,e)∧M.script_said 1000 e=some t:=by
 by_cases h:a<1∨a > 4∨b<1∨b > a∨c<1∨c > 4
 ·refine ⟨none,1,_,?_,said1⟩
  unfold M.cluster_New M.config_Start
  have e:(bif decide (a<1) then (some true) else (bif decide (a > 4) then (some true) else (bif decide (b<1) then (some true) else (bif decide (b > a) then (some true) else (bif decide (c<1) then (some true) else (some (decide (c > 4))))))))=some true:=by
   by_cases h1:a<1
   ·rw [decide_eq_true h1]; rfl
   rw [decide_eq_false h1,cond_false]
   by_cases h2:a > 4
   ·rw [decide_eq_true h2]; rfl
   rw [decide_eq_false h2,cond_false]
   by_cases h3:b<1
   ·rw [decide_eq_true h3]; rfl
   rw [decide_eq_false h3,cond_false]
   by_cases h4:b > a
   ·rw [decide_eq_true h4]; rfl
   rw [decide_eq_false h4,cond_false]
   by_cases h5:c<1
   ·rw [decide_eq_true h5]; rfl
   rw [decide_eq_false h5,cond_false]
   rw [decide_eq_true (show c > 4 by omega)]
  show Option.bind (Option.bind (bif decide (a<1) then (some true) else (bif decide (a > 4) then (some true) else (bif decide (b<1) then (some true) else (bif decide (b > a) then (some true) else (bif decide (c<1) then (some true) else (some (decide (c > 4)))))))) _) _=_
  rw [e]
  rfl
 ·have h0:=news_ok
  have h1:=List.all_eq_true.1 (List.all_eq_true.1 (List.all_eq_true.1 h0 a (in4 (by omega) (by omega))) b (in4 (by omega) (by omega))) c (in4 (by omega) (by omega))
  rw [decide_eq_false (show ¬a<b by omega),Bool.false_or] at h1
  unfold newOk at h1
  cases hc:M.cluster_New 1000 (T_cluster_Setup.mk a b c false) with
  | none=>rw [hc] at h1; cases h1
  | some y=>
   rw [hc] at h1
   obtain ⟨x,e⟩:=y
   have he:e=0:=by simpa using h1
   subst he
   exact ⟨x,0,_,rfl,said0⟩
def okN:ByteArray:=ByteArray.mk #[111,107]
theorem none1:M.script_Shell_Do_nil0 1000 (ByteArray.mk #[110,101,119,32,49,32,49,32,49])=some okN:=by kernel_rfl
theorem none2:M.script_Shell_Do_nil0 1000 (ByteArray.mk #[97,99,107,101,100])=some (ByteArray.mk #[101,114,114,111,114,32,55]):=by kernel_rfl
theorem none3:M.script_Shell_Run_nil0 1000 (ByteArray.mk #[98,101,103,105,110,32,48,10,102,114,111,98])=some (ByteArray.mk #[101,114,114,111,114,32,55,10,101,114,114,111,114,32,50,48,10],0):=by kernel_rfl
theorem sEq_self (a:ByteArray):sEq a a=true:=by
 unfold sEq
 exact beq_self_eq_true _
theorem pScriptNone (s:ByteArray):M.law24_ScriptNone 1000 s=some true:=by
 unfold M.law24_ScriptNone
 by_cases hs:(s.size:Int) > 200
 ·rw [decide_eq_true hs,cond_true,none24]
  rfl
 ·rw [decide_eq_false hs,cond_false,none1]
  simp only [Option.bind_some]
  rw [none2]
  simp only [Option.bind_some]
  rw [none3]
  simp only [Option.bind_some]
  rw [none24]
  simp only [Option.bind_some,cond_true]
  rw [show sEq okN (ByteArray.mk #[111,107])=true from sEq_self _,cond_true]
  rw [sEq_self (ByteArray.mk #[101,114,114,111,114,32,55]),cond_true,sEq_self (ByteArray.mk #[101,114,114,111,114,32,55,10,101,114,114,111,114,32,50,48,10]),cond_true]
  rw [show ((0:Int)==0)=true from rfl,cond_true,show M.script_New 1000=some ⟨none⟩ from rfl]
  simp only [Option.bind_some]
  obtain ⟨r,c,h1,h2⟩:=do_same 1000 (by decide) new_total ⟨_,said7⟩ ⟨_,said20n⟩ s (by omega)
  rw [show M.script_Shell_Do 1000 (T_script_Shell.mk none) s=_ from h1]
  simp only [Option.bind_some]
  rw [h2]
  simp only [Option.bind_some]
  rw [sEq_self]
end Go.Cf
