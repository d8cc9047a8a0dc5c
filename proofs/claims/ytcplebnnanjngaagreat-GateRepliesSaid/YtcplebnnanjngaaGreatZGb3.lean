/- The gate's iM, second part: forgetting, loading, shipping, what is done between. -/
import Derived.Test.YtcplebnnanjngaaGreatZGb2
import Derived.Test.YtcplebnnanjngaaGreatZM1
set_option linter.unusedVariables false
namespace Go.Cf
open Go
def vM (k:Nat) (bs:List (Option j3)):Prop:=bs.length=4 ∧ ∀b,some b∈bs→vL k 40 k b
def GI (n:Nat) (m:Mp Int jA):Prop := ∃l,m=some l∧Srt l∧l.length≤n ∧ ∀p∈l,(0≤p.2.dc∧p.2.dc<4)∧p.2.at_≤1073741824+1000000∧p.2.keys.length≤200
def GR (e:List Int):Prop:=e=[]∨(e.length=4 ∧ ∀x∈e,0≤x∧x≤1073741824)
theorem vM.mono {k k':Nat} {bs:List (Option j3)} (h:vM k bs) (hk:k≤k'):vM k' bs:=⟨h.1,λb hb=>(h.2 b hb).mono hk hk⟩
theorem vM.at {k:Nat} {bs:List (Option j3)} (h:vM k bs) {j:Nat} {b:j3} (hb:bs[j]? = some (some b)):vL k 40 k b:=h.2 b (List.mem_of_getElem? hb)
theorem vM.set {k:Nat} {bs:List (Option j3)} (h:vM k bs) (j:Nat) {o:Option j3} (hb : ∀b,o=some b→vL k 40 k b):vM k (bs.set j o):=by
 refine ⟨by simp [h.1],λb hm=>?_⟩
 rcases List.mem_or_eq_of_mem_set hm with hm|hm
 ·exact h.2 b hm
 ·exact hb b hm.symm
theorem GI.mono {n n':Nat} {m:Mp Int jA} (h:GI n m) (hn:n≤n'):GI n' m:=by
 obtain ⟨l,h1,h2,h3,h4⟩:=h
 exact ⟨l,h1,h2,Nat.le_trans h3 hn,h4⟩
theorem GI.del {n:Nat} {m:Mp Int jA} (h:GI n m) (k:Int):GI n (mDel m k):=by
 obtain ⟨l,rfl,h2,h3,h4⟩:=h
 exact ⟨_,rfl,s7 h2 _,Nat.le_trans (zV _ _) h3,λp hp=>h4 p (List.mem_filter.1 hp).1⟩
structure Ld (k u:Nat)(iL:List (Option j3))(iV:Mp Int jA)(iX:Int)(out:List i9):Prop where
 bx:vM k iL
 ld:GI u iV
 l0:0≤iX
 l1:iX≤u
 out:out.length≤u
theorem Ld.mono {k k' u u':Nat} {iL:List (Option j3)} {iV:Mp Int jA} {iX:Int} {out:List i9} (h:Ld k u iL iV iX out) (hk:k≤k') (hu:u≤u'):Ld k' u' iL iV iX out:=
 ⟨h.bx.mono hk,h.ld.mono hu,h.l0,by have:=h.l1; omega,Nat.le_trans h.out hu⟩
theorem F7 (N:Nat)(ep:Int)(a24:Mp Int Int)(a28:Mp Int i8)(a32:List i8)(a35:Mp Int jA)(a40:Option j8)(a44:Int)(a45 a48:List Int)(a51:Int)(a52 a53 a54:Bool)(lg:jC)(co:j9) : ∀(i2:Nat)(i:Int)(cu he:List Int),0≤i→i≤4→4-i<i2→cu.length=4→he.length=4 →
  Okp (M.oG N i2 ep a24 a28 a32 a35 a40 a44 a45 a48 a51 a52 a53 a54 lg co cu he i) λr=>∃cu he:List Int,cu.length=4∧he.length=4∧r=(0,ep,0,⟨[],[]⟩,some lg,some co,List.replicate 4 none,cu,he,BX a24,BX a28,[],BX a35,none,0,[],[],0,false,false,false)
 | 0,i,cu,he,g0,g1,g2,g3,g4=>by omega
 | i2+1,i,cu,he,g0,g1,g2,g3,g4=>by
  unfold M.oG
  rw [kF (x:=i+1) (by omega) (by omega)]
  refine .bp (λhi=>.ix g0 (by omega) λ_ _=>.ix g0 (by omega) λ_ _=>?_) λ_=>.ret ⟨cu,he,g3,g4,rfl⟩
  exact F7 N ep a24 a28 a32 a35 a40 a44 a45 a48 a51 a52 a53 a54 lg co i2 _ _ _ (by omega) (by omega) (by omega) (by simp [g3]) (by simp [g4])
theorem GN {N:Nat}(hN:100≤N)(a2 ep a4 a5:Int)(a6:j5)(a12:Option jC)(a15:Option j9)(a19:List (Option j3)){cu he:List Int}(hc:cu.length=4)(hh:he.length=4)(a24:Mp Int Int)(a28:Mp Int i8)(a32:List i8)(a35:Mp Int jA)(a40:Option j8)(a44:Int)(a45 a48:List Int)(a51:Int)(a52 a53 a54:Bool) :
  Okp (M.pZ N a2 ep a4 a5 a6 a12 a15 a19 cu he a24 a28 a32 a35 a40 a44 a45 a48 a51 a52 a53 a54) λr=>∃cu he:List Int,cu.length=4∧he.length=4∧r=(0,ep,0,⟨[],[]⟩,some ⟨[],[],0⟩,some ⟨some []⟩,List.replicate 4 none,cu,he,BX a24,BX a28,[],BX a35,none,0,[],[],0,false,false,false):=by
 unfold M.pZ M.yI M.yO
 exact .bind (.ret (.bind (.ret (F7 N ep a24 a28 a32 a35 a40 a44 a45 a48 a51 a52 a53 a54 _ _ N 0 cu he (by omega) (by omega) (by omega) hc hh))))
theorem BZ (N:Nat)(F:Mp Int jA×Int×List i9→Prop)(rec1:Int→Mp Int jA→Int→jA→List jJ→List ByteArray→List i9→Int→Option (Mp Int jA×Int×List i9))(a1:Int)(a3:Mp Int jA)(a7:Int)(a14:jA)(sh:List jJ){out:List i9}(ho:out.length<900000000)(j:Int)(hj:0≤j∧j<4)(s:jJ)(hs:s.Vers.length≤40)(kn:Nat)(hkn:kn≤160)
  (hr : ∀keys o,keys.length≤kn+40→o.length=out.length+1→Okp (rec1 a1 a3 a7 a14 sh keys o (j+1)) F) : ∀(i2:Nat) (i:Int) (keys:List ByteArray),0≤i→i≤40→40-i<i2→(keys.length:Int)≤kn+i→Okp (M.nK N rec1 i2 a1 a3 a7 a14 sh out j s keys i) F
 | 0,i,keys,g0,g1,g2,g3=>by omega
 | i2+1,i,keys,g0,g1,g2,g3=>by
  unfold M.nK
  rw [kF (x:=i+1) (by omega) (by omega),kF (x:=j+1) (by omega) (by omega)]
  refine .bp (λhi=>.ix g0 hi λx hx=>.ap (by simp; omega) ?_) λ_=>.call (wU (by omega) _ _ _) λo ho'=>hr keys o (by omega) ho'
  exact BZ N F rec1 a1 a3 a7 a14 sh ho j hj s hs kn hkn hr i2 _ _ (by omega) (by omega) (by omega) (by simp; omega)
theorem C4 (N:Nat)(hN:1000≤N)(a1:Int){ll:List (Int×jA)}{iX:Int}(hl:0≤iX∧iX≤10000000)(a14:jA){sh:List jJ}(hs:DJ 40 sh)(out0:Nat)(ho:out0<800000000) : ∀(i2:Nat)(i:Int)(keys:List ByteArray)(out:List i9),0≤i→i≤sh.length→sh.length-i<i2→(keys.length:Int)≤40*i→(out.length:Int)≤out0+i →
  Okp (M.mG N i2 a1 (some ll) iX a14 sh keys out i) λr=>(∃x,r.1=some (lPut ll (iX+1) x)∧x.dc=a14.dc∧x.at_=a14.at_∧x.keys.length≤200)∧r.2.1=iX+1∧r.2.2.length≤out0+4
 | 0,i,keys,out,g0,g1,g2,g3,g4=>by omega
 | i2+1,i,keys,out,g0,g1,g2,g3,g4=>by
  have h4:=hs.n4
  unfold M.mG
  rw [CR (x:=iX+1) (by omega) (by omega)]
  refine .bp (λhi=>.ix g0 hi λx hx=>?_) λhi=>.mp (.ret ⟨⟨_,rfl,rfl,rfl,?_⟩,rfl,?_⟩)
  ·refine BZ N _ _ a1 _ _ a14 sh (by omega) i (by omega) x (hs.vs x (List.mem_of_getElem? hx)) (40*i.toNat) (by omega) (λks o hks ho'=>?_) N 0 keys (by omega) (by omega) (by omega) (by omega)
   exact C4 N hN a1 hl a14 hs out0 ho i2 _ ks o (by omega) (by omega) (by omega) (by omega) (by omega)
  ·show keys.length≤200; omega
  ·show out.length≤_; omega
theorem F5 {N:Nat}(hN:1000≤N){k u:Nat}{iL:List (Option j3)}{iV:Mp Int jA}{iX:Int}{out:List i9}(h:Ld k u iL iV iX out)(hu:u≤1000000)(d:Int){l:jA}(hl:0≤l.dc∧l.dc<4)(ha:l.at_≤1073741824+1000000){sh:List jJ}(hs:DJ 40 sh) :
  Okp (M.pS N d iV iX out l sh) λr=>Ld k (u+4) iL r.1 r.2.1 r.2.2∧r.2.1=iX+1:=by
 obtain ⟨ll,rfl,h2,h3,h4⟩:=h.ld
 have:=h.l0; have:=h.l1; have:=h.out
 unfold M.pS
 refine (C4 N hN d ⟨h.l0,by omega⟩ l hs out.length (by omega) N 0 [] out (by omega) (by omega) (by have:=hs.n4; omega) (by simp) (by omega)).mono λr ⟨⟨x,e1,e2,e3,e4⟩,e5,e6⟩=>⟨⟨h.bx,⟨_,e1,oK h2 _ _,?_,λp hp=>?_⟩,by omega,by omega,by omega⟩,e5⟩
 ·exact Nat.le_trans (C5 _ _ _) (by omega)
 ·rcases tM hp with rfl|hp
  ·exact ⟨by simp only [e2]; exact hl,by simp only [e3]; exact ha,e4⟩
  ·exact h4 p hp
theorem GO {N:Nat} {l:List jB} (h:l.length≤40):Okp (M.lH N l) λq=>q=l:=by
 unfold M.lH M.mJ
 exact .ap (by simp; omega) (.ret (by simp))
theorem JR (N:Nat){l:List Int}(h:l.length≤4)(B:Int) : ∀(i2:Nat)(i t:Int),0≤i→i≤4→4-i<i2→(∀j:Nat,(j:Int)<i → ∀x,l[j]? = some x→x≤t)→Okp (M.lE N i2 l t i) λr=>∀x∈l,x≤r
 | 0,i,t,g0,g1,g2,g3=>by omega
 | i2+1,i,t,g0,g1,g2,g3=>by
  unfold M.lE
  rw [kF (x:=i+1) (by omega) (by omega)]
  refine .bp (λhi=>.ix g0 hi λx hx=>JR N h B i2 _ _ (by omega) (by omega) (by omega) λj hj y hy=>?_) λhi=>.ret λx hx=>?_
  ·by_cases e:(j:Int)=i
   ·have:j=i.toNat:=by omega
    subst this
    rw [hx] at hy
    simp only [Option.some.injEq] at hy
    subst hy
    split<;>omega
   ·have:=g3 j (by omega) y hy
    split<;>omega
  ·obtain ⟨j,hj⟩:=List.getElem?_of_mem hx
   have hlt:=(List.getElem?_eq_some_iff.1 hj).1
   exact g3 j (by omega) x hj
theorem NO {N:Nat} (hN:100≤N) {l:List Int} (h:l.length=4):Okp (M.mX N l) λr=>∀x∈l,x≤r:=by
 unfold M.mX M.nP
 refine .bp (λh'=>by omega) λ_=>.ix (by omega) (by omega) λx hx=>JR N (by omega) 0 N 1 x (by omega) (by omega) (by omega) λj hj y hy=>?_
 have:j=0:=by omega
 subst this
 have hx:l[0]? = some x:=hx
 rw [hx] at hy
 simp only [Option.some.injEq] at hy
 omega
structure BW (m:jF):Prop where
 vers:m.Vers.length≤12
 vec:m.Vec.length≤40
 nn : ∀x∈m.Vec,0≤x
 id0:0≤m.Id
 n0:0≤m.N
theorem sh1 {vs:List jB} (h:vs.length≤40) (n:Int):DJ 40 [⟨n,vs⟩]:=⟨by simp,by simp [nods],λs hs=>by rw [List.mem_singleton.1 hs]; exact h⟩
theorem K9 {N:Nat}(hN:1000≤N){k u:Nat}{iL:List (Option j3)}{iV:Mp Int jA}{iX:Int}{out:List i9}(h:Ld k u iL iV iX out)(hk:k≤1000)(hu:u≤900000)(dc:Int)(hdc:0≤dc∧dc<4)(i5:Int)(s:j4){z:Int}(hs:rW z s)(lg:jC){cu:List Int}(hc:cu.length=4){ed:List Int}(he:GR ed)(from':Int){m:jF}(hm:BW m) :
  Okp (M.rD N dc i5 (some s) (some lg) iL cu iV iX ed out from' m) λr=>r.1=some s∧r.2.1=some lg∧Ld (k+1) (u+5) r.2.2.1 r.2.2.2.2.1 r.2.2.2.2.2.1 r.2.2.2.2.2.2.2∧r.2.2.2.1.length=4∧GR r.2.2.2.2.2.2.1∧iX≤r.2.2.2.2.2.1:=by
 have hb4:=h.bx.1
 have hm1:=hm.vers
 have same : ∀r:Option j4×Option jC×List (Option j3)×List Int×Mp Int jA×Int×List Int×List i9,r=(some s,some lg,iL,cu,iV,iX,ed,out)→r.1=some s∧r.2.1=some lg∧Ld (k+1) (u+5) r.2.2.1 r.2.2.2.2.1 r.2.2.2.2.2.1 r.2.2.2.2.2.2.2∧r.2.2.2.1.length=4∧GR r.2.2.2.2.2.2.1∧iX≤r.2.2.2.2.2.1:=by
  rintro r rfl; exact ⟨rfl,rfl,h.mono (by omega) (by omega),hc,he,Int.le_refl _⟩
 unfold M.rD
 refine .call (R:=λv=>v=false→0≤from'∧from'<4) (.bp (λ_=>.ret (λh=>by cases h)) λh0=>.bp (λ_=>.ret (λh=>by cases h)) λh1=>.ret λ_=>⟨by omega,by omega⟩) λv hv=>.bb (λ_=>.ret (same _ rfl)) λhvf=>?_
 obtain ⟨f0,f4⟩:=hv hvf
 refine .bb (λ_=>?_) λ_=>.bb (λ_=>?_) λ_=>.bb (λ_=>?_) λ_=>.ret (same _ rfl)
 ·
  refine .call (R:=λv=>v=true → ∃b,iL[from'.toNat]? = some (some b)) (.ix f0 (by omega) λx hx=>.oc (λ_=>.ret (λh=>by cases h)) λb hb=>.call (R:=λ_=>True) (.bp (λ_=>.bp (λ_=>.ret trivial) λ_=>.ret trivial) λ_=>.ret trivial) λv _=>.ret λ_=>⟨b,by rw [hx,hb]⟩) λv hv=>.bb (λhvt=>?_) λ_=>.ret (same _ rfl)
  obtain ⟨b,hb⟩:=hv hvt
  refine .ix f0 (by omega) λx hx=>?_
  rw [hb] at hx
  simp only [Option.some.injEq] at hx
  subst hx
  refine .call (NM (h.bx.at hb) (by omega) (by omega) _ (by show m.Vers.length≤40; omega)) λw hw=>?_
  have hb':vM (k+1) (iL.set from'.toNat (some w.2)):=(h.bx.mono (Nat.le_succ k)).set _ λb' e=>by
   simp only [Option.some.injEq] at e
   subst e
   exact hw.mono (Nat.le_refl _) (Nat.le_succ k)
  have hL:Ld (k+1) (u+5) (iL.set from'.toNat (some w.2)) iV iX out:=⟨hb',h.ld.mono (by omega),h.l0,by have:=h.l1; omega,by have:=h.out; omega⟩
  exact .ret ⟨rfl,rfl,hL,hc,he,Int.le_refl _⟩
 ·
  refine .bind (.ret (.bind (.ret ?_)))
  unfold M.m0 M.oT
  refine .call (R:=λ_=>True) (.bind (.ret (.ix f0 (by rw [hs.got.1]; omega) λ_ _=>.bb (λ_=>.bind (.ret (.ret trivial))) λ_=>.ret trivial))) λv _=>.bb (λ_=>.ix f0 (by omega) λ_ _=>.ret ⟨rfl,rfl,h.mono (by omega) (by omega),by simp [hc],he,Int.le_refl _⟩) λ_=>.ret (same _ rfl)
 ·
  refine .call (R:=λ_=>True) (.bb (λ_=>.ret trivial) λ_=>.ret trivial) λv _=>.bb (λ_=>.ret (same _ rfl)) λ_=>.bb (λ_=>?_) λ_=>?_
  ·refine .call (GO (by omega)) λq hq=>.call (F5 hN h (by omega) dc (l:=⟨dc,0,0,[]⟩) hdc (show (0:Int)≤1073741824+1000000 by decide) (sh1 (by rw [hq]; omega) 0)) λr hr=>?_
   have:=hr.1.out
   refine .call (wU (by omega) _ _ _) λo ho=>?_
   have hL:Ld (k+1) (u+5) iL r.1 r.2.1 o:=⟨hr.1.bx.mono (by omega),hr.1.ld.mono (by omega),hr.1.l0,by have:=hr.1.l1; omega,by omega⟩
   exact .ret ⟨rfl,rfl,hL,hc,he,by have:=hr.2; show iX≤r.2.1; omega⟩
  ·refine .call (R:=λv=>v=true→m.Vec.length=4 ∧ ∀x∈m.Vec,x≤1073741824) (.bb (λh4=>?_) λ_=>.ret (λh=>by cases h)) λv hv=>.bb (λhvt=>?_) λ_=>.ret (same _ rfl)
   ·have h4:m.Vec.length=4:=by
     have:(m.Vec.length:Int)=4:=by simpa using h4
     omega
    refine .call (NO (by omega) h4) λx hx=>.ret λht=>⟨h4,λy hy=>?_⟩
    have:=hx y hy
    have:x≤1073741824:=by simpa using ht
    omega
   ·obtain ⟨h4,hle⟩:=hv hvt
    exact .ap (by simp; omega) (.ret ⟨rfl,rfl,h.mono (by omega) (by omega),hc,.inr ⟨by simpa using h4,λx hx=>by
     have hx':x∈m.Vec:=by simpa using hx
     exact ⟨hm.nn x hx',hle x hx'⟩⟩,Int.le_refl _⟩)
end Go.Cf
