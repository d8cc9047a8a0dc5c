/- The gate's iM, fifth part: what own i4 answer. -/
import Derived.Test.YtcplebnnanjngaaGreatZGb5
import Derived.Test.YtcplebnnanjngaaGreatZM1
set_option linter.unusedVariables false
namespace Go.Cf
open Go
def upS (S:Int→Int) (k v:Int):Int→Int:=λx=>if x=k then v else S x
def L9 (S A:Int→Int) (rs:List jL) (S':Int→Int):Prop:=
 (rs=[]∧S'=S) ∨ ∃r,rs=[r]∧((r.Kind=1∧S r.Call=1∧S'=upS S r.Call 4)∨(r.Kind=2∧S r.Call=2∧A r.Call<r.Mark.TS∧S'=upS S r.Call 3)∨(r.Kind=3∧S r.Call=3∧S'=upS S r.Call 4))
theorem HT (N:Nat) (a1 a6 a7:Int) (a8:List Int) {m:jF} (hm:BW m) (mv:Option j8) {out:List i9} (n:Nat) (ho:out.length≤n+1) (hn:n<900000000):Okp (M.pU N a1 a6 a7 a8 m mv out) λr=>r.2.2.2.length≤n+3:=by
 have:=hm.vers
 unfold M.pU M.pH
 refine .call (R:=λ_=>True) (.bb (λ_=>.ret trivial) λ_=>.ret trivial) λv _=>.bb (λ_=>.bind (.ret (.call (GO (by omega)) λq _=>.call (B4 (by omega) _ _) λo ho'=>.bb (λ_=>.call (B4 (by omega) _ _) λp hp=>.ret (by show p.length≤_; omega)) λ_=>.ret (by show o.length≤_; omega)))) λ_=>.ret (by show out.length≤_; omega)
theorem ND {N:Nat} (a1:Int) (mv:Option j8) (a6 a7:Int) (a8:List Int) {out:List i9} (ho:out.length<900000000) {m:jF} (hm:BW m):Okp (M.t6 N a1 mv a6 a7 a8 out m) λr=>r.2.2.2.length≤out.length+3:=by
 have:=hm.vers
 unfold M.t6
 refine .call (R:=λv=>v.2=true → ∃x,v.1=some x) (.oc (λ_=>.call (R:=λ_=>True) (.bb (λ_=>.ret trivial) λ_=>.ret trivial) λ_ _=>.ret (λh=>by cases h)) λx _=>.call (R:=λ_=>True) (.bb (λ_=>.ret trivial) λ_=>.ret trivial) λ_ _=>.ret λ_=>⟨x,rfl⟩) λv hv=>.bb (λht=>?_) λ_=>HT N a1 a6 a7 a8 hm _ out.length (by omega) ho
 obtain ⟨x,hx⟩:=hv ht
 rw [hx]
 exact .bind (.ret (.call (GO (by omega)) λq _=>.call (wU (by omega) _ _ _) λo ho'=>HT N a1 a6 a7 a8 hm _ out.length (by omega) ho))
theorem KU (N:Nat)(a1 a2 a4 a5 a6:Int)(a7:j5)(a13:List Bool)(a17:Option j4)(a26:Int)(a27:List (Option j3))(a31:Mp Int Int)(a35:Mp Int i8)(a39:List i8)(a42:Mp Int jA)(a46:Int)(a47:Option j8)(a50 a51:Int)(a52:List Int)(m:jF)(x97:Int×Bool×Int×j9)(y163:List jB)(x187:Int×jC){nd:List Int}(hn:nd.length≤4)(n:Nat)(hn':n<900000000) : ∀(i2:Nat)(i:Int)(out:List i9),0≤i→i≤4→4-i<i2→(out.length:Int)≤n+i →
  Okp (M.mS N i2 a1 a2 a4 a5 a6 a7 a13 a17 a26 a27 a31 a35 a39 a42 a46 a47 a50 a51 a52 [] m x97 y163 x187 nd out i) λr=>∃o:List i9,o.length≤n+4 ∧
   r=(a6,a7,a13,a17,some x187.2,some x97.2.2.2,(if x97.1 > a26 then x97.1 else a26),a27,a31,a35,a39,a42,a46,a47,a51,a52,o,[jL.mk ((mGet a31 m.Id).getD 0) 2 false false (jB.mk ByteArray.empty ByteArray.empty false 0 0 0) (mN.mk x97.1 a1 (IntKind.i64.wrap m.Id))])
 | 0,i,out,g0,g1,g2,g3=>by omega
 | i2+1,i,out,g0,g1,g2,g3=>by
  unfold M.mS
  rw [kF (x:=i+1) (by omega) (by omega)]
  refine .bp (λhi=>.ix g0 hi λx hx=>.call (wU (by omega) _ _ _) λo ho=>?_) λ_=>.mg (.ap (by simp) (.ret ⟨out,by omega,rfl⟩))
  exact KU N a1 a2 a4 a5 a6 a7 a13 a17 a26 a27 a31 a35 a39 a42 a46 a47 a50 a51 a52 m x97 y163 x187 hn n hn' i2 _ o (by omega) (by omega) (by omega) (by omega)
theorem KV (N:Nat)(hN:1000000≤N)(a1 a2 a4 a5 a6:Int)(a7:j5)(a13:List Bool)(a17:Option j4){lg:jC}{k:Nat}(hk:k≤1000)(hl:tE k 40 lg)(a26:Int)(a27:List (Option j3))(a31:Mp Int Int)(a35:Mp Int i8)(a39:List i8)(a42:Mp Int jA)(a46:Int)(a47:Option j8)(a50 a51:Int)(a52:List Int){out:List i9}(ho:out.length<900000000)(m:jF){ws:List jB}(hw:ws.length≤32)(x97:Int×Bool×Int×j9){B:Nat}{cl:List (Int×jH)}(hcl:wW B cl)(hx97:x97.2.2.2=⟨some cl⟩) : ∀(i2:Nat)(i:Int)(vs:List jB),0≤i→i≤32→32-i<i2→(vs.length:Int)≤i →
  Okp (M.mT N i2 a1 a2 a4 a5 a6 a7 a13 a17 (some lg) a26 a27 a31 a35 a39 a42 a46 a47 a50 a51 a52 out [] m ws x97 vs i) λr=>∃(o:List i9) (l':jC),o.length≤out.length+4∧tE (k+1) 40 l' ∧
   r=(a6,a7,a13,a17,some l',some x97.2.2.2,(if x97.1 > a26 then x97.1 else a26),a27,a31,a35,a39,a42,a46,a47,a51,a52,o,[jL.mk ((mGet a31 m.Id).getD 0) 2 false false (jB.mk ByteArray.empty ByteArray.empty false 0 0 0) (mN.mk x97.1 a1 (IntKind.i64.wrap m.Id))])
 | 0,i,vs,g0,g1,g2,g3=>by omega
 | i2+1,i,vs,g0,g1,g2,g3=>by
  unfold M.mT
  rw [kF (x:=i+1) (by omega) (by omega)]
  refine .bp (λhi=>.ix g0 hi λx hx=>.ap (by simp; omega) ?_) λ_=>.bind (.ret (.call (LE hl (by omega) (by omega) (by decide) (by show vs.length≤40; omega)) λq hq=>?_))
  ·exact KV N hN a1 a2 a4 a5 a6 a7 a13 a17 hk hl a26 a27 a31 a35 a39 a42 a46 a47 a50 a51 a52 ho m hw x97 hcl hx97 i2 _ _ (by omega) (by omega) (by omega) (by simp; omega)
  ·refine .call (R:=λnd=>nd.length≤4) (by
    show Okp (M.pV N x97.2.2.2 m.Id) _
    rw [hx97]
    exact MV (by omega) hcl _) λnd hnd=>?_
   exact (KU N a1 a2 a4 a5 a6 a7 a13 a17 a26 a27 a31 a35 a39 a42 a46 a47 a50 a51 a52 m x97 vs q hnd out.length ho N 0 out (by omega) (by omega) (by omega) (by omega)).mono λr ⟨o,h1,h2⟩=>⟨o,q.2,h1,hq,h2⟩
def H0 (k i u:Nat) (S A:Int→Int) (z:Int) (n:Nat) (iY:Int) (s:j4) (r:Int×j5×List Bool×Option j4×Option jC×Option j9×Int×List (Option j3)×Mp Int Int×Mp Int i8×List i8×Mp Int jA×Int×Option j8×Int×List Int×List i9×List jL):Prop:=
 (0≤r.1∧r.1≤u)∧sP r.2.1∧r.2.2.1.length=n∧(∃s',r.2.2.2.1=some s'∧rW z s'∧s.stable≤s'.stable)∧(∃l,r.2.2.2.2.1=some l∧tE k 40 l) ∧
 (∃S' cl iM iU,r.2.2.2.2.2.1=some ⟨some cl⟩∧r.2.2.2.2.2.2.2.2.1=some iM∧r.2.2.2.2.2.2.2.2.2.1=some iU∧Pd i S' A iY r.1 cl iM iU r.2.2.2.2.2.2.2.2.2.2.1 r.2.2.2.2.2.2.2.2.2.2.2.2.1∧L9 S A r.2.2.2.2.2.2.2.2.2.2.2.2.2.2.2.2.2 S') ∧
 Ld k u r.2.2.2.2.2.2.2.1 r.2.2.2.2.2.2.2.2.2.2.2.1 r.2.2.2.2.2.2.2.2.2.2.2.2.1 r.2.2.2.2.2.2.2.2.2.2.2.2.2.2.2.2.1
theorem KS (N:Nat)(hN:1000000≤N)(a1 a2 a4:Int){iY:Int}(hb:0≤iY∧iY≤16384)(a13:List Bool)(a17:Option j4)(a20:Option jC)(a27:List (Option j3)){hl:List i8}(hhl:hl.length≤1000){i k U:Nat}(hi:i≤1000)(hU:U≤900000)(a42:Mp Int jA)(a50 a51:Int)(a52:List Int)(x440:j5×Int)(hm:sP x440.1){S A:Int→Int} :
  ∀(i2:Nat) (j:Int) (iZ:Int) (cl:List (Int×jH)) (hi':Int) (iM:List (Int×Int)) (iU:List (Int×i8)) (iW:List i8) (iX:Int) (mv:Option j8) (out:List i9) (u:Nat),0≤j→j≤hl.length→hl.length-j<i2→Pd i S A iY iZ cl iM iU (iW++hl.drop j.toNat) iX→(0≤iZ∧iZ≤u)→Ld k u a27 a42 iX out→u+5*(hl.length-j.toNat)≤U →
  Okp (M.mR N i2 a1 a2 a4 iY a13 a17 a20 a27 hl a42 a50 a51 a52 [] x440 iZ (some ⟨some cl⟩) hi' (some iM) (some iU) iW iX mv out j) λr=>(0≤r.1∧r.1≤U)∧r.2.1=x440.1∧r.2.2.1=a13∧r.2.2.2.1=a17∧r.2.2.2.2.1=a20 ∧
   (∃cl iM iU,r.2.2.2.2.2.1=some ⟨some cl⟩∧r.2.2.2.2.2.2.2.2.1=some iM∧r.2.2.2.2.2.2.2.2.2.1=some iU∧Pd i S A iY r.1 cl iM iU r.2.2.2.2.2.2.2.2.2.2.1 r.2.2.2.2.2.2.2.2.2.2.2.2.1∧r.2.2.2.2.2.2.2.2.2.2.2.2.2.2.2.2.2=[]) ∧
   Ld k U r.2.2.2.2.2.2.2.1 r.2.2.2.2.2.2.2.2.2.2.2.1 r.2.2.2.2.2.2.2.2.2.2.2.2.1 r.2.2.2.2.2.2.2.2.2.2.2.2.2.2.2.2.1
 | 0,j,iZ,cl,hi',iM,iU,iW,iX,mv,out,u,g0,g1,g2,g3,g4,g5,g6=>by omega
 | i2+1,j,iZ,cl,hi',iM,iU,iW,iX,mv,out,u,g0,g1,g2,g3,g4,g5,g6=>by
  have hlen:=g3.len
  have l0:=g5.l0; have l1:=g5.l1; have lo:=g5.out
  unfold M.mR
  refine .bp (λhj=>.ix g0 hj λc hc=>?_) λhj=>.ret ⟨⟨g4.1,by show iZ≤_; omega⟩,rfl,rfl,rfl,rfl,⟨cl,iM,iU,rfl,rfl,rfl,?_,rfl⟩,g5.mono (Nat.le_refl _) (by omega)⟩
  ·have hd:hl.drop j.toNat=c::hl.drop (j+1).toNat:=by
    obtain ⟨h1,h2⟩:=List.getElem?_eq_some_iff.1 hc
    rw [List.drop_eq_getElem_cons h1,h2,show (j+1).toNat=j.toNat+1 from by omega]
   rw [hd] at g3
   rw [kF (x:=j+1) (by omega) (by omega)]
   refine .call (NE (by omega) g3 hi hm hb (by omega) (by omega) a1 hi' mv (by omega)) λr ⟨cl',calls',reads',e1,e2,e3,e4,e5,e6,e7,e8,e9,e10⟩=>?_
   rw [e1,e2,e3]
   refine KS N hN a1 a2 a4 hb a13 a17 a20 a27 hhl hi hU a42 a50 a51 a52 x440 hm i2 (j+1) _ cl' _ calls' reads' _ _ _ _ (u+5) (by omega) (by omega) (by omega) e4 (by omega) ⟨g5.bx,g5.ld.mono (by omega),by omega,by omega,by omega⟩ (by omega)
  ·have:hl.drop j.toNat=[]:=List.drop_of_length_le (by omega)
   rw [this,List.append_nil] at g3
   exact g3
theorem IH {N:Nat}(hN:1000000≤N)(a1:Int){z ep iY iZ iX:Int}{S A:Int→Int}{i k u:Nat}(hk:i≤k∧k≤1000)(hu:u≤700000){cl:List (Int×jH)}{iM:List (Int×Int)}{iU:List (Int×i8)}{iW:List i8}(h:Pd i S A iY iZ cl iM iU iW iX)(hb:0≤iY∧iY≤16384)(ht:0≤iZ∧iZ≤u){m:j5}(hm:sP m){ag:List Bool}{s:j4}(hs:rW z s){lg:jC}(hl:tE k 40 lg)(hi':Int){iL:List (Option j3)}{iV:Mp Int jA}{out:List i9}(hL:Ld k u iL iV iX out)(mv:Option j8)(a50 a51:Int)(a52:List Int)(node:Int)(hn:0≤node∧node<ag.length){i6:jF}(hmsg:BW i6) :
  Okp (M.qT N a1 z ep iY iZ m ag (some s) (some lg) (some ⟨some cl⟩) hi' iL (some iM) (some iU) iW iV iX mv a50 a51 a52 out [] node i6) (H0 (k+1) i (u+5*k+10) S A z ag.length iY s):=by
 have hlo:=hL.out; have hl0:=hL.l0; have hl1:=hL.l1; have hvs:=hmsg.vers
 have hlen:=h.len
 have hL' : ∀u',u≤u'→Ld (k+1) u' iL iV iX out:=λu' hu'=>hL.mono (Nat.le_succ k) hu'
 have hlg':tE (k+1) 40 lg:=hl.mono (Nat.le_succ k)
 have same : ∀(ag':List Bool) (s':j4) (cl':List (Int×jH)) (mv':Option j8) (a51':Int) (a52':List Int) (loads':Mp Int jA) (boxes':List (Option j3)) (out':List i9),ag'.length=ag.length→(rW z s'∧s.stable≤s'.stable)→Pd i S A iY iZ cl' iM iU iW iX→Ld (k+1) (u+5*k+10) boxes' loads' iX out' →
   H0 (k+1) i (u+5*k+10) S A z ag.length iY s (iZ,m,ag',some s',some lg,some ⟨some cl'⟩,hi',boxes',some iM,some iU,iW,loads',iX,mv',a51',a52',out',[]):=λag' s' cl' mv' a51' a52' loads' boxes' out' e1 e2 e3 e4=>⟨⟨ht.1,by show iZ≤_; omega⟩,hm,e1,⟨s',rfl,e2⟩,⟨lg,rfl,hlg'⟩,⟨S,cl',iM,iU,rfl,rfl,rfl,e3,.inl ⟨rfl,rfl⟩⟩,e4⟩
 have same0:H0 (k+1) i (u+5*k+10) S A z ag.length iY s (iZ,m,ag,some s,some lg,some ⟨some cl⟩,hi',iL,some iM,some iU,iW,iV,iX,mv,a51,a52,out,[]):=same ag s cl mv a51 a52 iV iL out rfl ⟨hs,Int.le_refl _⟩ h (hL' _ (by omega))
 unfold M.qT
 refine .bb (λ_=>.bb (λ_=>.ix hn.1 hn.2 λ_ _=>.ret (same _ s cl mv a51 a52 iV iL out (by simp) ⟨hs,Int.le_refl _⟩ h (hL' _ (by omega)))) λ_=>.ret same0) λ_=>.bb (λ_=>?_) λ_=>.bb (λ_=>?_) λ_=>.bb (λ_=>?_) λ_=>.bb (λ_=>?_) λ_=>.bb (λ_=>?_) λ_=>.bb (λ_=>?_) λ_=>.bb (λ_=>?_) λ_=>.ret same0
 ·
  refine .bind (.ret (.call (HV (by omega) h.co _) λws hws=>.call (NG (by omega) h.co _ _ _) λx ⟨cl',e1,e2,e3,e4⟩=>?_))
  have hxt:x.2.2.2=⟨some cl'⟩:=by cases hx:x.2.2.2; rw [hx] at e1; simp only at e1; rw [e1]
  rcases e4 with ⟨e4,e5⟩ | ⟨e4,e5,e6,e7,e,e8,e9,e10⟩
  ·have hv:Okp (bif x.2.2.1 != 0 then some true else some (!x.2.1)) λv=>v=true:=by
    refine .bb (λ_=>.ret rfl) λh0=>.ret ?_
    cases h1:x.2.1
    ·rfl
    ·exact absurd ⟨by simpa using h0,h1⟩ e4
   refine .call hv λv hv=>?_
   rw [hv]
   refine .bb (λ_=>.ret ?_) λh=>by cases h
   show H0 _ _ _ _ _ _ _ _ _ (iZ,m,ag,some s,some lg,some x.2.2.2,hi',iL,some iM,some iU,iW,iV,iX,mv,a51,a52,out,[])
   rw [hxt]
   exact same ag s cl' mv a51 a52 iV iL out rfl ⟨hs,Int.le_refl _⟩ (h.same e2 e5) (hL' _ (by omega))
  ·rw [e4,e5]
   refine .bind (.ret (.bb (λh=>by cases h) λ_=>?_))
   obtain ⟨id,d1,d2,d3,d4⟩:=h.decide e8 e9 e2 e6 e7
   have hw:ws.length≤32:=hws
   refine (KV N hN a1 z ep iY iZ m ag (some s) hk.2 hl hi' iL (some iM) (some iU) iW iV iX mv a50 a51 a52 (by omega:out.length<900000000) i6 hw x e2 hxt N 0 [] (by omega) (by omega) (by omega) (by simp)).mono λr ⟨o,l',q1,q2,q3⟩=>?_
   rw [q3,hxt]
   have hL2:Ld (k+1) (u+5*k+10) iL iV iX o:=⟨hL.bx.mono (Nat.le_succ k),hL.ld.mono (by omega),hl0,by omega,by omega⟩
   refine ⟨⟨ht.1,by show iZ≤_; omega⟩,hm,rfl,⟨s,rfl,hs,Int.le_refl _⟩,⟨l',rfl,q2⟩,⟨_,cl',iM,iU,rfl,rfl,rfl,d4,.inr ⟨_,rfl,.inr (.inl ⟨rfl,?_,?_,?_⟩)⟩⟩,hL2⟩
   ·show S ((mGet (some iM) i6.Id).getD 0)=2
    rw [show mGet (some iM) i6.Id=some id from d1]; exact d2
   ·show A ((mGet (some iM) i6.Id).getD 0)<x.1
    rw [show mGet (some iM) i6.Id=some id from d1]
    show A id<x.1
    omega
   ·show _=upS S ((mGet (some iM) i6.Id).getD 0) 3
    rw [show mGet (some iM) i6.Id=some id from d1]; rfl
 ·
  refine .bind (.ret (.call (NS (by omega) h.co _ _) λx ⟨cl',e1,e2,e3⟩=>?_))
  have hxt:x.2.2=⟨some cl'⟩:=by cases hx:x.2.2; rw [hx] at e1; simp only at e1; rw [e1]
  rcases e3 with ⟨e3,e4⟩ | ⟨e3,e4,e,e5,e6⟩
  ·rw [e3]
   refine .bb (λh=>by cases h) λ_=>.ret ?_
   show H0 _ _ _ _ _ _ _ _ _ (iZ,m,ag,some s,some lg,some x.2.2,hi',iL,some iM,some iU,iW,iV,iX,mv,a51,a52,out,[])
   rw [hxt]
   exact same ag s cl' mv a51 a52 iV iL out rfl ⟨hs,Int.le_refl _⟩ (h.same e2 e4) (hL' _ (by omega))
  ·rw [e3]
   obtain ⟨id,d1,d2,d3⟩:=h.fin e5 e6
   refine .bb (λ_=>.mg (.ap (by simp) (.ret ?_))) λh=>by cases h
   show H0 _ _ _ _ _ _ _ _ _ (iZ,m,ag,some s,some lg,some x.2.2,hi',iL,some (lDel iM i6.Id),some iU,iW,iV,iX,mv,a51,a52,out,_)
   rw [hxt]
   refine ⟨⟨ht.1,by show iZ≤_; omega⟩,hm,rfl,⟨s,rfl,hs,Int.le_refl _⟩,⟨lg,rfl,hlg'⟩,⟨_,cl',_,iU,rfl,rfl,rfl,e4▸d3,.inr ⟨_,rfl,.inr (.inr ⟨rfl,?_,?_⟩)⟩⟩,hL' _ (by omega)⟩
   ·show S ((mGet (some iM) i6.Id).getD 0)=3
    rw [show mGet (some iM) i6.Id=some id from d1]; exact d2
   ·show _=upS S ((mGet (some iM) i6.Id).getD 0) 4
    rw [show mGet (some iM) i6.Id=some id from d1]; rfl
 ·
  refine .mg ?_
  cases hc:jS iU i6.Id with
  | none=>
   rw [show mGet (some iU) i6.Id=none from hc]
   exact .bb (λ_=>.ret same0) λh=>by cases h
  | some c=>
   rw [show mGet (some iU) i6.Id=some c from hc]
   obtain ⟨d1,d2⟩:=h.seen hc
   have fin : ∀v y1 y2 y3 y4 y5 y6,Okp (M.oB N a1 z ep iY iZ m ag (some s) (some lg) (some ⟨some cl⟩) hi' iL (some iM) (some iU) iW iV iX mv a50 a51 a52 out [] i6 ((some c).getD (i8.mk 0 false ByteArray.empty 0 []),(some c).isSome) v y1 y2 y3 y4 y5 y6) (H0 (k+1) i (u+5*k+10) S A z ag.length iY s):=λv y1 y2 y3 y4 y5 y6=>by
    unfold M.oB
    exact .ap (by simp) (.ret ⟨⟨ht.1,by show iZ≤_; omega⟩,hm,rfl,⟨s,rfl,hs,Int.le_refl _⟩,⟨lg,rfl,hlg'⟩,⟨_,cl,iM,_,rfl,rfl,rfl,d2,.inr ⟨_,rfl,.inl ⟨rfl,d1,rfl⟩⟩⟩,hL' _ (by omega)⟩)
   refine .bb (λh=>by cases h) λ_=>.call (R:=λv=>v=true→i6.Vers.length=1) (.bb (λ_=>.ret (λh=>by have h1:(i6.Vers.length:Int)=1:=eq_of_beq h; omega)) λ_=>.ret (λh=>by cases h)) λv hv=>.bb (λhvt=>.ix (by omega) (by have:=hv hvt; omega) λ_ _=>fin _ _ _ _ _ _ _) λ_=>fin _ _ _ _ _ _ _
 ·
  obtain ⟨ll,rfl,w2,w3,w4⟩:=hL.ld
  refine .mg ?_
  cases hc:jS ll i6.Id with
  | none=>
   rw [show mGet (some ll) i6.Id=none from hc]
   exact .bb (λ_=>.ret same0) λh=>by cases h
  | some c=>
   rw [show mGet (some ll) i6.Id=some c from hc]
   have hcm:=pY hc
   obtain ⟨⟨c0,c4⟩,c5,c6⟩:(0≤c.dc∧c.dc<4)∧c.at_≤1073741824+1000000∧c.keys.length≤200:=w4 _ hcm
   simp only [Option.getD_some,Option.isSome_some]
   refine .bb (λh=>by cases h) λ_=>.bb (λ_=>.mp (.ret ?_)) λ_=>?_
   ·refine same ag s cl mv a51 a52 _ iL out rfl ⟨hs,Int.le_refl _⟩ h ⟨hL.bx.mono (Nat.le_succ k),⟨_,rfl,oK w2 _ _,by rw [uC w2 hc]; omega,λp hp=>?_⟩,hl0,by omega,by omega⟩
    rcases tM hp with rfl|hp
    ·exact ⟨⟨c0,c4⟩,c5,c6⟩
    ·exact w4 p hp
   ·have hb4:=hL.bx.1
    show Okp (Option.bind (Option.bind (idx iL c.dc) _) _) _
    have hdel:Ld (k+1) (u+5*k+10) iL (mDel (some ll) i6.Id) iX out:=⟨hL.bx.mono (Nat.le_succ k),(hL.ld.mono (by omega)).del _,hl0,by omega,by omega⟩
    refine .call (R:=λv=>v=true → ∃b,iL[c.dc.toNat]? = some (some b)) (.ix c0 (by omega) λx hx=>.oc (λ_=>.call (R:=λ_=>True) (.bb (λ_=>.ret trivial) λ_=>.ret trivial) λ_ _=>.ret (λh=>by cases h)) λb hb=>.call (R:=λ_=>True) (.bb (λ_=>.ret trivial) λ_=>.ret trivial) λ_ _=>.ret λ_=>⟨b,by rw [hx,hb]⟩) λv hv=>.bb (λhvt=>?_) λ_=>.ret (same ag s cl mv a51 a52 _ iL out rfl ⟨hs,Int.le_refl _⟩ h hdel)
    obtain ⟨b,hb⟩:=hv hvt
    show Okp (Option.bind (idx iL c.dc) _) _
    refine .ix c0 (by omega) λx hx=>?_
    rw [hb] at hx
    simp only [Option.some.injEq] at hx
    subst hx
    refine .call (N5 (hL.bx.at hb) ⟨by omega,by omega⟩ (by omega) c.at_ c5) λd hd=>.ix c0 (by simp; omega) λy hy=>?_
    rw [List.getElem?_set_self (by omega)] at hy
    simp only [Option.some.injEq] at hy
    subst hy
    simp only [pA,Option.bind_some,M.tO]
    refine .call (N0 (N:=N) (by omega) hs _ _) λs' hs'=>.ret ?_
    refine same ag s' cl mv a51 a52 _ _ out rfl hs' h ⟨(hL.bx.mono (Nat.le_succ k)).set _ λb' e=>?_,hdel.ld,hl0,by omega,by omega⟩
    simp only [Option.some.injEq] at e
    subst e
    exact hd.mono (Nat.le_succ k) (Nat.le_succ k)
 ·
  refine .call (ND a1 mv a50 a51 a52 (by omega) hmsg) λr hr=>.ret ?_
  exact same ag s cl _ _ _ iV iL _ rfl ⟨hs,Int.le_refl _⟩ h ⟨hL.bx.mono (Nat.le_succ k),hL.ld.mono (by omega),hl0,by omega,by omega⟩
 ·
  refine .call (R:=λv=>v.2=true → ∃x,v.1=some x) (.oc (λ_=>.ret (λh=>by cases h)) λx _=>.call (R:=λ_=>True) (.bb (λ_=>.ret trivial) λ_=>.ret trivial) λ_ _=>.ret λ_=>⟨x,rfl⟩) λv hv=>.bb (λhvt=>?_) λ_=>.ret (same ag s cl _ a51 a52 iV iL out rfl ⟨hs,Int.le_refl _⟩ h (hL' _ (by omega)))
  obtain ⟨x,hx⟩:=hv hvt
  rw [hx]
  refine .bind (.ret (.call (LX (by omega) hm _ _ _) λy hy'=>.call (wU (by omega) _ _ _) λo ho=>?_))
  have hy:=hy'.1
  have hL2:Ld (k+1) (u+1) iL iV iX o:=⟨hL.bx.mono (Nat.le_succ k),hL.ld.mono (by omega),hl0,by omega,by omega⟩
  refine (KS N hN a1 z ep hb ag (some s) (some lg) iL (hl:=iW) (by omega) (S:=S) (A:=A) (i:=i) (k:=k+1) (U:=u+5*k+10) (by omega) (by omega) iV a50 a51 a52 y hy N 0 iZ cl hi' iM iU [] iX none o (u+1) (by omega) (by omega) (by omega) (by simpa using h) ⟨ht.1,by omega⟩ hL2 (by simp; omega)).mono λr ⟨r1,r2,r3,r4,r5,⟨cl',calls',reads',q1,q2,q3,q4,q5⟩,r7⟩=>?_
  exact ⟨r1,r2▸hy,by rw [r3],⟨s,r4,hs,Int.le_refl _⟩,⟨lg,r5,hlg'⟩,⟨S,cl',calls',reads',q1,q2,q3,q4,.inl ⟨q5,rfl⟩⟩,r7⟩
 ·
  refine .bind (.ret (.call (N1 (by omega) hs _ _) λs' hs'=>.ret ?_))
  exact same ag s' cl mv a51 a52 iV iL out rfl hs' h (hL' _ (by omega))
end Go.Cf
