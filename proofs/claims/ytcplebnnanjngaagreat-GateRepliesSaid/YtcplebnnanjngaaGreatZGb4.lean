/- The gate's iM, third part: shipping, loading of what came, moving, learning, work. -/
import Derived.Test.YtcplebnnanjngaaGreatZGb3
set_option linter.unusedVariables false
namespace Go.Cf
open Go
abbrev shB (N:Nat) (d:Int):(List i9×Nat)→Int→kC→Option ((List i9×Nat)×Bool):=
 λv180 x125 x126=>bif (v180.2==0) then (Option.bind (M.pH N d (-1)) λx185=>(Option.bind (M.lW N v180.1 x185 (jF.mk 18 (IntKind.u64.wrap x125) (IntKind.u64.wrap x126.Tx) x126.TS ByteArray.empty ByteArray.empty x126.Vers ([]:List Int) (jU.mk 0 0 0 0 0 ByteArray.empty))) λx186=>(some (((x186,0)),true)))) else none
theorem HR (N:Nat)(d:Int){k:Nat}{l:jC}(hl:tE k 40 l)(hk:k≤1000)(a:Int) : ∀(i2:Nat)(i:Int)(v:List i9×Nat),v.2=0→0≤i→l.list.length-i<i2→0<i2→v.1.length+(l.list.length-i.toNat)<100000000→Okp (M.nT N (shB N d) i2 l a i v) λr=>r.2=0∧r.1.length≤v.1.length+(l.list.length-i.toNat)
 | 0,i,v,g0,g1,g2,g3,g4=>by omega
 | i2+1,i,v,g0,g1,g2,g3,g4=>by
  have hlen:=hl.len
  unfold M.nT
  refine .bp (λhi=>.ix g1 hi λx hx=>?_) λ_=>.ret ⟨g0,by omega⟩
  have hxv:=hl.vl x (List.mem_of_getElem? hx)
  refine .call (HF (by omega:x.Vers.length<1000000)) λy hy=>?_
  unfold shB M.pH
  rw [g0]
  refine .bind (.bb (λ_=>.bind (.ret (.call (B4 (by omega) _ _) λo ho=>.ret ?_))) λh=>by cases h)
  rw [kF (x:=i+1) (by omega) (by omega)]
  refine .bb (λh=>by cases h) λ_=>(HR N d hl hk a i2 (i+1) (o,0) rfl (by omega) (by omega) (by omega) (by show o.length+_<_; omega)).mono λr hr=>⟨hr.1,?_⟩
  have:=hr.2
  simp only at this
  omega
theorem DI (N:Nat)(hN:10000≤N)(a9:List Int)(h9:a9.length=4)(s:j4){k:Nat}(hk:k≤1000) : ∀(i2:Nat)(i:Int)(l:jC)(cu:List Int)(out:List i9),0≤i→i≤4→4-i<i2→tE k 40 l→cu.length=4→out.length+k*(4-i.toNat)<100000000 →
  Okp (M.mY N i2 a9 s l cu out i) λr=>r.1=some s∧(∃l',r.2.1=some l'∧tE k 40 l')∧r.2.2.1.length=4∧r.2.2.2.length≤out.length+k*(4-i.toNat)
 | 0,i,l,cu,out,g0,g1,g2,g3,g4,g5=>by omega
 | i2+1,i,l,cu,out,g0,g1,g2,g3,g4,g5=>by
  have hlen:=g3.len
  unfold M.mY M.rB M.uA M.tC M.oT
  rw [kF (x:=i+1) (by omega) (by omega)]
  refine .bp (λhi=>.ix g0 (by omega) λx hx=>.bp (λ_=>?_) λhx0=>.bind (.ret ?_)) λ_=>.ret ⟨rfl,⟨l,rfl,g3⟩,g4,by show out.length≤_; omega⟩
  ·have e:k*(4-i.toNat)=k*(4-(i+1).toNat)+k:=by rw [show 4-i.toNat=(4-(i+1).toNat)+1 from by omega,Nat.mul_add,Nat.mul_one]
   exact (DI N hN a9 h9 s hk i2 _ l cu out (by omega) (by omega) (by omega) g3 g4 (by omega)).mono λr ⟨r1,r2,r3,r4⟩=>⟨r1,r2,r3,by omega⟩
  ·have e:k*(4-i.toNat)=k*(4-(i+1).toNat)+k:=by rw [show 4-i.toNat=(4-(i+1).toNat)+1 from by omega,Nat.mul_add,Nat.mul_one]
   refine .call (HR N i g3 hk x N _ (out,0) rfl (by split<;>omega) (by split<;>omega) (by omega) (by show out.length+_<_; omega)) λv hv=>.bb (λ_=>.bind (.ret (.ix g0 (by omega) λ_ _=>?_))) λh=>?_
   ·have hv2:=hv.2
    simp only at hv2
    exact (DI N hN a9 h9 s hk i2 _ l _ v.1 (by omega) (by omega) (by omega) g3 (by simp [g4]) (by omega)).mono λr ⟨r1,r2,r3,r4⟩=>⟨r1,r2,r3,by omega⟩
   ·rw [hv.1] at h; cases h
theorem N9 {N:Nat}(hN:10000≤N){z:Int}{s:j4}(hs:rW z s){k:Nat}(hk:k≤1000){l:jC}(hl:tE k 40 l){cu:List Int}(hc:cu.length=4){out:List i9}(ho:out.length<90000000) :
  Okp (M.sY N (some s) (some l) cu out) λr=>r.1=some s∧(∃l',r.2.1=some l'∧tE k 40 l')∧r.2.2.1.length=4∧r.2.2.2.length≤out.length+k*4:=by
 unfold M.sY
 exact .bind (.ret (.bind (.ret (.call (J7 (by omega) hs) λt _=>.call (JV hl (by omega) (by omega) t) λq hq=>DI N hN cu hc s hk N 0 q.2 cu out (by omega) (by omega) (by omega) hq hc (by show out.length+k*4<_; omega)))))
def ldQ (k u:Nat) (mv:Option j8) (iX:Int) (r:Int×List (Option j3)×Mp Int jA×Int×Option j8×List i9):Prop:=
 Ld k u r.2.1 r.2.2.1 r.2.2.2.1 r.2.2.2.2.2∧r.2.2.2.2.1=mv∧iX≤r.2.2.2.1
abbrev KY:=Int→j5→Int→List (Option j3)→Mp Int jA→Int→Option j8→List i9→Int→Option (Int×List (Option j3)×Mp Int jA×Int×Option j8×List i9)
theorem HH (N:Nat)(F:Int×List (Option j3)×Mp Int jA×Int×Option j8×List i9→Prop)(rec1:KY)(rec3:Int→j5→Int→Int→List (Option j3)→Mp Int jA→Int→Option j8→List i9→Option (Int×List (Option j3)×Mp Int jA×Int×Option j8×List i9))(a1:Int)(m:j5)(hm:sP m)(hN:10000≤N){k u:Nat}(hk:k≤1000)(hu:u≤900000)(y:Int)(hy:0≤y∧y<4)(hi0:Int){iL:List (Option j3)}{iV:Mp Int jA}{iX:Int}{out:List i9}(h:Ld k u iL iV iX out)(v:Int×Int×Int×List jB×Bool)(hv:v.2.2.2.1.length≤40)(mv:Option j8){b:j3}(hb:iL[y.toNat]? = some (some b))(hh:b.handed<b.list.length)
  (h1:Okp (rec1 a1 m hi0 iL iV iX mv out (y+1)) F)
  (h3 : ∀(hi':Int) (b':j3) (loads':Mp Int jA) (out':List i9),Ld k (u+4) (iL.set y.toNat (some b')) loads' (iX+1) out'→b'.list=b.list→b'.handed=b.handed+1→Okp (rec3 a1 m y hi' (iL.set y.toNat (some b')) loads' (iX+1) mv out') F) :
  ∀(i2:Nat) (i:Int),0≤i→i≤40→40-i<i2→Okp (M.oU N rec1 rec3 i2 a1 m y hi0 iL iV iX out v mv i) F
 | 0,i,g0,g1,g2=>by omega
 | i2+1,i,g0,g1,g2=>by
  have hb4:=h.bx.1
  unfold M.oU M.pT
  rw [kF (x:=i+1) (by omega) (by omega),kF (x:=y+1) (by omega) (by omega)]
  refine .bp (λhi=>.ix g0 hi λx hx=>.call (zX mv _) λr hr=>?_) λ_=>.ix hy.1 (by omega) λx hx=>?_
  ·rw [hr]
   exact .bb (λ_=>h1) λ_=>HH N F rec1 rec3 a1 m hm hN hk hu y hy hi0 h v hv mv hb hh h1 h3 i2 _ (by omega) (by omega) (by omega)
  ·rw [hb] at hx
   simp only [Option.some.injEq] at hx
   subst hx
   refine .call (N4 (h.bx.at hb) (by omega) (by omega)) λnx hnx=>.call (HW (by omega) hm (Nat.le_refl 40) hv) λsh hsh=>?_
   have hat:nx.1≤1073741824+1000000:=by
    have:=hnx.2.2
    exact this
   refine .call (F5 (by omega) h (by omega) a1 (l:=⟨y,nx.1,0,[]⟩) hy hat hsh) λr hr=>?_
   obtain ⟨hl1,hl2⟩:=hnx.2.1 hh
   have hL:Ld k (u+4) (iL.set y.toNat (some nx.2.2.2)) r.1 (iX+1) r.2.2:=by
    refine ⟨h.bx.set _ λb' e=>?_,hr.1.ld,?_,?_,hr.1.out⟩
    ·simp only [Option.some.injEq] at e; subst e; exact hnx.1
    ·have:=hr.1.l0; have:=hr.2; omega
    ·have:=hr.1.l1; have:=hr.2; omega
   rw [hr.2]
   exact h3 _ nx.2.2.2 _ _ hL hl1 hl2
theorem HI (N:Nat)(hN:10000≤N)(rec1:KY)(a1:Int)(m:j5)(hm:sP m){k:Nat}(hk:k≤1000)(y:Int)(hy:0≤y∧y<4)(mv:Option j8)(last0:Int)(U:Nat)(hU:U≤900000)(F:Int×List (Option j3)×Mp Int jA×Int×Option j8×List i9→Prop)
  (h1 : ∀hi' iL iV iX out,Ld k U iL iV iX out→last0≤iX→Okp (rec1 a1 m hi' iL iV iX mv out (y+1)) F) :
  ∀(i2:Nat) (u rem:Nat) (hi':Int) (iL:List (Option j3)) (iV:Mp Int jA) (iX:Int) (out:List i9),Ld k u iL iV iX out→last0≤iX→(∀b,iL[y.toNat]? = some (some b)→b.list.length-b.handed≤rem)→u+4*rem≤U→rem<i2 →
   Okp (M.nZ N rec1 i2 a1 m y hi' iL iV iX mv out) F
 | 0,u,rem,hi',iL,iV,iX,out,g0,g1,g2,g3,g4=>by omega
 | i2+1,u,rem,hi',iL,iV,iX,out,g0,g1,g2,g3,g4=>by
  have hb4:=g0.bx.1
  unfold M.nZ M.pT
  rw [kF (x:=y+1) (by omega) (by omega)]
  refine .call (R:=λv=>v.2.2.2.1.length≤40∧(v.2.2.2.2=true → ∃b,iL[y.toNat]? = some (some b)∧b.handed<b.list.length)) (.ix hy.1 (by omega) λx hx=>.oc (λ_=>?_) λb hb=>?_) λv hv=>.bb (λ_=>h1 _ _ _ _ _ (g0.mono (Nat.le_refl _) (by omega)) g1) λhvt=>?_
  ·unfold M.rI
   exact .bind (.ret (.ret ⟨Nat.zero_le _,λh=>by cases h⟩))
  ·subst hb
   exact .call (LY (g0.bx.at hx) (by decide)) λp hp=>.ret ⟨hp.1,λht=>⟨b,hx,hp.2.1 ht⟩⟩
  ·obtain ⟨b,hb,hh⟩:=hv.2 (by simpa using hvt)
   have hrem:=g2 b hb
   refine HH N F rec1 _ a1 m hm hN hk (by omega) y hy hi' g0 v hv.1 mv hb hh (h1 _ _ _ _ _ (g0.mono (Nat.le_refl _) (by omega)) g1) (λhi'' b' loads' out' hL e1 e2=>?_) N 0 (by omega) (by omega) (by omega)
   refine HI N hN rec1 a1 m hm hk y hy mv last0 U hU F h1 i2 (u+4) (rem-1) hi'' _ _ _ _ hL (by omega) (λc hc=>?_) (by omega) (by omega)
   rw [List.getElem?_set_self (by omega)] at hc
   simp only [Option.some.injEq] at hc
   subst hc
   rw [e1,e2]; omega
theorem HJ (N:Nat)(hN:10000≤N)(a1:Int)(m:j5)(hm:sP m){k:Nat}(hk:k≤1000)(mv:Option j8)(last0:Int)(U:Nat)(hU:U≤900000) : ∀(i2:Nat)(y:Int)(u:Nat)(hi':Int)(iL:List (Option j3))(iV:Mp Int jA)(iX:Int)(out:List i9),0≤y→y≤4→4-y<i2→Ld k u iL iV iX out→last0≤iX→u+4*k*(4-y.toNat)≤U →
  Okp (M.lX N i2 a1 m hi' iL iV iX mv out y) (ldQ k U mv last0)
 | 0,y,u,hi',iL,iV,iX,out,g0,g1,g2,g3,g4,g5=>by omega
 | i2+1,y,u,hi',iL,iV,iX,out,g0,g1,g2,g3,g4,g5=>by
  have hb4:=g3.bx.1
  unfold M.lX
  refine .bp (λhi=>.ix g0 (by omega) λ_ _=>?_) λ_=>.ret ⟨g3.mono (Nat.le_refl _) (by omega),rfl,g4⟩
  have e:4*k*(4-y.toNat)=4*k*(4-(y+1).toNat)+4*k:=by
   rw [show 4-y.toNat=(4-(y+1).toNat)+1 from by omega,Nat.mul_add,Nat.mul_one]
  refine HI N hN _ a1 m hm hk y ⟨g0,hi⟩ mv last0 (u+4*k) (by omega) _ (λhi'' boxes' loads' last' out' hL hl=>?_) N u k hi' iL iV iX out g3 g4 (λb hb=>?_) (Nat.le_refl _) (by omega)
  ·exact HJ N hN a1 m hm hk mv last0 U hU i2 (y+1) (u+4*k) hi'' boxes' loads' last' out' (by omega) (by omega) (by omega) hL hl (by omega)
  ·have h1:=(g3.bx.at hb).l
   have h2:=(g3.bx.at hb).h0
   omega
theorem NA {N:Nat}(hN:10000≤N)(a1:Int){m:j5}(hm:sP m){k:Nat}(hk:k≤1000)(mv:Option j8){u:Nat}(hu:u≤800000)(hi':Int){iL:List (Option j3)}{iV:Mp Int jA}{iX:Int}{out:List i9}(h:Ld k u iL iV iX out) :
  Okp (M.uD N a1 m hi' iL iV iX mv out) (ldQ k (u+16*k) mv iX):=
 HJ N hN a1 m hm hk mv iX (u+16*k) (by omega) N 0 u hi' iL iV iX out (by omega) (by omega) (by omega) h (Int.le_refl _) (by simp; omega)
end Go.Cf
