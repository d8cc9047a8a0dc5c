/- The gate's iN, first part: mail, what moves, asking, forgetting. -/
import Derived.Test.YtcplebnnanjngaaGreatZGb1
import Derived.Test.YtcplebnnanjngaaGreatZM1
namespace Go.Cf
open Go
theorem C7 {x:Int} (h0:0≤x) (h1:x<18446744073709551616):IntKind.u64.wrap x=x:=by
 simp only [IntKind.wrap,IntKind.bits,IntKind.signed,Bool.false_and]
 simp only [show (2:Int) ^ 64=18446744073709551616 from rfl]
 rw [if_neg (by decide)]
 omega
theorem AL {N:Nat} {out:List i9} (ho:out.length<1000000000) (to':Int) (m:jK):Okp (M.lV N out to' m) λo=>o.length=out.length+1:=by
 unfold M.lV
 exact .ap (by simp; omega) (.ret (by simp))
theorem wK {N:Nat} {out:List i9} (ho:out.length<1000000000) (d n:Int) (m:jK):Okp (M.lA N d out n m) λo=>o.length=out.length+1:=by
 unfold M.lA M.oY
 exact .bind (.ret (.call (AL ho _ m) λo h => .ret h))
theorem zG {N:Nat} (mv:Option j8) (key:ByteArray):Okp (M.lT N mv key) λr=>r.2=mv:=by
 unfold M.lT
 refine .bind (.oc (λh => .ret (.ret h.symm)) λb h=>?_)
 exact .call (CW _ _ _) λw _ => .ret (.ret h.symm)
theorem EE (N:Nat)(mv:Option j8){ws:List jC}(hw:ws.length≤40) : ∀(i3:Nat)(i:Int),0≤i→i≤40→40-i<i3→Okp (M.jZ N i3 ws mv i) λr=>r.2=mv
 | 0,i,g0,g1,g2=>by omega
 | i3+1,i,g0,g1,g2=>by
  unfold M.jZ M.tL
  rw [kF (x:=i+1) (by omega) (by omega)]
  refine .bp (λhi => .ix g0 hi λx hx => .bind (.call (zG mv _) λr hr => .ret (.bb (λ_ => .ret hr) λ_=>?_))) λ_ => .ret rfl
  show Okp (M.jZ N i3 ws r.2 (i+1)) _
  rw [hr]
  exact EE N mv hw i3 _ (by omega) (by omega) (by omega)
theorem J4 {N:Nat} (hN:100≤N) (mv:Option j8) {ws:List jC} (hw:ws.length≤40):Okp (M.kD N ws mv) λr=>r.2=mv:=by
 unfold M.kD M.lR
 exact .call (EE N mv hw N 0 (by omega) (by omega) (by omega)) λr hr => .ret hr
def MM (i:Nat) (S A:Int→Int) (iZ i2 iY:Int) (mv:Option j8) (n:Nat) (rest:List j3) (r:Int×Option j9×Int×Mp Int Int×Mp Int j3×List j3×Int×Option j8×List i9):Prop:=
 ∃cl iN iV,r.2.1=some ⟨some cl⟩∧r.2.2.2.1=some iN∧r.2.2.2.2.1=some iV∧Pd i S A iZ r.1 cl iN iV (r.2.2.2.2.2.1++rest) r.2.2.2.2.2.2.1∧r.2.2.2.2.2.2.2.1=mv ∧
  i2≤r.1∧r.1≤i2+1∧iY≤r.2.2.2.2.2.2.1∧r.2.2.2.2.2.2.1≤iY+1∧r.2.2.2.2.2.2.2.2.length≤n+4
theorem JE (N:Nat)(F:Int×Option j9×Int×Mp Int Int×Mp Int j3×List j3×Int×Option j8×List i9→Prop)(a1 a3 a4:Int)(a5:jA)(a14:Int)(a20:Mp Int j3)(a24:List j3)(a28:Int)(a38:j3)(v50:Option j8×Bool){sh:List jJ}(hs:sh.length≤4)(x92:Int×j9)(x100:Mp Int Int)(n:Nat)(hn:n<900000000)
  (hr : ∀out:List i9,out.length≤n+4→F (IntKind.i64.wrap (a4+1),some x92.2,(if a38.at_ > a14 then a38.at_ else a14),x100,a20,a24,a28,v50.1,out)) : ∀(i3:Nat) (i:Int) (out:List i9),0≤i→i≤4→4-i<i3→(out.length:Int)≤n+i→Okp (M.oX N i3 a1 a3 a4 a5 a14 a20 a24 a28 a38 v50 sh x92 x100 out i) F
 | 0,i,out,g0,g1,g2,g3=>by omega
 | i3+1,i,out,g0,g1,g2,g3=>by
  unfold M.oX
  rw [kF (x:=i+1) (by omega) (by omega)]
  refine .bp (λhi => .ix g0 hi λx hx => .call (wK (by omega) _ _ _) λo ho=>?_) λ_ => .ret (hr out (by omega))
  exact JE N F a1 a3 a4 a5 a14 a20 a24 a28 a38 v50 hs x92 x100 n hn hr i3 _ o (by omega) (by omega) (by omega) (by omega)
theorem M8 {N:Nat}(hN:100≤N){i:Nat}{S A:Int→Int}{iZ i2 iY:Int}{cl:List (Int×jH)}{iN:List (Int×Int)}{iV:List (Int×j3)}{iX rest:List j3}{c:j3}(h:Pd i S A iZ i2 cl iN iV (iX++c::rest) iY)(hi:i≤1000){m:jA}(hm:sJ m)
  (hb:0≤iZ∧iZ≤16384) (ht:0≤i2∧i2≤10000000) (hl:0≤iY∧iY≤10000000) (dc hi':Int) (mv:Option j8) {out:List i9} (ho:out.length<900000000) :
  Okp (M.q9 N dc iZ i2 m (some ⟨some cl⟩) hi' (some iN) (some iV) iX iY mv out c) (MM i S A iZ i2 iY mv out.length rest):=by
 have hlen:=h.len
 have hcw:c.writes.length≤8:=(h.hv c (by simp)).1
 have hwt:=kF (x:=i2+1) (by omega) (by omega)
 have hk:IntKind.u64.wrap ((IntKind.u64.wrap ((IntKind.u64.wrap iZ)*2 ^ 16))+(IntKind.u64.wrap (IntKind.i64.wrap (i2+1))))=iZ*65536+i2+1:=by
  rw [hwt,C7 (x:=iZ) (by omega) (by omega),C7 (x:=iZ*2 ^ 16) (by omega) (by omega),C7 (x:=i2+1) (by omega) (by omega),C7 (by omega) (by omega)]
  omega
 have hlu:IntKind.u64.wrap (iY+1)=iY+1:=C7 (by omega) (by omega)
 unfold M.q9
 refine .call (R:=λv=>v.1=mv) (.bb (λ_ => .call (zG mv _) λr hr => .bb (λ_ => .ret hr) λ_=>?_) λ_ => .call (J4 hN mv (by omega)) λr hr => .ret hr) λv hv=>?_
 ·show Okp (Option.bind (M.kD N c.writes r.2) _) _
  rw [hr]
  exact .call (J4 hN mv (by omega)) λr hr => .ret hr
 refine .bb (λ_ => .ap (by simp only [List.length_append,List.length_cons,List.length_nil] at hlen ⊢; omega) (.ret ⟨cl,iN,iV,rfl,rfl,rfl,?_,hv,Int.le_refl _,by show i2≤i2+1; omega,Int.le_refl _,by show iY≤iY+1; omega,by show out.length≤_; omega⟩)) λ_ => .bb (λhr=>?_) λhr=>?_
 ·show Pd i S A iZ i2 cl iN iV ((iX++[c])++rest) iY
  simpa using h
 ·rw [hlu]
  refine .mp (.call (II hN hm _) λo _ => .call (wK (by omega) _ _ _) λo ho' => .ret ⟨cl,iN,_,rfl,rfl,rfl,?_,hv,Int.le_refl _,by show i2≤i2+1; omega,by show iY≤iY+1; omega,Int.le_refl _,?_⟩)
  ·exact h.read hr
  ·show o.length≤_; omega
 ·rw [hk]
  refine .call (H4 hN hm (by decide:8≤40) hcw) λsh hsh => .bind (.ret (.call (LM hN cl _ c.at_ hsh) λx hx => .mp ?_))
  refine JE N _ dc iZ i2 m hi' _ _ iY c v hsh.n4 x _ out.length ho (λo ho'=>?_) N 0 out (by omega) (by omega) (by omega) (by omega)
  have hcl : ∃cl',x.2.open_=some cl'∧(cl'=cl ∨ ∃e,cl'=lPut cl (iZ*65536+i2+1) e∧eOk e∧e.low=c.at_∧e.decided=false):=by
   rcases hx with hx | ⟨e,h1,h2⟩
   ·exact ⟨cl,hx,.inl rfl⟩
   ·exact ⟨_,h1,.inr ⟨e,rfl,h2⟩⟩
  obtain ⟨cl',h1,h2⟩:=hcl
  refine ⟨cl',_,iV,?_,rfl,rfl,?_,hv,?_,?_,Int.le_refl _,by show iY≤iY+1; omega,ho'⟩
  ·show some x.2=some ⟨some cl'⟩
   rw [← h1]
  ·show Pd i S A iZ (IntKind.i64.wrap (i2+1)) cl' _ iV (iX++rest) iY
   rw [hwt]
   exact h.commit hr (by omega) cl' h2
  ·show i2≤IntKind.i64.wrap (i2+1); omega
  ·show IntKind.i64.wrap (i2+1)≤i2+1; omega
end Go.Cf
