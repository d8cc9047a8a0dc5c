/- The gate's iM, first part: mail, what moves, asking, forgetting. -/
import Derived.Test.YtcplebnnanjngaaGreatZGb1
import Derived.Test.YtcplebnnanjngaaGreatZM1
set_option linter.unusedVariables false
namespace Go.Cf
open Go
theorem CR {x:Int} (h0:0≤x) (h1:x<18446744073709551616):IntKind.u64.wrap x=x:=by
 simp only [IntKind.wrap,IntKind.bits,IntKind.signed,Bool.false_and]
 simp only [show (2:Int) ^ 64=18446744073709551616 from rfl]
 rw [if_neg (by decide)]
 omega
theorem B4 {N:Nat} {out:List i9} (ho:out.length<1000000000) (to':Int) (m:jF):Okp (M.lW N out to' m) λo=>o.length=out.length+1:=by
 unfold M.lW
 exact .ap (by simp; omega) (.ret (by simp))
theorem wU {N:Nat} {out:List i9} (ho:out.length<1000000000) (d n:Int) (m:jF):Okp (M.lB N d out n m) λo=>o.length=out.length+1:=by
 unfold M.lB M.pH
 exact .bind (.ret (.call (B4 ho _ m) λo h=>.ret h))
theorem zX {N:Nat} (mv:Option j8) (key:ByteArray):Okp (M.lT N mv key) λr=>r.2=mv:=by
 unfold M.lT
 refine .bind (.oc (λh=>.ret (.ret h.symm)) λb h=>?_)
 exact .call (DN _ _ _) λw _=>.ret (.ret h.symm)
theorem F8 (N:Nat)(mv:Option j8){ws:List jB}(hw:ws.length≤40) : ∀(i2:Nat)(i:Int),0≤i→i≤40→40-i<i2→Okp (M.jZ N i2 ws mv i) λr=>r.2=mv
 | 0,i,g0,g1,g2=>by omega
 | i2+1,i,g0,g1,g2=>by
  unfold M.jZ M.tT
  rw [kF (x:=i+1) (by omega) (by omega)]
  refine .bp (λhi=>.ix g0 hi λx hx=>.bind (.call (zX mv _) λr hr=>.ret (.bb (λ_=>.ret hr) λ_=>?_))) λ_=>.ret rfl
  show Okp (M.jZ N i2 ws r.2 (i+1)) _
  rw [hr]
  exact F8 N mv hw i2 _ (by omega) (by omega) (by omega)
theorem KA {N:Nat} (hN:100≤N) (mv:Option j8) {ws:List jB} (hw:ws.length≤40):Okp (M.kD N ws mv) λr=>r.2=mv:=by
 unfold M.kD M.lR
 exact .call (F8 N mv hw N 0 (by omega) (by omega) (by omega)) λr hr=>.ret hr
def NT (i:Nat) (S A:Int→Int) (iY iZ iX:Int) (mv:Option j8) (n:Nat) (rest:List i8) (r:Int×Option j9×Int×Mp Int Int×Mp Int i8×List i8×Int×Option j8×List i9):Prop:=
 ∃cl iM iU,r.2.1=some ⟨some cl⟩∧r.2.2.2.1=some iM∧r.2.2.2.2.1=some iU∧Pd i S A iY r.1 cl iM iU (r.2.2.2.2.2.1++rest) r.2.2.2.2.2.2.1∧r.2.2.2.2.2.2.2.1=mv ∧
  iZ≤r.1∧r.1≤iZ+1∧iX≤r.2.2.2.2.2.2.1∧r.2.2.2.2.2.2.1≤iX+1∧r.2.2.2.2.2.2.2.2.length≤n+4
theorem KL (N:Nat)(F:Int×Option j9×Int×Mp Int Int×Mp Int i8×List i8×Int×Option j8×List i9→Prop)(a1 a3 a4:Int)(a5:j5)(a14:Int)(a20:Mp Int i8)(a24:List i8)(a28:Int)(a38:i8)(v50:Option j8×Bool){sh:List jJ}(hs:sh.length≤4)(x92:Int×j9)(x100:Mp Int Int)(n:Nat)(hn:n<900000000)
  (hr : ∀out:List i9,out.length≤n+4→F (IntKind.i64.wrap (a4+1),some x92.2,(if a38.at_ > a14 then a38.at_ else a14),x100,a20,a24,a28,v50.1,out)) : ∀(i2:Nat) (i:Int) (out:List i9),0≤i→i≤4→4-i<i2→(out.length:Int)≤n+i→Okp (M.pG N i2 a1 a3 a4 a5 a14 a20 a24 a28 a38 v50 sh x92 x100 out i) F
 | 0,i,out,g0,g1,g2,g3=>by omega
 | i2+1,i,out,g0,g1,g2,g3=>by
  unfold M.pG
  rw [kF (x:=i+1) (by omega) (by omega)]
  refine .bp (λhi=>.ix g0 hi λx hx=>.call (wU (by omega) _ _ _) λo ho=>?_) λ_=>.ret (hr out (by omega))
  exact KL N F a1 a3 a4 a5 a14 a20 a24 a28 a38 v50 hs x92 x100 n hn hr i2 _ o (by omega) (by omega) (by omega) (by omega)
theorem NE {N:Nat}(hN:100≤N){i:Nat}{S A:Int→Int}{iY iZ iX:Int}{cl:List (Int×jH)}{iM:List (Int×Int)}{iU:List (Int×i8)}{iW rest:List i8}{c:i8}(h:Pd i S A iY iZ cl iM iU (iW++c::rest) iX)(hi:i≤1000){m:j5}(hm:sP m)
  (hb:0≤iY∧iY≤16384) (ht:0≤iZ∧iZ≤10000000) (hl:0≤iX∧iX≤10000000) (dc hi':Int) (mv:Option j8) {out:List i9} (ho:out.length<900000000) :
  Okp (M.qH N dc iY iZ m (some ⟨some cl⟩) hi' (some iM) (some iU) iW iX mv out c) (NT i S A iY iZ iX mv out.length rest):=by
 have hlen:=h.len
 have hcw:c.writes.length≤8:=(h.hv c (by simp)).1
 have hwt:=kF (x:=iZ+1) (by omega) (by omega)
 have hk:IntKind.u64.wrap ((IntKind.u64.wrap ((IntKind.u64.wrap iY)*2 ^ 16))+(IntKind.u64.wrap (IntKind.i64.wrap (iZ+1))))=iY*65536+iZ+1:=by
  rw [hwt,CR (x:=iY) (by omega) (by omega),CR (x:=iY*2 ^ 16) (by omega) (by omega),CR (x:=iZ+1) (by omega) (by omega),CR (by omega) (by omega)]
  omega
 have hlu:IntKind.u64.wrap (iX+1)=iX+1:=CR (by omega) (by omega)
 unfold M.qH
 refine .call (R:=λv=>v.1=mv) (.bb (λ_=>.call (zX mv _) λr hr=>.bb (λ_=>.ret hr) λ_=>?_) λ_=>.call (KA hN mv (by omega)) λr hr=>.ret hr) λv hv=>?_
 ·show Okp (Option.bind (M.kD N c.writes r.2) _) _
  rw [hr]
  exact .call (KA hN mv (by omega)) λr hr=>.ret hr
 refine .bb (λ_=>.ap (by simp only [List.length_append,List.length_cons,List.length_nil] at hlen ⊢; omega) (.ret ⟨cl,iM,iU,rfl,rfl,rfl,?_,hv,Int.le_refl _,by show iZ≤iZ+1; omega,Int.le_refl _,by show iX≤iX+1; omega,by show out.length≤_; omega⟩)) λ_=>.bb (λhr=>?_) λhr=>?_
 ·show Pd i S A iY iZ cl iM iU ((iW++[c])++rest) iX
  simpa using h
 ·rw [hlu]
  refine .mp (.call (JG hN hm _) λo _=>.call (wU (by omega) _ _ _) λo ho'=>.ret ⟨cl,iM,_,rfl,rfl,rfl,?_,hv,Int.le_refl _,by show iZ≤iZ+1; omega,by show iX≤iX+1; omega,Int.le_refl _,?_⟩)
  ·exact h.read hr
  ·show o.length≤_; omega
 ·rw [hk]
  refine .call (HW hN hm (by decide:8≤40) hcw) λsh hsh=>.bind (.ret (.call (MU hN cl _ c.at_ hsh) λx hx=>.mp ?_))
  refine KL N _ dc iY iZ m hi' _ _ iX c v hsh.n4 x _ out.length ho (λo ho'=>?_) N 0 out (by omega) (by omega) (by omega) (by omega)
  have hcl : ∃cl',x.2.open_=some cl'∧(cl'=cl ∨ ∃e,cl'=lPut cl (iY*65536+iZ+1) e∧eOk e∧e.low=c.at_∧e.decided=false):=by
   rcases hx with hx | ⟨e,h1,h2⟩
   ·exact ⟨cl,hx,.inl rfl⟩
   ·exact ⟨_,h1,.inr ⟨e,rfl,h2⟩⟩
  obtain ⟨cl',h1,h2⟩:=hcl
  refine ⟨cl',_,iU,?_,rfl,rfl,?_,hv,?_,?_,Int.le_refl _,by show iX≤iX+1; omega,ho'⟩
  ·show some x.2=some ⟨some cl'⟩
   rw [← h1]
  ·show Pd i S A iY (IntKind.i64.wrap (iZ+1)) cl' _ iU (iW++rest) iX
   rw [hwt]
   exact h.commit hr (by omega) cl' h2
  ·show iZ≤IntKind.i64.wrap (iZ+1); omega
  ·show IntKind.i64.wrap (iZ+1)≤iZ+1; omega
end Go.Cf
