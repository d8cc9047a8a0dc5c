/- The gate's iM, seventh part: what the order says, whole. -/
import Derived.Test.YtcplebnnanjngaaGreatZGb7
set_option linter.unusedVariables false
namespace Go.Cf
open Go
variable {i k u:Nat}{S A:Int→Int}{z ep iY iZ iX:Int}{m:j5}{i3:List ByteArray}{i4:List Int}{mo:List Int}{ag:List Bool}{old:List Int}{st:Option j4}{log:Option jC}{co:Option j9}{iL:List (Option j3)}{cu he:List Int}{iM:Mp Int Int}{iU:Mp Int i8}{iW:List i8}{iV:Mp Int jA}{ed:List Int}{out:List i9}
def oQ (i k u:Nat) (S A:Int→Int) (z iX:Int) (r:Int×Int×Int×Int×j5×(List Int)×(List Bool)×(List Int)×Bool×(Option j4)×(Option jC)×(Option j9)×Int×(List (Option j3))×(List Int)×(List Int)×(Mp Int Int)×(Mp Int i8)×(List i8)×(Mp Int jA)×(Option j8)×Int×Int×(List Int)×(List Int)×Int×Bool×Bool×Bool×(List i9)):Prop:=
 Gi i k u S A z r.2.1 r.2.2.1 r.2.2.2.1 r.2.2.2.2.1 r.2.2.2.2.2.1 r.2.2.2.2.2.2.1 r.2.2.2.2.2.2.2.1 r.2.2.2.2.2.2.2.2.2.1 r.2.2.2.2.2.2.2.2.2.2.1 r.2.2.2.2.2.2.2.2.2.2.2.1 r.2.2.2.2.2.2.2.2.2.2.2.2.2.1 r.2.2.2.2.2.2.2.2.2.2.2.2.2.2.1 r.2.2.2.2.2.2.2.2.2.2.2.2.2.2.2.1 r.2.2.2.2.2.2.2.2.2.2.2.2.2.2.2.2.1 r.2.2.2.2.2.2.2.2.2.2.2.2.2.2.2.2.2.1 r.2.2.2.2.2.2.2.2.2.2.2.2.2.2.2.2.2.2.1 r.2.2.2.2.2.2.2.2.2.2.2.2.2.2.2.2.2.2.2.1 iX r.2.2.2.2.2.2.2.2.2.2.2.2.2.2.2.2.2.2.2.2.2.2.2.2.1 r.2.2.2.2.2.2.2.2.2.2.2.2.2.2.2.2.2.2.2.2.2.2.2.2.2.2.2.2.2
theorem Gi.mono (h:Gi i k u S A z ep iY iZ m mo ag old st log co iL cu he iM iU iW iV iX ed out) {k' u':Nat} (hk:k≤k') (hu:u≤u'):Gi i k' u' S A z ep iY iZ m mo ag old st log co iL cu he iM iU iW iV iX ed out:=
 ⟨h.ep,h.ba,⟨h.tx.1,by have:=h.tx.2; omega⟩,h.mp,h.mo,h.ag,h.ol,h.st,(by obtain ⟨l,e,hl⟩:=h.lg; exact ⟨l,e,hl.mono hk⟩),h.pd,h.cu,h.he,h.ld.mono hk hu,h.ed⟩
theorem JI (N:Nat)(dc hi':Int){i6:jF}(hi0:0≤i6.Id∧i6.Id≤16384)(hv:i6.Vec.length=22)(i5:Int)(mv:Option j8)(a56 a57:Int)(a58:List Int)(fl:Int)(fd sd sa:Bool)(h:Gi i k u S A z ep iY iZ ⟨i3,i4⟩ mo ag old st log co iL cu he iM iU iW iV iX ed out) : ∀(i2:Nat)(j:Int)(mo':List Int),mo'.length=21→0≤j→j≤21→21-j<i2 →
  Okp (M.nF N i2 dc z mo hi' i6 i5 iY iZ i3 i4 st log co iL cu he iM iU iW iV mv a56 a57 a58 ed fl fd sd sa ag old out mo' j) (oQ i k u S A z iX)
 | 0,j,mo',g0,g1,g2,g3=>by omega
 | i2+1,j,mo',g0,g1,g2,g3=>by
  have hmo:=h.mo
  unfold M.nF
  rw [kF (x:=j+1) (by omega) (by omega)]
  refine .bp (λhj=>.ix (by omega) (by omega) λ_ _=>.ix g1 (by omega) λ_ _=>?_) λ_=>.ret ⟨?_,h.ba,h.tx,h.mp,g0,h.ag,h.ol,h.st,h.lg,h.pd,h.cu,h.he,h.ld,h.ed⟩
  ·exact JI N dc hi' hi0 hv i5 mv a56 a57 a58 fl fd sd sa h i2 _ _ (by simp [g0]) (by omega) (by omega) (by omega)
  ·show 0≤IntKind.i64.wrap i6.Id∧IntKind.i64.wrap i6.Id≤16384
   rw [kF (by omega) (by omega)]; exact hi0
theorem JJ (N:Nat)(hN:1000≤N){dc:Int}(hd:0≤dc∧dc<4)(hi':Int){i6:jF}(hi0:0≤i6.Id∧i6.Id≤16384)(hv:i6.Vec.length=22)(i5:Int)(mv:Option j8)(a56 a57:Int)(a58:List Int)(fl:Int)(fd sd sa:Bool)(h:Gi i k u S A z ep iY iZ ⟨i3,i4⟩ mo ag old st log co iL cu he iM iU iW iV iX ed out)(hu:u≤700000) : ∀(i2:Nat)(j:Int)(ag':List Bool)(old':List Int)(out':List i9),(ag'.length:Int)=z→(old'.length:Int)=z→(out'.length:Int)≤out.length+j→0≤j→j≤z→z-j<i2 →
  Okp (M.nG N i2 dc z mo hi' i6 i5 iY iZ i3 i4 st log co iL cu he iM iU iW iV mv a56 a57 a58 ed fl fd sd sa ag' old' out' j) (oQ i k (u+4) S A z iX)
 | 0,j,ag',old',out',f1,f2,f3,g1,g2,g3=>by omega
 | i2+1,j,ag',old',out',f1,f2,f3,g1,g2,g3=>by
  have hmo:=h.mo
  have hz:=h.z4
  have ho:=h.ld.out
  unfold M.nG
  rw [kF (x:=j+1) (by omega) (by omega)]
  refine .bp (λhj=>?_) λ_=>?_
  ·rw [MN hd ⟨g1,by omega⟩]
   refine .bind (.ret (.ix (by omega) (by omega) λ_ _=>.ix g1 (by omega) λ_ _=>.ix g1 (by omega) λ_ _=>.ap (by simp; omega) (.call (wU (by omega) _ _ _) λo ho'=>?_)))
   exact JJ N hN hd hi' hi0 hv i5 mv a56 a57 a58 fl fd sd sa h hu i2 _ _ _ _ (by simp [f1]) (by simp [f2]) (by omega) (by omega) (by omega) (by omega)
  ·exact JI N dc hi' hi0 hv i5 mv a56 a57 a58 fl fd sd sa ⟨h.ep,h.ba,⟨h.tx.1,by have:=h.tx.2; omega⟩,h.mp,h.mo,f1,f2,h.st,h.lg,h.pd,h.cu,h.he,⟨h.ld.bx,h.ld.ld.mono (by omega),h.ld.l0,by have:=h.ld.l1; omega,by omega⟩,h.ed⟩ N 0 mo h.mo (by omega) (by omega) (by omega)
theorem z8 (N:Nat)(hN:1000≤N){dc:Int}(hd:0≤dc∧dc<4)(hi':Int)(ow:Bool){i6:jF}(hi0:0≤i6.Id∧i6.Id≤16384)(hv:i6.Vec.length=22)(i5:Int)(mv:Option j8)(a56 a57:Int)(a58:List Int)(fl:Int)(fd sd sa:Bool)(h:Gi i k u S A z ep iY iZ ⟨i3,i4⟩ mo ag old st log co iL cu he iM iU iW iV iX ed out)(hu:u≤700000) :
  Okp (M.kM N dc z mo ag old ow hi' i6 i5 iY iZ i3 i4 st log co iL cu he iM iU iW iV mv a56 a57 a58 ed fl fd sd sa out) (oQ i k (u+4) S A z iX):=by
 have hz:=h.z4
 exact JJ N hN hd hi' hi0 hv i5 mv a56 a57 a58 fl fd sd sa h hu N 0 ag old out h.ag h.ol (by omega) (by omega) (by omega) (by omega)
theorem Pd.of (h:Gi i k u S A z ep iY iZ m mo ag old st log co iL cu he iM iU iW iV iX ed out) : ∀k,S k≠0→0≤k∧k<i:=by
 obtain ⟨_,_,_,_,_,_,hp⟩:=h.pd
 exact hp.rng
theorem JH (N:Nat)(hN:1000≤N){dc:Int}(hd:0≤dc∧dc<4)(hi':Int)(ow:Bool){i6:jF}(hi0:0≤i6.Id∧i6.Id≤16384)(hv:i6.Vec.length=22)(hr : ∀k,S k≠0→0≤k∧k<i){epx:Int}(hep:0≤epx∧epx≤16384)(hmo:mo.length=21)(hag:(ag.length:Int)=z)(hol:(old.length:Int)=z)(hc:cu.length=4)(hh:he.length=4){s:j4}(hs:rW z s)(e453 a56:Int)(hu:u≤699990)(hl:0≤iX∧iX≤u) : ∀(i2:Nat)(j:Int)(out:List i9),0≤j→j≤z→z-j<i2→(out.length:Int)≤u+j →
  Okp (M.nE N i2 dc z mo ag old ow hi' a56 i6 (0,epx,0,⟨[],[]⟩,some ⟨[],[],0⟩,some ⟨some []⟩,List.replicate 4 none,cu,he,some [],some [],[],some [],none,0,[],[],0,false,false,false) (some s,e453) out j) (oQ i k (u+8) S A z iX)
 | 0,j,out,g1,g2,g3,g4=>by omega
 | i2+1,j,out,g1,g2,g3,g4=>by
  have z1:=hs.n1; have z4:=hs.n4
  unfold M.nE
  rw [kF (x:=j+1) (by omega) (by omega)]
  refine .bp (λhj=>.call (wU (by omega) _ _ _) λo ho=>?_) λ_=>?_
  ·exact JH N hN hd hi' ow hi0 hv hr hep hmo hag hol hc hh hs e453 a56 hu hl i2 _ o (by omega) (by omega) (by omega) (by omega)
  ·exact z8 (ep:=0) N hN hd hi' ow hi0 hv 0 none a56 0 [] 0 false false false (Gi.new (i:=i) (k:=k) (u:=u+4) hr (by omega) hep s3 hmo hag hol hs DZ hc hh (by omega) (.inl rfl) (by omega)) (by omega)
theorem LH (N:Nat)(hN:1000≤N){dc:Int}(hd:0≤dc∧dc<4)(hi':Int)(ow:Bool){i6:jF}(hi0:0≤i6.Id∧i6.Id≤16384)(hv:i6.Vec.length=22)(hdc:0≤i6.Cmd.DC∧i6.Cmd.DC<4)(i5:Int)(mv:Option j8)(a56 a57:Int)(a58:List Int)(fl:Int)(fd sd sa:Bool)(h:Gi i k u S A z ep iY iZ m mo ag old st log co iL cu he iM iU iW iV iX ed out)(hu:u≤699000) : ∀(i2:Nat)(j:Int)(bs:List Bool),bs.length=4→0≤j→j≤4→4-j<i2 →
  Okp (M.nH N i2 dc z i5 iY iZ m mo ag old ow st log co hi' iL cu he iM iU iW iV mv a56 a57 a58 ed fl fd sd sa out i6 bs j) (oQ i k (u+20) S A z iX):=by
 have hz:=h.z4
 have i7 : ∀ {r},oQ i k (u+4) S A z iX r→oQ i k (u+20) S A z iX r:=λh=>Gi.mono h (Nat.le_refl _) (by omega)
 have hmono8 : ∀ {r},oQ i k (u+8) S A z iX r→oQ i k (u+20) S A z iX r:=λh=>Gi.mono h (Nat.le_refl _) (by omega)
 have hidw:IntKind.i64.wrap i6.Id=i6.Id:=kF (by omega) (by omega)
 obtain ⟨s,rfl,hs⟩:=h.st
 obtain ⟨lg,rfl,hlg⟩:=h.lg
 obtain ⟨cl,cs,rs,rfl,rfl,rfl,hp⟩:=h.pd
 obtain ⟨ll,rfl,_⟩:=id h.ld.ld
 have hb4:=h.ld.bx.1
 have hcu:=h.cu
 have hmm:sP ⟨m.Cuts,m.Nodes⟩:=h.mp
 have ho:=h.ld.out
 have hll:0≤iX∧iX≤u:=⟨h.ld.l0,h.ld.l1⟩
 intro i2
 induction i2 with
 | zero=>intro j bs g0 g1 g2 g3; omega
 | succ i2 ih=>
  intro j bs g0 g1 g2 g3
  unfold M.nH
  rw [kF (x:=j+1) (by omega) (by omega),hidw]
  refine .bp (λhj=>.ix (by omega) (by omega) λx _=>?_) λ_=>?_
  ·refine .call (R:=λ_=>True) ⟨x / 2 ^ min j.toNat IntKind.u64.bits,by rw [shrV,if_pos g1],trivial⟩ λy _=>.ix g1 (by omega) λ_ _=>?_
   exact ih _ _ (by simp [g0]) (by omega) (by omega) (by omega)
  refine .call (R:=λ_=>True) (by repeat' (first|exact .ret trivial|refine .bb (λ_=>?_) λ_=>?_)) λv _=>.bb (λ_=>?_) λ_=>?_
  ·refine .call (MR hN hd hz i5 i6.Id iY iZ _ (some s) (some lg) (some ⟨some cl⟩) hi' iL h.cu h.he cs rs iW ll mv a57 a58 ed fl fd sd sa (by omega) g0) λr ⟨s',cu',he',o,e1,e2,e3,e4,w,e5,e6⟩=>?_
   subst e5
   exact (z8 (ep:=0) N hN hd hi' ow hi0 hv 1 none a56 0 [] 0 false false false (Gi.new (i:=i) (k:=k) (u:=u+4) (m:=⟨[],[0]⟩) hp.rng (by omega) (by omega:0≤w∧w≤16384) ⟨by decide,by decide⟩ h.mo h.ag h.ol e1 DZ e2 e3 (by omega) (.inl rfl) (by show o.length≤_; omega)) (by omega)).mono λr h=>hmono8 h
  refine .call (R:=λ_=>True) (by repeat' (first|exact .ret trivial|refine .bb (λ_=>?_) λ_=>?_)) λv _=>.bb (λ_=>?_) λ_=>?_
  ·refine .call (LJ hN hz i6.Id hs hlg h.ld.bx h.cu h.he a56 a57 a58 (by omega) hdc) λr ⟨⟨s',e1,e2⟩,⟨l',e3,e4⟩,e5,e6,e7,e8⟩=>?_
   exact (z8 (ep:=ep) (u:=u+4) (i3:=m.Cuts) (i4:=m.Nodes) N hN hd hi' ow hi0 hv i5 mv _ _ _ fl fd sd sa ⟨h.ep,h.ba,⟨h.tx.1,by have:=h.tx.2; omega⟩,hmm,h.mo,h.ag,h.ol,⟨s',e1,e2⟩,⟨l',e3,e4⟩,h.pd,e6,e7,⟨e5,h.ld.ld.mono (by omega),h.ld.l0,by omega,by omega⟩,h.ed⟩ (by omega)).mono λr h=>hmono8 h
  refine .call (R:=λ_=>True) (by repeat' (first|exact .ret trivial|refine .bb (λ_=>?_) λ_=>?_)) λv _=>.bb (λ_=>?_) λ_=>?_
  ·refine .bind (.ret (.call (MZ (N:=N) hs fl) λs' hs'=>?_))
   exact (z8 (ep:=ep) (i3:=m.Cuts) (i4:=m.Nodes) N hN hd hi' ow hi0 hv 2 mv _ _ _ fl fd sd sa ⟨h.ep,h.ba,h.tx,hmm,h.mo,h.ag,h.ol,⟨s',rfl,hs'⟩,h.lg,h.pd,h.cu,h.he,h.ld,h.ed⟩ (by omega)).mono λr h=>i7 h
  have h0:Gi i k u S A z ep iY iZ ⟨m.Cuts,m.Nodes⟩ mo ag old (some s) (some lg) (some ⟨some cl⟩) iL cu he (some cs) (some rs) iW (some ll) iX ed out:=h
  refine .call (R:=λ_=>True) (by repeat' (first|exact .ret trivial|refine .bb (λ_=>?_) λ_=>?_)) λv _=>.bb (λ_=>?_) λ_=>?_
  ·exact (z8 N hN hd hi' ow hi0 hv 3 mv _ _ _ fl fd sd false h0 (by omega)).mono λr h=>i7 h
  refine .call (R:=λ_=>True) (by repeat' (first|exact .ret trivial|refine .bb (λ_=>?_) λ_=>?_)) λv _=>.bb (λ_=>?_) λ_=>?_
  ·refine .call (GN (by omega) i5 i6.Id iY iZ _ (some lg) (some ⟨some cl⟩) iL h.cu h.he (some cs) (some rs) iW (some ll) mv a57 a58 ed fl fd sd sa) λr ⟨cu',he',e1,e2,e3⟩=>?_
   subst e3
   refine .call (MB dc z hd hz g0) λx ⟨_,s',e4,e5⟩=>?_
   obtain ⟨x1,x2⟩:=x
   simp only at e4
   subst e4
   exact (JH (i:=i) (k:=k) (u:=u) N hN hd hi' ow hi0 hv hp.rng hi0 h.mo h.ag h.ol e1 e2 e5 x2 a56 (by omega) hll N 0 out (by omega) (by omega) (by omega) (by omega)).mono λr h=>hmono8 h
  refine .call (R:=λ_=>True) (by repeat' (first|exact .ret trivial|refine .bb (λ_=>?_) λ_=>?_)) λv _=>.bb (λ_=>?_) λ_=>?_
  ·refine .bind (.ret (.call (MC (by omega) hs _ _) λx hx=>.ix hdc.1 (by omega) λ_ _=>.call (R:=λ_=>True) (.ix hdc.1 (by omega) λ_ _=>.ret trivial) λ_ _=>?_))
   exact (z8 (ep:=ep) (i3:=m.Cuts) (i4:=m.Nodes) N hN hd hi' ow hi0 hv i5 mv _ _ _ fl fd sd sa ⟨h.ep,h.ba,h.tx,hmm,h.mo,h.ag,h.ol,⟨x.2,rfl,hx⟩,h.lg,h.pd,by simp [hcu],h.he,⟨h.ld.bx.set _ (λb e=>by cases e),h.ld.ld,h.ld.l0,h.ld.l1,h.ld.out⟩,h.ed⟩ (by omega)).mono λr h=>i7 h
  have put : ∀(mv':Option j8) (m':j5),sP m'→Okp (M.kM N dc z mo ag old ow hi' i6 i5 iY iZ m'.Cuts m'.Nodes (some s) (some lg) (some ⟨some cl⟩) iL cu he (some cs) (some rs) iW (some ll) mv' a56 a57 a58 ed fl fd sd sa out) (oQ i k (u+20) S A z iX):=λmv' m' hm'=>
   (z8 (ep:=ep) (i3:=m'.Cuts) (i4:=m'.Nodes) N hN hd hi' ow hi0 hv i5 mv' _ _ _ fl fd sd sa ⟨h.ep,h.ba,h.tx,hm',h.mo,h.ag,h.ol,h.st,h.lg,h.pd,h.cu,h.he,h.ld,h.ed⟩ (by omega)).mono λr h=>i7 h
  have turn : ∀(a b:j5) (e:Int),sP a→sP b→Okp (M.rR N a b e) sP:=λa b e ha hb=>by
   unfold M.rR
   exact .bb (λ_=>.ret hb) λ_=>.ret ha
  refine .call (R:=λ_=>True) (.oc (λ_=>.call (R:=λ_=>True) (by repeat' (first|exact .ret trivial|refine .bb (λ_=>?_) λ_=>?_)) λ_ _=>.ret trivial) λ_ _=>.call (R:=λ_=>True) (by repeat' (first|exact .ret trivial|refine .bb (λ_=>?_) λ_=>?_)) λ_ _=>.ret trivial) λv _=>.bb (λ_=>?_) λ_=>?_
  ·exact .call (MH (by omega) hmm z _ _) λx hx=>.call (turn _ _ _ hmm hx) λy hy=>put _ _ hy
  refine .call (R:=λ_=>True) (.oc (λ_=>.call (R:=λ_=>True) (by repeat' (first|exact .ret trivial|refine .bb (λ_=>?_) λ_=>?_)) λ_ _=>.ret trivial) λ_ _=>.call (R:=λ_=>True) (by repeat' (first|exact .ret trivial|refine .bb (λ_=>?_) λ_=>?_)) λ_ _=>.ret trivial) λv _=>.bb (λ_=>?_) λ_=>?_
  ·exact .call (MI (by omega) hmm z _) λx hx=>.call (turn _ _ _ hmm hx) λy hy=>put _ _ hy
  refine .call (R:=λ_=>True) (.oc (λ_=>.call (R:=λ_=>True) (by repeat' (first|exact .ret trivial|refine .bb (λ_=>?_) λ_=>?_)) λ_ _=>.ret trivial) λ_ _=>.call (R:=λ_=>True) (by repeat' (first|exact .ret trivial|refine .bb (λ_=>?_) λ_=>?_)) λ_ _=>.ret trivial) λv _=>.bb (λ_=>?_) λ_=>put _ _ hmm
  refine .call (R:=λe=>e=0→m.Nodes.length=m.Cuts.length+1) (.call (LX (by omega) hmm z _ _) λx hx=>.ret hx.2) λe he=>.bb (λh0=>?_) λ_=>put _ _ hmm
  exact .call (R:=λ_=>True) (.call (pAt (by omega) hmm (he (by simpa using h0)) _) λx _=>.ret trivial) λv _=>put _ _ hmm
theorem JZ {N:Nat}(hN:1000≤N){dc:Int}(hd:0≤dc∧dc<4)(hi':Int)(ow:Bool){i6:jF}(hm:BW i6)(i5:Int)(mv:Option j8)(a56 a57:Int)(a58:List Int)(fl:Int)(fd sd sa:Bool)(h:Gi i k u S A z ep iY iZ m mo ag old st log co iL cu he iM iU iW iV iX ed out)(hu:u≤699000) :
  Okp (M.rC N dc z i5 ep iY iZ m mo ag old ow st log co hi' iL cu he iM iU iW iV mv a56 a57 a58 ed fl fd sd sa out i6) λr=>oQ i k (u+20) S A z iX r∧(i6.Kind≠21→r.2.2.2.2.2.2.2.2.2.1=st):=by
 unfold M.rC
 have h0:Gi i k u S A z ep iY iZ ⟨m.Cuts,m.Nodes⟩ mo ag old st log co iL cu he iM iU iW iV iX ed out:=h
 refine .call (R:=λ_=>True) (by repeat' (first|exact .ret trivial|refine .bb (λ_=>?_) λ_=>?_)) λv _=>.bb (λ_=>.ret ⟨Gi.mono h0 (Nat.le_refl _) (by omega),λ_=>rfl⟩) λ_=>?_
 refine .call (R:=λv=>v=false→i6.Kind=21∧i6.Id≤16384∧i6.Vec.length=22∧0≤i6.Cmd.DC∧i6.Cmd.DC<4) (.bb (λ_=>.ret (λh=>by cases h)) λh1=>.bp (λ_=>.ret (λh=>by cases h)) λh2=>.bp (λ_=>.ret (λh=>by cases h)) λh3=>.bb (λ_=>.ret (λh=>by cases h)) λh4=>.bp (λ_=>.ret (λh=>by cases h)) λh5=>.ret λh6=>⟨by simpa using h1,by omega,(by have h7:(i6.Vec.length:Int)=22:=(by simpa using h4); omega),by omega,by have:=of_decide_eq_false h6; omega⟩) λv hv=>.bb (λ_=>.ret ⟨Gi.mono h0 (Nat.le_refl _) (by omega),λ_=>rfl⟩) λhf=>?_
 obtain ⟨h1,h2,h3,h4,h5⟩:=hv hf
 exact (LH N hN hd hi' ow ⟨hm.id0,h2⟩ h3 ⟨h4,h5⟩ i5 mv a56 a57 a58 fl fd sd sa h hu N 0 _ rfl (by omega) (by omega) (by omega)).mono λr hr=>⟨hr,λhk=>absurd h1 hk⟩
end Go.Cf
