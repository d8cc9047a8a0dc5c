/- The gate's iM, eighth part: Take and Hear. -/
import Derived.Test.YtcplebnnanjngaaGreatZGb8
import Derived.Test.YtcplebnnanjngaaGreatZM1
set_option linter.unusedVariables false
namespace Go.Cf
open Go
variable {i k u:Nat}{S A:Int→Int}{z ep iY iZ iX:Int}{m:j5}{i3:List ByteArray}{i4:List Int}{mo:List Int}{ag:List Bool}{old:List Int}{st:Option j4}{log:Option jC}{co:Option j9}{iL:List (Option j3)}{cu he:List Int}{iM:Mp Int Int}{iU:Mp Int i8}{iW:List i8}{iV:Mp Int jA}{ed:List Int}{out:List i9}
abbrev TkT:=Int×Int×Int×Int×j5×(List Int)×(List Bool)×(List Int)×Bool×(Option j4)×(Option jC)×(Option j9)×Int×(List (Option j3))×(List Int)×(List Int)×(Mp Int Int)×(Mp Int i8)×(List i8)×(Mp Int jA)×Int×(Option j8)×Int×Int×(List Int)×(List Int)×Int×Bool×Bool×Bool×(List i9)×(List jL)
def TkG (i k u:Nat) (S A:Int→Int) (z:Int) (r:TkT):Prop:=Gi i k u S A z r.2.1 r.2.2.1 r.2.2.2.1 r.2.2.2.2.1 r.2.2.2.2.2.1 r.2.2.2.2.2.2.1 r.2.2.2.2.2.2.2.1 r.2.2.2.2.2.2.2.2.2.1 r.2.2.2.2.2.2.2.2.2.2.1 r.2.2.2.2.2.2.2.2.2.2.2.1 r.2.2.2.2.2.2.2.2.2.2.2.2.2.1 r.2.2.2.2.2.2.2.2.2.2.2.2.2.2.1 r.2.2.2.2.2.2.2.2.2.2.2.2.2.2.2.1 r.2.2.2.2.2.2.2.2.2.2.2.2.2.2.2.2.1 r.2.2.2.2.2.2.2.2.2.2.2.2.2.2.2.2.2.1 r.2.2.2.2.2.2.2.2.2.2.2.2.2.2.2.2.2.2.1 r.2.2.2.2.2.2.2.2.2.2.2.2.2.2.2.2.2.2.2.1 r.2.2.2.2.2.2.2.2.2.2.2.2.2.2.2.2.2.2.2.2.1 r.2.2.2.2.2.2.2.2.2.2.2.2.2.2.2.2.2.2.2.2.2.2.2.2.2.1 r.2.2.2.2.2.2.2.2.2.2.2.2.2.2.2.2.2.2.2.2.2.2.2.2.2.2.2.2.2.2.1
def tQ (i k u:Nat) (S A:Int→Int) (z:Int) (st:Option j4) (kind:Int) (r:TkT):Prop := ∃S',TkG i k u S' A z r∧L9 S A r.2.2.2.2.2.2.2.2.2.2.2.2.2.2.2.2.2.2.2.2.2.2.2.2.2.2.2.2.2.2.2 S'∧(kind≠21 → ∀s,st=some s → ∃s',r.2.2.2.2.2.2.2.2.2.1=some s'∧s.stable≤s'.stable)
theorem GM {N:Nat}(hN:1000000≤N)(dc i5:Int)(ow:Bool)(hi':Int)(mv:Option j8)(fl:Int)(fd sd sa:Bool)(h:Gi i k u S A z ep iY iZ m mo ag old st log co iL cu he iM iU iW iV iX ed out)(hk:i≤1000∧k≤1000)(hu:u≤699000) :
  Okp (M.pL N dc i5 ep m ag ow st log co hi' iL cu he iU iW iV iX mv ed fl fd sd sa out) λr=>r.2.1=st∧Gi i k (u+20*k+10) S A z ep iY iZ m mo ag old r.2.1 r.2.2.1 r.2.2.2.1 r.2.2.2.2.2.1 r.2.2.2.2.2.2.1 he iM iU iW r.2.2.2.2.2.2.2.1 r.2.2.2.2.2.2.2.2.1 ed r.2.2.2.2.2.2.2.2.2.2.2.2:=by
 have hz:=h.z4
 obtain ⟨s,rfl,hs⟩:=h.st
 obtain ⟨lg,rfl,hlg⟩:=h.lg
 obtain ⟨cl,cs,rs,rfl,rfl,rfl,hp⟩:=h.pd
 have hlen:=hp.len
 have hag:=h.ag
 refine (N7 hN dc i5 ep h.mp (by omega) ow hs hk.2 hlg hp.co (by omega) hi' h.cu h.he hp.sr (by omega) iW mv h.ed fl fd sd sa h.ld (by omega)).mono λr ⟨e1,e2,e3,e4,e5,e6⟩=>⟨e1,h.ep,h.ba,⟨h.tx.1,by have:=h.tx.2; omega⟩,h.mp,h.mo,h.ag,h.ol,⟨s,e1,hs⟩,e2,⟨cl,cs,rs,e3,rfl,rfl,hp.mono (Nat.le_refl _) e6⟩,e5,h.he,e4,h.ed⟩
theorem BG {N:Nat}(hN:1000000≤N)(dc a2 i5:Int)(ow:Bool)(hi':Int)(mv:Option j8)(a56 a57:Int)(a58:List Int)(fl:Int)(fd sd sa:Bool)(rs:List jL)(h:Gi i k u S A z ep iY iZ ⟨i3,i4⟩ mo ag old st log co iL cu he iM iU iW iV iX ed out)(hk:i≤1000∧k≤1000)(hu:u≤699000) :
  Okp (M.o9 N dc a2 i5 ep iY iZ i3 i4 mo ag old ow st log co hi' iL cu he iM iU iW iV iX mv a56 a57 a58 ed fl fd sd sa out rs) λr=>TkG i k (u+20*k+10) S A z r∧r.2.2.2.2.2.2.2.2.2.2.2.2.2.2.2.2.2.2.2.2.2.2.2.2.2.2.2.2.2.2.2=rs∧r.2.2.2.2.2.2.2.2.2.1=st:=by
 unfold M.o9
 exact .call (GM hN dc i5 ow hi' mv fl fd sd sa h hk hu) λr hr=>.ret ⟨hr.2,rfl,hr.1⟩
theorem dcw {f:Int} (h:1≤f∧f≤20):IntKind.i64.wrap (Int.tdiv (IntKind.i64.wrap (f-1)) 5)=(f-1) / 5:=by
 rw [kF (x:=f-1) (by omega) (by omega),Int.tdiv_eq_ediv_of_nonneg (by omega),kF (by omega) (by omega)]
theorem LZ {N:Nat}(hN:1000000≤N){dc:Int}(hd:0≤dc∧dc<4)(i5:Int)(ow:Bool)(hi':Int)(mv:Option j8)(a56 a57:Int)(a58:List Int)(fl:Int)(fd sd sa:Bool)(h:Gi i k u S A z ep iY iZ m mo ag old st log co iL cu he iM iU iW iV iX ed out)(hk:i≤k∧k≤100)(hu:u≤600000)(from':Int){i6:jF}(hm:BW i6) :
  Okp (M.pM N dc z i5 ep iY iZ m mo ag old ow st log co hi' iL cu he iM iU iW iV iX mv a56 a57 a58 ed fl fd sd sa out [] from' i6) (tQ i (k+1) (u+3000) S A z st i6.Kind):=by
 unfold M.pM
 have h0:Gi i k u S A z ep iY iZ ⟨m.Cuts,m.Nodes⟩ mo ag old st log co iL cu he iM iU iW iV iX ed out:=h
 have rp:L9 S A [] S := .inl ⟨rfl,rfl⟩
 have go : ∀ {r:TkT} {k' u':Nat},k'≤k+1→u'≤u+3000→TkG i k' u' S A z r∧r.2.2.2.2.2.2.2.2.2.2.2.2.2.2.2.2.2.2.2.2.2.2.2.2.2.2.2.2.2.2.2=[]∧r.2.2.2.2.2.2.2.2.2.1=st→tQ i (k+1) (u+3000) S A z st i6.Kind r:=λhk hu h=>⟨S,Gi.mono h.1 hk hu,h.2.1▸rp,λ_ s e=>⟨s,h.2.2.trans e,Int.le_refl _⟩⟩
 refine .call (R:=λv=>v=false→0≤from'∧from'≤20) (.bp (λ_=>.ret (λh=>by cases h)) λh1=>.ret λh2=>⟨by omega,by have:=of_decide_eq_false h2; omega⟩) λv hv=>.bb (λ_=>.ret (go (k':=k) (u':=u) (by omega) (by omega) ⟨h0,rfl,rfl⟩)) λhvf=>.bb (λ_=>?_) λhf0=>?_
 ·refine .call (JZ (by omega) hd hi' ow hm i5 mv a56 a57 a58 fl fd sd sa h (by omega)) λx ⟨hx,hx2⟩=>(BG hN dc z _ _ _ _ _ _ _ _ _ _ _ [] (i3:=x.2.2.2.2.1.Cuts) (i4:=x.2.2.2.2.1.Nodes) hx (by omega) (by omega)).mono λr hr=>⟨S,Gi.mono hr.1 (by omega) (by omega),hr.2.1▸rp,λhne s e=>⟨s,hr.2.2.trans ((hx2 hne).trans e),Int.le_refl _⟩⟩
 obtain ⟨f0,f1⟩:=hv hvf
 have f2:from'≠0:=by simpa using hf0
 rw [dcw ⟨by omega,f1⟩]
 refine .call (R:=λ_=>True) (.bp (λ_=>.ret trivial) λ_=>.ret trivial) λv _=>.bb (λ_=>?_) λ_=>.call (R:=λv=>v=true→0≤IntKind.i64.wrap ((Int.tmod (IntKind.i64.wrap (from'-1)) 5)-1)∧IntKind.i64.wrap ((Int.tmod (IntKind.i64.wrap (from'-1)) 5)-1)<z) (.bb (λ_=>.bp (λh1=>.ret λh2=>⟨h1,of_decide_eq_true h2⟩) λ_=>.ret (λh=>by cases h)) λ_=>.ret (λh=>by cases h)) λv hv=>.bb (λht=>?_) λ_=>(BG hN dc z _ _ _ _ _ _ _ _ _ _ _ [] h0 (by omega) (by omega)).mono λr hr=>go (by omega) (by omega) hr
 ·obtain ⟨s,rfl,hs⟩:=h.st
  obtain ⟨lg,rfl,hlg⟩:=h.lg
  refine .call (K9 (by omega) h.ld (by omega) (by omega) dc hd i5 s hs lg h.cu h.ed _ hm) λr ⟨e1,e2,e3,e4,e5,e6⟩=>?_
  have hG:Gi i (k+1) (u+5) S A z ep iY iZ ⟨m.Cuts,m.Nodes⟩ mo ag old r.1 r.2.1 co r.2.2.1 r.2.2.2.1 he iM iU iW r.2.2.2.2.1 r.2.2.2.2.2.1 r.2.2.2.2.2.2.1 r.2.2.2.2.2.2.2:=⟨h.ep,h.ba,⟨h.tx.1,by have:=h.tx.2; omega⟩,h.mp,h.mo,h.ag,h.ol,⟨s,e1,hs⟩,⟨lg,e2,hlg.mono (Nat.le_succ k)⟩,(by obtain ⟨cl,cs,rs,g1,g2,g3,hp⟩:=h.pd; exact ⟨cl,cs,rs,g1,g2,g3,hp.mono (Nat.le_refl _) e6⟩),e4,h.he,e3,e5⟩
  exact (BG hN dc z _ _ _ _ _ _ _ _ _ _ _ [] hG (by omega) (by omega)).mono λr hr=>go (by omega) (by omega) ⟨hr.1,hr.2.1,hr.2.2.trans e1⟩
 ·obtain ⟨n0,n1⟩:=hv ht
  obtain ⟨s,rfl,hs⟩:=h.st
  obtain ⟨lg,rfl,hlg⟩:=h.lg
  obtain ⟨cl,cs,rs,rfl,rfl,rfl,hp⟩:=h.pd
  have hag:=h.ag
  refine .call (IH hN dc (ep:=ep) ⟨hk.1,by omega⟩ (by omega) hp h.ba h.tx h.mp (ag:=ag) hs hlg hi' h.ld mv a56 a57 a58 _ ⟨n0,by omega⟩ hm) λr ⟨e1,e2,e3,⟨s',e4,e5,e6⟩,⟨l',e7,e8⟩,⟨S',cl',cs',rs',q1,q2,q3,q4,q5⟩,e9⟩=>?_
  have hG:Gi i (k+1) (u+5*k+10) S' A z ep iY r.1 ⟨r.2.1.Cuts,r.2.1.Nodes⟩ mo r.2.2.1 old r.2.2.2.1 r.2.2.2.2.1 r.2.2.2.2.2.1 r.2.2.2.2.2.2.2.1 cu he r.2.2.2.2.2.2.2.2.1 r.2.2.2.2.2.2.2.2.2.1 r.2.2.2.2.2.2.2.2.2.2.1 r.2.2.2.2.2.2.2.2.2.2.2.1 r.2.2.2.2.2.2.2.2.2.2.2.2.1 ed r.2.2.2.2.2.2.2.2.2.2.2.2.2.2.2.2.1:=⟨h.ep,h.ba,⟨e1.1,by have:=e1.2; omega⟩,e2,h.mo,by rw [e3]; exact h.ag,h.ol,⟨s',e4,e5⟩,⟨l',e7,e8⟩,⟨cl',cs',rs',q1,q2,q3,q4⟩,h.cu,h.he,e9,h.ed⟩
  refine (BG hN dc z _ _ _ _ _ _ _ _ _ _ _ _ hG (by omega) (by omega)).mono λr' hr=>⟨S',Gi.mono hr.1 (by omega) (by omega),by rw [hr.2.1]; exact q5,λ_ s0 e=>⟨s',hr.2.2.trans e4,?_⟩⟩
  simp only [Option.some.injEq] at e
  subst e
  exact e6
theorem NC {N:Nat}(hN:1000000≤N){dc:Int}(hd:0≤dc∧dc<4)(i5:Int)(ow:Bool)(hi':Int)(mv:Option j8)(a56 a57:Int)(a58:List Int)(fl:Int)(fd sd sa:Bool)(h:Gi i k u S A z ep iY iZ m mo ag old st log co iL cu he iM iU iW iV iX ed out)(hk:i≤k∧k≤100)(hu:u≤600000)(from':Int){i6:jF}(hm:BW i6) :
  Okp (M.t8 N dc z i5 ep iY iZ m mo ag old ow st log co hi' iL cu he iM iU iW iV iX mv a56 a57 a58 ed fl fd sd sa out [] from' i6) (tQ i (k+1) (u+3000) S A z st i6.Kind):=by
 unfold M.t8
 have same : ∀ {r:TkT},TkG i k u S A z r∧r.2.2.2.2.2.2.2.2.2.2.2.2.2.2.2.2.2.2.2.2.2.2.2.2.2.2.2.2.2.2.2=[]∧r.2.2.2.2.2.2.2.2.2.1=st→tQ i (k+1) (u+3000) S A z st i6.Kind r:=λh=>⟨S,Gi.mono h.1 (by omega) (by omega),h.2.1 ▸ .inl ⟨rfl,rfl⟩,λ_ s e=>⟨s,h.2.2.trans e,Int.le_refl _⟩⟩
 refine .call (R:=λv=>v=false→1≤from'∧from'≤20) (.bb (λ_=>.ret (λh=>by cases h)) λ_=>.bp (λ_=>.ret (λh=>by cases h)) λh1=>.bp (λ_=>.ret (λh=>by cases h)) λh2=>.ret λ_=>⟨by omega,by omega⟩) λv hv=>.bb (λ_=>.ret (same ⟨h,rfl,rfl⟩)) λhvf=>?_
 obtain ⟨f0,f1⟩:=hv hvf
 rw [dcw ⟨f0,f1⟩]
 have hd0:0≤(from'-1) / 5∧(from'-1) / 5<4:=by omega
 generalize (from'-1) / 5=d at hd0
 refine .bb (λ_=>.call (LZ hN hd i5 ow hi' mv a56 a57 a58 fl fd sd sa h hk hu from' hm) λr hr=>.ret hr) λ_=>?_
 obtain ⟨s,rfl,hs⟩:=h.st
 have hb4:=h.ld.bx.1
 refine .call (R:=λv=>v=false→i6.Vec.length=6 ∧ ∃b,iL[d.toNat]? = some (some b)) (.ix hd0.1 (by omega) λx hx=>.oc (λ_=>.call (R:=λ_=>True) (.bp (λ_=>.ret trivial) λ_=>.bb (λ_=>.ret trivial) λ_=>.ret trivial) λ_ _=>.ret (λh=>by cases h)) λb hb=>.call (R:=λv=>v=false→i6.Vec.length=6) (.bp (λ_=>.ret (λh=>by cases h)) λ_=>.bb (λ_=>.ret (λh=>by cases h)) λh6=>?_) λv hv=>.ret λh1=>⟨hv h1,b,by rw [hx,hb]⟩) λv hv=>.bb (λ_=>.ret (same ⟨h,rfl,rfl⟩)) λhvf=>?_
 ·have h7:i6.Vec.length=6:=by
   have:(i6.Vec.length:Int)=6:=by simpa using h6
   omega
  exact .ix (by omega) (by omega) λ_ _=>.bp (λ_=>.ret (λh=>by cases h)) λ_=>.ix (by omega) (by omega) λ_ _=>.bp (λ_=>.ret (λh=>by cases h)) λ_=>.ix (by omega) (by omega) λ_ _=>.ret λ_=>h7
 obtain ⟨h6,b,hb⟩:=hv hvf
 have hhe:=h.he
 refine .ix hd0.1 (by omega) λx hx=>?_
 rw [hb] at hx
 simp only [Option.some.injEq] at hx
 subst hx
 refine .ix (by omega) (by omega) λv1 _=>.ix (by omega) (by omega) λv2 _=>.call (ML (h.ld.bx.at hb) (by omega) v1 (IntKind.i64.wrap v2)) λb' hb'=>.ix hd0.1 (by simp; omega) λy hy=>?_
 rw [List.getElem?_set_self (by omega)] at hy
 simp only [Option.some.injEq] at hy
 subst hy
 refine .call (N0 (N:=N) (by omega) hs _ _) λs1 h1=>.ix (by omega) (by omega) λ_ _=>.ix (by omega) (by omega) λ_ _=>.call (MY (by omega) h1.1 _ _ _) λs2 h2=>.ix (by omega) (by omega) λw _=>.ix hd0.1 (by omega) λ_ _=>.ix (by omega) (by omega) λ_ _=>.ix hd0.1 (by omega) λ_ _=>?_
 have hbx:vM (k+1) (iL.set d.toNat (some b')):=(h.ld.bx.mono (Nat.le_succ k)).set _ λb1 e=>by
  simp only [Option.some.injEq] at e
  subst e
  exact hb'.mono (Nat.le_succ k) (Nat.le_refl _)
 have hG : ∀w:Int,Gi i (k+1) u S A z ep iY iZ ⟨m.Cuts,m.Nodes⟩ mo ag old (some s2) log co (iL.set d.toNat (some b')) cu (he.set d.toNat w) iM iU iW iV iX ed out:=λw=>⟨h.ep,h.ba,h.tx,h.mp,h.mo,h.ag,h.ol,⟨s2,rfl,h2.1⟩,(by obtain ⟨l,e,hl⟩:=h.lg; exact ⟨l,e,hl.mono (Nat.le_succ k)⟩),h.pd,h.cu,by rw [List.length_set]; exact h.he,⟨hbx,h.ld.ld,h.ld.l0,h.ld.l1,h.ld.out⟩,h.ed⟩
 refine .call (GM hN dc i5 ow _ mv fl fd sd sa (hG _) (by omega) (by omega)) λr hr=>.ret ⟨S,Gi.mono hr.2 (by omega) (by omega),.inl ⟨rfl,rfl⟩,λ_ s0 e=>⟨s2,hr.1,?_⟩⟩
 simp only [Option.some.injEq] at e
 subst e
 exact Int.le_trans h1.2 h2.2
end Go.Cf
