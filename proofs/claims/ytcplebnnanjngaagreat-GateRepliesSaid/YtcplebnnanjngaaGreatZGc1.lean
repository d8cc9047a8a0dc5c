/- The gate's iM, ninth part: iU, commits, and one operation of a law. -/
import Derived.Test.YtcplebnnanjngaaGreatZGb9
import Derived.Test.YtcplebnnanjngaaGreatZM1
set_option linter.unusedVariables false
namespace Go.Cf
open Go
variable {i k u:Nat}{S A:Int→Int}{z ep iY iZ iX:Int}{m:j5}{i3:List ByteArray}{i4:List Int}{mo:List Int}{ag:List Bool}{old:List Int}{st:Option j4}{log:Option jC}{co:Option j9}{iL:List (Option j3)}{cu he:List Int}{iM:Mp Int Int}{iU:Mp Int i8}{iW:List i8}{iV:Mp Int jA}{ed:List Int}{out:List i9}
theorem M0 {N:Nat}(hN:100≤N)(h:Gi i k u S A z ep iY iZ m mo ag old st log co iL cu he iM iU iW iV iX ed out)(hi:i<1000)(hu:u≤699000){c:i8}(hid:c.id=(i:Int))(hw:c.writes.length≤8)(s:Int)(hs:s=if c.read then 1 else 2)(a:Int)(ha:c.read=false→a≤c.at_)(dc hi':Int)(mv:Option j8) :
  Okp (M.qH N dc iY iZ m co hi' iM iU iW iX mv out c) λr=>Gi (i+1) k (u+5) (upS S i s) (upS A i a) z ep iY r.1 m mo ag old st log r.2.1 iL cu he r.2.2.2.1 r.2.2.2.2.1 r.2.2.2.2.2.1 iV r.2.2.2.2.2.2.1 ed r.2.2.2.2.2.2.2.2:=by
 obtain ⟨cl,cs,rs,rfl,rfl,rfl,hp⟩:=h.pd
 have ht:=h.tx; have l0:=h.ld.l0; have l1:=h.ld.l1; have lo:=h.ld.out
 have hp':=hp.come hid hw s hs a ha
 refine (NE hN (rest:=[]) hp' (by omega) h.mp h.ba (by omega) (by omega) dc hi' mv (by omega)).mono λr ⟨cl',cs',rs',e1,e2,e3,e4,e5,e6,e7,e8,e9,e10⟩=>⟨h.ep,h.ba,by omega,h.mp,h.mo,h.ag,h.ol,h.st,h.lg,⟨cl',cs',rs',e1,e2,e3,?_⟩,h.cu,h.he,⟨h.ld.bx,h.ld.ld.mono (by omega),by omega,by omega,by omega⟩,h.ed⟩
 rw [List.append_nil] at e4
 exact e4
def GG (i k u:Nat) (S A:Int→Int) (z:Int) (g:jV):Prop:=Gi i k u S A z g.epoch g.base g.txs g.m g.modes g.agreed g.old g.st g.log g.co g.boxes g.cursor g.heard g.calls g.reads g.held g.loads g.last g.end_ g.out∧g.replies=[]∧g.dc=0∧g.nodes=z
def nwQ (i k u:Nat) (S A:Int→Int) (z:Int) (r:Option jV×Int):Prop:=r.2=0 ∧ ∃g,r.1=some g∧GG i k u S A z g
section
variable (hr : ∀k,S k≠0→0≤k∧k<i){s:j4}(hs:rW z s)(e0:Int)(hmo:mo.length=21)(hol:(old.length:Int)=z)
include hr hs hmo hol
theorem JM (N:Nat)(hag:(ag.length:Int)=z){cu0 he:List Int}(hh:he.length=4)(i5:Int)(hm:sP ⟨i3,i4⟩){boxes0:List (Option j3)}(hbx:vM k iL)(hc:cu.length=4) :
  Okp (M.tZ N 0 z (some s,e0) mo old ag (0,0,0,⟨[],[]⟩,some ⟨[],[],0⟩,some ⟨some []⟩,boxes0,cu0,he,some [],some [],[],some [],none,0,[],[],0,false,false,false) i5 i3 i4 iL cu) (nwQ i k u S A z):=by
 unfold M.tZ
 exact .ret ⟨rfl,_,rfl,Gi.new (ep:=0) (iY:=0) (iX:=0) hr ⟨Int.le_refl _,by decide⟩ ⟨Int.le_refl _,by decide⟩ hm hmo hag hol hs hbx hc hh ⟨Int.le_refl _,Int.natCast_nonneg _⟩ (.inl rfl) (Nat.zero_le _),rfl,rfl,rfl⟩
theorem GH (N:Nat){has:List Bool}(hhs:has.length=4)(hag:(ag.length:Int)=z){cu0 he:List Int}(hh:he.length=4)(hm:sP m){boxes0:List (Option j3)} : ∀(i2:Nat)(j:Int)(iL:List (Option j3))(cu:List Int),0≤j→j≤4→4-j<i2→vM k iL→cu.length=4 →
  Okp (M.rA N i2 0 z has (some s,e0) mo old ag (0,0,0,⟨[],[]⟩,some ⟨[],[],0⟩,some ⟨some []⟩,boxes0,cu0,he,some [],some [],[],some [],none,0,[],[],0,false,false,false) m iL cu j) (nwQ i k u S A z)
 | 0,j,iL,cu,g0,g1,g2,g3,g4=>by omega
 | i2+1,j,iL,cu,g0,g1,g2,g3,g4=>by
  have hb4:=g3.1
  unfold M.rA M.v8
  rw [kF (x:=j+1) (by omega) (by omega)]
  refine .bp (λhj=>.ix g0 (by omega) λ_ _=>.call (R:=λ_=>True) (.bb (λ_=>.ret trivial) λ_=>.ret trivial) λ_ _=>.bb (λ_=>.ix g0 (by omega) λ_ _=>.call (MK (v:=40) (k:=k) (q:=k) 0 (by decide)) λb hb=>.ix g0 (by omega) λ_ _=>?_) λ_=>?_) λ_=>JM hr hs e0 hmo hol N hag hh 2 hm g3 g4
  ·exact GH N hhs hag hh hm i2 _ _ _ (by omega) (by omega) (by omega) (g3.set _ (λb' e=>by simp only [Option.some.injEq] at e; subst e; exact hb)) (by simp [g4])
  ·exact GH N hhs hag hh hm i2 _ _ _ (by omega) (by omega) (by omega) g3 g4
theorem JN (N:Nat)(hN:1000≤N){has:List Bool}(hhs:has.length=4){bs:List Bool}(hbs:(bs.length:Int)=z) : ∀(i2:Nat)(j:Int)(ag:List Bool),0≤j→j≤z→z-j<i2→(ag.length:Int)=z →
  Okp (M.sX N i2 0 z has (some s,e0) mo bs old ag j) (nwQ i k u S A z)
 | 0,j,ag,g0,g1,g2,g3=>by omega
 | i2+1,j,ag,g0,g1,g2,g3=>by
  have z1:=hs.n1; have z4:=hs.n4
  unfold M.sX M.uN
  rw [kF (x:=j+1) (by omega) (by omega)]
  refine .bp (λhj=>.ix g0 (by omega) λ_ _=>JN N hN hhs hbs i2 _ _ (by omega) (by omega) (by omega) (by simp [g3])) λ_=>.call (GN (by omega) 0 0 0 0 _ none none _ (cu:=List.replicate 4 0) (he:=List.replicate 4 0) rfl rfl (some []) (some []) [] (some []) none 0 [] [] 0 false false false) λx ⟨cu',he',e1,e2,e3⟩=>?_
  subst e3
  refine .ix (by omega) (by omega) λ_ _=>.bb (λ_=>.bind (.ret ?_)) λ_=>?_
  ·exact GH hr hs e0 hmo hol N hhs g3 e2 ⟨by decide,by decide⟩ N 0 _ _ (by omega) (by omega) (by omega) DZ e1
  ·exact JM hr hs e0 hmo hol N g3 e2 0 s3 DZ e1
end
theorem NN {N:Nat} (hN:1000≤N) (i k u:Nat) (S A:Int→Int) (hr : ∀k,S k≠0→0≤k∧k<i) (hz:1≤z∧z≤4) {has:List Bool} (hhs:has.length=4) (hmo:mo.length=21):Okp (M.wT N 0 z has mo) (nwQ i k u S A z):=by
 unfold M.wT
 refine .call (MB 0 z (by omega) hz hhs) λx ⟨hx,s,hx2,hs⟩=>?_
 obtain ⟨x1,x2⟩:=x
 simp only at hx hx2
 subst hx hx2
 have h1:zD [] mo=some mo:=by
  unfold zD apd
  rw [if_neg (by cases mo<;>simp at hmo ⊢),if_pos (by simp; omega)]; rfl
 refine .call (R:=λv=>v=false) (.bb (λh=>by simp at h) λ_=>.ret (by simp [hmo])) λv hv=>?_
 subst hv
 refine .bb (λh=>by cases h) λ_=>.bind ⟨mo,h1,.mk (by omega) (by omega) (.mk (by omega) (by omega) (.bind ⟨mo,h1,.mk (by omega) (by omega) (.mk (by omega) (by omega) ?_)⟩))⟩
 have hl:((List.replicate z.toNat false).length:Int)=z:=by simp; omega
 exact JN hr hs 0 hmo (by simp; omega) N hN hhs hl N 0 _ (by omega) (by omega) (by omega) hl
theorem ET (N:Nat){l0:List Int}(h0:l0.length=21) : ∀(i2:Nat)(j:Int)(l:List Int),0≤j→j≤21→21-j<i2→l.length=21→Okp (M.qS N i2 l0 l j) λl=>l.length=21
 | 0,j,l,g0,g1,g2,g3=>by omega
 | i2+1,j,l,g0,g1,g2,g3=>by
  unfold M.qS
  rw [kF (x:=j+1) (by omega) (by omega)]
  exact .bp (λhj=>.ix g0 (by omega) λ_ _=>ET N h0 i2 _ _ (by omega) (by omega) (by omega) (by simp [g3])) λ_=>.ret g3
theorem MQ {N:Nat} (hN:100≤N):Okp (M.tY N) λl=>l.length=21:=by
 unfold M.tY
 exact .mk (by decide) (by decide) (ET N (by simp) N 0 _ (by omega) (by omega) (by omega) (by simp))
structure LB (o:kG):Prop where
 nn : ∀x∈o.Msg.Vec,0≤x
 id0:0≤o.Msg.Id
 n0:0≤o.Msg.N
theorem NP {N:Nat} {o:kG} (h:LB o):Okp (M.wQ N o) λq=>q.Kind=o.Kind∧q.T=o.T∧q.Msg.Kind=o.Msg.Kind∧BW q.Msg:=by
 unfold M.wQ M.yN
 have e : ∀(n m:Nat),((if (m:Int)<(n:Int) then (m:Int) else (n:Int)))=((min m n:Nat):Int):=λn m=>by split<;>omega
 have e12 : ∀n:Nat,(if (12:Int)<(n:Int) then (12:Int) else (n:Int))=((min 12 n:Nat):Int):=λn=>e n 12
 have e40 : ∀n:Nat,(if (40:Int)<(n:Int) then (40:Int) else (n:Int))=((min 40 n:Nat):Int):=λn=>e n 40
 simp only [e12,e40]
 refine .call (R:=λq=>q.Kind=o.Msg.Kind∧BW q) (.sl (by omega) (by omega) (by omega) (.sl (by omega) (by omega) (by omega) (.ret ⟨rfl,?_,?_,?_,h.id0,h.n0⟩))) λq hq=>.sl (by omega) (by omega) (by omega) (.ret ⟨rfl,rfl,hq⟩)
 ·simp; omega
 ·simp; omega
 ·intro x hx
  simp only [Int.toNat_natCast,Int.toNat_zero,List.drop_zero] at hx
  exact h.nn x (List.mem_of_mem_take hx)
def opS (S:Int→Int) (i:Nat) (kind code:Int):Int→Int:=if code=0∧kind=2 then upS S i 1 else if code=0∧kind=3 then upS S i 2 else S
def opA (A:Int→Int) (i:Nat) (kind code a:Int):Int→Int:=if code=0∧kind=3 then upS A i a else A
def dQ (i k u:Nat) (S A:Int→Int) (z:Int) (s:j4) (o:kG) (r:Int×TkT):Prop:=tQ (i+1) (k+1) (u+3000) (opS S i o.Kind r.1) (opA A i o.Kind r.1 (if o.T > s.stable then o.T else s.stable)) z (some s) o.Msg.Kind r.2
theorem J2 (S:Int→Int) (k:Int):upS S k (S k)=S:=funext λx=>by
 unfold upS
 split
 ·next h=>rw [h]
 ·rfl
theorem Gi.next (h:Gi i k u S A z ep iY iZ m mo ag old st log co iL cu he iM iU iW iV iX ed out) {k' u':Nat} (hk:k≤k') (hu:u≤u'):Gi (i+1) k' u' S A z ep iY iZ m mo ag old st log co iL cu he iM iU iW iV iX ed out:=by
 have h:=h.mono hk hu
 exact ⟨h.ep,h.ba,h.tx,h.mp,h.mo,h.ag,h.ol,h.st,h.lg,(by obtain ⟨cl,cs,rs,e1,e2,e3,hp⟩:=h.pd; exact ⟨cl,cs,rs,e1,e2,e3,hp.mono (Nat.le_succ i) (Int.le_refl _)⟩),h.cu,h.he,h.ld,h.ed⟩
theorem N8 {N:Nat} (dc i5:Int) {s:j4} {out:List i9} (hN:1000≤N) (hz:0≤z∧z≤4) (ho:out.length<900000000):Okp (M.t7 N dc z i5 (some s) out) λr=>r.2.1=some s∧r.2.2.length≤out.length+4:=by
 have lp : ∀(i2:Nat) (j:Int) (o:List i9),0≤j→j≤z→z-j<i2→(o.length:Int)≤out.length+j→Okp (M.oW N i2 dc z i5 (some s) o j) λr=>r.2.1=some s∧r.2.2.length≤out.length+4:=by
  intro i2
  induction i2 with
  | zero=>intro j o g0 g1 g2 g3; omega
  | succ i2 ih=>
   intro j o g0 g1 g2 g3
   unfold M.oW M.nX
   rw [kF (x:=j+1) (by omega) (by omega)]
   exact .bp (λhj=>.bind (.ret (.bind (.ret (.call (wU (by omega) _ _ _) λo' ho'=>ih _ _ (by omega) (by omega) (by omega) (by omega)))))) λ_=>.ret ⟨rfl,by show o.length≤_; omega⟩
 unfold M.t7
 exact .bb (λ_=>.ret ⟨rfl,Nat.le_add_right _ _⟩) λ_=>lp N 0 out (by omega) (by omega) (by omega) (by omega)
theorem gDo {N:Nat}(hN:1000000≤N){s:j4}(i5:Int)(ow:Bool)(hi':Int)(mv:Option j8)(a56 a57:Int)(a58:List Int)(fl:Int)(fd sd sa:Bool)(h:Gi i k u S A z ep iY iZ m mo ag old (some s) log co iL cu he iM iU iW iV iX ed out)(hk:i≤k∧k≤100)(hu:u≤600000){o:kG}(hc:o.Call=(i:Int))(hm:BW o.Msg) :
  Okp (M.wR N 0 z i5 ep iY iZ m mo ag old ow (some s) log co hi' iL cu he iM iU iW iV iX mv a56 a57 a58 ed fl fd sd sa out [] o) (dQ i k u S A z s o):=by
 have hz:=h.z4
 have lo:=h.ld.out
 have oS : ∀code:Int,o.Kind≠2→o.Kind≠3→opS S i o.Kind code=S:=λcode h2 h3=>by
  unfold opS
  rw [if_neg (λh=>h2 h.2),if_neg (λh=>h3 h.2)]
 have oA : ∀code a:Int,o.Kind≠3→opA A i o.Kind code a=A:=λcode a h3=>by
  unfold opA
  rw [if_neg (λh=>h3 h.2)]
 have other : ∀ {r:Int×TkT},o.Kind≠2→o.Kind≠3→tQ i (k+1) (u+3000) S A z (some s) o.Msg.Kind r.2→dQ i k u S A z s o r:=λ{r} h2 h3 ⟨S',e1,e2,e3⟩=>by
  unfold dQ
  rw [oS _ h2 h3,oA _ _ h3]
  exact ⟨S',Gi.next e1 (Nat.le_refl _) (Nat.le_refl _),e2,e3⟩
 have fail : ∀ {r:Int×TkT},r.1≠0→TkG i k u S A z r.2∧r.2.2.2.2.2.2.2.2.2.2.2.2.2.2.2.2.2.2.2.2.2.2.2.2.2.2.2.2.2.2.2.2=[]∧r.2.2.2.2.2.2.2.2.2.2.1=some s→dQ i k u S A z s o r:=λ{r} hne ⟨e1,e2,e3⟩=>by
  have h1:opS S i o.Kind r.1=S:=by
   unfold opS
   rw [if_neg (λh=>hne h.1),if_neg (λh=>hne h.1)]
  have h2 : ∀a,opA A i o.Kind r.1 a=A:=λa=>by
   unfold opA
   rw [if_neg (λh=>hne h.1)]
  unfold dQ
  rw [h1,h2]
  exact ⟨S,Gi.next e1 (Nat.le_succ k) (by omega),e2 ▸ .inl ⟨rfl,rfl⟩,λ_ s' e=>⟨s',e3.trans e,Int.le_refl _⟩⟩
 unfold M.wR
 refine .bb (λh1=>?_) λ_=>.bb (λh1=>?_) λ_=>.bb (λh1=>?_) λh2=>.bb (λh1=>?_) λh3=>.bb (λh4=>?_) λ_=>?_
 ·have h1:o.Kind=0:=by simpa using h1
  exact .call (LZ hN (by omega) i5 ow hi' mv a56 a57 a58 fl fd sd sa h hk hu o.From hm) λr hr=>by unfold M.rX; exact .ret (other (by omega) (by omega) hr)
 ·have h1:o.Kind=1:=by simpa using h1
  exact .call (NC hN (by omega) i5 ow hi' mv a56 a57 a58 fl fd sd sa h hk hu o.From hm) λr hr=>by unfold M.rX; exact .ret (other (by omega) (by omega) hr)
 ·have h1:o.Kind=2:=by simpa using h1
  unfold M.uE
  refine .call (R:=λr=>(r.1=18∧r.2=(iZ,co,hi',iM,iU,iW,iX,mv,out))∨(r.1=0∧Gi (i+1) k (u+5) (upS S i 1) (upS A i (A i)) z ep iY r.2.1 m mo ag old (some s) log r.2.2.1 iL cu he r.2.2.2.2.1 r.2.2.2.2.2.1 r.2.2.2.2.2.2.1 iV r.2.2.2.2.2.2.2.1 ed r.2.2.2.2.2.2.2.2.2)) (.bb (λ_=>.ret (.inl ⟨rfl,rfl⟩)) λ_=>.call (M0 (by omega) h (by omega) (by omega) (c:=⟨o.Call,true,o.Key,o.T,[]⟩) hc (Nat.zero_le _) 1 rfl (A i) (λh=>by cases h) 0 hi' mv) λr hr=>.ret (.inr ⟨rfl,hr⟩)) λr hr=>.ret ?_
  rcases hr with ⟨e1,e2⟩ | ⟨e1,e2⟩
  ·obtain ⟨r1,r2⟩:=r
   simp only at e1 e2
   subst e1 e2
   exact fail (show (18:Int)≠0 by decide) ⟨h,rfl,rfl⟩
  ·have h5:opS S i o.Kind r.1=upS S i 1:=by
    unfold opS
    rw [if_pos ⟨e1,h1⟩]
   have h6 : ∀a,opA A i o.Kind r.1 a=A:=λa=>oA _ _ (by omega)
   unfold dQ
   show tQ _ _ _ (opS S i o.Kind r.1) (opA A i o.Kind r.1 _) _ _ _ _
   rw [h5,h6]
   rw [J2] at e2
   exact ⟨_,Gi.mono e2 (Nat.le_succ k) (by omega),.inl ⟨rfl,rfl⟩,λ_ s' e=>⟨s',e,Int.le_refl _⟩⟩
 ·have h1:o.Kind=3:=by simpa using h1
  unfold M.rU
  refine .call (R:=λr=>(r.1≠0∧r.2=(iZ,ow,some s,log,co,hi',iL,cu,iM,iU,iW,iV,iX,mv,sd,sa,out))∨(r.1=0∧r.2.2.2.1=some s∧Gi (i+1) k (u+3000) (upS S i 2) (upS A i (if o.T > s.stable then o.T else s.stable)) z ep iY r.2.1 m mo ag old r.2.2.2.1 r.2.2.2.2.1 r.2.2.2.2.2.1 r.2.2.2.2.2.2.2.1 r.2.2.2.2.2.2.2.2.1 he r.2.2.2.2.2.2.2.2.2.1 r.2.2.2.2.2.2.2.2.2.2.1 r.2.2.2.2.2.2.2.2.2.2.2.1 r.2.2.2.2.2.2.2.2.2.2.2.2.1 r.2.2.2.2.2.2.2.2.2.2.2.2.2.1 ed r.2.2.2.2.2.2.2.2.2.2.2.2.2.2.2.2.2)) (.bb (λ_=>.ret (.inl ⟨show (18:Int)≠0 by decide,rfl⟩)) λ_=>.call (R:=λv=>v=false→o.Writes.length≤8) (.bb (λ_=>.ret (λh=>by cases h)) λ_=>.ret λh=>by have:=of_decide_eq_false h; omega) λv hv=>.bb (λ_=>.ret (.inl ⟨show (1:Int)≠0 by decide,rfl⟩)) λhvf=>?_) λr hr=>.ret ?_
  ·have hw:=hv hvf
   refine .bind (.ret ?_)
   unfold M.nX
   refine .bind (.ret (.ap (by simp; omega) (.call (M0 (by omega) h (by omega) (by omega) (c:=⟨o.Call,false,ByteArray.empty,(if s.stable > o.T then s.stable else o.T),[]++o.Writes⟩) hc (by simpa using hw) 2 rfl (if o.T > s.stable then o.T else s.stable) (λ_=>?_) 0 hi' mv) λx hx=>?_)))
   ·show (if o.T > s.stable then o.T else s.stable)≤(if s.stable > o.T then s.stable else o.T)
    split<;>split<;>omega
   ·exact .call (GM hN 0 i5 ow x.2.2.1 x.2.2.2.2.2.2.2.1 fl fd sd sa hx (by omega) (by omega)) λy hy=>.ret (.inr ⟨rfl,hy.1,Gi.mono hy.2 (Nat.le_refl _) (by omega)⟩)
  ·rcases hr with ⟨e1,e2⟩ | ⟨e1,e2,e3⟩
   ·obtain ⟨r1,r2⟩:=r
    simp only at e1 e2
    subst e2
    exact fail (show r1≠0 from e1) ⟨h,rfl,rfl⟩
   ·have h5:opS S i o.Kind r.1=upS S i 2:=by
     unfold opS
     rw [if_neg (λh=>by have:=h.2; omega),if_pos ⟨e1,h1⟩]
    have h6 : ∀a,opA A i o.Kind r.1 a=upS A i a:=λa=>by
     unfold opA
     rw [if_pos ⟨e1,h1⟩]
    unfold dQ
    show tQ _ _ _ (opS S i o.Kind r.1) (opA A i o.Kind r.1 _) _ _ _ _
    rw [h5,h6]
    exact ⟨_,Gi.mono e3 (Nat.le_succ k) (Nat.le_refl _),.inl ⟨rfl,rfl⟩,λ_ s' e=>⟨s',e2.trans e,Int.le_refl _⟩⟩
 ·have h4:o.Kind=4:=by simpa using h4
  refine .call (N8 0 i5 (by omega) (by omega) (by omega)) λr ⟨e1,e2⟩=>.ret (other (by omega) (by omega) ⟨S,?_,.inl ⟨rfl,rfl⟩,λ_ s' e=>⟨s',e1.trans e,Int.le_refl _⟩⟩)
  exact ⟨h.ep,h.ba,⟨h.tx.1,by have:=h.tx.2; show iZ≤_; omega⟩,h.mp,h.mo,h.ag,h.ol,⟨s,e1,(by obtain ⟨s',e,hs⟩:=h.st; simp only [Option.some.injEq] at e; subst e; exact hs)⟩,(h.mono (Nat.le_succ k) (Nat.le_refl u)).lg,h.pd,h.cu,h.he,⟨h.ld.bx.mono (Nat.le_succ k),h.ld.ld.mono (by omega),h.ld.l0,by have:=h.ld.l1; show iX≤_; omega,by show r.2.2.length≤_; omega⟩,h.ed⟩
 ·unfold M.rX
  have h2:o.Kind≠2:=by simpa using h2
  have h3:o.Kind≠3:=by simpa using h3
  exact .ret (other h2 h3 ⟨S,Gi.mono h (Nat.le_succ k) (by omega),.inl ⟨rfl,rfl⟩,λ_ s' e=>⟨s',e,Int.le_refl _⟩⟩)
abbrev gmk (g:jV) (r:TkT) (rs:List jL):jV:=jV.mk g.dc g.nodes r.1 r.2.1 r.2.2.1 r.2.2.2.1 r.2.2.2.2.1 r.2.2.2.2.2.1 r.2.2.2.2.2.2.1 r.2.2.2.2.2.2.2.1 r.2.2.2.2.2.2.2.2.1 r.2.2.2.2.2.2.2.2.2.1 r.2.2.2.2.2.2.2.2.2.2.1 r.2.2.2.2.2.2.2.2.2.2.2.1 r.2.2.2.2.2.2.2.2.2.2.2.2.1 r.2.2.2.2.2.2.2.2.2.2.2.2.2.1 r.2.2.2.2.2.2.2.2.2.2.2.2.2.2.1 r.2.2.2.2.2.2.2.2.2.2.2.2.2.2.2.1 r.2.2.2.2.2.2.2.2.2.2.2.2.2.2.2.2.1 r.2.2.2.2.2.2.2.2.2.2.2.2.2.2.2.2.2.1 r.2.2.2.2.2.2.2.2.2.2.2.2.2.2.2.2.2.2.1 r.2.2.2.2.2.2.2.2.2.2.2.2.2.2.2.2.2.2.2.1 r.2.2.2.2.2.2.2.2.2.2.2.2.2.2.2.2.2.2.2.2.1 r.2.2.2.2.2.2.2.2.2.2.2.2.2.2.2.2.2.2.2.2.2.1 r.2.2.2.2.2.2.2.2.2.2.2.2.2.2.2.2.2.2.2.2.2.2.1 r.2.2.2.2.2.2.2.2.2.2.2.2.2.2.2.2.2.2.2.2.2.2.2.1 r.2.2.2.2.2.2.2.2.2.2.2.2.2.2.2.2.2.2.2.2.2.2.2.2.1 r.2.2.2.2.2.2.2.2.2.2.2.2.2.2.2.2.2.2.2.2.2.2.2.2.2.1 r.2.2.2.2.2.2.2.2.2.2.2.2.2.2.2.2.2.2.2.2.2.2.2.2.2.2.1 r.2.2.2.2.2.2.2.2.2.2.2.2.2.2.2.2.2.2.2.2.2.2.2.2.2.2.2.1 r.2.2.2.2.2.2.2.2.2.2.2.2.2.2.2.2.2.2.2.2.2.2.2.2.2.2.2.2.1 r.2.2.2.2.2.2.2.2.2.2.2.2.2.2.2.2.2.2.2.2.2.2.2.2.2.2.2.2.2.1 r.2.2.2.2.2.2.2.2.2.2.2.2.2.2.2.2.2.2.2.2.2.2.2.2.2.2.2.2.2.2.1 rs
theorem NQ {N:Nat}(hN:1000000≤N){s:j4}{dc zz:Int}(hd:dc=0)(hzz:zz=z)(hst:st=some s){rs:List jL}(hrs:rs=[])(i5:Int)(ow:Bool)(hi':Int)(mv:Option j8)(a56 a57:Int)(a58:List Int)(fl:Int)(fd sd sa:Bool)(h:Gi i k u S A z ep iY iZ m mo ag old st log co iL cu he iM iU iW iV iX ed out)(hk:i≤k∧k≤100)(hu:u≤600000){o:kG}(hc:o.Call=(i:Int))(hm:BW o.Msg) :
  Okp (M.wR N dc zz i5 ep iY iZ m mo ag old ow st log co hi' iL cu he iM iU iW iV iX mv a56 a57 a58 ed fl fd sd sa out rs o) (dQ i k u S A z s o):=by
 subst hd hzz hst hrs
 exact gDo hN i5 ow hi' mv a56 a57 a58 fl fd sd sa h hk hu hc hm
theorem LC (a:Int):1≤IntKind.i64.wrap ((IntKind.i64.wrap (Int.tmod (IntKind.u64.wrap a) 4))+1)∧IntKind.i64.wrap ((IntKind.i64.wrap (Int.tmod (IntKind.u64.wrap a) 4))+1)≤4:=by
 have h0:0≤IntKind.u64.wrap a:=by rw [IntKind.wrap_u64]; omega
 rw [Int.tmod_eq_emod_of_nonneg h0]
 generalize IntKind.u64.wrap a=b at h0
 rw [kF (x:=b % 4) (by omega) (by omega),kF (by omega) (by omega)]
 omega
end Go.Cf
