/- The gate's iM, sixth part: what the order says. -/
import Derived.Test.YtcplebnnanjngaaGreatZGb6
import Derived.Test.YtcplebnnanjngaaGreatZM1
set_option linter.unusedVariables false
namespace Go.Cf
open Go
structure Gi (i k u:Nat)(S A:Int→Int)(z:Int)(ep iY iZ:Int)(m:j5)(mo:List Int)(ag:List Bool)(old:List Int)(st:Option j4)(log:Option jC)(co:Option j9)(iL:List (Option j3))(cu he:List Int)(iM:Mp Int Int)(iU:Mp Int i8)(iW:List i8)(iV:Mp Int jA)(iX:Int)(ed:List Int)(out:List i9):Prop where
 ep:0≤ep∧ep≤16384
 ba:0≤iY∧iY≤16384
 tx:0≤iZ∧iZ≤u
 mp:sP m
 mo:mo.length=21
 ag:(ag.length:Int)=z
 ol:(old.length:Int)=z
 st : ∃s,st=some s∧rW z s
 lg : ∃l,log=some l∧tE k 40 l
 pd : ∃cl cs rs,co=some ⟨some cl⟩∧iM=some cs∧iU=some rs∧Pd i S A iY iZ cl cs rs iW iX
 cu:cu.length=4
 he:he.length=4
 ld:Ld k u iL iV iX out
 ed:GR ed
theorem Gi.z4 {i k u:Nat} {S A:Int→Int} {z ep iY iZ:Int} {m:j5} {mo:List Int} {ag:List Bool} {old:List Int} {st:Option j4} {log:Option jC} {co:Option j9} {iL:List (Option j3)} {cu he:List Int} {iM:Mp Int Int} {iU:Mp Int i8} {iW:List i8} {iV:Mp Int jA} {iX:Int} {ed:List Int} {out:List i9} (h:Gi i k u S A z ep iY iZ m mo ag old st log co iL cu he iM iU iW iV iX ed out):1≤z∧z≤4:=by
 obtain ⟨s,_,hs⟩:=h.st
 exact ⟨hs.n1,hs.n4⟩
theorem Gi.new {i k u:Nat}{S A:Int→Int}(hr : ∀k,S k≠0→0≤k∧k<i){z ep iY:Int}(he':0≤ep∧ep≤16384)(hb:0≤iY∧iY≤16384){m:j5}(hm:sP m){mo:List Int}(hmo:mo.length=21){ag:List Bool}(hag:(ag.length:Int)=z){old:List Int}(hol:(old.length:Int)=z){s:j4}(hs:rW z s){iL:List (Option j3)}(hbx:vM k iL){cu he:List Int}(hc:cu.length=4)(hh:he.length=4){iX:Int}(hl:0≤iX∧iX≤u){ed:List Int}(hed:GR ed){out:List i9}(ho:out.length≤u) :
  Gi i k u S A z ep iY 0 m mo ag old (some s) (some ⟨[],[],0⟩) (some ⟨some []⟩) iL cu he (some []) (some []) [] (some []) iX ed out:=
 ⟨he',hb,⟨Int.le_refl _,by omega⟩,hm,hmo,hag,hol,⟨s,rfl,hs⟩,⟨_,rfl,N3⟩,⟨[],[],[],rfl,rfl,rfl,Pd.new i S A hr _ _ _⟩,hc,hh,⟨hbx,⟨[],rfl,List.Pairwise.nil,Nat.zero_le _,λ_ h=>by cases h⟩,hl.1,hl.2,ho⟩,hed⟩
theorem DZ {k:Nat}:vM k (List.replicate 4 none):=⟨rfl,λb h=>by simp at h⟩
theorem MN {N:Nat} {a y:Int} (ha:0≤a∧a<4) (hy:0≤y∧y<4):M.pH N a y=some (5*a+y+2):=by
 unfold M.pH
 rw [kF (x:=5*a) (by omega) (by omega),kF (x:=1+5*a) (by omega) (by omega),kF (x:=1+5*a+y) (by omega) (by omega),kF (by omega) (by omega)]
 exact congrArg some (by omega)
theorem MR {N:Nat}(hN:1000≤N){dc z:Int}(hd:0≤dc∧dc<4)(hz:1≤z∧z≤4)(a3 ep a5 a6:Int)(a7:j5)(a13:Option j4)(a16:Option jC)(a19:Option j9)(hi':Int)(a23:List (Option j3)){cu he:List Int}(hc:cu.length=4)(hh:he.length=4)(cs:List (Int×Int))(rs:List (Int×i8))(iW:List i8)(ls:List (Int×jA))(mv:Option j8)(a48:Int)(a49 a52:List Int)(a55:Int)(a56 a57 a58:Bool){out:List i9}(ho:out.length<900000000){has:List Bool}(hs:has.length=4) :
  Okp (M.sA N dc z a3 ep a5 a6 a7 a13 a16 a19 hi' a23 cu he (some cs) (some rs) iW (some ls) mv a48 a49 a52 a55 a56 a57 a58 out has) λr=>∃(s:j4) (cu he:List Int) (o:List i9),rW z s∧cu.length=4∧he.length=4∧o.length=out.length+1 ∧ ∃w,r=(1,w,0,⟨[],[0]⟩,some s,some ⟨[],[],0⟩,some ⟨some []⟩,List.replicate 4 none,cu,he,some [],some [],[],some [],none,0,[],[],0,false,false,false,o)∧w=ep:=by
 unfold M.sA M.uN
 refine .call (GN (by omega) a3 ep a5 a6 a7 a16 a19 a23 hc hh (some cs) (some rs) iW (some ls) mv a48 a49 a52 a55 a56 a57 a58) λr ⟨cu',he',e1,e2,e3⟩=>.bind (.ret ?_)
 subst e3
 refine .ix hd.1 (by omega) λ_ _=>.call (MB dc z hd hz (by simpa using hs)) λx ⟨_,s,e4,e5⟩=>?_
 rw [e4]
 exact .bind (.ret (.call (LW (by omega) e5 dc ep) λy hy=>.call (wU (by omega) _ _ _) λo ho'=>.ret ⟨y.2,cu',he',o,hy,e1,e2,ho',ep,rfl,rfl⟩))
def jQ (k:Nat) (z:Int) (n:Nat) (r:Option j4×Option jC×List (Option j3)×List Int×List Int×Int×Int×List Int×List i9):Prop:=
 (∃s,r.1=some s∧rW z s)∧(∃l,r.2.1=some l∧tE k 40 l)∧vM k r.2.2.1∧r.2.2.2.1.length=4∧r.2.2.2.2.1.length=4∧r.2.2.2.2.2.2.2.2.length≤n+4
theorem HN (N:Nat){dc z:Int}(hz:1≤z∧z≤4)(a4:Int){iL:List (Option j3)}{cu he:List Int}{k:Nat}(hb:vM k iL)(hc:cu.length=4)(hh:he.length=4)(a30:Int)(x41:Int×j4)(hs:rW z x41.2){b:j3}(hx:vL k 40 k b){lg:jC}(hl:tE k 40 lg)(y120:List Int)(n:Nat)(hn:n<900000000) : ∀(i2:Nat)(j:Int)(out:List i9),0≤j→j≤z→z-j<i2→(out.length:Int)≤n+j →
  Okp (M.nV N i2 dc z a4 iL cu he a30 x41 b (some lg) y120 out j) (jQ k z n)
 | 0,j,out,g0,g1,g2,g3=>by omega
 | i2+1,j,out,g0,g1,g2,g3=>by
  unfold M.nV
  rw [kF (x:=j+1) (by omega) (by omega)]
  refine .bp (λhj=>.call (wU (by omega) _ _ _) λo ho=>?_) λ_=>.ret ⟨⟨x41.2,rfl,hs⟩,⟨lg,rfl,hl⟩,hb.set _ (λb' e=>by simp only [Option.some.injEq] at e; subst e; exact hx),by simp [hc],by simp [hh],by show out.length≤_; omega⟩
  exact HN N hz a4 hb hc hh a30 x41 hs hx hl y120 n hn i2 _ o (by omega) (by omega) (by omega) (by omega)
theorem HO (N:Nat)(hN:1000≤N){dc z:Int}(hz:1≤z∧z≤4)(a4:Int){iL:List (Option j3)}{cu he:List Int}{k:Nat}(hb:vM k iL)(hc:cu.length=4)(hh:he.length=4)(a30:Int)(x41:Int×j4)(hs:rW z x41.2){b:j3}(hx:vL k 40 k b){lg:jC}(hl:tE k 40 lg){out:List i9}(hn:out.length<900000000) : ∀(i2:Nat)(j:Int)(ys:List Int),0≤j→j≤4→4-j<i2→(ys.length:Int)≤j →
  Okp (M.lQ N i2 dc z a4 iL cu he out a30 x41 b (some lg) ys j) (jQ k z out.length)
 | 0,j,ys,g0,g1,g2,g3=>by omega
 | i2+1,j,ys,g0,g1,g2,g3=>by
  have hb4:=hb.1
  have fin:j<4 → ∀y155,Okp (M.oY N (M.lQ N i2) dc z a4 iL cu he out a30 x41 b ys j (some lg) y155) (jQ k z out.length):=λhj y155=>by
   unfold M.oY
   rw [kF (x:=j+1) (by omega) (by omega)]
   exact .ap (by simp; omega) (HO N hN hz a4 hb hc hh a30 x41 hs hx hl hn i2 _ _ (by omega) (by omega) (by omega) (by simp; omega))
  unfold M.lQ
  refine .bp (λhj=>.ix g0 (by simp; omega) λ_ _=>.call (R:=λ_=>True) (.ix g0 (by simp; omega) λy _=>.oc (λ_=>by unfold M.qD; exact .bind (.ret (.ret trivial))) λb _=>by unfold M.sO; exact .bind (.ret (.ret trivial))) λv _=>.bb (λ_=>.bind (.ret ?_)) λ_=>fin hj _) λ_=>HN N hz a4 hb hc hh a30 x41 hs hx hl ys out.length hn N 0 out (by omega) (by omega) (by omega) (by omega)
  unfold M.oT
  exact .bind (.ret (fin hj _))
theorem HM (N:Nat)(hN:1000≤N){dc z:Int}(hz:1≤z∧z≤4)(a4:Int){lg:jC}{k:Nat}(hl:tE k 40 lg){iL:List (Option j3)}{cu he:List Int}(hb:vM k iL)(hc:cu.length=4)(hh:he.length=4)(a19 a20:Int)(a21:List Int){out:List i9}(hn:out.length<900000000){a30:Int}(h3:0≤a30∧a30<4){s:j4}(hs:rW z s)(y35:Int) :
  Okp (M.oZ N dc z a4 (some lg) iL cu he a19 a20 a21 out a30 (some s) y35) (jQ k z out.length):=by
 have hb4:=hb.1
 unfold M.oZ
 refine .bind (.ret (.call (LW (by omega) hs a30 a4) λx hx=>.ix h3.1 (by omega) λ_ _=>.call (MK (v:=40) (k:=k) (q:=k) 0 (by decide)) λb hbk=>.ix h3.1 (by omega) λ_ _=>.ix h3.1 (by omega) λ_ _=>.bb (λ_=>?_) λ_=>HO N hN hz a4 hb hc hh a30 x hx hbk hl hn N 0 [] (by omega) (by omega) (by omega) (by simp)))
 exact .ret ⟨⟨x.2,rfl,hx⟩,⟨lg,rfl,hl⟩,hb.set _ (λb' e=>by simp only [Option.some.injEq] at e; subst e; exact hbk),by simp [hc],by simp [hh],by show out.length≤_; omega⟩
theorem LJ {N:Nat}(hN:1000≤N){dc z:Int}(hz:1≤z∧z≤4)(a4:Int){s:j4}(hs:rW z s){lg:jC}{k:Nat}(hl:tE k 40 lg){iL:List (Option j3)}{cu he:List Int}(hb:vM k iL)(hc:cu.length=4)(hh:he.length=4)(a19 a20:Int)(a21:List Int){out:List i9}(hn:out.length<900000000){a30:Int}(h3:0≤a30∧a30<4) :
  Okp (M.rT N dc z a4 (some s) (some lg) iL cu he a19 a20 a21 out a30) (jQ k z out.length):=by
 have lp : ∀(i2:Nat) (j:Int),0≤j→j≤4→4-j<i2→Okp (M.nU N i2 dc z a4 (some lg) iL cu he a19 a20 a21 out a30 s s.got.Has j) (jQ k z out.length):=by
  intro i2
  induction i2 with
  | zero=>intro j g0 g1 g2; omega
  | succ i2 ih=>
   intro j g0 g1 g2
   unfold M.nU
   rw [kF (x:=j+1) (by omega) (by omega)]
   exact .bp (λhj=>.ix g0 (by rw [hs.got.1]; omega) λ_ _=>.call (R:=λ_=>True) (.bb (λ_=>.ret trivial) λ_=>.ret trivial) λ_ _=>.bb (λ_=>HM N hN hz a4 hl hb hc hh a19 a20 a21 hn h3 hs j) λ_=>ih _ (by omega) (by omega) (by omega)) λ_=>HM N hN hz a4 hl hb hc hh a19 a20 a21 hn h3 hs a30
 unfold M.rT M.m0
 exact .bind (.ret (.bind (.ret (lp N 0 (by omega) (by omega) (by omega)))))
end Go.Cf
