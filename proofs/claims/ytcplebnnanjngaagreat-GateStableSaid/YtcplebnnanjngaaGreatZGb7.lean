/- The gate's iN, sixth part: what the order says. -/
import Derived.Test.YtcplebnnanjngaaGreatZGb6
import Derived.Test.YtcplebnnanjngaaGreatZM1
namespace Go.Cf
open Go
structure Gi (i k u:Nat)(S A:Int→Int)(z:Int)(ep iZ i2:Int)(m:jA)(mo:List Int)(ag:List Bool)(old:List Int)(st:Option j4)(log:Option jD)(co:Option j9)(iM:List (Option j5))(cu he:List Int)(iN:Mp Int Int)(iV:Mp Int j3)(iX:List j3)(iW:Mp Int jB)(iY:Int)(ed:List Int)(out:List i9):Prop where
 ep:0≤ep∧ep≤16384
 ba:0≤iZ∧iZ≤16384
 tx:0≤i2∧i2≤u
 mp:sJ m
 mo:mo.length=21
 ag:(ag.length:Int)=z
 ol:(old.length:Int)=z
 st : ∃s,st=some s∧rS z s
 lg : ∃l,log=some l∧t7 k 40 l
 pd : ∃cl cs rs,co=some ⟨some cl⟩∧iN=some cs∧iV=some rs∧Pd i S A iZ i2 cl cs rs iX iY
 cu:cu.length=4
 he:he.length=4
 ld:Ld k u iM iW iY out
 ed:FX ed
theorem Gi.z4 {i k u:Nat} {S A:Int→Int} {z ep iZ i2:Int} {m:jA} {mo:List Int} {ag:List Bool} {old:List Int} {st:Option j4} {log:Option jD} {co:Option j9} {iM:List (Option j5)} {cu he:List Int} {iN:Mp Int Int} {iV:Mp Int j3} {iX:List j3} {iW:Mp Int jB} {iY:Int} {ed:List Int} {out:List i9} (h:Gi i k u S A z ep iZ i2 m mo ag old st log co iM cu he iN iV iX iW iY ed out):1≤z∧z≤4:=by
 obtain ⟨s,_,hs⟩:=h.st
 exact ⟨hs.n1,hs.n4⟩
theorem Gi.new {i k u:Nat}{S A:Int→Int}(hr : ∀k,S k≠0→0≤k∧k<i){z ep iZ:Int}(he':0≤ep∧ep≤16384)(hb:0≤iZ∧iZ≤16384){m:jA}(hm:sJ m){mo:List Int}(hmo:mo.length=21){ag:List Bool}(hag:(ag.length:Int)=z){old:List Int}(hol:(old.length:Int)=z){s:j4}(hs:rS z s){iM:List (Option j5)}(hbx:v8 k iM){cu he:List Int}(hc:cu.length=4)(hh:he.length=4){iY:Int}(hl:0≤iY∧iY≤u){ed:List Int}(hed:FX ed){out:List i9}(ho:out.length≤u) :
  Gi i k u S A z ep iZ 0 m mo ag old (some s) (some ⟨[],[],0⟩) (some ⟨some []⟩) iM cu he (some []) (some []) [] (some []) iY ed out:=
 ⟨he',hb,⟨Int.le_refl _,by omega⟩,hm,hmo,hag,hol,⟨s,rfl,hs⟩,⟨_,rfl,LV⟩,⟨[],[],[],rfl,rfl,rfl,Pd.new i S A hr _ _ _⟩,hc,hh,⟨hbx,⟨[],rfl,List.Pairwise.nil,Nat.zero_le _,λ_ h=>by cases h⟩,hl.1,hl.2,ho⟩,hed⟩
theorem D6 {k:Nat}:v8 k (List.replicate 4 none):=⟨rfl,λb h=>by simp at h⟩
theorem LF {N:Nat} {a y:Int} (ha:0≤a∧a<4) (hy:0≤y∧y<4):M.oY N a y=some (5*a+y+2):=by
 unfold M.oY
 rw [kF (x:=5*a) (by omega) (by omega),kF (x:=1+5*a) (by omega) (by omega),kF (x:=1+5*a+y) (by omega) (by omega),kF (by omega) (by omega)]
 exact congrArg some (by omega)
theorem LI {N:Nat}(hN:1000≤N){dc z:Int}(hd:0≤dc∧dc<4)(hz:1≤z∧z≤4)(a3 ep a5 a6:Int)(a7:jA)(a13:Option j4)(a16:Option jD)(a19:Option j9)(hi':Int)(a23:List (Option j5)){cu he:List Int}(hc:cu.length=4)(hh:he.length=4)(cs:List (Int×Int))(rs:List (Int×j3))(iX:List j3)(ls:List (Int×jB))(mv:Option j8)(a48:Int)(a49 a52:List Int)(a55:Int)(a56 a57 a58:Bool){out:List i9}(ho:out.length<900000000){has:List Bool}(hs:has.length=4) :
  Okp (M.s6 N dc z a3 ep a5 a6 a7 a13 a16 a19 hi' a23 cu he (some cs) (some rs) iX (some ls) mv a48 a49 a52 a55 a56 a57 a58 out has) λr => ∃(s:j4) (cu he:List Int) (o:List i9),rS z s∧cu.length=4∧he.length=4∧o.length=out.length+1 ∧ ∃w,r=(1,w,0,⟨[],[0]⟩,some s,some ⟨[],[],0⟩,some ⟨some []⟩,List.replicate 4 none,cu,he,some [],some [],[],some [],none,0,[],[],0,false,false,false,o)∧w=ep:=by
 unfold M.s6 M.uE
 refine .call (FR (by omega) a3 ep a5 a6 a7 a16 a19 a23 hc hh (some cs) (some rs) iX (some ls) mv a48 a49 a52 a55 a56 a57 a58) λr ⟨cu',he',e1,e2,e3⟩ => .bind (.ret ?_)
 subst e3
 refine .ix hd.1 (by omega) λ_ _ => .call (L5 dc z hd hz (by simpa using hs)) λx ⟨_,s,e4,e5⟩=>?_
 rw [e4]
 exact .bind (.ret (.call (KM (by omega) e5 dc ep) λy hy => .call (wK (by omega) _ _ _) λo ho' => .ret ⟨y.2,cu',he',o,hy,e1,e2,ho',ep,rfl,rfl⟩))
def jQ (k:Nat) (z:Int) (n:Nat) (r:Option j4×Option jD×List (Option j5)×List Int×List Int×Int×Int×List Int×List i9):Prop:=
 (∃s,r.1=some s∧rS z s)∧(∃l,r.2.1=some l∧t7 k 40 l)∧v8 k r.2.2.1∧r.2.2.2.1.length=4∧r.2.2.2.2.1.length=4∧r.2.2.2.2.2.2.2.2.length≤n+4
theorem GV (N:Nat){dc z:Int}(hz:1≤z∧z≤4)(a4:Int){iM:List (Option j5)}{cu he:List Int}{k:Nat}(hb:v8 k iM)(hc:cu.length=4)(hh:he.length=4)(a30:Int)(x41:Int×j4)(hs:rS z x41.2){b:j5}(hx:v7 k 40 k b){lg:jD}(hl:t7 k 40 lg)(y120:List Int)(n:Nat)(hn:n<900000000) : ∀(i3:Nat)(j:Int)(out:List i9),0≤j→j≤z→z-j<i3→(out.length:Int)≤n+j →
  Okp (M.nQ N i3 dc z a4 iM cu he a30 x41 b (some lg) y120 out j) (jQ k z n)
 | 0,j,out,g0,g1,g2,g3=>by omega
 | i3+1,j,out,g0,g1,g2,g3=>by
  unfold M.nQ
  rw [kF (x:=j+1) (by omega) (by omega)]
  refine .bp (λhj => .call (wK (by omega) _ _ _) λo ho=>?_) λ_ => .ret ⟨⟨x41.2,rfl,hs⟩,⟨lg,rfl,hl⟩,hb.set _ (λb' e=>by simp only [Option.some.injEq] at e; subst e; exact hx),by simp [hc],by simp [hh],by show out.length≤_; omega⟩
  exact GV N hz a4 hb hc hh a30 x41 hs hx hl y120 n hn i3 _ o (by omega) (by omega) (by omega) (by omega)
theorem GW (N:Nat)(hN:1000≤N){dc z:Int}(hz:1≤z∧z≤4)(a4:Int){iM:List (Option j5)}{cu he:List Int}{k:Nat}(hb:v8 k iM)(hc:cu.length=4)(hh:he.length=4)(a30:Int)(x41:Int×j4)(hs:rS z x41.2){b:j5}(hx:v7 k 40 k b){lg:jD}(hl:t7 k 40 lg){out:List i9}(hn:out.length<900000000) : ∀(i3:Nat)(j:Int)(ys:List Int),0≤j→j≤4→4-j<i3→(ys.length:Int)≤j →
  Okp (M.lQ N i3 dc z a4 iM cu he out a30 x41 b (some lg) ys j) (jQ k z out.length)
 | 0,j,ys,g0,g1,g2,g3=>by omega
 | i3+1,j,ys,g0,g1,g2,g3=>by
  have hb4:=hb.1
  have fin:j<4 → ∀y155,Okp (M.oN N (M.lQ N i3) dc z a4 iM cu he out a30 x41 b ys j (some lg) y155) (jQ k z out.length):=λhj y155=>by
   unfold M.oN
   rw [kF (x:=j+1) (by omega) (by omega)]
   exact .ap (by simp; omega) (GW N hN hz a4 hb hc hh a30 x41 hs hx hl hn i3 _ _ (by omega) (by omega) (by omega) (by simp; omega))
  unfold M.lQ
  refine .bp (λhj => .ix g0 (by simp; omega) λ_ _ => .call (R:=λ_=>True) (.ix g0 (by simp; omega) λy _ => .oc (λ_=>by unfold M.pY; exact .bind (.ret (.ret trivial))) λb _=>by unfold M.sI; exact .bind (.ret (.ret trivial))) λv _ => .bb (λ_ => .bind (.ret ?_)) λ_=>fin hj _) λ_=>GV N hz a4 hb hc hh a30 x41 hs hx hl ys out.length hn N 0 out (by omega) (by omega) (by omega) (by omega)
  unfold M.oH
  exact .bind (.ret (fin hj _))
theorem GU (N:Nat)(hN:1000≤N){dc z:Int}(hz:1≤z∧z≤4)(a4:Int){lg:jD}{k:Nat}(hl:t7 k 40 lg){iM:List (Option j5)}{cu he:List Int}(hb:v8 k iM)(hc:cu.length=4)(hh:he.length=4)(a19 a20:Int)(a21:List Int){out:List i9}(hn:out.length<900000000){a30:Int}(h3:0≤a30∧a30<4){s:j4}(hs:rS z s)(y35:Int) :
  Okp (M.oO N dc z a4 (some lg) iM cu he a19 a20 a21 out a30 (some s) y35) (jQ k z out.length):=by
 have hb4:=hb.1
 unfold M.oO
 refine .bind (.ret (.call (KM (by omega) hs a30 a4) λx hx => .ix h3.1 (by omega) λ_ _ => .call (LD (v:=40) (k:=k) (q:=k) 0 (by decide)) λb hbk => .ix h3.1 (by omega) λ_ _ => .ix h3.1 (by omega) λ_ _ => .bb (λ_=>?_) λ_=>GW N hN hz a4 hb hc hh a30 x hx hbk hl hn N 0 [] (by omega) (by omega) (by omega) (by simp)))
 exact .ret ⟨⟨x.2,rfl,hx⟩,⟨lg,rfl,hl⟩,hb.set _ (λb' e=>by simp only [Option.some.injEq] at e; subst e; exact hbk),by simp [hc],by simp [hh],by show out.length≤_; omega⟩
theorem KB {N:Nat}(hN:1000≤N){dc z:Int}(hz:1≤z∧z≤4)(a4:Int){s:j4}(hs:rS z s){lg:jD}{k:Nat}(hl:t7 k 40 lg){iM:List (Option j5)}{cu he:List Int}(hb:v8 k iM)(hc:cu.length=4)(hh:he.length=4)(a19 a20:Int)(a21:List Int){out:List i9}(hn:out.length<900000000){a30:Int}(h3:0≤a30∧a30<4) :
  Okp (M.rO N dc z a4 (some s) (some lg) iM cu he a19 a20 a21 out a30) (jQ k z out.length):=by
 have lp : ∀(i3:Nat) (j:Int),0≤j→j≤4→4-j<i3→Okp (M.nP N i3 dc z a4 (some lg) iM cu he a19 a20 a21 out a30 s s.got.Has j) (jQ k z out.length):=by
  intro i3
  induction i3 with
  | zero=>intro j g0 g1 g2; omega
  | succ i3 ih=>
   intro j g0 g1 g2
   unfold M.nP
   rw [kF (x:=j+1) (by omega) (by omega)]
   exact .bp (λhj => .ix g0 (by rw [hs.got.1]; omega) λ_ _ => .call (R:=λ_=>True) (.bb (λ_ => .ret trivial) λ_ => .ret trivial) λ_ _ => .bb (λ_=>GU N hN hz a4 hl hb hc hh a19 a20 a21 hn h3 hs j) λ_=>ih _ (by omega) (by omega) (by omega)) λ_=>GU N hN hz a4 hl hb hc hh a19 a20 a21 hn h3 hs a30
 unfold M.rO M.lZ
 exact .bind (.ret (.bind (.ret (lp N 0 (by omega) (by omega) (by omega)))))
end Go.Cf
