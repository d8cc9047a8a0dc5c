/- The walks: each function returns what its model says. Printed by a program of ours. -/
import Derived.Test.YtcplebnnanjngaaGreatZSh
import Derived.Test.YtcplebnnanjngaaGreatZM1
import Derived.Test.YtcplebnnanjngaaGreatZWs
import Derived.Test.YtcplebnnanjngaaGreatZWo
import Derived.Test.YtcplebnnanjngaaGreatZWi
import Derived.Test.YtcplebnnanjngaaGreatZWp
import Derived.Test.YtcplebnnanjngaaGreatZWg1
namespace Go.Cf
open Go Go.Proofs Tryz
open _root_.Int(toNat tdiv tmod)
open _root_.List(set replicate)
open _root_.ByteArray(empty)
open Go.IntKind(i64 u64)
set_option linter.unusedVariables false
set_option maxRecDepth 20000
set_option maxHeartbeats 8000000
theorem tK (N){e}{d}(h:lG e d)(i)(j : ∀m∈([]:List MP),m.p e d){r}(H:M.qP N i=some r) :
    Calls Tryz.prog 66 #[.slice none 0 0] d (kP [] e d λv κ w=>∃f g,v = .slice f r.length g∧(∀m∈([Ro.mp jG.ty f g r]:List MP),m.p κ w)∧sJ d κ w [.tok f 48 6 r.length g]):=by
 have c:=SS.start h j
 refine en func66 rfl ntmps66 λa b=>?_
 unfold M.qP at H
 refine qs λ_ hz=>rl (wp 1 [0] b λa b=>nl (hz _ _ (qs λ_ n=>qr λ_ k=>wp 2 [0,4] b λa b=>k _ _ (ct b rfl (qr λ_ l=>wp 1 [2] b λa b=>l _ _ (rt ?_))))))
 have c:=c.add (m:=Ro.mp jG.ty none 0 ([]:List jB)) (Ro.nil jG.ty _ _)
 have c:=c.addNil 48 6
 cases H
 exact (j7 b c (l4 results66 (rvt b)) ⟨none,0,rfl,(c.pick [0] kr).ro,c.newC [0] dc kr⟩)
theorem tJ (N){k}{d}(l:lG k d)(e)(h)(j)(s : ∀m∈([Ro.mp jG.ty (some h) j e]:List MP),m.p k d){r}(H:M.mJ N e=some r) :
    Calls Tryz.prog 66 #[.slice (some h) e.length j] d (kP [] k d λv κ w=>∃f g,v = .slice f r.length g∧(∀m∈([Ro.mp jG.ty f g r]:List MP),m.p κ w)∧sJ d κ w [.tok f 48 6 r.length g]):=by
 have c:=SS.start l s
 refine en func66 rfl ntmps66 λa b=>?_
 unfold M.mJ at H
 refine qr λ_ t=>(wp 1 [0] b λa b=>(t _ _ (qs λ_ u=>qr λ_ x=>(jE (L':=[(0,.slice (some h) e.length j),(4,vb false)]) 2 [0,4] b kr λa b=>(x _ _ (cf b rfl (sk (u _ _ (qr λ_ y=>(wc (I2 b c kr jG.ty (E:=48) rfl kr kr λA κ a w b c=>jE (L':=[(5,.slice A (([]:List jB)).length 0),(6,.slice (some h) e.length j)]) 1 [5,6] b kr λa b=>bd H λB n H=>wc (kJ (ty:=jG.ty) b c kr 0 0 1 rfl rfl rfl kr kr rfl rfl rfl n kr (i:=Tryz.t48) (z := .agg (flat (k0k empty)).toArray) kr kr kr λo q κ a w b c=>?_))))))))))))
 refine wp 1 [2] b λa b=>y _ _ (rt ?_)
 cases H
 exact (j7 b c (l4 results66 (rvt b)) ⟨o,q,rfl,(c.pick [0] kr).ro,c.newC [0] dc kr⟩)
theorem oR (N){f}{a}(e:lG f a)(d)(g)(i)(j : ∀m∈([Ro.mp jG.ty g i d]:List MP),m.p f a){r}(H:M.lH N d=some r) :
    Calls Tryz.prog 66 #[.slice g (d).length i] a (kP [] f a λv κ w=>∃b:Option Addr,∃c:Nat,v = .slice b (r).length c∧(∀m∈([Ro.mp jG.ty b c r]:List MP),m.p κ w)∧sJ a κ w [.tok b 48 6 (r).length c]):=by
 cases g with
 | some p=>exact tJ N e d p i j H
 | none=>
  obtain ⟨_,_,h | ⟨_,_,_,h,_⟩⟩:=j _ (List.mem_singleton_self _)
  · obtain ⟨k,l⟩:=h
    subst k l; cases H
    exact tK N e [] (λ_ h=>by cases h) rfl
  · cases h
theorem vD (N){j}{i}(x:lG j i)(c)(e)(f)(G : ∀m∈([Ro.mp (fInt .u64).ty e f c]:List MP),m.p j i){r}(H:M.mX N c=some r) :
    Calls Tryz.prog 67 #[.slice e c.length f] i (kP [] j i λv κ w=>v=vu r∧(∀m∈([]:List MP),m.p κ w)∧sJ i κ w []):=by
 have d:=SS.start x G
 refine en func67 rfl ntmps67 λa b=>?_
 unfold M.mX at H
 refine qr λ_ I=>wp 1 [0] b λa b=>I _ _ (m2 (λa w=>∃κ,Fr (25) [] [(0,.slice e c.length f)] a∧SS [] j i κ w [] [Ro.mp (fInt .u64).ty e f c]∧M.nP N c=some r) ?_ ?_)
 refine qr λ_ y=>wp 3 [0,7] b λa b=>y _ _ (bc b H (λhb H=>?_) λhb H=>?_)
 cases H
 refine sk ?_
 exact ⟨_,b.kp [0],d.sp [] [0],H⟩
 rintro a w ⟨κ,b,d,H⟩
 unfold M.nP at H
 refine qr λ_ J=>(jE (L':=[(0,.slice e c.length f),(9,.slice e c.length f)]) 1 [0,9] b kr λa b=>bd H λz s H=>wc (kR b d kr 0 (E:=32) (sz:=1) rfl rfl rfl kr rfl s kr kr λP Q a u b=>wc (mH (t:=(fInt .u64)) b d kr 0 0 (v:=vu z) rfl rfl u rfl s kr kr kr λa b=>wp 1 [0,3] b λa b=>(J _ _ (qs λ_ K=>qr λ_ A=>(wp 1 [0,3,4] b λa b=>(A _ _ (bk (jT (n:=N) (λn a w=>∃κ g h,Fr (25) [] [(0,.slice e c.length f),(3,vu g),(4,vi h)] a∧SS [] j i κ w [] [Ro.mp (fInt .u64).ty e f c]∧M.lE N n c g h=some r) ?_ ?_)))))))))
 exact ⟨_,z,1,b.kp [0,3,4],d.sp [] [0],H⟩
 rintro n a w ⟨κ,g,h,b,d,H⟩
 rcases n with _|o
 simp [M.lE] at H
 simp only [M.lE] at H
 refine qs λ_ B=>qr λ_ C=>wp 4 [0,3,4,15] b λa b=>C _ _ (bc b H (λhb H=>?_) λhb H=>?_)
 refine sk (B _ _ (qs λ_ D=>bk (rl (jE (L':=[(0,.slice e c.length f),(4,vi h),(18,vu g),(19,.slice e c.length f),(20,vi h)]) 3 [0,4,18,19,20] b kr λa b=>bd H λk l H=>wc (kR b d kr 0 (E:=32) (sz:=1) rfl rfl rfl kr rfl l kr kr λL O a q b=>wc (mH (t:=(fInt .u64)) b d kr 0 0 (v:=vu k) rfl rfl q rfl l kr kr kr λa b=>wp 2 [0,3,4] b λa b=>D _ _ (rl (wp 3 [0,3,4] b λa b=>nl ?_))))))))
 exact ⟨o,jb _,_,(if k > g then k else g),i64.wrap (h+1),b.kp [0,3,4],d.sp [] [0],H⟩
 refine xt (K _ _ (qr λ_ F=>wp 2 [2] b λa b=>F _ _ (rt ?_)))
 cases H
 exact (j7 b d (l4 results67 (rvt b)) ⟨rfl,(d.pick [] kr).ro,d.newC [] dc kr⟩)
theorem vI (N){Ms}{κ0}{w0}(T)(a3)(O)(a9:(List i9))(g)(e)(R)(L)(m5)(c6)(S)(Y)(Z)(F)(A)(B)(j)(hB:SB Ms κ0 w0 [.box j 87 [si T,(30,R),sm L,su O,(9,S),sl Y a9.length Z,(1,F)],k3j Y a9.length Z,mx L m5 c6] [k4c L m5 c6 a3,k3k Y Z a9,k42 A B e]){r}(H:M.pS N T a3 O a9 g e=some r) :
    Calls Tryz.prog 65 #[pt j 0,.agg (flat [si g.dc,si g.at_,si g.left,k37]).toArray,.slice A e.length B] w0 (kP Ms κ0 w0 λv κ w=>∃V an ao W X,v = .tuple #[]∧SS Ms κ0 w0 κ w [.box j 87 [si T,(30,R),sm V,su r.2.1,(9,S),sl W r.2.2.length X,(1,F)],k3j W r.2.2.length X,mx V an ao] [k4c V an ao r.1,k3k W X r.2.2]):=by
 have d:=hB.hS
 have bg:=d.fresh
 refine en func65 rfl ntmps65 λa b=>?_
 unfold M.pS at H
 refine qr λ_ aS=>wc (wbx b d [si g.dc,si g.at_,si g.left,k37] (sgN 4 jD) λJ a w b d=>aS _ _ (qr λ_ aT=>wp 3 [0,2,4,10,12] b λa b=>wc (wld b d 1 3 0 λa b=>wp 3 [0,2,4,14,16] b λa b=>wc (wst b d 1 3 1 [su (u64.wrap (O+1))] (sgN 1 jD) λa w b d=>aT _ _ (qr λ_ aU=>wp 3 [0,2,4,18,19] b λa b=>wc (wst b d 0 2 1 [si (e.length:Int)] (sgN 1 jD) λa w b d=>aU _ _ (qs λ_ aV=>qr λ_ aW=>wp 3 [0,4,20,21,22] b λa b=>aW _ _ ?_)))))))
 refine bk (jT (n:=N) (λn a w=>∃κ,∃K:List ByteArray,∃P Q,∃q:List i9,∃C D u,Fr (62) [] [k35 j,k2v J,(20,.slice A e.length B),(21,vi (e.length:Int)),(22,vi u)] a∧SS Ms κ0 w0 κ w [.box J 138 [si g.dc,si g.at_,si (e.length:Int),sl P K.length Q],.box j 87 [si T,(30,R),sm L,su (u64.wrap (O+1)),(9,S),sl C q.length D,(1,F)],.tok P 9 1 K.length Q,k3j C q.length D,mx L m5 c6] [k4c L m5 c6 a3,k3k C D q,k42 A B e,k3a P Q K]∧M.mG N n T a3 O g e K q u=some r) ?_ ?_)
 have d:=d.add (m:=Ro.mp lC.ty none 0 ([]:List ByteArray)) (Ro.nil lC.ty _ _)
 have d:=d.addNil 9 1
 exact ⟨_,([]:List ByteArray),none,0,a9,Y,Z,0,b.kp [0,4,20,21,22],d.sp [1,2,0,3,4] [1,2,3,0],H⟩
 rintro n a w ⟨κ,K,P,Q,q,C,D,u,b,d,H⟩
 rcases n with _|aa
 simp [M.mG] at H
 simp only [M.mG] at H
 refine qr λ_ aX=>(jE (L':=[k35 j,k2v J,(20,.slice A e.length B),(21,vi (e.length:Int)),(22,vi u),(23,vb (decide (u<(e.length:Int))))]) 1 [0,4,20,21,22,23] b kr λa b=>aX _ _ (qs λ_ aY=>bc b H (λhb H=>?_) λhb H=>?_))
 refine sk (aY _ _ (qs λ_ aZ=>bk (qr λ_ a0=>(bd H λf aq H=>wc (kR b d kr 2 (E:=141) (sz:=2) rfl rfl rfl kr rfl aq kr kr λbh bi a aB b=>?_)))))
 obtain ⟨_,⟨⟨o,p⟩,rfl,hR⟩,hc⟩:=d.elem 2 rfl aB aq
 have d:=(d.adds hR).add hc
 refine wc (kQ b kr (v := .agg (flat (k0x f o p)).toArray) ((pD 0 0 2 (s:=[si f.Node,sl o f.Vers.length p]) (s':=k0x f o p) (n:=2) rfl rfl rfl (show mK [si f.Node,sl o f.Vers.length p] from (sgN 2 jD)) kr kr kr kr kr _ ⟨_,d⟩)) λa b=>wc (wal b d k0v (sgN 2 jD) λab a w b d=>wc (wst b d 0 0 2 (k0x f o p) (sgN 2 jD) λa w b d=>a0 _ _ (qs λ_ a2=>?_))))
 refine qr λ_ a4=>(wp 1 [0,4,7,20,21,22,26] b λa b=>wc (wld b d 0 1 0 λa b=>wp 2 [0,4,7,20,21,22,27,28,29] b λa b=>(a4 _ _ (bk (jT (n:=N) (λn a w=>∃κ,∃x:List ByteArray,∃G I y,Fr (62) [] [k35 j,k2v J,(7,pt ab 0),(20,.slice A e.length B),(21,vi (e.length:Int)),(22,vi u),k3d o f.Vers.length p,(28,vi (f.Vers.length:Int)),(29,vi y)] a∧SS Ms κ0 w0 κ w [.box ab 141 (k0x f o p),.box J 138 [si g.dc,si g.at_,si (e.length:Int),sl G x.length I],.box j 87 [si T,(30,R),sm L,su (u64.wrap (O+1)),(9,S),sl C q.length D,(1,F)],.tok G 9 1 x.length I,k3j C q.length D,mx L m5 c6] [k4c L m5 c6 a3,k3k C D q,k42 A B e,k3l o p f.Vers,k3a G I x]∧M.nK N (M.mG N aa) n T a3 O g e q u f x y=some r) ?_ ?_)))))
 exact ⟨_,K,P,Q,0,b.kp [0,4,7,20,21,22,27,28,29],d.sp (rg 6) [2,3,4,1,5],H⟩
 rintro n a w ⟨κ,x,G,I,y,b,d,H⟩
 rcases n with _|aD
 simp [M.nK] at H
 simp only [M.nK] at H
 refine qr λ_ aJ=>(jE (L':=[k35 j,k2v J,(7,pt ab 0),(20,.slice A e.length B),(21,vi (e.length:Int)),(22,vi u),k3d o f.Vers.length p,(28,vi (f.Vers.length:Int)),(29,vi y),(30,vb (decide (y<(f.Vers.length:Int))))]) 1 [0,4,7,20,21,22,27,28,29,30] b kr λa b=>aJ _ _ (qs λ_ aL=>bc b H (λhb H=>?_) λhb H=>?_))
 refine sk (aL _ _ (qs λ_ aM=>bk (qr λ_ aO=>(bd H λU ad H=>wc (kR b d kr 3 (E:=48) (sz:=6) rfl rfl rfl kr rfl ad kr kr λa6 a8 a ar b=>wc (qY (t:=jG) b d kr 3 rfl rfl ar rfl ad kr kr kr λa b=>wc (wal b d (k0k empty) (sgN 6 jD) λaP a w b d=>wc (wst b d 0 0 6 (k0w U) (sgN 6 jD) λa w b d=>?_))))))))
 refine aO _ _ (rl (wp 1 [0,4,7,9,20,21,22,27,28,29,33] b λa b=>wc (wld b d 2 3 0 λa b=>jE (L':=[k35 j,k2v J,(7,pt ab 0),(20,.slice A e.length B),(21,vi (e.length:Int)),(22,vi u),k3d o f.Vers.length p,(28,vi (f.Vers.length:Int)),(29,vi y),(34,.slice G x.length I),(35,pt aP 0)]) 1 [0,4,7,20,21,22,27,28,29,34,35] b kr λa b=>wc (wld b d 0 0 0 λa b=>wc (oI (t:=lC) (z := .string (empty)) (l:=[U.Key]) (vs:=[(0,.string (U.Key))]) (cells := #[.string (U.Key)]) (E:=9) b d kr rfl kr kr rfl kr kr kr kr kr λba κ a w b d=>?_)))))
 refine bd H λau aE H=>wc (kJ (ty:=lC.ty) b d kr 5 5 0 rfl rfl rfl kr kr rfl rfl rfl aE kr (i:=Tryz.t9) (z := .string (empty)) kr kr kr λav aw κ a w b d=>wp 1 [0,4,7,20,21,22,27,28,29,38,39] b λa b=>wc (wst b d 3 3 1 [sl av au.length aw] (sgN 1 jD) λa w b d=>aM _ _ (rl (wp 2 [0,4,7,20,21,22,27,28,29] b λa b=>nl ?_))))
 exact ⟨aD,jb _,_,au,av,aw,i64.wrap (y+1),b.kp [0,4,7,20,21,22,27,28,29],d.sp (ra 2 6) [2,3,4,5,0],H⟩
 refine xt (a2 _ _ (rga (λ_=>True) [] ?_))
 have d:=d.drew
 refine anp [0,1,3,4,5,7] [0,4,20,21,22,41,42,46,48] b ja λa b=>mI d [10] (atk 2 (some 43) b (d.sx [0,1,2,5] (rg 5)) rfl (vld 0 0 0) λa b=>atk 6 (some 47) b (d.sx [0,1,2,5] (rg 5)) rfl (vld 2 3 0) λa b=>atk 8 (some 49) b (d.sx [0,1,2,5] (rg 5)) rfl (vld 0 1 0) λa b=>anp [9] [0,4,20,21,22,41,43,50] b (d.sx [0,1,2,5] (rg 5)) λa b=>ago 10 b rfl ?_)
 have d:=d.add (m:=Ro.mp (fInt .u64).ty none 0 ([]:List Int)) (Ro.nil (fInt .u64).ty _ _)
 refine bd H λax aF H=>?_
 have aj:=d.segs 2 rfl
 refine wcS 2 [2,4,0,1,3,5] b d (λd=>lJ N T q f.Node (jF.mk 4 (u64.wrap (O+1)) 0 0 empty empty f.Vers ([]:List Int) (jU.mk 0 0 0 0 0 empty)) (flat [(30,R),sm L,su (u64.wrap (O+1)),(9,S)]) C D F o p none 0 j ((d.regr 0 [(false,1),(true,4),(false,2)] rfl).sbK [2,4,0]) aF) ?_
 rintro _ κ w a ⟨ay,az,rfl,h2⟩ b hB
 have d:=(hB _ _ h2).unregrK 0 [(false,1),(true,4),(false,2)] (s':=[si T,(30,R),sm L,su (u64.wrap (O+1)),(9,S),sl ay ax.length az,(1,F)]) aj rfl
 refine ⟨notE,?_⟩
 refine kN (aZ _ _ (rl (wp 2 [0,4,20,21,22] b λa b=>nl ?_)))
 exact ⟨aa,jb _,_,x,G,I,ax,ay,az,i64.wrap (u+1),b.kp [0,4,20,21,22],d.sp [3,0,4,1,5] [2,0,4,6],H⟩
 refine xt (aV _ _ (rgX d [0,1] ?_))
 have d:=d.drew
 have hX:=d.px [0,1]
 refine jN [0,1,2,4,5,6] [4,55,59] (L':=[k2v J,(55,pt j 31),(59,pt j 32)]) (listed':=(mV 10 119)) (fuel:=4) b hX kr (by intro c a w t v h; cases t<;>exact h) kr rfl λa b=>atk 3 (some 56) b hX rfl (vld 1 2 0) λa b=>atk 7 (some 60) b hX rfl (vld 1 3 0) λa b=>atk 8 (some 61) b hX rfl (vls 0 0 4) λa b=>ago 9 b rfl (bd H λbf aH H=>oC (KT:=32) (E:=138) (kt:=(kInt .u64)) (agg:=true) (t:=mE) b d kr 4 0 (k:=u64.wrap (O+1)) (v:=(jA.mk g.dc g.at_ (e.length:Int) K)) (cs:=flat [si g.dc,si g.at_,si (e.length:Int),sl P K.length Q]) rfl kr kr kr ⟨(P,Q),rfl,(d.pick [3] kr).ro⟩ rfl rfl aH kr kr λaQ aR a w b d=>?_)
 refine ⟨λ_=>(d.sx [0,1] (ra 1 4)),?_⟩
 refine kN ?_
 cases H
 exact j7 b d (mL results65) ⟨L,aQ,aR,C,D,rfl,d.sp [1,3,4] [0,2]⟩
theorem yV (N){Ms}{κ0}{w0}(Z)(a3)(a5)(a8)(aj)(B)(an)(ah)(A:(List Int))(L:(List i9))(l)(f:jF)(T)(U)(W)(V)(X)(K)(C)(e)(D)(F)(o)(u)(x)(G)(j)(k)(I)(p)(q)(J)(O)(P)(Q)(R)(g)(hB:SB Ms κ0 w0 (k1q g Z T a3 U W X C e B F o ah G j A.length k I p L.length q J V a5 K a8 (arrX j6 e D aj) u x) (k1r (ml e 4) (ml B 4) o u x an j k A p q L O P f Q R)){r}(H:M.rD N Z a3 a5 a8 aj B an ah A L l f=some r) :
    Calls Tryz.prog 32 #[pt g 0,vi l,.agg (flat (k0c f O P Q R)).toArray] w0 (kP Ms κ0 w0 λv κ w=>∃bS bD bT bE a2 bF bi bj bl bm bn bo bq,v = .tuple #[]∧SS Ms κ0 w0 κ w (k1q g Z T a3 U bS bT C a2 r.2.2.2.1 F bi r.u4.2.1 G bm r.u4.2.2.1.length bn I bo r.u4.2.2.2.length bq J bD r.1 bE r.2.1 (arrX j6 a2 bF r.2.2.1) bj bl) (k1s (ml a2 4) (ml r.2.2.2.1 4) bi bj bl r.u4.1 bm bn r.u4.2.2.1 bo bq r.u4.2.2.2)):=by
 have d:=hB.hS
 have cX:=d.fresh
 refine en func32 rfl ntmps32 λa b=>?_
 unfold M.rD at H
 refine qr λ_ ce=>wc (wbx b d (k0c f O P Q R) (sgN 14 jD) λs a w b d=>ce _ _ (qs λ_ cg=>qr λ_ ch=>bd H λci aa H=>k8 (λa w=>∃κ,Fr (144) [] [k35 g,k2z l,k32 s,(18,vb ci)] a∧SS Ms κ0 w0 κ w (k1t s f O P Q R g Z T a3 U W X C e B F o ah G j A.length k I p L.length q J V a5 K a8 (arrX j6 e D aj) u x) (k1r (ml e 4) (ml B 4) o u x an j k A p q L O P f Q R)∧True) ?_ ?_))
 refine wp 3 [0,1,5,8] b λa b=>bs aa (λhb aa=>?_) λhb aa=>?_
 have b:=b.bv 8 hb
 refine wp 10 [0,1,5,18] b λa b=>nl ?_
 cases aa
 exact ⟨_,b.kp [0,1,5,18],d.sp (rg 8) (rg 7),ja⟩
 have b:=b.bv 8 hb
 refine wp 4 [0,1,5,12] b λa b=>bs aa (λhb aa=>?_) λhb aa=>?_
 have b:=b.bv 12 hb
 refine wp 6 [0,1,5,18] b λa b=>nl ?_
 cases aa
 exact ⟨_,b.kp [0,1,5,18],d.sp (rg 8) (rg 7),ja⟩
 have b:=b.bv 12 hb
 refine wp 3 [0,1,5,12,15] b λa b=>wcg b (wld b d 1 2 0 λa b=>wp 2 [0,1,5,18] b λa b=>nl ?_)
 cases aa
 exact ⟨_,b.kp [0,1,5,18],d.sp (rg 8) (rg 7),ja⟩
 rintro a w ⟨κ,b,d,-⟩
 refine ch _ _ (bc b H (λhb H=>?_) λhb H=>?_)
 refine rt ?_
 cases H
 exact j7 b d (mL results32) ⟨W,V,X,K,e,D,o,u,x,j,k,p,q,rfl,d.sp (ra 1 7) (rg 5)⟩
 refine sk (cg _ _ (qr λ_ cj=>(wp 1 [0,1,5,19] b λa b=>wc (wld b d 0 0 0 λa b=>(cj _ _ (bk (qr λ_ cl=>(jE (L':=[k35 g,k2z l,k32 s,(20,vi f.Kind),(21,vb (f.Kind==18))]) 2 [0,1,5,20,21] b kr λa b=>cl _ _ (bc b H (λhb H=>?_) λhb H=>?_)))))))))
 refine qs λ_ cm=>bd H λcn ab H=>kL (λa w=>∃κ a4,Fr (144) [] [k35 g,k2z l,k32 s,(45,vb cn)] a∧SS Ms κ0 w0 κ w (k1t s f O P Q R g Z T a3 U W X C e B F o ah G j A.length k I p L.length q J V a5 K a8 (arrX j6 e a4 aj) u x) (k1r (ml e 4) (ml B 4) o u x an j k A p q L O P f Q R)∧True) ?_ ?_
 refine bd ab λcY ay ab=>?_
 obtain ⟨bQ,aq⟩:=d.arrIdx 6 rfl ay
 have d:=d.add (m:=MP.const (idx e l=some bQ)) aq
 have ar:idx e l=some bQ:=d.get 0 rfl
 obtain ⟨cN,cO,d⟩:=d.arrTakeP 6 rfl ay ar
 refine kY ab (λad ab=>?_) (λcZ ad ab=>?_)
 obtain ⟨Y,d⟩:=d.optN 0 rfl ad
 have bU:=b
 subst Y
 have b:=bU
 obtain ⟨bV,d⟩:=d.arrBackI 0 1 (ra 2 7) dc rfl rfl ar (ay.trans (congrArg some ad))
 refine rl (jE (L':=[k35 g,k2z l,k32 s,(24,vi l),(26,pt g 16)]) 4 [0,1,5,24,26] b kr λa b=>wc (l7 b kr (E:=81) (sz:=1) (n:=4) rfl rfl (i:=l) rfl (m4 aq (d.get 1 rfl)) kr kr λa b=>wc (rK (t:=pO) b d kr 2 7 (v := .pointer none) rfl rfl rfl rfl aq rfl rfl kr kr λa b=>wp 17 [0,1,5,45] b λa b=>nl ?_)))
 cases ab
 exact ⟨_,bV,b.kp [0,1,5,45],d.sp [1,2,3,4,5,6,0,7] (ra 1 7),ja⟩
 obtain ⟨co,Y,d⟩:=d.optS 0 rfl ad
 have bW:=b
 subst Y
 have b:=bW
 refine rl (bd ab λcp ae ab=>k8 (λa w=>∃κ a6,Fr (144) [] [k35 g,k2z l,k32 s,(45,vb cp)] a∧SS Ms κ0 w0 κ w (k1t s f O P Q R g Z T a3 U W X C e B F o ah G j A.length k I p L.length q J V a5 K a8 (arrX j6 e a6 aj) u x) (k1r (ml e 4) (ml B 4) o u x an j k A p q L O P f Q R)∧True) ?_ ?_)
 refine jE (L':=[k35 g,k2z l,k32 s,(24,vi l),(26,pt g 16)]) 4 [0,1,5,24,26] b kr λa b=>wc (l7 b kr (E:=81) (sz:=1) (n:=4) rfl rfl (i:=l) rfl (m4 aq (d.get 1 rfl)) kr kr λa b=>wc (rK (t:=pO) b d kr 3 7 (v:=pt co 0) rfl rfl rfl rfl aq rfl rfl kr kr λa b=>wp 3 [0,1,5,30,31] b λa b=>wcg b (wld b d 2 1 0 λa b=>wp 3 [0,1,5,35] b λa b=>bs ae (λhb ae=>?_) λhb ae=>?_)))
 have b:=b.bv 35 hb
 refine wp 1 [0,1,5,35,36] b λa b=>wcg b (wld b d 2 2 0 λa b=>wp 3 [0,1,5,40] b λa b=>bs ae (λhb ae=>?_) λhb ae=>?_)
 have b:=b.bv 40 hb
 refine wp 1 [0,1,5,40,41] b λa b=>wcg b (wld b d 2 6 0 λa b=>wp 3 [0,1,5,45] b λa b=>?_)
 obtain ⟨bX,d⟩:=d.arrBackI 0 1 (ra 2 7) dc rfl rfl ar (ay.trans (congrArg some ad))
 refine nl ?_
 cases ae
 exact ⟨_,bX,b.kp [0,1,5,45],d.sp [1,2,3,4,5,6,0,7] (ra 1 7),ja⟩
 have b:=b.bv 40 hb
 refine wp 5 [0,1,5,45] b λa b=>?_
 obtain ⟨bY,d⟩:=d.arrBackI 0 1 (ra 2 7) dc rfl rfl ar (ay.trans (congrArg some ad))
 refine nl ?_
 cases ae
 exact ⟨_,bY,b.kp [0,1,5,45],d.sp [1,2,3,4,5,6,0,7] (ra 1 7),ja⟩
 have b:=b.bv 35 hb
 refine wp 10 [0,1,5,45] b λa b=>?_
 obtain ⟨bZ,d⟩:=d.arrBackI 0 1 (ra 2 7) dc rfl rfl ar (ay.trans (congrArg some ad))
 refine nl ?_
 cases ae
 exact ⟨_,bZ,b.kp [0,1,5,45],d.sp [1,2,3,4,5,6,0,7] (ra 1 7),ja⟩
 rintro a w ⟨κ,a6,b,d,-⟩
 cases ab
 exact ⟨_,a6,b.kp [0,1,5,45],d.sp (rg 8) (rg 7),ja⟩
 rintro a w ⟨κ,a4,b,d,-⟩
 refine cm _ _ (bc b H (λhb H=>?_) λhb H=>?_)
 refine bd H λc0 a7 H=>?_
 obtain ⟨bR,aQ⟩:=d.arrIdx 6 rfl a7
 have d:=d.add (m:=MP.const (idx e l=some bR)) aQ
 have aR:idx e l=some bR:=d.get 0 rfl
 obtain ⟨cP,cQ,d⟩:=d.arrTakeP 6 rfl a7 aR
 refine kY H (λaE H=>?_) (λcq aE H=>?_)
 obtain ⟨Y,d⟩:=d.optN 0 rfl aE
 have b0:=b
 subst Y
 have b:=b0
 obtain ⟨cR,d⟩:=d.arrBackI 0 1 (ra 2 7) dc rfl rfl aR (a7.trans (congrArg some aE))
 cases H
 obtain ⟨br,Y,d⟩:=d.optS 0 rfl aE
 have b1:=b
 subst Y
 have b:=b1
 obtain ⟨⟨cr,cs,cu,cv,cw,cx,cy⟩,d⟩:=d.unfI (ck:=lO) (fs:=lN) 0 rfl
 refine rga (λ_=>True) [] ?_
 have d:=d.drew
 refine jN [0,1,2,3,6,9,11,12,15] [47,49,52,55,57,58,61] (L':=[(47,vi l),(49,pt g 16),(52,pt s 1),(55,pt s 3),(57,vi l),(58,pt s 2),(61,pt s 6)]) (listed':=(mV 19 39503)) (fuel:=10) b ja kr (by intro c a w t v h; cases t<;>exact h) kr rfl λa b=>mI d [18] (atk 4 (some 50) b (d.sx [0,2,3,4,5,6,9,10,11] (rg 10)) rfl (λw _=>lU (E:=81) (sz:=1) (n:=4) rfl rfl (i:=l) rfl (m4 aQ (d.get 3 rfl)) kr kr w) λa b=>atk 5 (some 51) b (d.sx [0,2,3,4,5,6,9,10,11] (rg 10)) rfl (rZ (t:=pO) 5 7 (v:=pt br 0) rfl rfl rfl rfl aQ rfl rfl kr kr) λa b=>?_)
 refine atk 7 (some 53) b (d.sx [0,2,3,4,5,6,9,10,11] (rg 10)) rfl (vld 4 1 0) λa b=>anp [8] [51,54,55,57,58,61] b (d.sx [0,2,3,4,5,6,9,10,11] (rg 10)) λa b=>atk 10 (some 56) b (d.sx [0,2,3,4,5,6,9,10,11] (rg 10)) rfl (vld 4 3 0) λa b=>atk 13 (some 59) b (d.sx [0,2,3,4,5,6,9,10,11] (rg 10)) rfl (vld 4 2 0) λa b=>anp [14] [51,54,56,57,60,61] b (d.sx [0,2,3,4,5,6,9,10,11] (rg 10)) λa b=>atk 16 (some 62) b (d.sx [0,2,3,4,5,6,9,10,11] (rg 10)) rfl (vld 4 6 0) λa b=>?_
 refine anp [17] [51,54,63] b (d.sx [0,2,3,4,5,6,9,10,11] (rg 10)) λa b=>ago 18 b rfl (bd H λcz b2 H=>wcS 4 (rg 12) b d (λd=>BE N cq (i64.wrap f.Id) (kC.mk f.TS l (i64.wrap f.N) f.Vers) cr cs cu cv cw cx cy O P br (d.sbK [0,1,8]) b2) ?_)
 rintro _ κ w a ⟨cA,cB,cD,cE,cF,cG,cH,rfl,h2⟩ b hB
 have d:=hB _ _ h2
 refine ⟨notE,?_⟩
 refine kN ?_
 obtain ⟨cS,d⟩:=d.foldI (ck:=lO) (fs:=lN) br (cA,cB,cD,cE,cF,cG,cH) cz.2 (rg 4) (ra 4 8) [0,1] dc kr kr
 obtain ⟨b3,d⟩:=d.arrPutI 0 1 (ra 2 7) dc rfl rfl aR
 cases H
 exact j7 b d (mL results32) ⟨W,V,X,K,e,b3,o,u,x,j,k,p,q,rfl,d.sp [2,3,4,5,6,0,7] (ra 5 5)⟩
 refine sk ?_
 cases H
 exact j7 b d (mL results32) ⟨W,V,X,K,e,a4,o,u,x,j,k,p,q,rfl,d.sp (ra 1 7) (rg 5)⟩
 refine qr λ_ cI=>(jE (L':=[k35 g,k2z l,k32 s,(20,vi f.Kind),(65,vb (f.Kind==20))]) 2 [0,1,5,20,65] b kr λa b=>cI _ _ (bc b H (λhb H=>?_) λhb H=>?_))
 refine qs λ_ cJ=>bd H λaB ho H=>?_
 obtain ⟨ak,Y,d⟩:=d.optS 4 rfl ho
 rw [Y] at d
 try rw [Y] at b
 obtain ⟨⟨aL,aM⟩,d⟩:=d.unfI (ck:=jP) (fs:=jO) 4 rfl
 refine bd H λaD ho H=>?_
 obtain ⟨al,Y,d⟩:=d.optS 6 rfl ho
 rw [Y] at d
 try rw [Y] at b
 obtain ⟨⟨aX,aY,aZ,aG⟩,d⟩:=d.unfI (ck:=kW) (fs:=kT) 6 rfl
 refine bd H λb4 S H=>kL (λa w=>∃κ au av,Fr (144) [] [k35 g,k2z l,k32 s,(84,vb b4)] a∧SS Ms κ0 w0 κ w (k1u s f O P Q R g Z T a3 U ak al C e B F o ah G j A.length k I p L.length q J au aB av aD (arrX j6 e D aj) u x) (k1r (ml e 4) (ml B 4) o u x an j k A p q L O P f Q R)∧True) ?_ ?_
 refine rgS d [] ?_
 have d:=d.drew
 have hX:=d.fx
 refine bd S λcT ba S=>bd S λbt be S=>wY S (λaS S=>?_) (λaS S=>?_)
 refine bd S λcU bG S=>jN [0,1,2,5] [0,1,5,69,72] (L':=[k35 g,k2z l,k32 s,(69,pt g 12),(72,vi l)]) (listed':=(mV 18 39)) (fuel:=14) b hX kr (by intro c a w t v h; cases t<;>exact h) kr rfl λa b=>atk 3 (some 70) b hX rfl (vld 4 4 0) λa b=>ago 4 b rfl (wcS 2 [3,4,0,1,2,5,6,7,8,9,10] b d (λd=>pN N aB aL aM ak (d.sbK (ra 2 4)) ba) ?_)
 rintro _ κ w a ⟨rfl,h2⟩ b hB
 have d:=hB _ _ h2
 refine ⟨λ_=>(d.sx [2,0,1,5,6,9,10] (ra 1 13)),?_⟩
 refine ago 6 b rfl (kQ b kr (v:=vb bt) (pJ (t:=jM) (E:=4) (n:=4) (m:=4) rfl kr rfl be (d.get 0 rfl) rfl rfl kr kr kr _) λa b=>⟨λ_=>(d.sx [2,0,1,5,6,9,10] (ra 1 13)),?_⟩)
 refine anp [7] [0,1,5,74] b (d.sx [2,0,1,5,6,9,10] (ra 1 13)) λa b=>?_
 have b:=b.boolv 74 kr aS
 refine anp [8,10,11,12] [0,1,5,74,75,79] b (d.sx [2,0,1,5,6,9,10] (ra 1 13)) λa b=>atk 9 (some 76) b (d.sx [2,0,1,5,6,9,10] (ra 1 13)) rfl (vld 3 2 0) λa b=>atk 13 (some 80) b (d.sx [2,0,1,5,6,9,10] (ra 1 13)) rfl (vld 4 5 0) λa b=>ago 14 b rfl (wcS 1 [2,0,1,3,4,5,6,7,8,9,10] b d (λd=>tV N aD aX aY aZ aG al (d.sbK [1,2]) bG) ?_)
 rintro _ κ w a ⟨rfl,h2⟩ b hB
 have d:=(hB _ _ h2).cC (C':=[k3q al aX aD aY aZ aG,k34 ak aB aL aM,.ext (ownX (fInt .u64) 32 aL aM aB.beats),k3r aX aD.list.length aY,k3r aZ aD.waiting.length aG,k4p s f O P Q R,.box g 87 [si Z,(1,T),si a3,(9,U),k3v ak,k3v al,(2,C),k4d e,ei 4 B,(7,F),sm o,su ah,(4,G),sl j A.length k,(4,I),sl p L.length q,(1,J)],k46 j A.length k,k3j p L.length q,.ext (arrX j6 e D aj),mx o u x])
 refine ⟨λ_=>(d.sx [0,1,2,5,6,9,10] (ra 1 13)),?_⟩
 refine anp [15,16,17] [0,1,5,84] b (d.sx [0,1,2,5,6,9,10] (ra 1 13)) λa b=>kN ?_
 obtain ⟨bH,d⟩:=d.foldI (ck:=jP) (fs:=jO) ak (aL,aM) aB [1,2] [0,3,4,5,6,7,8,9,10] (ra 3 4) dc kr kr
 obtain ⟨bI,d⟩:=d.foldI (ck:=kW) (fs:=kT) al (aX,aY,aZ,aG) aD [1,2,3] [0,4,5,6,7,8,9] [1,2] dc kr kr
 cases S
 exact ⟨_,bH,bI,b.kp [0,1,5,84],d.sp [2,3,4,5,1,0,6,7] (ra 7 7),ja⟩
 refine jN [0,1,2,5] [0,1,5,69,72] (L':=[k35 g,k2z l,k32 s,(69,pt g 12),(72,vi l)]) (listed':=(mV 18 39)) (fuel:=14) b hX kr (by intro c a w t v h; cases t<;>exact h) kr rfl λa b=>atk 3 (some 70) b hX rfl (vld 4 4 0) λa b=>ago 4 b rfl (wcS 2 [3,4,0,1,2,5,6,7,8,9,10] b d (λd=>pN N aB aL aM ak (d.sbK (ra 2 4)) ba) ?_)
 rintro _ κ w a ⟨rfl,h2⟩ b hB
 have d:=hB _ _ h2
 refine ⟨λ_=>(d.sx [2,0,1,5,6,9,10] (ra 1 13)),?_⟩
 refine ago 6 b rfl (kQ b kr (v:=vb bt) (pJ (t:=jM) (E:=4) (n:=4) (m:=4) rfl kr rfl be (d.get 0 rfl) rfl rfl kr kr kr _) λa b=>⟨λ_=>(d.sx [2,0,1,5,6,9,10] (ra 1 13)),?_⟩)
 refine anp [7] [0,1,5,74] b (d.sx [2,0,1,5,6,9,10] (ra 1 13)) λa b=>?_
 have b:=b.boolv 74 kr aS
 refine anp (ra 8 10) [0,1,5,84] b (d.sx [2,0,1,5,6,9,10] (ra 1 13)) λa b=>kN ?_
 obtain ⟨bJ,d⟩:=d.foldI (ck:=jP) (fs:=jO) ak (aL,aM) aB [0,1] (ra 2 9) (ra 3 4) dc kr kr
 obtain ⟨bK,d⟩:=d.foldI (ck:=kW) (fs:=kT) al (aX,aY,aZ,aG) aD [1,2,3] [0,4,5,6,7,8,9] [1,2] dc kr kr
 cases S
 exact ⟨_,bJ,bK,b.kp [0,1,5,84],d.sp [2,3,4,5,1,0,6,7] (ra 7 7),ja⟩
 rintro a w ⟨κ,au,av,b,d,-⟩
 refine cJ _ _ (bc b H (λhb H=>?_) λhb H=>?_)
 refine rgS d [8] ?_
 have d:=d.drew
 have hX:=d.fx
 refine anp [0,1,2,5,6] [86,87,91] b hX λa b=>atk 3 (some 88) b hX rfl (vld 0 2 0) λa b=>jN [4] [86,89,91] (L':=[(86,vi l),(89,vi (i64.wrap f.N)),(91,pt g 20)]) (listed':=(mV 9 127)) (fuel:=2) b hX kr (by intro c a w t v h; cases t<;>exact h) kr rfl λa b=>bd H λcV bf H=>atk 7 (some 92) b (d.sx [0,1,4,5,6,7] (rg 7)) rfl (λw _=>lU (E:=3) (sz:=1) (n:=4) rfl rfl (i:=l) rfl (m4 bf (d.get 1 rfl)) kr kr w) λa b=>ago 8 b rfl (lK (t:=(fInt .i64)) (y:=i64.wrap f.N) (v:=vi (i64.wrap f.N)) b d kr 1 8 (s':=[si Z,(1,T),si a3,(9,U),k3v ak,k3v al,(2,C),k4d e,ei 4 (set B (toNat l) (i64.wrap f.N)),(7,F),sm o,su ah,(4,G),sl j A.length k,(4,I),sl p L.length q,(1,J)]) (C':=k1u s f O P Q R g Z T a3 U ak al C e (set B (toNat l) (i64.wrap f.N)) F o ah G j A.length k I p L.length q J au aB av aD (arrX j6 e D aj) u x) rfl rfl kr rfl rfl bf rfl rfl kr kr kr kr λa w b d=>?_)
 have d:=d.add (m:=ml (set B (toNat l) (i64.wrap f.N)) 4) (List.length_set.trans (d.get 1 rfl))
 refine ⟨notE,?_⟩
 refine kN ?_
 cases H
 exact j7 b d (mL results32) ⟨(some ak),au,(some al),av,e,D,o,u,x,j,k,p,q,rfl,d.sp (ra 1 7) [1,0,3,4,5]⟩
 refine sk ?_
 cases H
 exact j7 b d (mL results32) ⟨(some ak),au,(some al),av,e,D,o,u,x,j,k,p,q,rfl,d.sp (ra 1 7) (rg 5)⟩
 refine qr λ_ b5=>wp 2 [0,5,93] b λa b=>b5 _ _ (bc b H (λhb H=>?_) λhb H=>?_)
 refine qs λ_ b6=>qr λ_ b7=>bd H λb8 aw H=>k8 (λa w=>∃κ,Fr (144) [] [k35 g,k32 s,(107,vb b8)] a∧SS Ms κ0 w0 κ w (k1t s f O P Q R g Z T a3 U W X C e B F o ah G j A.length k I p L.length q J V a5 K a8 (arrX j6 e D aj) u x) (k1r (ml e 4) (ml B 4) o u x an j k A p q L O P f Q R)∧True) ?_ ?_
 refine wp 3 [0,5,97] b λa b=>wc (wld b d 1 2 0 λa b=>wp 2 [0,5,100] b λa b=>bs aw (λhb aw=>?_) λhb aw=>?_)
 have b:=b.bv 100 hb
 refine wp 7 [0,5,107] b λa b=>nl ?_
 cases aw
 exact ⟨_,b.kp [0,5,107],d.sp (rg 8) (rg 7),ja⟩
 have b:=b.bv 100 hb
 refine wp 3 [0,5,100,103] b λa b=>wcg b (wld b d 1 13 0 λa b=>wp 3 [0,5,107] b λa b=>nl ?_)
 cases aw
 exact ⟨_,b.kp [0,5,107],d.sp (rg 8) (rg 7),ja⟩
 rintro a w ⟨κ,b,d,-⟩
 refine b7 _ _ (bc b H (λhb H=>?_) λhb H=>?_)
 refine rt ?_
 cases H
 exact j7 b d (mL results32) ⟨W,V,X,K,e,D,o,u,x,j,k,p,q,rfl,d.sp (ra 1 7) (rg 5)⟩
 refine sk (b6 _ _ (qr λ_ b9=>wp 1 [0,5,108] b λa b=>wc (wld b d 0 2 0 λa b=>wp 1 [0,5,110] b λa b=>b9 _ _ (bc b H (λhb H=>?_) λhb H=>?_))))
 refine qs λ_ ca=>rga (λ_=>True) [] ?_
 have d:=d.drew
 refine anp [0,1,2,3,6] [0,5,111,114,117] b ja λa b=>mI d [11] (atk 4 (some 115) b (d.sx [0,1,4,5,6,7] (rg 7)) rfl (vld 1 0 0) λa b=>anp [5] [0,5,111,116,117] b (d.sx [0,1,4,5,6,7] (rg 7)) λa b=>atk 7 (some 118) b (d.sx [0,1,4,5,6,7] (rg 7)) rfl (vld 0 6 0) λa b=>ago 8 b rfl (bd H λam bL H=>jR b d kr kr (oR N d.fresh f.Vers O P ((d.pick [5] kr).ro) bL) ?_))
 rintro _ κ w a ⟨aH,aI,rfl,hR,hN⟩ b d hO
 have d:=d.adds hR
 have d:=d.addC hO hN
 refine ⟨λ_=>(d.sx [1,2,5,6,7,8] (ra 1 7)),?_⟩
 refine jN [9] [0,5,111,116,120] (L':=[k35 g,k32 s,(111,pt g 0),(116,.agg (flat [si Z,si 0,si 0,sl none 0 0]).toArray),(120,.agg (flat [si 0,sl aH am.length aI]).toArray)]) (listed':=(mV 12 1023)) (fuel:=2) b (d.sx [1,2,5,6,7,8] (ra 1 7)) kr (by intro c a w t v h; cases t<;>exact h) kr rfl λa b=>ago 10 b rfl (uK (t:=lP) (y:=(jJ.mk 0 am)) (v := .agg (flat [si 0,sl aH am.length aI]).toArray) (z := .agg (flat k0v).toArray) (cells:=(flat [si 0,sl aH am.length aI]).toArray) (E:=141) b d kr rfl kr ⟨(aH,aI),rfl,(d.pick [0] kr).ro⟩ kr kr kr kr kr λbu κ a w b d=>?_)
 refine ⟨λ_=>(d.sx [2,3,6,7,8,9] (ra 2 7)),?_⟩
 refine ago 11 b rfl (bd H λaz bM H=>?_)
 have bg:=d.segs 3 rfl
 refine wcS 3 [3,5,9,0,1,2,4,6,7,8] b d (λd=>vI N Z an ah L (jA.mk Z 0 0 ([]:List ByteArray)) [(jJ.mk 0 am)] (flat [(1,T),si a3,(9,U),sp W,sp X,(2,C),k4d e,ei 4 B,(7,F)]) o u x (flat [(4,G),sl j A.length k,(4,I)]) p q J bu 1 g ((d.regr 0 [(false,1),(true,9),(false,2),(true,3),(false,2)] rfl).sbK [4,6,0]) bM) ?_
 rintro _ κ w a ⟨aA,bw,bx,bz,bA,rfl,h2⟩ b hB
 have d:=(hB _ _ h2).unregrK 0 [(false,1),(true,9),(false,2),(true,3),(false,2)] (s':=[si Z,(1,T),si a3,(9,U),sp W,sp X,(2,C),k4d e,ei 4 B,(7,F),sm aA,su az.2.1,(4,G),sl j A.length k,(4,I),sl bz az.2.2.length bA,(1,J)]) bg rfl
 refine ⟨notE,?_⟩
 refine kN (ca _ _ (rl (wp 2 [123,124] b λa b=>wc (wld b d 5 1 0 λa b=>wp 1 [123,126] b λa b=>?_))))
 have d:=d.add (m:=Ro.mp jG.ty none 0 ([]:List jB)) (Ro.nil jG.ty _ _)
 have d:=d.add (m:=Ro.mp (fInt .u64).ty none 0 ([]:List Int)) (Ro.nil (fInt .u64).ty _ _)
 refine bd H λa9 bN H=>?_
 have bh:=d.segs 0 rfl
 refine wc (wcS 2 (rg 10) b d (λd=>lJ N Z az.2.2 0 (jF.mk 9 0 0 f.Id empty empty ([]:List jB) ([]:List Int) (jU.mk 0 0 0 0 0 empty)) (flat [(1,T),si a3,(9,U),sp W,sp X,(2,C),k4d e,ei 4 B,(7,F),sm aA,su az.2.1,(4,G),sl j A.length k,(4,I)]) bz bA J none 0 none 0 g ((d.regr 0 [(false,1),(true,14),(false,2)] rfl).sbK [3,1,0]) bN) ?_)
 rintro _ κ w a ⟨aT,aU,rfl,h2⟩ b hB
 have d:=((hB _ _ h2).unregrK 0 [(false,1),(true,14),(false,2)] (s':=[si Z,(1,T),si a3,(9,U),sp W,sp X,(2,C),k4d e,ei 4 B,(7,F),sm aA,su az.2.1,(4,G),sl j A.length k,(4,I),sl aT a9.length aU,(1,J)]) bh rfl).cC (C':=[.box g 87 [si Z,(1,T),si a3,(9,U),sp W,sp X,(2,C),k4d e,ei 4 B,(7,F),sm aA,su az.2.1,(4,G),sl j A.length k,(4,I),sl aT a9.length aU,(1,J)],k3j aT a9.length aU,mx aA bw bx,.tok bu 141 2 ([(jJ.mk 0 am)]).length 1,k3z aH am.length aI,k4p s f O P Q R,k46 j A.length k,k31 W V a5,k47 X K a8,.ext (arrX j6 e D aj)])
 refine nl ?_
 cases H
 exact j7 b d (mL results32) ⟨W,V,X,K,e,D,aA,bw,bx,j,k,aT,aU,rfl,d.sp [0,6,1,7,8,9,2] [7,8,3,10,0]⟩
 refine qr λ_ cb=>bd H λcc af H=>k8 (λa w=>∃κ,Fr (144) [] [k35 g,k32 s,(137,vb cc)] a∧SS Ms κ0 w0 κ w (k1t s f O P Q R g Z T a3 U W X C e B F o ah G j A.length k I p L.length q J V a5 K a8 (arrX j6 e D aj) u x) (k1r (ml e 4) (ml B 4) o u x an j k A p q L O P f Q R)∧True) ?_ ?_
 refine wp 1 [0,5,128] b λa b=>wc (wld b d 0 7 0 λa b=>wp 3 [0,5,132] b λa b=>bs af (λhb af=>?_) λhb af=>?_)
 have b:=b.bv 132 hb
 refine wp 1 [0,5,132,133] b λa b=>wcg b (wld b d 0 7 0 λa b=>bd af λcW bO af=>wcg b (jR b d kr kr (vD N d.fresh f.Vec Q R ((d.pick [6] kr).ro) bO) ?_))
 rintro _ κ w a ⟨rfl,hR,hN⟩ b d hO
 refine wp 2 [0,5,137] b λa b=>nl ?_
 cases af
 exact ⟨_,b.kp [0,5,137],d.sp (rg 8) (rg 7),ja⟩
 have b:=b.bv 132 hb
 refine wp 5 [0,5,137] b λa b=>nl ?_
 cases af
 exact ⟨_,b.kp [0,5,137],d.sp (rg 8) (rg 7),ja⟩
 rintro a w ⟨κ,b,d,-⟩
 refine cb _ _ (bc b H (λhb H=>?_) λhb H=>?_)
 refine rl (jE (L':=[(138,pt g 0),(139,pt s 7)]) 2 [138,139] b kr λa b=>wc (wld b d 0 7 0 λa b=>?_))
 have d:=d.add (m:=Ro.mp (fInt .u64).ty none 0 ([]:List Int)) (Ro.nil (fInt .u64).ty _ _)
 have d:=d.addNil 32 1
 refine bd H λcd bP H=>wc (kJ (ty:=(fInt .u64).ty) b d kr 0 0 7 rfl rfl rfl kr kr rfl rfl rfl bP kr (i:=Tryz.t32) (z:=vu 0) kr kr kr λbB bC κ a w b d=>wp 2 [141,143] b λa b=>wc (wst b d 2 13 1 [sl bB cd.length bC] (sgN 1 jD) λa w b d=>nl ?_))
 cases H
 exact j7 b d (mL results32) ⟨W,V,X,K,e,D,o,u,x,bB,bC,p,q,rfl,d.sp [2,0,4,5,6,7,8] [2,3,4,0,6]⟩
 refine sk ?_
 cases H
 exact j7 b d (mL results32) ⟨W,V,X,K,e,D,o,u,x,j,k,p,q,rfl,d.sp (ra 1 7) (rg 5)⟩
 refine sk ?_
 cases H
 exact j7 b d (mL results32) ⟨W,V,X,K,e,D,o,u,x,j,k,p,q,rfl,d.sp (ra 1 7) (rg 5)⟩
theorem AV (N){P}{Q}{O}(B)(a3)(z)(C)(j:(List Int))(o:(List i9))(d:jF)(s)(p4)(aU)(k)(e)(f)(t)(u)(g)(l)(n)(p)(q)(h)(U:SB P Q O [k4r h B s p4 z C k j.length e f t o.length u g,k46 k j.length e,k3j t o.length u,k3p p4 aU a3] (k1v k e j t u o l n d p q)){r}(H:M.t6 N B a3 z C j o d=some r) :
    Calls Tryz.prog 74 #[pt h 0,.agg (flat (k0c d l n p q)).toArray] O (kP P Q O λv κ w=>∃av aF aa ab ad ae,v = .tuple #[]∧SS P Q O κ w [k4r h B s av z r.2.1 aa r.2.2.1.length ab f ad r.2.2.2.length ae g,k46 aa r.2.2.1.length ab,k3j ad r.2.2.2.length ae,k3p av aF r.1] [k3m aa ab r.2.2.1,k3k ad ae r.2.2.2]):=by
 have c:=U.hS
 have bi:=c.fresh
 refine enL [k35 h,(1,.agg (flat [si d.Kind,su d.Id,su d.N,su d.TS,sg d.Lo,sg d.Hi,sl l d.Vers.length n,sl p d.Vec.length q,si d.Cmd.Kind,si d.Cmd.DC,si d.Cmd.Shard,si d.Cmd.Node,si d.Cmd.Mode,sg d.Cmd.Key]).toArray)] func74 rfl ntmps74 λa b=>?_
 unfold M.t6 at H
 refine qr λ_ aV=>wc (wbx b c (k0c d l n p q) (sgN 14 jD) λA a w b c=>aV _ _ (m2 (λa w=>∃κ y D R,∃F:List i9,∃G I,Fr (111) [] [k35 h,k2u A] a∧SS P Q O κ w (k1w h B s y z C k j.length e f G F.length I g A d l n p q D R) (k1v k e j G I F l n d p q)∧M.pU N B z C j d R F=some r) ?_ ?_))
 refine qs λ_ aW=>bd H λaf x H=>kL (λa w=>∃κ X V,Fr (111) [] [k35 h,k2u A,(24,vb af.2)] a∧SS P Q O κ w [k4p A d l n p q,k4r h B s X z C k j.length e f t o.length u g,k46 k j.length e,k3j t o.length u,k3p X V af.1] (k1v k e j t u o l n d p q)∧True) ?_ ?_
 refine kY x (λho x=>?_) (λah ho x=>?_)
 obtain ⟨E,c⟩:=c.optN 4 rfl ho
 rw [E] at c
 try rw [E] at b
 refine rl (bd x λbj J x=>k8 (λa w=>∃κ,Fr (111) [] [k35 h,k2u A,(24,vb false)] a∧SS P Q O κ w [k4p A d l n p q,.box h 87 [si B,(32,s),k4g,si z,si C,sl k j.length e,(5,f),sl t o.length u,(1,g)],k46 k j.length e,k3j t o.length u] (k1v k e j t u o l n d p q)∧True) ?_ ?_)
 refine wp 1 [0,3,5] b λa b=>wc (wld b c 0 2 0 λa b=>wp 2 [0,3,8] b λa b=>bs J (λhb J=>?_) λhb J=>?_)
 have b:=b.bv 8 hb
 refine wp 3 [0,3,8,11] b λa b=>wcg b (wld b c 1 2 0 λa b=>wp 12 [0,3,24] b λa b=>nl ?_)
 cases J
 exact ⟨_,b.kp [0,3,24],c.sp (rg 4) (rg 4),ja⟩
 have b:=b.bv 8 hb
 refine wp 16 [0,3,24] b λa b=>nl ?_
 cases J
 exact ⟨_,b.kp [0,3,24],c.sp (rg 4) (rg 4),ja⟩
 rintro a w ⟨κ,b,c,-⟩
 cases x
 have c:=c.addOpt o_gate_move
 exact ⟨_,none,[],b.kp [0,3,24],c.sp [1,2,3,4,0] (rg 4),ja⟩
 obtain ⟨S,E,c⟩:=c.optS 4 rfl ho
 rw [E] at c
 try rw [E] at b
 obtain ⟨_,c⟩:=c.unfI (ck:=lA) (fs:=l8) 4 rfl
 refine rl (bd x λaX K x=>k8 (λa w=>∃κ W,Fr (111) [] [k35 h,k2u A,(24,vb aX)] a∧SS P Q O κ w [k4p A d l n p q,.box h 87 [si B,(32,s),k3v S,si z,si C,sl k j.length e,(5,f),sl t o.length u,(1,g)],k46 k j.length e,k3j t o.length u,k4q S W ah] (k1v k e j t u o l n d p q)∧True) ?_ ?_)
 refine wp 1 [0,3,5] b λa b=>wc (wld b c 1 2 0 λa b=>wp 2 [0,3,8] b λa b=>bs K (λhb K=>?_) λhb K=>?_)
 have b:=b.bv 8 hb
 refine wp 3 [0,3,8,11] b λa b=>wcg b (wld b c 2 2 0 λa b=>wp 6 [0,3,15,18] b λa b=>wcg b (wld b c 2 2 0 λa b=>wp 2 [0,3,15,21] b λa b=>wcg b (wld b c 0 5 0 λa b=>wp 2 [0,3,24] b λa b=>?_)))
 obtain ⟨aG,c⟩:=c.foldI (ck:=lA) (fs:=l8) S () ah [0] (ra 1 4) [] dc kr kr
 refine nl ?_
 cases K
 exact ⟨_,aG,b.kp [0,3,24],c.sp [1,2,3,4,0] (rg 4),ja⟩
 have b:=b.bv 8 hb
 refine wp 16 [0,3,24] b λa b=>?_
 obtain ⟨aH,c⟩:=c.foldI (ck:=lA) (fs:=l8) S () ah [0] (ra 1 4) [] dc kr kr
 refine nl ?_
 cases K
 exact ⟨_,aH,b.kp [0,3,24],c.sp [1,2,3,4,0] (rg 4),ja⟩
 rintro a w ⟨κ,W,b,c,-⟩
 cases x
 exact ⟨_,(some S),W,b.kp [0,3,24],c.sp (rg 5) (rg 4),ja⟩
 rintro a w ⟨κ,X,V,b,c,-⟩
 refine aW _ _ (bc b H (λhb H=>?_) λhb H=>?_)
 refine qs λ_ aY=>bd H λi ho H=>?_
 obtain ⟨T,E,c⟩:=c.optS 4 rfl ho
 rw [E] at c
 try rw [E] at b
 obtain ⟨_,c⟩:=c.unfI (ck:=lA) (fs:=l8) 4 rfl
 refine rl (wp 3 [0,3,27] b λa b=>wc (wld b c 2 2 0 λa b=>wp 2 [0,3,30] b λa b=>wc (wst b c 0 5 1 [si 2] (sgN 1 jD) λa w b c=>nl ?_)))
 obtain ⟨bh,c⟩:=c.foldI (ck:=lA) (fs:=l8) T () (j8.mk i.span i.shard i.to 2) [0] (ra 1 4) [] dc kr kr
 refine aY _ _ ?_
 obtain ⟨_,c⟩:=c.unfI (ck:=lA) (fs:=l8) 0 rfl
 refine rga (λ_=>True) [] ?_
 have c:=c.drew
 refine anp [0,1,2,3,8,10,12,13,14,20,21,22,28] [0,3,31,34,39,41,45,53,59] b ja λa b=>mI c [32] (atk 4 (some 35) b (c.sx [0,1,2] (rg 4)) rfl (vld 2 2 0) λa b=>anp [5,6] [0,3,31,37,39,41,45,53,59] b (c.sx [0,1,2] (rg 4)) λa b=>atk 7 (some 38) b (c.sx [0,1,2] (rg 4)) rfl (vld 0 4 0) λa b=>atk 9 (some 40) b (c.sx [0,1,2] (rg 4)) rfl (vld 1 1 0) λa b=>atk 11 (some 42) b (c.sx [0,1,2] (rg 4)) rfl (vld 1 3 0) λa b=>atk 15 (some 46) b (c.sx [0,1,2] (rg 4)) rfl (vld 2 2 0) λa b=>anp [16,17,18] [0,3,31,38,40,42,49,53,59] b (c.sx [0,1,2] (rg 4)) λa b=>?_)
 refine atk 19 (some 50) b (c.sx [0,1,2] (rg 4)) rfl (vld 0 0 0) λa b=>atk 23 (some 54) b (c.sx [0,1,2] (rg 4)) rfl (vld 2 2 0) λa b=>anp [24,25,26] [0,3,31,38,40,42,50,57,59] b (c.sx [0,1,2] (rg 4)) λa b=>atk 27 (some 58) b (c.sx [0,1,2] (rg 4)) rfl (vld 0 1 0) λa b=>atk 29 (some 60) b (c.sx [0,1,2] (rg 4)) rfl (vld 1 6 0) λa b=>ago 30 b rfl (bd H λaZ aI H=>jR b c kr kr (oR N c.fresh d.Vers l n ((c.pick [2] kr).ro) aI) ?_)
 rintro _ κ w a ⟨a0,a2,rfl,hR,hN⟩ b c hO
 have c:=c.adds hR
 have c:=c.addC hO hN
 refine ⟨λ_=>(c.sx [1,2,3] (ra 1 4)),?_⟩
 refine anp [31] [0,3,31,38,62] b (c.sx [1,2,3] (ra 1 4)) λa b=>ago 32 b rfl ?_
 have c:=c.add (m:=Ro.mp (fInt .u64).ty none 0 ([]:List Int)) (Ro.nil (fInt .u64).ty _ _)
 refine bd H λaw aJ H=>?_
 have ai:=c.segs 3 rfl
 refine wcS 2 [3,5,0,1,2,4] b c (λc=>lJ N B o ((j8.mk i.span i.shard i.to 2).to) (jF.mk 6 d.Id 0 d.TS (((j8.mk i.span i.shard i.to 2).span).Lo) (((j8.mk i.span i.shard i.to 2).span).Hi) aZ ([]:List Int) (jU.mk 0 0 0 0 0 empty)) (flat [(32,s),k3v T,si z,si C,sl k j.length e,(5,f)]) t u g a0 a2 none 0 h ((c.regr 0 [(false,1),(true,6),(false,2)] rfl).sbK [3,1,0]) aJ) ?_
 rintro _ κ w a ⟨ax,ay,rfl,h2⟩ b U
 have c:=(U _ _ h2).unregrK 0 [(false,1),(true,6),(false,2)] (s':=[si B,(32,s),k3v T,si z,si C,sl k j.length e,(5,f),sl ax aw.length ay,(1,g)]) ai rfl
 refine ⟨notE,?_⟩
 refine kN ?_
 obtain ⟨aL,c⟩:=c.foldI (ck:=lA) (fs:=l8) T () (j8.mk i.span i.shard i.to 2) [3] [0,1,2,4,5] [] dc kr kr
 exact ⟨_,(some T),aL,(some (j8.mk i.span i.shard i.to 2)),aw,ax,ay,b.kp [0,3],c.sp [1,4,2,5,0] [3,0,5,6],H⟩
 refine sk ?_
 exact ⟨_,X,V,af.1,o,t,u,b.kp [0,3],c.sp [1,0,3,2,4] (rg 4),H⟩
 rintro a w ⟨κ,y,D,R,F,G,I,b,c,H⟩
 unfold M.pU at H
 refine qr λ_ a4=>bd H λa5 L H=>k8 (λa w=>∃κ,Fr (111) [] [k35 h,k2u A,(73,vb a5)] a∧SS P Q O κ w (k1w h B s y z C k j.length e f G F.length I g A d l n p q D R) (k1v k e j G I F l n d p q)∧True) ?_ ?_
 refine wp 1 [0,3,64] b λa b=>wc (wld b c 1 2 0 λa b=>wp 2 [0,3,67] b λa b=>bs L (λhb L=>?_) λhb L=>?_)
 have b:=b.bv 67 hb
 refine wp 3 [0,3,67,70] b λa b=>wcg b (wld b c 0 4 0 λa b=>wp 2 [0,3,73] b λa b=>nl ?_)
 cases L
 exact ⟨_,b.kp [0,3,73],c.sp (rg 5) (rg 4),ja⟩
 have b:=b.bv 67 hb
 refine wp 6 [0,3,73] b λa b=>nl ?_
 cases L
 exact ⟨_,b.kp [0,3,73],c.sp (rg 5) (rg 4),ja⟩
 rintro a w ⟨κ,b,c,-⟩
 refine a4 _ _ (bc b H (λhb H=>?_) λhb H=>?_)
 refine qr λ_ a9=>wp 3 [0,3,76] b λa b=>wc (wld b c 0 3 0 λa b=>bd H λaz aM H=>wc (jR b c kr kr (vF N c.fresh z (-1) ((c.pick [] kr).ro) aM) ?_))
 rintro _ κ w a ⟨rfl,hR,hN⟩ b c hO
 refine wp 1 [0,3,4] b λa b=>a9 _ _ (qs λ_ ba=>rgX c [1,4] ?_)
 have c:=c.drew
 have hX:=c.px [1,4]
 refine anp [0,1,2,4] [0,4,79,80,81,83] b hX λa b=>atk 3 (some 82) b hX rfl (vld 0 1 0) λa b=>atk 5 (some 84) b hX rfl (vld 0 6 0) λa b=>ago 6 b rfl (bd H λaA aP H=>jR b c kr kr (oR N c.fresh d.Vers l n ((c.pick [2] kr).ro) aP) ?_)
 rintro _ κ w a ⟨aB,aD,rfl,hR,hN⟩ b c hO
 have c:=c.adds hR
 have c:=c.addC hO hN
 refine ⟨λ_=>(c.sx [2,5] (ra 1 4)),?_⟩
 refine anp [7] [0,4,79,80,86] b (c.sx [2,5] (ra 1 4)) λa b=>ago 8 b rfl ?_
 have c:=c.add (m:=Ro.mp (fInt .u64).ty none 0 ([]:List Int)) (Ro.nil (fInt .u64).ty _ _)
 refine bd H λaE aQ H=>?_
 have ak:=c.segs 1 rfl
 refine wcS 2 [1,3,0,2,4,5] b c (λc=>oO N F az (jF.mk 19 d.Id 0 0 empty empty aA ([]:List Int) (jU.mk 0 0 0 0 0 empty)) (flat [si B,(32,s),sp y,si z,si C,sl k j.length e,(5,f)]) G I g aB aD none 0 h ((c.regr 0 [(true,7),(false,2)] rfl).sbK [3,1,0]) aQ) ?_
 rintro _ κ w a ⟨al,am,rfl,h2⟩ b U
 have c:=(U _ _ h2).unregrK 0 [(true,7),(false,2)] (s':=[si B,(32,s),sp y,si z,si C,sl k j.length e,(5,f),sl al aE.length am,(1,g)]) ak rfl
 refine ⟨λ_=>(c.sx [3,5] (ra 3 4)),?_⟩
 refine kN (ba _ _ (qr λ_ be=>wp 3 [0,4,88,90] b λa b=>wc (wld b c 0 4 0 λa b=>wp 3 [0,4,92,94] b λa b=>wc (wst b c 0 4 1 [si (i64.wrap (C-1))] (sgN 1 jD) λa w b c=>be _ _ (qr λ_ bf=>wp 3 [0,4,97] b λa b=>wc (wld b c 0 4 0 λa b=>wp 1 [0,4,99] b λa b=>bf _ _ (bc b H (λhb H=>?_) λhb H=>?_)))))))
 refine qr λ_ bg=>wp 5 [0,100,101,104] b λa b=>wc (wld b c 0 5 0 λa b=>wp 1 [0,100,101,106] b λa b=>?_)
 have c:=c.add (m:=Ro.mp jG.ty none 0 ([]:List jB)) (Ro.nil jG.ty _ _)
 refine bd H λan aR H=>?_
 have ao:=c.segs 0 rfl
 refine wc (wcS 2 (rg 6) b c (λc=>oO N aE az (jF.mk 19 0 1 0 empty empty ([]:List jB) j (jU.mk 0 0 0 0 0 empty)) (flat [si B,(32,s),sp y,si z,si (i64.wrap (C-1)),sl k j.length e,(5,f)]) al am g none 0 k e h ((c.regr 0 [(true,7),(false,2)] rfl).sbK [1,0,4]) aR) ?_)
 rintro _ κ w a ⟨Y,Z,rfl,h2⟩ b U
 have c:=((U _ _ h2).unregrK 0 [(true,7),(false,2)] (s':=[si B,(32,s),sp y,si z,si (i64.wrap (C-1)),sl k j.length e,(5,f),sl Y an.length Z,(1,g)]) ao rfl).cC (C':=[k4r h B s y z (i64.wrap (C-1)) k j.length e f Y an.length Z g,k3j Y an.length Z,k3z aB aA.length aD,k4p A d l n p q,k46 k j.length e,k3p y D R])
 refine bg _ _ (rl (wp 3 [110] b λa b=>wc (wst b c 0 5 1 [k37] (sgN 1 jD) λa w b c=>nl ?_)))
 have c:=c.addNil 32 1
 cases H
 exact j7 b c (mL results74) ⟨y,D,none,0,Y,Z,rfl,c.sp [1,0,2,6] [3,0]⟩
 refine sk ?_
 cases H
 exact j7 b c (mL results74) ⟨y,D,k,e,al,am,rfl,c.sp [0,4,1,5] [3,0]⟩
 refine sk ?_
 cases H
 exact j7 b c (mL results74) ⟨y,D,k,e,G,I,rfl,c.sp [0,3,2,4] [0,1]⟩
end Go.Cf
