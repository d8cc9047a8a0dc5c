/- The walks: each function returns what its model says. Printed by a program of ours. -/
import Derived.Test.YtcplebnnanjngaaGreatZSh
import Derived.Test.YtcplebnnanjngaaGreatZM1
import Derived.Test.YtcplebnnanjngaaGreatZWp
import Derived.Test.YtcplebnnanjngaaGreatZWc
import Derived.Test.YtcplebnnanjngaaGreatZWg1
namespace Go.Cf
open Go Go.Proofs Tryz
open _root_.Int(toNat tdiv tmod)
open _root_.List(set replicate)
open _root_.ByteArray(empty)
open Go.IntKind(i64 u64)
set_option linter.unusedVariables false
set_option maxRecDepth 20000
set_option maxHeartbeats 8000000
theorem A9 (N){i}{j}{f}(g)(k)(d)(s)(h)(e)(l)(m)(n:SB i j f (k15 l d s e h k m) []){r}(H:M.tT N g k=some r) :
    Calls Tryz.prog 85 #[.agg (flat (k0w g)).toArray,pt m 0] f (kP i j f λv κ w=>∃t o,v=vb r.1∧SS i j f κ w (k15 l d t e o r.2 m) []):=by
 have c:=n.hS
 have A:=c.fresh
 refine en func85 rfl ntmps85 λa b=>?_
 unfold M.tT at H
 refine qr λ_ y=>wc (wbx b c (k0w g) (sgN 6 jD) λB a w b c=>wp 1 [1,2] b λa b=>y _ _ (qr λ_ u=>wc (wld b c 3 0 0 λa b=>wp 1 [4,5] b λa b=>wc (wld b c 0 0 0 λa b=>bd H λC p H=>wc (wcS 2 [1,2,0,3] b c (λc=>qU N k g.Key d s h e l (c.sbK []) p) ?_)))))
 rintro _ κ w a ⟨x,q,rfl,z⟩ b n
 have c:=n _ _ z
 refine wp 1 [3] b λa b=>u _ _ (rt ?_)
 cases H
 exact j7 b c (l4 results85 (rvt b)) ⟨x,q,rfl,c.sp [0,1,3] []⟩
theorem sE (N){u}{x}{l}(e)(C)(m)(o)(i)(I)(A)(j)(p)(d)(D:SB u x l (k15 p i I j A C d) (k0r m o e)){r}(H:M.lR N e C=some r) :
    Calls Tryz.prog 116 #[.slice m e.length o,.func (.func 85) #[] #[pt d 0]] l (kP u x l λv κ w=>∃J F,v=vi r.1∧SS u x l κ w (k15 p i J j F r.2 d) []):=by
 have c:=D.hS
 have Z:=c.fresh
 refine en func116 rfl ntmps116 λa b=>?_
 unfold M.lR at H
 refine qr λ_ K=>(wp 1 [0,1] b λa b=>(K _ _ (qs λ_ L=>qr λ_ O=>(wp 3 [0,1,7,8] b λa b=>(O _ _ (bk (jT (n:=N) (λn a w=>∃κ g f k h,Fr (19) [] [(0,.slice m e.length o),(1,.func (.func 85) #[] #[pt d 0]),(7,vi (e.length:Int)),(8,vi h)] a∧SS u x l κ w [.box p 87 [(33,i),sp g,(10,j)],k4j d p,k3p g f k] (k0r m o e)∧M.jZ N n e k h=some r) ?_ ?_)))))))
 exact ⟨_,I,A,C,0,b.kp [0,1,7,8],c.sp [0,2,1] [0],H⟩
 rintro n a w ⟨κ,g,f,k,h,b,c,H⟩
 rcases n with _|y
 simp [M.jZ] at H
 simp only [M.jZ] at H
 refine qr λ_ P=>wp 1 [0,1,7,8,9] b λa b=>P _ _ (qs λ_ Q=>bc b H (λhb H=>?_) λhb H=>?_)
 refine sk (Q _ _ (qs λ_ R=>bk (qr λ_ S=>(wp 2 [0,1,5,7,8] b λa b=>(S _ _ (qr λ_ T=>(jE (L':=k16 m e.length o (.func 85) #[] #[pt d 0] h (e.length:Int)) 3 [0,1,5,7,8,11,12,13] b kr λa b=>bd H λU q H=>wc (kR b c kr 0 (E:=48) (sz:=6) rfl rfl rfl kr rfl q kr kr λaa ab a z b=>wc (qY (t:=jG) b c kr 0 rfl rfl z rfl q kr kr kr λa b=>?_)))))))))
 refine bd H λV G H=>wc (wcS 3 [0,2,1] b c (λc=>A9 N U k i g f j p d (c.sbK []) G) ?_)
 rintro _ κ w a ⟨B,s,rfl,Y⟩ b D
 have c:=D _ _ Y
 refine T _ _ (bc b H (λhb H=>?_) λhb H=>?_)
 refine qr λ_ W=>wp 2 [4] b λa b=>W _ _ (rt ?_)
 cases H
 exact j7 b c (l4 results116 (rvt b)) ⟨B,s,rfl,c.sp [0,1,2] []⟩
 refine sk (R _ _ (rl (wp 2 [0,1,7,8] b λa b=>nl ?_)))
 exact ⟨y,jb _,_,B,s,V.2,i64.wrap (h+1),b.kp [0,1,7,8],c.sp [0,2,1] [0],H⟩
 refine xt (L _ _ (qr λ_ X=>wp 1 [4] b λa b=>X _ _ (rt ?_)))
 cases H
 exact j7 b c (l4 results116 (rvt b)) ⟨g,f,rfl,c.sp [0,2,1] []⟩
theorem oN (N){j}{k}{g}(h)(l)(m)(n)(e)(u)(i)(f)(o)(d)(p:SB j k g (k15 o e u f i l d) (k0r m n h)){r}(H:M.kD N h l=some r) :
    Calls Tryz.prog 84 #[.slice m h.length n,.func (.func 85) #[] #[pt d 0]] g (kP j k g λv κ w=>∃x q,v=vb r.1∧SS j k g κ w (k15 o e x f q r.2 d) []):=by
 have c:=p.hS
 have C:=c.fresh
 refine en func84 rfl ntmps84 λa b=>?_
 unfold M.kD at H
 refine qr λ_ y=>wp 1 [0,1] b λa b=>y _ _ (qr λ_ z=>wp 2 [5,6] b λa b=>bd H λD s H=>wc (wcS 3 [0,1,2] b c (λc=>sE N h l m n e u i f o d (c.sbK [0]) s) ?_))
 rintro _ κ w a ⟨A,t,rfl,B⟩ b p
 have c:=p _ _ B
 refine wp 2 [4] b λa b=>z _ _ (rt ?_)
 cases H
 exact j7 b c (l4 results84 (rvt b)) ⟨A,t,rfl,c.sp [0,1,2] []⟩
theorem vH (N){Ms}{κ0}{w0}(a1)(P)(Q)(u:j5)(aQ)(q)(a0)(aA)(l:(List i8))(I)(aR)(J:(List i9))(e:i8)(T)(X)(Y)(Z)(c9)(x)(U)(ay)(A)(j)(au)(av)(g)(af)(ah)(o)(p)(B)(aS)(aE)(C)(K)(L)(D)(R)(S)(F)(hB:SB Ms κ0 w0 [k4k F a1 T P Q X u Y Z c9 x U q A j g o l.length p B I aS C K J.length L D,k45 o l.length p,k3j K J.length L,k48 U ay aQ,mx j au av,mx g af ah,k3p aS aE aR] [k3a X Y u.Cuts,k3b Z c9 u.Nodes,k49 j au av a0,k4a g af ah aA,k4b o p l,k3k K L J,k3l R S e.writes]){r}(H:M.qH N a1 P Q u aQ q a0 aA l I aR J e=some r) :
    Calls Tryz.prog 35 #[pt F 0,.agg (flat (k13 e R S)).toArray] w0 (kP Ms κ0 w0 λv κ w=>∃a2 bt aF a6 a7 aG a8 a9 aH aI ba bu aJ aL,v = .tuple #[]∧SS Ms κ0 w0 κ w [k4k F a1 T P r.1 X u Y Z c9 x a2 r.2.2.1 A aF aG aH r.u4.2.1.length aI B r.u4.2.2.1 ba C aJ r.u8.length aL D,k45 aH r.u4.2.1.length aI,k3j aJ r.u8.length aL,k48 a2 bt r.2.1,mx aF a6 a7,mx aG a8 a9,k3p ba bu r.u4.2.2.2.1] [k49 aF a6 a7 r.2.2.2.1,k4a aG a8 a9 r.u4.1,k4b aH aI r.u4.2.1,k3k aJ aL r.u8]):=by
 have d:=hB.hS
 have cD:=d.fresh
 refine en func35 rfl ntmps35 λa b=>?_
 unfold M.qH at H
 refine qr λ_ bY=>wc (wbx b d [k3v F] (sgN 1 jD) λO a w b d=>wc (wbx b d (k13 e R S) (sgN 5 jD) λV a w b d=>bY _ _ (qs λ_ bZ=>qr λ_ b0=>bd H λaD G H=>k8 (λa w=>∃κ W ai,Fr (137) [] [k2x O,k2u V,(21,vb aD.2)] a∧SS Ms κ0 w0 κ w [k4k F a1 T P Q X u Y Z c9 x U q A j g o l.length p B I W C K J.length L D,k4l V e R S,k4j O F,k45 o l.length p,k3j K J.length L,k48 U ay aQ,mx j au av,mx g af ah,k3p W ai aD.1] [k3a X Y u.Cuts,k3b Z c9 u.Nodes,k49 j au av a0,k4a g af ah aA,k4b o p l,k3k K L J,k3l R S e.writes]∧True) ?_ ?_)))
 refine wp 1 [2,3,8] b λa b=>wc (wld b d 0 1 0 λa b=>wp 1 [2,3,10] b λa b=>bs G (λhb G=>?_) λhb G=>?_)
 have b:=b.bv 10 hb
 refine wcg b (wld b d 1 0 0 λa b=>wp 1 [2,3,10,11,12] b λa b=>wcg b (wld b d 0 2 0 λa b=>bd G λb1 bH G=>?_))
 have be:=d.segs 2 rfl
 refine wcg b (wcS 2 [2,8,0,1,3,4,5,6,7] b d (λd=>qU N aR e.key (flat [si a1,(3,T),si P,si Q,sl X u.Cuts.length Y,sl Z u.Nodes.length c9,(6,x),sp U,su q,(12,A),sm j,sm g,sl o l.length p,(1,B),su I]) aS aE (flat [(8,C),sl K J.length L,(1,D)]) F ((d.regr 0 [(true,15),(false,1),(true,3)] rfl).sbK []) bH) ?_)
 rintro _ κ w a ⟨bf,bg,rfl,h2⟩ b hB
 have d:=(hB _ _ h2).unregrK 0 [(true,15),(false,1),(true,3)] (s':=k17 a1 T P Q X u Y Z c9 x U q A j g o l.length p B I bf C K J.length L D) be rfl
 refine wp 2 [2,3,16] b λa b=>bs G (λhb G=>?_) λhb G=>?_
 have b:=b.bv 16 hb
 refine wp 5 [2,3,21] b λa b=>nl ?_
 cases G
 exact ⟨_,bf,bg,b.kp [2,3,21],d.sp [0,2,3,4,5,6,7,8,1] (rg 7),ja⟩
 have b:=b.bv 16 hb
 refine jE (L':=[k2x O,k2u V,(16,vb false),(17,pt V 4)]) 1 [2,3,16,17] b kr λa b=>wcg b (wld b d 2 4 0 λa b=>wcg b (kQ b kr (v := .func (.func 85) #[] #[pt O 0]) (u6 (T':=0) (caps := #[pt O 0]) rfl kr _) λa b=>bd G λb2 bI G=>?_))
 have bh:=d.segs 0 rfl
 refine wcg b (wcS 3 [0,1,3,2,4,5,6,7,8] b d (λd=>oN N e.writes b1.2 R S (flat [si a1,(3,T),si P,si Q,sl X u.Cuts.length Y,sl Z u.Nodes.length c9,(6,x),sp U,su q,(12,A),sm j,sm g,sl o l.length p,(1,B),su I]) bf bg (flat [(8,C),sl K J.length L,(1,D)]) F O ((d.regr 0 [(true,15),(false,1),(true,3)] rfl).sbK [6]) bI) ?_)
 rintro _ κ w a ⟨aT,bi,rfl,h2⟩ b hB
 have d:=((hB _ _ h2).unregrK 0 [(true,15),(false,1),(true,3)] (s':=k17 a1 T P Q X u Y Z c9 x U q A j g o l.length p B I aT C K J.length L D) bh rfl).cC (C':=[k4k F a1 T P Q X u Y Z c9 x U q A j g o l.length p B I aT C K J.length L D,k3p aT bi b2.2,k4j O F,k4l V e R S,k45 o l.length p,k3j K J.length L,k48 U ay aQ,mx j au av,mx g af ah])
 refine wp 1 [2,3,21] b λa b=>nl ?_
 cases G
 exact ⟨_,aT,bi,b.kp [2,3,21],d.sp [0,3,2,4,5,6,7,8,1] (rg 7),ja⟩
 have b:=b.bv 10 hb
 refine jE (L':=[k2x O,k2u V,(16,vb false),(17,pt V 4)]) 7 [2,3,16,17] b kr λa b=>wcg b (wld b d 0 4 0 λa b=>wcg b (kQ b kr (v := .func (.func 85) #[] #[pt O 0]) (u6 (T':=0) (caps := #[pt O 0]) rfl kr _) λa b=>bd G λcE bJ G=>?_))
 have bj:=d.segs 2 rfl
 refine wcg b (wcS 3 [2,8,1,0,3,4,5,6,7] b d (λd=>oN N e.writes aR R S (flat [si a1,(3,T),si P,si Q,sl X u.Cuts.length Y,sl Z u.Nodes.length c9,(6,x),sp U,su q,(12,A),sm j,sm g,sl o l.length p,(1,B),su I]) aS aE (flat [(8,C),sl K J.length L,(1,D)]) F O ((d.regr 0 [(true,15),(false,1),(true,3)] rfl).sbK [6]) bJ) ?_)
 rintro _ κ w a ⟨bB,bK,rfl,h2⟩ b hB
 have d:=(hB _ _ h2).unregrK 0 [(true,15),(false,1),(true,3)] (s':=k17 a1 T P Q X u Y Z c9 x U q A j g o l.length p B I bB C K J.length L D) bj rfl
 refine wp 1 [2,3,21] b λa b=>nl ?_
 cases G
 exact ⟨_,bB,bK,b.kp [2,3,21],d.sp [0,3,2,4,5,6,7,8,1] (rg 7),ja⟩
 rintro a w ⟨κ,W,ai,b,d,-⟩
 refine b0 _ _ (bc b H (λhb H=>?_) λhb H=>?_)
 refine qs λ_ b3=>rgS d [10] ?_
 have d:=d.drew
 have f:=d.fx
 refine bd H λb4 bL H=>atk 0 (some 22) b f rfl (vld 2 0 0) λa b=>atk 1 (some 23) b f rfl (vld 2 0 0) λa b=>jN [2,3] [3,22,25] (L':=[k2u V,(22,pt F 0),(25,pt F 30)]) (listed':=(mV 11 15)) (fuel:=7) b f kr (by intro c a w t v h; cases t<;>exact h) kr rfl λa b=>atk 4 (some 26) b f rfl (vld 0 12 0) λa b=>atk 5 (some 27) b f rfl (vls 1 0 5) λa b=>ago 6 b rfl (uK (t:=kO) (y:=e) (v := .agg (flat (k13 e R S)).toArray) (z := .agg (flat (k14 empty)).toArray) (cells:=(flat (k13 e R S)).toArray) (E:=95) b d kr rfl kr ⟨(R,S),rfl,(d.pick [6] kr).ro⟩ kr kr kr kr kr λcF κ a w b d=>?_)
 refine ⟨λ_=>(d.sx [1,2,3,6,7,8,9] (ra 1 7)),?_⟩
 refine ago 7 b rfl (kJ (ty:=kO) b d kr 4 5 0 rfl rfl rfl kr kr rfl rfl rfl bL kr (i:=Tryz.t95) (z := .agg (flat (k14 empty)).toArray) kr kr kr λbC bD κ a w b d=>⟨λ_=>(d.sx [1,2,3,6,7,8,9] (ra 2 7)),?_⟩)
 refine anp [8,9] [29,31] b (d.sx [1,2,3,6,7,8,9] (ra 2 7)) λa b=>ago 10 b rfl (wst b d 1 12 1 [sl bC b4.length bD] (sgN 1 jD) λa w b d=>⟨notE,?_⟩)
 refine kN (b3 _ _ (rt ?_))
 cases H
 exact j7 b d (mL results35) ⟨U,ay,j,au,av,g,af,ah,bC,bD,W,ai,K,L,rfl,d.sp [1,4,5,6,7,8,9] [4,5,0,7]⟩
 refine sk (bZ _ _ (qs λ_ b5=>qr λ_ b6=>wp 1 [2,3,32] b λa b=>wc (wld b d 1 1 0 λa b=>b6 _ _ (bc b H (λhb H=>?_) λhb H=>?_))))
 refine qr λ_ b7=>wc (wld b d 2 0 0 λa b=>wp 2 [2,3,34,36] b λa b=>wc (wld b d 0 14 0 λa b=>wp 3 [2,3,38,40] b λa b=>wc (wst b d 0 14 1 [su (u64.wrap (I+1))] (sgN 1 jD) λa w b d=>b7 _ _ (qs λ_ b8=>rgX d [0,1,2,5,6,8] ?_))))
 have d:=d.drew
 have f:=d.px [0,1,2,5,6,8]
 refine atk 0 (some 41) b f rfl (vld 2 0 0) λa b=>anp [1,2] [2,3,43] b f λa b=>atk 3 (some 44) b f rfl (vld 0 11 0) λa b=>atk 4 (some 45) b f rfl (vld 2 0 0) λa b=>jN [5,6] [2,3,44,47] (L':=[k2x O,k2u V,(44,.map g),(47,pt F 32)]) (listed':=(mV 10 127)) (fuel:=3) b f kr (by intro c a w t v h; cases t<;>exact h) kr rfl λa b=>atk 7 (some 48) b f rfl (vld 0 14 0) λa b=>atk 8 (some 49) b f rfl (vls 1 0 5) λa b=>ago 9 b rfl (bd H λcG bM H=>oC (KT:=32) (E:=95) (kt:=(kInt .u64)) (agg:=true) (t:=kO) b d kr 7 3 (k:=u64.wrap (I+1)) (v:=e) (cs:=flat (k13 e R S)) rfl kr kr kr ⟨(R,S),rfl,(d.pick [6] kr).ro⟩ rfl rfl bM kr kr λb9 ca a w b d=>?_)
 refine ⟨λ_=>(d.sx [0,1,2,5,6,8] (ra 1 7)),?_⟩
 refine kN (b8 _ _ (qs λ_ cb=>rga (λ_=>True) [] ?_))
 have d:=d.drew
 refine anp [5,12,14] [2,55,62,64] b ja λa b=>mI d [17] (atk 0 (some 50) b (d.sx [0,1,2,5,6,7,8] (rg 8)) rfl (vld 2 0 0) λa b=>atk 1 (some 51) b (d.sx [0,1,2,5,6,7,8] (rg 8)) rfl (vld 2 0 0) λa b=>anp [2,3] [2,50,53,55,62,64] b (d.sx [0,1,2,5,6,7,8] (rg 8)) λa b=>atk 4 (some 54) b (d.sx [0,1,2,5,6,7,8] (rg 8)) rfl (vls 0 4 2) λa b=>atk 6 (some 56) b (d.sx [0,1,2,5,6,7,8] (rg 8)) rfl (vld 1 2 0) λa b=>atk 8 (some 58) b (d.sx [0,1,2,5,6,7,8] (rg 8)) rfl (vld 2 0 0) λa b=>anp [9,10] [50,54,56,60,62,64] b (d.sx [0,1,2,5,6,7,8] (rg 8)) λa b=>?_)
 refine atk 11 (some 61) b (d.sx [0,1,2,5,6,7,8] (rg 8)) rfl (vld 0 14 0) λa b=>atk 13 (some 63) b (d.sx [0,1,2,5,6,7,8] (rg 8)) rfl (vld 1 2 0) λa b=>atk 15 (some 65) b (d.sx [0,1,2,5,6,7,8] (rg 8)) rfl (vld 1 3 0) λa b=>anp [16] [50,54,56,66] b (d.sx [0,1,2,5,6,7,8] (rg 8)) λa b=>ago 7 b rfl (bd H λcc bN H=>jR b d kr kr (A4 N d.fresh u e.key X Y Z c9 ((d.pick [1,2] kr).ro) bN) ?_)
 rintro _ κ w a ⟨rfl,hR,hN⟩ b d hO
 refine ⟨λ_=>(d.sx [0,1,2,5,6,7,8] (rg 8)),?_⟩
 refine ago 17 b rfl ?_
 have d:=d.add (m:=Ro.mp jG.ty none 0 ([]:List jB)) (Ro.nil jG.ty _ _)
 have d:=d.add (m:=Ro.mp (fInt .u64).ty none 0 ([]:List Int)) (Ro.nil (fInt .u64).ty _ _)
 refine bd H λcg bO H=>?_
 have bl:=d.segs 0 rfl
 refine wcS 2 [0,4,1,2,3,5,6,7,8] b d (λd=>lJ N a1 J cc (jF.mk 3 (u64.wrap (I+1)) 0 e.at_ e.key empty ([]:List jB) ([]:List Int) (jU.mk 0 0 0 0 0 empty)) (flat [(3,T),si P,si Q,sl X u.Cuts.length Y,sl Z u.Nodes.length c9,(6,x),sp U,su q,(12,A),sm j,sm g,sl o l.length p,(1,B),su (u64.wrap (I+1)),sp W,(8,C)]) K L D none 0 none 0 F ((d.regr 0 [(false,1),(true,16),(false,2)] rfl).sbK [8,1,0]) bO) ?_
 rintro _ κ w a ⟨bE,bF,rfl,h2⟩ b hB
 have d:=(hB _ _ h2).unregrK 0 [(false,1),(true,16),(false,2)] (s':=k17 a1 T P Q X u Y Z c9 x U q A j g o l.length p B (u64.wrap (I+1)) W C bE cg.length bF D) bl rfl
 refine ⟨notE,?_⟩
 refine kN (cb _ _ (rt ?_))
 cases H
 exact j7 b d (mL results35) ⟨U,ay,j,au,av,g,b9,ca,o,p,W,ai,bE,bF,rfl,d.sp [0,4,1,5,6,7,8] [6,3,8,0]⟩
 refine sk (b5 _ _ (qr λ_ ch=>wc (wld b d 2 0 0 λa b=>wp 2 [2,3,68,70] b λa b=>wc (wld b d 0 3 0 λa b=>wp 3 [2,3,72,74] b λa b=>wc (wst b d 0 3 1 [si (i64.wrap (Q+1))] (sgN 1 jD) λa w b d=>ch _ _ (qs λ_ ci=>rgS d [] ?_))))))
 have d:=d.drew
 have f:=d.fx
 refine atk 0 (some 75) b f rfl (vld 2 0 0) λa b=>anp [1,2] [2,3,77] b f λa b=>atk 3 (some 78) b f rfl (vld 0 2 0) λa b=>anp [4,5] [2,3,80] b f λa b=>atk 6 (some 81) b f rfl (vld 2 0 0) λa b=>anp [7,8] [2,3,80,83] b f λa b=>atk 9 (some 84) b f rfl (vld 0 3 0) λa b=>anp [10,11,12] [2,3,4] b f λa b=>kN (ci _ _ (qs λ_ cj=>rgS d [10] ?_))
 have d:=d.drew
 have f:=d.fx
 refine anp [5] [2,3,4,92] b f λa b=>atk 0 (some 87) b f rfl (vld 2 0 0) λa b=>atk 1 (some 88) b f rfl (vld 2 0 0) λa b=>anp [2,3] [2,3,4,87,90,92] b f λa b=>atk 4 (some 91) b f rfl (vld 0 8 0) λa b=>atk 6 (some 93) b f rfl (vld 1 3 0) λa b=>anp [7,8,9] [2,3,4,94,96] b f λa b=>ago 10 b rfl (wst b d 0 8 1 [su (if e.at_ > q then e.at_ else q)] (sgN 1 jD) λa w b d=>⟨notE,?_⟩)
 refine kN (cj _ _ (qs λ_ cl=>rgS d [] ?_))
 have d:=d.drew
 have f:=d.fx
 refine anp [4] [2,3,4,101] b f λa b=>atk 0 (some 97) b f rfl (vld 2 0 0) λa b=>anp [1,2] [2,3,4,99,101] b f λa b=>atk 3 (some 100) b f rfl (vls 0 4 2) λa b=>atk 5 (some 102) b f rfl (vld 1 4 0) λa b=>ago 6 b rfl (bd H λad bP H=>jR b d kr kr (yB N d.fresh u e.writes X Y Z c9 R S ((d.pick [0,1,6] kr).ro) bP) ?_)
 rintro _ κ w a ⟨aw,ax,rfl,hR,hN⟩ b d hO
 have d:=d.adds hR
 have d:=d.addC hO hN
 refine ⟨λ_=>(d.sx [1,2,3,6,7,8,9] (ra 1 7)),?_⟩
 refine jN [7] (ra 2 4) (L':=[k2x O,k2u V,(4,vu (u64.wrap ((u64.wrap ((u64.wrap P)*2 ^ 16))+(u64.wrap (i64.wrap (Q+1)))))),(5,.slice aw ad.length ax)]) (listed':=(mV 8 255)) (fuel:=0) b (d.sx [1,2,3,6,7,8,9] (ra 1 7)) kr (by intro c a w t v h; cases t<;>exact h) kr rfl λa b=>kN (cl _ _ (qs λ_ cm=>bd H λcn ho H=>?_))
 obtain ⟨aj,bG,d⟩:=d.optS 6 rfl ho
 rw [bG] at d
 try rw [bG] at b
 obtain ⟨⟨co,cp,cq,cr,bQ⟩,d⟩:=d.unfI (ck:=l3) (fs:=kZ) 6 rfl
 refine rgX d [4,5,6,9,10,11] ?_
 have d:=d.drew
 have f:=d.px [4,5,6,9,10,11]
 refine anp [4,5,7] [2,3,4,5,108,109,111] b f λa b=>atk 0 (some 104) b f rfl (vld 2 0 0) λa b=>anp [1,2] [2,3,4,5,106,108,109,111] b f λa b=>atk 3 (some 107) b f rfl (vld 0 7 0) λa b=>atk 6 (some 110) b f rfl (vld 1 3 0) λa b=>ago 8 b rfl (bd H λaU bR H=>wcS 3 (rg 12) b d (λd=>yW N cn (u64.wrap ((u64.wrap ((u64.wrap P)*2 ^ 16))+(u64.wrap (i64.wrap (Q+1))))) e.at_ ad co cp cq cr bQ aw ax aj (d.sbK [0,1]) bR) ?_)
 rintro _ κ w a ⟨cu,cv,cw,cx,bS,rfl,h2⟩ b hB
 have d:=hB _ _ h2
 refine ⟨λ_=>(d.sx [4,5,6,9,10,11] (ra 1 9)),?_⟩
 refine kN ?_
 obtain ⟨aM,d⟩:=d.foldI (ck:=l3) (fs:=kZ) aj (cu,cv,cw,cx,bS) aU.2 [0,1,2] (ra 3 9) [0] dc kr kr
 refine cm _ _ (qs λ_ cy=>?_)
 have d:=d.cC (C':=[k4f aj aM aU.2,.tok aw 141 2 ad.length ax,.box F 87 [si a1,(3,T),si P,si (i64.wrap (Q+1)),sl X u.Cuts.length Y,sl Z u.Nodes.length c9,(6,x),k3v aj,su (if e.at_ > q then e.at_ else q),(12,A),sm j,sm g,sl o l.length p,(1,B),su I,sp W,(8,C),sl K J.length L,(1,D)],k4l V e R S,k4j O F,k45 o l.length p,k3j K J.length L,mx j au av,mx g af ah,k3p W ai aD.1])
 refine rgX d [0,2,3,4,8,9] ?_
 have d:=d.drew
 have f:=d.px [0,2,3,4,8,9]
 refine anp [4,5] [2,3,4,5,117,118] b f λa b=>atk 0 (some 113) b f rfl (vld 3 0 0) λa b=>jN [1,2] [2,3,4,5,115,117,118] (L':=[k2x O,k2u V,(4,vu (u64.wrap ((u64.wrap ((u64.wrap P)*2 ^ 16))+(u64.wrap (i64.wrap (Q+1)))))),(5,.slice aw ad.length ax),(115,pt F 28),(117,vu (u64.wrap ((u64.wrap ((u64.wrap P)*2 ^ 16))+(u64.wrap (i64.wrap (Q+1)))))),(118,pt V 0)]) (listed':=(mV 8 55)) (fuel:=3) b f kr (by intro c a w t v h; cases t<;>exact h) kr rfl λa b=>?_
 refine atk 3 (some 116) b f rfl (vld 1 10 0) λa b=>atk 6 (some 119) b f rfl (vld 2 0 0) λa b=>ago 7 b rfl (bd H λbm bx H=>oC (KT:=32) (E:=3) (kt:=(kInt .u64)) (agg:=false) (t:=(fInt .i64).ty) b d kr 7 5 (k:=u64.wrap ((u64.wrap ((u64.wrap P)*2 ^ 16))+(u64.wrap (i64.wrap (Q+1))))) (v:=e.id) (cs:=flat [si e.id]) rfl kr kr kr rfl rfl rfl bx kr kr λaO aP a w b d=>⟨λ_=>(d.sx [0,2,3,4,8,9] (ra 1 10)),?_⟩)
 refine kN (cy _ _ (qr λ_ bT=>(wp 3 [2,3,4,120,121,122] b λa b=>(bT _ _ (bk (jT (n:=N) (λn a w=>∃κ,∃al:List i9,∃am an ao,Fr (137) [] [k2x O,k2u V,(4,vu (u64.wrap ((u64.wrap ((u64.wrap P)*2 ^ 16))+(u64.wrap (i64.wrap (Q+1)))))),(120,.slice aw ad.length ax),(121,vi (ad.length:Int)),(122,vi ao)] a∧SS Ms κ0 w0 κ w [.box F 87 [si a1,(3,T),si P,si (i64.wrap (Q+1)),sl X u.Cuts.length Y,sl Z u.Nodes.length c9,(6,x),k3v aj,su (if e.at_ > q then e.at_ else q),(12,A),sm j,sm g,sl o l.length p,(1,B),su I,sp W,(8,C),sl am al.length an,(1,D)],k4l V e R S,k4j O F,k3j am al.length an,.tok aw 141 2 ad.length ax,k45 o l.length p,k4f aj aM aU.2,mx j aO aP,mx g af ah,k3p W ai aD.1] [k42 aw ax ad,k3a X Y u.Cuts,k3b Z c9 u.Nodes,k49 j aO aP bm,k4a g af ah aA,k4b o p l,k3k am an al,k3l R S e.writes]∧M.pG N n a1 P Q u q aA l I e aD ad aU bm al ao=some r) ?_ ?_))))))
 exact ⟨_,J,K,L,0,b.kp [2,3,4,120,121,122],d.sp [2,3,4,6,1,5,0,7,8,9] [3,4,5,0,7,8,9,10],H⟩
 rintro n a w ⟨κ,al,am,an,ao,b,d,H⟩
 rcases n with _|bz
 simp [M.pG] at H
 simp only [M.pG] at H
 refine qr λ_ bU=>(jE (L':=[k2x O,k2u V,(4,vu (u64.wrap ((u64.wrap ((u64.wrap P)*2 ^ 16))+(u64.wrap (i64.wrap (Q+1)))))),(120,.slice aw ad.length ax),(121,vi (ad.length:Int)),(122,vi ao),(123,vb (decide (ao<(ad.length:Int))))]) 1 [2,3,4,120,121,122,123] b kr λa b=>bU _ _ (qs λ_ bV=>bc b H (λhb H=>?_) λhb H=>?_))
 refine sk (bV _ _ (qs λ_ bW=>bk (qr λ_ bX=>(bd H λab aV H=>wc (kR b d kr 0 (E:=141) (sz:=2) rfl rfl rfl kr rfl aV kr kr λcz cA a bn b=>?_)))))
 obtain ⟨_,⟨⟨aq,ar⟩,rfl,hR⟩,hc⟩:=d.elem 0 rfl bn aV
 have d:=(d.adds hR).add hc
 refine wc (kQ b kr (v := .agg (flat (k0x ab aq ar)).toArray) ((pD 0 0 2 (s:=[si ab.Node,sl aq ab.Vers.length ar]) (s':=k0x ab aq ar) (n:=2) rfl rfl rfl (show mK [si ab.Node,sl aq ab.Vers.length ar] from (sgN 2 jD)) kr kr kr kr kr _ ⟨_,d⟩)) λa b=>wc (wal b d k0v (sgN 2 jD) λcB a w b d=>wc (wst b d 0 0 2 (k0x ab aq ar) (sgN 2 jD) λa w b d=>?_)))
 refine bX _ _ (rl (wc (wld b d 3 0 0 λa b=>wp 1 [2,3,4,7,120,121,122,126,127] b λa b=>wc (wld b d 0 0 0 λa b=>wp 2 [2,3,4,7,120,121,122,126,128,129,130] b λa b=>wc (wld b d 2 3 0 λa b=>wp 1 [2,3,4,120,121,122,126,128,129,131,132] b λa b=>wc (wld b d 0 1 0 λa b=>wp 1 [2,3,4,120,121,122,126,128,134] b λa b=>?_))))))
 have d:=d.add (m:=Ro.mp (fInt .u64).ty none 0 ([]:List Int)) (Ro.nil (fInt .u64).ty _ _)
 refine bd H λbo bA H=>?_
 have aX:=d.segs 1 rfl
 refine wc (wcS 2 [1,4,0,2,3,5,6,7,8,9,10] b d (λd=>lJ N a1 al ab.Node (jF.mk 1 (u64.wrap ((u64.wrap ((u64.wrap P)*2 ^ 16))+(u64.wrap (i64.wrap (Q+1))))) 0 e.at_ empty empty ab.Vers ([]:List Int) (jU.mk 0 0 0 0 0 empty)) (flat [(3,T),si P,si (i64.wrap (Q+1)),sl X u.Cuts.length Y,sl Z u.Nodes.length c9,(6,x),k3v aj,su (if e.at_ > q then e.at_ else q),(12,A),sm j,sm g,sl o l.length p,(1,B),su I,sp W,(8,C)]) am an D aq ar none 0 F ((d.regr 0 [(false,1),(true,16),(false,2)] rfl).sbK [9,2,0]) bA) ?_)
 rintro _ κ w a ⟨bq,br,rfl,h2⟩ b hB
 have d:=(hB _ _ h2).unregrK 0 [(false,1),(true,16),(false,2)] (s':=[si a1,(3,T),si P,si (i64.wrap (Q+1)),sl X u.Cuts.length Y,sl Z u.Nodes.length c9,(6,x),k3v aj,su (if e.at_ > q then e.at_ else q),(12,A),sm j,sm g,sl o l.length p,(1,B),su I,sp W,(8,C),sl bq bo.length br,(1,D)]) aX rfl
 refine bW _ _ (rl (wp 2 [2,3,4,120,121,122] b λa b=>nl ?_))
 exact ⟨bz,jb _,_,bo,bq,br,i64.wrap (ao+1),b.kp [2,3,4,120,121,122],d.sp [0,3,4,1,5,6,7,8,9,10] [4,5,6,7,8,9,0,11],H⟩
 refine xt ?_
 cases H
 exact j7 b d (mL results35) ⟨(some aj),aM,j,aO,aP,g,af,ah,o,p,W,ai,am,an,rfl,d.sp [0,5,3,6,7,8,9] (ra 3 4)⟩
end Go.Cf
