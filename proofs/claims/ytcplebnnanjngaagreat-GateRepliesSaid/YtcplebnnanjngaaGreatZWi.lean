/- The walks: each function returns what its model says. Printed by a program of ours. -/
import Derived.Test.YtcplebnnanjngaaGreatZSh
import Derived.Test.YtcplebnnanjngaaGreatZM1
import Derived.Test.YtcplebnnanjngaaGreatZWo
namespace Go.Cf
open Go Go.Proofs Tryz
open _root_.Int(toNat tdiv tmod)
open _root_.List(set replicate)
open _root_.ByteArray(empty)
open Go.IntKind(i64 u64)
set_option linter.unusedVariables false
set_option maxRecDepth 20000
set_option maxHeartbeats 8000000
theorem y9 (N){j}{k}{f}(d)(s:SB j k f [] []){r}(H:M.vR N d=some r) :
    Calls Tryz.prog 26 #[vi d] f (kP j k f λv κ w => ∃o l n p g e h i,v=pt o 0∧SS j k f κ w [k3w o r l n p g e,.ext (ownX jM 4 p g r.done),mx e h i,k3r l r.list.length n] (k0o l n r e h i)):=by
 have c:=s.hS
 have x:=c.fresh
 refine en func26 rfl ntmps26 λa b=>?_
 unfold M.vR at H
 refine qs λ_ hz=>rl (wp 1 [0] b λa b=>nl (hz _ _ (qr λ_ t=>(jE (L':=[(4,vi (if 0 > d then 0 else d))]) 2 [4] b kr λa b=>wc (sS b c kr (kInt .i64) false (fInt .u64).ty rfl λq a w b c=>wp 1 [6] b λa b=>wc (wbx b c [si (if 0 > d then 0 else d),k37,si 0,k37,k3y q,su 0] (sgN 6 jD) λu a w b c=>wp 1 [2] b λa b=>t _ _ (rt ?_)))))))
 have c:=c.add (m:=Ro.mp lD none 0 ([]:List kC)) (Ro.nil lD _ _)
 have c:=c.addOwn jM 4
 have c:=c.addNil 135 4
 cases H
 exact j7 b c (l4 results26 (rvt b)) ⟨u,none,0,none,0,(some q),#[],0,rfl,c.sp [2,1,3,0] [0,1]⟩
theorem BE (N){U}{V}{D}(p:j3)(F)(f:kC)(q)(s)(u)(x)(m)(n)(o)(j)(k)(g)(hB:SB U V D (k0p g p q s u x m (ownX jM 4 u x p.done) n o) [k3s q s p.list,k3x m n o p.hearts,k3l j k f.Vers]){r}(H:M.tN N p F f=some r) :
    Calls Tryz.prog 64 #[pt g 0,vi F,.agg (flat (k0i f j k)).toArray] D (kP U V D λv κ w => ∃G I J K L O P,v=vi r.1∧SS U V D κ w (k0p g r.2 G I J K L (ownX jM 4 J K r.2.done) O P) (k0o G I r.2 L O P)):=by
 have d:=hB.hS
 have aA:=d.fresh
 refine en func64 rfl ntmps64 λa b=>?_
 unfold M.tN at H
 refine qr λ_ Z=>wc (wbx b d (k0i f j k) (sgN 4 jD) λaa a w b d=>wp 1 [0,1,5] b λa b=>Z _ _ (qs λ_ ab=>qr λ_ ad=>wp 2 [0,1,5,8] b λa b=>ad _ _ (cf b rfl (sk (ab _ _ (qs λ_ ae=>qs λ_ af=>rgS d [] ?_))))))
 have d:=d.drew
 have e:=d.fx
 refine anp [0,1,2,3,5,6,7] [0,1,5,9,12,16] b e λa b=>atk 4 (some 13) b e rfl (vld 1 0 0) λa b=>atk 8 (some 17) b e rfl (vld 1 1 0) λa b=>anp [9,10,11] [0,1,5,20] b e λa b=>kN (af _ _ (bc b H (λhb H=>?_) λhb H=>?_))
 refine qr λ_ ah=>wp 1 [6] b λa b=>ah _ _ (rt ?_)
 cases H
 exact j7 b d (l4 results64 (rvt b)) ⟨q,s,u,x,m,n,o,rfl,d.sp (ra 1 4) [0,1]⟩
 refine sk (ae _ _ (qs λ_ ai=>qs λ_ aj=>rgS d [] ?_))
 have d:=d.drew
 have e:=d.fx
 refine anp [0,1,2,3,5,6,7] [0,5,21,24,28] b e λa b=>atk 4 (some 25) b e rfl (vld 1 0 0) λa b=>atk 8 (some 29) b e rfl (vld 1 1 0) λa b=>anp [9,10,11] [0,5,32] b e λa b=>kN (aj _ _ (bc b H (λhb H=>?_) λhb H=>?_))
 refine qr λ_ ak=>wp 1 [6] b λa b=>ak _ _ (rt ?_)
 cases H
 exact j7 b d (l4 results64 (rvt b)) ⟨q,s,u,x,m,n,o,rfl,d.sp (ra 1 4) [0,1]⟩
 refine sk (ai _ _ (qs λ_ al=>qr λ_ am=>wp 3 [0,5,35] b λa b=>wc (wld b d 1 1 0 λa b=>wp 2 [0,5,38] b λa b=>am _ _ (bc b H (λhb H=>?_) λhb H=>?_))))
 refine qr λ_ an=>wp 1 [6] b λa b=>an _ _ (rt ?_)
 cases H
 exact j7 b d (l4 results64 (rvt b)) ⟨q,s,u,x,m,n,o,rfl,d.sp (ra 1 4) [0,1]⟩
 refine sk (al _ _ (qs λ_ ao=>rgS d [11] ?_))
 have d:=d.drew
 have e:=d.fx
 refine bd H λA W H=>bd H λaq X H=>jN (rg 4) [0,5,39,42] (L':=[k35 g,k32 aa,(39,pt g 0),(42,pt g 1)]) (listed':=(mV 12 15)) (fuel:=8) b e kr (by intro c a w t v h; cases t<;>exact h) kr rfl λa b=>atk 4 (some 43) b e rfl (vld 1 1 0) λa b=>atk 5 (some 44) b e rfl (vls 0 0 4) λa b=>ago 6 b rfl (jR b d kr kr (vN N d.fresh f j k ((d.pick [2] kr).ro) W) ?_)
 rintro _ κ w a ⟨B,C,rfl,hR,hN⟩ b d hO
 have d:=d.adds hR
 have d:=d.addC hO hN
 refine ⟨λ_=>(d.sx [1,2,4,5] [1,2,3]),?_⟩
 refine ago 7 b rfl (uK (t:=lD) (y:=A) (v := .agg (flat (k0i A B C)).toArray) (z := .agg (flat k0j).toArray) (cells:=(flat (k0i A B C)).toArray) (E:=135) b d kr rfl kr ⟨(B,C),rfl,(d.pick [0] kr).ro⟩ kr kr kr kr kr λaB κ a w b d=>⟨λ_=>(d.sx [2,3,5,6] [2,3,4]),?_⟩)
 refine ago 8 b rfl (kJ (ty:=lD) b d kr 4 2 0 rfl rfl rfl kr kr rfl rfl rfl X kr (i:=Tryz.t135) (z := .agg (flat k0j).toArray) kr kr kr λQ R κ a w b d=>⟨λ_=>(d.sx [2,3,5,6] [3,4,5]),?_⟩)
 refine anp [9,10] [0,47,49] b (d.sx [2,3,5,6] [3,4,5]) λa b=>ago 11 b rfl (wst b d 3 1 1 [sl Q aq.length R] (sgN 1 jD) λa w b d=>⟨notE,?_⟩)
 refine kN (ao _ _ (qr λ_ ar=>(jE (L':=[(50,pt g 0),(53,pt g 3)]) 4 [50,53] b kr λa b=>wc (wld b d 3 3 0 λa b=>wc (oI (t:=jM) (z:=vb false) (l:=[false]) (vs:=[(0,vb false)]) (cells := #[vb false]) (E:=4) b d kr rfl kr kr rfl kr kr kr kr kr λaD κ a w b d=>bd H λau Y H=>wc (xD b d kr 6 0 rfl rfl rfl rfl rfl rfl rfl Y kr (i:=Tryz.t4) (z:=vb false) kr kr kr λS T κ a w b d=>wp 2 [56,58] b λa b=>wc (wst b d 4 3 1 [sl S au.length T] (sgN 1 jD) λa w b d=>ar _ _ (qs λ_ av=>?_))))))))
 refine rl (wp 1 [6] b λa b=>av _ _ (rt ?_))
 cases H
 exact j7 b d (l4 results64 (rvt b)) ⟨Q,R,S,T,m,n,o,rfl,d.sp (ra 4 4) [1,5]⟩
theorem xA (N){D}{F}{u}(l:j3)(G)(I)(x)(y)(z)(J)(K)(o)(V:SB D F u (k0q o l G I x y z (ownX jM 4 x y l.done) J K) (k0o G I l z J K)){r}(H:M.rQ N l=some r) :
    Calls Tryz.prog 109 #[pt o 0] u (kP D F u λv κ w => ∃p q,v = .tuple #[.agg (flat (k0i r.1 p q)).toArray,vb r.2]∧SS D F u κ w [k3w o l G I x y z,.ext (ownX jM 4 x y l.done),mx z J K,k3z p r.1.Vers.length q] (k0r p q r.1.Vers)):=by
 have d:=V.hS
 have Y:=d.fresh
 refine en func109 rfl ntmps109 λa b=>?_
 unfold M.rQ at H
 refine qr λ_ P=>wc (wal b d k0j (sgN 4 jD) λA a w b d=>wp 1 [0,2] b λa b=>P _ _ (qs λ_ Q=>qs λ_ R=>rgS d [] ?_))
 have d:=d.drew
 have f:=d.fx
 refine anp [0,1,2,3,4,5,7,8,9] [0,2,6,9,13] b f λa b=>atk 6 (some 10) b f rfl (vld 1 2 0) λa b=>atk 10 (some 14) b f rfl (vld 1 1 0) λa b=>anp [11,12,13] [0,2,17] b f λa b=>kN (R _ _ (bc b H (λhb H=>?_) λhb H=>?_))
 refine qr λ_ S=>wp 1 [2,18] b λa b=>wc (wst b d 0 0 4 k0j (sgN 4 jD) λa w b d=>wp 1 [2,3] b λa b=>S _ _ (rt ?_))
 have hS':=d
 have d:=d.add (m:=Ro.mp jG.ty none 0 ([]:List jB)) (Ro.nil jG.ty _ _)
 have d:=d.addNil 48 6
 cases H
 exact j7 b d (tB results109 (rvs b hS' 0 0 4) (rvt b)) ⟨none,0,rfl,d.sp [2,3,4,0] [0]⟩
 refine sk (Q _ _ (qs λ_ T=>bd H λe g H=>?_))
 obtain ⟨Z,aa,i⟩:=d.ptr 0 rfl g
 obtain ⟨_,⟨⟨j,k⟩,rfl,L⟩,hc⟩:=d.elem 0 rfl i g
 have d:=(d.adds L).add hc
 refine rgS d [11] ?_
 have d:=d.drew
 have f:=d.fx
 refine jN [0,1,2,4,5,6] [2,21,25] (L':=[k2x A,(21,pt o 1),(25,pt o 2)]) (listed':=(mV 13 119)) (fuel:=7) b f kr (by intro c a w t v h; cases t<;>exact h) kr rfl λa b=>atk 3 (some 22) b f rfl (vld 1 1 0) λa b=>atk 7 (some 26) b f rfl (vld 1 2 0) λa b=>atk 8 (some 27) b f rfl (λw _=>mP (E:=135) (sz:=4) rfl i rfl kr rfl g kr kr w) λa b=>atk 9 (some 28) b f rfl (pD 0 0 4 (s:=[su e.TS,si e.DC,si e.Tx,sl j e.Vers.length k]) (s':=k0i e j k) (n:=4) rfl rfl rfl (show mK [su e.TS,si e.DC,si e.Tx,sl j e.Vers.length k] from (sgN 4 jD)) kr kr kr kr kr) λa b=>?_
 refine ago 10 b rfl (bd H λU O H=>jR b d kr kr (vN N d.fresh e j k ((d.pick [1] kr).ro) O) ?_)
 rintro _ κ w a ⟨B,C,rfl,L,W⟩ b d X
 have d:=d.adds L
 have d:=d.addC X W
 refine ⟨λ_=>(d.sx (ra 1 4) (ra 1 4)),?_⟩
 refine ago 11 b rfl (wst b d 1 0 4 (k0i U B C) (sgN 4 jD) λa w b d=>⟨notE,?_⟩)
 refine u1 [12] [2,3] b notE λa b=>?_
 have b:Fr (30) _ [k2x A,(3,vb true)] a:=b.kp [2,3]
 refine kN (T _ _ (rt ?_))
 have hS':=d
 cases H
 exact j7 b d (tB results109 (rvs b hS' 1 0 4) (rvt b)) ⟨B,C,rfl,d.sp [2,3,4,0] [0]⟩
theorem AQ (N){E}{F}{z}(d:j3)(g)(h)(i)(j)(k)(n)(o)(p)(G:SB E F z (k0p p d g h i j k (ownX jM 4 i j d.done) n o) (k0o g h d k n o)){r}(H:M.sV N d=some r) :
    Calls Tryz.prog 110 #[pt p 0] z (kP E F z λv κ w => ∃q s t u A B x C D,v = .tuple #[vi r.1,.agg (flat (k0i r.2.1 q s)).toArray,vb r.2.2.1]∧SS E F z κ w [k3w p r.2.2.2 t u A B x,k3r t r.2.2.2.list.length u,.ext (ownX jM 4 A B r.2.2.2.done),mx x C D,k3z q r.2.1.Vers.length s] [k3l q s r.2.1.Vers,k3s t u r.2.2.2.list,k3x x C D r.2.2.2.hearts]):=by
 have c:=G.hS
 have V:=c.fresh
 refine en func110 rfl ntmps110 λa b=>?_
 unfold M.sV at H
 refine qr λ_ J=>wp 1 [0] b λa b=>wc (wal b c k0j (sgN 4 jD) λK a w b c=>wp 1 [0,3] b λa b=>J _ _ (qr λ_ L=>wp 1 [0,3,8] b λa b=>bd H λl I H=>wc (wcS 3 [1,3,4,0,2] b c (λc=>xA N d g h i j k n o p (c.sbK [0,1]) I) ?_)))
 rintro _ κ w a ⟨e,f,rfl,U⟩ b G
 have c:=G _ _ U
 refine wp 3 [0,3,10,11] b λa b=>wc (wal b c k0j (sgN 4 jD) λO a w b c=>wc (wst b c 0 0 4 (k0i l.1 e f) (sgN 4 jD) λa w b c=>wp 1 [0,3,5,6] b λa b=>L _ _ (qs λ_ P=>qr λ_ Q=>wp 2 [0,3,5,13] b λa b=>Q _ _ (bc b H (λhb H=>?_) λhb H=>?_))))
 refine qr λ_ R=>wp 2 [2,3,14] b λa b=>wc (wst b c 5 0 4 k0j (sgN 4 jD) λa w b c=>wp 1 [2,3,4] b λa b=>R _ _ (rt ?_))
 have hS':=c
 have c:=c.add (m:=Ro.mp jG.ty none 0 ([]:List jB)) (Ro.nil jG.ty _ _)
 have c:=c.addNil 48 6
 cases H
 exact j7 b c (GB results110 (rvt b) (rvs b hS' 5 0 4) (rvt b)) ⟨none,0,g,h,i,j,k,n,o,rfl,c.sp [2,7,3,4,0] [0,2,3]⟩
 refine sk (P _ _ (qr λ_ S=>wp 3 [0,3,5,15,17] b λa b=>wc (wld b c 1 2 0 λa b=>wp 3 [0,3,5,19,21] b λa b=>wc (wst b c 1 2 1 [si (i64.wrap (d.handed+1))] (sgN 1 jD) λa w b c=>S _ _ (qs λ_ T=>?_)))))
 have c:=c.cC (C':=[k3t O l.1 e f,.box p 114 [si d.base,sl g d.list.length h,si (i64.wrap (d.handed+1)),sl i d.done.length j,sm k,su d.got],.ext (ownX jM 4 i j d.done),mx k n o,k3z e l.1.Vers.length f,.box K 135 k0j,k3r g d.list.length h])
 refine rgX c (rg 4) ?_
 have c:=c.drew
 have y:=c.px (rg 4)
 refine anp [0,1,2,4,5,6] [3,5,24,28] b y λa b=>atk 3 (some 25) b y rfl (vld 1 0 0) λa b=>atk 7 (some 29) b y rfl (vld 1 2 0) λa b=>anp [8,9,11] [2,3,5] b y λa b=>atk 10 (some 32) b y rfl (vls 0 0 4) λa b=>ago 12 b rfl (wst b c 5 0 4 (k0i l.1 e f) (sgN 4 jD) λa w b c=>⟨λ_=>(c.sx (rg 4) [0,1,2]),?_⟩)
 refine anp [13] [2,3,4] b (c.sx (rg 4) [0,1,2]) λa b=>kN (T _ _ (rt ?_))
 have hS':=c
 cases H
 exact j7 b c (GB results110 (rvt b) (rvs b hS' 5 0 4) (rvt b)) ⟨e,f,g,h,i,j,k,n,o,rfl,c.sp [1,6,2,3,4] [0,1,2]⟩
theorem w7 (N){C}{D}{x}(e:j3)(q)(s)(y)(z)(j)(R)(u)(i)(X:SB C D x (k0p i e q s y z j (ownX jM 4 y z e.done) R u) (k0o q s e j R u)){r}(H:M.pF N e=some r) :
    Calls Tryz.prog 95 #[pt i 0] x (kP C D x λv κ w => ∃F G I J K L O,v = .tuple #[]∧SS C D x κ w (k0p i r F G I J K (ownX jM 4 I J r.done) L O) (k0o F G r K L O)):=by
 have c:=X.hS
 have Z:=c.fresh
 refine en func95 rfl ntmps95 λa b=>?_
 unfold M.pF at H
 refine qr λ_ S=>(jE (L':=[k35 i,(6,pt i 4)]) 3 [0,6] b kr λa b=>wc (wld b c 0 4 0 λa b=>wc (xW (KT:=3) (E:=32) (kt:=(kInt .i64)) (agg:=false) (t:=(fInt .u64).ty) b c kr 3 1 rfl kr rfl rfl kr λo a w b c=>(S _ _ (bk (jT (n:=N) (λn a w => ∃κ g l f A h,Fr (34) [] [k35 i,k3f o] a∧SS C D x κ w [.box i 114 [si e.base,sl q e.list.length s,si e.handed,sl y e.done.length z,sm j,su f],k3r q e.list.length s,.ext (ownX jM 4 y z e.done),mx j g u,.ext (objX (some o) (itO j u A))] [k3s q s e.list,k3x j g u l,It.mp (kInt .i64) g A h]∧M.m8 N n e l f h=some r) ?_ ?_))))))
 exact ⟨_,R,e.hearts,e.got,#[],(pP e.hearts),b.kp [0,8],c.sp [1,2,3,4,0] [1,2,0],H⟩
 rintro n a w ⟨κ,g,l,f,A,h,b,c,H⟩
 rcases n with _|p
 simp [M.m8] at H
 simp only [M.m8] at H
 refine qr λ_ P=>(wc (zO (kt:=(kInt .i64)) (agg:=false) (t:=(fInt .u64).ty) b c kr 3 4 1 2 rfl kr rfl rfl rfl rfl H ?_ ?_))
 intro H a b
 refine wp 1 [0,8,10] b λa b=>P _ _ (qs λ_ aa=>cf b rfl (xt ?_))
 cases H
 exact j7 b c (mL results95) ⟨q,s,y,z,j,g,u,rfl,c.sp (rg 4) [0,1]⟩
 intro d Y B a w H b c
 refine jE (L':=[k35 i,k3f o,(10,vb true)]) 1 [0,8,10] b kr λa b=>(P _ _ (qs λ_ T=>ct b rfl (sk (T _ _ (bk (qr λ_ U=>(wc (xX (kt:=(kInt .i64)) (agg:=false) (t:=(fInt .u64).ty) b c kr 3 4 3 0 rfl kr rfl rfl rfl rfl ?_))))))))
 rintro _ a rfl b
 refine wp 4 [0,2,3,8] b λa b=>U _ _ (qr λ_ V=>wp 4 [0,2,3,8,14,17] b λa b=>wc (wld b c 0 0 0 λa b=>wp 1 [0,2,3,8,19] b λa b=>V _ _ (bc b H (λhb H=>?_) λhb H=>?_)))
 refine qr λ_ W=>(wp 4 [0,2,3,8,20,23] b λa b=>wc (wld b c 0 5 0 λa b=>wp 4 [0,2,8,26,28] b λa b=>wc (wst b c 0 5 1 [su (if d.2 > f then d.2 else f)] (sgN 1 jD) λa w b c=>(W _ _ (rl (wp 3 [0,2,8,31] b λa b=>wc (wld b c 0 4 0 λa b=>jE (L':=[k35 i,k3f o,(32,.map j),(33,vi d.1)]) 1 [0,8,32,33] b kr λa b=>wc (wM (KT:=3) (E:=32) (kt:=(kInt .i64)) (agg:=false) (t:=(fInt .u64).ty) b c kr 3 3 (k:=d.1) rfl kr kr rfl rfl kr kr λQ a w hsub b c=>?_))))))))
 have c:=c.add (m:=It.mp (kInt .i64) Q B (kRem h d.1)) (E0.sub (c.get 2 rfl) hsub)
 refine nl ?_
 exact ⟨p,jb _,_,Q,(mDel l d.1),(if d.2 > f then d.2 else f),B,(kRem h d.1),b.kp [0,8],c.sp (rg 5) [4,1,0],H⟩
 refine sk ?_
 exact ⟨p,jb _,_,g,l,f,B,(kRem h d.1),b.kp [0,8],c.sp (rg 5) [2,3,1],H⟩
theorem AR (N){O}{Q}{B}(d:j3)(j)(q)(s)(l)(p)(x)(y)(A)(g)(hB:SB O Q B (k0p g d q s l p x (ownX jM 4 l p d.done) y A) (k0o q s d x y A)){r}(H:M.sW N d j=some r) :
    Calls Tryz.prog 73 #[pt g 0,vi j] B (kP O Q B λv κ w => ∃R S T U V W X,v=vi r.1∧SS O Q B κ w (k0p g r.2 R S T U V (ownX jM 4 T U r.2.done) W X) (k0o R S r.2 V W X)):=by
 have e:=hB.hS
 have aQ:=e.fresh
 refine en func73 rfl ntmps73 λa b=>?_
 unfold M.sW at H
 refine qr λ_ an=>wp 1 [0,1] b λa b=>an _ _ (qs λ_ ao=>qr λ_ aq=>wp 2 [0,1,7] b λa b=>aq _ _ (cf b rfl (sk (ao _ _ (qs λ_ ar=>qs λ_ au=>bd H λav k H=>kL (λa w => ∃κ,Fr (107) [] [k35 g,k2z j,(40,vb av)] a∧SS O Q B κ w (k0p g d q s l p x (ownX jM 4 l p d.done) y A) (k0o q s d x y A)∧True) ?_ ?_)))))
 refine rgS e [] ?_
 have e:=e.drew
 have i:=e.fx
 refine anp (rg 4) [0,1,8,11] b i λa b=>atk 4 (some 12) b i rfl (vld 0 0 0) λa b=>anp [5,6] [0,1,14] b i λa b=>bs k (λhb k=>?_) λhb k=>?_
 have b:=b.bv 14 hb
 refine anp (ra 7 26) [0,1,40] b i λa b=>kN ?_
 cases k
 exact ⟨_,b.kp [0,1,40],e.sp (rg 4) [0,1],ja⟩
 have b:=b.bv 14 hb
 refine anp [7,8,9,10,13,14,15] [0,1,14,15,18,23] b i λa b=>atk 11 (some 19) b i rfl (vld 0 0 0) λa b=>anp [12] [0,1,14,20,23] b i λa b=>atk 16 (some 24) b i rfl (vld 0 2 0) λa b=>anp [17,18,19] [0,1,27] b i λa b=>bs k (λhb k=>?_) λhb k=>?_
 have b:=b.bv 27 hb
 refine anp (ra 20 13) [0,1,40] b i λa b=>kN ?_
 cases k
 exact ⟨_,b.kp [0,1,40],e.sp (rg 4) [0,1],ja⟩
 have b:=b.bv 27 hb
 refine anp [20,21,22,24,25,26,27] [0,1,27,30,32,35] b i λa b=>atk 23 (some 31) b i rfl (vld 0 3 0) λa b=>atk 28 (some 36) b i rfl (vld 0 0 0) λa b=>jN [29] [0,1,27,31,37] (L':=[k35 g,k2z j,(27,vb false),(31,.slice l d.done.length p),(37,vi (i64.wrap (j-d.base)))]) (listed':=(mV 33 1073741823)) (fuel:=3) b i kr (by intro c a w t v h; cases t<;>exact h) kr rfl λa b=>bd k λaw C k=>?_
 obtain ⟨aR,aS,F⟩:=e.ptrO 2 rfl C
 refine atk 30 (some 38) b (e.sx [0,2,3] [0,1]) rfl (λw _=>mP (E:=4) (sz:=1) rfl F rfl kr rfl C kr kr w) λa b=>atk 31 (some 39) b (e.sx [0,2,3] [0,1]) rfl (yC 1 (v:=vb aw) rfl rfl F rfl C rfl kr kr) λa b=>anp [32] [0,1,40] b (e.sx [0,2,3] [0,1]) λa b=>kN ?_
 cases k
 exact ⟨_,b.kp [0,1,40],e.sp (rg 4) [0,1],ja⟩
 rintro a w ⟨κ,b,e,-⟩
 refine au _ _ (bc b H (λhb H=>?_) λhb H=>?_)
 refine qr λ_ ax=>wp 1 [4] b λa b=>ax _ _ (rt ?_)
 cases H
 exact j7 b e (l4 results73 (rvt b)) ⟨q,s,l,p,x,y,A,rfl,e.sp (rg 4) [0,1]⟩
 refine sk (ar _ _ (qs λ_ ay=>rgS e [11] ?_))
 have e:=e.drew
 have i:=e.fx
 refine anp [0,1,2,4,5,6,7] [0,43,45,48] b i λa b=>atk 3 (some 44) b i rfl (vld 0 3 0) λa b=>atk 8 (some 49) b i rfl (vld 0 0 0) λa b=>jN [9] [0,44,50] (L':=[k35 g,(44,.slice l d.done.length p),(50,vi (i64.wrap (j-d.base)))]) (listed':=(mV 12 1023)) (fuel:=2) b i kr (by intro c a w t v h; cases t<;>exact h) kr rfl λa b=>bd H λaT D H=>?_
 obtain ⟨aU,aV,G⟩:=e.ptrO 2 rfl D
 refine atk 10 (some 51) b (e.sx [0,2,3] [0,1]) rfl (λw _=>mP (E:=4) (sz:=1) rfl G rfl kr rfl D kr kr w) λa b=>ago 11 b rfl (sR b e kr 2 (z:=true) rfl rfl rfl rfl G D rfl kr rfl kr (Cf:=(λnn=>[.box g 114 [si d.base,sl q d.list.length s,si d.handed,sl l nn p,sm x,su d.got],.tok q 135 4 d.list.length s,.ext (ownX jM 4 l p (set d.done (toNat (i64.wrap (j-d.base))) true)),mx x y A])) (Lf:=(λnn=>[(0,pt g 0),(44,.slice l nn p),(50,vi (i64.wrap (j-d.base)))])) [0,44,50] kr kr λa w b e=>?_)
 refine ⟨notE,?_⟩
 refine kN (ay _ _ (qr λ_ az=>(wp 1 [0,5] b λa b=>(az _ _ (qs λ_ aA=>bk (jT (n:=N) (λn a w => ∃κ f,Fr (107) [] [k35 g,(5,vi f)] a∧SS O Q B κ w [.box g 114 [si d.base,sl q d.list.length s,si d.handed,sl l ((set d.done (toNat (i64.wrap (j-d.base))) true)).length p,sm x,su d.got],k3r q d.list.length s,.ext (ownX jM 4 l p (set d.done (toNat (i64.wrap (j-d.base))) true)),mx x y A] (k0o q s d x y A)∧M.nY N n d j f=some r) ?_ ?_))))))
 exact ⟨_,0,b.kp [0,5],e.sp (rg 4) [0,1],H⟩
 rintro n a w ⟨κ,f,b,e,H⟩
 rcases n with _|ad
 simp [M.nY] at H
 simp only [M.nY] at H
 refine qs λ_ aB=>qr λ_ aD=>bd H λaE u H=>k8 (λa w => ∃κ,Fr (107) [] [k35 g,(5,vi f),(66,vb aE)] a∧SS O Q B κ w [.box g 114 [si d.base,sl q d.list.length s,si d.handed,sl l ((set d.done (toNat (i64.wrap (j-d.base))) true)).length p,sm x,su d.got],k3r q d.list.length s,.ext (ownX jM 4 l p (set d.done (toNat (i64.wrap (j-d.base))) true)),mx x y A] (k0o q s d x y A)∧True) ?_ ?_
 refine wp 4 [0,5,52,55] b λa b=>wc (wld b e 0 2 0 λa b=>wp 2 [0,5,58] b λa b=>bs u (λhb u=>?_) λhb u=>?_)
 have b:=b.bv 58 hb
 refine wp 3 [0,5,58,61] b λa b=>wcg b (wld b e 0 3 0 λa b=>jE (L':=[k35 g,(5,vi f),(58,vb true),(62,.slice l ((set d.done (toNat (i64.wrap (j-d.base))) true)).length p),(63,vi f)]) 1 [0,5,58,62,63] b kr λa b=>bd u λaF Y u=>wcg b (uJ b e kr 2 (sz:=1) rfl rfl rfl rfl rfl Y kr kr λaW aX a ae b=>wcg b (zP b e kr 2 (v:=vb aF) rfl rfl ae rfl Y rfl kr kr λa b=>wp 1 [0,5,66] b λa b=>nl ?_)))
 cases u
 exact ⟨_,b.kp [0,5,66],e.sp (rg 4) [0,1],ja⟩
 have b:=b.bv 58 hb
 refine wp 8 [0,5,66] b λa b=>nl ?_
 cases u
 exact ⟨_,b.kp [0,5,66],e.sp (rg 4) [0,1],ja⟩
 rintro a w ⟨κ,b,e,-⟩
 refine aD _ _ (bc b H (λhb H=>?_) λhb H=>?_)
 refine sk (aB _ _ (bk (rl (wp 3 [0,5] b λa b=>nl ?_))))
 exact ⟨ad,jb _,_,i64.wrap (f+1),b.kp [0,5],e.sp (rg 4) [0,1],H⟩
 refine xt (aA _ _ (qs λ_ aG=>rgS e [30,33,36,39] ?_))
 have e:=e.drew
 have i:=e.fx
 refine anp [0,4,5,6,8,10,11,12,16,17,18,22,23,24] [0,5,69,75,77,81,87,93] b i λa b=>u1 [1,2,3,14,20,26] [0,69,70,71,72,75,77,81,83,87,89,93,95] b (λ_=>i) λa b=>?_
 have b:Fr (107) _ [k35 g,(69,pt g 0),(70,pt g 0),(71,pt g 0),(72,pt g 0),(75,pt g 0),(77,vi f),(81,pt g 1),(83,vi f),(87,pt g 3),(89,vi f),(93,pt g 2),(95,vi f)] a:=b.kp [0,69,70,71,72,75,77,81,83,87,89,93,95]
 refine atk 7 (some 76) b i rfl (vld 0 0 0) λa b=>anp [9] [0,69,70,71,72,78,81,83,87,89,93,95] b i λa b=>atk 13 (some 82) b i rfl (vld 0 1 0) λa b=>atk 19 (some 88) b i rfl (vld 0 3 0) λa b=>atk 25 (some 94) b i rfl (vld 0 2 0) λa b=>anp [28,29] [0,70,71,72,78,82,83,88,89,94,95,98] b i λa b=>u1 [27] [0,70,71,72,78,82,83,88,89,96,98] b (λ_=>i) λa b=>?_
 have b:Fr (107) _ (k0s g (i64.wrap (d.base+f)) q d.list.length s f l ((set d.done (toNat (i64.wrap (j-d.base))) true)).length p (i64.wrap (d.handed-f))) a:=b.kp [0,70,71,72,78,82,83,88,89,96,98]
 refine bd H λI ah H=>?_
 obtain ⟨J,K,hvx87,hrx87,hcx87⟩:=G4 Tryz.prog lD 135 (L:=k0s g (i64.wrap (d.base+f)) q d.list.length s f l ((set d.done (toNat (i64.wrap (j-d.base))) true)).length p (i64.wrap (d.handed-f))) (o:=⟨(some 84),(Go.Op.slice 112 (Go.Operand.tmp 82) (some (Go.Operand.tmp 83)) none none),112,"inbox.go:72",#[(Go.Edge.mk 13 Go.Ground.data),(Go.Edge.mk 14 Go.Ground.data)],none⟩) (E:=135) rfl (e.get 0 rfl:Ro lD _ _ q s d.list).1 rfl rfl rfl ah kr kr
 have e:=e.add (m:=Ro.mp lD J K I) (hrx87 _ _ (e.get 0 rfl))
 refine MW 15 (some 84) (b.kp [0,70,71,72,78,82,83,88,89,90,96,98]:Fr (107) _ (k0s g (i64.wrap (d.base+f)) q d.list.length s f l ((set d.done (toNat (i64.wrap (j-d.base))) true)).length p (i64.wrap (d.handed-f))) a) (λ_=>e.sx [0,2,3] [1,2]) rfl (λw=>hvx87 w) λa b=>bd H λZ ai H=>?_
 obtain ⟨aa,ab,hcx90,hvx90⟩:=G5 (P:=Tryz.prog) (L:=[k35 g,(70,pt g 0),(71,pt g 0),(72,pt g 0),(78,vi (i64.wrap (d.base+f))),(82,.slice q d.list.length s),(83,vi f),(84,.slice J I.length K),(88,.slice l ((set d.done (toNat (i64.wrap (j-d.base))) true)).length p),(89,vi f),(96,vi (i64.wrap (d.handed-f))),(98,pt g 0)]) (o:=⟨(some 90),(Go.Op.slice 75 (Go.Operand.tmp 88) (some (Go.Operand.tmp 89)) none none),75,"inbox.go:72",#[(Go.Edge.mk 19 Go.Ground.data),(Go.Edge.mk 20 Go.Ground.data)],none⟩) e 2 rfl rfl rfl rfl rfl ai kr kr
 refine MW 21 (some 90) b (λ_=>e.sx [0,2,3] [1,2]) rfl (λw=>hvx90 w) λa b=>?_
 have e:=e.convT 1 rfl hcx87
 have e:=e.convO 2 rfl hcx90
 refine ago 30 b rfl (wst b e 0 0 1 [si (i64.wrap (d.base+f))] (sgN 1 jD) λa w b e=>⟨notE,?_⟩)
 refine FI e [33,36,39] kr (anp [31,32] [0,71,72,84,90,96,100] b (e.sx [0,2,3] [0,1,2]) λa b=>ago 33 b rfl (wst b e 0 1 1 [sl J I.length K] (sgN 1 jD) λa w b e=>⟨notE,?_⟩))
 refine u1 [34,35] [0,72,90,96,102] b notE λa b=>?_
 have b:Fr (107) _ [k35 g,(72,pt g 0),(90,.slice aa Z.length ab),(96,vi (i64.wrap (d.handed-f))),(102,pt g 3)] a:=b.kp [0,72,90,96,102]
 refine ago 36 b rfl (wst b e 0 3 1 [sl aa Z.length ab] (sgN 1 jD) λa w b e=>⟨notE,?_⟩)
 refine u1 [37,38] [0,96,104] b notE λa b=>?_
 have b:Fr (107) _ [k35 g,(96,vi (i64.wrap (d.handed-f))),(104,pt g 2)] a:=b.kp [0,96,104]
 refine ago 39 b rfl (wst b e 0 2 1 [si (i64.wrap (d.handed-f))] (sgN 1 jD) λa w b e=>⟨notE,?_⟩)
 refine kN (aG _ _ (qr λ_ aH=>wp 1 [105] b λa b=>bd H λaY aj H=>wc (wcS 4 (rg 4) b e (λe=>w7 N (j3.mk (i64.wrap (d.base+f)) I (i64.wrap (d.handed-f)) Z d.hearts d.got) J K aa ab x y A g (e.sbK [0,2]) aj) ?_)))
 rintro _ κ w a ⟨aI,aJ,aL,aM,aO,ak,al,rfl,h2⟩ b hB
 have e:=hB _ _ h2
 refine aH _ _ (qr λ_ am=>wp 1 [4] b λa b=>am _ _ (rt ?_))
 cases H
 exact j7 b e (l4 results73 (rvt b)) ⟨aI,aJ,aL,aM,aO,ak,al,rfl,e.sp (rg 4) [0,1]⟩
theorem yT (N){h}{i}{d}(c:j3)(j)(k)(e)(f)(l)(m)(n)(o)(u:SB h i d (k0q o c j k e f l (ownX jM 4 e f c.done) m n) (k0o j k c l m n)){r}(H:M.sO N c=some r) :
    Calls Tryz.prog 43 #[pt o 0] d (kP h i d λv κ w=>v=vi r∧SS h i d κ w (k0q o c j k e f l (ownX jM 4 e f c.done) m n) []):=by
 have g:=u.hS
 have x:=g.fresh
 refine en func43 rfl ntmps43 λa b=>?_
 unfold M.sO at H
 refine qr λ_ p=>wp 1 [0] b λa b=>p _ _ (qs λ_ q=>qr λ_ s=>wp 2 [0,4] b λa b=>s _ _ (cf b rfl (sk (q _ _ (qr λ_ t=>wp 3 [7] b λa b=>wc (wld b g 0 0 0 λa b=>wp 1 [2] b λa b=>t _ _ (rt ?_)))))))
 cases H
 exact j7 b g (l4 results43 (rvt b)) ⟨rfl,g.sp [0,1,2] []⟩
theorem A6 (N){z}{A}{m}(j:j3)(e)(f)(B)(C)(D)(F)(l)(Q)(R)(g)(G:SB z A m (k0p g j B C D F l (ownX jM 4 D F j.done) Q R) (k0o B C j l Q R)){r}(H:M.s8 N j e f=some r) :
    Calls Tryz.prog 50 #[pt g 0,vu e,vi f] m (kP z A m λv κ w => ∃n p q s u x y,v = .tuple #[]∧SS z A m κ w (k0p g r n p q s u (ownX jM 4 q s r.done) x y) (k0o n p r u x y)):=by
 have d:=G.hS
 have aj:=d.fresh
 refine en func50 rfl ntmps50 λa b=>?_
 unfold M.s8 at H
 refine qs λ_ S=>qr λ_ T=>wp 2 [0,1,2,7] b λa b=>T _ _ (cf b rfl (sk (S _ _ (qs λ_ U=>rgS d [13] ?_))))
 have d:=d.drew
 have I:=d.fx
 refine jN [0,1,2,4,5,6,7,9,11] [0,10,12,15,17,19] (L':=[k35 g,(10,pt g 4),(12,vi f),(15,pt g 4),(17,vi f),(19,vu e)]) (listed':=(mV 14 2807)) (fuel:=5) b I kr (by intro c a w t v h; cases t<;>exact h) kr rfl λa b=>atk 3 (some 11) b I rfl (vld 0 4 0) λa b=>atk 8 (some 16) b I rfl (vld 0 4 0) λa b=>bd H λi J H=>?_
 obtain ⟨_,rfl,hvx15⟩:=w5 (P:=Tryz.prog) (KT:=3) (E:=32) (kt:=(kInt .i64)) (agg:=false) (t:=(fInt .u64).ty) (L:=[k35 g,(10,pt g 4),(11,.map l),(12,vi f),(15,pt g 4),(16,.map l),(17,vi f),(19,vu e)]) (o:=⟨(some 18),(Go.Op.lookup 31 (Go.Operand.tmp 16) (Go.Operand.tmp 17) false),32,"inbox.go:90",#[(Go.Edge.mk 8 Go.Ground.data),(Go.Edge.mk 9 Go.Ground.data)],none⟩) d 1 (k:=f) (zc:=flat [su 0]) (zm:=0) rfl kr kr rfl J kr kr kr (λ_ _=>rfl)
 refine atk 10 (some 18) b (d.sx [0,2,3] [0,1]) rfl (λw hw=>hvx15 2 rfl w hw) λa b=>jN [12] [0,11,12,20] (L':=[k35 g,(11,.map l),(12,vi f),(20,vu (if e > i.1 then e else i.1))]) (listed':=(mV 14 8191)) (fuel:=1) b (d.sx [0,2,3] [0,1]) kr (by intro c a w t v h; cases t<;>exact h) kr rfl λa b=>ago 13 b rfl (bd H λV K H=>oC (KT:=3) (E:=32) (kt:=(kInt .i64)) (agg:=false) (t:=(fInt .u64).ty) b d kr 3 1 (k:=f) (v:=(if e > i.1 then e else i.1)) (cs:=flat [su (if e > i.1 then e else i.1)]) rfl kr kr kr rfl rfl rfl K kr kr λW X a w b d=>?_)
 refine ⟨notE,?_⟩
 refine kN (U _ _ (rl (wp 1 [21] b λa b=>bd H λak O H=>wc (wcS 4 (rg 4) b d (λd=>w7 N (j3.mk j.base j.list j.handed j.done V j.got) B C D F l W X g (d.sbK [1,0]) O) ?_))))
 rintro _ κ w a ⟨Y,Z,aa,ab,ad,ae,af,rfl,h2⟩ b G
 have d:=G _ _ h2
 refine nl ?_
 cases H
 exact j7 b d (mL results50) ⟨Y,Z,aa,ab,ad,ae,af,rfl,d.sp (rg 4) [0,1]⟩
theorem xQ (N){h}{i}{d}(c:j3)(j)(k)(e)(f)(l)(m)(n)(o)(u:SB h i d (k0q o c j k e f l (ownX jM 4 e f c.done) m n) (k0o j k c l m n)){r}(H:M.tO N c=some r) :
    Calls Tryz.prog 52 #[pt o 0] d (kP h i d λv κ w=>v=vu r∧SS h i d κ w (k0q o c j k e f l (ownX jM 4 e f c.done) m n) []):=by
 have g:=u.hS
 have x:=g.fresh
 refine en func52 rfl ntmps52 λa b=>?_
 unfold M.tO at H
 refine qr λ_ p=>wp 1 [0] b λa b=>p _ _ (qs λ_ q=>qr λ_ s=>wp 2 [0,4] b λa b=>s _ _ (cf b rfl (sk (q _ _ (qr λ_ t=>wp 3 [7] b λa b=>wc (wld b g 0 5 0 λa b=>wp 1 [2] b λa b=>t _ _ (rt ?_)))))))
 cases H
 exact j7 b g (l4 results52 (rvt b)) ⟨rfl,g.sp [0,1,2] []⟩
theorem xR (N){e}{f}{d}(i:SB e f d [] []){r}(H:M.rI N=some r) :
    Calls Tryz.prog 109 #[.pointer none] d (kP e f d λv κ w => ∃g h,v = .tuple #[.agg (flat (k0i r.1 g h)).toArray,vb r.2]∧SS e f d κ w [k3z g r.1.Vers.length h] (k0r g h r.1.Vers)):=by
 have b:=i.hS
 have n:=b.fresh
 refine en func109 rfl ntmps109 λa c=>?_
 unfold M.rI at H
 refine qr λ_ j=>wc (wal c b k0j (sgN 4 jD) λo a w c b=>wp 1 [0,2] c λa c=>j _ _ (qs λ_ p=>qs λ_ k=>rgS b [] ?_))
 have b:=b.drew
 refine anp (rg 14) [0,2,17] c (b.sx [0] []) λa c=>kN (k _ _ (ct c rfl (qr λ_ l=>wp 1 [2,18] c λa c=>wc (wst c b 0 0 4 k0j (sgN 4 jD) λa w c b=>wp 1 [2,3] c λa c=>l _ _ (rt ?_)))))
 have hS':=b
 have b:=b.add (m:=Ro.mp jG.ty none 0 ([]:List jB)) (Ro.nil jG.ty _ _)
 have b:=b.addNil 48 6
 cases H
 exact j7 c b (tB results109 (rvs c hS' 0 0 4) (rvt c)) ⟨none,0,rfl,b.sp [0] [0]⟩
theorem wK (N){d}{e}{c}(g:SB d e c [] []){r}(H:M.qD N=some r) :
    Calls Tryz.prog 43 #[.pointer none] c (kP d e c λv κ w=>v=vi r∧SS d e c κ w [] []):=by
 have f:=g.hS
 have k:=f.fresh
 refine en func43 rfl ntmps43 λa b=>?_
 unfold M.qD at H
 refine qr λ_ h=>wp 1 [0] b λa b=>h _ _ (qs λ_ hz=>qr λ_ i=>wp 2 [0,4] b λa b=>i _ _ (ct b rfl (qr λ_ j=>wp 1 [2] b λa b=>j _ _ (rt ?_))))
 cases H
 exact j7 b f (l4 results43 (rvt b)) ⟨rfl,f.sp [] []⟩
end Go.Cf
