/- The walks: each function returns what its model says. Printed by a program of ours. -/
import Derived.Test.YtcplebnnanjngaaGreatZSh
import Derived.Test.YtcplebnnanjngaaGreatZM1
namespace Go.Cf
open Go Go.Proofs
open _root_.Int(toNat tdiv tmod)
open _root_.List(set replicate)
open _root_.ByteArray(empty)
open Go.IntKind(i64 u64)
set_option linter.unusedVariables false
set_option maxRecDepth 20000
set_option maxHeartbeats 8000000
theorem vF (N){g}{f}(h:lL g f)(e)(d)(i : ∀m∈([ml d 4]:List MP),m.p g f){r}(H:M.wU N e d=some r) :
    Calls Tryz.prog 47 #[vi e,.agg (flat [eb 4 d]).toArray] f (kQ [] g f λv κ w=>v = .agg (flat (k00 r.Epoch r.Has r.T)).toArray∧(∀m∈([ml r.Has 4,ml r.T 4]:List MP),m.p κ w)∧t5 f κ w []):=by
 have b:=SS.start h i
 refine en Tryz.func47 rfl Tryz.ntmps47 λa c=>?_
 unfold M.wU at H
 refine qr λ_ j=>wc (wbx c b [eb 4 d] (kO (b.get 0 rfl) jE) λk a w c b=>?_)
 have b:=b.add (m:=ml (replicate 4 false) 4) (List.length_replicate)
 have b:=b.add (m:=ml (replicate 4 0) 4) (List.length_replicate)
 refine wc (wal c b (k01 (replicate 4 false) (replicate 4 0)) (sgN 1 (kO List.length_replicate (kO List.length_replicate jE))) λl a w c b=>(j _ _ (qr λ_ n=>(jG (L':=[k25 k,k26 l,(5,vi e)]) 1 [3,4,5] c kr λa c=>wc (wls c b 1 0 1 λa c=>wc (kR c kr (v := .agg (flat (k00 e d (replicate 4 0))).toArray) (xU (rows:=[[si 0],[eb 4 (replicate 4 false)],[(4,(encs (fInt .u64) (replicate 4 0)))]]) (vals:=[(0,[si e]),(1,[eb 4 d])]) (sizes:=[1,4,4]) (s':=k00 e d (replicate 4 0)) rfl kr kr kr kr kr (sgN 1 (kO (b.get 2 rfl) jE)) kr kr _) λa c=>?_))))))
 refine wc (wst c b 0 0 3 (k00 e d (replicate 4 0)) (sgN 1 (kO (b.get 2 rfl) (kO List.length_replicate jE))) λa w c b=>n _ _ (rt ?_))
 have hS':=b
 cases H
 exact (j7 c b (l3 Tryz.results47 (rvs c hS' 0 0 3)) ⟨rfl,(b.pick [2,0] kr).ro,b.newC [] dc kr⟩)
theorem vY (N){o}{j}(u:lL o j)(d:kC)(F : ∀m∈([ml d.Has 4,ml d.T 4]:List MP),m.p o j){r}(H:M.uD N d=some r) :
    Calls Tryz.prog 99 #[.agg (flat (k00 d.Epoch d.Has d.T)).toArray] j (kQ [] o j λv κ w=>v = .agg (flat (k00 r.Epoch r.Has r.T)).toArray∧(∀m∈([ml r.Has 4,ml r.T 4]:List MP),m.p κ w)∧t5 j κ w []):=by
 have c:=SS.start u F
 refine en Tryz.func99 rfl Tryz.ntmps99 λa b=>?_
 unfold M.uD at H
 refine qs λ_ hz=>rl (wc (wbx b c (k00 d.Epoch d.Has d.T) (sgN 1 (kO (c.get 0 rfl) (kO (c.get 1 rfl) jE))) λg a w b c=>?_))
 have c:=c.add (m:=ml (replicate 4 false) 4) (List.length_replicate)
 have c:=c.add (m:=ml (replicate 4 0) 4) (List.length_replicate)
 refine wc (wal b c (k01 (replicate 4 false) (replicate 4 0)) (sgN 1 (kO List.length_replicate (kO List.length_replicate jE))) λk a w b c=>nl (hz _ _ (qs λ_ G=>qr λ_ I=>(wp 1 [1,2,5] b λa b=>wc (wls b c 1 1 1 λa b=>wp 1 [1,2,6,7] b λa b=>(I _ _ (bk (jX (n:=N) (λn a w => ∃κ f e,Fr (18) [] [k27 g,k28 k,(6,.agg (flat [eb 4 d.Has]).toArray),(7,vi e)] a∧SS [] o j κ w [.box k 106 [si 0,eb 4 (replicate 4 false),(4,(encs (fInt .u64) (replicate 4 0)))],.box g 106 [si d.Epoch,eb 4 d.Has,(4,(encs (fInt .u64) f))]] [ml d.Has 4,ml (replicate 4 false) 4,ml (replicate 4 0) 4,ml f 4]∧M.pW N n d f e=some r) ?_ ?_))))))))
 exact ⟨_,d.T,0,b.kp [1,2,6,7],c.sp [0,1] [2,1,0,3],H⟩
 rintro n a w ⟨κ,f,e,b,c,H⟩
 rcases n with _|l
 simp [M.pW] at H
 simp only [M.pW] at H
 refine qr λ_ x=>wp 1 [1,2,6,7,8] b λa b=>x _ _ (qs λ_ z=>bc b H (λhb H=>?_) λhb H=>?_)
 refine sk (z _ _ (m9 (λa w => ∃κ h,Fr (18) [] [k27 g,k28 k,(6,.agg (flat [eb 4 d.Has]).toArray),(7,vi e)] a∧SS [] o j κ w [.box k 106 [si 0,eb 4 (replicate 4 false),(4,(encs (fInt .u64) (replicate 4 0)))],.box g 106 [si d.Epoch,eb 4 d.Has,(4,(encs (fInt .u64) h))]] [ml d.Has 4,ml (replicate 4 false) 4,ml (replicate 4 0) 4,ml h 4]∧M.tW N (M.pW N l) d e h=some r) ?_ ?_))
 refine bk (qr λ_ A=>(jG (L':=[k27 g,k28 k,(6,.agg (flat [eb 4 d.Has]).toArray),(7,vi e),(9,vi e)]) 1 [1,2,6,7,9] b kr λa b=>bd H λB s H=>wc (kR b kr (v:=vb B) (pA (t:=jN) (E:=4) (n:=4) (m:=4) rfl kr rfl s (c.get 0 rfl) rfl rfl kr kr kr _) λa b=>wp 2 [1,2,3,4,6,7] b λa b=>A _ _ (qr λ_ C=>wp 2 [1,2,3,6,7,12] b λa b=>C _ _ (bc b H (λhb H=>?_) λhb H=>?_)))))
 refine rl (jG (L':=[k27 g,k28 k,(6,.agg (flat [eb 4 d.Has]).toArray),(7,vi e),(13,vi e),(14,pt g 5)]) 2 [1,2,6,7,13,14] b kr λa b=>bd H λJ q H=>wc (l5 b kr (E:=32) (sz:=1) (n:=4) rfl rfl (i:=e) rfl (m1 q (c.get 3 rfl)) kr kr λa b=>wc (lM (t:=(fInt .u64)) (y:=0) (v:=vu 0) b c kr 1 2 (s':=k00 d.Epoch d.Has (set f (toNat e) 0)) (C':=[.box k 106 (k01 (replicate 4 false) (replicate 4 0)),.box g 106 (k00 d.Epoch d.Has (set f (toNat e) 0))]) rfl rfl kr rfl rfl q rfl rfl kr kr kr kr λa w b c=>?_)))
 have c:=c.add (m:=ml (set f (toNat e) 0) 4) (List.length_set.trans (c.get 3 rfl))
 refine nl ?_
 exact ⟨_,(set f (toNat e) 0),b.kp [1,2,6,7],c.sp [0,1] [1,2,3,0],H⟩
 refine sk ?_
 exact ⟨_,f,b.kp [1,2,6,7],c.sp [0,1] (rg 4),H⟩
 rintro a w ⟨κ,h,b,c,H⟩
 unfold M.tW at H
 refine rl (wp 2 [1,2,6,7] b λa b=>nl ?_)
 exact ⟨l,Nat.lt_succ_self _,_,h,i64.wrap (e+1),b.kp [1,2,6,7],c.sp [0,1] (rg 4),H⟩
 refine xt (G _ _ (qr λ_ D=>wc (wls b c 1 0 3 λa b=>wc (wst b c 0 0 3 (k00 d.Epoch d.Has f) (sgN 1 (kO (c.get 0 rfl) (kO (c.get 3 rfl) jE))) λa w b c=>D _ _ (rt ?_)))))
 have hS':=c
 cases H
 exact (j7 b c (l3 Tryz.results99 (rvs b hS' 0 0 3)) ⟨rfl,(c.pick [0,3] kr).ro,c.newC [] dc kr⟩)
theorem zI (N){k}{g}(o:lL k g)(d:kC)(j)(f)(h : ∀m∈([ml d.Has 4,ml d.T 4,ml f 4]:List MP),m.p k g){r}(H:M.uC N d j f=some r) :
    Calls Tryz.prog 98 #[.agg (flat (k00 d.Epoch d.Has d.T)).toArray,vi j,.agg (flat [eb 4 f]).toArray] g (kQ [] k g λv κ w=>v = .tuple #[.agg (flat (k00 r.1.Epoch r.1.Has r.1.T)).toArray,vi r.2]∧(∀m∈([ml r.1.Has 4,ml r.1.T 4]:List MP),m.p κ w)∧t5 g κ w []):=by
 have b:=SS.start o h
 refine en Tryz.func98 rfl Tryz.ntmps98 λa c=>?_
 unfold M.uC at H
 refine qr λ_ y=>wc (wbx c b (k00 d.Epoch d.Has d.T) (sgN 1 (kO (b.get 0 rfl) (kO (b.get 1 rfl) jE))) λD a w c b=>wc (wbx c b [eb 4 f] (kO (b.get 2 rfl) jE) λE a w c b=>?_))
 have b:=b.add (m:=ml (replicate 4 false) 4) (List.length_replicate)
 have b:=b.add (m:=ml (replicate 4 0) 4) (List.length_replicate)
 refine wc (wal c b (k01 (replicate 4 false) (replicate 4 0)) (sgN 1 (kO List.length_replicate (kO List.length_replicate jE))) λF a w c b=>wp 1 [1,3,5,6] c λa c=>y _ _ (qs λ_ z=>qr λ_ A=>wp 2 [1,3,5,6,8,9] c λa c=>wc (wld c b 2 0 0 λa c=>wp 1 [1,3,5,6,11] c λa c=>A _ _ (bc c H (λhb H=>?_) λhb H=>?_))))
 refine qr λ_ q=>wp 1 [6,12] c λa c=>wc (wst c b 0 0 3 (k01 (replicate 4 false) (replicate 4 0)) (sgN 1 (kO List.length_replicate (kO List.length_replicate jE))) λa w c b=>wp 1 [6,7] c λa c=>q _ _ (rt ?_))
 have hS':=b
 cases H
 exact (j7 c b (sZ Tryz.results98 (rvs c hS' 0 0 3) (rvt c)) ⟨rfl,(b.pick [1,0] kr).ro,b.newC [] dc kr⟩)
 refine sk (z _ _ (qr λ_ s=>wc (wls c b 2 0 3 λa c=>bd H λe l H=>wc (jS c b kr kr (vY N b.fresh d ((b.pick [2,3] kr).ro) l) ?_))))
 rintro _ κ w a ⟨rfl,h,B⟩ c b C
 have b:=b.adds h
 refine wc (wst c b 2 0 3 (k00 e.Epoch e.Has e.T) (sgN 1 (kO (b.get 0 rfl) (kO (b.get 1 rfl) jE))) λa w c b=>s _ _ (qs λ_ t=>rgX b [0,1] ?_))
 have b:=b.drew
 have u:=b.px [0,1]
 refine anp [0,2] [3,5,6,15,17] c u λa c=>atk 1 (some 16) c u rfl (vls 1 0 1) λa c=>ago 3 c rfl (wst c b 2 0 1 [si j] (sgN 1 jE) λa w c b=>⟨λ_=>(b.sx [0,1] (rg 7)),?_⟩)
 refine anp [4] [3,6,16,18] c (b.sx [0,1] (rg 7)) λa c=>ago 5 c rfl (wst c b 2 1 1 [eb 4 f] (kO (b.get 6 rfl) jE) λa w c b=>⟨λ_=>(b.sx [0,1] (rg 7)),?_⟩)
 refine kM (t _ _ (qr λ_ x=>wc (wls c b 2 0 3 λa c=>bd H λi n H=>wc (jS c b kr kr (vY N b.fresh (kC.mk j f e.T) ((b.pick [6,1] kr).ro) n) ?_))))
 rintro _ κ w a ⟨rfl,h,B⟩ c b C
 have b:=b.adds h
 refine wc (wst c b 0 0 3 (k00 i.Epoch i.Has i.T) (sgN 1 (kO (b.get 0 rfl) (kO (b.get 1 rfl) jE))) λa w c b=>wp 1 [6,7] c λa c=>x _ _ (rt ?_))
 have hS':=b
 cases H
 exact (j7 c b (sZ Tryz.results98 (rvs c hS' 0 0 3) (rvt c)) ⟨rfl,(b.pick [0,1] kr).ro,b.newC [] dc kr⟩)
theorem vX (N){q}{o}(B:lL q o)(k:kC)(h)(g)(A : ∀m∈([ml k.Has 4,ml k.T 4]:List MP),m.p q o){r}(H:M.sY N k h g=some r) :
    Calls Tryz.prog 94 #[.agg (flat (k00 k.Epoch k.Has k.T)).toArray,vi h,vu g] o (kQ [] q o λv κ w=>v = .agg (flat (k00 r.Epoch r.Has r.T)).toArray∧(∀m∈([ml r.Has 4,ml r.T 4]:List MP),m.p κ w)∧t5 o κ w []):=by
 have c:=SS.start B A
 refine en Tryz.func94 rfl Tryz.ntmps94 λa b=>?_
 unfold M.sY at H
 refine qr λ_ J=>wc (wbx b c (k00 k.Epoch k.Has k.T) (sgN 1 (kO (c.get 0 rfl) (kO (c.get 1 rfl) jE))) λj a w b c=>?_)
 have c:=c.add (m:=ml (replicate 4 false) 4) (List.length_replicate)
 have c:=c.add (m:=ml (replicate 4 0) 4) (List.length_replicate)
 refine wc (wal b c (k01 (replicate 4 false) (replicate 4 0)) (sgN 1 (kO List.length_replicate (kO List.length_replicate jE))) λl a w b c=>J _ _ (qr λ_ K=>wc (wls b c 1 0 3 λa b=>bd H λd C H=>wc (jS b c kr kr (vY N c.fresh k ((c.pick [2,3] kr).ro) C) ?_))))
 rintro _ κ w a ⟨rfl,A,O⟩ b c P
 have c:=c.adds A
 refine wc (wst b c 1 0 3 (k00 d.Epoch d.Has d.T) (sgN 1 (kO (c.get 0 rfl) (kO (c.get 1 rfl) jE))) λa w b c=>K _ _ (m9 (λa w => ∃κ s,Fr (31) [] [k25 j,k29 l] a∧SS [] q o κ w [.box l 106 [si 0,eb 4 (replicate 4 false),(4,(encs (fInt .u64) (replicate 4 0)))],.box j 106 [si d.Epoch,eb 4 d.Has,(4,(encs (fInt .u64) s))]] [ml (replicate 4 false) 4,ml (replicate 4 0) 4,ml d.Has 4,ml s 4]∧M.tV N d s=some r) ?_ ?_))
 refine qr λ_ D=>bd H λF e H=>kA (λa w => ∃κ:Gh,Fr (31) [] [k2a h,(2,vu g),k25 j,k29 l,(20,vb F)] a∧SS [] q o κ w [.box l 106 [si 0,eb 4 (replicate 4 false),(4,(encs (fInt .u64) (replicate 4 0)))],.box j 106 [si d.Epoch,eb 4 d.Has,(4,(encs (fInt .u64) d.T))]] [ml (replicate 4 false) 4,ml (replicate 4 0) 4,ml d.Has 4,ml d.T 4]∧True) ?_ ?_
 refine wp 3 [1,2,3,6,11] b λa b=>bs e (λhb e=>?_) λhb e=>?_
 have b:=b.bv 11 hb
 refine wp 4 [1,2,3,6,15] b λa b=>bs e (λhb e=>?_) λhb e=>?_
 have b:=b.bv 15 hb
 refine jG (L':=[k2a h,(2,vu g),k25 j,k29 l,(15,vb true),(16,vi h),(17,pt j 1)]) 2 [1,2,3,6,15,16,17] b kr λa b=>bd e λG u e=>wcg b (l5 b kr (E:=4) (sz:=1) (n:=4) rfl rfl (i:=h) rfl (m1 u (c.get 0 rfl)) kr kr λa b=>wcg b (rF (t:=jN) b c kr 1 1 (v:=vb G) rfl rfl rfl rfl u rfl rfl kr kr λa b=>wp 1 [1,2,3,6,20] b λa b=>nl ?_))
 cases e
 exact ⟨_,b.kp [1,2,3,6,20],c.sp [0,1] [3,2,0,1],trivial⟩
 have b:=b.bv 15 hb
 refine wp 5 [1,2,3,6,20] b λa b=>nl ?_
 cases e
 exact ⟨_,b.kp [1,2,3,6,20],c.sp [0,1] [3,2,0,1],trivial⟩
 have b:=b.bv 11 hb
 refine wp 9 [1,2,3,6,20] b λa b=>nl ?_
 cases e
 exact ⟨_,b.kp [1,2,3,6,20],c.sp [0,1] [3,2,0,1],trivial⟩
 rintro a w ⟨κ,b,c,-⟩
 refine D _ _ (bc b H (λhb H=>?_) λhb H=>?_)
 refine rl (jG (L':=[(2,vu g),k25 j,k29 l,(21,vi h),(22,vi h),(23,pt j 5)]) 3 [2,3,6,21,22,23] b kr λa b=>bd H λf x H=>wc (l5 b kr (E:=32) (sz:=1) (n:=4) rfl rfl (i:=h) rfl (m1 x (c.get 3 rfl)) kr kr λa b=>wc (rF (t:=(fInt .u64)) b c kr 1 2 (v:=vu f) rfl rfl rfl rfl x rfl rfl kr kr λa b=>jG (L':=[k25 j,k29 l,(21,vi h),(27,vu (if g > f then g else f)),(28,pt j 5)]) 3 [3,6,21,27,28] b kr λa b=>?_)))
 refine bd H λL z H=>wc (l5 b kr (E:=32) (sz:=1) (n:=4) rfl rfl (i:=h) rfl (m1 z (c.get 3 rfl)) kr kr λa b=>wc (lM (t:=(fInt .u64)) (y:=(if g > f then g else f)) (v:=vu (if g > f then g else f)) b c kr 1 2 (s':=k00 d.Epoch d.Has (set d.T (toNat h) (if g > f then g else f))) (C':=[.box l 106 (k01 (replicate 4 false) (replicate 4 0)),.box j 106 (k00 d.Epoch d.Has (set d.T (toNat h) (if g > f then g else f)))]) rfl rfl kr rfl rfl z rfl rfl kr kr kr kr λa w b c=>?_))
 have c:=c.add (m:=ml (set d.T (toNat h) (if g > f then g else f)) 4) (List.length_set.trans (c.get 3 rfl))
 refine nl ?_
 exact ⟨_,(set d.T (toNat h) (if g > f then g else f)),b.kp [3,6],c.sp [0,1] [1,2,3,0],H⟩
 refine sk ?_
 exact ⟨_,d.T,b.kp [3,6],c.sp [0,1] (rg 4),H⟩
 rintro a w ⟨κ,s,b,c,H⟩
 unfold M.tV at H
 refine qr λ_ I=>wc (wls b c 1 0 3 λa b=>wc (wst b c 0 0 3 (k00 d.Epoch d.Has s) (sgN 1 (kO (c.get 2 rfl) (kO (c.get 3 rfl) jE))) λa w b c=>I _ _ (rt ?_)))
 have hS':=c
 cases H
 exact (j7 b c (l3 Tryz.results94 (rvs b hS' 0 0 3)) ⟨rfl,(c.pick [2,3] kr).ro,c.newC [] dc kr⟩)
theorem AQ (N){s}{k}(A:lL s k)(c:kC)(L : ∀m∈([ml c.Has 4,ml c.T 4]:List MP),m.p s k){r}(H:M.wD N c=some r) :
    Calls Tryz.prog 93 #[.agg (flat (k00 c.Epoch c.Has c.T)).toArray] k (kQ [] s k λv κ w=>v = .tuple #[vu r.1,vb r.2]∧(∀m∈([]:List MP),m.p κ w)∧t5 k κ w []):=by
 have e:=SS.start A L
 refine en Tryz.func93 rfl Tryz.ntmps93 λa b=>?_
 unfold M.wD at H
 refine qs λ_ hz=>rl (wc (wbx b e (k00 c.Epoch c.Has c.T) (sgN 1 (kO (e.get 0 rfl) (kO (e.get 1 rfl) jE))) λg a w b e=>wp 2 [1] b λa b=>nl (hz _ _ (qr λ_ O=>(wp 2 [1,4,5] b λa b=>(O _ _ (qs λ_ P=>qr λ_ Q=>(wp 1 [1,4,5,8] b λa b=>wc (wls b e 0 1 1 λa b=>wp 1 [1,4,5,9,10] b λa b=>(Q _ _ (bk (jX (n:=N) (λn a w => ∃κ h j d,Fr (34) [] [k27 g,(4,vu h),(5,vb j),(9,.agg (flat [eb 4 c.Has]).toArray),k2b d] a∧SS [] s k κ w [.box g 106 [si c.Epoch,eb 4 c.Has,(4,(encs (fInt .u64) c.T))]] [ml c.Has 4,ml c.T 4]∧M.nW N n c h j d=some r) ?_ ?_))))))))))))
 exact ⟨_,0,false,0,b.kp [1,4,5,9,10],e.sp [0] [0,1],H⟩
 rintro n a w ⟨κ,h,j,d,b,e,H⟩
 rcases n with _|l
 simp [M.nW] at H
 simp only [M.nW] at H
 refine qr λ_ B=>wp 1 [1,4,5,9,10,11] b λa b=>B _ _ (qs λ_ C=>bc b H (λhb H=>?_) λhb H=>?_)
 refine sk (C _ _ (m9 (λa w => ∃κ o q,Fr (34) [] [k27 g,(4,vu o),(5,vb q),(9,.agg (flat [eb 4 c.Has]).toArray),k2b d] a∧SS [] s k κ w [.box g 106 [si c.Epoch,eb 4 c.Has,(4,(encs (fInt .u64) c.T))]] [ml c.Has 4,ml c.T 4]∧M.qU N (M.nW N l) c d o q=some r) ?_ ?_))
 refine bk (qr λ_ D=>(jG (L':=[k27 g,(4,vu h),(5,vb j),(9,.agg (flat [eb 4 c.Has]).toArray),k2b d,(12,vi d)]) 1 [1,4,5,9,10,12] b kr λa b=>bd H λF z H=>wc (kR b kr (v:=vb F) (pA (t:=jN) (E:=4) (n:=4) (m:=4) rfl kr rfl z (e.get 0 rfl) rfl rfl kr kr kr _) λa b=>wp 2 [1,4,5,6,7,9,10] b λa b=>D _ _ (qr λ_ G=>bd H λI f H=>kA (λa w => ∃κ:Gh,Fr (34) [] [k27 g,(4,vu h),(5,vb j),(6,vi d),(9,.agg (flat [eb 4 c.Has]).toArray),k2b d,(26,vb I)] a∧SS [] s k κ w [.box g 106 [si c.Epoch,eb 4 c.Has,(4,(encs (fInt .u64) c.T))]] [ml c.Has 4,ml c.T 4]∧True) ?_ ?_))))
 refine wp 2 [1,4,5,6,9,10,15] b λa b=>bs f (λhb f=>?_) λhb f=>?_
 have b:=b.bv 15 hb
 refine wp 3 [1,4,5,6,9,10,15,18] b λa b=>bs f (λhb f=>?_) λhb f=>?_
 have b:=b.bv 18 hb
 refine wp 8 [1,4,5,6,9,10,26] b λa b=>nl ?_
 cases f
 exact ⟨_,b.kp [1,4,5,6,9,10,26],e.sp [0] [0,1],trivial⟩
 have b:=b.bv 18 hb
 refine jG (L':=[k27 g,(4,vu h),(5,vb j),(6,vi d),(9,.agg (flat [eb 4 c.Has]).toArray),k2b d,(15,vb true),(18,vb false),(19,vi d),(20,pt g 5)]) 2 [1,4,5,6,9,10,15,18,19,20] b kr λa b=>bd f λJ u f=>wcg b (l5 b kr (E:=32) (sz:=1) (n:=4) rfl rfl (i:=d) rfl (m1 u (e.get 1 rfl)) kr kr λa b=>wcg b (rF (t:=(fInt .u64)) b e kr 0 2 (v:=vu J) rfl rfl rfl rfl u rfl rfl kr kr λa b=>wp 4 [1,4,5,6,9,10,26] b λa b=>nl ?_))
 cases f
 exact ⟨_,b.kp [1,4,5,6,9,10,26],e.sp [0] [0,1],trivial⟩
 have b:=b.bv 15 hb
 refine wp 11 [1,4,5,6,9,10,26] b λa b=>nl ?_
 cases f
 exact ⟨_,b.kp [1,4,5,6,9,10,26],e.sp [0] [0,1],trivial⟩
 rintro a w ⟨κ,b,e,-⟩
 refine G _ _ (bc b H (λhb H=>?_) λhb H=>?_)
 refine rl (jG (L':=[k27 g,(9,.agg (flat [eb 4 c.Has]).toArray),k2b d,(27,vi d),(28,pt g 5)]) 2 [1,9,10,27,28] b kr λa b=>bd H λy x H=>wc (l5 b kr (E:=32) (sz:=1) (n:=4) rfl rfl (i:=d) rfl (m1 x (e.get 1 rfl)) kr kr λa b=>wc (rF (t:=(fInt .u64)) b e kr 0 2 (v:=vu y) rfl rfl rfl rfl x rfl rfl kr kr λa b=>wp 2 [1,4,5,9,10] b λa b=>nl ?_)))
 exact ⟨_,y,true,b.kp [1,4,5,9,10],e.sp [0] [0,1],H⟩
 refine sk ?_
 exact ⟨_,h,j,b.kp [1,4,5,9,10],e.sp [0] [0,1],H⟩
 rintro a w ⟨κ,o,q,b,e,H⟩
 unfold M.qU at H
 refine rl (wp 2 [1,4,5,9,10] b λa b=>nl ?_)
 exact ⟨l,Nat.lt_succ_self _,_,o,q,i64.wrap (d+1),b.kp [1,4,5,9,10],e.sp [0] [0,1],H⟩
 refine xt (P _ _ (qr λ_ K=>wp 4 [2,3] b λa b=>K _ _ (rt ?_)))
 cases H
 exact (j7 b e (sZ Tryz.results93 (rvt b) (rvt b)) ⟨rfl,(e.pick [] kr).ro,e.newC [] dc kr⟩)
end Go.Cf
