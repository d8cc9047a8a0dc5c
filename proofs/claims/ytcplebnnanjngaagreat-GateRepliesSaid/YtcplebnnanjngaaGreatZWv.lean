/- The walks: each function returns what its model says. Printed by a program of ours. -/
import Derived.Test.YtcplebnnanjngaaGreatZSh
import Derived.Test.YtcplebnnanjngaaGreatZM1
namespace Go.Cf
open Go Go.Proofs Tryz
open _root_.Int(toNat tdiv tmod)
open _root_.List(set replicate)
open _root_.ByteArray(empty)
open Go.IntKind(i64 u64)
set_option linter.unusedVariables false
set_option maxRecDepth 20000
set_option maxHeartbeats 8000000
theorem vS (N){g}{f}(h:lG g f)(e)(d)(i : ∀m∈([ml d 4]:List MP),m.p g f){r}(H:M.xE N e d=some r) :
    Calls Tryz.prog 47 #[vi e,.agg (flat [eb 4 d]).toArray] f (kP [] g f λv κ w=>v = .agg (flat (k00 r)).toArray∧(∀m∈([ml r.Has 4,ml r.T 4]:List MP),m.p κ w)∧sJ f κ w []):=by
 have b:=SS.start h i
 refine en func47 rfl ntmps47 λa c=>?_
 unfold M.xE at H
 refine qr λ_ j=>wc (wbx c b [eb 4 d] (kS (b.get 0 rfl) jD) λk a w c b=>?_)
 have b:=b.add (m:=ml (replicate 4 false) 4) (List.length_replicate)
 have b:=b.add (m:=ml (replicate 4 0) 4) (List.length_replicate)
 refine wc (wal c b (k01 (replicate 4 false) (replicate 4 0)) (sgN 1 (kS List.length_replicate (kS List.length_replicate jD))) λl a w c b=>(j _ _ (qr λ_ n=>(jE (L':=[k2u k,k2v l,(5,vi e)]) 1 [3,4,5] c kr λa c=>wc (wls c b 1 0 1 λa c=>wc (kQ c kr (v := .agg (flat [si e,eb 4 d,k2t (replicate 4 0)]).toArray) (yD (rows:=[[si 0],[eb 4 (replicate 4 false)],[(4,(encs (fInt .u64) (replicate 4 0)))]]) (vals:=[(0,[si e]),(1,[eb 4 d])]) (sizes:=[1,4,4]) (s':=[si e,eb 4 d,k2t (replicate 4 0)]) rfl kr kr kr kr kr (sgN 1 (kS (b.get 2 rfl) jD)) kr kr _) λa c=>?_))))))
 refine wc (wst c b 0 0 3 [si e,eb 4 d,k2t (replicate 4 0)] (sgN 1 (kS (b.get 2 rfl) (kS List.length_replicate jD))) λa w c b=>n _ _ (rt ?_))
 have hS':=b
 cases H
 exact (j7 c b (l4 results47 (rvs c hS' 0 0 3)) ⟨rfl,(b.pick [2,0] kr).ro,b.newC [] dc kr⟩)
theorem wD (N){o}{j}(u:lG o j)(e:jY)(F : ∀m∈([ml e.Has 4,ml e.T 4]:List MP),m.p o j){r}(H:M.uM N e=some r) :
    Calls Tryz.prog 99 #[.agg (flat (k00 e)).toArray] j (kP [] o j λv κ w=>v = .agg (flat (k00 r)).toArray∧(∀m∈([ml r.Has 4,ml r.T 4]:List MP),m.p κ w)∧sJ j κ w []):=by
 have c:=SS.start u F
 refine en func99 rfl ntmps99 λa b=>?_
 unfold M.uM at H
 refine qs λ_ hz=>rl (wc (wbx b c (k00 e) (sgN 1 (kS (c.get 0 rfl) (kS (c.get 1 rfl) jD))) λg a w b c=>?_))
 have c:=c.add (m:=ml (replicate 4 false) 4) (List.length_replicate)
 have c:=c.add (m:=ml (replicate 4 0) 4) (List.length_replicate)
 refine wc (wal b c (k01 (replicate 4 false) (replicate 4 0)) (sgN 1 (kS List.length_replicate (kS List.length_replicate jD))) λk a w b c=>nl (hz _ _ (qs λ_ G=>qr λ_ I=>(wp 1 [1,2,5] b λa b=>wc (wls b c 1 1 1 λa b=>wp 1 [1,2,6,7] b λa b=>(I _ _ (bk (jT (n:=N) (λn a w=>∃κ f d,Fr (18) [] [k2w g,k2x k,(6,.agg (flat [eb 4 e.Has]).toArray),(7,vi d)] a∧SS [] o j κ w [.box k 106 [si 0,eb 4 (replicate 4 false),(4,(encs (fInt .u64) (replicate 4 0)))],.box g 106 [si e.Epoch,eb 4 e.Has,(4,(encs (fInt .u64) f))]] [ml e.Has 4,ml (replicate 4 false) 4,ml (replicate 4 0) 4,ml f 4]∧M.qB N n e f d=some r) ?_ ?_))))))))
 exact ⟨_,e.T,0,b.kp [1,2,6,7],c.sp [0,1] [2,1,0,3],H⟩
 rintro n a w ⟨κ,f,d,b,c,H⟩
 rcases n with _|l
 simp [M.qB] at H
 simp only [M.qB] at H
 refine qr λ_ x=>wp 1 [1,2,6,7,8] b λa b=>x _ _ (qs λ_ z=>bc b H (λhb H=>?_) λhb H=>?_)
 refine sk (z _ _ (m2 (λa w=>∃κ h,Fr (18) [] [k2w g,k2x k,(6,.agg (flat [eb 4 e.Has]).toArray),(7,vi d)] a∧SS [] o j κ w [.box k 106 [si 0,eb 4 (replicate 4 false),(4,(encs (fInt .u64) (replicate 4 0)))],.box g 106 [si e.Epoch,eb 4 e.Has,(4,(encs (fInt .u64) h))]] [ml e.Has 4,ml (replicate 4 false) 4,ml (replicate 4 0) 4,ml h 4]∧M.u5 N (M.qB N l) e d h=some r) ?_ ?_))
 refine bk (qr λ_ A=>(jE (L':=[k2w g,k2x k,(6,.agg (flat [eb 4 e.Has]).toArray),(7,vi d),(9,vi d)]) 1 [1,2,6,7,9] b kr λa b=>bd H λB s H=>wc (kQ b kr (v:=vb B) (pJ (t:=jM) (E:=4) (n:=4) (m:=4) rfl kr rfl s (c.get 0 rfl) rfl rfl kr kr kr _) λa b=>wp 2 [1,2,3,4,6,7] b λa b=>A _ _ (qr λ_ C=>wp 2 [1,2,3,6,7,12] b λa b=>C _ _ (bc b H (λhb H=>?_) λhb H=>?_)))))
 refine rl (jE (L':=[k2w g,k2x k,(6,.agg (flat [eb 4 e.Has]).toArray),(7,vi d),(13,vi d),(14,pt g 5)]) 2 [1,2,6,7,13,14] b kr λa b=>bd H λJ q H=>wc (l7 b kr (E:=32) (sz:=1) (n:=4) rfl rfl (i:=d) rfl (m4 q (c.get 3 rfl)) kr kr λa b=>wc (lK (t:=(fInt .u64)) (y:=0) (v:=vu 0) b c kr 1 2 (s':=k02 e (set f (toNat d) 0)) (C':=k03 k (replicate 4 false) (replicate 4 0) g e (set f (toNat d) 0)) rfl rfl kr rfl rfl q rfl rfl kr kr kr kr λa w b c=>?_)))
 have c:=c.add (m:=ml (set f (toNat d) 0) 4) (List.length_set.trans (c.get 3 rfl))
 refine nl ?_
 exact ⟨_,(set f (toNat d) 0),b.kp [1,2,6,7],c.sp [0,1] [1,2,3,0],H⟩
 refine sk ?_
 exact ⟨_,f,b.kp [1,2,6,7],c.sp [0,1] (rg 4),H⟩
 rintro a w ⟨κ,h,b,c,H⟩
 unfold M.u5 at H
 refine rl (wp 2 [1,2,6,7] b λa b=>nl ?_)
 exact ⟨l,jb _,_,h,i64.wrap (d+1),b.kp [1,2,6,7],c.sp [0,1] (rg 4),H⟩
 refine xt (G _ _ (qr λ_ D=>wc (wls b c 1 0 3 λa b=>wc (wst b c 0 0 3 (k02 e f) (sgN 1 (kS (c.get 0 rfl) (kS (c.get 3 rfl) jD))) λa w b c=>D _ _ (rt ?_)))))
 have hS':=c
 cases H
 exact (j7 b c (l4 results99 (rvs b hS' 0 0 3)) ⟨rfl,(c.pick [0,3] kr).ro,c.newC [] dc kr⟩)
theorem zZ (N){j}{f}(n:lG j f)(d:jY)(h)(e)(g : ∀m∈([ml d.Has 4,ml d.T 4,ml e 4]:List MP),m.p j f){r}(H:M.uL N d h e=some r) :
    Calls Tryz.prog 98 #[.agg (flat (k00 d)).toArray,vi h,.agg (flat [eb 4 e]).toArray] f (kP [] j f λv κ w=>v = .tuple #[.agg (flat (k00 r.1)).toArray,vi r.2]∧(∀m∈([ml r.1.Has 4,ml r.1.T 4]:List MP),m.p κ w)∧sJ f κ w []):=by
 have b:=SS.start n g
 refine en func98 rfl ntmps98 λa c=>?_
 unfold M.uL at H
 refine qr λ_ y=>wc (wbx c b (k00 d) (sgN 1 (kS (b.get 0 rfl) (kS (b.get 1 rfl) jD))) λD a w c b=>wc (wbx c b [eb 4 e] (kS (b.get 2 rfl) jD) λE a w c b=>?_))
 have b:=b.add (m:=ml (replicate 4 false) 4) (List.length_replicate)
 have b:=b.add (m:=ml (replicate 4 0) 4) (List.length_replicate)
 refine wc (wal c b (k01 (replicate 4 false) (replicate 4 0)) (sgN 1 (kS List.length_replicate (kS List.length_replicate jD))) λF a w c b=>wp 1 [1,3,5,6] c λa c=>y _ _ (qs λ_ z=>qr λ_ A=>wp 2 [1,3,5,6,8,9] c λa c=>wc (wld c b 2 0 0 λa c=>wp 1 [1,3,5,6,11] c λa c=>A _ _ (bc c H (λhb H=>?_) λhb H=>?_))))
 refine qr λ_ o=>wp 1 [6,12] c λa c=>wc (wst c b 0 0 3 (k01 (replicate 4 false) (replicate 4 0)) (sgN 1 (kS List.length_replicate (kS List.length_replicate jD))) λa w c b=>wp 1 [6,7] c λa c=>o _ _ (rt ?_))
 have hS':=b
 cases H
 exact (j7 c b (tB results98 (rvs c hS' 0 0 3) (rvt c)) ⟨rfl,(b.pick [1,0] kr).ro,b.newC [] dc kr⟩)
 refine sk (z _ _ (qr λ_ q=>wc (wls c b 2 0 3 λa c=>bd H λi k H=>wc (jR c b kr kr (wD N b.fresh d ((b.pick [2,3] kr).ro) k) ?_))))
 rintro _ κ w a ⟨rfl,g,B⟩ c b C
 have b:=b.adds g
 refine wc (wst c b 2 0 3 (k00 i) (sgN 1 (kS (b.get 0 rfl) (kS (b.get 1 rfl) jD))) λa w c b=>q _ _ (qs λ_ s=>rgX b [0,1] ?_))
 have b:=b.drew
 have t:=b.px [0,1]
 refine anp [0,2] [3,5,6,15,17] c t λa c=>atk 1 (some 16) c t rfl (vls 1 0 1) λa c=>ago 3 c rfl (wst c b 2 0 1 [si h] (sgN 1 jD) λa w c b=>⟨λ_=>(b.sx [0,1] (rg 7)),?_⟩)
 refine anp [4] [3,6,16,18] c (b.sx [0,1] (rg 7)) λa c=>ago 5 c rfl (wst c b 2 1 1 [eb 4 e] (kS (b.get 6 rfl) jD) λa w c b=>⟨λ_=>(b.sx [0,1] (rg 7)),?_⟩)
 refine kN (s _ _ (qr λ_ u=>wc (wls c b 2 0 3 λa c=>bd H λx l H=>wc (jR c b kr kr (wD N b.fresh (jY.mk h e i.T) ((b.pick [6,1] kr).ro) l) ?_))))
 rintro _ κ w a ⟨rfl,g,B⟩ c b C
 have b:=b.adds g
 refine wc (wst c b 0 0 3 (k00 x) (sgN 1 (kS (b.get 0 rfl) (kS (b.get 1 rfl) jD))) λa w c b=>wp 1 [6,7] c λa c=>u _ _ (rt ?_))
 have hS':=b
 cases H
 exact (j7 c b (tB results98 (rvs c hS' 0 0 3) (rvt c)) ⟨rfl,(b.pick [0,1] kr).ro,b.newC [] dc kr⟩)
theorem wC (N){q}{l}(B:lG q l)(o:jY)(h)(f)(A : ∀m∈([ml o.Has 4,ml o.T 4]:List MP),m.p q l){r}(H:M.tA N o h f=some r) :
    Calls Tryz.prog 94 #[.agg (flat (k00 o)).toArray,vi h,vu f] l (kP [] q l λv κ w=>v = .agg (flat (k00 r)).toArray∧(∀m∈([ml r.Has 4,ml r.T 4]:List MP),m.p κ w)∧sJ l κ w []):=by
 have c:=SS.start B A
 refine en func94 rfl ntmps94 λa b=>?_
 unfold M.tA at H
 refine qr λ_ J=>wc (wbx b c (k00 o) (sgN 1 (kS (c.get 0 rfl) (kS (c.get 1 rfl) jD))) λj a w b c=>?_)
 have c:=c.add (m:=ml (replicate 4 false) 4) (List.length_replicate)
 have c:=c.add (m:=ml (replicate 4 0) 4) (List.length_replicate)
 refine wc (wal b c (k01 (replicate 4 false) (replicate 4 0)) (sgN 1 (kS List.length_replicate (kS List.length_replicate jD))) λk a w b c=>J _ _ (qr λ_ K=>wc (wls b c 1 0 3 λa b=>bd H λg C H=>wc (jR b c kr kr (wD N c.fresh o ((c.pick [2,3] kr).ro) C) ?_))))
 rintro _ κ w a ⟨rfl,A,O⟩ b c P
 have c:=c.adds A
 refine wc (wst b c 1 0 3 (k00 g) (sgN 1 (kS (c.get 0 rfl) (kS (c.get 1 rfl) jD))) λa w b c=>K _ _ (m2 (λa w=>∃κ s,Fr (31) [] [k2u j,k2y k] a∧SS [] q l κ w [.box k 106 [si 0,eb 4 (replicate 4 false),(4,(encs (fInt .u64) (replicate 4 0)))],.box j 106 [si g.Epoch,eb 4 g.Has,(4,(encs (fInt .u64) s))]] [ml (replicate 4 false) 4,ml (replicate 4 0) 4,ml g.Has 4,ml s 4]∧M.u2 N g s=some r) ?_ ?_))
 refine qr λ_ D=>bd H λF d H=>k8 (λa w=>∃κ,Fr (31) [] [k2z h,(2,vu f),k2u j,k2y k,(20,vb F)] a∧SS [] q l κ w [.box k 106 [si 0,eb 4 (replicate 4 false),(4,(encs (fInt .u64) (replicate 4 0)))],.box j 106 [si g.Epoch,eb 4 g.Has,(4,(encs (fInt .u64) g.T))]] [ml (replicate 4 false) 4,ml (replicate 4 0) 4,ml g.Has 4,ml g.T 4]∧True) ?_ ?_
 refine wp 3 [1,2,3,6,11] b λa b=>bs d (λhb d=>?_) λhb d=>?_
 have b:=b.bv 11 hb
 refine wp 4 [1,2,3,6,15] b λa b=>bs d (λhb d=>?_) λhb d=>?_
 have b:=b.bv 15 hb
 refine jE (L':=[k2z h,(2,vu f),k2u j,k2y k,(15,vb true),(16,vi h),(17,pt j 1)]) 2 [1,2,3,6,15,16,17] b kr λa b=>bd d λG u d=>wcg b (l7 b kr (E:=4) (sz:=1) (n:=4) rfl rfl (i:=h) rfl (m4 u (c.get 0 rfl)) kr kr λa b=>wcg b (rK (t:=jM) b c kr 1 1 (v:=vb G) rfl rfl rfl rfl u rfl rfl kr kr λa b=>wp 1 [1,2,3,6,20] b λa b=>nl ?_))
 cases d
 exact ⟨_,b.kp [1,2,3,6,20],c.sp [0,1] [3,2,0,1],ja⟩
 have b:=b.bv 15 hb
 refine wp 5 [1,2,3,6,20] b λa b=>nl ?_
 cases d
 exact ⟨_,b.kp [1,2,3,6,20],c.sp [0,1] [3,2,0,1],ja⟩
 have b:=b.bv 11 hb
 refine wp 9 [1,2,3,6,20] b λa b=>nl ?_
 cases d
 exact ⟨_,b.kp [1,2,3,6,20],c.sp [0,1] [3,2,0,1],ja⟩
 rintro a w ⟨κ,b,c,-⟩
 refine D _ _ (bc b H (λhb H=>?_) λhb H=>?_)
 refine rl (jE (L':=[(2,vu f),k2u j,k2y k,(21,vi h),(22,vi h),(23,pt j 5)]) 3 [2,3,6,21,22,23] b kr λa b=>bd H λe x H=>wc (l7 b kr (E:=32) (sz:=1) (n:=4) rfl rfl (i:=h) rfl (m4 x (c.get 3 rfl)) kr kr λa b=>wc (rK (t:=(fInt .u64)) b c kr 1 2 (v:=vu e) rfl rfl rfl rfl x rfl rfl kr kr λa b=>jE (L':=[k2u j,k2y k,(21,vi h),(27,vu (if f > e then f else e)),(28,pt j 5)]) 3 [3,6,21,27,28] b kr λa b=>?_)))
 refine bd H λL z H=>wc (l7 b kr (E:=32) (sz:=1) (n:=4) rfl rfl (i:=h) rfl (m4 z (c.get 3 rfl)) kr kr λa b=>wc (lK (t:=(fInt .u64)) (y:=(if f > e then f else e)) (v:=vu (if f > e then f else e)) b c kr 1 2 (s':=k02 g (set g.T (toNat h) (if f > e then f else e))) (C':=k03 k (replicate 4 false) (replicate 4 0) j g (set g.T (toNat h) (if f > e then f else e))) rfl rfl kr rfl rfl z rfl rfl kr kr kr kr λa w b c=>?_))
 have c:=c.add (m:=ml (set g.T (toNat h) (if f > e then f else e)) 4) (List.length_set.trans (c.get 3 rfl))
 refine nl ?_
 exact ⟨_,(set g.T (toNat h) (if f > e then f else e)),b.kp [3,6],c.sp [0,1] [1,2,3,0],H⟩
 refine sk ?_
 exact ⟨_,g.T,b.kp [3,6],c.sp [0,1] (rg 4),H⟩
 rintro a w ⟨κ,s,b,c,H⟩
 unfold M.u2 at H
 refine qr λ_ I=>wc (wls b c 1 0 3 λa b=>wc (wst b c 0 0 3 (k02 g s) (sgN 1 (kS (c.get 2 rfl) (kS (c.get 3 rfl) jD))) λa w b c=>I _ _ (rt ?_)))
 have hS':=c
 cases H
 exact (j7 b c (l4 results94 (rvs b hS' 0 0 3)) ⟨rfl,(c.pick [2,3] kr).ro,c.newC [] dc kr⟩)
theorem BA (N){s}{k}(A:lG s k)(c:jY)(L : ∀m∈([ml c.Has 4,ml c.T 4]:List MP),m.p s k){r}(H:M.wN N c=some r) :
    Calls Tryz.prog 93 #[.agg (flat (k00 c)).toArray] k (kP [] s k λv κ w=>v = .tuple #[vu r.1,vb r.2]∧(∀m∈([]:List MP),m.p κ w)∧sJ k κ w []):=by
 have e:=SS.start A L
 refine en func93 rfl ntmps93 λa b=>?_
 unfold M.wN at H
 refine qs λ_ hz=>rl (wc (wbx b e (k00 c) (sgN 1 (kS (e.get 0 rfl) (kS (e.get 1 rfl) jD))) λg a w b e=>wp 2 [1] b λa b=>nl (hz _ _ (qr λ_ O=>(wp 2 [1,4,5] b λa b=>(O _ _ (qs λ_ P=>qr λ_ Q=>(wp 1 [1,4,5,8] b λa b=>wc (wls b e 0 1 1 λa b=>wp 1 [1,4,5,9,10] b λa b=>(Q _ _ (bk (jT (n:=N) (λn a w=>∃κ h j d,Fr (34) [] [k2w g,(4,vu h),(5,vb j),(9,.agg (flat [eb 4 c.Has]).toArray),k30 d] a∧SS [] s k κ w [.box g 106 [si c.Epoch,eb 4 c.Has,(4,(encs (fInt .u64) c.T))]] [ml c.Has 4,ml c.T 4]∧M.oD N n c h j d=some r) ?_ ?_))))))))))))
 exact ⟨_,0,false,0,b.kp [1,4,5,9,10],e.sp [0] [0,1],H⟩
 rintro n a w ⟨κ,h,j,d,b,e,H⟩
 rcases n with _|l
 simp [M.oD] at H
 simp only [M.oD] at H
 refine qr λ_ B=>wp 1 [1,4,5,9,10,11] b λa b=>B _ _ (qs λ_ C=>bc b H (λhb H=>?_) λhb H=>?_)
 refine sk (C _ _ (m2 (λa w=>∃κ o q,Fr (34) [] [k2w g,(4,vu o),(5,vb q),(9,.agg (flat [eb 4 c.Has]).toArray),k30 d] a∧SS [] s k κ w [.box g 106 [si c.Epoch,eb 4 c.Has,(4,(encs (fInt .u64) c.T))]] [ml c.Has 4,ml c.T 4]∧M.qZ N (M.oD N l) c d o q=some r) ?_ ?_))
 refine bk (qr λ_ D=>(jE (L':=[k2w g,(4,vu h),(5,vb j),(9,.agg (flat [eb 4 c.Has]).toArray),k30 d,(12,vi d)]) 1 [1,4,5,9,10,12] b kr λa b=>bd H λF z H=>wc (kQ b kr (v:=vb F) (pJ (t:=jM) (E:=4) (n:=4) (m:=4) rfl kr rfl z (e.get 0 rfl) rfl rfl kr kr kr _) λa b=>wp 2 [1,4,5,6,7,9,10] b λa b=>D _ _ (qr λ_ G=>bd H λI f H=>k8 (λa w=>∃κ,Fr (34) [] [k2w g,(4,vu h),(5,vb j),(6,vi d),(9,.agg (flat [eb 4 c.Has]).toArray),k30 d,(26,vb I)] a∧SS [] s k κ w [.box g 106 [si c.Epoch,eb 4 c.Has,(4,(encs (fInt .u64) c.T))]] [ml c.Has 4,ml c.T 4]∧True) ?_ ?_))))
 refine wp 2 [1,4,5,6,9,10,15] b λa b=>bs f (λhb f=>?_) λhb f=>?_
 have b:=b.bv 15 hb
 refine wp 3 [1,4,5,6,9,10,15,18] b λa b=>bs f (λhb f=>?_) λhb f=>?_
 have b:=b.bv 18 hb
 refine wp 8 [1,4,5,6,9,10,26] b λa b=>nl ?_
 cases f
 exact ⟨_,b.kp [1,4,5,6,9,10,26],e.sp [0] [0,1],ja⟩
 have b:=b.bv 18 hb
 refine jE (L':=[k2w g,(4,vu h),(5,vb j),(6,vi d),(9,.agg (flat [eb 4 c.Has]).toArray),k30 d,(15,vb true),(18,vb false),(19,vi d),(20,pt g 5)]) 2 [1,4,5,6,9,10,15,18,19,20] b kr λa b=>bd f λJ u f=>wcg b (l7 b kr (E:=32) (sz:=1) (n:=4) rfl rfl (i:=d) rfl (m4 u (e.get 1 rfl)) kr kr λa b=>wcg b (rK (t:=(fInt .u64)) b e kr 0 2 (v:=vu J) rfl rfl rfl rfl u rfl rfl kr kr λa b=>wp 4 [1,4,5,6,9,10,26] b λa b=>nl ?_))
 cases f
 exact ⟨_,b.kp [1,4,5,6,9,10,26],e.sp [0] [0,1],ja⟩
 have b:=b.bv 15 hb
 refine wp 11 [1,4,5,6,9,10,26] b λa b=>nl ?_
 cases f
 exact ⟨_,b.kp [1,4,5,6,9,10,26],e.sp [0] [0,1],ja⟩
 rintro a w ⟨κ,b,e,-⟩
 refine G _ _ (bc b H (λhb H=>?_) λhb H=>?_)
 refine rl (jE (L':=[k2w g,(9,.agg (flat [eb 4 c.Has]).toArray),k30 d,(27,vi d),(28,pt g 5)]) 2 [1,9,10,27,28] b kr λa b=>bd H λy x H=>wc (l7 b kr (E:=32) (sz:=1) (n:=4) rfl rfl (i:=d) rfl (m4 x (e.get 1 rfl)) kr kr λa b=>wc (rK (t:=(fInt .u64)) b e kr 0 2 (v:=vu y) rfl rfl rfl rfl x rfl rfl kr kr λa b=>wp 2 [1,4,5,9,10] b λa b=>nl ?_)))
 exact ⟨_,y,true,b.kp [1,4,5,9,10],e.sp [0] [0,1],H⟩
 refine sk ?_
 exact ⟨_,h,j,b.kp [1,4,5,9,10],e.sp [0] [0,1],H⟩
 rintro a w ⟨κ,o,q,b,e,H⟩
 unfold M.qZ at H
 refine rl (wp 2 [1,4,5,9,10] b λa b=>nl ?_)
 exact ⟨l,jb _,_,o,q,i64.wrap (d+1),b.kp [1,4,5,9,10],e.sp [0] [0,1],H⟩
 refine xt (P _ _ (qr λ_ K=>wp 4 [2,3] b λa b=>K _ _ (rt ?_)))
 cases H
 exact (j7 b e (tB results93 (rvt b) (rvt b)) ⟨rfl,(e.pick [] kr).ro,e.newC [] dc kr⟩)
end Go.Cf
