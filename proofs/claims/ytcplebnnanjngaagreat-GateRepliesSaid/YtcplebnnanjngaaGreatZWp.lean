/- The walks: each function returns what its model says. Printed by a program of ours. -/
import Derived.Test.YtcplebnnanjngaaGreatZSh
import Derived.Test.YtcplebnnanjngaaGreatZM1
namespace Go.Cf
open Go Go.Proofs Tryz
open _root_.Int(toNat tdiv tmod)
open _root_.List(set replicate)
open _root_.ByteArray(empty)
open Go.IntKind(i64 u64)
set_option linter.unusedVariables false
set_option maxRecDepth 20000
set_option maxHeartbeats 8000000
theorem vF (N){d}{c}(f:lG d c)(g)(h)(i : ∀m∈([]:List MP),m.p d c){r}(H:M.pH N g h=some r) :
    Calls Tryz.prog 45 #[vi g,vi h] c (kP [] d c λv κ w=>v=vi r∧(∀m∈([]:List MP),m.p κ w)∧sJ c κ w []):=by
 have e:=SS.start f i
 refine en func45 rfl ntmps45 λa b=>?_
 unfold M.pH at H
 refine qr λ_ j=>wp 1 [0,1] b λa b=>j _ _ (qr λ_ k=>wp 7 [4] b λa b=>k _ _ (rt ?_))
 cases H
 exact (j7 b e (l4 results45 (rvt b)) ⟨rfl,(e.pick [] kr).ro,e.newC [] dc kr⟩)
theorem wJ (N){f}{e}(g:lG f e)(h)(i)(j)(k : ∀m∈([]:List MP),m.p f e){r}(H:M.sT N h i j=some r) :
    Calls Tryz.prog 101 #[.string (h),.string (i),.string (j)] e (kP [] f e λv κ w=>v=vb r∧(∀m∈([]:List MP),m.p κ w)∧sJ e κ w []):=by
 have d:=SS.start g k
 refine en func101 rfl ntmps101 λa b=>?_
 unfold M.sT at H
 refine qr λ_ l=>wp 1 [0,1,2] b λa b=>l _ _ (qr λ_ n=>bd H λo c H=>k8 (λa w => ∃κ,Fr (19) [] [(6,vb o)] a∧SS [] f e κ w [] []∧True) ?_ ?_)
 refine wp 4 [0,2,10] b λa b=>bs c (λhb c=>?_) λhb c=>?_
 have b:=b.bv 10 hb
 refine wp 3 [0,2,10,13] b λa b=>bs c (λhb c=>?_) λhb c=>?_
 have b:=b.bv 13 hb
 refine wp 6 [6] b λa b=>nl ?_
 cases c
 exact ⟨_,b.kp [6],d.sp [] [],ja⟩
 have b:=b.bv 13 hb
 refine wp 6 [6] b λa b=>nl ?_
 cases c
 exact ⟨_,b.kp [6],d.sp [] [],ja⟩
 have b:=b.bv 10 hb
 refine wp 9 [6] b λa b=>nl ?_
 cases c
 exact ⟨_,b.kp [6],d.sp [] [],ja⟩
 rintro a w ⟨κ,b,d,-⟩
 refine n _ _ (rt ?_)
 cases H
 exact (j7 b d (l4 results101 (rvt b)) ⟨rfl,(d.pick [] kr).ro,d.newC [] dc kr⟩)
theorem A3 (N){f}{e}(k:lG f e)(d)(o : ∀m∈([]:List MP),m.p f e){r}(H:M.uN N d=some r) :
    Calls Tryz.prog 25 #[vi d] e (kP [] f e λv κ w => ∃g h i j,v = .agg (flat (k07 g r h i j)).toArray∧(∀m∈([Ro.mp lC.ty g h r.Cuts,Ro.mp (fInt .i64).ty i j r.Nodes]:List MP),m.p κ w)∧sJ e κ w [.tok g 9 1 r.Cuts.length h,.tok i 3 1 r.Nodes.length j]):=by
 have b:=SS.start k o
 refine en func25 rfl ntmps25 λa c=>?_
 unfold M.uN at H
 refine qs λ_ hz=>rl (wc (wal c b k08 (sgN 2 jD) λq a w c b=>nl (hz _ _ (qr λ_ s=>(jE (L':=[k2x q,(3,vi d)]) 1 [2,3] c kr λa c=>wc (oI (t:=(fInt .i64)) (z:=vi 0) (l:=[d]) (vs:=[(0,vi d)]) (cells := #[vi d]) (E:=3) c b kr rfl kr kr rfl kr kr kr kr kr λn κ a w c b=>wp 1 [2,5] c λa c=>wc (wst c b 1 0 2 [k37,sl n ([d]).length 1] (sgN 2 jD) λa w c b=>s _ _ (rt ?_))))))))
 have hS':=b
 have b:=b.add (m:=Ro.mp lC.ty none 0 ([]:List ByteArray)) (Ro.nil lC.ty _ _)
 have b:=b.addNil 9 1
 cases H
 exact (j7 c b (l4 results25 (rvs c hS' 1 0 2)) ⟨none,0,n,1,rfl,(b.pick [0,1] kr).ro,b.newC [0,1] dc kr⟩)
theorem FO (N){o}{i}(y:lG o i)(c:j5)(j)(g)(h)(u)(x)(J : ∀m∈([Ro.mp lC.ty g h c.Cuts,Ro.mp (fInt .i64).ty u x c.Nodes]:List MP),m.p o i){r}(H:M.yE N c j=some r) :
    Calls Tryz.prog 117 #[.agg (flat (k07 g c h u x)).toArray,.string (j)] i (kP [] o i λv κ w=>v=vi r∧(∀m∈([]:List MP),m.p κ w)∧sJ i κ w []):=by
 have d:=SS.start y J
 refine en func117 rfl ntmps117 λa b=>?_
 unfold M.yE at H
 refine qr λ_ K=>(wc (wbx b d (k07 g c h u x) (sgN 2 jD) λQ a w b d=>wp 1 [1,2] b λa b=>(K _ _ (qr λ_ L=>(wp 1 [1,2,5] b λa b=>(L _ _ (qs λ_ z=>qr λ_ A=>(wp 1 [1,5,8] b λa b=>wc (wld b d 0 0 0 λa b=>wp 2 [1,5,9,10,11] b λa b=>(A _ _ (bk (jT (n:=N) (λn a w => ∃κ f e,Fr (22) [] [(1,.string (j)),(5,vi f),(9,.slice g c.Cuts.length h),k30 (c.Cuts.length:Int),(11,vi e)] a∧SS [] o i κ w [] [Ro.mp lC.ty g h c.Cuts]∧M.qC N n c j f e=some r) ?_ ?_))))))))))))
 exact ⟨_,0,0,b.kp [1,5,9,10,11],d.sp [] [0],H⟩
 rintro n a w ⟨κ,f,e,b,d,H⟩
 rcases n with _|k
 simp [M.qC] at H
 simp only [M.qC] at H
 refine qr λ_ B=>(jE (L':=[(1,.string (j)),(5,vi f),(9,.slice g c.Cuts.length h),k30 (c.Cuts.length:Int),(11,vi e),(12,vb (decide (e<(c.Cuts.length:Int))))]) 1 [1,5,9,10,11,12] b kr λa b=>B _ _ (qs λ_ C=>bc b H (λhb H=>?_) λhb H=>?_))
 refine sk (C _ _ (m2 (λa w => ∃κ l,Fr (22) [] [(1,.string (j)),(5,vi l),(9,.slice g c.Cuts.length h),k30 (c.Cuts.length:Int),(11,vi e)] a∧SS [] o i κ w [] [Ro.mp lC.ty g h c.Cuts]∧M.u7 N (M.qC N k) c j e l=some r) ?_ ?_))
 refine bk (qr λ_ D=>(bd H λF q H=>wc (kR b d kr 0 (E:=9) (sz:=1) rfl rfl rfl kr rfl q kr kr λO P a s b=>wc (mH (t:=lC) b d kr 0 0 (v := .string (F)) rfl rfl s rfl q kr kr kr λa b=>wp 1 [1,5,7,9,10,11] b λa b=>D _ _ (qr λ_ G=>wp 3 [1,5,9,10,11,17] b λa b=>G _ _ (bc b H (λhb H=>?_) λhb H=>?_))))))
 refine rl (wp 3 [1,5,9,10,11] b λa b=>nl ?_)
 exact ⟨_,i64.wrap (f+1),b.kp [1,5,9,10,11],d.sp [] [0],H⟩
 refine sk ?_
 exact ⟨_,f,b.kp [1,5,9,10,11],d.sp [] [0],H⟩
 rintro a w ⟨κ,l,b,d,H⟩
 unfold M.u7 at H
 refine rl (wp 2 [1,5,9,10,11] b λa b=>nl ?_)
 exact ⟨k,jb _,_,l,i64.wrap (e+1),b.kp [1,5,9,10,11],d.sp [] [0],H⟩
 refine xt (z _ _ (qr λ_ I=>wp 2 [4] b λa b=>I _ _ (rt ?_)))
 cases H
 exact (j7 b d (l4 results117 (rvt b)) ⟨rfl,(d.pick [] kr).ro,d.newC [] dc kr⟩)
theorem A4 (N){l}{e}(q:lG l e)(d:j5)(n)(i)(j)(f)(g)(s : ∀m∈([Ro.mp lC.ty i j d.Cuts,Ro.mp (fInt .i64).ty f g d.Nodes]:List MP),m.p l e){r}(H:M.uO N d n=some r) :
    Calls Tryz.prog 86 #[.agg (flat (k07 i d j f g)).toArray,.string (n)] e (kP [] l e λv κ w=>v=vi r∧(∀m∈([]:List MP),m.p κ w)∧sJ e κ w []):=by
 have c:=SS.start q s
 refine en func86 rfl ntmps86 λa b=>?_
 unfold M.uO at H
 refine qr λ_ C=>wc (wbx b c (k07 i d j f g) (sgN 2 jD) λI a w b c=>wp 1 [1,2] b λa b=>C _ _ (qs λ_ D=>qr λ_ u=>wc (wls b c 0 0 2 λa b=>wp 1 [2,6,7] b λa b=>bd H λx o H=>wc (jR b c kr kr (FO N c.fresh d n i j f g ((c.pick [0,1] kr).ro) o) ?_))))
 rintro _ κ w a ⟨rfl,s,J⟩ b c K
 refine wp 1 [2,5] b λa b=>u _ _ (qr λ_ y=>wp 2 [2,5,9,10] b λa b=>wc (wld b c 0 1 0 λa b=>wp 2 [2,5,13] b λa b=>y _ _ (bc b H (λhb H=>?_) λhb H=>?_)))
 refine qr λ_ z=>(wp 1 [5,14] b λa b=>wc (wld b c 0 1 0 λa b=>jE (L':=[k38 f d.Nodes.length g,(16,vi x)]) 1 [15,16] b kr λa b=>bd H λA h H=>wc (kR b c kr 1 (E:=3) (sz:=1) rfl rfl rfl kr rfl h kr kr λF G a k b=>wc (mH (t:=(fInt .i64)) b c kr 1 0 (v:=vi A) rfl rfl k rfl h kr kr kr λa b=>wp 1 [4] b λa b=>z _ _ (rt ?_)))))
 cases H
 exact (j7 b c (l4 results86 (rvt b)) ⟨rfl,(c.pick [] kr).ro,c.newC [] dc kr⟩)
 refine sk (D _ _ (qr λ_ B=>wp 1 [4] b λa b=>B _ _ (rt ?_)))
 cases H
 exact (j7 b c (l4 results86 (rvt b)) ⟨rfl,(c.pick [] kr).ro,c.newC [] dc kr⟩)
theorem xL (N){u}{s}(U:lG u s)(d:j5)(o)(g)(h)(i)(j)(hR : ∀m∈([Ro.mp lC.ty g h d.Cuts,Ro.mp (fInt .i64).ty i j d.Nodes]:List MP),m.p u s){r}(H:M.tW N d o=some r) :
    Calls Tryz.prog 100 #[.agg (flat (k07 g d h i j)).toArray,vi o] s (kP [] u s λv κ w=>v=vi r∧(∀m∈([]:List MP),m.p κ w)∧sJ s κ w []):=by
 have c:=SS.start U hR
 refine en func100 rfl ntmps100 λa b=>?_
 unfold M.tW at H
 refine qr λ_ h7=>wc (wbx b c (k07 g d h i j) (sgN 2 jD) λx a w b c=>wp 1 [1,2] b λa b=>h7 _ _ (qs λ_ h9=>qr λ_ V=>bd H λW q H=>k8 (λa w => ∃κ,Fr (70) [] [k2z o,k2x x,(14,vb W)] a∧SS [] u s κ w [.box x 68 [sl g d.Cuts.length h,sl i d.Nodes.length j]] [Ro.mp lC.ty g h d.Cuts,Ro.mp (fInt .i64).ty i j d.Nodes]∧True) ?_ ?_))
 refine wp 3 [1,2,11] b λa b=>bs q (λhb q=>?_) λhb q=>?_
 have b:=b.bv 11 hb
 refine wp 3 [1,2,14] b λa b=>nl ?_
 cases q
 exact ⟨_,b.kp [1,2,14],c.sp [0] [0,1],ja⟩
 have b:=b.bv 11 hb
 refine wp 3 [1,2,14] b λa b=>nl ?_
 cases q
 exact ⟨_,b.kp [1,2,14],c.sp [0] [0,1],ja⟩
 rintro a w ⟨κ,b,c,-⟩
 refine V _ _ (bc b H (λhb H=>?_) λhb H=>?_)
 refine qr λ_ X=>wp 1 [4] b λa b=>X _ _ (rt ?_)
 cases H
 exact (j7 b c (l4 results100 (rvt b)) ⟨rfl,(c.pick [] kr).ro,c.newC [] dc kr⟩)
 refine sk (h9 _ _ (qs λ_ Y=>qr λ_ Z=>wp 1 [1,2,15] b λa b=>wc (wld b c 0 1 0 λa b=>wp 2 [1,2,18] b λa b=>Z _ _ (bc b H (λhb H=>?_) λhb H=>?_))))
 refine qr λ_ aa=>wp 1 [4] b λa b=>aa _ _ (rt ?_)
 cases H
 exact (j7 b c (l4 results100 (rvt b)) ⟨rfl,(c.pick [] kr).ro,c.newC [] dc kr⟩)
 refine sk (Y _ _ (qs λ_ ab=>qr λ_ ad=>wp 1 [1,2,19] b λa b=>wc (wld b c 0 1 0 λa b=>wp 2 [1,2,21,22] b λa b=>wc (wld b c 0 0 0 λa b=>wp 3 [1,2,26] b λa b=>ad _ _ (bc b H (λhb H=>?_) λhb H=>?_)))))
 refine qr λ_ ae=>wp 1 [4] b λa b=>ae _ _ (rt ?_)
 cases H
 exact (j7 b c (l4 results100 (rvt b)) ⟨rfl,(c.pick [] kr).ro,c.newC [] dc kr⟩)
 refine sk (ab _ _ (qs λ_ af=>qr λ_ ah=>(wp 1 [1,2,27] b λa b=>wc (wld b c 0 0 0 λa b=>wp 2 [1,2,28,29,30] b λa b=>(ah _ _ (bk (jT (n:=N) (λn a w => ∃κ k,Fr (70) [] [k2z o,k2x x,(28,.slice g d.Cuts.length h),(29,vi (d.Cuts.length:Int)),(30,vi k)] a∧SS [] u s κ w [.box x 68 [sl g d.Cuts.length h,sl i d.Nodes.length j]] [Ro.mp lC.ty g h d.Cuts,Ro.mp (fInt .i64).ty i j d.Nodes]∧M.pI N n d o k=some r) ?_ ?_)))))))
 exact ⟨_,0,b.kp [1,2,28,29,30],c.sp [0] [0,1],H⟩
 rintro n a w ⟨κ,k,b,c,H⟩
 rcases n with _|C
 simp [M.pI] at H
 simp only [M.pI] at H
 refine qr λ_ ai=>wp 1 [1,2,28,29,30,31] b λa b=>ai _ _ (qs λ_ aj=>bc b H (λhb H=>?_) λhb H=>?_)
 refine sk (aj _ _ (qs λ_ ak=>bk (qr λ_ al=>(jE (L':=[k2z o,k2x x,(28,.slice g d.Cuts.length h),(29,vi (d.Cuts.length:Int)),(30,vi k),(32,vi k)]) 1 [1,2,28,29,30,32] b kr λa b=>bd H λI z H=>wc (kR b c kr 0 (E:=9) (sz:=1) rfl rfl rfl kr rfl z kr kr λaE aF a D b=>wc (mH (t:=lC) b c kr 0 0 (v := .string (I)) rfl rfl D rfl z kr kr kr λa b=>wp 2 [1,2,5,6,28,29,30] b λa b=>al _ _ (qs λ_ am=>qr λ_ an=>wp 3 [1,2,5,6,28,29,30,37] b λa b=>an _ _ (bc b H (λhb H=>?_) λhb H=>?_))))))))
 refine qr λ_ ao=>wp 1 [4] b λa b=>ao _ _ (rt ?_)
 cases H
 exact (j7 b c (l4 results100 (rvt b)) ⟨rfl,(c.pick [] kr).ro,c.newC [] dc kr⟩)
 refine sk (am _ _ (qr λ_ aq=>bd H λar e H=>k8 (λa w => ∃κ,Fr (70) [] [k2z o,k2x x,(28,.slice g d.Cuts.length h),(29,vi (d.Cuts.length:Int)),(30,vi k),(53,vb ar)] a∧SS [] u s κ w [.box x 68 [sl g d.Cuts.length h,sl i d.Nodes.length j]] [Ro.mp lC.ty g h d.Cuts,Ro.mp (fInt .i64).ty i j d.Nodes]∧True) ?_ ?_))
 refine wp 3 [1,2,5,6,28,29,30,40] b λa b=>bs e (λhb e=>?_) λhb e=>?_
 have b:=b.bv 40 hb
 refine wp 13 [1,2,28,29,30,53] b λa b=>nl ?_
 cases e
 exact ⟨_,b.kp [1,2,28,29,30,53],c.sp [0] [0,1],ja⟩
 have b:=b.bv 40 hb
 refine wp 3 [1,2,5,6,28,29,30,40,43] b λa b=>bs e (λhb e=>?_) λhb e=>?_
 have b:=b.bv 43 hb
 refine wp 1 [1,2,5,6,28,29,30,40,43,44] b λa b=>wcg b (wld b c 0 0 0 λa b=>jE (L':=[k2z o,k2x x,(6,.string (I)),(28,.slice g d.Cuts.length h),(29,vi (d.Cuts.length:Int)),(30,vi k),(40,vb false),(43,vb true),(45,.slice g d.Cuts.length h),(47,vi (i64.wrap (k-1)))]) 2 [1,2,6,28,29,30,40,43,45,47] b kr λa b=>bd e λau A e=>wcg b (kR b c kr 0 (E:=9) (sz:=1) rfl rfl rfl kr rfl A kr kr λaG aH a F b=>wcg b (mH (t:=lC) b c kr 0 0 (v := .string (au)) rfl rfl F rfl A kr kr kr λa b=>?_)))
 refine wp 4 [1,2,28,29,30,53] b λa b=>nl ?_
 cases e
 exact ⟨_,b.kp [1,2,28,29,30,53],c.sp [0] [0,1],ja⟩
 have b:=b.bv 43 hb
 refine wp 10 [1,2,28,29,30,53] b λa b=>nl ?_
 cases e
 exact ⟨_,b.kp [1,2,28,29,30,53],c.sp [0] [0,1],ja⟩
 rintro a w ⟨κ,b,c,-⟩
 refine aq _ _ (bc b H (λhb H=>?_) λhb H=>?_)
 refine qr λ_ av=>wp 1 [4] b λa b=>av _ _ (rt ?_)
 cases H
 exact (j7 b c (l4 results100 (rvt b)) ⟨rfl,(c.pick [] kr).ro,c.newC [] dc kr⟩)
 refine sk (ak _ _ (rl (wp 2 [1,2,28,29,30] b λa b=>nl ?_)))
 exact ⟨C,jb _,_,i64.wrap (k+1),b.kp [1,2,28,29,30],c.sp [0] [0,1],H⟩
 refine xt (af _ _ (qs λ_ aw=>qr λ_ ax=>(wp 1 [1,55] b λa b=>wc (wld b c 0 1 0 λa b=>wp 2 [1,56,57,58] b λa b=>(ax _ _ (bk (jT (n:=N) (λn a w => ∃κ f,Fr (70) [] [k2z o,(56,.slice i d.Nodes.length j),(57,vi (d.Nodes.length:Int)),(58,vi f)] a∧SS [] u s κ w [] [Ro.mp (fInt .i64).ty i j d.Nodes]∧M.qF N n d o f=some r) ?_ ?_)))))))
 exact ⟨_,0,b.kp [1,56,57,58],c.sp [] [1],H⟩
 rintro n a w ⟨κ,f,b,c,H⟩
 rcases n with _|G
 simp [M.qF] at H
 simp only [M.qF] at H
 refine qr λ_ J=>(jE (L':=[k2z o,(56,.slice i d.Nodes.length j),(57,vi (d.Nodes.length:Int)),(58,vi f),(59,vb (decide (f<(d.Nodes.length:Int))))]) 1 [1,56,57,58,59] b kr λa b=>J _ _ (qs λ_ K=>bc b H (λhb H=>?_) λhb H=>?_))
 refine sk (K _ _ (qs λ_ L=>bk (qr λ_ O=>(bd H λP y H=>wc (kR b c kr 0 (E:=3) (sz:=1) rfl rfl rfl kr rfl y kr kr λaB aD a B b=>wc (mH (t:=(fInt .i64)) b c kr 0 0 (v:=vi P) rfl rfl B rfl y kr kr kr λa b=>wp 1 [1,8,56,57,58] b λa b=>O _ _ (qr λ_ Q=>bd H λR l H=>k8 (λa w => ∃κ,Fr (70) [] [k2z o,(56,.slice i d.Nodes.length j),(57,vi (d.Nodes.length:Int)),(58,vi f),(68,vb R)] a∧SS [] u s κ w [] [Ro.mp (fInt .i64).ty i j d.Nodes]∧True) ?_ ?_)))))))
 refine wp 3 [1,8,56,57,58,64] b λa b=>bs l (λhb l=>?_) λhb l=>?_
 have b:=b.bv 64 hb
 refine wp 4 [1,56,57,58,68] b λa b=>nl ?_
 cases l
 exact ⟨_,b.kp [1,56,57,58,68],c.sp [] [0],ja⟩
 have b:=b.bv 64 hb
 refine wp 4 [1,56,57,58,68] b λa b=>nl ?_
 cases l
 exact ⟨_,b.kp [1,56,57,58,68],c.sp [] [0],ja⟩
 rintro a w ⟨κ,b,c,-⟩
 refine Q _ _ (bc b H (λhb H=>?_) λhb H=>?_)
 refine qr λ_ S=>wp 1 [4] b λa b=>S _ _ (rt ?_)
 cases H
 exact (j7 b c (l4 results100 (rvt b)) ⟨rfl,(c.pick [] kr).ro,c.newC [] dc kr⟩)
 refine sk (L _ _ (rl (wp 2 [1,56,57,58] b λa b=>nl ?_)))
 exact ⟨G,jb _,_,i64.wrap (f+1),b.kp [1,56,57,58],c.sp [] [0],H⟩
 refine xt (aw _ _ (qr λ_ T=>wp 1 [4] b λa b=>T _ _ (rt ?_)))
 cases H
 exact (j7 b c (l4 results100 (rvt b)) ⟨rfl,(c.pick [] kr).ro,c.newC [] dc kr⟩)
theorem FP (N){u}{e}(F:lG u e)(f:j5)(x)(y)(A)(B)(K : ∀m∈([Ro.mp lC.ty x y f.Cuts,Ro.mp (fInt .i64).ty A B f.Nodes]:List MP),m.p u e){r}(H:M.vQ N f=some r) :
    Calls Tryz.prog 44 #[.agg (flat (k07 x f y A B)).toArray] e (kP [] u e λv κ w => ∃g j k l,v = .agg (flat (k07 g r j k l)).toArray∧(∀m∈([Ro.mp lC.ty g j r.Cuts,Ro.mp (fInt .i64).ty k l r.Nodes]:List MP),m.p κ w)∧sJ e κ w [.tok g 9 1 r.Cuts.length j,.tok k 3 1 r.Nodes.length l]):=by
 have b:=SS.start F K
 refine en func44 rfl ntmps44 λa d=>?_
 unfold M.vQ at H
 refine qr λ_ L=>wc (wbx d b (k07 x f y A B) (sgN 2 jD) λG a w d b=>wc (wal d b k08 (sgN 2 jD) λO a w d b=>L _ _ (qs λ_ P=>rgS b [7] ?_)))
 have b:=b.drew
 have C:=b.fx
 refine bd H λI D H=>bd H λJ E H=>jN [0,3] [2,3,6] (L':=[k2x O,k2u G,(6,pt G 1)]) (listed':=(mV 8 9)) (fuel:=6) d C kr (by intro c a w t v h; cases t<;>exact h) kr rfl λa d=>atk 1 (some 4) d C rfl (vld 1 0 0) λa d=>atk 4 (some 7) d C rfl (vld 1 1 0) λa d=>ago 2 d rfl ?_
 have b:=b.add (m:=Ro.mp lC.ty none 0 ([]:List ByteArray)) (Ro.nil lC.ty _ _)
 have b:=b.addNil 9 1
 refine kJ (ty:=lC.ty) d b kr 0 0 1 rfl rfl rfl kr kr rfl rfl rfl D kr (i:=Tryz.t9) (z := .string (empty)) kr kr kr λn o κ a w d b=>⟨λ_=>(b.sx [1,2] [2,3]),?_⟩
 refine ago 5 d rfl ?_
 have b:=b.add (m:=Ro.mp (fInt .i64).ty none 0 ([]:List Int)) (Ro.nil (fInt .i64).ty _ _)
 have b:=b.addNil 3 1
 refine kJ (ty:=(fInt .i64).ty) d b kr 0 0 4 rfl rfl rfl kr kr rfl rfl rfl E kr (i:=Tryz.t3) (z:=vi 0) kr kr kr λq s κ a w d b=>⟨λ_=>(b.sx [2,3] [4,5]),?_⟩
 refine anp [6] [2,9] d (b.sx [2,3] [4,5]) λa d=>ago 7 d rfl (wst d b 2 0 2 [sl n I.length o,sl q J.length s] (sgN 2 jD) λa w d b=>⟨notE,?_⟩)
 refine kN (P _ _ (rt ?_))
 have hS':=b
 cases H
 exact (j7 d b (l4 results44 (rvs d hS' 2 0 2)) ⟨n,o,q,s,rfl,(b.pick [2,0] kr).ro,b.newC [1,0] dc kr⟩)
theorem BC (N){σ}{B}{Y}{l}
    (hB : ∀ {s:σ} {x:XF} {κ:Gh} {w:World} (K:Int) (L:l6) {s':σ} {c:Bool},Y s x→x.p κ w→lG κ w→x.bs.Nodup→(∀b∈x.bs,b<w.heap.size)→(∀m∈([]:List MP),m.p κ w)→B s K L=some (s',c)→yP Tryz.prog l Y #[vi K,.agg (flat (k09 L)).toArray] x s' c κ w)
    (g:j5) (z:Option Addr) (A:Nat) (h:Option Addr) (i:Nat) {J:List Nat} {G:Gh} {D:World} {X:XF} {Z:σ} {o:Nat} (e:SS J G D G D [.ext X,k39 o z g A h i] [k3a z A g.Cuts,k3b h i g.Nodes,(MP.const (Y Z X))]) {r:σ} (H:M.uX N B g Z=some r) :
    Calls Tryz.prog 129 #[.func (.yield l) #[] #[],pt o 0] D (kP J G D λ_ κ w => ∃x,Y r x∧SS J G D κ w [.ext x] []):=by
 refine en func129 rfl ntmps129 λa d=>?_
 unfold M.uX at H
 refine qs λ_ h9=>qr λ_ ab=>wp 1 [0,1,6] d λa d=>wc (wld d e 1 1 0 λa d=>wp 2 [0,1,8,9] d λa d=>wc (wld d e 1 0 0 λa d=>wp 3 [0,1,13] d λa d=>ab _ _ (bc d H (λhb H=>?_) λhb H=>?_)))
 refine rt ?_
 cases H
 exact j7 d e (mL results129) ⟨_,e.get 2 rfl,(e.selp [0] dc kr).pick [] rfl⟩
 refine sk (h9 _ _ (qr λ_ ad=>(wp 1 [0,1,14] d λa d=>wc (wld d e 1 1 0 λa d=>wp 2 [0,1,15,16,17] d λa d=>(ad _ _ (bk (jT (n:=N) (λn a w => ∃κ f q j,Fr (50) [] [k3c (.yield l) #[],k2w o,k38 h g.Nodes.length i,(16,vi (g.Nodes.length:Int)),(17,vi f)] a∧SS J G D κ w [k39 o z g A h i,.ext j] (k0a (MP.const (Y q j)) h i g z A)∧M.lS N B n g f q=some r) ?_ ?_)))))))
 exact ⟨_,0,Z,X,d.kp [0,1,15,16,17],e.sp [1,0] [2,1,0],H⟩
 rintro n a w ⟨κ,f,q,j,d,e,H⟩
 rcases n with _|C
 simp [M.lS] at H
 simp only [M.lS] at H
 refine qr λ_ ae=>wp 1 [0,1,15,16,17,18] d λa d=>ae _ _ (qs λ_ af=>bc d H (λhb H=>?_) λhb H=>?_)
 refine sk (af _ _ (qs λ_ ah=>bk (qr λ_ ai=>(jE (L':=[k3c (.yield l) #[],k2w o,k38 h g.Nodes.length i,(16,vi (g.Nodes.length:Int)),(17,vi f),(19,vi f)]) 1 [0,1,15,16,17,19] d kr λa d=>bd H λk O H=>wc (kR d e kr 1 (E:=3) (sz:=1) rfl rfl rfl kr rfl O kr kr λaq ar a T d=>wc (mH (t:=(fInt .i64)) d e kr 1 0 (v:=vi k) rfl rfl T rfl O kr kr kr λa d=>wp 2 [0,1,3,4,15,16,17] d λa d=>ai _ _ (qr λ_ aj=>wp 2 [0,1,3,15,16,17,23] d λa d=>wc (wal d e (k0b empty) (sgN 3 jD) λu a w d e=>?_))))))))
 refine wc (wst d e 0 0 3 [sg empty,sg empty,si k] (sgN 3 jD) λa w d e=>aj _ _ (m2 (λa w => ∃κ y,Fr (50) [] [k3c (.yield l) #[],k2w o,(3,vi f),k32 u,k38 h g.Nodes.length i,(16,vi (g.Nodes.length:Int)),(17,vi f)] a∧SS J G D κ w [.box u 128 [sg y,sg empty,si k],k39 o z g A h i,.ext j] (k0a (MP.const (Y q j)) h i g z A)∧M.qL N B (M.lS N B C) g f q k y=some r) ?_ ?_))
 refine qr λ_ ak=>wp 2 [0,1,3,5,15,16,17,25] d λa d=>ak _ _ (bc d H (λhb H=>?_) λhb H=>?_)
 refine rl (wp 1 [0,1,3,5,15,16,17,26] d λa d=>wc (wld d e 1 0 0 λa d=>jE (L':=[k3c (.yield l) #[],k2w o,(3,vi f),k32 u,k38 h g.Nodes.length i,(16,vi (g.Nodes.length:Int)),(17,vi f),k3d z g.Cuts.length A,(29,vi (i64.wrap (f-1)))]) 2 [0,1,3,5,15,16,17,27,29] d kr λa d=>bd H λP Q H=>wc (kR d e kr 2 (E:=9) (sz:=1) rfl rfl rfl kr rfl Q kr kr λau av a U d=>wc (mH (t:=lC) d e kr 2 0 (v := .string (P)) rfl rfl U rfl Q kr kr kr λa d=>?_))))
 refine wp 1 [0,1,3,5,15,16,17,31,32] d λa d=>wc (wst d e 0 0 1 [sg P] (sgN 1 jD) λa w d e=>nl ?_)
 exact ⟨_,P,d.kp [0,1,3,5,15,16,17],e.sp [0,1,2] [0,1,2],H⟩
 refine sk ?_
 exact ⟨_,empty,d.kp [0,1,3,5,15,16,17],e.sp [0,1,2] [0,1,2],H⟩
 rintro a w ⟨κ,y,d,e,H⟩
 unfold M.qL at H
 refine m2 (λa w => ∃κ F,Fr (50) [] [k3c (.yield l) #[],k2w o,(3,vi f),k32 u,k38 h g.Nodes.length i,(16,vi (g.Nodes.length:Int)),(17,vi f)] a∧SS J G D κ w [.box u 128 [sg y,sg F,si k],k39 o z g A h i,.ext j] (k0a (MP.const (Y q j)) h i g z A)∧M.qK N B (M.lS N B C) g f q k y F=some r) ?_ ?_
 refine qr λ_ al=>wp 2 [0,1,3,5,15,16,17,33,34] d λa d=>wc (wld d e 1 0 0 λa d=>wp 2 [0,1,3,5,15,16,17,37] d λa d=>al _ _ (bc d H (λhb H=>?_) λhb H=>?_))
 refine rl (wp 1 [0,1,3,5,15,16,17,38] d λa d=>wc (wld d e 1 0 0 λa d=>jE (L':=[k3c (.yield l) #[],k2w o,(3,vi f),k32 u,k38 h g.Nodes.length i,(16,vi (g.Nodes.length:Int)),(17,vi f),(39,.slice z g.Cuts.length A),(40,vi f)]) 1 [0,1,3,5,15,16,17,39,40] d kr λa d=>bd H λR S H=>wc (kR d e kr 2 (E:=9) (sz:=1) rfl rfl rfl kr rfl S kr kr λaw ax a V d=>wc (mH (t:=lC) d e kr 2 0 (v := .string (R)) rfl rfl V rfl S kr kr kr λa d=>wp 1 [0,1,3,5,15,16,17,42,43] d λa d=>?_))))
 refine wc (wst d e 0 1 1 [sg R] (sgN 1 jD) λa w d e=>nl ?_)
 exact ⟨_,R,d.kp [0,1,3,5,15,16,17],e.sp [0,1,2] [0,1,2],H⟩
 refine sk ?_
 exact ⟨_,empty,d.kp [0,1,3,5,15,16,17],e.sp [0,1,2] [0,1,2],H⟩
 rintro a w ⟨κ,F,d,e,H⟩
 unfold M.qK at H
 refine qr λ_ am=>(jE (L':=[k3c (.yield l) #[],k2w o,k32 u,k38 h g.Nodes.length i,(16,vi (g.Nodes.length:Int)),(17,vi f),(44,.func (.yield l) #[] #[]),(45,vi f)]) 2 [0,1,5,15,16,17,44,45] d kr λa d=>wc (wls d e 0 0 3 λa d=>bd H λI aa H=>wc (E6 (Y:=Y) (s':=I.1) (c:=I.2) (x:=j) (l:=l) (args := #[vi f,.agg (flat [sg y,sg F,si k]).toArray]) d e kr 2 rfl kr kr rfl (λhp hf hn hl=>hB f (l6.mk y F k) (e.get 0 rfl) hp hf hn hl ((e.pick [] kr).ro) aa) λW κ w a hY d e=>?_)))
 have e:=e.add (m:=MP.const (Y I.1 W)) hY
 refine wp 1 [0,1,15,16,17,48] d λa d=>am _ _ (bc d H (λhb H=>?_) λhb H=>?_)
 refine rt ?_
 cases H
 exact j7 d e (mL results129) ⟨_,e.get 0 rfl,(e.selp [2] dc kr).pick [] rfl⟩
 refine sk (ah _ _ (rl (wp 2 [0,1,15,16,17] d λa d=>nl ?_)))
 exact ⟨C,jb _,_,i64.wrap (f+1),I.1,W,d.kp [0,1,15,16,17],e.sp [1,2] [0,2,3],H⟩
 refine xt ?_
 cases H
 exact j7 d e (mL results129) ⟨_,e.get 0 rfl,(e.selp [1] dc kr).pick [] rfl⟩
theorem CP (N){l}{d}(n:lG l d)(c:j5)(g)(h)(i)(j)(o : ∀m∈([Ro.mp lC.ty g h c.Cuts,Ro.mp (fInt .i64).ty i j c.Nodes]:List MP),m.p l d){r}(H:M.wA N c=some r) :
    Calls Tryz.prog 102 #[.agg (flat (k07 g c h i j)).toArray] d (kP [] l d λv κ w => ∃e:Nat,v = .func (.func 129) #[] #[pt e 0]∧(∀m∈([]:List MP),m.p κ w)∧sJ d κ w [.box e 68 [sl g c.Cuts.length h,sl i c.Nodes.length j]]):=by
 have f:=SS.start n o
 refine en func102 rfl ntmps102 λa b=>?_
 unfold M.wA at H
 refine qr λ_ q=>(wc (wbx b f (k07 g c h i j) (sgN 2 jD) λk a w b f=>jE (L':=[k2w k]) 1 [1] b kr λa b=>(q _ _ (qr λ_ s=>(wc (kQ b kr (v := .func (.func 129) #[] #[pt k 0]) (u6 (T':=0) (caps := #[pt k 0]) rfl kr _) λa b=>wp 1 [2] b λa b=>s _ _ (rt ?_)))))))
 cases H
 exact (j7 b f (l4 results102 (rvt b)) ⟨k,rfl,(f.pick [] rfl).ro,f.newC [0] dc kr⟩)
theorem AO (N){E}{D}(J:lG E D)(k:j5)(j)(q)(s)(t)(u)(F : ∀m∈([Ro.mp lC.ty q s k.Cuts,Ro.mp (fInt .i64).ty t u k.Nodes]:List MP),m.p E D){r}(H:M.yF N k j=some r) :
    Calls Tryz.prog 63 #[.agg (flat (k07 q k s t u)).toArray,vi j] D (kP [] E D λv κ w=>v = .tuple #[.agg (flat (k09 r.1)).toArray,vb r.2]∧(∀m∈([]:List MP),m.p κ w)∧sJ D κ w []):=by
 have b:=SS.start J F
 refine KC (N:=(17)) (L:=[(0,.agg (flat [sl q k.Cuts.length s,sl t k.Nodes.length u]).toArray),k2z j]) func63 rfl ntmps63 (show 2≤(17) by decide) rfl λa e=>?_
 unfold M.yF at H
 refine qr λ_ V=>wc (wbx e b (k07 q k s t u) (sgN 2 jD) λb8 a w e b=>wc (wbx e b [si j] (sgN 1 jD) λn a w e b=>wc (wal e b (k0b empty) (sgN 3 jD) λg a w e b=>wc (wal e b [k3e] (sgN 1 jD) λh a w e b=>V _ _ (qs λ_ K=>qr λ_ O=>wc (wls e b 3 0 2 λa e=>bd H λZ G H=>wc (jR e b kr kr (CP N b.fresh k q s t u ((b.pick [0,1] kr).ro) G) ?_)))))))
 rintro _ κ w a ⟨A,rfl,F,W⟩ e b X
 have b:=b.addC X W
 refine O _ _ (bk (bd H λy I H=>?_))
 have b:SS [] E D _ _ [.box h 4 [sb false],.box g 128 [sg empty,sg empty,si 0],.box n 3 [si j],.box A 68 [sl q k.Cuts.length s,sl t k.Nodes.length u]] _:=b.selp [1,2,3,0] dc kr
 refine HY (C:=[.box h 4 [sb false],.box g 128 [sg empty,sg empty,si 0],.box n 3 [si j]]) (Cap:=[.box A 68 [sl q k.Cuts.length s,sl t k.Nodes.length u]]) (R':=[]) (caps := #[pt A 0]) (f:=129) [.ret] (λl => #[.func (.yield l) #[] #[],pt A 0]) e b kr (λ_ _=>rfl) ((b.pick [] kr).ro) (λl=>by kernel_rfl) λo l rc w hrc b=>⟨λx=>(λ(d:(Bool×ByteArray×ByteArray×Int×Nat)) (x:XF)=>x=mkX o l (lp rc [.ret] d.u4) [.box h 4 [sb d.1],.box g 128 [sg d.2.1,sg d.2.2.1,si d.2.2.2.1],.box n 3 [si j]] []) y x,?_,?_⟩
 have b:=(b.rebase.add (m:=MP.const ((λ(d:(Bool×ByteArray×ByteArray×Int×Nat)) (x:XF)=>x=mkX o l (lp rc [.ret] d.u4) [.box h 4 [sb d.1],.box g 128 [sg d.2.1,sg d.2.2.1,si d.2.2.2.1],.box n 3 [si j]] []) (false,empty,empty,0,0) (mkX o l (lp rc [.ret] 0) [.box h 4 [sb false],.box g 128 [sg empty,sg empty,si 0],.box n 3 [si j]] []))) rfl).pick (R':=[Ro.mp lC.ty q s k.Cuts,Ro.mp (fInt .i64).ty t u k.Nodes,MP.const ((λ(d:(Bool×ByteArray×ByteArray×Int×Nat)) (x:XF)=>x=mkX o l (lp rc [.ret] d.u4) [.box h 4 [sb d.1],.box g 128 [sg d.2.1,sg d.2.2.1,si d.2.2.2.1],.box n 3 [si j]] []) (false,empty,empty,0,0) (mkX o l (lp rc [.ret] 0) [.box h 4 [sb false],.box g 128 [sg empty,sg empty,si 0],.box n 3 [si j]] []))]) [1,2,0] kr
 refine BC N (Y:=(λ(d:(Bool×ByteArray×ByteArray×Int×Nat)) (x:XF)=>x=mkX o l (lp rc [.ret] d.u4) [.box h 4 [sb d.1],.box g 128 [sg d.2.1,sg d.2.2.1,si d.2.2.2.1],.box n 3 [si j]] [])) (B:=(λ(d:(Bool×ByteArray×ByteArray×Int×Nat)) z i=>bif (d.u4==0) then bif (z==j) then some (((true,i.Lo,i.Hi,i.Node,1)),false) else some (((d.1,d.2.1,d.2.2.1,d.2.2.2.1,0)),true) else none)) (l:=l) ?_ k q s t u b I
 rintro d _ κ w z i s' c rfl hp hf hnd hlt F H
 refine wY H (λhn H=>?_) (λ_ H=>by cases H)
 refine EM (L:=[k2u n,k2v g,k32 h,k30 z,(11,.agg (flat [sg i.Lo,sg i.Hi,si i.Node]).toArray)]) hp hf hnd hlt hn hrc rfl [3,4,5,10,11] e kr kr λa e b=>?_
 have b:=b.adds F
 skip
 refine qr λ_ P=>(jE (L':=[k2u n,k2v g,k32 h,(6,vi z),(11,.agg (flat [sg i.Lo,sg i.Hi,si i.Node]).toArray)]) 1 [3,4,5,6,11] e kr λa e=>P _ _ (rl (wc (wal e b (k0b empty) (sgN 3 jD) λQ a w e b=>wc (wst e b 0 0 3 (k09 i) (sgN 3 jD) λa w e b=>nl (⟨_,_,_,b,λwb b=>?_⟩))))))
 obtain ⟨κb,hκb⟩ : ∃κb,κb=κ:=⟨_,rfl⟩
 subst hκb
 refine bk (qr λ_ S=>(wp 1 [3,4,5,7,12] e λa e=>wc (wld e b 3 0 0 λa e=>jE (L':=[k2u n,k2v g,k32 h,(7,pt Q 0),(14,vb (z==j))]) 1 [3,4,5,7,14] e kr λa e=>S _ _ (bc e H (λhb H=>?_) λhb H=>?_))))
 refine qr λ_ T=>wc (wls e b 0 0 3 λa e=>wc (wst e b 2 0 3 (k09 i) (sgN 3 jD) λa w e b=>wc (wst e b 1 0 1 [sb true] (sgN 1 jD) λa w e b=>T _ _ (rt ?_))))
 cases H
 try dsimp only [Exit.inBlock,Exit.then]
 repeat rw [if_neg dc]
 refine MF [.ret] 0 rfl (C:=[.box h 4 [sb true],.box g 128 [sg i.Lo,sg i.Hi,si i.Node],.box n 3 [si j]]) (R:=[]) (b.sp [1,2,3] []) ?_
 exact rfl
 refine sk ?_
 cases H
 try dsimp only [Exit.inBlock,Exit.then]
 repeat rw [if_neg dc]
 refine CY [.ret] (C:=[.box h 4 [sb d.1],.box g 128 [sg d.2.1,sg d.2.2.1,si d.2.2.2.1],.box n 3 [si j]]) (R:=[]) (b.sp [1,2,3] []) ?_
 exact rfl
 rintro _ rfl
 refine ⟨_,_,_,rfl,λκ w a e b=>?_⟩
 refine bs H (λhb H=>?_) λhb H=>?_
 refine HL hb (K _ _ (qr λ_ U=>(jE (L':=[k2v g,k32 h,(16,.agg (flat [sg empty,sg empty,si 0]).toArray)]) 1 [4,5,16] e kr λa e=>wc (wst e b 2 0 3 (k0b empty) (sgN 3 jD) λa w e b=>wc (wst e b 1 0 1 [k3e] (sgN 1 jD) λa w e b=>(U _ _ (rt (CX (C':=[.box h 4 [k3e],.box g 128 (k0b empty),.box n 3 [si j]]) e b 0 rfl kr λw b=>?_))))))))
 cases H
 exact ⟨_,(tB results63 (rvs e b 1 0 3) (rvc e b 0 0 0)),⟨rfl,(b.pick [] kr).ro,b.newC [] dc kr⟩⟩
 refine bs H (λhb H=>?_) λhb H=>?_
 refine LF 0 hb rfl (rt (CX (C':=[.box h 4 [sb y.1],.box g 128 [sg y.2.1,sg y.2.2.1,si y.2.2.2.1],.box n 3 [si j]]) e b 0 rfl kr λw b=>?_))
 cases H
 exact ⟨_,(tB results63 (rvs e b 1 0 3) (rvc e b 0 0 0)),⟨rfl,(b.pick [] kr).ro,b.newC [] dc kr⟩⟩
 cases H
theorem E1 (N){V}{O}(aD:lG V O)(f:j5)(a6)(q)(G)(y)(A)(B)(C)(hR : ∀m∈([Ro.mp lC.ty y A f.Cuts,Ro.mp (fInt .i64).ty B C f.Nodes]:List MP),m.p V O){r}(H:M.vU N f a6 q G=some r) :
    Calls Tryz.prog 60 #[.agg (flat (k07 y f A B C)).toArray,vi a6,vi q,.string (G)] O (kP [] V O λv κ w => ∃W X Y Z,v = .tuple #[.agg (flat (k07 W r.1 X Y Z)).toArray,vi r.2]∧(∀m∈([Ro.mp lC.ty W X r.1.Cuts,Ro.mp (fInt .i64).ty Y Z r.1.Nodes]:List MP),m.p κ w)∧sJ O κ w [.tok W 9 1 r.1.Cuts.length X,.tok Y 3 1 r.1.Nodes.length Z]):=by
 have d:=SS.start aD hR
 refine en func60 rfl ntmps60 λa b=>?_
 unfold M.vU at H
 refine qr λ_ h9=>wc (wbx b d (k07 y f A B C) (sgN 2 jD) λe a w b d=>wc (wal b d k08 (sgN 2 jD) λu a w b d=>wp 1 [1,2,3,4,8] b λa b=>h9 _ _ (qs λ_ aE=>qr λ_ aF=>wc (wls b d 1 0 2 λa b=>wp 1 [2,3,4,8,14,15] b λa b=>bd H λbr av H=>wc (jR b d kr kr (xL N d.fresh f a6 y A B C ((d.pick [0,1] kr).ro) av) ?_)))))
 rintro _ κ w a ⟨rfl,hR,hN⟩ b d hO
 refine wp 1 [2,3,4,8,10] b λa b=>aF _ _ (qr λ_ aI=>wp 2 [2,3,4,8,10,18] b λa b=>aI _ _ (bc b H (λhb H=>?_) λhb H=>?_))
 refine qr λ_ aJ=>wp 2 [8,19,20] b λa b=>wc (wst b d 0 0 2 k08 (sgN 2 jD) λa w b d=>wp 1 [8,9] b λa b=>aJ _ _ (rt ?_))
 have hS':=d
 have d:=d.add (m:=Ro.mp lC.ty none 0 ([]:List ByteArray)) (Ro.nil lC.ty _ _)
 have d:=d.add (m:=Ro.mp (fInt .i64).ty none 0 ([]:List Int)) (Ro.nil (fInt .i64).ty _ _)
 have d:=d.addNil 9 1
 have d:=d.addNil 3 1
 cases H
 exact (j7 b d (tB results60 (rvs b hS' 0 0 2) (rvt b)) ⟨none,0,none,0,rfl,(d.pick [1,0] kr).ro,d.newC [1,0] dc kr⟩)
 refine sk (aE _ _ (qr λ_ aL=>wc (wls b d 1 0 2 λa b=>wp 1 [2,3,4,8,22,23] b λa b=>bd H λk aw H=>wc (jR b d kr kr (AO N d.fresh f q y A B C ((d.pick [0,1] kr).ro) aw) ?_))))
 rintro _ κ w a ⟨rfl,hR,hN⟩ b d hO
 refine wp 3 [2,3,4,8,25,26] b λa b=>wc (wal b d (k0b empty) (sgN 3 jD) λx a w b d=>wc (wst b d 0 0 3 (k09 k.1) (sgN 3 jD) λa w b d=>wp 1 [2,3,4,8,11,12] b λa b=>aL _ _ (qs λ_ aM=>qr λ_ aO=>wp 2 [2,3,4,8,11,28] b λa b=>aO _ _ (bc b H (λhb H=>?_) λhb H=>?_))))
 refine qr λ_ aP=>wp 1 [8,29] b λa b=>wc (wst b d 1 0 2 k08 (sgN 2 jD) λa w b d=>wp 1 [8,9] b λa b=>aP _ _ (rt ?_))
 have hS':=d
 have d:=d.add (m:=Ro.mp lC.ty none 0 ([]:List ByteArray)) (Ro.nil lC.ty _ _)
 have d:=d.add (m:=Ro.mp (fInt .i64).ty none 0 ([]:List Int)) (Ro.nil (fInt .i64).ty _ _)
 have d:=d.addNil 9 1
 have d:=d.addNil 3 1
 cases H
 exact (j7 b d (tB results60 (rvs b hS' 1 0 2) (rvt b)) ⟨none,0,none,0,rfl,(d.pick [1,0] kr).ro,d.newC [1,0] dc kr⟩)
 refine sk (aM _ _ (qs λ_ aQ=>qr λ_ aR=>bd H λaS s H=>k8 (λa w => ∃κ,Fr (89) [] [k36 q,(3,.string (G)),k2v e,k3f u,k3g x,(47,vb aS)] a∧SS [] V O κ w [.box x 128 [sg k.1.Lo,sg k.1.Hi,si k.1.Node],.box u 68 [sl none 0 0,sl none 0 0],.box e 68 [sl y f.Cuts.length A,sl B f.Nodes.length C]] [Ro.mp lC.ty none 0 ([]:List ByteArray),Ro.mp (fInt .i64).ty none 0 ([]:List Int),Ro.mp lC.ty y A f.Cuts,Ro.mp (fInt .i64).ty B C f.Nodes]∧True) ?_ ?_))
 refine wp 4 [2,3,4,8,11,33] b λa b=>bs s (λhb s=>?_) λhb s=>?_
 have b:=b.bv 33 hb
 refine wp 14 [2,3,4,8,11,47] b λa b=>nl ?_
 cases s
 have d:=d.add (m:=Ro.mp lC.ty none 0 ([]:List ByteArray)) (Ro.nil lC.ty _ _)
 have d:=d.add (m:=Ro.mp (fInt .i64).ty none 0 ([]:List Int)) (Ro.nil (fInt .i64).ty _ _)
 exact ⟨_,b.kp [2,3,4,8,11,47],d.sp [0,1,2] [1,0,2,3],ja⟩
 have b:=b.bv 33 hb
 refine wp 2 [2,3,4,8,11,33,34,35] b λa b=>wcg b (wld b d 0 0 0 λa b=>wp 3 [2,3,4,8,11,39] b λa b=>bs s (λhb s=>?_) λhb s=>?_)
 have b:=b.bv 39 hb
 refine wp 8 [2,3,4,8,11,47] b λa b=>nl ?_
 cases s
 have d:=d.add (m:=Ro.mp lC.ty none 0 ([]:List ByteArray)) (Ro.nil lC.ty _ _)
 have d:=d.add (m:=Ro.mp (fInt .i64).ty none 0 ([]:List Int)) (Ro.nil (fInt .i64).ty _ _)
 exact ⟨_,b.kp [2,3,4,8,11,47],d.sp [0,1,2] [1,0,2,3],ja⟩
 have b:=b.bv 39 hb
 refine wp 2 [2,3,4,8,11,39,40,41] b λa b=>wcg b (wld b d 0 0 0 λa b=>wp 1 [2,3,4,8,11,39,40,42,43] b λa b=>wcg b (wld b d 0 1 0 λa b=>bd s λbt ax s=>wcg b (jR b d kr kr (wJ N d.fresh G k.1.Lo k.1.Hi ((d.pick [] kr).ro) ax) ?_)))
 rintro _ κ w a ⟨rfl,hR,hN⟩ b d hO
 refine wp 2 [2,3,4,8,11,47] b λa b=>nl ?_
 cases s
 have d:=d.add (m:=Ro.mp lC.ty none 0 ([]:List ByteArray)) (Ro.nil lC.ty _ _)
 have d:=d.add (m:=Ro.mp (fInt .i64).ty none 0 ([]:List Int)) (Ro.nil (fInt .i64).ty _ _)
 exact ⟨_,b.kp [2,3,4,8,11,47],d.sp [0,1,2] [1,0,2,3],ja⟩
 rintro a w ⟨κ,b,d,-⟩
 refine aR _ _ (bc b H (λhb H=>?_) λhb H=>?_)
 refine qr λ_ aT=>wp 1 [8,48] b λa b=>wc (wst b d 1 0 2 k08 (sgN 2 jD) λa w b d=>wp 1 [8,9] b λa b=>aT _ _ (rt ?_))
 have hS':=d
 have d:=d.addNil 9 1
 have d:=d.addNil 3 1
 cases H
 exact (j7 b d (tB results60 (rvs b hS' 1 0 2) (rvt b)) ⟨none,0,none,0,rfl,(d.pick [0,1] kr).ro,d.newC [1,0] dc kr⟩)
 refine sk (aQ _ _ (qs λ_ aU=>qr λ_ aV=>wp 1 [2,3,4,8,11,49] b λa b=>wc (wld b d 2 1 0 λa b=>wp 2 [2,3,4,8,11,52] b λa b=>aV _ _ (bc b H (λhb H=>?_) λhb H=>?_))))
 refine qr λ_ aW=>wp 1 [8,53] b λa b=>wc (wst b d 1 0 2 k08 (sgN 2 jD) λa w b d=>wp 1 [8,9] b λa b=>aW _ _ (rt ?_))
 have hS':=d
 have d:=d.addNil 9 1
 have d:=d.addNil 3 1
 cases H
 exact (j7 b d (tB results60 (rvs b hS' 1 0 2) (rvt b)) ⟨none,0,none,0,rfl,(d.pick [0,1] kr).ro,d.newC [1,0] dc kr⟩)
 refine sk (aU _ _ (qr λ_ aX=>wp 1 [2,3,4,8,11,54] b λa b=>wc (wal b d k08 (sgN 2 jD) λn a w b d=>wc (wst b d 0 0 2 k08 (sgN 2 jD) λa w b d=>aX _ _ (qs λ_ aY=>bd H λI g H=>kL (λa w => ∃κ D F,Fr (89) [] [k36 q,k2v e,k3f u,k3g x,k3h n] a∧SS [] V O κ w [.box n 68 [sl D I.length F,sl none 0 0],.box x 128 [sg k.1.Lo,sg k.1.Hi,si k.1.Node],.box u 68 [sl none 0 0,sl none 0 0],.box e 68 [sl y f.Cuts.length A,sl B f.Nodes.length C],.tok D 9 1 I.length F] [Ro.mp lC.ty D F I,Ro.mp (fInt .i64).ty none 0 ([]:List Int),Ro.mp lC.ty none 0 ([]:List ByteArray),Ro.mp lC.ty y A f.Cuts,Ro.mp (fInt .i64).ty B C f.Nodes]∧True) ?_ ?_)))))
 refine rgS d [16] ?_
 have d:=d.drew
 have T:=d.fx
 refine bd g λaj ay g=>bd g λbu aa g=>bd g λbw ab g=>bd g λaZ az g=>bd g λak ad g=>jN [0,2,4,7,10,12] [2,4,8,11,13,55,57,59,62,65,67] (L':=[k36 q,k2v e,k3f u,k3g x,k3h n,(55,pt n 0),(57,pt e 0),(59,vi q),(62,.string (G)),(65,pt e 0),(67,vi q)]) (listed':=(mV 17 5269)) (fuel:=11) b T kr (by intro c a w t v h; cases t<;>exact h) kr rfl λa b=>atk 1 (some 56) b T rfl (vld 0 0 0) λa b=>?_
 refine atk 3 (some 58) b T rfl (vld 3 0 0) λa b=>?_
 obtain ⟨al,am,hvx39,hrx39⟩:=sF Tryz.prog lC.ty (L:=[k36 q,k2v e,k3f u,k3g x,k3h n,(55,pt n 0),(56,.slice none 0 0),(57,pt e 0),(58,.slice y f.Cuts.length A),(59,vi q),(62,.string (G)),(65,pt e 0),(67,vi q)]) (o:=⟨(some 60),(Go.Op.slice 66 (Go.Operand.tmp 58) none (some (Go.Operand.tmp 59)) none),66,"span.go:120",#[(Go.Edge.mk 3 Go.Ground.data),(Go.Edge.mk 4 Go.Ground.data)],none⟩) (E:=9) (lo:=0) (hi:=q) rfl (d.get 2 rfl:Ro lC.ty _ _ y A f.Cuts).1 rfl rfl rfl ⟨_,rfl⟩ ay kr kr
 have d:=d.add (m:=Ro.mp lC.ty al am aj) (hrx39 _ _ (d.get 2 rfl))
 refine atk 5 (some 60) b (d.sx (rg 4) (ra 1 4)) rfl (λw _=>hvx39 w) λa b=>atk 11 (some 66) b (d.sx (rg 4) (ra 1 4)) rfl (vld 3 0 0) λa b=>?_
 obtain ⟨a0,a2,hvx49,hrx49⟩:=sF Tryz.prog lC.ty (L:=[k36 q,k2v e,k3f u,k3g x,k3h n,(55,pt n 0),(56,.slice none 0 0),(57,pt e 0),(58,.slice y f.Cuts.length A),(59,vi q),(60,.slice al aj.length am),(62,.string (G)),(65,pt e 0),(66,.slice y f.Cuts.length A),(67,vi q)]) (o:=⟨(some 68),(Go.Op.slice 66 (Go.Operand.tmp 66) (some (Go.Operand.tmp 67)) none none),66,"span.go:120",#[(Go.Edge.mk 11 Go.Ground.data),(Go.Edge.mk 12 Go.Ground.data)],none⟩) (E:=9) (lo:=q) (hi:=(f.Cuts.length:Int)) rfl (d.get 3 rfl:Ro lC.ty _ _ y A f.Cuts).1 rfl rfl ⟨_,rfl⟩ rfl az kr kr
 have d:=d.add (m:=Ro.mp lC.ty a0 a2 aZ) (hrx49 _ _ (d.get 3 rfl))
 refine atk 13 (some 68) b (d.sx (rg 4) (ra 2 4)) rfl (λw _=>hvx49 w) λa b=>H2 6 8 b rfl rfl ?_ ?_
 have d:=d.addNil 9 1
 refine kJ (ty:=lC.ty) b d kr 0 2 1 rfl rfl rfl kr kr rfl rfl rfl aa kr (i:=Tryz.t9) (z := .string (empty)) kr kr kr λa3 a4 κ a w b d=>⟨λ_=>(d.sx (ra 1 4) (ra 3 4)),?_⟩
 refine ago 8 b rfl (oI (t:=lC) (z := .string (empty)) (l:=[G]) (vs:=[(0,.string (G))]) (cells := #[.string (G)]) (E:=9) b d kr rfl kr kr rfl kr kr kr kr kr λa5 κ a w b d=>⟨λ_=>(d.sx (ra 2 4) (ra 4 4)),?_⟩)
 refine ago 9 b rfl (kJ (ty:=lC.ty) b d kr 1 1 0 rfl rfl rfl kr kr rfl rfl rfl ab kr (i:=Tryz.t9) (z := .string (empty)) kr kr kr λa9 ba κ a w b d=>⟨λ_=>(d.sx (ra 2 4) (ra 5 4)),?_⟩)
 refine ago 14 b rfl (kJ (ty:=lC.ty) b d kr 1 0 3 rfl rfl rfl kr kr rfl rfl rfl ad kr (i:=Tryz.t9) (z := .string (empty)) kr kr kr λP Q κ a w b d=>⟨λ_=>(d.sx (ra 2 4) (ra 6 4)),?_⟩)
 refine anp [15] [2,4,8,11,13,69,70] b (d.sx (ra 2 4) (ra 6 4)) λa b=>ago 16 b rfl (wst b d 2 0 1 [sl P ak.length Q] (sgN 1 jD) λa w b d=>⟨notE,?_⟩)
 refine kN ?_
 cases g
 exact ⟨_,P,Q,b.kp [2,4,8,11,13],d.sp [2,3,4,5,1] [0,7,6,8,9],ja⟩
 refine oI (t:=lC) (z := .string (empty)) (l:=[G]) (vs:=[(0,.string (G))]) (cells := #[.string (G)]) (E:=9) b d kr rfl kr kr rfl kr kr kr kr kr λa5 κ a w b d=>⟨λ_=>(d.sx (ra 1 4) (ra 3 4)),?_⟩
 refine ago 6 b rfl ?_
 have d:=d.addNil 9 1
 refine kJ (ty:=lC.ty) b d kr 0 3 2 rfl rfl rfl kr kr rfl rfl rfl aa kr (i:=Tryz.t9) (z := .string (empty)) kr kr kr λa3 a4 κ a w b d=>⟨λ_=>(d.sx (ra 2 4) (ra 4 4)),?_⟩
 refine ago 9 b rfl (kJ (ty:=lC.ty) b d kr 0 0 1 rfl rfl rfl kr kr rfl rfl rfl ab kr (i:=Tryz.t9) (z := .string (empty)) kr kr kr λa9 ba κ a w b d=>⟨λ_=>(d.sx (ra 2 4) (ra 5 4)),?_⟩)
 refine ago 14 b rfl (kJ (ty:=lC.ty) b d kr 0 0 3 rfl rfl rfl kr kr rfl rfl rfl ad kr (i:=Tryz.t9) (z := .string (empty)) kr kr kr λP Q κ a w b d=>⟨λ_=>(d.sx (ra 2 4) (ra 6 4)),?_⟩)
 refine anp [15] [2,4,8,11,13,69,70] b (d.sx (ra 2 4) (ra 6 4)) λa b=>ago 16 b rfl (wst b d 2 0 1 [sl P ak.length Q] (sgN 1 jD) λa w b d=>⟨notE,?_⟩)
 refine kN ?_
 cases g
 exact ⟨_,P,Q,b.kp [2,4,8,11,13],d.sp [2,3,4,5,0] [0,7,6,8,9],ja⟩
 rintro a w ⟨κ,D,F,b,d,-⟩
 refine aY _ _ (qs λ_ be=>bd H λU j H=>kL (λa w => ∃κ J K,Fr (89) [] [k3f u,k3h n] a∧SS [] V O κ w [.box n 68 [sl D I.length F,sl J U.length K],.box u 68 [sl none 0 0,sl none 0 0],.tok J 3 1 U.length K,.tok D 9 1 I.length F] [Ro.mp lC.ty D F I,Ro.mp (fInt .i64).ty J K U,Ro.mp lC.ty none 0 ([]:List ByteArray),Ro.mp (fInt .i64).ty none 0 ([]:List Int)]∧True) ?_ ?_)
 refine rgS d [17] ?_
 have d:=d.drew
 have T:=d.fx
 refine bd j λan aA j=>bd j λbx ae j=>bd j λbz af j=>bd j λbf aB j=>bd j λao ah j=>jN [0,2,4,7,11,13] [8,13,71,73,75,78,82,84] (L':=[k3f u,k3h n,(71,pt n 1),(73,pt e 1),(75,vi q),(78,pt x 2),(82,pt e 1),(84,vi q)]) (listed':=(mV 18 10389)) (fuel:=12) b T kr (by intro c a w t v h; cases t<;>exact h) kr rfl λa b=>atk 1 (some 72) b T rfl (vld 0 1 0) λa b=>atk 3 (some 74) b T rfl (vld 3 1 0) λa b=>?_
 obtain ⟨aq,ar,hvx60,hrx60⟩:=sF Tryz.prog (fInt .i64).ty (L:=[k3f u,k3h n,(71,pt n 1),(72,.slice none 0 0),(73,pt e 1),k3i B f.Nodes.length C,(75,vi q),(78,pt x 2),(82,pt e 1),(84,vi q)]) (o:=⟨(some 76),(Go.Op.slice 29 (Go.Operand.tmp 74) none (some (Go.Operand.tmp 75)) none),29,"span.go:121",#[(Go.Edge.mk 3 Go.Ground.data),(Go.Edge.mk 4 Go.Ground.data)],none⟩) (E:=3) (lo:=0) (hi:=q) rfl (d.get 4 rfl:Ro (fInt .i64).ty _ _ B C f.Nodes).1 rfl rfl rfl ⟨_,rfl⟩ aA kr kr
 have d:=d.add (m:=Ro.mp (fInt .i64).ty aq ar an) (hrx60 _ _ (d.get 4 rfl))
 refine atk 5 (some 76) b (d.sx (rg 4) (ra 1 5)) rfl (λw _=>hvx60 w) λa b=>atk 8 (some 79) b (d.sx (rg 4) (ra 1 5)) rfl (vld 1 2 0) λa b=>atk 12 (some 83) b (d.sx (rg 4) (ra 1 5)) rfl (vld 3 1 0) λa b=>?_
 obtain ⟨bg,bh,hvx70,hrx70⟩:=sF Tryz.prog (fInt .i64).ty (L:=[k3f u,k3h n,(71,pt n 1),(72,.slice none 0 0),(73,pt e 1),k3i B f.Nodes.length C,(75,vi q),(76,.slice aq an.length ar),(78,pt x 2),(79,vi k.1.Node),(82,pt e 1),(83,.slice B f.Nodes.length C),(84,vi q)]) (o:=⟨(some 85),(Go.Op.slice 29 (Go.Operand.tmp 83) (some (Go.Operand.tmp 84)) none none),29,"span.go:121",#[(Go.Edge.mk 12 Go.Ground.data),(Go.Edge.mk 13 Go.Ground.data)],none⟩) (E:=3) (lo:=q) (hi:=(f.Nodes.length:Int)) rfl (d.get 5 rfl:Ro (fInt .i64).ty _ _ B C f.Nodes).1 rfl rfl ⟨_,rfl⟩ rfl aB kr kr
 have d:=d.add (m:=Ro.mp (fInt .i64).ty bg bh bf) (hrx70 _ _ (d.get 5 rfl))
 refine atk 14 (some 85) b (d.sx (rg 4) (ra 2 5)) rfl (λw _=>hvx70 w) λa b=>H2 6 9 b rfl rfl ?_ ?_
 have d:=d.addNil 3 1
 refine kJ (ty:=(fInt .i64).ty) b d kr 0 3 1 rfl rfl rfl kr kr rfl rfl rfl ae kr (i:=Tryz.t3) (z:=vi 0) kr kr kr λbi bj κ a w b d=>⟨λ_=>(d.sx (ra 1 4) (ra 3 5)),?_⟩
 refine ago 9 b rfl (oI (t:=(fInt .i64)) (z:=vi 0) (l:=[k.1.Node]) (vs:=[(0,vi k.1.Node)]) (cells := #[vi k.1.Node]) (E:=3) b d kr rfl kr kr rfl kr kr kr kr kr λbl κ a w b d=>⟨λ_=>(d.sx (ra 2 4) (ra 4 5)),?_⟩)
 refine ago 10 b rfl (kJ (ty:=(fInt .i64).ty) b d kr 1 1 0 rfl rfl rfl kr kr rfl rfl rfl af kr (i:=Tryz.t3) (z:=vi 0) kr kr kr λbm bn κ a w b d=>⟨λ_=>(d.sx (ra 2 4) (ra 5 5)),?_⟩)
 refine ago 15 b rfl (kJ (ty:=(fInt .i64).ty) b d kr 1 0 3 rfl rfl rfl kr kr rfl rfl rfl ah kr (i:=Tryz.t3) (z:=vi 0) kr kr kr λR S κ a w b d=>⟨λ_=>(d.sx (ra 2 4) (ra 6 5)),?_⟩)
 refine anp [16] [8,13,86,87] b (d.sx (ra 2 4) (ra 6 5)) λa b=>ago 17 b rfl (wst b d 2 1 1 [sl R ao.length S] (sgN 1 jD) λa w b d=>⟨notE,?_⟩)
 refine kN ?_
 cases j
 exact ⟨_,R,S,b.kp [8,13],d.sp [2,4,1,6] [6,0,8,7],ja⟩
 refine oI (t:=(fInt .i64)) (z:=vi 0) (l:=[k.1.Node]) (vs:=[(0,vi k.1.Node)]) (cells := #[vi k.1.Node]) (E:=3) b d kr rfl kr kr rfl kr kr kr kr kr λbl κ a w b d=>⟨λ_=>(d.sx (ra 1 4) (ra 3 5)),?_⟩
 refine ago 6 b rfl ?_
 have d:=d.addNil 3 1
 refine kJ (ty:=(fInt .i64).ty) b d kr 0 4 2 rfl rfl rfl kr kr rfl rfl rfl ae kr (i:=Tryz.t3) (z:=vi 0) kr kr kr λbi bj κ a w b d=>⟨λ_=>(d.sx (ra 2 4) (ra 4 5)),?_⟩
 refine ago 10 b rfl (kJ (ty:=(fInt .i64).ty) b d kr 0 0 1 rfl rfl rfl kr kr rfl rfl rfl af kr (i:=Tryz.t3) (z:=vi 0) kr kr kr λbm bn κ a w b d=>⟨λ_=>(d.sx (ra 2 4) (ra 5 5)),?_⟩)
 refine ago 15 b rfl (kJ (ty:=(fInt .i64).ty) b d kr 0 0 3 rfl rfl rfl kr kr rfl rfl rfl ah kr (i:=Tryz.t3) (z:=vi 0) kr kr kr λR S κ a w b d=>⟨λ_=>(d.sx (ra 2 4) (ra 6 5)),?_⟩)
 refine anp [16] [8,13,86,87] b (d.sx (ra 2 4) (ra 6 5)) λa b=>ago 17 b rfl (wst b d 2 1 1 [sl R ao.length S] (sgN 1 jD) λa w b d=>⟨notE,?_⟩)
 refine kN ?_
 cases j
 exact ⟨_,R,S,b.kp [8,13],d.sp [2,4,0,6] [6,0,8,7],ja⟩
 rintro a w ⟨κ,J,K,b,d,-⟩
 refine be _ _ (qr λ_ bo=>wc (wls b d 0 0 2 λa b=>wc (wst b d 1 0 2 [sl D I.length F,sl J U.length K] (sgN 2 jD) λa w b d=>wp 1 [8,9] b λa b=>bo _ _ (rt ?_))))
 have hS':=d
 cases H
 exact (j7 b d (tB results60 (rvs b hS' 1 0 2) (rvt b)) ⟨D,F,J,K,rfl,(d.pick [0,1] kr).ro,d.newC [3,2] dc kr⟩)
theorem E2 (N){R}{D}(am:lG R D)(f:j5)(a6)(e)(l)(n)(q)(s)(hR : ∀m∈([Ro.mp lC.ty l n f.Cuts,Ro.mp (fInt .i64).ty q s f.Nodes]:List MP),m.p R D){r}(H:M.vV N f a6 e=some r) :
    Calls Tryz.prog 61 #[.agg (flat (k07 l f n q s)).toArray,vi a6,vi e] D (kP [] R D λv κ w => ∃F G I J,v = .tuple #[.agg (flat (k07 F r.1 G I J)).toArray,vi r.2]∧(∀m∈([Ro.mp lC.ty F G r.1.Cuts,Ro.mp (fInt .i64).ty I J r.1.Nodes]:List MP),m.p κ w)∧sJ D κ w [.tok F 9 1 r.1.Cuts.length G,.tok I 3 1 r.1.Nodes.length J]):=by
 have d:=SS.start am hR
 refine en func61 rfl ntmps61 λa b=>?_
 unfold M.vV at H
 refine qr λ_ h8=>wc (wbx b d (k07 l f n q s) (sgN 2 jD) λg a w b d=>wc (wal b d k08 (sgN 2 jD) λk a w b d=>wp 1 [1,2,3,6] b λa b=>h8 _ _ (qs λ_ ao=>qr λ_ aq=>wc (wls b d 1 0 2 λa b=>wp 1 [2,3,6,10,11] b λa b=>bd H λaS ab H=>wc (jR b d kr kr (xL N d.fresh f a6 l n q s ((d.pick [0,1] kr).ro) ab) ?_)))))
 rintro _ κ w a ⟨rfl,hR,hN⟩ b d hO
 refine wp 1 [2,3,6,8] b λa b=>aq _ _ (qr λ_ ar=>wp 2 [2,3,6,8,14] b λa b=>ar _ _ (bc b H (λhb H=>?_) λhb H=>?_))
 refine qr λ_ au=>wp 2 [6,15,16] b λa b=>wc (wst b d 0 0 2 k08 (sgN 2 jD) λa w b d=>wp 1 [6,7] b λa b=>au _ _ (rt ?_))
 have hS':=d
 have d:=d.add (m:=Ro.mp lC.ty none 0 ([]:List ByteArray)) (Ro.nil lC.ty _ _)
 have d:=d.add (m:=Ro.mp (fInt .i64).ty none 0 ([]:List Int)) (Ro.nil (fInt .i64).ty _ _)
 have d:=d.addNil 9 1
 have d:=d.addNil 3 1
 cases H
 exact (j7 b d (tB results61 (rvs b hS' 0 0 2) (rvt b)) ⟨none,0,none,0,rfl,(d.pick [1,0] kr).ro,d.newC [1,0] dc kr⟩)
 refine sk (ao _ _ (qs λ_ av=>qr λ_ aw=>bd H λax u H=>k8 (λa w => ∃κ,Fr (70) [] [k36 e,k2u g,k2y k,(25,vb ax)] a∧SS [] R D κ w [.box k 68 [sl none 0 0,sl none 0 0],.box g 68 [sl l f.Cuts.length n,sl q f.Nodes.length s]] [Ro.mp lC.ty none 0 ([]:List ByteArray),Ro.mp (fInt .i64).ty none 0 ([]:List Int),Ro.mp lC.ty l n f.Cuts,Ro.mp (fInt .i64).ty q s f.Nodes]∧True) ?_ ?_))
 refine wp 3 [2,3,6,19] b λa b=>bs u (λhb u=>?_) λhb u=>?_
 have b:=b.bv 19 hb
 refine wp 6 [2,3,6,25] b λa b=>nl ?_
 cases u
 have d:=d.add (m:=Ro.mp lC.ty none 0 ([]:List ByteArray)) (Ro.nil lC.ty _ _)
 have d:=d.add (m:=Ro.mp (fInt .i64).ty none 0 ([]:List Int)) (Ro.nil (fInt .i64).ty _ _)
 exact ⟨_,b.kp [2,3,6,25],d.sp [0,1] [1,0,2,3],ja⟩
 have b:=b.bv 19 hb
 refine wp 2 [2,3,6,19,20,21] b λa b=>wcg b (wld b d 1 0 0 λa b=>wp 3 [2,3,6,25] b λa b=>nl ?_)
 cases u
 have d:=d.add (m:=Ro.mp lC.ty none 0 ([]:List ByteArray)) (Ro.nil lC.ty _ _)
 have d:=d.add (m:=Ro.mp (fInt .i64).ty none 0 ([]:List Int)) (Ro.nil (fInt .i64).ty _ _)
 exact ⟨_,b.kp [2,3,6,25],d.sp [0,1] [1,0,2,3],ja⟩
 rintro a w ⟨κ,b,d,-⟩
 refine aw _ _ (bc b H (λhb H=>?_) λhb H=>?_)
 refine qr λ_ ay=>wp 1 [6,26] b λa b=>wc (wst b d 0 0 2 k08 (sgN 2 jD) λa w b d=>wp 1 [6,7] b λa b=>ay _ _ (rt ?_))
 have hS':=d
 have d:=d.addNil 9 1
 have d:=d.addNil 3 1
 cases H
 exact (j7 b d (tB results61 (rvs b hS' 0 0 2) (rvt b)) ⟨none,0,none,0,rfl,(d.pick [0,1] kr).ro,d.newC [1,0] dc kr⟩)
 refine sk (av _ _ (qs λ_ az=>qs λ_ aA=>rgS d [] ?_))
 have d:=d.drew
 have x:=d.fx
 refine jN [0,2,5,7,8] [2,3,6,27,29,32,35] (L':=[k36 e,k2u g,k2y k,(27,pt g 1),(29,vi e),(32,pt g 1),(35,vi (i64.wrap (e+1)))]) (listed':=(mV 12 421)) (fuel:=7) b x kr (by intro c a w t v h; cases t<;>exact h) kr rfl λa b=>atk 1 (some 28) b x rfl (vld 1 1 0) λa b=>bd H λaB y H=>?_
 obtain ⟨aT,aU,B⟩:=d.ptr 3 rfl y
 refine atk 3 (some 30) b (d.sx [0,1] (rg 4)) rfl (λw _=>mP (E:=3) (sz:=1) rfl B rfl kr rfl y kr kr w) λa b=>atk 4 (some 31) b (d.sx [0,1] (rg 4)) rfl (qO (t:=(fInt .i64)) 3 0 (v:=vi aB) rfl rfl B rfl y kr kr kr) λa b=>atk 6 (some 33) b (d.sx [0,1] (rg 4)) rfl (vld 1 1 0) λa b=>bd H λaD A H=>?_
 obtain ⟨aV,aW,C⟩:=d.ptr 3 rfl A
 refine atk 9 (some 36) b (d.sx [0,1] (rg 4)) rfl (λw _=>mP (E:=3) (sz:=1) rfl C rfl kr rfl A kr kr w) λa b=>atk 10 (some 37) b (d.sx [0,1] (rg 4)) rfl (qO (t:=(fInt .i64)) 3 0 (v:=vi aD) rfl rfl C rfl A kr kr kr) λa b=>anp [11] [2,3,6,38] b (d.sx [0,1] (rg 4)) λa b=>kN (aA _ _ (bc b H (λhb H=>?_) λhb H=>?_))
 refine qr λ_ aE=>wp 1 [6,39] b λa b=>wc (wst b d 0 0 2 k08 (sgN 2 jD) λa w b d=>wp 1 [6,7] b λa b=>aE _ _ (rt ?_))
 have hS':=d
 have d:=d.addNil 9 1
 have d:=d.addNil 3 1
 cases H
 exact (j7 b d (tB results61 (rvs b hS' 0 0 2) (rvt b)) ⟨none,0,none,0,rfl,(d.pick [0,1] kr).ro,d.newC [1,0] dc kr⟩)
 refine sk (az _ _ (qr λ_ aF=>wp 1 [2,3,6,40] b λa b=>wc (wal b d k08 (sgN 2 jD) λj a w b d=>wc (wst b d 0 0 2 k08 (sgN 2 jD) λa w b d=>aF _ _ (qs λ_ aG=>rgS d [14] ?_)))))
 have d:=d.drew
 have x:=d.fx
 refine bd H λS ad H=>bd H λaX ae H=>bd H λaH af H=>bd H λT ah H=>jN [0,2,4,7,9,10] [2,3,6,9,41,43,45,48,51] (L':=[k36 e,k2u g,k2y k,(9,pt j 0),(41,pt j 0),(43,pt g 0),(45,vi e),(48,pt g 0),(51,vi (i64.wrap (e+1)))]) (listed':=(mV 15 1685)) (fuel:=9) b x kr (by intro c a w t v h; cases t<;>exact h) kr rfl λa b=>atk 1 (some 42) b x rfl (vld 0 0 0) λa b=>atk 3 (some 44) b x rfl (vld 2 0 0) λa b=>?_
 obtain ⟨U,V,hvx33,hrx33⟩:=sF Tryz.prog lC.ty (L:=[k36 e,k2u g,k2y k,(9,pt j 0),(41,pt j 0),(42,.slice none 0 0),(43,pt g 0),(44,.slice l f.Cuts.length n),(45,vi e),(48,pt g 0),(51,vi (i64.wrap (e+1)))]) (o:=⟨(some 46),(Go.Op.slice 66 (Go.Operand.tmp 44) none (some (Go.Operand.tmp 45)) none),66,"span.go:137",#[(Go.Edge.mk 3 Go.Ground.data),(Go.Edge.mk 4 Go.Ground.data)],none⟩) (E:=9) (lo:=0) (hi:=e) rfl (d.get 2 rfl:Ro lC.ty _ _ l n f.Cuts).1 rfl rfl rfl ⟨_,rfl⟩ ad kr kr
 have d:=d.add (m:=Ro.mp lC.ty U V S) (hrx33 _ _ (d.get 2 rfl))
 refine atk 5 (some 46) b (d.sx [0,1,2] (ra 1 4)) rfl (λw _=>hvx33 w) λa b=>atk 8 (some 49) b (d.sx [0,1,2] (ra 1 4)) rfl (vld 2 0 0) λa b=>?_
 obtain ⟨aI,aJ,hvx39,hrx39⟩:=sF Tryz.prog lC.ty (L:=[k36 e,k2u g,k2y k,(9,pt j 0),(41,pt j 0),(42,.slice none 0 0),(43,pt g 0),(44,.slice l f.Cuts.length n),(45,vi e),(46,.slice U S.length V),(48,pt g 0),(49,.slice l f.Cuts.length n),(51,vi (i64.wrap (e+1)))]) (o:=⟨(some 52),(Go.Op.slice 66 (Go.Operand.tmp 49) (some (Go.Operand.tmp 51)) none none),66,"span.go:137",#[(Go.Edge.mk 8 Go.Ground.data),(Go.Edge.mk 10 Go.Ground.data)],none⟩) (E:=9) (lo:=i64.wrap (e+1)) (hi:=(f.Cuts.length:Int)) rfl (d.get 3 rfl:Ro lC.ty _ _ l n f.Cuts).1 rfl rfl ⟨_,rfl⟩ rfl af kr kr
 have d:=d.add (m:=Ro.mp lC.ty aI aJ aH) (hrx39 _ _ (d.get 3 rfl))
 refine atk 11 (some 52) b (d.sx [0,1,2] (ra 2 4)) rfl (λw _=>hvx39 w) λa b=>ago 6 b rfl ?_
 have d:=d.addNil 9 1
 refine kJ (ty:=lC.ty) b d kr 0 2 1 rfl rfl rfl kr kr rfl rfl rfl ae kr (i:=Tryz.t9) (z := .string (empty)) kr kr kr λaY aZ κ a w b d=>⟨λ_=>(d.sx [1,2,3] (ra 3 4)),?_⟩
 refine ago 12 b rfl (kJ (ty:=lC.ty) b d kr 0 0 1 rfl rfl rfl kr kr rfl rfl rfl ah kr (i:=Tryz.t9) (z := .string (empty)) kr kr kr λK O κ a w b d=>⟨λ_=>(d.sx [1,2,3] (ra 4 4)),?_⟩)
 refine anp [13] [2,3,6,9,53,54] b (d.sx [1,2,3] (ra 4 4)) λa b=>ago 14 b rfl (wst b d 1 0 1 [sl K T.length O] (sgN 1 jD) λa w b d=>⟨notE,?_⟩)
 refine kN (aG _ _ (qs λ_ aL=>rgS d [14] ?_))
 have d:=d.drew
 have x:=d.fx
 refine bd H λW ai H=>bd H λa0 aj H=>bd H λaM ak H=>bd H λX al H=>jN [0,2,4,7,9,10] [6,9,55,57,59,62,65] (L':=[k2y k,(9,pt j 0),(55,pt j 1),(57,pt g 1),(59,vi e),(62,pt g 1),(65,vi (i64.wrap (e+1)))]) (listed':=(mV 15 1685)) (fuel:=9) b x kr (by intro c a w t v h; cases t<;>exact h) kr rfl λa b=>atk 1 (some 56) b x rfl (vld 0 1 0) λa b=>atk 3 (some 58) b x rfl (vld 2 1 0) λa b=>?_
 obtain ⟨Y,Z,hvx46,hrx46⟩:=sF Tryz.prog (fInt .i64).ty (L:=[k2y k,(9,pt j 0),(55,pt j 1),(56,.slice none 0 0),(57,pt g 1),(58,.slice q f.Nodes.length s),(59,vi e),(62,pt g 1),(65,vi (i64.wrap (e+1)))]) (o:=⟨(some 60),(Go.Op.slice 29 (Go.Operand.tmp 58) none (some (Go.Operand.tmp 59)) none),29,"span.go:138",#[(Go.Edge.mk 3 Go.Ground.data),(Go.Edge.mk 4 Go.Ground.data)],none⟩) (E:=3) (lo:=0) (hi:=e) rfl (d.get 7 rfl:Ro (fInt .i64).ty _ _ q s f.Nodes).1 rfl rfl rfl ⟨_,rfl⟩ ai kr kr
 have d:=d.add (m:=Ro.mp (fInt .i64).ty Y Z W) (hrx46 _ _ (d.get 7 rfl))
 refine atk 5 (some 60) b (d.sx [1,2,3] (ra 1 8)) rfl (λw _=>hvx46 w) λa b=>atk 8 (some 63) b (d.sx [1,2,3] (ra 1 8)) rfl (vld 2 1 0) λa b=>?_
 obtain ⟨aO,aP,hvx52,hrx52⟩:=sF Tryz.prog (fInt .i64).ty (L:=[k2y k,(9,pt j 0),(55,pt j 1),(56,.slice none 0 0),(57,pt g 1),(58,.slice q f.Nodes.length s),(59,vi e),(60,.slice Y W.length Z),(62,pt g 1),(63,.slice q f.Nodes.length s),(65,vi (i64.wrap (e+1)))]) (o:=⟨(some 66),(Go.Op.slice 29 (Go.Operand.tmp 63) (some (Go.Operand.tmp 65)) none none),29,"span.go:138",#[(Go.Edge.mk 8 Go.Ground.data),(Go.Edge.mk 10 Go.Ground.data)],none⟩) (E:=3) (lo:=i64.wrap (e+1)) (hi:=(f.Nodes.length:Int)) rfl (d.get 8 rfl:Ro (fInt .i64).ty _ _ q s f.Nodes).1 rfl rfl ⟨_,rfl⟩ rfl ak kr kr
 have d:=d.add (m:=Ro.mp (fInt .i64).ty aO aP aM) (hrx52 _ _ (d.get 8 rfl))
 refine atk 11 (some 66) b (d.sx [1,2,3] (ra 2 8)) rfl (λw _=>hvx52 w) λa b=>ago 6 b rfl ?_
 have d:=d.addNil 3 1
 refine kJ (ty:=(fInt .i64).ty) b d kr 0 7 1 rfl rfl rfl kr kr rfl rfl rfl aj kr (i:=Tryz.t3) (z:=vi 0) kr kr kr λa2 a3 κ a w b d=>⟨λ_=>(d.sx [2,3,4] (ra 3 8)),?_⟩
 refine ago 12 b rfl (kJ (ty:=(fInt .i64).ty) b d kr 0 0 1 rfl rfl rfl kr kr rfl rfl rfl al kr (i:=Tryz.t3) (z:=vi 0) kr kr kr λP Q κ a w b d=>⟨λ_=>(d.sx [2,3,4] (ra 4 8)),?_⟩)
 refine anp [13] [6,9,67,68] b (d.sx [2,3,4] (ra 4 8)) λa b=>ago 14 b rfl (wst b d 2 1 1 [sl P X.length Q] (sgN 1 jD) λa w b d=>⟨notE,?_⟩)
 refine kN (aL _ _ (qr λ_ aQ=>wc (wls b d 2 0 2 λa b=>wc (wst b d 3 0 2 [sl K T.length O,sl P X.length Q] (sgN 2 jD) λa w b d=>wp 1 [6,7] b λa b=>aQ _ _ (rt ?_)))))
 have hS':=d
 cases H
 exact (j7 b d (tB results61 (rvs b hS' 3 0 2) (rvt b)) ⟨K,O,P,Q,rfl,(d.pick [4,0] kr).ro,d.newC [1,0] dc kr⟩)
theorem y8 (N){G}{C}(V:lG G C)(d:j5)(R)(l)(e)(n)(o)(j)(k)(S : ∀m∈([Ro.mp lC.ty n o d.Cuts,Ro.mp (fInt .i64).ty j k d.Nodes]:List MP),m.p G C){r}(H:M.vP N d R l e=some r) :
    Calls Tryz.prog 62 #[.agg (flat (k07 n d o j k)).toArray,vi R,vi l,vi e] C (kP [] G C λv κ w => ∃I J K L,v = .tuple #[.agg (flat (k07 I r.1 J K L)).toArray,vi r.2]∧(∀m∈([Ro.mp lC.ty I J r.1.Cuts,Ro.mp (fInt .i64).ty K L r.1.Nodes]:List MP),m.p κ w)∧sJ C κ w [.tok I 9 1 r.1.Cuts.length J,.tok K 3 1 r.1.Nodes.length L]):=by
 have c:=SS.start V S
 refine en func62 rfl ntmps62 λa b=>?_
 unfold M.vP at H
 refine qr λ_ h9=>wc (wbx b c (k07 n d o j k) (sgN 2 jD) λq a w b c=>wc (wal b c k08 (sgN 2 jD) λf a w b c=>wp 1 [1,2,3,4,8] b λa b=>h9 _ _ (qs λ_ ab=>qr λ_ ad=>wc (wls b c 1 0 2 λa b=>wp 1 [1,2,3,4,8,12,13] b λa b=>bd H λaF X H=>wc (jR b c kr kr (xL N c.fresh d R n o j k ((c.pick [0,1] kr).ro) X) ?_)))))
 rintro _ κ w a ⟨rfl,S,T⟩ b c hO
 refine wp 1 [1,2,3,4,8,10] b λa b=>ad _ _ (qr λ_ af=>wp 2 [1,2,3,4,8,10,16] b λa b=>af _ _ (bc b H (λhb H=>?_) λhb H=>?_))
 refine qr λ_ ah=>wp 2 [8,17,18] b λa b=>wc (wst b c 0 0 2 k08 (sgN 2 jD) λa w b c=>wp 1 [8,9] b λa b=>ah _ _ (rt ?_))
 have hS':=c
 have c:=c.add (m:=Ro.mp lC.ty none 0 ([]:List ByteArray)) (Ro.nil lC.ty _ _)
 have c:=c.add (m:=Ro.mp (fInt .i64).ty none 0 ([]:List Int)) (Ro.nil (fInt .i64).ty _ _)
 have c:=c.addNil 9 1
 have c:=c.addNil 3 1
 cases H
 exact (j7 b c (tB results62 (rvs b hS' 0 0 2) (rvt b)) ⟨none,0,none,0,rfl,(c.pick [1,0] kr).ro,c.newC [1,0] dc kr⟩)
 refine sk (ab _ _ (qs λ_ ai=>qr λ_ aj=>bd H λak s H=>k8 (λa w => ∃κ,Fr (53) [] [k2z R,k36 l,(3,vi e),k2v q,k3f f,(27,vb ak)] a∧SS [] G C κ w [.box f 68 [sl none 0 0,sl none 0 0],.box q 68 [sl n d.Cuts.length o,sl j d.Nodes.length k]] [Ro.mp lC.ty none 0 ([]:List ByteArray),Ro.mp (fInt .i64).ty none 0 ([]:List Int),Ro.mp lC.ty n o d.Cuts,Ro.mp (fInt .i64).ty j k d.Nodes]∧True) ?_ ?_))
 refine wp 3 [1,2,3,4,8,21] b λa b=>bs s (λhb s=>?_) λhb s=>?_
 have b:=b.bv 21 hb
 refine wp 6 [1,2,3,4,8,27] b λa b=>nl ?_
 cases s
 have c:=c.add (m:=Ro.mp lC.ty none 0 ([]:List ByteArray)) (Ro.nil lC.ty _ _)
 have c:=c.add (m:=Ro.mp (fInt .i64).ty none 0 ([]:List Int)) (Ro.nil (fInt .i64).ty _ _)
 exact ⟨_,b.kp [1,2,3,4,8,27],c.sp [0,1] [1,0,2,3],ja⟩
 have b:=b.bv 21 hb
 refine wp 2 [1,2,3,4,8,21,22,23] b λa b=>wcg b (wld b c 1 1 0 λa b=>wp 3 [1,2,3,4,8,27] b λa b=>nl ?_)
 cases s
 have c:=c.add (m:=Ro.mp lC.ty none 0 ([]:List ByteArray)) (Ro.nil lC.ty _ _)
 have c:=c.add (m:=Ro.mp (fInt .i64).ty none 0 ([]:List Int)) (Ro.nil (fInt .i64).ty _ _)
 exact ⟨_,b.kp [1,2,3,4,8,27],c.sp [0,1] [1,0,2,3],ja⟩
 rintro a w ⟨κ,b,c,-⟩
 refine aj _ _ (bc b H (λhb H=>?_) λhb H=>?_)
 refine qr λ_ al=>wp 1 [8,28] b λa b=>wc (wst b c 0 0 2 k08 (sgN 2 jD) λa w b c=>wp 1 [8,9] b λa b=>al _ _ (rt ?_))
 have hS':=c
 have c:=c.addNil 9 1
 have c:=c.addNil 3 1
 cases H
 exact (j7 b c (tB results62 (rvs b hS' 0 0 2) (rvt b)) ⟨none,0,none,0,rfl,(c.pick [0,1] kr).ro,c.newC [1,0] dc kr⟩)
 refine sk (ai _ _ (qs λ_ am=>qr λ_ an=>bd H λao u H=>k8 (λa w => ∃κ,Fr (53) [] [k36 l,(3,vi e),k2v q,k3f f,(35,vb ao)] a∧SS [] G C κ w [.box f 68 [sl none 0 0,sl none 0 0],.box q 68 [sl n d.Cuts.length o,sl j d.Nodes.length k]] [Ro.mp lC.ty none 0 ([]:List ByteArray),Ro.mp (fInt .i64).ty none 0 ([]:List Int),Ro.mp lC.ty n o d.Cuts,Ro.mp (fInt .i64).ty j k d.Nodes]∧True) ?_ ?_))
 refine wp 3 [1,2,3,4,8,31] b λa b=>bs u (λhb u=>?_) λhb u=>?_
 have b:=b.bv 31 hb
 refine wp 4 [2,3,4,8,35] b λa b=>nl ?_
 cases u
 exact ⟨_,b.kp [2,3,4,8,35],c.sp [0,1] (rg 4),ja⟩
 have b:=b.bv 31 hb
 refine wp 4 [2,3,4,8,35] b λa b=>nl ?_
 cases u
 exact ⟨_,b.kp [2,3,4,8,35],c.sp [0,1] (rg 4),ja⟩
 rintro a w ⟨κ,b,c,-⟩
 refine an _ _ (bc b H (λhb H=>?_) λhb H=>?_)
 refine qr λ_ aq=>wp 1 [8,36] b λa b=>wc (wst b c 0 0 2 k08 (sgN 2 jD) λa w b c=>wp 1 [8,9] b λa b=>aq _ _ (rt ?_))
 have hS':=c
 have c:=c.addNil 9 1
 have c:=c.addNil 3 1
 cases H
 exact (j7 b c (tB results62 (rvs b hS' 0 0 2) (rvt b)) ⟨none,0,none,0,rfl,(c.pick [0,1] kr).ro,c.newC [1,0] dc kr⟩)
 refine sk (am _ _ (qs λ_ ar=>qr λ_ au=>(wp 1 [2,3,4,8,37] b λa b=>wc (wld b c 1 1 0 λa b=>jE (L':=[k36 l,(3,vi e),k2v q,k3f f,(38,.slice j d.Nodes.length k),(39,vi l)]) 1 [2,3,4,8,38,39] b kr λa b=>bd H λW O H=>wc (kR b c kr 3 (E:=3) (sz:=1) rfl rfl rfl kr rfl O kr kr λaG aH a U b=>wc (mH (t:=(fInt .i64)) b c kr 3 0 (v:=vi W) rfl rfl U rfl O kr kr kr λa b=>jE (L':=[k36 l,(3,vi e),k2v q,k3f f,(43,vb (W==e))]) 2 [2,3,4,8,43] b kr λa b=>?_))))))
 refine au _ _ (bc b H (λhb H=>?_) λhb H=>?_)
 refine qr λ_ av=>wp 1 [8,44] b λa b=>wc (wst b c 0 0 2 k08 (sgN 2 jD) λa w b c=>wp 1 [8,9] b λa b=>av _ _ (rt ?_))
 have hS':=c
 have c:=c.addNil 9 1
 have c:=c.addNil 3 1
 cases H
 exact (j7 b c (tB results62 (rvs b hS' 0 0 2) (rvt b)) ⟨none,0,none,0,rfl,(c.pick [0,1] kr).ro,c.newC [1,0] dc kr⟩)
 refine sk (ar _ _ (qr λ_ aw=>wc (wls b c 1 0 2 λa b=>NK c λκ39 D hR39 Y Z aE c=>?_)))
 have hsi:=c.get 0 rfl
 refine bd H λx aa H=>wc (jR b c kr kr (FP N c.fresh d n o j k ((c.pick [3,4] kr).ro) aa) ?_)
 rintro _ κ w a ⟨h,B,g,A,rfl,S,T⟩ b c hO
 have c:=c.adds S
 have c:=c.add (m:=MP.old h D) (MP.oldC hsi T (List.mem_of_getElem? (i:=0) rfl))
 have c:=c.add (m:=MP.old g D) (MP.oldC hsi T (List.mem_of_getElem? (i:=1) rfl))
 have c:=c.addC hO T
 refine wc (wal b c k08 (sgN 2 jD) λP a w b c=>wc (wst b c 0 0 2 (k07 h x B g A) (sgN 2 jD) λa w b c=>(aw _ _ (qr λ_ ax=>(wp 1 [2,3,8,11,47] b λa b=>wc (wld b c 0 1 0 λa b=>jE (L':=[k3f f,k3g P,(48,.slice g x.Nodes.length A),(49,vi l),(50,vi e)]) 2 [8,11,48,49,50] b kr λa b=>bd H λay Q H=>wc (kR b c kr 3 (E:=3) (sz:=1) rfl rfl rfl kr rfl Q kr kr λaz aA a F b=>wc (DE (t:=(fInt .i64)) (y:=ay) (z:=e) (v:=vi e) (vs:=(flat [si e])) (sz:=1) b c V Y Z hR39 kr 2 3 4 0 0 rfl rfl kr rfl rfl rfl F Q rfl kr kr rfl (show mK [si e] from (sgN 1 jD)).2 rfl dc rfl rfl (nfC nfB (nfC nfT (nfC nfT (nfC nfB (nfC nfB nfN))))) (rg 4) [0,1,2] (Ra:=[Ro.mp lC.ty none 0 ([]:List ByteArray),Ro.mp (fInt .i64).ty none 0 ([]:List Int),Ro.mp lC.ty n o d.Cuts,Ro.mp (fInt .i64).ty j k d.Nodes]) (Rb:=[MP.old g D,MP.old h D,Ro.mp lC.ty h B x.Cuts]) rfl rfl (aK (aK (aC (KM (c.tokApart 2 1 F rfl rfl dc)) aN))) (Cf:=(λnn=>[.box P 68 [sl h x.Cuts.length B,sl g nn A],.tok h 9 1 x.Cuts.length B,.tok g 3 1 nn A,.box f 68 [sl none 0 0,sl none 0 0],.box q 68 [sl n d.Cuts.length o,sl j d.Nodes.length k]])) (Lf:=(λnn=>[(8,pt f 0),(11,pt P 0),(48,.slice g nn A),(49,vi l),(50,vi e),(51,.pointer (some ⟨az,(aA+toNat l*1),none⟩))])) [8,11,48,49,50,51] rfl kr λa w b c=>?_))))))))
 refine ax _ _ (qr λ_ aB=>wc (wls b c 0 0 2 λa b=>wc (wst b c 3 0 2 [sl h x.Cuts.length B,sl g ((set x.Nodes (toNat l) e)).length A] (sgN 2 jD) λa w b c=>wp 1 [8,9] b λa b=>aB _ _ (rt ?_))))
 have hS':=c
 cases H
 exact (j7 b c (tB results62 (rvs b hS' 3 0 2) (rvt b)) ⟨h,B,g,A,rfl,(c.pick [8,0] kr).ro,c.newC [1,2] dc kr⟩)
end Go.Cf
