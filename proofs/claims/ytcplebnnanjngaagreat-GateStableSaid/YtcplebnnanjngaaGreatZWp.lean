/- The walks: each function returns what its model says. Printed by a program of ours. -/
import Derived.Test.YtcplebnnanjngaaGreatZSh
import Derived.Test.YtcplebnnanjngaaGreatZM1
namespace Go.Cf
open Go Go.Proofs
open _root_.Int(toNat tdiv tmod)
open _root_.List(set replicate)
open _root_.ByteArray(empty)
open Go.IntKind(i64 u64)
set_option linter.unusedVariables false
set_option maxRecDepth 20000
set_option maxHeartbeats 8000000
theorem uV (N){d}{c}(f:lL d c)(g)(h)(i : ∀m∈([]:List MP),m.p d c){r}(H:M.oY N g h=some r) :
    Calls Tryz.prog 45 #[vi g,vi h] c (kQ [] d c λv κ w=>v=vi r∧(∀m∈([]:List MP),m.p κ w)∧t5 c κ w []):=by
 have e:=SS.start f i
 refine en Tryz.func45 rfl Tryz.ntmps45 λa b=>?_
 unfold M.oY at H
 refine qr λ_ j=>wp 1 [0,1] b λa b=>j _ _ (qr λ_ k=>wp 7 [4] b λa b=>k _ _ (rt ?_))
 cases H
 exact (j7 b e (l3 Tryz.results45 (rvt b)) ⟨rfl,(e.pick [] kr).ro,e.newC [] dc kr⟩)
theorem w9 (N){f}{e}(g:lL f e)(h)(i)(j)(k : ∀m∈([]:List MP),m.p f e){r}(H:M.sN N h i j=some r) :
    Calls Tryz.prog 101 #[.string (h),.string (i),.string (j)] e (kQ [] f e λv κ w=>v=vb r∧(∀m∈([]:List MP),m.p κ w)∧t5 e κ w []):=by
 have d:=SS.start g k
 refine en Tryz.func101 rfl Tryz.ntmps101 λa b=>?_
 unfold M.sN at H
 refine qr λ_ l=>wp 1 [0,1,2] b λa b=>l _ _ (qr λ_ n=>bd H λo c H=>kA (λa w => ∃κ:Gh,Fr (19) [] [(6,vb o)] a∧SS [] f e κ w [] []∧True) ?_ ?_)
 refine wp 4 [0,2,10] b λa b=>bs c (λhb c=>?_) λhb c=>?_
 have b:=b.bv 10 hb
 refine wp 3 [0,2,10,13] b λa b=>bs c (λhb c=>?_) λhb c=>?_
 have b:=b.bv 13 hb
 refine wp 6 [6] b λa b=>nl ?_
 cases c
 exact ⟨_,b.kp [6],d.sp [] [],trivial⟩
 have b:=b.bv 13 hb
 refine wp 6 [6] b λa b=>nl ?_
 cases c
 exact ⟨_,b.kp [6],d.sp [] [],trivial⟩
 have b:=b.bv 10 hb
 refine wp 9 [6] b λa b=>nl ?_
 cases c
 exact ⟨_,b.kp [6],d.sp [] [],trivial⟩
 rintro a w ⟨κ,b,d,-⟩
 refine n _ _ (rt ?_)
 cases H
 exact (j7 b d (l3 Tryz.results101 (rvt b)) ⟨rfl,(d.pick [] kr).ro,d.newC [] dc kr⟩)
theorem zM (N){f}{e}(k:lL f e)(d)(o : ∀m∈([]:List MP),m.p f e){r}(H:M.uE N d=some r) :
    Calls Tryz.prog 25 #[vi d] e (kQ [] f e λv κ w => ∃g h i j,v = .agg (flat (k04 g (r.Cuts).length h i (r.Nodes).length j)).toArray∧(∀m∈([Ro.mp lB.ty g h r.Cuts,Ro.mp (fInt .i64).ty i j r.Nodes]:List MP),m.p κ w)∧t5 e κ w [.tok g 9 1 (r.Cuts).length h,.tok i 3 1 (r.Nodes).length j]):=by
 have b:=SS.start k o
 refine en Tryz.func25 rfl Tryz.ntmps25 λa c=>?_
 unfold M.uE at H
 refine qs λ_ hz=>rl (wc (wal c b k05 (sgN 2 jE) λq a w c b=>nl (hz _ _ (qr λ_ s=>(jG (L':=[k28 q,(3,vi d)]) 1 [2,3] c kr λa c=>wc (oU (t:=(fInt .i64)) (z:=vi 0) (l:=[d]) (vs:=[(0,vi d)]) (cells := #[vi d]) (E:=3) c b kr rfl kr kr rfl kr kr kr kr kr λn κ a w c b=>wp 1 [2,5] c λa c=>wc (wst c b 1 0 2 [k2j,sl n ([d]).length 1] (sgN 2 jE) λa w c b=>s _ _ (rt ?_))))))))
 have hS':=b
 have b:=b.add (m:=Ro.mp lB.ty none 0 ([]:List ByteArray)) (Ro.nil lB.ty _ _)
 have b:=b.addNil 9 1
 cases H
 exact (j7 c b (l3 Tryz.results25 (rvs c hS' 1 0 2)) ⟨none,0,n,1,rfl,(b.pick [0,1] kr).ro,b.newC [0,1] dc kr⟩)
theorem EU (N){o}{i}(y:lL o i)(c:jA)(j)(g)(h)(u)(x)(J : ∀m∈([Ro.mp lB.ty g h c.Cuts,Ro.mp (fInt .i64).ty u x c.Nodes]:List MP),m.p o i){r}(H:M.xV N c j=some r) :
    Calls Tryz.prog 117 #[.agg (flat (k04 g (c.Cuts).length h u (c.Nodes).length x)).toArray,.string (j)] i (kQ [] o i λv κ w=>v=vi r∧(∀m∈([]:List MP),m.p κ w)∧t5 i κ w []):=by
 have d:=SS.start y J
 refine en Tryz.func117 rfl Tryz.ntmps117 λa b=>?_
 unfold M.xV at H
 refine qr λ_ K=>(wc (wbx b d (k04 g (c.Cuts).length h u (c.Nodes).length x) (sgN 2 jE) λQ a w b d=>wp 1 [1,2] b λa b=>(K _ _ (qr λ_ L=>(wp 1 [1,2,5] b λa b=>(L _ _ (qs λ_ z=>qr λ_ A=>(wp 1 [1,5,8] b λa b=>wc (wld b d 0 0 0 λa b=>wp 2 [1,5,9,10,11] b λa b=>(A _ _ (bk (jX (n:=N) (λn a w => ∃κ f e,Fr (22) [] [(1,.string (j)),(5,vi f),(9,.slice g (c.Cuts).length h),k2b ((c.Cuts).length:Int),(11,vi e)] a∧SS [] o i κ w [] [Ro.mp lB.ty g h c.Cuts]∧M.pX N n c j f e=some r) ?_ ?_))))))))))))
 exact ⟨_,0,0,b.kp [1,5,9,10,11],d.sp [] [0],H⟩
 rintro n a w ⟨κ,f,e,b,d,H⟩
 rcases n with _|k
 simp [M.pX] at H
 simp only [M.pX] at H
 refine qr λ_ B=>(jG (L':=[(1,.string (j)),(5,vi f),(9,.slice g (c.Cuts).length h),k2b ((c.Cuts).length:Int),(11,vi e),(12,vb (decide (e<((c.Cuts).length:Int))))]) 1 [1,5,9,10,11,12] b kr λa b=>B _ _ (qs λ_ C=>bc b H (λhb H=>?_) λhb H=>?_))
 refine sk (C _ _ (m9 (λa w => ∃κ l,Fr (22) [] [(1,.string (j)),(5,vi l),(9,.slice g (c.Cuts).length h),k2b ((c.Cuts).length:Int),(11,vi e)] a∧SS [] o i κ w [] [Ro.mp lB.ty g h c.Cuts]∧M.tX N (M.pX N k) c j e l=some r) ?_ ?_))
 refine bk (qr λ_ D=>(bd H λF q H=>wc (kS b d kr 0 (E:=9) (sz:=1) rfl rfl rfl kr rfl q kr kr λO P a s b=>wc (mM (t:=lB) b d kr 0 0 (v := .string (F)) rfl rfl s rfl q kr kr kr λa b=>wp 1 [1,5,7,9,10,11] b λa b=>D _ _ (qr λ_ G=>wp 3 [1,5,9,10,11,17] b λa b=>G _ _ (bc b H (λhb H=>?_) λhb H=>?_))))))
 refine rl (wp 3 [1,5,9,10,11] b λa b=>nl ?_)
 exact ⟨_,i64.wrap (f+1),b.kp [1,5,9,10,11],d.sp [] [0],H⟩
 refine sk ?_
 exact ⟨_,f,b.kp [1,5,9,10,11],d.sp [] [0],H⟩
 rintro a w ⟨κ,l,b,d,H⟩
 unfold M.tX at H
 refine rl (wp 2 [1,5,9,10,11] b λa b=>nl ?_)
 exact ⟨k,Nat.lt_succ_self _,_,l,i64.wrap (e+1),b.kp [1,5,9,10,11],d.sp [] [0],H⟩
 refine xt (z _ _ (qr λ_ I=>wp 2 [4] b λa b=>I _ _ (rt ?_)))
 cases H
 exact (j7 b d (l3 Tryz.results117 (rvt b)) ⟨rfl,(d.pick [] kr).ro,d.newC [] dc kr⟩)
theorem zN (N){l}{e}(q:lL l e)(d:jA)(n)(i)(j)(f)(g)(s : ∀m∈([Ro.mp lB.ty i j d.Cuts,Ro.mp (fInt .i64).ty f g d.Nodes]:List MP),m.p l e){r}(H:M.uF N d n=some r) :
    Calls Tryz.prog 86 #[.agg (flat (k04 i (d.Cuts).length j f (d.Nodes).length g)).toArray,.string (n)] e (kQ [] l e λv κ w=>v=vi r∧(∀m∈([]:List MP),m.p κ w)∧t5 e κ w []):=by
 have c:=SS.start q s
 refine en Tryz.func86 rfl Tryz.ntmps86 λa b=>?_
 unfold M.uF at H
 refine qr λ_ C=>wc (wbx b c (k04 i (d.Cuts).length j f (d.Nodes).length g) (sgN 2 jE) λI a w b c=>wp 1 [1,2] b λa b=>C _ _ (qs λ_ D=>qr λ_ u=>wc (wls b c 0 0 2 λa b=>wp 1 [2,6,7] b λa b=>bd H λx o H=>wc (jS b c kr kr (EU N c.fresh d n i j f g ((c.pick [0,1] kr).ro) o) ?_))))
 rintro _ κ w a ⟨rfl,s,J⟩ b c K
 refine wp 1 [2,5] b λa b=>u _ _ (qr λ_ y=>wp 2 [2,5,9,10] b λa b=>wc (wld b c 0 1 0 λa b=>wp 2 [2,5,13] b λa b=>y _ _ (bc b H (λhb H=>?_) λhb H=>?_)))
 refine qr λ_ z=>(wp 1 [5,14] b λa b=>wc (wld b c 0 1 0 λa b=>jG (L':=[k2k f (d.Nodes).length g,(16,vi x)]) 1 [15,16] b kr λa b=>bd H λA h H=>wc (kS b c kr 1 (E:=3) (sz:=1) rfl rfl rfl kr rfl h kr kr λF G a k b=>wc (mM (t:=(fInt .i64)) b c kr 1 0 (v:=vi A) rfl rfl k rfl h kr kr kr λa b=>wp 1 [4] b λa b=>z _ _ (rt ?_)))))
 cases H
 exact (j7 b c (l3 Tryz.results86 (rvt b)) ⟨rfl,(c.pick [] kr).ro,c.newC [] dc kr⟩)
 refine sk (D _ _ (qr λ_ B=>wp 1 [4] b λa b=>B _ _ (rt ?_)))
 cases H
 exact (j7 b c (l3 Tryz.results86 (rvt b)) ⟨rfl,(c.pick [] kr).ro,c.newC [] dc kr⟩)
theorem xB (N){u}{s}(U:lL u s)(d:jA)(o)(g)(h)(i)(j)(hR : ∀m∈([Ro.mp lB.ty g h d.Cuts,Ro.mp (fInt .i64).ty i j d.Nodes]:List MP),m.p u s){r}(H:M.tO N d o=some r) :
    Calls Tryz.prog 100 #[.agg (flat (k04 g (d.Cuts).length h i (d.Nodes).length j)).toArray,vi o] s (kQ [] u s λv κ w=>v=vi r∧(∀m∈([]:List MP),m.p κ w)∧t5 s κ w []):=by
 have c:=SS.start U hR
 refine en Tryz.func100 rfl Tryz.ntmps100 λa b=>?_
 unfold M.tO at H
 refine qr λ_ h7=>wc (wbx b c (k04 g (d.Cuts).length h i (d.Nodes).length j) (sgN 2 jE) λx a w b c=>wp 1 [1,2] b λa b=>h7 _ _ (qs λ_ h9=>qr λ_ V=>bd H λW q H=>kA (λa w => ∃κ:Gh,Fr (70) [] [k2a o,k28 x,(14,vb W)] a∧SS [] u s κ w [.box x 68 [sl g (d.Cuts).length h,sl i (d.Nodes).length j]] [Ro.mp lB.ty g h d.Cuts,Ro.mp (fInt .i64).ty i j d.Nodes]∧True) ?_ ?_))
 refine wp 3 [1,2,11] b λa b=>bs q (λhb q=>?_) λhb q=>?_
 have b:=b.bv 11 hb
 refine wp 3 [1,2,14] b λa b=>nl ?_
 cases q
 exact ⟨_,b.kp [1,2,14],c.sp [0] [0,1],trivial⟩
 have b:=b.bv 11 hb
 refine wp 3 [1,2,14] b λa b=>nl ?_
 cases q
 exact ⟨_,b.kp [1,2,14],c.sp [0] [0,1],trivial⟩
 rintro a w ⟨κ,b,c,-⟩
 refine V _ _ (bc b H (λhb H=>?_) λhb H=>?_)
 refine qr λ_ X=>wp 1 [4] b λa b=>X _ _ (rt ?_)
 cases H
 exact (j7 b c (l3 Tryz.results100 (rvt b)) ⟨rfl,(c.pick [] kr).ro,c.newC [] dc kr⟩)
 refine sk (h9 _ _ (qs λ_ Y=>qr λ_ Z=>wp 1 [1,2,15] b λa b=>wc (wld b c 0 1 0 λa b=>wp 2 [1,2,18] b λa b=>Z _ _ (bc b H (λhb H=>?_) λhb H=>?_))))
 refine qr λ_ aa=>wp 1 [4] b λa b=>aa _ _ (rt ?_)
 cases H
 exact (j7 b c (l3 Tryz.results100 (rvt b)) ⟨rfl,(c.pick [] kr).ro,c.newC [] dc kr⟩)
 refine sk (Y _ _ (qs λ_ ab=>qr λ_ ad=>wp 1 [1,2,19] b λa b=>wc (wld b c 0 1 0 λa b=>wp 2 [1,2,21,22] b λa b=>wc (wld b c 0 0 0 λa b=>wp 3 [1,2,26] b λa b=>ad _ _ (bc b H (λhb H=>?_) λhb H=>?_)))))
 refine qr λ_ ae=>wp 1 [4] b λa b=>ae _ _ (rt ?_)
 cases H
 exact (j7 b c (l3 Tryz.results100 (rvt b)) ⟨rfl,(c.pick [] kr).ro,c.newC [] dc kr⟩)
 refine sk (ab _ _ (qs λ_ af=>qr λ_ ah=>(wp 1 [1,2,27] b λa b=>wc (wld b c 0 0 0 λa b=>wp 2 [1,2,28,29,30] b λa b=>(ah _ _ (bk (jX (n:=N) (λn a w => ∃κ k,Fr (70) [] [k2a o,k28 x,(28,.slice g (d.Cuts).length h),(29,vi ((d.Cuts).length:Int)),(30,vi k)] a∧SS [] u s κ w [.box x 68 [sl g (d.Cuts).length h,sl i (d.Nodes).length j]] [Ro.mp lB.ty g h d.Cuts,Ro.mp (fInt .i64).ty i j d.Nodes]∧M.oZ N n d o k=some r) ?_ ?_)))))))
 exact ⟨_,0,b.kp [1,2,28,29,30],c.sp [0] [0,1],H⟩
 rintro n a w ⟨κ,k,b,c,H⟩
 rcases n with _|C
 simp [M.oZ] at H
 simp only [M.oZ] at H
 refine qr λ_ ai=>wp 1 [1,2,28,29,30,31] b λa b=>ai _ _ (qs λ_ aj=>bc b H (λhb H=>?_) λhb H=>?_)
 refine sk (aj _ _ (qs λ_ ak=>bk (qr λ_ al=>(jG (L':=[k2a o,k28 x,(28,.slice g (d.Cuts).length h),(29,vi ((d.Cuts).length:Int)),(30,vi k),(32,vi k)]) 1 [1,2,28,29,30,32] b kr λa b=>bd H λI z H=>wc (kS b c kr 0 (E:=9) (sz:=1) rfl rfl rfl kr rfl z kr kr λaE aF a D b=>wc (mM (t:=lB) b c kr 0 0 (v := .string (I)) rfl rfl D rfl z kr kr kr λa b=>wp 2 [1,2,5,6,28,29,30] b λa b=>al _ _ (qs λ_ am=>qr λ_ an=>wp 3 [1,2,5,6,28,29,30,37] b λa b=>an _ _ (bc b H (λhb H=>?_) λhb H=>?_))))))))
 refine qr λ_ ao=>wp 1 [4] b λa b=>ao _ _ (rt ?_)
 cases H
 exact (j7 b c (l3 Tryz.results100 (rvt b)) ⟨rfl,(c.pick [] kr).ro,c.newC [] dc kr⟩)
 refine sk (am _ _ (qr λ_ aq=>bd H λar e H=>kA (λa w => ∃κ:Gh,Fr (70) [] [k2a o,k28 x,(28,.slice g (d.Cuts).length h),(29,vi ((d.Cuts).length:Int)),(30,vi k),(53,vb ar)] a∧SS [] u s κ w [.box x 68 [sl g (d.Cuts).length h,sl i (d.Nodes).length j]] [Ro.mp lB.ty g h d.Cuts,Ro.mp (fInt .i64).ty i j d.Nodes]∧True) ?_ ?_))
 refine wp 3 [1,2,5,6,28,29,30,40] b λa b=>bs e (λhb e=>?_) λhb e=>?_
 have b:=b.bv 40 hb
 refine wp 13 [1,2,28,29,30,53] b λa b=>nl ?_
 cases e
 exact ⟨_,b.kp [1,2,28,29,30,53],c.sp [0] [0,1],trivial⟩
 have b:=b.bv 40 hb
 refine wp 3 [1,2,5,6,28,29,30,40,43] b λa b=>bs e (λhb e=>?_) λhb e=>?_
 have b:=b.bv 43 hb
 refine wp 1 [1,2,5,6,28,29,30,40,43,44] b λa b=>wcg b (wld b c 0 0 0 λa b=>jG (L':=[k2a o,k28 x,(6,.string (I)),(28,.slice g (d.Cuts).length h),(29,vi ((d.Cuts).length:Int)),(30,vi k),(40,vb false),(43,vb true),(45,.slice g (d.Cuts).length h),(47,vi (i64.wrap (k-1)))]) 2 [1,2,6,28,29,30,40,43,45,47] b kr λa b=>bd e λau A e=>wcg b (kS b c kr 0 (E:=9) (sz:=1) rfl rfl rfl kr rfl A kr kr λaG aH a F b=>wcg b (mM (t:=lB) b c kr 0 0 (v := .string (au)) rfl rfl F rfl A kr kr kr λa b=>?_)))
 refine wp 4 [1,2,28,29,30,53] b λa b=>nl ?_
 cases e
 exact ⟨_,b.kp [1,2,28,29,30,53],c.sp [0] [0,1],trivial⟩
 have b:=b.bv 43 hb
 refine wp 10 [1,2,28,29,30,53] b λa b=>nl ?_
 cases e
 exact ⟨_,b.kp [1,2,28,29,30,53],c.sp [0] [0,1],trivial⟩
 rintro a w ⟨κ,b,c,-⟩
 refine aq _ _ (bc b H (λhb H=>?_) λhb H=>?_)
 refine qr λ_ av=>wp 1 [4] b λa b=>av _ _ (rt ?_)
 cases H
 exact (j7 b c (l3 Tryz.results100 (rvt b)) ⟨rfl,(c.pick [] kr).ro,c.newC [] dc kr⟩)
 refine sk (ak _ _ (rl (wp 2 [1,2,28,29,30] b λa b=>nl ?_)))
 exact ⟨C,Nat.lt_succ_self _,_,i64.wrap (k+1),b.kp [1,2,28,29,30],c.sp [0] [0,1],H⟩
 refine xt (af _ _ (qs λ_ aw=>qr λ_ ax=>(wp 1 [1,55] b λa b=>wc (wld b c 0 1 0 λa b=>wp 2 [1,56,57,58] b λa b=>(ax _ _ (bk (jX (n:=N) (λn a w => ∃κ f,Fr (70) [] [k2a o,(56,.slice i (d.Nodes).length j),(57,vi ((d.Nodes).length:Int)),(58,vi f)] a∧SS [] u s κ w [] [Ro.mp (fInt .i64).ty i j d.Nodes]∧M.q6 N n d o f=some r) ?_ ?_)))))))
 exact ⟨_,0,b.kp [1,56,57,58],c.sp [] [1],H⟩
 rintro n a w ⟨κ,f,b,c,H⟩
 rcases n with _|G
 simp [M.q6] at H
 simp only [M.q6] at H
 refine qr λ_ J=>(jG (L':=[k2a o,(56,.slice i (d.Nodes).length j),(57,vi ((d.Nodes).length:Int)),(58,vi f),(59,vb (decide (f<((d.Nodes).length:Int))))]) 1 [1,56,57,58,59] b kr λa b=>J _ _ (qs λ_ K=>bc b H (λhb H=>?_) λhb H=>?_))
 refine sk (K _ _ (qs λ_ L=>bk (qr λ_ O=>(bd H λP y H=>wc (kS b c kr 0 (E:=3) (sz:=1) rfl rfl rfl kr rfl y kr kr λaB aD a B b=>wc (mM (t:=(fInt .i64)) b c kr 0 0 (v:=vi P) rfl rfl B rfl y kr kr kr λa b=>wp 1 [1,8,56,57,58] b λa b=>O _ _ (qr λ_ Q=>bd H λR l H=>kA (λa w => ∃κ:Gh,Fr (70) [] [k2a o,(56,.slice i (d.Nodes).length j),(57,vi ((d.Nodes).length:Int)),(58,vi f),(68,vb R)] a∧SS [] u s κ w [] [Ro.mp (fInt .i64).ty i j d.Nodes]∧True) ?_ ?_)))))))
 refine wp 3 [1,8,56,57,58,64] b λa b=>bs l (λhb l=>?_) λhb l=>?_
 have b:=b.bv 64 hb
 refine wp 4 [1,56,57,58,68] b λa b=>nl ?_
 cases l
 exact ⟨_,b.kp [1,56,57,58,68],c.sp [] [0],trivial⟩
 have b:=b.bv 64 hb
 refine wp 4 [1,56,57,58,68] b λa b=>nl ?_
 cases l
 exact ⟨_,b.kp [1,56,57,58,68],c.sp [] [0],trivial⟩
 rintro a w ⟨κ,b,c,-⟩
 refine Q _ _ (bc b H (λhb H=>?_) λhb H=>?_)
 refine qr λ_ S=>wp 1 [4] b λa b=>S _ _ (rt ?_)
 cases H
 exact (j7 b c (l3 Tryz.results100 (rvt b)) ⟨rfl,(c.pick [] kr).ro,c.newC [] dc kr⟩)
 refine sk (L _ _ (rl (wp 2 [1,56,57,58] b λa b=>nl ?_)))
 exact ⟨G,Nat.lt_succ_self _,_,i64.wrap (f+1),b.kp [1,56,57,58],c.sp [] [0],H⟩
 refine xt (aw _ _ (qr λ_ T=>wp 1 [4] b λa b=>T _ _ (rt ?_)))
 cases H
 exact (j7 b c (l3 Tryz.results100 (rvt b)) ⟨rfl,(c.pick [] kr).ro,c.newC [] dc kr⟩)
theorem EV (N){u}{f}(F:lL u f)(e:jA)(x)(y)(A)(B)(K : ∀m∈([Ro.mp lB.ty x y e.Cuts,Ro.mp (fInt .i64).ty A B e.Nodes]:List MP),m.p u f){r}(H:M.vC N e=some r) :
    Calls Tryz.prog 44 #[.agg (flat (k04 x (e.Cuts).length y A (e.Nodes).length B)).toArray] f (kQ [] u f λv κ w => ∃g j k l,v = .agg (flat (k04 g (r.Cuts).length j k (r.Nodes).length l)).toArray∧(∀m∈([Ro.mp lB.ty g j r.Cuts,Ro.mp (fInt .i64).ty k l r.Nodes]:List MP),m.p κ w)∧t5 f κ w [.tok g 9 1 (r.Cuts).length j,.tok k 3 1 (r.Nodes).length l]):=by
 have b:=SS.start F K
 refine en Tryz.func44 rfl Tryz.ntmps44 λa d=>?_
 unfold M.vC at H
 refine qr λ_ L=>wc (wbx d b (k04 x (e.Cuts).length y A (e.Nodes).length B) (sgN 2 jE) λG a w d b=>wc (wal d b k05 (sgN 2 jE) λO a w d b=>L _ _ (qs λ_ P=>rgS b [7] ?_)))
 have b:=b.drew
 have C:=b.fx
 refine bd H λI D H=>bd H λJ E H=>jO [0,3] [2,3,6] (L':=[k28 O,k25 G,(6,pt G 1)]) (listed':=(mU 8 9)) (fuel:=6) d C kr (by intro c a w t v h; cases t<;>exact h) kr rfl λa d=>atk 1 (some 4) d C rfl (vld 1 0 0) λa d=>atk 4 (some 7) d C rfl (vld 1 1 0) λa d=>ago 2 d rfl ?_
 have b:=b.add (m:=Ro.mp lB.ty none 0 ([]:List ByteArray)) (Ro.nil lB.ty _ _)
 have b:=b.addNil 9 1
 refine kI (ty:=lB.ty) d b kr 0 0 1 rfl rfl rfl kr kr rfl rfl rfl D kr (i:=Tryz.t9) (z := .string (empty)) kr kr kr λn o κ a w d b=>⟨λ_=>(b.sx [1,2] [2,3]),?_⟩
 refine ago 5 d rfl ?_
 have b:=b.add (m:=Ro.mp (fInt .i64).ty none 0 ([]:List Int)) (Ro.nil (fInt .i64).ty _ _)
 have b:=b.addNil 3 1
 refine kI (ty:=(fInt .i64).ty) d b kr 0 0 4 rfl rfl rfl kr kr rfl rfl rfl E kr (i:=Tryz.t3) (z:=vi 0) kr kr kr λq s κ a w d b=>⟨λ_=>(b.sx [2,3] [4,5]),?_⟩
 refine anp [6] [2,9] d (b.sx [2,3] [4,5]) λa d=>ago 7 d rfl (wst d b 2 0 2 (k04 n I.length o q J.length s) (sgN 2 jE) λa w d b=>⟨notE,?_⟩)
 refine kM (P _ _ (rt ?_))
 have hS':=b
 cases H
 exact (j7 d b (l3 Tryz.results44 (rvs d hS' 2 0 2)) ⟨n,o,q,s,rfl,(b.pick [2,0] kr).ro,b.newC [1,0] dc kr⟩)
theorem AS (N){σ}{B}{Y}{l}
    (hB : ∀ {s:σ} {x:XF} {κ:Gh} {w:World} (L:Int) (C:l9) {s':σ} {c:Bool},Y s x→x.p κ w→lL κ w→x.bs.Nodup→(∀b∈x.bs,b<w.heap.size)→(∀m∈([]:List MP),m.p κ w)→B s L C=some (s',c)→yC Tryz.prog l Y #[vi L,.agg (flat [sg C.Lo,sg C.Hi,si C.Node]).toArray] x s' c κ w)
    (f:jA) (z:Option Addr) (A:Nat) (h:Option Addr) (i:Nat) {K:List Nat} {I:Gh} {F:World} {X:XF} {Z:σ} {o:Nat} (e:SS K I F I F [.ext X,.box o 68 (k04 z (f.Cuts).length A h (f.Nodes).length i)] [k2l z A f.Cuts,k2m h i f.Nodes,(MP.const (Y Z X))]) {r:σ} (H:M.uM N B f Z=some r) :
    Calls Tryz.prog 129 #[.func (.yield l) #[] #[],pt o 0] F (kQ K I F λ_ κ w => ∃x,Y r x∧SS K I F κ w [.ext x] []):=by
 refine en Tryz.func129 rfl Tryz.ntmps129 λa d=>?_
 unfold M.uM at H
 refine qs λ_ h9=>qr λ_ ab=>wp 1 [0,1,6] d λa d=>wc (wld d e 1 1 0 λa d=>wp 2 [0,1,8,9] d λa d=>wc (wld d e 1 0 0 λa d=>wp 3 [0,1,13] d λa d=>ab _ _ (bc d H (λhb H=>?_) λhb H=>?_)))
 refine rt ?_
 cases H
 exact j7 d e (mI Tryz.results129) ⟨_,e.get 2 rfl,(e.selp [0] dc kr).pick [] rfl⟩
 refine sk (h9 _ _ (qr λ_ ad=>(wp 1 [0,1,14] d λa d=>wc (wld d e 1 1 0 λa d=>wp 2 [0,1,15,16,17] d λa d=>(ad _ _ (bk (jX (n:=N) (λn a w => ∃κ g q j,Fr (50) [] [k2n (.yield l) #[],k27 o,k2k h (f.Nodes).length i,(16,vi ((f.Nodes).length:Int)),(17,vi g)] a∧SS K I F κ w [.box o 68 (k04 z (f.Cuts).length A h (f.Nodes).length i),.ext j] [(MP.const (Y q j)),k2m h i f.Nodes,k2l z A f.Cuts]∧M.lS N B n f g q=some r) ?_ ?_)))))))
 exact ⟨_,0,Z,X,d.kp [0,1,15,16,17],e.sp [1,0] [2,1,0],H⟩
 rintro n a w ⟨κ,g,q,j,d,e,H⟩
 rcases n with _|D
 simp [M.lS] at H
 simp only [M.lS] at H
 refine qr λ_ ae=>wp 1 [0,1,15,16,17,18] d λa d=>ae _ _ (qs λ_ af=>bc d H (λhb H=>?_) λhb H=>?_)
 refine sk (af _ _ (qs λ_ ah=>bk (qr λ_ ai=>(jG (L':=[k2n (.yield l) #[],k27 o,k2k h (f.Nodes).length i,(16,vi ((f.Nodes).length:Int)),(17,vi g),(19,vi g)]) 1 [0,1,15,16,17,19] d kr λa d=>bd H λk O H=>wc (kS d e kr 1 (E:=3) (sz:=1) rfl rfl rfl kr rfl O kr kr λaq ar a T d=>wc (mM (t:=(fInt .i64)) d e kr 1 0 (v:=vi k) rfl rfl T rfl O kr kr kr λa d=>wp 2 [0,1,3,4,15,16,17] d λa d=>ai _ _ (qr λ_ aj=>wp 2 [0,1,3,15,16,17,23] d λa d=>wc (wal d e (k06 empty) (sgN 3 jE) λu a w d e=>?_))))))))
 refine wc (wst d e 0 0 3 [sg empty,sg empty,si k] (sgN 3 jE) λa w d e=>aj _ _ (m9 (λa w => ∃κ y,Fr (50) [] [k2n (.yield l) #[],k27 o,(3,vi g),k2d u,k2k h (f.Nodes).length i,(16,vi ((f.Nodes).length:Int)),(17,vi g)] a∧SS K I F κ w [.box u 128 [sg y,sg empty,si k],.box o 68 (k04 z (f.Cuts).length A h (f.Nodes).length i),.ext j] [(MP.const (Y q j)),k2m h i f.Nodes,k2l z A f.Cuts]∧M.qD N B (M.lS N B D) f g q k y=some r) ?_ ?_))
 refine qr λ_ ak=>wp 2 [0,1,3,5,15,16,17,25] d λa d=>ak _ _ (bc d H (λhb H=>?_) λhb H=>?_)
 refine rl (wp 1 [0,1,3,5,15,16,17,26] d λa d=>wc (wld d e 1 0 0 λa d=>jG (L':=[k2n (.yield l) #[],k27 o,(3,vi g),k2d u,k2k h (f.Nodes).length i,(16,vi ((f.Nodes).length:Int)),(17,vi g),k2o z (f.Cuts).length A,(29,vi (i64.wrap (g-1)))]) 2 [0,1,3,5,15,16,17,27,29] d kr λa d=>bd H λP Q H=>wc (kS d e kr 2 (E:=9) (sz:=1) rfl rfl rfl kr rfl Q kr kr λau av a U d=>wc (mM (t:=lB) d e kr 2 0 (v := .string (P)) rfl rfl U rfl Q kr kr kr λa d=>?_))))
 refine wp 1 [0,1,3,5,15,16,17,31,32] d λa d=>wc (wst d e 0 0 1 [sg P] (sgN 1 jE) λa w d e=>nl ?_)
 exact ⟨_,P,d.kp [0,1,3,5,15,16,17],e.sp [0,1,2] [0,1,2],H⟩
 refine sk ?_
 exact ⟨_,empty,d.kp [0,1,3,5,15,16,17],e.sp [0,1,2] [0,1,2],H⟩
 rintro a w ⟨κ,y,d,e,H⟩
 unfold M.qD at H
 refine m9 (λa w => ∃κ G,Fr (50) [] [k2n (.yield l) #[],k27 o,(3,vi g),k2d u,k2k h (f.Nodes).length i,(16,vi ((f.Nodes).length:Int)),(17,vi g)] a∧SS K I F κ w [.box u 128 [sg y,sg G,si k],.box o 68 (k04 z (f.Cuts).length A h (f.Nodes).length i),.ext j] [(MP.const (Y q j)),k2m h i f.Nodes,k2l z A f.Cuts]∧M.qC N B (M.lS N B D) f g q k y G=some r) ?_ ?_
 refine qr λ_ al=>wp 2 [0,1,3,5,15,16,17,33,34] d λa d=>wc (wld d e 1 0 0 λa d=>wp 2 [0,1,3,5,15,16,17,37] d λa d=>al _ _ (bc d H (λhb H=>?_) λhb H=>?_))
 refine rl (wp 1 [0,1,3,5,15,16,17,38] d λa d=>wc (wld d e 1 0 0 λa d=>jG (L':=[k2n (.yield l) #[],k27 o,(3,vi g),k2d u,k2k h (f.Nodes).length i,(16,vi ((f.Nodes).length:Int)),(17,vi g),(39,.slice z (f.Cuts).length A),(40,vi g)]) 1 [0,1,3,5,15,16,17,39,40] d kr λa d=>bd H λR S H=>wc (kS d e kr 2 (E:=9) (sz:=1) rfl rfl rfl kr rfl S kr kr λaw ax a V d=>wc (mM (t:=lB) d e kr 2 0 (v := .string (R)) rfl rfl V rfl S kr kr kr λa d=>wp 1 [0,1,3,5,15,16,17,42,43] d λa d=>?_))))
 refine wc (wst d e 0 1 1 [sg R] (sgN 1 jE) λa w d e=>nl ?_)
 exact ⟨_,R,d.kp [0,1,3,5,15,16,17],e.sp [0,1,2] [0,1,2],H⟩
 refine sk ?_
 exact ⟨_,empty,d.kp [0,1,3,5,15,16,17],e.sp [0,1,2] [0,1,2],H⟩
 rintro a w ⟨κ,G,d,e,H⟩
 unfold M.qC at H
 refine qr λ_ am=>(jG (L':=[k2n (.yield l) #[],k27 o,k2d u,k2k h (f.Nodes).length i,(16,vi ((f.Nodes).length:Int)),(17,vi g),(44,.func (.yield l) #[] #[]),(45,vi g)]) 2 [0,1,5,15,16,17,44,45] d kr λa d=>wc (wls d e 0 0 3 λa d=>bd H λJ aa H=>wc (DE (Y:=Y) (s':=J.1) (c:=J.2) (x:=j) (l:=l) (args := #[vi g,.agg (flat [sg y,sg G,si k]).toArray]) d e kr 2 rfl kr kr rfl (λhp hf hn hl=>hB g (l9.mk y G k) (e.get 0 rfl) hp hf hn hl ((e.pick [] kr).ro) aa) λW κ w a hY d e=>?_)))
 have e:=e.add (m:=MP.const (Y J.1 W)) hY
 refine wp 1 [0,1,15,16,17,48] d λa d=>am _ _ (bc d H (λhb H=>?_) λhb H=>?_)
 refine rt ?_
 cases H
 exact j7 d e (mI Tryz.results129) ⟨_,e.get 0 rfl,(e.selp [2] dc kr).pick [] rfl⟩
 refine sk (ah _ _ (rl (wp 2 [0,1,15,16,17] d λa d=>nl ?_)))
 exact ⟨D,Nat.lt_succ_self _,_,i64.wrap (g+1),J.1,W,d.kp [0,1,15,16,17],e.sp [1,2] [0,2,3],H⟩
 refine xt ?_
 cases H
 exact j7 d e (mI Tryz.results129) ⟨_,e.get 0 rfl,(e.selp [1] dc kr).pick [] rfl⟩
theorem C5 (N){l}{d}(n:lL l d)(c:jA)(g)(h)(i)(j)(o : ∀m∈([Ro.mp lB.ty g h c.Cuts,Ro.mp (fInt .i64).ty i j c.Nodes]:List MP),m.p l d){r}(H:M.vU N c=some r) :
    Calls Tryz.prog 102 #[.agg (flat (k04 g (c.Cuts).length h i (c.Nodes).length j)).toArray] d (kQ [] l d λv κ w => ∃e:Nat,v = .func (.func 129) #[] #[pt e 0]∧(∀m∈([]:List MP),m.p κ w)∧t5 d κ w [.box e 68 [sl g (c.Cuts).length h,sl i (c.Nodes).length j]]):=by
 have f:=SS.start n o
 refine en Tryz.func102 rfl Tryz.ntmps102 λa b=>?_
 unfold M.vU at H
 refine qr λ_ q=>(wc (wbx b f (k04 g (c.Cuts).length h i (c.Nodes).length j) (sgN 2 jE) λk a w b f=>jG (L':=[k27 k]) 1 [1] b kr λa b=>(q _ _ (qr λ_ s=>(wc (kR b kr (v := .func (.func 129) #[] #[pt k 0]) (v4 (T':=0) (caps := #[pt k 0]) rfl kr _) λa b=>wp 1 [2] b λa b=>s _ _ (rt ?_)))))))
 cases H
 exact (j7 b f (l3 Tryz.results102 (rvt b)) ⟨k,rfl,(f.pick [] rfl).ro,f.newC [0] dc kr⟩)
theorem A5 (N){E}{D}(J:lL E D)(k:jA)(j)(q)(s)(t)(u)(F : ∀m∈([Ro.mp lB.ty q s k.Cuts,Ro.mp (fInt .i64).ty t u k.Nodes]:List MP),m.p E D){r}(H:M.xW N k j=some r) :
    Calls Tryz.prog 63 #[.agg (flat (k04 q (k.Cuts).length s t (k.Nodes).length u)).toArray,vi j] D (kQ [] E D λv κ w=>v = .tuple #[.agg (flat [sg r.1.Lo,sg r.1.Hi,si r.1.Node]).toArray,vb r.2]∧(∀m∈([]:List MP),m.p κ w)∧t5 D κ w []):=by
 have b:=SS.start J F
 refine J6 (N:=(17)) (L:=[(0,.agg (flat [sl q (k.Cuts).length s,sl t (k.Nodes).length u]).toArray),k2a j]) Tryz.func63 rfl Tryz.ntmps63 (show 2≤(17) by decide) rfl λa e=>?_
 unfold M.xW at H
 refine qr λ_ V=>wc (wbx e b (k04 q (k.Cuts).length s t (k.Nodes).length u) (sgN 2 jE) λb8 a w e b=>wc (wbx e b [si j] (sgN 1 jE) λn a w e b=>wc (wal e b (k06 empty) (sgN 3 jE) λh a w e b=>wc (wal e b [k2p] (sgN 1 jE) λi a w e b=>V _ _ (qs λ_ K=>qr λ_ O=>wc (wls e b 3 0 2 λa e=>bd H λZ G H=>wc (jS e b kr kr (C5 N b.fresh k q s t u ((b.pick [0,1] kr).ro) G) ?_)))))))
 rintro _ κ w a ⟨A,rfl,F,W⟩ e b X
 have b:=b.addC X W
 refine O _ _ (bk (bd H λy I H=>?_))
 have b:SS [] E D _ _ [.box i 4 [sb false],.box h 128 [sg empty,sg empty,si 0],.box n 3 [si j],.box A 68 [sl q (k.Cuts).length s,sl t (k.Nodes).length u]] _:=b.selp [1,2,3,0] dc kr
 refine H6 (C:=[.box i 4 [sb false],.box h 128 [sg empty,sg empty,si 0],.box n 3 [si j]]) (Cap:=[.box A 68 [sl q (k.Cuts).length s,sl t (k.Nodes).length u]]) (R':=[]) (caps := #[pt A 0]) (f:=129) [.ret] (λl => #[.func (.yield l) #[] #[],pt A 0]) e b kr (λ_ _=>rfl) ((b.pick [] kr).ro) (λl=>by kernel_rfl) λo l rc w hrc b=>⟨λx=>(λ(d:(Bool×ByteArray×ByteArray×Int×Nat)) (x:XF)=>x=mkX o l (lp rc [.ret] d.u4) [.box i 4 [sb d.1],.box h 128 [sg d.2.1,sg d.2.2.1,si d.2.2.2.1],.box n 3 [si j]] []) y x,?_,?_⟩
 have b:=(b.rebase.add (m:=MP.const ((λ(d:(Bool×ByteArray×ByteArray×Int×Nat)) (x:XF)=>x=mkX o l (lp rc [.ret] d.u4) [.box i 4 [sb d.1],.box h 128 [sg d.2.1,sg d.2.2.1,si d.2.2.2.1],.box n 3 [si j]] []) (false,empty,empty,0,0) (mkX o l (lp rc [.ret] 0) [.box i 4 [sb false],.box h 128 [sg empty,sg empty,si 0],.box n 3 [si j]] []))) rfl).pick (R':=[Ro.mp lB.ty q s k.Cuts,Ro.mp (fInt .i64).ty t u k.Nodes,MP.const ((λ(d:(Bool×ByteArray×ByteArray×Int×Nat)) (x:XF)=>x=mkX o l (lp rc [.ret] d.u4) [.box i 4 [sb d.1],.box h 128 [sg d.2.1,sg d.2.2.1,si d.2.2.2.1],.box n 3 [si j]] []) (false,empty,empty,0,0) (mkX o l (lp rc [.ret] 0) [.box i 4 [sb false],.box h 128 [sg empty,sg empty,si 0],.box n 3 [si j]] []))]) [1,2,0] kr
 refine AS N (Y:=(λ(d:(Bool×ByteArray×ByteArray×Int×Nat)) (x:XF)=>x=mkX o l (lp rc [.ret] d.u4) [.box i 4 [sb d.1],.box h 128 [sg d.2.1,sg d.2.2.1,si d.2.2.2.1],.box n 3 [si j]] [])) (B:=(λ(d:(Bool×ByteArray×ByteArray×Int×Nat)) z g=>bif (d.u4==0) then bif (z==j) then some (((true,g.Lo,g.Hi,g.Node,1)),false) else some (((d.1,d.2.1,d.2.2.1,d.2.2.2.1,0)),true) else none)) (l:=l) ?_ k q s t u b I
 rintro d _ κ w z g s' c rfl hp hf hnd hlt F H
 refine wO H (λhn H=>?_) (λ_ H=>by cases H)
 refine DR (L:=[k25 n,k26 h,k2d i,k2b z,(11,.agg (flat [sg g.Lo,sg g.Hi,si g.Node]).toArray)]) hp hf hnd hlt hn hrc rfl [3,4,5,10,11] e kr kr λa e b=>?_
 have b:=b.adds F
 skip
 refine qr λ_ P=>(jG (L':=[k25 n,k26 h,k2d i,(6,vi z),(11,.agg (flat [sg g.Lo,sg g.Hi,si g.Node]).toArray)]) 1 [3,4,5,6,11] e kr λa e=>P _ _ (rl (wc (wal e b (k06 empty) (sgN 3 jE) λQ a w e b=>wc (wst e b 0 0 3 [sg g.Lo,sg g.Hi,si g.Node] (sgN 3 jE) λa w e b=>nl (⟨_,_,_,b,λwb b=>?_⟩))))))
 obtain ⟨κb,hκb⟩ : ∃κb,κb=κ:=⟨_,rfl⟩
 subst hκb
 refine bk (qr λ_ S=>(wp 1 [3,4,5,7,12] e λa e=>wc (wld e b 3 0 0 λa e=>jG (L':=[k25 n,k26 h,k2d i,k2i Q,(14,vb (z==j))]) 1 [3,4,5,7,14] e kr λa e=>S _ _ (bc e H (λhb H=>?_) λhb H=>?_))))
 refine qr λ_ T=>wc (wls e b 0 0 3 λa e=>wc (wst e b 2 0 3 [sg g.Lo,sg g.Hi,si g.Node] (sgN 3 jE) λa w e b=>wc (wst e b 1 0 1 [sb true] (sgN 1 jE) λa w e b=>T _ _ (rt ?_))))
 cases H
 try dsimp only [Exit.inBlock,Exit.then]
 repeat rw [if_neg dc]
 refine L8 [.ret] 0 rfl (C:=[.box i 4 [sb true],.box h 128 [sg g.Lo,sg g.Hi,si g.Node],.box n 3 [si j]]) (R:=[]) (b.sp [1,2,3] []) ?_
 exact rfl
 refine sk ?_
 cases H
 try dsimp only [Exit.inBlock,Exit.then]
 repeat rw [if_neg dc]
 refine CC [.ret] (C:=[.box i 4 [sb d.1],.box h 128 [sg d.2.1,sg d.2.2.1,si d.2.2.2.1],.box n 3 [si j]]) (R:=[]) (b.sp [1,2,3] []) ?_
 exact rfl
 rintro _ rfl
 refine ⟨_,_,_,rfl,λκ w a e b=>?_⟩
 refine bs H (λhb H=>?_) λhb H=>?_
 refine GT hb (K _ _ (qr λ_ U=>(jG (L':=[k26 h,k2d i,(16,.agg (flat [sg empty,sg empty,si 0]).toArray)]) 1 [4,5,16] e kr λa e=>wc (wst e b 2 0 3 (k06 empty) (sgN 3 jE) λa w e b=>wc (wst e b 1 0 1 [k2p] (sgN 1 jE) λa w e b=>(U _ _ (rt (CB (C':=[.box i 4 [k2p],.box h 128 (k06 empty),.box n 3 [si j]]) e b 0 rfl kr λw b=>?_))))))))
 cases H
 exact ⟨_,(sZ Tryz.results63 (rvs e b 1 0 3) (rvc e b 0 0 0)),⟨rfl,(b.pick [] kr).ro,b.newC [] dc kr⟩⟩
 refine bs H (λhb H=>?_) λhb H=>?_
 refine JY 0 hb rfl (rt (CB (C':=[.box i 4 [sb y.1],.box h 128 [sg y.2.1,sg y.2.2.1,si y.2.2.2.1],.box n 3 [si j]]) e b 0 rfl kr λw b=>?_))
 cases H
 exact ⟨_,(sZ Tryz.results63 (rvs e b 1 0 3) (rvc e b 0 0 0)),⟨rfl,(b.pick [] kr).ro,b.newC [] dc kr⟩⟩
 cases H
theorem D8 (N){V}{O}(aD:lL V O)(e:jA)(a6)(q)(G)(y)(A)(B)(C)(hR : ∀m∈([Ro.mp lB.ty y A e.Cuts,Ro.mp (fInt .i64).ty B C e.Nodes]:List MP),m.p V O){r}(H:M.vH N e a6 q G=some r) :
    Calls Tryz.prog 60 #[.agg (flat (k04 y (e.Cuts).length A B (e.Nodes).length C)).toArray,vi a6,vi q,.string (G)] O (kQ [] V O λv κ w => ∃W X Y Z,v = .tuple #[.agg (flat (k04 W (r.1.Cuts).length X Y (r.1.Nodes).length Z)).toArray,vi r.2]∧(∀m∈([Ro.mp lB.ty W X r.1.Cuts,Ro.mp (fInt .i64).ty Y Z r.1.Nodes]:List MP),m.p κ w)∧t5 O κ w [.tok W 9 1 (r.1.Cuts).length X,.tok Y 3 1 (r.1.Nodes).length Z]):=by
 have d:=SS.start aD hR
 refine en Tryz.func60 rfl Tryz.ntmps60 λa b=>?_
 unfold M.vH at H
 refine qr λ_ h9=>wc (wbx b d (k04 y (e.Cuts).length A B (e.Nodes).length C) (sgN 2 jE) λf a w b d=>wc (wal b d k05 (sgN 2 jE) λu a w b d=>wp 1 [1,2,3,4,8] b λa b=>h9 _ _ (qs λ_ aE=>qr λ_ aF=>wc (wls b d 1 0 2 λa b=>wp 1 [2,3,4,8,14,15] b λa b=>bd H λbr av H=>wc (jS b d kr kr (xB N d.fresh e a6 y A B C ((d.pick [0,1] kr).ro) av) ?_)))))
 rintro _ κ w a ⟨rfl,hR,hN⟩ b d hO
 refine wp 1 [2,3,4,8,10] b λa b=>aF _ _ (qr λ_ aI=>wp 2 [2,3,4,8,10,18] b λa b=>aI _ _ (bc b H (λhb H=>?_) λhb H=>?_))
 refine qr λ_ aJ=>wp 2 [8,19,20] b λa b=>wc (wst b d 0 0 2 k05 (sgN 2 jE) λa w b d=>wp 1 [8,9] b λa b=>aJ _ _ (rt ?_))
 have hS':=d
 have d:=d.add (m:=Ro.mp lB.ty none 0 ([]:List ByteArray)) (Ro.nil lB.ty _ _)
 have d:=d.add (m:=Ro.mp (fInt .i64).ty none 0 ([]:List Int)) (Ro.nil (fInt .i64).ty _ _)
 have d:=d.addNil 9 1
 have d:=d.addNil 3 1
 cases H
 exact (j7 b d (sZ Tryz.results60 (rvs b hS' 0 0 2) (rvt b)) ⟨none,0,none,0,rfl,(d.pick [1,0] kr).ro,d.newC [1,0] dc kr⟩)
 refine sk (aE _ _ (qr λ_ aL=>wc (wls b d 1 0 2 λa b=>wp 1 [2,3,4,8,22,23] b λa b=>bd H λg aw H=>wc (jS b d kr kr (A5 N d.fresh e q y A B C ((d.pick [0,1] kr).ro) aw) ?_))))
 rintro _ κ w a ⟨rfl,hR,hN⟩ b d hO
 refine wp 3 [2,3,4,8,25,26] b λa b=>wc (wal b d (k06 empty) (sgN 3 jE) λx a w b d=>wc (wst b d 0 0 3 [sg g.1.Lo,sg g.1.Hi,si g.1.Node] (sgN 3 jE) λa w b d=>wp 1 [2,3,4,8,11,12] b λa b=>aL _ _ (qs λ_ aM=>qr λ_ aO=>wp 2 [2,3,4,8,11,28] b λa b=>aO _ _ (bc b H (λhb H=>?_) λhb H=>?_))))
 refine qr λ_ aP=>wp 1 [8,29] b λa b=>wc (wst b d 1 0 2 k05 (sgN 2 jE) λa w b d=>wp 1 [8,9] b λa b=>aP _ _ (rt ?_))
 have hS':=d
 have d:=d.add (m:=Ro.mp lB.ty none 0 ([]:List ByteArray)) (Ro.nil lB.ty _ _)
 have d:=d.add (m:=Ro.mp (fInt .i64).ty none 0 ([]:List Int)) (Ro.nil (fInt .i64).ty _ _)
 have d:=d.addNil 9 1
 have d:=d.addNil 3 1
 cases H
 exact (j7 b d (sZ Tryz.results60 (rvs b hS' 1 0 2) (rvt b)) ⟨none,0,none,0,rfl,(d.pick [1,0] kr).ro,d.newC [1,0] dc kr⟩)
 refine sk (aM _ _ (qs λ_ aQ=>qr λ_ aR=>bd H λaS s H=>kA (λa w => ∃κ:Gh,Fr (89) [] [k2h q,(3,.string (G)),k26 f,k2q u,k2r x,(47,vb aS)] a∧SS [] V O κ w [.box x 128 [sg g.1.Lo,sg g.1.Hi,si g.1.Node],.box u 68 [sl none 0 0,sl none 0 0],.box f 68 [sl y (e.Cuts).length A,sl B (e.Nodes).length C]] [Ro.mp lB.ty none 0 ([]:List ByteArray),Ro.mp (fInt .i64).ty none 0 ([]:List Int),Ro.mp lB.ty y A e.Cuts,Ro.mp (fInt .i64).ty B C e.Nodes]∧True) ?_ ?_))
 refine wp 4 [2,3,4,8,11,33] b λa b=>bs s (λhb s=>?_) λhb s=>?_
 have b:=b.bv 33 hb
 refine wp 14 [2,3,4,8,11,47] b λa b=>nl ?_
 cases s
 have d:=d.add (m:=Ro.mp lB.ty none 0 ([]:List ByteArray)) (Ro.nil lB.ty _ _)
 have d:=d.add (m:=Ro.mp (fInt .i64).ty none 0 ([]:List Int)) (Ro.nil (fInt .i64).ty _ _)
 exact ⟨_,b.kp [2,3,4,8,11,47],d.sp [0,1,2] [1,0,2,3],trivial⟩
 have b:=b.bv 33 hb
 refine wp 2 [2,3,4,8,11,33,34,35] b λa b=>wcg b (wld b d 0 0 0 λa b=>wp 3 [2,3,4,8,11,39] b λa b=>bs s (λhb s=>?_) λhb s=>?_)
 have b:=b.bv 39 hb
 refine wp 8 [2,3,4,8,11,47] b λa b=>nl ?_
 cases s
 have d:=d.add (m:=Ro.mp lB.ty none 0 ([]:List ByteArray)) (Ro.nil lB.ty _ _)
 have d:=d.add (m:=Ro.mp (fInt .i64).ty none 0 ([]:List Int)) (Ro.nil (fInt .i64).ty _ _)
 exact ⟨_,b.kp [2,3,4,8,11,47],d.sp [0,1,2] [1,0,2,3],trivial⟩
 have b:=b.bv 39 hb
 refine wp 2 [2,3,4,8,11,39,40,41] b λa b=>wcg b (wld b d 0 0 0 λa b=>wp 1 [2,3,4,8,11,39,40,42,43] b λa b=>wcg b (wld b d 0 1 0 λa b=>bd s λbt ax s=>wcg b (jS b d kr kr (w9 N d.fresh G g.1.Lo g.1.Hi ((d.pick [] kr).ro) ax) ?_)))
 rintro _ κ w a ⟨rfl,hR,hN⟩ b d hO
 refine wp 2 [2,3,4,8,11,47] b λa b=>nl ?_
 cases s
 have d:=d.add (m:=Ro.mp lB.ty none 0 ([]:List ByteArray)) (Ro.nil lB.ty _ _)
 have d:=d.add (m:=Ro.mp (fInt .i64).ty none 0 ([]:List Int)) (Ro.nil (fInt .i64).ty _ _)
 exact ⟨_,b.kp [2,3,4,8,11,47],d.sp [0,1,2] [1,0,2,3],trivial⟩
 rintro a w ⟨κ,b,d,-⟩
 refine aR _ _ (bc b H (λhb H=>?_) λhb H=>?_)
 refine qr λ_ aT=>wp 1 [8,48] b λa b=>wc (wst b d 1 0 2 k05 (sgN 2 jE) λa w b d=>wp 1 [8,9] b λa b=>aT _ _ (rt ?_))
 have hS':=d
 have d:=d.addNil 9 1
 have d:=d.addNil 3 1
 cases H
 exact (j7 b d (sZ Tryz.results60 (rvs b hS' 1 0 2) (rvt b)) ⟨none,0,none,0,rfl,(d.pick [0,1] kr).ro,d.newC [1,0] dc kr⟩)
 refine sk (aQ _ _ (qs λ_ aU=>qr λ_ aV=>wp 1 [2,3,4,8,11,49] b λa b=>wc (wld b d 2 1 0 λa b=>wp 2 [2,3,4,8,11,52] b λa b=>aV _ _ (bc b H (λhb H=>?_) λhb H=>?_))))
 refine qr λ_ aW=>wp 1 [8,53] b λa b=>wc (wst b d 1 0 2 k05 (sgN 2 jE) λa w b d=>wp 1 [8,9] b λa b=>aW _ _ (rt ?_))
 have hS':=d
 have d:=d.addNil 9 1
 have d:=d.addNil 3 1
 cases H
 exact (j7 b d (sZ Tryz.results60 (rvs b hS' 1 0 2) (rvt b)) ⟨none,0,none,0,rfl,(d.pick [0,1] kr).ro,d.newC [1,0] dc kr⟩)
 refine sk (aU _ _ (qr λ_ aX=>wp 1 [2,3,4,8,11,54] b λa b=>wc (wal b d k05 (sgN 2 jE) λn a w b d=>wc (wst b d 0 0 2 k05 (sgN 2 jE) λa w b d=>aX _ _ (qs λ_ aY=>bd H λI j H=>kJ (λa w => ∃κ D F,Fr (89) [] [k2h q,k26 f,k2q u,k2r x,(13,pt n 0)] a∧SS [] V O κ w [.box n 68 [sl D I.length F,sl none 0 0],.box x 128 [sg g.1.Lo,sg g.1.Hi,si g.1.Node],.box u 68 [sl none 0 0,sl none 0 0],.box f 68 [sl y (e.Cuts).length A,sl B (e.Nodes).length C],.tok D 9 1 I.length F] [Ro.mp lB.ty D F I,Ro.mp (fInt .i64).ty none 0 ([]:List Int),Ro.mp lB.ty none 0 ([]:List ByteArray),Ro.mp lB.ty y A e.Cuts,Ro.mp (fInt .i64).ty B C e.Nodes]∧True) ?_ ?_)))))
 refine rgS d [16] ?_
 have d:=d.drew
 have T:=d.fx
 refine bd j λaj ay j=>bd j λbu aa j=>bd j λbw ab j=>bd j λaZ az j=>bd j λak ad j=>jO [0,2,4,7,10,12] [2,4,8,11,13,55,57,59,62,65,67] (L':=[k2h q,k26 f,k2q u,k2r x,(13,pt n 0),(55,pt n 0),(57,pt f 0),(59,vi q),(62,.string (G)),(65,pt f 0),(67,vi q)]) (listed':=(mU 17 5269)) (fuel:=11) b T kr (by intro c a w t v h; cases t<;>exact h) kr rfl λa b=>atk 1 (some 56) b T rfl (vld 0 0 0) λa b=>?_
 refine atk 3 (some 58) b T rfl (vld 3 0 0) λa b=>?_
 obtain ⟨al,am,hvx39,hrx39⟩:=sB Tryz.prog lB.ty (L:=[k2h q,k26 f,k2q u,k2r x,(13,pt n 0),(55,pt n 0),(56,.slice none 0 0),(57,pt f 0),(58,.slice y (e.Cuts).length A),(59,vi q),(62,.string (G)),(65,pt f 0),(67,vi q)]) (o:=⟨(some 60),(Go.Op.slice 66 (Go.Operand.tmp 58) none (some (Go.Operand.tmp 59)) none),66,"span.go:120",#[(Go.Edge.mk 3 Go.Ground.data),(Go.Edge.mk 4 Go.Ground.data)],none⟩) (E:=9) (lo:=0) (hi:=q) rfl (d.get 2 rfl:Ro lB.ty _ _ y A e.Cuts).1 rfl rfl rfl ⟨_,rfl⟩ ay kr kr
 have d:=d.add (m:=Ro.mp lB.ty al am aj) (hrx39 _ _ (d.get 2 rfl))
 refine atk 5 (some 60) b (d.sx (rg 4) (ra 1 4)) rfl (λw _=>hvx39 w) λa b=>atk 11 (some 66) b (d.sx (rg 4) (ra 1 4)) rfl (vld 3 0 0) λa b=>?_
 obtain ⟨a0,a2,hvx49,hrx49⟩:=sB Tryz.prog lB.ty (L:=[k2h q,k26 f,k2q u,k2r x,(13,pt n 0),(55,pt n 0),(56,.slice none 0 0),(57,pt f 0),(58,.slice y (e.Cuts).length A),(59,vi q),(60,.slice al aj.length am),(62,.string (G)),(65,pt f 0),(66,.slice y (e.Cuts).length A),(67,vi q)]) (o:=⟨(some 68),(Go.Op.slice 66 (Go.Operand.tmp 66) (some (Go.Operand.tmp 67)) none none),66,"span.go:120",#[(Go.Edge.mk 11 Go.Ground.data),(Go.Edge.mk 12 Go.Ground.data)],none⟩) (E:=9) (lo:=q) (hi:=((e.Cuts).length:Int)) rfl (d.get 3 rfl:Ro lB.ty _ _ y A e.Cuts).1 rfl rfl ⟨_,rfl⟩ rfl az kr kr
 have d:=d.add (m:=Ro.mp lB.ty a0 a2 aZ) (hrx49 _ _ (d.get 3 rfl))
 refine atk 13 (some 68) b (d.sx (rg 4) (ra 2 4)) rfl (λw _=>hvx49 w) λa b=>G7 6 8 b rfl rfl ?_ ?_
 have d:=d.addNil 9 1
 refine kI (ty:=lB.ty) b d kr 0 2 1 rfl rfl rfl kr kr rfl rfl rfl aa kr (i:=Tryz.t9) (z := .string (empty)) kr kr kr λa3 a4 κ a w b d=>⟨λ_=>(d.sx (ra 1 4) (ra 3 4)),?_⟩
 refine ago 8 b rfl (oU (t:=lB) (z := .string (empty)) (l:=[G]) (vs:=[(0,.string (G))]) (cells := #[.string (G)]) (E:=9) b d kr rfl kr kr rfl kr kr kr kr kr λa5 κ a w b d=>⟨λ_=>(d.sx (ra 2 4) (ra 4 4)),?_⟩)
 refine ago 9 b rfl (kI (ty:=lB.ty) b d kr 1 1 0 rfl rfl rfl kr kr rfl rfl rfl ab kr (i:=Tryz.t9) (z := .string (empty)) kr kr kr λa9 ba κ a w b d=>⟨λ_=>(d.sx (ra 2 4) (ra 5 4)),?_⟩)
 refine ago 14 b rfl (kI (ty:=lB.ty) b d kr 1 0 3 rfl rfl rfl kr kr rfl rfl rfl ad kr (i:=Tryz.t9) (z := .string (empty)) kr kr kr λP Q κ a w b d=>⟨λ_=>(d.sx (ra 2 4) (ra 6 4)),?_⟩)
 refine anp [15] [2,4,8,11,13,69,70] b (d.sx (ra 2 4) (ra 6 4)) λa b=>ago 16 b rfl (wst b d 2 0 1 [sl P ak.length Q] (sgN 1 jE) λa w b d=>⟨notE,?_⟩)
 refine kM ?_
 cases j
 exact ⟨_,P,Q,b.kp [2,4,8,11,13],d.sp [2,3,4,5,1] [0,7,6,8,9],trivial⟩
 refine oU (t:=lB) (z := .string (empty)) (l:=[G]) (vs:=[(0,.string (G))]) (cells := #[.string (G)]) (E:=9) b d kr rfl kr kr rfl kr kr kr kr kr λa5 κ a w b d=>⟨λ_=>(d.sx (ra 1 4) (ra 3 4)),?_⟩
 refine ago 6 b rfl ?_
 have d:=d.addNil 9 1
 refine kI (ty:=lB.ty) b d kr 0 3 2 rfl rfl rfl kr kr rfl rfl rfl aa kr (i:=Tryz.t9) (z := .string (empty)) kr kr kr λa3 a4 κ a w b d=>⟨λ_=>(d.sx (ra 2 4) (ra 4 4)),?_⟩
 refine ago 9 b rfl (kI (ty:=lB.ty) b d kr 0 0 1 rfl rfl rfl kr kr rfl rfl rfl ab kr (i:=Tryz.t9) (z := .string (empty)) kr kr kr λa9 ba κ a w b d=>⟨λ_=>(d.sx (ra 2 4) (ra 5 4)),?_⟩)
 refine ago 14 b rfl (kI (ty:=lB.ty) b d kr 0 0 3 rfl rfl rfl kr kr rfl rfl rfl ad kr (i:=Tryz.t9) (z := .string (empty)) kr kr kr λP Q κ a w b d=>⟨λ_=>(d.sx (ra 2 4) (ra 6 4)),?_⟩)
 refine anp [15] [2,4,8,11,13,69,70] b (d.sx (ra 2 4) (ra 6 4)) λa b=>ago 16 b rfl (wst b d 2 0 1 [sl P ak.length Q] (sgN 1 jE) λa w b d=>⟨notE,?_⟩)
 refine kM ?_
 cases j
 exact ⟨_,P,Q,b.kp [2,4,8,11,13],d.sp [2,3,4,5,0] [0,7,6,8,9],trivial⟩
 rintro a w ⟨κ,D,F,b,d,-⟩
 refine aY _ _ (qs λ_ be=>bd H λU k H=>kJ (λa w => ∃κ J K,Fr (89) [] [k2q u,(13,pt n 0)] a∧SS [] V O κ w [.box n 68 [sl D I.length F,sl J U.length K],.box u 68 [sl none 0 0,sl none 0 0],.tok J 3 1 U.length K,.tok D 9 1 I.length F] [Ro.mp lB.ty D F I,Ro.mp (fInt .i64).ty J K U,Ro.mp lB.ty none 0 ([]:List ByteArray),Ro.mp (fInt .i64).ty none 0 ([]:List Int)]∧True) ?_ ?_)
 refine rgS d [17] ?_
 have d:=d.drew
 have T:=d.fx
 refine bd k λan aA k=>bd k λbx ae k=>bd k λbz af k=>bd k λbf aB k=>bd k λao ah k=>jO [0,2,4,7,11,13] [8,13,71,73,75,78,82,84] (L':=[k2q u,(13,pt n 0),(71,pt n 1),(73,pt f 1),(75,vi q),(78,pt x 2),(82,pt f 1),(84,vi q)]) (listed':=(mU 18 10389)) (fuel:=12) b T kr (by intro c a w t v h; cases t<;>exact h) kr rfl λa b=>atk 1 (some 72) b T rfl (vld 0 1 0) λa b=>atk 3 (some 74) b T rfl (vld 3 1 0) λa b=>?_
 obtain ⟨aq,ar,hvx60,hrx60⟩:=sB Tryz.prog (fInt .i64).ty (L:=[k2q u,(13,pt n 0),(71,pt n 1),(72,.slice none 0 0),(73,pt f 1),(74,.slice B (e.Nodes).length C),(75,vi q),(78,pt x 2),(82,pt f 1),(84,vi q)]) (o:=⟨(some 76),(Go.Op.slice 29 (Go.Operand.tmp 74) none (some (Go.Operand.tmp 75)) none),29,"span.go:121",#[(Go.Edge.mk 3 Go.Ground.data),(Go.Edge.mk 4 Go.Ground.data)],none⟩) (E:=3) (lo:=0) (hi:=q) rfl (d.get 4 rfl:Ro (fInt .i64).ty _ _ B C e.Nodes).1 rfl rfl rfl ⟨_,rfl⟩ aA kr kr
 have d:=d.add (m:=Ro.mp (fInt .i64).ty aq ar an) (hrx60 _ _ (d.get 4 rfl))
 refine atk 5 (some 76) b (d.sx (rg 4) (ra 1 5)) rfl (λw _=>hvx60 w) λa b=>atk 8 (some 79) b (d.sx (rg 4) (ra 1 5)) rfl (vld 1 2 0) λa b=>atk 12 (some 83) b (d.sx (rg 4) (ra 1 5)) rfl (vld 3 1 0) λa b=>?_
 obtain ⟨bg,bh,hvx70,hrx70⟩:=sB Tryz.prog (fInt .i64).ty (L:=[k2q u,(13,pt n 0),(71,pt n 1),(72,.slice none 0 0),(73,pt f 1),(74,.slice B (e.Nodes).length C),(75,vi q),(76,.slice aq an.length ar),(78,pt x 2),(79,vi g.1.Node),(82,pt f 1),(83,.slice B (e.Nodes).length C),(84,vi q)]) (o:=⟨(some 85),(Go.Op.slice 29 (Go.Operand.tmp 83) (some (Go.Operand.tmp 84)) none none),29,"span.go:121",#[(Go.Edge.mk 12 Go.Ground.data),(Go.Edge.mk 13 Go.Ground.data)],none⟩) (E:=3) (lo:=q) (hi:=((e.Nodes).length:Int)) rfl (d.get 5 rfl:Ro (fInt .i64).ty _ _ B C e.Nodes).1 rfl rfl ⟨_,rfl⟩ rfl aB kr kr
 have d:=d.add (m:=Ro.mp (fInt .i64).ty bg bh bf) (hrx70 _ _ (d.get 5 rfl))
 refine atk 14 (some 85) b (d.sx (rg 4) (ra 2 5)) rfl (λw _=>hvx70 w) λa b=>G7 6 9 b rfl rfl ?_ ?_
 have d:=d.addNil 3 1
 refine kI (ty:=(fInt .i64).ty) b d kr 0 3 1 rfl rfl rfl kr kr rfl rfl rfl ae kr (i:=Tryz.t3) (z:=vi 0) kr kr kr λbi bj κ a w b d=>⟨λ_=>(d.sx (ra 1 4) (ra 3 5)),?_⟩
 refine ago 9 b rfl (oU (t:=(fInt .i64)) (z:=vi 0) (l:=[g.1.Node]) (vs:=[(0,vi g.1.Node)]) (cells := #[vi g.1.Node]) (E:=3) b d kr rfl kr kr rfl kr kr kr kr kr λbl κ a w b d=>⟨λ_=>(d.sx (ra 2 4) (ra 4 5)),?_⟩)
 refine ago 10 b rfl (kI (ty:=(fInt .i64).ty) b d kr 1 1 0 rfl rfl rfl kr kr rfl rfl rfl af kr (i:=Tryz.t3) (z:=vi 0) kr kr kr λbm bn κ a w b d=>⟨λ_=>(d.sx (ra 2 4) (ra 5 5)),?_⟩)
 refine ago 15 b rfl (kI (ty:=(fInt .i64).ty) b d kr 1 0 3 rfl rfl rfl kr kr rfl rfl rfl ah kr (i:=Tryz.t3) (z:=vi 0) kr kr kr λR S κ a w b d=>⟨λ_=>(d.sx (ra 2 4) (ra 6 5)),?_⟩)
 refine anp [16] [8,13,86,87] b (d.sx (ra 2 4) (ra 6 5)) λa b=>ago 17 b rfl (wst b d 2 1 1 [sl R ao.length S] (sgN 1 jE) λa w b d=>⟨notE,?_⟩)
 refine kM ?_
 cases k
 exact ⟨_,R,S,b.kp [8,13],d.sp [2,4,1,6] [6,0,8,7],trivial⟩
 refine oU (t:=(fInt .i64)) (z:=vi 0) (l:=[g.1.Node]) (vs:=[(0,vi g.1.Node)]) (cells := #[vi g.1.Node]) (E:=3) b d kr rfl kr kr rfl kr kr kr kr kr λbl κ a w b d=>⟨λ_=>(d.sx (ra 1 4) (ra 3 5)),?_⟩
 refine ago 6 b rfl ?_
 have d:=d.addNil 3 1
 refine kI (ty:=(fInt .i64).ty) b d kr 0 4 2 rfl rfl rfl kr kr rfl rfl rfl ae kr (i:=Tryz.t3) (z:=vi 0) kr kr kr λbi bj κ a w b d=>⟨λ_=>(d.sx (ra 2 4) (ra 4 5)),?_⟩
 refine ago 10 b rfl (kI (ty:=(fInt .i64).ty) b d kr 0 0 1 rfl rfl rfl kr kr rfl rfl rfl af kr (i:=Tryz.t3) (z:=vi 0) kr kr kr λbm bn κ a w b d=>⟨λ_=>(d.sx (ra 2 4) (ra 5 5)),?_⟩)
 refine ago 15 b rfl (kI (ty:=(fInt .i64).ty) b d kr 0 0 3 rfl rfl rfl kr kr rfl rfl rfl ah kr (i:=Tryz.t3) (z:=vi 0) kr kr kr λR S κ a w b d=>⟨λ_=>(d.sx (ra 2 4) (ra 6 5)),?_⟩)
 refine anp [16] [8,13,86,87] b (d.sx (ra 2 4) (ra 6 5)) λa b=>ago 17 b rfl (wst b d 2 1 1 [sl R ao.length S] (sgN 1 jE) λa w b d=>⟨notE,?_⟩)
 refine kM ?_
 cases k
 exact ⟨_,R,S,b.kp [8,13],d.sp [2,4,0,6] [6,0,8,7],trivial⟩
 rintro a w ⟨κ,J,K,b,d,-⟩
 refine be _ _ (qr λ_ bo=>wc (wls b d 0 0 2 λa b=>wc (wst b d 1 0 2 (k04 D I.length F J U.length K) (sgN 2 jE) λa w b d=>wp 1 [8,9] b λa b=>bo _ _ (rt ?_))))
 have hS':=d
 cases H
 exact (j7 b d (sZ Tryz.results60 (rvs b hS' 1 0 2) (rvt b)) ⟨D,F,J,K,rfl,(d.pick [0,1] kr).ro,d.newC [3,2] dc kr⟩)
theorem D9 (N){R}{D}(am:lL R D)(f:jA)(a6)(e)(l)(n)(q)(s)(hR : ∀m∈([Ro.mp lB.ty l n f.Cuts,Ro.mp (fInt .i64).ty q s f.Nodes]:List MP),m.p R D){r}(H:M.vI N f a6 e=some r) :
    Calls Tryz.prog 61 #[.agg (flat (k04 l (f.Cuts).length n q (f.Nodes).length s)).toArray,vi a6,vi e] D (kQ [] R D λv κ w => ∃F G I J,v = .tuple #[.agg (flat (k04 F (r.1.Cuts).length G I (r.1.Nodes).length J)).toArray,vi r.2]∧(∀m∈([Ro.mp lB.ty F G r.1.Cuts,Ro.mp (fInt .i64).ty I J r.1.Nodes]:List MP),m.p κ w)∧t5 D κ w [.tok F 9 1 (r.1.Cuts).length G,.tok I 3 1 (r.1.Nodes).length J]):=by
 have d:=SS.start am hR
 refine en Tryz.func61 rfl Tryz.ntmps61 λa b=>?_
 unfold M.vI at H
 refine qr λ_ h8=>wc (wbx b d (k04 l (f.Cuts).length n q (f.Nodes).length s) (sgN 2 jE) λg a w b d=>wc (wal b d k05 (sgN 2 jE) λk a w b d=>wp 1 [1,2,3,6] b λa b=>h8 _ _ (qs λ_ ao=>qr λ_ aq=>wc (wls b d 1 0 2 λa b=>wp 1 [2,3,6,10,11] b λa b=>bd H λaS ab H=>wc (jS b d kr kr (xB N d.fresh f a6 l n q s ((d.pick [0,1] kr).ro) ab) ?_)))))
 rintro _ κ w a ⟨rfl,hR,hN⟩ b d hO
 refine wp 1 [2,3,6,8] b λa b=>aq _ _ (qr λ_ ar=>wp 2 [2,3,6,8,14] b λa b=>ar _ _ (bc b H (λhb H=>?_) λhb H=>?_))
 refine qr λ_ au=>wp 2 [6,15,16] b λa b=>wc (wst b d 0 0 2 k05 (sgN 2 jE) λa w b d=>wp 1 [6,7] b λa b=>au _ _ (rt ?_))
 have hS':=d
 have d:=d.add (m:=Ro.mp lB.ty none 0 ([]:List ByteArray)) (Ro.nil lB.ty _ _)
 have d:=d.add (m:=Ro.mp (fInt .i64).ty none 0 ([]:List Int)) (Ro.nil (fInt .i64).ty _ _)
 have d:=d.addNil 9 1
 have d:=d.addNil 3 1
 cases H
 exact (j7 b d (sZ Tryz.results61 (rvs b hS' 0 0 2) (rvt b)) ⟨none,0,none,0,rfl,(d.pick [1,0] kr).ro,d.newC [1,0] dc kr⟩)
 refine sk (ao _ _ (qs λ_ av=>qr λ_ aw=>bd H λax u H=>kA (λa w => ∃κ:Gh,Fr (70) [] [k2h e,k25 g,k29 k,(25,vb ax)] a∧SS [] R D κ w [.box k 68 [sl none 0 0,sl none 0 0],.box g 68 [sl l (f.Cuts).length n,sl q (f.Nodes).length s]] [Ro.mp lB.ty none 0 ([]:List ByteArray),Ro.mp (fInt .i64).ty none 0 ([]:List Int),Ro.mp lB.ty l n f.Cuts,Ro.mp (fInt .i64).ty q s f.Nodes]∧True) ?_ ?_))
 refine wp 3 [2,3,6,19] b λa b=>bs u (λhb u=>?_) λhb u=>?_
 have b:=b.bv 19 hb
 refine wp 6 [2,3,6,25] b λa b=>nl ?_
 cases u
 have d:=d.add (m:=Ro.mp lB.ty none 0 ([]:List ByteArray)) (Ro.nil lB.ty _ _)
 have d:=d.add (m:=Ro.mp (fInt .i64).ty none 0 ([]:List Int)) (Ro.nil (fInt .i64).ty _ _)
 exact ⟨_,b.kp [2,3,6,25],d.sp [0,1] [1,0,2,3],trivial⟩
 have b:=b.bv 19 hb
 refine wp 2 [2,3,6,19,20,21] b λa b=>wcg b (wld b d 1 0 0 λa b=>wp 3 [2,3,6,25] b λa b=>nl ?_)
 cases u
 have d:=d.add (m:=Ro.mp lB.ty none 0 ([]:List ByteArray)) (Ro.nil lB.ty _ _)
 have d:=d.add (m:=Ro.mp (fInt .i64).ty none 0 ([]:List Int)) (Ro.nil (fInt .i64).ty _ _)
 exact ⟨_,b.kp [2,3,6,25],d.sp [0,1] [1,0,2,3],trivial⟩
 rintro a w ⟨κ,b,d,-⟩
 refine aw _ _ (bc b H (λhb H=>?_) λhb H=>?_)
 refine qr λ_ ay=>wp 1 [6,26] b λa b=>wc (wst b d 0 0 2 k05 (sgN 2 jE) λa w b d=>wp 1 [6,7] b λa b=>ay _ _ (rt ?_))
 have hS':=d
 have d:=d.addNil 9 1
 have d:=d.addNil 3 1
 cases H
 exact (j7 b d (sZ Tryz.results61 (rvs b hS' 0 0 2) (rvt b)) ⟨none,0,none,0,rfl,(d.pick [0,1] kr).ro,d.newC [1,0] dc kr⟩)
 refine sk (av _ _ (qs λ_ az=>qs λ_ aA=>rgS d [] ?_))
 have d:=d.drew
 have x:=d.fx
 refine jO [0,2,5,7,8] [2,3,6,27,29,32,35] (L':=[k2h e,k25 g,k29 k,(27,pt g 1),(29,vi e),(32,pt g 1),(35,vi (i64.wrap (e+1)))]) (listed':=(mU 12 421)) (fuel:=7) b x kr (by intro c a w t v h; cases t<;>exact h) kr rfl λa b=>atk 1 (some 28) b x rfl (vld 1 1 0) λa b=>bd H λaB y H=>?_
 obtain ⟨aT,aU,B⟩:=d.ptr 3 rfl y
 refine atk 3 (some 30) b (d.sx [0,1] (rg 4)) rfl (λw _=>mN (E:=3) (sz:=1) rfl B rfl kr rfl y kr kr w) λa b=>atk 4 (some 31) b (d.sx [0,1] (rg 4)) rfl (qG (t:=(fInt .i64)) 3 0 (v:=vi aB) rfl rfl B rfl y kr kr kr) λa b=>atk 6 (some 33) b (d.sx [0,1] (rg 4)) rfl (vld 1 1 0) λa b=>bd H λaD A H=>?_
 obtain ⟨aV,aW,C⟩:=d.ptr 3 rfl A
 refine atk 9 (some 36) b (d.sx [0,1] (rg 4)) rfl (λw _=>mN (E:=3) (sz:=1) rfl C rfl kr rfl A kr kr w) λa b=>atk 10 (some 37) b (d.sx [0,1] (rg 4)) rfl (qG (t:=(fInt .i64)) 3 0 (v:=vi aD) rfl rfl C rfl A kr kr kr) λa b=>anp [11] [2,3,6,38] b (d.sx [0,1] (rg 4)) λa b=>kM (aA _ _ (bc b H (λhb H=>?_) λhb H=>?_))
 refine qr λ_ aE=>wp 1 [6,39] b λa b=>wc (wst b d 0 0 2 k05 (sgN 2 jE) λa w b d=>wp 1 [6,7] b λa b=>aE _ _ (rt ?_))
 have hS':=d
 have d:=d.addNil 9 1
 have d:=d.addNil 3 1
 cases H
 exact (j7 b d (sZ Tryz.results61 (rvs b hS' 0 0 2) (rvt b)) ⟨none,0,none,0,rfl,(d.pick [0,1] kr).ro,d.newC [1,0] dc kr⟩)
 refine sk (az _ _ (qr λ_ aF=>wp 1 [2,3,6,40] b λa b=>wc (wal b d k05 (sgN 2 jE) λj a w b d=>wc (wst b d 0 0 2 k05 (sgN 2 jE) λa w b d=>aF _ _ (qs λ_ aG=>rgS d [14] ?_)))))
 have d:=d.drew
 have x:=d.fx
 refine bd H λS ad H=>bd H λaX ae H=>bd H λaH af H=>bd H λT ah H=>jO [0,2,4,7,9,10] [2,3,6,9,41,43,45,48,51] (L':=[k2h e,k25 g,k29 k,(9,pt j 0),(41,pt j 0),(43,pt g 0),(45,vi e),(48,pt g 0),(51,vi (i64.wrap (e+1)))]) (listed':=(mU 15 1685)) (fuel:=9) b x kr (by intro c a w t v h; cases t<;>exact h) kr rfl λa b=>atk 1 (some 42) b x rfl (vld 0 0 0) λa b=>atk 3 (some 44) b x rfl (vld 2 0 0) λa b=>?_
 obtain ⟨U,V,hvx33,hrx33⟩:=sB Tryz.prog lB.ty (L:=[k2h e,k25 g,k29 k,(9,pt j 0),(41,pt j 0),(42,.slice none 0 0),(43,pt g 0),(44,.slice l (f.Cuts).length n),(45,vi e),(48,pt g 0),(51,vi (i64.wrap (e+1)))]) (o:=⟨(some 46),(Go.Op.slice 66 (Go.Operand.tmp 44) none (some (Go.Operand.tmp 45)) none),66,"span.go:137",#[(Go.Edge.mk 3 Go.Ground.data),(Go.Edge.mk 4 Go.Ground.data)],none⟩) (E:=9) (lo:=0) (hi:=e) rfl (d.get 2 rfl:Ro lB.ty _ _ l n f.Cuts).1 rfl rfl rfl ⟨_,rfl⟩ ad kr kr
 have d:=d.add (m:=Ro.mp lB.ty U V S) (hrx33 _ _ (d.get 2 rfl))
 refine atk 5 (some 46) b (d.sx [0,1,2] (ra 1 4)) rfl (λw _=>hvx33 w) λa b=>atk 8 (some 49) b (d.sx [0,1,2] (ra 1 4)) rfl (vld 2 0 0) λa b=>?_
 obtain ⟨aI,aJ,hvx39,hrx39⟩:=sB Tryz.prog lB.ty (L:=[k2h e,k25 g,k29 k,(9,pt j 0),(41,pt j 0),(42,.slice none 0 0),(43,pt g 0),(44,.slice l (f.Cuts).length n),(45,vi e),(46,.slice U S.length V),(48,pt g 0),(49,.slice l (f.Cuts).length n),(51,vi (i64.wrap (e+1)))]) (o:=⟨(some 52),(Go.Op.slice 66 (Go.Operand.tmp 49) (some (Go.Operand.tmp 51)) none none),66,"span.go:137",#[(Go.Edge.mk 8 Go.Ground.data),(Go.Edge.mk 10 Go.Ground.data)],none⟩) (E:=9) (lo:=i64.wrap (e+1)) (hi:=((f.Cuts).length:Int)) rfl (d.get 3 rfl:Ro lB.ty _ _ l n f.Cuts).1 rfl rfl ⟨_,rfl⟩ rfl af kr kr
 have d:=d.add (m:=Ro.mp lB.ty aI aJ aH) (hrx39 _ _ (d.get 3 rfl))
 refine atk 11 (some 52) b (d.sx [0,1,2] (ra 2 4)) rfl (λw _=>hvx39 w) λa b=>ago 6 b rfl ?_
 have d:=d.addNil 9 1
 refine kI (ty:=lB.ty) b d kr 0 2 1 rfl rfl rfl kr kr rfl rfl rfl ae kr (i:=Tryz.t9) (z := .string (empty)) kr kr kr λaY aZ κ a w b d=>⟨λ_=>(d.sx [1,2,3] (ra 3 4)),?_⟩
 refine ago 12 b rfl (kI (ty:=lB.ty) b d kr 0 0 1 rfl rfl rfl kr kr rfl rfl rfl ah kr (i:=Tryz.t9) (z := .string (empty)) kr kr kr λK O κ a w b d=>⟨λ_=>(d.sx [1,2,3] (ra 4 4)),?_⟩)
 refine anp [13] [2,3,6,9,53,54] b (d.sx [1,2,3] (ra 4 4)) λa b=>ago 14 b rfl (wst b d 1 0 1 [sl K T.length O] (sgN 1 jE) λa w b d=>⟨notE,?_⟩)
 refine kM (aG _ _ (qs λ_ aL=>rgS d [14] ?_))
 have d:=d.drew
 have x:=d.fx
 refine bd H λW ai H=>bd H λa0 aj H=>bd H λaM ak H=>bd H λX al H=>jO [0,2,4,7,9,10] [6,9,55,57,59,62,65] (L':=[k29 k,(9,pt j 0),(55,pt j 1),(57,pt g 1),(59,vi e),(62,pt g 1),(65,vi (i64.wrap (e+1)))]) (listed':=(mU 15 1685)) (fuel:=9) b x kr (by intro c a w t v h; cases t<;>exact h) kr rfl λa b=>atk 1 (some 56) b x rfl (vld 0 1 0) λa b=>atk 3 (some 58) b x rfl (vld 2 1 0) λa b=>?_
 obtain ⟨Y,Z,hvx46,hrx46⟩:=sB Tryz.prog (fInt .i64).ty (L:=[k29 k,(9,pt j 0),(55,pt j 1),(56,.slice none 0 0),(57,pt g 1),(58,.slice q (f.Nodes).length s),(59,vi e),(62,pt g 1),(65,vi (i64.wrap (e+1)))]) (o:=⟨(some 60),(Go.Op.slice 29 (Go.Operand.tmp 58) none (some (Go.Operand.tmp 59)) none),29,"span.go:138",#[(Go.Edge.mk 3 Go.Ground.data),(Go.Edge.mk 4 Go.Ground.data)],none⟩) (E:=3) (lo:=0) (hi:=e) rfl (d.get 7 rfl:Ro (fInt .i64).ty _ _ q s f.Nodes).1 rfl rfl rfl ⟨_,rfl⟩ ai kr kr
 have d:=d.add (m:=Ro.mp (fInt .i64).ty Y Z W) (hrx46 _ _ (d.get 7 rfl))
 refine atk 5 (some 60) b (d.sx [1,2,3] (ra 1 8)) rfl (λw _=>hvx46 w) λa b=>atk 8 (some 63) b (d.sx [1,2,3] (ra 1 8)) rfl (vld 2 1 0) λa b=>?_
 obtain ⟨aO,aP,hvx52,hrx52⟩:=sB Tryz.prog (fInt .i64).ty (L:=[k29 k,(9,pt j 0),(55,pt j 1),(56,.slice none 0 0),(57,pt g 1),(58,.slice q (f.Nodes).length s),(59,vi e),(60,.slice Y W.length Z),(62,pt g 1),(63,.slice q (f.Nodes).length s),(65,vi (i64.wrap (e+1)))]) (o:=⟨(some 66),(Go.Op.slice 29 (Go.Operand.tmp 63) (some (Go.Operand.tmp 65)) none none),29,"span.go:138",#[(Go.Edge.mk 8 Go.Ground.data),(Go.Edge.mk 10 Go.Ground.data)],none⟩) (E:=3) (lo:=i64.wrap (e+1)) (hi:=((f.Nodes).length:Int)) rfl (d.get 8 rfl:Ro (fInt .i64).ty _ _ q s f.Nodes).1 rfl rfl ⟨_,rfl⟩ rfl ak kr kr
 have d:=d.add (m:=Ro.mp (fInt .i64).ty aO aP aM) (hrx52 _ _ (d.get 8 rfl))
 refine atk 11 (some 66) b (d.sx [1,2,3] (ra 2 8)) rfl (λw _=>hvx52 w) λa b=>ago 6 b rfl ?_
 have d:=d.addNil 3 1
 refine kI (ty:=(fInt .i64).ty) b d kr 0 7 1 rfl rfl rfl kr kr rfl rfl rfl aj kr (i:=Tryz.t3) (z:=vi 0) kr kr kr λa2 a3 κ a w b d=>⟨λ_=>(d.sx [2,3,4] (ra 3 8)),?_⟩
 refine ago 12 b rfl (kI (ty:=(fInt .i64).ty) b d kr 0 0 1 rfl rfl rfl kr kr rfl rfl rfl al kr (i:=Tryz.t3) (z:=vi 0) kr kr kr λP Q κ a w b d=>⟨λ_=>(d.sx [2,3,4] (ra 4 8)),?_⟩)
 refine anp [13] [6,9,67,68] b (d.sx [2,3,4] (ra 4 8)) λa b=>ago 14 b rfl (wst b d 2 1 1 [sl P X.length Q] (sgN 1 jE) λa w b d=>⟨notE,?_⟩)
 refine kM (aL _ _ (qr λ_ aQ=>wc (wls b d 2 0 2 λa b=>wc (wst b d 3 0 2 (k04 K T.length O P X.length Q) (sgN 2 jE) λa w b d=>wp 1 [6,7] b λa b=>aQ _ _ (rt ?_)))))
 have hS':=d
 cases H
 exact (j7 b d (sZ Tryz.results61 (rvs b hS' 3 0 2) (rvt b)) ⟨K,O,P,Q,rfl,(d.pick [4,0] kr).ro,d.newC [1,0] dc kr⟩)
theorem xO (N){G}{C}(V:lL G C)(d:jA)(R)(n)(e)(o)(q)(k)(l)(S : ∀m∈([Ro.mp lB.ty o q d.Cuts,Ro.mp (fInt .i64).ty k l d.Nodes]:List MP),m.p G C){r}(H:M.vB N d R n e=some r) :
    Calls Tryz.prog 62 #[.agg (flat (k04 o (d.Cuts).length q k (d.Nodes).length l)).toArray,vi R,vi n,vi e] C (kQ [] G C λv κ w => ∃I J K L,v = .tuple #[.agg (flat (k04 I (r.1.Cuts).length J K (r.1.Nodes).length L)).toArray,vi r.2]∧(∀m∈([Ro.mp lB.ty I J r.1.Cuts,Ro.mp (fInt .i64).ty K L r.1.Nodes]:List MP),m.p κ w)∧t5 C κ w [.tok I 9 1 (r.1.Cuts).length J,.tok K 3 1 (r.1.Nodes).length L]):=by
 have c:=SS.start V S
 refine en Tryz.func62 rfl Tryz.ntmps62 λa b=>?_
 unfold M.vB at H
 refine qr λ_ h9=>wc (wbx b c (k04 o (d.Cuts).length q k (d.Nodes).length l) (sgN 2 jE) λs a w b c=>wc (wal b c k05 (sgN 2 jE) λf a w b c=>wp 1 [1,2,3,4,8] b λa b=>h9 _ _ (qs λ_ ab=>qr λ_ ad=>wc (wls b c 1 0 2 λa b=>wp 1 [1,2,3,4,8,12,13] b λa b=>bd H λaF X H=>wc (jS b c kr kr (xB N c.fresh d R o q k l ((c.pick [0,1] kr).ro) X) ?_)))))
 rintro _ κ w a ⟨rfl,S,T⟩ b c hO
 refine wp 1 [1,2,3,4,8,10] b λa b=>ad _ _ (qr λ_ af=>wp 2 [1,2,3,4,8,10,16] b λa b=>af _ _ (bc b H (λhb H=>?_) λhb H=>?_))
 refine qr λ_ ah=>wp 2 [8,17,18] b λa b=>wc (wst b c 0 0 2 k05 (sgN 2 jE) λa w b c=>wp 1 [8,9] b λa b=>ah _ _ (rt ?_))
 have hS':=c
 have c:=c.add (m:=Ro.mp lB.ty none 0 ([]:List ByteArray)) (Ro.nil lB.ty _ _)
 have c:=c.add (m:=Ro.mp (fInt .i64).ty none 0 ([]:List Int)) (Ro.nil (fInt .i64).ty _ _)
 have c:=c.addNil 9 1
 have c:=c.addNil 3 1
 cases H
 exact (j7 b c (sZ Tryz.results62 (rvs b hS' 0 0 2) (rvt b)) ⟨none,0,none,0,rfl,(c.pick [1,0] kr).ro,c.newC [1,0] dc kr⟩)
 refine sk (ab _ _ (qs λ_ ai=>qr λ_ aj=>bd H λak u H=>kA (λa w => ∃κ:Gh,Fr (53) [] [k2a R,k2h n,(3,vi e),k26 s,k2q f,(27,vb ak)] a∧SS [] G C κ w [.box f 68 [sl none 0 0,sl none 0 0],.box s 68 [sl o (d.Cuts).length q,sl k (d.Nodes).length l]] [Ro.mp lB.ty none 0 ([]:List ByteArray),Ro.mp (fInt .i64).ty none 0 ([]:List Int),Ro.mp lB.ty o q d.Cuts,Ro.mp (fInt .i64).ty k l d.Nodes]∧True) ?_ ?_))
 refine wp 3 [1,2,3,4,8,21] b λa b=>bs u (λhb u=>?_) λhb u=>?_
 have b:=b.bv 21 hb
 refine wp 6 [1,2,3,4,8,27] b λa b=>nl ?_
 cases u
 have c:=c.add (m:=Ro.mp lB.ty none 0 ([]:List ByteArray)) (Ro.nil lB.ty _ _)
 have c:=c.add (m:=Ro.mp (fInt .i64).ty none 0 ([]:List Int)) (Ro.nil (fInt .i64).ty _ _)
 exact ⟨_,b.kp [1,2,3,4,8,27],c.sp [0,1] [1,0,2,3],trivial⟩
 have b:=b.bv 21 hb
 refine wp 2 [1,2,3,4,8,21,22,23] b λa b=>wcg b (wld b c 1 1 0 λa b=>wp 3 [1,2,3,4,8,27] b λa b=>nl ?_)
 cases u
 have c:=c.add (m:=Ro.mp lB.ty none 0 ([]:List ByteArray)) (Ro.nil lB.ty _ _)
 have c:=c.add (m:=Ro.mp (fInt .i64).ty none 0 ([]:List Int)) (Ro.nil (fInt .i64).ty _ _)
 exact ⟨_,b.kp [1,2,3,4,8,27],c.sp [0,1] [1,0,2,3],trivial⟩
 rintro a w ⟨κ,b,c,-⟩
 refine aj _ _ (bc b H (λhb H=>?_) λhb H=>?_)
 refine qr λ_ al=>wp 1 [8,28] b λa b=>wc (wst b c 0 0 2 k05 (sgN 2 jE) λa w b c=>wp 1 [8,9] b λa b=>al _ _ (rt ?_))
 have hS':=c
 have c:=c.addNil 9 1
 have c:=c.addNil 3 1
 cases H
 exact (j7 b c (sZ Tryz.results62 (rvs b hS' 0 0 2) (rvt b)) ⟨none,0,none,0,rfl,(c.pick [0,1] kr).ro,c.newC [1,0] dc kr⟩)
 refine sk (ai _ _ (qs λ_ am=>qr λ_ an=>bd H λao x H=>kA (λa w => ∃κ:Gh,Fr (53) [] [k2h n,(3,vi e),k26 s,k2q f,(35,vb ao)] a∧SS [] G C κ w [.box f 68 [sl none 0 0,sl none 0 0],.box s 68 [sl o (d.Cuts).length q,sl k (d.Nodes).length l]] [Ro.mp lB.ty none 0 ([]:List ByteArray),Ro.mp (fInt .i64).ty none 0 ([]:List Int),Ro.mp lB.ty o q d.Cuts,Ro.mp (fInt .i64).ty k l d.Nodes]∧True) ?_ ?_))
 refine wp 3 [1,2,3,4,8,31] b λa b=>bs x (λhb x=>?_) λhb x=>?_
 have b:=b.bv 31 hb
 refine wp 4 [2,3,4,8,35] b λa b=>nl ?_
 cases x
 exact ⟨_,b.kp [2,3,4,8,35],c.sp [0,1] (rg 4),trivial⟩
 have b:=b.bv 31 hb
 refine wp 4 [2,3,4,8,35] b λa b=>nl ?_
 cases x
 exact ⟨_,b.kp [2,3,4,8,35],c.sp [0,1] (rg 4),trivial⟩
 rintro a w ⟨κ,b,c,-⟩
 refine an _ _ (bc b H (λhb H=>?_) λhb H=>?_)
 refine qr λ_ aq=>wp 1 [8,36] b λa b=>wc (wst b c 0 0 2 k05 (sgN 2 jE) λa w b c=>wp 1 [8,9] b λa b=>aq _ _ (rt ?_))
 have hS':=c
 have c:=c.addNil 9 1
 have c:=c.addNil 3 1
 cases H
 exact (j7 b c (sZ Tryz.results62 (rvs b hS' 0 0 2) (rvt b)) ⟨none,0,none,0,rfl,(c.pick [0,1] kr).ro,c.newC [1,0] dc kr⟩)
 refine sk (am _ _ (qs λ_ ar=>qr λ_ au=>(wp 1 [2,3,4,8,37] b λa b=>wc (wld b c 1 1 0 λa b=>jG (L':=[k2h n,(3,vi e),k26 s,k2q f,(38,.slice k (d.Nodes).length l),(39,vi n)]) 1 [2,3,4,8,38,39] b kr λa b=>bd H λW O H=>wc (kS b c kr 3 (E:=3) (sz:=1) rfl rfl rfl kr rfl O kr kr λaG aH a U b=>wc (mM (t:=(fInt .i64)) b c kr 3 0 (v:=vi W) rfl rfl U rfl O kr kr kr λa b=>jG (L':=[k2h n,(3,vi e),k26 s,k2q f,(43,vb (W==e))]) 2 [2,3,4,8,43] b kr λa b=>?_))))))
 refine au _ _ (bc b H (λhb H=>?_) λhb H=>?_)
 refine qr λ_ av=>wp 1 [8,44] b λa b=>wc (wst b c 0 0 2 k05 (sgN 2 jE) λa w b c=>wp 1 [8,9] b λa b=>av _ _ (rt ?_))
 have hS':=c
 have c:=c.addNil 9 1
 have c:=c.addNil 3 1
 cases H
 exact (j7 b c (sZ Tryz.results62 (rvs b hS' 0 0 2) (rvt b)) ⟨none,0,none,0,rfl,(c.pick [0,1] kr).ro,c.newC [1,0] dc kr⟩)
 refine sk (ar _ _ (qr λ_ aw=>wc (wls b c 1 0 2 λa b=>ME c λκ39 D hR39 Y Z aE c=>?_)))
 have hsi:=c.get 0 rfl
 refine bd H λh aa H=>wc (jS b c kr kr (EV N c.fresh d o q k l ((c.pick [3,4] kr).ro) aa) ?_)
 rintro _ κ w a ⟨j,B,g,A,rfl,S,T⟩ b c hO
 have c:=c.adds S
 have c:=c.add (m:=MP.old j D) (MP.oldC hsi T (List.mem_of_getElem? (i:=0) rfl))
 have c:=c.add (m:=MP.old g D) (MP.oldC hsi T (List.mem_of_getElem? (i:=1) rfl))
 have c:=c.addC hO T
 refine wc (wal b c k05 (sgN 2 jE) λP a w b c=>wc (wst b c 0 0 2 (k04 j (h.Cuts).length B g (h.Nodes).length A) (sgN 2 jE) λa w b c=>(aw _ _ (qr λ_ ax=>(wp 1 [2,3,8,11,47] b λa b=>wc (wld b c 0 1 0 λa b=>jG (L':=[k2q f,k2r P,(48,.slice g (h.Nodes).length A),(49,vi n),(50,vi e)]) 2 [8,11,48,49,50] b kr λa b=>bd H λay Q H=>wc (kS b c kr 3 (E:=3) (sz:=1) rfl rfl rfl kr rfl Q kr kr λaz aA a F b=>wc (CO (t:=(fInt .i64)) (y:=ay) (z:=e) (v:=vi e) (vs:=(flat [si e])) (sz:=1) b c V Y Z hR39 kr 2 3 4 0 0 rfl rfl kr rfl rfl rfl F Q rfl kr kr rfl (show mL [si e] from (sgN 1 jE)).2 rfl dc rfl rfl (nfC nfB (nfC nfT (nfC nfT (nfC nfB (nfC nfB nfN))))) (rg 4) [0,1,2] (Ra:=[Ro.mp lB.ty none 0 ([]:List ByteArray),Ro.mp (fInt .i64).ty none 0 ([]:List Int),Ro.mp lB.ty o q d.Cuts,Ro.mp (fInt .i64).ty k l d.Nodes]) (Rb:=[MP.old g D,MP.old j D,Ro.mp lB.ty j B h.Cuts]) rfl rfl (aK (aK (aC (JF (c.tokApart 2 1 F rfl rfl dc)) aN))) (Cf:=(λnn=>[.box P 68 [sl j (h.Cuts).length B,sl g nn A],.tok j 9 1 (h.Cuts).length B,.tok g 3 1 nn A,.box f 68 [sl none 0 0,sl none 0 0],.box s 68 [sl o (d.Cuts).length q,sl k (d.Nodes).length l]])) (Lf:=(λnn=>[(8,pt f 0),(11,pt P 0),(48,.slice g nn A),(49,vi n),(50,vi e),(51,.pointer (some ⟨az,(aA+toNat n*1),none⟩))])) [8,11,48,49,50,51] rfl kr λa w b c=>?_))))))))
 refine ax _ _ (qr λ_ aB=>wc (wls b c 0 0 2 λa b=>wc (wst b c 3 0 2 (k04 j (h.Cuts).length B g ((set h.Nodes (toNat n) e)).length A) (sgN 2 jE) λa w b c=>wp 1 [8,9] b λa b=>aB _ _ (rt ?_))))
 have hS':=c
 cases H
 exact (j7 b c (sZ Tryz.results62 (rvs b hS' 3 0 2) (rvt b)) ⟨j,B,g,A,rfl,(c.pick [8,0] kr).ro,c.newC [1,2] dc kr⟩)
end Go.Cf
