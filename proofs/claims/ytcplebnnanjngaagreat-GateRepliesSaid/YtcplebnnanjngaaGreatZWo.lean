/- The walks: each function returns what its model says. Printed by a program of ours. -/
import Derived.Test.YtcplebnnanjngaaGreatZSh
import Derived.Test.YtcplebnnanjngaaGreatZM1
namespace Go.Cf
open Go Go.Proofs Tryz
open _root_.Int(toNat tdiv tmod)
open _root_.List(set replicate)
open _root_.ByteArray(empty)
open Go.IntKind(i64 u64)
set_option linter.unusedVariables false
set_option maxRecDepth 20000
set_option maxHeartbeats 8000000
theorem zI (N){e}{d}(f:lG e d)(g)(h : ∀m∈([]:List MP),m.p e d){r}(H:M.wS N g=some r) :
    Calls Tryz.prog 130 #[vb g] d (kP [] e d λv κ w=>v=vi r∧(∀m∈([]:List MP),m.p κ w)∧sJ d κ w []):=by
 have c:=SS.start f h
 refine en func130 rfl ntmps130 λa b=>?_
 unfold M.wS at H
 refine qs λ_ hz=>rl (wp 1 [0] b λa b=>nl (hz _ _ (qs λ_ i=>qr λ_ j=>wp 1 [3] b λa b=>j _ _ (bc b H (λhb H=>?_) λhb H=>?_))))
 refine qr λ_ k=>wp 1 [2] b λa b=>k _ _ (rt ?_)
 cases H
 exact (j7 b c (l4 results130 (rvt b)) ⟨rfl,(c.pick [] kr).ro,c.newC [] dc kr⟩)
 refine sk (i _ _ (qr λ_ l=>wp 1 [2] b λa b=>l _ _ (rt ?_)))
 cases H
 exact (j7 b c (l4 results130 (rvt b)) ⟨rfl,(c.pick [] kr).ro,c.newC [] dc kr⟩)
theorem IR (N){h}{f}(k:lG h f)(d)(e)(g : ∀m∈([]:List MP),m.p h f){r}(H:M.zW N d e=some r) :
    Calls Tryz.prog 105 #[.agg (flat [su d.TS,si d.DC,si d.Tx]).toArray,.agg (flat [su e.TS,si e.DC,si e.Tx]).toArray] f (kP [] h f λv κ w=>v=vi r∧(∀m∈([]:List MP),m.p κ w)∧sJ f κ w []):=by
 have c:=SS.start k g
 refine en func105 rfl ntmps105 λa b=>?_
 unfold M.zW at H
 refine qr λ_ y=>wc (wbx b c [su d.TS,si d.DC,si d.Tx] (sgN 3 jD) λE a w b c=>wc (wbx b c [su e.TS,si e.DC,si e.Tx] (sgN 3 jD) λF a w b c=>wp 1 [2,3] b λa b=>y _ _ (qs λ_ z=>bk (qr λ_ A=>wp 1 [2,3,6] b λa b=>wc (wld b c 1 0 0 λa b=>wp 1 [2,3,7,8] b λa b=>wc (wld b c 0 0 0 λa b=>wp 2 [2,3,5] b λa b=>A _ _ (bc b H (λhb H=>?_) λhb H=>?_)))))))
 refine qr λ_ B=>wp 1 [3,11] b λa b=>wc (wld b c 1 0 0 λa b=>wp 1 [12,13] b λa b=>wc (wld b c 0 0 0 λa b=>wp 1 [15] b λa b=>bd H λG l H=>wc (jR b c kr kr (zI N c.fresh (decide (d.TS<e.TS)) ((c.pick [] kr).ro) l) ?_)))
 rintro _ κ w a ⟨rfl,g,n⟩ b c o
 refine wp 1 [4] b λa b=>B _ _ (rt ?_)
 cases H
 exact (j7 b c (l4 results105 (rvt b)) ⟨rfl,(c.pick [] kr).ro,c.newC [] dc kr⟩)
 refine qr λ_ q=>wp 1 [2,3,18] b λa b=>wc (wld b c 1 1 0 λa b=>wp 1 [2,3,19,20] b λa b=>wc (wld b c 0 1 0 λa b=>wp 2 [2,3,17] b λa b=>q _ _ (bc b H (λhb H=>?_) λhb H=>?_)))
 refine qr λ_ s=>wp 1 [3,23] b λa b=>wc (wld b c 1 1 0 λa b=>wp 1 [24,25] b λa b=>wc (wld b c 0 1 0 λa b=>wp 1 [27] b λa b=>bd H λC i H=>wc (jR b c kr kr (zI N c.fresh (decide (d.DC<e.DC)) ((c.pick [] kr).ro) i) ?_)))
 rintro _ κ w a ⟨rfl,g,n⟩ b c o
 refine wp 1 [4] b λa b=>s _ _ (rt ?_)
 cases H
 exact (j7 b c (l4 results105 (rvt b)) ⟨rfl,(c.pick [] kr).ro,c.newC [] dc kr⟩)
 refine qr λ_ t=>wp 1 [2,3,30] b λa b=>wc (wld b c 1 2 0 λa b=>wp 1 [2,3,31,32] b λa b=>wc (wld b c 0 2 0 λa b=>wp 2 [2,3,29] b λa b=>t _ _ (bc b H (λhb H=>?_) λhb H=>?_)))
 refine qr λ_ u=>wp 1 [3,35] b λa b=>wc (wld b c 1 2 0 λa b=>wp 1 [36,37] b λa b=>wc (wld b c 0 2 0 λa b=>wp 1 [39] b λa b=>bd H λD j H=>wc (jR b c kr kr (zI N c.fresh (decide (d.Tx<e.Tx)) ((c.pick [] kr).ro) j) ?_)))
 rintro _ κ w a ⟨rfl,g,n⟩ b c o
 refine wp 1 [4] b λa b=>u _ _ (rt ?_)
 cases H
 exact (j7 b c (l4 results105 (rvt b)) ⟨rfl,(c.pick [] kr).ro,c.newC [] dc kr⟩)
 refine sk (z _ _ (qr λ_ x=>wp 1 [4] b λa b=>x _ _ (rt ?_)))
 cases H
 exact (j7 b c (l4 results105 (rvt b)) ⟨rfl,(c.pick [] kr).ro,c.newC [] dc kr⟩)
theorem FQ (N){e}{f}{d}(l:SB e f d [] []){r}(H:M.yI N=some r) :
    Calls Tryz.prog 48 #[] d (kP e f d λv κ w => ∃g h i j k,v=pt g 0∧SS e f d κ w (k0g g h r i j k) (k0h h i r j k)):=by
 have b:=l.hS
 have p:=b.fresh
 refine en func48 rfl ntmps48 λa c=>?_
 unfold M.yI at H
 refine qr λ_ n=>wp 1 [] c λa c=>n _ _ (qs λ_ hz=>rl (wp 1 [1] c λa c=>wc (wbx c b [k37,k37,su 0] (sgN 3 jD) λo a w c b=>wp 1 [0] c λa c=>nl (hz _ _ (rt ?_)))))
 have b:=b.add (m:=Ro.mp lD none 0 ([]:List kC)) (Ro.nil lD _ _)
 have b:=b.addNil 135 4
 have b:=b.addNil 135 4
 cases H
 exact j7 c b (l4 results48 (rvt c)) ⟨o,none,0,none,0,rfl,b.sp [2,1,0] [0,0]⟩
theorem A5 (N){f}{e}(i:lG f e)(d:kC)(g)(h)(j : ∀m∈([Ro.mp jG.ty g h d.Vers]:List MP),m.p f e){r}(H:M.vY N d=some r) :
    Calls Tryz.prog 106 #[.agg (flat (k0i d g h)).toArray] e (kP [] f e λv κ w=>v = .agg (flat [su r.TS,si r.DC,si r.Tx]).toArray∧(∀m∈([]:List MP),m.p κ w)∧sJ e κ w []):=by
 have c:=SS.start i j
 refine en func106 rfl ntmps106 λa b=>?_
 unfold M.vY at H
 refine qr λ_ k=>wc (wbx b c (k0i d g h) (sgN 4 jD) λn a w b c=>wc (wal b c [su 0,si 0,si 0] (sgN 3 jD) λo a w b c=>k _ _ (qr λ_ l=>wp 1 [1,2,3] b λa b=>wc (wld b c 1 0 0 λa b=>wp 1 [1,2,4,5] b λa b=>wc (wld b c 1 1 0 λa b=>wp 1 [2,4,6,7] b λa b=>wc (wld b c 1 2 0 λa b=>wp 1 [2,9] b λa b=>wc (wst b c 0 0 3 [su d.TS,si d.DC,si d.Tx] (sgN 3 jD) λa w b c=>nl ?_)))))))
 refine l _ _ (rt ?_)
 have hS':=c
 cases H
 exact (j7 b c (l4 results106 (rvs b hS' 0 0 3)) ⟨rfl,(c.pick [] kr).ro,c.newC [] dc kr⟩)
theorem vN (N){j}{e}(o:lG j e)(d:kC)(k)(l)(x : ∀m∈([Ro.mp jG.ty k l d.Vers]:List MP),m.p j e){r}(H:M.sU N d=some r) :
    Calls Tryz.prog 103 #[.agg (flat (k0i d k l)).toArray] e (kP [] j e λv κ w => ∃f g,v = .agg (flat (k0i r f g)).toArray∧(∀m∈([Ro.mp jG.ty f g r.Vers]:List MP),m.p κ w)∧sJ e κ w [.tok f 48 6 r.Vers.length g]):=by
 have b:=SS.start o x
 refine en func103 rfl ntmps103 λa c=>?_
 unfold M.sU at H
 refine qr λ_ y=>(wc (wbx c b (k0i d k l) (sgN 4 jD) λq a w c b=>wc (wal c b k0j (sgN 4 jD) λA a w c b=>(y _ _ (qr λ_ B=>(jE (L':=[k2w q,k2x A,(3,pt q 3)]) 1 [1,2,3] c kr λa c=>wc (wld c b 1 3 0 λa c=>?_)))))))
 have b:=b.add (m:=Ro.mp jG.ty none 0 ([]:List jB)) (Ro.nil jG.ty _ _)
 have b:=b.addNil 48 6
 refine bd H λs t H=>wc (kJ (ty:=jG.ty) c b kr 0 0 1 rfl rfl rfl kr kr rfl rfl rfl t kr (i:=Tryz.t48) (z := .agg (flat (k0k empty)).toArray) kr kr kr λn h κ a w c b=>wp 1 [1,2,5,6] c λa c=>wc (wst c b 2 3 1 [sl n s.length h] (sgN 1 jD) λa w c b=>B _ _ (qr λ_ u=>wc (wls c b 2 0 4 λa c=>wc (wst c b 1 0 4 [su d.TS,si d.DC,si d.Tx,sl n s.length h] (sgN 4 jD) λa w c b=>?_)))))
 refine u _ _ (rt ?_)
 have hS':=b
 cases H
 exact (j7 c b (l4 results103 (rvs c hS' 1 0 4)) ⟨n,h,rfl,(b.pick [0] kr).ro,b.newC [0] dc kr⟩)
theorem zH (N){P}{Q}{K}(e:jC)(q:kC)(C)(D)(j)(k)(F)(G)(p)(hB:SB P Q K (k0g p C e D j k) [k3s C D e.list,k3s j k e.waiting,k3l F G q.Vers]){r}(H:M.rN N e q=some r) :
    Calls Tryz.prog 70 #[pt p 0,.agg (flat (k0i q F G)).toArray] K (kP P Q K λv κ w => ∃R S T U,v=vi r.1∧SS P Q K κ w (k0g p R r.2 S T U) (k0h R S r.2 T U)):=by
 have d:=hB.hS
 have a2:=d.fresh
 refine en func70 rfl ntmps70 λa b=>?_
 unfold M.rN at H
 refine qr λ_ aA=>wc (wbx b d (k0i q F G) (sgN 4 jD) λu a w b d=>wp 1 [0,3] b λa b=>aA _ _ (qs λ_ aB=>qr λ_ aD=>wp 2 [0,3,11] b λa b=>aD _ _ (cf b rfl (sk (aB _ _ (qs λ_ aE=>qs λ_ aF=>rgS d [] ?_))))))
 have d:=d.drew
 have x:=d.fx
 refine anp [0,2,3,4] [0,3,12,16] b x λa b=>atk 1 (some 13) b x rfl (vld 0 0 0) λa b=>atk 5 (some 17) b x rfl (vld 1 2 0) λa b=>anp [6] [0,3,18] b x λa b=>kN (aF _ _ (bc b H (λhb H=>?_) λhb H=>?_))
 refine qr λ_ aG=>wp 1 [4] b λa b=>aG _ _ (rt ?_)
 cases H
 exact j7 b d (l4 results70 (rvt b)) ⟨C,D,j,k,rfl,d.sp [1,2,3] [0,1]⟩
 refine sk (aE _ _ (qr λ_ aH=>(wp 1 [0,3,5] b λa b=>(aH _ _ (qs λ_ aI=>qr λ_ aJ=>(wp 3 [0,3,5,21] b λa b=>wc (wld b d 1 1 0 λa b=>wp 2 [0,3,5,22,23,24] b λa b=>(aJ _ _ (bk (jT (n:=N) (λn a w => ∃κ g l,Fr (65) [] [k35 p,k2u u,(5,vi g),(22,.slice j e.waiting.length k),(23,vi (e.waiting.length:Int)),(24,vi l)] a∧SS P Q K κ w (k0l u q F G p C e D j k) [k3s j k e.waiting,k3l F G q.Vers,k3s C D e.list]∧M.m7 N n e q g l=some r) ?_ ?_))))))))))
 exact ⟨_,0,0,b.kp [0,3,5,22,23,24],d.sp (rg 4) [1,2,0],H⟩
 rintro n a w ⟨κ,g,l,b,d,H⟩
 rcases n with _|I
 simp [M.m7] at H
 simp only [M.m7] at H
 refine qr λ_ aL=>wp 1 [0,3,5,22,23,24,25] b λa b=>aL _ _ (qs λ_ aM=>bc b H (λhb H=>?_) λhb H=>?_)
 refine sk (aM _ _ (m2 (λa w => ∃κ J,Fr (65) [] [k35 p,k2u u,(5,vi J),(22,.slice j e.waiting.length k),(23,vi (e.waiting.length:Int)),(24,vi l)] a∧SS P Q K κ w (k0l u q F G p C e D j k) [k3s j k e.waiting,k3l F G q.Vers,k3s C D e.list]∧M.q6 N (M.m7 N I) e q l J=some r) ?_ ?_))
 refine bk (qr λ_ aO=>(jE (L':=[k35 p,k2u u,(5,vi g),(22,.slice j e.waiting.length k),(23,vi (e.waiting.length:Int)),(24,vi l),(26,vi l)]) 1 [0,3,5,22,23,24,26] b kr λa b=>bd H λf V H=>wc (kR b d kr 0 (E:=135) (sz:=4) rfl rfl rfl kr rfl V kr kr λa3 a4 a ae b=>?_)))
 obtain ⟨_,⟨⟨A,B⟩,rfl,O⟩,hc⟩:=d.elem 0 rfl ae V
 have d:=(d.adds O).add hc
 refine wc (kQ b kr (v := .agg (flat (k0i f A B)).toArray) ((pD 0 0 4 (s:=[su f.TS,si f.DC,si f.Tx,sl A f.Vers.length B]) (s':=k0i f A B) (n:=4) rfl rfl rfl (show mK [su f.TS,si f.DC,si f.Tx,sl A f.Vers.length B] from (sgN 4 jD)) kr kr kr kr kr _ ⟨_,d⟩)) λa b=>wc (wal b d k0j (sgN 4 jD) λa5 a w b d=>?_))
 refine wp 1 [0,3,5,6,7,22,23,24,28] b λa b=>wc (wst b d 0 0 4 (k0i f A B) (sgN 4 jD) λa w b d=>aO _ _ (qs λ_ aP=>rgS d [] ?_))
 have d:=d.drew
 have x:=d.fx
 refine bd H λW al H=>bd H λX am H=>bd H λa6 an H=>atk 0 (some 29) b x rfl (vls 0 0 4) λa b=>atk 2 (some 31) b x rfl (vls 1 0 4) λa b=>ago 1 b rfl (jR b d kr kr (A5 N d.fresh f A B ((d.pick [1] kr).ro) al) ?_)
 rintro _ κ w a ⟨rfl,O,hN⟩ b d hO
 refine ⟨λ_=>(d.sx [0,1,2] (rg 5)),?_⟩
 refine ago 3 b rfl (jR b d kr kr (A5 N d.fresh q F G ((d.pick [3] kr).ro) am) ?_)
 rintro _ κ w a ⟨rfl,O,hN⟩ b d hO
 refine ⟨λ_=>(d.sx [0,1,2] (rg 5)),?_⟩
 refine ago 4 b rfl (jR b d kr kr (IR N d.fresh (mN.mk W.TS W.DC W.Tx) (mN.mk X.TS X.DC X.Tx) ((d.pick [] kr).ro) an) ?_)
 rintro _ κ w a ⟨rfl,O,hN⟩ b d hO
 refine ⟨λ_=>(d.sx [0,1,2] (rg 5)),?_⟩
 refine anp [5] [0,3,5,6,8,22,23,24] b (d.sx [0,1,2] (rg 5)) λa b=>kN (aP _ _ (bk (qr λ_ aQ=>wp 3 [0,3,5,6,8,22,23,24,34] b λa b=>aQ _ _ (bc b H (λhb H=>?_) λhb H=>?_))))
 refine qr λ_ aR=>wp 1 [4] b λa b=>aR _ _ (rt ?_)
 cases H
 exact j7 b d (l4 results70 (rvt b)) ⟨C,D,j,k,rfl,d.sp [2,3,4] [4,2]⟩
 refine qr λ_ aS=>wp 3 [0,3,5,6,22,23,24,37] b λa b=>aS _ _ (bc b H (λhb H=>?_) λhb H=>?_)
 refine rl (wp 3 [0,3,5,22,23,24] b λa b=>nl ?_)
 exact ⟨_,i64.wrap (l+1),b.kp [0,3,5,22,23,24],d.sp (ra 1 4) [2,3,4],H⟩
 refine sk ?_
 exact ⟨_,g,b.kp [0,3,5,22,23,24],d.sp (ra 1 4) [2,3,4],H⟩
 rintro a w ⟨κ,J,b,d,H⟩
 unfold M.q6 at H
 refine rl (wp 2 [0,3,5,22,23,24] b λa b=>nl ?_)
 exact ⟨I,jb _,_,J,i64.wrap (l+1),b.kp [0,3,5,22,23,24],d.sp (rg 4) [0,1,2],H⟩
 refine xt (aI _ _ (qs λ_ aT=>rgS d [] ?_))
 have d:=d.drew
 have x:=d.fx
 refine bd H λaU ao H=>bd H λa8 aq H=>bd H λY ar H=>bd H λau ai H=>jN [0,1,2,4] [0,3,5,45,47] (L':=[k35 p,k2u u,(5,vi g),(45,pt p 1),(47,vi g)]) (listed':=(mV 12 23)) (fuel:=8) b x kr (by intro c a w t v h; cases t<;>exact h) kr rfl λa b=>atk 3 (some 46) b x rfl (vld 1 1 0) λa b=>?_
 obtain ⟨aV,aW,hvx90,hrx90⟩:=sF Tryz.prog lD (L:=[k35 p,k2u u,(5,vi g),(45,pt p 1),(46,.slice j e.waiting.length k),(47,vi g)]) (o:=⟨(some 48),(Go.Op.slice 112 (Go.Operand.tmp 46) none (some (Go.Operand.tmp 47)) none),112,"order.go:46",#[(Go.Edge.mk 3 Go.Ground.data),(Go.Edge.mk 4 Go.Ground.data)],none⟩) (E:=135) (lo:=0) (hi:=g) rfl (d.get 0 rfl:Ro lD _ _ j k e.waiting).1 rfl rfl rfl ⟨_,rfl⟩ ao kr kr
 have d:=d.add (m:=Ro.mp lD aV aW aU) (hrx90 _ _ (d.get 0 rfl))
 refine atk 5 (some 48) b (d.sx [0,1] [1,2,3]) rfl (λw _=>hvx90 w) λa b=>atk 7 (some 50) b (d.sx [0,1] [1,2,3]) rfl (vls 0 0 4) λa b=>ago 6 b rfl ?_
 have d:=d.add (m:=Ro.mp lD none 0 ([]:List kC)) (Ro.nil lD _ _)
 have d:=d.addNil 135 4
 refine kJ (ty:=lD) b d kr 0 0 1 rfl rfl rfl kr kr rfl rfl rfl aq kr (i:=Tryz.t135) (z := .agg (flat k0j).toArray) kr kr kr λa9 ba κ a w b d=>⟨λ_=>(d.sx [1,2] [3,4,5]),?_⟩
 refine ago 8 b rfl (jR b d kr kr (vN N d.fresh q F G ((d.pick [4] kr).ro) ar) ?_)
 rintro _ κ w a ⟨Z,aa,rfl,O,hN⟩ b d hO
 have d:=d.adds O
 have d:=d.addC hO hN
 refine ⟨λ_=>(d.sx [2,3] [4,5,6]),?_⟩
 refine ago 9 b rfl (uK (t:=lD) (y:=Y) (v := .agg (flat (k0i Y Z aa)).toArray) (z := .agg (flat k0j).toArray) (cells:=(flat (k0i Y Z aa)).toArray) (E:=135) b d kr rfl kr ⟨(Z,aa),rfl,(d.pick [0] kr).ro⟩ kr kr kr kr kr λbe κ a w b d=>⟨λ_=>(d.sx [3,4] [5,6,7]),?_⟩)
 refine ago 10 b rfl (kJ (ty:=lD) b d kr 2 2 0 rfl rfl rfl kr kr rfl rfl rfl ai kr (i:=Tryz.t135) (z := .agg (flat k0j).toArray) kr kr kr λav aw κ a w b d=>⟨λ_=>(d.sx [3,4] [6,7,8]),?_⟩)
 refine anp [11] [0,5,9] b (d.sx [3,4] [6,7,8]) λa b=>kN (aT _ _ (qr λ_ ax=>(wp 5 [5,54,55,58] b λa b=>wc (wld b d 4 1 0 λa b=>jE (L':=[(54,pt p 0),(55,.slice av au.length aw),(59,.slice j e.waiting.length k),(60,vi g)]) 1 [54,55,59,60] b kr λa b=>bd H λaY aj H=>wc (AZ b d kr 6 6 rfl rfl rfl rfl rfl rfl aj kr kr λaZ a0 a b d=>bd H λay ak H=>wc (kJ (ty:=lD) b d kr 2 1 0 rfl rfl rfl kr kr rfl rfl rfl ak kr (i:=Tryz.t135) (z := .agg (flat k0j).toArray) kr kr kr λab ad κ a w b d=>?_))))))
 refine wp 2 [62,64] b λa b=>wc (wst b d 4 1 1 [sl ab ay.length ad] (sgN 1 jD) λa w b d=>ax _ _ (qr λ_ az=>wp 1 [4] b λa b=>az _ _ (rt ?_)))
 cases H
 exact j7 b d (l4 results70 (rvt b)) ⟨C,D,ab,ad,rfl,d.sp [4,5,2] [10,0]⟩
theorem yR (N){B}{C}{A}(g:jC)(l)(s)(u)(p)(q)(f)(hB:SB B C A (k0g f s g u p q) (k0h s u g p q)){r}(H:M.sN N g l=some r) :
    Calls Tryz.prog 107 #[pt f 0,vu l] A (kP B C A λv κ w => ∃F G I J,v=vi r.1∧SS B C A κ w (k0g f F r.2 G I J) (k0h F G r.2 I J)):=by
 have d:=hB.hS
 have au:=d.fresh
 refine en func107 rfl ntmps107 λa b=>?_
 unfold M.sN at H
 refine qr λ_ h8=>(wp 1 [0,1] b λa b=>(h8 _ _ (qs λ_ h9=>qr λ_ U=>(wp 2 [0,1,7] b λa b=>(U _ _ (cf b rfl (sk (h9 _ _ (qr λ_ V=>(wp 4 [0,1,8,11] b λa b=>wc (wld b d 0 2 0 λa b=>wp 4 [0,14,16] b λa b=>wc (wst b d 0 2 1 [su (if l > g.bound then l else g.bound)] (sgN 1 jD) λa w b d=>(V _ _ (qr λ_ W=>(wp 1 [0,5] b λa b=>(W _ _ (qs λ_ X=>bk (jT (n:=N) (λn a w => ∃κ e,Fr (65) [] [k35 f,(5,vi e)] a∧SS B C A κ w (k0m f s g u p q (if l > g.bound then l else g.bound)) (k0h s u g p q)∧M.nA N n g l e=some r) ?_ ?_))))))))))))))))))
 exact ⟨_,0,b.kp [0,5],d.sp [0,1,2] [0,1],H⟩
 rintro n a w ⟨κ,e,b,d,H⟩
 rcases n with _|D
 simp [M.nA] at H
 simp only [M.nA] at H
 refine qs λ_ Y=>qs λ_ Z=>bd H λaa j H=>kL (λa w => ∃κ,Fr (65) [] [k35 f,(5,vi e),(38,vb aa)] a∧SS B C A κ w (k0m f s g u p q (if l > g.bound then l else g.bound)) (k0h s u g p q)∧True) ?_ ?_
 refine rgS d [] ?_
 have d:=d.drew
 have k:=d.fx
 refine anp (rg 4) [0,5,17,20] b k λa b=>atk 4 (some 21) b k rfl (vld 0 1 0) λa b=>anp [5,6,7] [0,5,24] b k λa b=>bs j (λhb j=>?_) λhb j=>?_
 have b:=b.bv 24 hb
 refine jN [8,9,10,12,16,17,18] [0,5,24,27,29,35] (L':=[k35 f,(5,vi e),(24,vb true),(27,pt f 1),(29,vi e),(35,pt f 2)]) (listed':=(mV 22 464895)) (fuel:=7) b k kr (by intro c a w t v h; cases t<;>exact h) kr rfl λa b=>atk 11 (some 28) b k rfl (vld 0 1 0) λa b=>bd j λab x j=>?_
 obtain ⟨ad,ae,y⟩:=d.ptr 1 rfl x
 refine atk 13 (some 30) b (d.sx [0] [0,1]) rfl (λw _=>mP (E:=135) (sz:=4) rfl y rfl kr rfl x kr kr w) λa b=>jN [14] [0,5,24,31,35] (L':=[k35 f,(5,vi e),(24,vb true),(31,.pointer (some ⟨ad,(ae+toNat e*4),none⟩)),(35,pt f 2)]) (listed':=(mV 22 491519)) (fuel:=4) b (d.sx [0] [0,1]) kr (by intro c a w t v h; cases t<;>exact h) kr rfl λa b=>atk 15 (some 32) b (d.sx [0] [0,1]) rfl (EA (t:=lD) 1 0 (v:=vu ab.TS) rfl rfl y rfl x kr (by rintro _ _ _ ⟨_,rfl,-⟩; rfl) kr) λa b=>atk 19 (some 36) b (d.sx [0] [0,1]) rfl (vld 0 2 0) λa b=>?_
 refine anp [20,21] [0,5,38] b (d.sx [0] [0,1]) λa b=>kN ?_
 cases j
 exact ⟨_,b.kp [0,5,38],d.sp [0,1,2] [0,1],ja⟩
 have b:=b.bv 24 hb
 refine anp (ra 8 14) [0,5,38] b k λa b=>kN ?_
 cases j
 exact ⟨_,b.kp [0,5,38],d.sp [0,1,2] [0,1],ja⟩
 rintro a w ⟨κ,b,d,-⟩
 refine Z _ _ (bc b H (λhb H=>?_) λhb H=>?_)
 refine sk (Y _ _ (bk (rl (wp 3 [0,5] b λa b=>nl ?_))))
 exact ⟨D,jb _,_,i64.wrap (e+1),b.kp [0,5],d.sp [0,1,2] [0,1],H⟩
 refine xt (X _ _ (qs λ_ af=>rgS d [14] ?_))
 have d:=d.drew
 have k:=d.fx
 refine jN [0,1,2,3,5,6,7,9] [0,5,41,44,48,50] (L':=[k35 f,(5,vi e),(41,pt f 0),(44,pt f 0),(48,pt f 1),(50,vi e)]) (listed':=(mV 15 751)) (fuel:=7) b k kr (by intro c a w t v h; cases t<;>exact h) kr rfl λa b=>atk 4 (some 45) b k rfl (vld 0 0 0) λa b=>atk 8 (some 49) b k rfl (vld 0 1 0) λa b=>bd H λah R H=>?_
 obtain ⟨ai,aj,hvx75,hrx75⟩:=sF Tryz.prog lD (L:=[k35 f,(5,vi e),(41,pt f 0),(44,pt f 0),(45,.slice s g.list.length u),(48,pt f 1),(49,.slice p g.waiting.length q),(50,vi e)]) (o:=⟨(some 51),(Go.Op.slice 112 (Go.Operand.tmp 49) none (some (Go.Operand.tmp 50)) none),112,"order.go:61",#[(Go.Edge.mk 8 Go.Ground.data),(Go.Edge.mk 9 Go.Ground.data)],none⟩) (E:=135) (lo:=0) (hi:=e) rfl (d.get 1 rfl:Ro lD _ _ p q g.waiting).1 rfl rfl rfl ⟨_,rfl⟩ R kr kr
 have d:=d.add (m:=Ro.mp lD ai aj ah) (hrx75 _ _ (d.get 1 rfl))
 refine atk 10 (some 51) b (d.sx [0] [1,2]) rfl (λw _=>hvx75 w) λa b=>ago 11 b rfl (bd H λak S H=>kJ (ty:=lD) b d kr 1 1 0 rfl rfl rfl kr kr rfl rfl rfl S kr (i:=Tryz.t135) (z := .agg (flat k0j).toArray) kr kr kr λK O κ a w b d=>⟨λ_=>(d.sx [0] [2,3]),?_⟩)
 refine anp [12,13] [0,5,52,54] b (d.sx [0] [2,3]) λa b=>ago 14 b rfl (wst b d 0 0 1 [sl K ak.length O] (sgN 1 jD) λa w b d=>⟨notE,?_⟩)
 refine kN (af _ _ (qr λ_ al=>(wp 4 [5,55,58] b λa b=>wc (wld b d 0 1 0 λa b=>jE (L':=[(5,vi e),(55,pt f 0),(59,.slice p g.waiting.length q),(60,vi e)]) 1 [5,55,59,60] b kr λa b=>bd H λam T H=>wc (AZ b d kr 3 2 rfl rfl rfl rfl rfl rfl T kr kr λP Q a b d=>wp 2 [5,61,63] b λa b=>wc (wst b d 0 1 1 [sl P am.length Q] (sgN 1 jD) λa w b d=>al _ _ (qr λ_ an=>wp 2 [4] b λa b=>an _ _ (rt ?_))))))))
 cases H
 exact j7 b d (l4 results107 (rvt b)) ⟨K,O,P,Q,rfl,d.sp [0,1,2] [1,0]⟩
theorem tV (N){f}{g}{c}(d:jC)(h)(i)(j)(k)(l)(n:SB f g c (k0n l h d i j k) (k0h h i d j k)){r}(H:M.oT N d=some r) :
    Calls Tryz.prog 41 #[pt l 0] c (kP f g c λv κ w=>v=vi r∧SS f g c κ w (k0n l h d i j k) []):=by
 have e:=n.hS
 have s:=e.fresh
 refine en func41 rfl ntmps41 λa b=>?_
 unfold M.oT at H
 refine qr λ_ o=>wp 1 [0] b λa b=>o _ _ (qs λ_ p=>qr λ_ q=>wp 2 [0,4] b λa b=>q _ _ (cf b rfl (sk (p _ _ (qr λ_ m=>wp 3 [7] b λa b=>wc (wld b e 0 0 0 λa b=>wp 2 [2] b λa b=>m _ _ (rt ?_)))))))
 cases H
 exact j7 b e (l4 results41 (rvt b)) ⟨rfl,e.sp [0] []⟩
theorem yQ (N){f}{g}{c}(d:jC)(h)(i)(j)(k)(l)(n:SB f g c (k0n l h d i j k) (k0h h i d j k)){r}(H:M.sM N d=some r) :
    Calls Tryz.prog 115 #[pt l 0] c (kP f g c λv κ w=>v=vi r∧SS f g c κ w (k0n l h d i j k) []):=by
 have e:=n.hS
 have s:=e.fresh
 refine en func115 rfl ntmps115 λa b=>?_
 unfold M.sM at H
 refine qr λ_ o=>wp 1 [0] b λa b=>o _ _ (qs λ_ p=>qr λ_ q=>wp 2 [0,4] b λa b=>q _ _ (cf b rfl (sk (p _ _ (qr λ_ m=>wp 3 [7] b λa b=>wc (wld b e 0 1 0 λa b=>wp 2 [2] b λa b=>m _ _ (rt ?_)))))))
 cases H
 exact j7 b e (l4 results115 (rvt b)) ⟨rfl,e.sp [0] []⟩
theorem zG (N){σ}{B}{Y}{l}
    (hB : ∀ {s:σ} {x:XF} {κ:Gh} {w:World} (I:Int) (o:kC) (R:Option Addr) (S:Nat) {s':σ} {c:Bool},Y s x→x.p κ w→lG κ w→x.bs.Nodup→(∀b∈x.bs,b<w.heap.size)→(∀m∈([Ro.mp jG.ty R S o.Vers]:List MP),m.p κ w)→B s I o=some (s',c)→yP Tryz.prog l Y #[vi I,.agg (flat (k0i o R S)).toArray] x s' c κ w)
    (h:jC) (i:Int) (A:Nat) (q:Option Addr) (t:Nat) (C:Option Addr) (D:Nat) {O:List Nat} {J:Gh} {F:World} {X:XF} {Z:σ} {G:Nat} {u:Nat} (e:SS O J F J F [.ext X,k3u G A,.box u 3 [si i],k3q A q h t C D] [k3s q t h.list,k3s C D h.waiting,(MP.const (Y Z X))]) {r:σ} (H:M.tC N B h i Z=some r) :
    Calls Tryz.prog 131 #[.func (.yield l) #[] #[],pt G 0,pt u 0] F (kP O J F λ_ κ w => ∃x,Y r x∧SS O J F κ w [.ext x,k3u G A,.box u 3 [si i],k3q A q h t C D] (k0h q t h C D)):=by
 refine en func131 rfl ntmps131 λa d=>?_
 unfold M.tC at H
 refine qs λ_ ae=>qr λ_ af=>(wc (wld d e 1 0 0 λa d=>wp 1 [0,1,2,6] d λa d=>(af _ _ (cf d rfl (sk (ae _ _ (qr λ_ ah=>(wc (wld d e 2 0 0 λa d=>wp 2 [0,1,4] d λa d=>(ah _ _ (bk (jT (n:=N) (λn a w => ∃κ g K y,Fr (30) [] [k3c (.yield l) #[],k2w G,(4,vi g)] a∧SS O J F κ w [k3u G A,.box u 3 [si i],k3q A q h t C D,.ext y] [(MP.const (Y K y)),k3s q t h.list,k3s C D h.waiting]∧M.nT N B n h i g K=some r) ?_ ?_))))))))))))
 exact ⟨_,(if 0 > i then 0 else i),Z,X,d.kp [0,1,4],e.sp [1,2,3,0] [2,0,1],H⟩
 rintro n a w ⟨κ,g,K,y,d,e,H⟩
 rcases n with _|P
 simp [M.nT] at H
 simp only [M.nT] at H
 refine qs λ_ ai=>qr λ_ aj=>wp 1 [0,1,4,9] d λa d=>wc (wld d e 0 0 0 λa d=>wp 2 [0,1,4,9,12] d λa d=>wc (wld d e 2 0 0 λa d=>wp 2 [0,1,4,15] d λa d=>aj _ _ (bc d H (λhb H=>?_) λhb H=>?_)))
 refine sk (ai _ _ (qs λ_ ak=>bk (qr λ_ al=>(wp 2 [0,1,4,18,19] d λa d=>wc (wld d e 0 0 0 λa d=>wp 2 [0,1,4,18,19,22] d λa d=>wc (wld d e 2 0 0 λa d=>jE (L':=[k3c (.yield l) #[],k2w G,(4,vi g),(18,.func (.yield l) #[] #[]),(19,vi g),(23,.slice q h.list.length t),(24,vi g)]) 1 [0,1,4,18,19,23,24] d kr λa d=>bd H λf L H=>wc (kR d e kr 1 (E:=135) (sz:=4) rfl rfl rfl kr rfl L kr kr λaq ar a Q d=>?_)))))))
 obtain ⟨_,⟨⟨j,k⟩,rfl,hR⟩,hc⟩:=e.elem 1 rfl Q L
 have e:=(e.adds hR).add hc
 refine wc (kQ d kr (v := .agg (flat (k0i f j k)).toArray) ((pD 0 0 4 (s:=[su f.TS,si f.DC,si f.Tx,sl j f.Vers.length k]) (s':=k0i f j k) (n:=4) rfl rfl rfl (show mK [su f.TS,si f.DC,si f.Tx,sl j f.Vers.length k] from (sgN 4 jD)) kr kr kr kr kr _ ⟨_,e⟩)) λa d=>bd H λT ab H=>wc (jR d e kr kr (vN N e.fresh f j k ((e.pick [1] kr).ro) ab) ?_))
 rintro _ κ w a ⟨U,V,rfl,hR,hN⟩ d e hO
 have e:=e.adds hR
 have e:=e.addC hO hN
 refine bd H λz ad H=>wc (E6 (Y:=Y) (s':=z.1) (c:=z.2) (x:=y) (l:=l) (args := #[vi g,.agg (flat (k0i T U V)).toArray]) d e kr 4 rfl kr kr rfl (λhp hf hn hl=>hB g T U V (e.get 3 rfl) hp hf hn hl ((e.pick [0] kr).ro) ad) λW κ w a hY d e=>?_)
 have e:=e.add (m:=MP.const (Y z.1 W)) hY
 refine wp 1 [0,1,4,29] d λa d=>al _ _ (bc d H (λhb H=>?_) λhb H=>?_)
 refine rt ?_
 cases H
 exact j7 d e (mL results131) ⟨_,e.get 0 rfl,e.sp [4,1,2,3] [5,6]⟩
 refine sk (ak _ _ (rl (wp 3 [0,1,4] d λa d=>nl ?_)))
 exact ⟨P,jb _,_,i64.wrap (g+1),z.1,W,d.kp [0,1,4],e.sp (ra 1 4) [0,5,6],H⟩
 refine xt ?_
 cases H
 exact j7 d e (mL results131) ⟨_,e.get 0 rfl,e.sp [3,0,1,2] [1,2]⟩
theorem AP (N){l}{m}{f}(g:jC)(h)(n)(o)(p)(q)(e)(t:SB l m f (k0n e n g o p q) (k0h n o g p q)){r}(H:M.uA N g h=some r) :
    Calls Tryz.prog 108 #[pt e 0,vi h] f (kP l m f λv κ w => ∃j k,v = .func (.func 131) #[] #[pt j 0,pt k 0]∧SS l m f κ w [k3q e n g o p q,k3u j e,.box k 3 [si h]] []):=by
 have c:=t.hS
 have x:=c.fresh
 refine en func108 rfl ntmps108 λa b=>?_
 unfold M.uA at H
 refine qr λ_ u=>(wc (wbx b c [k3v e] (sgN 1 jD) λi a w b c=>wc (wbx b c [si h] (sgN 1 jD) λd a w b c=>jE (L':=[k2x i,k2u d]) 1 [2,3] b kr λa b=>(u _ _ (qr λ_ s=>(wc (kQ b kr (v := .func (.func 131) #[] #[pt i 0,pt d 0]) (u6 (T':=0) (caps := #[pt i 0,pt d 0]) rfl kr _) λa b=>wp 1 [4] b λa b=>s _ _ (rt ?_))))))))
 cases H
 exact j7 b c (l4 results108 (rvt b)) ⟨i,d,rfl,c.sp [2,1,0] []⟩
end Go.Cf
