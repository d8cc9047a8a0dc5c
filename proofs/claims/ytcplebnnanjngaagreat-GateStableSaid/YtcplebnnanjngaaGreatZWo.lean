/- The walks: each function returns what its model says. Printed by a program of ours. -/
import Derived.Test.YtcplebnnanjngaaGreatZSh
import Derived.Test.YtcplebnnanjngaaGreatZM1
namespace Go.Cf
open Go Go.Proofs
open _root_.Int(toNat tdiv tmod)
open _root_.List(set replicate)
open _root_.ByteArray(empty)
open Go.IntKind(i64 u64)
set_option linter.unusedVariables false
set_option maxRecDepth 20000
set_option maxHeartbeats 8000000
theorem yY (N){e}{d}(f:lL e d)(g)(h : ∀m∈([]:List MP),m.p e d){r}(H:M.wI N g=some r) :
    Calls Tryz.prog 130 #[vb g] d (kQ [] e d λv κ w=>v=vi r∧(∀m∈([]:List MP),m.p κ w)∧t5 d κ w []):=by
 have c:=SS.start f h
 refine en Tryz.func130 rfl Tryz.ntmps130 λa b=>?_
 unfold M.wI at H
 refine qs λ_ hz=>rl (wp 1 [0] b λa b=>nl (hz _ _ (qs λ_ i=>qr λ_ j=>wp 1 [3] b λa b=>j _ _ (bc b H (λhb H=>?_) λhb H=>?_))))
 refine qr λ_ k=>wp 1 [2] b λa b=>k _ _ (rt ?_)
 cases H
 exact (j7 b c (l3 Tryz.results130 (rvt b)) ⟨rfl,(c.pick [] kr).ro,c.newC [] dc kr⟩)
 refine sk (i _ _ (qr λ_ l=>wp 1 [2] b λa b=>l _ _ (rt ?_)))
 cases H
 exact (j7 b c (l3 Tryz.results130 (rvt b)) ⟨rfl,(c.pick [] kr).ro,c.newC [] dc kr⟩)
theorem HW (N){h}{f}(k:lL h f)(d)(e)(g : ∀m∈([]:List MP),m.p h f){r}(H:M.zF N d e=some r) :
    Calls Tryz.prog 105 #[.agg (flat [su d.TS,si d.DC,si d.Tx]).toArray,.agg (flat [su e.TS,si e.DC,si e.Tx]).toArray] f (kQ [] h f λv κ w=>v=vi r∧(∀m∈([]:List MP),m.p κ w)∧t5 f κ w []):=by
 have c:=SS.start k g
 refine en Tryz.func105 rfl Tryz.ntmps105 λa b=>?_
 unfold M.zF at H
 refine qr λ_ y=>wc (wbx b c [su d.TS,si d.DC,si d.Tx] (sgN 3 jE) λE a w b c=>wc (wbx b c [su e.TS,si e.DC,si e.Tx] (sgN 3 jE) λF a w b c=>wp 1 [2,3] b λa b=>y _ _ (qs λ_ z=>bk (qr λ_ A=>wp 1 [2,3,6] b λa b=>wc (wld b c 1 0 0 λa b=>wp 1 [2,3,7,8] b λa b=>wc (wld b c 0 0 0 λa b=>wp 2 [2,3,5] b λa b=>A _ _ (bc b H (λhb H=>?_) λhb H=>?_)))))))
 refine qr λ_ B=>wp 1 [3,11] b λa b=>wc (wld b c 1 0 0 λa b=>wp 1 [12,13] b λa b=>wc (wld b c 0 0 0 λa b=>wp 1 [15] b λa b=>bd H λG l H=>wc (jS b c kr kr (yY N c.fresh (decide (d.TS<e.TS)) ((c.pick [] kr).ro) l) ?_)))
 rintro _ κ w a ⟨rfl,g,n⟩ b c o
 refine wp 1 [4] b λa b=>B _ _ (rt ?_)
 cases H
 exact (j7 b c (l3 Tryz.results105 (rvt b)) ⟨rfl,(c.pick [] kr).ro,c.newC [] dc kr⟩)
 refine qr λ_ q=>wp 1 [2,3,18] b λa b=>wc (wld b c 1 1 0 λa b=>wp 1 [2,3,19,20] b λa b=>wc (wld b c 0 1 0 λa b=>wp 2 [2,3,17] b λa b=>q _ _ (bc b H (λhb H=>?_) λhb H=>?_)))
 refine qr λ_ s=>wp 1 [3,23] b λa b=>wc (wld b c 1 1 0 λa b=>wp 1 [24,25] b λa b=>wc (wld b c 0 1 0 λa b=>wp 1 [27] b λa b=>bd H λC i H=>wc (jS b c kr kr (yY N c.fresh (decide (d.DC<e.DC)) ((c.pick [] kr).ro) i) ?_)))
 rintro _ κ w a ⟨rfl,g,n⟩ b c o
 refine wp 1 [4] b λa b=>s _ _ (rt ?_)
 cases H
 exact (j7 b c (l3 Tryz.results105 (rvt b)) ⟨rfl,(c.pick [] kr).ro,c.newC [] dc kr⟩)
 refine qr λ_ t=>wp 1 [2,3,30] b λa b=>wc (wld b c 1 2 0 λa b=>wp 1 [2,3,31,32] b λa b=>wc (wld b c 0 2 0 λa b=>wp 2 [2,3,29] b λa b=>t _ _ (bc b H (λhb H=>?_) λhb H=>?_)))
 refine qr λ_ u=>wp 1 [3,35] b λa b=>wc (wld b c 1 2 0 λa b=>wp 1 [36,37] b λa b=>wc (wld b c 0 2 0 λa b=>wp 1 [39] b λa b=>bd H λD j H=>wc (jS b c kr kr (yY N c.fresh (decide (d.Tx<e.Tx)) ((c.pick [] kr).ro) j) ?_)))
 rintro _ κ w a ⟨rfl,g,n⟩ b c o
 refine wp 1 [4] b λa b=>u _ _ (rt ?_)
 cases H
 exact (j7 b c (l3 Tryz.results105 (rvt b)) ⟨rfl,(c.pick [] kr).ro,c.newC [] dc kr⟩)
 refine sk (z _ _ (qr λ_ x=>wp 1 [4] b λa b=>x _ _ (rt ?_)))
 cases H
 exact (j7 b c (l3 Tryz.results105 (rvt b)) ⟨rfl,(c.pick [] kr).ro,c.newC [] dc kr⟩)
theorem EW (N){e}{f}{d}(l:SB e f d [] []){r}(H:M.xZ N=some r) :
    Calls Tryz.prog 48 #[] d (kQ e f d λv κ w => ∃g h i j k,v=pt g 0∧SS e f d κ w (k0a g h (r.list).length i j (r.waiting).length k r.bound) (k0b h i r.list j k r.waiting)):=by
 have b:=l.hS
 have p:=b.fresh
 refine en Tryz.func48 rfl Tryz.ntmps48 λa c=>?_
 unfold M.xZ at H
 refine qr λ_ n=>wp 1 [] c λa c=>n _ _ (qs λ_ hz=>rl (wp 1 [1] c λa c=>wc (wbx c b [k2j,k2j,su 0] (sgN 3 jE) λo a w c b=>wp 1 [0] c λa c=>nl (hz _ _ (rt ?_)))))
 have b:=b.add (m:=Ro.mp lE none 0 ([]:List kK)) (Ro.nil lE _ _)
 have b:=b.addNil 135 4
 have b:=b.addNil 135 4
 cases H
 exact j7 c b (l3 Tryz.results48 (rvt c)) ⟨o,none,0,none,0,rfl,b.sp [2,1,0] [0,0]⟩
theorem zO (N){f}{e}(i:lL f e)(c:kK)(g)(h)(j : ∀m∈([Ro.mp jF.ty g h c.Vers]:List MP),m.p f e){r}(H:M.vL N c=some r) :
    Calls Tryz.prog 106 #[.agg (flat (k0c c.TS c.DC c.Tx g (c.Vers).length h)).toArray] e (kQ [] f e λv κ w=>v = .agg (flat [su r.TS,si r.DC,si r.Tx]).toArray∧(∀m∈([]:List MP),m.p κ w)∧t5 e κ w []):=by
 have d:=SS.start i j
 refine en Tryz.func106 rfl Tryz.ntmps106 λa b=>?_
 unfold M.vL at H
 refine qr λ_ k=>wc (wbx b d (k0c c.TS c.DC c.Tx g (c.Vers).length h) (sgN 4 jE) λn a w b d=>wc (wal b d [su 0,si 0,si 0] (sgN 3 jE) λo a w b d=>k _ _ (qr λ_ l=>wp 1 [1,2,3] b λa b=>wc (wld b d 1 0 0 λa b=>wp 1 [1,2,4,5] b λa b=>wc (wld b d 1 1 0 λa b=>wp 1 [2,4,6,7] b λa b=>wc (wld b d 1 2 0 λa b=>wp 1 [2,9] b λa b=>wc (wst b d 0 0 3 [su c.TS,si c.DC,si c.Tx] (sgN 3 jE) λa w b d=>nl ?_)))))))
 refine l _ _ (rt ?_)
 have hS':=d
 cases H
 exact (j7 b d (l3 Tryz.results106 (rvs b hS' 0 0 3)) ⟨rfl,(d.pick [] kr).ro,d.newC [] dc kr⟩)
theorem v9 (N){j}{e}(o:lL j e)(d:kK)(k)(l)(x : ∀m∈([Ro.mp jF.ty k l d.Vers]:List MP),m.p j e){r}(H:M.sO N d=some r) :
    Calls Tryz.prog 103 #[.agg (flat (k0c d.TS d.DC d.Tx k (d.Vers).length l)).toArray] e (kQ [] j e λv κ w => ∃f g,v = .agg (flat (k0c r.TS r.DC r.Tx f (r.Vers).length g)).toArray∧(∀m∈([Ro.mp jF.ty f g r.Vers]:List MP),m.p κ w)∧t5 e κ w [.tok f 48 6 (r.Vers).length g]):=by
 have b:=SS.start o x
 refine en Tryz.func103 rfl Tryz.ntmps103 λa c=>?_
 unfold M.sO at H
 refine qr λ_ y=>(wc (wbx c b (k0c d.TS d.DC d.Tx k (d.Vers).length l) (sgN 4 jE) λq a w c b=>wc (wal c b k0d (sgN 4 jE) λA a w c b=>(y _ _ (qr λ_ B=>(jG (L':=[k27 q,k28 A,(3,pt q 3)]) 1 [1,2,3] c kr λa c=>wc (wld c b 1 3 0 λa c=>?_)))))))
 have b:=b.add (m:=Ro.mp jF.ty none 0 ([]:List jC)) (Ro.nil jF.ty _ _)
 have b:=b.addNil 48 6
 refine bd H λs t H=>wc (kI (ty:=jF.ty) c b kr 0 0 1 rfl rfl rfl kr kr rfl rfl rfl t kr (i:=Tryz.t48) (z := .agg (flat (k0e empty)).toArray) kr kr kr λn h κ a w c b=>wp 1 [1,2,5,6] c λa c=>wc (wst c b 2 3 1 [sl n s.length h] (sgN 1 jE) λa w c b=>B _ _ (qr λ_ u=>wc (wls c b 2 0 4 λa c=>wc (wst c b 1 0 4 (k0c d.TS d.DC d.Tx n s.length h) (sgN 4 jE) λa w c b=>?_)))))
 refine u _ _ (rt ?_)
 have hS':=b
 cases H
 exact (j7 c b (l3 Tryz.results103 (rvs c hS' 1 0 4)) ⟨n,h,rfl,(b.pick [0] kr).ro,b.newC [0] dc kr⟩)
theorem yW (N){Q}{R}{O}(f:jD)(g:kK)(x)(A)(k)(l)(G)(I)(u)(hB:SB Q R O (k0a u x (f.list).length A k (f.waiting).length l f.bound) [k31 x A f.list,k31 k l f.waiting,k2u G I g.Vers]){r}(H:M.rI N f g=some r) :
    Calls Tryz.prog 70 #[pt u 0,.agg (flat (k0c g.TS g.DC g.Tx G (g.Vers).length I)).toArray] O (kQ Q R O λv κ w => ∃S T U V,v=vi r.1∧SS Q R O κ w (k0a u S (r.2.list).length T U (r.2.waiting).length V r.2.bound) (k0b S T r.2.list U V r.2.waiting)):=by
 have d:=hB.hS
 have a2:=d.fresh
 refine en Tryz.func70 rfl Tryz.ntmps70 λa b=>?_
 unfold M.rI at H
 refine qr λ_ aA=>wc (wbx b d (k0c g.TS g.DC g.Tx G (g.Vers).length I) (sgN 4 jE) λB a w b d=>wp 1 [0,3] b λa b=>aA _ _ (qs λ_ aB=>qr λ_ aD=>wp 2 [0,3,11] b λa b=>aD _ _ (cf b rfl (sk (aB _ _ (qs λ_ aE=>qs λ_ aF=>rgS d [] ?_))))))
 have d:=d.drew
 have C:=d.fx
 refine anp [0,2,3,4] [0,3,12,16] b C λa b=>atk 1 (some 13) b C rfl (vld 0 0 0) λa b=>atk 5 (some 17) b C rfl (vld 1 2 0) λa b=>anp [6] [0,3,18] b C λa b=>kM (aF _ _ (bc b H (λhb H=>?_) λhb H=>?_))
 refine qr λ_ aG=>wp 1 [4] b λa b=>aG _ _ (rt ?_)
 cases H
 exact j7 b d (l3 Tryz.results70 (rvt b)) ⟨x,A,k,l,rfl,d.sp [1,2,3] [0,1]⟩
 refine sk (aE _ _ (qr λ_ aH=>(wp 1 [0,3,5] b λa b=>(aH _ _ (qs λ_ aI=>qr λ_ aJ=>(wp 3 [0,3,5,21] b λa b=>wc (wld b d 1 1 0 λa b=>wp 2 [0,3,5,22,23,24] b λa b=>(aJ _ _ (bk (jX (n:=N) (λn a w => ∃κ j p,Fr (65) [] [k2g u,k25 B,(5,vi j),(22,.slice k (f.waiting).length l),(23,vi ((f.waiting).length:Int)),(24,vi p)] a∧SS Q R O κ w [k32 B g.TS g.DC g.Tx G (g.Vers).length I,k2z u x (f.list).length A k (f.waiting).length l f.bound,k30 x (f.list).length A,k30 k (f.waiting).length l] [k31 k l f.waiting,k2u G I g.Vers,k31 x A f.list]∧M.m3 N n f g j p=some r) ?_ ?_))))))))))
 exact ⟨_,0,0,b.kp [0,3,5,22,23,24],d.sp (rg 4) [1,2,0],H⟩
 rintro n a w ⟨κ,j,p,b,d,H⟩
 rcases n with _|J
 simp [M.m3] at H
 simp only [M.m3] at H
 refine qr λ_ aL=>wp 1 [0,3,5,22,23,24,25] b λa b=>aL _ _ (qs λ_ aM=>bc b H (λhb H=>?_) λhb H=>?_)
 refine sk (aM _ _ (m9 (λa w => ∃κ K,Fr (65) [] [k2g u,k25 B,(5,vi K),(22,.slice k (f.waiting).length l),(23,vi ((f.waiting).length:Int)),(24,vi p)] a∧SS Q R O κ w [k32 B g.TS g.DC g.Tx G (g.Vers).length I,k2z u x (f.list).length A k (f.waiting).length l f.bound,k30 x (f.list).length A,k30 k (f.waiting).length l] [k31 k l f.waiting,k2u G I g.Vers,k31 x A f.list]∧M.pR N (M.m3 N J) f g p K=some r) ?_ ?_))
 refine bk (qr λ_ aO=>(jG (L':=[k2g u,k25 B,(5,vi j),(22,.slice k (f.waiting).length l),(23,vi ((f.waiting).length:Int)),(24,vi p),(26,vi p)]) 1 [0,3,5,22,23,24,26] b kr λa b=>bd H λe W H=>wc (kS b d kr 0 (E:=135) (sz:=4) rfl rfl rfl kr rfl W kr kr λa3 a4 a ae b=>?_)))
 obtain ⟨_,⟨⟨D,F⟩,rfl,P⟩,hc⟩:=d.elem 0 rfl ae W
 have d:=(d.adds P).add hc
 refine wc (kR b kr (v := .agg (flat (k0c e.TS e.DC e.Tx D (e.Vers).length F)).toArray) ((pN 0 0 4 (s:=[su e.TS,si e.DC,si e.Tx,sl D (e.Vers).length F]) (s':=k0c e.TS e.DC e.Tx D (e.Vers).length F) (n:=4) rfl rfl rfl (show mL [su e.TS,si e.DC,si e.Tx,sl D (e.Vers).length F] from (sgN 4 jE)) kr kr kr kr kr _ ⟨_,d⟩)) λa b=>wc (wal b d k0d (sgN 4 jE) λa5 a w b d=>?_))
 refine wp 1 [0,3,5,6,7,22,23,24,28] b λa b=>wc (wst b d 0 0 4 (k0c e.TS e.DC e.Tx D (e.Vers).length F) (sgN 4 jE) λa w b d=>aO _ _ (qs λ_ aP=>rgS d [] ?_))
 have d:=d.drew
 have C:=d.fx
 refine bd H λX al H=>bd H λY am H=>bd H λa6 an H=>atk 0 (some 29) b C rfl (vls 0 0 4) λa b=>atk 2 (some 31) b C rfl (vls 1 0 4) λa b=>ago 1 b rfl (jS b d kr kr (zO N d.fresh e D F ((d.pick [1] kr).ro) al) ?_)
 rintro _ κ w a ⟨rfl,P,hN⟩ b d hO
 refine ⟨λ_=>(d.sx [0,1,2] (rg 5)),?_⟩
 refine ago 3 b rfl (jS b d kr kr (zO N d.fresh g G I ((d.pick [3] kr).ro) am) ?_)
 rintro _ κ w a ⟨rfl,P,hN⟩ b d hO
 refine ⟨λ_=>(d.sx [0,1,2] (rg 5)),?_⟩
 refine ago 4 b rfl (jS b d kr kr (HW N d.fresh (mJ.mk X.TS X.DC X.Tx) (mJ.mk Y.TS Y.DC Y.Tx) ((d.pick [] kr).ro) an) ?_)
 rintro _ κ w a ⟨rfl,P,hN⟩ b d hO
 refine ⟨λ_=>(d.sx [0,1,2] (rg 5)),?_⟩
 refine anp [5] [0,3,5,6,8,22,23,24] b (d.sx [0,1,2] (rg 5)) λa b=>kM (aP _ _ (bk (qr λ_ aQ=>wp 3 [0,3,5,6,8,22,23,24,34] b λa b=>aQ _ _ (bc b H (λhb H=>?_) λhb H=>?_))))
 refine qr λ_ aR=>wp 1 [4] b λa b=>aR _ _ (rt ?_)
 cases H
 exact j7 b d (l3 Tryz.results70 (rvt b)) ⟨x,A,k,l,rfl,d.sp [2,3,4] [4,2]⟩
 refine qr λ_ aS=>wp 3 [0,3,5,6,22,23,24,37] b λa b=>aS _ _ (bc b H (λhb H=>?_) λhb H=>?_)
 refine rl (wp 3 [0,3,5,22,23,24] b λa b=>nl ?_)
 exact ⟨_,i64.wrap (p+1),b.kp [0,3,5,22,23,24],d.sp (ra 1 4) [2,3,4],H⟩
 refine sk ?_
 exact ⟨_,j,b.kp [0,3,5,22,23,24],d.sp (ra 1 4) [2,3,4],H⟩
 rintro a w ⟨κ,K,b,d,H⟩
 unfold M.pR at H
 refine rl (wp 2 [0,3,5,22,23,24] b λa b=>nl ?_)
 exact ⟨J,Nat.lt_succ_self _,_,K,i64.wrap (p+1),b.kp [0,3,5,22,23,24],d.sp (rg 4) [0,1,2],H⟩
 refine xt (aI _ _ (qs λ_ aT=>rgS d [] ?_))
 have d:=d.drew
 have C:=d.fx
 refine bd H λaU ao H=>bd H λa8 aq H=>bd H λq ar H=>bd H λau ai H=>jO [0,1,2,4] [0,3,5,45,47] (L':=[k2g u,k25 B,(5,vi j),(45,pt u 1),(47,vi j)]) (listed':=(mU 12 23)) (fuel:=8) b C kr (by intro c a w t v h; cases t<;>exact h) kr rfl λa b=>atk 3 (some 46) b C rfl (vld 1 1 0) λa b=>?_
 obtain ⟨aV,aW,hvx90,hrx90⟩:=sB Tryz.prog lE (L:=[k2g u,k25 B,(5,vi j),(45,pt u 1),(46,.slice k (f.waiting).length l),(47,vi j)]) (o:=⟨(some 48),(Go.Op.slice 112 (Go.Operand.tmp 46) none (some (Go.Operand.tmp 47)) none),112,"order.go:46",#[(Go.Edge.mk 3 Go.Ground.data),(Go.Edge.mk 4 Go.Ground.data)],none⟩) (E:=135) (lo:=0) (hi:=j) rfl (d.get 0 rfl:Ro lE _ _ k l f.waiting).1 rfl rfl rfl ⟨_,rfl⟩ ao kr kr
 have d:=d.add (m:=Ro.mp lE aV aW aU) (hrx90 _ _ (d.get 0 rfl))
 refine atk 5 (some 48) b (d.sx [0,1] [1,2,3]) rfl (λw _=>hvx90 w) λa b=>atk 7 (some 50) b (d.sx [0,1] [1,2,3]) rfl (vls 0 0 4) λa b=>ago 6 b rfl ?_
 have d:=d.add (m:=Ro.mp lE none 0 ([]:List kK)) (Ro.nil lE _ _)
 have d:=d.addNil 135 4
 refine kI (ty:=lE) b d kr 0 0 1 rfl rfl rfl kr kr rfl rfl rfl aq kr (i:=Tryz.t135) (z := .agg (flat k0d).toArray) kr kr kr λa9 ba κ a w b d=>⟨λ_=>(d.sx [1,2] [3,4,5]),?_⟩
 refine ago 8 b rfl (jS b d kr kr (v9 N d.fresh g G I ((d.pick [4] kr).ro) ar) ?_)
 rintro _ κ w a ⟨Z,aa,rfl,P,hN⟩ b d hO
 have d:=d.adds P
 have d:=d.addC hO hN
 refine ⟨λ_=>(d.sx [2,3] [4,5,6]),?_⟩
 refine ago 9 b rfl (uB (t:=lE) (y:=q) (v := .agg (flat (k0c q.TS q.DC q.Tx Z (q.Vers).length aa)).toArray) (z := .agg (flat k0d).toArray) (cells:=(flat (k0c q.TS q.DC q.Tx Z (q.Vers).length aa)).toArray) (E:=135) b d kr rfl kr ⟨(Z,aa),rfl,(d.pick [0] kr).ro⟩ kr kr kr kr kr λbe κ a w b d=>⟨λ_=>(d.sx [3,4] [5,6,7]),?_⟩)
 refine ago 10 b rfl (kI (ty:=lE) b d kr 2 2 0 rfl rfl rfl kr kr rfl rfl rfl ai kr (i:=Tryz.t135) (z := .agg (flat k0d).toArray) kr kr kr λav aw κ a w b d=>⟨λ_=>(d.sx [3,4] [6,7,8]),?_⟩)
 refine anp [11] [0,5,9] b (d.sx [3,4] [6,7,8]) λa b=>kM (aT _ _ (qr λ_ ax=>(wp 5 [5,54,55,58] b λa b=>wc (wld b d 4 1 0 λa b=>jG (L':=[(54,pt u 0),(55,.slice av au.length aw),(59,.slice k (f.waiting).length l),(60,vi j)]) 1 [54,55,59,60] b kr λa b=>bd H λaY aj H=>wc (AG b d kr 6 6 rfl rfl rfl rfl rfl rfl aj kr kr λaZ a0 a b d=>bd H λay ak H=>wc (kI (ty:=lE) b d kr 2 1 0 rfl rfl rfl kr kr rfl rfl rfl ak kr (i:=Tryz.t135) (z := .agg (flat k0d).toArray) kr kr kr λab ad κ a w b d=>?_))))))
 refine wp 2 [62,64] b λa b=>wc (wst b d 4 1 1 [sl ab ay.length ad] (sgN 1 jE) λa w b d=>ax _ _ (qr λ_ az=>wp 1 [4] b λa b=>az _ _ (rt ?_)))
 cases H
 exact j7 b d (l3 Tryz.results70 (rvt b)) ⟨x,A,ab,ad,rfl,d.sp [4,5,2] [10,0]⟩
theorem yE (N){B}{C}{A}(e:jD)(l)(s)(u)(p)(q)(g)(hB:SB B C A (k0a g s (e.list).length u p (e.waiting).length q e.bound) (k0b s u e.list p q e.waiting)){r}(H:M.sH N e l=some r) :
    Calls Tryz.prog 107 #[pt g 0,vu l] A (kQ B C A λv κ w => ∃F G I J,v=vi r.1∧SS B C A κ w (k0a g F (r.2.list).length G I (r.2.waiting).length J r.2.bound) (k0b F G r.2.list I J r.2.waiting)):=by
 have d:=hB.hS
 have au:=d.fresh
 refine en Tryz.func107 rfl Tryz.ntmps107 λa b=>?_
 unfold M.sH at H
 refine qr λ_ h8=>(wp 1 [0,1] b λa b=>(h8 _ _ (qs λ_ h9=>qr λ_ U=>(wp 2 [0,1,7] b λa b=>(U _ _ (cf b rfl (sk (h9 _ _ (qr λ_ V=>(wp 4 [0,1,8,11] b λa b=>wc (wld b d 0 2 0 λa b=>wp 4 [0,14,16] b λa b=>wc (wst b d 0 2 1 [su (if l > e.bound then l else e.bound)] (sgN 1 jE) λa w b d=>(V _ _ (qr λ_ W=>(wp 1 [0,5] b λa b=>(W _ _ (qs λ_ X=>bk (jX (n:=N) (λn a w => ∃κ f,Fr (65) [] [k2g g,(5,vi f)] a∧SS B C A κ w (k0a g s (e.list).length u p (e.waiting).length q (if l > e.bound then l else e.bound)) (k0b s u e.list p q e.waiting)∧M.n7 N n e l f=some r) ?_ ?_))))))))))))))))))
 exact ⟨_,0,b.kp [0,5],d.sp [0,1,2] [0,1],H⟩
 rintro n a w ⟨κ,f,b,d,H⟩
 rcases n with _|D
 simp [M.n7] at H
 simp only [M.n7] at H
 refine qs λ_ Y=>qs λ_ Z=>bd H λaa j H=>kJ (λa w => ∃κ:Gh,Fr (65) [] [k2g g,(5,vi f),(38,vb aa)] a∧SS B C A κ w (k0a g s (e.list).length u p (e.waiting).length q (if l > e.bound then l else e.bound)) (k0b s u e.list p q e.waiting)∧True) ?_ ?_
 refine rgS d [] ?_
 have d:=d.drew
 have k:=d.fx
 refine anp (rg 4) [0,5,17,20] b k λa b=>atk 4 (some 21) b k rfl (vld 0 1 0) λa b=>anp [5,6,7] [0,5,24] b k λa b=>bs j (λhb j=>?_) λhb j=>?_
 have b:=b.bv 24 hb
 refine jO [8,9,10,12,16,17,18] [0,5,24,27,29,35] (L':=[k2g g,(5,vi f),(24,vb true),(27,pt g 1),(29,vi f),(35,pt g 2)]) (listed':=(mU 22 464895)) (fuel:=7) b k kr (by intro c a w t v h; cases t<;>exact h) kr rfl λa b=>atk 11 (some 28) b k rfl (vld 0 1 0) λa b=>bd j λab x j=>?_
 obtain ⟨ad,ae,y⟩:=d.ptr 1 rfl x
 refine atk 13 (some 30) b (d.sx [0] [0,1]) rfl (λw _=>mN (E:=135) (sz:=4) rfl y rfl kr rfl x kr kr w) λa b=>jO [14] [0,5,24,31,35] (L':=[k2g g,(5,vi f),(24,vb true),(31,.pointer (some ⟨ad,(ae+toNat f*4),none⟩)),(35,pt g 2)]) (listed':=(mU 22 491519)) (fuel:=4) b (d.sx [0] [0,1]) kr (by intro c a w t v h; cases t<;>exact h) kr rfl λa b=>atk 15 (some 32) b (d.sx [0] [0,1]) rfl (DG (t:=lE) 1 0 (v:=vu ab.TS) rfl rfl y rfl x kr (by rintro _ _ _ ⟨_,rfl,-⟩; rfl) kr) λa b=>atk 19 (some 36) b (d.sx [0] [0,1]) rfl (vld 0 2 0) λa b=>?_
 refine anp [20,21] [0,5,38] b (d.sx [0] [0,1]) λa b=>kM ?_
 cases j
 exact ⟨_,b.kp [0,5,38],d.sp [0,1,2] [0,1],trivial⟩
 have b:=b.bv 24 hb
 refine anp (ra 8 14) [0,5,38] b k λa b=>kM ?_
 cases j
 exact ⟨_,b.kp [0,5,38],d.sp [0,1,2] [0,1],trivial⟩
 rintro a w ⟨κ,b,d,-⟩
 refine Z _ _ (bc b H (λhb H=>?_) λhb H=>?_)
 refine sk (Y _ _ (bk (rl (wp 3 [0,5] b λa b=>nl ?_))))
 exact ⟨D,Nat.lt_succ_self _,_,i64.wrap (f+1),b.kp [0,5],d.sp [0,1,2] [0,1],H⟩
 refine xt (X _ _ (qs λ_ af=>rgS d [14] ?_))
 have d:=d.drew
 have k:=d.fx
 refine jO [0,1,2,3,5,6,7,9] [0,5,41,44,48,50] (L':=[k2g g,(5,vi f),(41,pt g 0),(44,pt g 0),(48,pt g 1),(50,vi f)]) (listed':=(mU 15 751)) (fuel:=7) b k kr (by intro c a w t v h; cases t<;>exact h) kr rfl λa b=>atk 4 (some 45) b k rfl (vld 0 0 0) λa b=>atk 8 (some 49) b k rfl (vld 0 1 0) λa b=>bd H λah R H=>?_
 obtain ⟨ai,aj,hvx75,hrx75⟩:=sB Tryz.prog lE (L:=[k2g g,(5,vi f),(41,pt g 0),(44,pt g 0),(45,.slice s (e.list).length u),(48,pt g 1),(49,.slice p (e.waiting).length q),(50,vi f)]) (o:=⟨(some 51),(Go.Op.slice 112 (Go.Operand.tmp 49) none (some (Go.Operand.tmp 50)) none),112,"order.go:61",#[(Go.Edge.mk 8 Go.Ground.data),(Go.Edge.mk 9 Go.Ground.data)],none⟩) (E:=135) (lo:=0) (hi:=f) rfl (d.get 1 rfl:Ro lE _ _ p q e.waiting).1 rfl rfl rfl ⟨_,rfl⟩ R kr kr
 have d:=d.add (m:=Ro.mp lE ai aj ah) (hrx75 _ _ (d.get 1 rfl))
 refine atk 10 (some 51) b (d.sx [0] [1,2]) rfl (λw _=>hvx75 w) λa b=>ago 11 b rfl (bd H λak S H=>kI (ty:=lE) b d kr 1 1 0 rfl rfl rfl kr kr rfl rfl rfl S kr (i:=Tryz.t135) (z := .agg (flat k0d).toArray) kr kr kr λK O κ a w b d=>⟨λ_=>(d.sx [0] [2,3]),?_⟩)
 refine anp [12,13] [0,5,52,54] b (d.sx [0] [2,3]) λa b=>ago 14 b rfl (wst b d 0 0 1 [sl K ak.length O] (sgN 1 jE) λa w b d=>⟨notE,?_⟩)
 refine kM (af _ _ (qr λ_ al=>(wp 4 [5,55,58] b λa b=>wc (wld b d 0 1 0 λa b=>jG (L':=[(5,vi f),(55,pt g 0),(59,.slice p (e.waiting).length q),(60,vi f)]) 1 [5,55,59,60] b kr λa b=>bd H λam T H=>wc (AG b d kr 3 2 rfl rfl rfl rfl rfl rfl T kr kr λP Q a b d=>wp 2 [5,61,63] b λa b=>wc (wst b d 0 1 1 [sl P am.length Q] (sgN 1 jE) λa w b d=>al _ _ (qr λ_ an=>wp 2 [4] b λa b=>an _ _ (rt ?_))))))))
 cases H
 exact j7 b d (l3 Tryz.results107 (rvt b)) ⟨K,O,P,Q,rfl,d.sp [0,1,2] [1,0]⟩
theorem tN (N){f}{g}{d}(c:jD)(h)(i)(j)(k)(l)(n:SB f g d [k2z l h (c.list).length i j (c.waiting).length k c.bound] (k0b h i c.list j k c.waiting)){r}(H:M.oH N c=some r) :
    Calls Tryz.prog 41 #[pt l 0] d (kQ f g d λv κ w=>v=vi r∧SS f g d κ w [k2z l h (c.list).length i j (c.waiting).length k c.bound] []):=by
 have e:=n.hS
 have s:=e.fresh
 refine en Tryz.func41 rfl Tryz.ntmps41 λa b=>?_
 unfold M.oH at H
 refine qr λ_ o=>wp 1 [0] b λa b=>o _ _ (qs λ_ p=>qr λ_ q=>wp 2 [0,4] b λa b=>q _ _ (cf b rfl (sk (p _ _ (qr λ_ m=>wp 3 [7] b λa b=>wc (wld b e 0 0 0 λa b=>wp 2 [2] b λa b=>m _ _ (rt ?_)))))))
 cases H
 exact j7 b e (l3 Tryz.results41 (rvt b)) ⟨rfl,e.sp [0] []⟩
theorem yD (N){f}{g}{d}(c:jD)(h)(i)(j)(k)(l)(n:SB f g d [k2z l h (c.list).length i j (c.waiting).length k c.bound] (k0b h i c.list j k c.waiting)){r}(H:M.sG N c=some r) :
    Calls Tryz.prog 115 #[pt l 0] d (kQ f g d λv κ w=>v=vi r∧SS f g d κ w [k2z l h (c.list).length i j (c.waiting).length k c.bound] []):=by
 have e:=n.hS
 have s:=e.fresh
 refine en Tryz.func115 rfl Tryz.ntmps115 λa b=>?_
 unfold M.sG at H
 refine qr λ_ o=>wp 1 [0] b λa b=>o _ _ (qs λ_ p=>qr λ_ q=>wp 2 [0,4] b λa b=>q _ _ (cf b rfl (sk (p _ _ (qr λ_ m=>wp 3 [7] b λa b=>wc (wld b e 0 1 0 λa b=>wp 2 [2] b λa b=>m _ _ (rt ?_)))))))
 cases H
 exact j7 b e (l3 Tryz.results115 (rvt b)) ⟨rfl,e.sp [0] []⟩
theorem yV (N){σ}{B}{Y}{l}
    (hB : ∀ {s:σ} {x:XF} {κ:Gh} {w:World} (J:Int) (i:kK) (S:Option Addr) (T:Nat) {s':σ} {c:Bool},Y s x→x.p κ w→lL κ w→x.bs.Nodup→(∀b∈x.bs,b<w.heap.size)→(∀m∈([Ro.mp jF.ty S T i.Vers]:List MP),m.p κ w)→B s J i=some (s',c)→yC Tryz.prog l Y #[vi J,.agg (flat (k0c i.TS i.DC i.Tx S (i.Vers).length T)).toArray] x s' c κ w)
    (g:jD) (j:Int) (C:Nat) (t:Option Addr) (u:Nat) (D:Option Addr) (F:Nat) {P:List Nat} {K:Gh} {G:World} {X:XF} {Z:σ} {I:Nat} {y:Nat} (e:SS P K G K G [.ext X,k33 I C,.box y 3 [si j],k2z C t (g.list).length u D (g.waiting).length F g.bound] [k31 t u g.list,k31 D F g.waiting,(MP.const (Y Z X))]) {r:σ} (H:M.t0 N B g j Z=some r) :
    Calls Tryz.prog 131 #[.func (.yield l) #[] #[],pt I 0,pt y 0] G (kQ P K G λ_ κ w => ∃x,Y r x∧SS P K G κ w [.ext x,k33 I C,.box y 3 [si j],k2z C t (g.list).length u D (g.waiting).length F g.bound] (k0b t u g.list D F g.waiting)):=by
 refine en Tryz.func131 rfl Tryz.ntmps131 λa d=>?_
 unfold M.t0 at H
 refine qs λ_ ae=>qr λ_ af=>(wc (wld d e 1 0 0 λa d=>wp 1 [0,1,2,6] d λa d=>(af _ _ (cf d rfl (sk (ae _ _ (qr λ_ ah=>(wc (wld d e 2 0 0 λa d=>wp 2 [0,1,4] d λa d=>(ah _ _ (bk (jX (n:=N) (λn a w => ∃κ h L z,Fr (30) [] [k2n (.yield l) #[],k27 I,(4,vi h)] a∧SS P K G κ w [k33 I C,.box y 3 [si j],k2z C t (g.list).length u D (g.waiting).length F g.bound,.ext z] [(MP.const (Y L z)),k31 t u g.list,k31 D F g.waiting]∧M.nN N B n g j h L=some r) ?_ ?_))))))))))))
 exact ⟨_,(if 0 > j then 0 else j),Z,X,d.kp [0,1,4],e.sp [1,2,3,0] [2,0,1],H⟩
 rintro n a w ⟨κ,h,L,z,d,e,H⟩
 rcases n with _|Q
 simp [M.nN] at H
 simp only [M.nN] at H
 refine qs λ_ ai=>qr λ_ aj=>wp 1 [0,1,4,9] d λa d=>wc (wld d e 0 0 0 λa d=>wp 2 [0,1,4,9,12] d λa d=>wc (wld d e 2 0 0 λa d=>wp 2 [0,1,4,15] d λa d=>aj _ _ (bc d H (λhb H=>?_) λhb H=>?_)))
 refine sk (ai _ _ (qs λ_ ak=>bk (qr λ_ al=>(wp 2 [0,1,4,18,19] d λa d=>wc (wld d e 0 0 0 λa d=>wp 2 [0,1,4,18,19,22] d λa d=>wc (wld d e 2 0 0 λa d=>jG (L':=[k2n (.yield l) #[],k27 I,(4,vi h),(18,.func (.yield l) #[] #[]),(19,vi h),(23,.slice t (g.list).length u),(24,vi h)]) 1 [0,1,4,18,19,23,24] d kr λa d=>bd H λf O H=>wc (kS d e kr 1 (E:=135) (sz:=4) rfl rfl rfl kr rfl O kr kr λaq ar a R d=>?_)))))))
 obtain ⟨_,⟨⟨k,o⟩,rfl,hR⟩,hc⟩:=e.elem 1 rfl R O
 have e:=(e.adds hR).add hc
 refine wc (kR d kr (v := .agg (flat (k0c f.TS f.DC f.Tx k (f.Vers).length o)).toArray) ((pN 0 0 4 (s:=[su f.TS,si f.DC,si f.Tx,sl k (f.Vers).length o]) (s':=k0c f.TS f.DC f.Tx k (f.Vers).length o) (n:=4) rfl rfl rfl (show mL [su f.TS,si f.DC,si f.Tx,sl k (f.Vers).length o] from (sgN 4 jE)) kr kr kr kr kr _ ⟨_,e⟩)) λa d=>bd H λq ab H=>wc (jS d e kr kr (v9 N e.fresh f k o ((e.pick [1] kr).ro) ab) ?_))
 rintro _ κ w a ⟨U,V,rfl,hR,hN⟩ d e hO
 have e:=e.adds hR
 have e:=e.addC hO hN
 refine bd H λA ad H=>wc (DE (Y:=Y) (s':=A.1) (c:=A.2) (x:=z) (l:=l) (args := #[vi h,.agg (flat (k0c q.TS q.DC q.Tx U (q.Vers).length V)).toArray]) d e kr 4 rfl kr kr rfl (λhp hf hn hl=>hB h q U V (e.get 3 rfl) hp hf hn hl ((e.pick [0] kr).ro) ad) λW κ w a hY d e=>?_)
 have e:=e.add (m:=MP.const (Y A.1 W)) hY
 refine wp 1 [0,1,4,29] d λa d=>al _ _ (bc d H (λhb H=>?_) λhb H=>?_)
 refine rt ?_
 cases H
 exact j7 d e (mI Tryz.results131) ⟨_,e.get 0 rfl,e.sp [4,1,2,3] [5,6]⟩
 refine sk (ak _ _ (rl (wp 3 [0,1,4] d λa d=>nl ?_)))
 exact ⟨Q,Nat.lt_succ_self _,_,i64.wrap (h+1),A.1,W,d.kp [0,1,4],e.sp (ra 1 4) [0,5,6],H⟩
 refine xt ?_
 cases H
 exact j7 d e (mI Tryz.results131) ⟨_,e.get 0 rfl,e.sp [3,0,1,2] [1,2]⟩
theorem A6 (N){l}{m}{g}(c:jD)(h)(n)(o)(p)(q)(f)(t:SB l m g [k2z f n (c.list).length o p (c.waiting).length q c.bound] (k0b n o c.list p q c.waiting)){r}(H:M.tZ N c h=some r) :
    Calls Tryz.prog 108 #[pt f 0,vi h] g (kQ l m g λv κ w => ∃j k,v = .func (.func 131) #[] #[pt j 0,pt k 0]∧SS l m g κ w [k2z f n (c.list).length o p (c.waiting).length q c.bound,k33 j f,.box k 3 [si h]] []):=by
 have d:=t.hS
 have x:=d.fresh
 refine en Tryz.func108 rfl Tryz.ntmps108 λa b=>?_
 unfold M.tZ at H
 refine qr λ_ u=>(wc (wbx b d [k34 f] (sgN 1 jE) λi a w b d=>wc (wbx b d [si h] (sgN 1 jE) λe a w b d=>jG (L':=[k28 i,k25 e]) 1 [2,3] b kr λa b=>(u _ _ (qr λ_ s=>(wc (kR b kr (v := .func (.func 131) #[] #[pt i 0,pt e 0]) (v4 (T':=0) (caps := #[pt i 0,pt e 0]) rfl kr _) λa b=>wp 1 [4] b λa b=>s _ _ (rt ?_))))))))
 cases H
 exact j7 b d (l3 Tryz.results108 (rvt b)) ⟨i,e,rfl,d.sp [2,1,0] []⟩
end Go.Cf
