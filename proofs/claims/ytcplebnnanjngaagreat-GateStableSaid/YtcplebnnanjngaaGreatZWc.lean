/- The walks: each function returns what its model says. Printed by a program of ours. -/
import Derived.Test.YtcplebnnanjngaaGreatZSh
import Derived.Test.YtcplebnnanjngaaGreatZM1
import Derived.Test.YtcplebnnanjngaaGreatZWp
namespace Go.Cf
open Go Go.Proofs
open _root_.Int(toNat tdiv tmod)
open _root_.List(set replicate)
open _root_.ByteArray(empty)
open Go.IntKind(i64 u64)
set_option linter.unusedVariables false
set_option maxRecDepth 20000
set_option maxHeartbeats 8000000
theorem EZ (N){e}{f}{d}(n:SB e f d [] []){r}(H:M.yB N=some r) :
    Calls Tryz.prog 49 #[] d (kQ e f d λv κ w => ∃h i j k l g,v=pt h 0∧SS e f d κ w (k0k h i j k (mpX jW l g r.open_ none)) (k0l i j k l)):=by
 have c:=n.hS
 have q:=c.fresh
 refine en Tryz.func49 rfl Tryz.ntmps49 λa b=>?_
 unfold M.yB at H
 refine qr λ_ o=>(jG (L':=[]) 1 [] b kr λa b=>o _ _ (qs λ_ hz=>rl (wc (sM b c kr (kInt .u64) false pF.ty rfl λm a w b c=>?_))))
 have c:=c.addMp (K:=Int) jW
 refine wp 1 [2] b λa b=>wc (wbx b c [k37 m] (sgN 1 jE) λp a w b c=>wp 1 [0] b λa b=>nl (hz _ _ (rt ?_)))
 cases H
 exact j7 b c (l3 Tryz.results49 (rvt b)) ⟨p,(some m),#[],0,(some []),[],rfl,c.sp [0,2,1] [0]⟩
theorem xR (N){T}{Q}(au:lL T Q)(f:jA)(g)(F)(G)(I)(J)(s)(u)(hR : ∀m∈([Ro.mp lB.ty F G f.Cuts,Ro.mp (fInt .i64).ty I J f.Nodes,Ro.mp jF.ty s u g]:List MP),m.p T Q){r}(H:M.u5 N f g=some r) :
    Calls Tryz.prog 87 #[.agg (flat (k04 F (f.Cuts).length G I (f.Nodes).length J)).toArray,.slice s g.length u] Q (kQ [] T Q λv κ w => ∃U V,v = .slice U r.length V∧(∀m∈([Ro.mp lP U V r]:List MP),m.p κ w)∧t5 Q κ w [.tok U 141 2 r.length V]):=by
 have c:=SS.start au hR
 refine en Tryz.func87 rfl Tryz.ntmps87 λa b=>?_
 unfold M.u5 at H
 refine qr λ_ h9=>(wc (wbx b c (k04 F (f.Cuts).length G I (f.Nodes).length J) (sgN 2 jE) λx a w b c=>wp 1 [1,2] b λa b=>(h9 _ _ (qr λ_ aw=>(wp 1 [1,2,5] b λa b=>(aw _ _ (qs λ_ ax=>qr λ_ ay=>(wp 1 [1,2,5,10] b λa b=>(ay _ _ (bk (jX (n:=N) (λn a w => ∃κ,∃h:List jJ,∃j k e,Fr (44) [] [(1,.slice s g.length u),k28 x,(5,.slice j h.length k),k2b e] a∧SS [] T Q κ w [.box x 68 [sl F (f.Cuts).length G,sl I (f.Nodes).length J],.tok j 141 2 h.length k] [Ro.mp jF.ty s u g,Ro.mp lP j k h,Ro.mp lB.ty F G f.Cuts,Ro.mp (fInt .i64).ty I J f.Nodes]∧M.nI N n f g h e=some r) ?_ ?_)))))))))))
 have c:=c.add (m:=Ro.mp lP none 0 ([]:List jJ)) (Ro.nil lP _ _)
 have c:=c.addNil 141 2
 exact ⟨_,([]:List jJ),none,0,0,b.kp [1,2,5,10],c.sp [1,0] [3,0,1,2],H⟩
 rintro n a w ⟨κ,h,j,k,e,b,c,H⟩
 rcases n with _|K
 simp [M.nI] at H
 simp only [M.nI] at H
 refine qr λ_ az=>wp 1 [1,2,5,10,11] b λa b=>az _ _ (qs λ_ aA=>bc b H (λhb H=>?_) λhb H=>?_)
 refine sk (aA _ _ (m9 (λa w => ∃κ,∃P:List jJ,∃R S,Fr (44) [] [(1,.slice s g.length u),k28 x,(5,.slice R P.length S),k2b e] a∧SS [] T Q κ w [.box x 68 [sl F (f.Cuts).length G,sl I (f.Nodes).length J],.tok R 141 2 P.length S] [Ro.mp jF.ty s u g,Ro.mp lP R S P,Ro.mp lB.ty F G f.Cuts,Ro.mp (fInt .i64).ty I J f.Nodes]∧M.s9 N (M.nI N K) f g e P=some r) ?_ ?_))
 refine bk (qr λ_ aB=>(wp 2 [1,2,5,6,10] b λa b=>(aB _ _ (qr λ_ aD=>(wp 2 [1,2,5,6,10,14] b λa b=>wc (wal b c k0m (sgN 2 jE) λD a w b c=>wc (wst b c 0 0 2 [si e,k2j] (sgN 2 jE) λa w b c=>(aD _ _ (qs λ_ aE=>qr λ_ aF=>(wp 3 [1,2,5,6,7,10,15,16,17] b λa b=>(aF _ _ (bk (jX (n:=N) (λn a w => ∃κ,∃o:List jC,∃A B q,Fr (44) [] [(1,.slice s g.length u),k28 x,(5,.slice j h.length k),(6,vi e),k2i D,k2b e,k2k s g.length u,(16,vi (g.length:Int)),(17,vi q)] a∧SS [] T Q κ w [.box D 141 [si e,sl A o.length B],.box x 68 [sl F (f.Cuts).length G,sl I (f.Nodes).length J],.tok A 48 6 o.length B,.tok j 141 2 h.length k] [Ro.mp jF.ty s u g,Ro.mp lP j k h,Ro.mp jF.ty A B o,Ro.mp lB.ty F G f.Cuts,Ro.mp (fInt .i64).ty I J f.Nodes]∧M.nX N (M.nI N K) n f g h e o q=some r) ?_ ?_)))))))))))))
 have c:=c.add (m:=Ro.mp jF.ty none 0 ([]:List jC)) (Ro.nil jF.ty _ _)
 have c:=c.addNil 48 6
 exact ⟨_,([]:List jC),none,0,0,b.kp [1,2,5,6,7,10,15,16,17],c.sp [1,2,0,3] [1,2,0,3,4],H⟩
 rintro n a w ⟨κ,o,A,B,q,b,c,H⟩
 rcases n with _|W
 simp [M.nX] at H
 simp only [M.nX] at H
 refine qr λ_ ah=>(jG (L':=[(1,.slice s g.length u),k28 x,(5,.slice j h.length k),(6,vi e),k2i D,k2b e,k2k s g.length u,(16,vi (g.length:Int)),(17,vi q),(18,vb (decide (q<(g.length:Int))))]) 1 [1,2,5,6,7,10,15,16,17,18] b kr λa b=>ah _ _ (qs λ_ ai=>bc b H (λhb H=>?_) λhb H=>?_))
 refine sk (ai _ _ (m9 (λa w => ∃κ,∃C:List jC,∃L O,Fr (44) [] [(1,.slice s g.length u),k28 x,(5,.slice j h.length k),(6,vi e),k2i D,k2b e,k2k s g.length u,(16,vi (g.length:Int)),(17,vi q)] a∧SS [] T Q κ w [.box D 141 [si e,sl L C.length O],.box x 68 [sl F (f.Cuts).length G,sl I (f.Nodes).length J],.tok L 48 6 C.length O,.tok j 141 2 h.length k] [Ro.mp jF.ty s u g,Ro.mp lP j k h,Ro.mp jF.ty L O C,Ro.mp lB.ty F G f.Cuts,Ro.mp (fInt .i64).ty I J f.Nodes]∧M.s8 N (M.nX N (M.nI N K) W) f g h e q C=some r) ?_ ?_))
 refine bk (qr λ_ aj=>(bd H λd X H=>wc (kS b c kr 0 (E:=48) (sz:=6) rfl rfl rfl kr rfl X kr kr λaH aI a Y b=>wc (qT (t:=jF) b c kr 0 rfl rfl Y rfl X kr kr kr λa b=>wc (wal b c (k0e empty) (sgN 6 jE) λak a w b c=>wc (wst b c 0 0 6 (k0n d.Key d.Val d.Gone d.TS d.DC d.Tx) (sgN 6 jE) λa w b c=>aj _ _ (qs λ_ al=>?_)))))))
 refine rl (wc (wls b c 2 0 2 λa b=>wp 1 [1,2,5,6,7,9,10,15,16,17,21,22] b λa b=>wc (wld b c 0 0 0 λa b=>bd H λaJ ad H=>wc (jS b c kr kr (zN N c.fresh f d.Key F G I J ((c.pick [3,4] kr).ro) ad) ?_))))
 rintro _ κ w a ⟨rfl,hR,hN⟩ b c hO
 refine wp 2 [1,2,5,6,7,9,10,15,16,17,26] b λa b=>al _ _ (bc b H (λhb H=>?_) λhb H=>?_)
 refine rl (jG (L':=[(1,.slice s g.length u),k28 x,(5,.slice j h.length k),(6,vi e),k2i D,(9,pt ak 0),k2b e,k2k s g.length u,(16,vi (g.length:Int)),(17,vi q),(27,pt D 1)]) 1 [1,2,5,6,7,9,10,15,16,17,27] b kr λa b=>wc (wld b c 1 1 0 λa b=>wc (wls b c 0 0 6 λa b=>wc (oU (t:=jF) (z := .agg (flat (k0e empty)).toArray) (l:=[d]) (vs:=[(0,.agg (flat (k0n d.Key d.Val d.Gone d.TS d.DC d.Tx)).toArray)]) (cells := #[.string (d.Key),.string (d.Val),vb d.Gone,vu d.TS,vi d.DC,vi d.Tx]) (E:=48) b c kr rfl kr kr rfl kr kr kr kr kr λaL κ a w b c=>?_))))
 refine bd H λZ ae H=>wc (kI (ty:=jF.ty) b c kr 4 3 0 rfl rfl rfl kr kr rfl rfl rfl ae kr (i:=Tryz.t48) (z := .agg (flat (k0e empty)).toArray) kr kr kr λaa ab κ a w b c=>wp 1 [1,2,5,6,7,10,15,16,17,31,32] b λa b=>wc (wst b c 2 1 1 [sl aa Z.length ab] (sgN 1 jE) λa w b c=>nl ?_))
 exact ⟨_,Z,aa,ab,b.kp [1,2,5,6,7,10,15,16,17],c.sp (ra 2 4) [2,3,0,5,6],H⟩
 refine sk ?_
 exact ⟨_,o,A,B,b.kp [1,2,5,6,7,10,15,16,17],c.sp (ra 1 4) (rg 5),H⟩
 rintro a w ⟨κ,C,L,O,b,c,H⟩
 unfold M.s8 at H
 refine rl (wp 2 [1,2,5,6,7,10,15,16,17] b λa b=>nl ?_)
 exact ⟨W,Nat.lt_succ_self _,_,C,L,O,i64.wrap (q+1),b.kp [1,2,5,6,7,10,15,16,17],c.sp (rg 4) (rg 5),H⟩
 refine xt (aE _ _ (qr λ_ am=>wp 1 [1,2,5,7,10,34] b λa b=>wc (wld b c 0 1 0 λa b=>wp 2 [1,2,5,7,10,37] b λa b=>am _ _ (bc b H (λhb H=>?_) λhb H=>?_))))
 refine rl (jG (L':=[(1,.slice s g.length u),k28 x,k2i D,k2b e,(38,.slice j h.length k)]) 1 [1,2,7,10,38] b kr λa b=>wc (wls b c 0 0 2 λa b=>wc (uB (t:=lP) (y:=(jJ.mk e o)) (v := .agg (flat [si e,sl A o.length B]).toArray) (z := .agg (flat k0m).toArray) (cells:=(flat [si e,sl A o.length B]).toArray) (E:=141) b c kr rfl kr ⟨(A,B),rfl,(c.pick [2] kr).ro⟩ kr kr kr kr kr λaM κ a w b c=>bd H λan af H=>?_)))
 refine wc (kI (ty:=lP) b c kr 4 2 0 rfl rfl rfl kr kr rfl rfl rfl af kr (i:=Tryz.t141) (z := .agg (flat k0m).toArray) kr kr kr λao aq κ a w b c=>wp 1 [1,2,5,10] b λa b=>nl ?_)
 exact ⟨_,an,ao,aq,b.kp [1,2,5,10],c.sp [2,4] [2,0,5,6],H⟩
 refine sk ?_
 exact ⟨_,h,j,k,b.kp [1,2,5,10],c.sp [1,3] [0,1,3,4],H⟩
 rintro a w ⟨κ,P,R,S,b,c,H⟩
 unfold M.s9 at H
 refine rl (wp 2 [1,2,5,10] b λa b=>nl ?_)
 exact ⟨K,Nat.lt_succ_self _,_,P,R,S,i64.wrap (e+1),b.kp [1,2,5,10],c.sp [0,1] (rg 4),H⟩
 refine xt (ax _ _ (qr λ_ ar=>wp 2 [4] b λa b=>ar _ _ (rt ?_)))
 cases H
 exact (j7 b c (l3 Tryz.results87 (rvt b)) ⟨j,k,rfl,(c.pick [1] kr).ro,c.newC [1] dc kr⟩)
theorem vT (N){O}{P}{K}(L:j9)(f)(y)(z)(A)(B)(e)(W)(Q)(hB:SB O P K (k0k Q z A B (mpX jW e W L.open_ none)) (k0l z A B e)){r}(H:M.qF N L f y=some r) :
    Calls Tryz.prog 104 #[pt Q 0,vu f,vi y] K (kQ O P K λv κ w => ∃R U,v = .tuple #[.pointer (pa R),vi r.2]∧SS O P K κ w (k0k Q z A B (mpX jW e U L.open_ none)) [(MP.const (r.1=true→(mGet e f).getD none=R))]):=by
 have c:=hB.hS
 have aS:=c.fresh
 refine en Tryz.func104 rfl Tryz.ntmps104 λa b=>?_
 unfold M.qF at H
 refine qr λ_ ab=>wp 2 [0,1,2] b λa b=>ab _ _ (qs λ_ ad=>qr λ_ ae=>wp 2 [0,1,2,12] b λa b=>ae _ _ (cf b rfl (sk (ad _ _ (qs λ_ af=>?_)))))
 obtain ⟨S,hlp14⟩ : ∃p,(mGet e f).getD none=p:=⟨_,rfl⟩
 have c:=c.add (m:=MP.const ((mGet e f).getD none=S)) hlp14
 refine rl (wp 3 [1,2,15] b λa b=>wc (wld b c 0 0 0 λa b=>jG (L':=[k2h y,(16,.map z),(17,vu f)]) 1 [2,16,17] b kr λa b=>wc (rU (KT:=32) (E:=182) (kt:=(kInt .u64)) b c kr 1 1 (k:=f) rfl kr kr rfl rfl hlp14 kr kr kr λa b=>jG (L':=[k2h y,(8,.pointer (pa S))]) 1 [2,8] b kr λa b=>af _ _ (qs λ_ ah=>qs λ_ ai=>bd H λaj i H=>kJ (λa w => ∃κ C F,Fr (36) [] [k2h y,(8,.pointer (pa F)),(20,vb aj)] a∧SS O P K κ w (k0k Q z A B (mpX jW e C L.open_ none)) [(MP.const ((mGet e f).getD none=F)),k3a z A B e]∧True) ?_ ?_))))
 have u:(mGet e f).getD none=S:=c.get 0 rfl
 refine kU i (λhmx21 i=>?_) (λaT hmx21 i=>?_)
 have j:=c.mpNone 2 rfl hmx21 u
 have ak:=b
 subst j
 have b:=ak
 refine rl (wp 2 [2,8,20] b λa b=>nl ?_)
 cases i
 exact ⟨_,W,none,b.kp [2,8,20],c.sp [0,1,2] [0,1],trivial⟩
 obtain ⟨al,aH,aI,j,c⟩:=c.mpTakeP 2 rfl hmx21 u
 have am:=b
 subst j
 have b:=am
 refine rl (wp 2 [2,8,20] b λa b=>nl ?_)
 obtain ⟨X,c⟩:=c.mpBackI 0 1 [2,3] dc rfl rfl u hmx21
 cases i
 exact ⟨_,X,(some al),b.kp [2,8,20],c.sp [1,2,0] [0,1],trivial⟩
 rintro a w ⟨κ,C,F,b,c,-⟩
 refine ai _ _ (bc b H (λhb H=>?_) λhb H=>?_)
 refine qr λ_ an=>wp 2 [6,7] b λa b=>an _ _ (rt ?_)
 have c:=c.add (m:=MP.const (false=true→(mGet e f).getD none=none)) (λh=>by cases h)
 cases H
 exact j7 b c (sZ Tryz.results104 (rvt b) (rvt b)) ⟨none,C,rfl,c.sp [0,1,2] [0]⟩
 refine sk (ah _ _ (qs λ_ ao=>qs λ_ aq=>?_))
 have x:(mGet e f).getD none=F:=c.get 0 rfl
 refine kU H (λhmx30 H=>?_) (λg hmx30 H=>?_)
 have j:=c.mpNone 2 rfl hmx30 x
 have ar:=b
 subst j
 have b:=ar
 cases H
 obtain ⟨q,aJ,aL,j,c⟩:=c.mpTakeP 2 rfl hmx30 x
 have au:=b
 subst j
 have b:=au
 obtain ⟨⟨G,I,av,aw,ax,ay,az,aA⟩,c⟩:=c.unfI (ck:=k9) (fs:=k8) 0 rfl
 refine rl (wp 3 [2,8,23] b λa b=>wc (wld b c 0 1 0 λa b=>wp 2 [2,8,24,25,26] b λa b=>nl ?_))
 obtain ⟨aM,c⟩:=c.foldI (ck:=k9) (fs:=k8) q (G,I,av,aw,ax,ay,az,aA) g [0,1,2] [3,4,5] [0,1,2] dc kr kr
 obtain ⟨D,c⟩:=c.mpBackI 0 1 [2,3] dc rfl rfl x hmx30
 refine aq _ _ (bk (jX (n:=N) (λn a w => ∃κ t,Fr (36) [] [k2h y,k2q q,(24,.slice G (g.shares).length I),(25,vi ((g.shares).length:Int)),(26,vi t)] a∧SS O P K κ w (k0k Q z A B (mpX jW e D L.open_ none)) [(MP.const ((mGet e f).getD none=(some q))),k3b G I g.shares,k3a z A B e]∧M.nR N n L f y g t=some r) ?_ ?_))
 exact ⟨_,0,b.kp [2,8,24,25,26],c.sp [1,2,0] [3,0,4],H⟩
 rintro n a w ⟨κ,t,b,c,H⟩
 rcases n with _|V
 simp [M.nR] at H
 simp only [M.nR] at H
 refine qr λ_ aB=>(jG (L':=[k2h y,k2q q,(24,.slice G (g.shares).length I),(25,vi ((g.shares).length:Int)),(26,vi t),(27,vb (decide (t<((g.shares).length:Int))))]) 1 [2,8,24,25,26,27] b kr λa b=>aB _ _ (qs λ_ aD=>bc b H (λhb H=>?_) λhb H=>?_))
 refine sk (aD _ _ (qs λ_ aE=>bk (qr λ_ aF=>(bd H λd J H=>wc (kS b c kr 1 (E:=141) (sz:=2) rfl rfl rfl kr rfl J kr kr λaO aP a T b=>?_)))))
 obtain ⟨_,⟨⟨l,o⟩,rfl,hR⟩,hc⟩:=c.elem 1 rfl T J
 have c:=(c.adds hR).add hc
 refine wc (kR b kr (v := .agg (flat [si d.Node,sl l (d.Vers).length o]).toArray) ((pN 0 0 2 (s:=[si d.Node,sl l (d.Vers).length o]) (s':=[si d.Node,sl l (d.Vers).length o]) (n:=2) rfl rfl rfl (show mL [si d.Node,sl l (d.Vers).length o] from (sgN 2 jE)) kr kr kr kr kr _ ⟨_,c⟩)) λa b=>wc (wal b c k0m (sgN 2 jE) λaR a w b c=>wc (wst b c 0 0 2 [si d.Node,sl l (d.Vers).length o] (sgN 2 jE) λa w b c=>?_)))
 refine aF _ _ (qr λ_ Y=>wp 1 [2,8,24,25,26,30] b λa b=>wc (wld b c 0 0 0 λa b=>wp 2 [2,8,24,25,26,33] b λa b=>Y _ _ (bc b H (λhb H=>?_) λhb H=>?_)))
 refine qr λ_ Z=>wp 3 [6,7] b λa b=>Z _ _ (rt ?_)
 have c:=c.add (m:=MP.const (true=true→(mGet e f).getD none=(some q))) (λ_=>c.get 2 rfl)
 cases H
 exact j7 b c (sZ Tryz.results104 (rvt b) (rvt b)) ⟨(some q),D,rfl,c.sp [1,2,3] [0]⟩
 refine sk (aE _ _ (rl (wp 2 [2,8,24,25,26] b λa b=>nl ?_)))
 exact ⟨V,Nat.lt_succ_self _,_,i64.wrap (t+1),b.kp [2,8,24,25,26],c.sp [1,2,3] [2,3,4],H⟩
 refine xt (ao _ _ (qr λ_ aa=>wp 2 [6,7] b λa b=>aa _ _ (rt ?_)))
 have c:=c.add (m:=MP.const (false=true→(mGet e f).getD none=none)) (λh=>by cases h)
 cases H
 exact j7 b c (sZ Tryz.results104 (rvt b) (rvt b)) ⟨none,D,rfl,c.sp [0,1,2] [0]⟩
theorem yI (N){Ms}{κ0}{w0}(a1:j9)(o)(I)(e)(A)(P)(Q)(D)(an)(f)(g)(x)(hB:SB Ms κ0 w0 (k0k x A P Q (mpX jW D an a1.open_ none)) [k3a A P Q D,k3b f g e]){r}(H:M.r9 N a1 o I e=some r) :
    Calls Tryz.prog 88 #[pt x 0,vu o,vu I,.slice f e.length g] w0 (kQ Ms κ0 w0 λv κ w => ∃ao aq ar au aD,v=vi r.1∧SS Ms κ0 w0 κ w (k0k x ao aq ar (mpX jW au aD r.2.open_ none)) (k0l ao aq ar au)):=by
 have d:=hB.hS
 have bD:=d.fresh
 refine en Tryz.func88 rfl Tryz.ntmps88 λa b=>?_
 unfold M.r9 at H
 refine qr λ_ a3=>(wp 1 (rg 4) b λa b=>(a3 _ _ (qs λ_ a4=>qr λ_ a5=>(jG (L':=[k2g x,(1,vu o),(2,vu I),k3c f e.length g,(20,(vb ((e.length:Int)==0)))]) 7 [0,1,2,3,20] b kr λa b=>a5 _ _ (bc b H (λhb H=>?_) λhb H=>?_)))))
 refine qr λ_ a6=>wp 1 [8] b λa b=>a6 _ _ (rt ?_)
 cases H
 exact j7 b d (l3 Tryz.results88 (rvt b)) ⟨A,P,Q,D,an,rfl,d.sp [0,1,2] [0]⟩
 refine sk (a4 _ _ (qs λ_ a7=>qs λ_ ba=>bd H λbe R H=>kJ (λa w => ∃κ J,Fr (76) [] [k2g x,(1,vu o),(2,vu I),k3c f e.length g,(27,vb be)] a∧SS Ms κ0 w0 κ w (k0k x A P Q (mpX jW D J a1.open_ none)) [k3a A P Q D,k3b f g e]∧True) ?_ ?_))
 obtain ⟨aM,hlp22⟩ : ∃p,(mGet D o).getD none=p:=⟨_,rfl⟩
 have d:=d.add (m:=MP.const ((mGet D o).getD none=aM)) hlp22
 have X:(mGet D o).getD none=aM:=d.get 0 rfl
 refine kU R (λhmx23 R=>?_) (λbE hmx23 R=>?_)
 have av:=d.mpNone 2 rfl hmx23 X
 have bf:=b
 subst av
 have b:=bf
 refine rl (wp 3 [0,1,2,3,23] b λa b=>wc (wld b d 0 0 0 λa b=>jG (L':=[k2g x,(1,vu o),(2,vu I),k3c f e.length g,(24,.map A),(25,vu o)]) 1 [0,1,2,3,24,25] b kr λa b=>wc (rU (KT:=32) (E:=182) (kt:=(kInt .u64)) b d kr 1 1 (k:=o) rfl kr kr rfl rfl hlp22 kr kr kr λa b=>wp 1 [0,1,2,3,27] b λa b=>nl ?_)))
 cases R
 exact ⟨_,an,b.kp [0,1,2,3,27],d.sp [0,1,2] [1,2],trivial⟩
 obtain ⟨bF,bu,bw,av,d⟩:=d.mpTakeP 2 rfl hmx23 X
 have bg:=b
 subst av
 have b:=bg
 refine rl (wp 3 [0,1,2,3,23] b λa b=>wc (wld b d 2 0 0 λa b=>jG (L':=[k2g x,(1,vu o),(2,vu I),k3c f e.length g,(24,.map A),(25,vu o)]) 1 [0,1,2,3,24,25] b kr λa b=>wc (rU (KT:=32) (E:=182) (kt:=(kInt .u64)) b d kr 3 1 (k:=o) rfl kr kr rfl rfl hlp22 kr kr kr λa b=>wp 1 [0,1,2,3,27] b λa b=>nl ?_)))
 obtain ⟨aO,d⟩:=d.mpBackI 0 1 [2,3] dc rfl rfl X hmx23
 cases R
 exact ⟨_,aO,b.kp [0,1,2,3,27],d.sp [1,2,0] [1,2],trivial⟩
 rintro a w ⟨κ,J,b,d,-⟩
 refine ba _ _ (bc b H (λhb H=>?_) λhb H=>?_)
 refine qr λ_ bh=>wp 1 [8] b λa b=>bh _ _ (rt ?_)
 cases H
 exact j7 b d (l3 Tryz.results88 (rvt b)) ⟨A,P,Q,D,J,rfl,d.sp [0,1,2] [0]⟩
 refine sk (a7 _ _ (qr λ_ bi=>(jG (L':=[k2g x,(1,vu o),k3c f e.length g,(28,vu I)]) 1 [0,1,3,28] b kr λa b=>wc (sM b d kr (kInt .i64) false (fInt .u64).ty rfl λL a w b d=>wc (sM b d kr (kInt .i64) false jN.ty rfl λO a w b d=>wp 1 [0,1,3,31] b λa b=>wc (wbx b d [su I,k2j,k37 L,k37 O,su 0,k2p] (sgN 6 jE) λj a w b d=>wp 1 [0,1,3,9] b λa b=>bi _ _ (qs λ_ bj=>qr λ_ bl=>wp 3 [0,1,3,9,33,34,35] b λa b=>?_)))))))
 refine bl _ _ (bk (jX (n:=N) (λn a w => ∃κ,∃B:List jJ,∃F G q,Fr (76) [] [k2g x,(1,vu o),k3c f e.length g,(9,pt j 0),(33,.slice f e.length g),(34,vi (e.length:Int)),(35,vi q)] a∧SS Ms κ0 w0 κ w [.box j 185 [su I,sl F B.length G,k37 L,k37 O,su 0,k2p],k39 x A,.tok F 141 2 B.length G,.ext (objX (some L) (.map (#[]) 0)),.ext (objX (some O) (.map (#[]) 0)),mx A P Q,.ext (mpX jW D J a1.open_ none)] [k3a A P Q D,k3b f g e,k3b F G B,Map.mp (kInt .i64) false (fInt .u64).ty (some L) (#[]) 0 (some []),Map.mp (kInt .i64) false jN.ty (some O) (#[]) 0 (some [])]∧M.lX N n a1 o I e B q=some r) ?_ ?_))
 have d:=d.add (m:=Ro.mp lP none 0 ([]:List jJ)) (Ro.nil lP _ _)
 have d:=d.addNil 141 2
 exact ⟨_,([]:List jJ),none,0,0,b.kp [0,1,3,9,33,34,35],d.sp [1,4,0,3,2,5,6] [3,4,0,2,1],H⟩
 rintro n a w ⟨κ,B,F,G,q,b,d,H⟩
 rcases n with _|ah
 simp [M.lX] at H
 simp only [M.lX] at H
 refine qr λ_ bm=>wp 1 [0,1,3,9,33,34,35,36] b λa b=>bm _ _ (qs λ_ bn=>bc b H (λhb H=>?_) λhb H=>?_)
 refine sk (bn _ _ (qs λ_ bo=>bk (qr λ_ bq=>(jG (L':=[k2g x,(1,vu o),k3c f e.length g,(9,pt j 0),(33,.slice f e.length g),(34,vi (e.length:Int)),(35,vi q),(37,vi q)]) 1 [0,1,3,9,33,34,35,37] b kr λa b=>bd H λl aw H=>wc (kS b d kr 1 (E:=141) (sz:=2) rfl rfl rfl kr rfl aw kr kr λbG bH a aE b=>?_)))))
 obtain ⟨_,⟨⟨S,T⟩,rfl,hR⟩,hc⟩:=d.elem 1 rfl aE aw
 have d:=(d.adds hR).add hc
 refine wc (kR b kr (v := .agg (flat [si l.Node,sl S (l.Vers).length T]).toArray) ((pN 0 0 2 (s:=[si l.Node,sl S (l.Vers).length T]) (s':=[si l.Node,sl S (l.Vers).length T]) (n:=2) rfl rfl rfl (show mL [si l.Node,sl S (l.Vers).length T] from (sgN 2 jE)) kr kr kr kr kr _ ⟨_,d⟩)) λa b=>wc (wal b d k0m (sgN 2 jE) λW a w b d=>wp 1 [0,1,3,9,10,11,33,34,35,39] b λa b=>wc (wst b d 0 0 2 [si l.Node,sl S (l.Vers).length T] (sgN 2 jE) λa w b d=>?_)))
 refine bq _ _ (qs λ_ aQ=>qr λ_ aR=>(jG (L':=[k2g x,(1,vu o),k3c f e.length g,(9,pt j 0),k2r W,(33,.slice f e.length g),(34,vi (e.length:Int)),(35,vi q),(40,.slice f e.length g),(41,vi q)]) 2 [0,1,3,9,11,33,34,35,40,41] b kr λa b=>bd H λC aF H=>wc (z3 b d kr 3 (E:=141) (lo:=0) (hi:=q) rfl rfl rfl kr rfl ⟨_,rfl⟩ aF kr kr λae af a b d=>wp 2 [0,1,3,9,11,33,34,35,42,43,44] b λa b=>(aR _ _ (bk (jX (n:=N) (λn a w => ∃κ K,Fr (76) [] [k2g x,(1,vu o),k3c f e.length g,(9,pt j 0),k2r W,(33,.slice f e.length g),(34,vi (e.length:Int)),(35,vi q),(42,.slice ae C.length af),(43,vi (C.length:Int)),(44,vi K)] a∧SS Ms κ0 w0 κ w [.box W 141 [si l.Node,sl S (l.Vers).length T],.box j 185 [su I,sl F B.length G,k37 L,k37 O,su 0,k2p],k39 x A,.tok F 141 2 B.length G,.ext (objX (some L) (.map (#[]) 0)),.ext (objX (some O) (.map (#[]) 0)),mx A P Q,.ext (mpX jW D J a1.open_ none)] [k3a A P Q D,k3b f g e,k3b F G B,Map.mp (kInt .i64) false (fInt .u64).ty (some L) (#[]) 0 (some []),Map.mp (kInt .i64) false jN.ty (some O) (#[]) 0 (some []),k3b ae af C,k2u S T l.Vers]∧M.nG N (M.lX N ah) n a1 o I e B q l C K=some r) ?_ ?_))))))
 exact ⟨_,0,b.kp [0,1,3,9,11,33,34,35,42,43,44],d.sp (rg 8) [3,4,5,6,7,0,2],H⟩
 rintro n a w ⟨κ,K,b,d,H⟩
 rcases n with _|aG
 simp [M.nG] at H
 simp only [M.nG] at H
 refine qr λ_ aS=>(jG (L':=[k2g x,(1,vu o),k3c f e.length g,(9,pt j 0),k2r W,(33,.slice f e.length g),(34,vi (e.length:Int)),(35,vi q),(42,.slice ae C.length af),(43,vi (C.length:Int)),(44,vi K),(45,vb (decide (K<(C.length:Int))))]) 1 [0,1,3,9,11,33,34,35,42,43,44,45] b kr λa b=>aS _ _ (qs λ_ aT=>bc b H (λhb H=>?_) λhb H=>?_))
 refine sk (aT _ _ (qs λ_ aU=>bk (qr λ_ aV=>(bd H λu ai H=>wc (kS b d kr 5 (E:=141) (sz:=2) rfl rfl rfl kr rfl ai kr kr λbx bz a ax b=>?_)))))
 obtain ⟨_,⟨⟨U,V⟩,rfl,hR⟩,hc⟩:=d.elem 5 rfl ax ai
 have d:=(d.adds hR).add hc
 refine wc (kR b kr (v := .agg (flat [si u.Node,sl U (u.Vers).length V]).toArray) ((pN 0 0 2 (s:=[si u.Node,sl U (u.Vers).length V]) (s':=[si u.Node,sl U (u.Vers).length V]) (n:=2) rfl rfl rfl (show mL [si u.Node,sl U (u.Vers).length V] from (sgN 2 jE)) kr kr kr kr kr _ ⟨_,d⟩)) λa b=>wc (wal b d k0m (sgN 2 jE) λbA a w b d=>wc (wst b d 0 0 2 [si u.Node,sl U (u.Vers).length V] (sgN 2 jE) λa w b d=>?_)))
 refine aV _ _ (qr λ_ aW=>wp 1 [0,1,3,9,11,33,34,35,42,43,44,48] b λa b=>wc (wld b d 0 0 0 λa b=>wp 1 [0,1,3,9,11,33,34,35,42,43,44,49,50] b λa b=>wc (wld b d 1 0 0 λa b=>wp 1 [0,1,3,9,11,33,34,35,42,43,44,52] b λa b=>aW _ _ (bc b H (λhb H=>?_) λhb H=>?_))))
 refine qr λ_ aX=>wp 1 [8] b λa b=>aX _ _ (rt ?_)
 cases H
 exact j7 b d (l3 Tryz.results88 (rvt b)) ⟨A,P,Q,D,J,rfl,d.sp [3,7,8] [2]⟩
 refine sk (aU _ _ (rl (wp 2 [0,1,3,9,11,33,34,35,42,43,44] b λa b=>nl ?_)))
 exact ⟨aG,Nat.lt_succ_self _,_,i64.wrap (K+1),b.kp [0,1,3,9,11,33,34,35,42,43,44],d.sp (ra 1 8) (ra 2 7),H⟩
 refine xt (aQ _ _ (rgS d [15] ?_))
 have d:=d.drew
 have hX:=d.fx
 refine bd H λY aI H=>bd H λay aJ H=>jO [0,1,2,3,5,7] [0,1,3,9,33,34,35,54,57,59,61] (L':=[k2g x,(1,vu o),k3c f e.length g,(9,pt j 0),(33,.slice f e.length g),(34,vi (e.length:Int)),(35,vi q),(54,pt j 0),(57,pt j 1),(59,pt W 0),(61,pt W 1)]) (listed':=(mU 16 175)) (fuel:=10) b hX kr (by intro c a w t v h; cases t<;>exact h) kr rfl λa b=>atk 4 (some 58) b hX rfl (vld 1 1 0) λa b=>atk 6 (some 60) b hX rfl (vld 0 0 0) λa b=>?_
 refine atk 8 (some 62) b hX rfl (vld 0 1 0) λa b=>ago 9 b rfl ?_
 have d:=d.add (m:=Ro.mp jF.ty none 0 ([]:List jC)) (Ro.nil jF.ty _ _)
 have d:=d.addNil 48 6
 refine kI (ty:=jF.ty) b d kr 0 0 7 rfl rfl rfl kr kr rfl rfl rfl aI kr (i:=Tryz.t48) (z := .agg (flat (k0e empty)).toArray) kr kr kr λZ aa κ a w b d=>⟨λ_=>(d.sx [1,2,3,5,6,7,8] (ra 2 7)),?_⟩
 refine jO [10] [0,1,3,9,33,34,35,54,58,64] (L':=[k2g x,(1,vu o),k3c f e.length g,(9,pt j 0),(33,.slice f e.length g),(34,vi (e.length:Int)),(35,vi q),(54,pt j 0),(58,.slice F B.length G),(64,.agg (flat [si l.Node,sl Z Y.length aa]).toArray)]) (listed':=(mU 16 2047)) (fuel:=5) b (d.sx [1,2,3,5,6,7,8] (ra 2 7)) kr (by intro c a w t v h; cases t<;>exact h) kr rfl λa b=>ago 11 b rfl (uB (t:=lP) (y:=(jJ.mk l.Node Y)) (v := .agg (flat [si l.Node,sl Z Y.length aa]).toArray) (z := .agg (flat k0m).toArray) (cells:=(flat [si l.Node,sl Z Y.length aa]).toArray) (E:=141) b d kr rfl kr ⟨(Z,aa),rfl,(d.pick [0] kr).ro⟩ kr kr kr kr kr λbB κ a w b d=>?_)
 refine ⟨λ_=>(d.sx [2,3,4,6,7,8,9] (ra 3 7)),?_⟩
 refine ago 12 b rfl (kI (ty:=lP) b d kr 5 5 0 rfl rfl rfl kr kr rfl rfl rfl aJ kr (i:=Tryz.t141) (z := .agg (flat k0m).toArray) kr kr kr λaz aA κ a w b d=>⟨λ_=>(d.sx [2,3,4,6,7,8,9] (ra 4 7)),?_⟩)
 refine anp [13,14] [0,1,3,9,33,34,35,66,68] b (d.sx [2,3,4,6,7,8,9] (ra 4 7)) λa b=>ago 15 b rfl (wst b d 3 1 1 [sl az ay.length aA] (sgN 1 jE) λa w b d=>⟨notE,?_⟩)
 refine kM (bo _ _ (rl (wp 2 [0,1,3,9,33,34,35] b λa b=>nl ?_)))
 exact ⟨ah,Nat.lt_succ_self _,_,ay,az,aA,i64.wrap (q+1),b.kp [0,1,3,9,33,34,35],d.sp (ra 3 7) [4,5,0,7,8],H⟩
 refine xt (bj _ _ (qr λ_ aY=>(wp 3 [1,9,72] b λa b=>wc (wld b d 1 0 0 λa b=>jG (L':=[(73,.map A),(74,vu o),(75,pt j 0)]) 2 [73,74,75] b kr λa b=>?_))))
 obtain ⟨br,d⟩:=d.foldI (ck:=k9) (fs:=k8) j (F,G,(some L),#[],0,(some O),#[],0) (jH.mk I B (some []) (some []) 0 false) [0,3,4] [1,2,5,6] [2,3,4] dc kr kr
 refine bd H λbC aj H=>?_
 obtain ⟨aB,hbx177⟩:=d.mpPutE 4 rfl aj (some j)
 refine wc (pV (KT:=32) (E:=182) (kt:=(kInt .u64)) (agg:=false) (t:=pF.ty) b d kr 3 0 (k:=o) (v:=some j) (cs:=flat [k34 j]) rfl kr kr kr rfl rfl rfl hbx177 kr kr λaZ a0 a w b d=>?_)
 obtain ⟨aL,d⟩:=d.mpSetI 0 4 [1,2,3] dc rfl rfl aj hbx177
 have d:=d.add (m:=MP.const ((mGet aB o).getD none=some j)) (IV hbx177)
 refine aY _ _ (qr λ_ a2=>wp 1 [8] b λa b=>a2 _ _ (rt ?_))
 cases H
 exact j7 b d (l3 Tryz.results88 (rvt b)) ⟨A,aZ,a0,aB,aL,rfl,d.sp [1,3,0] [1]⟩
theorem z2 (N){W}{X}{L}(Y:j9)(n)(p)(g)(q)(s)(u)(j)(T)(O)(Z:SB W X L (k0k O q s u (mpX jW j T Y.open_ none)) (k0l q s u j)){r}(H:M.rR N Y n p g=some r) :
    Calls Tryz.prog 69 #[pt O 0,vu n,vi p,vu g] L (kQ W X L λv κ w => ∃F G I J P,v = .tuple #[vu r.1,vb r.2.1,vi r.2.2.1]∧SS W X L κ w (k0k O F G I (mpX jW J P r.2.2.2.open_ none)) (k0l F G I J)):=by
 have d:=Z.hS
 have ch:=d.fresh
 refine en Tryz.func69 rfl Tryz.ntmps69 λa b=>?_
 unfold M.rR at H
 refine qr λ_ aP=>wp 3 (rg 4) b λa b=>aP _ _ (qr λ_ aQ=>wp 3 [2,3,16,17,18] b λa b=>bd H λci aa H=>wc (wcS 3 [0,1,2] b d (λd=>vT N Y n p q s u j T O (d.sbK [0]) aa) ?_))
 rintro _ κ w a ⟨cj,ab,rfl,h2⟩ b Z
 have d:=Z _ _ h2
 refine wp 5 [2,3,11,12] b λa b=>aQ _ _ (qs λ_ aR=>qr λ_ aS=>wp 2 [2,3,11,12,23] b λa b=>aS _ _ (bc b H (λhb H=>?_) λhb H=>?_))
 refine qr λ_ aT=>wp 4 [8,9,10] b λa b=>aT _ _ (rt ?_)
 cases H
 exact j7 b d (FE Tryz.results69 (rvt b) (rvt b) (rvt b)) ⟨q,s,u,j,ab,rfl,d.sp [0,1,2] [1]⟩
 refine sk (aR _ _ (qs λ_ aU=>qs λ_ aV=>bd H λaW hmx21 H=>?_))
 obtain ⟨hcd,hmx21⟩:=EJ hmx21
 have o:=(d.get 0 rfl:_=true→_) hcd
 obtain ⟨e,bY,bZ,f,d⟩:=d.mpTakeP 2 rfl hmx21 o
 have aX:=b
 subst f
 have b:=aX
 obtain ⟨⟨aY,aZ,U,a0,a2,a3,a4,a5⟩,d⟩:=d.unfI (ck:=k9) (fs:=k8) 0 rfl
 refine rl (wp 3 [2,3,11,28] b λa b=>wc (wld b d 0 2 0 λa b=>jG (L':=[k2h p,(3,vu g),k2r e,(29,.map U),(30,vi p)]) 1 [2,3,11,29,30] b kr λa b=>bd H λcl ad H=>wc (xS (KT:=3) (E:=32) (kt:=(kInt .i64)) (agg:=false) (t:=(fInt .u64).ty) b d kr 1 1 (k:=p) (zc:=flat [su 0]) (zm:=0) rfl kr kr rfl rfl ad kr kr kr (λ_ _=>rfl) ?_)))
 rintro _ a rfl b
 refine wp 5 [2,3,11,14] b λa b=>nl ?_
 obtain ⟨b0,d⟩:=d.foldI (ck:=k9) (fs:=k8) e (aY,aZ,U,a0,a2,a3,a4,a5) aW [0,1,2] [3,4,5] [0,1,2] dc kr kr
 obtain ⟨ae,d⟩:=d.mpBackI 0 1 [2,3] dc rfl rfl o hmx21
 have d:=d.add (m:=MP.const ((mGet j n).getD none=(some e))) o
 refine aV _ _ (qr λ_ a6=>wp 1 [2,3,11,34] b λa b=>a6 _ _ (bc b H (λhb H=>?_) λhb H=>?_))
 refine qr λ_ a7=>wp 3 [8,9,10] b λa b=>a7 _ _ (rt ?_)
 cases H
 exact j7 b d (FE Tryz.results69 (rvt b) (rvt b) (rvt b)) ⟨q,s,u,j,ae,rfl,d.sp [1,2,0] [5]⟩
 refine sk (aU _ _ (qs λ_ ba=>qs λ_ be=>?_))
 have A:(mGet j n).getD none=(some e):=d.get 0 rfl
 refine bd H λbf hmx41 H=>?_
 obtain ⟨_,b1,b2,f,d⟩:=d.mpTakeP 0 rfl hmx41 A
 cases f
 obtain ⟨⟨bg,bh,bi,bj,bl,bm,bn,bo⟩,d⟩:=d.unfI (ck:=k9) (fs:=k8) 0 rfl
 refine rl (wp 4 [2,3,11,35,38] b λa b=>wc (wld b d 0 0 0 λa b=>wp 1 [2,3,11,40] b λa b=>nl ?_))
 obtain ⟨b3,d⟩:=d.foldI (ck:=k9) (fs:=k8) e (bg,bh,bi,bj,bl,bm,bn,bo) bf [0,1,2] [3,4,5] [0,1,2] dc kr kr
 obtain ⟨af,d⟩:=d.mpBackI 0 1 [2,3] dc rfl rfl A hmx41
 refine be _ _ (bc b H (λhb H=>?_) λhb H=>?_)
 refine qr λ_ bq=>wp 3 [8,9,10] b λa b=>bq _ _ (rt ?_)
 cases H
 exact j7 b d (FE Tryz.results69 (rvt b) (rvt b) (rvt b)) ⟨q,s,u,j,af,rfl,d.sp [1,2,0] [8]⟩
 refine sk (ba _ _ (qs λ_ br=>?_))
 have B:(mGet j n).getD none=(some e):=d.get 3 rfl
 refine bd H λx hmx58 H=>?_
 obtain ⟨_,b4,b5,f,d⟩:=d.mpTakeP 0 rfl hmx58 B
 cases f
 obtain ⟨⟨bt,bu,V,cm,cn,bw,bx,bz⟩,d⟩:=d.unfI (ck:=k9) (fs:=k8) 0 rfl
 refine rl (wp 3 [2,3,11,43] b λa b=>wc (wld b d 0 2 0 λa b=>jG (L':=[(3,vu g),k2r e,(44,.map V),(45,vi p),(46,vu g)]) 2 [3,11,44,45,46] b kr λa b=>bd H λbA ah H=>wc (pV (KT:=3) (E:=32) (kt:=(kInt .i64)) (agg:=false) (t:=(fInt .u64).ty) b d kr 1 1 (k:=p) (v:=g) (cs:=flat [su g]) rfl kr kr kr rfl rfl rfl ah kr kr λbB bC a w b d=>nl ?_)))
 obtain ⟨b6,d⟩:=d.foldI (ck:=k9) (fs:=k8) e (bt,bu,V,bB,bC,bw,bx,bz) (jH.mk x.low x.shares bA x.ended x.at_ x.decided) [0,1,2] [3,4,5] [1,0,3] dc kr kr
 obtain ⟨b8,d⟩:=d.mpPutI 0 1 [2,3] dc rfl rfl B hmx58 (zC hmx58)
 refine br _ _ (qs λ_ bD=>?_)
 have C:(mGet j n).getD none=(some e):=d.get 7 rfl
 refine bd H λl hmx77 H=>?_
 obtain ⟨_,b9,ca,f,d⟩:=d.mpTakeP 0 rfl hmx77 C
 cases f
 obtain ⟨⟨bE,bF,bG,bH,bI,bJ,bK,bL⟩,d⟩:=d.unfI (ck:=k9) (fs:=k8) 0 rfl
 refine rl (wp 4 [3,11,47,50] b λa b=>wc (wld b d 0 4 0 λa b=>wp 4 [11,53,55] b λa b=>wc (wst b d 0 4 1 [su (if g > l.at_ then g else l.at_)] (sgN 1 jE) λa w b d=>nl ?_)))
 obtain ⟨cb,d⟩:=d.foldI (ck:=k9) (fs:=k8) e (bE,bF,bG,bH,bI,bJ,bK,bL) (jH.mk l.low l.shares l.votes l.ended (if g > l.at_ then g else l.at_) l.decided) [0,1,2] [3,4,5] [0,1,2] dc kr kr
 obtain ⟨cc,d⟩:=d.mpPutI 0 1 [2,3] dc rfl rfl C hmx77 (zC hmx77)
 refine bD _ _ (qs λ_ bM=>?_)
 have D:(mGet j n).getD none=(some e):=d.get 10 rfl
 refine bd H λi hmx93 H=>?_
 obtain ⟨_,cd,ce,f,d⟩:=d.mpTakeP 0 rfl hmx93 D
 cases f
 obtain ⟨⟨bN,bO,K,ai,aj,ak,al,am⟩,d⟩:=d.unfI (ck:=k9) (fs:=k8) 0 rfl
 refine rgS d [14] ?_
 have d:=d.drew
 have Q:=d.fx
 refine anp [0,1,2,3,6,7,8] [11,56,59,64] b Q λa b=>atk 4 (some 60) b Q rfl (vld 0 2 0) λa b=>atk 9 (some 65) b Q rfl (vld 0 1 0) λa b=>jO [10] [11,56,60,66] (L':=[k2r e,(56,pt e 0),(60,.map K),(66,vi ((i.shares).length:Int))]) (listed':=(mU 15 2015)) (fuel:=5) b Q kr (by intro c a w t v h; cases t<;>exact h) kr rfl λa b=>ago 5 b rfl (vA (KT:=3) (E:=32) (kt:=(kInt .i64)) (agg:=false) (t:=(fInt .u64).ty) b d kr 1 1 rfl kr rfl rfl kr λa b=>⟨λ_=>(d.sx (rg 6) (rg 19)),?_⟩)
 refine anp [11,12,13] [11,67,69] b (d.sx (rg 6) (rg 19)) λa b=>ago 14 b rfl (wst b d 0 5 1 [(sb ((mLen i.votes:Int)==((i.shares).length:Int)))] (sgN 1 jE) λa w b d=>⟨notE,?_⟩)
 refine kM ?_
 obtain ⟨bP,d⟩:=d.foldI (ck:=k9) (fs:=k8) e (bN,bO,K,ai,aj,ak,al,am) (jH.mk i.low i.shares i.votes i.ended i.at_ ((mLen i.votes:Int)==((i.shares).length:Int))) [0,1,2] [3,4,5] [0,1,2] dc kr kr
 obtain ⟨bQ,d⟩:=d.mpPutI 0 1 [2,3] dc rfl rfl D hmx93 (zC hmx93)
 refine bM _ _ (qs λ_ an=>qs λ_ ao=>?_)
 have y:(mGet j n).getD none=(some e):=d.get 13 rfl
 refine bd H λaq hmx110 H=>?_
 obtain ⟨_,bR,bS,f,d⟩:=d.mpTakeP 0 rfl hmx110 y
 cases f
 obtain ⟨⟨ar,au,av,aw,ax,ay,az,aA⟩,d⟩:=d.unfI (ck:=k9) (fs:=k8) 0 rfl
 refine rl (wp 3 [11,72] b λa b=>wc (wld b d 0 5 0 λa b=>wp 1 [11,74] b λa b=>nl ?_))
 obtain ⟨bT,d⟩:=d.foldI (ck:=k9) (fs:=k8) e (ar,au,av,aw,ax,ay,az,aA) aq [0,1,2] [3,4,5] [0,1,2] dc kr kr
 obtain ⟨R,d⟩:=d.mpBackI 0 1 [2,3] dc rfl rfl y hmx110
 refine ao _ _ (bc b H (λhb H=>?_) λhb H=>?_)
 refine qr λ_ aB=>wp 3 [8,9,10] b λa b=>aB _ _ (rt ?_)
 cases H
 exact j7 b d (FE Tryz.results69 (rvt b) (rvt b) (rvt b)) ⟨q,s,u,j,R,rfl,d.sp [1,2,0] [21]⟩
 refine sk (an _ _ (qs λ_ aD=>?_))
 have z:(mGet j n).getD none=(some e):=d.get 16 rfl
 refine bd H λaE hmx127 H=>?_
 obtain ⟨_,bU,bV,f,d⟩:=d.mpTakeP 0 rfl hmx127 z
 cases f
 obtain ⟨⟨aF,aG,aH,aI,aJ,aL,aM,aO⟩,d⟩:=d.unfI (ck:=k9) (fs:=k8) 0 rfl
 refine rl (wp 3 [77] b λa b=>wc (wld b d 0 4 0 λa b=>wp 3 [8,9,10] b λa b=>nl ?_))
 obtain ⟨bW,d⟩:=d.foldI (ck:=k9) (fs:=k8) e (aF,aG,aH,aI,aJ,aL,aM,aO) aE [0,1,2] [3,4,5] [0,1,2] dc kr kr
 obtain ⟨S,d⟩:=d.mpBackI 0 1 [2,3] dc rfl rfl z hmx127
 refine aD _ _ (rt ?_)
 cases H
 exact j7 b d (FE Tryz.results69 (rvt b) (rvt b) (rvt b)) ⟨q,s,u,j,S,rfl,d.sp [1,2,0] [24]⟩
theorem zU (N){P}{Q}{z}(R:j9)(f)(n)(j)(q)(o)(g)(C)(s)(S:SB P Q z (k0k s j q o (mpX jW g C R.open_ none)) (k0l j q o g)){r}(H:M.s7 N R f n=some r) :
    Calls Tryz.prog 72 #[pt s 0,vu f,vi n] z (kQ P Q z λv κ w => ∃D F G I A,v = .tuple #[vb r.1,vi r.2.1]∧SS P Q z κ w (k0k s D F G (mpX jW I A r.2.2.open_ none)) (k0l D F G I)):=by
 have d:=S.hS
 have bx:=d.fresh
 refine en Tryz.func72 rfl Tryz.ntmps72 λa b=>?_
 unfold M.s7 at H
 refine qr λ_ ab=>wp 2 [0,1,2] b λa b=>ab _ _ (qr λ_ ad=>wp 3 [0,1,2,11,12,13] b λa b=>bd H λbz T H=>wc (wcS 3 [0,1,2] b d (λd=>vT N R f n j q o g C s (d.sbK [0]) T) ?_))
 rintro _ κ w a ⟨bA,U,rfl,h2⟩ b S
 have d:=S _ _ h2
 refine wp 5 [0,1,2,8,9] b λa b=>ad _ _ (qs λ_ ae=>qr λ_ af=>wp 2 [0,1,2,8,9,18] b λa b=>af _ _ (bc b H (λhb H=>?_) λhb H=>?_))
 refine qr λ_ ah=>wp 3 [6,7] b λa b=>ah _ _ (rt ?_)
 cases H
 exact j7 b d (sZ Tryz.results72 (rvt b) (rvt b)) ⟨j,q,o,g,U,rfl,d.sp [0,1,2] [1]⟩
 refine sk (ae _ _ (qs λ_ ai=>qs λ_ aj=>bd H λak hmx20 H=>?_))
 obtain ⟨hcd,hmx20⟩:=EJ hmx20
 have l:=(d.get 0 rfl:_=true→_) hcd
 obtain ⟨e,bf,bg,i,d⟩:=d.mpTakeP 2 rfl hmx20 l
 have al:=b
 subst i
 have b:=al
 obtain ⟨⟨am,an,ao,aq,ar,au,av,aw⟩,d⟩:=d.unfI (ck:=k9) (fs:=k8) 0 rfl
 refine rl (wp 3 [0,1,2,8,22] b λa b=>wc (wld b d 0 5 0 λa b=>wp 1 [0,1,2,8,24] b λa b=>nl ?_))
 obtain ⟨bh,d⟩:=d.foldI (ck:=k9) (fs:=k8) e (am,an,ao,aq,ar,au,av,aw) ak [0,1,2] [3,4,5] [0,1,2] dc kr kr
 obtain ⟨V,d⟩:=d.mpBackI 0 1 [2,3] dc rfl rfl l hmx20
 have d:=d.add (m:=MP.const ((mGet g f).getD none=(some e))) l
 refine aj _ _ (bc b H (λhb H=>?_) λhb H=>?_)
 refine qr λ_ ax=>wp 2 [6,7] b λa b=>ax _ _ (rt ?_)
 cases H
 exact j7 b d (sZ Tryz.results72 (rvt b) (rvt b)) ⟨j,q,o,g,V,rfl,d.sp [1,2,0] [5]⟩
 refine sk (ai _ _ (qs λ_ ay=>qs λ_ az=>?_))
 have u:(mGet g f).getD none=(some e):=d.get 0 rfl
 refine bd H λaA hmx38 H=>?_
 obtain ⟨_,bi,bj,i,d⟩:=d.mpTakeP 0 rfl hmx38 u
 cases i
 obtain ⟨⟨aB,aD,aE,aF,aG,J,aH,aI⟩,d⟩:=d.unfI (ck:=k9) (fs:=k8) 0 rfl
 refine rl (wp 3 [0,1,2,8,27] b λa b=>wc (wld b d 0 3 0 λa b=>jG (L':=[k2g s,(1,vu f),k2h n,k2q e,(28,.map J),(29,vi n)]) 1 [0,1,2,8,28,29] b kr λa b=>bd H λbB W H=>wc (xS (KT:=3) (E:=4) (kt:=(kInt .i64)) (agg:=false) (t:=jN.ty) b d kr 2 2 (k:=n) (zc:=flat [k2p]) (zm:=false) rfl kr kr rfl rfl W kr kr kr (λ_ _=>rfl) ?_)))
 rintro _ a rfl b
 refine nl ?_
 obtain ⟨bl,d⟩:=d.foldI (ck:=k9) (fs:=k8) e (aB,aD,aE,aF,aG,J,aH,aI) aA [0,1,2] [3,4,5] [0,1,2] dc kr kr
 obtain ⟨X,d⟩:=d.mpBackI 0 1 [2,3] dc rfl rfl u hmx38
 refine az _ _ (bc b H (λhb H=>?_) λhb H=>?_)
 refine qr λ_ aJ=>wp 2 [6,7] b λa b=>aJ _ _ (rt ?_)
 cases H
 exact j7 b d (sZ Tryz.results72 (rvt b) (rvt b)) ⟨j,q,o,g,X,rfl,d.sp [1,2,0] [8]⟩
 refine sk (ay _ _ (qs λ_ aL=>?_))
 have x:(mGet g f).getD none=(some e):=d.get 3 rfl
 refine bd H λp hmx56 H=>?_
 obtain ⟨_,bm,bn,i,d⟩:=d.mpTakeP 0 rfl hmx56 x
 cases i
 obtain ⟨⟨aM,aO,aP,aQ,aR,K,bC,bD⟩,d⟩:=d.unfI (ck:=k9) (fs:=k8) 0 rfl
 refine rl (wp 3 [0,1,2,8,33] b λa b=>wc (wld b d 0 3 0 λa b=>jG (L':=[k2g s,(1,vu f),k2q e,(34,.map K),(35,vi n)]) 1 [0,1,8,34,35] b kr λa b=>bd H λaS Y H=>wc (pV (KT:=3) (E:=4) (kt:=(kInt .i64)) (agg:=false) (t:=jN.ty) b d kr 2 2 (k:=n) (v:=true) (cs:=flat [sb true]) rfl kr kr kr rfl rfl rfl Y kr kr λaT aU a w b d=>nl ?_)))
 obtain ⟨bo,d⟩:=d.foldI (ck:=k9) (fs:=k8) e (aM,aO,aP,aQ,aR,K,aT,aU) (jH.mk p.low p.shares p.votes aS p.at_ p.decided) [0,1,2] [3,4,5] [1,2,0] dc kr kr
 obtain ⟨bq,d⟩:=d.mpPutI 0 1 [2,3] dc rfl rfl x hmx56 (zC hmx56)
 refine aL _ _ (qs λ_ aV=>qs λ_ aW=>?_)
 have y:(mGet g f).getD none=(some e):=d.get 7 rfl
 refine bd H λL hmx76 H=>?_
 obtain ⟨_,br,bt,i,d⟩:=d.mpTakeP 0 rfl hmx76 y
 cases i
 obtain ⟨⟨aX,aY,aZ,a0,a2,O,a3,a4⟩,d⟩:=d.unfI (ck:=k9) (fs:=k8) 0 rfl
 refine rgS d [] ?_
 have d:=d.drew
 have B:=d.fx
 refine anp [0,1,2,5,6,7] [0,1,38,43] b B λa b=>atk 3 (some 39) b B rfl (vld 0 3 0) λa b=>atk 8 (some 44) b B rfl (vld 0 1 0) λa b=>jO [9] [0,1,39,45] (L':=[k2g s,(1,vu f),(39,.map O),(45,vi ((L.shares).length:Int))]) (listed':=(mU 11 1007)) (fuel:=2) b B kr (by intro c a w t v h; cases t<;>exact h) kr rfl λa b=>ago 4 b rfl (vA (KT:=3) (E:=4) (kt:=(kInt .i64)) (agg:=false) (t:=jN.ty) b d kr 2 2 rfl kr rfl rfl kr λa b=>⟨λ_=>(d.sx (rg 6) (rg 16)),?_⟩)
 refine anp [10] [0,1,46] b (d.sx (rg 6) (rg 16)) λa b=>kM ?_
 obtain ⟨bu,d⟩:=d.foldI (ck:=k9) (fs:=k8) e (aX,aY,aZ,a0,a2,O,a3,a4) L [0,1,2] [3,4,5] [0,1,2] dc kr kr
 obtain ⟨Z,d⟩:=d.mpBackI 0 1 [2,3] dc rfl rfl y hmx76
 refine aW _ _ (bc b H (λhb H=>?_) λhb H=>?_)
 refine qr λ_ a5=>wp 2 [6,7] b λa b=>a5 _ _ (rt ?_)
 cases H
 exact j7 b d (sZ Tryz.results72 (rvt b) (rvt b)) ⟨j,q,o,g,Z,rfl,d.sp [1,2,0] [15]⟩
 refine sk (aV _ _ (qr λ_ a6=>(wp 3 [1,49] b λa b=>wc (wld b d 1 0 0 λa b=>jG (L':=[(50,.map j),(51,vu f)]) 1 [50,51] b kr λa b=>wc (wC (KT:=32) (E:=182) (kt:=(kInt .u64)) (agg:=false) (t:=pF.ty) b d kr 2 15 (k:=f) rfl kr kr rfl rfl kr kr λa7 a w hsub b d=>?_)))))
 obtain ⟨aa,d⟩:=d.mpDelI 0 [1,2] dc rfl f
 refine a6 _ _ (qr λ_ ba=>wp 2 [6,7] b λa b=>ba _ _ (rt ?_))
 cases H
 exact j7 b d (sZ Tryz.results72 (rvt b) (rvt b)) ⟨j,a7,o,(mDel g f),aa,rfl,d.sp [1,2,0] [0]⟩
theorem uU (N){R}{S}{P}(Q:j9)(e)(h)(G)(I)(g)(Y)(A)(hB:SB R S P (k0k A h G I (mpX jW g Y Q.open_ none)) (k0l h G I g)){r}(H:M.o9 N Q e=some r) :
    Calls Tryz.prog 68 #[pt A 0,vu e] P (kQ R S P λv κ w => ∃J K V,v = .slice J r.length K∧SS R S P κ w [k39 A h,mx h G I,.ext (mpX jW g V Q.open_ none),k38 J r.length K] (k0i J K r)):=by
 have c:=hB.hS
 have aV:=c.fresh
 refine en Tryz.func68 rfl Tryz.ntmps68 λa b=>?_
 unfold M.o9 at H
 refine qr λ_ h9=>(jG (L':=[k2g A,(1,vu e)]) 1 [0,1] b kr λa b=>h9 _ _ (qs λ_ aj=>qs λ_ ak=>bd H λal j H=>kJ (λa w => ∃κ L,Fr (39) [] [k2g A,(1,vu e),(18,vb al)] a∧SS R S P κ w (k0k A h G I (mpX jW g L Q.open_ none)) (k0l h G I g)∧True) ?_ ?_))
 obtain ⟨Z,hlp15⟩ : ∃p,(mGet g e).getD none=p:=⟨_,rfl⟩
 have c:=c.add (m:=MP.const ((mGet g e).getD none=Z)) hlp15
 have B:(mGet g e).getD none=Z:=c.get 0 rfl
 refine kU j (λhmx16 j=>?_) (λaW hmx16 j=>?_)
 have l:=c.mpNone 2 rfl hmx16 B
 have am:=b
 subst l
 have b:=am
 refine rl (wp 6 [0,1,10,13] b λa b=>wcg b (wld b c 0 0 0 λa b=>jG (L':=k0o A e h) 1 [0,1,10,14,15] b kr λa b=>wcg b (rU (KT:=32) (E:=182) (kt:=(kInt .u64)) b c kr 1 1 (k:=e) rfl kr kr rfl rfl hlp15 kr kr kr λa b=>wp 2 [0,1,18] b λa b=>nl ?_)))
 cases j
 exact ⟨_,Y,b.kp [0,1,18],c.sp [0,1,2] [1],trivial⟩
 obtain ⟨aX,aM,aO,l,c⟩:=c.mpTakeP 2 rfl hmx16 B
 have an:=b
 subst l
 have b:=an
 refine rl (wp 6 [0,1,10,13] b λa b=>wcg b (wld b c 2 0 0 λa b=>jG (L':=k0o A e h) 1 [0,1,10,14,15] b kr λa b=>wcg b (rU (KT:=32) (E:=182) (kt:=(kInt .u64)) b c kr 3 1 (k:=e) rfl kr kr rfl rfl hlp15 kr kr kr λa b=>wp 2 [0,1,18] b λa b=>nl ?_)))
 obtain ⟨ab,c⟩:=c.mpBackI 0 1 [2,3] dc rfl rfl B hmx16
 cases j
 exact ⟨_,ab,b.kp [0,1,18],c.sp [1,2,0] [1],trivial⟩
 rintro a w ⟨κ,L,b,c,-⟩
 refine ak _ _ (bc b H (λhb H=>?_) λhb H=>?_)
 refine qr λ_ ao=>wp 1 [4] b λa b=>ao _ _ (rt ?_)
 have c:=c.add (m:=Ro.mp jF.ty none 0 ([]:List jC)) (Ro.nil jF.ty _ _)
 have c:=c.addNil 48 6
 cases H
 exact j7 b c (l3 Tryz.results68 (rvt b)) ⟨none,0,L,rfl,c.sp [1,2,3,0] [0]⟩
 refine sk (aj _ _ (qr λ_ aq=>(jG (L':=[k2g A,(1,vu e),(5,.slice none 0 0)]) 1 [0,1,5] b kr λa b=>aq _ _ (qs λ_ ar=>qs λ_ au=>?_))))
 obtain ⟨aa,hlp26⟩ : ∃p,(mGet g e).getD none=p:=⟨_,rfl⟩
 have c:=c.add (m:=MP.const ((mGet g e).getD none=aa)) hlp26
 have C:(mGet g e).getD none=aa:=c.get 0 rfl
 refine kU H (λhmx27 H=>?_) (λf hmx27 H=>?_)
 have l:=c.mpNone 2 rfl hmx27 C
 have av:=b
 subst l
 have b:=av
 cases H
 obtain ⟨aw,aP,aQ,l,c⟩:=c.mpTakeP 2 rfl hmx27 C
 have ax:=b
 subst l
 have b:=ax
 obtain ⟨⟨D,F,ay,az,aA,aB,aD,aE⟩,c⟩:=c.unfI (ck:=k9) (fs:=k8) 0 rfl
 refine rl (wp 3 [1,5,21] b λa b=>wc (wld b c 4 0 0 λa b=>jG (L':=[(5,.slice none 0 0),(22,.map h),(23,vu e)]) 1 [5,22,23] b kr λa b=>wc (rU (KT:=32) (E:=182) (kt:=(kInt .u64)) b c kr 5 4 (k:=e) rfl kr kr rfl rfl hlp26 kr kr kr λa b=>wp 2 [5,26] b λa b=>wc (wld b c 0 1 0 λa b=>wp 2 [5,27,28,29] b λa b=>nl ?_))))
 obtain ⟨aR,c⟩:=c.foldI (ck:=k9) (fs:=k8) aw (D,F,ay,az,aA,aB,aD,aE) f [0,1,2] [3,4,5] [0,1,2] dc kr kr
 obtain ⟨T,c⟩:=c.mpBackI 0 1 [2,3] dc rfl rfl C hmx27
 refine au _ _ (bk (jX (n:=N) (λn a w => ∃κ,∃o:List jC,∃q t u,Fr (39) [] [(5,.slice q o.length t),k2o D (f.shares).length F,(28,vi ((f.shares).length:Int)),(29,vi u)] a∧SS R S P κ w [k39 A h,k38 q o.length t,mx h G I,.ext (mpX jW g T Q.open_ none)] [k2u q t o,k3b D F f.shares,k3a h G I g]∧M.mT N n Q f o u=some r) ?_ ?_))
 have c:=c.add (m:=Ro.mp jF.ty none 0 ([]:List jC)) (Ro.nil jF.ty _ _)
 have c:=c.addNil 48 6
 exact ⟨_,([]:List jC),none,0,0,b.kp [5,27,28,29],c.sp [2,0,3,1] [0,1,5],H⟩
 rintro n a w ⟨κ,o,q,t,u,b,c,H⟩
 rcases n with _|W
 simp [M.mT] at H
 simp only [M.mT] at H
 refine qr λ_ aF=>(jG (L':=[(5,.slice q o.length t),k2o D (f.shares).length F,(28,vi ((f.shares).length:Int)),(29,vi u),(30,vb (decide (u<((f.shares).length:Int))))]) 1 [5,27,28,29,30] b kr λa b=>aF _ _ (qs λ_ aG=>bc b H (λhb H=>?_) λhb H=>?_))
 refine sk (aG _ _ (qs λ_ aH=>bk (qr λ_ aI=>(bd H λd O H=>wc (kS b c kr 1 (E:=141) (sz:=2) rfl rfl rfl kr rfl O kr kr λaS aT a U b=>?_)))))
 obtain ⟨_,⟨⟨x,y⟩,rfl,hR⟩,hc⟩:=c.elem 1 rfl U O
 have c:=(c.adds hR).add hc
 refine wc (kR b kr (v := .agg (flat [si d.Node,sl x (d.Vers).length y]).toArray) ((pN 0 0 2 (s:=[si d.Node,sl x (d.Vers).length y]) (s':=[si d.Node,sl x (d.Vers).length y]) (n:=2) rfl rfl rfl (show mL [si d.Node,sl x (d.Vers).length y] from (sgN 2 jE)) kr kr kr kr kr _ ⟨_,c⟩)) λa b=>wc (wal b c k0m (sgN 2 jE) λad a w b c=>wc (wst b c 0 0 2 [si d.Node,sl x (d.Vers).length y] (sgN 2 jE) λa w b c=>?_)))
 refine aI _ _ (rl (jG (L':=[k2o D (f.shares).length F,(28,vi ((f.shares).length:Int)),(29,vi u),(33,.slice q o.length t),(34,pt ad 1)]) 2 [27,28,29,33,34] b kr λa b=>wc (wld b c 0 1 0 λa b=>bd H λae X H=>wc (kI (ty:=jF.ty) b c kr 2 2 1 rfl rfl rfl kr kr rfl rfl rfl X kr (i:=Tryz.t48) (z := .agg (flat (k0e empty)).toArray) kr kr kr λaf ah κ a w b c=>wp 1 [5,27,28,29] b λa b=>aH _ _ ?_))))
 refine rl (wp 2 [5,27,28,29] b λa b=>nl ?_)
 exact ⟨W,Nat.lt_succ_self _,_,ae,af,ah,i64.wrap (u+1),b.kp [5,27,28,29],c.sp (ra 1 4) [0,4,5],H⟩
 refine xt (ar _ _ (qr λ_ ai=>wp 2 [4] b λa b=>ai _ _ (rt ?_)))
 cases H
 exact j7 b c (l3 Tryz.results68 (rvt b)) ⟨q,t,T,rfl,c.sp [0,2,3,1] [0]⟩
theorem yJ (N){T}{U}{R}(S:j9)(e)(h)(J)(K)(g)(aa)(C)(hB:SB T U R (k0k C h J K (mpX jW g aa S.open_ none)) (k0l h J K g)){r}(H:M.pL N S e=some r) :
    Calls Tryz.prog 71 #[pt C 0,vu e] R (kQ T U R λv κ w => ∃L O X,v = .slice L r.length O∧SS T U R κ w [k39 C h,mx h J K,.ext (mpX jW g X S.open_ none),.tok L 3 1 r.length O] [k2m L O r]):=by
 have c:=hB.hS
 have aY:=c.fresh
 refine en Tryz.func71 rfl Tryz.ntmps71 λa b=>?_
 unfold M.pL at H
 refine qr λ_ h9=>(jG (L':=[k2g C,(1,vu e)]) 1 [0,1] b kr λa b=>h9 _ _ (qs λ_ al=>qs λ_ am=>bd H λan j H=>kJ (λa w => ∃κ P,Fr (40) [] [k2g C,(1,vu e),(18,vb an)] a∧SS T U R κ w (k0k C h J K (mpX jW g P S.open_ none)) (k0l h J K g)∧True) ?_ ?_))
 obtain ⟨ab,hlp15⟩ : ∃p,(mGet g e).getD none=p:=⟨_,rfl⟩
 have c:=c.add (m:=MP.const ((mGet g e).getD none=ab)) hlp15
 have D:(mGet g e).getD none=ab:=c.get 0 rfl
 refine kU j (λhmx16 j=>?_) (λaZ hmx16 j=>?_)
 have o:=c.mpNone 2 rfl hmx16 D
 have ao:=b
 subst o
 have b:=ao
 refine rl (wp 6 [0,1,10,13] b λa b=>wcg b (wld b c 0 0 0 λa b=>jG (L':=k0o C e h) 1 [0,1,10,14,15] b kr λa b=>wcg b (rU (KT:=32) (E:=182) (kt:=(kInt .u64)) b c kr 1 1 (k:=e) rfl kr kr rfl rfl hlp15 kr kr kr λa b=>wp 2 [0,1,18] b λa b=>nl ?_)))
 cases j
 exact ⟨_,aa,b.kp [0,1,18],c.sp [0,1,2] [1],trivial⟩
 obtain ⟨a0,aP,aQ,o,c⟩:=c.mpTakeP 2 rfl hmx16 D
 have aq:=b
 subst o
 have b:=aq
 refine rl (wp 6 [0,1,10,13] b λa b=>wcg b (wld b c 2 0 0 λa b=>jG (L':=k0o C e h) 1 [0,1,10,14,15] b kr λa b=>wcg b (rU (KT:=32) (E:=182) (kt:=(kInt .u64)) b c kr 3 1 (k:=e) rfl kr kr rfl rfl hlp15 kr kr kr λa b=>wp 2 [0,1,18] b λa b=>nl ?_)))
 obtain ⟨ae,c⟩:=c.mpBackI 0 1 [2,3] dc rfl rfl D hmx16
 cases j
 exact ⟨_,ae,b.kp [0,1,18],c.sp [1,2,0] [1],trivial⟩
 rintro a w ⟨κ,P,b,c,-⟩
 refine am _ _ (bc b H (λhb H=>?_) λhb H=>?_)
 refine qr λ_ ar=>wp 1 [4] b λa b=>ar _ _ (rt ?_)
 have c:=c.add (m:=Ro.mp (fInt .i64).ty none 0 ([]:List Int)) (Ro.nil (fInt .i64).ty _ _)
 have c:=c.addNil 3 1
 cases H
 exact j7 b c (l3 Tryz.results71 (rvt b)) ⟨none,0,P,rfl,c.sp [1,2,3,0] [0]⟩
 refine sk (al _ _ (qr λ_ au=>(jG (L':=[k2g C,(1,vu e),(5,.slice none 0 0)]) 1 [0,1,5] b kr λa b=>au _ _ (qs λ_ av=>qs λ_ aw=>?_))))
 obtain ⟨ad,hlp26⟩ : ∃p,(mGet g e).getD none=p:=⟨_,rfl⟩
 have c:=c.add (m:=MP.const ((mGet g e).getD none=ad)) hlp26
 have F:(mGet g e).getD none=ad:=c.get 0 rfl
 refine kU H (λhmx27 H=>?_) (λf hmx27 H=>?_)
 have o:=c.mpNone 2 rfl hmx27 F
 have ax:=b
 subst o
 have b:=ax
 cases H
 obtain ⟨ay,aR,aS,o,c⟩:=c.mpTakeP 2 rfl hmx27 F
 have az:=b
 subst o
 have b:=az
 obtain ⟨⟨G,I,aA,aB,aD,aE,aF,aG⟩,c⟩:=c.unfI (ck:=k9) (fs:=k8) 0 rfl
 refine rl (wp 3 [1,5,21] b λa b=>wc (wld b c 4 0 0 λa b=>jG (L':=[(5,.slice none 0 0),(22,.map h),(23,vu e)]) 1 [5,22,23] b kr λa b=>wc (rU (KT:=32) (E:=182) (kt:=(kInt .u64)) b c kr 5 4 (k:=e) rfl kr kr rfl rfl hlp26 kr kr kr λa b=>wp 2 [5,26] b λa b=>wc (wld b c 0 1 0 λa b=>wp 2 [5,27,28,29] b λa b=>nl ?_))))
 obtain ⟨aT,c⟩:=c.foldI (ck:=k9) (fs:=k8) ay (G,I,aA,aB,aD,aE,aF,aG) f [0,1,2] [3,4,5] [0,1,2] dc kr kr
 obtain ⟨V,c⟩:=c.mpBackI 0 1 [2,3] dc rfl rfl F hmx27
 refine aw _ _ (bk (jX (n:=N) (λn a w => ∃κ,∃q:List Int,∃u x y,Fr (40) [] [(5,.slice u q.length x),k2o G (f.shares).length I,(28,vi ((f.shares).length:Int)),(29,vi y)] a∧SS T U R κ w [k39 C h,.tok u 3 1 q.length x,mx h J K,.ext (mpX jW g V S.open_ none)] [k2m u x q,k3b G I f.shares,k3a h J K g]∧M.nH N n S f q y=some r) ?_ ?_))
 have c:=c.add (m:=Ro.mp (fInt .i64).ty none 0 ([]:List Int)) (Ro.nil (fInt .i64).ty _ _)
 have c:=c.addNil 3 1
 exact ⟨_,([]:List Int),none,0,0,b.kp [5,27,28,29],c.sp [2,0,3,1] [0,1,5],H⟩
 rintro n a w ⟨κ,q,u,x,y,b,c,H⟩
 rcases n with _|Y
 simp [M.nH] at H
 simp only [M.nH] at H
 refine qr λ_ aH=>(jG (L':=[(5,.slice u q.length x),k2o G (f.shares).length I,(28,vi ((f.shares).length:Int)),(29,vi y),(30,vb (decide (y<((f.shares).length:Int))))]) 1 [5,27,28,29,30] b kr λa b=>aH _ _ (qs λ_ aI=>bc b H (λhb H=>?_) λhb H=>?_))
 refine sk (aI _ _ (qs λ_ aJ=>bk (qr λ_ aL=>(bd H λd Q H=>wc (kS b c kr 1 (E:=141) (sz:=2) rfl rfl rfl kr rfl Q kr kr λaU aV a W b=>?_)))))
 obtain ⟨_,⟨⟨A,B⟩,rfl,hR⟩,hc⟩:=c.elem 1 rfl W Q
 have c:=(c.adds hR).add hc
 refine wc (kR b kr (v := .agg (flat [si d.Node,sl A (d.Vers).length B]).toArray) ((pN 0 0 2 (s:=[si d.Node,sl A (d.Vers).length B]) (s':=[si d.Node,sl A (d.Vers).length B]) (n:=2) rfl rfl rfl (show mL [si d.Node,sl A (d.Vers).length B] from (sgN 2 jE)) kr kr kr kr kr _ ⟨_,c⟩)) λa b=>wc (wal b c k0m (sgN 2 jE) λaf a w b c=>wc (wst b c 0 0 2 [si d.Node,sl A (d.Vers).length B] (sgN 2 jE) λa w b c=>?_)))
 refine aL _ _ (rl (jG (L':=[k2o G (f.shares).length I,(28,vi ((f.shares).length:Int)),(29,vi y),(33,.slice u q.length x),(34,pt af 0)]) 2 [27,28,29,33,34] b kr λa b=>wc (wld b c 0 0 0 λa b=>wc (oU (t:=(fInt .i64)) (z:=vi 0) (l:=[d.Node]) (vs:=[(0,vi d.Node)]) (cells := #[vi d.Node]) (E:=3) b c kr rfl kr kr rfl kr kr kr kr kr λaX κ a w b c=>bd H λah Z H=>wc (kI (ty:=(fInt .i64).ty) b c kr 3 3 0 rfl rfl rfl kr kr rfl rfl rfl Z kr (i:=Tryz.t3) (z:=vi 0) kr kr kr λai aj κ a w b c=>?_)))))
 refine wp 1 [5,27,28,29] b λa b=>aJ _ _ (rl (wp 2 [5,27,28,29] b λa b=>nl ?_))
 exact ⟨Y,Nat.lt_succ_self _,_,ah,ai,aj,i64.wrap (y+1),b.kp [5,27,28,29],c.sp (ra 2 4) [0,5,6],H⟩
 refine xt (av _ _ (qr λ_ ak=>wp 2 [4] b λa b=>ak _ _ (rt ?_)))
 cases H
 exact j7 b c (l3 Tryz.results71 (rvt b)) ⟨u,x,V,rfl,c.sp [0,2,3,1] [0]⟩
theorem xK (N){F}{G}{D}(j:j9)(k)(l)(g)(i)(o)(u)(Q)(h)(S:SB F G D (k0k h g i o (mpX jW u Q j.open_ none)) (k0l g i o u)){r}(H:M.pU N j k l=some r) :
    Calls Tryz.prog 111 #[pt h 0,.string (k),.string (l)] D (kQ F G D λv κ w => ∃L:List Nat,v=vb r∧SS F G D κ w (k0k h g i o (mpX jW u L j.open_ none)) []):=by
 have c:=S.hS
 have au:=c.fresh
 refine en Tryz.func111 rfl Tryz.ntmps111 λa b=>?_
 unfold M.pU at H
 refine qr λ_ aa=>(wp 1 [0,1,2] b λa b=>(aa _ _ (qs λ_ ab=>qr λ_ ad=>(wp 2 [0,1,2,11] b λa b=>(ad _ _ (cf b rfl (sk (ab _ _ (qs λ_ ae=>qr λ_ af=>(jG (L':=[k2g h,(1,.string (k)),(2,.string (l)),(14,pt h 0)]) 3 [0,1,2,14] b kr λa b=>wc (wld b c 0 0 0 λa b=>wc (z6 (KT:=32) (E:=182) (kt:=(kInt .u64)) (agg:=false) (t:=pF.ty) b c kr 1 0 rfl kr rfl rfl kr λp a w b c=>?_))))))))))))
 have c:=c.add (m:=It.mp (kInt .u64) i (#[]) (qL j.open_)) (KH (c.get 0 rfl) (c.mpKeys 3 rfl))
 refine af _ _ (bk (jX (n:=N) (λn a w => ∃κ s I q,Fr (35) [] [k2g h,(1,.string (k)),(2,.string (l)),(16,pt p 0)] a∧SS F G D κ w [k39 h g,mx g i o,.ext (mpX jW u s j.open_ none),.ext (objX (some p) (itO g o I))] [k3a g i o u,It.mp (kInt .u64) i I q]∧M.lI N n j k l q=some r) ?_ ?_))
 exact ⟨_,Q,#[],(qL j.open_),b.kp [0,1,2,16],c.sp [1,2,3,0] [2,0],H⟩
 rintro n a w ⟨κ,s,I,q,b,c,H⟩
 rcases n with _|y
 simp [M.lI] at H
 simp only [M.lI] at H
 refine qr λ_ R=>(wc (AV (kt:=(kInt .u64)) (agg:=false) (t:=pF.ty) b c kr 1 3 0 1 rfl kr rfl rfl rfl rfl (IN (c.mpKeys 2 rfl) H) ?_ ?_))
 intro H a b
 refine wp 1 [0,1,2,16,18] b λa b=>R _ _ (qs λ_ av=>cf b rfl (xt (ae _ _ (qr λ_ ah=>wp 1 [6] b λa b=>ah _ _ (rt ?_)))))
 cases H
 exact j7 b c (l3 Tryz.results111 (rvt b)) ⟨s,rfl,c.sp [0,1,2] []⟩
 rintro ⟨z,aw⟩ al J a w H b c
 refine jG (L':=[k2g h,(1,.string (k)),(2,.string (l)),(16,pt p 0),(18,vb true)]) 1 [0,1,2,16,18] b kr λa b=>(R _ _ (qs λ_ ai=>ct b rfl (sk (ai _ _ (bk (qr λ_ aj=>(wc (z8 (kt:=(kInt .u64)) (agg:=false) (t:=pF.ty) b c kr 1 3 2 0 rfl kr rfl rfl rfl rfl ?_))))))))
 rintro _ a rfl b
 refine wp 2 [0,1,2,7,16] b λa b=>aj _ _ (qr λ_ ak=>wp 2 [0,1,2,16,21,22] b λa b=>bd H λf T H=>wc (wcS 3 (rg 4) b c (λc=>uU N j z g i o u s h (c.sbK [2]) T) ?_))
 rintro _ κ w a ⟨A,B,x,rfl,h2⟩ b S
 have c:=S _ _ h2
 refine wp 2 [0,1,2,16,23,24,25] b λa b=>(ak _ _ (bk (jX (n:=N) (λn a w => ∃κ e,Fr (35) [] [k2g h,(1,.string (k)),(2,.string (l)),(16,pt p 0),(23,.slice A f.length B),(24,vi (f.length:Int)),(25,vi e)] a∧SS F G D κ w [k39 h g,k38 A f.length B,mx g i o,.ext (mpX jW u x j.open_ none),.ext (objX (some p) (itO g o J))] [k3a g i o u,It.mp (kInt .u64) i J (kRem q z),k2u A B f]∧M.l4 N (M.lI N y) n j k l q z f e=some r) ?_ ?_)))
 exact ⟨_,0,b.kp [0,1,2,16,23,24,25],c.sp [0,3,1,2,4] [3,2,0],H⟩
 rintro n a w ⟨κ,e,b,c,H⟩
 rcases n with _|O
 simp [M.l4] at H
 simp only [M.l4] at H
 refine qr λ_ U=>(jG (L':=[k2g h,(1,.string (k)),(2,.string (l)),(16,pt p 0),(23,.slice A f.length B),(24,vi (f.length:Int)),(25,vi e),(26,vb (decide (e<(f.length:Int))))]) 1 [0,1,2,16,23,24,25,26] b kr λa b=>U _ _ (qs λ_ V=>bc b H (λhb H=>?_) λhb H=>?_))
 refine sk (V _ _ (qs λ_ W=>bk (qr λ_ X=>(bd H λd C H=>wc (kS b c kr 2 (E:=48) (sz:=6) rfl rfl rfl kr rfl C kr kr λan ao a K b=>wc (qT (t:=jF) b c kr 2 rfl rfl K rfl C kr kr kr λa b=>wc (wal b c (k0e empty) (sgN 6 jE) λaq a w b c=>wc (wst b c 0 0 6 (k0n d.Key d.Val d.Gone d.TS d.DC d.Tx) (sgN 6 jE) λa w b c=>?_))))))))
 refine X _ _ (qr λ_ Y=>wp 1 [0,1,2,16,23,24,25,29] b λa b=>wc (wld b c 0 0 0 λa b=>wp 2 [0,1,2,16,23,24,25,30,31,32] b λa b=>bd H λar P H=>wc (jS b c kr kr (w9 N c.fresh d.Key k l ((c.pick [] kr).ro) P) ?_)))
 rintro _ κ w a ⟨rfl,hR,hN⟩ b c hO
 refine Y _ _ (bc b H (λhb H=>?_) λhb H=>?_)
 refine qr λ_ Z=>wp 1 [6] b λa b=>Z _ _ (rt ?_)
 cases H
 exact j7 b c (l3 Tryz.results111 (rvt b)) ⟨x,rfl,c.sp [1,3,4] []⟩
 refine sk (W _ _ (rl (wp 2 [0,1,2,16,23,24,25] b λa b=>nl ?_)))
 exact ⟨O,Nat.lt_succ_self _,_,i64.wrap (e+1),b.kp [0,1,2,16,23,24,25],c.sp (ra 1 5) [0,1,2],H⟩
 refine xt ?_
 exact ⟨y,Nat.lt_succ_self _,_,x,J,(kRem q z),b.kp [0,1,2,16],c.sp [0,2,3,4] [0,1],H⟩
theorem zT (N){g}{h}{d}(i:j9)(j)(k)(l)(m)(f)(e)(q:SB g h d (k0k e j k l (mpX jW m f i.open_ none)) (k0l j k l m)){r}(H:M.tM N i=some r) :
    Calls Tryz.prog 114 #[pt e 0] d (kQ g h d λv κ w => ∃n:List Nat,v=vi r∧SS g h d κ w (k0k e j k l (mpX jW m n i.open_ none)) []):=by
 have c:=q.hS
 have u:=c.fresh
 refine en Tryz.func114 rfl Tryz.ntmps114 λa b=>?_
 unfold M.tM at H
 refine qr λ_ s=>(wp 1 [0] b λa b=>(s _ _ (qs λ_ t=>qr λ_ o=>(wp 2 [0,4] b λa b=>(o _ _ (cf b rfl (sk (t _ _ (qr λ_ p=>(jG (L':=[k2i e]) 3 [7] b kr λa b=>wc (wld b c 0 0 0 λa b=>wc (F2 (KT:=32) (E:=182) (kt:=(kInt .u64)) b c kr 1 0 rfl kr rfl rfl kr (c.mpLen 2 rfl) λa b=>wp 1 [2] b λa b=>p _ _ (rt ?_)))))))))))))
 cases H
 exact j7 b c (l3 Tryz.results114 (rvt b)) ⟨f,rfl,c.sp [0,1,2] []⟩
end Go.Cf
