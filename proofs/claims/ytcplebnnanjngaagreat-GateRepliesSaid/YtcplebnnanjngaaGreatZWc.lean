/- The walks: each function returns what its model says. Printed by a program of ours. -/
import Derived.Test.YtcplebnnanjngaaGreatZSh
import Derived.Test.YtcplebnnanjngaaGreatZM1
import Derived.Test.YtcplebnnanjngaaGreatZWp
namespace Go.Cf
open Go Go.Proofs Tryz
open _root_.Int(toNat tdiv tmod)
open _root_.List(set replicate)
open _root_.ByteArray(empty)
open Go.IntKind(i64 u64)
set_option linter.unusedVariables false
set_option maxRecDepth 20000
set_option maxHeartbeats 8000000
theorem FU (N){e}{f}{d}(n:SB e f d [] []){r}(H:M.yO N=some r) :
    Calls Tryz.prog 49 #[] d (kP e f d λv κ w=>∃h i j k l g,v=pt h 0∧SS e f d κ w (k0t h i j k (mpX jW l g r.open_ none)) (k0u i j k l)):=by
 have c:=n.hS
 have q:=c.fresh
 refine en func49 rfl ntmps49 λa b=>?_
 unfold M.yO at H
 refine qr λ_ o=>(jE (L':=[]) 1 [] b kr λa b=>o _ _ (qs λ_ hz=>rl (wc (sS b c kr (kInt .u64) false pO.ty rfl λm a w b c=>?_))))
 have c:=c.addMp (K:=Int) jW
 refine wp 1 [2] b λa b=>wc (wbx b c [k3y m] (sgN 1 jD) λp a w b c=>wp 1 [0] b λa b=>nl (hz _ _ (rt ?_)))
 cases H
 exact j7 b c (l4 results49 (rvt b)) ⟨p,(some m),#[],0,(some []),[],rfl,c.sp [0,2,1] [0]⟩
theorem yB (N){T}{Q}(au:lG T Q)(f:j5)(e)(F)(G)(I)(J)(s)(u)(hR : ∀m∈([Ro.mp lC.ty F G f.Cuts,Ro.mp (fInt .i64).ty I J f.Nodes,Ro.mp jG.ty s u e]:List MP),m.p T Q){r}(H:M.uF N f e=some r) :
    Calls Tryz.prog 87 #[.agg (flat (k07 F f G I J)).toArray,.slice s e.length u] Q (kP [] T Q λv κ w=>∃U V,v = .slice U r.length V∧(∀m∈([Ro.mp lP U V r]:List MP),m.p κ w)∧sJ Q κ w [.tok U 141 2 r.length V]):=by
 have c:=SS.start au hR
 refine en func87 rfl ntmps87 λa b=>?_
 unfold M.uF at H
 refine qr λ_ h9=>(wc (wbx b c (k07 F f G I J) (sgN 2 jD) λx a w b c=>wp 1 [1,2] b λa b=>(h9 _ _ (qr λ_ aw=>(wp 1 [1,2,5] b λa b=>(aw _ _ (qs λ_ ax=>qr λ_ ay=>(wp 1 [1,2,5,10] b λa b=>(ay _ _ (bk (jT (n:=N) (λn a w=>∃κ,∃g:List jJ,∃h j d,Fr (44) [] [(1,.slice s e.length u),k2x x,(5,.slice h g.length j),k30 d] a∧SS [] T Q κ w [.box x 68 [sl F f.Cuts.length G,sl I f.Nodes.length J],.tok h 141 2 g.length j] [Ro.mp jG.ty s u e,Ro.mp lP h j g,Ro.mp lC.ty F G f.Cuts,Ro.mp (fInt .i64).ty I J f.Nodes]∧M.nO N n f e g d=some r) ?_ ?_)))))))))))
 have c:=c.add (m:=Ro.mp lP none 0 ([]:List jJ)) (Ro.nil lP _ _)
 have c:=c.addNil 141 2
 exact ⟨_,([]:List jJ),none,0,0,b.kp [1,2,5,10],c.sp [1,0] [3,0,1,2],H⟩
 rintro n a w ⟨κ,g,h,j,d,b,c,H⟩
 rcases n with _|K
 simp [M.nO] at H
 simp only [M.nO] at H
 refine qr λ_ az=>wp 1 [1,2,5,10,11] b λa b=>az _ _ (qs λ_ aA=>bc b H (λhb H=>?_) λhb H=>?_)
 refine sk (aA _ _ (m2 (λa w=>∃κ,∃P:List jJ,∃R S,Fr (44) [] [(1,.slice s e.length u),k2x x,(5,.slice R P.length S),k30 d] a∧SS [] T Q κ w [.box x 68 [sl F f.Cuts.length G,sl I f.Nodes.length J],.tok R 141 2 P.length S] [Ro.mp jG.ty s u e,Ro.mp lP R S P,Ro.mp lC.ty F G f.Cuts,Ro.mp (fInt .i64).ty I J f.Nodes]∧M.sD N (M.nO N K) f e d P=some r) ?_ ?_))
 refine bk (qr λ_ aB=>(wp 2 [1,2,5,6,10] b λa b=>(aB _ _ (qr λ_ aD=>(wp 2 [1,2,5,6,10,14] b λa b=>wc (wal b c k0v (sgN 2 jD) λD a w b c=>wc (wst b c 0 0 2 [si d,k37] (sgN 2 jD) λa w b c=>(aD _ _ (qs λ_ aE=>qr λ_ aF=>(wp 3 [1,2,5,6,7,10,15,16,17] b λa b=>(aF _ _ (bk (jT (n:=N) (λn a w=>∃κ,∃o:List jB,∃A B q,Fr (44) [] [(1,.slice s e.length u),k2x x,(5,.slice h g.length j),(6,vi d),(7,pt D 0),k30 d,k38 s e.length u,(16,vi (e.length:Int)),(17,vi q)] a∧SS [] T Q κ w [.box D 141 [si d,sl A o.length B],.box x 68 [sl F f.Cuts.length G,sl I f.Nodes.length J],.tok A 48 6 o.length B,.tok h 141 2 g.length j] [Ro.mp jG.ty s u e,Ro.mp lP h j g,Ro.mp jG.ty A B o,Ro.mp lC.ty F G f.Cuts,Ro.mp (fInt .i64).ty I J f.Nodes]∧M.oE N (M.nO N K) n f e g d o q=some r) ?_ ?_)))))))))))))
 have c:=c.add (m:=Ro.mp jG.ty none 0 ([]:List jB)) (Ro.nil jG.ty _ _)
 have c:=c.addNil 48 6
 exact ⟨_,([]:List jB),none,0,0,b.kp [1,2,5,6,7,10,15,16,17],c.sp [1,2,0,3] [1,2,0,3,4],H⟩
 rintro n a w ⟨κ,o,A,B,q,b,c,H⟩
 rcases n with _|W
 simp [M.oE] at H
 simp only [M.oE] at H
 refine qr λ_ ah=>(jE (L':=[(1,.slice s e.length u),k2x x,(5,.slice h g.length j),(6,vi d),(7,pt D 0),k30 d,k38 s e.length u,(16,vi (e.length:Int)),(17,vi q),(18,vb (decide (q<(e.length:Int))))]) 1 [1,2,5,6,7,10,15,16,17,18] b kr λa b=>ah _ _ (qs λ_ ai=>bc b H (λhb H=>?_) λhb H=>?_))
 refine sk (ai _ _ (m2 (λa w=>∃κ,∃C:List jB,∃L O,Fr (44) [] [(1,.slice s e.length u),k2x x,(5,.slice h g.length j),(6,vi d),(7,pt D 0),k30 d,k38 s e.length u,(16,vi (e.length:Int)),(17,vi q)] a∧SS [] T Q κ w [.box D 141 [si d,sl L C.length O],.box x 68 [sl F f.Cuts.length G,sl I f.Nodes.length J],.tok L 48 6 C.length O,.tok h 141 2 g.length j] [Ro.mp jG.ty s u e,Ro.mp lP h j g,Ro.mp jG.ty L O C,Ro.mp lC.ty F G f.Cuts,Ro.mp (fInt .i64).ty I J f.Nodes]∧M.sC N (M.oE N (M.nO N K) W) f e g d q C=some r) ?_ ?_))
 refine bk (qr λ_ aj=>(bd H λk X H=>wc (kR b c kr 0 (E:=48) (sz:=6) rfl rfl rfl kr rfl X kr kr λaH aI a Y b=>wc (qY (t:=jG) b c kr 0 rfl rfl Y rfl X kr kr kr λa b=>wc (wal b c (k0k empty) (sgN 6 jD) λak a w b c=>wc (wst b c 0 0 6 (k0w k) (sgN 6 jD) λa w b c=>aj _ _ (qs λ_ al=>?_)))))))
 refine rl (wc (wls b c 2 0 2 λa b=>wp 1 [1,2,5,6,7,9,10,15,16,17,21,22] b λa b=>wc (wld b c 0 0 0 λa b=>bd H λaJ ad H=>wc (jR b c kr kr (A4 N c.fresh f k.Key F G I J ((c.pick [3,4] kr).ro) ad) ?_))))
 rintro _ κ w a ⟨rfl,hR,hN⟩ b c hO
 refine wp 2 [1,2,5,6,7,9,10,15,16,17,26] b λa b=>al _ _ (bc b H (λhb H=>?_) λhb H=>?_)
 refine rl (jE (L':=[(1,.slice s e.length u),k2x x,(5,.slice h g.length j),(6,vi d),(7,pt D 0),(9,pt ak 0),k30 d,k38 s e.length u,(16,vi (e.length:Int)),(17,vi q),(27,pt D 1)]) 1 [1,2,5,6,7,9,10,15,16,17,27] b kr λa b=>wc (wld b c 1 1 0 λa b=>wc (wls b c 0 0 6 λa b=>wc (oI (t:=jG) (z := .agg (flat (k0k empty)).toArray) (l:=[k]) (vs:=[(0,.agg (flat (k0w k)).toArray)]) (cells := #[.string (k.Key),.string (k.Val),vb k.Gone,vu k.TS,vi k.DC,vi k.Tx]) (E:=48) b c kr rfl kr kr rfl kr kr kr kr kr λaL κ a w b c=>?_))))
 refine bd H λZ ae H=>wc (kJ (ty:=jG.ty) b c kr 4 3 0 rfl rfl rfl kr kr rfl rfl rfl ae kr (i:=Tryz.t48) (z := .agg (flat (k0k empty)).toArray) kr kr kr λaa ab κ a w b c=>wp 1 [1,2,5,6,7,10,15,16,17,31,32] b λa b=>wc (wst b c 2 1 1 [sl aa Z.length ab] (sgN 1 jD) λa w b c=>nl ?_))
 exact ⟨_,Z,aa,ab,b.kp [1,2,5,6,7,10,15,16,17],c.sp (ra 2 4) [2,3,0,5,6],H⟩
 refine sk ?_
 exact ⟨_,o,A,B,b.kp [1,2,5,6,7,10,15,16,17],c.sp (ra 1 4) (rg 5),H⟩
 rintro a w ⟨κ,C,L,O,b,c,H⟩
 unfold M.sC at H
 refine rl (wp 2 [1,2,5,6,7,10,15,16,17] b λa b=>nl ?_)
 exact ⟨W,jb _,_,C,L,O,i64.wrap (q+1),b.kp [1,2,5,6,7,10,15,16,17],c.sp (rg 4) (rg 5),H⟩
 refine xt (aE _ _ (qr λ_ am=>wp 1 [1,2,5,7,10,34] b λa b=>wc (wld b c 0 1 0 λa b=>wp 2 [1,2,5,7,10,37] b λa b=>am _ _ (bc b H (λhb H=>?_) λhb H=>?_))))
 refine rl (jE (L':=[(1,.slice s e.length u),k2x x,(7,pt D 0),k30 d,(38,.slice h g.length j)]) 1 [1,2,7,10,38] b kr λa b=>wc (wls b c 0 0 2 λa b=>wc (uK (t:=lP) (y:=(jJ.mk d o)) (v := .agg (flat [si d,sl A o.length B]).toArray) (z := .agg (flat k0v).toArray) (cells:=(flat [si d,sl A o.length B]).toArray) (E:=141) b c kr rfl kr ⟨(A,B),rfl,(c.pick [2] kr).ro⟩ kr kr kr kr kr λaM κ a w b c=>bd H λan af H=>?_)))
 refine wc (kJ (ty:=lP) b c kr 4 2 0 rfl rfl rfl kr kr rfl rfl rfl af kr (i:=Tryz.t141) (z := .agg (flat k0v).toArray) kr kr kr λao aq κ a w b c=>wp 1 [1,2,5,10] b λa b=>nl ?_)
 exact ⟨_,an,ao,aq,b.kp [1,2,5,10],c.sp [2,4] [2,0,5,6],H⟩
 refine sk ?_
 exact ⟨_,g,h,j,b.kp [1,2,5,10],c.sp [1,3] [0,1,3,4],H⟩
 rintro a w ⟨κ,P,R,S,b,c,H⟩
 unfold M.sD at H
 refine rl (wp 2 [1,2,5,10] b λa b=>nl ?_)
 exact ⟨K,jb _,_,P,R,S,i64.wrap (d+1),b.kp [1,2,5,10],c.sp [0,1] (rg 4),H⟩
 refine xt (ax _ _ (qr λ_ ar=>wp 2 [4] b λa b=>ar _ _ (rt ?_)))
 cases H
 exact (j7 b c (l4 results87 (rvt b)) ⟨h,j,rfl,(c.pick [1] kr).ro,c.newC [1] dc kr⟩)
theorem w9 (N){O}{P}{K}(L:j9)(e)(y)(z)(A)(B)(d)(W)(Q)(hB:SB O P K (k0t Q z A B (mpX jW d W L.open_ none)) (k0u z A B d)){r}(H:M.qN N L e y=some r) :
    Calls Tryz.prog 104 #[pt Q 0,vu e,vi y] K (kP O P K λv κ w=>∃R U,v = .tuple #[.pointer (pa R),vi r.2]∧SS O P K κ w (k0t Q z A B (mpX jW d U L.open_ none)) [(MP.const (r.1=true→(mGet d e).getD none=R))]):=by
 have c:=hB.hS
 have aS:=c.fresh
 refine en func104 rfl ntmps104 λa b=>?_
 unfold M.qN at H
 refine qr λ_ ab=>wp 2 [0,1,2] b λa b=>ab _ _ (qs λ_ ad=>qr λ_ ae=>wp 2 [0,1,2,12] b λa b=>ae _ _ (cf b rfl (sk (ad _ _ (qs λ_ af=>?_)))))
 obtain ⟨S,hlp14⟩ : ∃p,(mGet d e).getD none=p:=⟨_,rfl⟩
 have c:=c.add (m:=MP.const ((mGet d e).getD none=S)) hlp14
 refine rl (wp 3 [1,2,15] b λa b=>wc (wld b c 0 0 0 λa b=>jE (L':=[k36 y,(16,.map z),(17,vu e)]) 1 [2,16,17] b kr λa b=>wc (rY (KT:=32) (E:=182) (kt:=(kInt .u64)) b c kr 1 1 (k:=e) rfl kr kr rfl rfl hlp14 kr kr kr λa b=>jE (L':=[k36 y,(8,.pointer (pa S))]) 1 [2,8] b kr λa b=>af _ _ (qs λ_ ah=>qs λ_ ai=>bd H λaj i H=>kL (λa w=>∃κ C F,Fr (36) [] [k36 y,(8,.pointer (pa F)),(20,vb aj)] a∧SS O P K κ w (k0t Q z A B (mpX jW d C L.open_ none)) [(MP.const ((mGet d e).getD none=F)),k41 z A B d]∧True) ?_ ?_))))
 have u:(mGet d e).getD none=S:=c.get 0 rfl
 refine kY i (λhmx21 i=>?_) (λaT hmx21 i=>?_)
 have j:=c.mpNone 2 rfl hmx21 u
 have ak:=b
 subst j
 have b:=ak
 refine rl (wp 2 [2,8,20] b λa b=>nl ?_)
 cases i
 exact ⟨_,W,none,b.kp [2,8,20],c.sp [0,1,2] [0,1],ja⟩
 obtain ⟨al,aH,aI,j,c⟩:=c.mpTakeP 2 rfl hmx21 u
 have am:=b
 subst j
 have b:=am
 refine rl (wp 2 [2,8,20] b λa b=>nl ?_)
 obtain ⟨X,c⟩:=c.mpBackI 0 1 [2,3] dc rfl rfl u hmx21
 cases i
 exact ⟨_,X,(some al),b.kp [2,8,20],c.sp [1,2,0] [0,1],ja⟩
 rintro a w ⟨κ,C,F,b,c,-⟩
 refine ai _ _ (bc b H (λhb H=>?_) λhb H=>?_)
 refine qr λ_ an=>wp 2 [6,7] b λa b=>an _ _ (rt ?_)
 have c:=c.add (m:=MP.const (false=true→(mGet d e).getD none=none)) (λh=>by cases h)
 cases H
 exact j7 b c (tB results104 (rvt b) (rvt b)) ⟨none,C,rfl,c.sp [0,1,2] [0]⟩
 refine sk (ah _ _ (qs λ_ ao=>qs λ_ aq=>?_))
 have x:(mGet d e).getD none=F:=c.get 0 rfl
 refine kY H (λhmx30 H=>?_) (λg hmx30 H=>?_)
 have j:=c.mpNone 2 rfl hmx30 x
 have ar:=b
 subst j
 have b:=ar
 cases H
 obtain ⟨q,aJ,aL,j,c⟩:=c.mpTakeP 2 rfl hmx30 x
 have au:=b
 subst j
 have b:=au
 obtain ⟨⟨G,I,av,aw,ax,ay,az,aA⟩,c⟩:=c.unfI (ck:=kA) (fs:=k9) 0 rfl
 refine rl (wp 3 [2,8,23] b λa b=>wc (wld b c 0 1 0 λa b=>wp 2 [2,8,24,25,26] b λa b=>nl ?_))
 obtain ⟨aM,c⟩:=c.foldI (ck:=kA) (fs:=k9) q (G,I,av,aw,ax,ay,az,aA) g [0,1,2] [3,4,5] [0,1,2] dc kr kr
 obtain ⟨D,c⟩:=c.mpBackI 0 1 [2,3] dc rfl rfl x hmx30
 refine aq _ _ (bk (jT (n:=N) (λn a w=>∃κ t,Fr (36) [] [k36 y,k3f q,(24,.slice G g.shares.length I),(25,vi (g.shares.length:Int)),(26,vi t)] a∧SS O P K κ w (k0t Q z A B (mpX jW d D L.open_ none)) [(MP.const ((mGet d e).getD none=(some q))),k42 G I g.shares,k41 z A B d]∧M.nW N n L e y g t=some r) ?_ ?_))
 exact ⟨_,0,b.kp [2,8,24,25,26],c.sp [1,2,0] [3,0,4],H⟩
 rintro n a w ⟨κ,t,b,c,H⟩
 rcases n with _|V
 simp [M.nW] at H
 simp only [M.nW] at H
 refine qr λ_ aB=>(jE (L':=[k36 y,k3f q,(24,.slice G g.shares.length I),(25,vi (g.shares.length:Int)),(26,vi t),(27,vb (decide (t<(g.shares.length:Int))))]) 1 [2,8,24,25,26,27] b kr λa b=>aB _ _ (qs λ_ aD=>bc b H (λhb H=>?_) λhb H=>?_))
 refine sk (aD _ _ (qs λ_ aE=>bk (qr λ_ aF=>(bd H λf J H=>wc (kR b c kr 1 (E:=141) (sz:=2) rfl rfl rfl kr rfl J kr kr λaO aP a T b=>?_)))))
 obtain ⟨_,⟨⟨l,o⟩,rfl,hR⟩,hc⟩:=c.elem 1 rfl T J
 have c:=(c.adds hR).add hc
 refine wc (kQ b kr (v := .agg (flat (k0x f l o)).toArray) ((pD 0 0 2 (s:=[si f.Node,sl l f.Vers.length o]) (s':=k0x f l o) (n:=2) rfl rfl rfl (show mK [si f.Node,sl l f.Vers.length o] from (sgN 2 jD)) kr kr kr kr kr _ ⟨_,c⟩)) λa b=>wc (wal b c k0v (sgN 2 jD) λaR a w b c=>wc (wst b c 0 0 2 (k0x f l o) (sgN 2 jD) λa w b c=>?_)))
 refine aF _ _ (qr λ_ Y=>wp 1 [2,8,24,25,26,30] b λa b=>wc (wld b c 0 0 0 λa b=>wp 2 [2,8,24,25,26,33] b λa b=>Y _ _ (bc b H (λhb H=>?_) λhb H=>?_)))
 refine qr λ_ Z=>wp 3 [6,7] b λa b=>Z _ _ (rt ?_)
 have c:=c.add (m:=MP.const (true=true→(mGet d e).getD none=(some q))) (λ_=>c.get 2 rfl)
 cases H
 exact j7 b c (tB results104 (rvt b) (rvt b)) ⟨(some q),D,rfl,c.sp [1,2,3] [0]⟩
 refine sk (aE _ _ (rl (wp 2 [2,8,24,25,26] b λa b=>nl ?_)))
 exact ⟨V,jb _,_,i64.wrap (t+1),b.kp [2,8,24,25,26],c.sp [1,2,3] [2,3,4],H⟩
 refine xt (ao _ _ (qr λ_ aa=>wp 2 [6,7] b λa b=>aa _ _ (rt ?_)))
 have c:=c.add (m:=MP.const (false=true→(mGet d e).getD none=none)) (λh=>by cases h)
 cases H
 exact j7 b c (tB results104 (rvt b) (rvt b)) ⟨none,D,rfl,c.sp [0,1,2] [0]⟩
theorem yW (N){Ms}{κ0}{w0}(a1:j9)(l)(I)(e)(x)(P)(Q)(D)(an)(f)(g)(u)(hB:SB Ms κ0 w0 (k0t u x P Q (mpX jW D an a1.open_ none)) [k41 x P Q D,k42 f g e]){r}(H:M.rG N a1 l I e=some r) :
    Calls Tryz.prog 88 #[pt u 0,vu l,vu I,.slice f e.length g] w0 (kP Ms κ0 w0 λv κ w=>∃ao aq ar au aD,v=vi r.1∧SS Ms κ0 w0 κ w (k0t u ao aq ar (mpX jW au aD r.2.open_ none)) (k0u ao aq ar au)):=by
 have d:=hB.hS
 have bD:=d.fresh
 refine en func88 rfl ntmps88 λa b=>?_
 unfold M.rG at H
 refine qr λ_ a3=>(wp 1 (rg 4) b λa b=>(a3 _ _ (qs λ_ a4=>qr λ_ a5=>(jE (L':=[k35 u,(1,vu l),(2,vu I),k43 f e.length g,(20,(vb ((e.length:Int)==0)))]) 7 [0,1,2,3,20] b kr λa b=>a5 _ _ (bc b H (λhb H=>?_) λhb H=>?_)))))
 refine qr λ_ a6=>wp 1 [8] b λa b=>a6 _ _ (rt ?_)
 cases H
 exact j7 b d (l4 results88 (rvt b)) ⟨x,P,Q,D,an,rfl,d.sp [0,1,2] [0]⟩
 refine sk (a4 _ _ (qs λ_ a7=>qs λ_ ba=>bd H λbe R H=>kL (λa w=>∃κ J,Fr (76) [] [k35 u,(1,vu l),(2,vu I),k43 f e.length g,(27,vb be)] a∧SS Ms κ0 w0 κ w (k0t u x P Q (mpX jW D J a1.open_ none)) [k41 x P Q D,k42 f g e]∧True) ?_ ?_))
 obtain ⟨aM,hlp22⟩ : ∃p,(mGet D l).getD none=p:=⟨_,rfl⟩
 have d:=d.add (m:=MP.const ((mGet D l).getD none=aM)) hlp22
 have X:(mGet D l).getD none=aM:=d.get 0 rfl
 refine kY R (λhmx23 R=>?_) (λbE hmx23 R=>?_)
 have av:=d.mpNone 2 rfl hmx23 X
 have bf:=b
 subst av
 have b:=bf
 refine rl (wp 3 [0,1,2,3,23] b λa b=>wc (wld b d 0 0 0 λa b=>jE (L':=[k35 u,(1,vu l),(2,vu I),k43 f e.length g,(24,.map x),(25,vu l)]) 1 [0,1,2,3,24,25] b kr λa b=>wc (rY (KT:=32) (E:=182) (kt:=(kInt .u64)) b d kr 1 1 (k:=l) rfl kr kr rfl rfl hlp22 kr kr kr λa b=>wp 1 [0,1,2,3,27] b λa b=>nl ?_)))
 cases R
 exact ⟨_,an,b.kp [0,1,2,3,27],d.sp [0,1,2] [1,2],ja⟩
 obtain ⟨bF,bu,bw,av,d⟩:=d.mpTakeP 2 rfl hmx23 X
 have bg:=b
 subst av
 have b:=bg
 refine rl (wp 3 [0,1,2,3,23] b λa b=>wc (wld b d 2 0 0 λa b=>jE (L':=[k35 u,(1,vu l),(2,vu I),k43 f e.length g,(24,.map x),(25,vu l)]) 1 [0,1,2,3,24,25] b kr λa b=>wc (rY (KT:=32) (E:=182) (kt:=(kInt .u64)) b d kr 3 1 (k:=l) rfl kr kr rfl rfl hlp22 kr kr kr λa b=>wp 1 [0,1,2,3,27] b λa b=>nl ?_)))
 obtain ⟨aO,d⟩:=d.mpBackI 0 1 [2,3] dc rfl rfl X hmx23
 cases R
 exact ⟨_,aO,b.kp [0,1,2,3,27],d.sp [1,2,0] [1,2],ja⟩
 rintro a w ⟨κ,J,b,d,-⟩
 refine ba _ _ (bc b H (λhb H=>?_) λhb H=>?_)
 refine qr λ_ bh=>wp 1 [8] b λa b=>bh _ _ (rt ?_)
 cases H
 exact j7 b d (l4 results88 (rvt b)) ⟨x,P,Q,D,J,rfl,d.sp [0,1,2] [0]⟩
 refine sk (a7 _ _ (qr λ_ bi=>(jE (L':=[k35 u,(1,vu l),k43 f e.length g,(28,vu I)]) 1 [0,1,3,28] b kr λa b=>wc (sS b d kr (kInt .i64) false (fInt .u64).ty rfl λL a w b d=>wc (sS b d kr (kInt .i64) false jM.ty rfl λO a w b d=>wp 1 [0,1,3,31] b λa b=>wc (wbx b d [su I,k37,k3y L,k3y O,su 0,k3e] (sgN 6 jD) λj a w b d=>wp 1 [0,1,3,9] b λa b=>bi _ _ (qs λ_ bj=>qr λ_ bl=>wp 3 [0,1,3,9,33,34,35] b λa b=>?_)))))))
 refine bl _ _ (bk (jT (n:=N) (λn a w=>∃κ,∃A:List jJ,∃F G o,Fr (76) [] [k35 u,(1,vu l),k43 f e.length g,(9,pt j 0),k44 f e.length g,(34,vi (e.length:Int)),(35,vi o)] a∧SS Ms κ0 w0 κ w [.box j 185 [su I,sl F A.length G,k3y L,k3y O,su 0,k3e],k40 u x,.tok F 141 2 A.length G,.ext (objX (some L) (.map (#[]) 0)),.ext (objX (some O) (.map (#[]) 0)),mx x P Q,.ext (mpX jW D J a1.open_ none)] [k41 x P Q D,k42 f g e,k42 F G A,Map.mp (kInt .i64) false (fInt .u64).ty (some L) (#[]) 0 (some []),Map.mp (kInt .i64) false jM.ty (some O) (#[]) 0 (some [])]∧M.lY N n a1 l I e A o=some r) ?_ ?_))
 have d:=d.add (m:=Ro.mp lP none 0 ([]:List jJ)) (Ro.nil lP _ _)
 have d:=d.addNil 141 2
 exact ⟨_,([]:List jJ),none,0,0,b.kp [0,1,3,9,33,34,35],d.sp [1,4,0,3,2,5,6] [3,4,0,2,1],H⟩
 rintro n a w ⟨κ,A,F,G,o,b,d,H⟩
 rcases n with _|ah
 simp [M.lY] at H
 simp only [M.lY] at H
 refine qr λ_ bm=>wp 1 [0,1,3,9,33,34,35,36] b λa b=>bm _ _ (qs λ_ bn=>bc b H (λhb H=>?_) λhb H=>?_)
 refine sk (bn _ _ (qs λ_ bo=>bk (qr λ_ bq=>(jE (L':=[k35 u,(1,vu l),k43 f e.length g,(9,pt j 0),k44 f e.length g,(34,vi (e.length:Int)),(35,vi o),(37,vi o)]) 1 [0,1,3,9,33,34,35,37] b kr λa b=>bd H λq aw H=>wc (kR b d kr 1 (E:=141) (sz:=2) rfl rfl rfl kr rfl aw kr kr λbG bH a aE b=>?_)))))
 obtain ⟨_,⟨⟨S,T⟩,rfl,hR⟩,hc⟩:=d.elem 1 rfl aE aw
 have d:=(d.adds hR).add hc
 refine wc (kQ b kr (v := .agg (flat (k0x q S T)).toArray) ((pD 0 0 2 (s:=[si q.Node,sl S q.Vers.length T]) (s':=k0x q S T) (n:=2) rfl rfl rfl (show mK [si q.Node,sl S q.Vers.length T] from (sgN 2 jD)) kr kr kr kr kr _ ⟨_,d⟩)) λa b=>wc (wal b d k0v (sgN 2 jD) λW a w b d=>wp 1 [0,1,3,9,10,11,33,34,35,39] b λa b=>wc (wst b d 0 0 2 (k0x q S T) (sgN 2 jD) λa w b d=>?_)))
 refine bq _ _ (qs λ_ aQ=>qr λ_ aR=>(jE (L':=[k35 u,(1,vu l),k43 f e.length g,(9,pt j 0),k3g W,k44 f e.length g,(34,vi (e.length:Int)),(35,vi o),(40,.slice f e.length g),(41,vi o)]) 2 [0,1,3,9,11,33,34,35,40,41] b kr λa b=>bd H λB aF H=>wc (zM b d kr 3 (E:=141) (lo:=0) (hi:=o) rfl rfl rfl kr rfl ⟨_,rfl⟩ aF kr kr λae af a b d=>wp 2 [0,1,3,9,11,33,34,35,42,43,44] b λa b=>(aR _ _ (bk (jT (n:=N) (λn a w=>∃κ K,Fr (76) [] [k35 u,(1,vu l),k43 f e.length g,(9,pt j 0),k3g W,k44 f e.length g,(34,vi (e.length:Int)),(35,vi o),(42,.slice ae B.length af),(43,vi (B.length:Int)),(44,vi K)] a∧SS Ms κ0 w0 κ w [.box W 141 (k0x q S T),.box j 185 [su I,sl F A.length G,k3y L,k3y O,su 0,k3e],k40 u x,.tok F 141 2 A.length G,.ext (objX (some L) (.map (#[]) 0)),.ext (objX (some O) (.map (#[]) 0)),mx x P Q,.ext (mpX jW D J a1.open_ none)] [k41 x P Q D,k42 f g e,k42 F G A,Map.mp (kInt .i64) false (fInt .u64).ty (some L) (#[]) 0 (some []),Map.mp (kInt .i64) false jM.ty (some O) (#[]) 0 (some []),k42 ae af B,k3l S T q.Vers]∧M.nM N (M.lY N ah) n a1 l I e A o q B K=some r) ?_ ?_))))))
 exact ⟨_,0,b.kp [0,1,3,9,11,33,34,35,42,43,44],d.sp (rg 8) [3,4,5,6,7,0,2],H⟩
 rintro n a w ⟨κ,K,b,d,H⟩
 rcases n with _|aG
 simp [M.nM] at H
 simp only [M.nM] at H
 refine qr λ_ aS=>(jE (L':=[k35 u,(1,vu l),k43 f e.length g,(9,pt j 0),k3g W,k44 f e.length g,(34,vi (e.length:Int)),(35,vi o),(42,.slice ae B.length af),(43,vi (B.length:Int)),(44,vi K),(45,vb (decide (K<(B.length:Int))))]) 1 [0,1,3,9,11,33,34,35,42,43,44,45] b kr λa b=>aS _ _ (qs λ_ aT=>bc b H (λhb H=>?_) λhb H=>?_))
 refine sk (aT _ _ (qs λ_ aU=>bk (qr λ_ aV=>(bd H λC ai H=>wc (kR b d kr 5 (E:=141) (sz:=2) rfl rfl rfl kr rfl ai kr kr λbx bz a ax b=>?_)))))
 obtain ⟨_,⟨⟨U,V⟩,rfl,hR⟩,hc⟩:=d.elem 5 rfl ax ai
 have d:=(d.adds hR).add hc
 refine wc (kQ b kr (v := .agg (flat (k0x C U V)).toArray) ((pD 0 0 2 (s:=[si C.Node,sl U C.Vers.length V]) (s':=k0x C U V) (n:=2) rfl rfl rfl (show mK [si C.Node,sl U C.Vers.length V] from (sgN 2 jD)) kr kr kr kr kr _ ⟨_,d⟩)) λa b=>wc (wal b d k0v (sgN 2 jD) λbA a w b d=>wc (wst b d 0 0 2 (k0x C U V) (sgN 2 jD) λa w b d=>?_)))
 refine aV _ _ (qr λ_ aW=>wp 1 [0,1,3,9,11,33,34,35,42,43,44,48] b λa b=>wc (wld b d 0 0 0 λa b=>wp 1 [0,1,3,9,11,33,34,35,42,43,44,49,50] b λa b=>wc (wld b d 1 0 0 λa b=>wp 1 [0,1,3,9,11,33,34,35,42,43,44,52] b λa b=>aW _ _ (bc b H (λhb H=>?_) λhb H=>?_))))
 refine qr λ_ aX=>wp 1 [8] b λa b=>aX _ _ (rt ?_)
 cases H
 exact j7 b d (l4 results88 (rvt b)) ⟨x,P,Q,D,J,rfl,d.sp [3,7,8] [2]⟩
 refine sk (aU _ _ (rl (wp 2 [0,1,3,9,11,33,34,35,42,43,44] b λa b=>nl ?_)))
 exact ⟨aG,jb _,_,i64.wrap (K+1),b.kp [0,1,3,9,11,33,34,35,42,43,44],d.sp (ra 1 8) (ra 2 7),H⟩
 refine xt (aQ _ _ (rgS d [15] ?_))
 have d:=d.drew
 have hX:=d.fx
 refine bd H λY aI H=>bd H λay aJ H=>jN [0,1,2,3,5,7] [0,1,3,9,33,34,35,54,57,59,61] (L':=[k35 u,(1,vu l),k43 f e.length g,(9,pt j 0),k44 f e.length g,(34,vi (e.length:Int)),(35,vi o),(54,pt j 0),(57,pt j 1),(59,pt W 0),(61,pt W 1)]) (listed':=(mV 16 175)) (fuel:=10) b hX kr (by intro c a w t v h; cases t<;>exact h) kr rfl λa b=>atk 4 (some 58) b hX rfl (vld 1 1 0) λa b=>atk 6 (some 60) b hX rfl (vld 0 0 0) λa b=>?_
 refine atk 8 (some 62) b hX rfl (vld 0 1 0) λa b=>ago 9 b rfl ?_
 have d:=d.add (m:=Ro.mp jG.ty none 0 ([]:List jB)) (Ro.nil jG.ty _ _)
 have d:=d.addNil 48 6
 refine kJ (ty:=jG.ty) b d kr 0 0 7 rfl rfl rfl kr kr rfl rfl rfl aI kr (i:=Tryz.t48) (z := .agg (flat (k0k empty)).toArray) kr kr kr λZ aa κ a w b d=>⟨λ_=>(d.sx [1,2,3,5,6,7,8] (ra 2 7)),?_⟩
 refine jN [10] [0,1,3,9,33,34,35,54,58,64] (L':=[k35 u,(1,vu l),k43 f e.length g,(9,pt j 0),k44 f e.length g,(34,vi (e.length:Int)),(35,vi o),(54,pt j 0),(58,.slice F A.length G),(64,.agg (flat [si q.Node,sl Z Y.length aa]).toArray)]) (listed':=(mV 16 2047)) (fuel:=5) b (d.sx [1,2,3,5,6,7,8] (ra 2 7)) kr (by intro c a w t v h; cases t<;>exact h) kr rfl λa b=>ago 11 b rfl (uK (t:=lP) (y:=(jJ.mk q.Node Y)) (v := .agg (flat [si q.Node,sl Z Y.length aa]).toArray) (z := .agg (flat k0v).toArray) (cells:=(flat [si q.Node,sl Z Y.length aa]).toArray) (E:=141) b d kr rfl kr ⟨(Z,aa),rfl,(d.pick [0] kr).ro⟩ kr kr kr kr kr λbB κ a w b d=>?_)
 refine ⟨λ_=>(d.sx [2,3,4,6,7,8,9] (ra 3 7)),?_⟩
 refine ago 12 b rfl (kJ (ty:=lP) b d kr 5 5 0 rfl rfl rfl kr kr rfl rfl rfl aJ kr (i:=Tryz.t141) (z := .agg (flat k0v).toArray) kr kr kr λaz aA κ a w b d=>⟨λ_=>(d.sx [2,3,4,6,7,8,9] (ra 4 7)),?_⟩)
 refine anp [13,14] [0,1,3,9,33,34,35,66,68] b (d.sx [2,3,4,6,7,8,9] (ra 4 7)) λa b=>ago 15 b rfl (wst b d 3 1 1 [sl az ay.length aA] (sgN 1 jD) λa w b d=>⟨notE,?_⟩)
 refine kN (bo _ _ (rl (wp 2 [0,1,3,9,33,34,35] b λa b=>nl ?_)))
 exact ⟨ah,jb _,_,ay,az,aA,i64.wrap (o+1),b.kp [0,1,3,9,33,34,35],d.sp (ra 3 7) [4,5,0,7,8],H⟩
 refine xt (bj _ _ (qr λ_ aY=>(wp 3 [1,9,72] b λa b=>wc (wld b d 1 0 0 λa b=>jE (L':=[(73,.map x),(74,vu l),(75,pt j 0)]) 2 [73,74,75] b kr λa b=>?_))))
 obtain ⟨br,d⟩:=d.foldI (ck:=kA) (fs:=k9) j (F,G,(some L),#[],0,(some O),#[],0) (jH.mk I A (some []) (some []) 0 false) [0,3,4] [1,2,5,6] [2,3,4] dc kr kr
 refine bd H λbC aj H=>?_
 obtain ⟨aB,hbx177⟩:=d.mpPutE 4 rfl aj (some j)
 refine wc (oC (KT:=32) (E:=182) (kt:=(kInt .u64)) (agg:=false) (t:=pO.ty) b d kr 3 0 (k:=l) (v:=some j) (cs:=flat [k3v j]) rfl kr kr kr rfl rfl rfl hbx177 kr kr λaZ a0 a w b d=>?_)
 obtain ⟨aL,d⟩:=d.mpSetI 0 4 [1,2,3] dc rfl rfl aj hbx177
 have d:=d.add (m:=MP.const ((mGet aB l).getD none=some j)) (JS hbx177)
 refine aY _ _ (qr λ_ a2=>wp 1 [8] b λa b=>a2 _ _ (rt ?_))
 cases H
 exact j7 b d (l4 results88 (rvt b)) ⟨x,aZ,a0,aB,aL,rfl,d.sp [1,3,0] [1]⟩
theorem zL (N){W}{X}{L}(Y:j9)(n)(p)(g)(q)(s)(u)(j)(T)(O)(Z:SB W X L (k0t O q s u (mpX jW j T Y.open_ none)) (k0u q s u j)){r}(H:M.rV N Y n p g=some r) :
    Calls Tryz.prog 69 #[pt O 0,vu n,vi p,vu g] L (kP W X L λv κ w=>∃F G I J P,v = .tuple #[vu r.1,vb r.2.1,vi r.2.2.1]∧SS W X L κ w (k0t O F G I (mpX jW J P r.2.2.2.open_ none)) (k0u F G I J)):=by
 have d:=Z.hS
 have ch:=d.fresh
 refine en func69 rfl ntmps69 λa b=>?_
 unfold M.rV at H
 refine qr λ_ aP=>wp 3 (rg 4) b λa b=>aP _ _ (qr λ_ aQ=>wp 3 [2,3,16,17,18] b λa b=>bd H λci aa H=>wc (wcS 3 [0,1,2] b d (λd=>w9 N Y n p q s u j T O (d.sbK [0]) aa) ?_))
 rintro _ κ w a ⟨cj,ab,rfl,h2⟩ b Z
 have d:=Z _ _ h2
 refine wp 5 [2,3,11,12] b λa b=>aQ _ _ (qs λ_ aR=>qr λ_ aS=>wp 2 [2,3,11,12,23] b λa b=>aS _ _ (bc b H (λhb H=>?_) λhb H=>?_))
 refine qr λ_ aT=>wp 4 [8,9,10] b λa b=>aT _ _ (rt ?_)
 cases H
 exact j7 b d (GB results69 (rvt b) (rvt b) (rvt b)) ⟨q,s,u,j,ab,rfl,d.sp [0,1,2] [1]⟩
 refine sk (aR _ _ (qs λ_ aU=>qs λ_ aV=>bd H λaW hmx21 H=>?_))
 obtain ⟨hcd,hmx21⟩:=CB hmx21
 have o:=(d.get 0 rfl:_=true→_) hcd
 obtain ⟨e,bY,bZ,f,d⟩:=d.mpTakeP 2 rfl hmx21 o
 have aX:=b
 subst f
 have b:=aX
 obtain ⟨⟨aY,aZ,U,a0,a2,a3,a4,a5⟩,d⟩:=d.unfI (ck:=kA) (fs:=k9) 0 rfl
 refine rl (wp 3 [2,3,11,28] b λa b=>wc (wld b d 0 2 0 λa b=>jE (L':=[k36 p,(3,vu g),k3g e,(29,.map U),(30,vi p)]) 1 [2,3,11,29,30] b kr λa b=>bd H λcl ad H=>wc (uI (KT:=3) (E:=32) (kt:=(kInt .i64)) (agg:=false) (t:=(fInt .u64).ty) b d kr 1 1 (k:=p) (zc:=flat [su 0]) (zm:=0) rfl kr kr rfl rfl ad kr kr kr (λ_ _=>rfl) ?_)))
 rintro _ a rfl b
 refine wp 5 [2,3,11,14] b λa b=>nl ?_
 obtain ⟨b0,d⟩:=d.foldI (ck:=kA) (fs:=k9) e (aY,aZ,U,a0,a2,a3,a4,a5) aW [0,1,2] [3,4,5] [0,1,2] dc kr kr
 obtain ⟨ae,d⟩:=d.mpBackI 0 1 [2,3] dc rfl rfl o hmx21
 have d:=d.add (m:=MP.const ((mGet j n).getD none=(some e))) o
 refine aV _ _ (qr λ_ a6=>wp 1 [2,3,11,34] b λa b=>a6 _ _ (bc b H (λhb H=>?_) λhb H=>?_))
 refine qr λ_ a7=>wp 3 [8,9,10] b λa b=>a7 _ _ (rt ?_)
 cases H
 exact j7 b d (GB results69 (rvt b) (rvt b) (rvt b)) ⟨q,s,u,j,ae,rfl,d.sp [1,2,0] [5]⟩
 refine sk (aU _ _ (qs λ_ ba=>qs λ_ be=>?_))
 have A:(mGet j n).getD none=(some e):=d.get 0 rfl
 refine bd H λbf hmx41 H=>?_
 obtain ⟨_,b1,b2,f,d⟩:=d.mpTakeP 0 rfl hmx41 A
 cases f
 obtain ⟨⟨bg,bh,bi,bj,bl,bm,bn,bo⟩,d⟩:=d.unfI (ck:=kA) (fs:=k9) 0 rfl
 refine rl (wp 4 [2,3,11,35,38] b λa b=>wc (wld b d 0 0 0 λa b=>wp 1 [2,3,11,40] b λa b=>nl ?_))
 obtain ⟨b3,d⟩:=d.foldI (ck:=kA) (fs:=k9) e (bg,bh,bi,bj,bl,bm,bn,bo) bf [0,1,2] [3,4,5] [0,1,2] dc kr kr
 obtain ⟨af,d⟩:=d.mpBackI 0 1 [2,3] dc rfl rfl A hmx41
 refine be _ _ (bc b H (λhb H=>?_) λhb H=>?_)
 refine qr λ_ bq=>wp 3 [8,9,10] b λa b=>bq _ _ (rt ?_)
 cases H
 exact j7 b d (GB results69 (rvt b) (rvt b) (rvt b)) ⟨q,s,u,j,af,rfl,d.sp [1,2,0] [8]⟩
 refine sk (ba _ _ (qs λ_ br=>?_))
 have B:(mGet j n).getD none=(some e):=d.get 3 rfl
 refine bd H λx hmx58 H=>?_
 obtain ⟨_,b4,b5,f,d⟩:=d.mpTakeP 0 rfl hmx58 B
 cases f
 obtain ⟨⟨bt,bu,V,cm,cn,bw,bx,bz⟩,d⟩:=d.unfI (ck:=kA) (fs:=k9) 0 rfl
 refine rl (wp 3 [2,3,11,43] b λa b=>wc (wld b d 0 2 0 λa b=>jE (L':=[(3,vu g),k3g e,(44,.map V),(45,vi p),(46,vu g)]) 2 [3,11,44,45,46] b kr λa b=>bd H λbA ah H=>wc (oC (KT:=3) (E:=32) (kt:=(kInt .i64)) (agg:=false) (t:=(fInt .u64).ty) b d kr 1 1 (k:=p) (v:=g) (cs:=flat [su g]) rfl kr kr kr rfl rfl rfl ah kr kr λbB bC a w b d=>nl ?_)))
 obtain ⟨b6,d⟩:=d.foldI (ck:=kA) (fs:=k9) e (bt,bu,V,bB,bC,bw,bx,bz) (jH.mk x.low x.shares bA x.ended x.at_ x.decided) [0,1,2] [3,4,5] [1,0,3] dc kr kr
 obtain ⟨b8,d⟩:=d.mpPutI 0 1 [2,3] dc rfl rfl B hmx58 (zT hmx58)
 refine br _ _ (qs λ_ bD=>?_)
 have C:(mGet j n).getD none=(some e):=d.get 7 rfl
 refine bd H λl hmx77 H=>?_
 obtain ⟨_,b9,ca,f,d⟩:=d.mpTakeP 0 rfl hmx77 C
 cases f
 obtain ⟨⟨bE,bF,bG,bH,bI,bJ,bK,bL⟩,d⟩:=d.unfI (ck:=kA) (fs:=k9) 0 rfl
 refine rl (wp 4 [3,11,47,50] b λa b=>wc (wld b d 0 4 0 λa b=>wp 4 [11,53,55] b λa b=>wc (wst b d 0 4 1 [su (if g > l.at_ then g else l.at_)] (sgN 1 jD) λa w b d=>nl ?_)))
 obtain ⟨cb,d⟩:=d.foldI (ck:=kA) (fs:=k9) e (bE,bF,bG,bH,bI,bJ,bK,bL) (jH.mk l.low l.shares l.votes l.ended (if g > l.at_ then g else l.at_) l.decided) [0,1,2] [3,4,5] [0,1,2] dc kr kr
 obtain ⟨cc,d⟩:=d.mpPutI 0 1 [2,3] dc rfl rfl C hmx77 (zT hmx77)
 refine bD _ _ (qs λ_ bM=>?_)
 have D:(mGet j n).getD none=(some e):=d.get 10 rfl
 refine bd H λi hmx93 H=>?_
 obtain ⟨_,cd,ce,f,d⟩:=d.mpTakeP 0 rfl hmx93 D
 cases f
 obtain ⟨⟨bN,bO,K,ai,aj,ak,al,am⟩,d⟩:=d.unfI (ck:=kA) (fs:=k9) 0 rfl
 refine rgS d [14] ?_
 have d:=d.drew
 have Q:=d.fx
 refine anp [0,1,2,3,6,7,8] [11,56,59,64] b Q λa b=>atk 4 (some 60) b Q rfl (vld 0 2 0) λa b=>atk 9 (some 65) b Q rfl (vld 0 1 0) λa b=>jN [10] [11,56,60,66] (L':=[k3g e,(56,pt e 0),(60,.map K),(66,vi (i.shares.length:Int))]) (listed':=(mV 15 2015)) (fuel:=5) b Q kr (by intro c a w t v h; cases t<;>exact h) kr rfl λa b=>ago 5 b rfl (vO (KT:=3) (E:=32) (kt:=(kInt .i64)) (agg:=false) (t:=(fInt .u64).ty) b d kr 1 1 rfl kr rfl rfl kr λa b=>⟨λ_=>(d.sx (rg 6) (rg 19)),?_⟩)
 refine anp [11,12,13] [11,67,69] b (d.sx (rg 6) (rg 19)) λa b=>ago 14 b rfl (wst b d 0 5 1 [(sb ((mLen i.votes:Int)==(i.shares.length:Int)))] (sgN 1 jD) λa w b d=>⟨notE,?_⟩)
 refine kN ?_
 obtain ⟨bP,d⟩:=d.foldI (ck:=kA) (fs:=k9) e (bN,bO,K,ai,aj,ak,al,am) (jH.mk i.low i.shares i.votes i.ended i.at_ ((mLen i.votes:Int)==(i.shares.length:Int))) [0,1,2] [3,4,5] [0,1,2] dc kr kr
 obtain ⟨bQ,d⟩:=d.mpPutI 0 1 [2,3] dc rfl rfl D hmx93 (zT hmx93)
 refine bM _ _ (qs λ_ an=>qs λ_ ao=>?_)
 have y:(mGet j n).getD none=(some e):=d.get 13 rfl
 refine bd H λaq hmx110 H=>?_
 obtain ⟨_,bR,bS,f,d⟩:=d.mpTakeP 0 rfl hmx110 y
 cases f
 obtain ⟨⟨ar,au,av,aw,ax,ay,az,aA⟩,d⟩:=d.unfI (ck:=kA) (fs:=k9) 0 rfl
 refine rl (wp 3 [11,72] b λa b=>wc (wld b d 0 5 0 λa b=>wp 1 [11,74] b λa b=>nl ?_))
 obtain ⟨bT,d⟩:=d.foldI (ck:=kA) (fs:=k9) e (ar,au,av,aw,ax,ay,az,aA) aq [0,1,2] [3,4,5] [0,1,2] dc kr kr
 obtain ⟨R,d⟩:=d.mpBackI 0 1 [2,3] dc rfl rfl y hmx110
 refine ao _ _ (bc b H (λhb H=>?_) λhb H=>?_)
 refine qr λ_ aB=>wp 3 [8,9,10] b λa b=>aB _ _ (rt ?_)
 cases H
 exact j7 b d (GB results69 (rvt b) (rvt b) (rvt b)) ⟨q,s,u,j,R,rfl,d.sp [1,2,0] [21]⟩
 refine sk (an _ _ (qs λ_ aD=>?_))
 have z:(mGet j n).getD none=(some e):=d.get 16 rfl
 refine bd H λaE hmx127 H=>?_
 obtain ⟨_,bU,bV,f,d⟩:=d.mpTakeP 0 rfl hmx127 z
 cases f
 obtain ⟨⟨aF,aG,aH,aI,aJ,aL,aM,aO⟩,d⟩:=d.unfI (ck:=kA) (fs:=k9) 0 rfl
 refine rl (wp 3 [77] b λa b=>wc (wld b d 0 4 0 λa b=>wp 3 [8,9,10] b λa b=>nl ?_))
 obtain ⟨bW,d⟩:=d.foldI (ck:=kA) (fs:=k9) e (aF,aG,aH,aI,aJ,aL,aM,aO) aE [0,1,2] [3,4,5] [0,1,2] dc kr kr
 obtain ⟨S,d⟩:=d.mpBackI 0 1 [2,3] dc rfl rfl z hmx127
 refine aD _ _ (rt ?_)
 cases H
 exact j7 b d (GB results69 (rvt b) (rvt b) (rvt b)) ⟨q,s,u,j,S,rfl,d.sp [1,2,0] [24]⟩
theorem AC (N){P}{Q}{z}(R:j9)(f)(n)(j)(q)(o)(g)(C)(s)(S:SB P Q z (k0t s j q o (mpX jW g C R.open_ none)) (k0u j q o g)){r}(H:M.sB N R f n=some r) :
    Calls Tryz.prog 72 #[pt s 0,vu f,vi n] z (kP P Q z λv κ w=>∃D F G I A,v = .tuple #[vb r.1,vi r.2.1]∧SS P Q z κ w (k0t s D F G (mpX jW I A r.2.2.open_ none)) (k0u D F G I)):=by
 have d:=S.hS
 have bx:=d.fresh
 refine en func72 rfl ntmps72 λa b=>?_
 unfold M.sB at H
 refine qr λ_ ab=>wp 2 [0,1,2] b λa b=>ab _ _ (qr λ_ ad=>wp 3 [0,1,2,11,12,13] b λa b=>bd H λbz T H=>wc (wcS 3 [0,1,2] b d (λd=>w9 N R f n j q o g C s (d.sbK [0]) T) ?_))
 rintro _ κ w a ⟨bA,U,rfl,h2⟩ b S
 have d:=S _ _ h2
 refine wp 5 [0,1,2,8,9] b λa b=>ad _ _ (qs λ_ ae=>qr λ_ af=>wp 2 [0,1,2,8,9,18] b λa b=>af _ _ (bc b H (λhb H=>?_) λhb H=>?_))
 refine qr λ_ ah=>wp 3 [6,7] b λa b=>ah _ _ (rt ?_)
 cases H
 exact j7 b d (tB results72 (rvt b) (rvt b)) ⟨j,q,o,g,U,rfl,d.sp [0,1,2] [1]⟩
 refine sk (ae _ _ (qs λ_ ai=>qs λ_ aj=>bd H λak hmx20 H=>?_))
 obtain ⟨hcd,hmx20⟩:=CB hmx20
 have l:=(d.get 0 rfl:_=true→_) hcd
 obtain ⟨e,bf,bg,i,d⟩:=d.mpTakeP 2 rfl hmx20 l
 have al:=b
 subst i
 have b:=al
 obtain ⟨⟨am,an,ao,aq,ar,au,av,aw⟩,d⟩:=d.unfI (ck:=kA) (fs:=k9) 0 rfl
 refine rl (wp 3 [0,1,2,8,22] b λa b=>wc (wld b d 0 5 0 λa b=>wp 1 [0,1,2,8,24] b λa b=>nl ?_))
 obtain ⟨bh,d⟩:=d.foldI (ck:=kA) (fs:=k9) e (am,an,ao,aq,ar,au,av,aw) ak [0,1,2] [3,4,5] [0,1,2] dc kr kr
 obtain ⟨V,d⟩:=d.mpBackI 0 1 [2,3] dc rfl rfl l hmx20
 have d:=d.add (m:=MP.const ((mGet g f).getD none=(some e))) l
 refine aj _ _ (bc b H (λhb H=>?_) λhb H=>?_)
 refine qr λ_ ax=>wp 2 [6,7] b λa b=>ax _ _ (rt ?_)
 cases H
 exact j7 b d (tB results72 (rvt b) (rvt b)) ⟨j,q,o,g,V,rfl,d.sp [1,2,0] [5]⟩
 refine sk (ai _ _ (qs λ_ ay=>qs λ_ az=>?_))
 have u:(mGet g f).getD none=(some e):=d.get 0 rfl
 refine bd H λaA hmx38 H=>?_
 obtain ⟨_,bi,bj,i,d⟩:=d.mpTakeP 0 rfl hmx38 u
 cases i
 obtain ⟨⟨aB,aD,aE,aF,aG,J,aH,aI⟩,d⟩:=d.unfI (ck:=kA) (fs:=k9) 0 rfl
 refine rl (wp 3 [0,1,2,8,27] b λa b=>wc (wld b d 0 3 0 λa b=>jE (L':=[k35 s,(1,vu f),k36 n,k3f e,(28,.map J),(29,vi n)]) 1 [0,1,2,8,28,29] b kr λa b=>bd H λbB W H=>wc (uI (KT:=3) (E:=4) (kt:=(kInt .i64)) (agg:=false) (t:=jM.ty) b d kr 2 2 (k:=n) (zc:=flat [k3e]) (zm:=false) rfl kr kr rfl rfl W kr kr kr (λ_ _=>rfl) ?_)))
 rintro _ a rfl b
 refine nl ?_
 obtain ⟨bl,d⟩:=d.foldI (ck:=kA) (fs:=k9) e (aB,aD,aE,aF,aG,J,aH,aI) aA [0,1,2] [3,4,5] [0,1,2] dc kr kr
 obtain ⟨X,d⟩:=d.mpBackI 0 1 [2,3] dc rfl rfl u hmx38
 refine az _ _ (bc b H (λhb H=>?_) λhb H=>?_)
 refine qr λ_ aJ=>wp 2 [6,7] b λa b=>aJ _ _ (rt ?_)
 cases H
 exact j7 b d (tB results72 (rvt b) (rvt b)) ⟨j,q,o,g,X,rfl,d.sp [1,2,0] [8]⟩
 refine sk (ay _ _ (qs λ_ aL=>?_))
 have x:(mGet g f).getD none=(some e):=d.get 3 rfl
 refine bd H λp hmx56 H=>?_
 obtain ⟨_,bm,bn,i,d⟩:=d.mpTakeP 0 rfl hmx56 x
 cases i
 obtain ⟨⟨aM,aO,aP,aQ,aR,K,bC,bD⟩,d⟩:=d.unfI (ck:=kA) (fs:=k9) 0 rfl
 refine rl (wp 3 [0,1,2,8,33] b λa b=>wc (wld b d 0 3 0 λa b=>jE (L':=[k35 s,(1,vu f),k3f e,(34,.map K),(35,vi n)]) 1 [0,1,8,34,35] b kr λa b=>bd H λaS Y H=>wc (oC (KT:=3) (E:=4) (kt:=(kInt .i64)) (agg:=false) (t:=jM.ty) b d kr 2 2 (k:=n) (v:=true) (cs:=flat [sb true]) rfl kr kr kr rfl rfl rfl Y kr kr λaT aU a w b d=>nl ?_)))
 obtain ⟨bo,d⟩:=d.foldI (ck:=kA) (fs:=k9) e (aM,aO,aP,aQ,aR,K,aT,aU) (jH.mk p.low p.shares p.votes aS p.at_ p.decided) [0,1,2] [3,4,5] [1,2,0] dc kr kr
 obtain ⟨bq,d⟩:=d.mpPutI 0 1 [2,3] dc rfl rfl x hmx56 (zT hmx56)
 refine aL _ _ (qs λ_ aV=>qs λ_ aW=>?_)
 have y:(mGet g f).getD none=(some e):=d.get 7 rfl
 refine bd H λL hmx76 H=>?_
 obtain ⟨_,br,bt,i,d⟩:=d.mpTakeP 0 rfl hmx76 y
 cases i
 obtain ⟨⟨aX,aY,aZ,a0,a2,O,a3,a4⟩,d⟩:=d.unfI (ck:=kA) (fs:=k9) 0 rfl
 refine rgS d [] ?_
 have d:=d.drew
 have B:=d.fx
 refine anp [0,1,2,5,6,7] [0,1,38,43] b B λa b=>atk 3 (some 39) b B rfl (vld 0 3 0) λa b=>atk 8 (some 44) b B rfl (vld 0 1 0) λa b=>jN [9] [0,1,39,45] (L':=[k35 s,(1,vu f),(39,.map O),(45,vi (L.shares.length:Int))]) (listed':=(mV 11 1007)) (fuel:=2) b B kr (by intro c a w t v h; cases t<;>exact h) kr rfl λa b=>ago 4 b rfl (vO (KT:=3) (E:=4) (kt:=(kInt .i64)) (agg:=false) (t:=jM.ty) b d kr 2 2 rfl kr rfl rfl kr λa b=>⟨λ_=>(d.sx (rg 6) (rg 16)),?_⟩)
 refine anp [10] [0,1,46] b (d.sx (rg 6) (rg 16)) λa b=>kN ?_
 obtain ⟨bu,d⟩:=d.foldI (ck:=kA) (fs:=k9) e (aX,aY,aZ,a0,a2,O,a3,a4) L [0,1,2] [3,4,5] [0,1,2] dc kr kr
 obtain ⟨Z,d⟩:=d.mpBackI 0 1 [2,3] dc rfl rfl y hmx76
 refine aW _ _ (bc b H (λhb H=>?_) λhb H=>?_)
 refine qr λ_ a5=>wp 2 [6,7] b λa b=>a5 _ _ (rt ?_)
 cases H
 exact j7 b d (tB results72 (rvt b) (rvt b)) ⟨j,q,o,g,Z,rfl,d.sp [1,2,0] [15]⟩
 refine sk (aV _ _ (qr λ_ a6=>(wp 3 [1,49] b λa b=>wc (wld b d 1 0 0 λa b=>jE (L':=[(50,.map j),(51,vu f)]) 1 [50,51] b kr λa b=>wc (wM (KT:=32) (E:=182) (kt:=(kInt .u64)) (agg:=false) (t:=pO.ty) b d kr 2 15 (k:=f) rfl kr kr rfl rfl kr kr λa7 a w hsub b d=>?_)))))
 obtain ⟨aa,d⟩:=d.mpDelI 0 [1,2] dc rfl f
 refine a6 _ _ (qr λ_ ba=>wp 2 [6,7] b λa b=>ba _ _ (rt ?_))
 cases H
 exact j7 b d (tB results72 (rvt b) (rvt b)) ⟨j,a7,o,(mDel g f),aa,rfl,d.sp [1,2,0] [0]⟩
theorem vE (N){R}{S}{P}(Q:j9)(d)(h)(G)(I)(g)(Y)(A)(hB:SB R S P (k0t A h G I (mpX jW g Y Q.open_ none)) (k0u h G I g)){r}(H:M.oH N Q d=some r) :
    Calls Tryz.prog 68 #[pt A 0,vu d] P (kP R S P λv κ w=>∃J K V,v = .slice J r.length K∧SS R S P κ w [k40 A h,mx h G I,.ext (mpX jW g V Q.open_ none),k3z J r.length K] (k0r J K r)):=by
 have c:=hB.hS
 have aV:=c.fresh
 refine en func68 rfl ntmps68 λa b=>?_
 unfold M.oH at H
 refine qr λ_ h9=>(jE (L':=[k35 A,(1,vu d)]) 1 [0,1] b kr λa b=>h9 _ _ (qs λ_ aj=>qs λ_ ak=>bd H λal j H=>kL (λa w=>∃κ L,Fr (39) [] [k35 A,(1,vu d),(18,vb al)] a∧SS R S P κ w (k0t A h G I (mpX jW g L Q.open_ none)) (k0u h G I g)∧True) ?_ ?_))
 obtain ⟨Z,hlp15⟩ : ∃p,(mGet g d).getD none=p:=⟨_,rfl⟩
 have c:=c.add (m:=MP.const ((mGet g d).getD none=Z)) hlp15
 have B:(mGet g d).getD none=Z:=c.get 0 rfl
 refine kY j (λhmx16 j=>?_) (λaW hmx16 j=>?_)
 have l:=c.mpNone 2 rfl hmx16 B
 have am:=b
 subst l
 have b:=am
 refine rl (wp 6 [0,1,10,13] b λa b=>wcg b (wld b c 0 0 0 λa b=>jE (L':=k0y A d h) 1 [0,1,10,14,15] b kr λa b=>wcg b (rY (KT:=32) (E:=182) (kt:=(kInt .u64)) b c kr 1 1 (k:=d) rfl kr kr rfl rfl hlp15 kr kr kr λa b=>wp 2 [0,1,18] b λa b=>nl ?_)))
 cases j
 exact ⟨_,Y,b.kp [0,1,18],c.sp [0,1,2] [1],ja⟩
 obtain ⟨aX,aM,aO,l,c⟩:=c.mpTakeP 2 rfl hmx16 B
 have an:=b
 subst l
 have b:=an
 refine rl (wp 6 [0,1,10,13] b λa b=>wcg b (wld b c 2 0 0 λa b=>jE (L':=k0y A d h) 1 [0,1,10,14,15] b kr λa b=>wcg b (rY (KT:=32) (E:=182) (kt:=(kInt .u64)) b c kr 3 1 (k:=d) rfl kr kr rfl rfl hlp15 kr kr kr λa b=>wp 2 [0,1,18] b λa b=>nl ?_)))
 obtain ⟨ab,c⟩:=c.mpBackI 0 1 [2,3] dc rfl rfl B hmx16
 cases j
 exact ⟨_,ab,b.kp [0,1,18],c.sp [1,2,0] [1],ja⟩
 rintro a w ⟨κ,L,b,c,-⟩
 refine ak _ _ (bc b H (λhb H=>?_) λhb H=>?_)
 refine qr λ_ ao=>wp 1 [4] b λa b=>ao _ _ (rt ?_)
 have c:=c.add (m:=Ro.mp jG.ty none 0 ([]:List jB)) (Ro.nil jG.ty _ _)
 have c:=c.addNil 48 6
 cases H
 exact j7 b c (l4 results68 (rvt b)) ⟨none,0,L,rfl,c.sp [1,2,3,0] [0]⟩
 refine sk (aj _ _ (qr λ_ aq=>(jE (L':=[k35 A,(1,vu d),(5,.slice none 0 0)]) 1 [0,1,5] b kr λa b=>aq _ _ (qs λ_ ar=>qs λ_ au=>?_))))
 obtain ⟨aa,hlp26⟩ : ∃p,(mGet g d).getD none=p:=⟨_,rfl⟩
 have c:=c.add (m:=MP.const ((mGet g d).getD none=aa)) hlp26
 have C:(mGet g d).getD none=aa:=c.get 0 rfl
 refine kY H (λhmx27 H=>?_) (λe hmx27 H=>?_)
 have l:=c.mpNone 2 rfl hmx27 C
 have av:=b
 subst l
 have b:=av
 cases H
 obtain ⟨aw,aP,aQ,l,c⟩:=c.mpTakeP 2 rfl hmx27 C
 have ax:=b
 subst l
 have b:=ax
 obtain ⟨⟨D,F,ay,az,aA,aB,aD,aE⟩,c⟩:=c.unfI (ck:=kA) (fs:=k9) 0 rfl
 refine rl (wp 3 [1,5,21] b λa b=>wc (wld b c 4 0 0 λa b=>jE (L':=[(5,.slice none 0 0),(22,.map h),(23,vu d)]) 1 [5,22,23] b kr λa b=>wc (rY (KT:=32) (E:=182) (kt:=(kInt .u64)) b c kr 5 4 (k:=d) rfl kr kr rfl rfl hlp26 kr kr kr λa b=>wp 2 [5,26] b λa b=>wc (wld b c 0 1 0 λa b=>wp 2 [5,27,28,29] b λa b=>nl ?_))))
 obtain ⟨aR,c⟩:=c.foldI (ck:=kA) (fs:=k9) aw (D,F,ay,az,aA,aB,aD,aE) e [0,1,2] [3,4,5] [0,1,2] dc kr kr
 obtain ⟨T,c⟩:=c.mpBackI 0 1 [2,3] dc rfl rfl C hmx27
 refine au _ _ (bk (jT (n:=N) (λn a w=>∃κ,∃o:List jB,∃q t u,Fr (39) [] [(5,.slice q o.length t),k3d D e.shares.length F,(28,vi (e.shares.length:Int)),(29,vi u)] a∧SS R S P κ w [k40 A h,k3z q o.length t,mx h G I,.ext (mpX jW g T Q.open_ none)] [k3l q t o,k42 D F e.shares,k41 h G I g]∧M.mU N n Q e o u=some r) ?_ ?_))
 have c:=c.add (m:=Ro.mp jG.ty none 0 ([]:List jB)) (Ro.nil jG.ty _ _)
 have c:=c.addNil 48 6
 exact ⟨_,([]:List jB),none,0,0,b.kp [5,27,28,29],c.sp [2,0,3,1] [0,1,5],H⟩
 rintro n a w ⟨κ,o,q,t,u,b,c,H⟩
 rcases n with _|W
 simp [M.mU] at H
 simp only [M.mU] at H
 refine qr λ_ aF=>(jE (L':=[(5,.slice q o.length t),k3d D e.shares.length F,(28,vi (e.shares.length:Int)),(29,vi u),(30,vb (decide (u<(e.shares.length:Int))))]) 1 [5,27,28,29,30] b kr λa b=>aF _ _ (qs λ_ aG=>bc b H (λhb H=>?_) λhb H=>?_))
 refine sk (aG _ _ (qs λ_ aH=>bk (qr λ_ aI=>(bd H λf O H=>wc (kR b c kr 1 (E:=141) (sz:=2) rfl rfl rfl kr rfl O kr kr λaS aT a U b=>?_)))))
 obtain ⟨_,⟨⟨x,y⟩,rfl,hR⟩,hc⟩:=c.elem 1 rfl U O
 have c:=(c.adds hR).add hc
 refine wc (kQ b kr (v := .agg (flat (k0x f x y)).toArray) ((pD 0 0 2 (s:=[si f.Node,sl x f.Vers.length y]) (s':=k0x f x y) (n:=2) rfl rfl rfl (show mK [si f.Node,sl x f.Vers.length y] from (sgN 2 jD)) kr kr kr kr kr _ ⟨_,c⟩)) λa b=>wc (wal b c k0v (sgN 2 jD) λad a w b c=>wc (wst b c 0 0 2 (k0x f x y) (sgN 2 jD) λa w b c=>?_)))
 refine aI _ _ (rl (jE (L':=[k3d D e.shares.length F,(28,vi (e.shares.length:Int)),(29,vi u),k44 q o.length t,(34,pt ad 1)]) 2 [27,28,29,33,34] b kr λa b=>wc (wld b c 0 1 0 λa b=>bd H λae X H=>wc (kJ (ty:=jG.ty) b c kr 2 2 1 rfl rfl rfl kr kr rfl rfl rfl X kr (i:=Tryz.t48) (z := .agg (flat (k0k empty)).toArray) kr kr kr λaf ah κ a w b c=>wp 1 [5,27,28,29] b λa b=>aH _ _ ?_))))
 refine rl (wp 2 [5,27,28,29] b λa b=>nl ?_)
 exact ⟨W,jb _,_,ae,af,ah,i64.wrap (u+1),b.kp [5,27,28,29],c.sp (ra 1 4) [0,4,5],H⟩
 refine xt (ar _ _ (qr λ_ ai=>wp 2 [4] b λa b=>ai _ _ (rt ?_)))
 cases H
 exact j7 b c (l4 results68 (rvt b)) ⟨q,t,T,rfl,c.sp [0,2,3,1] [0]⟩
theorem yX (N){T}{U}{R}(S:j9)(e)(h)(J)(K)(g)(aa)(C)(hB:SB T U R (k0t C h J K (mpX jW g aa S.open_ none)) (k0u h J K g)){r}(H:M.pV N S e=some r) :
    Calls Tryz.prog 71 #[pt C 0,vu e] R (kP T U R λv κ w=>∃L O X,v = .slice L r.length O∧SS T U R κ w [k40 C h,mx h J K,.ext (mpX jW g X S.open_ none),.tok L 3 1 r.length O] [k3b L O r]):=by
 have c:=hB.hS
 have aY:=c.fresh
 refine en func71 rfl ntmps71 λa b=>?_
 unfold M.pV at H
 refine qr λ_ h9=>(jE (L':=[k35 C,(1,vu e)]) 1 [0,1] b kr λa b=>h9 _ _ (qs λ_ al=>qs λ_ am=>bd H λan j H=>kL (λa w=>∃κ P,Fr (40) [] [k35 C,(1,vu e),(18,vb an)] a∧SS T U R κ w (k0t C h J K (mpX jW g P S.open_ none)) (k0u h J K g)∧True) ?_ ?_))
 obtain ⟨ab,hlp15⟩ : ∃p,(mGet g e).getD none=p:=⟨_,rfl⟩
 have c:=c.add (m:=MP.const ((mGet g e).getD none=ab)) hlp15
 have D:(mGet g e).getD none=ab:=c.get 0 rfl
 refine kY j (λhmx16 j=>?_) (λaZ hmx16 j=>?_)
 have o:=c.mpNone 2 rfl hmx16 D
 have ao:=b
 subst o
 have b:=ao
 refine rl (wp 6 [0,1,10,13] b λa b=>wcg b (wld b c 0 0 0 λa b=>jE (L':=k0y C e h) 1 [0,1,10,14,15] b kr λa b=>wcg b (rY (KT:=32) (E:=182) (kt:=(kInt .u64)) b c kr 1 1 (k:=e) rfl kr kr rfl rfl hlp15 kr kr kr λa b=>wp 2 [0,1,18] b λa b=>nl ?_)))
 cases j
 exact ⟨_,aa,b.kp [0,1,18],c.sp [0,1,2] [1],ja⟩
 obtain ⟨a0,aP,aQ,o,c⟩:=c.mpTakeP 2 rfl hmx16 D
 have aq:=b
 subst o
 have b:=aq
 refine rl (wp 6 [0,1,10,13] b λa b=>wcg b (wld b c 2 0 0 λa b=>jE (L':=k0y C e h) 1 [0,1,10,14,15] b kr λa b=>wcg b (rY (KT:=32) (E:=182) (kt:=(kInt .u64)) b c kr 3 1 (k:=e) rfl kr kr rfl rfl hlp15 kr kr kr λa b=>wp 2 [0,1,18] b λa b=>nl ?_)))
 obtain ⟨ae,c⟩:=c.mpBackI 0 1 [2,3] dc rfl rfl D hmx16
 cases j
 exact ⟨_,ae,b.kp [0,1,18],c.sp [1,2,0] [1],ja⟩
 rintro a w ⟨κ,P,b,c,-⟩
 refine am _ _ (bc b H (λhb H=>?_) λhb H=>?_)
 refine qr λ_ ar=>wp 1 [4] b λa b=>ar _ _ (rt ?_)
 have c:=c.add (m:=Ro.mp (fInt .i64).ty none 0 ([]:List Int)) (Ro.nil (fInt .i64).ty _ _)
 have c:=c.addNil 3 1
 cases H
 exact j7 b c (l4 results71 (rvt b)) ⟨none,0,P,rfl,c.sp [1,2,3,0] [0]⟩
 refine sk (al _ _ (qr λ_ au=>(jE (L':=[k35 C,(1,vu e),(5,.slice none 0 0)]) 1 [0,1,5] b kr λa b=>au _ _ (qs λ_ av=>qs λ_ aw=>?_))))
 obtain ⟨ad,hlp26⟩ : ∃p,(mGet g e).getD none=p:=⟨_,rfl⟩
 have c:=c.add (m:=MP.const ((mGet g e).getD none=ad)) hlp26
 have F:(mGet g e).getD none=ad:=c.get 0 rfl
 refine kY H (λhmx27 H=>?_) (λf hmx27 H=>?_)
 have o:=c.mpNone 2 rfl hmx27 F
 have ax:=b
 subst o
 have b:=ax
 cases H
 obtain ⟨ay,aR,aS,o,c⟩:=c.mpTakeP 2 rfl hmx27 F
 have az:=b
 subst o
 have b:=az
 obtain ⟨⟨G,I,aA,aB,aD,aE,aF,aG⟩,c⟩:=c.unfI (ck:=kA) (fs:=k9) 0 rfl
 refine rl (wp 3 [1,5,21] b λa b=>wc (wld b c 4 0 0 λa b=>jE (L':=[(5,.slice none 0 0),(22,.map h),(23,vu e)]) 1 [5,22,23] b kr λa b=>wc (rY (KT:=32) (E:=182) (kt:=(kInt .u64)) b c kr 5 4 (k:=e) rfl kr kr rfl rfl hlp26 kr kr kr λa b=>wp 2 [5,26] b λa b=>wc (wld b c 0 1 0 λa b=>wp 2 [5,27,28,29] b λa b=>nl ?_))))
 obtain ⟨aT,c⟩:=c.foldI (ck:=kA) (fs:=k9) ay (G,I,aA,aB,aD,aE,aF,aG) f [0,1,2] [3,4,5] [0,1,2] dc kr kr
 obtain ⟨V,c⟩:=c.mpBackI 0 1 [2,3] dc rfl rfl F hmx27
 refine aw _ _ (bk (jT (n:=N) (λn a w=>∃κ,∃q:List Int,∃u x y,Fr (40) [] [(5,.slice u q.length x),k3d G f.shares.length I,(28,vi (f.shares.length:Int)),(29,vi y)] a∧SS T U R κ w [k40 C h,.tok u 3 1 q.length x,mx h J K,.ext (mpX jW g V S.open_ none)] [k3b u x q,k42 G I f.shares,k41 h J K g]∧M.nN N n S f q y=some r) ?_ ?_))
 have c:=c.add (m:=Ro.mp (fInt .i64).ty none 0 ([]:List Int)) (Ro.nil (fInt .i64).ty _ _)
 have c:=c.addNil 3 1
 exact ⟨_,([]:List Int),none,0,0,b.kp [5,27,28,29],c.sp [2,0,3,1] [0,1,5],H⟩
 rintro n a w ⟨κ,q,u,x,y,b,c,H⟩
 rcases n with _|Y
 simp [M.nN] at H
 simp only [M.nN] at H
 refine qr λ_ aH=>(jE (L':=[(5,.slice u q.length x),k3d G f.shares.length I,(28,vi (f.shares.length:Int)),(29,vi y),(30,vb (decide (y<(f.shares.length:Int))))]) 1 [5,27,28,29,30] b kr λa b=>aH _ _ (qs λ_ aI=>bc b H (λhb H=>?_) λhb H=>?_))
 refine sk (aI _ _ (qs λ_ aJ=>bk (qr λ_ aL=>(bd H λd Q H=>wc (kR b c kr 1 (E:=141) (sz:=2) rfl rfl rfl kr rfl Q kr kr λaU aV a W b=>?_)))))
 obtain ⟨_,⟨⟨A,B⟩,rfl,hR⟩,hc⟩:=c.elem 1 rfl W Q
 have c:=(c.adds hR).add hc
 refine wc (kQ b kr (v := .agg (flat (k0x d A B)).toArray) ((pD 0 0 2 (s:=[si d.Node,sl A d.Vers.length B]) (s':=k0x d A B) (n:=2) rfl rfl rfl (show mK [si d.Node,sl A d.Vers.length B] from (sgN 2 jD)) kr kr kr kr kr _ ⟨_,c⟩)) λa b=>wc (wal b c k0v (sgN 2 jD) λaf a w b c=>wc (wst b c 0 0 2 (k0x d A B) (sgN 2 jD) λa w b c=>?_)))
 refine aL _ _ (rl (jE (L':=[k3d G f.shares.length I,(28,vi (f.shares.length:Int)),(29,vi y),k44 u q.length x,(34,pt af 0)]) 2 [27,28,29,33,34] b kr λa b=>wc (wld b c 0 0 0 λa b=>wc (oI (t:=(fInt .i64)) (z:=vi 0) (l:=[d.Node]) (vs:=[(0,vi d.Node)]) (cells := #[vi d.Node]) (E:=3) b c kr rfl kr kr rfl kr kr kr kr kr λaX κ a w b c=>bd H λah Z H=>wc (kJ (ty:=(fInt .i64).ty) b c kr 3 3 0 rfl rfl rfl kr kr rfl rfl rfl Z kr (i:=Tryz.t3) (z:=vi 0) kr kr kr λai aj κ a w b c=>?_)))))
 refine wp 1 [5,27,28,29] b λa b=>aJ _ _ (rl (wp 2 [5,27,28,29] b λa b=>nl ?_))
 exact ⟨Y,jb _,_,ah,ai,aj,i64.wrap (y+1),b.kp [5,27,28,29],c.sp (ra 2 4) [0,5,6],H⟩
 refine xt (av _ _ (qr λ_ ak=>wp 2 [4] b λa b=>ak _ _ (rt ?_)))
 cases H
 exact j7 b c (l4 results71 (rvt b)) ⟨u,x,V,rfl,c.sp [0,2,3,1] [0]⟩
theorem xV (N){D}{F}{C}(i:j9)(j)(k)(f)(h)(l)(s)(Q)(g)(S:SB D F C (k0t g f h l (mpX jW s Q i.open_ none)) (k0u f h l s)){r}(H:M.qA N i j k=some r) :
    Calls Tryz.prog 111 #[pt g 0,.string (j),.string (k)] C (kP D F C λv κ w=>∃L:List Nat,v=vb r∧SS D F C κ w (k0t g f h l (mpX jW s L i.open_ none)) []):=by
 have c:=S.hS
 have au:=c.fresh
 refine en func111 rfl ntmps111 λa b=>?_
 unfold M.qA at H
 refine qr λ_ aa=>(wp 1 [0,1,2] b λa b=>(aa _ _ (qs λ_ ab=>qr λ_ ad=>(wp 2 [0,1,2,11] b λa b=>(ad _ _ (cf b rfl (sk (ab _ _ (qs λ_ ae=>qr λ_ af=>(jE (L':=[k35 g,(1,.string (j)),(2,.string (k)),(14,pt g 0)]) 3 [0,1,2,14] b kr λa b=>wc (wld b c 0 0 0 λa b=>wc (xW (KT:=32) (E:=182) (kt:=(kInt .u64)) (agg:=false) (t:=pO.ty) b c kr 1 0 rfl kr rfl rfl kr λo a w b c=>?_))))))))))))
 have c:=c.add (m:=It.mp (kInt .u64) h (#[]) (pP i.open_)) (LQ (c.get 0 rfl) (c.mpKeys 3 rfl))
 refine af _ _ (bk (jT (n:=N) (λn a w=>∃κ q G p,Fr (35) [] [k35 g,(1,.string (j)),(2,.string (k)),(16,pt o 0)] a∧SS D F C κ w [k40 g f,mx f h l,.ext (mpX jW s q i.open_ none),.ext (objX (some o) (itO f l G))] [k41 f h l s,It.mp (kInt .u64) h G p]∧M.lI N n i j k p=some r) ?_ ?_))
 exact ⟨_,Q,#[],(pP i.open_),b.kp [0,1,2,16],c.sp [1,2,3,0] [2,0],H⟩
 rintro n a w ⟨κ,q,G,p,b,c,H⟩
 rcases n with _|x
 simp [M.lI] at H
 simp only [M.lI] at H
 refine qr λ_ R=>(wc (zO (kt:=(kInt .u64)) (agg:=false) (t:=pO.ty) b c kr 1 3 0 1 rfl kr rfl rfl rfl rfl (JL (c.mpKeys 2 rfl) H) ?_ ?_))
 intro H a b
 refine wp 1 [0,1,2,16,18] b λa b=>R _ _ (qs λ_ av=>cf b rfl (xt (ae _ _ (qr λ_ ah=>wp 1 [6] b λa b=>ah _ _ (rt ?_)))))
 cases H
 exact j7 b c (l4 results111 (rvt b)) ⟨q,rfl,c.sp [0,1,2] []⟩
 rintro ⟨y,aw⟩ al I a w H b c
 refine jE (L':=[k35 g,(1,.string (j)),(2,.string (k)),(16,pt o 0),(18,vb true)]) 1 [0,1,2,16,18] b kr λa b=>(R _ _ (qs λ_ ai=>ct b rfl (sk (ai _ _ (bk (qr λ_ aj=>(wc (xX (kt:=(kInt .u64)) (agg:=false) (t:=pO.ty) b c kr 1 3 2 0 rfl kr rfl rfl rfl rfl ?_))))))))
 rintro _ a rfl b
 refine wp 2 [0,1,2,7,16] b λa b=>aj _ _ (qr λ_ ak=>wp 2 [0,1,2,16,21,22] b λa b=>bd H λe T H=>wc (wcS 3 (rg 4) b c (λc=>vE N i y f h l s q g (c.sbK [2]) T) ?_))
 rintro _ κ w a ⟨z,A,u,rfl,h2⟩ b S
 have c:=S _ _ h2
 refine wp 2 [0,1,2,16,23,24,25] b λa b=>(ak _ _ (bk (jT (n:=N) (λn a w=>∃κ d,Fr (35) [] [k35 g,(1,.string (j)),(2,.string (k)),(16,pt o 0),(23,.slice z e.length A),(24,vi (e.length:Int)),(25,vi d)] a∧SS D F C κ w [k40 g f,k3z z e.length A,mx f h l,.ext (mpX jW s u i.open_ none),.ext (objX (some o) (itO f l I))] [k41 f h l s,It.mp (kInt .u64) h I (kRem p y),k3l z A e]∧M.l5 N (M.lI N x) n i j k p y e d=some r) ?_ ?_)))
 exact ⟨_,0,b.kp [0,1,2,16,23,24,25],c.sp [0,3,1,2,4] [3,2,0],H⟩
 rintro n a w ⟨κ,d,b,c,H⟩
 rcases n with _|O
 simp [M.l5] at H
 simp only [M.l5] at H
 refine qr λ_ U=>(jE (L':=[k35 g,(1,.string (j)),(2,.string (k)),(16,pt o 0),(23,.slice z e.length A),(24,vi (e.length:Int)),(25,vi d),(26,vb (decide (d<(e.length:Int))))]) 1 [0,1,2,16,23,24,25,26] b kr λa b=>U _ _ (qs λ_ V=>bc b H (λhb H=>?_) λhb H=>?_))
 refine sk (V _ _ (qs λ_ W=>bk (qr λ_ X=>(bd H λJ B H=>wc (kR b c kr 2 (E:=48) (sz:=6) rfl rfl rfl kr rfl B kr kr λan ao a K b=>wc (qY (t:=jG) b c kr 2 rfl rfl K rfl B kr kr kr λa b=>wc (wal b c (k0k empty) (sgN 6 jD) λaq a w b c=>wc (wst b c 0 0 6 (k0w J) (sgN 6 jD) λa w b c=>?_))))))))
 refine X _ _ (qr λ_ Y=>wp 1 [0,1,2,16,23,24,25,29] b λa b=>wc (wld b c 0 0 0 λa b=>wp 2 [0,1,2,16,23,24,25,30,31,32] b λa b=>bd H λar P H=>wc (jR b c kr kr (wJ N c.fresh J.Key j k ((c.pick [] kr).ro) P) ?_)))
 rintro _ κ w a ⟨rfl,hR,hN⟩ b c hO
 refine Y _ _ (bc b H (λhb H=>?_) λhb H=>?_)
 refine qr λ_ Z=>wp 1 [6] b λa b=>Z _ _ (rt ?_)
 cases H
 exact j7 b c (l4 results111 (rvt b)) ⟨u,rfl,c.sp [1,3,4] []⟩
 refine sk (W _ _ (rl (wp 2 [0,1,2,16,23,24,25] b λa b=>nl ?_)))
 exact ⟨O,jb _,_,i64.wrap (d+1),b.kp [0,1,2,16,23,24,25],c.sp (ra 1 5) [0,1,2],H⟩
 refine xt ?_
 exact ⟨x,jb _,_,u,I,(kRem p y),b.kp [0,1,2,16],c.sp [0,2,3,4] [0,1],H⟩
theorem AB (N){g}{h}{d}(i:j9)(j)(k)(l)(m)(f)(e)(q:SB g h d (k0t e j k l (mpX jW m f i.open_ none)) (k0u j k l m)){r}(H:M.tU N i=some r) :
    Calls Tryz.prog 114 #[pt e 0] d (kP g h d λv κ w=>∃n:List Nat,v=vi r∧SS g h d κ w (k0t e j k l (mpX jW m n i.open_ none)) []):=by
 have c:=q.hS
 have u:=c.fresh
 refine en func114 rfl ntmps114 λa b=>?_
 unfold M.tU at H
 refine qr λ_ s=>(wp 1 [0] b λa b=>(s _ _ (qs λ_ t=>qr λ_ o=>(wp 2 [0,4] b λa b=>(o _ _ (cf b rfl (sk (t _ _ (qr λ_ p=>(jE (L':=[(7,pt e 0)]) 3 [7] b kr λa b=>wc (wld b c 0 0 0 λa b=>wc (FZ (KT:=32) (E:=182) (kt:=(kInt .u64)) b c kr 1 0 rfl kr rfl rfl kr (c.mpLen 2 rfl) λa b=>wp 1 [2] b λa b=>p _ _ (rt ?_)))))))))))))
 cases H
 exact j7 b c (l4 results114 (rvt b)) ⟨f,rfl,c.sp [0,1,2] []⟩
end Go.Cf
