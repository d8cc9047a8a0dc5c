/- The walks: each function returns what its model says. Printed by a program of ours. -/
import Derived.Test.YtcplebnnanjngaaGreatZSh
import Derived.Test.YtcplebnnanjngaaGreatZM1
import Derived.Test.YtcplebnnanjngaaGreatZWt
namespace Go.Cf
open Go Go.Proofs Tryz
open _root_.Int(toNat tdiv tmod)
open _root_.List(set replicate)
open _root_.ByteArray(empty)
open Go.IntKind(i64 u64)
set_option linter.unusedVariables false
set_option maxRecDepth 20000
set_option maxHeartbeats 8000000
theorem sK (N){h}{c}(i:lG h c)(j)(f)(k)(l)(n : ∀m∈([Map.mp (kInt .u64) false (fInt .i64).ty f k l j]:List MP),m.p h c){r}(H:M.nB N j=some r) :
    Calls Tryz.prog 37 #[.map f] c (kP [] h c λv κ w=>∃d:Nat,v = .func (.func 90) #[] #[pt d 0]∧(∀m∈([]:List MP),m.p κ w)∧sJ c κ w [.box d 76 [sm f]]):=by
 have e:=SS.start i n
 refine en func37 rfl ntmps37 λa b=>?_
 unfold M.nB at H
 refine qr λ_ o=>(wc (wbx b e [sm f] (sgN 1 jD) λg a w b e=>jE (L':=[k2w g]) 1 [1] b kr λa b=>(o _ _ (qr λ_ q=>(wc (kQ b kr (v := .func (.func 90) #[] #[pt g 0]) (u6 (T':=0) (caps := #[pt g 0]) rfl kr _) λa b=>wp 1 [2] b λa b=>q _ _ (rt ?_)))))))
 cases H
 exact (j7 b e (l4 results37 (rvt b)) ⟨g,rfl,(e.pick [] rfl).ro,e.newC [0] dc kr⟩)
theorem AA (N){X}{Y}{W}(I)(O)(f:(List i8))(R)(q)(D)(F)(u)(J)(K)(k)(m)(G)(o)(hB:SB X Y W [.box o 87 [(28,R),sm q,sm u,sl k f.length m,(13,G)],mx q D F,mx u J K] [k49 q D F I,k4a u J K O,k4b k m f]){r}(H:M.qX N I O f=some r) :
    Calls Tryz.prog 19 #[pt o 0] W (kP X Y W λv κ w=>∃P Q,v = .slice P r.length Q∧SS X Y W κ w [.box o 87 [(28,R),sm q,sm u,sl k f.length m,(13,G)],mx q D F,mx u J K,.tok P 3 1 r.length Q] [k3b P Q r]):=by
 have d:=hB.hS
 have a5:=d.fresh
 refine en func19 rfl ntmps19 λa c=>?_
 unfold M.qX at H
 refine qr λ_ aM=>wp 1 [0] c λa c=>aM _ _ (qs λ_ aO=>qr λ_ aP=>wp 2 [0,9] c λa c=>aP _ _ (cf c rfl (sk (aO _ _ (qr λ_ aQ=>wp 3 [0,12] c λa c=>wc (wld c d 0 1 0 λa c=>bd H λa7 am H=>wc (jR c d kr kr (sK N d.fresh I q D F ((d.pick [0] kr).ro) am) ?_)))))))
 rintro _ κ w a ⟨aR,rfl,hR,hN⟩ c d hO
 have d:=d.addC hO hN
 obtain ⟨a8,hlx21,H⟩:=H1 H
 refine wc (jR c d kr kr (FV d.fresh aR q D F I (d.ck 0 rfl).1 (λb hb=>((d.ck 2 rfl) b hb).1) (d.get 0 rfl) hlx21) ?_)
 rintro _ κ w a ⟨Z,aj,ak,hperm,rfl,hN⟩ c d hO
 have H:=H Z hperm
 have d:=d.addC hO hN
 refine wp 1 [0,3] c λa c=>(aQ _ _ (qs λ_ aS=>qr λ_ aT=>(jE (L':=[k35 o,k43 aj Z.length ak,(18,pt o 29)]) 3 [0,3,18] c kr λa c=>wc (wld c d 2 2 0 λa c=>wc (xW (KT:=32) (E:=95) (kt:=(kInt .u64)) (agg:=true) (t:=kO) c d kr 4 1 rfl kr rfl rfl kr λS a w c d=>(aT _ _ (bk (jT (n:=N) (λn a w=>∃κ B C,∃x:List Int,∃aa T,Fr (48) [] [k35 o,k43 B x.length C,(20,pt S 0)] a∧SS X Y W κ w [.box o 87 [(28,R),sm q,sm u,sl k f.length m,(13,G)],mx q D F,mx u J K,.ext (ownX (fInt .i64) 3 B C x),.ext (objX (some S) (itO u K aa))] [k49 q D F I,k4a u J K O,k4b k m f,It.mp (kInt .u64) J aa T]∧M.nL N n I O f x T=some r) ?_ ?_))))))))
 exact ⟨_,aj,ak,Z,#[],(pP O),c.kp [0,3,20],d.sp [3,4,5,1,0] [1,2,3,0],H⟩
 rintro n a w ⟨κ,B,C,x,aa,T,c,d,H⟩
 rcases n with _|ae
 simp [M.nL] at H
 simp only [M.nL] at H
 refine qr λ_ al=>(wc (zO (kt:=(kInt .u64)) (agg:=true) (t:=kO) c d kr 2 4 1 3 rfl kr rfl rfl rfl rfl H ?_ ?_))
 intro H a c
 refine wp 1 [0,3,20,22] c λa c=>(al _ _ (qs λ_ a9=>cf c rfl (xt (aS _ _ (qs λ_ aU=>qr λ_ aV=>(wp 3 [3,32] c λa c=>wc (wld c d 0 3 0 λa c=>wp 2 [3,33,34,35] c λa c=>(aV _ _ (bk (jT (n:=N) (λn a w=>∃κ g h,∃j:List Int,∃p,Fr (48) [] [k43 g j.length h,k44 k f.length m,(34,vi (f.length:Int)),(35,vi p)] a∧SS X Y W κ w [.box o 87 [(28,R),sm q,sm u,sl k f.length m,(13,G)],mx q D F,mx u J K,.ext (ownX (fInt .i64) 3 g h j)] [k4b k m f,k49 q D F I,k4a u J K O]∧M.mM N n I O f j p=some r) ?_ ?_))))))))))
 exact ⟨_,B,C,x,0,c.kp [3,33,34,35],d.sp (rg 4) [2,0,1],H⟩
 rintro n a w ⟨κ,g,h,j,p,c,d,H⟩
 rcases n with _|af
 simp [M.mM] at H
 simp only [M.mM] at H
 refine qr λ_ aq=>(jE (L':=[k43 g j.length h,k44 k f.length m,(34,vi (f.length:Int)),(35,vi p),(36,vb (decide (p<(f.length:Int))))]) 1 [3,33,34,35,36] c kr λa c=>aq _ _ (qs λ_ ar=>bc c H (λhb H=>?_) λhb H=>?_))
 refine sk (ar _ _ (qs λ_ au=>bk (qr λ_ av=>(bd H λe U H=>wc (kR c d kr 0 (E:=95) (sz:=5) rfl rfl rfl kr rfl U kr kr λaY aZ a ab c=>?_)))))
 obtain ⟨_,⟨⟨y,A⟩,rfl,hR⟩,hc⟩:=d.elem 0 rfl ab U
 have d:=(d.adds hR).add hc
 refine wc (kQ c kr (v := .agg (flat (k13 e y A)).toArray) ((pD 0 0 5 (s:=[si e.id,sb e.read,sg e.key,su e.at_,sl y e.writes.length A]) (s':=k13 e y A) (n:=5) rfl rfl rfl (show mK [si e.id,sb e.read,sg e.key,su e.at_,sl y e.writes.length A] from (sgN 5 jD)) kr kr kr kr kr _ ⟨_,d⟩)) λa c=>?_)
 refine wc (wal c d (k14 empty) (sgN 5 jD) λaw a w c d=>wc (wst c d 0 0 5 (k13 e y A) (sgN 5 jD) λa w c d=>(av _ _ (rl (jE (L':=[k44 k f.length m,(34,vi (f.length:Int)),(35,vi p),(39,.slice g j.length h),(40,pt aw 0)]) 2 [33,34,35,39,40] c kr λa c=>wc (wld c d 0 0 0 λa c=>wc (oI (t:=(fInt .i64)) (z:=vi 0) (l:=[e.id]) (vs:=[(0,vi e.id)]) (cells := #[vi e.id]) (E:=3) c d kr rfl kr kr rfl kr kr kr kr kr λa0 κ a w c d=>?_)))))))
 refine bd H λax ah H=>wc (xD c d kr 5 0 rfl rfl rfl rfl rfl rfl rfl ah kr (i:=Tryz.t3) (z:=vi 0) kr kr kr λay az κ a w c d=>wp 1 [3,33,34,35] c λa c=>au _ _ (rl (wp 2 [3,33,34,35] c λa c=>nl ?_)))
 exact ⟨af,jb _,_,ay,az,ax,i64.wrap (p+1),c.kp [3,33,34,35],d.sp (ra 2 4) [3,4,5],H⟩
 refine xt (aU _ _ (qr λ_ aA=>(jE (L':=[k43 g j.length h,(45,.slice g j.length h)]) 1 [3,45] c kr λa c=>bd H λa1 V H=>wc (IU c d kr 3 kr rfl rfl L6 L5 V λa w c d=>?_))))
 rw [← DH V] at c
 refine aA _ _ (qr λ_ aB=>wp 2 [2] c λa c=>aB _ _ (rt ?_))
 obtain ⟨κ,d⟩:=d.pubO 3 rfl
 cases H
 exact j7 c d (l4 results19 (rvt c)) ⟨g,h,rfl,d.sp (rg 4) [0]⟩
 intro L a3 aW a w H c d
 refine jE (L':=[k35 o,k43 B x.length C,(20,pt S 0),(22,vb true)]) 1 [0,3,20,22] c kr λa c=>(al _ _ (qs λ_ aD=>ct c rfl (sk (aD _ _ (bk (qr λ_ aE=>(wc (xX (kt:=(kInt .u64)) (agg:=true) (t:=kO) c d kr 2 4 3 0 rfl kr rfl rfl rfl rfl ?_))))))))
 rintro _ a ⟨⟨aF,aG⟩,rfl,hR⟩ c
 have d:=d.adds hR
 refine wp 1 [0,3,20,24] c λa c=>wc (wal c d (k14 empty) (sgN 5 jD) λaH a w c d=>wc (wst c d 0 0 5 (k13 L.2 aF aG) (sgN 5 jD) λa w c d=>(aE _ _ (rl (jE (L':=[k35 o,(20,pt S 0),(25,.slice B x.length C),(26,pt aH 0)]) 2 [0,20,25,26] c kr λa c=>wc (wld c d 0 0 0 λa c=>wc (oI (t:=(fInt .i64)) (z:=vi 0) (l:=[L.2.id]) (vs:=[(0,vi L.2.id)]) (cells := #[vi L.2.id]) (E:=3) c d kr rfl kr kr rfl kr kr kr kr kr λa4 κ a w c d=>?_)))))))
 refine bd H λaI ai H=>wc (xD c d kr 5 0 rfl rfl rfl rfl rfl rfl rfl ai kr (i:=Tryz.t3) (z:=vi 0) kr kr kr λaJ aL κ a w c d=>wp 1 [0,3,20] c λa c=>nl ?_)
 exact ⟨ae,jb _,_,aJ,aL,aI,aW,(kRem T L.1),c.kp [0,3,20],d.sp (ra 2 5) [4,5,6,3],H⟩
end Go.Cf
