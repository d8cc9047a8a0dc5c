/- The walks: each function returns what its model says. Printed by a program of ours. -/
import Derived.Test.YtcplebnnanjngaaGreatZSh
import Derived.Test.YtcplebnnanjngaaGreatZM1
import Derived.Test.YtcplebnnanjngaaGreatZWg1
import Derived.Test.YtcplebnnanjngaaGreatZWg2
import Derived.Test.YtcplebnnanjngaaGreatZWg8
import Derived.Test.YtcplebnnanjngaaGreatZWg9
import Derived.Test.YtcplebnnanjngaaGreatZWr1
namespace Go.Cf
open Go Go.Proofs Tryz
open _root_.Int(toNat tdiv tmod)
open _root_.List(set replicate)
open _root_.ByteArray(empty)
open Go.IntKind(i64 u64)
set_option linter.unusedVariables false
set_option maxRecDepth 20000
set_option maxHeartbeats 8000000
theorem CQ (N){K}{I}(fv:lG K I)(hR : ∀m∈([]:List MP),m.p K I){r}(H:M.v6 N=some r) :
    Calls Tryz.prog 14 #[] I (kP [] K I λv κ w=>v=vb r∧(∀m∈([]:List MP),m.p κ w)∧sJ I κ w []):=by
 have c:=SS.start fv hR
 refine en func14 rfl ntmps14 λa b=>?_
 unfold M.v6 at H
 refine qr λ_ h1=>(jE (L':=[]) 1 [] b kr λa b=>(h1 _ _ (qs λ_ hz=>rl (wc (kQ b kr (v := .agg (flat [eb 4 ([true,false,false,false])]).toArray) (G1 (rows:=[[sb false],[sb false],[sb false],[sb false]]) (vals:=[(0,[sb true])]) (n:=4) (sz:=1) (s':=[sb true,k3e,k3e,k3e]) rfl kr kr kr kr kr (sgN 1 jD) kr kr _) λa b=>bd H λx3 fy H=>wc (jR b c kr kr (z2 N c.fresh ((c.pick [] kr).ro) fy) ?_))))))
 rintro _ κ w a ⟨p4,c5,rfl,hR,hN⟩ b c hO
 have c:=c.adds hR
 have c:=c.addC hO hN
 have c:=c.add (m:=ml ([true,false,false,false]) 4) rfl
 refine bd H λx6 fB H=>wc (wcS 0 [0] b c (λc=>CF N 0 1 [true,false,false,false] x3 p4 c5 (c.sbK [0,1]) fB) ?_)
 rintro _ κ w a ⟨p7,fT,rfl,C⟩ b D
 have c:=D _ _ C
 refine jE (L':=[(1,.pointer (pa p7)),k36 x6.2]) 5 [1,2] b kr λa b=>nl (hz _ _ (qs λ_ h9=>qs λ_ fC=>bd H λb9 A H=>kL (λa w=>∃κ a6 a7,Fr (63) [] [(1,.pointer (pa a6)),(22,vb b9.2)] a∧SS [] K I κ w [ox l9 a6 a7 b9.1] []∧True) ?_ ?_))
 refine kY A (λho A=>?_) (λd ho A=>?_)
 obtain ⟨o,c⟩:=c.optN 0 rfl ho
 rw [o] at c
 try rw [o] at b
 refine rl (bd A λfU J A=>k8 (λa w=>∃κ,Fr (63) [] [(1,.pointer none),(22,vb true)] a∧SS [] K I κ w [] []∧True) ?_ ?_)
 refine wp 3 [1,12] b λa b=>bs J (λhb J=>?_) λhb J=>?_
 have b:=b.bv 12 hb
 refine wp 10 [1,22] b λa b=>nl ?_
 cases J
 exact ⟨_,b.kp [1,22],c.sp [] [],ja⟩
 have b:=b.bv 12 hb
 refine wp 10 [1,22] b λa b=>nl ?_
 cases J
 exact ⟨_,b.kp [1,22],c.sp [] [],ja⟩
 rintro a w ⟨κ,b,c,-⟩
 cases A
 have c:=c.addOpt l9
 exact ⟨_,none,[],b.kp [1,22],c.sp [0] [],ja⟩
 obtain ⟨G,o,c⟩:=c.optS 0 rfl ho
 rw [o] at c
 try rw [o] at b
 obtain ⟨⟨Z,aa,ab,ad,L,O,P,Q,R,S,ca,a8,cb,a9,cc,ba,cd,be,ce,cg,ch,ci,cj,cl,cm,cn,cp,cq,cr,cs,bf,T,U,V,W,cu,cv,X,Y⟩,c⟩:=c.unfI (ck:=lZ) (fs:=lV) 0 rfl
 refine rl (bd A λcw F A=>k8 (λa w=>∃κ ae,Fr (63) [] [k2w G,(22,vb cw.2)] a∧SS [] K I κ w [ox l9 (some G) ae (some cw.1)] []∧True) ?_ ?_)
 refine wp 3 [1,12] b λa b=>bs F (λhb F=>?_) λhb F=>?_
 have b:=b.bv 12 hb
 refine wp 10 [1,22] b λa b=>?_
 obtain ⟨cG,c⟩:=c.foldI (ck:=lZ) (fs:=lV) G (Z,aa,ab,ad,L,O,P,Q,R,S,ca,a8,cb,a9,cc,ba,cd,be,ce,cg,ch,ci,cj,cl,cm,cn,cp,cq,cr,cs,bf,T,U,V,W,cu,cv,X,Y) d (rg 17) [17] (rg 13) dc kr kr
 refine nl ?_
 cases F
 exact ⟨_,cG,b.kp [1,22],c.sp [0] [],ja⟩
 have b:=b.bv 12 hb
 refine jE (L':=[k2w G,(16,vb false),(17,pt G 0),(18,.agg (flat [sg (ByteArray.mk #[97]),sg empty,sb false,su 0,si 0,si 0]).toArray)]) 6 [1,16,17,18] b kr λa b=>wcg b (oI (t:=jG) (z := .agg (flat (k0k empty)).toArray) (l:=[(jB.mk (ByteArray.mk #[97]) empty false 0 0 0)]) (vs:=[(0,.agg (flat [sg (ByteArray.mk #[97]),sg empty,k3e,su 0,si 0,si 0]).toArray)]) (cells := #[.string ((ByteArray.mk #[97])),.string (empty),vb false,vu 0,vi 0,vi 0]) (E:=48) b c kr rfl kr kr rfl kr kr kr kr kr λcx κ a w b c=>?_)
 refine bd F λj cH F=>?_
 have bg:=c.segs 1 rfl
 refine wcg b (wcS 12 [1,2,5,8,10,11,12,13,14,15,16,17,0,3,4,6,7,9,18] b c (λc=>w8 N d.dc d.role d.epoch d.base d.txs d.m d.agreed d.owing d.st d.log d.co d.hi d.boxes d.cursor d.heard d.calls d.reads d.held d.loads d.last d.mv d.end_ d.floor d.floored d.seeded d.said d.out 3 5 [(jB.mk (ByteArray.mk #[97]) empty false 0 0 0)] [vi d.nodes] Z aa ab ad [.slice L d.modes.length O] P Q [.slice R d.old.length S] ca a8 cb a9 cc ba cd be ce cg ch ci cj cl cm cn cp cq cr cs bf (flat [si d.seedTo,si d.seeds,sl T d.cut.length U]) V W cu cv [.slice X d.replies.length Y] cx 1 G ((c.regr 0 [(false,25),(true,3),(false,7)] rfl).sbK [1,2,3,4,5,6,7,8,9,11,12,0]) cH) ?_)
 rintro _ κ w a ⟨aO,bh,aP,bi,aQ,bj,aR,bl,aS,cy,cz,aT,cA,cB,aU,aV,aW,cD,cE,aX,bm,aY,aZ,rfl,C⟩ b D
 have c:=((D _ _ C).unregrK 0 [(false,25),(true,3),(false,7)] (s':=[si d.dc,si d.nodes,si d.role,si d.epoch,si d.base,si j.2.1,sl Z d.m.Cuts.length aa,sl ab d.m.Nodes.length ad,sl L d.modes.length O,sl P d.agreed.length Q,sl R d.old.length S,sb j.2.2.1,sp aO,sp aP,sp aQ,su j.u4.2.2.1,k4d aR,ei 4 j.u8.1,ei 4 d.heard,sm aS,sm aT,sl aU j.u8.2.2.2.1.length aV,sm aW,su j.u8.u4.2.1,sp aX,si d.seedTo,si d.seeds,sl T d.cut.length U,sl V d.end_.length W,su d.floor,sb d.floored,sb j.u8.u4.2.2.2.1,sb j.u8.u8.1,sl aY j.u8.u8.2.length aZ,sl X d.replies.length Y]) bg rfl).cC (C':=[.box G 87 [si d.dc,si d.nodes,si d.role,si d.epoch,si d.base,si j.2.1,sl Z d.m.Cuts.length aa,sl ab d.m.Nodes.length ad,sl L d.modes.length O,sl P d.agreed.length Q,sl R d.old.length S,sb j.2.2.1,sp aO,sp aP,sp aQ,su j.u4.2.2.1,k4d aR,ei 4 j.u8.1,ei 4 d.heard,sm aS,sm aT,sl aU j.u8.2.2.2.1.length aV,sm aW,su j.u8.u4.2.1,sp aX,si d.seedTo,si d.seeds,sl T d.cut.length U,sl V d.end_.length W,su d.floor,sb d.floored,sb j.u8.u4.2.2.2.1,sb j.u8.u8.1,sl aY j.u8.u8.2.length aZ,sl X d.replies.length Y],k45 aU j.u8.2.2.2.1.length aV,k3j aY j.u8.u8.2.length aZ,.ext (ownX jM 4 P Q d.agreed),k31 aO bh j.2.2.2.1,k47 aP bi j.u4.1,k48 aQ bj j.u4.2.1,.ext (arrX j6 aR bl j.u4.2.2.2.1),mx aS cy cz,mx aT cA cB,mx aW cD cE,k3p aX bm j.u8.u4.2.2.1,.tok cx 48 6 ([(jB.mk (ByteArray.mk #[97]) empty false 0 0 0)]).length 1,k46 T d.cut.length U,k46 V d.end_.length W,k3n X d.replies.length Y,.ext (ownX (fInt .i64) 3 L O d.modes),.ext (ownX (fInt .i64) 3 R S d.old),.tok p4 3 1 x3.length c5])
 refine wp 2 [1,22] b λa b=>?_
 obtain ⟨cI,c⟩:=c.foldI (ck:=lZ) (fs:=lV) G (Z,aa,ab,ad,L,O,P,Q,R,S,aO,bh,aP,bi,aQ,bj,aR,bl,aS,cy,cz,aT,cA,cB,aU,aV,aW,cD,cE,aX,bm,T,U,V,W,aY,aZ,X,Y) (jV.mk d.dc d.nodes d.role d.epoch d.base j.2.1 d.m d.modes d.agreed d.old j.2.2.1 j.2.2.2.1 j.u4.1 j.u4.2.1 j.u4.2.2.1 j.u4.2.2.2.1 j.u8.1 d.heard j.u8.2.1 j.u8.2.2.1 j.u8.2.2.2.1 j.u8.u4.1 j.u8.u4.2.1 j.u8.u4.2.2.1 d.seedTo d.seeds d.cut d.end_ d.floor d.floored j.u8.u4.2.2.2.1 j.u8.u8.1 j.u8.u8.2 d.replies) [0,1,13,14,2,15,16,3,17,4,5,6,7,8,9,10,11] [12,18] [8,9,0,1,12,2,3,4,5,17,18,6,20] dc kr kr
 refine nl ?_
 cases F
 exact ⟨_,cI,b.kp [1,22],c.sp [0] [],ja⟩
 rintro a w ⟨κ,ae,b,c,-⟩
 cases A
 exact ⟨_,(some G),ae,b.kp [1,22],c.sp [0] [],ja⟩
 rintro a w ⟨κ,a6,a7,b,c,-⟩
 refine fC _ _ (bc b H (λhb H=>?_) λhb H=>?_)
 refine qr λ_ fD=>wp 1 [0] b λa b=>fD _ _ (rt ?_)
 cases H
 exact (j7 b c (l4 results14 (rvt b)) ⟨rfl,(c.pick [] kr).ro,c.newC [] dc kr⟩)
 refine sk (h9 _ _ (qs λ_ fE=>bd H λfF B H=>kL (λa w=>∃κ bn bo,Fr (63) [] [(1,.pointer (pa bn))] a∧SS [] K I κ w [ox l9 bn bo fF] []∧True) ?_ ?_))
 refine kY B (λho B=>?_) (λk ho B=>?_)
 obtain ⟨o,c⟩:=c.optN 0 rfl ho
 rw [o] at c
 try rw [o] at b
 refine rl (wp 2 [1,23,24] b λa b=>?_)
 have c:=c.add (m:=Ro.mp jG.ty none 0 ([]:List jB)) (Ro.nil jG.ty _ _)
 have c:=c.add (m:=Ro.mp (fInt .u64).ty none 0 ([]:List Int)) (Ro.nil (fInt .u64).ty _ _)
 refine bd B λfQ bC B=>wc (wcS 0 [0] b c (λc=>sL N 2 (jF.mk 11 1 0 9 empty empty ([]:List jB) ([]:List Int) (jU.mk 0 0 0 0 0 empty)) none 0 none 0 (c.sbK [1,0]) bC) ?_)
 rintro _ κ w a ⟨rfl,C⟩ b D
 have c:=D _ _ C
 refine nl ?_
 cases B
 exact ⟨_,none,[],b.kp [1],c.sp [0] [],ja⟩
 obtain ⟨bq,o,c⟩:=c.optS 0 rfl ho
 rw [o] at c
 try rw [o] at b
 obtain ⟨⟨fG,fH,fI,cJ,cK,cL,cM,cN,cO,cP,cQ,bD,cR,bE,cS,bF,cT,bG,cU,cV,cW,cX,cY,cZ,c0,c1,c2,c3,c4,c6,bH,c7,c8,c9,da,db,dd,de,df⟩,c⟩:=c.unfI (ck:=lZ) (fs:=lV) 0 rfl
 refine rl (wp 2 [1,23,24] b λa b=>?_)
 have c:=c.add (m:=Ro.mp jG.ty none 0 ([]:List jB)) (Ro.nil jG.ty _ _)
 have c:=c.add (m:=Ro.mp (fInt .u64).ty none 0 ([]:List Int)) (Ro.nil (fInt .u64).ty _ _)
 refine bd B λg bI B=>wc (wcS 17 (rg 17) b c (λc=>tD N k.dc k.nodes k.role k.epoch k.base k.txs k.m k.modes k.agreed k.old k.owing k.st k.log k.co k.hi k.boxes k.cursor k.heard k.calls k.reads k.held k.loads k.last k.mv k.seedTo k.seeds k.cut k.end_ k.floor k.floored k.seeded k.said k.out k.replies 2 (jF.mk 11 1 0 9 empty empty ([]:List jB) ([]:List Int) (jU.mk 0 0 0 0 0 empty)) fG fH fI cJ cK cL cM cN cO cP cQ bD cR bE cS bF cT bG cU cV cW cX cY cZ c0 c1 c2 c3 c4 c6 bH c7 c8 c9 da db dd de df none 0 none 0 bq (c.sbK [2,3,4,5,6,7,8,9,10,11,12,13,14,1,0]) bI) ?_)
 rintro _ κ w a ⟨dg,dh,di,dj,dk,dl,dm,dn,dp,dq,dr,bJ,ds,bK,dt,bL,du,bM,dv,dw,dx,dy,dz,dA,dB,dC,dD,dE,dF,dG,bN,dH,dI,dJ,dK,dL,dM,dN,dO,rfl,C⟩ b D
 have c:=D _ _ C
 refine nl ?_
 obtain ⟨bO,c⟩:=c.foldI (ck:=lZ) (fs:=lV) bq (dg,dh,di,dj,dk,dl,dm,dn,dp,dq,dr,bJ,ds,bK,dt,bL,du,bM,dv,dw,dx,dy,dz,dA,dB,dC,dD,dE,dF,dG,bN,dH,dI,dJ,dK,dL,dM,dN,dO) (jV.mk k.dc k.nodes g.1 g.2.1 g.2.2.1 g.2.2.2.1 g.u4.1 g.u4.2.1 g.u4.2.2.1 g.u4.2.2.2.1 g.u8.1 g.u8.2.1 g.u8.2.2.1 g.u8.2.2.2.1 g.u8.u4.1 g.u8.u4.2.1 g.u8.u4.2.2.1 g.u8.u4.2.2.2.1 g.u8.u8.1 g.u8.u8.2.1 g.u8.u8.2.2.1 g.u8.u8.2.2.2.1 g.u8.u8.u4.1 g.u8.u8.u4.2.1 g.u8.u8.u4.2.2.1 g.u8.u8.u4.2.2.2.1 g.u8.u8.u8.1 g.u8.u8.u8.2.1 g.u8.u8.u8.2.2.1 g.u8.u8.u8.2.2.2.1 g.u8.u8.u8.u4.1 g.u8.u8.u8.u4.2.1 g.u8.u8.u8.u4.2.2.1 g.u8.u8.u8.u4.2.2.2) (rg 17) [] (rg 13) dc kr kr
 cases B
 exact ⟨_,(some bq),bO,b.kp [1],c.sp [0] [],ja⟩
 rintro a w ⟨κ,bn,bo,b,c,-⟩
 refine fE _ _ (qs λ_ dP=>bd H λdR x H=>kL (λa w=>∃κ af a0,Fr (63) [] [(1,.pointer (pa af))] a∧SS [] K I κ w [ox l9 af a0 dR] []∧True) ?_ ?_)
 refine kY x (λho x=>?_) (λe ho x=>?_)
 obtain ⟨o,c⟩:=c.optN 0 rfl ho
 rw [o] at c
 try rw [o] at b
 refine rl (wp 2 [1,26,27] b λa b=>?_)
 have c:=c.add (m:=Ro.mp jG.ty none 0 ([]:List jB)) (Ro.nil jG.ty _ _)
 have c:=c.add (m:=Ro.mp (fInt .u64).ty none 0 ([]:List Int)) (Ro.nil (fInt .u64).ty _ _)
 refine bd x λfR bP x=>wc (wcS 0 [0] b c (λc=>sL N 2 (jF.mk 12 1 0 0 empty empty ([]:List jB) ([]:List Int) (jU.mk 0 0 0 0 0 empty)) none 0 none 0 (c.sbK [1,0]) bP) ?_)
 rintro _ κ w a ⟨rfl,C⟩ b D
 have c:=D _ _ C
 refine nl ?_
 cases x
 exact ⟨_,none,[],b.kp [1],c.sp [0] [],ja⟩
 obtain ⟨ah,o,c⟩:=c.optS 0 rfl ho
 rw [o] at c
 try rw [o] at b
 obtain ⟨⟨dS,dT,dU,dV,dW,dX,dY,dZ,d0,d1,d2,bQ,d3,bR,d4,bS,d5,bT,d6,d7,d8,d9,ea,ec,ed,ee,ef,eg,eh,ej,bU,ek,el,em,eo,ep,eq,er,es⟩,c⟩:=c.unfI (ck:=lZ) (fs:=lV) 0 rfl
 refine rl (wp 2 [1,26,27] b λa b=>?_)
 have c:=c.add (m:=Ro.mp jG.ty none 0 ([]:List jB)) (Ro.nil jG.ty _ _)
 have c:=c.add (m:=Ro.mp (fInt .u64).ty none 0 ([]:List Int)) (Ro.nil (fInt .u64).ty _ _)
 refine bd x λh bV x=>wc (wcS 17 (rg 17) b c (λc=>tD N e.dc e.nodes e.role e.epoch e.base e.txs e.m e.modes e.agreed e.old e.owing e.st e.log e.co e.hi e.boxes e.cursor e.heard e.calls e.reads e.held e.loads e.last e.mv e.seedTo e.seeds e.cut e.end_ e.floor e.floored e.seeded e.said e.out e.replies 2 (jF.mk 12 1 0 0 empty empty ([]:List jB) ([]:List Int) (jU.mk 0 0 0 0 0 empty)) dS dT dU dV dW dX dY dZ d0 d1 d2 bQ d3 bR d4 bS d5 bT d6 d7 d8 d9 ea ec ed ee ef eg eh ej bU ek el em eo ep eq er es none 0 none 0 ah (c.sbK [2,3,4,5,6,7,8,9,10,11,12,13,14,1,0]) bV) ?_)
 rintro _ κ w a ⟨et,eu,ew,ex,ey,ez,eA,eB,eC,eD,eE,bW,eF,bX,eG,bY,eH,bZ,eI,eJ,eK,eL,eM,eN,eO,eP,eQ,eR,eS,eT,b0,eU,eV,eW,eX,eY,eZ,e0,e1,rfl,C⟩ b D
 have c:=D _ _ C
 refine nl ?_
 obtain ⟨b1,c⟩:=c.foldI (ck:=lZ) (fs:=lV) ah (et,eu,ew,ex,ey,ez,eA,eB,eC,eD,eE,bW,eF,bX,eG,bY,eH,bZ,eI,eJ,eK,eL,eM,eN,eO,eP,eQ,eR,eS,eT,b0,eU,eV,eW,eX,eY,eZ,e0,e1) (jV.mk e.dc e.nodes h.1 h.2.1 h.2.2.1 h.2.2.2.1 h.u4.1 h.u4.2.1 h.u4.2.2.1 h.u4.2.2.2.1 h.u8.1 h.u8.2.1 h.u8.2.2.1 h.u8.2.2.2.1 h.u8.u4.1 h.u8.u4.2.1 h.u8.u4.2.2.1 h.u8.u4.2.2.2.1 h.u8.u8.1 h.u8.u8.2.1 h.u8.u8.2.2.1 h.u8.u8.2.2.2.1 h.u8.u8.u4.1 h.u8.u8.u4.2.1 h.u8.u8.u4.2.2.1 h.u8.u8.u4.2.2.2.1 h.u8.u8.u8.1 h.u8.u8.u8.2.1 h.u8.u8.u8.2.2.1 h.u8.u8.u8.2.2.2.1 h.u8.u8.u8.u4.1 h.u8.u8.u8.u4.2.1 h.u8.u8.u8.u4.2.2.1 h.u8.u8.u8.u4.2.2.2) (rg 17) [] (rg 13) dc kr kr
 cases x
 exact ⟨_,(some ah),b1,b.kp [1],c.sp [0] [],ja⟩
 rintro a w ⟨κ,af,a0,b,c,-⟩
 refine dP _ _ (qs λ_ e2=>bd H λu y H=>kL (λa w=>∃κ q s,Fr (63) [] [k43 q u.length s] a∧SS [] K I κ w [.tok q 52 13 u.length s] [Ro.mp kK.ty q s u]∧True) ?_ ?_)
 refine kY y (λho y=>?_) (λf ho y=>?_)
 obtain ⟨o,c⟩:=c.optN 0 rfl ho
 rw [o] at c
 try rw [o] at b
 refine rl (wp 1 [29] b λa b=>bd y λfS b2 y=>wc (wcS 0 [0] b c (λc=>tR N (c.sbK []) b2) ?_))
 rintro _ κ w a ⟨e3,e4,rfl,C⟩ b D
 have c:=D _ _ C
 refine wp 1 [3] b λa b=>nl ?_
 cases y
 exact ⟨_,e3,e4,b.kp [3],c.sp [0] [0],ja⟩
 obtain ⟨br,o,c⟩:=c.optS 0 rfl ho
 rw [o] at c
 try rw [o] at b
 obtain ⟨⟨ai,aj,ak,al,am,an,ao,aq,ar,au,av,b3,aw,b4,ax,b5,ay,b6,az,e5,e6,aA,e7,e8,aB,aD,aE,e9,fa,aF,b7,aG,aH,aI,aJ,aL,aM,fb,fc⟩,c⟩:=c.unfI (ck:=lZ) (fs:=lV) 0 rfl
 refine rl (wp 1 [29] b λa b=>bd y λbt b8 y=>?_)
 have a5:=c.segs 0 rfl
 refine wc (wcS 2 [0,5,1,2,3,4,6,7,8,9,10,11,12,13,14,15,16] b c (λc=>vJ N f.replies (flat (k2r f ai aj ak al am an ao aq ar au av aw ax ay az aA aB aD aE aF aG aH aI aJ aL aM)) fb fc br ((c.regr 0 [(true,34),(false,1)] rfl).sbK [12]) b8) ?_)
 rintro _ κ w a ⟨fd,fe,bu,bw,rfl,C⟩ b D
 have c:=(D _ _ C).unregrK 0 [(true,34),(false,1)] (s':=k2s f ai aj ak al am an ao aq ar au av aw ax ay az aA aB aD aE aF aG aH aI aJ aL aM bu bt.2.length bw) a5 rfl
 refine wp 1 [3] b λa b=>nl ?_
 obtain ⟨fJ,c⟩:=c.foldI (ck:=lZ) (fs:=lV) br (ai,aj,ak,al,am,an,ao,aq,ar,au,av,b3,aw,b4,ax,b5,ay,b6,az,e5,e6,aA,e7,e8,aB,aD,aE,e9,fa,aF,b7,aG,aH,aI,aJ,aL,aM,bu,bw) (jV.mk f.dc f.nodes f.role f.epoch f.base f.txs f.m f.modes f.agreed f.old f.owing f.st f.log f.co f.hi f.boxes f.cursor f.heard f.calls f.reads f.held f.loads f.last f.mv f.seedTo f.seeds f.cut f.end_ f.floor f.floored f.seeded f.said f.out bt.2) [0,3,4,5,6,1,7,8,9,10,11,12,13,14,15,16,17] [2] [2,3,4,5,6,7,8,9,10,11,12,13,1] dc kr kr
 cases y
 exact ⟨_,fd,fe,b.kp [3],c.sp [1] [0],ja⟩
 rintro a w ⟨κ,q,s,b,c,-⟩
 refine e2 _ _ (qr λ_ fg=>bd H λfh i H=>k8 (λa w=>∃κ,Fr (63) [] [(0,vb fh)] a∧SS [] K I κ w [] []∧True) ?_ ?_)
 refine wp 4 [3,34] b λa b=>bs i (λhb i=>?_) λhb i=>?_
 have b:=b.bv 34 hb
 refine jE (L':=[k43 q u.length s,(34,vb true),(35,.slice q u.length s)]) 1 [3,34,35] b kr λa b=>bd i λfi a1 i=>wcg b (kR b c kr 0 (E:=52) (sz:=13) rfl rfl rfl kr rfl a1 kr kr λfj fk a bx b=>jE (L':=[k43 q u.length s,(34,vb true),(37,.pointer (some ⟨fj,(fk+toNat 0*13)+1,none⟩))]) 1 [3,34,37] b kr λa b=>wcg b (mH (t:=kK) b c kr 0 1 (v:=vi fi.Kind) rfl rfl bx rfl a1 kr kr kr λa b=>wp 3 [3,41] b λa b=>bs i (λhb i=>?_) λhb i=>?_))
 have b:=b.bv 41 hb
 refine jE (L':=[k43 q u.length s,(41,vb true),(42,.slice q u.length s)]) 1 [3,41,42] b kr λa b=>bd i λfl a2 i=>wcg b (kR b c kr 0 (E:=52) (sz:=13) rfl rfl rfl kr rfl a2 kr kr λfm fn a bz b=>jE (L':=[k43 q u.length s,(41,vb true),(45,.pointer (some ⟨fm,(fn+toNat 0*13)+10,none⟩))]) 2 [3,41,45] b kr λa b=>wcg b (mH (t:=kK) b c kr 0 10 (v:=vu fl.Mark.TS) rfl rfl bz rfl a2 kr kr kr λa b=>wp 3 [3,49] b λa b=>bs i (λhb i=>?_) λhb i=>?_))
 have b:=b.bv 49 hb
 refine jE (L':=[k43 q u.length s,(49,vb true),(50,.slice q u.length s)]) 1 [3,49,50] b kr λa b=>bd i λfo a3 i=>wcg b (kR b c kr 0 (E:=52) (sz:=13) rfl rfl rfl kr rfl a3 kr kr λfp fq a bA b=>jE (L':=[k43 q u.length s,(49,vb true),(52,.pointer (some ⟨fp,(fq+toNat 1*13)+1,none⟩))]) 1 [3,49,52] b kr λa b=>wcg b (mH (t:=kK) b c kr 0 1 (v:=vi fo.Kind) rfl rfl bA rfl a3 kr kr kr λa b=>wp 3 [3,56] b λa b=>bs i (λhb i=>?_) λhb i=>?_))
 have b:=b.bv 56 hb
 refine jE (L':=[(56,vb true),(57,.slice q u.length s)]) 1 [56,57] b kr λa b=>bd i λfr a4 i=>wcg b (kR b c kr 0 (E:=52) (sz:=13) rfl rfl rfl kr rfl a4 kr kr λft fu a bB b=>jE (L':=[(56,vb true),(59,.pointer (some ⟨ft,(fu+toNat 1*13),none⟩))]) 1 [56,59] b kr λa b=>wcg b (mH (t:=kK) b c kr 0 0 (v:=vi fr.Call) rfl rfl bB rfl a4 kr kr kr λa b=>wp 3 [0] b λa b=>nl ?_))
 cases i
 exact ⟨_,b.kp [0],c.sp [] [],ja⟩
 have b:=b.bv 56 hb
 refine wp 7 [0] b λa b=>nl ?_
 cases i
 exact ⟨_,b.kp [0],c.sp [] [],ja⟩
 have b:=b.bv 49 hb
 refine wp 14 [0] b λa b=>nl ?_
 cases i
 exact ⟨_,b.kp [0],c.sp [] [],ja⟩
 have b:=b.bv 41 hb
 refine wp 22 [0] b λa b=>nl ?_
 cases i
 exact ⟨_,b.kp [0],c.sp [] [],ja⟩
 have b:=b.bv 34 hb
 refine wp 29 [0] b λa b=>nl ?_
 cases i
 exact ⟨_,b.kp [0],c.sp [] [],ja⟩
 rintro a w ⟨κ,b,c,-⟩
 refine fg _ _ (rt ?_)
 cases H
 exact (j7 b c (l4 results14 (rvt b)) ⟨rfl,(c.pick [] kr).ro,c.newC [] dc kr⟩)
end Go.Cf
