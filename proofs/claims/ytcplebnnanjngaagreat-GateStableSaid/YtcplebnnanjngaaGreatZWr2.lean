/- The walks: each function returns what its model says. Printed by a program of ours. -/
import Derived.Test.YtcplebnnanjngaaGreatZSh
import Derived.Test.YtcplebnnanjngaaGreatZM1
import Derived.Test.YtcplebnnanjngaaGreatZWg8
import Derived.Test.YtcplebnnanjngaaGreatZWg9
namespace Go.Cf
open Go Go.Proofs
open _root_.Int(toNat tdiv tmod)
open _root_.List(set replicate)
open _root_.ByteArray(empty)
open Go.IntKind(i64 u64)
set_option linter.unusedVariables false
set_option maxRecDepth 20000
set_option maxHeartbeats 8000000
theorem G8 (N){Ms}{κ0}{w0}(a1)(a2)(a3)(a4)(a5)(a6)(y:jA)(A:(List Int))(B:(List Bool))(C:(List Int))(R)(aH)(aR)(aI)(ah)(aS)(J)(D)(aJ)(aL)(S:(List j3))(aT)(ai)(aM)(K)(L)(E:(List Int))(F:(List Int))(O)(P)(U)(V)(aj:(List i9))(G:(List jM))(c:kP)(p8)(c9)(g)(h)(i)(j)(k)(l)(m)(n)(am)(aa)(Q)(ab)(an)(ad)(x)(ae)(W)(av)(aw)(X)(ax)(ay)(Y)(Z)(I)(az)(aA)(ao)(af)(o)(p)(q)(s)(aB)(aD)(t)(u)(bJ)(bK)(bL)(bM)(b9)(ca)(aq)(hB:SB Ms κ0 w0 (k1v aq a1 a2 a3 a4 a5 a6 p8 (y.Cuts).length c9 g (y.Nodes).length h i A.length j k B.length l m C.length n R am Q an ah x J D W X Y S.length Z I ai ao K L o E.length p q F.length s O P U V aB aj.length aD t G.length u (ownX (fInt .i64) 3 i j A) (ownX jN 4 k l B) (ownX (fInt .i64) 3 m n C) aa aH ab aR ad aI (arrX j6 x ae aS) av aw ax ay az aA af aM) [k2l p8 c9 y.Cuts,k2m g h y.Nodes,(ml x 4),(ml J 4),(ml D 4),k3h W av aw aJ,k3i X ax ay aL,k3j Y Z S,k3k I az aA aT,k2v o p E,k2v q s F,k2t aB aD aj,k2x t u G,k2u bJ bK c.Msg.Vers,k2v bL bM c.Msg.Vec,k2u b9 ca c.Writes]){r}(H:M.wH N a1 a2 a3 a4 a5 a6 y A B C R aH aR aI ah aS J D aJ aL S aT ai aM K L E F O P U V aj G c=some r) :
    Calls Tryz.prog 12 #[pt aq 0,.agg (flat (k23 c.Kind c.From c.Call c.Msg.Kind c.Msg.Id c.Msg.N c.Msg.TS c.Msg.Lo c.Msg.Hi bJ (c.Msg.Vers).length bK bL (c.Msg.Vec).length bM c.Msg.Cmd.Kind c.Msg.Cmd.DC c.Msg.Cmd.Shard c.Msg.Cmd.Node c.Msg.Cmd.Mode c.Msg.Cmd.Key c.Key c.T b9 (c.Writes).length ca)).toArray] w0 (kQ Ms κ0 w0 λv κ w => ∃cu cv cw cx cy cz cA cB cD cE dY dv dZ dw d0 dx bN dy cF cG cH cI cJ cK cL cM cN cO cP d1 dz cQ cR cS cT cU cV cW cX,v=vi r.1∧SS Ms κ0 w0 κ w (k1v aq a1 a2 r.2.1 r.2.2.1 r.2.2.2.1 r.u4.1 cu (r.u4.2.1.Cuts).length cv cw (r.u4.2.1.Nodes).length cx cy (r.u4.2.2.1).length cz cA (r.u4.2.2.2.1).length cB cD (r.u8.1).length cE r.u8.2.1 dY dZ d0 r.u8.u4.2.1 bN r.u8.u4.2.2.2.1 r.u8.u8.1 cF cI cL (r.u8.u8.2.2.2.1).length cM cN r.u8.u8.u4.2.1 d1 r.u8.u8.u4.2.2.2.1 r.u8.u8.u8.1 cQ (r.u8.u8.u8.2.1).length cR cS (r.u8.u8.u8.2.2.1).length cT r.u8.u8.u8.2.2.2.1 r.u8.u8.u8.u4.1 r.u8.u8.u8.u4.2.1 r.u8.u8.u8.u4.2.2.1 cU (r.u8.u8.u8.u4.2.2.2.1).length cV cW (r.u8.u8.u8.u8).length cX (ownX (fInt .i64) 3 cy cz r.u4.2.2.1) (ownX jN 4 cA cB r.u4.2.2.2.1) (ownX (fInt .i64) 3 cD cE r.u8.1) dv r.u8.2.2.1 dw r.u8.2.2.2.1 dx r.u8.u4.1 (arrX j6 bN dy r.u8.u4.2.2.1) cG cH cJ cK cO cP dz r.u8.u8.u4.2.2.1) (k1x cu cv r.u4.2.1.Cuts cw cx r.u4.2.1.Nodes (ml bN 4) (ml r.u8.u4.2.2.2.1 4) (ml r.u8.u8.1 4) cF cG cH r.u8.u8.2.1 cI cJ cK r.u8.u8.2.2.1 cL cM r.u8.u8.2.2.2.1 cN cO cP r.u8.u8.u4.1 cQ cR r.u8.u8.u8.2.1 cS cT r.u8.u8.u8.2.2.1 cU cV r.u8.u8.u8.u4.2.2.2.1 cW cX r.u8.u8.u8.u8)):=by
 have f:=hB.hS
 have fA:=f.fresh
 refine en Tryz.func12 rfl Tryz.ntmps12 λa b=>?_
 unfold M.wH at H
 refine qr λ_ fz=>wc (wbx b f (k23 c.Kind c.From c.Call c.Msg.Kind c.Msg.Id c.Msg.N c.Msg.TS c.Msg.Lo c.Msg.Hi bJ (c.Msg.Vers).length bK bL (c.Msg.Vec).length bM c.Msg.Cmd.Kind c.Msg.Cmd.DC c.Msg.Cmd.Shard c.Msg.Cmd.Node c.Msg.Cmd.Mode c.Msg.Cmd.Key c.Key c.T b9 (c.Writes).length ca) (sgN 20 jE) λfB a w b f=>?_)
 refine wp 1 [0,3] b λa b=>fz _ _ (m9 (λa w => ∃κ cY cZ c0 c1,∃cb:List ByteArray,∃cc cd,∃ce:List Int,∃cg ch ci cj,∃cl:List Int,∃cm cn,∃co:List Bool,∃aV aW,∃aX:List Int,∃bO bP aY bQ bR aZ bS bT a0 bU bV aP a8 bW a9 ba be bf bg bX bh bi bj bY,∃bl:List j3,∃bm bn bo bq br bZ b0 b1 bt b2 b3 b4,∃bu:List Int,∃bw bx,∃bz:List Int,∃bA bB b5 b6 b7 b8,∃bC:List i9,∃bD bE,∃bF:List jM,∃bG bH,Fr (47) [] [] a∧SS Ms κ0 w0 κ w (k1v aq a1 a2 cY cZ c0 c1 cc cb.length cd cg ce.length ch ci cl.length cj cm co.length cn aV aX.length aW bO bP bR bT bV aP a9 ba be bh bm bl.length bn bo b0 b1 b3 b4 bw bu.length bx bA bz.length bB b5 b6 b7 b8 bD bC.length bE bG bF.length bH (ownX (fInt .i64) 3 ci cj cl) (ownX jN 4 cm cn co) (ownX (fInt .i64) 3 aV aW aX) aY bQ aZ bS a0 bU (arrX j6 aP a8 bW) bf bg bi bj bq br bt b2) (k1x cc cd cb cg ch ce (ml aP 4) (ml a9 4) (ml ba 4) be bf bg bX bh bi bj bY bm bn bl bo bq br bZ bw bx bu bA bB bz bD bE bC bG bH bF)∧M.rT N a1 a2 cY cZ c0 c1 cb ce cl co aX bO bQ bS bU bV bW a9 ba bX bY bl bZ b0 b2 b3 b4 bu bz b5 b6 b7 b8 bC bF=some r) ?_ ?_)
 refine qr λ_ d2=>wp 1 [0,3,5] b λa b=>wc (wld b f 0 0 0 λa b=>d2 _ _ (bk (qr λ_ d3=>wp 2 [0,3,6,7] b λa b=>d3 _ _ (bc b H (λhb H=>?_) λhb H=>?_))))
 refine rl (wp 2 [3,9,10] b λa b=>wc (wld b f 0 1 0 λa b=>wp 1 [9,11,12] b λa b=>wc (wls b f 0 3 14 λa b=>bd H λd dA H=>wc (wcS 17 [1,2,3,4,5,6,7,8,9,10,11,12,13,14,15,16,17,0] b f (λf=>t6 N a1 a2 a3 a4 a5 a6 y A B C R aH aR aI ah aS J D aJ aL S aT ai aM K L E F O P U V aj G c.From c.Msg p8 c9 g h i j k l m n am aa Q ab an ad x ae W av aw X ax ay Y Z I az aA ao af o p q s aB aD t u bJ bK bL bM aq (f.sbK (rg 15)) dA) ?_))))
 rintro _ κ w a ⟨d4,d5,d6,d7,d8,d9,ea,ec,ed,ee,ef,dB,eg,dC,eh,dD,ej,dE,ek,el,em,eo,ep,eq,er,es,et,eu,ew,ex,dF,ey,ez,eA,eB,eC,eD,eE,eF,rfl,h2⟩ b hB
 have f:=hB _ _ h2
 refine nl ?_
 exact ⟨_,d.1,d.2.1,d.2.2.1,d.2.2.2.1,d.u4.1.Cuts,d4,d5,d.u4.1.Nodes,d6,d7,d8,d9,d.u4.2.1,ea,ec,d.u4.2.2.1,ed,ee,d.u4.2.2.2.1,d.u8.1,ef,dB,d.u8.2.1,eg,dC,d.u8.2.2.1,eh,dD,d.u8.2.2.2.1,d.u8.u4.1,ej,dE,d.u8.u4.2.1,d.u8.u4.2.2.1,d.u8.u4.2.2.2.1,ek,el,em,d.u8.u8.1,eo,ep,eq,d.u8.u8.2.1,d.u8.u8.2.2.1,er,es,et,eu,ew,d.u8.u8.2.2.2.1,d.u8.u8.u4.1,ex,dF,d.u8.u8.u4.2.1,d.u8.u8.u4.2.2.1,d.u8.u8.u4.2.2.2.1,d.u8.u8.u8.1,ey,ez,d.u8.u8.u8.2.1,eA,eB,d.u8.u8.u8.2.2.1,d.u8.u8.u8.2.2.2.1,d.u8.u8.u8.u4.1,d.u8.u8.u8.u4.2.1,d.u8.u8.u8.u4.2.2.1,eC,eD,d.u8.u8.u8.u4.2.2.2,eE,eF,b.kp [],f.sp (rg 17) (rg 13),H⟩
 refine qr λ_ eG=>wp 2 [0,3,6,15] b λa b=>eG _ _ (bc b H (λhb H=>?_) λhb H=>?_)
 refine rl (wp 2 [3,17,18] b λa b=>wc (wld b f 0 1 0 λa b=>wp 1 [17,19,20] b λa b=>wc (wls b f 0 3 14 λa b=>bd H λe dG H=>wc (wcS 17 [1,2,3,4,5,6,7,8,9,10,11,12,13,14,15,16,17,0] b f (λf=>AF N a1 a2 a3 a4 a5 a6 y A B C R aH aR aI ah aS J D aJ aL S aT ai aM K L E F O P U V aj G c.From c.Msg p8 c9 g h i j k l m n am aa Q ab an ad x ae W av aw X ax ay Y Z I az aA ao af o p q s aB aD t u bJ bK bL bM aq (f.sbK (rg 15)) dG) ?_))))
 rintro _ κ w a ⟨eH,eI,eJ,eK,eL,eM,eN,eO,eP,eQ,eR,dH,eS,dI,eT,dJ,eU,dK,eV,eW,eX,eY,eZ,e0,e1,e2,e3,e4,e5,e6,dL,e7,e8,e9,fa,fb,fc,fd,fe,rfl,h2⟩ b hB
 have f:=hB _ _ h2
 refine nl ?_
 exact ⟨_,e.1,e.2.1,e.2.2.1,e.2.2.2.1,e.u4.1.Cuts,eH,eI,e.u4.1.Nodes,eJ,eK,eL,eM,e.u4.2.1,eN,eO,e.u4.2.2.1,eP,eQ,e.u4.2.2.2.1,e.u8.1,eR,dH,e.u8.2.1,eS,dI,e.u8.2.2.1,eT,dJ,e.u8.2.2.2.1,e.u8.u4.1,eU,dK,e.u8.u4.2.1,e.u8.u4.2.2.1,e.u8.u4.2.2.2.1,eV,eW,eX,e.u8.u8.1,eY,eZ,e0,e.u8.u8.2.1,e.u8.u8.2.2.1,e1,e2,e3,e4,e5,e.u8.u8.2.2.2.1,e.u8.u8.u4.1,e6,dL,e.u8.u8.u4.2.1,e.u8.u8.u4.2.2.1,e.u8.u8.u4.2.2.2.1,e.u8.u8.u8.1,e7,e8,e.u8.u8.u8.2.1,e9,fa,e.u8.u8.u8.2.2.1,e.u8.u8.u8.2.2.2.1,e.u8.u8.u8.u4.1,e.u8.u8.u8.u4.2.1,e.u8.u8.u8.u4.2.2.1,fb,fc,e.u8.u8.u8.u4.2.2.2,fd,fe,b.kp [],f.sp (rg 17) (rg 13),H⟩
 refine qr λ_ fg=>wp 2 [0,3,6,23] b λa b=>fg _ _ (bc b H (λhb H=>?_) λhb H=>?_)
 refine qr λ_ fh=>wp 2 [3,25,26] b λa b=>wc (wld b f 0 2 0 λa b=>wp 1 [3,25,27,28] b λa b=>wc (wld b f 0 17 0 λa b=>wp 1 [25,27,29,30] b λa b=>wc (wld b f 0 18 0 λa b=>bd H λaQ dM H=>?_)))
 have cp:=f.segs 1 rfl
 refine wc (wcS 7 [1,2,5,12,14,15,17,0,3,4,6,7,8,9,10,11,13,16] b f (λf=>AE N a1 a3 a5 a6 y aI ah aJ aL S ai aM aj c.Call c.Key c.T [vi a2] [vi a4] p8 c9 g h (flat [sl i A.length j,sl k B.length l,sl m C.length n,sb R,sp am,sp Q]) an ad (flat [k3l x,ei 4 J,ei 4 D]) W av aw X ax ay Y Z [.map I] ao af (flat [si K,si L,sl o E.length p,sl q F.length s,su O,sb P,sb U,sb V]) aB aD [.slice t G.length u] aq ((f.regr 0 [(false,8),(true,6),(false,2),(true,3),(false,6),(true,8),(false,2)] rfl).sbK [0,1,5,6,7,11]) dM) ?_)
 rintro _ κ w a ⟨c2,dN,c3,fi,fj,c4,fk,fl,c5,c6,c7,dO,c8,da,rfl,h2⟩ b hB
 have f:=(hB _ _ h2).unregrK 0 [(false,8),(true,6),(false,2),(true,3),(false,6),(true,8),(false,2)] (s':=k1z a1 a2 a3 a4 a5 aQ.2.1 p8 (y.Cuts).length c9 g (y.Nodes).length h i A.length j k B.length l m C.length n R am Q c2 aQ.2.2.2.1 x J D c3 c4 c5 (aQ.u4.2.2.1).length c6 I aQ.u4.2.2.2.1 c7 K L o E.length p q F.length s O P U V c8 (aQ.u8.2).length da t G.length u) cp rfl
 refine wp 1 [4] b λa b=>fh _ _ (rt ?_)
 cases H
 exact j7 b f (l3 Tryz.results12 (rvt b)) ⟨p8,c9,g,h,i,j,k,l,m,n,am,aa,Q,ab,c2,dN,x,ae,c3,fi,fj,c4,fk,fl,c5,c6,I,az,aA,c7,dO,o,p,q,s,c8,da,t,u,rfl,f.sp [0,1,8,9,2,10,11,12,13,14,15,3,16,4,5,17,6] [4,5,6,7,8,0,1,2,12,13,14,3,16]⟩
 refine qr λ_ fm=>wp 2 [0,3,6,33] b λa b=>fm _ _ (bc b H (λhb H=>?_) λhb H=>?_)
 refine qr λ_ fn=>wp 2 [3,35,36] b λa b=>wc (wld b f 0 2 0 λa b=>wp 1 [3,35,37,38] b λa b=>wc (wld b f 0 18 0 λa b=>wp 1 [35,37,39,40] b λa b=>wc (wld b f 0 19 0 λa b=>bd H λz dP H=>?_)))
 have cq:=f.segs 1 rfl
 refine wc (wcS 12 [1,2,5,8,10,11,12,13,14,15,16,17,0,3,4,6,7,9] b f (λf=>vS N a1 a3 a4 a5 a6 y B R aH aR aI ah aS J D aJ aL S aT ai aM F O P U V aj c.Call c.T c.Writes [vi a2] p8 c9 g h [.slice i A.length j] k l [.slice m C.length n] am aa Q ab an ad x ae W av aw X ax ay Y Z I az aA ao af (flat [si K,si L,sl o E.length p]) q s aB aD [.slice t G.length u] b9 ca aq ((f.regr 0 [(false,25),(true,3),(false,7)] rfl).sbK [0,1,2,3,4,5,6,7,8,10,11,15]) dP) ?_)
 rintro _ κ w a ⟨db,dR,dd,dS,de,dT,df,dU,dg,fo,fp,dh,fq,fr,di,dj,dk,fs,ft,dl,dV,dm,dn,rfl,h2⟩ b hB
 have f:=(hB _ _ h2).unregrK 0 [(false,25),(true,3),(false,7)] (s':=k1z a1 a2 a3 a4 a5 z.2.1 p8 (y.Cuts).length c9 g (y.Nodes).length h i A.length j k B.length l m C.length n z.2.2.1 db dd de z.u4.2.2.1 df z.u8.1 D dg dh di (z.u8.2.2.2.1).length dj dk z.u8.u4.2.1 dl K L o E.length p q F.length s O P z.u8.u4.2.2.2.1 z.u8.u8.1 dm (z.u8.u8.2).length dn t G.length u) cq rfl
 refine wp 1 [4] b λa b=>fn _ _ (rt ?_)
 cases H
 exact j7 b f (l3 Tryz.results12 (rvt b)) ⟨p8,c9,g,h,i,j,k,l,m,n,db,dR,dd,dS,de,dT,df,dU,dg,fo,fp,dh,fq,fr,di,dj,dk,fs,ft,dl,dV,o,p,q,s,dm,dn,t,u,rfl,f.sp [0,1,13,14,2,15,16,3,17,4,5,6,7,8,9,10,11] [7,8,0,1,11,2,3,4,5,16,17,6,19]⟩
 refine qr λ_ fu=>wp 2 [0,43] b λa b=>fu _ _ (bc b H (λhb H=>?_) λhb H=>?_)
 refine qr λ_ fv=>wp 1 [45] b λa b=>bd H λfw dW H=>?_
 have cr:=f.segs 1 rfl
 refine wc (wcS 3 [1,5,10,0,2,3,4,6,7,8,9,11,12,13,14,15,16,17] b f (λf=>AD N a1 a2 a3 aH aj (flat [si a4,si a5,si a6,sl p8 (y.Cuts).length c9,sl g (y.Nodes).length h,sl i A.length j,sl k B.length l,sl m C.length n,sb R]) am aa (flat [sp Q,sp an,su ah,k3l x,ei 4 J,ei 4 D,sm W,sm X,sl Y S.length Z,sm I,su ai,sp ao,si K,si L,sl o E.length p,sl q F.length s,su O,sb P,sb U,sb V]) aB aD [.slice t G.length u] aq ((f.regr 0 [(false,3),(true,9),(false,1),(true,20),(false,2)] rfl).sbK [11]) dW) ?_)
 rintro _ κ w a ⟨dp,dX,dq,dr,rfl,h2⟩ b hB
 have f:=(hB _ _ h2).unregrK 0 [(false,3),(true,9),(false,1),(true,20),(false,2)] (s':=k1z a1 a2 a3 a4 a5 a6 p8 (y.Cuts).length c9 g (y.Nodes).length h i A.length j k B.length l m C.length n R dp Q an ah x J D W X Y S.length Z I ai ao K L o E.length p q F.length s O P U V dq (fw.2.2).length dr t G.length u) cr rfl
 refine wp 1 [4] b λa b=>fv _ _ (rt ?_)
 cases H
 exact j7 b f (l3 Tryz.results12 (rvt b)) ⟨p8,c9,g,h,i,j,k,l,m,n,dp,dX,Q,ab,an,ad,x,ae,W,av,aw,X,ax,ay,Y,Z,I,az,aA,ao,af,o,p,q,s,dq,dr,t,u,rfl,f.sp [0,4,5,6,1,7,8,9,10,2,11,12,13,14,15,16,17] [1,2,3,4,5,6,7,8,9,10,11,0,13]⟩
 refine sk ?_
 exact ⟨_,a3,a4,a5,a6,y.Cuts,p8,c9,y.Nodes,g,h,i,j,A,k,l,B,m,n,C,R,am,aa,aH,Q,ab,aR,an,ad,aI,ah,x,ae,aS,J,D,W,av,aw,aJ,X,ax,ay,aL,S,Y,Z,I,az,aA,aT,ai,ao,af,aM,K,L,E,o,p,F,q,s,O,P,U,V,aj,aB,aD,G,t,u,b.kp [],f.sp (ra 1 17) (rg 13),H⟩
 rintro a w ⟨κ,cY,cZ,c0,c1,cb,cc,cd,ce,cg,ch,ci,cj,cl,cm,cn,co,aV,aW,aX,bO,bP,aY,bQ,bR,aZ,bS,bT,a0,bU,bV,aP,a8,bW,a9,ba,be,bf,bg,bX,bh,bi,bj,bY,bl,bm,bn,bo,bq,br,bZ,b0,b1,bt,b2,b3,b4,bu,bw,bx,bz,bA,bB,b5,b6,b7,b8,bC,bD,bE,bF,bG,bH,b,f,H⟩
 unfold M.rT at H
 refine qr λ_ fy=>wp 1 [4] b λa b=>fy _ _ (rt ?_)
 cases H
 exact j7 b f (l3 Tryz.results12 (rvt b)) ⟨cc,cd,cg,ch,ci,cj,cm,cn,aV,aW,bP,aY,bR,aZ,bT,a0,aP,a8,be,bf,bg,bh,bi,bj,bm,bn,bo,bq,br,b1,bt,bw,bx,bA,bB,bD,bE,bG,bH,rfl,f.sp (rg 17) (rg 13)⟩
end Go.Cf
