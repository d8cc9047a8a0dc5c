/- The walks: each function returns what its model says. Printed by a program of ours. -/
import Derived.Test.YtcplebnnanjngaaGreatZSh
import Derived.Test.YtcplebnnanjngaaGreatZM1
import Derived.Test.YtcplebnnanjngaaGreatZWg8
import Derived.Test.YtcplebnnanjngaaGreatZWg9
namespace Go.Cf
open Go Go.Proofs Tryz
open _root_.Int(toNat tdiv tmod)
open _root_.List(set replicate)
open _root_.ByteArray(empty)
open Go.IntKind(i64 u64)
set_option linter.unusedVariables false
set_option maxRecDepth 20000
set_option maxHeartbeats 8000000
theorem H3 (N){Ms}{κ0}{w0}(a1)(a2)(a3)(a4)(a5)(a6)(Z:j5)(z:(List Int))(A:(List Bool))(B:(List Int))(Q)(aH)(aR)(aI)(ah)(aS)(I)(C)(aJ)(aL)(R:(List i8))(aT)(ai)(aM)(J)(K)(D:(List Int))(E:(List Int))(L)(O)(S)(U)(aj:(List i9))(F:(List jL))(f:kG)(p8)(c9)(g)(h)(i)(j)(k)(l)(m)(n)(am)(aa)(P)(ab)(an)(ad)(x)(ae)(V)(av)(aw)(W)(ax)(ay)(X)(Y)(G)(az)(aA)(ao)(af)(o)(p)(q)(s)(aB)(aD)(t)(u)(bJ)(bK)(bL)(bM)(b9)(ca)(aq)(hB:SB Ms κ0 w0 (k2g aq a1 a2 a3 a4 a5 a6 p8 Z c9 g h i z.length j k A.length l m B.length n Q am P an ah x I C V W X R.length Y G ai ao J K o D.length p q E.length s L O S U aB aj.length aD t F.length u (ownX (fInt .i64) 3 i j z) (ownX jM 4 k l A) (ownX (fInt .i64) 3 m n B) aa aH ab aR ad aI (arrX j6 x ae aS) av aw ax ay az aA af aM) [k3a p8 c9 Z.Cuts,k3b g h Z.Nodes,(ml x 4),(ml I 4),(ml C 4),k49 V av aw aJ,k4a W ax ay aL,k4b X Y R,k4c G az aA aT,k3m o p D,k3m q s E,k3k aB aD aj,k3o t u F,k3l bJ bK f.Msg.Vers,k3m bL bM f.Msg.Vec,k3l b9 ca f.Writes]){r}(H:M.wR N a1 a2 a3 a4 a5 a6 Z z A B Q aH aR aI ah aS I C aJ aL R aT ai aM J K D E L O S U aj F f=some r) :
    Calls Tryz.prog 12 #[pt aq 0,.agg (flat (k2p f bJ bK bL bM b9 ca)).toArray] w0 (kP Ms κ0 w0 λv κ w=>∃cu cv cw cx cy cz cA cB cD cE dY dv dZ dw d0 dx bN dy cF cG cH cI cJ cK cL cM cN cO cP d1 dz cQ cR cS cT cU cV cW cX,v=vi r.1∧SS Ms κ0 w0 κ w (k2i aq a1 a2 r.2.1 r.2.2.1 r.2.2.2.1 r.u4.1 cu r.u4.2.1.Cuts.length cv cw r.u4.2.1.Nodes.length cx cy r.u4.2.2.1.length cz cA r.u4.2.2.2.1.length cB cD r.u8.1.length cE r.u8.2.1 dY dZ d0 r.u8.u4.2.1 bN r.u8.u4.2.2.2.1 r.u8.u8.1 cF cI cL r.u8.u8.2.2.2.1.length cM cN r.u8.u8.u4.2.1 d1 r.u8.u8.u4.2.2.2.1 r.u8.u8.u8.1 cQ r.u8.u8.u8.2.1.length cR cS r.u8.u8.u8.2.2.1.length cT r.u8.u8.u8.2.2.2.1 r.u8.u8.u8.u4.1 r.u8.u8.u8.u4.2.1 r.u8.u8.u8.u4.2.2.1 cU r.u8.u8.u8.u4.2.2.2.1.length cV cW r.u8.u8.u8.u8.length cX (ownX (fInt .i64) 3 cy cz r.u4.2.2.1) (ownX jM 4 cA cB r.u4.2.2.2.1) (ownX (fInt .i64) 3 cD cE r.u8.1) dv r.u8.2.2.1 dw r.u8.2.2.2.1 dx r.u8.u4.1 (arrX j6 bN dy r.u8.u4.2.2.1) cG cH cJ cK cO cP dz r.u8.u8.u4.2.2.1) (k2j cu cv r.u4.2.1.Cuts cw cx r.u4.2.1.Nodes (ml bN 4) (ml r.u8.u4.2.2.2.1 4) (ml r.u8.u8.1 4) cF cG cH r.u8.u8.2.1 cI cJ cK r.u8.u8.2.2.1 cL cM r.u8.u8.2.2.2.1 cN cO cP r.u8.u8.u4.1 cQ cR r.u8.u8.u8.2.1 cS cT r.u8.u8.u8.2.2.1 cU cV r.u8.u8.u8.u4.2.2.2.1 cW cX r.u8.u8.u8.u8)):=by
 have e:=hB.hS
 have fA:=e.fresh
 refine en func12 rfl ntmps12 λa b=>?_
 unfold M.wR at H
 refine qr λ_ fz=>wc (wbx b e (k2p f bJ bK bL bM b9 ca) (sgN 20 jD) λfB a w b e=>?_)
 refine wp 1 [0,3] b λa b=>fz _ _ (m2 (λa w=>∃κ cY cZ c0 c1,∃cb:List ByteArray,∃cc cd,∃ce:List Int,∃cg ch ci cj,∃cl:List Int,∃cm cn,∃co:List Bool,∃aV aW,∃aX:List Int,∃bO bP aY bQ bR aZ bS bT a0 bU bV aP a8 bW a9 ba be bf bg bX bh bi bj bY,∃bl:List i8,∃bm bn bo bq br bZ b0 b1 bt b2 b3 b4,∃bu:List Int,∃bw bx,∃bz:List Int,∃bA bB b5 b6 b7 b8,∃bC:List i9,∃bD bE,∃bF:List jL,∃bG bH,Fr (47) [] [] a∧SS Ms κ0 w0 κ w (k2i aq a1 a2 cY cZ c0 c1 cc cb.length cd cg ce.length ch ci cl.length cj cm co.length cn aV aX.length aW bO bP bR bT bV aP a9 ba be bh bm bl.length bn bo b0 b1 b3 b4 bw bu.length bx bA bz.length bB b5 b6 b7 b8 bD bC.length bE bG bF.length bH (ownX (fInt .i64) 3 ci cj cl) (ownX jM 4 cm cn co) (ownX (fInt .i64) 3 aV aW aX) aY bQ aZ bS a0 bU (arrX j6 aP a8 bW) bf bg bi bj bq br bt b2) (k2j cc cd cb cg ch ce (ml aP 4) (ml a9 4) (ml ba 4) be bf bg bX bh bi bj bY bm bn bl bo bq br bZ bw bx bu bA bB bz bD bE bC bG bH bF)∧M.rX N a1 a2 cY cZ c0 c1 cb ce cl co aX bO bQ bS bU bV bW a9 ba bX bY bl bZ b0 b2 b3 b4 bu bz b5 b6 b7 b8 bC bF=some r) ?_ ?_)
 refine qr λ_ d2=>wp 1 [0,3,5] b λa b=>wc (wld b e 0 0 0 λa b=>d2 _ _ (bk (qr λ_ d3=>wp 2 [0,3,6,7] b λa b=>d3 _ _ (bc b H (λhb H=>?_) λhb H=>?_))))
 refine rl (wp 2 [3,9,10] b λa b=>wc (wld b e 0 1 0 λa b=>wp 1 [9,11,12] b λa b=>wc (wls b e 0 3 14 λa b=>bd H λc dA H=>wc (wcS 17 [1,2,3,4,5,6,7,8,9,10,11,12,13,14,15,16,17,0] b e (λe=>tD N a1 a2 a3 a4 a5 a6 Z z A B Q aH aR aI ah aS I C aJ aL R aT ai aM J K D E L O S U aj F f.From f.Msg p8 c9 g h i j k l m n am aa P ab an ad x ae V av aw W ax ay X Y G az aA ao af o p q s aB aD t u bJ bK bL bM aq (e.sbK (rg 15)) dA) ?_))))
 rintro _ κ w a ⟨d4,d5,d6,d7,d8,d9,ea,ec,ed,ee,ef,dB,eg,dC,eh,dD,ej,dE,ek,el,em,eo,ep,eq,er,es,et,eu,ew,ex,dF,ey,ez,eA,eB,eC,eD,eE,eF,rfl,h2⟩ b hB
 have e:=hB _ _ h2
 refine nl ?_
 exact ⟨_,c.1,c.2.1,c.2.2.1,c.2.2.2.1,c.u4.1.Cuts,d4,d5,c.u4.1.Nodes,d6,d7,d8,d9,c.u4.2.1,ea,ec,c.u4.2.2.1,ed,ee,c.u4.2.2.2.1,c.u8.1,ef,dB,c.u8.2.1,eg,dC,c.u8.2.2.1,eh,dD,c.u8.2.2.2.1,c.u8.u4.1,ej,dE,c.u8.u4.2.1,c.u8.u4.2.2.1,c.u8.u4.2.2.2.1,ek,el,em,c.u8.u8.1,eo,ep,eq,c.u8.u8.2.1,c.u8.u8.2.2.1,er,es,et,eu,ew,c.u8.u8.2.2.2.1,c.u8.u8.u4.1,ex,dF,c.u8.u8.u4.2.1,c.u8.u8.u4.2.2.1,c.u8.u8.u4.2.2.2.1,c.u8.u8.u8.1,ey,ez,c.u8.u8.u8.2.1,eA,eB,c.u8.u8.u8.2.2.1,c.u8.u8.u8.2.2.2.1,c.u8.u8.u8.u4.1,c.u8.u8.u8.u4.2.1,c.u8.u8.u8.u4.2.2.1,eC,eD,c.u8.u8.u8.u4.2.2.2,eE,eF,b.kp [],e.sp (rg 17) (rg 13),H⟩
 refine qr λ_ eG=>wp 2 [0,3,6,15] b λa b=>eG _ _ (bc b H (λhb H=>?_) λhb H=>?_)
 refine rl (wp 2 [3,17,18] b λa b=>wc (wld b e 0 1 0 λa b=>wp 1 [17,19,20] b λa b=>wc (wls b e 0 3 14 λa b=>bd H λd dG H=>wc (wcS 17 [1,2,3,4,5,6,7,8,9,10,11,12,13,14,15,16,17,0] b e (λe=>AY N a1 a2 a3 a4 a5 a6 Z z A B Q aH aR aI ah aS I C aJ aL R aT ai aM J K D E L O S U aj F f.From f.Msg p8 c9 g h i j k l m n am aa P ab an ad x ae V av aw W ax ay X Y G az aA ao af o p q s aB aD t u bJ bK bL bM aq (e.sbK (rg 15)) dG) ?_))))
 rintro _ κ w a ⟨eH,eI,eJ,eK,eL,eM,eN,eO,eP,eQ,eR,dH,eS,dI,eT,dJ,eU,dK,eV,eW,eX,eY,eZ,e0,e1,e2,e3,e4,e5,e6,dL,e7,e8,e9,fa,fb,fc,fd,fe,rfl,h2⟩ b hB
 have e:=hB _ _ h2
 refine nl ?_
 exact ⟨_,d.1,d.2.1,d.2.2.1,d.2.2.2.1,d.u4.1.Cuts,eH,eI,d.u4.1.Nodes,eJ,eK,eL,eM,d.u4.2.1,eN,eO,d.u4.2.2.1,eP,eQ,d.u4.2.2.2.1,d.u8.1,eR,dH,d.u8.2.1,eS,dI,d.u8.2.2.1,eT,dJ,d.u8.2.2.2.1,d.u8.u4.1,eU,dK,d.u8.u4.2.1,d.u8.u4.2.2.1,d.u8.u4.2.2.2.1,eV,eW,eX,d.u8.u8.1,eY,eZ,e0,d.u8.u8.2.1,d.u8.u8.2.2.1,e1,e2,e3,e4,e5,d.u8.u8.2.2.2.1,d.u8.u8.u4.1,e6,dL,d.u8.u8.u4.2.1,d.u8.u8.u4.2.2.1,d.u8.u8.u4.2.2.2.1,d.u8.u8.u8.1,e7,e8,d.u8.u8.u8.2.1,e9,fa,d.u8.u8.u8.2.2.1,d.u8.u8.u8.2.2.2.1,d.u8.u8.u8.u4.1,d.u8.u8.u8.u4.2.1,d.u8.u8.u8.u4.2.2.1,fb,fc,d.u8.u8.u8.u4.2.2.2,fd,fe,b.kp [],e.sp (rg 17) (rg 13),H⟩
 refine qr λ_ fg=>wp 2 [0,3,6,23] b λa b=>fg _ _ (bc b H (λhb H=>?_) λhb H=>?_)
 refine qr λ_ fh=>wp 2 [3,25,26] b λa b=>wc (wld b e 0 2 0 λa b=>wp 1 [3,25,27,28] b λa b=>wc (wld b e 0 17 0 λa b=>wp 1 [25,27,29,30] b λa b=>wc (wld b e 0 18 0 λa b=>bd H λaQ dM H=>?_)))
 have cp:=e.segs 1 rfl
 refine wc (wcS 7 [1,2,5,12,14,15,17,0,3,4,6,7,8,9,10,11,13,16] b e (λe=>AX N a1 a3 a5 a6 Z aI ah aJ aL R ai aM aj f.Call f.Key f.T [vi a2] [vi a4] p8 c9 g h (flat [sl i z.length j,sl k A.length l,sl m B.length n,sb Q,sp am,sp P]) an ad (flat [k4d x,ei 4 I,ei 4 C]) V av aw W ax ay X Y [.map G] ao af (flat [si J,si K,sl o D.length p,sl q E.length s,su L,sb O,sb S,sb U]) aB aD [.slice t F.length u] aq ((e.regr 0 [(false,8),(true,6),(false,2),(true,3),(false,6),(true,8),(false,2)] rfl).sbK [0,1,5,6,7,11]) dM) ?_)
 rintro _ κ w a ⟨c2,dN,c3,fi,fj,c4,fk,fl,c5,c6,c7,dO,c8,da,rfl,h2⟩ b hB
 have e:=(hB _ _ h2).unregrK 0 [(false,8),(true,6),(false,2),(true,3),(false,6),(true,8),(false,2)] (s':=k2l a1 a2 a3 a4 a5 aQ.2.1 p8 Z c9 g h i z.length j k A.length l m B.length n Q am P c2 aQ.2.2.2.1 x I C c3 c4 c5 aQ.u4.2.2.1.length c6 G aQ.u4.2.2.2.1 c7 J K o D.length p q E.length s L O S U c8 aQ.u8.2.length da t F.length u) cp rfl
 refine wp 1 [4] b λa b=>fh _ _ (rt ?_)
 cases H
 exact j7 b e (l4 results12 (rvt b)) ⟨p8,c9,g,h,i,j,k,l,m,n,am,aa,P,ab,c2,dN,x,ae,c3,fi,fj,c4,fk,fl,c5,c6,G,az,aA,c7,dO,o,p,q,s,c8,da,t,u,rfl,e.sp [0,1,8,9,2,10,11,12,13,14,15,3,16,4,5,17,6] [4,5,6,7,8,0,1,2,12,13,14,3,16]⟩
 refine qr λ_ fm=>wp 2 [0,3,6,33] b λa b=>fm _ _ (bc b H (λhb H=>?_) λhb H=>?_)
 refine qr λ_ fn=>wp 2 [3,35,36] b λa b=>wc (wld b e 0 2 0 λa b=>wp 1 [3,35,37,38] b λa b=>wc (wld b e 0 18 0 λa b=>wp 1 [35,37,39,40] b λa b=>wc (wld b e 0 19 0 λa b=>bd H λy dP H=>?_)))
 have cq:=e.segs 1 rfl
 refine wc (wcS 12 [1,2,5,8,10,11,12,13,14,15,16,17,0,3,4,6,7,9] b e (λe=>w8 N a1 a3 a4 a5 a6 Z A Q aH aR aI ah aS I C aJ aL R aT ai aM E L O S U aj f.Call f.T f.Writes [vi a2] p8 c9 g h [.slice i z.length j] k l [.slice m B.length n] am aa P ab an ad x ae V av aw W ax ay X Y G az aA ao af (flat [si J,si K,sl o D.length p]) q s aB aD [.slice t F.length u] b9 ca aq ((e.regr 0 [(false,25),(true,3),(false,7)] rfl).sbK [0,1,2,3,4,5,6,7,8,10,11,15]) dP) ?_)
 rintro _ κ w a ⟨db,dR,dd,dS,de,dT,df,dU,dg,fo,fp,dh,fq,fr,di,dj,dk,fs,ft,dl,dV,dm,dn,rfl,h2⟩ b hB
 have e:=(hB _ _ h2).unregrK 0 [(false,25),(true,3),(false,7)] (s':=k2l a1 a2 a3 a4 a5 y.2.1 p8 Z c9 g h i z.length j k A.length l m B.length n y.2.2.1 db dd de y.u4.2.2.1 df y.u8.1 C dg dh di y.u8.2.2.2.1.length dj dk y.u8.u4.2.1 dl J K o D.length p q E.length s L O y.u8.u4.2.2.2.1 y.u8.u8.1 dm y.u8.u8.2.length dn t F.length u) cq rfl
 refine wp 1 [4] b λa b=>fn _ _ (rt ?_)
 cases H
 exact j7 b e (l4 results12 (rvt b)) ⟨p8,c9,g,h,i,j,k,l,m,n,db,dR,dd,dS,de,dT,df,dU,dg,fo,fp,dh,fq,fr,di,dj,dk,fs,ft,dl,dV,o,p,q,s,dm,dn,t,u,rfl,e.sp [0,1,13,14,2,15,16,3,17,4,5,6,7,8,9,10,11] [7,8,0,1,11,2,3,4,5,16,17,6,19]⟩
 refine qr λ_ fu=>wp 2 [0,43] b λa b=>fu _ _ (bc b H (λhb H=>?_) λhb H=>?_)
 refine qr λ_ fv=>wp 1 [45] b λa b=>bd H λfw dW H=>?_
 have cr:=e.segs 1 rfl
 refine wc (wcS 3 [1,5,10,0,2,3,4,6,7,8,9,11,12,13,14,15,16,17] b e (λe=>AW N a1 a2 a3 aH aj (flat [si a4,si a5,si a6,sl p8 Z.Cuts.length c9,sl g Z.Nodes.length h,sl i z.length j,sl k A.length l,sl m B.length n,sb Q]) am aa (flat [sp P,sp an,su ah,k4d x,ei 4 I,ei 4 C,sm V,sm W,sl X R.length Y,sm G,su ai,sp ao,si J,si K,sl o D.length p,sl q E.length s,su L,sb O,sb S,sb U]) aB aD [.slice t F.length u] aq ((e.regr 0 [(false,3),(true,9),(false,1),(true,20),(false,2)] rfl).sbK [11]) dW) ?_)
 rintro _ κ w a ⟨dp,dX,dq,dr,rfl,h2⟩ b hB
 have e:=(hB _ _ h2).unregrK 0 [(false,3),(true,9),(false,1),(true,20),(false,2)] (s':=k2l a1 a2 a3 a4 a5 a6 p8 Z c9 g h i z.length j k A.length l m B.length n Q dp P an ah x I C V W X R.length Y G ai ao J K o D.length p q E.length s L O S U dq fw.2.2.length dr t F.length u) cr rfl
 refine wp 1 [4] b λa b=>fv _ _ (rt ?_)
 cases H
 exact j7 b e (l4 results12 (rvt b)) ⟨p8,c9,g,h,i,j,k,l,m,n,dp,dX,P,ab,an,ad,x,ae,V,av,aw,W,ax,ay,X,Y,G,az,aA,ao,af,o,p,q,s,dq,dr,t,u,rfl,e.sp [0,4,5,6,1,7,8,9,10,2,11,12,13,14,15,16,17] [1,2,3,4,5,6,7,8,9,10,11,0,13]⟩
 refine sk ?_
 exact ⟨_,a3,a4,a5,a6,Z.Cuts,p8,c9,Z.Nodes,g,h,i,j,z,k,l,A,m,n,B,Q,am,aa,aH,P,ab,aR,an,ad,aI,ah,x,ae,aS,I,C,V,av,aw,aJ,W,ax,ay,aL,R,X,Y,G,az,aA,aT,ai,ao,af,aM,J,K,D,o,p,E,q,s,L,O,S,U,aj,aB,aD,F,t,u,b.kp [],e.sp (ra 1 17) (rg 13),H⟩
 rintro a w ⟨κ,cY,cZ,c0,c1,cb,cc,cd,ce,cg,ch,ci,cj,cl,cm,cn,co,aV,aW,aX,bO,bP,aY,bQ,bR,aZ,bS,bT,a0,bU,bV,aP,a8,bW,a9,ba,be,bf,bg,bX,bh,bi,bj,bY,bl,bm,bn,bo,bq,br,bZ,b0,b1,bt,b2,b3,b4,bu,bw,bx,bz,bA,bB,b5,b6,b7,b8,bC,bD,bE,bF,bG,bH,b,e,H⟩
 unfold M.rX at H
 refine qr λ_ fy=>wp 1 [4] b λa b=>fy _ _ (rt ?_)
 cases H
 exact j7 b e (l4 results12 (rvt b)) ⟨cc,cd,cg,ch,ci,cj,cm,cn,aV,aW,bP,aY,bR,aZ,bT,a0,aP,a8,be,bf,bg,bh,bi,bj,bm,bn,bo,bq,br,b1,bt,bw,bx,bA,bB,bD,bE,bG,bH,rfl,e.sp (rg 17) (rg 13)⟩
end Go.Cf
