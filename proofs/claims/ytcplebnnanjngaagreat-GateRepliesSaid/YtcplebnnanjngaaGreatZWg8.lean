/- The walks: each function returns what its model says. Printed by a program of ours. -/
import Derived.Test.YtcplebnnanjngaaGreatZSh
import Derived.Test.YtcplebnnanjngaaGreatZM1
import Derived.Test.YtcplebnnanjngaaGreatZWs
import Derived.Test.YtcplebnnanjngaaGreatZWo
import Derived.Test.YtcplebnnanjngaaGreatZWi
import Derived.Test.YtcplebnnanjngaaGreatZWp
import Derived.Test.YtcplebnnanjngaaGreatZWg1
import Derived.Test.YtcplebnnanjngaaGreatZWg3
import Derived.Test.YtcplebnnanjngaaGreatZWg4
import Derived.Test.YtcplebnnanjngaaGreatZWg5
import Derived.Test.YtcplebnnanjngaaGreatZWg6
import Derived.Test.YtcplebnnanjngaaGreatZWg7
namespace Go.Cf
open Go Go.Proofs Tryz
open _root_.Int(toNat tdiv tmod)
open _root_.List(set replicate)
open _root_.ByteArray(empty)
open Go.IntKind(i64 u64)
set_option linter.unusedVariables false
set_option maxRecDepth 20000
set_option maxHeartbeats 8000000
theorem tD (N){Ms}{κ0}{w0}(a1)(a2)(a3)(a4)(a5)(a6)(a7:j5)(f:(List Int))(t:(List Bool))(g:(List Int))(Q)(aH)(aI)(aJ)(aw)(aL)(u)(h)(aM)(aO)(x:(List i8))(aP)(aA)(aQ)(R)(ax)(y:(List Int))(z:(List Int))(S)(T)(U)(V)(W:(List i9))(o:(List jL))(bx)(X:jF)(p8)(c9)(A)(B)(i)(j)(C)(D)(k)(l)(aR)(aj)(aS)(ak)(ay)(al)(m)(am)(E)(Y)(Z)(F)(aa)(ab)(G)(I)(ad)(ae)(af)(az)(an)(J)(K)(L)(O)(ah)(ai)(p)(q)(ao)(aq)(ar)(au)(P)(hB:SB Ms κ0 w0 (k2g P a1 a2 a3 a4 a5 a6 p8 a7 c9 A B i f.length j C t.length D k g.length l Q aR aS ay aw m u h E F G x.length I ad aA az R ax J y.length K L z.length O S T U V ah W.length ai p o.length q (ownX (fInt .i64) 3 i j f) (ownX jM 4 C D t) (ownX (fInt .i64) 3 k l g) aj aH ak aI al aJ (arrX j6 m am aL) Y Z aa ab ae af an aQ) (k2h p8 c9 a7 A B (ml m 4) (ml u 4) (ml h 4) E Y Z aM F aa ab aO G I x ad ae af aP J K y L O z ah ai W p q o ao aq X ar au)){r}(H:M.pM N a1 a2 a3 a4 a5 a6 a7 f t g Q aH aI aJ aw aL u h aM aO x aP aA aQ R ax y z S T U V W o bx X=some r) :
    Calls Tryz.prog 15 #[pt P 0,vi bx,.agg (flat (k0c X ao aq ar au)).toArray] w0 (kP Ms κ0 w0 λv κ w=>∃cE cF cG cH cI cJ cK cL cM cN ef dM eg dN eh dO cs dP cO cP cQ cR cS cT cU cV cW cX cY ej dR cZ c0 c1 c2 c3 c4 c5 c6,v = .tuple #[]∧SS Ms κ0 w0 κ w (k2i P a1 a2 r.1 r.2.1 r.2.2.1 r.2.2.2.1 cE r.u4.1.Cuts.length cF cG r.u4.1.Nodes.length cH cI r.u4.2.1.length cJ cK r.u4.2.2.1.length cL cM r.u4.2.2.2.1.length cN r.u8.1 ef eg eh r.u8.u4.1 cs r.u8.u4.2.2.1 r.u8.u4.2.2.2.1 cO cR cU r.u8.u8.2.2.1.length cV cW r.u8.u8.u4.1 ej r.u8.u8.u4.2.2.1 r.u8.u8.u4.2.2.2.1 cZ r.u8.u8.u8.1.length c0 c1 r.u8.u8.u8.2.1.length c2 r.u8.u8.u8.2.2.1 r.u8.u8.u8.2.2.2.1 r.u8.u8.u8.u4.1 r.u8.u8.u8.u4.2.1 c3 r.u8.u8.u8.u4.2.2.1.length c4 c5 r.u8.u8.u8.u4.2.2.2.length c6 (ownX (fInt .i64) 3 cI cJ r.u4.2.1) (ownX jM 4 cK cL r.u4.2.2.1) (ownX (fInt .i64) 3 cM cN r.u4.2.2.2.1) dM r.u8.2.1 dN r.u8.2.2.1 dO r.u8.2.2.2.1 (arrX j6 cs dP r.u8.u4.2.1) cP cQ cS cT cX cY dR r.u8.u8.u4.2.1) (k2j cE cF r.u4.1.Cuts cG cH r.u4.1.Nodes (ml cs 4) (ml r.u8.u4.2.2.1 4) (ml r.u8.u4.2.2.2.1 4) cO cP cQ r.u8.u8.1 cR cS cT r.u8.u8.2.1 cU cV r.u8.u8.2.2.1 cW cX cY r.u8.u8.2.2.2.1 cZ c0 r.u8.u8.u8.1 c1 c2 r.u8.u8.u8.2.1 c3 c4 r.u8.u8.u8.u4.2.2.1 c5 c6 r.u8.u8.u8.u4.2.2.2)):=by
 have e:=hB.hS
 have fc:=e.fresh
 refine en func15 rfl ntmps15 λa b=>?_
 unfold M.pM at H
 refine qr λ_ e7=>wc (wbx b e (k0c X ao aq ar au) (sgN 14 jD) λbK a w b e=>e7 _ _ (qs λ_ e8=>qr λ_ e9=>bd H λfa bA H=>k8 (λa w=>∃κ,Fr (71) [] [k35 P,k2z bx,k32 bK,(17,vb fa)] a∧SS Ms κ0 w0 κ w (k2k bK X ao aq ar au P a1 a2 a3 a4 a5 a6 p8 a7 c9 A B i f.length j C t.length D k g.length l Q aR aS ay aw m u h E F G x.length I ad aA az R ax J y.length K L z.length O S T U V ah W.length ai p o.length q (ownX (fInt .i64) 3 i j f) (ownX jM 4 C D t) (ownX (fInt .i64) 3 k l g) aj aH ak aI al aJ (arrX j6 m am aL) Y Z aa ab ae af an aQ) (k2h p8 c9 a7 A B (ml m 4) (ml u 4) (ml h 4) E Y Z aM F aa ab aO G I x ad ae af aP J K y L O z ah ai W p q o ao aq X ar au)∧True) ?_ ?_))
 refine wp 7 [0,1,5,14] b λa b=>bs bA (λhb bA=>?_) λhb bA=>?_
 have b:=b.bv 14 hb
 refine wp 3 [0,1,5,17] b λa b=>nl ?_
 cases bA
 exact ⟨_,b.kp [0,1,5,17],e.sp (rg 18) (rg 15),ja⟩
 have b:=b.bv 14 hb
 refine wp 3 [0,1,5,17] b λa b=>nl ?_
 cases bA
 exact ⟨_,b.kp [0,1,5,17],e.sp (rg 18) (rg 15),ja⟩
 rintro a w ⟨κ,b,e,-⟩
 refine e9 _ _ (bc b H (λhb H=>?_) λhb H=>?_)
 refine rt ?_
 cases H
 exact j7 b e (mL results15) ⟨p8,c9,A,B,i,j,C,D,k,l,aR,aj,aS,ak,ay,al,m,am,E,Y,Z,F,aa,ab,G,I,ad,ae,af,az,an,J,K,L,O,ah,ai,p,q,rfl,e.sp (ra 1 17) (rg 13)⟩
 refine sk (e8 _ _ (qr λ_ fb=>wp 9 [0,1,5,6,7] b λa b=>fb _ _ (m2 (λa w=>∃κ cm cn co cp,∃bL:List ByteArray,∃bM bN,∃bO:List Int,∃bP bQ bR bS,∃aX:List Int,∃aY aZ,∃a0:List Bool,∃a8 a9,∃ba:List Int,∃bU cu bV bW cv bX bY cw bZ b0 b1 bB b2 b3 bC be bf b4 b5 cx bg bD bE b6,∃bh:List i8,∃bi bj b7 b8 b9 ca cb cy cc cd bF bG,∃bl:List Int,∃bm bn,∃bo:List Int,∃bq br bH bI ce cg,∃bJ:List i9,∃ch ci,∃bt:List jL,∃bu bw,Fr (71) [] [k35 P] a∧SS Ms κ0 w0 κ w (k2i P a1 a2 cm cn co cp bM bL.length bN bP bO.length bQ bR aX.length bS aY a0.length aZ a8 ba.length a9 bU cu cv cw b1 bB bC be bf bg bi bh.length bj b7 cb cy bF bG bm bl.length bn bq bo.length br bH bI ce cg ch bJ.length ci bu bt.length bw (ownX (fInt .i64) 3 bR bS aX) (ownX jM 4 aY aZ a0) (ownX (fInt .i64) 3 a8 a9 ba) bV bW bX bY bZ b0 (arrX j6 bB b2 b3) b4 b5 bD bE b8 b9 cc cd) (k2j bM bN bL bP bQ bO (ml bB 4) (ml bC 4) (ml be 4) bf b4 b5 cx bg bD bE b6 bi bj bh b7 b8 b9 ca bm bn bl bq br bo ch ci bJ bu bw bt)∧M.o9 N a1 a2 cm cn co cp bL bO aX a0 ba bU bW bY b0 b1 b3 bC be cx b6 bh ca cb cd bF bG bl bo bH bI ce cg bJ bt=some r) ?_ ?_)))
 refine bk (qr λ_ ek=>wp 3 [0,5,6,7,25] b λa b=>ek _ _ (bc b H (λhb H=>?_) λhb H=>?_))
 refine rl (wp 1 [0,5,28] b λa b=>wc (wls b e 0 0 14 λa b=>bd H λc dS H=>wc (wcS 16 [1,2,3,4,5,7,8,9,10,11,12,13,14,15,16,17,0,6] b e (λe=>yU N a1 a2 a3 a4 a5 a6 a7 f t g Q aH aI aJ aw aL u h aM aO x aP aQ R ax y z S T U V W X p8 c9 A B i j C D k l aR aj aS ak ay al m am E Y Z F aa ab G I ad ae af [vu aA] az an J K L O ah ai [.slice p o.length q] ao aq ar au P (e.sbK [0,1,2,3,4,5,6,7,8,9,10,11,13,14]) dS) ?_)))
 rintro _ κ w a ⟨el,em,eo,ep,eq,er,es,et,eu,ew,ex,dT,ey,dU,ez,dV,eA,dW,eB,eC,eD,eE,eF,eG,eH,eI,eJ,eK,eL,eM,dX,eN,eO,eP,eQ,eR,eS,rfl,h2⟩ b hB
 have e:=hB _ _ h2
 refine nl ?_
 exact ⟨_,c.1,c.2.1,c.2.2.1,c.2.2.2.1,c.u4.1.Cuts,el,em,c.u4.1.Nodes,eo,ep,eq,er,c.u4.2.1,es,et,c.u4.2.2.1,eu,ew,c.u4.2.2.2.1,c.u8.1,ex,dT,c.u8.2.1,ey,dU,c.u8.2.2.1,ez,dV,c.u8.2.2.2.1,c.u8.u4.1,eA,dW,c.u8.u4.2.1,c.u8.u4.2.2.1,c.u8.u4.2.2.2.1,eB,eC,eD,c.u8.u8.1,eE,eF,eG,c.u8.u8.2.1,c.u8.u8.2.2.1,eH,eI,eJ,eK,eL,c.u8.u8.2.2.2.1,aA,eM,dX,c.u8.u8.u4.1,c.u8.u8.u4.2.1,c.u8.u8.u4.2.2.1,c.u8.u8.u4.2.2.2.1,eN,eO,c.u8.u8.u8.1,eP,eQ,c.u8.u8.u8.2.1,c.u8.u8.u8.2.2.1,c.u8.u8.u8.2.2.2.1,c.u8.u8.u8.u4.1,c.u8.u8.u8.u4.2,eR,eS,o,p,q,b.kp [0],e.sp [0,1,2,3,4,17,5,6,7,8,9,10,11,12,13,14,15] [0,1,2,3,4,5,6,7,8,9,10,11,24],H⟩
 refine qr λ_ eT=>bd H λeU aT H=>k8 (λa w=>∃κ,Fr (71) [] [k35 P,k32 bK,(6,vi (i64.wrap (tdiv (i64.wrap (bx-1)) 5))),(7,vi (i64.wrap ((tmod (i64.wrap (bx-1)) 5)-1))),(31,vb eU)] a∧SS Ms κ0 w0 κ w (k2k bK X ao aq ar au P a1 a2 a3 a4 a5 a6 p8 a7 c9 A B i f.length j C t.length D k g.length l Q aR aS ay aw m u h E F G x.length I ad aA az R ax J y.length K L z.length O S T U V ah W.length ai p o.length q (ownX (fInt .i64) 3 i j f) (ownX jM 4 C D t) (ownX (fInt .i64) 3 k l g) aj aH ak aI al aJ (arrX j6 m am aL) Y Z aa ab ae af an aQ) (k2h p8 c9 a7 A B (ml m 4) (ml u 4) (ml h 4) E Y Z aM F aa ab aO G I x ad ae af aP J K y L O z ah ai W p q o ao aq X ar au)∧True) ?_ ?_
 refine wp 3 [0,5,6,7,34] b λa b=>bs aT (λhb aT=>?_) λhb aT=>?_
 have b:=b.bv 34 hb
 refine wp 4 [0,5,6,7,34,35,38] b λa b=>wcg b (wld b e 1 0 0 λa b=>wp 3 [0,5,6,7,31] b λa b=>nl ?_)
 cases aT
 exact ⟨_,b.kp [0,5,6,7,31],e.sp (rg 18) (rg 15),ja⟩
 have b:=b.bv 34 hb
 refine wp 8 [0,5,6,7,31] b λa b=>nl ?_
 cases aT
 exact ⟨_,b.kp [0,5,6,7,31],e.sp (rg 18) (rg 15),ja⟩
 rintro a w ⟨κ,b,e,-⟩
 refine eT _ _ (bc b H (λhb H=>?_) λhb H=>?_)
 refine rl (wp 2 [0,5,42,43] b λa b=>wc (wls b e 0 0 14 λa b=>bd H λn dY H=>?_))
 have cA:=e.segs 1 rfl
 refine wc (wcS 7 [1,4,5,10,11,13,16,0,2,3,6,7,8,9,12,14,15,17] b e (λe=>yV N a1 a3 aH aI aL u aP aA z W (i64.wrap (tdiv (i64.wrap (bx-1)) 5)) X [vi a2] (flat [si a4,si a5,si a6,sl p8 a7.Cuts.length c9,sl A a7.Nodes.length B,sl i f.length j,sl C t.length D,sl k g.length l,sb Q]) aR aj aS ak (flat [sp ay,su aw]) m am (flat [ei 4 h,sm E,sm F,sl G x.length I]) ad ae af (flat [sp az,si R,si ax,sl J y.length K]) L O (flat [su S,sb T,sb U,sb V]) ah ai [.slice p o.length q] ao aq ar au P ((e.regr 0 [(false,3),(true,9),(false,2),(true,2),(false,2),(true,4),(false,2),(true,4),(false,1),(true,4),(false,2)] rfl).sbK [2,3,8,10,11,13,14]) dY) ?_)
 rintro _ κ w a ⟨c7,dZ,c8,d0,da,d1,db,eV,eW,dd,de,df,dg,rfl,h2⟩ b hB
 have e:=(hB _ _ h2).unregrK 0 [(false,3),(true,9),(false,2),(true,2),(false,2),(true,4),(false,2),(true,4),(false,1),(true,4),(false,2)] (s':=k2l a1 a2 a3 a4 a5 a6 p8 a7 c9 A B i f.length j C t.length D k g.length l Q c7 c8 ay aw da n.2.2.2.1 h E F G x.length I db n.u4.2.1 az R ax J y.length K dd n.u4.2.2.1.length de S T U V df n.u4.2.2.2.length dg p o.length q) cA rfl
 refine nl ?_
 exact ⟨_,a3,a4,a5,a6,a7.Cuts,p8,c9,a7.Nodes,A,B,i,j,f,C,D,t,k,l,g,Q,c7,dZ,n.1,c8,d0,n.2.1,ay,al,aJ,aw,da,d1,n.2.2.1,n.2.2.2.1,h,E,Y,Z,aM,F,aa,ab,aO,x,G,I,db,eV,eW,n.u4.1,n.u4.2.1,az,an,aQ,R,ax,y,J,K,n.u4.2.2.1,dd,de,S,T,U,V,n.u4.2.2.2,df,dg,o,p,q,b.kp [0],e.sp [0,8,9,1,2,10,11,12,13,3,4,14,5,15,16,6,17] [5,6,0,1,9,10,11,12,2,14,3,4,17],H⟩
 refine qr λ_ eX=>bd H λeY s H=>k8 (λa w=>∃κ,Fr (71) [] [k35 P,k32 bK,(7,vi (i64.wrap ((tmod (i64.wrap (bx-1)) 5)-1))),(46,vb eY)] a∧SS Ms κ0 w0 κ w (k2k bK X ao aq ar au P a1 a2 a3 a4 a5 a6 p8 a7 c9 A B i f.length j C t.length D k g.length l Q aR aS ay aw m u h E F G x.length I ad aA az R ax J y.length K L z.length O S T U V ah W.length ai p o.length q (ownX (fInt .i64) 3 i j f) (ownX jM 4 C D t) (ownX (fInt .i64) 3 k l g) aj aH ak aI al aJ (arrX j6 m am aL) Y Z aa ab ae af an aQ) (k2h p8 c9 a7 A B (ml m 4) (ml u 4) (ml h 4) E Y Z aM F aa ab aO G I x ad ae af aP J K y L O z ah ai W p q o ao aq X ar au)∧True) ?_ ?_
 refine wp 4 [0,5,7,47,50] b λa b=>wc (wld b e 1 0 0 λa b=>wp 2 [0,5,7,53] b λa b=>bs s (λhb s=>?_) λhb s=>?_)
 have b:=b.bv 53 hb
 refine wp 4 [0,5,7,57] b λa b=>bs s (λhb s=>?_) λhb s=>?_
 have b:=b.bv 57 hb
 refine wp 4 [0,5,7,57,58,61] b λa b=>wcg b (wld b e 1 1 0 λa b=>wp 3 [0,5,7,46] b λa b=>nl ?_)
 cases s
 exact ⟨_,b.kp [0,5,7,46],e.sp (rg 18) (rg 15),ja⟩
 have b:=b.bv 57 hb
 refine wp 8 [0,5,7,46] b λa b=>nl ?_
 cases s
 exact ⟨_,b.kp [0,5,7,46],e.sp (rg 18) (rg 15),ja⟩
 have b:=b.bv 53 hb
 refine wp 12 [0,5,7,46] b λa b=>nl ?_
 cases s
 exact ⟨_,b.kp [0,5,7,46],e.sp (rg 18) (rg 15),ja⟩
 rintro a w ⟨κ,b,e,-⟩
 refine eX _ _ (bc b H (λhb H=>?_) λhb H=>?_)
 refine rl (wp 2 [0,5,65,66] b λa b=>wc (wls b e 0 0 14 λa b=>bd H λd d2 H=>?_))
 have cB:=e.segs 1 rfl
 refine wc (wcS 14 [1,2,3,5,6,8,10,11,12,13,14,15,16,17,0,4,7,9] b e (λe=>yA N a1 a2 a4 a5 a6 a7 t aH aI aJ aw aL aM aO x aP aA aQ R ax y W o (i64.wrap ((tmod (i64.wrap (bx-1)) 5)-1)) X [vi a3] p8 c9 A B [.slice i f.length j] C D (flat [sl k g.length l,sb Q]) aR aj aS ak ay al m am (flat [ei 4 u,ei 4 h]) E Y Z F aa ab G I ad ae af az an J K (flat [sl L z.length O,su S,sb T,sb U,sb V]) ah ai p q ao aq ar au P ((e.regr 0 [(false,10),(true,2),(false,5),(true,2),(false,9),(true,5),(false,2)] rfl).sbK [0,1,2,5,6,7,8,9,11,12,13,14]) d2) ?_)
 rintro _ κ w a ⟨dh,di,dj,dk,dl,dm,dn,d3,dp,d4,dq,d5,dr,d6,ds,eZ,e0,dt,e1,e2,du,dv,dw,e3,e4,dx,d7,dy,dz,dA,dB,dC,dD,rfl,h2⟩ b hB
 have e:=(hB _ _ h2).unregrK 0 [(false,10),(true,2),(false,5),(true,2),(false,9),(true,5),(false,2)] (s':=k2l a1 a2 a3 a4 a5 d.1 dh d.2.1 di dj dk i f.length j dl d.2.2.1.length dm k g.length l Q dn dp dq d.u4.2.2.1 dr u h ds dt du d.u8.2.2.1.length dv dw d.u8.u4.1 dx R d.u8.u4.2.2.1 dy d.u8.u4.2.2.2.1.length dz L z.length O S T U V dA d.u8.u8.1.length dB dC d.u8.u8.2.length dD) cB rfl
 refine nl ?_
 exact ⟨_,a3,a4,a5,d.1,d.2.1.Cuts,dh,di,d.2.1.Nodes,dj,dk,i,j,f,dl,dm,d.2.2.1,k,l,g,Q,dn,d3,d.2.2.2.1,dp,d4,d.u4.1,dq,d5,d.u4.2.1,d.u4.2.2.1,dr,d6,d.u4.2.2.2.1,u,h,ds,eZ,e0,d.u8.1,dt,e1,e2,d.u8.2.1,d.u8.2.2.1,du,dv,dw,e3,e4,d.u8.2.2.2.1,d.u8.u4.1,dx,d7,d.u8.u4.2.1,R,d.u8.u4.2.2.1,d.u8.u4.2.2.2.1,dy,dz,z,L,O,S,T,U,V,d.u8.u8.1,dA,dB,d.u8.u8.2,dC,dD,b.kp [0],e.sp [0,1,2,15,3,4,16,5,17,6,7,8,9,10,11,12,13] [0,1,2,13,14,3,4,5,6,7,20,8,9],H⟩
 refine sk ?_
 exact ⟨_,a3,a4,a5,a6,a7.Cuts,p8,c9,a7.Nodes,A,B,i,j,f,C,D,t,k,l,g,Q,aR,aj,aH,aS,ak,aI,ay,al,aJ,aw,m,am,aL,u,h,E,Y,Z,aM,F,aa,ab,aO,x,G,I,ad,ae,af,aP,aA,az,an,aQ,R,ax,y,J,K,z,L,O,S,T,U,V,W,ah,ai,o,p,q,b.kp [0],e.sp (ra 1 17) (rg 13),H⟩
 rintro a w ⟨κ,cm,cn,co,cp,bL,bM,bN,bO,bP,bQ,bR,bS,aX,aY,aZ,a0,a8,a9,ba,bU,cu,bV,bW,cv,bX,bY,cw,bZ,b0,b1,bB,b2,b3,bC,be,bf,b4,b5,cx,bg,bD,bE,b6,bh,bi,bj,b7,b8,b9,ca,cb,cy,cc,cd,bF,bG,bl,bm,bn,bo,bq,br,bH,bI,ce,cg,bJ,ch,ci,bt,bu,bw,b,e,H⟩
 unfold M.o9 at H
 refine rl (wp 1 [69] b λa b=>bd H λaG d8 H=>?_)
 have cD:=e.segs 0 rfl
 refine wc (wcS 10 [0,4,7,9,10,11,12,14,15,16,1,2,3,5,6,8,13] b e (λe=>uV N a1 cm cn (j5.mk bL bO) a0 bU bW bY b0 b1 b3 bC be b6 bh ca cb cd bo bH bI ce cg bJ [vi a2] (flat [si co,si cp]) bM bN bP bQ [.slice bR aX.length bS] aY aZ [.slice a8 ba.length a9] cu bV cv bX cw bZ bB b2 [.map bf] bg bD bE bi bj b7 b8 b9 cy cc (flat [si bF,si bG,sl bm bl.length bn]) bq br ch ci [.slice bu bt.length bw] P ((e.regr 0 [(false,4),(true,2),(false,19),(true,3),(false,7)] rfl).sbK [0,1,2,3,4,6,7,8,10,11]) d8) ?_)
 rintro _ κ w a ⟨dE,d9,dF,ea,dG,ec,dH,ed,dI,e5,e6,dJ,ee,dK,dL,rfl,h2⟩ b hB
 have e:=(hB _ _ h2).unregrK 0 [(false,4),(true,2),(false,19),(true,3),(false,7)] (s':=[si a1,si a2,si cm,si cn,si co,si cp,sl bM bL.length bN,sl bP bO.length bQ,sl bR aX.length bS,sl aY a0.length aZ,sl a8 ba.length a9,sb aG.1,sp dE,sp dF,sp dG,su aG.u4.1,k4d dH,ei 4 aG.u4.2.2.1,ei 4 be,sm bf,sm bg,sl bi bh.length bj,sm dI,su aG.u8.1,sp dJ,si bF,si bG,sl bm bl.length bn,sl bq bo.length br,su bH,sb bI,sb aG.u8.2.2.1,sb aG.u8.2.2.2.1,sl dK aG.u8.u4.length dL,sl bu bt.length bw]) cD rfl
 refine nl ?_
 cases H
 exact j7 b e (mL results15) ⟨bM,bN,bP,bQ,bR,bS,aY,aZ,a8,a9,dE,d9,dF,ea,dG,ec,dH,ed,bf,b4,b5,bg,bD,bE,bi,bj,dI,e5,e6,dJ,ee,bm,bn,bq,br,dK,dL,bu,bw,rfl,e.sp [0,10,11,12,1,13,14,2,15,3,4,5,6,16,7,8,9] [4,5,0,1,8,9,10,11,2,13,14,3,16]⟩
theorem AY (N){Ms}{κ0}{w0}(a1)(a2)(a3)(a4)(a5)(a6)(a7:j5)(O:(List Int))(P:(List Bool))(Q:(List Int))(aT)(bu)(aX)(aY)(ak)(aZ)(al)(ab)(bw)(bo)(R:(List i8))(bq)(aU)(a0)(aL)(aM)(S:(List Int))(T:(List Int))(aO)(aP)(aV)(aW)(Y:(List i9))(U:(List jL))(e)(aw:jF)(p8)(c9)(Z)(aa)(l)(o)(p)(q)(s)(u)(br)(a8)(ax)(ar)(ay)(au)(k)(bG)(x)(am)(an)(z)(af)(ah)(A)(B)(V)(ao)(aq)(az)(av)(C)(D)(F)(G)(W)(X)(I)(J)(aB)(aD)(aE)(aF)(f)(hB:SB Ms κ0 w0 (k2g f a1 a2 a3 a4 a5 a6 p8 a7 c9 Z aa l O.length o p P.length q s Q.length u aT br ax ay ak k al ab x z A R.length B V aU az aL aM C S.length D F T.length G aO aP aV aW W Y.length X I U.length J (ownX (fInt .i64) 3 l o O) (ownX jM 4 p q P) (ownX (fInt .i64) 3 s u Q) a8 bu ar aX au aY (arrX j6 k bG aZ) am an af ah ao aq av a0) (k2h p8 c9 a7 Z aa (ml k 4) (ml al 4) (ml ab 4) x am an bw z af ah bo A B R V ao aq bq C D S F G T W X Y I J U aB aD aw aE aF)){r}(H:M.t8 N a1 a2 a3 a4 a5 a6 a7 O P Q aT bu aX aY ak aZ al ab bw bo R bq aU a0 aL aM S T aO aP aV aW Y U e aw=some r) :
    Calls Tryz.prog 29 #[pt f 0,vi e,.agg (flat (k0c aw aB aD aE aF)).toArray] w0 (kP Ms κ0 w0 λv κ w=>∃cu cv cw cx cy cz cA cB cD cE dH dg dI dh dJ di b8 dj cF cG cH cI cJ cK cL cM cN cO cP dK dk cQ cR cS cT cU cV cW cX,v = .tuple #[]∧SS Ms κ0 w0 κ w (k2i f a1 a2 r.1 r.2.1 r.2.2.1 r.2.2.2.1 cu r.u4.1.Cuts.length cv cw r.u4.1.Nodes.length cx cy r.u4.2.1.length cz cA r.u4.2.2.1.length cB cD r.u4.2.2.2.1.length cE r.u8.1 dH dI dJ r.u8.u4.1 b8 r.u8.u4.2.2.1 r.u8.u4.2.2.2.1 cF cI cL r.u8.u8.2.2.1.length cM cN r.u8.u8.u4.1 dK r.u8.u8.u4.2.2.1 r.u8.u8.u4.2.2.2.1 cQ r.u8.u8.u8.1.length cR cS r.u8.u8.u8.2.1.length cT r.u8.u8.u8.2.2.1 r.u8.u8.u8.2.2.2.1 r.u8.u8.u8.u4.1 r.u8.u8.u8.u4.2.1 cU r.u8.u8.u8.u4.2.2.1.length cV cW r.u8.u8.u8.u4.2.2.2.length cX (ownX (fInt .i64) 3 cy cz r.u4.2.1) (ownX jM 4 cA cB r.u4.2.2.1) (ownX (fInt .i64) 3 cD cE r.u4.2.2.2.1) dg r.u8.2.1 dh r.u8.2.2.1 di r.u8.2.2.2.1 (arrX j6 b8 dj r.u8.u4.2.1) cG cH cJ cK cO cP dk r.u8.u8.u4.2.1) (k2j cu cv r.u4.1.Cuts cw cx r.u4.1.Nodes (ml b8 4) (ml r.u8.u4.2.2.1 4) (ml r.u8.u4.2.2.2.1 4) cF cG cH r.u8.u8.1 cI cJ cK r.u8.u8.2.1 cL cM r.u8.u8.2.2.1 cN cO cP r.u8.u8.2.2.2.1 cQ cR r.u8.u8.u8.1 cS cT r.u8.u8.u8.2.1 cU cV r.u8.u8.u8.u4.2.2.1 cW cX r.u8.u8.u8.u4.2.2.2)):=by
 have d:=hB.hS
 have fP:=d.fresh
 refine en func29 rfl ntmps29 λa b=>?_
 unfold M.t8 at H
 refine qr λ_ eU=>wc (wbx b d (k0c aw aB aD aE aF) (sgN 14 jD) λj a w b d=>eU _ _ (qs λ_ eV=>qr λ_ eW=>bd H λeX ai H=>k8 (λa w=>∃κ,Fr (160) [] [k35 f,k2z e,k32 j,(29,vb eX)] a∧SS Ms κ0 w0 κ w (k2k j aw aB aD aE aF f a1 a2 a3 a4 a5 a6 p8 a7 c9 Z aa l O.length o p P.length q s Q.length u aT br ax ay ak k al ab x z A R.length B V aU az aL aM C S.length D F T.length G aO aP aV aW W Y.length X I U.length J (ownX (fInt .i64) 3 l o O) (ownX jM 4 p q P) (ownX (fInt .i64) 3 s u Q) a8 bu ar aX au aY (arrX j6 k bG aZ) am an af ah ao aq av a0) (k2h p8 c9 a7 Z aa (ml k 4) (ml al 4) (ml ab 4) x am an bw z af ah bo A B R V ao aq bq C D S F G T W X Y I J U aB aD aw aE aF)∧True) ?_ ?_))
 refine wp 4 [0,1,5,10,11] b λa b=>wcg b (wld b d 0 0 0 λa b=>wp 3 [0,1,5,15] b λa b=>bs ai (λhb ai=>?_) λhb ai=>?_)
 have b:=b.bv 15 hb
 refine wp 14 [0,1,5,29] b λa b=>nl ?_
 cases ai
 exact ⟨_,b.kp [0,1,5,29],d.sp (rg 18) (rg 15),ja⟩
 have b:=b.bv 15 hb
 refine wp 4 [0,1,5,19] b λa b=>bs ai (λhb ai=>?_) λhb ai=>?_
 have b:=b.bv 19 hb
 refine wp 10 [0,1,5,29] b λa b=>nl ?_
 cases ai
 exact ⟨_,b.kp [0,1,5,29],d.sp (rg 18) (rg 15),ja⟩
 have b:=b.bv 19 hb
 refine wp 4 [0,1,5,23] b λa b=>bs ai (λhb ai=>?_) λhb ai=>?_
 have b:=b.bv 23 hb
 refine wp 6 [0,1,5,29] b λa b=>nl ?_
 cases ai
 exact ⟨_,b.kp [0,1,5,29],d.sp (rg 18) (rg 15),ja⟩
 have b:=b.bv 23 hb
 refine wp 3 [0,1,5,23,26] b λa b=>wcg b (wld b d 1 2 0 λa b=>wp 2 [0,1,5,29] b λa b=>nl ?_)
 cases ai
 exact ⟨_,b.kp [0,1,5,29],d.sp (rg 18) (rg 15),ja⟩
 rintro a w ⟨κ,b,d,-⟩
 refine eW _ _ (bc b H (λhb H=>?_) λhb H=>?_)
 refine rt ?_
 cases H
 exact j7 b d (mL results29) ⟨p8,c9,Z,aa,l,o,p,q,s,u,br,a8,ax,ar,ay,au,k,bG,x,am,an,z,af,ah,A,B,V,ao,aq,az,av,C,D,F,G,W,X,I,J,rfl,d.sp (ra 1 17) (rg 13)⟩
 refine sk (eV _ _ (qr λ_ eY=>(wp 9 [0,1,5,6,7] b λa b=>(eY _ _ (qs λ_ eZ=>qr λ_ e0=>(wp 4 [0,1,5,6,7,37,40] b λa b=>wc (wld b d 1 0 0 λa b=>jE (L':=[k35 f,k2z e,k32 j,(6,vi (i64.wrap (tdiv (i64.wrap (e-1)) 5))),(7,vi (i64.wrap ((tmod (i64.wrap (e-1)) 5)-1))),(42,(vb (i64.wrap (tdiv (i64.wrap (e-1)) 5)==a1)))]) 1 [0,1,5,6,7,42] b kr λa b=>e0 _ _ (bc b H (λhb H=>?_) λhb H=>?_))))))))
 refine qr λ_ e1=>wp 2 [5,43,44] b λa b=>wc (wls b d 0 0 14 λa b=>bd H λfQ dL H=>wc (wcS 17 [1,2,3,4,5,6,7,8,9,10,11,12,13,14,15,16,17,0] b d (λd=>tD N a1 a2 a3 a4 a5 a6 a7 O P Q aT bu aX aY ak aZ al ab bw bo R bq aU a0 aL aM S T aO aP aV aW Y U e aw p8 c9 Z aa l o p q s u br a8 ax ar ay au k bG x am an z af ah A B V ao aq az av C D F G W X I J aB aD aE aF f (d.sbK (rg 15)) dL) ?_))
 rintro _ κ w a ⟨e2,e3,e4,e5,e6,e7,e8,e9,dM,dN,dO,dl,dP,dm,dR,dn,dS,dp,dT,dU,dV,dW,dX,dY,dZ,d0,d1,d2,d3,d4,dq,d5,d6,d7,d8,d9,ea,ec,ed,rfl,h2⟩ b hB
 have d:=hB _ _ h2
 refine e1 _ _ (rt ?_)
 cases H
 exact j7 b d (mL results29) ⟨e2,e3,e4,e5,e6,e7,e8,e9,dM,dN,dO,dl,dP,dm,dR,dn,dS,dp,dT,dU,dV,dW,dX,dY,dZ,d0,d1,d2,d3,d4,dq,d5,d6,d7,d8,d9,ea,ec,ed,rfl,d.sp (rg 17) (rg 13)⟩
 refine sk (eZ _ _ (qs λ_ ee=>qs λ_ ef=>bd H λeg ad H=>kL (λa w=>∃κ bI,Fr (160) [] [k35 f,k32 j,(6,vi (i64.wrap (tdiv (i64.wrap (e-1)) 5))),(84,vb eg)] a∧SS Ms κ0 w0 κ w (k2k j aw aB aD aE aF f a1 a2 a3 a4 a5 a6 p8 a7 c9 Z aa l O.length o p P.length q s Q.length u aT br ax ay ak k al ab x z A R.length B V aU az aL aM C S.length D F T.length G aO aP aV aW W Y.length X I U.length J (ownX (fInt .i64) 3 l o O) (ownX jM 4 p q P) (ownX (fInt .i64) 3 s u Q) a8 bu ar aX au aY (arrX j6 k bI aZ) am an af ah ao aq av a0) (k2h p8 c9 a7 Z aa (ml k 4) (ml al 4) (ml ab 4) x am an bw z af ah bo A B R V ao aq bq C D S F G T W X Y I J U aB aD aw aE aF)∧True) ?_ ?_))
 refine bd ad λfp aI ad=>?_
 obtain ⟨cY,a9⟩:=d.arrIdx 13 rfl aI
 have d:=d.add (m:=MP.const (idx k (i64.wrap (tdiv (i64.wrap (e-1)) 5))=some cY)) a9
 have aG:idx k (i64.wrap (tdiv (i64.wrap (e-1)) 5))=some cY:=d.get 0 rfl
 obtain ⟨fd,fe,d⟩:=d.arrTakeP 13 rfl aI aG
 refine kY ad (λae ad=>?_) (λfq ae ad=>?_)
 obtain ⟨aJ,d⟩:=d.optN 0 rfl ae
 have fa:=b
 subst aJ
 have b:=fa
 obtain ⟨cl,d⟩:=d.arrBackI 0 1 (ra 2 17) dc rfl rfl aG (aI.trans (congrArg some ae))
 refine rl (bd ad λfr aA ad=>k8 (λa w=>∃κ,Fr (160) [] [k35 f,k32 j,(6,vi (i64.wrap (tdiv (i64.wrap (e-1)) 5))),(84,vb true)] a∧SS Ms κ0 w0 κ w (k2k j aw aB aD aE aF f a1 a2 a3 a4 a5 a6 p8 a7 c9 Z aa l O.length o p P.length q s Q.length u aT br ax ay ak k al ab x z A R.length B V aU az aL aM C S.length D F T.length G aO aP aV aW W Y.length X I U.length J (ownX (fInt .i64) 3 l o O) (ownX jM 4 p q P) (ownX (fInt .i64) 3 s u Q) a8 bu ar aX au aY (arrX j6 k cl aZ) am an af ah ao aq av a0) (k2h p8 c9 a7 Z aa (ml k 4) (ml al 4) (ml ab 4) x am an bw z af ah bo A B R V ao aq bq C D S F G T W X Y I J U aB aD aw aE aF)∧True) ?_ ?_)
 refine wp 3 [0,5,6,49] b λa b=>bs aA (λhb aA=>?_) λhb aA=>?_
 have b:=b.bv 49 hb
 refine wp 35 [0,5,6,84] b λa b=>nl ?_
 cases aA
 exact ⟨_,b.kp [0,5,6,84],d.sp [1,2,3,4,5,6,7,8,9,10,11,12,13,0,14,15,16,17] (ra 1 15),ja⟩
 have b:=b.bv 49 hb
 refine wp 1 [0,5,6,49,50] b λa b=>wcg b (wld b d 1 7 0 λa b=>wp 4 [0,5,6,55] b λa b=>bs aA (λhb aA=>?_) λhb aA=>?_)
 have b:=b.bv 55 hb
 refine wp 29 [0,5,6,84] b λa b=>nl ?_
 cases aA
 exact ⟨_,b.kp [0,5,6,84],d.sp [1,2,3,4,5,6,7,8,9,10,11,12,13,0,14,15,16,17] (ra 1 15),ja⟩
 have b:=b.bv 55 hb
 refine jE (L':=k2m f j (i64.wrap (tdiv (i64.wrap (e-1)) 5))) 4 [0,5,6,55,57,59] b kr λa b=>wcg b (l7 b kr (E:=81) (sz:=1) (n:=4) rfl rfl (i:=i64.wrap (tdiv (i64.wrap (e-1)) 5)) rfl (m4 a9 (d.get 3 rfl)) kr kr λa b=>wcg b (rK (t:=pO) b d kr 2 16 (v := .pointer none) rfl rfl rfl rfl a9 rfl rfl kr kr λa b=>wp 23 [0,5,6,84] b λa b=>nl ?_))
 cases aA
 exact ⟨_,b.kp [0,5,6,84],d.sp [1,2,3,4,5,6,7,8,9,10,11,12,13,0,14,15,16,17] (ra 1 15),ja⟩
 rintro a w ⟨κ,b,d,-⟩
 cases ad
 exact ⟨_,cl,b.kp [0,5,6,84],d.sp (rg 18) (rg 15),ja⟩
 obtain ⟨eh,aJ,d⟩:=d.optS 0 rfl ae
 have fb:=b
 subst aJ
 have b:=fb
 refine rl (bd ad λej g ad=>k8 (λa w=>∃κ bJ,Fr (160) [] [k35 f,k32 j,(6,vi (i64.wrap (tdiv (i64.wrap (e-1)) 5))),(84,vb ej)] a∧SS Ms κ0 w0 κ w (k2k j aw aB aD aE aF f a1 a2 a3 a4 a5 a6 p8 a7 c9 Z aa l O.length o p P.length q s Q.length u aT br ax ay ak k al ab x z A R.length B V aU az aL aM C S.length D F T.length G aO aP aV aW W Y.length X I U.length J (ownX (fInt .i64) 3 l o O) (ownX jM 4 p q P) (ownX (fInt .i64) 3 s u Q) a8 bu ar aX au aY (arrX j6 k bJ aZ) am an af ah ao aq av a0) (k2h p8 c9 a7 Z aa (ml k 4) (ml al 4) (ml ab 4) x am an bw z af ah bo A B R V ao aq bq C D S F G T W X Y I J U aB aD aw aE aF)∧True) ?_ ?_)
 refine wp 3 [0,5,6,49] b λa b=>bs g (λhb g=>?_) λhb g=>?_
 have b:=b.bv 49 hb
 refine wp 35 [0,5,6,84] b λa b=>?_
 obtain ⟨dr,d⟩:=d.arrBackI 0 1 (ra 2 17) dc rfl rfl aG (aI.trans (congrArg some ae))
 refine nl ?_
 cases g
 exact ⟨_,dr,b.kp [0,5,6,84],d.sp [1,2,3,4,5,6,7,8,9,10,11,12,13,0,14,15,16,17] (ra 1 15),ja⟩
 have b:=b.bv 49 hb
 refine wp 1 [0,5,6,49,50] b λa b=>wcg b (wld b d 2 7 0 λa b=>wp 4 [0,5,6,55] b λa b=>bs g (λhb g=>?_) λhb g=>?_)
 have b:=b.bv 55 hb
 refine wp 29 [0,5,6,84] b λa b=>?_
 obtain ⟨ds,d⟩:=d.arrBackI 0 1 (ra 2 17) dc rfl rfl aG (aI.trans (congrArg some ae))
 refine nl ?_
 cases g
 exact ⟨_,ds,b.kp [0,5,6,84],d.sp [1,2,3,4,5,6,7,8,9,10,11,12,13,0,14,15,16,17] (ra 1 15),ja⟩
 have b:=b.bv 55 hb
 refine jE (L':=k2m f j (i64.wrap (tdiv (i64.wrap (e-1)) 5))) 4 [0,5,6,55,57,59] b kr λa b=>wcg b (l7 b kr (E:=81) (sz:=1) (n:=4) rfl rfl (i:=i64.wrap (tdiv (i64.wrap (e-1)) 5)) rfl (m4 a9 (d.get 3 rfl)) kr kr λa b=>wcg b (rK (t:=pO) b d kr 3 16 (v:=pt eh 0) rfl rfl rfl rfl a9 rfl rfl kr kr λa b=>jE (L':=[k35 f,k32 j,(6,vi (i64.wrap (tdiv (i64.wrap (e-1)) 5))),(64,vb false),(65,pt j 7)]) 4 [0,5,6,64,65] b kr λa b=>?_))
 refine wcg b (wld b d 2 7 0 λa b=>bd g λek cm g=>wcg b (kR b d kr 15 (E:=32) (sz:=1) rfl rfl rfl kr rfl cm kr kr λft fu a cZ b=>wcg b (mH (t:=(fInt .u64)) b d kr 15 0 (v:=vu ek) rfl rfl cZ rfl cm kr kr kr λa b=>wp 3 [0,5,6,71] b λa b=>bs g (λhb g=>?_) λhb g=>?_)))
 have b:=b.bv 71 hb
 refine wp 13 [0,5,6,84] b λa b=>?_
 obtain ⟨dt,d⟩:=d.arrBackI 0 1 (ra 2 17) dc rfl rfl aG (aI.trans (congrArg some ae))
 refine nl ?_
 cases g
 exact ⟨_,dt,b.kp [0,5,6,84],d.sp [1,2,3,4,5,6,7,8,9,10,11,12,13,0,14,15,16,17] (ra 1 15),ja⟩
 have b:=b.bv 71 hb
 refine jE (L':=[k35 f,k32 j,(6,vi (i64.wrap (tdiv (i64.wrap (e-1)) 5))),(71,vb false),(72,pt j 7)]) 1 [0,5,6,71,72] b kr λa b=>wcg b (wld b d 2 7 0 λa b=>bd g λel cn g=>wcg b (kR b d kr 15 (E:=32) (sz:=1) rfl rfl rfl kr rfl cn kr kr λfv fw a c0 b=>wcg b (mH (t:=(fInt .u64)) b d kr 15 0 (v:=vu el) rfl rfl c0 rfl cn kr kr kr λa b=>wp 3 [0,5,6,78] b λa b=>bs g (λhb g=>?_) λhb g=>?_)))
 have b:=b.bv 78 hb
 refine wp 6 [0,5,6,84] b λa b=>?_
 obtain ⟨du,d⟩:=d.arrBackI 0 1 (ra 2 17) dc rfl rfl aG (aI.trans (congrArg some ae))
 refine nl ?_
 cases g
 exact ⟨_,du,b.kp [0,5,6,84],d.sp [1,2,3,4,5,6,7,8,9,10,11,12,13,0,14,15,16,17] (ra 1 15),ja⟩
 have b:=b.bv 78 hb
 refine jE (L':=[k35 f,k32 j,(6,vi (i64.wrap (tdiv (i64.wrap (e-1)) 5))),(78,vb false),(79,pt j 7)]) 1 [0,5,6,78,79] b kr λa b=>wcg b (wld b d 2 7 0 λa b=>bd g λem co g=>wcg b (kR b d kr 15 (E:=32) (sz:=1) rfl rfl rfl kr rfl co kr kr λfy fz a c1 b=>wcg b (mH (t:=(fInt .u64)) b d kr 15 0 (v:=vu em) rfl rfl c1 rfl co kr kr kr λa b=>wp 2 [0,5,6,84] b λa b=>?_)))
 obtain ⟨dv,d⟩:=d.arrBackI 0 1 (ra 2 17) dc rfl rfl aG (aI.trans (congrArg some ae))
 refine nl ?_
 cases g
 exact ⟨_,dv,b.kp [0,5,6,84],d.sp [1,2,3,4,5,6,7,8,9,10,11,12,13,0,14,15,16,17] (ra 1 15),ja⟩
 rintro a w ⟨κ,bJ,b,d,-⟩
 cases ad
 exact ⟨_,bJ,b.kp [0,5,6,84],d.sp (rg 18) (rg 15),ja⟩
 rintro a w ⟨κ,bI,b,d,-⟩
 refine ef _ _ (bc b H (λhb H=>?_) λhb H=>?_)
 refine rt ?_
 cases H
 exact j7 b d (mL results29) ⟨p8,c9,Z,aa,l,o,p,q,s,u,br,a8,ax,ar,ay,au,k,bI,x,am,an,z,af,ah,A,B,V,ao,aq,az,av,C,D,F,G,W,X,I,J,rfl,d.sp (ra 1 17) (rg 13)⟩
 refine sk (ee _ _ (qs λ_ eo=>bd H λfA bK H=>?_))
 obtain ⟨c2,bz⟩:=d.arrIdx 13 rfl bK
 have d:=d.add (m:=MP.const (idx k (i64.wrap (tdiv (i64.wrap (e-1)) 5))=some c2)) bz
 have bA:idx k (i64.wrap (tdiv (i64.wrap (e-1)) 5))=some c2:=d.get 0 rfl
 obtain ⟨fg,fh,d⟩:=d.arrTakeP 13 rfl bK bA
 refine kY H (λbh H=>?_) (λep bh H=>?_)
 obtain ⟨aJ,d⟩:=d.optN 0 rfl bh
 have eq:=b
 subst aJ
 have b:=eq
 obtain ⟨fi,d⟩:=d.arrBackI 0 1 (ra 2 17) dc rfl rfl bA (bK.trans (congrArg some bh))
 cases H
 obtain ⟨bL,aJ,d⟩:=d.optS 0 rfl bh
 have er:=b
 subst aJ
 have b:=er
 obtain ⟨⟨es,et,eu,ew,ex,ey,ez⟩,d⟩:=d.unfI (ck:=lO) (fs:=lN) 0 rfl
 refine rga (λ_=>True) [] ?_
 have d:=d.drew
 refine jN [0,1,2,3,6,10] [0,5,6,86,88,91,95] (L':=[k35 f,k32 j,(6,vi (i64.wrap (tdiv (i64.wrap (e-1)) 5))),(86,vi (i64.wrap (tdiv (i64.wrap (e-1)) 5))),(88,pt f 16),(91,pt j 7),(95,pt j 7)]) (listed':=(mV 16 1103)) (fuel:=10) b ja kr (by intro c a w t v h; cases t<;>exact h) kr rfl λa b=>mI d [15] (atk 4 (some 89) b (d.sx [0,2,3,4,5,6,12,13,14,15,16,17,18,19,20,21] (rg 18)) rfl (λw _=>lU (E:=81) (sz:=1) (n:=4) rfl rfl (i:=i64.wrap (tdiv (i64.wrap (e-1)) 5)) rfl (m4 bz (d.get 5 rfl)) kr kr w) λa b=>?_)
 refine atk 5 (some 90) b (d.sx [0,2,3,4,5,6,12,13,14,15,16,17,18,19,20,21] (rg 18)) rfl (rZ (t:=pO) 5 16 (v:=pt bL 0) rfl rfl rfl rfl bz rfl rfl kr kr) λa b=>atk 7 (some 92) b (d.sx [0,2,3,4,5,6,12,13,14,15,16,17,18,19,20,21] (rg 18)) rfl (vld 4 7 0) λa b=>bd H λb9 bM H=>?_
 obtain ⟨fB,fC,b0⟩:=d.ptr 17 rfl bM
 refine atk 8 (some 93) b (d.sx [0,2,3,4,5,6,12,13,14,15,16,17,18,19,20,21] (rg 18)) rfl (λw _=>mP (E:=32) (sz:=1) rfl b0 rfl kr rfl bM kr kr w) λa b=>atk 9 (some 94) b (d.sx [0,2,3,4,5,6,12,13,14,15,16,17,18,19,20,21] (rg 18)) rfl (qO (t:=(fInt .u64)) 17 0 (v:=vu b9) rfl rfl b0 rfl bM kr kr kr) λa b=>atk 11 (some 96) b (d.sx [0,2,3,4,5,6,12,13,14,15,16,17,18,19,20,21] (rg 18)) rfl (vld 4 7 0) λa b=>bd H λca bN H=>?_
 obtain ⟨fD,fE,b1⟩:=d.ptr 17 rfl bN
 refine atk 12 (some 97) b (d.sx [0,2,3,4,5,6,12,13,14,15,16,17,18,19,20,21] (rg 18)) rfl (λw _=>mP (E:=32) (sz:=1) rfl b1 rfl kr rfl bN kr kr w) λa b=>atk 13 (some 98) b (d.sx [0,2,3,4,5,6,12,13,14,15,16,17,18,19,20,21] (rg 18)) rfl (qO (t:=(fInt .u64)) 17 0 (v:=vu ca) rfl rfl b1 rfl bN kr kr kr) λa b=>jN [14] [0,5,6,90,94,99] (L':=[k35 f,k32 j,(6,vi (i64.wrap (tdiv (i64.wrap (e-1)) 5))),(90,pt bL 0),(94,vu b9),(99,vi (i64.wrap ca))]) (listed':=(mV 16 32767)) (fuel:=1) b (d.sx [0,2,3,4,5,6,12,13,14,15,16,17,18,19,20,21] (rg 18)) kr (by intro c a w t v h; cases t<;>exact h) kr rfl λa b=>?_
 refine ago 15 b rfl (bd H λbB dw H=>wcS 4 (rg 22) b d (λd=>A6 N ep b9 (i64.wrap ca) es et eu ew ex ey ez bL (d.sbK [0,1]) dw) ?_)
 rintro _ κ w a ⟨eA,eB,eC,eD,eE,eF,eG,rfl,h2⟩ b hB
 have d:=hB _ _ h2
 refine ⟨notE,?_⟩
 refine kN ?_
 obtain ⟨fj,d⟩:=d.foldI (ck:=lO) (fs:=lN) bL (eA,eB,eC,eD,eE,eF,eG) bB (rg 4) (ra 4 18) [0,1] dc kr kr
 obtain ⟨fk,d⟩:=d.arrPutI 0 1 (ra 2 17) dc rfl rfl bA
 refine eo _ _ (qs λ_ eH=>bd H λfF bt H=>?_)
 obtain ⟨c3,bC⟩:=d.arrIdx 0 rfl bt
 have d:=d.add (m:=MP.const (idx k (i64.wrap (tdiv (i64.wrap (e-1)) 5))=some c3)) bC
 have bD:idx k (i64.wrap (tdiv (i64.wrap (e-1)) 5))=some c3:=d.get 0 rfl
 obtain ⟨fl,dx,d⟩:=d.arrTakeP 0 rfl bt bD
 refine kY H (λba H=>?_) (λbE ba H=>?_)
 obtain ⟨aJ,d⟩:=d.optN 0 rfl ba
 have eI:=b
 subst aJ
 have b:=eI
 obtain ⟨fm,d⟩:=d.arrBackI 0 1 (ra 2 17) dc rfl rfl bD (bt.trans (congrArg some ba))
 cases H
 obtain ⟨bO,aJ,d⟩:=d.optS 0 rfl ba
 have fc:=b
 subst aJ
 have b:=fc
 obtain ⟨⟨bP,bQ,bR,bS,bT,cb,cc⟩,d⟩:=d.unfI (ck:=lO) (fs:=lN) 0 rfl
 refine bd H λcd ho H=>?_
 obtain ⟨aj,aJ,d⟩:=d.optS 15 rfl ho
 rw [aJ] at d
 try rw [aJ] at b
 obtain ⟨⟨ce,cg⟩,d⟩:=d.unfI (ck:=jP) (fs:=jO) 15 rfl
 refine rga (λ_=>True) [] ?_
 have d:=d.drew
 refine jN [0,1,2,4,5,6,7,8] [0,5,6,103,105,107,109] (L':=[k35 f,k32 j,(6,vi (i64.wrap (tdiv (i64.wrap (e-1)) 5))),(103,pt f 12),(105,vi (i64.wrap (tdiv (i64.wrap (e-1)) 5))),(107,vi (i64.wrap (tdiv (i64.wrap (e-1)) 5))),(109,pt f 16)]) (listed':=(mV 13 503)) (fuel:=5) b ja kr (by intro c a w t v h; cases t<;>exact h) kr rfl λa b=>mI d [12] (atk 3 (some 104) b (d.sx [0,1,2,4,5,6,7,8,14,15,16,17,18,19,20,21,22] (rg 27)) rfl (vld 7 12 0) λa b=>?_)
 refine atk 9 (some 110) b (d.sx [0,1,2,4,5,6,7,8,14,15,16,17,18,19,20,21,22] (rg 27)) rfl (λw _=>lU (E:=81) (sz:=1) (n:=4) rfl rfl (i:=i64.wrap (tdiv (i64.wrap (e-1)) 5)) rfl (m4 bC (d.get 14 rfl)) kr kr w) λa b=>atk 10 (some 111) b (d.sx [0,1,2,4,5,6,7,8,14,15,16,17,18,19,20,21,22] (rg 27)) rfl (rZ (t:=pO) 7 16 (v:=pt bO 0) rfl rfl rfl rfl bC rfl rfl kr kr) λa b=>ago 11 b rfl ?_
 refine bd H λeJ dy H=>wcS 3 [2,4,5,0,1,3,6,7,8,9,10,11,12,13,14,15,16,17,18,19,20,21,22] b d (λd=>xQ N bE bP bQ bR bS bT cb cc bO (d.sbK [4,5]) dy) ?_
 rintro _ κ w a ⟨rfl,h2⟩ b hB
 have d:=(hB _ _ h2).cC (C':=[k3w bO bE bP bQ bR bS bT,.ext (ownX jM 4 bR bS bE.done),mx bT cb cc,k34 aj cd ce cg,.ext (ownX (fInt .u64) 32 ce cg cd.beats),k3r bP bE.list.length bQ,.ext (arrX j6 (set k (toNat (i64.wrap (tdiv (i64.wrap (e-1)) 5))) none) dx (set (set aZ (toNat (i64.wrap (tdiv (i64.wrap (e-1)) 5))) (some bB)) (toNat (i64.wrap (tdiv (i64.wrap (e-1)) 5))) none)),k4p j aw aB aD aE aF,.box f 87 [si a1,si a2,si a3,si a4,si a5,si a6,sl p8 a7.Cuts.length c9,sl Z a7.Nodes.length aa,sl l O.length o,sl p P.length q,sl s Q.length u,sb aT,k3v aj,sp ax,sp ay,su ak,k4d k,ei 4 al,ei 4 ab,sm x,sm z,sl A R.length B,sm V,su aU,sp az,si aL,si aM,sl C S.length D,sl F T.length G,su aO,sb aP,sb aV,sb aW,sl W Y.length X,sl I U.length J],k45 A R.length B,k46 C S.length D,k46 F T.length G,k3j W Y.length X,k3n I U.length J,.ext (ownX (fInt .i64) 3 l o O),.ext (ownX jM 4 p q P),.ext (ownX (fInt .i64) 3 s u Q),k47 ax ar aX,k48 ay au aY,mx x am an,mx z af ah,mx V ao aq,k3p az av a0])
 refine ⟨λ_=>(d.sx [3,4,0,1,2,6,7,8,14,15,16,17,18,19,20,21,22] (rg 27)),?_⟩
 refine ago 12 b rfl (bd H λc4 dz H=>wcS 2 [3,4,0,1,2,5,6,7,8,9,10,11,12,13,14,15,16,17,18,19,20,21,22] b d (λd=>wZ N cd (i64.wrap (tdiv (i64.wrap (e-1)) 5)) eJ ce cg aj (d.sbK (rg 4)) dz) ?_)
 rintro _ κ w a ⟨eK,eL,rfl,h2⟩ b hB
 have d:=hB _ _ h2
 refine ⟨notE,?_⟩
 refine kN ?_
 obtain ⟨fn,d⟩:=d.foldI (ck:=jP) (fs:=jO) aj (eK,eL) c4 [0,1] (ra 2 21) (rg 4) dc kr kr
 obtain ⟨fo,d⟩:=d.foldI (ck:=lO) (fs:=lN) bO (bP,bQ,bR,bS,bT,cb,cc) bE [1,4,2,3] [0,5,6,7,8,9,10,11,12,13,14,15,16,17,18,19,20,21] [8,9] dc kr kr
 obtain ⟨bU,d⟩:=d.arrBackI 0 2 [1,3,4,5,6,7,8,9,10,11,12,13,14,15,16,17,18] dc rfl rfl bD (bt.trans (congrArg some ba))
 refine eH _ _ (qs λ_ eM=>?_)
 obtain ⟨⟨eN,eO⟩,d⟩:=d.unfI (ck:=jP) (fs:=jO) 1 rfl
 refine rga (λ_=>True) [] ?_
 have d:=d.drew
 refine jN [0,1,2,4,5,10] [0,5,6,116,118,119,124] (L':=[k35 f,k32 j,(6,vi (i64.wrap (tdiv (i64.wrap (e-1)) 5))),(116,pt f 12),(118,vi (i64.wrap (tdiv (i64.wrap (e-1)) 5))),(119,pt j 7),(124,pt j 7)]) (listed':=(mV 15 1079)) (fuel:=9) b ja kr (by intro c a w t v h; cases t<;>exact h) kr rfl λa b=>mI d [14] (atk 3 (some 117) b (d.sx [0,1,2,3,4,10,11,12,13,14,15,16,17,18] (rg 35)) rfl (vld 4 12 0) λa b=>?_)
 refine atk 6 (some 120) b (d.sx [0,1,2,3,4,10,11,12,13,14,15,16,17,18] (rg 35)) rfl (vld 3 7 0) λa b=>bd H λch bV H=>?_
 obtain ⟨fG,fH,b2⟩:=d.ptr 34 rfl bV
 refine atk 7 (some 121) b (d.sx [0,1,2,3,4,10,11,12,13,14,15,16,17,18] (rg 35)) rfl (λw _=>mP (E:=32) (sz:=1) rfl b2 rfl kr rfl bV kr kr w) λa b=>atk 8 (some 122) b (d.sx [0,1,2,3,4,10,11,12,13,14,15,16,17,18] (rg 35)) rfl (qO (t:=(fInt .u64)) 34 0 (v:=vu ch) rfl rfl b2 rfl bV kr kr kr) λa b=>jN [9] [0,5,6,117,118,123,124] (L':=[k35 f,k32 j,(6,vi (i64.wrap (tdiv (i64.wrap (e-1)) 5))),(117,pt aj 0),(118,vi (i64.wrap (tdiv (i64.wrap (e-1)) 5))),(123,vi (i64.wrap ch)),(124,pt j 7)]) (listed':=(mV 15 2047)) (fuel:=4) b (d.sx [0,1,2,3,4,10,11,12,13,14,15,16,17,18] (rg 35)) kr (by intro c a w t v h; cases t<;>exact h) kr rfl λa b=>?_
 refine atk 11 (some 125) b (d.sx [0,1,2,3,4,10,11,12,13,14,15,16,17,18] (rg 35)) rfl (vld 3 7 0) λa b=>bd H λc5 bW H=>?_
 obtain ⟨fI,fJ,b3⟩:=d.ptr 34 rfl bW
 refine atk 12 (some 126) b (d.sx [0,1,2,3,4,10,11,12,13,14,15,16,17,18] (rg 35)) rfl (λw _=>mP (E:=32) (sz:=1) rfl b3 rfl kr rfl bW kr kr w) λa b=>atk 13 (some 127) b (d.sx [0,1,2,3,4,10,11,12,13,14,15,16,17,18] (rg 35)) rfl (qO (t:=(fInt .u64)) 34 0 (v:=vu c5) rfl rfl b3 rfl bW kr kr kr) λa b=>ago 14 b rfl (bd H λbF dA H=>wcS 2 (rg 19) b d (λd=>A0 N c4 (i64.wrap (tdiv (i64.wrap (e-1)) 5)) (i64.wrap ch) c5 eN eO aj (d.sbK (rg 4)) dA) ?_)
 rintro _ κ w a ⟨ci,cj,rfl,h2⟩ b hB
 have d:=(hB _ _ h2).cC (C':=[k34 aj bF ci cj,.ext (ownX (fInt .u64) 32 ci cj bF.beats),.ext (arrX j6 k bU (set aZ (toNat (i64.wrap (tdiv (i64.wrap (e-1)) 5))) (some bB))),k4p j aw aB aD aE aF,.box f 87 [si a1,si a2,si a3,si a4,si a5,si a6,sl p8 a7.Cuts.length c9,sl Z a7.Nodes.length aa,sl l O.length o,sl p P.length q,sl s Q.length u,sb aT,k3v aj,sp ax,sp ay,su ak,k4d k,ei 4 al,ei 4 ab,sm x,sm z,sl A R.length B,sm V,su aU,sp az,si aL,si aM,sl C S.length D,sl F T.length G,su aO,sb aP,sb aV,sb aW,sl W Y.length X,sl I U.length J],k45 A R.length B,k46 C S.length D,k46 F T.length G,k3j W Y.length X,k3n I U.length J,.ext (ownX (fInt .i64) 3 l o O),.ext (ownX jM 4 p q P),.ext (ownX (fInt .i64) 3 s u Q),k47 ax ar aX,k48 ay au aY,mx x am an,mx z af ah,mx V ao aq,k3p az av a0])
 refine ⟨notE,?_⟩
 refine kN ?_
 obtain ⟨cp,d⟩:=d.foldI (ck:=jP) (fs:=jO) aj (ci,cj) bF [0,1] (ra 2 17) (rg 4) dc kr kr
 refine eM _ _ (qs λ_ eP=>rgS d [12] ?_)
 have d:=d.drew
 have hX:=d.fx
 refine jN [0,1,2,3,5] [0,5,6,129,132,134] (L':=[k35 f,k32 j,(6,vi (i64.wrap (tdiv (i64.wrap (e-1)) 5))),(129,pt f 0),(132,pt f 15),(134,pt j 7)]) (listed':=(mV 13 47)) (fuel:=8) b hX kr (by intro c a w t v h; cases t<;>exact h) kr rfl λa b=>atk 4 (some 133) b hX rfl (vld 3 15 0) λa b=>atk 6 (some 135) b hX rfl (vld 2 7 0) λa b=>bd H λaS bX H=>?_
 obtain ⟨fK,fL,b4⟩:=d.ptr 38 rfl bX
 refine atk 7 (some 136) b (d.sx [0,1,2,3,9,10,11,12,13,14,15,16,17] (rg 39)) rfl (λw _=>mP (E:=32) (sz:=1) rfl b4 rfl kr rfl bX kr kr w) λa b=>atk 8 (some 137) b (d.sx [0,1,2,3,9,10,11,12,13,14,15,16,17] (rg 39)) rfl (qO (t:=(fInt .u64)) 38 0 (v:=vu aS) rfl rfl b4 rfl bX kr kr kr) λa b=>anp [9,10,11] [0,5,6,138,140] b (d.sx [0,1,2,3,9,10,11,12,13,14,15,16,17] (rg 39)) λa b=>?_
 refine ago 12 b rfl (wst b d 3 15 1 [su (if aS > ak then aS else ak)] (sgN 1 jD) λa w b d=>⟨notE,?_⟩)
 refine kN (eP _ _ (qs λ_ eR=>rgS d [17] ?_))
 have d:=d.drew
 refine jN [0,1,2,3,4,5,8,14,15] [0,142,144,146,149,156] (L':=[k35 f,(142,vi (i64.wrap (tdiv (i64.wrap (e-1)) 5))),(144,vi (i64.wrap (tdiv (i64.wrap (e-1)) 5))),(146,pt f 24),(149,pt j 7),(156,pt f 24)]) (listed':=(mV 18 49471)) (fuel:=9) b (d.sx [0,1,2,3,9,10,11,12,13,14,15,16,17] (rg 39)) kr (by intro c a w t v h; cases t<;>exact h) kr rfl λa b=>?_
 refine bd H λK cq H=>atk 6 (some 147) b (d.sx [0,1,2,3,9,10,11,12,13,14,15,16,17] (rg 39)) rfl (λw _=>lU (E:=3) (sz:=1) (n:=4) rfl rfl (i:=i64.wrap (tdiv (i64.wrap (e-1)) 5)) rfl (m4 cq (d.get 28 rfl)) kr kr w) λa b=>atk 7 (some 148) b (d.sx [0,1,2,3,9,10,11,12,13,14,15,16,17] (rg 39)) rfl (rZ (t:=(fInt .i64)) 3 18 (v:=vi K) rfl rfl rfl rfl cq rfl rfl kr kr) λa b=>?_
 refine atk 9 (some 150) b (d.sx [0,1,2,3,9,10,11,12,13,14,15,16,17] (rg 39)) rfl (vld 2 7 0) λa b=>bd H λL bY H=>?_
 obtain ⟨fM,fN,b5⟩:=d.ptr 38 rfl bY
 refine atk 10 (some 151) b (d.sx [0,1,2,3,9,10,11,12,13,14,15,16,17] (rg 39)) rfl (λw _=>mP (E:=32) (sz:=1) rfl b5 rfl kr rfl bY kr kr w) λa b=>atk 11 (some 152) b (d.sx [0,1,2,3,9,10,11,12,13,14,15,16,17] (rg 39)) rfl (qO (t:=(fInt .u64)) 38 0 (v:=vu L) rfl rfl b5 rfl bY kr kr kr) λa b=>jN [12,13] [0,142,154,156] (L':=[k35 f,(142,vi (i64.wrap (tdiv (i64.wrap (e-1)) 5))),(154,vi (if i64.wrap L > K then i64.wrap L else K)),(156,pt f 24)]) (listed':=(mV 18 65535)) (fuel:=2) b (d.sx [0,1,2,3,9,10,11,12,13,14,15,16,17] (rg 39)) kr (by intro c a w t v h; cases t<;>exact h) kr rfl λa b=>?_
 refine bd H λfO cr H=>atk 16 (some 157) b (d.sx [0,1,2,3,9,10,11,12,13,14,15,16,17] (rg 39)) rfl (λw _=>lU (E:=3) (sz:=1) (n:=4) rfl rfl (i:=i64.wrap (tdiv (i64.wrap (e-1)) 5)) rfl (m4 cr (d.get 28 rfl)) kr kr w) λa b=>ago 17 b rfl (lK (t:=(fInt .i64)) (y:=(if i64.wrap L > K then i64.wrap L else K)) (v:=vi (if i64.wrap L > K then i64.wrap L else K)) b d kr 3 18 (s':=[si a1,si a2,si a3,si a4,si a5,si a6,sl p8 a7.Cuts.length c9,sl Z a7.Nodes.length aa,sl l O.length o,sl p P.length q,sl s Q.length u,sb aT,k3v aj,sp ax,sp ay,su (if aS > ak then aS else ak),k4d k,ei 4 al,ei 4 (set ab (toNat (i64.wrap (tdiv (i64.wrap (e-1)) 5))) (if i64.wrap L > K then i64.wrap L else K)),sm x,sm z,sl A R.length B,sm V,su aU,sp az,si aL,si aM,sl C S.length D,sl F T.length G,su aO,sb aP,sb aV,sb aW,sl W Y.length X,sl I U.length J]) (C':=[k4m aj cp bF,.ext (arrX j6 k bU (set aZ (toNat (i64.wrap (tdiv (i64.wrap (e-1)) 5))) (some bB))),k4p j aw aB aD aE aF,.box f 87 [si a1,si a2,si a3,si a4,si a5,si a6,sl p8 a7.Cuts.length c9,sl Z a7.Nodes.length aa,sl l O.length o,sl p P.length q,sl s Q.length u,sb aT,k3v aj,sp ax,sp ay,su (if aS > ak then aS else ak),k4d k,ei 4 al,ei 4 (set ab (toNat (i64.wrap (tdiv (i64.wrap (e-1)) 5))) (if i64.wrap L > K then i64.wrap L else K)),sm x,sm z,sl A R.length B,sm V,su aU,sp az,si aL,si aM,sl C S.length D,sl F T.length G,su aO,sb aP,sb aV,sb aW,sl W Y.length X,sl I U.length J],k45 A R.length B,k46 C S.length D,k46 F T.length G,k3j W Y.length X,k3n I U.length J,.ext (ownX (fInt .i64) 3 l o O),.ext (ownX jM 4 p q P),.ext (ownX (fInt .i64) 3 s u Q),k47 ax ar aX,k48 ay au aY,mx x am an,mx z af ah,mx V ao aq,k3p az av a0]) rfl rfl kr rfl rfl cr rfl rfl kr kr kr kr λa w b d=>?_)
 have d:=d.add (m:=ml (set ab (toNat (i64.wrap (tdiv (i64.wrap (e-1)) 5))) (if i64.wrap L > K then i64.wrap L else K)) 4) (List.length_set.trans (d.get 28 rfl))
 refine ⟨notE,?_⟩
 refine kN (eR _ _ (rl (wp 1 [158] b λa b=>bd H λbf dB H=>?_)))
 have cs:=d.segs 3 rfl
 refine wc (wcS 10 [3,7,10,0,12,13,1,15,16,17,2,4,5,6,8,9,11,14] b d (λd=>uV N a1 a3 a4 a7 P aT (some bF) aX aY (if aS > ak then aS else ak) (set aZ (toNat (i64.wrap (tdiv (i64.wrap (e-1)) 5))) (some bB)) al (set ab (toNat (i64.wrap (tdiv (i64.wrap (e-1)) 5))) (if i64.wrap L > K then i64.wrap L else K)) bo R bq aU a0 T aO aP aV aW Y [vi a2] (flat [si a5,si a6]) p8 c9 Z aa [.slice l O.length o] p q [.slice s Q.length u] (some aj) cp ax ar ay au k bU [.map x] z af ah A B V ao aq az av (flat [si aL,si aM,sl C S.length D]) F G W X [.slice I U.length J] f ((d.regr 0 [(false,4),(true,2),(false,19),(true,3),(false,7)] rfl).sbK [25,26,27,28,0,31,32,33,35,36]) dB) ?_)
 rintro _ κ w a ⟨c6,dC,c7,dD,c8,dE,da,dF,db,eS,eT,dd,dG,de,df,rfl,h2⟩ b hB
 have d:=(hB _ _ h2).unregrK 0 [(false,4),(true,2),(false,19),(true,3),(false,7)] (s':=k2l a1 a2 a3 a4 a5 a6 p8 a7 c9 Z aa l O.length o p P.length q s Q.length u bf.1 c6 c7 c8 bf.u4.1 da bf.u4.2.2.1 (set ab (toNat (i64.wrap (tdiv (i64.wrap (e-1)) 5))) (if i64.wrap L > K then i64.wrap L else K)) x z A R.length B db bf.u8.1 dd aL aM C S.length D F T.length G aO aP bf.u8.2.2.1 bf.u8.2.2.2.1 de bf.u8.u4.length df I U.length J) cs rfl
 refine nl ?_
 cases H
 exact j7 b d (mL results29) ⟨p8,c9,Z,aa,l,o,p,q,s,u,c6,dC,c7,dD,c8,dE,da,dF,x,am,an,z,af,ah,A,B,db,eS,eT,dd,dG,C,D,F,G,de,df,I,J,rfl,d.sp [0,11,12,13,1,14,15,2,16,3,4,5,6,17,7,8,9] [29,30,0,1,4,34,35,36,2,38,39,3,41]⟩
theorem AX (N){Ms}{κ0}{w0}(K)(L)(O)(a6)(d:j5)(P)(Q)(R)(S)(j:(List i8))(T)(U)(k:(List i9))(V)(W)(X)(A)(B)(Y)(Z)(l)(n)(e)(C)(y)(f)(o)(D)(E)(p)(F)(G)(q)(s)(g)(I)(z)(h)(t)(u)(i)(J)(hB:SB Ms κ0 w0 [.box J 87 [si K,(1,A),si L,(1,B),si O,si a6,sl Y d.Cuts.length Z,sl l d.Nodes.length n,(6,e),sp C,su Q,(12,f),sm o,sm p,sl q j.length s,(1,g),su T,sp I,(8,h),sl t k.length u,(1,i)],k45 q j.length s,k3j t k.length u,k48 C y P,mx o D E,mx p F G,k3p I z U] [k3a Y Z d.Cuts,k3b l n d.Nodes,k49 o D E R,k4a p F G S,k4b q s j,k3k t u k]){r}(H:M.uE N K L O a6 d P Q R S j T U k V W X=some r) :
    Calls Tryz.prog 18 #[pt J 0,vi V,.string (W),vu X] w0 (kP Ms κ0 w0 λv κ w=>∃ak aG aa al am ab an ao ad ae aq aH af ah,v=vi r.1∧SS Ms κ0 w0 κ w [.box J 87 [si K,(1,A),si L,(1,B),si O,si r.2.1,sl Y d.Cuts.length Z,sl l d.Nodes.length n,(6,e),sp ak,su r.2.2.2.1,(12,f),sm aa,sm ab,sl ad r.u4.2.2.1.length ae,(1,g),su r.u4.2.2.2.1,sp aq,(8,h),sl af r.u8.2.length ah,(1,i)],k45 ad r.u4.2.2.1.length ae,k3j af r.u8.2.length ah,k48 ak aG r.2.2.1,mx aa al am,mx ab an ao,k3p aq aH r.u8.1] [k49 aa al am r.u4.1,k4a ab an ao r.u4.2.1,k4b ad ae r.u4.2.2.1,k3k af ah r.u8.2]):=by
 have c:=hB.hS
 have aZ:=c.fresh
 refine en func18 rfl ntmps18 λa b=>?_
 unfold M.uE at H
 refine qr λ_ aM=>wp 1 (rg 4) b λa b=>aM _ _ (qs λ_ aO=>qr λ_ aP=>wp 6 [0,1,2,3,11,14] b λa b=>wcg b (wld b c 0 2 0 λa b=>wp 2 [0,1,2,3,17] b λa b=>aP _ _ (bc b H (λhb H=>?_) λhb H=>?_)))
 refine qr λ_ aQ=>wp 1 [8] b λa b=>aQ _ _ (rt ?_)
 cases H
 exact j7 b c (l4 results18 (rvt b)) ⟨C,y,o,D,E,p,F,G,q,s,I,z,t,u,rfl,c.sp (rg 7) (ra 2 4)⟩
 refine sk (aO _ _ (qr λ_ aR=>wp 5 [18,22] b λa b=>?_))
 have c:=c.add (m:=Ro.mp jG.ty none 0 ([]:List jB)) (Ro.nil jG.ty _ _)
 refine bd H λx aI H=>?_
 have ai:=c.segs 0 rfl
 refine wc (wcS 7 (rg 7) b c (λc=>vH N K O a6 d P Q R S j T U k (i8.mk V true W X ([]:List jB)) (flat [(1,A),si L,(1,B)]) Y Z l n e C y f o D E p F G q s g I z h t u i none 0 J ((c.regr 0 [(false,1),(true,3),(false,17)] rfl).sbK [1,2,3,4,5,6,0]) aI) ?_)
 rintro _ κ w a ⟨ar,aJ,au,aS,aT,av,aU,aV,aw,ax,ay,aL,az,aA,rfl,h2⟩ b hB
 have c:=(hB _ _ h2).unregrK 0 [(false,1),(true,3),(false,17)] (s':=[si K,(1,A),si L,(1,B),si O,si x.1,sl Y d.Cuts.length Z,sl l d.Nodes.length n,(6,e),sp ar,su x.2.2.1,(12,f),sm au,sm av,sl aw x.u4.2.1.length ax,(1,g),su x.u4.2.2.1,sp ay,(8,h),sl az x.u8.length aA,(1,i)]) ai rfl
 refine aR _ _ (qr λ_ aW=>wp 1 [8] b λa b=>aW _ _ (rt ?_))
 cases H
 exact j7 b c (l4 results18 (rvt b)) ⟨ar,aJ,au,aS,aT,av,aU,aV,aw,ax,ay,aL,az,aA,rfl,c.sp (rg 7) (rg 4)⟩
theorem w8 (N){Ms}{κ0}{w0}(a1)(a3)(a4)(a5)(a6)(s:j5)(e:(List Bool))(O)(ba)(aB)(aO)(aP)(aD)(C)(j)(aQ)(aR)(ak:(List i8))(aS)(aT)(aU)(k:(List Int))(D)(E)(P)(Q)(al:(List i9))(aE)(R)(am)(J)(p8)(c9)(t)(u)(l)(g)(h)(n)(aV)(ay)(F)(G)(aF)(S)(f)(I)(T)(U)(V)(W)(X)(Y)(Z)(aa)(o)(K)(L)(aG)(ab)(p)(x)(y)(ad)(ae)(q)(aH)(aI)(A)(hB:SB Ms κ0 w0 (k2n A a1 J a3 a4 a5 a6 p8 s c9 t u l g e.length h n O aV F aF aP f C j T W Z ak.length aa o aT aG p x k.length y D E P Q ad al.length ae q (ownX jM 4 g h e) ay ba G aB S aO (arrX j6 f I aD) U V X Y K L ab aU) [k3a p8 c9 s.Cuts,k3b t u s.Nodes,(ml f 4),(ml C 4),(ml j 4),k49 T U V aQ,k4a W X Y aR,k4b Z aa ak,k4c o K L aS,k3m x y k,k3k ad ae al,k3l aH aI am]){r}(H:M.rU N a1 a3 a4 a5 a6 s e O ba aB aO aP aD C j aQ aR ak aS aT aU k D E P Q al aE R am=some r) :
    Calls Tryz.prog 17 #[pt A 0,vi aE,vu R,.slice aH am.length aI] w0 (kP Ms κ0 w0 λv κ w=>∃b5 bM b6 bN b7 bO aM bP be bf bg bh bi bj bl bm bn bo bq b8 bQ br bt,v=vi r.1∧SS Ms κ0 w0 κ w (k2n A a1 J a3 a4 a5 r.2.1 p8 s c9 t u l g e.length h n r.2.2.1 b5 b6 b7 r.u4.2.2.1 aM r.u8.1 j be bh bl r.u8.2.2.2.1.length bm bn r.u8.u4.2.1 b8 p x k.length y D E r.u8.u4.2.2.2.1 r.u8.u8.1 br r.u8.u8.2.length bt q (ownX jM 4 g h e) bM r.2.2.2.1 bN r.u4.1 bO r.u4.2.1 (arrX j6 aM bP r.u4.2.2.2.1) bf bg bi bj bo bq bQ r.u8.u4.2.2.1) [(ml aM 4),(ml r.u8.1 4),k49 be bf bg r.u8.2.1,k4a bh bi bj r.u8.2.2.1,k4b bl bm r.u8.2.2.2.1,k4c bn bo bq r.u8.u4.1,k3k br bt r.u8.u8.2]):=by
 have c:=hB.hS
 have cr:=c.fresh
 refine en func17 rfl ntmps17 λa b=>?_
 unfold M.rU at H
 refine qr λ_ ch=>wp 1 (rg 4) b λa b=>ch _ _ (qs λ_ ci=>qr λ_ cj=>wp 6 [0,1,2,3,11,14] b λa b=>wcg b (wld b c 0 2 0 λa b=>wp 2 [0,1,2,3,17] b λa b=>cj _ _ (bc b H (λhb H=>?_) λhb H=>?_)))
 refine qr λ_ cl=>wp 1 [8] b λa b=>cl _ _ (rt ?_)
 cases H
 exact j7 b c (l4 results17 (rvt b)) ⟨aV,ay,F,G,aF,S,f,I,T,U,V,W,X,Y,Z,aa,o,K,L,aG,ab,ad,ae,rfl,c.sp (rg 12) [2,3,5,6,7,8,10]⟩
 refine sk (ci _ _ (qs λ_ cm=>qr λ_ cn=>bd H λco af H=>k8 (λa w=>∃κ,Fr (41) [] [k35 A,k2z aE,(2,vu R),k43 aH am.length aI,(25,vb co)] a∧SS Ms κ0 w0 κ w (k2n A a1 J a3 a4 a5 a6 p8 s c9 t u l g e.length h n O aV F aF aP f C j T W Z ak.length aa o aT aG p x k.length y D E P Q ad al.length ae q (ownX jM 4 g h e) ay ba G aB S aO (arrX j6 f I aD) U V X Y K L ab aU) [k3a p8 c9 s.Cuts,k3b t u s.Nodes,(ml f 4),(ml C 4),(ml j 4),k49 T U V aQ,k4a W X Y aR,k4b Z aa ak,k4c o K L aS,k3m x y k,k3k ad ae al,k3l aH aI am]∧True) ?_ ?_))
 refine wp 4 [0,1,2,3,21] b λa b=>bs af (λhb af=>?_) λhb af=>?_
 have b:=b.bv 21 hb
 refine wp 4 [0,1,2,3,25] b λa b=>nl ?_
 cases af
 exact ⟨_,b.kp [0,1,2,3,25],c.sp (rg 12) (rg 12),ja⟩
 have b:=b.bv 21 hb
 refine wp 4 [0,1,2,3,25] b λa b=>nl ?_
 cases af
 exact ⟨_,b.kp [0,1,2,3,25],c.sp (rg 12) (rg 12),ja⟩
 rintro a w ⟨κ,b,c,-⟩
 refine cn _ _ (bc b H (λhb H=>?_) λhb H=>?_)
 refine qr λ_ cp=>wp 1 [8] b λa b=>cp _ _ (rt ?_)
 cases H
 exact j7 b c (l4 results17 (rvt b)) ⟨aV,ay,F,G,aF,S,f,I,T,U,V,W,X,Y,Z,aa,o,K,L,aG,ab,ad,ae,rfl,c.sp (rg 12) [2,3,5,6,7,8,10]⟩
 refine sk (cm _ _ (qs λ_ cq=>bd H λaJ ho H=>?_))
 obtain ⟨ah,bZ,c⟩:=c.optS 4 rfl ho
 rw [bZ] at c
 try rw [bZ] at b
 obtain ⟨⟨aW,aX⟩,c⟩:=c.unfI (ck:=jP) (fs:=jO) 4 rfl
 refine rl (wp 6 [0,3,26,27,28,31] b λa b=>wc (wld b c 2 12 0 λa b=>bd H λaY b9 H=>wc (wcS 2 (rg 13) b c (λc=>tI N aJ aW aX ah (c.sbK (rg 4)) b9) ?_)))
 rintro _ κ w a ⟨rfl,h2⟩ b hB
 have c:=hB _ _ h2
 refine jE (L':=[k35 A,(26,pt A 0),(27,vi aE),(34,vu (if aY > R then aY else R)),(35,.slice aH am.length aI)]) 2 [0,26,27,34,35] b kr λa b=>?_
 have c:=c.add (m:=Ro.mp jG.ty none 0 ([]:List jB)) (Ro.nil jG.ty _ _)
 have c:=c.addNil 48 6
 refine bd H λb0 ca H=>wc (kJ (ty:=jG.ty) b c kr 0 0 16 rfl rfl rfl kr kr rfl rfl rfl ca kr (i:=Tryz.t48) (z := .agg (flat (k0k empty)).toArray) kr kr kr λb1 b2 κ a w b c=>wp 1 [0,26,37] b λa b=>bd H λd cb H=>?_)
 have bw:=c.segs 3 rfl
 refine wc (wcS 7 [3,4,5,8,10,11,13,0,1,2,6,7,9,12] b c (λc=>vH N a1 a5 a6 s aO aP aQ aR ak aT aU al (i8.mk aE false empty (if aY > R then aY else R) b0) (flat [(1,J),si a3,si a4]) p8 c9 t u (flat [(1,l),sl g e.length h,(1,n),sb O,k3v ah,sp F]) aF S (flat [k4d f,ei 4 C,ei 4 j]) T U V W X Y Z aa [.map o] aG ab (flat [(3,p),sl x k.length y,su D,sb E,sb P,sb Q]) ad ae q b1 b2 A ((c.regr 0 [(false,1),(true,3),(false,4),(true,6),(false,2),(true,3),(false,6),(true,6),(false,2)] rfl).sbK [6,7,11,12,13,16,0]) cb) ?_)
 rintro _ κ w a ⟨aZ,bx,an,b3,b4,ao,bz,bA,aq,ar,a0,a2,az,aA,rfl,h2⟩ b hB
 have c:=((hB _ _ h2).unregrK 0 [(false,1),(true,3),(false,4),(true,6),(false,2),(true,3),(false,6),(true,6),(false,2)] (s':=[si a1,(1,J),si a3,si a4,si a5,si d.1,sl p8 s.Cuts.length c9,sl t s.Nodes.length u,(1,l),sl g e.length h,(1,n),sb O,k3v ah,sp F,sp aZ,su d.2.2.1,k4d f,ei 4 C,ei 4 j,sm an,sm ao,sl aq d.u4.2.1.length ar,sm o,su d.u4.2.2.1,sp a0,(3,p),sl x k.length y,su D,sb E,sb P,sb Q,sl az d.u8.length aA,(1,q)]) bw rfl).cC (C':=[.box A 87 [si a1,(1,J),si a3,si a4,si a5,si d.1,sl p8 s.Cuts.length c9,sl t s.Nodes.length u,(1,l),sl g e.length h,(1,n),sb O,k3v ah,sp F,sp aZ,su d.2.2.1,k4d f,ei 4 C,ei 4 j,sm an,sm ao,sl aq d.u4.2.1.length ar,sm o,su d.u4.2.2.1,sp a0,(3,p),sl x k.length y,su D,sb E,sb P,sb Q,sl az d.u8.length aA,(1,q)],k45 aq d.u4.2.1.length ar,k3j az d.u8.length aA,k48 aZ bx d.2.1,mx an b3 b4,mx ao bz bA,k3p a0 a2 d.u4.2.2.2.1,k3z b1 b0.length b2,k34 ah aJ aW aX,.ext (ownX (fInt .u64) 32 aW aX aJ.beats),.ext (ownX jM 4 g h e),k47 F G aB,.ext (arrX j6 f I aD),mx o K L])
 refine nl ?_
 obtain ⟨bR,c⟩:=c.foldI (ck:=jP) (fs:=jO) ah (aW,aX) aJ [8,9] [0,1,2,3,4,5,6,7,10,11,12,13] (ra 6 4) dc kr kr
 refine cq _ _ (qr λ_ cc=>wp 1 [39] b λa b=>bd H λB bS H=>?_)
 have a8:=c.segs 1 rfl
 refine wc (wcS 10 [1,3,9,0,10,4,11,6,12,7,2,5,8] b c (λc=>uV N a1 a3 a4 s e O (some aJ) aB d.2.1 d.2.2.1 aD C j d.u4.1 d.u4.2.1 aS d.u4.2.2.1 d.u4.2.2.2.1 k D E P Q d.u8 J (flat [si a5,si d.1]) p8 c9 t u l g h n (some ah) bR F G aZ bx f I [.map an] ao bz bA aq ar o K L a0 a2 p x y az aA q A ((c.regr 0 [(false,4),(true,2),(false,27)] rfl).sbK [10,11,12,13,14,1,2,18,19,3]) bS) ?_)
 rintro _ κ w a ⟨bB,bT,bC,bU,bD,bV,bE,bW,bF,cd,ce,bG,bX,bH,bI,rfl,h2⟩ b hB
 have c:=(hB _ _ h2).unregrK 0 [(false,4),(true,2),(false,27)] (s':=[si a1,(1,J),si a3,si a4,si a5,si d.1,sl p8 s.Cuts.length c9,sl t s.Nodes.length u,(1,l),sl g e.length h,(1,n),sb B.1,sp bB,sp bC,sp bD,su B.u4.1,k4d bE,ei 4 B.u4.2.2.1,ei 4 j,sm an,sm ao,sl aq d.u4.2.1.length ar,sm bF,su B.u8.1,sp bG,(3,p),sl x k.length y,su D,sb E,sb B.u8.2.2.1,sb B.u8.2.2.2.1,sl bH B.u8.u4.length bI,(1,q)]) a8 rfl
 refine cc _ _ (qr λ_ cg=>wp 1 [8] b λa b=>cg _ _ (rt ?_))
 cases H
 exact j7 b c (l4 results17 (rvt b)) ⟨bB,bT,bC,bU,bD,bV,bE,bW,an,b3,b4,ao,bz,bA,aq,ar,bF,cd,ce,bG,bX,bH,bI,rfl,c.sp [0,10,1,2,3,4,5,6,11,7,8,9] [0,1,4,5,6,2,3]⟩
theorem AW (N){K}{L}{D}(k)(h)(l)(T)(O:(List i9))(i)(U)(E)(j)(u)(x)(d)(e)(F:SB K L D (k2o e k h l i U j u O.length x d E T) [k3k u x O]){r}(H:M.t7 N k h l T O=some r) :
    Calls Tryz.prog 30 #[pt e 0] D (kP K L D λv κ w=>∃ab V Q R,v=vi r.1∧SS K L D κ w (k2o e k h l i ab j Q r.2.2.length R d V r.2.1) [k3k Q R r.2.2]):=by
 have c:=F.hS
 have ar:=c.fresh
 refine en func30 rfl ntmps30 λa b=>?_
 unfold M.t7 at H
 refine qr λ_ ad=>wp 1 [0] b λa b=>ad _ _ (qs λ_ ae=>qr λ_ af=>wp 6 [0,6,9] b λa b=>wcg b (wld b c 0 2 0 λa b=>wp 2 [0,12] b λa b=>af _ _ (bc b H (λhb H=>?_) λhb H=>?_)))
 refine qr λ_ ah=>wp 1 [2] b λa b=>ah _ _ (rt ?_)
 cases H
 exact j7 b c (l4 results30 (rvt b)) ⟨U,E,u,x,rfl,c.sp [0,1,2] [0]⟩
 refine sk (ae _ _ (qs λ_ ai=>qr λ_ aj=>(wp 3 [0,15] b λa b=>wc (wld b c 0 1 0 λa b=>wp 1 [0,16,17] b λa b=>(aj _ _ (bk (jT (n:=N) (λn a w=>∃κ G t I,∃o:List i9,∃p q f,Fr (30) [] [k35 e,(16,vi h),(17,vi f)] a∧SS K L D κ w (k2o e k h l i G j p o.length q d t I) [k3k p q o]∧M.oW N n k h l I o f=some r) ?_ ?_)))))))
 exact ⟨_,U,E,T,O,u,x,0,b.kp [0,16,17],c.sp [0,1,2] [0],H⟩
 rintro n a w ⟨κ,G,t,I,o,p,q,f,b,c,H⟩
 rcases n with _|P
 simp [M.oW] at H
 simp only [M.oW] at H
 refine qr λ_ ak=>wp 1 [0,16,17,18] b λa b=>ak _ _ (qs λ_ al=>bc b H (λhb H=>?_) λhb H=>?_)
 refine sk (al _ _ (qs λ_ am=>bk (qr λ_ an=>(jE (L':=[k35 e,(3,vi f),(16,vi h),(17,vi f)]) 2 [0,3,16,17] b kr λa b=>an _ _ (bd H λs ho H=>?_)))))
 obtain ⟨g,S,c⟩:=c.optS 2 rfl ho
 rw [S] at c
 try rw [S] at b
 obtain ⟨⟨y,z⟩,c⟩:=c.unfI (ck:=jP) (fs:=jO) 2 rfl
 refine rl (wp 5 [0,16,17,20,21,24] b λa b=>wc (wld b c 2 4 0 λa b=>bd H λao W H=>wc (wcS 2 (rg 4) b c (λc=>tI N s y z g (c.sbK (rg 4)) W) ?_)))
 rintro _ κ w a ⟨rfl,X⟩ b F
 have c:=F _ _ X
 refine wp 1 [0,16,17,20,21,27] b λa b=>?_
 have c:=c.add (m:=Ro.mp jG.ty none 0 ([]:List jB)) (Ro.nil jG.ty _ _)
 have c:=c.add (m:=Ro.mp (fInt .u64).ty none 0 ([]:List Int)) (Ro.nil (fInt .u64).ty _ _)
 refine bd H λA Y H=>?_
 have J:=c.segs 2 rfl
 refine wc (wcS 2 [2,3,0,1] b c (λc=>lJ N k o f (jF.mk 9 0 0 ao empty empty ([]:List jB) ([]:List Int) (jU.mk 0 0 0 0 0 empty)) (flat [si h,si l,(9,i),k3v g,(29,j)]) p q d none 0 none 0 e ((c.regr 0 [(false,1),(true,5),(false,2)] rfl).sbK [6,1,0]) Y) ?_)
 rintro _ κ w a ⟨B,C,rfl,X⟩ b F
 have c:=((F _ _ X).unregrK 0 [(false,1),(true,5),(false,2)] (s':=[si k,si h,si l,(9,i),k3v g,(29,j),sl B A.length C,(1,d)]) J rfl).cC (C':=[.box e 87 [si k,si h,si l,(9,i),k3v g,(29,j),sl B A.length C,(1,d)],k3j B A.length C,k34 g s y z,.ext (ownX (fInt .u64) 32 y z s.beats)])
 refine nl ?_
 obtain ⟨Z,c⟩:=c.foldI (ck:=jP) (fs:=jO) g (y,z) s [2,3] [0,1] (ra 3 4) dc kr kr
 refine am _ _ (rl (wp 2 [0,16,17] b λa b=>nl ?_))
 exact ⟨P,jb _,_,(some g),Z,(some s),A,B,C,i64.wrap (f+1),b.kp [0,16,17],c.sp [1,2,0] [0],H⟩
 refine xt (ai _ _ (qr λ_ aq=>wp 1 [2] b λa b=>aq _ _ (rt ?_)))
 cases H
 exact j7 b c (l4 results30 (rvt b)) ⟨G,t,p,q,rfl,c.sp [0,1,2] [0]⟩
end Go.Cf
