/- The walks: each function returns what its model says. Printed by a program of ours. -/
import Derived.Test.YtcplebnnanjngaaGreatZSh
import Derived.Test.YtcplebnnanjngaaGreatZM1
import Derived.Test.YtcplebnnanjngaaGreatZWs
import Derived.Test.YtcplebnnanjngaaGreatZWo
import Derived.Test.YtcplebnnanjngaaGreatZWi
import Derived.Test.YtcplebnnanjngaaGreatZWp
import Derived.Test.YtcplebnnanjngaaGreatZWg1
import Derived.Test.YtcplebnnanjngaaGreatZWg3
import Derived.Test.YtcplebnnanjngaaGreatZWg4
import Derived.Test.YtcplebnnanjngaaGreatZWg5
import Derived.Test.YtcplebnnanjngaaGreatZWg6
import Derived.Test.YtcplebnnanjngaaGreatZWg7
namespace Go.Cf
open Go Go.Proofs
open _root_.Int(toNat tdiv tmod)
open _root_.List(set replicate)
open _root_.ByteArray(empty)
open Go.IntKind(i64 u64)
set_option linter.unusedVariables false
set_option maxRecDepth 20000
set_option maxHeartbeats 8000000
theorem t6 (N){Ms}{κ0}{w0}(a1)(a2)(a3)(a4)(a5)(a6)(g:jA)(h:(List Int))(x:(List Bool))(i:(List Int))(S)(aH)(aI)(aJ)(aw)(aL)(y)(j)(aM)(aO)(z:(List j3))(aP)(aA)(aQ)(T)(ax)(A:(List Int))(B:(List Int))(U)(V)(W)(X)(Y:(List i9))(q:(List jM))(bx)(b:jK)(p8)(c9)(C)(D)(k)(l)(E)(F)(m)(n)(aR)(ak)(aS)(al)(ay)(am)(o)(an)(G)(Z)(aa)(I)(ab)(ad)(J)(K)(ae)(af)(ah)(az)(ao)(L)(O)(P)(Q)(ai)(aj)(s)(t)(aq)(ar)(au)(av)(R)(hB:SB Ms κ0 w0 (k1v R a1 a2 a3 a4 a5 a6 p8 (g.Cuts).length c9 C (g.Nodes).length D k h.length l E x.length F m i.length n S aR aS ay aw o y j G I J z.length K ae aA az T ax L A.length O P B.length Q U V W X ai Y.length aj s q.length t (ownX (fInt .i64) 3 k l h) (ownX jN 4 E F x) (ownX (fInt .i64) 3 m n i) ak aH al aI am aJ (arrX j6 o an aL) Z aa ab ad af ah ao aQ) (k1w p8 c9 g.Cuts C D g.Nodes (ml o 4) (ml y 4) (ml j 4) G Z aa aM I ab ad aO J K z ae af ah aP L O A P Q B ai aj Y s t q aq ar b.Vers au av b.Vec)){r}(H:M.pD N a1 a2 a3 a4 a5 a6 g h x i S aH aI aJ aw aL y j aM aO z aP aA aQ T ax A B U V W X Y q bx b=some r) :
    Calls Tryz.prog 15 #[pt R 0,vi bx,.agg (flat (k07 b.Kind b.Id b.N b.TS b.Lo b.Hi aq (b.Vers).length ar au (b.Vec).length av b.Cmd.Kind b.Cmd.DC b.Cmd.Shard b.Cmd.Node b.Cmd.Mode b.Cmd.Key)).toArray] w0 (kQ Ms κ0 w0 λv κ w => ∃cE cF cG cH cI cJ cK cL cM cN ef dM eg dN eh dO cs dP cO cP cQ cR cS cT cU cV cW cX cY ej dR cZ c0 c1 c2 c3 c4 c5 c6,v = .tuple #[]∧SS Ms κ0 w0 κ w (k1v R a1 a2 r.1 r.2.1 r.2.2.1 r.2.2.2.1 cE (r.u4.1.Cuts).length cF cG (r.u4.1.Nodes).length cH cI (r.u4.2.1).length cJ cK (r.u4.2.2.1).length cL cM (r.u4.2.2.2.1).length cN r.u8.1 ef eg eh r.u8.u4.1 cs r.u8.u4.2.2.1 r.u8.u4.2.2.2.1 cO cR cU (r.u8.u8.2.2.1).length cV cW r.u8.u8.u4.1 ej r.u8.u8.u4.2.2.1 r.u8.u8.u4.2.2.2.1 cZ (r.u8.u8.u8.1).length c0 c1 (r.u8.u8.u8.2.1).length c2 r.u8.u8.u8.2.2.1 r.u8.u8.u8.2.2.2.1 r.u8.u8.u8.u4.1 r.u8.u8.u8.u4.2.1 c3 (r.u8.u8.u8.u4.2.2.1).length c4 c5 (r.u8.u8.u8.u4.2.2.2).length c6 (ownX (fInt .i64) 3 cI cJ r.u4.2.1) (ownX jN 4 cK cL r.u4.2.2.1) (ownX (fInt .i64) 3 cM cN r.u4.2.2.2.1) dM r.u8.2.1 dN r.u8.2.2.1 dO r.u8.2.2.2.1 (arrX j6 cs dP r.u8.u4.2.1) cP cQ cS cT cX cY dR r.u8.u8.u4.2.1) (k1x cE cF r.u4.1.Cuts cG cH r.u4.1.Nodes (ml cs 4) (ml r.u8.u4.2.2.1 4) (ml r.u8.u4.2.2.2.1 4) cO cP cQ r.u8.u8.1 cR cS cT r.u8.u8.2.1 cU cV r.u8.u8.2.2.1 cW cX cY r.u8.u8.2.2.2.1 cZ c0 r.u8.u8.u8.1 c1 c2 r.u8.u8.u8.2.1 c3 c4 r.u8.u8.u8.u4.2.2.1 c5 c6 r.u8.u8.u8.u4.2.2.2)):=by
 have f:=hB.hS
 have fc:=f.fresh
 refine en Tryz.func15 rfl Tryz.ntmps15 λa c=>?_
 unfold M.pD at H
 refine qr λ_ e7=>wc (wbx c f (k07 b.Kind b.Id b.N b.TS b.Lo b.Hi aq (b.Vers).length ar au (b.Vec).length av b.Cmd.Kind b.Cmd.DC b.Cmd.Shard b.Cmd.Node b.Cmd.Mode b.Cmd.Key) (sgN 14 jE) λbK a w c f=>e7 _ _ (qs λ_ e8=>qr λ_ e9=>bd H λfa bA H=>kA (λa w => ∃κ:Gh,Fr (71) [] [k2g R,k2a bx,k2d bK,(17,vb fa)] a∧SS Ms κ0 w0 κ w (k1y bK b.Kind b.Id b.N b.TS b.Lo b.Hi aq (b.Vers).length ar au (b.Vec).length av b.Cmd.Kind b.Cmd.DC b.Cmd.Shard b.Cmd.Node b.Cmd.Mode b.Cmd.Key R a1 a2 a3 a4 a5 a6 p8 (g.Cuts).length c9 C (g.Nodes).length D k h.length l E x.length F m i.length n S aR aS ay aw o y j G I J z.length K ae aA az T ax L A.length O P B.length Q U V W X ai Y.length aj s q.length t (ownX (fInt .i64) 3 k l h) (ownX jN 4 E F x) (ownX (fInt .i64) 3 m n i) ak aH al aI am aJ (arrX j6 o an aL) Z aa ab ad af ah ao aQ) (k1w p8 c9 g.Cuts C D g.Nodes (ml o 4) (ml y 4) (ml j 4) G Z aa aM I ab ad aO J K z ae af ah aP L O A P Q B ai aj Y s t q aq ar b.Vers au av b.Vec)∧True) ?_ ?_))
 refine wp 7 [0,1,5,14] c λa c=>bs bA (λhb bA=>?_) λhb bA=>?_
 have c:=c.bv 14 hb
 refine wp 3 [0,1,5,17] c λa c=>nl ?_
 cases bA
 exact ⟨_,c.kp [0,1,5,17],f.sp (rg 18) (rg 15),trivial⟩
 have c:=c.bv 14 hb
 refine wp 3 [0,1,5,17] c λa c=>nl ?_
 cases bA
 exact ⟨_,c.kp [0,1,5,17],f.sp (rg 18) (rg 15),trivial⟩
 rintro a w ⟨κ,c,f,-⟩
 refine e9 _ _ (bc c H (λhb H=>?_) λhb H=>?_)
 refine rt ?_
 cases H
 exact j7 c f (mI Tryz.results15) ⟨p8,c9,C,D,k,l,E,F,m,n,aR,ak,aS,al,ay,am,o,an,G,Z,aa,I,ab,ad,J,K,ae,af,ah,az,ao,L,O,P,Q,ai,aj,s,t,rfl,f.sp (ra 1 17) (rg 13)⟩
 refine sk (e8 _ _ (qr λ_ fb=>wp 9 [0,1,5,6,7] c λa c=>fb _ _ (m9 (λa w => ∃κ cm cn co cp,∃bL:List ByteArray,∃bM bN,∃bO:List Int,∃bP bQ bR bS,∃aX:List Int,∃aY aZ,∃a0:List Bool,∃a8 a9,∃ba:List Int,∃bU cu bV bW cv bX bY cw bZ b0 b1 bB b2 b3 bC be bf b4 b5 cx bg bD bE b6,∃bh:List j3,∃bi bj b7 b8 b9 ca cb cy cc cd bF bG,∃bl:List Int,∃bm bn,∃bo:List Int,∃bq br bH bI ce cg,∃bJ:List i9,∃ch ci,∃bt:List jM,∃bu bw,Fr (71) [] [k2g R] a∧SS Ms κ0 w0 κ w (k1v R a1 a2 cm cn co cp bM bL.length bN bP bO.length bQ bR aX.length bS aY a0.length aZ a8 ba.length a9 bU cu cv cw b1 bB bC be bf bg bi bh.length bj b7 cb cy bF bG bm bl.length bn bq bo.length br bH bI ce cg ch bJ.length ci bu bt.length bw (ownX (fInt .i64) 3 bR bS aX) (ownX jN 4 aY aZ a0) (ownX (fInt .i64) 3 a8 a9 ba) bV bW bX bY bZ b0 (arrX j6 bB b2 b3) b4 b5 bD bE b8 b9 cc cd) (k1x bM bN bL bP bQ bO (ml bB 4) (ml bC 4) (ml be 4) bf b4 b5 cx bg bD bE b6 bi bj bh b7 b8 b9 ca bm bn bl bq br bo ch ci bJ bu bw bt)∧M.nU N a1 a2 cm cn co cp bL bO aX a0 ba bU bW bY b0 b1 b3 bC be cx b6 bh ca cb cd bF bG bl bo bH bI ce cg bJ bt=some r) ?_ ?_)))
 refine bk (qr λ_ ek=>wp 3 [0,5,6,7,25] c λa c=>ek _ _ (bc c H (λhb H=>?_) λhb H=>?_))
 refine rl (wp 1 [0,5,28] c λa c=>wc (wls c f 0 0 14 λa c=>bd H λd dS H=>wc (wcS 16 [1,2,3,4,5,7,8,9,10,11,12,13,14,15,16,17,0,6] c f (λf=>yG N a1 a2 a3 a4 a5 a6 g h x i S aH aI aJ aw aL y j aM aO z aP aQ T ax A B U V W X Y b p8 c9 C D k l E F m n aR ak aS al ay am o an G Z aa I ab ad J K ae af ah [vu aA] az ao L O P Q ai aj [.slice s q.length t] aq ar au av R (f.sbK [0,1,2,3,4,5,6,7,8,9,10,11,13,14]) dS) ?_)))
 rintro _ κ w a ⟨el,em,eo,ep,eq,er,es,et,eu,ew,ex,dT,ey,dU,ez,dV,eA,dW,eB,eC,eD,eE,eF,eG,eH,eI,eJ,eK,eL,eM,dX,eN,eO,eP,eQ,eR,eS,rfl,h2⟩ c hB
 have f:=hB _ _ h2
 refine nl ?_
 exact ⟨_,d.1,d.2.1,d.2.2.1,d.2.2.2.1,d.u4.1.Cuts,el,em,d.u4.1.Nodes,eo,ep,eq,er,d.u4.2.1,es,et,d.u4.2.2.1,eu,ew,d.u4.2.2.2.1,d.u8.1,ex,dT,d.u8.2.1,ey,dU,d.u8.2.2.1,ez,dV,d.u8.2.2.2.1,d.u8.u4.1,eA,dW,d.u8.u4.2.1,d.u8.u4.2.2.1,d.u8.u4.2.2.2.1,eB,eC,eD,d.u8.u8.1,eE,eF,eG,d.u8.u8.2.1,d.u8.u8.2.2.1,eH,eI,eJ,eK,eL,d.u8.u8.2.2.2.1,aA,eM,dX,d.u8.u8.u4.1,d.u8.u8.u4.2.1,d.u8.u8.u4.2.2.1,d.u8.u8.u4.2.2.2.1,eN,eO,d.u8.u8.u8.1,eP,eQ,d.u8.u8.u8.2.1,d.u8.u8.u8.2.2.1,d.u8.u8.u8.2.2.2.1,d.u8.u8.u8.u4.1,d.u8.u8.u8.u4.2,eR,eS,q,s,t,c.kp [0],f.sp [0,1,2,3,4,17,5,6,7,8,9,10,11,12,13,14,15] [0,1,2,3,4,5,6,7,8,9,10,11,24],H⟩
 refine qr λ_ eT=>bd H λeU aT H=>kA (λa w => ∃κ:Gh,Fr (71) [] [k2g R,k2d bK,(6,vi (i64.wrap (tdiv (i64.wrap (bx-1)) 5))),(7,vi (i64.wrap ((tmod (i64.wrap (bx-1)) 5)-1))),(31,vb eU)] a∧SS Ms κ0 w0 κ w (k1y bK b.Kind b.Id b.N b.TS b.Lo b.Hi aq (b.Vers).length ar au (b.Vec).length av b.Cmd.Kind b.Cmd.DC b.Cmd.Shard b.Cmd.Node b.Cmd.Mode b.Cmd.Key R a1 a2 a3 a4 a5 a6 p8 (g.Cuts).length c9 C (g.Nodes).length D k h.length l E x.length F m i.length n S aR aS ay aw o y j G I J z.length K ae aA az T ax L A.length O P B.length Q U V W X ai Y.length aj s q.length t (ownX (fInt .i64) 3 k l h) (ownX jN 4 E F x) (ownX (fInt .i64) 3 m n i) ak aH al aI am aJ (arrX j6 o an aL) Z aa ab ad af ah ao aQ) (k1w p8 c9 g.Cuts C D g.Nodes (ml o 4) (ml y 4) (ml j 4) G Z aa aM I ab ad aO J K z ae af ah aP L O A P Q B ai aj Y s t q aq ar b.Vers au av b.Vec)∧True) ?_ ?_
 refine wp 3 [0,5,6,7,34] c λa c=>bs aT (λhb aT=>?_) λhb aT=>?_
 have c:=c.bv 34 hb
 refine wp 4 [0,5,6,7,34,35,38] c λa c=>wcg c (wld c f 1 0 0 λa c=>wp 3 [0,5,6,7,31] c λa c=>nl ?_)
 cases aT
 exact ⟨_,c.kp [0,5,6,7,31],f.sp (rg 18) (rg 15),trivial⟩
 have c:=c.bv 34 hb
 refine wp 8 [0,5,6,7,31] c λa c=>nl ?_
 cases aT
 exact ⟨_,c.kp [0,5,6,7,31],f.sp (rg 18) (rg 15),trivial⟩
 rintro a w ⟨κ,c,f,-⟩
 refine eT _ _ (bc c H (λhb H=>?_) λhb H=>?_)
 refine rl (wp 2 [0,5,42,43] c λa c=>wc (wls c f 0 0 14 λa c=>bd H λp dY H=>?_))
 have cA:=f.segs 1 rfl
 refine wc (wcS 7 [1,4,5,10,11,13,16,0,2,3,6,7,8,9,12,14,15,17] c f (λf=>yH N a1 a3 aH aI aL y aP aA B Y (i64.wrap (tdiv (i64.wrap (bx-1)) 5)) b [vi a2] (flat [si a4,si a5,si a6,sl p8 (g.Cuts).length c9,sl C (g.Nodes).length D,sl k h.length l,sl E x.length F,sl m i.length n,sb S]) aR ak aS al (flat [sp ay,su aw]) o an (flat [ei 4 j,sm G,sm I,sl J z.length K]) ae af ah (flat [sp az,si T,si ax,sl L A.length O]) P Q (flat [su U,sb V,sb W,sb X]) ai aj [.slice s q.length t] aq ar au av R ((f.regr 0 [(false,3),(true,9),(false,2),(true,2),(false,2),(true,4),(false,2),(true,4),(false,1),(true,4),(false,2)] rfl).sbK [2,3,8,10,11,13,14]) dY) ?_)
 rintro _ κ w a ⟨c7,dZ,c8,d0,da,d1,db,eV,eW,dd,de,df,dg,rfl,h2⟩ c hB
 have f:=(hB _ _ h2).unregrK 0 [(false,3),(true,9),(false,2),(true,2),(false,2),(true,4),(false,2),(true,4),(false,1),(true,4),(false,2)] (s':=k1z a1 a2 a3 a4 a5 a6 p8 (g.Cuts).length c9 C (g.Nodes).length D k h.length l E x.length F m i.length n S c7 c8 ay aw da p.2.2.2.1 j G I J z.length K db p.u4.2.1 az T ax L A.length O dd (p.u4.2.2.1).length de U V W X df (p.u4.2.2.2).length dg s q.length t) cA rfl
 refine nl ?_
 exact ⟨_,a3,a4,a5,a6,g.Cuts,p8,c9,g.Nodes,C,D,k,l,h,E,F,x,m,n,i,S,c7,dZ,p.1,c8,d0,p.2.1,ay,am,aJ,aw,da,d1,p.2.2.1,p.2.2.2.1,j,G,Z,aa,aM,I,ab,ad,aO,z,J,K,db,eV,eW,p.u4.1,p.u4.2.1,az,ao,aQ,T,ax,A,L,O,p.u4.2.2.1,dd,de,U,V,W,X,p.u4.2.2.2,df,dg,q,s,t,c.kp [0],f.sp [0,8,9,1,2,10,11,12,13,3,4,14,5,15,16,6,17] [5,6,0,1,9,10,11,12,2,14,3,4,17],H⟩
 refine qr λ_ eX=>bd H λeY u H=>kA (λa w => ∃κ:Gh,Fr (71) [] [k2g R,k2d bK,(7,vi (i64.wrap ((tmod (i64.wrap (bx-1)) 5)-1))),(46,vb eY)] a∧SS Ms κ0 w0 κ w (k1y bK b.Kind b.Id b.N b.TS b.Lo b.Hi aq (b.Vers).length ar au (b.Vec).length av b.Cmd.Kind b.Cmd.DC b.Cmd.Shard b.Cmd.Node b.Cmd.Mode b.Cmd.Key R a1 a2 a3 a4 a5 a6 p8 (g.Cuts).length c9 C (g.Nodes).length D k h.length l E x.length F m i.length n S aR aS ay aw o y j G I J z.length K ae aA az T ax L A.length O P B.length Q U V W X ai Y.length aj s q.length t (ownX (fInt .i64) 3 k l h) (ownX jN 4 E F x) (ownX (fInt .i64) 3 m n i) ak aH al aI am aJ (arrX j6 o an aL) Z aa ab ad af ah ao aQ) (k1w p8 c9 g.Cuts C D g.Nodes (ml o 4) (ml y 4) (ml j 4) G Z aa aM I ab ad aO J K z ae af ah aP L O A P Q B ai aj Y s t q aq ar b.Vers au av b.Vec)∧True) ?_ ?_
 refine wp 4 [0,5,7,47,50] c λa c=>wc (wld c f 1 0 0 λa c=>wp 2 [0,5,7,53] c λa c=>bs u (λhb u=>?_) λhb u=>?_)
 have c:=c.bv 53 hb
 refine wp 4 [0,5,7,57] c λa c=>bs u (λhb u=>?_) λhb u=>?_
 have c:=c.bv 57 hb
 refine wp 4 [0,5,7,57,58,61] c λa c=>wcg c (wld c f 1 1 0 λa c=>wp 3 [0,5,7,46] c λa c=>nl ?_)
 cases u
 exact ⟨_,c.kp [0,5,7,46],f.sp (rg 18) (rg 15),trivial⟩
 have c:=c.bv 57 hb
 refine wp 8 [0,5,7,46] c λa c=>nl ?_
 cases u
 exact ⟨_,c.kp [0,5,7,46],f.sp (rg 18) (rg 15),trivial⟩
 have c:=c.bv 53 hb
 refine wp 12 [0,5,7,46] c λa c=>nl ?_
 cases u
 exact ⟨_,c.kp [0,5,7,46],f.sp (rg 18) (rg 15),trivial⟩
 rintro a w ⟨κ,c,f,-⟩
 refine eX _ _ (bc c H (λhb H=>?_) λhb H=>?_)
 refine rl (wp 2 [0,5,65,66] c λa c=>wc (wls c f 0 0 14 λa c=>bd H λe d2 H=>?_))
 have cB:=f.segs 1 rfl
 refine wc (wcS 14 [1,2,3,5,6,8,10,11,12,13,14,15,16,17,0,4,7,9] c f (λf=>xQ N a1 a2 a4 a5 a6 g x aH aI aJ aw aL aM aO z aP aA aQ T ax A Y q (i64.wrap ((tmod (i64.wrap (bx-1)) 5)-1)) b [vi a3] p8 c9 C D [.slice k h.length l] E F (flat [sl m i.length n,sb S]) aR ak aS al ay am o an (flat [ei 4 y,ei 4 j]) G Z aa I ab ad J K ae af ah az ao L O (flat [sl P B.length Q,su U,sb V,sb W,sb X]) ai aj s t aq ar au av R ((f.regr 0 [(false,10),(true,2),(false,5),(true,2),(false,9),(true,5),(false,2)] rfl).sbK [0,1,2,5,6,7,8,9,11,12,13,14]) d2) ?_)
 rintro _ κ w a ⟨dh,di,dj,dk,dl,dm,dn,d3,dp,d4,dq,d5,dr,d6,ds,eZ,e0,dt,e1,e2,du,dv,dw,e3,e4,dx,d7,dy,dz,dA,dB,dC,dD,rfl,h2⟩ c hB
 have f:=(hB _ _ h2).unregrK 0 [(false,10),(true,2),(false,5),(true,2),(false,9),(true,5),(false,2)] (s':=k1z a1 a2 a3 a4 a5 e.1 dh (e.2.1.Cuts).length di dj (e.2.1.Nodes).length dk k h.length l dl (e.2.2.1).length dm m i.length n S dn dp dq e.u4.2.2.1 dr y j ds dt du (e.u8.2.2.1).length dv dw e.u8.u4.1 dx T e.u8.u4.2.2.1 dy (e.u8.u4.2.2.2.1).length dz P B.length Q U V W X dA (e.u8.u8.1).length dB dC (e.u8.u8.2).length dD) cB rfl
 refine nl ?_
 exact ⟨_,a3,a4,a5,e.1,e.2.1.Cuts,dh,di,e.2.1.Nodes,dj,dk,k,l,h,dl,dm,e.2.2.1,m,n,i,S,dn,d3,e.2.2.2.1,dp,d4,e.u4.1,dq,d5,e.u4.2.1,e.u4.2.2.1,dr,d6,e.u4.2.2.2.1,y,j,ds,eZ,e0,e.u8.1,dt,e1,e2,e.u8.2.1,e.u8.2.2.1,du,dv,dw,e3,e4,e.u8.2.2.2.1,e.u8.u4.1,dx,d7,e.u8.u4.2.1,T,e.u8.u4.2.2.1,e.u8.u4.2.2.2.1,dy,dz,B,P,Q,U,V,W,X,e.u8.u8.1,dA,dB,e.u8.u8.2,dC,dD,c.kp [0],f.sp [0,1,2,15,3,4,16,5,17,6,7,8,9,10,11,12,13] [0,1,2,13,14,3,4,5,6,7,20,8,9],H⟩
 refine sk ?_
 exact ⟨_,a3,a4,a5,a6,g.Cuts,p8,c9,g.Nodes,C,D,k,l,h,E,F,x,m,n,i,S,aR,ak,aH,aS,al,aI,ay,am,aJ,aw,o,an,aL,y,j,G,Z,aa,aM,I,ab,ad,aO,z,J,K,ae,af,ah,aP,aA,az,ao,aQ,T,ax,A,L,O,B,P,Q,U,V,W,X,Y,ai,aj,q,s,t,c.kp [0],f.sp (ra 1 17) (rg 13),H⟩
 rintro a w ⟨κ,cm,cn,co,cp,bL,bM,bN,bO,bP,bQ,bR,bS,aX,aY,aZ,a0,a8,a9,ba,bU,cu,bV,bW,cv,bX,bY,cw,bZ,b0,b1,bB,b2,b3,bC,be,bf,b4,b5,cx,bg,bD,bE,b6,bh,bi,bj,b7,b8,b9,ca,cb,cy,cc,cd,bF,bG,bl,bm,bn,bo,bq,br,bH,bI,ce,cg,bJ,ch,ci,bt,bu,bw,c,f,H⟩
 unfold M.nU at H
 refine rl (wp 1 [69] c λa c=>bd H λaG d8 H=>?_)
 have cD:=f.segs 0 rfl
 refine wc (wcS 10 [0,4,7,9,10,11,12,14,15,16,1,2,3,5,6,8,13] c f (λf=>uK N a1 cm cn (jA.mk bL bO) a0 bU bW bY b0 b1 b3 bC be b6 bh ca cb cd bo bH bI ce cg bJ [vi a2] (flat [si co,si cp]) bM bN bP bQ [.slice bR aX.length bS] aY aZ [.slice a8 ba.length a9] cu bV cv bX cw bZ bB b2 [.map bf] bg bD bE bi bj b7 b8 b9 cy cc (flat [si bF,si bG,sl bm bl.length bn]) bq br ch ci [.slice bu bt.length bw] R ((f.regr 0 [(false,4),(true,2),(false,19),(true,3),(false,7)] rfl).sbK [0,1,2,3,4,6,7,8,10,11]) d8) ?_)
 rintro _ κ w a ⟨dE,d9,dF,ea,dG,ec,dH,ed,dI,e5,e6,dJ,ee,dK,dL,rfl,h2⟩ c hB
 have f:=(hB _ _ h2).unregrK 0 [(false,4),(true,2),(false,19),(true,3),(false,7)] (s':=k1z a1 a2 cm cn co cp bM bL.length bN bP bO.length bQ bR aX.length bS aY a0.length aZ a8 ba.length a9 aG.1 dE dF dG aG.u4.1 dH aG.u4.2.2.1 be bf bg bi bh.length bj dI aG.u8.1 dJ bF bG bm bl.length bn bq bo.length br bH bI aG.u8.2.2.1 aG.u8.2.2.2.1 dK (aG.u8.u4).length dL bu bt.length bw) cD rfl
 refine nl ?_
 cases H
 exact j7 c f (mI Tryz.results15) ⟨bM,bN,bP,bQ,bR,bS,aY,aZ,a8,a9,dE,d9,dF,ea,dG,ec,dH,ed,bf,b4,b5,bg,bD,bE,bi,bj,dI,e5,e6,dJ,ee,bm,bn,bq,br,dK,dL,bu,bw,rfl,f.sp [0,10,11,12,1,13,14,2,15,3,4,5,6,16,7,8,9] [4,5,0,1,8,9,10,11,2,13,14,3,16]⟩
theorem AF (N){Ms}{κ0}{w0}(a1)(a2)(a3)(a4)(a5)(a6)(P:jA)(Q:(List Int))(R:(List Bool))(S:(List Int))(aX)(bA)(a8)(a9)(ao)(ba)(aq)(af)(bB)(bu)(U:(List j3))(bw)(aY)(be)(aP)(aQ)(V:(List Int))(W:(List Int))(aR)(aS)(aZ)(a0)(ab:(List i9))(X:(List jM))(f)(d:jK)(p8)(c9)(ad)(ae)(o)(p)(q)(s)(u)(x)(bx)(bf)(aA)(ax)(aB)(ay)(l)(bI)(z)(ar)(au)(A)(aj)(ak)(B)(C)(Y)(av)(aw)(aD)(az)(D)(F)(G)(I)(Z)(aa)(J)(K)(aF)(aG)(aH)(aI)(g)(hB:SB Ms κ0 w0 (k1v g a1 a2 a3 a4 a5 a6 p8 (P.Cuts).length c9 ad (P.Nodes).length ae o Q.length p q R.length s u S.length x aX bx aA aB ao l aq af z A B U.length C Y aY aD aP aQ D V.length F G W.length I aR aS aZ a0 Z ab.length aa J X.length K (ownX (fInt .i64) 3 o p Q) (ownX jN 4 q s R) (ownX (fInt .i64) 3 u x S) bf bA ax a8 ay a9 (arrX j6 l bI ba) ar au aj ak av aw az be) (k1w p8 c9 P.Cuts ad ae P.Nodes (ml l 4) (ml aq 4) (ml af 4) z ar au bB A aj ak bu B C U Y av aw bw D F V G I W Z aa ab J K X aF aG d.Vers aH aI d.Vec)){r}(H:M.sX N a1 a2 a3 a4 a5 a6 P Q R S aX bA a8 a9 ao ba aq af bB bu U bw aY be aP aQ V W aR aS aZ a0 ab X f d=some r) :
    Calls Tryz.prog 29 #[pt g 0,vi f,.agg (flat (k07 d.Kind d.Id d.N d.TS d.Lo d.Hi aF (d.Vers).length aG aH (d.Vec).length aI d.Cmd.Kind d.Cmd.DC d.Cmd.Shard d.Cmd.Node d.Cmd.Mode d.Cmd.Key)).toArray] w0 (kQ Ms κ0 w0 λv κ w => ∃cv cw cx cy cz cA cB cD cE cF dI dh dJ di dK dj ca dk cG cH cI cJ cK cL cM cN cO cP cQ dL dl cR cS cT cU cV cW cX cY,v = .tuple #[]∧SS Ms κ0 w0 κ w (k1v g a1 a2 r.1 r.2.1 r.2.2.1 r.2.2.2.1 cv (r.u4.1.Cuts).length cw cx (r.u4.1.Nodes).length cy cz (r.u4.2.1).length cA cB (r.u4.2.2.1).length cD cE (r.u4.2.2.2.1).length cF r.u8.1 dI dJ dK r.u8.u4.1 ca r.u8.u4.2.2.1 r.u8.u4.2.2.2.1 cG cJ cM (r.u8.u8.2.2.1).length cN cO r.u8.u8.u4.1 dL r.u8.u8.u4.2.2.1 r.u8.u8.u4.2.2.2.1 cR (r.u8.u8.u8.1).length cS cT (r.u8.u8.u8.2.1).length cU r.u8.u8.u8.2.2.1 r.u8.u8.u8.2.2.2.1 r.u8.u8.u8.u4.1 r.u8.u8.u8.u4.2.1 cV (r.u8.u8.u8.u4.2.2.1).length cW cX (r.u8.u8.u8.u4.2.2.2).length cY (ownX (fInt .i64) 3 cz cA r.u4.2.1) (ownX jN 4 cB cD r.u4.2.2.1) (ownX (fInt .i64) 3 cE cF r.u4.2.2.2.1) dh r.u8.2.1 di r.u8.2.2.1 dj r.u8.2.2.2.1 (arrX j6 ca dk r.u8.u4.2.1) cH cI cK cL cP cQ dl r.u8.u8.u4.2.1) (k1x cv cw r.u4.1.Cuts cx cy r.u4.1.Nodes (ml ca 4) (ml r.u8.u4.2.2.1 4) (ml r.u8.u4.2.2.2.1 4) cG cH cI r.u8.u8.1 cJ cK cL r.u8.u8.2.1 cM cN r.u8.u8.2.2.1 cO cP cQ r.u8.u8.2.2.2.1 cR cS r.u8.u8.u8.1 cT cU r.u8.u8.u8.2.1 cV cW r.u8.u8.u8.u4.2.2.1 cX cY r.u8.u8.u8.u4.2.2.2)):=by
 have e:=hB.hS
 have fQ:=e.fresh
 refine en Tryz.func29 rfl Tryz.ntmps29 λa b=>?_
 unfold M.sX at H
 refine qr λ_ eV=>wc (wbx b e (k07 d.Kind d.Id d.N d.TS d.Lo d.Hi aF (d.Vers).length aG aH (d.Vec).length aI d.Cmd.Kind d.Cmd.DC d.Cmd.Shard d.Cmd.Node d.Cmd.Mode d.Cmd.Key) (sgN 14 jE) λk a w b e=>eV _ _ (qs λ_ eW=>qr λ_ eX=>bd H λeY al H=>kA (λa w => ∃κ:Gh,Fr (160) [] [k2g g,k2a f,k2d k,(29,vb eY)] a∧SS Ms κ0 w0 κ w (k1y k d.Kind d.Id d.N d.TS d.Lo d.Hi aF (d.Vers).length aG aH (d.Vec).length aI d.Cmd.Kind d.Cmd.DC d.Cmd.Shard d.Cmd.Node d.Cmd.Mode d.Cmd.Key g a1 a2 a3 a4 a5 a6 p8 (P.Cuts).length c9 ad (P.Nodes).length ae o Q.length p q R.length s u S.length x aX bx aA aB ao l aq af z A B U.length C Y aY aD aP aQ D V.length F G W.length I aR aS aZ a0 Z ab.length aa J X.length K (ownX (fInt .i64) 3 o p Q) (ownX jN 4 q s R) (ownX (fInt .i64) 3 u x S) bf bA ax a8 ay a9 (arrX j6 l bI ba) ar au aj ak av aw az be) (k1w p8 c9 P.Cuts ad ae P.Nodes (ml l 4) (ml aq 4) (ml af 4) z ar au bB A aj ak bu B C U Y av aw bw D F V G I W Z aa ab J K X aF aG d.Vers aH aI d.Vec)∧True) ?_ ?_))
 refine wp 4 [0,1,5,10,11] b λa b=>wcg b (wld b e 0 0 0 λa b=>wp 3 [0,1,5,15] b λa b=>bs al (λhb al=>?_) λhb al=>?_)
 have b:=b.bv 15 hb
 refine wp 14 [0,1,5,29] b λa b=>nl ?_
 cases al
 exact ⟨_,b.kp [0,1,5,29],e.sp (rg 18) (rg 15),trivial⟩
 have b:=b.bv 15 hb
 refine wp 4 [0,1,5,19] b λa b=>bs al (λhb al=>?_) λhb al=>?_
 have b:=b.bv 19 hb
 refine wp 10 [0,1,5,29] b λa b=>nl ?_
 cases al
 exact ⟨_,b.kp [0,1,5,29],e.sp (rg 18) (rg 15),trivial⟩
 have b:=b.bv 19 hb
 refine wp 4 [0,1,5,23] b λa b=>bs al (λhb al=>?_) λhb al=>?_
 have b:=b.bv 23 hb
 refine wp 6 [0,1,5,29] b λa b=>nl ?_
 cases al
 exact ⟨_,b.kp [0,1,5,29],e.sp (rg 18) (rg 15),trivial⟩
 have b:=b.bv 23 hb
 refine wp 3 [0,1,5,23,26] b λa b=>wcg b (wld b e 1 2 0 λa b=>wp 2 [0,1,5,29] b λa b=>nl ?_)
 cases al
 exact ⟨_,b.kp [0,1,5,29],e.sp (rg 18) (rg 15),trivial⟩
 rintro a w ⟨κ,b,e,-⟩
 refine eX _ _ (bc b H (λhb H=>?_) λhb H=>?_)
 refine rt ?_
 cases H
 exact j7 b e (mI Tryz.results29) ⟨p8,c9,ad,ae,o,p,q,s,u,x,bx,bf,aA,ax,aB,ay,l,bI,z,ar,au,A,aj,ak,B,C,Y,av,aw,aD,az,D,F,G,I,Z,aa,J,K,rfl,e.sp (ra 1 17) (rg 13)⟩
 refine sk (eW _ _ (qr λ_ eZ=>(wp 9 [0,1,5,6,7] b λa b=>(eZ _ _ (qs λ_ e0=>qr λ_ e1=>(wp 4 [0,1,5,6,7,37,40] b λa b=>wc (wld b e 1 0 0 λa b=>jG (L':=[k2g g,k2a f,k2d k,(6,vi (i64.wrap (tdiv (i64.wrap (f-1)) 5))),(7,vi (i64.wrap ((tmod (i64.wrap (f-1)) 5)-1))),(42,(vb (i64.wrap (tdiv (i64.wrap (f-1)) 5)==a1)))]) 1 [0,1,5,6,7,42] b kr λa b=>e1 _ _ (bc b H (λhb H=>?_) λhb H=>?_))))))))
 refine qr λ_ e2=>wp 2 [5,43,44] b λa b=>wc (wls b e 0 0 14 λa b=>bd H λfR dM H=>wc (wcS 17 [1,2,3,4,5,6,7,8,9,10,11,12,13,14,15,16,17,0] b e (λe=>t6 N a1 a2 a3 a4 a5 a6 P Q R S aX bA a8 a9 ao ba aq af bB bu U bw aY be aP aQ V W aR aS aZ a0 ab X f d p8 c9 ad ae o p q s u x bx bf aA ax aB ay l bI z ar au A aj ak B C Y av aw aD az D F G I Z aa J K aF aG aH aI g (e.sbK (rg 15)) dM) ?_))
 rintro _ κ w a ⟨e3,e4,e5,e6,e7,e8,e9,fa,dN,dO,dP,dm,dR,dn,dS,dp,dT,dq,dU,dV,dW,dX,dY,dZ,d0,d1,d2,d3,d4,d5,dr,d6,d7,d8,d9,ea,ec,ed,ee,rfl,h2⟩ b hB
 have e:=hB _ _ h2
 refine e2 _ _ (rt ?_)
 cases H
 exact j7 b e (mI Tryz.results29) ⟨e3,e4,e5,e6,e7,e8,e9,fa,dN,dO,dP,dm,dR,dn,dS,dp,dT,dq,dU,dV,dW,dX,dY,dZ,d0,d1,d2,d3,d4,d5,dr,d6,d7,d8,d9,ea,ec,ed,ee,rfl,e.sp (rg 17) (rg 13)⟩
 refine sk (e0 _ _ (qs λ_ ef=>qs λ_ eg=>bd H λeh ah H=>kJ (λa w => ∃κ bK,Fr (160) [] [k2g g,k2d k,(6,vi (i64.wrap (tdiv (i64.wrap (f-1)) 5))),(84,vb eh)] a∧SS Ms κ0 w0 κ w (k1y k d.Kind d.Id d.N d.TS d.Lo d.Hi aF (d.Vers).length aG aH (d.Vec).length aI d.Cmd.Kind d.Cmd.DC d.Cmd.Shard d.Cmd.Node d.Cmd.Mode d.Cmd.Key g a1 a2 a3 a4 a5 a6 p8 (P.Cuts).length c9 ad (P.Nodes).length ae o Q.length p q R.length s u S.length x aX bx aA aB ao l aq af z A B U.length C Y aY aD aP aQ D V.length F G W.length I aR aS aZ a0 Z ab.length aa J X.length K (ownX (fInt .i64) 3 o p Q) (ownX jN 4 q s R) (ownX (fInt .i64) 3 u x S) bf bA ax a8 ay a9 (arrX j6 l bK ba) ar au aj ak av aw az be) (k1w p8 c9 P.Cuts ad ae P.Nodes (ml l 4) (ml aq 4) (ml af 4) z ar au bB A aj ak bu B C U Y av aw bw D F V G I W Z aa ab J K X aF aG d.Vers aH aI d.Vec)∧True) ?_ ?_))
 refine bd ah λfq aM ah=>?_
 obtain ⟨cZ,bg⟩:=e.arrIdx 13 rfl aM
 have e:=e.add (m:=MP.const (idx l (i64.wrap (tdiv (i64.wrap (f-1)) 5))=some cZ)) bg
 have aJ:idx l (i64.wrap (tdiv (i64.wrap (f-1)) 5))=some cZ:=e.get 0 rfl
 obtain ⟨fe,fg,e⟩:=e.arrTakeP 13 rfl aM aJ
 refine kU ah (λai ah=>?_) (λfr ai ah=>?_)
 obtain ⟨aO,e⟩:=e.optN 0 rfl ai
 have fb:=b
 subst aO
 have b:=fb
 obtain ⟨cm,e⟩:=e.arrBackI 0 1 (ra 2 17) dc rfl rfl aJ (aM.trans (congrArg some ai))
 refine rl (bd ah λft aE ah=>kA (λa w => ∃κ:Gh,Fr (160) [] [k2g g,k2d k,(6,vi (i64.wrap (tdiv (i64.wrap (f-1)) 5))),(84,vb true)] a∧SS Ms κ0 w0 κ w (k1y k d.Kind d.Id d.N d.TS d.Lo d.Hi aF (d.Vers).length aG aH (d.Vec).length aI d.Cmd.Kind d.Cmd.DC d.Cmd.Shard d.Cmd.Node d.Cmd.Mode d.Cmd.Key g a1 a2 a3 a4 a5 a6 p8 (P.Cuts).length c9 ad (P.Nodes).length ae o Q.length p q R.length s u S.length x aX bx aA aB ao l aq af z A B U.length C Y aY aD aP aQ D V.length F G W.length I aR aS aZ a0 Z ab.length aa J X.length K (ownX (fInt .i64) 3 o p Q) (ownX jN 4 q s R) (ownX (fInt .i64) 3 u x S) bf bA ax a8 ay a9 (arrX j6 l cm ba) ar au aj ak av aw az be) (k1w p8 c9 P.Cuts ad ae P.Nodes (ml l 4) (ml aq 4) (ml af 4) z ar au bB A aj ak bu B C U Y av aw bw D F V G I W Z aa ab J K X aF aG d.Vers aH aI d.Vec)∧True) ?_ ?_)
 refine wp 3 [0,5,6,49] b λa b=>bs aE (λhb aE=>?_) λhb aE=>?_
 have b:=b.bv 49 hb
 refine wp 35 [0,5,6,84] b λa b=>nl ?_
 cases aE
 exact ⟨_,b.kp [0,5,6,84],e.sp [1,2,3,4,5,6,7,8,9,10,11,12,13,0,14,15,16,17] (ra 1 15),trivial⟩
 have b:=b.bv 49 hb
 refine wp 1 [0,5,6,49,50] b λa b=>wcg b (wld b e 1 7 0 λa b=>wp 4 [0,5,6,55] b λa b=>bs aE (λhb aE=>?_) λhb aE=>?_)
 have b:=b.bv 55 hb
 refine wp 29 [0,5,6,84] b λa b=>nl ?_
 cases aE
 exact ⟨_,b.kp [0,5,6,84],e.sp [1,2,3,4,5,6,7,8,9,10,11,12,13,0,14,15,16,17] (ra 1 15),trivial⟩
 have b:=b.bv 55 hb
 refine jG (L':=k20 g k (i64.wrap (tdiv (i64.wrap (f-1)) 5))) 4 [0,5,6,55,57,59] b kr λa b=>wcg b (l5 b kr (E:=81) (sz:=1) (n:=4) rfl rfl (i:=i64.wrap (tdiv (i64.wrap (f-1)) 5)) rfl (m1 bg (e.get 3 rfl)) kr kr λa b=>wcg b (rF (t:=pF) b e kr 2 16 (v := .pointer none) rfl rfl rfl rfl bg rfl rfl kr kr λa b=>wp 23 [0,5,6,84] b λa b=>nl ?_))
 cases aE
 exact ⟨_,b.kp [0,5,6,84],e.sp [1,2,3,4,5,6,7,8,9,10,11,12,13,0,14,15,16,17] (ra 1 15),trivial⟩
 rintro a w ⟨κ,b,e,-⟩
 cases ah
 exact ⟨_,cm,b.kp [0,5,6,84],e.sp (rg 18) (rg 15),trivial⟩
 obtain ⟨ej,aO,e⟩:=e.optS 0 rfl ai
 have fc:=b
 subst aO
 have b:=fc
 refine rl (bd ah λek j ah=>kA (λa w => ∃κ bL,Fr (160) [] [k2g g,k2d k,(6,vi (i64.wrap (tdiv (i64.wrap (f-1)) 5))),(84,vb ek)] a∧SS Ms κ0 w0 κ w (k1y k d.Kind d.Id d.N d.TS d.Lo d.Hi aF (d.Vers).length aG aH (d.Vec).length aI d.Cmd.Kind d.Cmd.DC d.Cmd.Shard d.Cmd.Node d.Cmd.Mode d.Cmd.Key g a1 a2 a3 a4 a5 a6 p8 (P.Cuts).length c9 ad (P.Nodes).length ae o Q.length p q R.length s u S.length x aX bx aA aB ao l aq af z A B U.length C Y aY aD aP aQ D V.length F G W.length I aR aS aZ a0 Z ab.length aa J X.length K (ownX (fInt .i64) 3 o p Q) (ownX jN 4 q s R) (ownX (fInt .i64) 3 u x S) bf bA ax a8 ay a9 (arrX j6 l bL ba) ar au aj ak av aw az be) (k1w p8 c9 P.Cuts ad ae P.Nodes (ml l 4) (ml aq 4) (ml af 4) z ar au bB A aj ak bu B C U Y av aw bw D F V G I W Z aa ab J K X aF aG d.Vers aH aI d.Vec)∧True) ?_ ?_)
 refine wp 3 [0,5,6,49] b λa b=>bs j (λhb j=>?_) λhb j=>?_
 have b:=b.bv 49 hb
 refine wp 35 [0,5,6,84] b λa b=>?_
 obtain ⟨ds,e⟩:=e.arrBackI 0 1 (ra 2 17) dc rfl rfl aJ (aM.trans (congrArg some ai))
 refine nl ?_
 cases j
 exact ⟨_,ds,b.kp [0,5,6,84],e.sp [1,2,3,4,5,6,7,8,9,10,11,12,13,0,14,15,16,17] (ra 1 15),trivial⟩
 have b:=b.bv 49 hb
 refine wp 1 [0,5,6,49,50] b λa b=>wcg b (wld b e 2 7 0 λa b=>wp 4 [0,5,6,55] b λa b=>bs j (λhb j=>?_) λhb j=>?_)
 have b:=b.bv 55 hb
 refine wp 29 [0,5,6,84] b λa b=>?_
 obtain ⟨dt,e⟩:=e.arrBackI 0 1 (ra 2 17) dc rfl rfl aJ (aM.trans (congrArg some ai))
 refine nl ?_
 cases j
 exact ⟨_,dt,b.kp [0,5,6,84],e.sp [1,2,3,4,5,6,7,8,9,10,11,12,13,0,14,15,16,17] (ra 1 15),trivial⟩
 have b:=b.bv 55 hb
 refine jG (L':=k20 g k (i64.wrap (tdiv (i64.wrap (f-1)) 5))) 4 [0,5,6,55,57,59] b kr λa b=>wcg b (l5 b kr (E:=81) (sz:=1) (n:=4) rfl rfl (i:=i64.wrap (tdiv (i64.wrap (f-1)) 5)) rfl (m1 bg (e.get 3 rfl)) kr kr λa b=>wcg b (rF (t:=pF) b e kr 3 16 (v:=pt ej 0) rfl rfl rfl rfl bg rfl rfl kr kr λa b=>jG (L':=[k2g g,k2d k,(6,vi (i64.wrap (tdiv (i64.wrap (f-1)) 5))),(64,vb false),(65,pt k 7)]) 4 [0,5,6,64,65] b kr λa b=>?_))
 refine wcg b (wld b e 2 7 0 λa b=>bd j λel cn j=>wcg b (kS b e kr 15 (E:=32) (sz:=1) rfl rfl rfl kr rfl cn kr kr λfu fv a c0 b=>wcg b (mM (t:=(fInt .u64)) b e kr 15 0 (v:=vu el) rfl rfl c0 rfl cn kr kr kr λa b=>wp 3 [0,5,6,71] b λa b=>bs j (λhb j=>?_) λhb j=>?_)))
 have b:=b.bv 71 hb
 refine wp 13 [0,5,6,84] b λa b=>?_
 obtain ⟨du,e⟩:=e.arrBackI 0 1 (ra 2 17) dc rfl rfl aJ (aM.trans (congrArg some ai))
 refine nl ?_
 cases j
 exact ⟨_,du,b.kp [0,5,6,84],e.sp [1,2,3,4,5,6,7,8,9,10,11,12,13,0,14,15,16,17] (ra 1 15),trivial⟩
 have b:=b.bv 71 hb
 refine jG (L':=[k2g g,k2d k,(6,vi (i64.wrap (tdiv (i64.wrap (f-1)) 5))),(71,vb false),(72,pt k 7)]) 1 [0,5,6,71,72] b kr λa b=>wcg b (wld b e 2 7 0 λa b=>bd j λem co j=>wcg b (kS b e kr 15 (E:=32) (sz:=1) rfl rfl rfl kr rfl co kr kr λfw fy a c1 b=>wcg b (mM (t:=(fInt .u64)) b e kr 15 0 (v:=vu em) rfl rfl c1 rfl co kr kr kr λa b=>wp 3 [0,5,6,78] b λa b=>bs j (λhb j=>?_) λhb j=>?_)))
 have b:=b.bv 78 hb
 refine wp 6 [0,5,6,84] b λa b=>?_
 obtain ⟨dv,e⟩:=e.arrBackI 0 1 (ra 2 17) dc rfl rfl aJ (aM.trans (congrArg some ai))
 refine nl ?_
 cases j
 exact ⟨_,dv,b.kp [0,5,6,84],e.sp [1,2,3,4,5,6,7,8,9,10,11,12,13,0,14,15,16,17] (ra 1 15),trivial⟩
 have b:=b.bv 78 hb
 refine jG (L':=[k2g g,k2d k,(6,vi (i64.wrap (tdiv (i64.wrap (f-1)) 5))),(78,vb false),(79,pt k 7)]) 1 [0,5,6,78,79] b kr λa b=>wcg b (wld b e 2 7 0 λa b=>bd j λeo cp j=>wcg b (kS b e kr 15 (E:=32) (sz:=1) rfl rfl rfl kr rfl cp kr kr λfz fA a c2 b=>wcg b (mM (t:=(fInt .u64)) b e kr 15 0 (v:=vu eo) rfl rfl c2 rfl cp kr kr kr λa b=>wp 2 [0,5,6,84] b λa b=>?_)))
 obtain ⟨dw,e⟩:=e.arrBackI 0 1 (ra 2 17) dc rfl rfl aJ (aM.trans (congrArg some ai))
 refine nl ?_
 cases j
 exact ⟨_,dw,b.kp [0,5,6,84],e.sp [1,2,3,4,5,6,7,8,9,10,11,12,13,0,14,15,16,17] (ra 1 15),trivial⟩
 rintro a w ⟨κ,bL,b,e,-⟩
 cases ah
 exact ⟨_,bL,b.kp [0,5,6,84],e.sp (rg 18) (rg 15),trivial⟩
 rintro a w ⟨κ,bK,b,e,-⟩
 refine eg _ _ (bc b H (λhb H=>?_) λhb H=>?_)
 refine rt ?_
 cases H
 exact j7 b e (mI Tryz.results29) ⟨p8,c9,ad,ae,o,p,q,s,u,x,bx,bf,aA,ax,aB,ay,l,bK,z,ar,au,A,aj,ak,B,C,Y,av,aw,aD,az,D,F,G,I,Z,aa,J,K,rfl,e.sp (ra 1 17) (rg 13)⟩
 refine sk (ef _ _ (qs λ_ ep=>bd H λfB bM H=>?_))
 obtain ⟨c3,bD⟩:=e.arrIdx 13 rfl bM
 have e:=e.add (m:=MP.const (idx l (i64.wrap (tdiv (i64.wrap (f-1)) 5))=some c3)) bD
 have bE:idx l (i64.wrap (tdiv (i64.wrap (f-1)) 5))=some c3:=e.get 0 rfl
 obtain ⟨fh,fi,e⟩:=e.arrTakeP 13 rfl bM bE
 refine kU H (λbm H=>?_) (λeq bm H=>?_)
 obtain ⟨aO,e⟩:=e.optN 0 rfl bm
 have er:=b
 subst aO
 have b:=er
 obtain ⟨fj,e⟩:=e.arrBackI 0 1 (ra 2 17) dc rfl rfl bE (bM.trans (congrArg some bm))
 cases H
 obtain ⟨bN,aO,e⟩:=e.optS 0 rfl bm
 have es:=b
 subst aO
 have b:=es
 obtain ⟨⟨et,eu,ew,ex,ey,ez,eA⟩,e⟩:=e.unfI (ck:=lO) (fs:=lN) 0 rfl
 refine rga (λ_=>True) [] ?_
 have e:=e.drew
 refine jO [0,1,2,3,6,10] [0,5,6,86,88,91,95] (L':=[k2g g,k2d k,(6,vi (i64.wrap (tdiv (i64.wrap (f-1)) 5))),(86,vi (i64.wrap (tdiv (i64.wrap (f-1)) 5))),(88,pt g 16),(91,pt k 7),(95,pt k 7)]) (listed':=(mU 16 1103)) (fuel:=10) b trivial kr (by intro c a w t v h; cases t<;>exact h) kr rfl λa b=>mG e [15] (atk 4 (some 89) b (e.sx [0,2,3,4,5,6,12,13,14,15,16,17,18,19,20,21] (rg 18)) rfl (λw _=>lU (E:=81) (sz:=1) (n:=4) rfl rfl (i:=i64.wrap (tdiv (i64.wrap (f-1)) 5)) rfl (m1 bD (e.get 5 rfl)) kr kr w) λa b=>?_)
 refine atk 5 (some 90) b (e.sx [0,2,3,4,5,6,12,13,14,15,16,17,18,19,20,21] (rg 18)) rfl (rV (t:=pF) 5 16 (v:=pt bN 0) rfl rfl rfl rfl bD rfl rfl kr kr) λa b=>atk 7 (some 92) b (e.sx [0,2,3,4,5,6,12,13,14,15,16,17,18,19,20,21] (rg 18)) rfl (vld 4 7 0) λa b=>bd H λcb bO H=>?_
 obtain ⟨fC,fD,b2⟩:=e.ptr 17 rfl bO
 refine atk 8 (some 93) b (e.sx [0,2,3,4,5,6,12,13,14,15,16,17,18,19,20,21] (rg 18)) rfl (λw _=>mN (E:=32) (sz:=1) rfl b2 rfl kr rfl bO kr kr w) λa b=>atk 9 (some 94) b (e.sx [0,2,3,4,5,6,12,13,14,15,16,17,18,19,20,21] (rg 18)) rfl (qG (t:=(fInt .u64)) 17 0 (v:=vu cb) rfl rfl b2 rfl bO kr kr kr) λa b=>atk 11 (some 96) b (e.sx [0,2,3,4,5,6,12,13,14,15,16,17,18,19,20,21] (rg 18)) rfl (vld 4 7 0) λa b=>bd H λcc bP H=>?_
 obtain ⟨fE,fF,b3⟩:=e.ptr 17 rfl bP
 refine atk 12 (some 97) b (e.sx [0,2,3,4,5,6,12,13,14,15,16,17,18,19,20,21] (rg 18)) rfl (λw _=>mN (E:=32) (sz:=1) rfl b3 rfl kr rfl bP kr kr w) λa b=>atk 13 (some 98) b (e.sx [0,2,3,4,5,6,12,13,14,15,16,17,18,19,20,21] (rg 18)) rfl (qG (t:=(fInt .u64)) 17 0 (v:=vu cc) rfl rfl b3 rfl bP kr kr kr) λa b=>jO [14] [0,5,6,90,94,99] (L':=[k2g g,k2d k,(6,vi (i64.wrap (tdiv (i64.wrap (f-1)) 5))),(90,pt bN 0),(94,vu cb),(99,vi (i64.wrap cc))]) (listed':=(mU 16 32767)) (fuel:=1) b (e.sx [0,2,3,4,5,6,12,13,14,15,16,17,18,19,20,21] (rg 18)) kr (by intro c a w t v h; cases t<;>exact h) kr rfl λa b=>?_
 refine ago 15 b rfl (bd H λbF dx H=>wcS 4 (rg 22) b e (λe=>zP N eq cb (i64.wrap cc) et eu ew ex ey ez eA bN (e.sbK [0,1]) dx) ?_)
 rintro _ κ w a ⟨eB,eC,eD,eE,eF,eG,eH,rfl,h2⟩ b hB
 have e:=hB _ _ h2
 refine ⟨notE,?_⟩
 refine kM ?_
 obtain ⟨fk,e⟩:=e.foldI (ck:=lO) (fs:=lN) bN (eB,eC,eD,eE,eF,eG,eH) bF (rg 4) (ra 4 18) [0,1] dc kr kr
 obtain ⟨fl,e⟩:=e.arrPutI 0 1 (ra 2 17) dc rfl rfl bE
 refine ep _ _ (qs λ_ eI=>bd H λfG bz H=>?_)
 obtain ⟨c4,bG⟩:=e.arrIdx 0 rfl bz
 have e:=e.add (m:=MP.const (idx l (i64.wrap (tdiv (i64.wrap (f-1)) 5))=some c4)) bG
 have bH:idx l (i64.wrap (tdiv (i64.wrap (f-1)) 5))=some c4:=e.get 0 rfl
 obtain ⟨fm,dy,e⟩:=e.arrTakeP 0 rfl bz bH
 refine kU H (λbh H=>?_) (λaV bh H=>?_)
 obtain ⟨aO,e⟩:=e.optN 0 rfl bh
 have eJ:=b
 subst aO
 have b:=eJ
 obtain ⟨fn,e⟩:=e.arrBackI 0 1 (ra 2 17) dc rfl rfl bH (bz.trans (congrArg some bh))
 cases H
 obtain ⟨bQ,aO,e⟩:=e.optS 0 rfl bh
 have fd:=b
 subst aO
 have b:=fd
 obtain ⟨⟨bR,bS,bT,bU,bV,cd,ce⟩,e⟩:=e.unfI (ck:=lO) (fs:=lN) 0 rfl
 refine bd H λaL ho H=>?_
 obtain ⟨am,aO,e⟩:=e.optS 15 rfl ho
 rw [aO] at e
 try rw [aO] at b
 obtain ⟨⟨cg,ch⟩,e⟩:=e.unfI (ck:=jR) (fs:=jP) 15 rfl
 refine rga (λ_=>True) [] ?_
 have e:=e.drew
 refine jO [0,1,2,4,5,6,7,8] [0,5,6,103,105,107,109] (L':=[k2g g,k2d k,(6,vi (i64.wrap (tdiv (i64.wrap (f-1)) 5))),(103,pt g 12),(105,vi (i64.wrap (tdiv (i64.wrap (f-1)) 5))),(107,vi (i64.wrap (tdiv (i64.wrap (f-1)) 5))),(109,pt g 16)]) (listed':=(mU 13 503)) (fuel:=5) b trivial kr (by intro c a w t v h; cases t<;>exact h) kr rfl λa b=>mG e [12] (atk 3 (some 104) b (e.sx [0,1,2,4,5,6,7,8,14,15,16,17,18,19,20,21,22] (rg 27)) rfl (vld 7 12 0) λa b=>?_)
 refine atk 9 (some 110) b (e.sx [0,1,2,4,5,6,7,8,14,15,16,17,18,19,20,21,22] (rg 27)) rfl (λw _=>lU (E:=81) (sz:=1) (n:=4) rfl rfl (i:=i64.wrap (tdiv (i64.wrap (f-1)) 5)) rfl (m1 bG (e.get 14 rfl)) kr kr w) λa b=>atk 10 (some 111) b (e.sx [0,1,2,4,5,6,7,8,14,15,16,17,18,19,20,21,22] (rg 27)) rfl (rV (t:=pF) 7 16 (v:=pt bQ 0) rfl rfl rfl rfl bG rfl rfl kr kr) λa b=>ago 11 b rfl ?_
 refine bd H λeK dz H=>wcS 3 [2,4,5,0,1,3,6,7,8,9,10,11,12,13,14,15,16,17,18,19,20,21,22] b e (λe=>xE N aV bR bS bT bU bV cd ce bQ (e.sbK [4,5]) dz) ?_
 rintro _ κ w a ⟨rfl,h2⟩ b hB
 have e:=(hB _ _ h2).cC (C':=[k35 bQ aV.base bR (aV.list).length bS aV.handed bT (aV.done).length bU bV aV.got,.ext (ownX jN 4 bT bU aV.done),mx bV cd ce,k2f am aL.dc cg (aL.beats).length ch aL.got.Epoch aL.got.Has aL.got.T aL.known.Epoch aL.known.Has aL.known.T aL.stable,.ext (ownX (fInt .u64) 32 cg ch aL.beats),k30 bR (aV.list).length bS,.ext (arrX j6 (set l (toNat (i64.wrap (tdiv (i64.wrap (f-1)) 5))) none) dy (set (set ba (toNat (i64.wrap (tdiv (i64.wrap (f-1)) 5))) (some bF)) (toNat (i64.wrap (tdiv (i64.wrap (f-1)) 5))) none)),k3v k d.Kind d.Id d.N d.TS d.Lo d.Hi aF (d.Vers).length aG aH (d.Vec).length aI d.Cmd.Kind d.Cmd.DC d.Cmd.Shard d.Cmd.Node d.Cmd.Mode d.Cmd.Key,.box g 87 [si a1,si a2,si a3,si a4,si a5,si a6,sl p8 (P.Cuts).length c9,sl ad (P.Nodes).length ae,sl o Q.length p,sl q R.length s,sl u S.length x,sb aX,k34 am,sp aA,sp aB,su ao,k3l l,ei 4 aq,ei 4 af,sm z,sm A,sl B U.length C,sm Y,su aY,sp aD,si aP,si aQ,sl D V.length F,sl G W.length I,su aR,sb aS,sb aZ,sb a0,sl Z ab.length aa,sl J X.length K],k3d B U.length C,k3e D V.length F,k3e G W.length I,k2s Z ab.length aa,k2w J X.length K,.ext (ownX (fInt .i64) 3 o p Q),.ext (ownX jN 4 q s R),.ext (ownX (fInt .i64) 3 u x S),k3f aA ax a8,k3g aB ay a9,mx z ar au,mx A aj ak,mx Y av aw,k2y aD az be])
 refine ⟨λ_=>(e.sx [3,4,0,1,2,6,7,8,14,15,16,17,18,19,20,21,22] (rg 27)),?_⟩
 refine ago 12 b rfl (bd H λc5 dA H=>wcS 2 [3,4,0,1,2,5,6,7,8,9,10,11,12,13,14,15,16,17,18,19,20,21,22] b e (λe=>wP N aL (i64.wrap (tdiv (i64.wrap (f-1)) 5)) eK cg ch am (e.sbK (rg 4)) dA) ?_)
 rintro _ κ w a ⟨eL,eM,rfl,h2⟩ b hB
 have e:=hB _ _ h2
 refine ⟨notE,?_⟩
 refine kM ?_
 obtain ⟨fo,e⟩:=e.foldI (ck:=jR) (fs:=jP) am (eL,eM) c5 [0,1] (ra 2 21) (rg 4) dc kr kr
 obtain ⟨fp,e⟩:=e.foldI (ck:=lO) (fs:=lN) bQ (bR,bS,bT,bU,bV,cd,ce) aV [1,4,2,3] [0,5,6,7,8,9,10,11,12,13,14,15,16,17,18,19,20,21] [8,9] dc kr kr
 obtain ⟨bW,e⟩:=e.arrBackI 0 2 [1,3,4,5,6,7,8,9,10,11,12,13,14,15,16,17,18] dc rfl rfl bH (bz.trans (congrArg some bh))
 refine eI _ _ (qs λ_ eN=>?_)
 obtain ⟨⟨eO,eP⟩,e⟩:=e.unfI (ck:=jR) (fs:=jP) 1 rfl
 refine rga (λ_=>True) [] ?_
 have e:=e.drew
 refine jO [0,1,2,4,5,10] [0,5,6,116,118,119,124] (L':=[k2g g,k2d k,(6,vi (i64.wrap (tdiv (i64.wrap (f-1)) 5))),(116,pt g 12),(118,vi (i64.wrap (tdiv (i64.wrap (f-1)) 5))),(119,pt k 7),(124,pt k 7)]) (listed':=(mU 15 1079)) (fuel:=9) b trivial kr (by intro c a w t v h; cases t<;>exact h) kr rfl λa b=>mG e [14] (atk 3 (some 117) b (e.sx [0,1,2,3,4,10,11,12,13,14,15,16,17,18] (rg 35)) rfl (vld 4 12 0) λa b=>?_)
 refine atk 6 (some 120) b (e.sx [0,1,2,3,4,10,11,12,13,14,15,16,17,18] (rg 35)) rfl (vld 3 7 0) λa b=>bd H λci bX H=>?_
 obtain ⟨fH,fI,b4⟩:=e.ptr 34 rfl bX
 refine atk 7 (some 121) b (e.sx [0,1,2,3,4,10,11,12,13,14,15,16,17,18] (rg 35)) rfl (λw _=>mN (E:=32) (sz:=1) rfl b4 rfl kr rfl bX kr kr w) λa b=>atk 8 (some 122) b (e.sx [0,1,2,3,4,10,11,12,13,14,15,16,17,18] (rg 35)) rfl (qG (t:=(fInt .u64)) 34 0 (v:=vu ci) rfl rfl b4 rfl bX kr kr kr) λa b=>jO [9] [0,5,6,117,118,123,124] (L':=[k2g g,k2d k,(6,vi (i64.wrap (tdiv (i64.wrap (f-1)) 5))),(117,pt am 0),(118,vi (i64.wrap (tdiv (i64.wrap (f-1)) 5))),(123,vi (i64.wrap ci)),(124,pt k 7)]) (listed':=(mU 15 2047)) (fuel:=4) b (e.sx [0,1,2,3,4,10,11,12,13,14,15,16,17,18] (rg 35)) kr (by intro c a w t v h; cases t<;>exact h) kr rfl λa b=>?_
 refine atk 11 (some 125) b (e.sx [0,1,2,3,4,10,11,12,13,14,15,16,17,18] (rg 35)) rfl (vld 3 7 0) λa b=>bd H λc6 bY H=>?_
 obtain ⟨fJ,fK,b5⟩:=e.ptr 34 rfl bY
 refine atk 12 (some 126) b (e.sx [0,1,2,3,4,10,11,12,13,14,15,16,17,18] (rg 35)) rfl (λw _=>mN (E:=32) (sz:=1) rfl b5 rfl kr rfl bY kr kr w) λa b=>atk 13 (some 127) b (e.sx [0,1,2,3,4,10,11,12,13,14,15,16,17,18] (rg 35)) rfl (qG (t:=(fInt .u64)) 34 0 (v:=vu c6) rfl rfl b5 rfl bY kr kr kr) λa b=>ago 14 b rfl (bd H λan dB H=>wcS 2 (rg 19) b e (λe=>zJ N c5 (i64.wrap (tdiv (i64.wrap (f-1)) 5)) (i64.wrap ci) c6 eO eP am (e.sbK (rg 4)) dB) ?_)
 rintro _ κ w a ⟨cj,cl,rfl,h2⟩ b hB
 have e:=(hB _ _ h2).cC (C':=[k2f am an.dc cj (an.beats).length cl an.got.Epoch an.got.Has an.got.T an.known.Epoch an.known.Has an.known.T an.stable,.ext (ownX (fInt .u64) 32 cj cl an.beats),.ext (arrX j6 l bW (set ba (toNat (i64.wrap (tdiv (i64.wrap (f-1)) 5))) (some bF))),k3v k d.Kind d.Id d.N d.TS d.Lo d.Hi aF (d.Vers).length aG aH (d.Vec).length aI d.Cmd.Kind d.Cmd.DC d.Cmd.Shard d.Cmd.Node d.Cmd.Mode d.Cmd.Key,.box g 87 [si a1,si a2,si a3,si a4,si a5,si a6,sl p8 (P.Cuts).length c9,sl ad (P.Nodes).length ae,sl o Q.length p,sl q R.length s,sl u S.length x,sb aX,k34 am,sp aA,sp aB,su ao,k3l l,ei 4 aq,ei 4 af,sm z,sm A,sl B U.length C,sm Y,su aY,sp aD,si aP,si aQ,sl D V.length F,sl G W.length I,su aR,sb aS,sb aZ,sb a0,sl Z ab.length aa,sl J X.length K],k3d B U.length C,k3e D V.length F,k3e G W.length I,k2s Z ab.length aa,k2w J X.length K,.ext (ownX (fInt .i64) 3 o p Q),.ext (ownX jN 4 q s R),.ext (ownX (fInt .i64) 3 u x S),k3f aA ax a8,k3g aB ay a9,mx z ar au,mx A aj ak,mx Y av aw,k2y aD az be])
 refine ⟨notE,?_⟩
 refine kM ?_
 obtain ⟨cq,e⟩:=e.foldI (ck:=jR) (fs:=jP) am (cj,cl) an [0,1] (ra 2 17) (rg 4) dc kr kr
 refine eN _ _ (qs λ_ eQ=>rgS e [12] ?_)
 have e:=e.drew
 have hX:=e.fx
 refine jO [0,1,2,3,5] [0,5,6,129,132,134] (L':=[k2g g,k2d k,(6,vi (i64.wrap (tdiv (i64.wrap (f-1)) 5))),(129,pt g 0),(132,pt g 15),(134,pt k 7)]) (listed':=(mU 13 47)) (fuel:=8) b hX kr (by intro c a w t v h; cases t<;>exact h) kr rfl λa b=>atk 4 (some 133) b hX rfl (vld 3 15 0) λa b=>atk 6 (some 135) b hX rfl (vld 2 7 0) λa b=>bd H λaW bZ H=>?_
 obtain ⟨fL,fM,b6⟩:=e.ptr 38 rfl bZ
 refine atk 7 (some 136) b (e.sx [0,1,2,3,9,10,11,12,13,14,15,16,17] (rg 39)) rfl (λw _=>mN (E:=32) (sz:=1) rfl b6 rfl kr rfl bZ kr kr w) λa b=>atk 8 (some 137) b (e.sx [0,1,2,3,9,10,11,12,13,14,15,16,17] (rg 39)) rfl (qG (t:=(fInt .u64)) 38 0 (v:=vu aW) rfl rfl b6 rfl bZ kr kr kr) λa b=>anp [9,10,11] [0,5,6,138,140] b (e.sx [0,1,2,3,9,10,11,12,13,14,15,16,17] (rg 39)) λa b=>?_
 refine ago 12 b rfl (wst b e 3 15 1 [su (if aW > ao then aW else ao)] (sgN 1 jE) λa w b e=>⟨notE,?_⟩)
 refine kM (eQ _ _ (qs λ_ eS=>rgS e [17] ?_))
 have e:=e.drew
 refine jO [0,1,2,3,4,5,8,14,15] [0,142,144,146,149,156] (L':=[k2g g,(142,vi (i64.wrap (tdiv (i64.wrap (f-1)) 5))),(144,vi (i64.wrap (tdiv (i64.wrap (f-1)) 5))),(146,pt g 24),(149,pt k 7),(156,pt g 24)]) (listed':=(mU 18 49471)) (fuel:=9) b (e.sx [0,1,2,3,9,10,11,12,13,14,15,16,17] (rg 39)) kr (by intro c a w t v h; cases t<;>exact h) kr rfl λa b=>?_
 refine bd H λL cr H=>atk 6 (some 147) b (e.sx [0,1,2,3,9,10,11,12,13,14,15,16,17] (rg 39)) rfl (λw _=>lU (E:=3) (sz:=1) (n:=4) rfl rfl (i:=i64.wrap (tdiv (i64.wrap (f-1)) 5)) rfl (m1 cr (e.get 28 rfl)) kr kr w) λa b=>atk 7 (some 148) b (e.sx [0,1,2,3,9,10,11,12,13,14,15,16,17] (rg 39)) rfl (rV (t:=(fInt .i64)) 3 18 (v:=vi L) rfl rfl rfl rfl cr rfl rfl kr kr) λa b=>?_
 refine atk 9 (some 150) b (e.sx [0,1,2,3,9,10,11,12,13,14,15,16,17] (rg 39)) rfl (vld 2 7 0) λa b=>bd H λO b0 H=>?_
 obtain ⟨fN,fO,b7⟩:=e.ptr 38 rfl b0
 refine atk 10 (some 151) b (e.sx [0,1,2,3,9,10,11,12,13,14,15,16,17] (rg 39)) rfl (λw _=>mN (E:=32) (sz:=1) rfl b7 rfl kr rfl b0 kr kr w) λa b=>atk 11 (some 152) b (e.sx [0,1,2,3,9,10,11,12,13,14,15,16,17] (rg 39)) rfl (qG (t:=(fInt .u64)) 38 0 (v:=vu O) rfl rfl b7 rfl b0 kr kr kr) λa b=>jO [12,13] [0,142,154,156] (L':=[k2g g,(142,vi (i64.wrap (tdiv (i64.wrap (f-1)) 5))),(154,vi (if i64.wrap O > L then i64.wrap O else L)),(156,pt g 24)]) (listed':=(mU 18 65535)) (fuel:=2) b (e.sx [0,1,2,3,9,10,11,12,13,14,15,16,17] (rg 39)) kr (by intro c a w t v h; cases t<;>exact h) kr rfl λa b=>?_
 refine bd H λfP cs H=>atk 16 (some 157) b (e.sx [0,1,2,3,9,10,11,12,13,14,15,16,17] (rg 39)) rfl (λw _=>lU (E:=3) (sz:=1) (n:=4) rfl rfl (i:=i64.wrap (tdiv (i64.wrap (f-1)) 5)) rfl (m1 cs (e.get 28 rfl)) kr kr w) λa b=>ago 17 b rfl (lM (t:=(fInt .i64)) (y:=(if i64.wrap O > L then i64.wrap O else L)) (v:=vi (if i64.wrap O > L then i64.wrap O else L)) b e kr 3 18 (s':=[si a1,si a2,si a3,si a4,si a5,si a6,sl p8 (P.Cuts).length c9,sl ad (P.Nodes).length ae,sl o Q.length p,sl q R.length s,sl u S.length x,sb aX,k34 am,sp aA,sp aB,su (if aW > ao then aW else ao),k3l l,ei 4 aq,ei 4 (set af (toNat (i64.wrap (tdiv (i64.wrap (f-1)) 5))) (if i64.wrap O > L then i64.wrap O else L)),sm z,sm A,sl B U.length C,sm Y,su aY,sp aD,si aP,si aQ,sl D V.length F,sl G W.length I,su aR,sb aS,sb aZ,sb a0,sl Z ab.length aa,sl J X.length K]) (C':=[k3s am cq an,.ext (arrX j6 l bW (set ba (toNat (i64.wrap (tdiv (i64.wrap (f-1)) 5))) (some bF))),k3v k d.Kind d.Id d.N d.TS d.Lo d.Hi aF (d.Vers).length aG aH (d.Vec).length aI d.Cmd.Kind d.Cmd.DC d.Cmd.Shard d.Cmd.Node d.Cmd.Mode d.Cmd.Key,.box g 87 [si a1,si a2,si a3,si a4,si a5,si a6,sl p8 (P.Cuts).length c9,sl ad (P.Nodes).length ae,sl o Q.length p,sl q R.length s,sl u S.length x,sb aX,k34 am,sp aA,sp aB,su (if aW > ao then aW else ao),k3l l,ei 4 aq,ei 4 (set af (toNat (i64.wrap (tdiv (i64.wrap (f-1)) 5))) (if i64.wrap O > L then i64.wrap O else L)),sm z,sm A,sl B U.length C,sm Y,su aY,sp aD,si aP,si aQ,sl D V.length F,sl G W.length I,su aR,sb aS,sb aZ,sb a0,sl Z ab.length aa,sl J X.length K],k3d B U.length C,k3e D V.length F,k3e G W.length I,k2s Z ab.length aa,k2w J X.length K,.ext (ownX (fInt .i64) 3 o p Q),.ext (ownX jN 4 q s R),.ext (ownX (fInt .i64) 3 u x S),k3f aA ax a8,k3g aB ay a9,mx z ar au,mx A aj ak,mx Y av aw,k2y aD az be]) rfl rfl kr rfl rfl cs rfl rfl kr kr kr kr λa w b e=>?_)
 have e:=e.add (m:=ml (set af (toNat (i64.wrap (tdiv (i64.wrap (f-1)) 5))) (if i64.wrap O > L then i64.wrap O else L)) 4) (List.length_set.trans (e.get 28 rfl))
 refine ⟨notE,?_⟩
 refine kM (eS _ _ (rl (wp 1 [158] b λa b=>bd H λbj dC H=>?_)))
 have cu:=e.segs 3 rfl
 refine wc (wcS 10 [3,7,10,0,12,13,1,15,16,17,2,4,5,6,8,9,11,14] b e (λe=>uK N a1 a3 a4 P R aX (some an) a8 a9 (if aW > ao then aW else ao) (set ba (toNat (i64.wrap (tdiv (i64.wrap (f-1)) 5))) (some bF)) aq (set af (toNat (i64.wrap (tdiv (i64.wrap (f-1)) 5))) (if i64.wrap O > L then i64.wrap O else L)) bu U bw aY be W aR aS aZ a0 ab [vi a2] (flat [si a5,si a6]) p8 c9 ad ae [.slice o Q.length p] q s [.slice u S.length x] (some am) cq aA ax aB ay l bW [.map z] A aj ak B C Y av aw aD az (flat [si aP,si aQ,sl D V.length F]) G I Z aa [.slice J X.length K] g ((e.regr 0 [(false,4),(true,2),(false,19),(true,3),(false,7)] rfl).sbK [25,26,27,28,0,31,32,33,35,36]) dC) ?_)
 rintro _ κ w a ⟨c7,dD,c8,dE,da,dF,db,dG,dd,eT,eU,de,dH,df,dg,rfl,h2⟩ b hB
 have e:=(hB _ _ h2).unregrK 0 [(false,4),(true,2),(false,19),(true,3),(false,7)] (s':=k1z a1 a2 a3 a4 a5 a6 p8 (P.Cuts).length c9 ad (P.Nodes).length ae o Q.length p q R.length s u S.length x bj.1 c7 c8 da bj.u4.1 db bj.u4.2.2.1 (set af (toNat (i64.wrap (tdiv (i64.wrap (f-1)) 5))) (if i64.wrap O > L then i64.wrap O else L)) z A B U.length C dd bj.u8.1 de aP aQ D V.length F G W.length I aR aS bj.u8.2.2.1 bj.u8.2.2.2.1 df (bj.u8.u4).length dg J X.length K) cu rfl
 refine nl ?_
 cases H
 exact j7 b e (mI Tryz.results29) ⟨p8,c9,ad,ae,o,p,q,s,u,x,c7,dD,c8,dE,da,dF,db,dG,z,ar,au,A,aj,ak,B,C,dd,eT,eU,de,dH,D,F,G,I,df,dg,J,K,rfl,e.sp [0,11,12,13,1,14,15,2,16,3,4,5,6,17,7,8,9] [29,30,0,1,4,34,35,36,2,38,39,3,41]⟩
theorem AE (N){Ms}{κ0}{w0}(K)(L)(O)(a6)(d:jA)(P)(Q)(R)(S)(j:(List j3))(T)(U)(k:(List i9))(V)(W)(X)(A)(B)(Y)(Z)(l)(n)(e)(C)(y)(f)(o)(D)(E)(p)(F)(G)(q)(s)(g)(I)(z)(h)(t)(u)(i)(J)(hB:SB Ms κ0 w0 [.box J 87 [si K,(1,A),si L,(1,B),si O,si a6,sl Y (d.Cuts).length Z,sl l (d.Nodes).length n,(6,e),sp C,su Q,(12,f),sm o,sm p,sl q j.length s,(1,g),su T,sp I,(8,h),sl t k.length u,(1,i)],k3d q j.length s,k2s t k.length u,k3g C y P,mx o D E,mx p F G,k2y I z U] [k2l Y Z d.Cuts,k2m l n d.Nodes,k3h o D E R,k3i p F G S,k3j q s j,k2t t u k]){r}(H:M.u3 N K L O a6 d P Q R S j T U k V W X=some r) :
    Calls Tryz.prog 18 #[pt J 0,vi V,.string (W),vu X] w0 (kQ Ms κ0 w0 λv κ w => ∃ak aG aa al am ab an ao ad ae aq aH af ah,v=vi r.1∧SS Ms κ0 w0 κ w [.box J 87 [si K,(1,A),si L,(1,B),si O,si r.2.1,sl Y (d.Cuts).length Z,sl l (d.Nodes).length n,(6,e),sp ak,su r.2.2.2.1,(12,f),sm aa,sm ab,sl ad (r.u4.2.2.1).length ae,(1,g),su r.u4.2.2.2.1,sp aq,(8,h),sl af (r.u8.2).length ah,(1,i)],k3d ad (r.u4.2.2.1).length ae,k2s af (r.u8.2).length ah,k3g ak aG r.2.2.1,mx aa al am,mx ab an ao,k2y aq aH r.u8.1] [k3h aa al am r.u4.1,k3i ab an ao r.u4.2.1,k3j ad ae r.u4.2.2.1,k2t af ah r.u8.2]):=by
 have c:=hB.hS
 have aZ:=c.fresh
 refine en Tryz.func18 rfl Tryz.ntmps18 λa b=>?_
 unfold M.u3 at H
 refine qr λ_ aM=>wp 1 (rg 4) b λa b=>aM _ _ (qs λ_ aO=>qr λ_ aP=>wp 6 [0,1,2,3,11,14] b λa b=>wcg b (wld b c 0 2 0 λa b=>wp 2 [0,1,2,3,17] b λa b=>aP _ _ (bc b H (λhb H=>?_) λhb H=>?_)))
 refine qr λ_ aQ=>wp 1 [8] b λa b=>aQ _ _ (rt ?_)
 cases H
 exact j7 b c (l3 Tryz.results18 (rvt b)) ⟨C,y,o,D,E,p,F,G,q,s,I,z,t,u,rfl,c.sp (rg 7) (ra 2 4)⟩
 refine sk (aO _ _ (qr λ_ aR=>wp 5 [18,22] b λa b=>?_))
 have c:=c.add (m:=Ro.mp jF.ty none 0 ([]:List jC)) (Ro.nil jF.ty _ _)
 refine bd H λx aI H=>?_
 have ai:=c.segs 0 rfl
 refine wc (wcS 7 (rg 7) b c (λc=>uX N K O a6 d P Q R S j T U k (j3.mk V true W X ([]:List jC)) (flat [(1,A),si L,(1,B)]) Y Z l n e C y f o D E p F G q s g I z h t u i none 0 J ((c.regr 0 [(false,1),(true,3),(false,17)] rfl).sbK [1,2,3,4,5,6,0]) aI) ?_)
 rintro _ κ w a ⟨ar,aJ,au,aS,aT,av,aU,aV,aw,ax,ay,aL,az,aA,rfl,h2⟩ b hB
 have c:=(hB _ _ h2).unregrK 0 [(false,1),(true,3),(false,17)] (s':=[si K,(1,A),si L,(1,B),si O,si x.1,sl Y (d.Cuts).length Z,sl l (d.Nodes).length n,(6,e),sp ar,su x.2.2.1,(12,f),sm au,sm av,sl aw (x.u4.2.1).length ax,(1,g),su x.u4.2.2.1,sp ay,(8,h),sl az (x.u8).length aA,(1,i)]) ai rfl
 refine aR _ _ (qr λ_ aW=>wp 1 [8] b λa b=>aW _ _ (rt ?_))
 cases H
 exact j7 b c (l3 Tryz.results18 (rvt b)) ⟨ar,aJ,au,aS,aT,av,aU,aV,aw,ax,ay,aL,az,aA,rfl,c.sp (rg 7) (rg 4)⟩
theorem vS (N){Ms}{κ0}{w0}(a1)(a3)(a4)(a5)(a6)(h:jA)(e:(List Bool))(P)(be)(aE)(aP)(aQ)(aF)(D)(l)(aR)(aS)(am:(List j3))(aT)(aU)(aV)(n:(List Int))(E)(F)(Q)(R)(an:(List i9))(aG)(S)(ao)(K)(p8)(c9)(u)(x)(o)(j)(k)(p)(aW)(aA)(G)(I)(aH)(U)(f)(J)(V)(W)(X)(Y)(Z)(aa)(ab)(ad)(q)(L)(O)(aI)(ae)(s)(y)(A)(af)(ah)(t)(aJ)(aL)(B)(hB:SB Ms κ0 w0 (k21 B a1 K a3 a4 a5 a6 p8 (h.Cuts).length c9 u (h.Nodes).length x o j e.length k p P aW G aH aQ f D l V Y ab am.length ad q aU aI s y n.length A E F Q R af an.length ah t (ownX jN 4 j k e) aA be I aE U aP (arrX j6 f J aF) W X Z aa L O ae aV) [k2l p8 c9 h.Cuts,k2m u x h.Nodes,(ml f 4),(ml D 4),(ml l 4),k3h V W X aR,k3i Y Z aa aS,k3j ab ad am,k3k q L O aT,k2v y A n,k2t af ah an,k2u aJ aL ao]){r}(H:M.rQ N a1 a3 a4 a5 a6 h e P be aE aP aQ aF D l aR aS am aT aU aV n E F Q R an aG S ao=some r) :
    Calls Tryz.prog 17 #[pt B 0,vi aG,vu S,.slice aJ ao.length aL] w0 (kQ Ms κ0 w0 λv κ w => ∃b6 bN b7 bO b8 bP aO bQ bf bg bh bi bj bl bm bn bo bq br b9 bR bt bu,v=vi r.1∧SS Ms κ0 w0 κ w (k21 B a1 K a3 a4 a5 r.2.1 p8 (h.Cuts).length c9 u (h.Nodes).length x o j e.length k p r.2.2.1 b6 b7 b8 r.u4.2.2.1 aO r.u8.1 l bf bi bm (r.u8.2.2.2.1).length bn bo r.u8.u4.2.1 b9 s y n.length A E F r.u8.u4.2.2.2.1 r.u8.u8.1 bt (r.u8.u8.2).length bu t (ownX jN 4 j k e) bN r.2.2.2.1 bO r.u4.1 bP r.u4.2.1 (arrX j6 aO bQ r.u4.2.2.2.1) bg bh bj bl bq br bR r.u8.u4.2.2.1) [(ml aO 4),(ml r.u8.1 4),k3h bf bg bh r.u8.2.1,k3i bi bj bl r.u8.2.2.1,k3j bm bn r.u8.2.2.2.1,k3k bo bq br r.u8.u4.1,k2t bt bu r.u8.u8.2]):=by
 have c:=hB.hS
 have cs:=c.fresh
 refine en Tryz.func17 rfl Tryz.ntmps17 λa b=>?_
 unfold M.rQ at H
 refine qr λ_ ci=>wp 1 (rg 4) b λa b=>ci _ _ (qs λ_ cj=>qr λ_ cl=>wp 6 [0,1,2,3,11,14] b λa b=>wcg b (wld b c 0 2 0 λa b=>wp 2 [0,1,2,3,17] b λa b=>cl _ _ (bc b H (λhb H=>?_) λhb H=>?_)))
 refine qr λ_ cm=>wp 1 [8] b λa b=>cm _ _ (rt ?_)
 cases H
 exact j7 b c (l3 Tryz.results17 (rvt b)) ⟨aW,aA,G,I,aH,U,f,J,V,W,X,Y,Z,aa,ab,ad,q,L,O,aI,ae,af,ah,rfl,c.sp (rg 12) [2,3,5,6,7,8,10]⟩
 refine sk (cj _ _ (qs λ_ cn=>qr λ_ co=>bd H λcp ai H=>kA (λa w => ∃κ:Gh,Fr (41) [] [k2g B,k2a aG,(2,vu S),k3c aJ ao.length aL,(25,vb cp)] a∧SS Ms κ0 w0 κ w (k21 B a1 K a3 a4 a5 a6 p8 (h.Cuts).length c9 u (h.Nodes).length x o j e.length k p P aW G aH aQ f D l V Y ab am.length ad q aU aI s y n.length A E F Q R af an.length ah t (ownX jN 4 j k e) aA be I aE U aP (arrX j6 f J aF) W X Z aa L O ae aV) [k2l p8 c9 h.Cuts,k2m u x h.Nodes,(ml f 4),(ml D 4),(ml l 4),k3h V W X aR,k3i Y Z aa aS,k3j ab ad am,k3k q L O aT,k2v y A n,k2t af ah an,k2u aJ aL ao]∧True) ?_ ?_))
 refine wp 4 [0,1,2,3,21] b λa b=>bs ai (λhb ai=>?_) λhb ai=>?_
 have b:=b.bv 21 hb
 refine wp 4 [0,1,2,3,25] b λa b=>nl ?_
 cases ai
 exact ⟨_,b.kp [0,1,2,3,25],c.sp (rg 12) (rg 12),trivial⟩
 have b:=b.bv 21 hb
 refine wp 4 [0,1,2,3,25] b λa b=>nl ?_
 cases ai
 exact ⟨_,b.kp [0,1,2,3,25],c.sp (rg 12) (rg 12),trivial⟩
 rintro a w ⟨κ,b,c,-⟩
 refine co _ _ (bc b H (λhb H=>?_) λhb H=>?_)
 refine qr λ_ cq=>wp 1 [8] b λa b=>cq _ _ (rt ?_)
 cases H
 exact j7 b c (l3 Tryz.results17 (rvt b)) ⟨aW,aA,G,I,aH,U,f,J,V,W,X,Y,Z,aa,ab,ad,q,L,O,aI,ae,af,ah,rfl,c.sp (rg 12) [2,3,5,6,7,8,10]⟩
 refine sk (cn _ _ (qs λ_ cr=>bd H λg ho H=>?_))
 obtain ⟨aj,b0,c⟩:=c.optS 4 rfl ho
 rw [b0] at c
 try rw [b0] at b
 obtain ⟨⟨aX,aY⟩,c⟩:=c.unfI (ck:=jR) (fs:=jP) 4 rfl
 refine rl (wp 6 [0,3,26,27,28,31] b λa b=>wc (wld b c 2 12 0 λa b=>bd H λaZ ca H=>wc (wcS 2 (rg 13) b c (λc=>rE N g aX aY aj (c.sbK (rg 4)) ca) ?_)))
 rintro _ κ w a ⟨rfl,h2⟩ b hB
 have c:=hB _ _ h2
 refine jG (L':=[k2g B,(26,pt B 0),(27,vi aG),(34,vu (if aZ > S then aZ else S)),(35,.slice aJ ao.length aL)]) 2 [0,26,27,34,35] b kr λa b=>?_
 have c:=c.add (m:=Ro.mp jF.ty none 0 ([]:List jC)) (Ro.nil jF.ty _ _)
 have c:=c.addNil 48 6
 refine bd H λb1 cb H=>wc (kI (ty:=jF.ty) b c kr 0 0 16 rfl rfl rfl kr kr rfl rfl rfl cb kr (i:=Tryz.t48) (z := .agg (flat (k0e empty)).toArray) kr kr kr λb2 b3 κ a w b c=>wp 1 [0,26,37] b λa b=>bd H λd cc H=>?_)
 have bx:=c.segs 3 rfl
 refine wc (wcS 7 [3,4,5,8,10,11,13,0,1,2,6,7,9,12] b c (λc=>uX N a1 a5 a6 h aP aQ aR aS am aU aV an (j3.mk aG false empty (if aZ > S then aZ else S) b1) (flat [(1,K),si a3,si a4]) p8 c9 u x (flat [(1,o),sl j e.length k,(1,p),sb P,k34 aj,sp G]) aH U (flat [k3l f,ei 4 D,ei 4 l]) V W X Y Z aa ab ad [.map q] aI ae (flat [(3,s),sl y n.length A,su E,sb F,sb Q,sb R]) af ah t b2 b3 B ((c.regr 0 [(false,1),(true,3),(false,4),(true,6),(false,2),(true,3),(false,6),(true,6),(false,2)] rfl).sbK [6,7,11,12,13,16,0]) cc) ?_)
 rintro _ κ w a ⟨a0,bz,aq,b4,b5,ar,bA,bB,au,av,a2,a8,aB,aD,rfl,h2⟩ b hB
 have c:=((hB _ _ h2).unregrK 0 [(false,1),(true,3),(false,4),(true,6),(false,2),(true,3),(false,6),(true,6),(false,2)] (s':=[si a1,(1,K),si a3,si a4,si a5,si d.1,sl p8 (h.Cuts).length c9,sl u (h.Nodes).length x,(1,o),sl j e.length k,(1,p),sb P,k34 aj,sp G,sp a0,su d.2.2.1,k3l f,ei 4 D,ei 4 l,sm aq,sm ar,sl au (d.u4.2.1).length av,sm q,su d.u4.2.2.1,sp a2,(3,s),sl y n.length A,su E,sb F,sb Q,sb R,sl aB (d.u8).length aD,(1,t)]) bx rfl).cC (C':=[.box B 87 [si a1,(1,K),si a3,si a4,si a5,si d.1,sl p8 (h.Cuts).length c9,sl u (h.Nodes).length x,(1,o),sl j e.length k,(1,p),sb P,k34 aj,sp G,sp a0,su d.2.2.1,k3l f,ei 4 D,ei 4 l,sm aq,sm ar,sl au (d.u4.2.1).length av,sm q,su d.u4.2.2.1,sp a2,(3,s),sl y n.length A,su E,sb F,sb Q,sb R,sl aB (d.u8).length aD,(1,t)],k3d au (d.u4.2.1).length av,k2s aB (d.u8).length aD,k3g a0 bz d.2.1,mx aq b4 b5,mx ar bA bB,k2y a2 a8 d.u4.2.2.2.1,k38 b2 b1.length b3,k2f aj g.dc aX (g.beats).length aY g.got.Epoch g.got.Has g.got.T g.known.Epoch g.known.Has g.known.T g.stable,.ext (ownX (fInt .u64) 32 aX aY g.beats),.ext (ownX jN 4 j k e),k3f G I aE,.ext (arrX j6 f J aF),mx q L O])
 refine nl ?_
 obtain ⟨bS,c⟩:=c.foldI (ck:=jR) (fs:=jP) aj (aX,aY) g [8,9] [0,1,2,3,4,5,6,7,10,11,12,13] (ra 6 4) dc kr kr
 refine cr _ _ (qr λ_ cd=>wp 1 [39] b λa b=>bd H λC bT H=>?_)
 have a9:=c.segs 1 rfl
 refine wc (wcS 10 [1,3,9,0,10,4,11,6,12,7,2,5,8] b c (λc=>uK N a1 a3 a4 h e P (some g) aE d.2.1 d.2.2.1 aF D l d.u4.1 d.u4.2.1 aT d.u4.2.2.1 d.u4.2.2.2.1 n E F Q R d.u8 K (flat [si a5,si d.1]) p8 c9 u x o j k p (some aj) bS G I a0 bz f J [.map aq] ar bA bB au av q L O a2 a8 s y A aB aD t B ((c.regr 0 [(false,4),(true,2),(false,27)] rfl).sbK [10,11,12,13,14,1,2,18,19,3]) bT) ?_)
 rintro _ κ w a ⟨bC,bU,bD,bV,bE,bW,bF,bX,bG,ce,cg,bH,bY,bI,bJ,rfl,h2⟩ b hB
 have c:=(hB _ _ h2).unregrK 0 [(false,4),(true,2),(false,27)] (s':=[si a1,(1,K),si a3,si a4,si a5,si d.1,sl p8 (h.Cuts).length c9,sl u (h.Nodes).length x,(1,o),sl j e.length k,(1,p),sb C.1,sp bC,sp bD,sp bE,su C.u4.1,k3l bF,ei 4 C.u4.2.2.1,ei 4 l,sm aq,sm ar,sl au (d.u4.2.1).length av,sm bG,su C.u8.1,sp bH,(3,s),sl y n.length A,su E,sb F,sb C.u8.2.2.1,sb C.u8.2.2.2.1,sl bI (C.u8.u4).length bJ,(1,t)]) a9 rfl
 refine cd _ _ (qr λ_ ch=>wp 1 [8] b λa b=>ch _ _ (rt ?_))
 cases H
 exact j7 b c (l3 Tryz.results17 (rvt b)) ⟨bC,bU,bD,bV,bE,bW,bF,bX,aq,b4,b5,ar,bA,bB,au,av,bG,ce,cg,bH,bY,bI,bJ,rfl,c.sp [0,10,1,2,3,4,5,6,11,7,8,9] [0,1,4,5,6,2,3]⟩
theorem AD (N){K}{L}{D}(l)(i)(o)(U)(O:(List i9))(j)(V)(E)(k)(u)(x)(e)(f)(F:SB K L D (k22 f l i o j V k u O.length x e E U) [k2t u x O]){r}(H:M.sW N l i o U O=some r) :
    Calls Tryz.prog 30 #[pt f 0] D (kQ K L D λv κ w => ∃ad W Q R,v=vi r.1∧SS K L D κ w (k22 f l i o j ad k Q (r.2.2).length R e W r.2.1) [k2t Q R r.2.2]):=by
 have c:=F.hS
 have au:=c.fresh
 refine en Tryz.func30 rfl Tryz.ntmps30 λa b=>?_
 unfold M.sW at H
 refine qr λ_ ae=>wp 1 [0] b λa b=>ae _ _ (qs λ_ af=>qr λ_ ah=>wp 6 [0,6,9] b λa b=>wcg b (wld b c 0 2 0 λa b=>wp 2 [0,12] b λa b=>ah _ _ (bc b H (λhb H=>?_) λhb H=>?_)))
 refine qr λ_ ai=>wp 1 [2] b λa b=>ai _ _ (rt ?_)
 cases H
 exact j7 b c (l3 Tryz.results30 (rvt b)) ⟨V,E,u,x,rfl,c.sp [0,1,2] [0]⟩
 refine sk (af _ _ (qs λ_ aj=>qr λ_ ak=>(wp 3 [0,15] b λa b=>wc (wld b c 0 1 0 λa b=>wp 1 [0,16,17] b λa b=>(ak _ _ (bk (jX (n:=N) (λn a w => ∃κ G t I,∃p:List i9,∃q s g,Fr (30) [] [k2g f,(16,vi i),(17,vi g)] a∧SS K L D κ w (k22 f l i o j G k q p.length s e t I) [k2t q s p]∧M.oK N n l i o I p g=some r) ?_ ?_)))))))
 exact ⟨_,V,E,U,O,u,x,0,b.kp [0,16,17],c.sp [0,1,2] [0],H⟩
 rintro n a w ⟨κ,G,t,I,p,q,s,g,b,c,H⟩
 rcases n with _|P
 simp [M.oK] at H
 simp only [M.oK] at H
 refine qr λ_ al=>wp 1 [0,16,17,18] b λa b=>al _ _ (qs λ_ am=>bc b H (λhb H=>?_) λhb H=>?_)
 refine sk (am _ _ (qs λ_ an=>bk (qr λ_ ao=>(jG (L':=[k2g f,(3,vi g),(16,vi i),(17,vi g)]) 2 [0,3,16,17] b kr λa b=>ao _ _ (bd H λd ho H=>?_)))))
 obtain ⟨h,S,c⟩:=c.optS 2 rfl ho
 rw [S] at c
 try rw [S] at b
 obtain ⟨⟨y,z⟩,c⟩:=c.unfI (ck:=jR) (fs:=jP) 2 rfl
 refine rl (wp 5 [0,16,17,20,21,24] b λa b=>wc (wld b c 2 4 0 λa b=>bd H λaq X H=>wc (wcS 2 (rg 4) b c (λc=>rE N d y z h (c.sbK (rg 4)) X) ?_)))
 rintro _ κ w a ⟨rfl,Y⟩ b F
 have c:=F _ _ Y
 refine wp 1 [0,16,17,20,21,27] b λa b=>?_
 have c:=c.add (m:=Ro.mp jF.ty none 0 ([]:List jC)) (Ro.nil jF.ty _ _)
 have c:=c.add (m:=Ro.mp (fInt .u64).ty none 0 ([]:List Int)) (Ro.nil (fInt .u64).ty _ _)
 refine bd H λA Z H=>?_
 have J:=c.segs 2 rfl
 refine wc (wcS 2 [2,3,0,1] b c (λc=>lK N l p g (jK.mk 9 0 0 aq empty empty ([]:List jC) ([]:List Int) (jT.mk 0 0 0 0 0 empty)) (flat [si i,si o,(9,j),k34 h,(29,k)]) q s e none 0 none 0 f ((c.regr 0 [(false,1),(true,5),(false,2)] rfl).sbK [6,1,0]) Z) ?_)
 rintro _ κ w a ⟨B,C,rfl,Y⟩ b F
 have c:=((F _ _ Y).unregrK 0 [(false,1),(true,5),(false,2)] (s':=[si l,si i,si o,(9,j),k34 h,(29,k),sl B A.length C,(1,e)]) J rfl).cC (C':=[.box f 87 [si l,si i,si o,(9,j),k34 h,(29,k),sl B A.length C,(1,e)],k2s B A.length C,k2f h d.dc y (d.beats).length z d.got.Epoch d.got.Has d.got.T d.known.Epoch d.known.Has d.known.T d.stable,.ext (ownX (fInt .u64) 32 y z d.beats)])
 refine nl ?_
 obtain ⟨aa,c⟩:=c.foldI (ck:=jR) (fs:=jP) h (y,z) d [2,3] [0,1] (ra 3 4) dc kr kr
 refine an _ _ (rl (wp 2 [0,16,17] b λa b=>nl ?_))
 exact ⟨P,Nat.lt_succ_self _,_,(some h),aa,(some d),A,B,C,i64.wrap (g+1),b.kp [0,16,17],c.sp [1,2,0] [0],H⟩
 refine xt (aj _ _ (qr λ_ ar=>wp 1 [2] b λa b=>ar _ _ (rt ?_)))
 cases H
 exact j7 b c (l3 Tryz.results30 (rvt b)) ⟨G,t,q,s,rfl,c.sp [0,1,2] [0]⟩
end Go.Cf
