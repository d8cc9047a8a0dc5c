/- The walks: each function returns what its model says. Printed by a program of ours. -/
import Derived.Test.YtcplebnnanjngaaGreatZSh
import Derived.Test.YtcplebnnanjngaaGreatZM1
import Derived.Test.YtcplebnnanjngaaGreatZWs
import Derived.Test.YtcplebnnanjngaaGreatZWo
import Derived.Test.YtcplebnnanjngaaGreatZWi
import Derived.Test.YtcplebnnanjngaaGreatZWp
import Derived.Test.YtcplebnnanjngaaGreatZWg1
import Derived.Test.YtcplebnnanjngaaGreatZWg2
namespace Go.Cf
open Go Go.Proofs Tryz
open _root_.Int(toNat tdiv tmod)
open _root_.List(set replicate)
open _root_.ByteArray(empty)
open Go.IntKind(i64 u64)
set_option linter.unusedVariables false
set_option maxRecDepth 20000
set_option maxHeartbeats 8000000
theorem A8 (N){Ms}{κ0}{w0}(l)(X)(a3)(Y)(a5)(a6)(a7:j5)(al)(aL)(aM)(u)(aO)(aq)(ar)(aP)(aQ)(au:(List i8))(aR)(aS)(aT)(av:(List Int))(aw:(List Int))(aU)(aV)(aW)(aX)(x:(List i9))(z)(p8)(c9)(aY)(aZ)(o)(W)(aa)(b6)(a0)(b7)(a8)(ax)(a9)(ba)(be)(bf)(bg)(bh)(bi)(bj)(bl)(bm)(bn)(bo)(p)(b8)(bq)(q)(br)(bt)(bu)(bw)(U)(V)(s)(g)(hB:SB Ms κ0 w0 (k18 g l X a3 Y a5 a6 p8 a7 c9 aY aZ o W b6 b7 u ax aq ar ba bg bj au.length bl bm p b8 q aT br av.length bt bu aw.length bw aU aV aW aX U x.length V s aa al a0 aL a8 aM (arrX j6 ax a9 aO) be bf bh bi bn bo bq aS) [k3a p8 c9 a7.Cuts,k3b aY aZ a7.Nodes,(ml ax 4),(ml aq 4),(ml ar 4),k49 ba be bf aP,k4a bg bh bi aQ,k4b bj bl au,k4c bm bn bo aR,k3m br bt av,k3m bu bw aw,k3k U V x,(ml z 4)]){r}(H:M.sA N l X a3 Y a5 a6 a7 al aL aM u aO aq ar aP aQ au aR aS aT av aw aU aV aW aX x z=some r) :
    Calls Tryz.prog 55 #[pt g 0,.agg (flat [eb 4 z]).toArray] w0 (kP Ms κ0 w0 λv κ w=>∃bx bz bA bB ci bX cj bY cl bZ am b0 bC bD bE bF bG bH bI bJ bK bL bM cm b1 bN bO bP bQ bR bS,v = .tuple #[]∧SS Ms κ0 w0 κ w (k18 g l X r.1 Y r.2.1 r.2.2.1 bx r.2.2.2.1 bz bA bB o ci cj cl u am r.u8.1 r.u8.2.1 bC bF bI r.u8.u4.1.length bJ bK p cm q r.u8.u4.2.2.2.1 bN r.u8.u8.1.length bO bP r.u8.u8.2.1.length bQ r.u8.u8.2.2.1 r.u8.u8.2.2.2.1 r.u8.u8.u4.1 r.u8.u8.u4.2.1 bR r.u8.u8.u4.2.2.length bS s bX r.u4.1 bY r.u4.2.1 bZ r.u4.2.2.1 (arrX j6 am b0 r.u4.2.2.2.1) bD bE bG bH bL bM b1 r.u8.u4.2.2.1) [k3a bx bz r.2.2.2.1.Cuts,k3b bA bB r.2.2.2.1.Nodes,(ml am 4),(ml r.u8.1 4),(ml r.u8.2.1 4),k49 bC bD bE r.u8.2.2.1,k4a bF bG bH r.u8.2.2.2.1,k4b bI bJ r.u8.u4.1,k4c bK bL bM r.u8.u4.2.1,k3m bN bO r.u8.u8.1,k3m bP bQ r.u8.u8.2.1,k3k bR bS r.u8.u8.u4.2.2]):=by
 have d:=hB.hS
 have cL:=d.fresh
 refine en func55 rfl ntmps55 λa e=>?_
 unfold M.sA at H
 refine qr λ_ cz=>wc (wbx e d [eb 4 z] (kS (d.get 12 rfl) jD) λay a w e d=>cz _ _ (qr λ_ cA=>wp 1 [0,3,4] e λa e=>bd H λb cn H=>?_))
 have bT:=d.segs 1 rfl
 refine wc (wcS 11 [1,2,3,4,7,8,9,10,11,12,13,0,5,6] e d (λd=>uH N a3 Y a5 a6 a7 aL aM aO aq ar aP aQ au aR aS aT av aw aU aV aW aX (flat [si l,si X]) p8 c9 aY aZ (flat [(4,o),sp W]) b6 a0 b7 a8 [vu u] ax a9 ba be bf bg bh bi bj bl bm bn bo p b8 bq q br bt bu bw (flat [sl U x.length V,(1,s)]) g ((d.regr 0 [(true,2),(false,6),(true,2),(false,20),(true,2)] rfl).sbK (rg 11)) cn) ?_)
 rintro _ κ w a ⟨cB,cD,cE,cF,A,ad,B,ae,C,af,D,az,aA,F,aB,aD,G,I,J,aE,aF,K,ah,L,O,P,Q,rfl,h2⟩ e hB
 have d:=(hB _ _ h2).unregrK 0 [(true,2),(false,6),(true,2),(false,20),(true,2)] (s':=[si l,si X,si b.1,si Y,si b.2.1,si b.2.2.1,sl cB b.2.2.2.1.Cuts.length cD,sl cE b.2.2.2.1.Nodes.length cF,(4,o),sp W,sp A,sp B,su u,k4d C,ei 4 b.u4.2.2.2.1,ei 4 b.u8.1,sm D,sm F,sl G b.u8.2.2.2.1.length I,sm J,(1,p),sp K,(1,q),si b.u8.u4.2.2.1,sl L b.u8.u4.2.2.2.1.length O,sl P b.u8.u8.1.length Q,su b.u8.u8.2.1,sb b.u8.u8.2.2.1,sb b.u8.u8.2.2.2.1,sb b.u8.u8.u4,sl U x.length V,(1,s)]) bT rfl
 refine cA _ _ (qr λ_ cG=>wp 2 [0,3,6,7] e λa e=>bd H λf co H=>wc (jR e d kr kr (A3 N d.fresh 0 ((d.pick [] kr).ro) co) ?_))
 rintro _ κ w a ⟨R,S,j,k,rfl,hR,hN⟩ e d hO
 have d:=d.adds hR
 have d:=d.addC hO hN
 refine wp 2 [0,3,7,8,10] e λa e=>wc (wst e d 2 2 1 [si 1] (sgN 1 jD) λa w e d=>wp 2 [0,3,8,12] e λa e=>wc (wst e d 2 6 2 (k07 R f S j k) (sgN 2 jD) λa w e d=>(cG _ _ (qr λ_ cp=>(jE (L':=[k35 g,k2u ay,(15,pt g 0)]) 3 [0,3,15] e kr λa e=>wc (wld e d 2 0 0 λa e=>bd H λcK aG H=>wc (l7 e kr (E:=4) (sz:=1) (n:=4) rfl rfl (i:=l) rfl (m4 aG (d.get 25 rfl)) kr kr λa e=>wc (lK (t:=jM) (y:=false) (v:=vb false) e d kr 13 0 (s':=[eb 4 (set z (toNat l) false)]) (C':=[.tok R 9 1 f.Cuts.length S,.tok j 3 1 f.Nodes.length k,.box g 87 [si l,si X,si 1,si Y,si b.2.1,si b.2.2.1,sl R f.Cuts.length S,sl j f.Nodes.length k,(4,o),sp W,sp A,sp B,su u,k4d C,ei 4 b.u4.2.2.2.1,ei 4 b.u8.1,sm D,sm F,sl G b.u8.2.2.2.1.length I,sm J,(1,p),sp K,(1,q),si b.u8.u4.2.2.1,sl L b.u8.u4.2.2.2.1.length O,sl P b.u8.u8.1.length Q,su b.u8.u8.2.1,sb b.u8.u8.2.2.1,sb b.u8.u8.2.2.2.1,sb b.u8.u8.u4,sl U x.length V,(1,s)],k45 G b.u8.2.2.2.1.length I,k46 L b.u8.u4.2.2.2.1.length O,k46 P b.u8.u8.1.length Q,k47 A ad b.u4.1,k48 B ae b.u4.2.1,.ext (arrX j6 C af b.u4.2.2.1),mx D az aA,mx F aB aD,mx J aE aF,k3p K ah b.u8.u4.2.1,k33 ay (set z (toNat l) false),k3j U x.length V,k31 W aa al]) rfl rfl kr rfl rfl aG rfl rfl kr kr kr kr λa w e d=>?_))))))))
 have d:=d.add (m:=ml (set z (toNat l) false) 4) (List.length_set.trans (d.get 25 rfl))
 refine cp _ _ (qs λ_ cq=>rgS d [16] ?_)
 have d:=d.drew
 have hX:=d.fx
 refine anp [0,1,2,3,5,6,7] [0,3,19,22,26] e hX λa e=>atk 4 (some 23) e hX rfl (vld 0 0 0) λa e=>atk 8 (some 27) e hX rfl (vld 0 1 0) λa e=>atk 9 (some 28) e hX rfl (vls 8 0 1) λa e=>ago 10 e rfl (bd H λbU b2 H=>wcS 0 (rg 16) e d (λd=>zF N l X (set z (toNat l) false) (d.sbK [0]) b2) ?_)
 rintro _ κ w a ⟨Z,b3,rfl,h2⟩ e hB
 have d:=(hB _ _ h2).cC (C':=[k31 Z b3 bU.1,.tok R 9 1 f.Cuts.length S,.tok j 3 1 f.Nodes.length k,.box g 87 [si l,si X,si 1,si Y,si b.2.1,si b.2.2.1,sl R f.Cuts.length S,sl j f.Nodes.length k,(4,o),sp W,sp A,sp B,su u,k4d C,ei 4 b.u4.2.2.2.1,ei 4 b.u8.1,sm D,sm F,sl G b.u8.2.2.2.1.length I,sm J,(1,p),sp K,(1,q),si b.u8.u4.2.2.1,sl L b.u8.u4.2.2.2.1.length O,sl P b.u8.u8.1.length Q,su b.u8.u8.2.1,sb b.u8.u8.2.2.1,sb b.u8.u8.2.2.2.1,sb b.u8.u8.u4,sl U x.length V,(1,s)],k45 G b.u8.2.2.2.1.length I,k46 L b.u8.u4.2.2.2.1.length O,k46 P b.u8.u8.1.length Q,k47 A ad b.u4.1,k48 B ae b.u4.2.1,.ext (arrX j6 C af b.u4.2.2.1),mx D az aA,mx F aB aD,mx J aE aF,k3p K ah b.u8.u4.2.1,k33 ay (set z (toNat l) false),k3j U x.length V,k31 W aa al])
 refine ⟨λ_=>(d.sx [3,7,8,9,10,11,12,13,14,16] (rg 27)),?_⟩
 refine jN [11,12,14,15] [0,18,30,33] (L':=[k35 g,(18,.tuple #[.pointer (pa Z),vi bU.2]),(30,.pointer (pa Z)),(33,pt g 12)]) (listed':=(mV 17 57343)) (fuel:=2) e (d.sx [3,7,8,9,10,11,12,13,14,16] (rg 27)) kr (by intro c a w t v h; cases t<;>exact h) kr rfl λa e=>u1 [13] [0,30,33] e (λ_=>d.sx [3,7,8,9,10,11,12,13,14,16] (rg 27)) λa e=>?_
 have e:Fr (54) _ [k35 g,(30,.pointer (pa Z)),(33,pt g 12)] a:=e.kp [0,30,33]
 refine ago 16 e rfl (wst e d 3 9 1 [sp Z] (sgN 1 jD) λa w e d=>⟨notE,?_⟩)
 refine kN (cq _ _ (qs λ_ cr=>bd H λcs ho H=>?_))
 obtain ⟨T,b9,d⟩:=d.optS 0 rfl ho
 rw [b9] at d
 try rw [b9] at e
 obtain ⟨⟨cu,cv⟩,d⟩:=d.unfI (ck:=jP) (fs:=jO) 0 rfl
 refine rgX d [4,8,9,10,11,12,13,14,15,17] ?_
 have d:=d.drew
 have hX:=d.px [4,8,9,10,11,12,13,14,15,17]
 refine anp [0,1,2,4,5,6,8,9,10] [0,36,40,44] e hX λa e=>atk 3 (some 37) e hX rfl (vld 0 9 0) λa e=>atk 7 (some 41) e hX rfl (vld 0 0 0) λa e=>atk 11 (some 45) e hX rfl (vld 0 3 0) λa e=>ago 12 e rfl (bd H λbV b4 H=>wcS 2 (rg 18) e d (λd=>wE N cs l Y cu cv T (d.sbK (rg 4)) b4) ?_)
 rintro _ κ w a ⟨cw,cx,rfl,h2⟩ e hB
 have d:=hB _ _ h2
 refine ⟨λ_=>(d.sx [4,8,9,10,11,12,13,14,15,17] (ra 4 31)),?_⟩
 refine kN ?_
 obtain ⟨aH,d⟩:=d.foldI (ck:=jP) (fs:=jO) T (cw,cx) bV.2 [0,1] (ra 2 16) (rg 4) dc kr kr
 refine cr _ _ (rl (wp 4 [47,50] e λa e=>wc (wld e d 3 12 0 λa e=>wp 1 [47,52] e λa e=>?_)))
 have d:=d.add (m:=Ro.mp jG.ty none 0 ([]:List jB)) (Ro.nil jG.ty _ _)
 have d:=d.add (m:=Ro.mp (fInt .u64).ty none 0 ([]:List Int)) (Ro.nil (fInt .u64).ty _ _)
 refine bd H λao b5 H=>?_
 have aI:=d.segs 3 rfl
 refine wc (wcS 2 [3,15,0,1,2,4,5,6,7,8,9,10,11,12,13,14,16] e d (λd=>lJ N l x 0 (jF.mk 6 0 0 u empty empty ([]:List jB) ([]:List Int) (jU.mk 0 0 0 0 0 empty)) (flat [si X,si 1,si Y,si b.2.1,si b.2.2.1,sl R f.Cuts.length S,sl j f.Nodes.length k,(4,o),k3v T,sp A,sp B,su u,k4d C,ei 4 b.u4.2.2.2.1,ei 4 b.u8.1,sm D,sm F,sl G b.u8.2.2.2.1.length I,sm J,(1,p),sp K,(1,q),si b.u8.u4.2.2.1,sl L b.u8.u4.2.2.2.1.length O,sl P b.u8.u8.1.length Q,su b.u8.u8.2.1,sb b.u8.u8.2.2.1,sb b.u8.u8.2.2.2.1,sb b.u8.u8.u4]) U V s none 0 none 0 g ((d.regr 0 [(false,1),(true,29),(false,2)] rfl).sbK [35,1,0]) b5) ?_)
 rintro _ κ w a ⟨aj,ak,rfl,h2⟩ e hB
 have d:=((hB _ _ h2).unregrK 0 [(false,1),(true,29),(false,2)] (s':=[si l,si X,si 1,si Y,si b.2.1,si b.2.2.1,sl R f.Cuts.length S,sl j f.Nodes.length k,(4,o),k3v T,sp A,sp B,su u,k4d C,ei 4 b.u4.2.2.2.1,ei 4 b.u8.1,sm D,sm F,sl G b.u8.2.2.2.1.length I,sm J,(1,p),sp K,(1,q),si b.u8.u4.2.2.1,sl L b.u8.u4.2.2.2.1.length O,sl P b.u8.u8.1.length Q,su b.u8.u8.2.1,sb b.u8.u8.2.2.1,sb b.u8.u8.2.2.2.1,sb b.u8.u8.u4,sl aj ao.length ak,(1,s)]) aI rfl).cC (C':=[.box g 87 [si l,si X,si 1,si Y,si b.2.1,si b.2.2.1,sl R f.Cuts.length S,sl j f.Nodes.length k,(4,o),k3v T,sp A,sp B,su u,k4d C,ei 4 b.u4.2.2.2.1,ei 4 b.u8.1,sm D,sm F,sl G b.u8.2.2.2.1.length I,sm J,(1,p),sp K,(1,q),si b.u8.u4.2.2.1,sl L b.u8.u4.2.2.2.1.length O,sl P b.u8.u8.1.length Q,su b.u8.u8.2.1,sb b.u8.u8.2.2.1,sb b.u8.u8.2.2.2.1,sb b.u8.u8.u4,sl aj ao.length ak,(1,s)],k3j aj ao.length ak,k4m T aH bV.2,.tok R 9 1 f.Cuts.length S,.tok j 3 1 f.Nodes.length k,k45 G b.u8.2.2.2.1.length I,k46 L b.u8.u4.2.2.2.1.length O,k46 P b.u8.u8.1.length Q,k47 A ad b.u4.1,k48 B ae b.u4.2.1,.ext (arrX j6 C af b.u4.2.2.1),mx D az aA,mx F aB aD,mx J aE aF,k3p K ah b.u8.u4.2.1,k33 ay (set z (toNat l) false),k31 W aa al])
 refine nl ?_
 cases H
 exact j7 e d (mL results55) ⟨R,S,j,k,(some T),aH,A,ad,B,ae,C,af,D,az,aA,F,aB,aD,G,I,J,aE,aF,K,ah,L,O,P,Q,aj,ak,rfl,d.sp [0,5,6,7,1,2,8,9,10,11,12,13,14] [12,13,16,17,18,19,20,21,22,23,24,0]⟩
theorem zK (N){Ms}{κ0}{w0}(T)(I)(U)(a6)(a9)(O)(k)(o)(W)(X)(F:(List Int))(p:(List i9))(e)(P)(Q)(p7)(cD)(V)(Z)(u)(f)(aq)(x)(R)(S)(A)(q)(s)(B)(j)(hB:SB Ms κ0 w0 (k19 j T I P U Q p7 V u f k o x W X R F.length S A q p.length s B cD a6 Z a9 (arrX j6 f aq O)) (k1a (ml f 4) (ml k 4) (ml o 4) R S F q s p)){r}(H:M.rT N T I U a6 a9 O k o W X F p e=some r) :
    Calls Tryz.prog 56 #[pt j 0,vi e] w0 (kP Ms κ0 w0 λv κ w=>∃b5 bM b6 bN aT bO a3 a5 a7 a8,v = .tuple #[]∧SS Ms κ0 w0 κ w (k19 j T I P U Q b5 b6 u aT r.2.2.2.1 r.u4.1 x r.u4.2.1 r.u4.2.2.1 a3 r.u4.2.2.2.1.length a5 A a7 r.u8.length a8 B bM r.1 bN r.2.1 (arrX j6 aT bO r.2.2.1)) (k1a (ml aT 4) (ml r.2.2.2.1 4) (ml r.u4.1 4) a3 a5 r.u4.2.2.2.1 a7 a8 r.u8)):=by
 have d:=hB.hS
 have c1:=d.fresh
 refine en func56 rfl ntmps56 λa b=>?_
 unfold M.rT at H
 refine qr λ_ cE=>(jE (L':=[k35 j,k2z e,(4,vi e)]) 2 [0,1,4] b kr λa b=>cE _ _ (m2 (λa w=>∃κ b2 ba be aR,Fr (120) [] [k35 j,k2z e,(4,vi aR)] a∧SS Ms κ0 w0 κ w (k19 j T I P U Q b2 V u f k o x W X R F.length S A q p.length s B ba be Z a9 (arrX j6 f aq O)) (k1a (ml f 4) (ml k 4) (ml o 4) R S F q s p)∧M.oZ N T I U a9 O k o W X F p e be aR=some r) ?_ ?_))
 refine qs λ_ b7=>bd H λal ho H=>?_
 obtain ⟨ar,ae,d⟩:=d.optS 3 rfl ho
 rw [ae] at d
 try rw [ae] at b
 obtain ⟨⟨bf,bg⟩,d⟩:=d.unfI (ck:=jP) (fs:=jO) 3 rfl
 refine rl (wp 3 [0,1,4,14] b λa b=>wc (wld b d 2 5 0 λa b=>bd H λau bP H=>wc (wcS 2 (rg 7) b d (λd=>pN N al bf bg ar (d.sbK (rg 4)) bP) ?_)))
 rintro _ κ w a ⟨rfl,h2⟩ b hB
 have d:=hB _ _ h2
 refine wp 1 [0,1,4,16,17] b λa b=>nl ?_
 obtain ⟨aA,d⟩:=d.foldI (ck:=jP) (fs:=jO) ar (bf,bg) al [0,1] (ra 2 5) (ra 1 4) dc kr kr
 refine b7 _ _ (bk (jT (n:=N) (λn a w=>∃κ ab,Fr (120) [] [k35 j,k2z e,(4,vi e),(16,.agg (flat [eb 4 au]).toArray),(17,vi ab)] a∧SS Ms κ0 w0 κ w (k1b j T I P U Q ar V u f k o x W X R F.length S A q p.length s B aA al Z a9 (arrX j6 f aq O)) [(ml f 4),(ml k 4),(ml o 4),k3m R S F,k3k q s p,(ml au 4)]∧M.nU N n T I U a9 O k o W X F p e al au ab=some r) ?_ ?_))
 exact ⟨_,0,b.kp [0,1,4,16,17],d.sp [1,2,3,0,4,5] [5,6,7,8,9,0],H⟩
 rintro n a w ⟨κ,ab,b,d,H⟩
 rcases n with _|bQ
 simp [M.nU] at H
 simp only [M.nU] at H
 refine qr λ_ b8=>wp 1 [0,1,4,16,17,18] b λa b=>b8 _ _ (qs λ_ b9=>bc b H (λhb H=>?_) λhb H=>?_)
 refine sk (b9 _ _ (qs λ_ ca=>bk (qr λ_ cb=>(jE (L':=[k35 j,k2z e,(4,vi e),(16,.agg (flat [eb 4 au]).toArray),(17,vi ab),(19,vi ab)]) 1 [0,1,4,16,17,19] b kr λa b=>bd H λcc bR H=>wc (kQ b kr (v:=vb cc) (pJ (t:=jM) (E:=4) (n:=4) (m:=4) rfl kr rfl bR (d.get 5 rfl) rfl rfl kr kr kr _) λa b=>wp 2 [0,1,4,5,6,16,17] b λa b=>cb _ _ (qr λ_ cd=>bd H λce ao H=>k8 (λa w=>∃κ,Fr (120) [] [k35 j,k2z e,(4,vi e),(5,vi ab),(16,.agg (flat [eb 4 au]).toArray),(17,vi ab),(26,vb ce)] a∧SS Ms κ0 w0 κ w (k1b j T I P U Q ar V u f k o x W X R F.length S A q p.length s B aA al Z a9 (arrX j6 f aq O)) [(ml f 4),(ml k 4),(ml o 4),k3m R S F,k3k q s p,(ml au 4)]∧True) ?_ ?_))))))
 refine wp 2 [0,1,4,5,16,17,22] b λa b=>bs ao (λhb ao=>?_) λhb ao=>?_
 have b:=b.bv 22 hb
 refine wp 4 [0,1,4,5,16,17,26] b λa b=>nl ?_
 cases ao
 exact ⟨_,b.kp [0,1,4,5,16,17,26],d.sp (rg 6) (rg 6),ja⟩
 have b:=b.bv 22 hb
 refine wp 4 [0,1,4,5,16,17,26] b λa b=>nl ?_
 cases ao
 exact ⟨_,b.kp [0,1,4,5,16,17,26],d.sp (rg 6) (rg 6),ja⟩
 rintro a w ⟨κ,b,d,-⟩
 refine cd _ _ (bc b H (λhb H=>?_) λhb H=>?_)
 refine qr λ_ cg=>wp 2 [0,1,4] b λa b=>cg _ _ (xt ?_)
 exact ⟨_,(some ar),aA,(some al),ab,b.kp [0,1,4],d.sp (rg 6) (rg 5),H⟩
 refine sk (ca _ _ (rl (wp 2 [0,1,4,16,17] b λa b=>nl ?_)))
 exact ⟨bQ,jb _,_,i64.wrap (ab+1),b.kp [0,1,4,16,17],d.sp (rg 6) (rg 6),H⟩
 refine xt ?_
 exact ⟨_,(some ar),aA,(some al),e,b.kp [0,1,4],d.sp (rg 6) (rg 5),H⟩
 rintro a w ⟨κ,b2,ba,be,aR,b,d,H⟩
 unfold M.oZ at H
 refine qs λ_ cF=>bd H λcG ho H=>?_
 obtain ⟨G,ae,d⟩:=d.optS 3 rfl ho
 rw [ae] at d
 try rw [ae] at b
 obtain ⟨⟨cH,cI⟩,d⟩:=d.unfI (ck:=jP) (fs:=jO) 3 rfl
 refine rgX d [2,5,6] ?_
 have d:=d.drew
 have hX:=d.px [2,5,6]
 refine anp [0,1,2,4,5,6,7] [0,1,4,31,33,36] b hX λa b=>atk 3 (some 32) b hX rfl (vld 0 5 0) λa b=>atk 8 (some 37) b hX rfl (vld 0 3 0) λa b=>ago 9 b rfl (bd H λaf ch H=>wcS 2 (rg 7) b d (λd=>wE N cG e U cH cI G (d.sbK (rg 4)) ch) ?_)
 rintro _ κ w a ⟨cJ,cK,rfl,h2⟩ b hB
 have d:=hB _ _ h2
 refine ⟨λ_=>(d.sx [2,5,6] (ra 4 9)),?_⟩
 refine kN ?_
 obtain ⟨aa,d⟩:=d.foldI (ck:=jP) (fs:=jO) G (cJ,cK) af.2 [0,1] (ra 2 5) (rg 4) dc kr kr
 refine cF _ _ (qs λ_ cL=>bd H λc2 ci H=>?_)
 obtain ⟨cM,aJ⟩:=d.arrIdx 5 rfl ci
 have d:=d.add (m:=MP.const (idx f e=some cM)) aJ
 refine rgS d [10,14,18] ?_
 have d:=d.drew
 have hX:=d.fx
 refine jN [0,1,7,8] [0,1,4,40,47] (L':=[k35 j,k2z e,(4,vi aR),(40,vi e),(47,pt j 16)]) (listed':=(mV 19 387)) (fuel:=15) b hX kr (by intro c a w t v h; cases t<;>exact h) kr rfl λa b=>u1 [2,3,4,5,11,15,12,16] [0,1,4,40,42,44,47,50,53] b (λ_=>hX) λa b=>?_
 have b:Fr (120) _ [k35 j,k2z e,(4,vi aR),(40,vi e),(42,vi e),(44,vi e),(47,pt j 16),(50,pt j 20),(53,pt j 24)] a:=b.kp [0,1,4,40,42,44,47,50,53]
 refine ago 6 b rfl (bd H λY cj H=>wcS 0 (rg 6) b d (λd=>y9 N 0 (d.sbK []) cj) ?_)
 rintro _ κ w a ⟨g,bh,bi,bj,bl,bm,b3,b4,rfl,h2⟩ b hB
 have d:=(hB _ _ h2).cC (C':=[k3w g Y bh bi bj bl bm,.ext (ownX jM 4 bj bl Y.done),mx bm b3 b4,k3r bh Y.list.length bi,k4m G aa af.2,k4n j T I P U Q G V u f k o x W X R F.length S A q p.length s B,k46 R F.length S,k3j q p.length s,k47 V Z a9,.ext (arrX j6 f aq O)])
 refine ⟨λ_=>(d.sx [4,5,8,9] (ra 2 14)),?_⟩
 refine atk 9 (some 48) b (d.sx [4,5,8,9] (ra 2 14)) rfl (λw _=>lU (E:=81) (sz:=1) (n:=4) rfl rfl (i:=e) rfl (m4 aJ (d.get 11 rfl)) kr kr w) λa b=>ago 10 b rfl ?_
 obtain ⟨cl,d⟩:=d.foldI (ck:=lO) (fs:=lN) g (bh,bi,bj,bl,bm,b3,b4) Y [0,3,1,2] (ra 4 6) [0,1] dc kr kr
 refine lK (t:=pO) (y:=(some g)) (v:=pt g 0) b d kr 2 8 (s':=[si T,si I,(1,P),si U,(8,Q),k3v G,sp V,(2,u),k4d (set f (toNat e) (some g)),ei 4 k,ei 4 o,(6,x),si W,si X,sl R F.length S,(5,A),sl q p.length s,(1,B)]) (C':=[ox j6 (some g) cl (some Y),k4m G aa af.2,k4n j T I P U Q G V u (set f (toNat e) (some g)) k o x W X R F.length S A q p.length s B,k46 R F.length S,k3j q p.length s,k47 V Z a9,.ext (arrX j6 f aq O)]) rfl rfl kr rfl rfl aJ rfl rfl kr kr kr kr λa w b d=>?_
 have d:=d.add (m:=ml (set f (toNat e) (some g)) 4) (List.length_set.trans (d.get 11 rfl))
 obtain ⟨aL,d⟩:=d.arrSetI 0 6 (ra 1 5) dc (toNat e) rfl rfl
 refine ⟨notE,?_⟩
 refine ago 13 b rfl (bd H λc3 bn H=>l7 b kr (E:=3) (sz:=1) (n:=4) rfl rfl (i:=e) rfl (m4 bn (d.get 13 rfl)) kr kr λa b=>⟨notE,?_⟩)
 refine ago 14 b rfl (lK (t:=(fInt .i64)) (y:=(-1)) (v:=vi (-1)) b d kr 2 9 (s':=[si T,si I,(1,P),si U,(8,Q),k3v G,sp V,(2,u),k4d (set f (toNat e) (some g)),ei 4 (set k (toNat e) (-1)),ei 4 o,(6,x),si W,si X,sl R F.length S,(5,A),sl q p.length s,(1,B)]) (C':=k1c (arrX j6 (set f (toNat e) (some g)) aL (set O (toNat e) (some Y))) G aa af.2 j T I P U Q V u (set f (toNat e) (some g)) (set k (toNat e) (-1)) o x W X R F.length S A q p.length s B Z a9) rfl rfl kr rfl rfl bn rfl rfl kr kr kr kr λa w b d=>?_)
 have d:=d.add (m:=ml (set k (toNat e) (-1)) 4) (List.length_set.trans (d.get 13 rfl))
 refine ⟨notE,?_⟩
 refine ago 17 b rfl (bd H λc4 bo H=>l7 b kr (E:=3) (sz:=1) (n:=4) rfl rfl (i:=e) rfl (m4 bo (d.get 15 rfl)) kr kr λa b=>⟨notE,?_⟩)
 refine ago 18 b rfl (lK (t:=(fInt .i64)) (y:=0) (v:=vi 0) b d kr 2 10 (s':=[si T,si I,(1,P),si U,(8,Q),k3v G,sp V,(2,u),k4d (set f (toNat e) (some g)),ei 4 (set k (toNat e) (-1)),ei 4 (set o (toNat e) 0),(6,x),si W,si X,sl R F.length S,(5,A),sl q p.length s,(1,B)]) (C':=k1c (arrX j6 (set f (toNat e) (some g)) aL (set O (toNat e) (some Y))) G aa af.2 j T I P U Q V u (set f (toNat e) (some g)) (set k (toNat e) (-1)) (set o (toNat e) 0) x W X R F.length S A q p.length s B Z a9) rfl rfl kr rfl rfl bo rfl rfl kr kr kr kr λa w b d=>?_)
 have d:=d.add (m:=ml (set o (toNat e) 0) 4) (List.length_set.trans (d.get 15 rfl))
 refine ⟨notE,?_⟩
 refine kN (cL _ _ (qs λ_ cN=>qr λ_ cO=>wp 4 [0,1,55,58] b λa b=>wc (wld b d 2 0 0 λa b=>wp 1 [0,1,60] b λa b=>cO _ _ (bc b H (λhb H=>?_) λhb H=>?_))))
 refine rt ?_
 cases H
 exact j7 b d (mL results56) ⟨(some G),aa,V,Z,(set f (toNat e) (some g)),aL,R,S,q,s,rfl,d.sp [2,3,4,1,5,0] [2,1,0,17,18]⟩
 refine sk (cN _ _ (qr λ_ cP=>(wp 7 [0,61,62,63,64,67] b λa b=>wc (wld b d 2 1 0 λa b=>wp 2 [0,62,63,64,68,70] b λa b=>wc (wst b d 2 12 1 [si e] (sgN 1 jD) λa w b d=>wp 2 [0,63,68,72] b λa b=>wc (wst b d 2 13 1 [si I] (sgN 1 jD) λa w b d=>wp 2 [0,74] b λa b=>wc (wst b d 2 14 1 [k37] (sgN 1 jD) λa w b d=>(cP _ _ (qs λ_ cQ=>qr λ_ cR=>(wp 3 [0,77] b λa b=>wc (wls b d 2 8 1 λa b=>wp 1 [0,78,79] b λa b=>(cR _ _ (bk (jT (n:=N) (λn a w=>∃κ ad ai am aB,∃D:List Int,∃J K C,Fr (120) [] [k35 j,(78,.agg (flat [(4,(encs pO (set f (toNat e) (some g))))]).toArray),(79,vi C)] a∧SS Ms κ0 w0 κ w (k1d j T I P U Q G ad u (set f (toNat e) (some g)) (set k (toNat e) (-1)) (set o (toNat e) 0) x e J D.length K A q p.length s B aa af.2 ai am (arrX j6 (set f (toNat e) (some g)) aB (set O (toNat e) (some Y)))) (k1a (ml (set f (toNat e) (some g)) 4) (ml (set k (toNat e) (-1)) 4) (ml (set o (toNat e) 0) 4) J K D q s p)∧M.lQ N n T I U O k o p e af Y am D C=some r) ?_ ?_))))))))))))))
 have d:=d.add (m:=Ro.mp (fInt .u64).ty none 0 ([]:List Int)) (Ro.nil (fInt .u64).ty _ _)
 have d:=d.addNil 32 1
 exact ⟨_,V,Z,a9,aL,([]:List Int),none,0,0,b.kp [0,78,79],d.sp [3,0,5,2,6,1] [3,2,1,0,19],H⟩
 rintro n a w ⟨κ,ad,ai,am,aB,D,J,K,C,b,d,H⟩
 rcases n with _|aY
 simp [M.lQ] at H
 simp only [M.lQ] at H
 refine qr λ_ cm=>wp 1 [0,78,79,80] b λa b=>cm _ _ (qs λ_ cn=>bc b H (λhb H=>?_) λhb H=>?_)
 refine sk (cn _ _ (qs λ_ co=>bk (qs λ_ cp=>bd H λcW bS H=>?_)))
 obtain ⟨aM,aS⟩:=d.arrIdx 5 rfl bS
 have d:=d.add (m:=MP.const (idx (set f (toNat e) (some g)) C=some aM)) aS
 refine rl (jE (L':=[k35 j,(78,.agg (flat [(4,(encs pO (set f (toNat e) (some g))))]).toArray),(79,vi C),(81,vi C)]) 1 [0,78,79,81] b kr λa b=>wc (kQ b kr (v := .pointer (pa aM)) (pJ (t:=pO) (E:=81) (n:=4) (m:=4) rfl kr rfl aS (d.get 1 rfl) rfl rfl kr kr kr _) λa b=>jE (L':=[k35 j,(7,vi C),(8,.pointer (pa aM)),(78,.agg (flat [(4,(encs pO (set f (toNat e) (some g))))]).toArray),(79,vi C)]) 2 [0,7,8,78,79] b kr λa b=>cp _ _ (qs λ_ cq=>bd H λaU L H=>?_)))
 refine kL (λa w=>∃κ aD,Fr (120) [] [k35 j,(7,vi C),(9,vi aU),(78,.agg (flat [(4,(encs pO (set f (toNat e) (some g))))]).toArray),(79,vi C)] a∧SS Ms κ0 w0 κ w (k1d j T I P U Q G ad u (set f (toNat e) (some g)) (set k (toNat e) (-1)) (set o (toNat e) 0) x e J D.length K A q p.length s B aa af.2 ai am (arrX j6 (set f (toNat e) (some g)) aD (set O (toNat e) (some Y)))) (k1a (ml (set f (toNat e) (some g)) 4) (ml (set k (toNat e) (-1)) 4) (ml (set o (toNat e) 0) 4) J K D q s p)∧True) ?_ ?_
 have aF:idx (set f (toNat e) (some g)) C=some aM:=d.get 0 rfl
 refine bd L λcX aO L=>?_
 obtain ⟨cS,cT,d⟩:=d.arrTakeP 5 rfl aO aF
 refine kY L (λah L=>?_) (λbq ah L=>?_)
 obtain ⟨ae,d⟩:=d.optN 0 rfl ah
 have cr:=b
 subst ae
 have b:=cr
 obtain ⟨bT,d⟩:=d.arrBackI 0 1 (ra 2 5) dc rfl rfl aF (aO.trans (congrArg some ah))
 refine rl (wp 1 [0,7,78,79,83] b λa b=>bd L λcY bU L=>wc (wcS 0 (rg 6) b d (λd=>wK N (d.sbK []) bU) ?_))
 rintro _ κ w a ⟨rfl,h2⟩ b hB
 have d:=hB _ _ h2
 refine wp 1 [0,7,9,78,79] b λa b=>nl ?_
 cases L
 exact ⟨_,bT,b.kp [0,7,9,78,79],d.sp [1,2,3,4,5,0] (ra 1 5),ja⟩
 obtain ⟨br,ae,d⟩:=d.optS 0 rfl ah
 have cs:=b
 subst ae
 have b:=cs
 obtain ⟨⟨bt,bu,bw,bx,bz,bA,bB⟩,d⟩:=d.unfI (ck:=lO) (fs:=lN) 0 rfl
 refine rl (wp 1 [0,7,78,79,83] b λa b=>bd L λcZ bV L=>wc (wcS 3 [0,2,3,1,4,5,6,7,8,9] b d (λd=>yT N bq bt bu bw bx bz bA bB br (d.sbK [0,1]) bV) ?_))
 rintro _ κ w a ⟨rfl,h2⟩ b hB
 have d:=hB _ _ h2
 refine wp 1 [0,7,9,78,79] b λa b=>nl ?_
 obtain ⟨cU,d⟩:=d.foldI (ck:=lO) (fs:=lN) br (bt,bu,bw,bx,bz,bA,bB) bq [0,3,1,2] (ra 4 6) [0,1] dc kr kr
 obtain ⟨bW,d⟩:=d.arrBackI 0 1 (ra 2 5) dc rfl rfl aF (aO.trans (congrArg some ah))
 cases L
 exact ⟨_,bW,b.kp [0,7,9,78,79],d.sp [1,2,3,4,5,0] (ra 3 5),ja⟩
 rintro a w ⟨κ,aD,b,d,-⟩
 refine cq _ _ (m2 (λa w=>∃κ aV aP aQ an,Fr (120) [] [k35 j,(9,vi an),(78,.agg (flat [(4,(encs pO (set f (toNat e) (some g))))]).toArray),(79,vi C)] a∧SS Ms κ0 w0 κ w (k1d j T I P U Q G aV u (set f (toNat e) (some g)) (set k (toNat e) (-1)) (set o (toNat e) 0) x e J D.length K A q p.length s B aa af.2 aP aQ (arrX j6 (set f (toNat e) (some g)) aD (set O (toNat e) (some Y)))) (k1a (ml (set f (toNat e) (some g)) 4) (ml (set k (toNat e) (-1)) 4) (ml (set o (toNat e) 0) 4) J K D q s p)∧M.oY N (M.lQ N aY) T I U O k o p e af Y D C aQ an=some r) ?_ ?_)
 refine qr λ_ cu=>(wp 4 [0,9,78,79,85,88] b λa b=>wc (wld b d 0 0 0 λa b=>jE (L':=[k35 j,(9,vi aU),(78,.agg (flat [(4,(encs pO (set f (toNat e) (some g))))]).toArray),(79,vi C),(90,vb (C==T))]) 1 [0,9,78,79,90] b kr λa b=>cu _ _ (bc b H (λhb H=>?_) λhb H=>?_)))
 refine bd H λaW ho H=>?_
 obtain ⟨aX,ae,d⟩:=d.optS 4 rfl ho
 rw [ae] at d
 try rw [ae] at b
 obtain ⟨⟨bC,bD,bE,bF⟩,d⟩:=d.unfI (ck:=kW) (fs:=kT) 4 rfl
 refine rl (wp 3 [0,78,79,93] b λa b=>wc (wld b d 3 6 0 λa b=>bd H λcv bX H=>wc (wcS 1 (rg 8) b d (λd=>tV N aW bC bD bE bF aX (d.sbK [0,1]) bX) ?_)))
 rintro _ κ w a ⟨rfl,h2⟩ b hB
 have d:=hB _ _ h2
 refine wp 1 [0,9,78,79] b λa b=>nl ?_
 obtain ⟨bY,d⟩:=d.foldI (ck:=kW) (fs:=kT) aX (bC,bD,bE,bF) aW [0,1,2] (ra 3 5) [0,1] dc kr kr
 exact ⟨_,(some aX),bY,(some aW),cv,b.kp [0,9,78,79],d.sp [1,2,3,4,0,5] (ra 2 5),H⟩
 refine sk ?_
 exact ⟨_,ad,ai,am,aU,b.kp [0,9,78,79],d.sp (rg 6) (rg 5),H⟩
 rintro a w ⟨κ,aV,aP,aQ,an,b,d,H⟩
 unfold M.oY at H
 refine rl (wp 4 [0,9,78,79,96,99] b λa b=>wc (wld b d 0 14 0 λa b=>jE (L':=[k35 j,(78,.agg (flat [(4,(encs pO (set f (toNat e) (some g))))]).toArray),(79,vi C),(96,pt j 0),(100,.slice J D.length K),(102,vu (u64.wrap an))]) 2 [0,78,79,96,100,102] b kr λa b=>wc (oI (t:=(fInt .u64)) (z:=vu 0) (l:=[u64.wrap an]) (vs:=[(0,vu (u64.wrap an))]) (cells := #[vu (u64.wrap an)]) (E:=32) b d kr rfl kr kr rfl kr kr kr kr kr λc0 κ a w b d=>bd H λbG bZ H=>?_)))
 refine wc (kJ (ty:=(fInt .u64).ty) b d kr 2 4 0 rfl rfl rfl kr kr rfl rfl rfl bZ kr (i:=Tryz.t32) (z:=vu 0) kr kr kr λbH bI κ a w b d=>wp 2 [0,78,79,104,106] b λa b=>wc (wst b d 1 14 1 [sl bH bG.length bI] (sgN 1 jD) λa w b d=>co _ _ (rl (wp 2 [0,78,79] b λa b=>nl ?_))))
 exact ⟨aY,jb _,_,aV,aP,aQ,aD,bG,bH,bI,i64.wrap (C+1),b.kp [0,78,79],d.sp (ra 1 6) [2,3,4,0,6],H⟩
 refine xt (cQ _ _ (qr λ_ cw=>(wp 3 [0,110] b λa b=>wc (wld b d 0 1 0 λa b=>wp 1 [0,111,112] b λa b=>(cw _ _ (bk (jT (n:=N) (λn a w=>∃κ,∃aw:List i9,∃ax ay aG,Fr (120) [] [k35 j,(111,vi I),(112,vi aG)] a∧SS Ms κ0 w0 κ w [.box j 87 [si T,si I,(1,P),si U,(8,Q),k3v G,sp ad,(2,u),k4d (set f (toNat e) (some g)),ei 4 (set k (toNat e) (-1)),ei 4 (set o (toNat e) 0),(6,x),si e,si I,sl J D.length K,(5,A),sl ax aw.length ay,(1,B)],k3j ax aw.length ay,k46 J D.length K,k4m G aa af.2,k47 ad ai am,.ext (arrX j6 (set f (toNat e) (some g)) aB (set O (toNat e) (some Y)))] (k1a (ml (set f (toNat e) (some g)) 4) (ml (set k (toNat e) (-1)) 4) (ml (set o (toNat e) 0) 4) J K D ax ay aw)∧M.nV N n T I U O k o e af Y am D aw aG=some r) ?_ ?_)))))))
 exact ⟨_,p,q,s,0,b.kp [0,111,112],d.sp [0,2,1,3,4,5] (rg 5),H⟩
 rintro n a w ⟨κ,aw,ax,ay,aG,b,d,H⟩
 rcases n with _|b0
 simp [M.nV] at H
 simp only [M.nV] at H
 refine qr λ_ cx=>wp 1 [0,111,112,113] b λa b=>cx _ _ (qs λ_ cy=>bc b H (λhb H=>?_) λhb H=>?_)
 refine sk (cy _ _ (qs λ_ cz=>bk (qr λ_ cA=>wp 2 [0,10,111,112] b λa b=>cA _ _ (rl (wp 3 [0,111,112,115,116,117] b λa b=>?_)))))
 have d:=d.add (m:=Ro.mp jG.ty none 0 ([]:List jB)) (Ro.nil jG.ty _ _)
 have d:=d.add (m:=Ro.mp (fInt .u64).ty none 0 ([]:List Int)) (Ro.nil (fInt .u64).ty _ _)
 refine bd H λbJ b1 H=>?_
 have a0:=d.segs 0 rfl
 refine wc (wcS 2 (rg 6) b d (λd=>lJ N T aw aG (jF.mk 5 0 0 0 empty empty ([]:List jB) ([]:List Int) (jU.mk 0 0 0 0 0 empty)) (flat [si I,(1,P),si U,(8,Q),k3v G,sp ad,(2,u),k4d (set f (toNat e) (some g)),ei 4 (set k (toNat e) (-1)),ei 4 (set o (toNat e) 0),(6,x),si e,si I,sl J D.length K,(5,A)]) ax ay B none 0 none 0 j ((d.regr 0 [(false,1),(true,15),(false,2)] rfl).sbK [6,1,0]) b1) ?_)
 rintro _ κ w a ⟨bK,bL,rfl,h2⟩ b hB
 have d:=(hB _ _ h2).unregrK 0 [(false,1),(true,15),(false,2)] (s':=[si T,si I,(1,P),si U,(8,Q),k3v G,sp ad,(2,u),k4d (set f (toNat e) (some g)),ei 4 (set k (toNat e) (-1)),ei 4 (set o (toNat e) 0),(6,x),si e,si I,sl J D.length K,(5,A),sl bK bJ.length bL,(1,B)]) a0 rfl
 refine cz _ _ (rl (wp 2 [0,111,112] b λa b=>nl ?_))
 exact ⟨b0,jb _,_,bJ,bK,bL,i64.wrap (aG+1),b.kp [0,111,112],d.sp (rg 6) [3,4,5,6,0],H⟩
 refine xt ?_
 cases H
 exact j7 b d (mL results56) ⟨(some G),aa,ad,ai,(set f (toNat e) (some g)),aB,J,K,ax,ay,rfl,d.sp [0,2,1,3,4,5] (rg 5)⟩
theorem yU (N){Ms}{κ0}{w0}(a1)(a2)(a3)(a4)(a5)(a6)(a7:j5)(k:(List Int))(A:(List Bool))(B:(List Int))(aD)(aZ)(aQ)(aR)(an)(aS)(Z)(aa)(aT)(aU)(G:(List i8))(aV)(bj)(ao)(aL)(U:(List Int))(I:(List Int))(ay)(aE)(aF)(aG)(C:(List i9))(e:jF)(p8)(c9)(S)(T)(l)(o)(p)(q)(s)(u)(aP)(aO)(az)(au)(aw)(av)(j)(aJ)(J)(ab)(ad)(K)(ae)(af)(L)(O)(P)(ah)(ai)(X)(a0)(aW)(V)(W)(Q)(R)(D)(F)(Y)(aj)(ak)(al)(am)(g)(hB:SB Ms κ0 w0 [k4o g a1 a2 a3 a4 a5 a6 p8 a7 c9 S T l k.length o p A.length q s B.length u aD aP az aw an j Z aa J K L G.length O P X a0 ao aL V U.length W Q I.length R ay aE aF aG D C.length F Y,k45 L G.length O,k46 V U.length W,k46 Q I.length R,k3j D C.length F,.ext (ownX (fInt .i64) 3 l o k),.ext (ownX jM 4 p q A),.ext (ownX (fInt .i64) 3 s u B),k31 aP aO aZ,k47 az au aQ,k48 aw av aR,.ext (arrX j6 j aJ aS),mx J ab ad,mx K ae af,mx P ah ai,k3p a0 aW bj] (k1e p8 c9 a7 S T (ml j 4) (ml Z 4) (ml aa 4) J ab ad aT K ae af aU L O G P ah ai aV V W U Q R I D F C aj ak e al am)){r}(H:M.rC N a1 a2 a3 a4 a5 a6 a7 k A B aD aZ aQ aR an aS Z aa aT aU G aV bj ao aL U I ay aE aF aG C e=some r) :
    Calls Tryz.prog 31 #[pt g 0,.agg (flat (k0c e aj ak al am)).toArray] w0 (kP Ms κ0 w0 λv κ w=>∃eF eG eH eI eJ eK eL eM eN eO eP fT eQ fU eR fV d7 fW d8 eS eT d9 eU eV ea ec ed eW eX eY fX ee ef eg eh ej ek,v = .tuple #[]∧SS Ms κ0 w0 κ w [.box g 87 [si a1,si a2,si r.1,si r.2.1,si r.2.2.1,si r.2.2.2.1,sl eF r.u4.1.Cuts.length eG,sl eH r.u4.1.Nodes.length eI,sl eJ r.u4.2.1.length eK,sl eL r.u4.2.2.1.length eM,sl eN r.u4.2.2.2.1.length eO,sb r.u8.1,sp eP,sp eQ,sp eR,su r.u8.u4.1,k4d d7,ei 4 r.u8.u4.2.2.1,ei 4 r.u8.u4.2.2.2.1,sm d8,sm d9,sl ea r.u8.u8.2.2.1.length ec,sm ed,(1,X),sp eY,si r.u8.u8.u4.2.1,si r.u8.u8.u4.2.2.1,sl ee r.u8.u8.u4.2.2.2.1.length ef,sl eg r.u8.u8.u8.1.length eh,su r.u8.u8.u8.2.1,sb r.u8.u8.u8.2.2.1,sb r.u8.u8.u8.2.2.2.1,sb r.u8.u8.u8.u4.1,sl ej r.u8.u8.u8.u4.2.length ek,(1,Y)],k45 ea r.u8.u8.2.2.1.length ec,k46 ee r.u8.u8.u4.2.2.2.1.length ef,k46 eg r.u8.u8.u8.1.length eh,k3j ej r.u8.u8.u8.u4.2.length ek,.ext (ownX (fInt .i64) 3 eJ eK r.u4.2.1),.ext (ownX jM 4 eL eM r.u4.2.2.1),.ext (ownX (fInt .i64) 3 eN eO r.u4.2.2.2.1),k31 eP fT r.u8.2.1,k47 eQ fU r.u8.2.2.1,k48 eR fV r.u8.2.2.2.1,.ext (arrX j6 d7 fW r.u8.u4.2.1),mx d8 eS eT,mx d9 eU eV,mx ed eW eX,k3p eY fX r.u8.u8.u4.1] [k3a eF eG r.u4.1.Cuts,k3b eH eI r.u4.1.Nodes,(ml d7 4),(ml r.u8.u4.2.2.1 4),(ml r.u8.u4.2.2.2.1 4),k49 d8 eS eT r.u8.u8.1,k4a d9 eU eV r.u8.u8.2.1,k4b ea ec r.u8.u8.2.2.1,k4c ed eW eX r.u8.u8.2.2.2.1,k3m ee ef r.u8.u8.u4.2.2.2.1,k3m eg eh r.u8.u8.u8.1,k3k ej ek r.u8.u8.u8.u4.2]):=by
 have d:=hB.hS
 have iz:=d.fresh
 refine en func31 rfl ntmps31 λa b=>?_
 unfold M.rC at H
 refine qr λ_ hW=>wc (wbx b d (k0c e aj ak al am) (sgN 14 jD) λx a w b d=>hW _ _ (qs λ_ hY=>qs λ_ hZ=>bd H λh0 cK H=>kL (λa w=>∃κ,Fr (476) [] [k35 g,k2u x,(33,vb h0)] a∧SS Ms κ0 w0 κ w (k1f x e aj ak al am g a1 a2 a3 a4 a5 a6 p8 a7 c9 S T l k.length o p A.length q s B.length u aD aP az aw an j Z aa J K L G.length O P X a0 ao aL V U.length W Q I.length R ay aE aF aG D C.length F Y (ownX (fInt .i64) 3 l o k) (ownX jM 4 p q A) (ownX (fInt .i64) 3 s u B) aO aZ au aQ av aR (arrX j6 j aJ aS) ab ad ae af ah ai aW bj) (k1e p8 c9 a7 S T (ml j 4) (ml Z 4) (ml aa 4) J ab ad aT K ae af aU L O G P ah ai aV V W U Q R I D F C aj ak e al am)∧True) ?_ ?_))
 refine rgS d [] ?_
 have d:=d.drew
 have hX:=d.fx
 refine anp [0] [0,3,14] b hX λa b=>atk 1 (some 15) b hX rfl (vld 0 0 0) λa b=>anp [2,3] [0,3,17] b hX λa b=>bs cK (λhb cK=>?_) λhb cK=>?_
 have b:=b.bv 17 hb
 refine anp [4,5,6] [0,3,17,20] b hX λa b=>atk 7 (some 21) b hX rfl (vld 1 2 0) λa b=>anp [8,9,10] [0,3,24] b hX λa b=>bs cK (λhb cK=>?_) λhb cK=>?_
 have b:=b.bv 24 hb
 refine anp [11,13,14,15] [0,3,24,25,29] b hX λa b=>atk 12 (some 26) b hX rfl (vld 0 1 0) λa b=>atk 16 (some 30) b hX rfl (vld 1 3 0) λa b=>anp [17,18,19] [0,3,33] b hX λa b=>kN ?_
 cases cK
 exact ⟨_,b.kp [0,3,33],d.sp (rg 17) (rg 14),ja⟩
 have b:=b.bv 24 hb
 refine anp (ra 11 9) [0,3,33] b hX λa b=>kN ?_
 cases cK
 exact ⟨_,b.kp [0,3,33],d.sp (rg 17) (rg 14),ja⟩
 have b:=b.bv 17 hb
 refine anp (ra 4 16) [0,3,33] b hX λa b=>kN ?_
 cases cK
 exact ⟨_,b.kp [0,3,33],d.sp (rg 17) (rg 14),ja⟩
 rintro a w ⟨κ,b,d,-⟩
 refine hZ _ _ (bc b H (λhb H=>?_) λhb H=>?_)
 refine qr λ_ h1=>wp 3 [0,3,34,35,36] b λa b=>wc (wld b d 0 3 0 λa b=>wp 2 [0,3,35,37,39] b λa b=>wc (wst b d 1 29 1 [su e.TS] (sgN 1 jD) λa w b d=>wp 2 [0,3,41] b λa b=>wc (wst b d 1 30 1 [sb true] (sgN 1 jD) λa w b d=>h1 _ _ (qs λ_ h3=>rgS d [10] ?_))))
 have d:=d.drew
 have hX:=d.fx
 refine anp [0,1,2,3,5] [42,45,47] b hX λa b=>atk 4 (some 46) b hX rfl (vld 1 15 0) λa b=>atk 6 (some 48) b hX rfl (vld 0 3 0) λa b=>anp [7,8,9] [49,51] b hX λa b=>ago 10 b rfl (wst b d 1 15 1 [su (if e.TS > an then e.TS else an)] (sgN 1 jD) λa w b d=>⟨notE,?_⟩)
 refine kN (h3 _ _ (rt ?_))
 cases H
 exact j7 b d (mL results31) ⟨p8,c9,S,T,l,o,p,q,s,u,aP,aO,az,au,aw,av,j,aJ,J,ab,ad,K,ae,af,L,O,P,ah,ai,a0,aW,V,W,Q,R,D,F,rfl,d.sp (ra 1 16) (rg 12)⟩
 refine sk (hY _ _ (qs λ_ h4=>qs λ_ h5=>bd H λh6 ba H=>kL (λa w=>∃κ,Fr (476) [] [k35 g,k2u x,(87,vb h6)] a∧SS Ms κ0 w0 κ w (k1f x e aj ak al am g a1 a2 a3 a4 a5 a6 p8 a7 c9 S T l k.length o p A.length q s B.length u aD aP az aw an j Z aa J K L G.length O P X a0 ao aL V U.length W Q I.length R ay aE aF aG D C.length F Y (ownX (fInt .i64) 3 l o k) (ownX jM 4 p q A) (ownX (fInt .i64) 3 s u B) aO aZ au aQ av aR (arrX j6 j aJ aS) ab ad ae af ah ai aW bj) (k1e p8 c9 a7 S T (ml j 4) (ml Z 4) (ml aa 4) J ab ad aT K ae af aU L O G P ah ai aV V W U Q R I D F C aj ak e al am)∧True) ?_ ?_))
 refine rgS d [] ?_
 have d:=d.drew
 have hX:=d.fx
 refine anp [0] [0,3,52] b hX λa b=>atk 1 (some 53) b hX rfl (vld 0 0 0) λa b=>anp [2,3] [0,3,55] b hX λa b=>bs ba (λhb ba=>?_) λhb ba=>?_
 have b:=b.bv 55 hb
 refine anp (ra 4 32) [0,3,87] b hX λa b=>kN ?_
 cases ba
 exact ⟨_,b.kp [0,3,87],d.sp (rg 17) (rg 14),ja⟩
 have b:=b.bv 55 hb
 refine anp [4,6,7,8] [0,3,55,56,60] b hX λa b=>atk 5 (some 57) b hX rfl (vld 0 1 0) λa b=>atk 9 (some 61) b hX rfl (vld 1 3 0) λa b=>anp (ra 10 4) [0,3,65] b hX λa b=>bs ba (λhb ba=>?_) λhb ba=>?_
 have b:=b.bv 65 hb
 refine anp (ra 14 22) [0,3,87] b hX λa b=>kN ?_
 cases ba
 exact ⟨_,b.kp [0,3,87],d.sp (rg 17) (rg 14),ja⟩
 have b:=b.bv 65 hb
 refine anp [14] [0,3,65,66] b hX λa b=>atk 15 (some 67) b hX rfl (vld 0 1 0) λa b=>anp [16,17,18] [0,3,70] b hX λa b=>bs ba (λhb ba=>?_) λhb ba=>?_
 have b:=b.bv 70 hb
 refine anp (ra 19 17) [0,3,87] b hX λa b=>kN ?_
 cases ba
 exact ⟨_,b.kp [0,3,87],d.sp (rg 17) (rg 14),ja⟩
 have b:=b.bv 70 hb
 refine anp [19] [0,3,70,71] b hX λa b=>atk 20 (some 72) b hX rfl (vld 0 7 0) λa b=>anp (ra 21 4) [0,3,76] b hX λa b=>bs ba (λhb ba=>?_) λhb ba=>?_
 have b:=b.bv 76 hb
 refine anp (ra 25 11) [0,3,87] b hX λa b=>kN ?_
 cases ba
 exact ⟨_,b.kp [0,3,87],d.sp (rg 17) (rg 14),ja⟩
 have b:=b.bv 76 hb
 refine anp [25,26] [0,3,76,78] b hX λa b=>atk 27 (some 79) b hX rfl (vld 0 9 0) λa b=>anp [28,29,30] [0,3,82] b hX λa b=>bs ba (λhb ba=>?_) λhb ba=>?_
 have b:=b.bv 82 hb
 refine anp (ra 31 5) [0,3,87] b hX λa b=>kN ?_
 cases ba
 exact ⟨_,b.kp [0,3,87],d.sp (rg 17) (rg 14),ja⟩
 have b:=b.bv 82 hb
 refine anp [31,32] [0,3,82,84] b hX λa b=>atk 33 (some 85) b hX rfl (vld 0 9 0) λa b=>anp [34,35] [0,3,87] b hX λa b=>kN ?_
 cases ba
 exact ⟨_,b.kp [0,3,87],d.sp (rg 17) (rg 14),ja⟩
 rintro a w ⟨κ,b,d,-⟩
 refine h5 _ _ (bc b H (λhb H=>?_) λhb H=>?_)
 refine rt ?_
 cases H
 exact j7 b d (mL results31) ⟨p8,c9,S,T,l,o,p,q,s,u,aP,aO,az,au,aw,av,j,aJ,J,ab,ad,K,ae,af,L,O,P,ah,ai,a0,aW,V,W,Q,R,D,F,rfl,d.sp (ra 1 16) (rg 12)⟩
 refine sk (h4 _ _ (qr λ_ h7=>wp 2 [0,3,88,89] b λa b=>wc (wld b d 0 1 0 λa b=>wp 3 [0,3,91,93] b λa b=>wc (wst b d 1 3 1 [si (i64.wrap e.Id)] (sgN 1 jD) λa w b d=>h7 _ _ (qr λ_ h8=>wp 1 [0,3,94] b λa b=>?_)))))
 have d:=d.add (m:=ml (replicate 4 false) 4) (List.length_replicate)
 refine wc (wal b d [eb 4 (replicate 4 false)] (kS List.length_replicate jD) λbY a w b d=>wc (wst b d 0 0 1 [eb 4 (replicate 4 false)] (kS List.length_replicate jD) λa w b d=>(h8 _ _ (qs λ_ h9=>qr λ_ ia=>(wp 1 [0,3,4,95] b λa b=>(ia _ _ (bk (jT (n:=N) (λn a w=>∃κ be bl,Fr (476) [] [k35 g,k2u x,k2v bY,(95,vi bl)] a∧SS Ms κ0 w0 κ w (k1g bY be x e aj ak al am g a1 a2 a3 (i64.wrap e.Id) a5 a6 p8 a7 c9 S T l k.length o p A.length q s B.length u aD aP az aw an j Z aa J K L G.length O P X a0 ao aL V U.length W Q I.length R ay aE aF aG D C.length F Y (ownX (fInt .i64) 3 l o k) (ownX jM 4 p q A) (ownX (fInt .i64) 3 s u B) aO aZ au aQ av aR (arrX j6 j aJ aS) ab ad ae af ah ai aW bj) (k1h p8 c9 a7 S T (ml j 4) (ml Z 4) (ml aa 4) J ab ad aT K ae af aU L O G P ah ai aV V W U Q R I D F C (ml be 4) aj ak e al am)∧M.nH N n a1 a2 a3 a5 a6 a7 k A B aD aZ aQ aR an aS Z aa aT aU G aV bj ao aL U I ay aE aF aG C e be bl=some r) ?_ ?_))))))))
 exact ⟨_,(replicate 4 false),0,b.kp [0,3,4,95],d.sp (rg 18) [1,2,3,4,5,6,7,8,9,10,11,12,0,13,14],H⟩
 rintro n a w ⟨κ,be,bl,b,d,H⟩
 rcases n with _|fY
 simp [M.nH] at H
 simp only [M.nH] at H
 refine qr λ_ gv=>wp 1 [0,3,4,95,96] b λa b=>gv _ _ (qs λ_ gw=>bc b H (λhb H=>?_) λhb H=>?_)
 refine sk (gw _ _ (qs λ_ gx=>bk (qr λ_ gy=>(wp 2 [0,3,4,5,95] b λa b=>(gy _ _ (rl (jE (L':=[k35 g,k2u x,k2v bY,(5,vi bl),(95,vi bl),(98,vi bl),(99,pt x 7)]) 2 [0,3,4,5,95,98,99] b kr λa b=>wc (wld b d 1 7 0 λa b=>bd H λeZ et H=>wc (kR b d kr 14 (E:=32) (sz:=1) rfl rfl rfl kr rfl et kr kr λib ic a e0 b=>wc (mH (t:=(fInt .u64)) b d kr 14 0 (v:=vu eZ) rfl rfl e0 rfl et kr kr kr λa b=>jE (L':=[k35 g,k2u x,k2v bY,(95,vi bl),(98,vi bl),(102,vu eZ),(103,vi bl)]) 1 [0,3,4,95,98,102,103] b kr λa b=>?_))))))))))
 refine bd H λcW fZ H=>wc (kQ b kr (v:=vu cW) ((L4 rfl rfl rfl fZ) _) λa b=>jE (L':=[k35 g,k2u x,k2v bY,(95,vi bl),(98,vi bl),(106,vb (iAnd .u64 cW 1==1))]) 2 [0,3,4,95,98,106] b kr λa b=>bd H λie eu H=>wc (l7 b kr (E:=4) (sz:=1) (n:=4) rfl rfl (i:=bl) rfl (m4 eu (d.get 12 rfl)) kr kr λa b=>wc (lK (t:=jM) (y:=(iAnd .u64 cW 1==1)) (v:=vb (iAnd .u64 cW 1==1)) b d kr 0 0 (s':=[eb 4 (set be (toNat bl) (iAnd .u64 cW 1==1))]) (C':=k1g bY (set be (toNat bl) (iAnd .u64 cW 1==1)) x e aj ak al am g a1 a2 a3 (i64.wrap e.Id) a5 a6 p8 a7 c9 S T l k.length o p A.length q s B.length u aD aP az aw an j Z aa J K L G.length O P X a0 ao aL V U.length W Q I.length R ay aE aF aG D C.length F Y (ownX (fInt .i64) 3 l o k) (ownX jM 4 p q A) (ownX (fInt .i64) 3 s u B) aO aZ au aQ av aR (arrX j6 j aJ aS) ab ad ae af ah ai aW bj) rfl rfl kr rfl rfl eu rfl rfl kr kr kr kr λa w b d=>?_)))
 have d:=d.add (m:=ml (set be (toNat bl) (iAnd .u64 cW 1==1)) 4) (List.length_set.trans (d.get 12 rfl))
 refine gx _ _ (rl (wp 2 [0,3,4,95] b λa b=>nl ?_))
 exact ⟨fY,jb _,_,(set be (toNat bl) (iAnd .u64 cW 1==1)),i64.wrap (bl+1),b.kp [0,3,4,95],d.sp (rg 18) [1,2,3,4,5,6,7,8,9,10,11,12,0,14,15],H⟩
 refine xt (h9 _ _ (qs λ_ gz=>rgS d [] ?_))
 have d:=d.drew
 have hX:=d.fx
 refine anp [0,1,3,4,5] [0,3,4,110,114] b hX λa b=>atk 2 (some 111) b hX rfl (vld 1 9 0) λa b=>atk 6 (some 115) b hX rfl (vld 2 0 0) λa b=>anp [7,8] [0,3,4,6] b hX λa b=>kN (gz _ _ (m2 (λa w=>∃κ bZ b0 b1,∃bD:List ByteArray,∃bQ bR,∃bE:List Int,∃bS bT bJ cw cD bK cx cE bL cy cF bf cz cG bF bG bm co cp c4 bn cq cr c5,∃bg:List i8,∃bo bq br cs cu c6 bM cA cH b2 b3,∃bh:List Int,∃bt bu,∃bi:List Int,∃bw bx b4 b5 b6 b7,∃dn:List i9,∃dw dx,Fr (476) [] [k35 g,k2u x] a∧SS Ms κ0 w0 κ w [.box g 87 [si a1,si a2,si bZ,si (i64.wrap e.Id),si b0,si b1,sl bQ bD.length bR,sl bS bE.length bT,sl l k.length o,sl p A.length q,sl s B.length u,sb aD,sp bJ,sp bK,sp bL,su an,k4d bf,ei 4 bF,ei 4 bG,sm bm,sm bn,sl bo bg.length bq,sm br,(1,X),sp bM,si b2,si b3,sl bt bh.length bu,sl bw bi.length bx,su b4,sb b5,sb b6,sb b7,sl dw dn.length dx,(1,Y)],k4p x e aj ak al am,k45 bo bg.length bq,k46 bt bh.length bu,k46 bw bi.length bx,k3j dw dn.length dx,.ext (ownX (fInt .i64) 3 l o k),.ext (ownX jM 4 p q A),.ext (ownX (fInt .i64) 3 s u B),k31 bJ cw cD,k47 bK cx cE,k48 bL cy cF,.ext (arrX j6 bf cz cG),mx bm co cp,mx bn cq cr,mx br cs cu,k3p bM cA cH] (k1i bQ bR bD bS bT bE (ml bf 4) (ml bF 4) (ml bG 4) bm co cp c4 bn cq cr c5 bo bq bg br cs cu c6 bt bu bh bw bx bi dw dx dn aj ak e al am)∧M.kM N a1 a2 k A B aD an e bZ b0 b1 bD bE cD cE cF cG bF bG c4 c5 bg c6 cH b2 b3 bh bi b4 b5 b6 b7 dn=some r) ?_ ?_))
 refine bk (qr λ_ gA=>bd H λgB b9 H=>k8 (λa w=>∃κ,Fr (476) [] [k35 g,k2u x,k2v bY,(6,vb (e.Cmd.DC==a1)),(117,vb gB)] a∧SS Ms κ0 w0 κ w (k1g bY be x e aj ak al am g a1 a2 a3 (i64.wrap e.Id) a5 a6 p8 a7 c9 S T l k.length o p A.length q s B.length u aD aP az aw an j Z aa J K L G.length O P X a0 ao aL V U.length W Q I.length R ay aE aF aG D C.length F Y (ownX (fInt .i64) 3 l o k) (ownX jM 4 p q A) (ownX (fInt .i64) 3 s u B) aO aZ au aQ av aR (arrX j6 j aJ aS) ab ad ae af ah ai aW bj) (k1h p8 c9 a7 S T (ml j 4) (ml Z 4) (ml aa 4) J ab ad aT K ae af aU L O G P ah ai aV V W U Q R I D F C (ml be 4) aj ak e al am)∧True) ?_ ?_)
 refine wp 2 [0,3,4,6,119] b λa b=>wc (wld b d 1 8 0 λa b=>wp 2 [0,3,4,6,122] b λa b=>bs b9 (λhb b9=>?_) λhb b9=>?_)
 have b:=b.bv 122 hb
 refine wp 1 [0,3,4,6,122,123] b λa b=>wcg b (wld b d 1 2 0 λa b=>wp 3 [0,3,4,6,127] b λa b=>bs b9 (λhb b9=>?_) λhb b9=>?_)
 have b:=b.bv 127 hb
 refine wp 3 [0,3,4,6,117] b λa b=>nl ?_
 cases b9
 exact ⟨_,b.kp [0,3,4,6,117],d.sp (rg 18) (rg 15),ja⟩
 have b:=b.bv 127 hb
 refine wp 3 [0,3,4,6,117] b λa b=>nl ?_
 cases b9
 exact ⟨_,b.kp [0,3,4,6,117],d.sp (rg 18) (rg 15),ja⟩
 have b:=b.bv 122 hb
 refine wp 8 [0,3,4,6,117] b λa b=>nl ?_
 cases b9
 exact ⟨_,b.kp [0,3,4,6,117],d.sp (rg 18) (rg 15),ja⟩
 rintro a w ⟨κ,b,d,-⟩
 refine gA _ _ (bc b H (λhb H=>?_) λhb H=>?_)
 refine rl (wp 1 [0,3,4,130] b λa b=>wc (wls b d 0 0 1 λa b=>bd H λax f0 H=>?_))
 have ey:=d.segs 2 rfl
 refine wc (wcS 13 [2,3,4,5,6,10,11,12,13,14,15,16,17,0,1,7,8,9] b d (λd=>A8 N a1 a2 a3 (i64.wrap e.Id) a5 a6 a7 aZ aQ aR an aS Z aa aT aU G aV bj aL U I ay aE aF aG C be p8 c9 S T (flat [sl l k.length o,sl p A.length q,sl s B.length u,sb aD]) aP aO az au aw av j aJ J ab ad K ae af L O P ah ai X a0 aW [vi ao] V W Q R D F Y g ((d.regr 0 [(false,8),(true,4),(false,23)] rfl).sbK (rg 13)) f0) ?_)
 rintro _ κ w a ⟨e1,e2,e3,e4,e5,f1,e6,f2,e7,f3,e8,f4,e9,gC,gD,fa,gE,gF,fb,fc,fd,gG,gH,fe,f5,fg,fh,fi,fj,fk,fl,rfl,h2⟩ b hB
 have d:=(hB _ _ h2).unregrK 0 [(false,8),(true,4),(false,23)] (s':=k1j a1 a2 ax.1 (i64.wrap e.Id) ax.2.1 ax.2.2.1 e1 ax.2.2.2.1 e2 e3 e4 l k.length o p A.length q s B.length u aD e5 e6 e7 an e8 ax.u8.1 ax.u8.2.1 e9 fa fb ax.u8.u4.1.length fc fd X fe ao ax.u8.u4.2.2.2.1 fg ax.u8.u8.1.length fh fi ax.u8.u8.2.1.length fj ax.u8.u8.2.2.1 ax.u8.u8.2.2.2.1 ax.u8.u8.u4.1 ax.u8.u8.u4.2.1 fk ax.u8.u8.u4.2.2.length fl Y) ey rfl
 refine nl ?_
 exact ⟨_,ax.1,ax.2.1,ax.2.2.1,ax.2.2.2.1.Cuts,e1,e2,ax.2.2.2.1.Nodes,e3,e4,e5,f1,ax.u4.1,e6,f2,ax.u4.2.1,e7,f3,ax.u4.2.2.1,e8,f4,ax.u4.2.2.2.1,ax.u8.1,ax.u8.2.1,e9,gC,gD,ax.u8.2.2.1,fa,gE,gF,ax.u8.2.2.2.1,ax.u8.u4.1,fb,fc,fd,gG,gH,ax.u8.u4.2.1,fe,f5,ax.u8.u4.2.2.1,ao,ax.u8.u4.2.2.2.1,ax.u8.u8.1,fg,fh,ax.u8.u8.2.1,fi,fj,ax.u8.u8.2.2.1,ax.u8.u8.2.2.2.1,ax.u8.u8.u4.1,ax.u8.u8.u4.2.1,ax.u8.u8.u4.2.2,fk,fl,b.kp [0,3],d.sp [0,14,1,2,3,4,15,16,17,5,6,7,8,9,10,11,12] [0,1,2,3,4,5,6,7,8,9,10,11,25,26],H⟩
 refine qr λ_ gI=>bd H λgJ ca H=>k8 (λa w=>∃κ,Fr (476) [] [k35 g,k2u x,k2v bY,(6,vb (e.Cmd.DC==a1)),(133,vb gJ)] a∧SS Ms κ0 w0 κ w (k1g bY be x e aj ak al am g a1 a2 a3 (i64.wrap e.Id) a5 a6 p8 a7 c9 S T l k.length o p A.length q s B.length u aD aP az aw an j Z aa J K L G.length O P X a0 ao aL V U.length W Q I.length R ay aE aF aG D C.length F Y (ownX (fInt .i64) 3 l o k) (ownX jM 4 p q A) (ownX (fInt .i64) 3 s u B) aO aZ au aQ av aR (arrX j6 j aJ aS) ab ad ae af ah ai aW bj) (k1h p8 c9 a7 S T (ml j 4) (ml Z 4) (ml aa 4) J ab ad aT K ae af aU L O G P ah ai aV V W U Q R I D F C (ml be 4) aj ak e al am)∧True) ?_ ?_
 refine wp 2 [0,3,4,6,135] b λa b=>wc (wld b d 1 8 0 λa b=>wp 2 [0,3,4,6,138] b λa b=>bs ca (λhb ca=>?_) λhb ca=>?_)
 have b:=b.bv 138 hb
 refine wp 1 [0,3,4,6,138,139] b λa b=>wcg b (wld b d 1 2 0 λa b=>wp 3 [0,3,4,6,143] b λa b=>bs ca (λhb ca=>?_) λhb ca=>?_)
 have b:=b.bv 143 hb
 refine wp 3 [0,3,4,6,143,146] b λa b=>wcg b (wld b d 2 2 0 λa b=>wp 3 [0,3,4,6,133] b λa b=>nl ?_)
 cases ca
 exact ⟨_,b.kp [0,3,4,6,133],d.sp (rg 18) (rg 15),ja⟩
 have b:=b.bv 143 hb
 refine wp 7 [0,3,4,6,133] b λa b=>nl ?_
 cases ca
 exact ⟨_,b.kp [0,3,4,6,133],d.sp (rg 18) (rg 15),ja⟩
 have b:=b.bv 138 hb
 refine wp 12 [0,3,4,6,133] b λa b=>nl ?_
 cases ca
 exact ⟨_,b.kp [0,3,4,6,133],d.sp (rg 18) (rg 15),ja⟩
 rintro a w ⟨κ,b,d,-⟩
 refine gI _ _ (bc b H (λhb H=>?_) λhb H=>?_)
 refine rl (wp 3 [0,3,150,152] b λa b=>wc (wld b d 1 9 0 λa b=>bd H λbH f6 H=>?_))
 have ez:=d.segs 2 rfl
 refine wc (wcS 6 [2,4,6,10,11,13,0,1,3,5,7,8,9,12,14,15,16,17] b d (λd=>zK N a1 a2 (i64.wrap e.Id) aZ aQ aS Z aa ao aL U C e.Cmd.DC [vi a3] (flat [si a5,si a6,sl p8 a7.Cuts.length c9,sl S a7.Nodes.length T,sl l k.length o,sl p A.length q,sl s B.length u,sb aD]) aP aO az au (flat [sp aw,su an]) j aJ (flat [sm J,sm K,sl L G.length O,sm P,(1,X),sp a0]) V W (flat [sl Q I.length R,su ay,sb aE,sb aF,sb aG]) D F Y g ((d.regr 0 [(false,4),(true,8),(false,2),(true,2),(false,3),(true,6),(false,3),(true,5),(false,2)] rfl).sbK [2,3,4,9,11]) f6) ?_)
 rintro _ κ w a ⟨fm,f7,fn,f8,fo,f9,fp,fq,fr,ft,rfl,h2⟩ b hB
 have d:=(hB _ _ h2).unregrK 0 [(false,4),(true,8),(false,2),(true,2),(false,3),(true,6),(false,3),(true,5),(false,2)] (s':=k1j a1 a2 a3 (i64.wrap e.Id) a5 a6 p8 a7 c9 S T l k.length o p A.length q s B.length u aD fm fn aw an fo bH.2.2.2.1 bH.u4.1 J K L G.length O P X a0 bH.u4.2.1 bH.u4.2.2.1 fp bH.u4.2.2.2.1.length fq Q I.length R ay aE aF aG fr bH.u8.length ft Y) ez rfl
 refine nl ?_
 exact ⟨_,a3,a5,a6,a7.Cuts,p8,c9,a7.Nodes,S,T,fm,f7,bH.1,fn,f8,bH.2.1,aw,av,aR,fo,f9,bH.2.2.1,bH.2.2.2.1,bH.u4.1,J,ab,ad,aT,K,ae,af,aU,G,L,O,P,ah,ai,aV,a0,aW,bj,bH.u4.2.1,bH.u4.2.2.1,bH.u4.2.2.2.1,fp,fq,I,Q,R,ay,aE,aF,aG,bH.u8,fr,ft,b.kp [0,3],d.sp [0,7,8,1,9,2,10,11,12,3,4,13,5,14,15,16,17] [5,6,0,1,2,10,11,12,13,3,15,4,18,19],H⟩
 refine qr λ_ gK=>bd H λgL cb H=>k8 (λa w=>∃κ,Fr (476) [] [k35 g,k2u x,k2v bY,(6,vb (e.Cmd.DC==a1)),(155,vb gL)] a∧SS Ms κ0 w0 κ w (k1g bY be x e aj ak al am g a1 a2 a3 (i64.wrap e.Id) a5 a6 p8 a7 c9 S T l k.length o p A.length q s B.length u aD aP az aw an j Z aa J K L G.length O P X a0 ao aL V U.length W Q I.length R ay aE aF aG D C.length F Y (ownX (fInt .i64) 3 l o k) (ownX jM 4 p q A) (ownX (fInt .i64) 3 s u B) aO aZ au aQ av aR (arrX j6 j aJ aS) ab ad ae af ah ai aW bj) (k1h p8 c9 a7 S T (ml j 4) (ml Z 4) (ml aa 4) J ab ad aT K ae af aU L O G P ah ai aV V W U Q R I D F C (ml be 4) aj ak e al am)∧True) ?_ ?_
 refine wp 2 [0,3,4,6,157] b λa b=>wc (wld b d 1 8 0 λa b=>wp 2 [0,3,4,6,160] b λa b=>bs cb (λhb cb=>?_) λhb cb=>?_)
 have b:=b.bv 160 hb
 refine wp 3 [0,3,4,6,163] b λa b=>bs cb (λhb cb=>?_) λhb cb=>?_
 have b:=b.bv 163 hb
 refine wp 3 [0,3,4,6,163,166] b λa b=>wcg b (wld b d 2 2 0 λa b=>wp 3 [0,3,4,6,155] b λa b=>nl ?_)
 cases cb
 exact ⟨_,b.kp [0,3,4,6,155],d.sp (rg 18) (rg 15),ja⟩
 have b:=b.bv 163 hb
 refine wp 7 [0,3,4,6,155] b λa b=>nl ?_
 cases cb
 exact ⟨_,b.kp [0,3,4,6,155],d.sp (rg 18) (rg 15),ja⟩
 have b:=b.bv 160 hb
 refine wp 10 [0,3,4,6,155] b λa b=>nl ?_
 cases cb
 exact ⟨_,b.kp [0,3,4,6,155],d.sp (rg 18) (rg 15),ja⟩
 rintro a w ⟨κ,b,d,-⟩
 refine gK _ _ (bc b H (λhb H=>?_) λhb H=>?_)
 refine qr λ_ gM=>(jE (L':=[k35 g,k2u x,(172,pt g 2)]) 3 [0,3,172] b kr λa b=>wc (wst b d 2 2 1 [si 2] (sgN 1 jD) λa w b d=>gM _ _ (bd H λgN ho H=>?_)))
 obtain ⟨el,bz,d⟩:=d.optS 10 rfl ho
 rw [bz] at d
 try rw [bz] at b
 obtain ⟨⟨gO,gP⟩,d⟩:=d.unfI (ck:=jP) (fs:=jO) 10 rfl
 refine rgX d [2,3,4,9,10,11,12,13,14,15,16,17,18] ?_
 have d:=d.drew
 have hX:=d.px [2,3,4,9,10,11,12,13,14,15,16,17,18]
 refine anp [0,1,2,4,5,6] [0,3,175,179] b hX λa b=>atk 3 (some 176) b hX rfl (vld 2 12 0) λa b=>atk 7 (some 180) b hX rfl (vld 2 29 0) λa b=>ago 8 b rfl (bd H λfu ga H=>wcS 2 (rg 19) b d (λd=>A1 N gN ay gO gP el (d.sbK (rg 4)) ga) ?_)
 rintro _ κ w a ⟨gQ,gR,rfl,h2⟩ b hB
 have d:=hB _ _ h2
 refine ⟨λ_=>(d.sx [2,3,4,9,10,11,12,13,14,15,16,17,18] (ra 4 19)),?_⟩
 refine kN ?_
 obtain ⟨gb,d⟩:=d.foldI (ck:=jP) (fs:=jO) el (gQ,gR) fu [0,1] (ra 2 17) (rg 4) dc kr kr
 exact ⟨_,2,a5,a6,a7.Cuts,p8,c9,a7.Nodes,S,T,(some el),gb,(some fu),az,au,aQ,aw,av,aR,j,aJ,aS,Z,aa,J,ab,ad,aT,K,ae,af,aU,G,L,O,P,ah,ai,aV,a0,aW,bj,ao,aL,U,V,W,I,Q,R,ay,aE,aF,aG,C,D,F,b.kp [0,3],d.sp [3,2,4,5,6,7,8,9,10,0,11,12,13,14,15,16,17] [8,9,10,11,12,13,14,15,16,17,18,19,21,22],H⟩
 refine qr λ_ gS=>bd H λgT bA H=>k8 (λa w=>∃κ,Fr (476) [] [k35 g,k2u x,k2v bY,(6,vb (e.Cmd.DC==a1)),(182,vb gT)] a∧SS Ms κ0 w0 κ w (k1g bY be x e aj ak al am g a1 a2 a3 (i64.wrap e.Id) a5 a6 p8 a7 c9 S T l k.length o p A.length q s B.length u aD aP az aw an j Z aa J K L G.length O P X a0 ao aL V U.length W Q I.length R ay aE aF aG D C.length F Y (ownX (fInt .i64) 3 l o k) (ownX jM 4 p q A) (ownX (fInt .i64) 3 s u B) aO aZ au aQ av aR (arrX j6 j aJ aS) ab ad ae af ah ai aW bj) (k1h p8 c9 a7 S T (ml j 4) (ml Z 4) (ml aa 4) J ab ad aT K ae af aU L O G P ah ai aV V W U Q R I D F C (ml be 4) aj ak e al am)∧True) ?_ ?_
 refine wp 2 [0,3,4,6,184] b λa b=>wc (wld b d 1 8 0 λa b=>wp 2 [0,3,4,6,187] b λa b=>bs bA (λhb bA=>?_) λhb bA=>?_)
 have b:=b.bv 187 hb
 refine wp 1 [0,3,4,6,187,188] b λa b=>wcg b (wld b d 1 2 0 λa b=>wp 3 [0,3,4,6,192] b λa b=>bs bA (λhb bA=>?_) λhb bA=>?_)
 have b:=b.bv 192 hb
 refine wp 3 [0,3,4,6,195] b λa b=>bs bA (λhb bA=>?_) λhb bA=>?_
 have b:=b.bv 195 hb
 refine wp 3 [0,3,4,6,195,198] b λa b=>wcg b (wld b d 2 2 0 λa b=>wp 3 [0,3,4,6,182] b λa b=>nl ?_)
 cases bA
 exact ⟨_,b.kp [0,3,4,6,182],d.sp (rg 18) (rg 15),ja⟩
 have b:=b.bv 195 hb
 refine wp 7 [0,3,4,6,182] b λa b=>nl ?_
 cases bA
 exact ⟨_,b.kp [0,3,4,6,182],d.sp (rg 18) (rg 15),ja⟩
 have b:=b.bv 192 hb
 refine wp 10 [0,3,4,6,182] b λa b=>nl ?_
 cases bA
 exact ⟨_,b.kp [0,3,4,6,182],d.sp (rg 18) (rg 15),ja⟩
 have b:=b.bv 187 hb
 refine wp 15 [0,3,4,6,182] b λa b=>nl ?_
 cases bA
 exact ⟨_,b.kp [0,3,4,6,182],d.sp (rg 18) (rg 15),ja⟩
 rintro a w ⟨κ,b,d,-⟩
 refine gS _ _ (bc b H (λhb H=>?_) λhb H=>?_)
 refine rl (wp 4 [0,3,203,205] b λa b=>wc (wst b d 2 2 1 [si 3] (sgN 1 jD) λa w b d=>wp 2 [0,3,207] b λa b=>wc (wst b d 2 32 1 [k3e] (sgN 1 jD) λa w b d=>nl ?_)))
 exact ⟨_,3,a5,a6,a7.Cuts,p8,c9,a7.Nodes,S,T,aP,aO,aZ,az,au,aQ,aw,av,aR,j,aJ,aS,Z,aa,J,ab,ad,aT,K,ae,af,aU,G,L,O,P,ah,ai,aV,a0,aW,bj,ao,aL,U,V,W,I,Q,R,ay,aE,aF,false,C,D,F,b.kp [0,3],d.sp [2,1,3,4,5,6,7,8,9,10,11,12,13,14,15,16,17] [0,1,2,3,4,5,6,7,8,9,10,11,13,14],H⟩
 refine qr λ_ gU=>bd H λgV cc H=>k8 (λa w=>∃κ,Fr (476) [] [k35 g,k2u x,k2v bY,(6,vb (e.Cmd.DC==a1)),(208,vb gV)] a∧SS Ms κ0 w0 κ w (k1g bY be x e aj ak al am g a1 a2 a3 (i64.wrap e.Id) a5 a6 p8 a7 c9 S T l k.length o p A.length q s B.length u aD aP az aw an j Z aa J K L G.length O P X a0 ao aL V U.length W Q I.length R ay aE aF aG D C.length F Y (ownX (fInt .i64) 3 l o k) (ownX jM 4 p q A) (ownX (fInt .i64) 3 s u B) aO aZ au aQ av aR (arrX j6 j aJ aS) ab ad ae af ah ai aW bj) (k1h p8 c9 a7 S T (ml j 4) (ml Z 4) (ml aa 4) J ab ad aT K ae af aU L O G P ah ai aV V W U Q R I D F C (ml be 4) aj ak e al am)∧True) ?_ ?_
 refine wp 2 [0,3,4,6,210] b λa b=>wc (wld b d 1 8 0 λa b=>wp 2 [0,3,4,6,213] b λa b=>bs cc (λhb cc=>?_) λhb cc=>?_)
 have b:=b.bv 213 hb
 refine wp 1 [0,3,4,6,213,214] b λa b=>wcg b (wld b d 1 2 0 λa b=>wp 3 [0,3,4,6,218] b λa b=>bs cc (λhb cc=>?_) λhb cc=>?_)
 have b:=b.bv 218 hb
 refine wp 3 [0,3,4,6,208] b λa b=>nl ?_
 cases cc
 exact ⟨_,b.kp [0,3,4,6,208],d.sp (rg 18) (rg 15),ja⟩
 have b:=b.bv 218 hb
 refine wp 3 [0,3,4,6,208] b λa b=>nl ?_
 cases cc
 exact ⟨_,b.kp [0,3,4,6,208],d.sp (rg 18) (rg 15),ja⟩
 have b:=b.bv 213 hb
 refine wp 8 [0,3,4,6,208] b λa b=>nl ?_
 cases cc
 exact ⟨_,b.kp [0,3,4,6,208],d.sp (rg 18) (rg 15),ja⟩
 rintro a w ⟨κ,b,d,-⟩
 refine gU _ _ (bc b H (λhb H=>?_) λhb H=>?_)
 refine qr λ_ gW=>wp 1 [0,3,4,221] b λa b=>bd H λf gc H=>?_
 have eA:=d.segs 2 rfl
 refine wc (wcS 11 [2,3,4,5,11,12,13,14,15,16,17,0,1,6,7,8,9,10] b d (λd=>uH N a3 (i64.wrap e.Id) a5 a6 a7 aQ aR aS Z aa aT aU G aV bj aL U I ay aE aF aG (flat [si a1,si a2]) p8 c9 S T (flat [sl l k.length o,sl p A.length q,sl s B.length u,sb aD,sp aP]) az au aw av [vu an] j aJ J ab ad K ae af L O P ah ai X a0 aW [vi ao] V W Q R (flat [sl D C.length F,(1,Y)]) g ((d.regr 0 [(true,2),(false,6),(true,5),(false,20),(true,2)] rfl).sbK (rg 11)) gc) ?_)
 rintro _ κ w a ⟨c7,c8,da,db,cX,dI,cY,dJ,cM,dK,cN,dL,dM,cO,dN,dO,cP,cQ,cR,dP,dR,cZ,dS,cS,cT,cU,cV,rfl,h2⟩ b hB
 have d:=(hB _ _ h2).unregrK 0 [(true,2),(false,6),(true,5),(false,20),(true,2)] (s':=k1j a1 a2 f.1 (i64.wrap e.Id) f.2.1 f.2.2.1 c7 f.2.2.2.1 c8 da db l k.length o p A.length q s B.length u aD aP cX cY an cM f.u4.2.2.2.1 f.u8.1 cN cO cP f.u8.2.2.2.1.length cQ cR X cZ ao f.u8.u4.2.2.1 cS f.u8.u4.2.2.2.1.length cT cU f.u8.u8.1.length cV f.u8.u8.2.1 f.u8.u8.2.2.1 f.u8.u8.2.2.2.1 f.u8.u8.u4 D C.length F Y) eA rfl
 refine gW _ _ (qs λ_ gX=>rgS d [16] ?_)
 have d:=d.drew
 have hX:=d.fx
 refine anp [0,1,2,3,5,6,7] [0,3,4,224,227,231] b hX λa b=>atk 4 (some 228) b hX rfl (vld 0 0 0) λa b=>atk 8 (some 232) b hX rfl (vld 0 1 0) λa b=>atk 9 (some 233) b hX rfl (vls 8 0 1) λa b=>ago 10 b rfl (bd H λdT gd H=>wcS 0 (rg 18) b d (λd=>zF N a1 a2 be (d.sbK [23]) gd) ?_)
 rintro _ κ w a ⟨c0,dU,rfl,h2⟩ b hB
 have d:=(hB _ _ h2).cC (C':=[k31 c0 dU dT.1,k4o g a1 a2 f.1 (i64.wrap e.Id) f.2.1 f.2.2.1 c7 f.2.2.2.1 c8 da db l k.length o p A.length q s B.length u aD aP cX cY an cM f.u4.2.2.2.1 f.u8.1 cN cO cP f.u8.2.2.2.1.length cQ cR X cZ ao f.u8.u4.2.2.1 cS f.u8.u4.2.2.2.1.length cT cU f.u8.u8.1.length cV f.u8.u8.2.1 f.u8.u8.2.2.1 f.u8.u8.2.2.2.1 f.u8.u8.u4 D C.length F Y,k45 cP f.u8.2.2.2.1.length cQ,k46 cS f.u8.u4.2.2.2.1.length cT,k46 cU f.u8.u8.1.length cV,k47 cX dI f.u4.1,k48 cY dJ f.u4.2.1,.ext (arrX j6 cM dK f.u4.2.2.1),mx cN dL dM,mx cO dN dO,mx cR dP dR,k3p cZ dS f.u8.u4.2.1,k33 bY be,k4p x e aj ak al am,k3j D C.length F,.ext (ownX (fInt .i64) 3 l o k),.ext (ownX jM 4 p q A),.ext (ownX (fInt .i64) 3 s u B),k31 aP aO aZ])
 refine ⟨λ_=>(d.sx [1,5,6,7,8,9,10,11,12,13,15,16,17,18] (rg 26)),?_⟩
 refine anp [11,12,14,15] [0,3,223,235,238] b (d.sx [1,5,6,7,8,9,10,11,12,13,15,16,17,18] (rg 26)) λa b=>u1 [13] [0,3,235,238] b (λ_=>d.sx [1,5,6,7,8,9,10,11,12,13,15,16,17,18] (rg 26)) λa b=>?_
 have b:Fr (476) _ [k35 g,k2u x,(235,.pointer (pa c0)),(238,pt g 12)] a:=b.kp [0,3,235,238]
 refine ago 16 b rfl (wst b d 1 12 1 [sp c0] (sgN 1 jD) λa w b d=>⟨notE,?_⟩)
 refine kN (gX _ _ (qr λ_ gY=>(wp 3 [0,3,241] b λa b=>wc (wld b d 1 1 0 λa b=>wp 1 [0,3,242,243] b λa b=>(gY _ _ (bk (jT (n:=N) (λn a w=>∃κ,∃dd:List i9,∃dp dq dy,Fr (476) [] [k35 g,k2u x,(242,vi a2),(243,vi dy)] a∧SS Ms κ0 w0 κ w [k4o g a1 a2 f.1 (i64.wrap e.Id) f.2.1 f.2.2.1 c7 f.2.2.2.1 c8 da db l k.length o p A.length q s B.length u aD c0 cX cY an cM f.u4.2.2.2.1 f.u8.1 cN cO cP f.u8.2.2.2.1.length cQ cR X cZ ao f.u8.u4.2.2.1 cS f.u8.u4.2.2.2.1.length cT cU f.u8.u8.1.length cV f.u8.u8.2.1 f.u8.u8.2.2.1 f.u8.u8.2.2.2.1 f.u8.u8.u4 dp dd.length dq Y,k4p x e aj ak al am,k3j dp dd.length dq,k45 cP f.u8.2.2.2.1.length cQ,k46 cS f.u8.u4.2.2.2.1.length cT,k46 cU f.u8.u8.1.length cV,.ext (ownX (fInt .i64) 3 l o k),.ext (ownX jM 4 p q A),.ext (ownX (fInt .i64) 3 s u B),k31 c0 dU dT.1,k47 cX dI f.u4.1,k48 cY dJ f.u4.2.1,.ext (arrX j6 cM dK f.u4.2.2.1),mx cN dL dM,mx cO dN dO,mx cR dP dR,k3p cZ dS f.u8.u4.2.1] (k1e c7 c8 f.2.2.2.1 da db (ml cM 4) (ml f.u4.2.2.2.1 4) (ml f.u8.1 4) cN dL dM f.u8.2.1 cO dN dO f.u8.2.2.1 cP cQ f.u8.2.2.2.1 cR dP dR f.u8.u4.1 cS cT f.u8.u4.2.2.2.1 cU cV f.u8.u8.1 dp dq dd aj ak e al am)∧M.nE N n a1 a2 k A B aD an ao e f dT dd dy=some r) ?_ ?_)))))))
 exact ⟨_,C,D,F,0,b.kp [0,3,242,243],d.sp [1,13,14,2,3,4,15,16,17,0,5,6,7,8,9,10,11] [0,1,2,3,4,5,6,7,8,9,10,22,24,25],H⟩
 rintro n a w ⟨κ,dd,dp,dq,dy,b,d,H⟩
 rcases n with _|gf
 simp [M.nE] at H
 simp only [M.nE] at H
 refine qr λ_ gZ=>wp 1 [0,3,242,243,244] b λa b=>gZ _ _ (qs λ_ g0=>bc b H (λhb H=>?_) λhb H=>?_)
 refine sk (g0 _ _ (qs λ_ g1=>bk (qr λ_ g2=>wp 2 [0,3,7,242,243] b λa b=>g2 _ _ (rl (wp 3 [0,3,242,243,246,247,248] b λa b=>?_)))))
 have d:=d.add (m:=Ro.mp jG.ty none 0 ([]:List jB)) (Ro.nil jG.ty _ _)
 have d:=d.add (m:=Ro.mp (fInt .u64).ty none 0 ([]:List Int)) (Ro.nil (fInt .u64).ty _ _)
 refine bd H λfv gg H=>?_
 have eB:=d.segs 0 rfl
 refine wc (wcS 2 [0,2,1,3,4,5,6,7,8,9,10,11,12,13,14,15,16] b d (λd=>lJ N a1 dd dy (jF.mk 8 0 0 0 empty empty ([]:List jB) ([]:List Int) (jU.mk 0 0 0 0 0 empty)) (flat [si a2,si f.1,si (i64.wrap e.Id),si f.2.1,si f.2.2.1,sl c7 f.2.2.2.1.Cuts.length c8,sl da f.2.2.2.1.Nodes.length db,sl l k.length o,sl p A.length q,sl s B.length u,sb aD,sp c0,sp cX,sp cY,su an,k4d cM,ei 4 f.u4.2.2.2.1,ei 4 f.u8.1,sm cN,sm cO,sl cP f.u8.2.2.2.1.length cQ,sm cR,(1,X),sp cZ,si ao,si f.u8.u4.2.2.1,sl cS f.u8.u4.2.2.2.1.length cT,sl cU f.u8.u8.1.length cV,su f.u8.u8.2.1,sb f.u8.u8.2.2.1,sb f.u8.u8.2.2.2.1,sb f.u8.u8.u4]) dp dq Y none 0 none 0 g ((d.regr 0 [(false,1),(true,32),(false,2)] rfl).sbK [13,1,0]) gg) ?_)
 rintro _ κ w a ⟨fw,fy,rfl,h2⟩ b hB
 have d:=(hB _ _ h2).unregrK 0 [(false,1),(true,32),(false,2)] (s':=k1j a1 a2 f.1 (i64.wrap e.Id) f.2.1 f.2.2.1 c7 f.2.2.2.1 c8 da db l k.length o p A.length q s B.length u aD c0 cX cY an cM f.u4.2.2.2.1 f.u8.1 cN cO cP f.u8.2.2.2.1.length cQ cR X cZ ao f.u8.u4.2.2.1 cS f.u8.u4.2.2.2.1.length cT cU f.u8.u8.1.length cV f.u8.u8.2.1 f.u8.u8.2.2.1 f.u8.u8.2.2.2.1 f.u8.u8.u4 fw fv.length fy Y) eB rfl
 refine g1 _ _ (rl (wp 2 [0,3,242,243] b λa b=>nl ?_))
 exact ⟨gf,jb _,_,fv,fw,fy,i64.wrap (dy+1),b.kp [0,3,242,243],d.sp [0,2,1,3,4,5,6,7,8,9,10,11,12,13,14,15,16] [3,4,5,6,7,8,9,10,11,12,13,0,15,16],H⟩
 refine xt ?_
 exact ⟨_,f.1,f.2.1,f.2.2.1,f.2.2.2.1.Cuts,c7,c8,f.2.2.2.1.Nodes,da,db,c0,dU,dT.1,cX,dI,f.u4.1,cY,dJ,f.u4.2.1,cM,dK,f.u4.2.2.1,f.u4.2.2.2.1,f.u8.1,cN,dL,dM,f.u8.2.1,cO,dN,dO,f.u8.2.2.1,f.u8.2.2.2.1,cP,cQ,cR,dP,dR,f.u8.u4.1,cZ,dS,f.u8.u4.2.1,ao,f.u8.u4.2.2.1,f.u8.u4.2.2.2.1,cS,cT,f.u8.u8.1,cU,cV,f.u8.u8.2.1,f.u8.u8.2.2.1,f.u8.u8.2.2.2.1,f.u8.u8.u4,dd,dp,dq,b.kp [0,3],d.sp [0,1,3,4,5,2,6,7,8,9,10,11,12,13,14,15,16] (rg 14),H⟩
 refine qr λ_ g3=>bd H λg4 dh H=>k8 (λa w=>∃κ,Fr (476) [] [k35 g,k2u x,(6,vb (e.Cmd.DC==a1)),(251,vb g4)] a∧SS Ms κ0 w0 κ w (k1f x e aj ak al am g a1 a2 a3 (i64.wrap e.Id) a5 a6 p8 a7 c9 S T l k.length o p A.length q s B.length u aD aP az aw an j Z aa J K L G.length O P X a0 ao aL V U.length W Q I.length R ay aE aF aG D C.length F Y (ownX (fInt .i64) 3 l o k) (ownX jM 4 p q A) (ownX (fInt .i64) 3 s u B) aO aZ au aQ av aR (arrX j6 j aJ aS) ab ad ae af ah ai aW bj) (k1e p8 c9 a7 S T (ml j 4) (ml Z 4) (ml aa 4) J ab ad aT K ae af aU L O G P ah ai aV V W U Q R I D F C aj ak e al am)∧True) ?_ ?_
 refine wp 2 [0,3,6,253] b λa b=>wc (wld b d 1 8 0 λa b=>wp 2 [0,3,6,256] b λa b=>bs dh (λhb dh=>?_) λhb dh=>?_)
 have b:=b.bv 256 hb
 refine wp 1 [0,3,6,256,257] b λa b=>wcg b (wld b d 1 2 0 λa b=>wp 3 [0,3,6,251] b λa b=>nl ?_)
 cases dh
 exact ⟨_,b.kp [0,3,6,251],d.sp (ra 1 17) [0,1,2,3,4,5,6,7,8,9,10,11,13,14],ja⟩
 have b:=b.bv 256 hb
 refine wp 5 [0,3,6,251] b λa b=>nl ?_
 cases dh
 exact ⟨_,b.kp [0,3,6,251],d.sp (ra 1 17) [0,1,2,3,4,5,6,7,8,9,10,11,13,14],ja⟩
 rintro a w ⟨κ,b,d,-⟩
 refine g3 _ _ (bc b H (λhb H=>?_) λhb H=>?_)
 refine qs λ_ g5=>bd H λg6 ho H=>?_
 obtain ⟨bU,bz,d⟩:=d.optS 9 rfl ho
 rw [bz] at d
 try rw [bz] at b
 obtain ⟨⟨g7,g8⟩,d⟩:=d.unfI (ck:=jP) (fs:=jO) 9 rfl
 refine rgX d [2,3,8,9,10,11,12,13,14,15,16,17] ?_
 have d:=d.drew
 have hX:=d.px [2,3,8,9,10,11,12,13,14,15,16,17]
 refine anp [0,1,2,4,5,7,8,9] [0,3,263,266,270] b hX λa b=>atk 3 (some 264) b hX rfl (vld 1 12 0) λa b=>atk 6 (some 267) b hX rfl (vld 0 9 0) λa b=>atk 10 (some 271) b hX rfl (vld 1 3 0) λa b=>ago 11 b rfl (bd H λde gi H=>wcS 2 (rg 18) b d (λd=>zE N g6 e.Cmd.DC (i64.wrap e.Id) g7 g8 bU (d.sbK (rg 4)) gi) ?_)
 rintro _ κ w a ⟨g9,ha,rfl,h2⟩ b hB
 have d:=hB _ _ h2
 refine ⟨λ_=>(d.sx [2,3,8,9,10,11,12,13,14,15,16,17] (ra 4 18)),?_⟩
 refine kN ?_
 obtain ⟨c1,d⟩:=d.foldI (ck:=jP) (fs:=jO) bU (g9,ha) de.2 [0,1] (ra 2 16) (rg 4) dc kr kr
 refine g5 _ _ (bd H λig gj H=>?_)
 obtain ⟨hc,di⟩:=d.arrIdx 12 rfl gj
 have d:=d.add (m:=MP.const (idx j e.Cmd.DC=some hc)) di
 refine bd H λih c2 H=>kL (λa w=>∃κ dV,Fr (476) [] [k35 g,k2u x] a∧SS Ms κ0 w0 κ w [k4p x e aj ak al am,.box g 87 (k1k a1 a2 a3 (i64.wrap e.Id) a5 a6 p8 a7 c9 S T l k.length o p A.length q s B.length u aD bU az aw an (set j (toNat e.Cmd.DC) none) (set Z (toNat e.Cmd.DC) (-1)) aa J K L G.length O P X a0 ao aL V U.length W Q I.length R ay aE aF aG D C.length F Y),k45 L G.length O,k46 V U.length W,k46 Q I.length R,k3j D C.length F,.ext (ownX (fInt .i64) 3 l o k),.ext (ownX jM 4 p q A),.ext (ownX (fInt .i64) 3 s u B),k4m bU c1 de.2,k47 az au aQ,k48 aw av aR,.ext (arrX j6 (set j (toNat e.Cmd.DC) none) dV (set aS (toNat e.Cmd.DC) none)),mx J ab ad,mx K ae af,mx P ah ai,k3p a0 aW bj] (k1e p8 c9 a7 S T (ml (set j (toNat e.Cmd.DC) none) 4) (ml (set Z (toNat e.Cmd.DC) (-1)) 4) (ml aa 4) J ab ad aT K ae af aU L O G P ah ai aV V W U Q R I D F C aj ak e al am)∧True) ?_ ?_
 refine rgS d [11,15] ?_
 have d:=d.drew
 have hX:=d.fx
 refine jN [0,1,2,8,9] [0,3,275,282] (L':=[k35 g,k2u x,(275,pt x 9),(282,pt g 16)]) (listed':=(mV 16 775)) (fuel:=11) b hX kr (by intro c a w t v h; cases t<;>exact h) kr rfl λa b=>u1 [4,5,6,12,13] [0,3,275,279,282,285] b (λ_=>hX) λa b=>?_
 have b:Fr (476) _ [k35 g,k2u x,(275,pt x 9),(279,pt x 9),(282,pt g 16),(285,pt g 20)] a:=b.kp [0,3,275,279,282,285]
 refine atk 3 (some 276) b hX rfl (vld 1 9 0) λa b=>atk 10 (some 283) b (d.sx [0,1,2,7,8,9,10,11,12,13,14,15,16] (rg 23)) rfl (λw _=>lU (E:=81) (sz:=1) (n:=4) rfl rfl (i:=e.Cmd.DC) rfl (m4 di (d.get 11 rfl)) kr kr w) λa b=>H2 7 11 b rfl rfl ?_ ?_
 refine wld b d 1 9 0 λa b=>⟨λ_=>(d.sx [0,1,2,7,8,9,10,11,12,13,14,15,16] (rg 23)),?_⟩
 refine ago 11 b rfl ?_
 have d:=d.addOpt j6
 refine lK (t:=pO) (y:=none) (v := .pointer none) b d kr 3 16 (s':=k1k a1 a2 a3 (i64.wrap e.Id) a5 a6 p8 a7 c9 S T l k.length o p A.length q s B.length u aD bU az aw an (set j (toNat e.Cmd.DC) none) Z aa J K L G.length O P X a0 ao aL V U.length W Q I.length R ay aE aF aG D C.length F Y) (C':=k1l bU c1 de.2 x e aj ak al am g a1 a2 a3 (i64.wrap e.Id) a5 a6 p8 a7 c9 S T l k.length o p A.length q s B.length u aD az aw an (set j (toNat e.Cmd.DC) none) Z aa J K L G.length O P X a0 ao aL V U.length W Q I.length R ay aE aF aG D C.length F Y (ownX (fInt .i64) 3 l o k) (ownX jM 4 p q A) (ownX (fInt .i64) 3 s u B) au aQ av aR (arrX j6 j aJ aS) ab ad ae af ah ai aW bj) rfl rfl kr rfl rfl di rfl rfl kr kr kr kr λa w b d=>?_
 have d:=d.add (m:=ml (set j (toNat e.Cmd.DC) none) 4) (List.length_set.trans (d.get 11 rfl))
 obtain ⟨dj,d⟩:=d.arrSetI 0 13 [1,2,3,4,5,6,7,8,9,10,11,12,14,15,16,17] dc (toNat e.Cmd.DC) rfl rfl
 refine ⟨notE,?_⟩
 refine ago 14 b rfl (bd c2 λhd dk c2=>l7 b kr (E:=3) (sz:=1) (n:=4) rfl rfl (i:=e.Cmd.DC) rfl (m4 dk (d.get 13 rfl)) kr kr λa b=>⟨notE,?_⟩)
 refine ago 15 b rfl (lK (t:=(fInt .i64)) (y:=(-1)) (v:=vi (-1)) b d kr 3 17 (s':=k1k a1 a2 a3 (i64.wrap e.Id) a5 a6 p8 a7 c9 S T l k.length o p A.length q s B.length u aD bU az aw an (set j (toNat e.Cmd.DC) none) (set Z (toNat e.Cmd.DC) (-1)) aa J K L G.length O P X a0 ao aL V U.length W Q I.length R ay aE aF aG D C.length F Y) (C':=k1m (arrX j6 (set j (toNat e.Cmd.DC) none) dj (set aS (toNat e.Cmd.DC) none)) bU c1 de.2 x e aj ak al am g a1 a2 a3 (i64.wrap e.Id) a5 a6 p8 a7 c9 S T l k.length o p A.length q s B.length u aD az aw an (set j (toNat e.Cmd.DC) none) (set Z (toNat e.Cmd.DC) (-1)) aa J K L G.length O P X a0 ao aL V U.length W Q I.length R ay aE aF aG D C.length F Y (ownX (fInt .i64) 3 l o k) (ownX jM 4 p q A) (ownX (fInt .i64) 3 s u B) au aQ av aR ab ad ae af ah ai aW bj) rfl rfl kr rfl rfl dk rfl rfl kr kr kr kr λa w b d=>?_)
 have d:=d.add (m:=ml (set Z (toNat e.Cmd.DC) (-1)) 4) (List.length_set.trans (d.get 13 rfl))
 refine ⟨notE,?_⟩
 refine kN ?_
 cases c2
 exact ⟨_,dj,b.kp [0,3],d.sp [2,3,4,5,6,7,8,9,10,1,11,12,0,13,14,15,16] [11,12,1,0,15,16,17,18,19,20,21,22,23,24],ja⟩
 have d:=d.addOpt j6
 refine lK (t:=pO) (y:=none) (v := .pointer none) b d kr 3 16 (s':=k1k a1 a2 a3 (i64.wrap e.Id) a5 a6 p8 a7 c9 S T l k.length o p A.length q s B.length u aD bU az aw an (set j (toNat e.Cmd.DC) none) Z aa J K L G.length O P X a0 ao aL V U.length W Q I.length R ay aE aF aG D C.length F Y) (C':=k1l bU c1 de.2 x e aj ak al am g a1 a2 a3 (i64.wrap e.Id) a5 a6 p8 a7 c9 S T l k.length o p A.length q s B.length u aD az aw an (set j (toNat e.Cmd.DC) none) Z aa J K L G.length O P X a0 ao aL V U.length W Q I.length R ay aE aF aG D C.length F Y (ownX (fInt .i64) 3 l o k) (ownX jM 4 p q A) (ownX (fInt .i64) 3 s u B) au aQ av aR (arrX j6 j aJ aS) ab ad ae af ah ai aW bj) rfl rfl kr rfl rfl di rfl rfl kr kr kr kr λa w b d=>?_
 have d:=d.add (m:=ml (set j (toNat e.Cmd.DC) none) 4) (List.length_set.trans (d.get 11 rfl))
 obtain ⟨dj,d⟩:=d.arrSetI 0 13 [1,2,3,4,5,6,7,8,9,10,11,12,14,15,16,17] dc (toNat e.Cmd.DC) rfl rfl
 refine ⟨notE,?_⟩
 refine ago 7 b rfl (wld b d 2 9 0 λa b=>⟨notE,?_⟩)
 refine ago 14 b rfl (bd c2 λhd dk c2=>l7 b kr (E:=3) (sz:=1) (n:=4) rfl rfl (i:=e.Cmd.DC) rfl (m4 dk (d.get 13 rfl)) kr kr λa b=>⟨notE,?_⟩)
 refine ago 15 b rfl (lK (t:=(fInt .i64)) (y:=(-1)) (v:=vi (-1)) b d kr 3 17 (s':=k1k a1 a2 a3 (i64.wrap e.Id) a5 a6 p8 a7 c9 S T l k.length o p A.length q s B.length u aD bU az aw an (set j (toNat e.Cmd.DC) none) (set Z (toNat e.Cmd.DC) (-1)) aa J K L G.length O P X a0 ao aL V U.length W Q I.length R ay aE aF aG D C.length F Y) (C':=k1m (arrX j6 (set j (toNat e.Cmd.DC) none) dj (set aS (toNat e.Cmd.DC) none)) bU c1 de.2 x e aj ak al am g a1 a2 a3 (i64.wrap e.Id) a5 a6 p8 a7 c9 S T l k.length o p A.length q s B.length u aD az aw an (set j (toNat e.Cmd.DC) none) (set Z (toNat e.Cmd.DC) (-1)) aa J K L G.length O P X a0 ao aL V U.length W Q I.length R ay aE aF aG D C.length F Y (ownX (fInt .i64) 3 l o k) (ownX jM 4 p q A) (ownX (fInt .i64) 3 s u B) au aQ av aR ab ad ae af ah ai aW bj) rfl rfl kr rfl rfl dk rfl rfl kr kr kr kr λa w b d=>?_)
 have d:=d.add (m:=ml (set Z (toNat e.Cmd.DC) (-1)) 4) (List.length_set.trans (d.get 13 rfl))
 refine ⟨notE,?_⟩
 refine kN ?_
 cases c2
 exact ⟨_,dj,b.kp [0,3],d.sp [2,3,4,5,6,7,8,9,10,1,11,12,0,13,14,15,16] [11,12,1,0,15,16,17,18,19,20,21,22,23,24],ja⟩
 rintro a w ⟨κ,dV,b,d,-⟩
 exact ⟨_,a3,a5,a6,a7.Cuts,p8,c9,a7.Nodes,S,T,(some bU),c1,(some de.2),az,au,aQ,aw,av,aR,(set j (toNat e.Cmd.DC) none),dV,(set aS (toNat e.Cmd.DC) none),(set Z (toNat e.Cmd.DC) (-1)),aa,J,ab,ad,aT,K,ae,af,aU,G,L,O,P,ah,ai,aV,a0,aW,bj,ao,aL,U,V,W,I,Q,R,ay,aE,aF,aG,C,D,F,b.kp [0,3],d.sp [1,0,2,3,4,5,6,7,8,9,10,11,12,13,14,15,16] (rg 14),H⟩
 refine qs λ_ he=>bd H λem cd H=>kL (λa w=>∃κ dz dl,Fr (476) [] [k35 g,k2u x,(6,vb (e.Cmd.DC==a1)),(287,vb em.2)] a∧SS Ms κ0 w0 κ w (k1f x e aj ak al am g a1 a2 a3 (i64.wrap e.Id) a5 a6 p8 a7 c9 S T l k.length o p A.length q s B.length u aD aP az aw an j Z aa J K L G.length O P X dz ao aL V U.length W Q I.length R ay aE aF aG D C.length F Y (ownX (fInt .i64) 3 l o k) (ownX jM 4 p q A) (ownX (fInt .i64) 3 s u B) aO aZ au aQ av aR (arrX j6 j aJ aS) ab ad ae af ah ai dl em.1) (k1e p8 c9 a7 S T (ml j 4) (ml Z 4) (ml aa 4) J ab ad aT K ae af aU L O G P ah ai aV V W U Q R I D F C aj ak e al am)∧True) ?_ ?_
 refine kY cd (λho cd=>?_) (λhf ho cd=>?_)
 obtain ⟨bz,d⟩:=d.optN 16 rfl ho
 rw [bz] at d
 try rw [bz] at b
 refine rl (bd cd λhg ce cd=>k8 (λa w=>∃κ,Fr (476) [] [k35 g,k2u x,(6,vb (e.Cmd.DC==a1)),(287,vb hg)] a∧SS Ms κ0 w0 κ w (k1n x e aj ak al am g a1 a2 a3 (i64.wrap e.Id) a5 a6 p8 a7 c9 S T l k.length o p A.length q s B.length u aD aP az aw an j Z aa J K L G.length O P X ao aL V U.length W Q I.length R ay aE aF aG D C.length F Y (ownX (fInt .i64) 3 l o k) (ownX jM 4 p q A) (ownX (fInt .i64) 3 s u B) aO aZ au aQ av aR (arrX j6 j aJ aS) ab ad ae af ah ai) (k1e p8 c9 a7 S T (ml j 4) (ml Z 4) (ml aa 4) J ab ad aT K ae af aU L O G P ah ai aV V W U Q R I D F C aj ak e al am)∧True) ?_ ?_)
 refine wp 2 [0,3,6,289] b λa b=>wc (wld b d 0 8 0 λa b=>wp 2 [0,3,6,292] b λa b=>bs ce (λhb ce=>?_) λhb ce=>?_)
 have b:=b.bv 292 hb
 refine wp 3 [0,3,6,295] b λa b=>bs ce (λhb ce=>?_) λhb ce=>?_
 have b:=b.bv 295 hb
 refine wp 3 [0,3,6,295,298] b λa b=>wcg b (wld b d 1 24 0 λa b=>wp 3 [0,3,6,287] b λa b=>nl ?_)
 cases ce
 exact ⟨_,b.kp [0,3,6,287],d.sp (rg 16) (rg 14),ja⟩
 have b:=b.bv 295 hb
 refine wp 7 [0,3,6,287] b λa b=>nl ?_
 cases ce
 exact ⟨_,b.kp [0,3,6,287],d.sp (rg 16) (rg 14),ja⟩
 have b:=b.bv 292 hb
 refine wp 10 [0,3,6,287] b λa b=>nl ?_
 cases ce
 exact ⟨_,b.kp [0,3,6,287],d.sp (rg 16) (rg 14),ja⟩
 rintro a w ⟨κ,b,d,-⟩
 cases cd
 have d:=d.addOpt o_gate_move
 exact ⟨_,none,[],b.kp [0,3,6,287],d.sp [1,2,3,4,5,6,7,8,9,10,11,12,13,14,15,16,0] (rg 14),ja⟩
 obtain ⟨fz,bz,d⟩:=d.optS 16 rfl ho
 rw [bz] at d
 try rw [bz] at b
 refine rl (bd cd λii cg cd=>k8 (λa w=>∃κ,Fr (476) [] [k35 g,k2u x,(6,vb (e.Cmd.DC==a1)),(287,vb false)] a∧SS Ms κ0 w0 κ w (k1o x e aj ak al am g a1 a2 a3 (i64.wrap e.Id) a5 a6 p8 a7 c9 S T l k.length o p A.length q s B.length u aD aP az aw an j Z aa J K L G.length O P X fz ao aL V U.length W Q I.length R ay aE aF aG D C.length F Y (ownX (fInt .i64) 3 l o k) (ownX jM 4 p q A) (ownX (fInt .i64) 3 s u B) aO aZ au aQ av aR (arrX j6 j aJ aS) ab ad ae af ah ai aW hf) (k1e p8 c9 a7 S T (ml j 4) (ml Z 4) (ml aa 4) J ab ad aT K ae af aU L O G P ah ai aV V W U Q R I D F C aj ak e al am)∧True) ?_ ?_)
 refine wp 2 [0,3,6,289] b λa b=>wc (wld b d 0 8 0 λa b=>wp 2 [0,3,6,292] b λa b=>bs cg (λhb cg=>?_) λhb cg=>?_)
 have b:=b.bv 292 hb
 refine wp 3 [0,3,6,295] b λa b=>bs cg (λhb cg=>?_) λhb cg=>?_
 have b:=b.bv 295 hb
 refine wp 3 [0,3,6,295,298] b λa b=>wcg b (wld b d 1 24 0 λa b=>wp 3 [0,3,6,287] b λa b=>nl ?_)
 cases cg
 exact ⟨_,b.kp [0,3,6,287],d.sp (rg 17) (rg 14),ja⟩
 have b:=b.bv 295 hb
 refine wp 7 [0,3,6,287] b λa b=>nl ?_
 cases cg
 exact ⟨_,b.kp [0,3,6,287],d.sp (rg 17) (rg 14),ja⟩
 have b:=b.bv 292 hb
 refine wp 10 [0,3,6,287] b λa b=>nl ?_
 cases cg
 exact ⟨_,b.kp [0,3,6,287],d.sp (rg 17) (rg 14),ja⟩
 rintro a w ⟨κ,b,d,-⟩
 cases cd
 exact ⟨_,(some fz),aW,b.kp [0,3,6,287],d.sp (rg 17) (rg 14),ja⟩
 rintro a w ⟨κ,dz,dl,b,d,-⟩
 refine he _ _ (bc b H (λhb H=>?_) λhb H=>?_)
 refine rga (λ_=>True) [] ?_
 have d:=d.drew
 refine anp [0,1,2,3,5,6,7,9,10,12,13] [0,3,302,305,309,312,315] b ja λa b=>mI d [18] (atk 4 (some 306) b (d.sx [0,1,6,7,8,9,10,11,12,13,14,15,16] (rg 14)) rfl (vls 1 6 2) λa b=>atk 8 (some 310) b (d.sx [0,1,6,7,8,9,10,11,12,13,14,15,16] (rg 14)) rfl (vld 1 1 0) λa b=>atk 11 (some 313) b (d.sx [0,1,6,7,8,9,10,11,12,13,14,15,16] (rg 14)) rfl (vld 0 10 0) λa b=>atk 14 (some 316) b (d.sx [0,1,6,7,8,9,10,11,12,13,14,15,16] (rg 14)) rfl (vld 0 13 0) λa b=>?_)
 refine ago 15 b rfl (bd H λfA gk H=>jR b d kr kr (E1 N d.fresh a7 a2 e.Cmd.Shard e.Cmd.Key p8 c9 S T ((d.pick [0,1] kr).ro) gk) ?_)
 rintro _ κ w a ⟨hh,hi,hj,hk,rfl,hR,hN⟩ b d hO
 have d:=d.adds hR
 have d:=d.addC hO hN
 refine ⟨λ_=>(d.sx [2,3,8,9,10,11,12,13,14,15,16,17,18] (ra 2 14)),?_⟩
 refine anp [16,17] [0,3,302,318,319] b (d.sx [2,3,8,9,10,11,12,13,14,15,16,17,18] (ra 2 14)) λa b=>ago 18 b rfl (bd H λeo gl H=>?_)
 have eC:=d.segs 3 rfl
 refine wcS 1 [3,0,1,2,4,5,6,7,8,9,10,11,12,13,14,15,16,17,18] b d (λd=>xB N a7 fA.1 fA.2 (flat [si a1,si a2,si a3,si (i64.wrap e.Id),si a5,si a6]) p8 c9 S T (flat [sl l k.length o,sl p A.length q,sl s B.length u,sb aD,sp aP,sp az,sp aw,su an,k4d j,ei 4 Z,ei 4 aa,sm J,sm K,sl L G.length O,sm P,(1,X),sp dz,si ao,si aL,sl V U.length W,sl Q I.length R,su ay,sb aE,sb aF,sb aG,sl D C.length F,(1,Y)]) hh hi hj hk g ((d.regr 0 [(true,6),(false,2),(true,27)] rfl).sbK [2,3,0,1]) gl) ?_
 rintro _ κ w a ⟨fB,fC,fD,fE,rfl,h2⟩ b hB
 have d:=(hB _ _ h2).unregrK 0 [(true,6),(false,2),(true,27)] (s':=k1j a1 a2 a3 (i64.wrap e.Id) a5 a6 fB eo fC fD fE l k.length o p A.length q s B.length u aD aP az aw an j Z aa J K L G.length O P X dz ao aL V U.length W Q I.length R ay aE aF aG D C.length F Y) eC rfl
 refine ⟨notE,?_⟩
 refine kN ?_
 exact ⟨_,a3,a5,a6,eo.Cuts,fB,fC,eo.Nodes,fD,fE,aP,aO,aZ,az,au,aQ,aw,av,aR,j,aJ,aS,Z,aa,J,ab,ad,aT,K,ae,af,aU,G,L,O,P,ah,ai,aV,dz,dl,em.1,ao,aL,U,V,W,I,Q,R,ay,aE,aF,aG,C,D,F,b.kp [0,3],d.sp [0,3,4,5,6,7,8,9,10,11,12,13,14,15,16,17,18] [0,1,6,7,8,9,10,11,12,13,14,15,16,17],H⟩
 refine qs λ_ hl=>bd H λep ch H=>kL (λa w=>∃κ dA dm,Fr (476) [] [k35 g,k2u x,(6,vb (e.Cmd.DC==a1)),(321,vb ep.2)] a∧SS Ms κ0 w0 κ w (k1f x e aj ak al am g a1 a2 a3 (i64.wrap e.Id) a5 a6 p8 a7 c9 S T l k.length o p A.length q s B.length u aD aP az aw an j Z aa J K L G.length O P X dA ao aL V U.length W Q I.length R ay aE aF aG D C.length F Y (ownX (fInt .i64) 3 l o k) (ownX jM 4 p q A) (ownX (fInt .i64) 3 s u B) aO aZ au aQ av aR (arrX j6 j aJ aS) ab ad ae af ah ai dm ep.1) (k1e p8 c9 a7 S T (ml j 4) (ml Z 4) (ml aa 4) J ab ad aT K ae af aU L O G P ah ai aV V W U Q R I D F C aj ak e al am)∧True) ?_ ?_
 refine kY ch (λho ch=>?_) (λhm ho ch=>?_)
 obtain ⟨bz,d⟩:=d.optN 16 rfl ho
 rw [bz] at d
 try rw [bz] at b
 refine rl (bd ch λhn ci ch=>k8 (λa w=>∃κ,Fr (476) [] [k35 g,k2u x,(6,vb (e.Cmd.DC==a1)),(321,vb hn)] a∧SS Ms κ0 w0 κ w (k1n x e aj ak al am g a1 a2 a3 (i64.wrap e.Id) a5 a6 p8 a7 c9 S T l k.length o p A.length q s B.length u aD aP az aw an j Z aa J K L G.length O P X ao aL V U.length W Q I.length R ay aE aF aG D C.length F Y (ownX (fInt .i64) 3 l o k) (ownX jM 4 p q A) (ownX (fInt .i64) 3 s u B) aO aZ au aQ av aR (arrX j6 j aJ aS) ab ad ae af ah ai) (k1e p8 c9 a7 S T (ml j 4) (ml Z 4) (ml aa 4) J ab ad aT K ae af aU L O G P ah ai aV V W U Q R I D F C aj ak e al am)∧True) ?_ ?_)
 refine wp 2 [0,3,6,323] b λa b=>wc (wld b d 0 8 0 λa b=>wp 2 [0,3,6,326] b λa b=>bs ci (λhb ci=>?_) λhb ci=>?_)
 have b:=b.bv 326 hb
 refine wp 3 [0,3,6,329] b λa b=>bs ci (λhb ci=>?_) λhb ci=>?_
 have b:=b.bv 329 hb
 refine wp 3 [0,3,6,329,332] b λa b=>wcg b (wld b d 1 24 0 λa b=>wp 3 [0,3,6,321] b λa b=>nl ?_)
 cases ci
 exact ⟨_,b.kp [0,3,6,321],d.sp (rg 16) (rg 14),ja⟩
 have b:=b.bv 329 hb
 refine wp 7 [0,3,6,321] b λa b=>nl ?_
 cases ci
 exact ⟨_,b.kp [0,3,6,321],d.sp (rg 16) (rg 14),ja⟩
 have b:=b.bv 326 hb
 refine wp 10 [0,3,6,321] b λa b=>nl ?_
 cases ci
 exact ⟨_,b.kp [0,3,6,321],d.sp (rg 16) (rg 14),ja⟩
 rintro a w ⟨κ,b,d,-⟩
 cases ch
 have d:=d.addOpt o_gate_move
 exact ⟨_,none,[],b.kp [0,3,6,321],d.sp [1,2,3,4,5,6,7,8,9,10,11,12,13,14,15,16,0] (rg 14),ja⟩
 obtain ⟨fF,bz,d⟩:=d.optS 16 rfl ho
 rw [bz] at d
 try rw [bz] at b
 refine rl (bd ch λij cj ch=>k8 (λa w=>∃κ,Fr (476) [] [k35 g,k2u x,(6,vb (e.Cmd.DC==a1)),(321,vb false)] a∧SS Ms κ0 w0 κ w (k1o x e aj ak al am g a1 a2 a3 (i64.wrap e.Id) a5 a6 p8 a7 c9 S T l k.length o p A.length q s B.length u aD aP az aw an j Z aa J K L G.length O P X fF ao aL V U.length W Q I.length R ay aE aF aG D C.length F Y (ownX (fInt .i64) 3 l o k) (ownX jM 4 p q A) (ownX (fInt .i64) 3 s u B) aO aZ au aQ av aR (arrX j6 j aJ aS) ab ad ae af ah ai dl hm) (k1e p8 c9 a7 S T (ml j 4) (ml Z 4) (ml aa 4) J ab ad aT K ae af aU L O G P ah ai aV V W U Q R I D F C aj ak e al am)∧True) ?_ ?_)
 refine wp 2 [0,3,6,323] b λa b=>wc (wld b d 0 8 0 λa b=>wp 2 [0,3,6,326] b λa b=>bs cj (λhb cj=>?_) λhb cj=>?_)
 have b:=b.bv 326 hb
 refine wp 3 [0,3,6,329] b λa b=>bs cj (λhb cj=>?_) λhb cj=>?_
 have b:=b.bv 329 hb
 refine wp 3 [0,3,6,329,332] b λa b=>wcg b (wld b d 1 24 0 λa b=>wp 3 [0,3,6,321] b λa b=>nl ?_)
 cases cj
 exact ⟨_,b.kp [0,3,6,321],d.sp (rg 17) (rg 14),ja⟩
 have b:=b.bv 329 hb
 refine wp 7 [0,3,6,321] b λa b=>nl ?_
 cases cj
 exact ⟨_,b.kp [0,3,6,321],d.sp (rg 17) (rg 14),ja⟩
 have b:=b.bv 326 hb
 refine wp 10 [0,3,6,321] b λa b=>nl ?_
 cases cj
 exact ⟨_,b.kp [0,3,6,321],d.sp (rg 17) (rg 14),ja⟩
 rintro a w ⟨κ,b,d,-⟩
 cases ch
 exact ⟨_,(some fF),dl,b.kp [0,3,6,321],d.sp (rg 17) (rg 14),ja⟩
 rintro a w ⟨κ,dA,dm,b,d,-⟩
 refine hl _ _ (bc b H (λhb H=>?_) λhb H=>?_)
 refine rga (λ_=>True) [] ?_
 have d:=d.drew
 refine anp [0,1,2,3,5,6,7,9,10] [0,3,336,339,343,346] b ja λa b=>mI d [15] (atk 4 (some 340) b (d.sx [0,1,6,7,8,9,10,11,12,13,14,15,16] (rg 14)) rfl (vls 1 6 2) λa b=>atk 8 (some 344) b (d.sx [0,1,6,7,8,9,10,11,12,13,14,15,16] (rg 14)) rfl (vld 1 1 0) λa b=>atk 11 (some 347) b (d.sx [0,1,6,7,8,9,10,11,12,13,14,15,16] (rg 14)) rfl (vld 0 10 0) λa b=>ago 12 b rfl (bd H λfG gm H=>jR b d kr kr (E2 N d.fresh a7 a2 e.Cmd.Shard p8 c9 S T ((d.pick [0,1] kr).ro) gm) ?_))
 rintro _ κ w a ⟨hp,hq,hr,hs,rfl,hR,hN⟩ b d hO
 have d:=d.adds hR
 have d:=d.addC hO hN
 refine ⟨λ_=>(d.sx [2,3,8,9,10,11,12,13,14,15,16,17,18] (ra 2 14)),?_⟩
 refine anp [13,14] [0,3,336,349,350] b (d.sx [2,3,8,9,10,11,12,13,14,15,16,17,18] (ra 2 14)) λa b=>ago 15 b rfl (bd H λeq gn H=>?_)
 have eD:=d.segs 3 rfl
 refine wcS 1 [3,0,1,2,4,5,6,7,8,9,10,11,12,13,14,15,16,17,18] b d (λd=>xB N a7 fG.1 fG.2 (flat [si a1,si a2,si a3,si (i64.wrap e.Id),si a5,si a6]) p8 c9 S T (flat [sl l k.length o,sl p A.length q,sl s B.length u,sb aD,sp aP,sp az,sp aw,su an,k4d j,ei 4 Z,ei 4 aa,sm J,sm K,sl L G.length O,sm P,(1,X),sp dA,si ao,si aL,sl V U.length W,sl Q I.length R,su ay,sb aE,sb aF,sb aG,sl D C.length F,(1,Y)]) hp hq hr hs g ((d.regr 0 [(true,6),(false,2),(true,27)] rfl).sbK [2,3,0,1]) gn) ?_
 rintro _ κ w a ⟨fH,fI,fJ,fK,rfl,h2⟩ b hB
 have d:=(hB _ _ h2).unregrK 0 [(true,6),(false,2),(true,27)] (s':=k1j a1 a2 a3 (i64.wrap e.Id) a5 a6 fH eq fI fJ fK l k.length o p A.length q s B.length u aD aP az aw an j Z aa J K L G.length O P X dA ao aL V U.length W Q I.length R ay aE aF aG D C.length F Y) eD rfl
 refine ⟨notE,?_⟩
 refine kN ?_
 exact ⟨_,a3,a5,a6,eq.Cuts,fH,fI,eq.Nodes,fJ,fK,aP,aO,aZ,az,au,aQ,aw,av,aR,j,aJ,aS,Z,aa,J,ab,ad,aT,K,ae,af,aU,G,L,O,P,ah,ai,aV,dA,dm,ep.1,ao,aL,U,V,W,I,Q,R,ay,aE,aF,aG,C,D,F,b.kp [0,3],d.sp [0,3,4,5,6,7,8,9,10,11,12,13,14,15,16,17,18] [0,1,6,7,8,9,10,11,12,13,14,15,16,17],H⟩
 refine qs λ_ ht=>bd H λdr cl H=>kL (λa w=>∃κ df c3,Fr (476) [] [k35 g,k2u x,(352,vb dr.2)] a∧SS Ms κ0 w0 κ w (k1f x e aj ak al am g a1 a2 a3 (i64.wrap e.Id) a5 a6 p8 a7 c9 S T l k.length o p A.length q s B.length u aD aP az aw an j Z aa J K L G.length O P X df ao aL V U.length W Q I.length R ay aE aF aG D C.length F Y (ownX (fInt .i64) 3 l o k) (ownX jM 4 p q A) (ownX (fInt .i64) 3 s u B) aO aZ au aQ av aR (arrX j6 j aJ aS) ab ad ae af ah ai c3 dr.1) (k1e p8 c9 a7 S T (ml j 4) (ml Z 4) (ml aa 4) J ab ad aT K ae af aU L O G P ah ai aV V W U Q R I D F C aj ak e al am)∧True) ?_ ?_
 refine kY cl (λho cl=>?_) (λhu ho cl=>?_)
 obtain ⟨bz,d⟩:=d.optN 16 rfl ho
 rw [bz] at d
 try rw [bz] at b
 refine rl (bd cl λhv cm cl=>k8 (λa w=>∃κ,Fr (476) [] [k35 g,k2u x,(352,vb hv)] a∧SS Ms κ0 w0 κ w (k1n x e aj ak al am g a1 a2 a3 (i64.wrap e.Id) a5 a6 p8 a7 c9 S T l k.length o p A.length q s B.length u aD aP az aw an j Z aa J K L G.length O P X ao aL V U.length W Q I.length R ay aE aF aG D C.length F Y (ownX (fInt .i64) 3 l o k) (ownX jM 4 p q A) (ownX (fInt .i64) 3 s u B) aO aZ au aQ av aR (arrX j6 j aJ aS) ab ad ae af ah ai) (k1e p8 c9 a7 S T (ml j 4) (ml Z 4) (ml aa 4) J ab ad aT K ae af aU L O G P ah ai aV V W U Q R I D F C aj ak e al am)∧True) ?_ ?_)
 refine wp 2 [0,3,6,354] b λa b=>wc (wld b d 0 8 0 λa b=>wp 2 [0,3,6,357] b λa b=>bs cm (λhb cm=>?_) λhb cm=>?_)
 have b:=b.bv 357 hb
 refine wp 3 [0,3,360] b λa b=>bs cm (λhb cm=>?_) λhb cm=>?_
 have b:=b.bv 360 hb
 refine wp 3 [0,3,360,363] b λa b=>wcg b (wld b d 1 24 0 λa b=>wp 3 [0,3,352] b λa b=>nl ?_)
 cases cm
 exact ⟨_,b.kp [0,3,352],d.sp (rg 16) (rg 14),ja⟩
 have b:=b.bv 360 hb
 refine wp 7 [0,3,352] b λa b=>nl ?_
 cases cm
 exact ⟨_,b.kp [0,3,352],d.sp (rg 16) (rg 14),ja⟩
 have b:=b.bv 357 hb
 refine wp 10 [0,3,352] b λa b=>nl ?_
 cases cm
 exact ⟨_,b.kp [0,3,352],d.sp (rg 16) (rg 14),ja⟩
 rintro a w ⟨κ,b,d,-⟩
 cases cl
 have d:=d.addOpt o_gate_move
 exact ⟨_,none,[],b.kp [0,3,352],d.sp [1,2,3,4,5,6,7,8,9,10,11,12,13,14,15,16,0] (rg 14),ja⟩
 obtain ⟨fL,bz,d⟩:=d.optS 16 rfl ho
 rw [bz] at d
 try rw [bz] at b
 refine rl (bd cl λik cn cl=>k8 (λa w=>∃κ,Fr (476) [] [k35 g,k2u x,(352,vb false)] a∧SS Ms κ0 w0 κ w (k1o x e aj ak al am g a1 a2 a3 (i64.wrap e.Id) a5 a6 p8 a7 c9 S T l k.length o p A.length q s B.length u aD aP az aw an j Z aa J K L G.length O P X fL ao aL V U.length W Q I.length R ay aE aF aG D C.length F Y (ownX (fInt .i64) 3 l o k) (ownX jM 4 p q A) (ownX (fInt .i64) 3 s u B) aO aZ au aQ av aR (arrX j6 j aJ aS) ab ad ae af ah ai dm hu) (k1e p8 c9 a7 S T (ml j 4) (ml Z 4) (ml aa 4) J ab ad aT K ae af aU L O G P ah ai aV V W U Q R I D F C aj ak e al am)∧True) ?_ ?_)
 refine wp 2 [0,3,6,354] b λa b=>wc (wld b d 0 8 0 λa b=>wp 2 [0,3,6,357] b λa b=>bs cn (λhb cn=>?_) λhb cn=>?_)
 have b:=b.bv 357 hb
 refine wp 3 [0,3,360] b λa b=>bs cn (λhb cn=>?_) λhb cn=>?_
 have b:=b.bv 360 hb
 refine wp 3 [0,3,360,363] b λa b=>wcg b (wld b d 1 24 0 λa b=>wp 3 [0,3,352] b λa b=>nl ?_)
 cases cn
 exact ⟨_,b.kp [0,3,352],d.sp (rg 17) (rg 14),ja⟩
 have b:=b.bv 360 hb
 refine wp 7 [0,3,352] b λa b=>nl ?_
 cases cn
 exact ⟨_,b.kp [0,3,352],d.sp (rg 17) (rg 14),ja⟩
 have b:=b.bv 357 hb
 refine wp 10 [0,3,352] b λa b=>nl ?_
 cases cn
 exact ⟨_,b.kp [0,3,352],d.sp (rg 17) (rg 14),ja⟩
 rintro a w ⟨κ,b,d,-⟩
 cases cl
 exact ⟨_,(some fL),dm,b.kp [0,3,352],d.sp (rg 17) (rg 14),ja⟩
 rintro a w ⟨κ,df,c3,b,d,-⟩
 refine ht _ _ (bc b H (λhb H=>?_) λhb H=>?_)
 refine qs λ_ hw=>bd H λhx du H=>kL (λa w=>∃κ,Fr (476) [] [k35 g,k2u x,(9,vi hx)] a∧SS Ms κ0 w0 κ w (k1f x e aj ak al am g a1 a2 a3 (i64.wrap e.Id) a5 a6 p8 a7 c9 S T l k.length o p A.length q s B.length u aD aP az aw an j Z aa J K L G.length O P X df ao aL V U.length W Q I.length R ay aE aF aG D C.length F Y (ownX (fInt .i64) 3 l o k) (ownX jM 4 p q A) (ownX (fInt .i64) 3 s u B) aO aZ au aQ av aR (arrX j6 j aJ aS) ab ad ae af ah ai c3 dr.1) (k1e p8 c9 a7 S T (ml j 4) (ml Z 4) (ml aa 4) J ab ad aT K ae af aU L O G P ah ai aV V W U Q R I D F C aj ak e al am)∧True) ?_ ?_
 refine rgS d [19] ?_
 have d:=d.drew
 have hX:=d.fx
 refine bd du λcI ew du=>anp [0,1,2,4,5,6,8,9,11,12] [0,3,370,374,377,380] b hX λa b=>atk 3 (some 371) b hX rfl (vls 1 6 2) λa b=>atk 7 (some 375) b hX rfl (vld 1 1 0) λa b=>atk 10 (some 378) b hX rfl (vld 0 10 0) λa b=>atk 13 (some 381) b hX rfl (vld 0 11 0) λa b=>H2 14 18 b rfl rfl ?_ ?_
 refine jR b d kr kr (y8 N d.fresh a7 a2 e.Cmd.Shard e.Cmd.Node p8 c9 S T ((d.pick [0,1] kr).ro) ew) ?_
 rintro _ κ w a ⟨dB,dC,dD,dE,rfl,hR,hN⟩ b d hO
 have d:=d.adds hR
 have d:=d.addC hO hN
 refine ⟨λ_=>(d.sx [2,3,8,9,10,11,12,13,14,15,16,17,18] (ra 2 14)),?_⟩
 refine anp [15,16] [0,3,367,383] b (d.sx [2,3,8,9,10,11,12,13,14,15,16,17,18] (ra 2 14)) λa b=>u1 [17] [0,3,383,384] b (λ_=>d.sx [2,3,8,9,10,11,12,13,14,15,16,17,18] (ra 2 14)) λa b=>?_
 have b:Fr (476) _ [k35 g,k2u x,(383,.agg (flat [sl dB cI.1.Cuts.length dC,sl dD cI.1.Nodes.length dE]).toArray),(384,vi cI.2)] a:=b.kp [0,3,383,384]
 refine ago 18 b rfl (wal b d k08 (sgN 2 jD) λfM a w b d=>⟨λ_=>(d.sx [3,4,9,10,11,12,13,14,15,16,17,18,19] (ra 2 14)),?_⟩)
 refine ago 19 b rfl (wst b d 0 0 2 (k07 dB cI.1 dC dD dE) (sgN 2 jD) λa w b d=>⟨notE,?_⟩)
 refine u1 [20] [0,3,9] b notE λa b=>?_
 have b:Fr (476) _ [k35 g,k2u x,(9,vi cI.2)] a:=b.kp [0,3,9]
 refine kN ?_
 cases du
 exact ⟨_,b.kp [0,3,9],d.sp (ra 3 17) (ra 2 14),ja⟩
 refine wal b d k08 (sgN 2 jD) λfM a w b d=>⟨λ_=>(d.sx [1,2,7,8,9,10,11,12,13,14,15,16,17] (rg 14)),?_⟩
 refine ago 14 b rfl (jR b d kr kr (y8 N d.fresh a7 a2 e.Cmd.Shard e.Cmd.Node p8 c9 S T ((d.pick [0,1] kr).ro) ew) ?_)
 rintro _ κ w a ⟨dB,dC,dD,dE,rfl,hR,hN⟩ b d hO
 have d:=d.adds hR
 have d:=d.addC hO hN
 refine ⟨λ_=>(d.sx [3,4,9,10,11,12,13,14,15,16,17,18,19] (ra 2 14)),?_⟩
 refine anp [15,16] [0,3,8,367,383] b (d.sx [3,4,9,10,11,12,13,14,15,16,17,18,19] (ra 2 14)) λa b=>u1 [17] [0,3,8,383,384] b (λ_=>d.sx [3,4,9,10,11,12,13,14,15,16,17,18,19] (ra 2 14)) λa b=>?_
 have b:Fr (476) _ [k35 g,k2u x,k3f fM,(383,.agg (flat [sl dB cI.1.Cuts.length dC,sl dD cI.1.Nodes.length dE]).toArray),(384,vi cI.2)] a:=b.kp [0,3,8,383,384]
 refine ago 19 b rfl (wst b d 2 0 2 (k07 dB cI.1 dC dD dE) (sgN 2 jD) λa w b d=>⟨notE,?_⟩)
 refine u1 [20] [0,3,9] b notE λa b=>?_
 have b:Fr (476) _ [k35 g,k2u x,(9,vi cI.2)] a:=b.kp [0,3,9]
 refine kN ?_
 cases du
 exact ⟨_,b.kp [0,3,9],d.sp (ra 3 17) (ra 2 14),ja⟩
 rintro a w ⟨κ,b,d,-⟩
 refine hw _ _ (qr λ_ hy=>wp 2 [0,3,386] b λa b=>hy _ _ (bc b H (λhb H=>?_) λhb H=>?_))
 refine qs λ_ hz=>bd H λb8 dv H=>kL (λa w=>∃κ er,Fr (476) [] [k35 g,k2u x,(10,pt er 0)] a∧SS Ms κ0 w0 κ w [k4p x e aj ak al am,k4o g a1 a2 a3 (i64.wrap e.Id) a5 a6 p8 a7 c9 S T l k.length o p A.length q s B.length u aD aP az aw an j Z aa J K L G.length O P X df ao aL V U.length W Q I.length R ay aE aF aG D C.length F Y,.box er 128 [sg b8.1,sg b8.2.1,si b8.2.2],k45 L G.length O,k46 V U.length W,k46 Q I.length R,k3j D C.length F,.ext (ownX (fInt .i64) 3 l o k),.ext (ownX jM 4 p q A),.ext (ownX (fInt .i64) 3 s u B),k31 aP aO aZ,k47 az au aQ,k48 aw av aR,.ext (arrX j6 j aJ aS),mx J ab ad,mx K ae af,mx P ah ai,k3p df c3 dr.1] (k1e p8 c9 a7 S T (ml j 4) (ml Z 4) (ml aa 4) J ab ad aT K ae af aU L O G P ah ai aV V W U Q R I D F C aj ak e al am)∧True) ?_ ?_
 refine rgS d [12] ?_
 have d:=d.drew
 have hX:=d.fx
 refine bd dv λcJ ex dv=>anp [0,1,2,4,5] [0,3,390,393] b hX λa b=>atk 3 (some 391) b hX rfl (vls 1 6 2) λa b=>atk 6 (some 394) b hX rfl (vld 0 10 0) λa b=>H2 7 11 b rfl rfl ?_ ?_
 refine jR b d kr kr (AO N d.fresh a7 e.Cmd.Shard p8 c9 S T ((d.pick [0,1] kr).ro) ex) ?_
 rintro _ κ w a ⟨rfl,hR,hN⟩ b d hO
 refine ⟨λ_=>(d.sx [0,1,6,7,8,9,10,11,12,13,14,15,16] (rg 14)),?_⟩
 refine anp [8,9] [0,3,387,396] b (d.sx [0,1,6,7,8,9,10,11,12,13,14,15,16] (rg 14)) λa b=>u1 [10] [0,3,396,397] b (λ_=>d.sx [0,1,6,7,8,9,10,11,12,13,14,15,16] (rg 14)) λa b=>?_
 have b:Fr (476) _ [k35 g,k2u x,(396,.agg (flat [sg cJ.1.Lo,sg cJ.1.Hi,si cJ.1.Node]).toArray),(397,vb cJ.2)] a:=b.kp [0,3,396,397]
 refine ago 11 b rfl (wal b d (k0b empty) (sgN 3 jD) λds a w b d=>⟨λ_=>(d.sx [1,2,7,8,9,10,11,12,13,14,15,16,17] (rg 14)),?_⟩)
 refine ago 12 b rfl (wst b d 0 0 3 (k09 cJ.1) (sgN 3 jD) λa w b d=>⟨notE,?_⟩)
 refine u1 [13] [0,3,10] b notE λa b=>?_
 have b:Fr (476) _ [k35 g,k2u x,(10,pt ds 0)] a:=b.kp [0,3,10]
 refine kN ?_
 cases dv
 exact ⟨_,ds,b.kp [0,3,10],d.sp [1,2,0,3,4,5,6,7,8,9,10,11,12,13,14,15,16,17] (rg 14),ja⟩
 refine wal b d (k0b empty) (sgN 3 jD) λds a w b d=>⟨λ_=>(d.sx [1,2,7,8,9,10,11,12,13,14,15,16,17] (rg 14)),?_⟩
 refine ago 7 b rfl (jR b d kr kr (AO N d.fresh a7 e.Cmd.Shard p8 c9 S T ((d.pick [0,1] kr).ro) ex) ?_)
 rintro _ κ w a ⟨rfl,hR,hN⟩ b d hO
 refine ⟨λ_=>(d.sx [1,2,7,8,9,10,11,12,13,14,15,16,17] (rg 14)),?_⟩
 refine anp [8,9] [0,3,10,387,396] b (d.sx [1,2,7,8,9,10,11,12,13,14,15,16,17] (rg 14)) λa b=>u1 [10] [0,3,10,396,397] b (λ_=>d.sx [1,2,7,8,9,10,11,12,13,14,15,16,17] (rg 14)) λa b=>?_
 have b:Fr (476) _ [k35 g,k2u x,(10,pt ds 0),(396,.agg (flat [sg cJ.1.Lo,sg cJ.1.Hi,si cJ.1.Node]).toArray),(397,vb cJ.2)] a:=b.kp [0,3,10,396,397]
 refine ago 12 b rfl (wst b d 0 0 3 (k09 cJ.1) (sgN 3 jD) λa w b d=>⟨notE,?_⟩)
 refine u1 [13] [0,3,10] b notE λa b=>?_
 have b:Fr (476) _ [k35 g,k2u x,(10,pt ds 0)] a:=b.kp [0,3,10]
 refine kN ?_
 cases dv
 exact ⟨_,ds,b.kp [0,3,10],d.sp [1,2,0,3,4,5,6,7,8,9,10,11,12,13,14,15,16,17] (rg 14),ja⟩
 rintro a w ⟨κ,er,b,d,-⟩
 refine hz _ _ (rl (wp 1 [0,3,10,398] b λa b=>wc (wls b d 2 0 3 λa b=>wp 2 [0,3,398,399,401] b λa b=>wc (wld b d 0 10 0 λa b=>wp 2 [0,3,398,399,402,404] b λa b=>wc (wld b d 0 11 0 λa b=>wp 1 [0,3,398,406] b λa b=>wc (wbx b d [sg b8.1,sg b8.2.1,si b8.2.2,si e.Cmd.Shard,si e.Cmd.Node,si 0] (sgN 6 jD) λes a w b d=>wp 2 [0,3,407,409] b λa b=>wc (wst b d 2 24 1 [k3v es] (sgN 1 jD) λa w b d=>nl ?_)))))))
 obtain ⟨go,d⟩:=d.foldI (ck:=lA) (fs:=l8) es () (j8.mk (l6.mk b8.1 b8.2.1 b8.2.2) e.Cmd.Shard e.Cmd.Node 0) [0] (ra 1 18) [] dc kr kr
 exact ⟨_,a3,a5,a6,a7.Cuts,p8,c9,a7.Nodes,S,T,aP,aO,aZ,az,au,aQ,aw,av,aR,j,aJ,aS,Z,aa,J,ab,ad,aT,K,ae,af,aU,G,L,O,P,ah,ai,aV,(some es),go,(some (j8.mk (l6.mk b8.1 b8.2.1 b8.2.2) e.Cmd.Shard e.Cmd.Node 0)),ao,aL,U,V,W,I,Q,R,ay,aE,aF,aG,C,D,F,b.kp [0,3],d.sp [2,1,4,5,6,7,8,9,10,11,12,13,14,15,16,17,0] (rg 14),H⟩
 refine sk ?_
 exact ⟨_,a3,a5,a6,a7.Cuts,p8,c9,a7.Nodes,S,T,aP,aO,aZ,az,au,aQ,aw,av,aR,j,aJ,aS,Z,aa,J,ab,ad,aT,K,ae,af,aU,G,L,O,P,ah,ai,aV,df,c3,dr.1,ao,aL,U,V,W,I,Q,R,ay,aE,aF,aG,C,D,F,b.kp [0,3],d.sp [1,0,2,3,4,5,6,7,8,9,10,11,12,13,14,15,16] (rg 14),H⟩
 refine sk ?_
 exact ⟨_,a3,a5,a6,a7.Cuts,p8,c9,a7.Nodes,S,T,aP,aO,aZ,az,au,aQ,aw,av,aR,j,aJ,aS,Z,aa,J,ab,ad,aT,K,ae,af,aU,G,L,O,P,ah,ai,aV,df,c3,dr.1,ao,aL,U,V,W,I,Q,R,ay,aE,aF,aG,C,D,F,b.kp [0,3],d.sp [1,0,2,3,4,5,6,7,8,9,10,11,12,13,14,15,16] (rg 14),H⟩
 rintro a w ⟨κ,bZ,b0,b1,bD,bQ,bR,bE,bS,bT,bJ,cw,cD,bK,cx,cE,bL,cy,cF,bf,cz,cG,bF,bG,bm,co,cp,c4,bn,cq,cr,c5,bg,bo,bq,br,cs,cu,c6,bM,cA,cH,b2,b3,bh,bt,bu,bi,bw,bx,b4,b5,b6,b7,dn,dw,dx,b,d,H⟩
 unfold M.kM at H
 refine qr λ_ hA=>(wp 3 [0,3,412] b λa b=>wc (wst b d 0 11 1 [sb true] (sgN 1 jD) λa w b d=>(hA _ _ (qs λ_ hC=>qr λ_ hD=>(wp 3 [0,3,415] b λa b=>wc (wld b d 0 1 0 λa b=>wp 1 [0,3,416,417] b λa b=>(hD _ _ (bk (jT (n:=N) (λn a w=>∃κ,∃bB:List Bool,∃bC:List Int,∃bN:List i9,∃bV bW aA,Fr (476) [] [k35 g,k2u x,(416,vi a2),(417,vi aA)] a∧SS Ms κ0 w0 κ w (k1p g a1 a2 bZ (i64.wrap e.Id) b0 b1 bQ bD.length bR bS bE.length bT l k.length o p bB.length q s bC.length u bJ bK bL an bf bF bG bm bn bo bg.length bq br X bM b2 b3 bt bh.length bu bw bi.length bx b4 b5 b6 b7 bV bN.length bW Y x e aj ak al am (ownX (fInt .i64) 3 l o k) (ownX jM 4 p q bB) (ownX (fInt .i64) 3 s u bC) cw cD cx cE cy cF (arrX j6 bf cz cG) co cp cq cr cs cu cA cH) (k1i bQ bR bD bS bT bE (ml bf 4) (ml bF 4) (ml bG 4) bm co cp c4 bn cq cr c5 bo bq bg br cs cu c6 bt bu bh bw bx bi bV bW bN aj ak e al am)∧M.nG N n a1 a2 k an e bZ b0 b1 bD bE cD cE cF cG bF bG c4 c5 bg c6 cH b2 b3 bh bi b4 b5 b6 b7 bB bC bN aA=some r) ?_ ?_)))))))))
 exact ⟨_,A,B,dn,dw,dx,0,b.kp [0,3,416,417],d.sp [0,1,5,2,3,4,6,7,8,9,10,11,12,13,14,15,16] (rg 14),H⟩
 rintro n a w ⟨κ,bB,bC,bN,bV,bW,aA,b,d,H⟩
 rcases n with _|gp
 simp [M.nG] at H
 simp only [M.nG] at H
 refine qr λ_ hE=>wp 1 [0,3,416,417,418] b λa b=>hE _ _ (qs λ_ hG=>bc b H (λhb H=>?_) λhb H=>?_)
 refine sk (hG _ _ (qs λ_ hH=>bk (qr λ_ hI=>wp 2 [0,3,12,416,417] b λa b=>hI _ _ (qs λ_ hJ=>rgS d [23,25] ?_))))
 have d:=d.drew
 have hX:=d.fx
 refine jN [0,1,2,4,5,6,7,10,11,12,14,15,16,18] [0,3,12,416,417,422,424,427,432,436,438] (L':=[k35 g,k2u x,(12,vi aA),(416,vi a2),(417,vi aA),(422,pt g 10),(424,vi aA),(427,pt g 9),(432,pt g 8),(436,pt g 0),(438,vi aA)]) (listed':=(mV 26 384247)) (fuel:=12) b hX kr (by intro c a w t v h; cases t<;>exact h) kr rfl λa b=>u1 [9] [0,3,12,416,417,422,424,427,429,432,436,438] b (λ_=>hX) λa b=>?_
 have b:Fr (476) _ [k35 g,k2u x,(12,vi aA),(416,vi a2),(417,vi aA),(422,pt g 10),(424,vi aA),(427,pt g 9),(429,vi aA),(432,pt g 8),(436,pt g 0),(438,vi aA)] a:=b.kp [0,3,12,416,417,422,424,427,429,432,436,438]
 refine atk 3 (some 423) b hX rfl (vld 0 10 0) λa b=>atk 8 (some 428) b hX rfl (vld 0 9 0) λa b=>atk 13 (some 433) b hX rfl (vld 0 8 0) λa b=>atk 17 (some 437) b hX rfl (vld 0 0 0) λa b=>ago 19 b rfl (bd H λdW gq H=>jR b d kr kr (vF N d.fresh a1 aA ((d.pick [] kr).ro) gq) ?_)
 rintro _ κ w a ⟨rfl,hR,hN⟩ b d hO
 refine ⟨λ_=>(d.sx [0,1,6,7,8,9,10,11,12,13,14,15,16] (rg 14)),?_⟩
 refine bd H λcv dX H=>?_
 obtain ⟨fN,fO,d2⟩:=d.ptrO 6 rfl dX
 refine atk 20 (some 440) b (d.sx [0,1,6,7,8,9,10,11,12,13,14,15,16] (rg 14)) rfl (λw _=>mP (E:=3) (sz:=1) rfl d2 rfl kr rfl dX kr kr w) λa b=>atk 21 (some 441) b (d.sx [0,1,6,7,8,9,10,11,12,13,14,15,16] (rg 14)) rfl (yC 2 (v:=vi cv) rfl rfl d2 rfl dX rfl kr kr) λa b=>bd H λil dY H=>?_
 obtain ⟨im,io,d3⟩:=d.ptrO 8 rfl dY
 refine atk 22 (some 442) b (d.sx [0,1,6,7,8,9,10,11,12,13,14,15,16] (rg 14)) rfl (λw _=>mP (E:=3) (sz:=1) rfl d3 rfl kr rfl dY kr kr w) λa b=>ago 23 b rfl (sR b d kr 8 (z:=cv) rfl rfl rfl rfl d3 dY rfl kr rfl kr (Cf:=(λnn=>[.box g 87 [si a1,si a2,si bZ,si (i64.wrap e.Id),si b0,si b1,sl bQ bD.length bR,sl bS bE.length bT,sl l k.length o,sl p bB.length q,sl s nn u,sb true,sp bJ,sp bK,sp bL,su an,(4,(encs pO bf)),ei 4 bF,ei 4 bG,sm bm,sm bn,sl bo bg.length bq,sm br,(1,X),sp bM,si b2,si b3,sl bt bh.length bu,sl bw bi.length bx,su b4,sb b5,sb b6,sb b7,sl bV bN.length bW,(1,Y)],.box x 38 [si e.Kind,su e.Id,su e.N,su e.TS,sg e.Lo,sg e.Hi,sl aj e.Vers.length ak,sl al e.Vec.length am,si e.Cmd.Kind,si e.Cmd.DC,si e.Cmd.Shard,si e.Cmd.Node,si e.Cmd.Mode,sg e.Cmd.Key],.tok bV 61 15 bN.length bW,.tok bo 95 5 bg.length bq,.tok bt 32 1 bh.length bu,.tok bw 32 1 bi.length bx,.ext (ownX (fInt .i64) 3 l o k),.ext (ownX jM 4 p q bB),.ext (ownX (fInt .i64) 3 s u (set bC (toNat aA) cv)),ox o_stab_Table bJ cw cD,ox o_order_Log bK cx cE,ox o_coord_Table bL cy cF,.ext (arrX j6 bf cz cG),mx bm co cp,mx bn cq cr,mx br cs cu,ox o_gate_move bM cA cH])) (Lf:=(λnn=>[(0,pt g 0),(3,pt x 0),(12,vi aA),(416,vi a2),(417,vi aA),(422,pt g 10),(423,.slice s nn u),(424,vi aA),(427,pt g 9),(428,.slice p bB.length q),(429,vi aA),(432,pt g 8),(433,.slice l k.length o),(436,pt g 0),(437,vi a1),(438,vi aA),(439,vi dW),(440,.pointer (some ⟨fN,(fO+toNat dW*1),none⟩)),(441,vi cv)])) [0,3,12,416,417,422,423,424,427,428,429,432,433,436,437,438,439,440,441] kr kr λa w b d=>?_)
 refine ⟨notE,?_⟩
 refine bd H λip dZ H=>?_
 obtain ⟨iq,ir,d4⟩:=d.ptrO 7 rfl dZ
 refine MW 24 (some 443) b notE rfl (λw=>mP (E:=4) (sz:=1) rfl d4 rfl kr rfl dZ kr kr w) λa b=>ago 25 b rfl (sR b d kr 7 (z:=false) rfl rfl rfl rfl d4 dZ rfl kr rfl kr (Cf:=(λnn=>[.box g 87 [si a1,si a2,si bZ,si (i64.wrap e.Id),si b0,si b1,sl bQ bD.length bR,sl bS bE.length bT,sl l k.length o,sl p nn q,sl s ((set bC (toNat aA) cv)).length u,sb true,sp bJ,sp bK,sp bL,su an,(4,(encs pO bf)),ei 4 bF,ei 4 bG,sm bm,sm bn,sl bo bg.length bq,sm br,(1,X),sp bM,si b2,si b3,sl bt bh.length bu,sl bw bi.length bx,su b4,sb b5,sb b6,sb b7,sl bV bN.length bW,(1,Y)],.box x 38 [si e.Kind,su e.Id,su e.N,su e.TS,sg e.Lo,sg e.Hi,sl aj e.Vers.length ak,sl al e.Vec.length am,si e.Cmd.Kind,si e.Cmd.DC,si e.Cmd.Shard,si e.Cmd.Node,si e.Cmd.Mode,sg e.Cmd.Key],.tok bV 61 15 bN.length bW,.tok bo 95 5 bg.length bq,.tok bt 32 1 bh.length bu,.tok bw 32 1 bi.length bx,.ext (ownX (fInt .i64) 3 l o k),.ext (ownX jM 4 p q (set bB (toNat aA) false)),.ext (ownX (fInt .i64) 3 s u (set bC (toNat aA) cv)),ox o_stab_Table bJ cw cD,ox o_order_Log bK cx cE,ox o_coord_Table bL cy cF,.ext (arrX j6 bf cz cG),mx bm co cp,mx bn cq cr,mx br cs cu,ox o_gate_move bM cA cH])) (Lf:=(λnn=>[(0,pt g 0),(3,pt x 0),(12,vi aA),(416,vi a2),(417,vi aA),(422,pt g 10),(423,.slice s ((set bC (toNat aA) cv)).length u),(424,vi aA),(427,pt g 9),(428,.slice p nn q),(429,vi aA),(432,pt g 8),(433,.slice l k.length o),(436,pt g 0),(437,vi a1),(438,vi aA),(439,vi dW),(440,.pointer (some ⟨fN,(fO+toNat dW*1),none⟩)),(441,vi cv)])) [0,3,12,416,417,422,423,424,427,428,429,432,433,436,437,438,439,440,441] kr kr λa w b d=>?_)
 refine ⟨notE,?_⟩
 refine kN (hJ _ _ (rga (λ_=>True) [] ?_))
 have d:=d.drew
 refine jN [0,1,2,4] [0,3,416,417,444,445,446,448] (L':=[k35 g,k2u x,(416,vi a2),(417,vi aA),(444,pt g 0),(445,vi aA),(446,pt x 1),(448,pt x 7)]) (listed':=(mV 9 23)) (fuel:=5) b ja kr (by intro c a w t v h; cases t<;>exact h) kr rfl λa b=>mI d [8] (atk 3 (some 447) b (d.sx [0,1,6,7,8,9,10,11,12,13,14,15,16] (rg 14)) rfl (vld 1 1 0) λa b=>atk 5 (some 449) b (d.sx [0,1,6,7,8,9,10,11,12,13,14,15,16] (rg 14)) rfl (vld 1 7 0) λa b=>?_)
 refine ago 6 b rfl ?_
 have d:=d.add (m:=Ro.mp (fInt .u64).ty none 0 ([]:List Int)) (Ro.nil (fInt .u64).ty _ _)
 have d:=d.addNil 32 1
 refine bd H λhK gr H=>kJ (ty:=(fInt .u64).ty) b d kr 0 0 14 rfl rfl rfl kr kr rfl rfl rfl gr kr (i:=Tryz.t32) (z:=vu 0) kr kr kr λhL hM κ a w b d=>⟨λ_=>(d.sx [1,2,7,8,9,10,11,12,13,14,15,16,17] (ra 2 14)),?_⟩
 refine anp [7] [0,3,416,417,444,445,451] b (d.sx [1,2,7,8,9,10,11,12,13,14,15,16,17] (ra 2 14)) λa b=>ago 8 b rfl ?_
 have d:=d.add (m:=Ro.mp jG.ty none 0 ([]:List jB)) (Ro.nil jG.ty _ _)
 refine bd H λfP gs H=>?_
 have eE:=d.segs 1 rfl
 refine wcS 2 [1,3,0,2,4,5,6,7,8,9,10,11,12,13,14,15,16,17] b d (λd=>lJ N a1 bN aA (jF.mk 10 e.Id 0 0 empty empty ([]:List jB) hK (jU.mk 0 0 0 0 0 empty)) (flat [si a2,si bZ,si (i64.wrap e.Id),si b0,si b1,sl bQ bD.length bR,sl bS bE.length bT,sl l k.length o,sl p ((set bB (toNat aA) false)).length q,sl s ((set bC (toNat aA) cv)).length u,sb true,sp bJ,sp bK,sp bL,su an,k4d bf,ei 4 bF,ei 4 bG,sm bm,sm bn,sl bo bg.length bq,sm br,(1,X),sp bM,si b2,si b3,sl bt bh.length bu,sl bw bi.length bx,su b4,sb b5,sb b6,sb b7]) bV bW Y none 0 hL hM g ((d.regr 0 [(false,1),(true,32),(false,2)] rfl).sbK [14,0,1]) gs) ?_
 rintro _ κ w a ⟨fQ,fR,rfl,h2⟩ b hB
 have d:=(hB _ _ h2).unregrK 0 [(false,1),(true,32),(false,2)] (s':=[si a1,si a2,si bZ,si (i64.wrap e.Id),si b0,si b1,sl bQ bD.length bR,sl bS bE.length bT,sl l k.length o,sl p ((set bB (toNat aA) false)).length q,sl s ((set bC (toNat aA) cv)).length u,sb true,sp bJ,sp bK,sp bL,su an,k4d bf,ei 4 bF,ei 4 bG,sm bm,sm bn,sl bo bg.length bq,sm br,(1,X),sp bM,si b2,si b3,sl bt bh.length bu,sl bw bi.length bx,su b4,sb b5,sb b6,sb b7,sl fQ fP.length fR,(1,Y)]) eE rfl
 refine ⟨notE,?_⟩
 refine kN (hH _ _ (rl (wp 2 [0,3,416,417] b λa b=>nl ?_)))
 exact ⟨gp,jb _,_,(set bB (toNat aA) false),(set bC (toNat aA) cv),fP,fQ,fR,i64.wrap (aA+1),b.kp [0,3,416,417],d.sp [0,3,1,4,5,6,7,8,9,10,11,12,13,14,15,16,17] [4,5,6,7,8,9,10,11,12,13,14,0,16,17],H⟩
 refine xt (hC _ _ (qr λ_ hP=>(wp 3 [0,3,456] b λa b=>wc (wld b d 0 8 0 λa b=>wp 2 [0,3,458,459] b λa b=>(hP _ _ (bk (jT (n:=N) (λn a w=>∃κ,∃dg:List Int,∃bX,Fr (476) [] [k35 g,k2u x,(458,vi (k.length:Int)),(459,vi bX)] a∧SS Ms κ0 w0 κ w (k1p g a1 a2 bZ (i64.wrap e.Id) b0 b1 bQ bD.length bR bS bE.length bT l dg.length o p bB.length q s bC.length u bJ bK bL an bf bF bG bm bn bo bg.length bq br X bM b2 b3 bt bh.length bu bw bi.length bx b4 b5 b6 b7 bV bN.length bW Y x e aj ak al am (ownX (fInt .i64) 3 l o dg) (ownX jM 4 p q bB) (ownX (fInt .i64) 3 s u bC) cw cD cx cE cy cF (arrX j6 bf cz cG) co cp cq cr cs cu cA cH) (k1i bQ bR bD bS bT bE (ml bf 4) (ml bF 4) (ml bG 4) bm co cp c4 bn cq cr c5 bo bq bg br cs cu c6 bt bu bh bw bx bi bV bW bN aj ak e al am)∧M.nF N n a1 a2 k an e bZ b0 b1 bD bE cD cE cF cG bF bG c4 c5 bg c6 cH b2 b3 bh bi b4 b5 b6 b7 bB bC bN dg bX=some r) ?_ ?_)))))))
 exact ⟨_,k,0,b.kp [0,3,458,459],d.sp (rg 17) (rg 14),H⟩
 rintro n a w ⟨κ,dg,bX,b,d,H⟩
 rcases n with _|gu
 simp [M.nF] at H
 simp only [M.nF] at H
 refine qr λ_ hQ=>wp 1 [0,3,458,459,460] b λa b=>hQ _ _ (qs λ_ hT=>bc b H (λhb H=>?_) λhb H=>?_)
 refine sk (hT _ _ (qs λ_ hU=>bk (qr λ_ hV=>wp 2 [0,3,13,458,459] b λa b=>hV _ _ (rgS d [13] ?_))))
 have d:=d.drew
 have hX:=d.fx
 refine jN [0,1,2,4,5,7,8] [0,3,458,459,464,466,467,470] (L':=[k35 g,k2u x,(458,vi (k.length:Int)),(459,vi bX),(464,pt g 8),(466,vi bX),(467,pt x 7),(470,vi (i64.wrap (bX+1)))]) (listed':=(mV 14 439)) (fuel:=7) b hX kr (by intro c a w t v h; cases t<;>exact h) kr rfl λa b=>atk 3 (some 465) b hX rfl (vld 0 8 0) λa b=>atk 6 (some 468) b hX rfl (vld 1 7 0) λa b=>bd H λdt d0 H=>?_
 obtain ⟨it,iu,d5⟩:=d.ptr 13 rfl d0
 refine atk 9 (some 471) b (d.sx [0,1,6,7,8,9,10,11,12,13,14,15,16] (rg 14)) rfl (λw _=>mP (E:=32) (sz:=1) rfl d5 rfl kr rfl d0 kr kr w) λa b=>atk 10 (some 472) b (d.sx [0,1,6,7,8,9,10,11,12,13,14,15,16] (rg 14)) rfl (qO (t:=(fInt .u64)) 13 0 (v:=vu dt) rfl rfl d5 rfl d0 kr kr kr) λa b=>jN [11] [0,3,458,459,465,466,473] (L':=[k35 g,k2u x,(458,vi (k.length:Int)),(459,vi bX),(465,.slice l dg.length o),(466,vi bX),(473,vi (i64.wrap dt))]) (listed':=(mV 14 4095)) (fuel:=2) b (d.sx [0,1,6,7,8,9,10,11,12,13,14,15,16] (rg 14)) kr (by intro c a w t v h; cases t<;>exact h) kr rfl λa b=>?_
 refine bd H λiv d1 H=>?_
 obtain ⟨iw,iy,d6⟩:=d.ptrO 6 rfl d1
 refine atk 12 (some 474) b (d.sx [0,1,6,7,8,9,10,11,12,13,14,15,16] (rg 14)) rfl (λw _=>mP (E:=3) (sz:=1) rfl d6 rfl kr rfl d1 kr kr w) λa b=>ago 13 b rfl (sR b d kr 6 (z:=i64.wrap dt) rfl rfl rfl rfl d6 d1 rfl kr rfl kr (Cf:=(λnn=>[.box g 87 [si a1,si a2,si bZ,si (i64.wrap e.Id),si b0,si b1,sl bQ bD.length bR,sl bS bE.length bT,sl l nn o,sl p bB.length q,sl s bC.length u,sb true,sp bJ,sp bK,sp bL,su an,(4,(encs pO bf)),ei 4 bF,ei 4 bG,sm bm,sm bn,sl bo bg.length bq,sm br,(1,X),sp bM,si b2,si b3,sl bt bh.length bu,sl bw bi.length bx,su b4,sb b5,sb b6,sb b7,sl bV bN.length bW,(1,Y)],.box x 38 [si e.Kind,su e.Id,su e.N,su e.TS,sg e.Lo,sg e.Hi,sl aj e.Vers.length ak,sl al e.Vec.length am,si e.Cmd.Kind,si e.Cmd.DC,si e.Cmd.Shard,si e.Cmd.Node,si e.Cmd.Mode,sg e.Cmd.Key],.tok bV 61 15 bN.length bW,.tok bo 95 5 bg.length bq,.tok bt 32 1 bh.length bu,.tok bw 32 1 bi.length bx,.ext (ownX (fInt .i64) 3 l o (set dg (toNat bX) (i64.wrap dt))),.ext (ownX jM 4 p q bB),.ext (ownX (fInt .i64) 3 s u bC),ox o_stab_Table bJ cw cD,ox o_order_Log bK cx cE,ox o_coord_Table bL cy cF,.ext (arrX j6 bf cz cG),mx bm co cp,mx bn cq cr,mx br cs cu,ox o_gate_move bM cA cH])) (Lf:=(λnn=>[(0,pt g 0),(3,pt x 0),(458,vi (k.length:Int)),(459,vi bX),(465,.slice l nn o),(466,vi bX),(473,vi (i64.wrap dt))])) [0,3,458,459,465,466,473] kr kr λa w b d=>?_)
 refine ⟨notE,?_⟩
 refine kN (hU _ _ (rl (wp 2 [0,3,458,459] b λa b=>nl ?_)))
 exact ⟨gu,jb _,_,(set dg (toNat bX) (i64.wrap dt)),i64.wrap (bX+1),b.kp [0,3,458,459],d.sp (rg 17) (rg 14),H⟩
 refine xt ?_
 cases H
 exact j7 b d (mL results31) ⟨bQ,bR,bS,bT,l,o,p,q,s,u,bJ,cw,bK,cx,bL,cy,bf,cz,bm,co,cp,bn,cq,cr,bo,bq,br,cs,cu,bM,cA,bt,bu,bw,bx,bV,bW,rfl,d.sp [0,3,4,5,2,6,7,8,9,10,11,12,13,14,15,16] (rg 12)⟩
end Go.Cf
