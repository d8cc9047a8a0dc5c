/- The walks: each function returns what its model says. Printed by a program of ours. -/
import Derived.Test.YtcplebnnanjngaaGreatZSh
import Derived.Test.YtcplebnnanjngaaGreatZM1
import Derived.Test.YtcplebnnanjngaaGreatZWs
import Derived.Test.YtcplebnnanjngaaGreatZWo
import Derived.Test.YtcplebnnanjngaaGreatZWi
import Derived.Test.YtcplebnnanjngaaGreatZWp
import Derived.Test.YtcplebnnanjngaaGreatZWg1
import Derived.Test.YtcplebnnanjngaaGreatZWg2
namespace Go.Cf
open Go Go.Proofs
open _root_.Int(toNat tdiv tmod)
open _root_.List(set replicate)
open _root_.ByteArray(empty)
open Go.IntKind(i64 u64)
set_option linter.unusedVariables false
set_option maxRecDepth 20000
set_option maxHeartbeats 8000000
theorem zR (N){Ms}{κ0}{w0}(l)(X)(a3)(Y)(a5)(a6)(a7:jA)(al)(aL)(aM)(u)(aO)(aq)(ar)(aP)(aQ)(au:(List j3))(aR)(aS)(aT)(av:(List Int))(aw:(List Int))(aU)(aV)(aW)(aX)(x:(List i9))(z)(p8)(c9)(aY)(aZ)(o)(W)(aa)(b6)(a0)(b7)(a8)(ax)(a9)(ba)(be)(bf)(bg)(bh)(bi)(bj)(bl)(bm)(bn)(bo)(p)(b8)(bq)(q)(br)(bt)(bu)(bw)(U)(V)(s)(g)(hB:SB Ms κ0 w0 (k0w g l X a3 Y a5 a6 p8 (a7.Cuts).length c9 aY (a7.Nodes).length aZ o W b6 b7 u ax aq ar ba bg bj au.length bl bm p b8 q aT br av.length bt bu aw.length bw aU aV aW aX U x.length V s aa al a0 aL a8 aM (arrX j6 ax a9 aO) be bf bh bi bn bo bq aS) [k2l p8 c9 a7.Cuts,k2m aY aZ a7.Nodes,(ml ax 4),(ml aq 4),(ml ar 4),k3h ba be bf aP,k3i bg bh bi aQ,k3j bj bl au,k3k bm bn bo aR,k2v br bt av,k2v bu bw aw,k2t U V x,(ml z 4)]){r}(H:M.s6 N l X a3 Y a5 a6 a7 al aL aM u aO aq ar aP aQ au aR aS aT av aw aU aV aW aX x z=some r) :
    Calls Tryz.prog 55 #[pt g 0,.agg (flat [eb 4 z]).toArray] w0 (kQ Ms κ0 w0 λv κ w => ∃bx bz bA bB ci bX cj bY cl bZ am b0 bC bD bE bF bG bH bI bJ bK bL bM cm b1 bN bO bP bQ bR bS,v = .tuple #[]∧SS Ms κ0 w0 κ w (k0w g l X r.1 Y r.2.1 r.2.2.1 bx (r.2.2.2.1.Cuts).length bz bA (r.2.2.2.1.Nodes).length bB o ci cj cl u am r.u8.1 r.u8.2.1 bC bF bI (r.u8.u4.1).length bJ bK p cm q r.u8.u4.2.2.2.1 bN (r.u8.u8.1).length bO bP (r.u8.u8.2.1).length bQ r.u8.u8.2.2.1 r.u8.u8.2.2.2.1 r.u8.u8.u4.1 r.u8.u8.u4.2.1 bR (r.u8.u8.u4.2.2).length bS s bX r.u4.1 bY r.u4.2.1 bZ r.u4.2.2.1 (arrX j6 am b0 r.u4.2.2.2.1) bD bE bG bH bL bM b1 r.u8.u4.2.2.1) [k2l bx bz r.2.2.2.1.Cuts,k2m bA bB r.2.2.2.1.Nodes,(ml am 4),(ml r.u8.1 4),(ml r.u8.2.1 4),k3h bC bD bE r.u8.2.2.1,k3i bF bG bH r.u8.2.2.2.1,k3j bI bJ r.u8.u4.1,k3k bK bL bM r.u8.u4.2.1,k2v bN bO r.u8.u8.1,k2v bP bQ r.u8.u8.2.1,k2t bR bS r.u8.u8.u4.2.2]):=by
 have d:=hB.hS
 have cL:=d.fresh
 refine en Tryz.func55 rfl Tryz.ntmps55 λa e=>?_
 unfold M.s6 at H
 refine qr λ_ cz=>wc (wbx e d [eb 4 z] (kO (d.get 12 rfl) jE) λay a w e d=>cz _ _ (qr λ_ cA=>wp 1 [0,3,4] e λa e=>bd H λb cn H=>?_))
 have bT:=d.segs 1 rfl
 refine wc (wcS 11 [1,2,3,4,7,8,9,10,11,12,13,0,5,6] e d (λd=>u7 N a3 Y a5 a6 a7 aL aM aO aq ar aP aQ au aR aS aT av aw aU aV aW aX (flat [si l,si X]) p8 c9 aY aZ (flat [(4,o),sp W]) b6 a0 b7 a8 [vu u] ax a9 ba be bf bg bh bi bj bl bm bn bo p b8 bq q br bt bu bw (flat [sl U x.length V,(1,s)]) g ((d.regr 0 [(true,2),(false,6),(true,2),(false,20),(true,2)] rfl).sbK (rg 11)) cn) ?_)
 rintro _ κ w a ⟨cB,cD,cE,cF,A,ad,B,ae,C,af,D,az,aA,F,aB,aD,G,I,J,aE,aF,K,ah,L,O,P,Q,rfl,h2⟩ e hB
 have d:=(hB _ _ h2).unregrK 0 [(true,2),(false,6),(true,2),(false,20),(true,2)] (s':=[si l,si X,si b.1,si Y,si b.2.1,si b.2.2.1,sl cB (b.2.2.2.1.Cuts).length cD,sl cE (b.2.2.2.1.Nodes).length cF,(4,o),sp W,sp A,sp B,su u,k3l C,ei 4 b.u4.2.2.2.1,ei 4 b.u8.1,sm D,sm F,sl G (b.u8.2.2.2.1).length I,sm J,(1,p),sp K,(1,q),si b.u8.u4.2.2.1,sl L (b.u8.u4.2.2.2.1).length O,sl P (b.u8.u8.1).length Q,su b.u8.u8.2.1,sb b.u8.u8.2.2.1,sb b.u8.u8.2.2.2.1,sb b.u8.u8.u4,sl U x.length V,(1,s)]) bT rfl
 refine cA _ _ (qr λ_ cG=>wp 2 [0,3,6,7] e λa e=>bd H λf co H=>wc (jS e d kr kr (zM N d.fresh 0 ((d.pick [] kr).ro) co) ?_))
 rintro _ κ w a ⟨R,S,j,k,rfl,hR,hN⟩ e d hO
 have d:=d.adds hR
 have d:=d.addC hO hN
 refine wp 2 [0,3,7,8,10] e λa e=>wc (wst e d 2 2 1 [si 1] (sgN 1 jE) λa w e d=>wp 2 [0,3,8,12] e λa e=>wc (wst e d 2 6 2 (k04 R (f.Cuts).length S j (f.Nodes).length k) (sgN 2 jE) λa w e d=>(cG _ _ (qr λ_ cp=>(jG (L':=[k2g g,k25 ay,(15,pt g 0)]) 3 [0,3,15] e kr λa e=>wc (wld e d 2 0 0 λa e=>bd H λcK aG H=>wc (l5 e kr (E:=4) (sz:=1) (n:=4) rfl rfl (i:=l) rfl (m1 aG (d.get 25 rfl)) kr kr λa e=>wc (lM (t:=jN) (y:=false) (v:=vb false) e d kr 13 0 (s':=[eb 4 (set z (toNat l) false)]) (C':=[.tok R 9 1 (f.Cuts).length S,.tok j 3 1 (f.Nodes).length k,.box g 87 [si l,si X,si 1,si Y,si b.2.1,si b.2.2.1,sl R (f.Cuts).length S,sl j (f.Nodes).length k,(4,o),sp W,sp A,sp B,su u,k3l C,ei 4 b.u4.2.2.2.1,ei 4 b.u8.1,sm D,sm F,sl G (b.u8.2.2.2.1).length I,sm J,(1,p),sp K,(1,q),si b.u8.u4.2.2.1,sl L (b.u8.u4.2.2.2.1).length O,sl P (b.u8.u8.1).length Q,su b.u8.u8.2.1,sb b.u8.u8.2.2.1,sb b.u8.u8.2.2.2.1,sb b.u8.u8.u4,sl U x.length V,(1,s)],k3d G (b.u8.2.2.2.1).length I,k3e L (b.u8.u4.2.2.2.1).length O,k3e P (b.u8.u8.1).length Q,k3f A ad b.u4.1,k3g B ae b.u4.2.1,.ext (arrX j6 C af b.u4.2.2.1),mx D az aA,mx F aB aD,mx J aE aF,k2y K ah b.u8.u4.2.1,k2e ay (set z (toNat l) false),k2s U x.length V,k2c W aa al]) rfl rfl kr rfl rfl aG rfl rfl kr kr kr kr λa w e d=>?_))))))))
 have d:=d.add (m:=ml (set z (toNat l) false) 4) (List.length_set.trans (d.get 25 rfl))
 refine cp _ _ (qs λ_ cq=>rgS d [16] ?_)
 have d:=d.drew
 have hX:=d.fx
 refine anp [0,1,2,3,5,6,7] [0,3,19,22,26] e hX λa e=>atk 4 (some 23) e hX rfl (vld 0 0 0) λa e=>atk 8 (some 27) e hX rfl (vld 0 1 0) λa e=>atk 9 (some 28) e hX rfl (vls 8 0 1) λa e=>ago 10 e rfl (bd H λbU b2 H=>wcS 0 (rg 16) e d (λd=>yU N l X (set z (toNat l) false) (d.sbK [0]) b2) ?_)
 rintro _ κ w a ⟨Z,b3,rfl,h2⟩ e hB
 have d:=(hB _ _ h2).cC (C':=[k2c Z b3 bU.1,.tok R 9 1 (f.Cuts).length S,.tok j 3 1 (f.Nodes).length k,.box g 87 [si l,si X,si 1,si Y,si b.2.1,si b.2.2.1,sl R (f.Cuts).length S,sl j (f.Nodes).length k,(4,o),sp W,sp A,sp B,su u,k3l C,ei 4 b.u4.2.2.2.1,ei 4 b.u8.1,sm D,sm F,sl G (b.u8.2.2.2.1).length I,sm J,(1,p),sp K,(1,q),si b.u8.u4.2.2.1,sl L (b.u8.u4.2.2.2.1).length O,sl P (b.u8.u8.1).length Q,su b.u8.u8.2.1,sb b.u8.u8.2.2.1,sb b.u8.u8.2.2.2.1,sb b.u8.u8.u4,sl U x.length V,(1,s)],k3d G (b.u8.2.2.2.1).length I,k3e L (b.u8.u4.2.2.2.1).length O,k3e P (b.u8.u8.1).length Q,k3f A ad b.u4.1,k3g B ae b.u4.2.1,.ext (arrX j6 C af b.u4.2.2.1),mx D az aA,mx F aB aD,mx J aE aF,k2y K ah b.u8.u4.2.1,k2e ay (set z (toNat l) false),k2s U x.length V,k2c W aa al])
 refine ⟨λ_=>(d.sx [3,7,8,9,10,11,12,13,14,16] (rg 27)),?_⟩
 refine jO [11,12,14,15] [0,18,30,33] (L':=[k2g g,(18,.tuple #[.pointer (pa Z),vi bU.2]),(30,.pointer (pa Z)),(33,pt g 12)]) (listed':=(mU 17 57343)) (fuel:=2) e (d.sx [3,7,8,9,10,11,12,13,14,16] (rg 27)) kr (by intro c a w t v h; cases t<;>exact h) kr rfl λa e=>tU [13] [0,30,33] e (λ_=>d.sx [3,7,8,9,10,11,12,13,14,16] (rg 27)) λa e=>?_
 have e:Fr (54) _ [k2g g,(30,.pointer (pa Z)),(33,pt g 12)] a:=e.kp [0,30,33]
 refine ago 16 e rfl (wst e d 3 9 1 [sp Z] (sgN 1 jE) λa w e d=>⟨notE,?_⟩)
 refine kM (cq _ _ (qs λ_ cr=>bd H λcs ho H=>?_))
 obtain ⟨T,b9,d⟩:=d.optS 0 rfl ho
 rw [b9] at d
 try rw [b9] at e
 obtain ⟨⟨cu,cv⟩,d⟩:=d.unfI (ck:=jR) (fs:=jP) 0 rfl
 refine rgX d [4,8,9,10,11,12,13,14,15,17] ?_
 have d:=d.drew
 have hX:=d.px [4,8,9,10,11,12,13,14,15,17]
 refine anp [0,1,2,4,5,6,8,9,10] [0,36,40,44] e hX λa e=>atk 3 (some 37) e hX rfl (vld 0 9 0) λa e=>atk 7 (some 41) e hX rfl (vld 0 0 0) λa e=>atk 11 (some 45) e hX rfl (vld 0 3 0) λa e=>ago 12 e rfl (bd H λbV b4 H=>wcS 2 (rg 18) e d (λd=>vZ N cs l Y cu cv T (d.sbK (rg 4)) b4) ?_)
 rintro _ κ w a ⟨cw,cx,rfl,h2⟩ e hB
 have d:=hB _ _ h2
 refine ⟨λ_=>(d.sx [4,8,9,10,11,12,13,14,15,17] (ra 4 31)),?_⟩
 refine kM ?_
 obtain ⟨aH,d⟩:=d.foldI (ck:=jR) (fs:=jP) T (cw,cx) bV.2 [0,1] (ra 2 16) (rg 4) dc kr kr
 refine cr _ _ (rl (wp 4 [47,50] e λa e=>wc (wld e d 3 12 0 λa e=>wp 1 [47,52] e λa e=>?_)))
 have d:=d.add (m:=Ro.mp jF.ty none 0 ([]:List jC)) (Ro.nil jF.ty _ _)
 have d:=d.add (m:=Ro.mp (fInt .u64).ty none 0 ([]:List Int)) (Ro.nil (fInt .u64).ty _ _)
 refine bd H λao b5 H=>?_
 have aJ:=d.segs 3 rfl
 refine wc (wcS 2 [3,15,0,1,2,4,5,6,7,8,9,10,11,12,13,14,16] e d (λd=>lK N l x 0 (jK.mk 6 0 0 u empty empty ([]:List jC) ([]:List Int) (jT.mk 0 0 0 0 0 empty)) (flat [si X,si 1,si Y,si b.2.1,si b.2.2.1,sl R (f.Cuts).length S,sl j (f.Nodes).length k,(4,o),k34 T,sp A,sp B,su u,k3l C,ei 4 b.u4.2.2.2.1,ei 4 b.u8.1,sm D,sm F,sl G (b.u8.2.2.2.1).length I,sm J,(1,p),sp K,(1,q),si b.u8.u4.2.2.1,sl L (b.u8.u4.2.2.2.1).length O,sl P (b.u8.u8.1).length Q,su b.u8.u8.2.1,sb b.u8.u8.2.2.1,sb b.u8.u8.2.2.2.1,sb b.u8.u8.u4]) U V s none 0 none 0 g ((d.regr 0 [(false,1),(true,29),(false,2)] rfl).sbK [35,1,0]) b5) ?_)
 rintro _ κ w a ⟨aj,ak,rfl,h2⟩ e hB
 have d:=((hB _ _ h2).unregrK 0 [(false,1),(true,29),(false,2)] (s':=[si l,si X,si 1,si Y,si b.2.1,si b.2.2.1,sl R (f.Cuts).length S,sl j (f.Nodes).length k,(4,o),k34 T,sp A,sp B,su u,k3l C,ei 4 b.u4.2.2.2.1,ei 4 b.u8.1,sm D,sm F,sl G (b.u8.2.2.2.1).length I,sm J,(1,p),sp K,(1,q),si b.u8.u4.2.2.1,sl L (b.u8.u4.2.2.2.1).length O,sl P (b.u8.u8.1).length Q,su b.u8.u8.2.1,sb b.u8.u8.2.2.1,sb b.u8.u8.2.2.2.1,sb b.u8.u8.u4,sl aj ao.length ak,(1,s)]) aJ rfl).cC (C':=[.box g 87 [si l,si X,si 1,si Y,si b.2.1,si b.2.2.1,sl R (f.Cuts).length S,sl j (f.Nodes).length k,(4,o),k34 T,sp A,sp B,su u,k3l C,ei 4 b.u4.2.2.2.1,ei 4 b.u8.1,sm D,sm F,sl G (b.u8.2.2.2.1).length I,sm J,(1,p),sp K,(1,q),si b.u8.u4.2.2.1,sl L (b.u8.u4.2.2.2.1).length O,sl P (b.u8.u8.1).length Q,su b.u8.u8.2.1,sb b.u8.u8.2.2.1,sb b.u8.u8.2.2.2.1,sb b.u8.u8.u4,sl aj ao.length ak,(1,s)],k2s aj ao.length ak,k3s T aH bV.2,.tok R 9 1 (f.Cuts).length S,.tok j 3 1 (f.Nodes).length k,k3d G (b.u8.2.2.2.1).length I,k3e L (b.u8.u4.2.2.2.1).length O,k3e P (b.u8.u8.1).length Q,k3f A ad b.u4.1,k3g B ae b.u4.2.1,.ext (arrX j6 C af b.u4.2.2.1),mx D az aA,mx F aB aD,mx J aE aF,k2y K ah b.u8.u4.2.1,k2e ay (set z (toNat l) false),k2c W aa al])
 refine nl ?_
 cases H
 exact j7 e d (mI Tryz.results55) ⟨R,S,j,k,(some T),aH,A,ad,B,ae,C,af,D,az,aA,F,aB,aD,G,I,J,aE,aF,K,ah,L,O,P,Q,aj,ak,rfl,d.sp [0,5,6,7,1,2,8,9,10,11,12,13,14] [12,13,16,17,18,19,20,21,22,23,24,0]⟩
theorem z0 (N){Ms}{κ0}{w0}(U)(I)(V)(a6)(a9)(O)(k)(o)(X)(Y)(F:(List Int))(p:(List i9))(e)(P)(Q)(p7)(cD)(W)(Z)(u)(f)(aq)(x)(R)(S)(A)(q)(s)(B)(j)(hB:SB Ms κ0 w0 (k0x j U I P V Q p7 W u f k o x X Y R F.length S A q p.length s B cD a6 Z a9 (arrX j6 f aq O)) (k0y (ml f 4) (ml k 4) (ml o 4) R S F q s p)){r}(H:M.rO N U I V a6 a9 O k o X Y F p e=some r) :
    Calls Tryz.prog 56 #[pt j 0,vi e] w0 (kQ Ms κ0 w0 λv κ w => ∃b5 bM b6 bN aT bO a3 a5 a7 a8,v = .tuple #[]∧SS Ms κ0 w0 κ w (k0x j U I P V Q b5 b6 u aT r.2.2.2.1 r.u4.1 x r.u4.2.1 r.u4.2.2.1 a3 (r.u4.2.2.2.1).length a5 A a7 (r.u8).length a8 B bM r.1 bN r.2.1 (arrX j6 aT bO r.2.2.1)) (k0y (ml aT 4) (ml r.2.2.2.1 4) (ml r.u4.1 4) a3 a5 r.u4.2.2.2.1 a7 a8 r.u8)):=by
 have d:=hB.hS
 have c1:=d.fresh
 refine en Tryz.func56 rfl Tryz.ntmps56 λa b=>?_
 unfold M.rO at H
 refine qr λ_ cE=>(jG (L':=[k2g j,k2a e,(4,vi e)]) 2 [0,1,4] b kr λa b=>cE _ _ (m9 (λa w => ∃κ b2 ba be aR,Fr (120) [] [k2g j,k2a e,(4,vi aR)] a∧SS Ms κ0 w0 κ w (k0x j U I P V Q b2 W u f k o x X Y R F.length S A q p.length s B ba be Z a9 (arrX j6 f aq O)) (k0y (ml f 4) (ml k 4) (ml o 4) R S F q s p)∧M.oO N U I V a9 O k o X Y F p e be aR=some r) ?_ ?_))
 refine qs λ_ b7=>bd H λal ho H=>?_
 obtain ⟨ar,ae,d⟩:=d.optS 3 rfl ho
 rw [ae] at d
 try rw [ae] at b
 obtain ⟨⟨bf,bg⟩,d⟩:=d.unfI (ck:=jR) (fs:=jP) 3 rfl
 refine rl (wp 3 [0,1,4,14] b λa b=>wc (wld b d 2 5 0 λa b=>bd H λau bP H=>wc (wcS 2 (rg 7) b d (λd=>pE N al bf bg ar (d.sbK (rg 4)) bP) ?_)))
 rintro _ κ w a ⟨rfl,h2⟩ b hB
 have d:=hB _ _ h2
 refine wp 1 [0,1,4,16,17] b λa b=>nl ?_
 obtain ⟨aA,d⟩:=d.foldI (ck:=jR) (fs:=jP) ar (bf,bg) al [0,1] (ra 2 5) (ra 1 4) dc kr kr
 refine b7 _ _ (bk (jX (n:=N) (λn a w => ∃κ ab,Fr (120) [] [k2g j,k2a e,(4,vi e),(16,.agg (flat [eb 4 au]).toArray),(17,vi ab)] a∧SS Ms κ0 w0 κ w (k0z j U I P V Q ar W u f k o x X Y R F.length S A q p.length s B aA al Z a9 (arrX j6 f aq O)) [(ml f 4),(ml k 4),(ml o 4),k2v R S F,k2t q s p,(ml au 4)]∧M.nP N n U I V a9 O k o X Y F p e al au ab=some r) ?_ ?_))
 exact ⟨_,0,b.kp [0,1,4,16,17],d.sp [1,2,3,0,4,5] [5,6,7,8,9,0],H⟩
 rintro n a w ⟨κ,ab,b,d,H⟩
 rcases n with _|bQ
 simp [M.nP] at H
 simp only [M.nP] at H
 refine qr λ_ b8=>wp 1 [0,1,4,16,17,18] b λa b=>b8 _ _ (qs λ_ b9=>bc b H (λhb H=>?_) λhb H=>?_)
 refine sk (b9 _ _ (qs λ_ ca=>bk (qr λ_ cb=>(jG (L':=[k2g j,k2a e,(4,vi e),(16,.agg (flat [eb 4 au]).toArray),(17,vi ab),(19,vi ab)]) 1 [0,1,4,16,17,19] b kr λa b=>bd H λcc bR H=>wc (kR b kr (v:=vb cc) (pA (t:=jN) (E:=4) (n:=4) (m:=4) rfl kr rfl bR (d.get 5 rfl) rfl rfl kr kr kr _) λa b=>wp 2 [0,1,4,5,6,16,17] b λa b=>cb _ _ (qr λ_ cd=>bd H λce ao H=>kA (λa w => ∃κ:Gh,Fr (120) [] [k2g j,k2a e,(4,vi e),(5,vi ab),(16,.agg (flat [eb 4 au]).toArray),(17,vi ab),(26,vb ce)] a∧SS Ms κ0 w0 κ w (k0z j U I P V Q ar W u f k o x X Y R F.length S A q p.length s B aA al Z a9 (arrX j6 f aq O)) [(ml f 4),(ml k 4),(ml o 4),k2v R S F,k2t q s p,(ml au 4)]∧True) ?_ ?_))))))
 refine wp 2 [0,1,4,5,16,17,22] b λa b=>bs ao (λhb ao=>?_) λhb ao=>?_
 have b:=b.bv 22 hb
 refine wp 4 [0,1,4,5,16,17,26] b λa b=>nl ?_
 cases ao
 exact ⟨_,b.kp [0,1,4,5,16,17,26],d.sp (rg 6) (rg 6),trivial⟩
 have b:=b.bv 22 hb
 refine wp 4 [0,1,4,5,16,17,26] b λa b=>nl ?_
 cases ao
 exact ⟨_,b.kp [0,1,4,5,16,17,26],d.sp (rg 6) (rg 6),trivial⟩
 rintro a w ⟨κ,b,d,-⟩
 refine cd _ _ (bc b H (λhb H=>?_) λhb H=>?_)
 refine qr λ_ cg=>wp 2 [0,1,4] b λa b=>cg _ _ (xt ?_)
 exact ⟨_,(some ar),aA,(some al),ab,b.kp [0,1,4],d.sp (rg 6) (rg 5),H⟩
 refine sk (ca _ _ (rl (wp 2 [0,1,4,16,17] b λa b=>nl ?_)))
 exact ⟨bQ,Nat.lt_succ_self _,_,i64.wrap (ab+1),b.kp [0,1,4,16,17],d.sp (rg 6) (rg 6),H⟩
 refine xt ?_
 exact ⟨_,(some ar),aA,(some al),e,b.kp [0,1,4],d.sp (rg 6) (rg 5),H⟩
 rintro a w ⟨κ,b2,ba,be,aR,b,d,H⟩
 unfold M.oO at H
 refine qs λ_ cF=>bd H λcG ho H=>?_
 obtain ⟨G,ae,d⟩:=d.optS 3 rfl ho
 rw [ae] at d
 try rw [ae] at b
 obtain ⟨⟨cH,cI⟩,d⟩:=d.unfI (ck:=jR) (fs:=jP) 3 rfl
 refine rgX d [2,5,6] ?_
 have d:=d.drew
 have hX:=d.px [2,5,6]
 refine anp [0,1,2,4,5,6,7] [0,1,4,31,33,36] b hX λa b=>atk 3 (some 32) b hX rfl (vld 0 5 0) λa b=>atk 8 (some 37) b hX rfl (vld 0 3 0) λa b=>ago 9 b rfl (bd H λaf ch H=>wcS 2 (rg 7) b d (λd=>vZ N cG e V cH cI G (d.sbK (rg 4)) ch) ?_)
 rintro _ κ w a ⟨cJ,cK,rfl,h2⟩ b hB
 have d:=hB _ _ h2
 refine ⟨λ_=>(d.sx [2,5,6] (ra 4 9)),?_⟩
 refine kM ?_
 obtain ⟨aa,d⟩:=d.foldI (ck:=jR) (fs:=jP) G (cJ,cK) af.2 [0,1] (ra 2 5) (rg 4) dc kr kr
 refine cF _ _ (qs λ_ cL=>bd H λc2 ci H=>?_)
 obtain ⟨cM,aJ⟩:=d.arrIdx 5 rfl ci
 have d:=d.add (m:=MP.const (idx f e=some cM)) aJ
 refine rgS d [10,14,18] ?_
 have d:=d.drew
 have hX:=d.fx
 refine jO [0,1,7,8] [0,1,4,40,47] (L':=[k2g j,k2a e,(4,vi aR),(40,vi e),(47,pt j 16)]) (listed':=(mU 19 387)) (fuel:=15) b hX kr (by intro c a w t v h; cases t<;>exact h) kr rfl λa b=>tU [2,3,4,5,11,15,12,16] [0,1,4,40,42,44,47,50,53] b (λ_=>hX) λa b=>?_
 have b:Fr (120) _ [k2g j,k2a e,(4,vi aR),(40,vi e),(42,vi e),(44,vi e),(47,pt j 16),(50,pt j 20),(53,pt j 24)] a:=b.kp [0,1,4,40,42,44,47,50,53]
 refine ago 6 b rfl (bd H λT cj H=>wcS 0 (rg 6) b d (λd=>xP N 0 (d.sbK []) cj) ?_)
 rintro _ κ w a ⟨g,bh,bi,bj,bl,bm,b3,b4,rfl,h2⟩ b hB
 have d:=(hB _ _ h2).cC (C':=[k35 g T.base bh (T.list).length bi T.handed bj (T.done).length bl bm T.got,.ext (ownX jN 4 bj bl T.done),mx bm b3 b4,k30 bh (T.list).length bi,k3s G aa af.2,k3t j U I P V Q G W u f k o x X Y R F.length S A q p.length s B,k3e R F.length S,k2s q p.length s,k3f W Z a9,.ext (arrX j6 f aq O)])
 refine ⟨λ_=>(d.sx [4,5,8,9] (ra 2 14)),?_⟩
 refine atk 9 (some 48) b (d.sx [4,5,8,9] (ra 2 14)) rfl (λw _=>lU (E:=81) (sz:=1) (n:=4) rfl rfl (i:=e) rfl (m1 aJ (d.get 11 rfl)) kr kr w) λa b=>ago 10 b rfl ?_
 obtain ⟨cl,d⟩:=d.foldI (ck:=lO) (fs:=lN) g (bh,bi,bj,bl,bm,b3,b4) T [0,3,1,2] (ra 4 6) [0,1] dc kr kr
 refine lM (t:=pF) (y:=(some g)) (v:=pt g 0) b d kr 2 8 (s':=[si U,si I,(1,P),si V,(8,Q),k34 G,sp W,(2,u),k3l (set f (toNat e) (some g)),ei 4 k,ei 4 o,(6,x),si X,si Y,sl R F.length S,(5,A),sl q p.length s,(1,B)]) (C':=[ox j6 (some g) cl (some T),k3s G aa af.2,k3t j U I P V Q G W u (set f (toNat e) (some g)) k o x X Y R F.length S A q p.length s B,k3e R F.length S,k2s q p.length s,k3f W Z a9,.ext (arrX j6 f aq O)]) rfl rfl kr rfl rfl aJ rfl rfl kr kr kr kr λa w b d=>?_
 have d:=d.add (m:=ml (set f (toNat e) (some g)) 4) (List.length_set.trans (d.get 11 rfl))
 obtain ⟨aL,d⟩:=d.arrSetI 0 6 (ra 1 5) dc (toNat e) rfl rfl
 refine ⟨notE,?_⟩
 refine ago 13 b rfl (bd H λc3 bn H=>l5 b kr (E:=3) (sz:=1) (n:=4) rfl rfl (i:=e) rfl (m1 bn (d.get 13 rfl)) kr kr λa b=>⟨notE,?_⟩)
 refine ago 14 b rfl (lM (t:=(fInt .i64)) (y:=(-1)) (v:=vi (-1)) b d kr 2 9 (s':=[si U,si I,(1,P),si V,(8,Q),k34 G,sp W,(2,u),k3l (set f (toNat e) (some g)),ei 4 (set k (toNat e) (-1)),ei 4 o,(6,x),si X,si Y,sl R F.length S,(5,A),sl q p.length s,(1,B)]) (C':=k10 (arrX j6 (set f (toNat e) (some g)) aL (set O (toNat e) (some T))) G aa af.2 j U I P V Q W u (set f (toNat e) (some g)) (set k (toNat e) (-1)) o x X Y R F.length S A q p.length s B Z a9) rfl rfl kr rfl rfl bn rfl rfl kr kr kr kr λa w b d=>?_)
 have d:=d.add (m:=ml (set k (toNat e) (-1)) 4) (List.length_set.trans (d.get 13 rfl))
 refine ⟨notE,?_⟩
 refine ago 17 b rfl (bd H λc4 bo H=>l5 b kr (E:=3) (sz:=1) (n:=4) rfl rfl (i:=e) rfl (m1 bo (d.get 15 rfl)) kr kr λa b=>⟨notE,?_⟩)
 refine ago 18 b rfl (lM (t:=(fInt .i64)) (y:=0) (v:=vi 0) b d kr 2 10 (s':=[si U,si I,(1,P),si V,(8,Q),k34 G,sp W,(2,u),k3l (set f (toNat e) (some g)),ei 4 (set k (toNat e) (-1)),ei 4 (set o (toNat e) 0),(6,x),si X,si Y,sl R F.length S,(5,A),sl q p.length s,(1,B)]) (C':=k10 (arrX j6 (set f (toNat e) (some g)) aL (set O (toNat e) (some T))) G aa af.2 j U I P V Q W u (set f (toNat e) (some g)) (set k (toNat e) (-1)) (set o (toNat e) 0) x X Y R F.length S A q p.length s B Z a9) rfl rfl kr rfl rfl bo rfl rfl kr kr kr kr λa w b d=>?_)
 have d:=d.add (m:=ml (set o (toNat e) 0) 4) (List.length_set.trans (d.get 15 rfl))
 refine ⟨notE,?_⟩
 refine kM (cL _ _ (qs λ_ cN=>qr λ_ cO=>wp 4 [0,1,55,58] b λa b=>wc (wld b d 2 0 0 λa b=>wp 1 [0,1,60] b λa b=>cO _ _ (bc b H (λhb H=>?_) λhb H=>?_))))
 refine rt ?_
 cases H
 exact j7 b d (mI Tryz.results56) ⟨(some G),aa,W,Z,(set f (toNat e) (some g)),aL,R,S,q,s,rfl,d.sp [2,3,4,1,5,0] [2,1,0,17,18]⟩
 refine sk (cN _ _ (qr λ_ cP=>(wp 7 [0,61,62,63,64,67] b λa b=>wc (wld b d 2 1 0 λa b=>wp 2 [0,62,63,64,68,70] b λa b=>wc (wst b d 2 12 1 [si e] (sgN 1 jE) λa w b d=>wp 2 [0,63,68,72] b λa b=>wc (wst b d 2 13 1 [si I] (sgN 1 jE) λa w b d=>wp 2 [0,74] b λa b=>wc (wst b d 2 14 1 [k2j] (sgN 1 jE) λa w b d=>(cP _ _ (qs λ_ cQ=>qr λ_ cR=>(wp 3 [0,77] b λa b=>wc (wls b d 2 8 1 λa b=>wp 1 [0,78,79] b λa b=>(cR _ _ (bk (jX (n:=N) (λn a w => ∃κ ad ai am aB,∃D:List Int,∃J K C,Fr (120) [] [k2g j,(78,.agg (flat [(4,(encs pF (set f (toNat e) (some g))))]).toArray),(79,vi C)] a∧SS Ms κ0 w0 κ w (k11 j U I P V Q G ad u (set f (toNat e) (some g)) (set k (toNat e) (-1)) (set o (toNat e) 0) x e J D.length K A q p.length s B aa af.2 ai am (arrX j6 (set f (toNat e) (some g)) aB (set O (toNat e) (some T)))) (k0y (ml (set f (toNat e) (some g)) 4) (ml (set k (toNat e) (-1)) 4) (ml (set o (toNat e) 0) 4) J K D q s p)∧M.lQ N n U I V O k o p e af T am D C=some r) ?_ ?_))))))))))))))
 have d:=d.add (m:=Ro.mp (fInt .u64).ty none 0 ([]:List Int)) (Ro.nil (fInt .u64).ty _ _)
 have d:=d.addNil 32 1
 exact ⟨_,W,Z,a9,aL,([]:List Int),none,0,0,b.kp [0,78,79],d.sp [3,0,5,2,6,1] [3,2,1,0,19],H⟩
 rintro n a w ⟨κ,ad,ai,am,aB,D,J,K,C,b,d,H⟩
 rcases n with _|aY
 simp [M.lQ] at H
 simp only [M.lQ] at H
 refine qr λ_ cm=>wp 1 [0,78,79,80] b λa b=>cm _ _ (qs λ_ cn=>bc b H (λhb H=>?_) λhb H=>?_)
 refine sk (cn _ _ (qs λ_ co=>bk (qs λ_ cp=>bd H λcW bS H=>?_)))
 obtain ⟨aM,aS⟩:=d.arrIdx 5 rfl bS
 have d:=d.add (m:=MP.const (idx (set f (toNat e) (some g)) C=some aM)) aS
 refine rl (jG (L':=[k2g j,(78,.agg (flat [(4,(encs pF (set f (toNat e) (some g))))]).toArray),(79,vi C),(81,vi C)]) 1 [0,78,79,81] b kr λa b=>wc (kR b kr (v := .pointer (pa aM)) (pA (t:=pF) (E:=81) (n:=4) (m:=4) rfl kr rfl aS (d.get 1 rfl) rfl rfl kr kr kr _) λa b=>jG (L':=[k2g j,(7,vi C),(8,.pointer (pa aM)),(78,.agg (flat [(4,(encs pF (set f (toNat e) (some g))))]).toArray),(79,vi C)]) 2 [0,7,8,78,79] b kr λa b=>cp _ _ (qs λ_ cq=>bd H λaU L H=>?_)))
 refine kJ (λa w => ∃κ aD,Fr (120) [] [k2g j,(7,vi C),(9,vi aU),(78,.agg (flat [(4,(encs pF (set f (toNat e) (some g))))]).toArray),(79,vi C)] a∧SS Ms κ0 w0 κ w (k11 j U I P V Q G ad u (set f (toNat e) (some g)) (set k (toNat e) (-1)) (set o (toNat e) 0) x e J D.length K A q p.length s B aa af.2 ai am (arrX j6 (set f (toNat e) (some g)) aD (set O (toNat e) (some T)))) (k0y (ml (set f (toNat e) (some g)) 4) (ml (set k (toNat e) (-1)) 4) (ml (set o (toNat e) 0) 4) J K D q s p)∧True) ?_ ?_
 have aF:idx (set f (toNat e) (some g)) C=some aM:=d.get 0 rfl
 refine bd L λcX aO L=>?_
 obtain ⟨cS,cT,d⟩:=d.arrTakeP 5 rfl aO aF
 refine kU L (λah L=>?_) (λbq ah L=>?_)
 obtain ⟨ae,d⟩:=d.optN 0 rfl ah
 have cr:=b
 subst ae
 have b:=cr
 obtain ⟨bT,d⟩:=d.arrBackI 0 1 (ra 2 5) dc rfl rfl aF (aO.trans (congrArg some ah))
 refine rl (wp 1 [0,7,78,79,83] b λa b=>bd L λcY bU L=>wc (wcS 0 (rg 6) b d (λd=>wA N (d.sbK []) bU) ?_))
 rintro _ κ w a ⟨rfl,h2⟩ b hB
 have d:=hB _ _ h2
 refine wp 1 [0,7,9,78,79] b λa b=>nl ?_
 cases L
 exact ⟨_,bT,b.kp [0,7,9,78,79],d.sp [1,2,3,4,5,0] (ra 1 5),trivial⟩
 obtain ⟨br,ae,d⟩:=d.optS 0 rfl ah
 have cs:=b
 subst ae
 have b:=cs
 obtain ⟨⟨bt,bu,bw,bx,bz,bA,bB⟩,d⟩:=d.unfI (ck:=lO) (fs:=lN) 0 rfl
 refine rl (wp 1 [0,7,78,79,83] b λa b=>bd L λcZ bV L=>wc (wcS 3 [0,2,3,1,4,5,6,7,8,9] b d (λd=>yF N bq bt bu bw bx bz bA bB br (d.sbK [0,1]) bV) ?_))
 rintro _ κ w a ⟨rfl,h2⟩ b hB
 have d:=hB _ _ h2
 refine wp 1 [0,7,9,78,79] b λa b=>nl ?_
 obtain ⟨cU,d⟩:=d.foldI (ck:=lO) (fs:=lN) br (bt,bu,bw,bx,bz,bA,bB) bq [0,3,1,2] (ra 4 6) [0,1] dc kr kr
 obtain ⟨bW,d⟩:=d.arrBackI 0 1 (ra 2 5) dc rfl rfl aF (aO.trans (congrArg some ah))
 cases L
 exact ⟨_,bW,b.kp [0,7,9,78,79],d.sp [1,2,3,4,5,0] (ra 3 5),trivial⟩
 rintro a w ⟨κ,aD,b,d,-⟩
 refine cq _ _ (m9 (λa w => ∃κ aV aP aQ an,Fr (120) [] [k2g j,(9,vi an),(78,.agg (flat [(4,(encs pF (set f (toNat e) (some g))))]).toArray),(79,vi C)] a∧SS Ms κ0 w0 κ w (k11 j U I P V Q G aV u (set f (toNat e) (some g)) (set k (toNat e) (-1)) (set o (toNat e) 0) x e J D.length K A q p.length s B aa af.2 aP aQ (arrX j6 (set f (toNat e) (some g)) aD (set O (toNat e) (some T)))) (k0y (ml (set f (toNat e) (some g)) 4) (ml (set k (toNat e) (-1)) 4) (ml (set o (toNat e) 0) 4) J K D q s p)∧M.oN N (M.lQ N aY) U I V O k o p e af T D C aQ an=some r) ?_ ?_)
 refine qr λ_ cu=>(wp 4 [0,9,78,79,85,88] b λa b=>wc (wld b d 0 0 0 λa b=>jG (L':=[k2g j,(9,vi aU),(78,.agg (flat [(4,(encs pF (set f (toNat e) (some g))))]).toArray),(79,vi C),(90,vb (C==U))]) 1 [0,9,78,79,90] b kr λa b=>cu _ _ (bc b H (λhb H=>?_) λhb H=>?_)))
 refine bd H λaW ho H=>?_
 obtain ⟨aX,ae,d⟩:=d.optS 4 rfl ho
 rw [ae] at d
 try rw [ae] at b
 obtain ⟨⟨bC,bD,bE,bF⟩,d⟩:=d.unfI (ck:=kV) (fs:=kT) 4 rfl
 refine rl (wp 3 [0,78,79,93] b λa b=>wc (wld b d 3 6 0 λa b=>bd H λcv bX H=>wc (wcS 1 (rg 8) b d (λd=>tN N aW bC bD bE bF aX (d.sbK [0,1]) bX) ?_)))
 rintro _ κ w a ⟨rfl,h2⟩ b hB
 have d:=hB _ _ h2
 refine wp 1 [0,9,78,79] b λa b=>nl ?_
 obtain ⟨bY,d⟩:=d.foldI (ck:=kV) (fs:=kT) aX (bC,bD,bE,bF) aW [0,1,2] (ra 3 5) [0,1] dc kr kr
 exact ⟨_,(some aX),bY,(some aW),cv,b.kp [0,9,78,79],d.sp [1,2,3,4,0,5] (ra 2 5),H⟩
 refine sk ?_
 exact ⟨_,ad,ai,am,aU,b.kp [0,9,78,79],d.sp (rg 6) (rg 5),H⟩
 rintro a w ⟨κ,aV,aP,aQ,an,b,d,H⟩
 unfold M.oN at H
 refine rl (wp 4 [0,9,78,79,96,99] b λa b=>wc (wld b d 0 14 0 λa b=>jG (L':=[k2g j,(78,.agg (flat [(4,(encs pF (set f (toNat e) (some g))))]).toArray),(79,vi C),(96,pt j 0),(100,.slice J D.length K),(102,vu (u64.wrap an))]) 2 [0,78,79,96,100,102] b kr λa b=>wc (oU (t:=(fInt .u64)) (z:=vu 0) (l:=[u64.wrap an]) (vs:=[(0,vu (u64.wrap an))]) (cells := #[vu (u64.wrap an)]) (E:=32) b d kr rfl kr kr rfl kr kr kr kr kr λc0 κ a w b d=>bd H λbG bZ H=>?_)))
 refine wc (kI (ty:=(fInt .u64).ty) b d kr 2 4 0 rfl rfl rfl kr kr rfl rfl rfl bZ kr (i:=Tryz.t32) (z:=vu 0) kr kr kr λbH bI κ a w b d=>wp 2 [0,78,79,104,106] b λa b=>wc (wst b d 1 14 1 [sl bH bG.length bI] (sgN 1 jE) λa w b d=>co _ _ (rl (wp 2 [0,78,79] b λa b=>nl ?_))))
 exact ⟨aY,Nat.lt_succ_self _,_,aV,aP,aQ,aD,bG,bH,bI,i64.wrap (C+1),b.kp [0,78,79],d.sp (ra 1 6) [2,3,4,0,6],H⟩
 refine xt (cQ _ _ (qr λ_ cw=>(wp 3 [0,110] b λa b=>wc (wld b d 0 1 0 λa b=>wp 1 [0,111,112] b λa b=>(cw _ _ (bk (jX (n:=N) (λn a w => ∃κ,∃aw:List i9,∃ax ay aG,Fr (120) [] [k2g j,(111,vi I),(112,vi aG)] a∧SS Ms κ0 w0 κ w [.box j 87 [si U,si I,(1,P),si V,(8,Q),k34 G,sp ad,(2,u),k3l (set f (toNat e) (some g)),ei 4 (set k (toNat e) (-1)),ei 4 (set o (toNat e) 0),(6,x),si e,si I,sl J D.length K,(5,A),sl ax aw.length ay,(1,B)],k2s ax aw.length ay,k3e J D.length K,k3s G aa af.2,k3f ad ai am,.ext (arrX j6 (set f (toNat e) (some g)) aB (set O (toNat e) (some T)))] (k0y (ml (set f (toNat e) (some g)) 4) (ml (set k (toNat e) (-1)) 4) (ml (set o (toNat e) 0) 4) J K D ax ay aw)∧M.nQ N n U I V O k o e af T am D aw aG=some r) ?_ ?_)))))))
 exact ⟨_,p,q,s,0,b.kp [0,111,112],d.sp [0,2,1,3,4,5] (rg 5),H⟩
 rintro n a w ⟨κ,aw,ax,ay,aG,b,d,H⟩
 rcases n with _|b0
 simp [M.nQ] at H
 simp only [M.nQ] at H
 refine qr λ_ cx=>wp 1 [0,111,112,113] b λa b=>cx _ _ (qs λ_ cy=>bc b H (λhb H=>?_) λhb H=>?_)
 refine sk (cy _ _ (qs λ_ cz=>bk (qr λ_ cA=>wp 2 [0,10,111,112] b λa b=>cA _ _ (rl (wp 3 [0,111,112,115,116,117] b λa b=>?_)))))
 have d:=d.add (m:=Ro.mp jF.ty none 0 ([]:List jC)) (Ro.nil jF.ty _ _)
 have d:=d.add (m:=Ro.mp (fInt .u64).ty none 0 ([]:List Int)) (Ro.nil (fInt .u64).ty _ _)
 refine bd H λbJ b1 H=>?_
 have a0:=d.segs 0 rfl
 refine wc (wcS 2 (rg 6) b d (λd=>lK N U aw aG (jK.mk 5 0 0 0 empty empty ([]:List jC) ([]:List Int) (jT.mk 0 0 0 0 0 empty)) (flat [si I,(1,P),si V,(8,Q),k34 G,sp ad,(2,u),k3l (set f (toNat e) (some g)),ei 4 (set k (toNat e) (-1)),ei 4 (set o (toNat e) 0),(6,x),si e,si I,sl J D.length K,(5,A)]) ax ay B none 0 none 0 j ((d.regr 0 [(false,1),(true,15),(false,2)] rfl).sbK [6,1,0]) b1) ?_)
 rintro _ κ w a ⟨bK,bL,rfl,h2⟩ b hB
 have d:=(hB _ _ h2).unregrK 0 [(false,1),(true,15),(false,2)] (s':=[si U,si I,(1,P),si V,(8,Q),k34 G,sp ad,(2,u),k3l (set f (toNat e) (some g)),ei 4 (set k (toNat e) (-1)),ei 4 (set o (toNat e) 0),(6,x),si e,si I,sl J D.length K,(5,A),sl bK bJ.length bL,(1,B)]) a0 rfl
 refine cz _ _ (rl (wp 2 [0,111,112] b λa b=>nl ?_))
 exact ⟨b0,Nat.lt_succ_self _,_,bJ,bK,bL,i64.wrap (aG+1),b.kp [0,111,112],d.sp (rg 6) [3,4,5,6,0],H⟩
 refine xt ?_
 cases H
 exact j7 b d (mI Tryz.results56) ⟨(some G),aa,ad,ai,(set f (toNat e) (some g)),aB,J,K,ax,ay,rfl,d.sp [0,2,1,3,4,5] (rg 5)⟩
theorem yG (N){Ms}{κ0}{w0}(a1)(a2)(a3)(a4)(a5)(a6)(x:jA)(k:(List Int))(B:(List Bool))(C:(List Int))(aD)(a0)(aQ)(aR)(ao)(aS)(aa)(ab)(aU)(aV)(I:(List j3))(aW)(bw)(aq)(aL)(T:(List Int))(J:(List Int))(az)(aE)(aF)(aG)(D:(List i9))(b:jK)(p8)(c9)(W)(X)(l)(o)(p)(q)(s)(u)(aP)(aO)(av)(aw)(ar)(ax)(j)(aJ)(K)(ad)(ae)(L)(af)(ah)(O)(P)(Q)(ai)(aj)(Y)(aT)(aX)(U)(V)(R)(S)(F)(G)(Z)(ak)(al)(am)(an)(g)(hB:SB Ms κ0 w0 [k3u g a1 a2 a3 a4 a5 a6 p8 (x.Cuts).length c9 W (x.Nodes).length X l k.length o p B.length q s C.length u aD aP av ar ao j aa ab K L O I.length P Q Y aT aq aL U T.length V R J.length S az aE aF aG F D.length G Z,k3d O I.length P,k3e U T.length V,k3e R J.length S,k2s F D.length G,.ext (ownX (fInt .i64) 3 l o k),.ext (ownX jN 4 p q B),.ext (ownX (fInt .i64) 3 s u C),k2c aP aO a0,k3f av aw aQ,k3g ar ax aR,.ext (arrX j6 j aJ aS),mx K ad ae,mx L af ah,mx Q ai aj,k2y aT aX bw] (k12 p8 c9 x.Cuts W X x.Nodes (ml j 4) (ml aa 4) (ml ab 4) K ad ae aU L af ah aV O P I Q ai aj aW U V T R S J F G D ak al b.Vers am an b.Vec)){r}(H:M.qX N a1 a2 a3 a4 a5 a6 x k B C aD a0 aQ aR ao aS aa ab aU aV I aW bw aq aL T J az aE aF aG D b=some r) :
    Calls Tryz.prog 31 #[pt g 0,.agg (flat (k07 b.Kind b.Id b.N b.TS b.Lo b.Hi ak (b.Vers).length al am (b.Vec).length an b.Cmd.Kind b.Cmd.DC b.Cmd.Shard b.Cmd.Node b.Cmd.Mode b.Cmd.Key)).toArray] w0 (kQ Ms κ0 w0 λv κ w => ∃eF eG eH eI eJ eK eL eM eN eO eP fT eQ fU eR fV d9 fW ea eS eT ec eU eV ed ee ef eW eX eY fX eg eh ej ek el em,v = .tuple #[]∧SS Ms κ0 w0 κ w [k3u g a1 a2 r.1 r.2.1 r.2.2.1 r.2.2.2.1 eF (r.u4.1.Cuts).length eG eH (r.u4.1.Nodes).length eI eJ (r.u4.2.1).length eK eL (r.u4.2.2.1).length eM eN (r.u4.2.2.2.1).length eO r.u8.1 eP eQ eR r.u8.u4.1 d9 r.u8.u4.2.2.1 r.u8.u4.2.2.2.1 ea ec ed (r.u8.u8.2.2.1).length ee ef Y eY r.u8.u8.u4.2.1 r.u8.u8.u4.2.2.1 eg (r.u8.u8.u4.2.2.2.1).length eh ej (r.u8.u8.u8.1).length ek r.u8.u8.u8.2.1 r.u8.u8.u8.2.2.1 r.u8.u8.u8.2.2.2.1 r.u8.u8.u8.u4.1 el (r.u8.u8.u8.u4.2).length em Z,k3d ed (r.u8.u8.2.2.1).length ee,k3e eg (r.u8.u8.u4.2.2.2.1).length eh,k3e ej (r.u8.u8.u8.1).length ek,k2s el (r.u8.u8.u8.u4.2).length em,.ext (ownX (fInt .i64) 3 eJ eK r.u4.2.1),.ext (ownX jN 4 eL eM r.u4.2.2.1),.ext (ownX (fInt .i64) 3 eN eO r.u4.2.2.2.1),k2c eP fT r.u8.2.1,k3f eQ fU r.u8.2.2.1,k3g eR fV r.u8.2.2.2.1,.ext (arrX j6 d9 fW r.u8.u4.2.1),mx ea eS eT,mx ec eU eV,mx ef eW eX,k2y eY fX r.u8.u8.u4.1] [k2l eF eG r.u4.1.Cuts,k2m eH eI r.u4.1.Nodes,(ml d9 4),(ml r.u8.u4.2.2.1 4),(ml r.u8.u4.2.2.2.1 4),k3h ea eS eT r.u8.u8.1,k3i ec eU eV r.u8.u8.2.1,k3j ed ee r.u8.u8.2.2.1,k3k ef eW eX r.u8.u8.2.2.2.1,k2v eg eh r.u8.u8.u4.2.2.2.1,k2v ej ek r.u8.u8.u8.1,k2t el em r.u8.u8.u8.u4.2]):=by
 have e:=hB.hS
 have iz:=e.fresh
 refine en Tryz.func31 rfl Tryz.ntmps31 λa d=>?_
 unfold M.qX at H
 refine qr λ_ hW=>wc (wbx d e (k07 b.Kind b.Id b.N b.TS b.Lo b.Hi ak (b.Vers).length al am (b.Vec).length an b.Cmd.Kind b.Cmd.DC b.Cmd.Shard b.Cmd.Node b.Cmd.Mode b.Cmd.Key) (sgN 14 jE) λA a w d e=>hW _ _ (qs λ_ hY=>qs λ_ hZ=>bd H λh0 cK H=>kJ (λa w => ∃κ:Gh,Fr (476) [] [k2g g,k25 A,(33,vb h0)] a∧SS Ms κ0 w0 κ w (k13 A b.Kind b.Id b.N b.TS b.Lo b.Hi ak (b.Vers).length al am (b.Vec).length an b.Cmd.Kind b.Cmd.DC b.Cmd.Shard b.Cmd.Node b.Cmd.Mode b.Cmd.Key g a1 a2 a3 a4 a5 a6 p8 (x.Cuts).length c9 W (x.Nodes).length X l k.length o p B.length q s C.length u aD aP av ar ao j aa ab K L O I.length P Q Y aT aq aL U T.length V R J.length S az aE aF aG F D.length G Z (ownX (fInt .i64) 3 l o k) (ownX jN 4 p q B) (ownX (fInt .i64) 3 s u C) aO a0 aw aQ ax aR (arrX j6 j aJ aS) ad ae af ah ai aj aX bw) (k12 p8 c9 x.Cuts W X x.Nodes (ml j 4) (ml aa 4) (ml ab 4) K ad ae aU L af ah aV O P I Q ai aj aW U V T R S J F G D ak al b.Vers am an b.Vec)∧True) ?_ ?_))
 refine rgS e [] ?_
 have e:=e.drew
 have hX:=e.fx
 refine anp [0] [0,3,14] d hX λa d=>atk 1 (some 15) d hX rfl (vld 0 0 0) λa d=>anp [2,3] [0,3,17] d hX λa d=>bs cK (λhb cK=>?_) λhb cK=>?_
 have d:=d.bv 17 hb
 refine anp [4,5,6] [0,3,17,20] d hX λa d=>atk 7 (some 21) d hX rfl (vld 1 2 0) λa d=>anp [8,9,10] [0,3,24] d hX λa d=>bs cK (λhb cK=>?_) λhb cK=>?_
 have d:=d.bv 24 hb
 refine anp [11,13,14,15] [0,3,24,25,29] d hX λa d=>atk 12 (some 26) d hX rfl (vld 0 1 0) λa d=>atk 16 (some 30) d hX rfl (vld 1 3 0) λa d=>anp [17,18,19] [0,3,33] d hX λa d=>kM ?_
 cases cK
 exact ⟨_,d.kp [0,3,33],e.sp (rg 17) (rg 14),trivial⟩
 have d:=d.bv 24 hb
 refine anp (ra 11 9) [0,3,33] d hX λa d=>kM ?_
 cases cK
 exact ⟨_,d.kp [0,3,33],e.sp (rg 17) (rg 14),trivial⟩
 have d:=d.bv 17 hb
 refine anp (ra 4 16) [0,3,33] d hX λa d=>kM ?_
 cases cK
 exact ⟨_,d.kp [0,3,33],e.sp (rg 17) (rg 14),trivial⟩
 rintro a w ⟨κ,d,e,-⟩
 refine hZ _ _ (bc d H (λhb H=>?_) λhb H=>?_)
 refine qr λ_ h1=>wp 3 [0,3,34,35,36] d λa d=>wc (wld d e 0 3 0 λa d=>wp 2 [0,3,35,37,39] d λa d=>wc (wst d e 1 29 1 [su b.TS] (sgN 1 jE) λa w d e=>wp 2 [0,3,41] d λa d=>wc (wst d e 1 30 1 [sb true] (sgN 1 jE) λa w d e=>h1 _ _ (qs λ_ h3=>rgS e [10] ?_))))
 have e:=e.drew
 have hX:=e.fx
 refine anp [0,1,2,3,5] [42,45,47] d hX λa d=>atk 4 (some 46) d hX rfl (vld 1 15 0) λa d=>atk 6 (some 48) d hX rfl (vld 0 3 0) λa d=>anp [7,8,9] [49,51] d hX λa d=>ago 10 d rfl (wst d e 1 15 1 [su (if b.TS > ao then b.TS else ao)] (sgN 1 jE) λa w d e=>⟨notE,?_⟩)
 refine kM (h3 _ _ (rt ?_))
 cases H
 exact j7 d e (mI Tryz.results31) ⟨p8,c9,W,X,l,o,p,q,s,u,aP,aO,av,aw,ar,ax,j,aJ,K,ad,ae,L,af,ah,O,P,Q,ai,aj,aT,aX,U,V,R,S,F,G,rfl,e.sp (ra 1 16) (rg 12)⟩
 refine sk (hY _ _ (qs λ_ h4=>qs λ_ h5=>bd H λh6 ba H=>kJ (λa w => ∃κ:Gh,Fr (476) [] [k2g g,k25 A,(87,vb h6)] a∧SS Ms κ0 w0 κ w (k13 A b.Kind b.Id b.N b.TS b.Lo b.Hi ak (b.Vers).length al am (b.Vec).length an b.Cmd.Kind b.Cmd.DC b.Cmd.Shard b.Cmd.Node b.Cmd.Mode b.Cmd.Key g a1 a2 a3 a4 a5 a6 p8 (x.Cuts).length c9 W (x.Nodes).length X l k.length o p B.length q s C.length u aD aP av ar ao j aa ab K L O I.length P Q Y aT aq aL U T.length V R J.length S az aE aF aG F D.length G Z (ownX (fInt .i64) 3 l o k) (ownX jN 4 p q B) (ownX (fInt .i64) 3 s u C) aO a0 aw aQ ax aR (arrX j6 j aJ aS) ad ae af ah ai aj aX bw) (k12 p8 c9 x.Cuts W X x.Nodes (ml j 4) (ml aa 4) (ml ab 4) K ad ae aU L af ah aV O P I Q ai aj aW U V T R S J F G D ak al b.Vers am an b.Vec)∧True) ?_ ?_))
 refine rgS e [] ?_
 have e:=e.drew
 have hX:=e.fx
 refine anp [0] [0,3,52] d hX λa d=>atk 1 (some 53) d hX rfl (vld 0 0 0) λa d=>anp [2,3] [0,3,55] d hX λa d=>bs ba (λhb ba=>?_) λhb ba=>?_
 have d:=d.bv 55 hb
 refine anp (ra 4 32) [0,3,87] d hX λa d=>kM ?_
 cases ba
 exact ⟨_,d.kp [0,3,87],e.sp (rg 17) (rg 14),trivial⟩
 have d:=d.bv 55 hb
 refine anp [4,6,7,8] [0,3,55,56,60] d hX λa d=>atk 5 (some 57) d hX rfl (vld 0 1 0) λa d=>atk 9 (some 61) d hX rfl (vld 1 3 0) λa d=>anp (ra 10 4) [0,3,65] d hX λa d=>bs ba (λhb ba=>?_) λhb ba=>?_
 have d:=d.bv 65 hb
 refine anp (ra 14 22) [0,3,87] d hX λa d=>kM ?_
 cases ba
 exact ⟨_,d.kp [0,3,87],e.sp (rg 17) (rg 14),trivial⟩
 have d:=d.bv 65 hb
 refine anp [14] [0,3,65,66] d hX λa d=>atk 15 (some 67) d hX rfl (vld 0 1 0) λa d=>anp [16,17,18] [0,3,70] d hX λa d=>bs ba (λhb ba=>?_) λhb ba=>?_
 have d:=d.bv 70 hb
 refine anp (ra 19 17) [0,3,87] d hX λa d=>kM ?_
 cases ba
 exact ⟨_,d.kp [0,3,87],e.sp (rg 17) (rg 14),trivial⟩
 have d:=d.bv 70 hb
 refine anp [19] [0,3,70,71] d hX λa d=>atk 20 (some 72) d hX rfl (vld 0 7 0) λa d=>anp (ra 21 4) [0,3,76] d hX λa d=>bs ba (λhb ba=>?_) λhb ba=>?_
 have d:=d.bv 76 hb
 refine anp (ra 25 11) [0,3,87] d hX λa d=>kM ?_
 cases ba
 exact ⟨_,d.kp [0,3,87],e.sp (rg 17) (rg 14),trivial⟩
 have d:=d.bv 76 hb
 refine anp [25,26] [0,3,76,78] d hX λa d=>atk 27 (some 79) d hX rfl (vld 0 9 0) λa d=>anp [28,29,30] [0,3,82] d hX λa d=>bs ba (λhb ba=>?_) λhb ba=>?_
 have d:=d.bv 82 hb
 refine anp (ra 31 5) [0,3,87] d hX λa d=>kM ?_
 cases ba
 exact ⟨_,d.kp [0,3,87],e.sp (rg 17) (rg 14),trivial⟩
 have d:=d.bv 82 hb
 refine anp [31,32] [0,3,82,84] d hX λa d=>atk 33 (some 85) d hX rfl (vld 0 9 0) λa d=>anp [34,35] [0,3,87] d hX λa d=>kM ?_
 cases ba
 exact ⟨_,d.kp [0,3,87],e.sp (rg 17) (rg 14),trivial⟩
 rintro a w ⟨κ,d,e,-⟩
 refine h5 _ _ (bc d H (λhb H=>?_) λhb H=>?_)
 refine rt ?_
 cases H
 exact j7 d e (mI Tryz.results31) ⟨p8,c9,W,X,l,o,p,q,s,u,aP,aO,av,aw,ar,ax,j,aJ,K,ad,ae,L,af,ah,O,P,Q,ai,aj,aT,aX,U,V,R,S,F,G,rfl,e.sp (ra 1 16) (rg 12)⟩
 refine sk (h4 _ _ (qr λ_ h7=>wp 2 [0,3,88,89] d λa d=>wc (wld d e 0 1 0 λa d=>wp 3 [0,3,91,93] d λa d=>wc (wst d e 1 3 1 [si (i64.wrap b.Id)] (sgN 1 jE) λa w d e=>h7 _ _ (qr λ_ h8=>wp 1 [0,3,94] d λa d=>?_)))))
 have e:=e.add (m:=ml (replicate 4 false) 4) (List.length_replicate)
 refine wc (wal d e [eb 4 (replicate 4 false)] (kO List.length_replicate jE) λbZ a w d e=>wc (wst d e 0 0 1 [eb 4 (replicate 4 false)] (kO List.length_replicate jE) λa w d e=>(h8 _ _ (qs λ_ h9=>qr λ_ ia=>(wp 1 [0,3,4,95] d λa d=>(ia _ _ (bk (jX (n:=N) (λn a w => ∃κ be bx,Fr (476) [] [k2g g,k25 A,k26 bZ,(95,vi bx)] a∧SS Ms κ0 w0 κ w (k14 bZ be A b.Kind b.Id b.N b.TS b.Lo b.Hi ak (b.Vers).length al am (b.Vec).length an b.Cmd.Kind b.Cmd.DC b.Cmd.Shard b.Cmd.Node b.Cmd.Mode b.Cmd.Key g a1 a2 a3 (i64.wrap b.Id) a5 a6 p8 (x.Cuts).length c9 W (x.Nodes).length X l k.length o p B.length q s C.length u aD aP av ar ao j aa ab K L O I.length P Q Y aT aq aL U T.length V R J.length S az aE aF aG F D.length G Z (ownX (fInt .i64) 3 l o k) (ownX jN 4 p q B) (ownX (fInt .i64) 3 s u C) aO a0 aw aQ ax aR (arrX j6 j aJ aS) ad ae af ah ai aj aX bw) (k15 p8 c9 x.Cuts W X x.Nodes (ml j 4) (ml aa 4) (ml ab 4) K ad ae aU L af ah aV O P I Q ai aj aW U V T R S J F G D (ml be 4) ak al b.Vers am an b.Vec)∧M.nC N n a1 a2 a3 a5 a6 x k B C aD a0 aQ aR ao aS aa ab aU aV I aW bw aq aL T J az aE aF aG D b be bx=some r) ?_ ?_))))))))
 exact ⟨_,(replicate 4 false),0,d.kp [0,3,4,95],e.sp (rg 18) [1,2,3,4,5,6,7,8,9,10,11,12,0,13,14],H⟩
 rintro n a w ⟨κ,be,bx,d,e,H⟩
 rcases n with _|fY
 simp [M.nC] at H
 simp only [M.nC] at H
 refine qr λ_ gv=>wp 1 [0,3,4,95,96] d λa d=>gv _ _ (qs λ_ gw=>bc d H (λhb H=>?_) λhb H=>?_)
 refine sk (gw _ _ (qs λ_ gx=>bk (qr λ_ gy=>(wp 2 [0,3,4,5,95] d λa d=>(gy _ _ (rl (jG (L':=[k2g g,k25 A,k26 bZ,(5,vi bx),(95,vi bx),(98,vi bx),(99,pt A 7)]) 2 [0,3,4,5,95,98,99] d kr λa d=>wc (wld d e 1 7 0 λa d=>bd H λeZ et H=>wc (kS d e kr 14 (E:=32) (sz:=1) rfl rfl rfl kr rfl et kr kr λib ic a e0 d=>wc (mM (t:=(fInt .u64)) d e kr 14 0 (v:=vu eZ) rfl rfl e0 rfl et kr kr kr λa d=>jG (L':=[k2g g,k25 A,k26 bZ,(95,vi bx),(98,vi bx),(102,vu eZ),(103,vi bx)]) 1 [0,3,4,95,98,102,103] d kr λa d=>?_))))))))))
 refine bd H λcW fZ H=>wc (kR d kr (v:=vu cW) ((JQ rfl rfl rfl fZ) _) λa d=>jG (L':=[k2g g,k25 A,k26 bZ,(95,vi bx),(98,vi bx),(106,vb (iAnd .u64 cW 1==1))]) 2 [0,3,4,95,98,106] d kr λa d=>bd H λie eu H=>wc (l5 d kr (E:=4) (sz:=1) (n:=4) rfl rfl (i:=bx) rfl (m1 eu (e.get 12 rfl)) kr kr λa d=>wc (lM (t:=jN) (y:=(iAnd .u64 cW 1==1)) (v:=vb (iAnd .u64 cW 1==1)) d e kr 0 0 (s':=[eb 4 (set be (toNat bx) (iAnd .u64 cW 1==1))]) (C':=k14 bZ (set be (toNat bx) (iAnd .u64 cW 1==1)) A b.Kind b.Id b.N b.TS b.Lo b.Hi ak (b.Vers).length al am (b.Vec).length an b.Cmd.Kind b.Cmd.DC b.Cmd.Shard b.Cmd.Node b.Cmd.Mode b.Cmd.Key g a1 a2 a3 (i64.wrap b.Id) a5 a6 p8 (x.Cuts).length c9 W (x.Nodes).length X l k.length o p B.length q s C.length u aD aP av ar ao j aa ab K L O I.length P Q Y aT aq aL U T.length V R J.length S az aE aF aG F D.length G Z (ownX (fInt .i64) 3 l o k) (ownX jN 4 p q B) (ownX (fInt .i64) 3 s u C) aO a0 aw aQ ax aR (arrX j6 j aJ aS) ad ae af ah ai aj aX bw) rfl rfl kr rfl rfl eu rfl rfl kr kr kr kr λa w d e=>?_)))
 have e:=e.add (m:=ml (set be (toNat bx) (iAnd .u64 cW 1==1)) 4) (List.length_set.trans (e.get 12 rfl))
 refine gx _ _ (rl (wp 2 [0,3,4,95] d λa d=>nl ?_))
 exact ⟨fY,Nat.lt_succ_self _,_,(set be (toNat bx) (iAnd .u64 cW 1==1)),i64.wrap (bx+1),d.kp [0,3,4,95],e.sp (rg 18) [1,2,3,4,5,6,7,8,9,10,11,12,0,14,15],H⟩
 refine xt (h9 _ _ (qs λ_ gz=>rgS e [] ?_))
 have e:=e.drew
 have hX:=e.fx
 refine anp [0,1,3,4,5] [0,3,4,110,114] d hX λa d=>atk 2 (some 111) d hX rfl (vld 1 9 0) λa d=>atk 6 (some 115) d hX rfl (vld 2 0 0) λa d=>anp [7,8] [0,3,4,6] d hX λa d=>kM (gz _ _ (m9 (λa w => ∃κ b0 b1 b2,∃bJ:List ByteArray,∃bU bV,∃bK:List Int,∃bW bX bC cy cF bD cz cG bE cA cH bi cB cI bL bM bj cq cr c4 bl cs cu c5,∃bf:List j3,∃bm bn bo cv cw c6 bF cD cJ b3 b4,∃bg:List Int,∃bq br,∃bh:List Int,∃bt bu b5 b6 b7 b8,∃dn:List i9,∃dw dx,Fr (476) [] [k2g g,k25 A] a∧SS Ms κ0 w0 κ w [k3u g a1 a2 b0 (i64.wrap b.Id) b1 b2 bU bJ.length bV bW bK.length bX l k.length o p B.length q s C.length u aD bC bD bE ao bi bL bM bj bl bm bf.length bn bo Y bF b3 b4 bq bg.length br bt bh.length bu b5 b6 b7 b8 dw dn.length dx Z,k3v A b.Kind b.Id b.N b.TS b.Lo b.Hi ak (b.Vers).length al am (b.Vec).length an b.Cmd.Kind b.Cmd.DC b.Cmd.Shard b.Cmd.Node b.Cmd.Mode b.Cmd.Key,k3d bm bf.length bn,k3e bq bg.length br,k3e bt bh.length bu,k2s dw dn.length dx,.ext (ownX (fInt .i64) 3 l o k),.ext (ownX jN 4 p q B),.ext (ownX (fInt .i64) 3 s u C),k2c bC cy cF,k3f bD cz cG,k3g bE cA cH,.ext (arrX j6 bi cB cI),mx bj cq cr,mx bl cs cu,mx bo cv cw,k2y bF cD cJ] (k12 bU bV bJ bW bX bK (ml bi 4) (ml bL 4) (ml bM 4) bj cq cr c4 bl cs cu c5 bm bn bf bo cv cw c6 bq br bg bt bu bh dw dx dn ak al b.Vers am an b.Vec)∧M.kL N a1 a2 k B C aD ao b b0 b1 b2 bJ bK cF cG cH cI bL bM c4 c5 bf c6 cJ b3 b4 bg bh b5 b6 b7 b8 dn=some r) ?_ ?_))
 refine bk (qr λ_ gA=>bd H λgB cb H=>kA (λa w => ∃κ:Gh,Fr (476) [] [k2g g,k25 A,k26 bZ,(6,vb (b.Cmd.DC==a1)),(117,vb gB)] a∧SS Ms κ0 w0 κ w (k14 bZ be A b.Kind b.Id b.N b.TS b.Lo b.Hi ak (b.Vers).length al am (b.Vec).length an b.Cmd.Kind b.Cmd.DC b.Cmd.Shard b.Cmd.Node b.Cmd.Mode b.Cmd.Key g a1 a2 a3 (i64.wrap b.Id) a5 a6 p8 (x.Cuts).length c9 W (x.Nodes).length X l k.length o p B.length q s C.length u aD aP av ar ao j aa ab K L O I.length P Q Y aT aq aL U T.length V R J.length S az aE aF aG F D.length G Z (ownX (fInt .i64) 3 l o k) (ownX jN 4 p q B) (ownX (fInt .i64) 3 s u C) aO a0 aw aQ ax aR (arrX j6 j aJ aS) ad ae af ah ai aj aX bw) (k15 p8 c9 x.Cuts W X x.Nodes (ml j 4) (ml aa 4) (ml ab 4) K ad ae aU L af ah aV O P I Q ai aj aW U V T R S J F G D (ml be 4) ak al b.Vers am an b.Vec)∧True) ?_ ?_)
 refine wp 2 [0,3,4,6,119] d λa d=>wc (wld d e 1 8 0 λa d=>wp 2 [0,3,4,6,122] d λa d=>bs cb (λhb cb=>?_) λhb cb=>?_)
 have d:=d.bv 122 hb
 refine wp 1 [0,3,4,6,122,123] d λa d=>wcg d (wld d e 1 2 0 λa d=>wp 3 [0,3,4,6,127] d λa d=>bs cb (λhb cb=>?_) λhb cb=>?_)
 have d:=d.bv 127 hb
 refine wp 3 [0,3,4,6,117] d λa d=>nl ?_
 cases cb
 exact ⟨_,d.kp [0,3,4,6,117],e.sp (rg 18) (rg 15),trivial⟩
 have d:=d.bv 127 hb
 refine wp 3 [0,3,4,6,117] d λa d=>nl ?_
 cases cb
 exact ⟨_,d.kp [0,3,4,6,117],e.sp (rg 18) (rg 15),trivial⟩
 have d:=d.bv 122 hb
 refine wp 8 [0,3,4,6,117] d λa d=>nl ?_
 cases cb
 exact ⟨_,d.kp [0,3,4,6,117],e.sp (rg 18) (rg 15),trivial⟩
 rintro a w ⟨κ,d,e,-⟩
 refine gA _ _ (bc d H (λhb H=>?_) λhb H=>?_)
 refine rl (wp 1 [0,3,4,130] d λa d=>wc (wls d e 0 0 1 λa d=>bd H λay f0 H=>?_))
 have ey:=e.segs 2 rfl
 refine wc (wcS 13 [2,3,4,5,6,10,11,12,13,14,15,16,17,0,1,7,8,9] d e (λe=>zR N a1 a2 a3 (i64.wrap b.Id) a5 a6 x a0 aQ aR ao aS aa ab aU aV I aW bw aL T J az aE aF aG D be p8 c9 W X (flat [sl l k.length o,sl p B.length q,sl s C.length u,sb aD]) aP aO av aw ar ax j aJ K ad ae L af ah O P Q ai aj Y aT aX [vi aq] U V R S F G Z g ((e.regr 0 [(false,8),(true,4),(false,23)] rfl).sbK (rg 13)) f0) ?_)
 rintro _ κ w a ⟨e1,e2,e3,e4,e5,f1,e6,f2,e7,f3,e8,f4,e9,gC,gD,fa,gE,gF,fb,fc,fd,gG,gH,fe,f5,fg,fh,fi,fj,fk,fl,rfl,h2⟩ d hB
 have e:=(hB _ _ h2).unregrK 0 [(false,8),(true,4),(false,23)] (s':=k16 a1 a2 ay.1 (i64.wrap b.Id) ay.2.1 ay.2.2.1 e1 (ay.2.2.2.1.Cuts).length e2 e3 (ay.2.2.2.1.Nodes).length e4 l k.length o p B.length q s C.length u aD e5 e6 e7 ao e8 ay.u8.1 ay.u8.2.1 e9 fa fb (ay.u8.u4.1).length fc fd Y fe aq ay.u8.u4.2.2.2.1 fg (ay.u8.u8.1).length fh fi (ay.u8.u8.2.1).length fj ay.u8.u8.2.2.1 ay.u8.u8.2.2.2.1 ay.u8.u8.u4.1 ay.u8.u8.u4.2.1 fk (ay.u8.u8.u4.2.2).length fl Z) ey rfl
 refine nl ?_
 exact ⟨_,ay.1,ay.2.1,ay.2.2.1,ay.2.2.2.1.Cuts,e1,e2,ay.2.2.2.1.Nodes,e3,e4,e5,f1,ay.u4.1,e6,f2,ay.u4.2.1,e7,f3,ay.u4.2.2.1,e8,f4,ay.u4.2.2.2.1,ay.u8.1,ay.u8.2.1,e9,gC,gD,ay.u8.2.2.1,fa,gE,gF,ay.u8.2.2.2.1,ay.u8.u4.1,fb,fc,fd,gG,gH,ay.u8.u4.2.1,fe,f5,ay.u8.u4.2.2.1,aq,ay.u8.u4.2.2.2.1,ay.u8.u8.1,fg,fh,ay.u8.u8.2.1,fi,fj,ay.u8.u8.2.2.1,ay.u8.u8.2.2.2.1,ay.u8.u8.u4.1,ay.u8.u8.u4.2.1,ay.u8.u8.u4.2.2,fk,fl,d.kp [0,3],e.sp [0,14,1,2,3,4,15,16,17,5,6,7,8,9,10,11,12] [0,1,2,3,4,5,6,7,8,9,10,11,25,26],H⟩
 refine qr λ_ gI=>bd H λgJ cc H=>kA (λa w => ∃κ:Gh,Fr (476) [] [k2g g,k25 A,k26 bZ,(6,vb (b.Cmd.DC==a1)),(133,vb gJ)] a∧SS Ms κ0 w0 κ w (k14 bZ be A b.Kind b.Id b.N b.TS b.Lo b.Hi ak (b.Vers).length al am (b.Vec).length an b.Cmd.Kind b.Cmd.DC b.Cmd.Shard b.Cmd.Node b.Cmd.Mode b.Cmd.Key g a1 a2 a3 (i64.wrap b.Id) a5 a6 p8 (x.Cuts).length c9 W (x.Nodes).length X l k.length o p B.length q s C.length u aD aP av ar ao j aa ab K L O I.length P Q Y aT aq aL U T.length V R J.length S az aE aF aG F D.length G Z (ownX (fInt .i64) 3 l o k) (ownX jN 4 p q B) (ownX (fInt .i64) 3 s u C) aO a0 aw aQ ax aR (arrX j6 j aJ aS) ad ae af ah ai aj aX bw) (k15 p8 c9 x.Cuts W X x.Nodes (ml j 4) (ml aa 4) (ml ab 4) K ad ae aU L af ah aV O P I Q ai aj aW U V T R S J F G D (ml be 4) ak al b.Vers am an b.Vec)∧True) ?_ ?_
 refine wp 2 [0,3,4,6,135] d λa d=>wc (wld d e 1 8 0 λa d=>wp 2 [0,3,4,6,138] d λa d=>bs cc (λhb cc=>?_) λhb cc=>?_)
 have d:=d.bv 138 hb
 refine wp 1 [0,3,4,6,138,139] d λa d=>wcg d (wld d e 1 2 0 λa d=>wp 3 [0,3,4,6,143] d λa d=>bs cc (λhb cc=>?_) λhb cc=>?_)
 have d:=d.bv 143 hb
 refine wp 3 [0,3,4,6,143,146] d λa d=>wcg d (wld d e 2 2 0 λa d=>wp 3 [0,3,4,6,133] d λa d=>nl ?_)
 cases cc
 exact ⟨_,d.kp [0,3,4,6,133],e.sp (rg 18) (rg 15),trivial⟩
 have d:=d.bv 143 hb
 refine wp 7 [0,3,4,6,133] d λa d=>nl ?_
 cases cc
 exact ⟨_,d.kp [0,3,4,6,133],e.sp (rg 18) (rg 15),trivial⟩
 have d:=d.bv 138 hb
 refine wp 12 [0,3,4,6,133] d λa d=>nl ?_
 cases cc
 exact ⟨_,d.kp [0,3,4,6,133],e.sp (rg 18) (rg 15),trivial⟩
 rintro a w ⟨κ,d,e,-⟩
 refine gI _ _ (bc d H (λhb H=>?_) λhb H=>?_)
 refine rl (wp 3 [0,3,150,152] d λa d=>wc (wld d e 1 9 0 λa d=>bd H λbN f6 H=>?_))
 have ez:=e.segs 2 rfl
 refine wc (wcS 6 [2,4,6,10,11,13,0,1,3,5,7,8,9,12,14,15,16,17] d e (λe=>z0 N a1 a2 (i64.wrap b.Id) a0 aQ aS aa ab aq aL T D b.Cmd.DC [vi a3] (flat [si a5,si a6,sl p8 (x.Cuts).length c9,sl W (x.Nodes).length X,sl l k.length o,sl p B.length q,sl s C.length u,sb aD]) aP aO av aw (flat [sp ar,su ao]) j aJ (flat [sm K,sm L,sl O I.length P,sm Q,(1,Y),sp aT]) U V (flat [sl R J.length S,su az,sb aE,sb aF,sb aG]) F G Z g ((e.regr 0 [(false,4),(true,8),(false,2),(true,2),(false,3),(true,6),(false,3),(true,5),(false,2)] rfl).sbK [2,3,4,9,11]) f6) ?_)
 rintro _ κ w a ⟨fm,f7,fn,f8,fo,f9,fp,fq,fr,ft,rfl,h2⟩ d hB
 have e:=(hB _ _ h2).unregrK 0 [(false,4),(true,8),(false,2),(true,2),(false,3),(true,6),(false,3),(true,5),(false,2)] (s':=k16 a1 a2 a3 (i64.wrap b.Id) a5 a6 p8 (x.Cuts).length c9 W (x.Nodes).length X l k.length o p B.length q s C.length u aD fm fn ar ao fo bN.2.2.2.1 bN.u4.1 K L O I.length P Q Y aT bN.u4.2.1 bN.u4.2.2.1 fp (bN.u4.2.2.2.1).length fq R J.length S az aE aF aG fr (bN.u8).length ft Z) ez rfl
 refine nl ?_
 exact ⟨_,a3,a5,a6,x.Cuts,p8,c9,x.Nodes,W,X,fm,f7,bN.1,fn,f8,bN.2.1,ar,ax,aR,fo,f9,bN.2.2.1,bN.2.2.2.1,bN.u4.1,K,ad,ae,aU,L,af,ah,aV,I,O,P,Q,ai,aj,aW,aT,aX,bw,bN.u4.2.1,bN.u4.2.2.1,bN.u4.2.2.2.1,fp,fq,J,R,S,az,aE,aF,aG,bN.u8,fr,ft,d.kp [0,3],e.sp [0,7,8,1,9,2,10,11,12,3,4,13,5,14,15,16,17] [5,6,0,1,2,10,11,12,13,3,15,4,18,19],H⟩
 refine qr λ_ gK=>bd H λgL cd H=>kA (λa w => ∃κ:Gh,Fr (476) [] [k2g g,k25 A,k26 bZ,(6,vb (b.Cmd.DC==a1)),(155,vb gL)] a∧SS Ms κ0 w0 κ w (k14 bZ be A b.Kind b.Id b.N b.TS b.Lo b.Hi ak (b.Vers).length al am (b.Vec).length an b.Cmd.Kind b.Cmd.DC b.Cmd.Shard b.Cmd.Node b.Cmd.Mode b.Cmd.Key g a1 a2 a3 (i64.wrap b.Id) a5 a6 p8 (x.Cuts).length c9 W (x.Nodes).length X l k.length o p B.length q s C.length u aD aP av ar ao j aa ab K L O I.length P Q Y aT aq aL U T.length V R J.length S az aE aF aG F D.length G Z (ownX (fInt .i64) 3 l o k) (ownX jN 4 p q B) (ownX (fInt .i64) 3 s u C) aO a0 aw aQ ax aR (arrX j6 j aJ aS) ad ae af ah ai aj aX bw) (k15 p8 c9 x.Cuts W X x.Nodes (ml j 4) (ml aa 4) (ml ab 4) K ad ae aU L af ah aV O P I Q ai aj aW U V T R S J F G D (ml be 4) ak al b.Vers am an b.Vec)∧True) ?_ ?_
 refine wp 2 [0,3,4,6,157] d λa d=>wc (wld d e 1 8 0 λa d=>wp 2 [0,3,4,6,160] d λa d=>bs cd (λhb cd=>?_) λhb cd=>?_)
 have d:=d.bv 160 hb
 refine wp 3 [0,3,4,6,163] d λa d=>bs cd (λhb cd=>?_) λhb cd=>?_
 have d:=d.bv 163 hb
 refine wp 3 [0,3,4,6,163,166] d λa d=>wcg d (wld d e 2 2 0 λa d=>wp 3 [0,3,4,6,155] d λa d=>nl ?_)
 cases cd
 exact ⟨_,d.kp [0,3,4,6,155],e.sp (rg 18) (rg 15),trivial⟩
 have d:=d.bv 163 hb
 refine wp 7 [0,3,4,6,155] d λa d=>nl ?_
 cases cd
 exact ⟨_,d.kp [0,3,4,6,155],e.sp (rg 18) (rg 15),trivial⟩
 have d:=d.bv 160 hb
 refine wp 10 [0,3,4,6,155] d λa d=>nl ?_
 cases cd
 exact ⟨_,d.kp [0,3,4,6,155],e.sp (rg 18) (rg 15),trivial⟩
 rintro a w ⟨κ,d,e,-⟩
 refine gK _ _ (bc d H (λhb H=>?_) λhb H=>?_)
 refine qr λ_ gM=>(jG (L':=[k2g g,k25 A,(172,pt g 2)]) 3 [0,3,172] d kr λa d=>wc (wst d e 2 2 1 [si 2] (sgN 1 jE) λa w d e=>gM _ _ (bd H λgN ho H=>?_)))
 obtain ⟨eo,bz,e⟩:=e.optS 10 rfl ho
 rw [bz] at e
 try rw [bz] at d
 obtain ⟨⟨gO,gP⟩,e⟩:=e.unfI (ck:=jR) (fs:=jP) 10 rfl
 refine rgX e [2,3,4,9,10,11,12,13,14,15,16,17,18] ?_
 have e:=e.drew
 have hX:=e.px [2,3,4,9,10,11,12,13,14,15,16,17,18]
 refine anp [0,1,2,4,5,6] [0,3,175,179] d hX λa d=>atk 3 (some 176) d hX rfl (vld 2 12 0) λa d=>atk 7 (some 180) d hX rfl (vld 2 29 0) λa d=>ago 8 d rfl (bd H λfu ga H=>wcS 2 (rg 19) d e (λe=>zK N gN az gO gP eo (e.sbK (rg 4)) ga) ?_)
 rintro _ κ w a ⟨gQ,gR,rfl,h2⟩ d hB
 have e:=hB _ _ h2
 refine ⟨λ_=>(e.sx [2,3,4,9,10,11,12,13,14,15,16,17,18] (ra 4 19)),?_⟩
 refine kM ?_
 obtain ⟨gb,e⟩:=e.foldI (ck:=jR) (fs:=jP) eo (gQ,gR) fu [0,1] (ra 2 17) (rg 4) dc kr kr
 exact ⟨_,2,a5,a6,x.Cuts,p8,c9,x.Nodes,W,X,(some eo),gb,(some fu),av,aw,aQ,ar,ax,aR,j,aJ,aS,aa,ab,K,ad,ae,aU,L,af,ah,aV,I,O,P,Q,ai,aj,aW,aT,aX,bw,aq,aL,T,U,V,J,R,S,az,aE,aF,aG,D,F,G,d.kp [0,3],e.sp [3,2,4,5,6,7,8,9,10,0,11,12,13,14,15,16,17] [8,9,10,11,12,13,14,15,16,17,18,19,21,22],H⟩
 refine qr λ_ gS=>bd H λgT bB H=>kA (λa w => ∃κ:Gh,Fr (476) [] [k2g g,k25 A,k26 bZ,(6,vb (b.Cmd.DC==a1)),(182,vb gT)] a∧SS Ms κ0 w0 κ w (k14 bZ be A b.Kind b.Id b.N b.TS b.Lo b.Hi ak (b.Vers).length al am (b.Vec).length an b.Cmd.Kind b.Cmd.DC b.Cmd.Shard b.Cmd.Node b.Cmd.Mode b.Cmd.Key g a1 a2 a3 (i64.wrap b.Id) a5 a6 p8 (x.Cuts).length c9 W (x.Nodes).length X l k.length o p B.length q s C.length u aD aP av ar ao j aa ab K L O I.length P Q Y aT aq aL U T.length V R J.length S az aE aF aG F D.length G Z (ownX (fInt .i64) 3 l o k) (ownX jN 4 p q B) (ownX (fInt .i64) 3 s u C) aO a0 aw aQ ax aR (arrX j6 j aJ aS) ad ae af ah ai aj aX bw) (k15 p8 c9 x.Cuts W X x.Nodes (ml j 4) (ml aa 4) (ml ab 4) K ad ae aU L af ah aV O P I Q ai aj aW U V T R S J F G D (ml be 4) ak al b.Vers am an b.Vec)∧True) ?_ ?_
 refine wp 2 [0,3,4,6,184] d λa d=>wc (wld d e 1 8 0 λa d=>wp 2 [0,3,4,6,187] d λa d=>bs bB (λhb bB=>?_) λhb bB=>?_)
 have d:=d.bv 187 hb
 refine wp 1 [0,3,4,6,187,188] d λa d=>wcg d (wld d e 1 2 0 λa d=>wp 3 [0,3,4,6,192] d λa d=>bs bB (λhb bB=>?_) λhb bB=>?_)
 have d:=d.bv 192 hb
 refine wp 3 [0,3,4,6,195] d λa d=>bs bB (λhb bB=>?_) λhb bB=>?_
 have d:=d.bv 195 hb
 refine wp 3 [0,3,4,6,195,198] d λa d=>wcg d (wld d e 2 2 0 λa d=>wp 3 [0,3,4,6,182] d λa d=>nl ?_)
 cases bB
 exact ⟨_,d.kp [0,3,4,6,182],e.sp (rg 18) (rg 15),trivial⟩
 have d:=d.bv 195 hb
 refine wp 7 [0,3,4,6,182] d λa d=>nl ?_
 cases bB
 exact ⟨_,d.kp [0,3,4,6,182],e.sp (rg 18) (rg 15),trivial⟩
 have d:=d.bv 192 hb
 refine wp 10 [0,3,4,6,182] d λa d=>nl ?_
 cases bB
 exact ⟨_,d.kp [0,3,4,6,182],e.sp (rg 18) (rg 15),trivial⟩
 have d:=d.bv 187 hb
 refine wp 15 [0,3,4,6,182] d λa d=>nl ?_
 cases bB
 exact ⟨_,d.kp [0,3,4,6,182],e.sp (rg 18) (rg 15),trivial⟩
 rintro a w ⟨κ,d,e,-⟩
 refine gS _ _ (bc d H (λhb H=>?_) λhb H=>?_)
 refine rl (wp 4 [0,3,203,205] d λa d=>wc (wst d e 2 2 1 [si 3] (sgN 1 jE) λa w d e=>wp 2 [0,3,207] d λa d=>wc (wst d e 2 32 1 [k2p] (sgN 1 jE) λa w d e=>nl ?_)))
 exact ⟨_,3,a5,a6,x.Cuts,p8,c9,x.Nodes,W,X,aP,aO,a0,av,aw,aQ,ar,ax,aR,j,aJ,aS,aa,ab,K,ad,ae,aU,L,af,ah,aV,I,O,P,Q,ai,aj,aW,aT,aX,bw,aq,aL,T,U,V,J,R,S,az,aE,aF,false,D,F,G,d.kp [0,3],e.sp [2,1,3,4,5,6,7,8,9,10,11,12,13,14,15,16,17] [0,1,2,3,4,5,6,7,8,9,10,11,13,14],H⟩
 refine qr λ_ gU=>bd H λgV ce H=>kA (λa w => ∃κ:Gh,Fr (476) [] [k2g g,k25 A,k26 bZ,(6,vb (b.Cmd.DC==a1)),(208,vb gV)] a∧SS Ms κ0 w0 κ w (k14 bZ be A b.Kind b.Id b.N b.TS b.Lo b.Hi ak (b.Vers).length al am (b.Vec).length an b.Cmd.Kind b.Cmd.DC b.Cmd.Shard b.Cmd.Node b.Cmd.Mode b.Cmd.Key g a1 a2 a3 (i64.wrap b.Id) a5 a6 p8 (x.Cuts).length c9 W (x.Nodes).length X l k.length o p B.length q s C.length u aD aP av ar ao j aa ab K L O I.length P Q Y aT aq aL U T.length V R J.length S az aE aF aG F D.length G Z (ownX (fInt .i64) 3 l o k) (ownX jN 4 p q B) (ownX (fInt .i64) 3 s u C) aO a0 aw aQ ax aR (arrX j6 j aJ aS) ad ae af ah ai aj aX bw) (k15 p8 c9 x.Cuts W X x.Nodes (ml j 4) (ml aa 4) (ml ab 4) K ad ae aU L af ah aV O P I Q ai aj aW U V T R S J F G D (ml be 4) ak al b.Vers am an b.Vec)∧True) ?_ ?_
 refine wp 2 [0,3,4,6,210] d λa d=>wc (wld d e 1 8 0 λa d=>wp 2 [0,3,4,6,213] d λa d=>bs ce (λhb ce=>?_) λhb ce=>?_)
 have d:=d.bv 213 hb
 refine wp 1 [0,3,4,6,213,214] d λa d=>wcg d (wld d e 1 2 0 λa d=>wp 3 [0,3,4,6,218] d λa d=>bs ce (λhb ce=>?_) λhb ce=>?_)
 have d:=d.bv 218 hb
 refine wp 3 [0,3,4,6,208] d λa d=>nl ?_
 cases ce
 exact ⟨_,d.kp [0,3,4,6,208],e.sp (rg 18) (rg 15),trivial⟩
 have d:=d.bv 218 hb
 refine wp 3 [0,3,4,6,208] d λa d=>nl ?_
 cases ce
 exact ⟨_,d.kp [0,3,4,6,208],e.sp (rg 18) (rg 15),trivial⟩
 have d:=d.bv 213 hb
 refine wp 8 [0,3,4,6,208] d λa d=>nl ?_
 cases ce
 exact ⟨_,d.kp [0,3,4,6,208],e.sp (rg 18) (rg 15),trivial⟩
 rintro a w ⟨κ,d,e,-⟩
 refine gU _ _ (bc d H (λhb H=>?_) λhb H=>?_)
 refine qr λ_ gW=>wp 1 [0,3,4,221] d λa d=>bd H λf gc H=>?_
 have eA:=e.segs 2 rfl
 refine wc (wcS 11 [2,3,4,5,11,12,13,14,15,16,17,0,1,6,7,8,9,10] d e (λe=>u7 N a3 (i64.wrap b.Id) a5 a6 x aQ aR aS aa ab aU aV I aW bw aL T J az aE aF aG (flat [si a1,si a2]) p8 c9 W X (flat [sl l k.length o,sl p B.length q,sl s C.length u,sb aD,sp aP]) av aw ar ax [vu ao] j aJ K ad ae L af ah O P Q ai aj Y aT aX [vi aq] U V R S (flat [sl F D.length G,(1,Z)]) g ((e.regr 0 [(true,2),(false,6),(true,5),(false,20),(true,2)] rfl).sbK (rg 11)) gc) ?_)
 rintro _ κ w a ⟨c7,c8,da,db,cX,dI,cY,dJ,cM,dK,cN,dL,dM,cO,dN,dO,cP,cQ,cR,dP,dR,cZ,dS,cS,cT,cU,cV,rfl,h2⟩ d hB
 have e:=(hB _ _ h2).unregrK 0 [(true,2),(false,6),(true,5),(false,20),(true,2)] (s':=k16 a1 a2 f.1 (i64.wrap b.Id) f.2.1 f.2.2.1 c7 (f.2.2.2.1.Cuts).length c8 da (f.2.2.2.1.Nodes).length db l k.length o p B.length q s C.length u aD aP cX cY ao cM f.u4.2.2.2.1 f.u8.1 cN cO cP (f.u8.2.2.2.1).length cQ cR Y cZ aq f.u8.u4.2.2.1 cS (f.u8.u4.2.2.2.1).length cT cU (f.u8.u8.1).length cV f.u8.u8.2.1 f.u8.u8.2.2.1 f.u8.u8.2.2.2.1 f.u8.u8.u4 F D.length G Z) eA rfl
 refine gW _ _ (qs λ_ gX=>rgS e [16] ?_)
 have e:=e.drew
 have hX:=e.fx
 refine anp [0,1,2,3,5,6,7] [0,3,4,224,227,231] d hX λa d=>atk 4 (some 228) d hX rfl (vld 0 0 0) λa d=>atk 8 (some 232) d hX rfl (vld 0 1 0) λa d=>atk 9 (some 233) d hX rfl (vls 8 0 1) λa d=>ago 10 d rfl (bd H λdT gd H=>wcS 0 (rg 18) d e (λe=>yU N a1 a2 be (e.sbK [23]) gd) ?_)
 rintro _ κ w a ⟨c0,dU,rfl,h2⟩ d hB
 have e:=(hB _ _ h2).cC (C':=[k2c c0 dU dT.1,k3u g a1 a2 f.1 (i64.wrap b.Id) f.2.1 f.2.2.1 c7 (f.2.2.2.1.Cuts).length c8 da (f.2.2.2.1.Nodes).length db l k.length o p B.length q s C.length u aD aP cX cY ao cM f.u4.2.2.2.1 f.u8.1 cN cO cP (f.u8.2.2.2.1).length cQ cR Y cZ aq f.u8.u4.2.2.1 cS (f.u8.u4.2.2.2.1).length cT cU (f.u8.u8.1).length cV f.u8.u8.2.1 f.u8.u8.2.2.1 f.u8.u8.2.2.2.1 f.u8.u8.u4 F D.length G Z,k3d cP (f.u8.2.2.2.1).length cQ,k3e cS (f.u8.u4.2.2.2.1).length cT,k3e cU (f.u8.u8.1).length cV,k3f cX dI f.u4.1,k3g cY dJ f.u4.2.1,.ext (arrX j6 cM dK f.u4.2.2.1),mx cN dL dM,mx cO dN dO,mx cR dP dR,k2y cZ dS f.u8.u4.2.1,k2e bZ be,k3v A b.Kind b.Id b.N b.TS b.Lo b.Hi ak (b.Vers).length al am (b.Vec).length an b.Cmd.Kind b.Cmd.DC b.Cmd.Shard b.Cmd.Node b.Cmd.Mode b.Cmd.Key,k2s F D.length G,.ext (ownX (fInt .i64) 3 l o k),.ext (ownX jN 4 p q B),.ext (ownX (fInt .i64) 3 s u C),k2c aP aO a0])
 refine ⟨λ_=>(e.sx [1,5,6,7,8,9,10,11,12,13,15,16,17,18] (rg 26)),?_⟩
 refine anp [11,12,14,15] [0,3,223,235,238] d (e.sx [1,5,6,7,8,9,10,11,12,13,15,16,17,18] (rg 26)) λa d=>tU [13] [0,3,235,238] d (λ_=>e.sx [1,5,6,7,8,9,10,11,12,13,15,16,17,18] (rg 26)) λa d=>?_
 have d:Fr (476) _ [k2g g,k25 A,(235,.pointer (pa c0)),(238,pt g 12)] a:=d.kp [0,3,235,238]
 refine ago 16 d rfl (wst d e 1 12 1 [sp c0] (sgN 1 jE) λa w d e=>⟨notE,?_⟩)
 refine kM (gX _ _ (qr λ_ gY=>(wp 3 [0,3,241] d λa d=>wc (wld d e 1 1 0 λa d=>wp 1 [0,3,242,243] d λa d=>(gY _ _ (bk (jX (n:=N) (λn a w => ∃κ,∃dd:List i9,∃dp dq dy,Fr (476) [] [k2g g,k25 A,(242,vi a2),(243,vi dy)] a∧SS Ms κ0 w0 κ w [k3u g a1 a2 f.1 (i64.wrap b.Id) f.2.1 f.2.2.1 c7 (f.2.2.2.1.Cuts).length c8 da (f.2.2.2.1.Nodes).length db l k.length o p B.length q s C.length u aD c0 cX cY ao cM f.u4.2.2.2.1 f.u8.1 cN cO cP (f.u8.2.2.2.1).length cQ cR Y cZ aq f.u8.u4.2.2.1 cS (f.u8.u4.2.2.2.1).length cT cU (f.u8.u8.1).length cV f.u8.u8.2.1 f.u8.u8.2.2.1 f.u8.u8.2.2.2.1 f.u8.u8.u4 dp dd.length dq Z,k3v A b.Kind b.Id b.N b.TS b.Lo b.Hi ak (b.Vers).length al am (b.Vec).length an b.Cmd.Kind b.Cmd.DC b.Cmd.Shard b.Cmd.Node b.Cmd.Mode b.Cmd.Key,k2s dp dd.length dq,k3d cP (f.u8.2.2.2.1).length cQ,k3e cS (f.u8.u4.2.2.2.1).length cT,k3e cU (f.u8.u8.1).length cV,.ext (ownX (fInt .i64) 3 l o k),.ext (ownX jN 4 p q B),.ext (ownX (fInt .i64) 3 s u C),k2c c0 dU dT.1,k3f cX dI f.u4.1,k3g cY dJ f.u4.2.1,.ext (arrX j6 cM dK f.u4.2.2.1),mx cN dL dM,mx cO dN dO,mx cR dP dR,k2y cZ dS f.u8.u4.2.1] (k12 c7 c8 f.2.2.2.1.Cuts da db f.2.2.2.1.Nodes (ml cM 4) (ml f.u4.2.2.2.1 4) (ml f.u8.1 4) cN dL dM f.u8.2.1 cO dN dO f.u8.2.2.1 cP cQ f.u8.2.2.2.1 cR dP dR f.u8.u4.1 cS cT f.u8.u4.2.2.2.1 cU cV f.u8.u8.1 dp dq dd ak al b.Vers am an b.Vec)∧M.n9 N n a1 a2 k B C aD ao aq b f dT dd dy=some r) ?_ ?_)))))))
 exact ⟨_,D,F,G,0,d.kp [0,3,242,243],e.sp [1,13,14,2,3,4,15,16,17,0,5,6,7,8,9,10,11] [0,1,2,3,4,5,6,7,8,9,10,22,24,25],H⟩
 rintro n a w ⟨κ,dd,dp,dq,dy,d,e,H⟩
 rcases n with _|gf
 simp [M.n9] at H
 simp only [M.n9] at H
 refine qr λ_ gZ=>wp 1 [0,3,242,243,244] d λa d=>gZ _ _ (qs λ_ g0=>bc d H (λhb H=>?_) λhb H=>?_)
 refine sk (g0 _ _ (qs λ_ g1=>bk (qr λ_ g2=>wp 2 [0,3,7,242,243] d λa d=>g2 _ _ (rl (wp 3 [0,3,242,243,246,247,248] d λa d=>?_)))))
 have e:=e.add (m:=Ro.mp jF.ty none 0 ([]:List jC)) (Ro.nil jF.ty _ _)
 have e:=e.add (m:=Ro.mp (fInt .u64).ty none 0 ([]:List Int)) (Ro.nil (fInt .u64).ty _ _)
 refine bd H λfv gg H=>?_
 have eB:=e.segs 0 rfl
 refine wc (wcS 2 [0,2,1,3,4,5,6,7,8,9,10,11,12,13,14,15,16] d e (λe=>lK N a1 dd dy (jK.mk 8 0 0 0 empty empty ([]:List jC) ([]:List Int) (jT.mk 0 0 0 0 0 empty)) (flat [si a2,si f.1,si (i64.wrap b.Id),si f.2.1,si f.2.2.1,sl c7 (f.2.2.2.1.Cuts).length c8,sl da (f.2.2.2.1.Nodes).length db,sl l k.length o,sl p B.length q,sl s C.length u,sb aD,sp c0,sp cX,sp cY,su ao,k3l cM,ei 4 f.u4.2.2.2.1,ei 4 f.u8.1,sm cN,sm cO,sl cP (f.u8.2.2.2.1).length cQ,sm cR,(1,Y),sp cZ,si aq,si f.u8.u4.2.2.1,sl cS (f.u8.u4.2.2.2.1).length cT,sl cU (f.u8.u8.1).length cV,su f.u8.u8.2.1,sb f.u8.u8.2.2.1,sb f.u8.u8.2.2.2.1,sb f.u8.u8.u4]) dp dq Z none 0 none 0 g ((e.regr 0 [(false,1),(true,32),(false,2)] rfl).sbK [13,1,0]) gg) ?_)
 rintro _ κ w a ⟨fw,fy,rfl,h2⟩ d hB
 have e:=(hB _ _ h2).unregrK 0 [(false,1),(true,32),(false,2)] (s':=k16 a1 a2 f.1 (i64.wrap b.Id) f.2.1 f.2.2.1 c7 (f.2.2.2.1.Cuts).length c8 da (f.2.2.2.1.Nodes).length db l k.length o p B.length q s C.length u aD c0 cX cY ao cM f.u4.2.2.2.1 f.u8.1 cN cO cP (f.u8.2.2.2.1).length cQ cR Y cZ aq f.u8.u4.2.2.1 cS (f.u8.u4.2.2.2.1).length cT cU (f.u8.u8.1).length cV f.u8.u8.2.1 f.u8.u8.2.2.1 f.u8.u8.2.2.2.1 f.u8.u8.u4 fw fv.length fy Z) eB rfl
 refine g1 _ _ (rl (wp 2 [0,3,242,243] d λa d=>nl ?_))
 exact ⟨gf,Nat.lt_succ_self _,_,fv,fw,fy,i64.wrap (dy+1),d.kp [0,3,242,243],e.sp [0,2,1,3,4,5,6,7,8,9,10,11,12,13,14,15,16] [3,4,5,6,7,8,9,10,11,12,13,0,15,16],H⟩
 refine xt ?_
 exact ⟨_,f.1,f.2.1,f.2.2.1,f.2.2.2.1.Cuts,c7,c8,f.2.2.2.1.Nodes,da,db,c0,dU,dT.1,cX,dI,f.u4.1,cY,dJ,f.u4.2.1,cM,dK,f.u4.2.2.1,f.u4.2.2.2.1,f.u8.1,cN,dL,dM,f.u8.2.1,cO,dN,dO,f.u8.2.2.1,f.u8.2.2.2.1,cP,cQ,cR,dP,dR,f.u8.u4.1,cZ,dS,f.u8.u4.2.1,aq,f.u8.u4.2.2.1,f.u8.u4.2.2.2.1,cS,cT,f.u8.u8.1,cU,cV,f.u8.u8.2.1,f.u8.u8.2.2.1,f.u8.u8.2.2.2.1,f.u8.u8.u4,dd,dp,dq,d.kp [0,3],e.sp [0,1,3,4,5,2,6,7,8,9,10,11,12,13,14,15,16] (rg 14),H⟩
 refine qr λ_ g3=>bd H λg4 dh H=>kA (λa w => ∃κ:Gh,Fr (476) [] [k2g g,k25 A,(6,vb (b.Cmd.DC==a1)),(251,vb g4)] a∧SS Ms κ0 w0 κ w (k13 A b.Kind b.Id b.N b.TS b.Lo b.Hi ak (b.Vers).length al am (b.Vec).length an b.Cmd.Kind b.Cmd.DC b.Cmd.Shard b.Cmd.Node b.Cmd.Mode b.Cmd.Key g a1 a2 a3 (i64.wrap b.Id) a5 a6 p8 (x.Cuts).length c9 W (x.Nodes).length X l k.length o p B.length q s C.length u aD aP av ar ao j aa ab K L O I.length P Q Y aT aq aL U T.length V R J.length S az aE aF aG F D.length G Z (ownX (fInt .i64) 3 l o k) (ownX jN 4 p q B) (ownX (fInt .i64) 3 s u C) aO a0 aw aQ ax aR (arrX j6 j aJ aS) ad ae af ah ai aj aX bw) (k12 p8 c9 x.Cuts W X x.Nodes (ml j 4) (ml aa 4) (ml ab 4) K ad ae aU L af ah aV O P I Q ai aj aW U V T R S J F G D ak al b.Vers am an b.Vec)∧True) ?_ ?_
 refine wp 2 [0,3,6,253] d λa d=>wc (wld d e 1 8 0 λa d=>wp 2 [0,3,6,256] d λa d=>bs dh (λhb dh=>?_) λhb dh=>?_)
 have d:=d.bv 256 hb
 refine wp 1 [0,3,6,256,257] d λa d=>wcg d (wld d e 1 2 0 λa d=>wp 3 [0,3,6,251] d λa d=>nl ?_)
 cases dh
 exact ⟨_,d.kp [0,3,6,251],e.sp (ra 1 17) [0,1,2,3,4,5,6,7,8,9,10,11,13,14],trivial⟩
 have d:=d.bv 256 hb
 refine wp 5 [0,3,6,251] d λa d=>nl ?_
 cases dh
 exact ⟨_,d.kp [0,3,6,251],e.sp (ra 1 17) [0,1,2,3,4,5,6,7,8,9,10,11,13,14],trivial⟩
 rintro a w ⟨κ,d,e,-⟩
 refine g3 _ _ (bc d H (λhb H=>?_) λhb H=>?_)
 refine qs λ_ g5=>bd H λg6 ho H=>?_
 obtain ⟨bA,bz,e⟩:=e.optS 9 rfl ho
 rw [bz] at e
 try rw [bz] at d
 obtain ⟨⟨g7,g8⟩,e⟩:=e.unfI (ck:=jR) (fs:=jP) 9 rfl
 refine rgX e [2,3,8,9,10,11,12,13,14,15,16,17] ?_
 have e:=e.drew
 have hX:=e.px [2,3,8,9,10,11,12,13,14,15,16,17]
 refine anp [0,1,2,4,5,7,8,9] [0,3,263,266,270] d hX λa d=>atk 3 (some 264) d hX rfl (vld 1 12 0) λa d=>atk 6 (some 267) d hX rfl (vld 0 9 0) λa d=>atk 10 (some 271) d hX rfl (vld 1 3 0) λa d=>ago 11 d rfl (bd H λde gi H=>wcS 2 (rg 18) d e (λe=>yT N g6 b.Cmd.DC (i64.wrap b.Id) g7 g8 bA (e.sbK (rg 4)) gi) ?_)
 rintro _ κ w a ⟨g9,ha,rfl,h2⟩ d hB
 have e:=hB _ _ h2
 refine ⟨λ_=>(e.sx [2,3,8,9,10,11,12,13,14,15,16,17] (ra 4 18)),?_⟩
 refine kM ?_
 obtain ⟨c1,e⟩:=e.foldI (ck:=jR) (fs:=jP) bA (g9,ha) de.2 [0,1] (ra 2 16) (rg 4) dc kr kr
 refine g5 _ _ (bd H λig gj H=>?_)
 obtain ⟨hc,di⟩:=e.arrIdx 12 rfl gj
 have e:=e.add (m:=MP.const (idx j b.Cmd.DC=some hc)) di
 refine bd H λih c2 H=>kJ (λa w => ∃κ dV,Fr (476) [] [k2g g,k25 A] a∧SS Ms κ0 w0 κ w [k3v A b.Kind b.Id b.N b.TS b.Lo b.Hi ak (b.Vers).length al am (b.Vec).length an b.Cmd.Kind b.Cmd.DC b.Cmd.Shard b.Cmd.Node b.Cmd.Mode b.Cmd.Key,k3w g a1 a2 a3 (i64.wrap b.Id) a5 a6 p8 (x.Cuts).length c9 W (x.Nodes).length X l k.length o p B.length q s C.length u aD bA av ar ao (set j (toNat b.Cmd.DC) none) (set aa (toNat b.Cmd.DC) (-1)) ab K L O I.length P Q Y aT aq aL U T.length V R J.length S az aE aF aG F D.length G Z,k3d O I.length P,k3e U T.length V,k3e R J.length S,k2s F D.length G,.ext (ownX (fInt .i64) 3 l o k),.ext (ownX jN 4 p q B),.ext (ownX (fInt .i64) 3 s u C),k3s bA c1 de.2,k3f av aw aQ,k3g ar ax aR,.ext (arrX j6 (set j (toNat b.Cmd.DC) none) dV (set aS (toNat b.Cmd.DC) none)),mx K ad ae,mx L af ah,mx Q ai aj,k2y aT aX bw] (k12 p8 c9 x.Cuts W X x.Nodes (ml (set j (toNat b.Cmd.DC) none) 4) (ml (set aa (toNat b.Cmd.DC) (-1)) 4) (ml ab 4) K ad ae aU L af ah aV O P I Q ai aj aW U V T R S J F G D ak al b.Vers am an b.Vec)∧True) ?_ ?_
 refine rgS e [11,15] ?_
 have e:=e.drew
 have hX:=e.fx
 refine jO [0,1,2,8,9] [0,3,275,282] (L':=[k2g g,k25 A,(275,pt A 9),(282,pt g 16)]) (listed':=(mU 16 775)) (fuel:=11) d hX kr (by intro c a w t v h; cases t<;>exact h) kr rfl λa d=>tU [4,5,6,12,13] [0,3,275,279,282,285] d (λ_=>hX) λa d=>?_
 have d:Fr (476) _ [k2g g,k25 A,(275,pt A 9),(279,pt A 9),(282,pt g 16),(285,pt g 20)] a:=d.kp [0,3,275,279,282,285]
 refine atk 3 (some 276) d hX rfl (vld 1 9 0) λa d=>atk 10 (some 283) d (e.sx [0,1,2,7,8,9,10,11,12,13,14,15,16] (rg 23)) rfl (λw _=>lU (E:=81) (sz:=1) (n:=4) rfl rfl (i:=b.Cmd.DC) rfl (m1 di (e.get 11 rfl)) kr kr w) λa d=>G7 7 11 d rfl rfl ?_ ?_
 refine wld d e 1 9 0 λa d=>⟨λ_=>(e.sx [0,1,2,7,8,9,10,11,12,13,14,15,16] (rg 23)),?_⟩
 refine ago 11 d rfl ?_
 have e:=e.addOpt j6
 refine lM (t:=pF) (y:=none) (v := .pointer none) d e kr 3 16 (s':=k17 a1 a2 a3 (i64.wrap b.Id) a5 a6 p8 (x.Cuts).length c9 W (x.Nodes).length X l k.length o p B.length q s C.length u aD bA av ar ao (set j (toNat b.Cmd.DC) none) aa ab K L O I.length P Q Y aT aq aL U T.length V R J.length S az aE aF aG F D.length G Z) (C':=[ox j6 none [] none,k3s bA c1 de.2,k3v A b.Kind b.Id b.N b.TS b.Lo b.Hi ak (b.Vers).length al am (b.Vec).length an b.Cmd.Kind b.Cmd.DC b.Cmd.Shard b.Cmd.Node b.Cmd.Mode b.Cmd.Key,k3w g a1 a2 a3 (i64.wrap b.Id) a5 a6 p8 (x.Cuts).length c9 W (x.Nodes).length X l k.length o p B.length q s C.length u aD bA av ar ao (set j (toNat b.Cmd.DC) none) aa ab K L O I.length P Q Y aT aq aL U T.length V R J.length S az aE aF aG F D.length G Z,k3d O I.length P,k3e U T.length V,k3e R J.length S,k2s F D.length G,.ext (ownX (fInt .i64) 3 l o k),.ext (ownX jN 4 p q B),.ext (ownX (fInt .i64) 3 s u C),k3f av aw aQ,k3g ar ax aR,.ext (arrX j6 j aJ aS),mx K ad ae,mx L af ah,mx Q ai aj,k2y aT aX bw]) rfl rfl kr rfl rfl di rfl rfl kr kr kr kr λa w d e=>?_
 have e:=e.add (m:=ml (set j (toNat b.Cmd.DC) none) 4) (List.length_set.trans (e.get 11 rfl))
 obtain ⟨dj,e⟩:=e.arrSetI 0 13 [1,2,3,4,5,6,7,8,9,10,11,12,14,15,16,17] dc (toNat b.Cmd.DC) rfl rfl
 refine ⟨notE,?_⟩
 refine ago 14 d rfl (bd c2 λhd dk c2=>l5 d kr (E:=3) (sz:=1) (n:=4) rfl rfl (i:=b.Cmd.DC) rfl (m1 dk (e.get 13 rfl)) kr kr λa d=>⟨notE,?_⟩)
 refine ago 15 d rfl (lM (t:=(fInt .i64)) (y:=(-1)) (v:=vi (-1)) d e kr 3 17 (s':=k17 a1 a2 a3 (i64.wrap b.Id) a5 a6 p8 (x.Cuts).length c9 W (x.Nodes).length X l k.length o p B.length q s C.length u aD bA av ar ao (set j (toNat b.Cmd.DC) none) (set aa (toNat b.Cmd.DC) (-1)) ab K L O I.length P Q Y aT aq aL U T.length V R J.length S az aE aF aG F D.length G Z) (C':=[.ext (arrX j6 (set j (toNat b.Cmd.DC) none) dj (set aS (toNat b.Cmd.DC) none)),k3s bA c1 de.2,k3v A b.Kind b.Id b.N b.TS b.Lo b.Hi ak (b.Vers).length al am (b.Vec).length an b.Cmd.Kind b.Cmd.DC b.Cmd.Shard b.Cmd.Node b.Cmd.Mode b.Cmd.Key,k3w g a1 a2 a3 (i64.wrap b.Id) a5 a6 p8 (x.Cuts).length c9 W (x.Nodes).length X l k.length o p B.length q s C.length u aD bA av ar ao (set j (toNat b.Cmd.DC) none) (set aa (toNat b.Cmd.DC) (-1)) ab K L O I.length P Q Y aT aq aL U T.length V R J.length S az aE aF aG F D.length G Z,k3d O I.length P,k3e U T.length V,k3e R J.length S,k2s F D.length G,.ext (ownX (fInt .i64) 3 l o k),.ext (ownX jN 4 p q B),.ext (ownX (fInt .i64) 3 s u C),k3f av aw aQ,k3g ar ax aR,mx K ad ae,mx L af ah,mx Q ai aj,k2y aT aX bw]) rfl rfl kr rfl rfl dk rfl rfl kr kr kr kr λa w d e=>?_)
 have e:=e.add (m:=ml (set aa (toNat b.Cmd.DC) (-1)) 4) (List.length_set.trans (e.get 13 rfl))
 refine ⟨notE,?_⟩
 refine kM ?_
 cases c2
 exact ⟨_,dj,d.kp [0,3],e.sp [2,3,4,5,6,7,8,9,10,1,11,12,0,13,14,15,16] [11,12,1,0,15,16,17,18,19,20,21,22,23,24],trivial⟩
 have e:=e.addOpt j6
 refine lM (t:=pF) (y:=none) (v := .pointer none) d e kr 3 16 (s':=k17 a1 a2 a3 (i64.wrap b.Id) a5 a6 p8 (x.Cuts).length c9 W (x.Nodes).length X l k.length o p B.length q s C.length u aD bA av ar ao (set j (toNat b.Cmd.DC) none) aa ab K L O I.length P Q Y aT aq aL U T.length V R J.length S az aE aF aG F D.length G Z) (C':=[ox j6 none [] none,k3s bA c1 de.2,k3v A b.Kind b.Id b.N b.TS b.Lo b.Hi ak (b.Vers).length al am (b.Vec).length an b.Cmd.Kind b.Cmd.DC b.Cmd.Shard b.Cmd.Node b.Cmd.Mode b.Cmd.Key,k3w g a1 a2 a3 (i64.wrap b.Id) a5 a6 p8 (x.Cuts).length c9 W (x.Nodes).length X l k.length o p B.length q s C.length u aD bA av ar ao (set j (toNat b.Cmd.DC) none) aa ab K L O I.length P Q Y aT aq aL U T.length V R J.length S az aE aF aG F D.length G Z,k3d O I.length P,k3e U T.length V,k3e R J.length S,k2s F D.length G,.ext (ownX (fInt .i64) 3 l o k),.ext (ownX jN 4 p q B),.ext (ownX (fInt .i64) 3 s u C),k3f av aw aQ,k3g ar ax aR,.ext (arrX j6 j aJ aS),mx K ad ae,mx L af ah,mx Q ai aj,k2y aT aX bw]) rfl rfl kr rfl rfl di rfl rfl kr kr kr kr λa w d e=>?_
 have e:=e.add (m:=ml (set j (toNat b.Cmd.DC) none) 4) (List.length_set.trans (e.get 11 rfl))
 obtain ⟨dj,e⟩:=e.arrSetI 0 13 [1,2,3,4,5,6,7,8,9,10,11,12,14,15,16,17] dc (toNat b.Cmd.DC) rfl rfl
 refine ⟨notE,?_⟩
 refine ago 7 d rfl (wld d e 2 9 0 λa d=>⟨notE,?_⟩)
 refine ago 14 d rfl (bd c2 λhd dk c2=>l5 d kr (E:=3) (sz:=1) (n:=4) rfl rfl (i:=b.Cmd.DC) rfl (m1 dk (e.get 13 rfl)) kr kr λa d=>⟨notE,?_⟩)
 refine ago 15 d rfl (lM (t:=(fInt .i64)) (y:=(-1)) (v:=vi (-1)) d e kr 3 17 (s':=k17 a1 a2 a3 (i64.wrap b.Id) a5 a6 p8 (x.Cuts).length c9 W (x.Nodes).length X l k.length o p B.length q s C.length u aD bA av ar ao (set j (toNat b.Cmd.DC) none) (set aa (toNat b.Cmd.DC) (-1)) ab K L O I.length P Q Y aT aq aL U T.length V R J.length S az aE aF aG F D.length G Z) (C':=[.ext (arrX j6 (set j (toNat b.Cmd.DC) none) dj (set aS (toNat b.Cmd.DC) none)),k3s bA c1 de.2,k3v A b.Kind b.Id b.N b.TS b.Lo b.Hi ak (b.Vers).length al am (b.Vec).length an b.Cmd.Kind b.Cmd.DC b.Cmd.Shard b.Cmd.Node b.Cmd.Mode b.Cmd.Key,k3w g a1 a2 a3 (i64.wrap b.Id) a5 a6 p8 (x.Cuts).length c9 W (x.Nodes).length X l k.length o p B.length q s C.length u aD bA av ar ao (set j (toNat b.Cmd.DC) none) (set aa (toNat b.Cmd.DC) (-1)) ab K L O I.length P Q Y aT aq aL U T.length V R J.length S az aE aF aG F D.length G Z,k3d O I.length P,k3e U T.length V,k3e R J.length S,k2s F D.length G,.ext (ownX (fInt .i64) 3 l o k),.ext (ownX jN 4 p q B),.ext (ownX (fInt .i64) 3 s u C),k3f av aw aQ,k3g ar ax aR,mx K ad ae,mx L af ah,mx Q ai aj,k2y aT aX bw]) rfl rfl kr rfl rfl dk rfl rfl kr kr kr kr λa w d e=>?_)
 have e:=e.add (m:=ml (set aa (toNat b.Cmd.DC) (-1)) 4) (List.length_set.trans (e.get 13 rfl))
 refine ⟨notE,?_⟩
 refine kM ?_
 cases c2
 exact ⟨_,dj,d.kp [0,3],e.sp [2,3,4,5,6,7,8,9,10,1,11,12,0,13,14,15,16] [11,12,1,0,15,16,17,18,19,20,21,22,23,24],trivial⟩
 rintro a w ⟨κ,dV,d,e,-⟩
 exact ⟨_,a3,a5,a6,x.Cuts,p8,c9,x.Nodes,W,X,(some bA),c1,(some de.2),av,aw,aQ,ar,ax,aR,(set j (toNat b.Cmd.DC) none),dV,(set aS (toNat b.Cmd.DC) none),(set aa (toNat b.Cmd.DC) (-1)),ab,K,ad,ae,aU,L,af,ah,aV,I,O,P,Q,ai,aj,aW,aT,aX,bw,aq,aL,T,U,V,J,R,S,az,aE,aF,aG,D,F,G,d.kp [0,3],e.sp [1,0,2,3,4,5,6,7,8,9,10,11,12,13,14,15,16] (rg 14),H⟩
 refine qs λ_ he=>bd H λep cg H=>kJ (λa w => ∃κ dz dl,Fr (476) [] [k2g g,k25 A,(6,vb (b.Cmd.DC==a1)),(287,vb ep.2)] a∧SS Ms κ0 w0 κ w (k13 A b.Kind b.Id b.N b.TS b.Lo b.Hi ak (b.Vers).length al am (b.Vec).length an b.Cmd.Kind b.Cmd.DC b.Cmd.Shard b.Cmd.Node b.Cmd.Mode b.Cmd.Key g a1 a2 a3 (i64.wrap b.Id) a5 a6 p8 (x.Cuts).length c9 W (x.Nodes).length X l k.length o p B.length q s C.length u aD aP av ar ao j aa ab K L O I.length P Q Y dz aq aL U T.length V R J.length S az aE aF aG F D.length G Z (ownX (fInt .i64) 3 l o k) (ownX jN 4 p q B) (ownX (fInt .i64) 3 s u C) aO a0 aw aQ ax aR (arrX j6 j aJ aS) ad ae af ah ai aj dl ep.1) (k12 p8 c9 x.Cuts W X x.Nodes (ml j 4) (ml aa 4) (ml ab 4) K ad ae aU L af ah aV O P I Q ai aj aW U V T R S J F G D ak al b.Vers am an b.Vec)∧True) ?_ ?_
 refine kU cg (λho cg=>?_) (λhf ho cg=>?_)
 obtain ⟨bz,e⟩:=e.optN 16 rfl ho
 rw [bz] at e
 try rw [bz] at d
 refine rl (bd cg λhg ch cg=>kA (λa w => ∃κ:Gh,Fr (476) [] [k2g g,k25 A,(6,vb (b.Cmd.DC==a1)),(287,vb hg)] a∧SS Ms κ0 w0 κ w (k18 A b.Kind b.Id b.N b.TS b.Lo b.Hi ak (b.Vers).length al am (b.Vec).length an b.Cmd.Kind b.Cmd.DC b.Cmd.Shard b.Cmd.Node b.Cmd.Mode b.Cmd.Key g a1 a2 a3 (i64.wrap b.Id) a5 a6 p8 (x.Cuts).length c9 W (x.Nodes).length X l k.length o p B.length q s C.length u aD aP av ar ao j aa ab K L O I.length P Q Y aq aL U T.length V R J.length S az aE aF aG F D.length G Z (ownX (fInt .i64) 3 l o k) (ownX jN 4 p q B) (ownX (fInt .i64) 3 s u C) aO a0 aw aQ ax aR (arrX j6 j aJ aS) ad ae af ah ai aj) (k12 p8 c9 x.Cuts W X x.Nodes (ml j 4) (ml aa 4) (ml ab 4) K ad ae aU L af ah aV O P I Q ai aj aW U V T R S J F G D ak al b.Vers am an b.Vec)∧True) ?_ ?_)
 refine wp 2 [0,3,6,289] d λa d=>wc (wld d e 0 8 0 λa d=>wp 2 [0,3,6,292] d λa d=>bs ch (λhb ch=>?_) λhb ch=>?_)
 have d:=d.bv 292 hb
 refine wp 3 [0,3,6,295] d λa d=>bs ch (λhb ch=>?_) λhb ch=>?_
 have d:=d.bv 295 hb
 refine wp 3 [0,3,6,295,298] d λa d=>wcg d (wld d e 1 24 0 λa d=>wp 3 [0,3,6,287] d λa d=>nl ?_)
 cases ch
 exact ⟨_,d.kp [0,3,6,287],e.sp (rg 16) (rg 14),trivial⟩
 have d:=d.bv 295 hb
 refine wp 7 [0,3,6,287] d λa d=>nl ?_
 cases ch
 exact ⟨_,d.kp [0,3,6,287],e.sp (rg 16) (rg 14),trivial⟩
 have d:=d.bv 292 hb
 refine wp 10 [0,3,6,287] d λa d=>nl ?_
 cases ch
 exact ⟨_,d.kp [0,3,6,287],e.sp (rg 16) (rg 14),trivial⟩
 rintro a w ⟨κ,d,e,-⟩
 cases cg
 have e:=e.addOpt o_gate_move
 exact ⟨_,none,[],d.kp [0,3,6,287],e.sp [1,2,3,4,5,6,7,8,9,10,11,12,13,14,15,16,0] (rg 14),trivial⟩
 obtain ⟨fz,bz,e⟩:=e.optS 16 rfl ho
 rw [bz] at e
 try rw [bz] at d
 refine rl (bd cg λii ci cg=>kA (λa w => ∃κ:Gh,Fr (476) [] [k2g g,k25 A,(6,vb (b.Cmd.DC==a1)),(287,vb false)] a∧SS Ms κ0 w0 κ w (k19 A b.Kind b.Id b.N b.TS b.Lo b.Hi ak (b.Vers).length al am (b.Vec).length an b.Cmd.Kind b.Cmd.DC b.Cmd.Shard b.Cmd.Node b.Cmd.Mode b.Cmd.Key g a1 a2 a3 (i64.wrap b.Id) a5 a6 p8 (x.Cuts).length c9 W (x.Nodes).length X l k.length o p B.length q s C.length u aD aP av ar ao j aa ab K L O I.length P Q Y fz aq aL U T.length V R J.length S az aE aF aG F D.length G Z (ownX (fInt .i64) 3 l o k) (ownX jN 4 p q B) (ownX (fInt .i64) 3 s u C) aO a0 aw aQ ax aR (arrX j6 j aJ aS) ad ae af ah ai aj aX hf) (k12 p8 c9 x.Cuts W X x.Nodes (ml j 4) (ml aa 4) (ml ab 4) K ad ae aU L af ah aV O P I Q ai aj aW U V T R S J F G D ak al b.Vers am an b.Vec)∧True) ?_ ?_)
 refine wp 2 [0,3,6,289] d λa d=>wc (wld d e 0 8 0 λa d=>wp 2 [0,3,6,292] d λa d=>bs ci (λhb ci=>?_) λhb ci=>?_)
 have d:=d.bv 292 hb
 refine wp 3 [0,3,6,295] d λa d=>bs ci (λhb ci=>?_) λhb ci=>?_
 have d:=d.bv 295 hb
 refine wp 3 [0,3,6,295,298] d λa d=>wcg d (wld d e 1 24 0 λa d=>wp 3 [0,3,6,287] d λa d=>nl ?_)
 cases ci
 exact ⟨_,d.kp [0,3,6,287],e.sp (rg 17) (rg 14),trivial⟩
 have d:=d.bv 295 hb
 refine wp 7 [0,3,6,287] d λa d=>nl ?_
 cases ci
 exact ⟨_,d.kp [0,3,6,287],e.sp (rg 17) (rg 14),trivial⟩
 have d:=d.bv 292 hb
 refine wp 10 [0,3,6,287] d λa d=>nl ?_
 cases ci
 exact ⟨_,d.kp [0,3,6,287],e.sp (rg 17) (rg 14),trivial⟩
 rintro a w ⟨κ,d,e,-⟩
 cases cg
 exact ⟨_,(some fz),aX,d.kp [0,3,6,287],e.sp (rg 17) (rg 14),trivial⟩
 rintro a w ⟨κ,dz,dl,d,e,-⟩
 refine he _ _ (bc d H (λhb H=>?_) λhb H=>?_)
 refine rga (λ_=>True) [] ?_
 have e:=e.drew
 refine anp [0,1,2,3,5,6,7,9,10,12,13] [0,3,302,305,309,312,315] d trivial λa d=>mG e [18] (atk 4 (some 306) d (e.sx [0,1,6,7,8,9,10,11,12,13,14,15,16] (rg 14)) rfl (vls 1 6 2) λa d=>atk 8 (some 310) d (e.sx [0,1,6,7,8,9,10,11,12,13,14,15,16] (rg 14)) rfl (vld 1 1 0) λa d=>atk 11 (some 313) d (e.sx [0,1,6,7,8,9,10,11,12,13,14,15,16] (rg 14)) rfl (vld 0 10 0) λa d=>atk 14 (some 316) d (e.sx [0,1,6,7,8,9,10,11,12,13,14,15,16] (rg 14)) rfl (vld 0 13 0) λa d=>?_)
 refine ago 15 d rfl (bd H λfA gk H=>jS d e kr kr (D8 N e.fresh x a2 b.Cmd.Shard b.Cmd.Key p8 c9 W X ((e.pick [0,1] kr).ro) gk) ?_)
 rintro _ κ w a ⟨hh,hi,hj,hk,rfl,hR,hN⟩ d e hO
 have e:=e.adds hR
 have e:=e.addC hO hN
 refine ⟨λ_=>(e.sx [2,3,8,9,10,11,12,13,14,15,16,17,18] (ra 2 14)),?_⟩
 refine anp [16,17] [0,3,302,318,319] d (e.sx [2,3,8,9,10,11,12,13,14,15,16,17,18] (ra 2 14)) λa d=>ago 18 d rfl (bd H λdW gl H=>?_)
 have eC:=e.segs 3 rfl
 refine wcS 1 [3,0,1,2,4,5,6,7,8,9,10,11,12,13,14,15,16,17,18] d e (λe=>wR N x fA.1 fA.2 (flat [si a1,si a2,si a3,si (i64.wrap b.Id),si a5,si a6]) p8 c9 W X (flat [sl l k.length o,sl p B.length q,sl s C.length u,sb aD,sp aP,sp av,sp ar,su ao,k3l j,ei 4 aa,ei 4 ab,sm K,sm L,sl O I.length P,sm Q,(1,Y),sp dz,si aq,si aL,sl U T.length V,sl R J.length S,su az,sb aE,sb aF,sb aG,sl F D.length G,(1,Z)]) hh hi hj hk g ((e.regr 0 [(true,6),(false,2),(true,27)] rfl).sbK [2,3,0,1]) gl) ?_
 rintro _ κ w a ⟨fB,fC,fD,fE,rfl,h2⟩ d hB
 have e:=(hB _ _ h2).unregrK 0 [(true,6),(false,2),(true,27)] (s':=k16 a1 a2 a3 (i64.wrap b.Id) a5 a6 fB (dW.Cuts).length fC fD (dW.Nodes).length fE l k.length o p B.length q s C.length u aD aP av ar ao j aa ab K L O I.length P Q Y dz aq aL U T.length V R J.length S az aE aF aG F D.length G Z) eC rfl
 refine ⟨notE,?_⟩
 refine kM ?_
 exact ⟨_,a3,a5,a6,dW.Cuts,fB,fC,dW.Nodes,fD,fE,aP,aO,a0,av,aw,aQ,ar,ax,aR,j,aJ,aS,aa,ab,K,ad,ae,aU,L,af,ah,aV,I,O,P,Q,ai,aj,aW,dz,dl,ep.1,aq,aL,T,U,V,J,R,S,az,aE,aF,aG,D,F,G,d.kp [0,3],e.sp [0,3,4,5,6,7,8,9,10,11,12,13,14,15,16,17,18] [0,1,6,7,8,9,10,11,12,13,14,15,16,17],H⟩
 refine qs λ_ hl=>bd H λeq cj H=>kJ (λa w => ∃κ dA dm,Fr (476) [] [k2g g,k25 A,(6,vb (b.Cmd.DC==a1)),(321,vb eq.2)] a∧SS Ms κ0 w0 κ w (k13 A b.Kind b.Id b.N b.TS b.Lo b.Hi ak (b.Vers).length al am (b.Vec).length an b.Cmd.Kind b.Cmd.DC b.Cmd.Shard b.Cmd.Node b.Cmd.Mode b.Cmd.Key g a1 a2 a3 (i64.wrap b.Id) a5 a6 p8 (x.Cuts).length c9 W (x.Nodes).length X l k.length o p B.length q s C.length u aD aP av ar ao j aa ab K L O I.length P Q Y dA aq aL U T.length V R J.length S az aE aF aG F D.length G Z (ownX (fInt .i64) 3 l o k) (ownX jN 4 p q B) (ownX (fInt .i64) 3 s u C) aO a0 aw aQ ax aR (arrX j6 j aJ aS) ad ae af ah ai aj dm eq.1) (k12 p8 c9 x.Cuts W X x.Nodes (ml j 4) (ml aa 4) (ml ab 4) K ad ae aU L af ah aV O P I Q ai aj aW U V T R S J F G D ak al b.Vers am an b.Vec)∧True) ?_ ?_
 refine kU cj (λho cj=>?_) (λhm ho cj=>?_)
 obtain ⟨bz,e⟩:=e.optN 16 rfl ho
 rw [bz] at e
 try rw [bz] at d
 refine rl (bd cj λhn cl cj=>kA (λa w => ∃κ:Gh,Fr (476) [] [k2g g,k25 A,(6,vb (b.Cmd.DC==a1)),(321,vb hn)] a∧SS Ms κ0 w0 κ w (k18 A b.Kind b.Id b.N b.TS b.Lo b.Hi ak (b.Vers).length al am (b.Vec).length an b.Cmd.Kind b.Cmd.DC b.Cmd.Shard b.Cmd.Node b.Cmd.Mode b.Cmd.Key g a1 a2 a3 (i64.wrap b.Id) a5 a6 p8 (x.Cuts).length c9 W (x.Nodes).length X l k.length o p B.length q s C.length u aD aP av ar ao j aa ab K L O I.length P Q Y aq aL U T.length V R J.length S az aE aF aG F D.length G Z (ownX (fInt .i64) 3 l o k) (ownX jN 4 p q B) (ownX (fInt .i64) 3 s u C) aO a0 aw aQ ax aR (arrX j6 j aJ aS) ad ae af ah ai aj) (k12 p8 c9 x.Cuts W X x.Nodes (ml j 4) (ml aa 4) (ml ab 4) K ad ae aU L af ah aV O P I Q ai aj aW U V T R S J F G D ak al b.Vers am an b.Vec)∧True) ?_ ?_)
 refine wp 2 [0,3,6,323] d λa d=>wc (wld d e 0 8 0 λa d=>wp 2 [0,3,6,326] d λa d=>bs cl (λhb cl=>?_) λhb cl=>?_)
 have d:=d.bv 326 hb
 refine wp 3 [0,3,6,329] d λa d=>bs cl (λhb cl=>?_) λhb cl=>?_
 have d:=d.bv 329 hb
 refine wp 3 [0,3,6,329,332] d λa d=>wcg d (wld d e 1 24 0 λa d=>wp 3 [0,3,6,321] d λa d=>nl ?_)
 cases cl
 exact ⟨_,d.kp [0,3,6,321],e.sp (rg 16) (rg 14),trivial⟩
 have d:=d.bv 329 hb
 refine wp 7 [0,3,6,321] d λa d=>nl ?_
 cases cl
 exact ⟨_,d.kp [0,3,6,321],e.sp (rg 16) (rg 14),trivial⟩
 have d:=d.bv 326 hb
 refine wp 10 [0,3,6,321] d λa d=>nl ?_
 cases cl
 exact ⟨_,d.kp [0,3,6,321],e.sp (rg 16) (rg 14),trivial⟩
 rintro a w ⟨κ,d,e,-⟩
 cases cj
 have e:=e.addOpt o_gate_move
 exact ⟨_,none,[],d.kp [0,3,6,321],e.sp [1,2,3,4,5,6,7,8,9,10,11,12,13,14,15,16,0] (rg 14),trivial⟩
 obtain ⟨fF,bz,e⟩:=e.optS 16 rfl ho
 rw [bz] at e
 try rw [bz] at d
 refine rl (bd cj λij cm cj=>kA (λa w => ∃κ:Gh,Fr (476) [] [k2g g,k25 A,(6,vb (b.Cmd.DC==a1)),(321,vb false)] a∧SS Ms κ0 w0 κ w (k19 A b.Kind b.Id b.N b.TS b.Lo b.Hi ak (b.Vers).length al am (b.Vec).length an b.Cmd.Kind b.Cmd.DC b.Cmd.Shard b.Cmd.Node b.Cmd.Mode b.Cmd.Key g a1 a2 a3 (i64.wrap b.Id) a5 a6 p8 (x.Cuts).length c9 W (x.Nodes).length X l k.length o p B.length q s C.length u aD aP av ar ao j aa ab K L O I.length P Q Y fF aq aL U T.length V R J.length S az aE aF aG F D.length G Z (ownX (fInt .i64) 3 l o k) (ownX jN 4 p q B) (ownX (fInt .i64) 3 s u C) aO a0 aw aQ ax aR (arrX j6 j aJ aS) ad ae af ah ai aj dl hm) (k12 p8 c9 x.Cuts W X x.Nodes (ml j 4) (ml aa 4) (ml ab 4) K ad ae aU L af ah aV O P I Q ai aj aW U V T R S J F G D ak al b.Vers am an b.Vec)∧True) ?_ ?_)
 refine wp 2 [0,3,6,323] d λa d=>wc (wld d e 0 8 0 λa d=>wp 2 [0,3,6,326] d λa d=>bs cm (λhb cm=>?_) λhb cm=>?_)
 have d:=d.bv 326 hb
 refine wp 3 [0,3,6,329] d λa d=>bs cm (λhb cm=>?_) λhb cm=>?_
 have d:=d.bv 329 hb
 refine wp 3 [0,3,6,329,332] d λa d=>wcg d (wld d e 1 24 0 λa d=>wp 3 [0,3,6,321] d λa d=>nl ?_)
 cases cm
 exact ⟨_,d.kp [0,3,6,321],e.sp (rg 17) (rg 14),trivial⟩
 have d:=d.bv 329 hb
 refine wp 7 [0,3,6,321] d λa d=>nl ?_
 cases cm
 exact ⟨_,d.kp [0,3,6,321],e.sp (rg 17) (rg 14),trivial⟩
 have d:=d.bv 326 hb
 refine wp 10 [0,3,6,321] d λa d=>nl ?_
 cases cm
 exact ⟨_,d.kp [0,3,6,321],e.sp (rg 17) (rg 14),trivial⟩
 rintro a w ⟨κ,d,e,-⟩
 cases cj
 exact ⟨_,(some fF),dl,d.kp [0,3,6,321],e.sp (rg 17) (rg 14),trivial⟩
 rintro a w ⟨κ,dA,dm,d,e,-⟩
 refine hl _ _ (bc d H (λhb H=>?_) λhb H=>?_)
 refine rga (λ_=>True) [] ?_
 have e:=e.drew
 refine anp [0,1,2,3,5,6,7,9,10] [0,3,336,339,343,346] d trivial λa d=>mG e [15] (atk 4 (some 340) d (e.sx [0,1,6,7,8,9,10,11,12,13,14,15,16] (rg 14)) rfl (vls 1 6 2) λa d=>atk 8 (some 344) d (e.sx [0,1,6,7,8,9,10,11,12,13,14,15,16] (rg 14)) rfl (vld 1 1 0) λa d=>atk 11 (some 347) d (e.sx [0,1,6,7,8,9,10,11,12,13,14,15,16] (rg 14)) rfl (vld 0 10 0) λa d=>ago 12 d rfl (bd H λfG gm H=>jS d e kr kr (D9 N e.fresh x a2 b.Cmd.Shard p8 c9 W X ((e.pick [0,1] kr).ro) gm) ?_))
 rintro _ κ w a ⟨hp,hq,hr,hs,rfl,hR,hN⟩ d e hO
 have e:=e.adds hR
 have e:=e.addC hO hN
 refine ⟨λ_=>(e.sx [2,3,8,9,10,11,12,13,14,15,16,17,18] (ra 2 14)),?_⟩
 refine anp [13,14] [0,3,336,349,350] d (e.sx [2,3,8,9,10,11,12,13,14,15,16,17,18] (ra 2 14)) λa d=>ago 15 d rfl (bd H λdX gn H=>?_)
 have eD:=e.segs 3 rfl
 refine wcS 1 [3,0,1,2,4,5,6,7,8,9,10,11,12,13,14,15,16,17,18] d e (λe=>wR N x fG.1 fG.2 (flat [si a1,si a2,si a3,si (i64.wrap b.Id),si a5,si a6]) p8 c9 W X (flat [sl l k.length o,sl p B.length q,sl s C.length u,sb aD,sp aP,sp av,sp ar,su ao,k3l j,ei 4 aa,ei 4 ab,sm K,sm L,sl O I.length P,sm Q,(1,Y),sp dA,si aq,si aL,sl U T.length V,sl R J.length S,su az,sb aE,sb aF,sb aG,sl F D.length G,(1,Z)]) hp hq hr hs g ((e.regr 0 [(true,6),(false,2),(true,27)] rfl).sbK [2,3,0,1]) gn) ?_
 rintro _ κ w a ⟨fH,fI,fJ,fK,rfl,h2⟩ d hB
 have e:=(hB _ _ h2).unregrK 0 [(true,6),(false,2),(true,27)] (s':=k16 a1 a2 a3 (i64.wrap b.Id) a5 a6 fH (dX.Cuts).length fI fJ (dX.Nodes).length fK l k.length o p B.length q s C.length u aD aP av ar ao j aa ab K L O I.length P Q Y dA aq aL U T.length V R J.length S az aE aF aG F D.length G Z) eD rfl
 refine ⟨notE,?_⟩
 refine kM ?_
 exact ⟨_,a3,a5,a6,dX.Cuts,fH,fI,dX.Nodes,fJ,fK,aP,aO,a0,av,aw,aQ,ar,ax,aR,j,aJ,aS,aa,ab,K,ad,ae,aU,L,af,ah,aV,I,O,P,Q,ai,aj,aW,dA,dm,eq.1,aq,aL,T,U,V,J,R,S,az,aE,aF,aG,D,F,G,d.kp [0,3],e.sp [0,3,4,5,6,7,8,9,10,11,12,13,14,15,16,17,18] [0,1,6,7,8,9,10,11,12,13,14,15,16,17],H⟩
 refine qs λ_ ht=>bd H λdr cn H=>kJ (λa w => ∃κ df c3,Fr (476) [] [k2g g,k25 A,(352,vb dr.2)] a∧SS Ms κ0 w0 κ w (k13 A b.Kind b.Id b.N b.TS b.Lo b.Hi ak (b.Vers).length al am (b.Vec).length an b.Cmd.Kind b.Cmd.DC b.Cmd.Shard b.Cmd.Node b.Cmd.Mode b.Cmd.Key g a1 a2 a3 (i64.wrap b.Id) a5 a6 p8 (x.Cuts).length c9 W (x.Nodes).length X l k.length o p B.length q s C.length u aD aP av ar ao j aa ab K L O I.length P Q Y df aq aL U T.length V R J.length S az aE aF aG F D.length G Z (ownX (fInt .i64) 3 l o k) (ownX jN 4 p q B) (ownX (fInt .i64) 3 s u C) aO a0 aw aQ ax aR (arrX j6 j aJ aS) ad ae af ah ai aj c3 dr.1) (k12 p8 c9 x.Cuts W X x.Nodes (ml j 4) (ml aa 4) (ml ab 4) K ad ae aU L af ah aV O P I Q ai aj aW U V T R S J F G D ak al b.Vers am an b.Vec)∧True) ?_ ?_
 refine kU cn (λho cn=>?_) (λhu ho cn=>?_)
 obtain ⟨bz,e⟩:=e.optN 16 rfl ho
 rw [bz] at e
 try rw [bz] at d
 refine rl (bd cn λhv co cn=>kA (λa w => ∃κ:Gh,Fr (476) [] [k2g g,k25 A,(352,vb hv)] a∧SS Ms κ0 w0 κ w (k18 A b.Kind b.Id b.N b.TS b.Lo b.Hi ak (b.Vers).length al am (b.Vec).length an b.Cmd.Kind b.Cmd.DC b.Cmd.Shard b.Cmd.Node b.Cmd.Mode b.Cmd.Key g a1 a2 a3 (i64.wrap b.Id) a5 a6 p8 (x.Cuts).length c9 W (x.Nodes).length X l k.length o p B.length q s C.length u aD aP av ar ao j aa ab K L O I.length P Q Y aq aL U T.length V R J.length S az aE aF aG F D.length G Z (ownX (fInt .i64) 3 l o k) (ownX jN 4 p q B) (ownX (fInt .i64) 3 s u C) aO a0 aw aQ ax aR (arrX j6 j aJ aS) ad ae af ah ai aj) (k12 p8 c9 x.Cuts W X x.Nodes (ml j 4) (ml aa 4) (ml ab 4) K ad ae aU L af ah aV O P I Q ai aj aW U V T R S J F G D ak al b.Vers am an b.Vec)∧True) ?_ ?_)
 refine wp 2 [0,3,6,354] d λa d=>wc (wld d e 0 8 0 λa d=>wp 2 [0,3,6,357] d λa d=>bs co (λhb co=>?_) λhb co=>?_)
 have d:=d.bv 357 hb
 refine wp 3 [0,3,360] d λa d=>bs co (λhb co=>?_) λhb co=>?_
 have d:=d.bv 360 hb
 refine wp 3 [0,3,360,363] d λa d=>wcg d (wld d e 1 24 0 λa d=>wp 3 [0,3,352] d λa d=>nl ?_)
 cases co
 exact ⟨_,d.kp [0,3,352],e.sp (rg 16) (rg 14),trivial⟩
 have d:=d.bv 360 hb
 refine wp 7 [0,3,352] d λa d=>nl ?_
 cases co
 exact ⟨_,d.kp [0,3,352],e.sp (rg 16) (rg 14),trivial⟩
 have d:=d.bv 357 hb
 refine wp 10 [0,3,352] d λa d=>nl ?_
 cases co
 exact ⟨_,d.kp [0,3,352],e.sp (rg 16) (rg 14),trivial⟩
 rintro a w ⟨κ,d,e,-⟩
 cases cn
 have e:=e.addOpt o_gate_move
 exact ⟨_,none,[],d.kp [0,3,352],e.sp [1,2,3,4,5,6,7,8,9,10,11,12,13,14,15,16,0] (rg 14),trivial⟩
 obtain ⟨fL,bz,e⟩:=e.optS 16 rfl ho
 rw [bz] at e
 try rw [bz] at d
 refine rl (bd cn λik cp cn=>kA (λa w => ∃κ:Gh,Fr (476) [] [k2g g,k25 A,(352,vb false)] a∧SS Ms κ0 w0 κ w (k19 A b.Kind b.Id b.N b.TS b.Lo b.Hi ak (b.Vers).length al am (b.Vec).length an b.Cmd.Kind b.Cmd.DC b.Cmd.Shard b.Cmd.Node b.Cmd.Mode b.Cmd.Key g a1 a2 a3 (i64.wrap b.Id) a5 a6 p8 (x.Cuts).length c9 W (x.Nodes).length X l k.length o p B.length q s C.length u aD aP av ar ao j aa ab K L O I.length P Q Y fL aq aL U T.length V R J.length S az aE aF aG F D.length G Z (ownX (fInt .i64) 3 l o k) (ownX jN 4 p q B) (ownX (fInt .i64) 3 s u C) aO a0 aw aQ ax aR (arrX j6 j aJ aS) ad ae af ah ai aj dm hu) (k12 p8 c9 x.Cuts W X x.Nodes (ml j 4) (ml aa 4) (ml ab 4) K ad ae aU L af ah aV O P I Q ai aj aW U V T R S J F G D ak al b.Vers am an b.Vec)∧True) ?_ ?_)
 refine wp 2 [0,3,6,354] d λa d=>wc (wld d e 0 8 0 λa d=>wp 2 [0,3,6,357] d λa d=>bs cp (λhb cp=>?_) λhb cp=>?_)
 have d:=d.bv 357 hb
 refine wp 3 [0,3,360] d λa d=>bs cp (λhb cp=>?_) λhb cp=>?_
 have d:=d.bv 360 hb
 refine wp 3 [0,3,360,363] d λa d=>wcg d (wld d e 1 24 0 λa d=>wp 3 [0,3,352] d λa d=>nl ?_)
 cases cp
 exact ⟨_,d.kp [0,3,352],e.sp (rg 17) (rg 14),trivial⟩
 have d:=d.bv 360 hb
 refine wp 7 [0,3,352] d λa d=>nl ?_
 cases cp
 exact ⟨_,d.kp [0,3,352],e.sp (rg 17) (rg 14),trivial⟩
 have d:=d.bv 357 hb
 refine wp 10 [0,3,352] d λa d=>nl ?_
 cases cp
 exact ⟨_,d.kp [0,3,352],e.sp (rg 17) (rg 14),trivial⟩
 rintro a w ⟨κ,d,e,-⟩
 cases cn
 exact ⟨_,(some fL),dm,d.kp [0,3,352],e.sp (rg 17) (rg 14),trivial⟩
 rintro a w ⟨κ,df,c3,d,e,-⟩
 refine ht _ _ (bc d H (λhb H=>?_) λhb H=>?_)
 refine qs λ_ hw=>bd H λhx du H=>kJ (λa w => ∃κ:Gh,Fr (476) [] [k2g g,k25 A,(9,vi hx)] a∧SS Ms κ0 w0 κ w (k13 A b.Kind b.Id b.N b.TS b.Lo b.Hi ak (b.Vers).length al am (b.Vec).length an b.Cmd.Kind b.Cmd.DC b.Cmd.Shard b.Cmd.Node b.Cmd.Mode b.Cmd.Key g a1 a2 a3 (i64.wrap b.Id) a5 a6 p8 (x.Cuts).length c9 W (x.Nodes).length X l k.length o p B.length q s C.length u aD aP av ar ao j aa ab K L O I.length P Q Y df aq aL U T.length V R J.length S az aE aF aG F D.length G Z (ownX (fInt .i64) 3 l o k) (ownX jN 4 p q B) (ownX (fInt .i64) 3 s u C) aO a0 aw aQ ax aR (arrX j6 j aJ aS) ad ae af ah ai aj c3 dr.1) (k12 p8 c9 x.Cuts W X x.Nodes (ml j 4) (ml aa 4) (ml ab 4) K ad ae aU L af ah aV O P I Q ai aj aW U V T R S J F G D ak al b.Vers am an b.Vec)∧True) ?_ ?_
 refine rgS e [19] ?_
 have e:=e.drew
 have hX:=e.fx
 refine bd du λb9 ew du=>anp [0,1,2,4,5,6,8,9,11,12] [0,3,370,374,377,380] d hX λa d=>atk 3 (some 371) d hX rfl (vls 1 6 2) λa d=>atk 7 (some 375) d hX rfl (vld 1 1 0) λa d=>atk 10 (some 378) d hX rfl (vld 0 10 0) λa d=>atk 13 (some 381) d hX rfl (vld 0 11 0) λa d=>G7 14 18 d rfl rfl ?_ ?_
 refine jS d e kr kr (xO N e.fresh x a2 b.Cmd.Shard b.Cmd.Node p8 c9 W X ((e.pick [0,1] kr).ro) ew) ?_
 rintro _ κ w a ⟨dB,dC,dD,dE,rfl,hR,hN⟩ d e hO
 have e:=e.adds hR
 have e:=e.addC hO hN
 refine ⟨λ_=>(e.sx [2,3,8,9,10,11,12,13,14,15,16,17,18] (ra 2 14)),?_⟩
 refine anp [15,16] [0,3,367,383] d (e.sx [2,3,8,9,10,11,12,13,14,15,16,17,18] (ra 2 14)) λa d=>tU [17] [0,3,383,384] d (λ_=>e.sx [2,3,8,9,10,11,12,13,14,15,16,17,18] (ra 2 14)) λa d=>?_
 have d:Fr (476) _ [k2g g,k25 A,(383,.agg (flat [sl dB (b9.1.Cuts).length dC,sl dD (b9.1.Nodes).length dE]).toArray),(384,vi b9.2)] a:=d.kp [0,3,383,384]
 refine ago 18 d rfl (wal d e k05 (sgN 2 jE) λfM a w d e=>⟨λ_=>(e.sx [3,4,9,10,11,12,13,14,15,16,17,18,19] (ra 2 14)),?_⟩)
 refine ago 19 d rfl (wst d e 0 0 2 (k04 dB (b9.1.Cuts).length dC dD (b9.1.Nodes).length dE) (sgN 2 jE) λa w d e=>⟨notE,?_⟩)
 refine tU [20] [0,3,9] d notE λa d=>?_
 have d:Fr (476) _ [k2g g,k25 A,(9,vi b9.2)] a:=d.kp [0,3,9]
 refine kM ?_
 cases du
 exact ⟨_,d.kp [0,3,9],e.sp (ra 3 17) (ra 2 14),trivial⟩
 refine wal d e k05 (sgN 2 jE) λfM a w d e=>⟨λ_=>(e.sx [1,2,7,8,9,10,11,12,13,14,15,16,17] (rg 14)),?_⟩
 refine ago 14 d rfl (jS d e kr kr (xO N e.fresh x a2 b.Cmd.Shard b.Cmd.Node p8 c9 W X ((e.pick [0,1] kr).ro) ew) ?_)
 rintro _ κ w a ⟨dB,dC,dD,dE,rfl,hR,hN⟩ d e hO
 have e:=e.adds hR
 have e:=e.addC hO hN
 refine ⟨λ_=>(e.sx [3,4,9,10,11,12,13,14,15,16,17,18,19] (ra 2 14)),?_⟩
 refine anp [15,16] [0,3,8,367,383] d (e.sx [3,4,9,10,11,12,13,14,15,16,17,18,19] (ra 2 14)) λa d=>tU [17] [0,3,8,383,384] d (λ_=>e.sx [3,4,9,10,11,12,13,14,15,16,17,18,19] (ra 2 14)) λa d=>?_
 have d:Fr (476) _ [k2g g,k25 A,k2q fM,(383,.agg (flat [sl dB (b9.1.Cuts).length dC,sl dD (b9.1.Nodes).length dE]).toArray),(384,vi b9.2)] a:=d.kp [0,3,8,383,384]
 refine ago 19 d rfl (wst d e 2 0 2 (k04 dB (b9.1.Cuts).length dC dD (b9.1.Nodes).length dE) (sgN 2 jE) λa w d e=>⟨notE,?_⟩)
 refine tU [20] [0,3,9] d notE λa d=>?_
 have d:Fr (476) _ [k2g g,k25 A,(9,vi b9.2)] a:=d.kp [0,3,9]
 refine kM ?_
 cases du
 exact ⟨_,d.kp [0,3,9],e.sp (ra 3 17) (ra 2 14),trivial⟩
 rintro a w ⟨κ,d,e,-⟩
 refine hw _ _ (qr λ_ hy=>wp 2 [0,3,386] d λa d=>hy _ _ (bc d H (λhb H=>?_) λhb H=>?_))
 refine qs λ_ hz=>bd H λca dv H=>kJ (λa w => ∃κ er,Fr (476) [] [k2g g,k25 A,(10,pt er 0)] a∧SS Ms κ0 w0 κ w [k3v A b.Kind b.Id b.N b.TS b.Lo b.Hi ak (b.Vers).length al am (b.Vec).length an b.Cmd.Kind b.Cmd.DC b.Cmd.Shard b.Cmd.Node b.Cmd.Mode b.Cmd.Key,k3u g a1 a2 a3 (i64.wrap b.Id) a5 a6 p8 (x.Cuts).length c9 W (x.Nodes).length X l k.length o p B.length q s C.length u aD aP av ar ao j aa ab K L O I.length P Q Y df aq aL U T.length V R J.length S az aE aF aG F D.length G Z,.box er 128 [sg ca.1,sg ca.2.1,si ca.2.2],k3d O I.length P,k3e U T.length V,k3e R J.length S,k2s F D.length G,.ext (ownX (fInt .i64) 3 l o k),.ext (ownX jN 4 p q B),.ext (ownX (fInt .i64) 3 s u C),k2c aP aO a0,k3f av aw aQ,k3g ar ax aR,.ext (arrX j6 j aJ aS),mx K ad ae,mx L af ah,mx Q ai aj,k2y df c3 dr.1] (k12 p8 c9 x.Cuts W X x.Nodes (ml j 4) (ml aa 4) (ml ab 4) K ad ae aU L af ah aV O P I Q ai aj aW U V T R S J F G D ak al b.Vers am an b.Vec)∧True) ?_ ?_
 refine rgS e [12] ?_
 have e:=e.drew
 have hX:=e.fx
 refine bd dv λbR ex dv=>anp [0,1,2,4,5] [0,3,390,393] d hX λa d=>atk 3 (some 391) d hX rfl (vls 1 6 2) λa d=>atk 6 (some 394) d hX rfl (vld 0 10 0) λa d=>G7 7 11 d rfl rfl ?_ ?_
 refine jS d e kr kr (A5 N e.fresh x b.Cmd.Shard p8 c9 W X ((e.pick [0,1] kr).ro) ex) ?_
 rintro _ κ w a ⟨rfl,hR,hN⟩ d e hO
 refine ⟨λ_=>(e.sx [0,1,6,7,8,9,10,11,12,13,14,15,16] (rg 14)),?_⟩
 refine anp [8,9] [0,3,387,396] d (e.sx [0,1,6,7,8,9,10,11,12,13,14,15,16] (rg 14)) λa d=>tU [10] [0,3,396,397] d (λ_=>e.sx [0,1,6,7,8,9,10,11,12,13,14,15,16] (rg 14)) λa d=>?_
 have d:Fr (476) _ [k2g g,k25 A,(396,.agg (flat [sg bR.1.Lo,sg bR.1.Hi,si bR.1.Node]).toArray),(397,vb bR.2)] a:=d.kp [0,3,396,397]
 refine ago 11 d rfl (wal d e (k06 empty) (sgN 3 jE) λds a w d e=>⟨λ_=>(e.sx [1,2,7,8,9,10,11,12,13,14,15,16,17] (rg 14)),?_⟩)
 refine ago 12 d rfl (wst d e 0 0 3 [sg bR.1.Lo,sg bR.1.Hi,si bR.1.Node] (sgN 3 jE) λa w d e=>⟨notE,?_⟩)
 refine tU [13] [0,3,10] d notE λa d=>?_
 have d:Fr (476) _ [k2g g,k25 A,(10,pt ds 0)] a:=d.kp [0,3,10]
 refine kM ?_
 cases dv
 exact ⟨_,ds,d.kp [0,3,10],e.sp [1,2,0,3,4,5,6,7,8,9,10,11,12,13,14,15,16,17] (rg 14),trivial⟩
 refine wal d e (k06 empty) (sgN 3 jE) λds a w d e=>⟨λ_=>(e.sx [1,2,7,8,9,10,11,12,13,14,15,16,17] (rg 14)),?_⟩
 refine ago 7 d rfl (jS d e kr kr (A5 N e.fresh x b.Cmd.Shard p8 c9 W X ((e.pick [0,1] kr).ro) ex) ?_)
 rintro _ κ w a ⟨rfl,hR,hN⟩ d e hO
 refine ⟨λ_=>(e.sx [1,2,7,8,9,10,11,12,13,14,15,16,17] (rg 14)),?_⟩
 refine anp [8,9] [0,3,10,387,396] d (e.sx [1,2,7,8,9,10,11,12,13,14,15,16,17] (rg 14)) λa d=>tU [10] [0,3,10,396,397] d (λ_=>e.sx [1,2,7,8,9,10,11,12,13,14,15,16,17] (rg 14)) λa d=>?_
 have d:Fr (476) _ [k2g g,k25 A,(10,pt ds 0),(396,.agg (flat [sg bR.1.Lo,sg bR.1.Hi,si bR.1.Node]).toArray),(397,vb bR.2)] a:=d.kp [0,3,10,396,397]
 refine ago 12 d rfl (wst d e 0 0 3 [sg bR.1.Lo,sg bR.1.Hi,si bR.1.Node] (sgN 3 jE) λa w d e=>⟨notE,?_⟩)
 refine tU [13] [0,3,10] d notE λa d=>?_
 have d:Fr (476) _ [k2g g,k25 A,(10,pt ds 0)] a:=d.kp [0,3,10]
 refine kM ?_
 cases dv
 exact ⟨_,ds,d.kp [0,3,10],e.sp [1,2,0,3,4,5,6,7,8,9,10,11,12,13,14,15,16,17] (rg 14),trivial⟩
 rintro a w ⟨κ,er,d,e,-⟩
 refine hz _ _ (rl (wp 1 [0,3,10,398] d λa d=>wc (wls d e 2 0 3 λa d=>wp 2 [0,3,398,399,401] d λa d=>wc (wld d e 0 10 0 λa d=>wp 2 [0,3,398,399,402,404] d λa d=>wc (wld d e 0 11 0 λa d=>wp 1 [0,3,398,406] d λa d=>wc (wbx d e [sg ca.1,sg ca.2.1,si ca.2.2,si b.Cmd.Shard,si b.Cmd.Node,si 0] (sgN 6 jE) λes a w d e=>wp 2 [0,3,407,409] d λa d=>wc (wst d e 2 24 1 [k34 es] (sgN 1 jE) λa w d e=>nl ?_)))))))
 obtain ⟨go,e⟩:=e.foldI (ck:=l8) (fs:=l6) es () (j8.mk (l9.mk ca.1 ca.2.1 ca.2.2) b.Cmd.Shard b.Cmd.Node 0) [0] (ra 1 18) [] dc kr kr
 exact ⟨_,a3,a5,a6,x.Cuts,p8,c9,x.Nodes,W,X,aP,aO,a0,av,aw,aQ,ar,ax,aR,j,aJ,aS,aa,ab,K,ad,ae,aU,L,af,ah,aV,I,O,P,Q,ai,aj,aW,(some es),go,(some (j8.mk (l9.mk ca.1 ca.2.1 ca.2.2) b.Cmd.Shard b.Cmd.Node 0)),aq,aL,T,U,V,J,R,S,az,aE,aF,aG,D,F,G,d.kp [0,3],e.sp [2,1,4,5,6,7,8,9,10,11,12,13,14,15,16,17,0] (rg 14),H⟩
 refine sk ?_
 exact ⟨_,a3,a5,a6,x.Cuts,p8,c9,x.Nodes,W,X,aP,aO,a0,av,aw,aQ,ar,ax,aR,j,aJ,aS,aa,ab,K,ad,ae,aU,L,af,ah,aV,I,O,P,Q,ai,aj,aW,df,c3,dr.1,aq,aL,T,U,V,J,R,S,az,aE,aF,aG,D,F,G,d.kp [0,3],e.sp [1,0,2,3,4,5,6,7,8,9,10,11,12,13,14,15,16] (rg 14),H⟩
 refine sk ?_
 exact ⟨_,a3,a5,a6,x.Cuts,p8,c9,x.Nodes,W,X,aP,aO,a0,av,aw,aQ,ar,ax,aR,j,aJ,aS,aa,ab,K,ad,ae,aU,L,af,ah,aV,I,O,P,Q,ai,aj,aW,df,c3,dr.1,aq,aL,T,U,V,J,R,S,az,aE,aF,aG,D,F,G,d.kp [0,3],e.sp [1,0,2,3,4,5,6,7,8,9,10,11,12,13,14,15,16] (rg 14),H⟩
 rintro a w ⟨κ,b0,b1,b2,bJ,bU,bV,bK,bW,bX,bC,cy,cF,bD,cz,cG,bE,cA,cH,bi,cB,cI,bL,bM,bj,cq,cr,c4,bl,cs,cu,c5,bf,bm,bn,bo,cv,cw,c6,bF,cD,cJ,b3,b4,bg,bq,br,bh,bt,bu,b5,b6,b7,b8,dn,dw,dx,d,e,H⟩
 unfold M.kL at H
 refine qr λ_ hA=>(wp 3 [0,3,412] d λa d=>wc (wst d e 0 11 1 [sb true] (sgN 1 jE) λa w d e=>(hA _ _ (qs λ_ hC=>qr λ_ hD=>(wp 3 [0,3,415] d λa d=>wc (wld d e 0 1 0 λa d=>wp 1 [0,3,416,417] d λa d=>(hD _ _ (bk (jX (n:=N) (λn a w => ∃κ,∃bG:List Bool,∃bH:List Int,∃bI:List i9,∃bO bP aA,Fr (476) [] [k2g g,k25 A,(416,vi a2),(417,vi aA)] a∧SS Ms κ0 w0 κ w [.box g 87 [si a1,si a2,si b0,si (i64.wrap b.Id),si b1,si b2,sl bU bJ.length bV,sl bW bK.length bX,sl l k.length o,sl p bG.length q,sl s bH.length u,sb true,sp bC,sp bD,sp bE,su ao,k3l bi,ei 4 bL,ei 4 bM,sm bj,sm bl,sl bm bf.length bn,sm bo,(1,Y),sp bF,si b3,si b4,sl bq bg.length br,sl bt bh.length bu,su b5,sb b6,sb b7,sb b8,sl bO bI.length bP,(1,Z)],k3v A b.Kind b.Id b.N b.TS b.Lo b.Hi ak (b.Vers).length al am (b.Vec).length an b.Cmd.Kind b.Cmd.DC b.Cmd.Shard b.Cmd.Node b.Cmd.Mode b.Cmd.Key,k2s bO bI.length bP,k3d bm bf.length bn,k3e bq bg.length br,k3e bt bh.length bu,.ext (ownX (fInt .i64) 3 l o k),.ext (ownX jN 4 p q bG),.ext (ownX (fInt .i64) 3 s u bH),k2c bC cy cF,k3f bD cz cG,k3g bE cA cH,.ext (arrX j6 bi cB cI),mx bj cq cr,mx bl cs cu,mx bo cv cw,k2y bF cD cJ] (k12 bU bV bJ bW bX bK (ml bi 4) (ml bL 4) (ml bM 4) bj cq cr c4 bl cs cu c5 bm bn bf bo cv cw c6 bq br bg bt bu bh bO bP bI ak al b.Vers am an b.Vec)∧M.nB N n a1 a2 k ao b b0 b1 b2 bJ bK cF cG cH cI bL bM c4 c5 bf c6 cJ b3 b4 bg bh b5 b6 b7 b8 bG bH bI aA=some r) ?_ ?_)))))))))
 exact ⟨_,B,C,dn,dw,dx,0,d.kp [0,3,416,417],e.sp [0,1,5,2,3,4,6,7,8,9,10,11,12,13,14,15,16] (rg 14),H⟩
 rintro n a w ⟨κ,bG,bH,bI,bO,bP,aA,d,e,H⟩
 rcases n with _|gp
 simp [M.nB] at H
 simp only [M.nB] at H
 refine qr λ_ hE=>wp 1 [0,3,416,417,418] d λa d=>hE _ _ (qs λ_ hG=>bc d H (λhb H=>?_) λhb H=>?_)
 refine sk (hG _ _ (qs λ_ hH=>bk (qr λ_ hI=>wp 2 [0,3,12,416,417] d λa d=>hI _ _ (qs λ_ hJ=>rgS e [23,25] ?_))))
 have e:=e.drew
 have hX:=e.fx
 refine jO [0,1,2,4,5,6,7,10,11,12,14,15,16,18] [0,3,12,416,417,422,424,427,432,436,438] (L':=[k2g g,k25 A,(12,vi aA),(416,vi a2),(417,vi aA),(422,pt g 10),(424,vi aA),(427,pt g 9),(432,pt g 8),(436,pt g 0),(438,vi aA)]) (listed':=(mU 26 384247)) (fuel:=12) d hX kr (by intro c a w t v h; cases t<;>exact h) kr rfl λa d=>tU [9] [0,3,12,416,417,422,424,427,429,432,436,438] d (λ_=>hX) λa d=>?_
 have d:Fr (476) _ [k2g g,k25 A,(12,vi aA),(416,vi a2),(417,vi aA),(422,pt g 10),(424,vi aA),(427,pt g 9),(429,vi aA),(432,pt g 8),(436,pt g 0),(438,vi aA)] a:=d.kp [0,3,12,416,417,422,424,427,429,432,436,438]
 refine atk 3 (some 423) d hX rfl (vld 0 10 0) λa d=>atk 8 (some 428) d hX rfl (vld 0 9 0) λa d=>atk 13 (some 433) d hX rfl (vld 0 8 0) λa d=>atk 17 (some 437) d hX rfl (vld 0 0 0) λa d=>ago 19 d rfl (bd H λdY gq H=>jS d e kr kr (uV N e.fresh a1 aA ((e.pick [] kr).ro) gq) ?_)
 rintro _ κ w a ⟨rfl,hR,hN⟩ d e hO
 refine ⟨λ_=>(e.sx [0,1,6,7,8,9,10,11,12,13,14,15,16] (rg 14)),?_⟩
 refine bd H λcx dZ H=>?_
 obtain ⟨fN,fO,d4⟩:=e.ptrO 6 rfl dZ
 refine atk 20 (some 440) d (e.sx [0,1,6,7,8,9,10,11,12,13,14,15,16] (rg 14)) rfl (λw _=>mN (E:=3) (sz:=1) rfl d4 rfl kr rfl dZ kr kr w) λa d=>atk 21 (some 441) d (e.sx [0,1,6,7,8,9,10,11,12,13,14,15,16] (rg 14)) rfl (xT 2 (v:=vi cx) rfl rfl d4 rfl dZ rfl kr kr) λa d=>bd H λil d0 H=>?_
 obtain ⟨im,io,d5⟩:=e.ptrO 8 rfl d0
 refine atk 22 (some 442) d (e.sx [0,1,6,7,8,9,10,11,12,13,14,15,16] (rg 14)) rfl (λw _=>mN (E:=3) (sz:=1) rfl d5 rfl kr rfl d0 kr kr w) λa d=>ago 23 d rfl (sL d e kr 8 (z:=cx) rfl rfl rfl rfl d5 d0 rfl kr rfl kr (Cf:=(λnn=>[.box g 87 [si a1,si a2,si b0,si (i64.wrap b.Id),si b1,si b2,sl bU bJ.length bV,sl bW bK.length bX,sl l k.length o,sl p bG.length q,sl s nn u,sb true,sp bC,sp bD,sp bE,su ao,(4,(encs pF bi)),ei 4 bL,ei 4 bM,sm bj,sm bl,sl bm bf.length bn,sm bo,(1,Y),sp bF,si b3,si b4,sl bq bg.length br,sl bt bh.length bu,su b5,sb b6,sb b7,sb b8,sl bO bI.length bP,(1,Z)],.box A 38 [si b.Kind,su b.Id,su b.N,su b.TS,sg b.Lo,sg b.Hi,sl ak (b.Vers).length al,sl am (b.Vec).length an,si b.Cmd.Kind,si b.Cmd.DC,si b.Cmd.Shard,si b.Cmd.Node,si b.Cmd.Mode,sg b.Cmd.Key],.tok bO 61 15 bI.length bP,.tok bm 95 5 bf.length bn,.tok bq 32 1 bg.length br,.tok bt 32 1 bh.length bu,.ext (ownX (fInt .i64) 3 l o k),.ext (ownX jN 4 p q bG),.ext (ownX (fInt .i64) 3 s u (set bH (toNat aA) cx)),ox o_stab_Table bC cy cF,ox o_order_Log bD cz cG,ox o_coord_Table bE cA cH,.ext (arrX j6 bi cB cI),mx bj cq cr,mx bl cs cu,mx bo cv cw,ox o_gate_move bF cD cJ])) (Lf:=(λnn=>[(0,pt g 0),(3,pt A 0),(12,vi aA),(416,vi a2),(417,vi aA),(422,pt g 10),(423,.slice s nn u),(424,vi aA),(427,pt g 9),(428,.slice p bG.length q),(429,vi aA),(432,pt g 8),(433,.slice l k.length o),(436,pt g 0),(437,vi a1),(438,vi aA),(439,vi dY),(440,.pointer (some ⟨fN,(fO+toNat dY*1),none⟩)),(441,vi cx)])) [0,3,12,416,417,422,423,424,427,428,429,432,433,436,437,438,439,440,441] kr kr λa w d e=>?_)
 refine ⟨notE,?_⟩
 refine bd H λip d1 H=>?_
 obtain ⟨iq,ir,d6⟩:=e.ptrO 7 rfl d1
 refine LO 24 (some 443) d notE rfl (λw=>mN (E:=4) (sz:=1) rfl d6 rfl kr rfl d1 kr kr w) λa d=>ago 25 d rfl (sL d e kr 7 (z:=false) rfl rfl rfl rfl d6 d1 rfl kr rfl kr (Cf:=(λnn=>[.box g 87 [si a1,si a2,si b0,si (i64.wrap b.Id),si b1,si b2,sl bU bJ.length bV,sl bW bK.length bX,sl l k.length o,sl p nn q,sl s ((set bH (toNat aA) cx)).length u,sb true,sp bC,sp bD,sp bE,su ao,(4,(encs pF bi)),ei 4 bL,ei 4 bM,sm bj,sm bl,sl bm bf.length bn,sm bo,(1,Y),sp bF,si b3,si b4,sl bq bg.length br,sl bt bh.length bu,su b5,sb b6,sb b7,sb b8,sl bO bI.length bP,(1,Z)],.box A 38 [si b.Kind,su b.Id,su b.N,su b.TS,sg b.Lo,sg b.Hi,sl ak (b.Vers).length al,sl am (b.Vec).length an,si b.Cmd.Kind,si b.Cmd.DC,si b.Cmd.Shard,si b.Cmd.Node,si b.Cmd.Mode,sg b.Cmd.Key],.tok bO 61 15 bI.length bP,.tok bm 95 5 bf.length bn,.tok bq 32 1 bg.length br,.tok bt 32 1 bh.length bu,.ext (ownX (fInt .i64) 3 l o k),.ext (ownX jN 4 p q (set bG (toNat aA) false)),.ext (ownX (fInt .i64) 3 s u (set bH (toNat aA) cx)),ox o_stab_Table bC cy cF,ox o_order_Log bD cz cG,ox o_coord_Table bE cA cH,.ext (arrX j6 bi cB cI),mx bj cq cr,mx bl cs cu,mx bo cv cw,ox o_gate_move bF cD cJ])) (Lf:=(λnn=>[(0,pt g 0),(3,pt A 0),(12,vi aA),(416,vi a2),(417,vi aA),(422,pt g 10),(423,.slice s ((set bH (toNat aA) cx)).length u),(424,vi aA),(427,pt g 9),(428,.slice p nn q),(429,vi aA),(432,pt g 8),(433,.slice l k.length o),(436,pt g 0),(437,vi a1),(438,vi aA),(439,vi dY),(440,.pointer (some ⟨fN,(fO+toNat dY*1),none⟩)),(441,vi cx)])) [0,3,12,416,417,422,423,424,427,428,429,432,433,436,437,438,439,440,441] kr kr λa w d e=>?_)
 refine ⟨notE,?_⟩
 refine kM (hJ _ _ (rga (λ_=>True) [] ?_))
 have e:=e.drew
 refine jO [0,1,2,4] [0,3,416,417,444,445,446,448] (L':=[k2g g,k25 A,(416,vi a2),(417,vi aA),(444,pt g 0),(445,vi aA),(446,pt A 1),(448,pt A 7)]) (listed':=(mU 9 23)) (fuel:=5) d trivial kr (by intro c a w t v h; cases t<;>exact h) kr rfl λa d=>mG e [8] (atk 3 (some 447) d (e.sx [0,1,6,7,8,9,10,11,12,13,14,15,16] (rg 14)) rfl (vld 1 1 0) λa d=>atk 5 (some 449) d (e.sx [0,1,6,7,8,9,10,11,12,13,14,15,16] (rg 14)) rfl (vld 1 7 0) λa d=>?_)
 refine ago 6 d rfl ?_
 have e:=e.add (m:=Ro.mp (fInt .u64).ty none 0 ([]:List Int)) (Ro.nil (fInt .u64).ty _ _)
 have e:=e.addNil 32 1
 refine bd H λhK gr H=>kI (ty:=(fInt .u64).ty) d e kr 0 0 14 rfl rfl rfl kr kr rfl rfl rfl gr kr (i:=Tryz.t32) (z:=vu 0) kr kr kr λhL hM κ a w d e=>⟨λ_=>(e.sx [1,2,7,8,9,10,11,12,13,14,15,16,17] (ra 2 14)),?_⟩
 refine anp [7] [0,3,416,417,444,445,451] d (e.sx [1,2,7,8,9,10,11,12,13,14,15,16,17] (ra 2 14)) λa d=>ago 8 d rfl ?_
 have e:=e.add (m:=Ro.mp jF.ty none 0 ([]:List jC)) (Ro.nil jF.ty _ _)
 refine bd H λfP gs H=>?_
 have eE:=e.segs 1 rfl
 refine wcS 2 [1,3,0,2,4,5,6,7,8,9,10,11,12,13,14,15,16,17] d e (λe=>lK N a1 bI aA (jK.mk 10 b.Id 0 0 empty empty ([]:List jC) hK (jT.mk 0 0 0 0 0 empty)) (flat [si a2,si b0,si (i64.wrap b.Id),si b1,si b2,sl bU bJ.length bV,sl bW bK.length bX,sl l k.length o,sl p ((set bG (toNat aA) false)).length q,sl s ((set bH (toNat aA) cx)).length u,sb true,sp bC,sp bD,sp bE,su ao,k3l bi,ei 4 bL,ei 4 bM,sm bj,sm bl,sl bm bf.length bn,sm bo,(1,Y),sp bF,si b3,si b4,sl bq bg.length br,sl bt bh.length bu,su b5,sb b6,sb b7,sb b8]) bO bP Z none 0 hL hM g ((e.regr 0 [(false,1),(true,32),(false,2)] rfl).sbK [14,0,1]) gs) ?_
 rintro _ κ w a ⟨fQ,fR,rfl,h2⟩ d hB
 have e:=(hB _ _ h2).unregrK 0 [(false,1),(true,32),(false,2)] (s':=[si a1,si a2,si b0,si (i64.wrap b.Id),si b1,si b2,sl bU bJ.length bV,sl bW bK.length bX,sl l k.length o,sl p ((set bG (toNat aA) false)).length q,sl s ((set bH (toNat aA) cx)).length u,sb true,sp bC,sp bD,sp bE,su ao,k3l bi,ei 4 bL,ei 4 bM,sm bj,sm bl,sl bm bf.length bn,sm bo,(1,Y),sp bF,si b3,si b4,sl bq bg.length br,sl bt bh.length bu,su b5,sb b6,sb b7,sb b8,sl fQ fP.length fR,(1,Z)]) eE rfl
 refine ⟨notE,?_⟩
 refine kM (hH _ _ (rl (wp 2 [0,3,416,417] d λa d=>nl ?_)))
 exact ⟨gp,Nat.lt_succ_self _,_,(set bG (toNat aA) false),(set bH (toNat aA) cx),fP,fQ,fR,i64.wrap (aA+1),d.kp [0,3,416,417],e.sp [0,3,1,4,5,6,7,8,9,10,11,12,13,14,15,16,17] [4,5,6,7,8,9,10,11,12,13,14,0,16,17],H⟩
 refine xt (hC _ _ (qr λ_ hP=>(wp 3 [0,3,456] d λa d=>wc (wld d e 0 8 0 λa d=>wp 2 [0,3,458,459] d λa d=>(hP _ _ (bk (jX (n:=N) (λn a w => ∃κ,∃dg:List Int,∃bY,Fr (476) [] [k2g g,k25 A,(458,vi (k.length:Int)),(459,vi bY)] a∧SS Ms κ0 w0 κ w [.box g 87 [si a1,si a2,si b0,si (i64.wrap b.Id),si b1,si b2,sl bU bJ.length bV,sl bW bK.length bX,sl l dg.length o,sl p bG.length q,sl s bH.length u,sb true,sp bC,sp bD,sp bE,su ao,k3l bi,ei 4 bL,ei 4 bM,sm bj,sm bl,sl bm bf.length bn,sm bo,(1,Y),sp bF,si b3,si b4,sl bq bg.length br,sl bt bh.length bu,su b5,sb b6,sb b7,sb b8,sl bO bI.length bP,(1,Z)],k3v A b.Kind b.Id b.N b.TS b.Lo b.Hi ak (b.Vers).length al am (b.Vec).length an b.Cmd.Kind b.Cmd.DC b.Cmd.Shard b.Cmd.Node b.Cmd.Mode b.Cmd.Key,k2s bO bI.length bP,k3d bm bf.length bn,k3e bq bg.length br,k3e bt bh.length bu,.ext (ownX (fInt .i64) 3 l o dg),.ext (ownX jN 4 p q bG),.ext (ownX (fInt .i64) 3 s u bH),k2c bC cy cF,k3f bD cz cG,k3g bE cA cH,.ext (arrX j6 bi cB cI),mx bj cq cr,mx bl cs cu,mx bo cv cw,k2y bF cD cJ] (k12 bU bV bJ bW bX bK (ml bi 4) (ml bL 4) (ml bM 4) bj cq cr c4 bl cs cu c5 bm bn bf bo cv cw c6 bq br bg bt bu bh bO bP bI ak al b.Vers am an b.Vec)∧M.nA N n a1 a2 k ao b b0 b1 b2 bJ bK cF cG cH cI bL bM c4 c5 bf c6 cJ b3 b4 bg bh b5 b6 b7 b8 bG bH bI dg bY=some r) ?_ ?_)))))))
 exact ⟨_,k,0,d.kp [0,3,458,459],e.sp (rg 17) (rg 14),H⟩
 rintro n a w ⟨κ,dg,bY,d,e,H⟩
 rcases n with _|gu
 simp [M.nA] at H
 simp only [M.nA] at H
 refine qr λ_ hQ=>wp 1 [0,3,458,459,460] d λa d=>hQ _ _ (qs λ_ hT=>bc d H (λhb H=>?_) λhb H=>?_)
 refine sk (hT _ _ (qs λ_ hU=>bk (qr λ_ hV=>wp 2 [0,3,13,458,459] d λa d=>hV _ _ (rgS e [13] ?_))))
 have e:=e.drew
 have hX:=e.fx
 refine jO [0,1,2,4,5,7,8] [0,3,458,459,464,466,467,470] (L':=[k2g g,k25 A,(458,vi (k.length:Int)),(459,vi bY),(464,pt g 8),(466,vi bY),(467,pt A 7),(470,vi (i64.wrap (bY+1)))]) (listed':=(mU 14 439)) (fuel:=7) d hX kr (by intro c a w t v h; cases t<;>exact h) kr rfl λa d=>atk 3 (some 465) d hX rfl (vld 0 8 0) λa d=>atk 6 (some 468) d hX rfl (vld 1 7 0) λa d=>bd H λdt d2 H=>?_
 obtain ⟨it,iu,d7⟩:=e.ptr 13 rfl d2
 refine atk 9 (some 471) d (e.sx [0,1,6,7,8,9,10,11,12,13,14,15,16] (rg 14)) rfl (λw _=>mN (E:=32) (sz:=1) rfl d7 rfl kr rfl d2 kr kr w) λa d=>atk 10 (some 472) d (e.sx [0,1,6,7,8,9,10,11,12,13,14,15,16] (rg 14)) rfl (qG (t:=(fInt .u64)) 13 0 (v:=vu dt) rfl rfl d7 rfl d2 kr kr kr) λa d=>jO [11] [0,3,458,459,465,466,473] (L':=[k2g g,k25 A,(458,vi (k.length:Int)),(459,vi bY),(465,.slice l dg.length o),(466,vi bY),(473,vi (i64.wrap dt))]) (listed':=(mU 14 4095)) (fuel:=2) d (e.sx [0,1,6,7,8,9,10,11,12,13,14,15,16] (rg 14)) kr (by intro c a w t v h; cases t<;>exact h) kr rfl λa d=>?_
 refine bd H λiv d3 H=>?_
 obtain ⟨iw,iy,d8⟩:=e.ptrO 6 rfl d3
 refine atk 12 (some 474) d (e.sx [0,1,6,7,8,9,10,11,12,13,14,15,16] (rg 14)) rfl (λw _=>mN (E:=3) (sz:=1) rfl d8 rfl kr rfl d3 kr kr w) λa d=>ago 13 d rfl (sL d e kr 6 (z:=i64.wrap dt) rfl rfl rfl rfl d8 d3 rfl kr rfl kr (Cf:=(λnn=>[.box g 87 [si a1,si a2,si b0,si (i64.wrap b.Id),si b1,si b2,sl bU bJ.length bV,sl bW bK.length bX,sl l nn o,sl p bG.length q,sl s bH.length u,sb true,sp bC,sp bD,sp bE,su ao,(4,(encs pF bi)),ei 4 bL,ei 4 bM,sm bj,sm bl,sl bm bf.length bn,sm bo,(1,Y),sp bF,si b3,si b4,sl bq bg.length br,sl bt bh.length bu,su b5,sb b6,sb b7,sb b8,sl bO bI.length bP,(1,Z)],.box A 38 [si b.Kind,su b.Id,su b.N,su b.TS,sg b.Lo,sg b.Hi,sl ak (b.Vers).length al,sl am (b.Vec).length an,si b.Cmd.Kind,si b.Cmd.DC,si b.Cmd.Shard,si b.Cmd.Node,si b.Cmd.Mode,sg b.Cmd.Key],.tok bO 61 15 bI.length bP,.tok bm 95 5 bf.length bn,.tok bq 32 1 bg.length br,.tok bt 32 1 bh.length bu,.ext (ownX (fInt .i64) 3 l o (set dg (toNat bY) (i64.wrap dt))),.ext (ownX jN 4 p q bG),.ext (ownX (fInt .i64) 3 s u bH),ox o_stab_Table bC cy cF,ox o_order_Log bD cz cG,ox o_coord_Table bE cA cH,.ext (arrX j6 bi cB cI),mx bj cq cr,mx bl cs cu,mx bo cv cw,ox o_gate_move bF cD cJ])) (Lf:=(λnn=>[(0,pt g 0),(3,pt A 0),(458,vi (k.length:Int)),(459,vi bY),(465,.slice l nn o),(466,vi bY),(473,vi (i64.wrap dt))])) [0,3,458,459,465,466,473] kr kr λa w d e=>?_)
 refine ⟨notE,?_⟩
 refine kM (hU _ _ (rl (wp 2 [0,3,458,459] d λa d=>nl ?_)))
 exact ⟨gu,Nat.lt_succ_self _,_,(set dg (toNat bY) (i64.wrap dt)),i64.wrap (bY+1),d.kp [0,3,458,459],e.sp (rg 17) (rg 14),H⟩
 refine xt ?_
 cases H
 exact j7 d e (mI Tryz.results31) ⟨bU,bV,bW,bX,l,o,p,q,s,u,bC,cy,bD,cz,bE,cA,bi,cB,bj,cq,cr,bl,cs,cu,bm,bn,bo,cv,cw,bF,cD,bq,br,bt,bu,bO,bP,rfl,e.sp [0,3,4,5,2,6,7,8,9,10,11,12,13,14,15,16] (rg 12)⟩
end Go.Cf
