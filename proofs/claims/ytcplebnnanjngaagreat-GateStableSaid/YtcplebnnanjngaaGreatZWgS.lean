/- The walks: each function returns what its model says. Printed by a program of ours. -/
import Derived.Test.YtcplebnnanjngaaGreatZSh
import Derived.Test.YtcplebnnanjngaaGreatZM1
import Derived.Test.YtcplebnnanjngaaGreatZWg1
import Derived.Test.YtcplebnnanjngaaGreatZWg2
import Derived.Test.YtcplebnnanjngaaGreatZWg9
import Derived.Test.YtcplebnnanjngaaGreatZWr1
import Derived.Test.YtcplebnnanjngaaGreatZWr2
import Derived.Test.YtcplebnnanjngaaGreatZWr3
import Derived.Test.YtcplebnnanjngaaGreatZWr4
namespace Go.Cf
open Go Go.Proofs
open _root_.Int(toNat tdiv tmod)
open _root_.List(set replicate)
open _root_.ByteArray(empty)
open Go.IntKind(i64 u64)
set_option linter.unusedVariables false
set_option maxRecDepth 20000
set_option maxHeartbeats 8000000
theorem yX (N){κ0}{w0}(f1:lL κ0 w0)(a1)(a2)(B)(F)(G)(hR : ∀m∈([ml a2 4,Ro.mp lY F G B]:List MP),m.p κ0 w0){r}(H:M.rK N a1 a2 B=some r) :
    Calls Tryz.prog 3 #[vi a1,.agg (flat [eb 4 a2]).toArray,.slice F B.length G] w0 (kQ [] κ0 w0 λv κ w=>v=vb r∧(∀m∈([]:List MP),m.p κ w)∧t5 w0 κ w []):=by
 have g:=SS.start f1 hR
 refine en Tryz.func3 rfl Tryz.ntmps3 λa e=>?_
 unfold M.rK at H
 refine qr λ_ h6=>(wc (wbx e g [eb 4 a2] (kO (g.get 0 rfl) jE) λb7 a w e g=>jG (L':=[(0,vi a1),k46 F B.length G,k26 b7]) 1 [0,2,4] e kr λa e=>(h6 _ _ (qr λ_ h8=>(bd H λx9 eN H=>wc (l5 e kr (E:=4) (sz:=1) (n:=4) rfl rfl (i:=0) rfl (m1 eN (g.get 0 rfl)) kr kr λa e=>wc (lM (t:=jN) (y:=true) (v:=vb true) e g kr 0 0 (s':=[eb 4 (set a2 (toNat 0) true)]) (C':=[k2e b7 (set a2 (toNat 0) true)]) rfl rfl kr rfl rfl eN rfl rfl kr kr kr kr λa w e g=>?_)))))))
 have g:=g.add (m:=ml (set a2 (toNat 0) true) 4) (List.length_set.trans (g.get 0 rfl))
 refine h8 _ _ (qs λ_ f3=>rgS g [] ?_)
 have g:=g.drew
 have hX:=g.fx
 refine bd H λf5 eO H=>bd H λf6 eP H=>anp (rg 5) [2,4,22] e hX λa e=>atk 5 (some 23) e hX rfl (vls 0 0 1) λa e=>ago 6 e rfl (jS e g kr kr (yM N g.fresh ((g.pick [] kr).ro) eO) ?_)
 rintro _ κ w a ⟨f7,f8,rfl,hR,hN⟩ e g hO
 have g:=g.adds hR
 have g:=g.addC hO hN
 refine ⟨λ_=>(g.sx [1] [1,2,3]),?_⟩
 refine ago 7 e rfl (wcS 0 [0,1] e g (λg=>BR N 0 (i64.wrap ((i64.wrap (tmod (u64.wrap a1) 4))+1)) (set a2 (toNat 0) true) f5 f7 f8 (g.sbK [1,0]) eP) ?_)
 rintro _ κ w a ⟨f9,de,rfl,X⟩ e Y
 have g:=Y _ _ X
 refine ⟨λ_=>(g.sx [2] [1,2,3]),?_⟩
 refine jO (ra 8 5) [2,7,8] (L':=[k46 F B.length G,k47 f9,(8,vi f6.2)]) (listed':=(mU 13 8191)) (fuel:=0) e (g.sx [2] [1,2,3]) kr (by intro c a w t v h; cases t<;>exact h) kr rfl λa e=>kM (f3 _ _ (qs λ_ ga=>qs λ_ gb=>bd H λdf aU H=>kJ (λa w => ∃κ cR cd,Fr (117) [] [k46 F B.length G,k47 cR,(33,vb df.2)] a∧SS [] κ0 w0 κ w [ox l7 cR cd df.1] [Ro.mp lY F G B]∧True) ?_ ?_))
 refine kU aU (λho aU=>?_) (λgc ho aU=>?_)
 obtain ⟨D,g⟩:=g.optN 0 rfl ho
 rw [D] at g
 try rw [D] at e
 refine rl (bd aU λgE bT aU=>kA (λa w => ∃κ:Gh,Fr (117) [] [k46 F B.length G,(7,.pointer none),(33,vb true)] a∧SS [] κ0 w0 κ w [] [Ro.mp lY F G B]∧True) ?_ ?_)
 refine wp 3 [2,7,30] e λa e=>bs bT (λhb bT=>?_) λhb bT=>?_
 have e:=e.bv 30 hb
 refine wp 3 [2,7,33] e λa e=>nl ?_
 cases bT
 exact ⟨_,e.kp [2,7,33],g.sp [] [3],trivial⟩
 have e:=e.bv 30 hb
 refine wp 3 [2,7,33] e λa e=>nl ?_
 cases bT
 exact ⟨_,e.kp [2,7,33],g.sp [] [3],trivial⟩
 rintro a w ⟨κ,e,g,-⟩
 cases aU
 have g:=g.addOpt l7
 exact ⟨_,none,[],e.kp [2,7,33],g.sp [0] [0],trivial⟩
 obtain ⟨dg,D,g⟩:=g.optS 0 rfl ho
 rw [D] at g
 try rw [D] at e
 refine rl (bd aU λgd bU aU=>kA (λa w => ∃κ:Gh,Fr (117) [] [k46 F B.length G,k2i dg,(33,vb gd)] a∧SS [] κ0 w0 κ w [ox l7 (some dg) de (some gc)] [Ro.mp lY F G B]∧True) ?_ ?_)
 refine wp 3 [2,7,30] e λa e=>bs bU (λhb bU=>?_) λhb bU=>?_
 have e:=e.bv 30 hb
 refine wp 3 [2,7,33] e λa e=>nl ?_
 cases bU
 exact ⟨_,e.kp [2,7,33],g.sp [0] [3],trivial⟩
 have e:=e.bv 30 hb
 refine wp 3 [2,7,33] e λa e=>nl ?_
 cases bU
 exact ⟨_,e.kp [2,7,33],g.sp [0] [3],trivial⟩
 rintro a w ⟨κ,e,g,-⟩
 cases aU
 exact ⟨_,(some dg),de,e.kp [2,7,33],g.sp [0] [0],trivial⟩
 rintro a w ⟨κ,cR,cd,e,g,-⟩
 refine gb _ _ (bc e H (λhb H=>?_) λhb H=>?_)
 refine qr λ_ gf=>wp 1 [6] e λa e=>gf _ _ (rt ?_)
 cases H
 exact (j7 e g (l3 Tryz.results3 (rvt e)) ⟨rfl,(g.pick [] kr).ro,g.newC [] dc kr⟩)
 refine sk (ga _ _ (qr λ_ gg=>(wc (sM e g kr (kInt .i64) false (fInt .u64).ty rfl λu a w e g=>wp 1 [2,7,9] e λa e=>(gg _ _ (qs λ_ gi=>qr λ_ gj=>(wp 1 [2,7,9,10] e λa e=>(gj _ _ (bk (jX (n:=N) (λn a w => ∃κ bV ce cS ab ad bB x,Fr (117) [] [k46 F B.length G,k47 bV,k48 u,k2b x] a∧SS [] κ0 w0 κ w [ox l7 bV ce cS,mx (some u) ab ad] [Ro.mp lY F G B,Map.mp (kInt .i64) false (fInt .u64).ty (some u) ab ad bB]∧M.lG N n B cS bB x=some r) ?_ ?_))))))))))
 exact ⟨_,cR,cd,df.1,#[],0,(some []),0,e.kp [2,7,9,10],g.sp [1,0] [1,0],H⟩
 rintro n a w ⟨κ,bV,ce,cS,ab,ad,bB,x,e,g,H⟩
 rcases n with _|b5
 simp [M.lG] at H
 simp only [M.lG] at H
 refine qs λ_ gk=>qr λ_ gl=>bd H λgm bW H=>kA (λa w => ∃κ:Gh,Fr (117) [] [k46 F B.length G,k47 bV,k48 u,k2b x,(42,vb gm)] a∧SS [] κ0 w0 κ w [ox l7 bV ce cS,mx (some u) ab ad] [Ro.mp lY F G B,Map.mp (kInt .i64) false (fInt .u64).ty (some u) ab ad bB]∧True) ?_ ?_
 refine wp 5 [2,7,9,10,39] e λa e=>bs bW (λhb bW=>?_) λhb bW=>?_
 have e:=e.bv 39 hb
 refine wp 3 [2,7,9,10,42] e λa e=>nl ?_
 cases bW
 exact ⟨_,e.kp [2,7,9,10,42],g.sp [0,1] [0,1],trivial⟩
 have e:=e.bv 39 hb
 refine wp 3 [2,7,9,10,42] e λa e=>nl ?_
 cases bW
 exact ⟨_,e.kp [2,7,9,10,42],g.sp [0,1] [0,1],trivial⟩
 rintro a w ⟨κ,e,g,-⟩
 refine gl _ _ (bc e H (λhb H=>?_) λhb H=>?_)
 refine sk (gk _ _ (qs λ_ gn=>bk (qr λ_ go=>(jG (L':=[k46 F B.length G,k47 bV,k48 u,k2b x,(45,.slice F B.length G),(46,vi x)]) 2 [2,7,9,10,45,46] e kr λa e=>bd H λo dh H=>wc (kS e g kr 0 (E:=40) (sz:=20) rfl rfl rfl kr rfl dh kr kr λgF gG a d7 e=>?_)))))
 obtain ⟨_,⟨⟨bX,bY,bZ,b0,b1,b2⟩,rfl,hR⟩,hc⟩:=g.elem 0 rfl d7 dh
 have g:=(g.adds hR).add hc
 refine wc (kR e kr (v := .agg (flat (k23 o.Kind o.From o.Call o.Msg.Kind o.Msg.Id o.Msg.N o.Msg.TS o.Msg.Lo o.Msg.Hi bX (o.Msg.Vers).length bY bZ (o.Msg.Vec).length b0 o.Msg.Cmd.Kind o.Msg.Cmd.DC o.Msg.Cmd.Shard o.Msg.Cmd.Node o.Msg.Cmd.Mode o.Msg.Cmd.Key o.Key o.T b1 (o.Writes).length b2)).toArray) ((pN 0 0 20 (s:=[si o.Kind,si o.From,si o.Call,si o.Msg.Kind,su o.Msg.Id,su o.Msg.N,su o.Msg.TS,sg o.Msg.Lo,sg o.Msg.Hi,sl bX (o.Msg.Vers).length bY,sl bZ (o.Msg.Vec).length b0,si o.Msg.Cmd.Kind,si o.Msg.Cmd.DC,si o.Msg.Cmd.Shard,si o.Msg.Cmd.Node,si o.Msg.Cmd.Mode,sg o.Msg.Cmd.Key,sg o.Key,su o.T,sl b1 (o.Writes).length b2]) (s':=k23 o.Kind o.From o.Call o.Msg.Kind o.Msg.Id o.Msg.N o.Msg.TS o.Msg.Lo o.Msg.Hi bX (o.Msg.Vers).length bY bZ (o.Msg.Vec).length b0 o.Msg.Cmd.Kind o.Msg.Cmd.DC o.Msg.Cmd.Shard o.Msg.Cmd.Node o.Msg.Cmd.Mode o.Msg.Cmd.Key o.Key o.T b1 (o.Writes).length b2) (n:=20) rfl rfl rfl (show mL [si o.Kind,si o.From,si o.Call,si o.Msg.Kind,su o.Msg.Id,su o.Msg.N,su o.Msg.TS,sg o.Msg.Lo,sg o.Msg.Hi,sl bX (o.Msg.Vers).length bY,sl bZ (o.Msg.Vec).length b0,si o.Msg.Cmd.Kind,si o.Msg.Cmd.DC,si o.Msg.Cmd.Shard,si o.Msg.Cmd.Node,si o.Msg.Cmd.Mode,sg o.Msg.Cmd.Key,sg o.Key,su o.T,sl b1 (o.Writes).length b2] from (sgN 20 jE)) kr kr kr kr kr _ ⟨_,g⟩)) λa e=>?_)
 refine bd H λb d8 H=>wc (jS e g kr kr (EX N g.fresh o bX bY bZ b0 b1 b2 ((g.pick [1,2,3] kr).ro) d8) ?_)
 rintro _ κ w a ⟨L,O,P,Q,R,S,rfl,hR,hN⟩ e g hO
 have g:=g.adds hR
 refine wc (wal e g (k24 empty) (sgN 20 jE) λU a w e g=>wc (wst e g 0 0 20 (k23 b.Kind b.From b.Call b.Msg.Kind b.Msg.Id b.Msg.N b.Msg.TS b.Msg.Lo b.Msg.Hi L (b.Msg.Vers).length O P (b.Msg.Vec).length Q b.Msg.Cmd.Kind b.Msg.Cmd.DC b.Msg.Cmd.Shard b.Msg.Cmd.Node b.Msg.Cmd.Mode b.Msg.Cmd.Key b.Key b.T R (b.Writes).length S) (sgN 20 jE) λa w e g=>?_))
 refine go _ _ (qr λ_ eS=>(jG (L':=[k46 F B.length G,k47 bV,k48 u,k2b x,k2r U,(50,vi x),(51,pt U 2)]) 2 [2,7,9,10,11,50,51] e kr λa e=>wc (wst e g 0 2 1 [si x] (sgN 1 jE) λa w e g=>eS _ _ (qs λ_ eT=>bd H λI V H=>kJ (λa w => ∃κ cg cT,Fr (117) [] [k46 F B.length G,k47 cg,k48 u,k2b x,k2r U,(12,vu I.2.1),(13,vi I.2.2)] a∧SS [] κ0 w0 κ w [.box U 40 [si b.Kind,si b.From,si x,si b.Msg.Kind,su b.Msg.Id,su b.Msg.N,su b.Msg.TS,sg b.Msg.Lo,sg b.Msg.Hi,sl L (b.Msg.Vers).length O,sl P (b.Msg.Vec).length Q,si b.Msg.Cmd.Kind,si b.Msg.Cmd.DC,si b.Msg.Cmd.Shard,si b.Msg.Cmd.Node,si b.Msg.Cmd.Mode,sg b.Msg.Cmd.Key,sg b.Key,su b.T,sl R (b.Writes).length S],ox l7 cg cT I.1,mx (some u) ab ad] [Ro.mp lY F G B,Map.mp (kInt .i64) false (fInt .u64).ty (some u) ab ad bB,Ro.mp jF.ty L O b.Msg.Vers,Ro.mp (fInt .u64).ty P Q b.Msg.Vec,Ro.mp jF.ty R S b.Writes]∧True) ?_ ?_))))
 refine kU V (λho V=>?_) (λf ho V=>?_)
 obtain ⟨D,g⟩:=g.optN 1 rfl ho
 rw [D] at g
 try rw [D] at e
 refine rl (wp 1 [2,7,9,10,11,52] e λa e=>bd V λgr d9 V=>wc (wcS 0 [0,1,2] e g (λg=>tT N (g.sbK []) d9) ?_))
 rintro _ κ w a ⟨rfl,X⟩ e Y
 have g:=Y _ _ X
 refine wp 1 [2,7,9,10,11,53,54] e λa e=>bd V λgs ea V=>wc (wcS 0 [0,1,2] e g (λg=>u9 N (g.sbK []) ea) ?_)
 rintro _ κ w a ⟨rfl,X⟩ e Y
 have g:=(Y _ _ X).cC (C':=[.box U 40 (k23 b.Kind b.From x b.Msg.Kind b.Msg.Id b.Msg.N b.Msg.TS b.Msg.Lo b.Msg.Hi L (b.Msg.Vers).length O P (b.Msg.Vec).length Q b.Msg.Cmd.Kind b.Msg.Cmd.DC b.Msg.Cmd.Shard b.Msg.Cmd.Node b.Msg.Cmd.Mode b.Msg.Cmd.Key b.Key b.T R (b.Writes).length S),ox l7 none [] none,mx (some u) ab ad])
 refine wp 2 [2,7,9,10,11,12,13] e λa e=>nl ?_
 cases V
 exact ⟨_,none,[],e.kp [2,7,9,10,11,12,13],g.sp [0,1,2] [7,8,0,1,2],trivial⟩
 obtain ⟨b3,D,g⟩:=g.optS 1 rfl ho
 rw [D] at g
 try rw [D] at e
 obtain ⟨⟨bD,bE,bF,bG,a6,a7,a8,a9,ba,be,eU,ec,bf,cU,bg,cV,bh,cW,bi,di,dj,bj,dk,dl,bl,bm,bn,dm,dn,bo,cX,bq,br,bt,bu,bw,bx,bz,bA⟩,g⟩:=g.unfI (ck:=lD) (fs:=lC) 1 rfl
 refine rl (wp 1 [2,7,9,10,11,52] e λa e=>bd V λdp ed V=>?_)
 have c8:=g.segs 0 rfl
 refine wc (wcS 2 [0,9,1,2,3,4,5,6,7,8,10,11,12,13,14,15,16,17,18] e g (λg=>vR N f.st (flat [si f.dc,si f.nodes,si f.role,si f.epoch,si f.base,si f.txs,sl bD (f.m.Cuts).length bE,sl bF (f.m.Nodes).length bG,sl a6 (f.modes).length a7,sl a8 (f.agreed).length a9,sl ba (f.old).length be,sb f.owing]) eU ec (flat [sp bf,sp bg,su f.hi,k3l bh,ei 4 f.cursor,ei 4 f.heard,sm bi,sm bj,sl bl (f.held).length bm,sm bn,su f.last,sp bo,si f.seedTo,si f.seeds,sl bq (f.cut).length br,sl bt (f.end_).length bu,su f.floor,sb f.floored,sb f.seeded,sb f.said,sl bw (f.out).length bx,sl bz (f.replies).length bA]) b3 ((g.regr 0 [(true,12),(false,1),(true,22)] rfl).sbK []) ed) ?_)
 rintro _ κ w a ⟨bH,cY,rfl,X⟩ e Y
 have g:=(Y _ _ X).unregrK 0 [(true,12),(false,1),(true,22)] (s':=k1z f.dc f.nodes f.role f.epoch f.base f.txs bD (f.m.Cuts).length bE bF (f.m.Nodes).length bG a6 (f.modes).length a7 a8 (f.agreed).length a9 ba (f.old).length be f.owing bH bf bg f.hi bh f.cursor f.heard bi bj bl (f.held).length bm bn f.last bo f.seedTo f.seeds bq (f.cut).length br bt (f.end_).length bu f.floor f.floored f.seeded f.said bw (f.out).length bx bz (f.replies).length bA) c8 rfl
 refine wp 1 [2,7,9,10,11,53,54] e λa e=>bd V λgu ee V=>?_
 have c9:=g.segs 0 rfl
 refine wc (wcS 1 (rg 19) e g (λg=>wS N f.role (flat [si f.dc,si f.nodes]) (flat [si f.epoch,si f.base,si f.txs,sl bD (f.m.Cuts).length bE,sl bF (f.m.Nodes).length bG,sl a6 (f.modes).length a7,sl a8 (f.agreed).length a9,sl ba (f.old).length be,sb f.owing,sp bH,sp bf,sp bg,su f.hi,k3l bh,ei 4 f.cursor,ei 4 f.heard,sm bi,sm bj,sl bl (f.held).length bm,sm bn,su f.last,sp bo,si f.seedTo,si f.seeds,sl bq (f.cut).length br,sl bt (f.end_).length bu,su f.floor,sb f.floored,sb f.seeded,sb f.said,sl bw (f.out).length bx,sl bz (f.replies).length bA]) b3 ((g.regr 0 [(true,2),(false,1),(true,32)] rfl).sbK []) ee) ?_)
 rintro _ κ w a ⟨rfl,X⟩ e Y
 have g:=((Y _ _ X).unregrK 0 [(true,2),(false,1),(true,32)] (s':=k1z f.dc f.nodes f.role f.epoch f.base f.txs bD (f.m.Cuts).length bE bF (f.m.Nodes).length bG a6 (f.modes).length a7 a8 (f.agreed).length a9 ba (f.old).length be f.owing bH bf bg f.hi bh f.cursor f.heard bi bj bl (f.held).length bm bn f.last bo f.seedTo f.seeds bq (f.cut).length br bt (f.end_).length bu f.floor f.floored f.seeded f.said bw (f.out).length bx bz (f.replies).length bA) c9 rfl).cC (C':=[k45 b3 f.dc f.nodes f.role f.epoch f.base f.txs bD (f.m.Cuts).length bE bF (f.m.Nodes).length bG a6 (f.modes).length a7 a8 (f.agreed).length a9 ba (f.old).length be f.owing bH bf bg f.hi bh f.cursor f.heard bi bj bl (f.held).length bm bn f.last bo f.seedTo f.seeds bq (f.cut).length br bt (f.end_).length bu f.floor f.floored f.seeded f.said bw (f.out).length bx bz (f.replies).length bA,k2c bH cY dp.2,k3d bl (f.held).length bm,k3e bq (f.cut).length br,k3e bt (f.end_).length bu,k2s bw (f.out).length bx,k2w bz (f.replies).length bA,.ext (ownX (fInt .i64) 3 a6 a7 f.modes),.ext (ownX jN 4 a8 a9 f.agreed),.ext (ownX (fInt .i64) 3 ba be f.old),k3f bf cU f.log,k3g bg cV f.co,.ext (arrX j6 bh cW f.boxes),mx bi di dj,mx bj dk dl,mx bn dm dn,k2y bo cX f.mv,.box U 40 (k23 b.Kind b.From x b.Msg.Kind b.Msg.Id b.Msg.N b.Msg.TS b.Msg.Lo b.Msg.Hi L (b.Msg.Vers).length O P (b.Msg.Vec).length Q b.Msg.Cmd.Kind b.Msg.Cmd.DC b.Msg.Cmd.Shard b.Msg.Cmd.Node b.Msg.Cmd.Mode b.Msg.Cmd.Key b.Key b.T R (b.Writes).length S),mx (some u) ab ad])
 refine wp 2 [2,7,9,10,11,12,13] e λa e=>nl ?_
 obtain ⟨ef,g⟩:=g.foldI (ck:=lD) (fs:=lC) b3 (bD,bE,bF,bG,a6,a7,a8,a9,ba,be,bH,cY,bf,cU,bg,cV,bh,cW,bi,di,dj,bj,dk,dl,bl,bm,bn,dm,dn,bo,cX,bq,br,bt,bu,bw,bx,bz,bA) (jV.mk f.dc f.nodes f.role f.epoch f.base f.txs f.m f.modes f.agreed f.old f.owing dp.2 f.log f.co f.hi f.boxes f.cursor f.heard f.calls f.reads f.held f.loads f.last f.mv f.seedTo f.seeds f.cut f.end_ f.floor f.floored f.seeded f.said f.out f.replies) [0,2,3,4,5,6,7,8,9,1,10,11,12,13,14,15,16] [17,18] (rg 13) dc kr kr
 cases V
 exact ⟨_,(some b3),ef,e.kp [2,7,9,10,11,12,13],g.sp [1,0,2] [20,21,13,14,15],trivial⟩
 rintro a w ⟨κ,cg,cT,e,g,-⟩
 refine eT _ _ (m9 (λa w => ∃κ ch cZ ci J K ai,Fr (117) [] [k46 F B.length G,k47 ch,k48 u,k2b x,k2r U,(12,vu I.2.1),(13,vi I.2.2)] a∧SS [] κ0 w0 κ w [.box U 40 [si b.Kind,si b.From,si x,si b.Msg.Kind,su b.Msg.Id,su b.Msg.N,su b.Msg.TS,sg b.Msg.Lo,sg b.Msg.Hi,sl L (b.Msg.Vers).length O,sl P (b.Msg.Vec).length Q,si b.Msg.Cmd.Kind,si b.Msg.Cmd.DC,si b.Msg.Cmd.Shard,si b.Msg.Cmd.Node,si b.Msg.Cmd.Mode,sg b.Msg.Cmd.Key,sg b.Key,su b.T,sl R (b.Writes).length S],ox l7 ch cZ ci,mx (some u) J K] [Ro.mp lY F G B,Map.mp (kInt .i64) false (fInt .u64).ty (some u) J K ai,Ro.mp jF.ty L O b.Msg.Vers,Ro.mp (fInt .u64).ty P Q b.Msg.Vec,Ro.mp jF.ty R S b.Writes]∧M.oL N (M.lG N b5) B x b I ci ai=some r) ?_ ?_)
 refine qs λ_ eV=>bd H λb6 ae H=>kJ (λa w => ∃κ bI bR,Fr (117) [] [k46 F B.length G,k47 bI,k48 u,k2b x,k2r U,(12,vu I.2.1),(13,vi I.2.2),(64,vb b6.2)] a∧SS [] κ0 w0 κ w [.box U 40 [si b.Kind,si b.From,si x,si b.Msg.Kind,su b.Msg.Id,su b.Msg.N,su b.Msg.TS,sg b.Msg.Lo,sg b.Msg.Hi,sl L (b.Msg.Vers).length O,sl P (b.Msg.Vec).length Q,si b.Msg.Cmd.Kind,si b.Msg.Cmd.DC,si b.Msg.Cmd.Shard,si b.Msg.Cmd.Node,si b.Msg.Cmd.Mode,sg b.Msg.Cmd.Key,sg b.Key,su b.T,sl R (b.Writes).length S],ox l7 bI bR b6.1,mx (some u) ab ad] [Ro.mp lY F G B,Map.mp (kInt .i64) false (fInt .u64).ty (some u) ab ad bB,Ro.mp jF.ty L O b.Msg.Vers,Ro.mp (fInt .u64).ty P Q b.Msg.Vec,Ro.mp jF.ty R S b.Writes]∧True) ?_ ?_
 refine kU ae (λho ae=>?_) (λq ho ae=>?_)
 obtain ⟨D,g⟩:=g.optN 1 rfl ho
 rw [D] at g
 try rw [D] at e
 refine rl (bd ae λeW aV ae=>kA (λa w => ∃κ:Gh,Fr (117) [] [k46 F B.length G,(7,.pointer none),k48 u,k2b x,k2r U,(12,vu I.2.1),(13,vi I.2.2),(64,vb eW)] a∧SS [] κ0 w0 κ w [.box U 40 [si b.Kind,si b.From,si x,si b.Msg.Kind,su b.Msg.Id,su b.Msg.N,su b.Msg.TS,sg b.Msg.Lo,sg b.Msg.Hi,sl L (b.Msg.Vers).length O,sl P (b.Msg.Vec).length Q,si b.Msg.Cmd.Kind,si b.Msg.Cmd.DC,si b.Msg.Cmd.Shard,si b.Msg.Cmd.Node,si b.Msg.Cmd.Mode,sg b.Msg.Cmd.Key,sg b.Key,su b.T,sl R (b.Writes).length S],mx (some u) ab ad] [Ro.mp lY F G B,Map.mp (kInt .i64) false (fInt .u64).ty (some u) ab ad bB,Ro.mp jF.ty L O b.Msg.Vers,Ro.mp (fInt .u64).ty P Q b.Msg.Vec,Ro.mp jF.ty R S b.Writes]∧True) ?_ ?_)
 refine wp 1 [2,7,9,10,11,12,13,56] e λa e=>wc (wls e g 0 0 20 λa e=>bd aV λgv eg aV=>wc (wcS 0 [0,1,2] e g (λg=>AT N (kP.mk b.Kind b.From x b.Msg b.Key b.T b.Writes) L O P Q R S (g.sbK [2,3,4]) eg) ?_))
 rintro _ κ w a ⟨rfl,X⟩ e Y
 have g:=Y _ _ X
 refine wp 2 [2,7,9,10,11,12,13,60] e λa e=>bs aV (λhb aV=>?_) λhb aV=>?_
 have e:=e.bv 60 hb
 refine wp 1 [2,7,9,10,11,12,13,60,61] e λa e=>wcg e (wld e g 0 0 0 λa e=>wp 2 [2,7,9,10,11,12,13,64] e λa e=>nl ?_)
 cases aV
 exact ⟨_,e.kp [2,7,9,10,11,12,13,64],g.sp [0,2] (rg 5),trivial⟩
 have e:=e.bv 60 hb
 refine wp 4 [2,7,9,10,11,12,13,64] e λa e=>nl ?_
 cases aV
 exact ⟨_,e.kp [2,7,9,10,11,12,13,64],g.sp [0,2] (rg 5),trivial⟩
 rintro a w ⟨κ,e,g,-⟩
 cases ae
 have g:=g.addOpt l7
 exact ⟨_,none,[],e.kp [2,7,9,10,11,12,13,64],g.sp [1,0,2] (rg 5),trivial⟩
 obtain ⟨bJ,D,g⟩:=g.optS 1 rfl ho
 rw [D] at g
 try rw [D] at e
 obtain ⟨⟨eX,eY,eZ,e0,e1,e2,e3,e4,e5,e6,e7,eh,e8,ej,e9,ek,fa,el,fb,fc,fd,fe,fg,fh,fi,fj,fk,fl,fm,fn,em,fo,fp,fq,fr,ft,fu,fv,fw⟩,g⟩:=g.unfI (ck:=lD) (fs:=lC) 1 rfl
 refine rl (bd ae λdq aW ae=>kA (λa w => ∃κ b8,Fr (117) [] [k46 F B.length G,k2i bJ,k48 u,k2b x,k2r U,(12,vu I.2.1),(13,vi I.2.2),(64,vb dq.2)] a∧SS [] κ0 w0 κ w [.box U 40 [si b.Kind,si b.From,si x,si b.Msg.Kind,su b.Msg.Id,su b.Msg.N,su b.Msg.TS,sg b.Msg.Lo,sg b.Msg.Hi,sl L (b.Msg.Vers).length O,sl P (b.Msg.Vec).length Q,si b.Msg.Cmd.Kind,si b.Msg.Cmd.DC,si b.Msg.Cmd.Shard,si b.Msg.Cmd.Node,si b.Msg.Cmd.Mode,sg b.Msg.Cmd.Key,sg b.Key,su b.T,sl R (b.Writes).length S],ox l7 (some bJ) b8 (some dq.1),mx (some u) ab ad] [Ro.mp lY F G B,Map.mp (kInt .i64) false (fInt .u64).ty (some u) ab ad bB,Ro.mp jF.ty L O b.Msg.Vers,Ro.mp (fInt .u64).ty P Q b.Msg.Vec,Ro.mp jF.ty R S b.Writes]∧True) ?_ ?_)
 refine wp 1 [2,7,9,10,11,12,13,56] e λa e=>wc (wls e g 17 0 20 λa e=>bd aW λl eo aW=>wc (wcS 17 (rg 19) e g (λg=>G8 N q.dc q.nodes q.role q.epoch q.base q.txs q.m q.modes q.agreed q.old q.owing q.st q.log q.co q.hi q.boxes q.cursor q.heard q.calls q.reads q.held q.loads q.last q.mv q.seedTo q.seeds q.cut q.end_ q.floor q.floored q.seeded q.said q.out q.replies (kP.mk b.Kind b.From x b.Msg b.Key b.T b.Writes) eX eY eZ e0 e1 e2 e3 e4 e5 e6 e7 eh e8 ej e9 ek fa el fb fc fd fe fg fh fi fj fk fl fm fn em fo fp fq fr ft fu fv fw L O P Q R S bJ (g.sbK [0,1,2,3,4,5,6,7,8,9,10,11,12,15,16,17]) eo) ?_))
 rintro _ κ w a ⟨dr,ds,dt,du,dv,dw,dx,dy,dz,dA,dB,c0,dC,c1,dD,c2,dE,c3,dF,dG,dH,dI,dJ,dK,dL,dM,dN,dO,dP,dR,c4,dS,dT,dU,dV,dW,dX,dY,dZ,rfl,X⟩ e Y
 have g:=Y _ _ X
 refine wp 2 [2,7,9,10,11,12,13,60] e λa e=>bs aW (λhb aW=>?_) λhb aW=>?_
 have e:=e.bv 60 hb
 refine wp 1 [2,7,9,10,11,12,13,60,61] e λa e=>wcg e (wld e g 17 0 0 λa e=>wp 2 [2,7,9,10,11,12,13,64] e λa e=>?_)
 obtain ⟨ep,g⟩:=g.foldI (ck:=lD) (fs:=lC) bJ (dr,ds,dt,du,dv,dw,dx,dy,dz,dA,dB,c0,dC,c1,dD,c2,dE,c3,dF,dG,dH,dI,dJ,dK,dL,dM,dN,dO,dP,dR,c4,dS,dT,dU,dV,dW,dX,dY,dZ) (jV.mk q.dc q.nodes l.2.1 l.2.2.1 l.2.2.2.1 l.u4.1 l.u4.2.1 l.u4.2.2.1 l.u4.2.2.2.1 l.u8.1 l.u8.2.1 l.u8.2.2.1 l.u8.2.2.2.1 l.u8.u4.1 l.u8.u4.2.1 l.u8.u4.2.2.1 l.u8.u4.2.2.2.1 l.u8.u8.1 l.u8.u8.2.1 l.u8.u8.2.2.1 l.u8.u8.2.2.2.1 l.u8.u8.u4.1 l.u8.u8.u4.2.1 l.u8.u8.u4.2.2.1 l.u8.u8.u4.2.2.2.1 l.u8.u8.u8.1 l.u8.u8.u8.2.1 l.u8.u8.u8.2.2.1 l.u8.u8.u8.2.2.2.1 l.u8.u8.u8.u4.1 l.u8.u8.u8.u4.2.1 l.u8.u8.u8.u4.2.2.1 l.u8.u8.u8.u4.2.2.2.1 l.u8.u8.u8.u8) (rg 17) [17,18] (rg 13) dc kr kr
 refine nl ?_
 cases aW
 exact ⟨_,ep,e.kp [2,7,9,10,11,12,13,64],g.sp [1,0,2] (ra 26 5),trivial⟩
 have e:=e.bv 60 hb
 refine wp 4 [2,7,9,10,11,12,13,64] e λa e=>?_
 obtain ⟨eq,g⟩:=g.foldI (ck:=lD) (fs:=lC) bJ (dr,ds,dt,du,dv,dw,dx,dy,dz,dA,dB,c0,dC,c1,dD,c2,dE,c3,dF,dG,dH,dI,dJ,dK,dL,dM,dN,dO,dP,dR,c4,dS,dT,dU,dV,dW,dX,dY,dZ) (jV.mk q.dc q.nodes l.2.1 l.2.2.1 l.2.2.2.1 l.u4.1 l.u4.2.1 l.u4.2.2.1 l.u4.2.2.2.1 l.u8.1 l.u8.2.1 l.u8.2.2.1 l.u8.2.2.2.1 l.u8.u4.1 l.u8.u4.2.1 l.u8.u4.2.2.1 l.u8.u4.2.2.2.1 l.u8.u8.1 l.u8.u8.2.1 l.u8.u8.2.2.1 l.u8.u8.2.2.2.1 l.u8.u8.u4.1 l.u8.u8.u4.2.1 l.u8.u8.u4.2.2.1 l.u8.u8.u4.2.2.2.1 l.u8.u8.u8.1 l.u8.u8.u8.2.1 l.u8.u8.u8.2.2.1 l.u8.u8.u8.2.2.2.1 l.u8.u8.u8.u4.1 l.u8.u8.u8.u4.2.1 l.u8.u8.u8.u4.2.2.1 l.u8.u8.u8.u4.2.2.2.1 l.u8.u8.u8.u8) (rg 17) [17,18] (rg 13) dc kr kr
 refine nl ?_
 cases aW
 exact ⟨_,eq,e.kp [2,7,9,10,11,12,13,64],g.sp [1,0,2] (ra 26 5),trivial⟩
 rintro a w ⟨κ,b8,e,g,-⟩
 cases ae
 exact ⟨_,(some bJ),b8,e.kp [2,7,9,10,11,12,13,64],g.sp [0,1,2] (rg 5),trivial⟩
 rintro a w ⟨κ,bI,bR,e,g,-⟩
 refine eV _ _ (bc e H (λhb H=>?_) λhb H=>?_)
 refine rl (wp 4 [2,7,9,10,11,12,13,65,66,67,68] e λa e=>wc (wld e g 0 18 0 λa e=>jG (L':=[k46 F B.length G,k47 bI,k48 u,k2b x,k2r U,(12,vu I.2.1),(13,vi I.2.2),(65,.map (some u)),(66,vi x),(70,vu (if b.T > I.2.1 then b.T else I.2.1))]) 1 [2,7,9,10,11,12,13,65,66,70] e kr λa e=>bd H λfy er H=>wc (pV (KT:=3) (E:=32) (kt:=(kInt .i64)) (agg:=false) (t:=(fInt .u64).ty) e g kr 2 1 (k:=x) (v:=(if b.T > I.2.1 then b.T else I.2.1)) (cs:=flat [su (if b.T > I.2.1 then b.T else I.2.1)]) rfl kr kr kr rfl rfl rfl er kr kr λfz fA a w e g=>?_)))
 refine nl ?_
 exact ⟨_,bI,bR,b6.1,fz,fA,fy,e.kp [2,7,9,10,11,12,13],g.sp [0,1,2] [1,0,3,4,5],H⟩
 refine sk ?_
 exact ⟨_,bI,bR,b6.1,ab,ad,bB,e.kp [2,7,9,10,11,12,13],g.sp [0,1,2] (rg 5),H⟩
 rintro a w ⟨κ,ch,cZ,ci,J,K,ai,e,g,H⟩
 unfold M.oL at H
 refine qs λ_ fB=>qs λ_ fC=>bd H λd0 af H=>kJ (λa w => ∃κ cj c6,Fr (117) [] [k46 F B.length G,k47 cj,k48 u,k2b x,(94,vb d0.2)] a∧SS [] κ0 w0 κ w [ox l7 cj c6 d0.1,mx (some u) J K] [Ro.mp lY F G B,Map.mp (kInt .i64) false (fInt .u64).ty (some u) J K ai]∧True) ?_ ?_
 refine kU af (λho af=>?_) (λd ho af=>?_)
 obtain ⟨D,g⟩:=g.optN 1 rfl ho
 rw [D] at g
 try rw [D] at e
 refine rl (bd af λfD z af=>kA (λa w => ∃κ:Gh,Fr (117) [] [k46 F B.length G,(7,.pointer none),k48 u,k2b x,(94,vb fD)] a∧SS [] κ0 w0 κ w [mx (some u) J K] [Ro.mp lY F G B,Map.mp (kInt .i64) false (fInt .u64).ty (some u) J K ai]∧True) ?_ ?_)
 refine wp 3 [2,7,9,10,11,12,13,73] e λa e=>bs z (λhb z=>?_) λhb z=>?_
 have e:=e.bv 73 hb
 refine wp 2 [2,7,9,10,11,12,13,73,74,75] e λa e=>bd z λgw es z=>wcg e (wcS 0 [0,1,2] e g (λg=>u9 N (g.sbK []) es) ?_)
 rintro _ κ w a ⟨rfl,X⟩ e Y
 have g:=Y _ _ X
 refine wp 3 [2,7,9,10,11,12,13,79] e λa e=>bs z (λhb z=>?_) λhb z=>?_
 have e:=e.bv 79 hb
 refine wp 4 [2,7,9,10,11,12,83] e λa e=>bs z (λhb z=>?_) λhb z=>?_
 have e:=e.bv 83 hb
 refine wp 1 [2,7,9,10,11,12,83,84] e λa e=>bd z λgx et z=>wcg e (wcS 0 [0,1,2] e g (λg=>tT N (g.sbK []) et) ?_)
 rintro _ κ w a ⟨rfl,X⟩ e Y
 have g:=(Y _ _ X).cC (C':=[.box U 40 (k23 b.Kind b.From x b.Msg.Kind b.Msg.Id b.Msg.N b.Msg.TS b.Msg.Lo b.Msg.Hi L (b.Msg.Vers).length O P (b.Msg.Vec).length Q b.Msg.Cmd.Kind b.Msg.Cmd.DC b.Msg.Cmd.Shard b.Msg.Cmd.Node b.Msg.Cmd.Mode b.Msg.Cmd.Key b.Key b.T R (b.Writes).length S),ox l7 none [] none,mx (some u) J K])
 refine wp 4 [2,7,9,10,11,89] e λa e=>bs z (λhb z=>?_) λhb z=>?_
 have e:=e.bv 89 hb
 refine wp 2 [2,7,9,10,89,91] e λa e=>wcg e (wld e g 0 3 0 λa e=>wp 2 [2,7,9,10,94] e λa e=>nl ?_)
 cases z
 exact ⟨_,e.kp [2,7,9,10,94],g.sp [2] [0,1],trivial⟩
 have e:=e.bv 89 hb
 refine wp 5 [2,7,9,10,94] e λa e=>nl ?_
 cases z
 exact ⟨_,e.kp [2,7,9,10,94],g.sp [2] [0,1],trivial⟩
 have e:=e.bv 83 hb
 refine wp 11 [2,7,9,10,94] e λa e=>nl ?_
 cases z
 exact ⟨_,e.kp [2,7,9,10,94],g.sp [2] [0,1],trivial⟩
 have e:=e.bv 79 hb
 refine wp 15 [2,7,9,10,94] e λa e=>nl ?_
 cases z
 exact ⟨_,e.kp [2,7,9,10,94],g.sp [2] [0,1],trivial⟩
 have e:=e.bv 73 hb
 refine wp 21 [2,7,9,10,94] e λa e=>nl ?_
 cases z
 exact ⟨_,e.kp [2,7,9,10,94],g.sp [2] [0,1],trivial⟩
 rintro a w ⟨κ,e,g,-⟩
 cases af
 have g:=g.addOpt l7
 exact ⟨_,none,[],e.kp [2,7,9,10,94],g.sp [0,1] [0,1],trivial⟩
 obtain ⟨aj,D,g⟩:=g.optS 1 rfl ho
 rw [D] at g
 try rw [D] at e
 obtain ⟨⟨aO,aP,aQ,aR,ak,al,am,an,ao,aq,bK,bS,ar,aZ,au,a0,av,a4,aw,bL,bM,ax,bN,bO,ay,az,aA,bP,bQ,aB,a5,aD,aE,aF,aG,aH,aI,aJ,aL⟩,g⟩:=g.unfI (ck:=lD) (fs:=lC) 1 rfl
 refine rl (bd af λd1 A af=>kA (λa w => ∃κ b9,Fr (117) [] [k46 F B.length G,k2i aj,k48 u,k2b x,(94,vb d1.2)] a∧SS [] κ0 w0 κ w [ox l7 (some aj) b9 (some d1.1),mx (some u) J K] [Ro.mp lY F G B,Map.mp (kInt .i64) false (fInt .u64).ty (some u) J K ai]∧True) ?_ ?_)
 refine wp 3 [2,7,9,10,11,12,13,73] e λa e=>bs A (λhb A=>?_) λhb A=>?_
 have e:=e.bv 73 hb
 refine wp 2 [2,7,9,10,11,12,13,73,74,75] e λa e=>bd A λgy eu A=>?_
 have da:=g.segs 0 rfl
 refine wcg e (wcS 1 (rg 19) e g (λg=>wS N d.role (flat [si d.dc,si d.nodes]) (flat [si d.epoch,si d.base,si d.txs,sl aO (d.m.Cuts).length aP,sl aQ (d.m.Nodes).length aR,sl ak (d.modes).length al,sl am (d.agreed).length an,sl ao (d.old).length aq,sb d.owing,sp bK,sp ar,sp au,su d.hi,k3l av,ei 4 d.cursor,ei 4 d.heard,sm aw,sm ax,sl ay (d.held).length az,sm aA,su d.last,sp aB,si d.seedTo,si d.seeds,sl aD (d.cut).length aE,sl aF (d.end_).length aG,su d.floor,sb d.floored,sb d.seeded,sb d.said,sl aH (d.out).length aI,sl aJ (d.replies).length aL]) aj ((g.regr 0 [(true,2),(false,1),(true,32)] rfl).sbK []) eu) ?_)
 rintro _ κ w a ⟨rfl,X⟩ e Y
 have g:=(Y _ _ X).unregrK 0 [(true,2),(false,1),(true,32)] (s':=k1z d.dc d.nodes d.role d.epoch d.base d.txs aO (d.m.Cuts).length aP aQ (d.m.Nodes).length aR ak (d.modes).length al am (d.agreed).length an ao (d.old).length aq d.owing bK ar au d.hi av d.cursor d.heard aw ax ay (d.held).length az aA d.last aB d.seedTo d.seeds aD (d.cut).length aE aF (d.end_).length aG d.floor d.floored d.seeded d.said aH (d.out).length aI aJ (d.replies).length aL) da rfl
 refine wp 3 [2,7,9,10,11,12,13,79] e λa e=>bs A (λhb A=>?_) λhb A=>?_
 have e:=e.bv 79 hb
 refine wp 4 [2,7,9,10,11,12,83] e λa e=>bs A (λhb A=>?_) λhb A=>?_
 have e:=e.bv 83 hb
 refine wp 1 [2,7,9,10,11,12,83,84] e λa e=>bd A λcl ew A=>?_
 have db:=g.segs 0 rfl
 refine wcg e (wcS 2 [0,9,1,2,3,4,5,6,7,8,10,11,12,13,14,15,16,17,18] e g (λg=>vR N d.st (flat [si d.dc,si d.nodes,si d.role,si d.epoch,si d.base,si d.txs,sl aO (d.m.Cuts).length aP,sl aQ (d.m.Nodes).length aR,sl ak (d.modes).length al,sl am (d.agreed).length an,sl ao (d.old).length aq,sb d.owing]) bK bS (flat [sp ar,sp au,su d.hi,k3l av,ei 4 d.cursor,ei 4 d.heard,sm aw,sm ax,sl ay (d.held).length az,sm aA,su d.last,sp aB,si d.seedTo,si d.seeds,sl aD (d.cut).length aE,sl aF (d.end_).length aG,su d.floor,sb d.floored,sb d.seeded,sb d.said,sl aH (d.out).length aI,sl aJ (d.replies).length aL]) aj ((g.regr 0 [(true,12),(false,1),(true,22)] rfl).sbK []) ew) ?_)
 rintro _ κ w a ⟨b4,ca,rfl,X⟩ e Y
 have g:=((Y _ _ X).unregrK 0 [(true,12),(false,1),(true,22)] (s':=k1z d.dc d.nodes d.role d.epoch d.base d.txs aO (d.m.Cuts).length aP aQ (d.m.Nodes).length aR ak (d.modes).length al am (d.agreed).length an ao (d.old).length aq d.owing b4 ar au d.hi av d.cursor d.heard aw ax ay (d.held).length az aA d.last aB d.seedTo d.seeds aD (d.cut).length aE aF (d.end_).length aG d.floor d.floored d.seeded d.said aH (d.out).length aI aJ (d.replies).length aL) db rfl).cC (C':=[k45 aj d.dc d.nodes d.role d.epoch d.base d.txs aO (d.m.Cuts).length aP aQ (d.m.Nodes).length aR ak (d.modes).length al am (d.agreed).length an ao (d.old).length aq d.owing b4 ar au d.hi av d.cursor d.heard aw ax ay (d.held).length az aA d.last aB d.seedTo d.seeds aD (d.cut).length aE aF (d.end_).length aG d.floor d.floored d.seeded d.said aH (d.out).length aI aJ (d.replies).length aL,k2c b4 ca cl.2,k3d ay (d.held).length az,k3e aD (d.cut).length aE,k3e aF (d.end_).length aG,k2s aH (d.out).length aI,k2w aJ (d.replies).length aL,.ext (ownX (fInt .i64) 3 ak al d.modes),.ext (ownX jN 4 am an d.agreed),.ext (ownX (fInt .i64) 3 ao aq d.old),k3f ar aZ d.log,k3g au a0 d.co,.ext (arrX j6 av a4 d.boxes),mx aw bL bM,mx ax bN bO,mx aA bP bQ,k2y aB a5 d.mv,.box U 40 (k23 b.Kind b.From x b.Msg.Kind b.Msg.Id b.Msg.N b.Msg.TS b.Msg.Lo b.Msg.Hi L (b.Msg.Vers).length O P (b.Msg.Vec).length Q b.Msg.Cmd.Kind b.Msg.Cmd.DC b.Msg.Cmd.Shard b.Msg.Cmd.Node b.Msg.Cmd.Mode b.Msg.Cmd.Key b.Key b.T R (b.Writes).length S),mx (some u) J K])
 refine wp 4 [2,7,9,10,11,89] e λa e=>bs A (λhb A=>?_) λhb A=>?_
 have e:=e.bv 89 hb
 refine wp 2 [2,7,9,10,89,91] e λa e=>wcg e (wld e g 17 3 0 λa e=>wp 2 [2,7,9,10,94] e λa e=>?_)
 obtain ⟨ex,g⟩:=g.foldI (ck:=lD) (fs:=lC) aj (aO,aP,aQ,aR,ak,al,am,an,ao,aq,b4,ca,ar,aZ,au,a0,av,a4,aw,bL,bM,ax,bN,bO,ay,az,aA,bP,bQ,aB,a5,aD,aE,aF,aG,aH,aI,aJ,aL) (jV.mk d.dc d.nodes d.role d.epoch d.base d.txs d.m d.modes d.agreed d.old d.owing cl.2 d.log d.co d.hi d.boxes d.cursor d.heard d.calls d.reads d.held d.loads d.last d.mv d.seedTo d.seeds d.cut d.end_ d.floor d.floored d.seeded d.said d.out d.replies) [0,2,3,4,5,6,7,8,9,1,10,11,12,13,14,15,16] [17,18] (rg 13) dc kr kr
 refine nl ?_
 cases A
 exact ⟨_,ex,e.kp [2,7,9,10,94],g.sp [0,2] [13,14],trivial⟩
 have e:=e.bv 89 hb
 refine wp 5 [2,7,9,10,94] e λa e=>?_
 obtain ⟨ey,g⟩:=g.foldI (ck:=lD) (fs:=lC) aj (aO,aP,aQ,aR,ak,al,am,an,ao,aq,b4,ca,ar,aZ,au,a0,av,a4,aw,bL,bM,ax,bN,bO,ay,az,aA,bP,bQ,aB,a5,aD,aE,aF,aG,aH,aI,aJ,aL) (jV.mk d.dc d.nodes d.role d.epoch d.base d.txs d.m d.modes d.agreed d.old d.owing cl.2 d.log d.co d.hi d.boxes d.cursor d.heard d.calls d.reads d.held d.loads d.last d.mv d.seedTo d.seeds d.cut d.end_ d.floor d.floored d.seeded d.said d.out d.replies) [0,2,3,4,5,6,7,8,9,1,10,11,12,13,14,15,16] [17,18] (rg 13) dc kr kr
 refine nl ?_
 cases A
 exact ⟨_,ey,e.kp [2,7,9,10,94],g.sp [0,2] [13,14],trivial⟩
 have e:=e.bv 83 hb
 refine wp 11 [2,7,9,10,94] e λa e=>?_
 obtain ⟨ez,g⟩:=g.foldI (ck:=lD) (fs:=lC) aj (aO,aP,aQ,aR,ak,al,am,an,ao,aq,bK,bS,ar,aZ,au,a0,av,a4,aw,bL,bM,ax,bN,bO,ay,az,aA,bP,bQ,aB,a5,aD,aE,aF,aG,aH,aI,aJ,aL) d (rg 17) [17,18] (rg 13) dc kr kr
 refine nl ?_
 cases A
 exact ⟨_,ez,e.kp [2,7,9,10,94],g.sp [0,2] [13,14],trivial⟩
 have e:=e.bv 79 hb
 refine wp 15 [2,7,9,10,94] e λa e=>?_
 obtain ⟨eA,g⟩:=g.foldI (ck:=lD) (fs:=lC) aj (aO,aP,aQ,aR,ak,al,am,an,ao,aq,bK,bS,ar,aZ,au,a0,av,a4,aw,bL,bM,ax,bN,bO,ay,az,aA,bP,bQ,aB,a5,aD,aE,aF,aG,aH,aI,aJ,aL) d (rg 17) [17,18] (rg 13) dc kr kr
 refine nl ?_
 cases A
 exact ⟨_,eA,e.kp [2,7,9,10,94],g.sp [0,2] [13,14],trivial⟩
 have e:=e.bv 73 hb
 refine wp 21 [2,7,9,10,94] e λa e=>?_
 obtain ⟨eB,g⟩:=g.foldI (ck:=lD) (fs:=lC) aj (aO,aP,aQ,aR,ak,al,am,an,ao,aq,bK,bS,ar,aZ,au,a0,av,a4,aw,bL,bM,ax,bN,bO,ay,az,aA,bP,bQ,aB,a5,aD,aE,aF,aG,aH,aI,aJ,aL) d (rg 17) [17,18] (rg 13) dc kr kr
 refine nl ?_
 cases A
 exact ⟨_,eB,e.kp [2,7,9,10,94],g.sp [0,2] [13,14],trivial⟩
 rintro a w ⟨κ,b9,e,g,-⟩
 cases af
 exact ⟨_,(some aj),b9,e.kp [2,7,9,10,94],g.sp [0,1] [0,1],trivial⟩
 rintro a w ⟨κ,cj,c6,e,g,-⟩
 refine fC _ _ (bc e H (λhb H=>?_) λhb H=>?_)
 refine qr λ_ fE=>wp 1 [6] e λa e=>fE _ _ (rt ?_)
 cases H
 exact (j7 e g (l3 Tryz.results3 (rvt e)) ⟨rfl,(g.pick [] kr).ro,g.newC [] dc kr⟩)
 refine sk (fB _ _ (qs λ_ fF=>bd H λC ah H=>kJ (λa w => ∃κ aS bC Z aa,Fr (117) [] [k46 F B.length G,k47 aS,k48 u,k2b x,(96,.slice Z (C.2.1).length aa),(97,vi C.2.2),(98,vi 0)] a∧SS [] κ0 w0 κ w [.tok Z 52 13 (C.2.1).length aa,ox l7 aS bC C.1,mx (some u) J K] [Ro.mp lY F G B,Map.mp (kInt .i64) false (fInt .u64).ty (some u) J K ai,Ro.mp kN.ty Z aa C.2.1]∧True) ?_ ?_))
 refine kU ah (λho ah=>?_) (λj ho ah=>?_)
 obtain ⟨D,g⟩:=g.optN 0 rfl ho
 rw [D] at g
 try rw [D] at e
 refine rl (wp 1 [2,7,9,10,95] e λa e=>bd ah λgz eC ah=>wc (wcS 0 [0,1] e g (λg=>tJ N (g.sbK []) eC) ?_))
 rintro _ κ w a ⟨fG,fH,rfl,X⟩ e Y
 have g:=Y _ _ X
 refine wp 2 [2,7,9,10,96,97,98] e λa e=>nl ?_
 cases ah
 exact ⟨_,none,[],fG,fH,e.kp [2,7,9,10,96,97,98],g.sp [0,1,2] [1,2,0],trivial⟩
 obtain ⟨cm,D,g⟩:=g.optS 0 rfl ho
 rw [D] at g
 try rw [D] at e
 obtain ⟨⟨cn,cp,cq,cr,cu,cv,cw,cx,cy,cz,cA,eD,cB,eE,cD,eF,cE,eG,cF,fI,fJ,cG,fK,fL,cH,cI,cJ,fM,fN,cK,eH,cL,cM,cN,cO,cP,cQ,fO,fP⟩,g⟩:=g.unfI (ck:=lD) (fs:=lC) 0 rfl
 refine rl (wp 1 [2,7,9,10,95] e λa e=>bd ah λd2 eI ah=>?_)
 have dd:=g.segs 0 rfl
 refine wc (wcS 2 [0,5,1,2,3,4,6,7,8,9,10,11,12,13,14,15,16,17] e g (λg=>uZ N j.replies (flat [si j.dc,si j.nodes,si j.role,si j.epoch,si j.base,si j.txs,sl cn (j.m.Cuts).length cp,sl cq (j.m.Nodes).length cr,sl cu (j.modes).length cv,sl cw (j.agreed).length cx,sl cy (j.old).length cz,sb j.owing,sp cA,sp cB,sp cD,su j.hi,k3l cE,ei 4 j.cursor,ei 4 j.heard,sm cF,sm cG,sl cH (j.held).length cI,sm cJ,su j.last,sp cK,si j.seedTo,si j.seeds,sl cL (j.cut).length cM,sl cN (j.end_).length cO,su j.floor,sb j.floored,sb j.seeded,sb j.said,sl cP (j.out).length cQ]) fO fP cm ((g.regr 0 [(true,34),(false,1)] rfl).sbK [12]) eI) ?_)
 rintro _ κ w a ⟨fQ,fR,d3,d4,rfl,X⟩ e Y
 have g:=(Y _ _ X).unregrK 0 [(true,34),(false,1)] (s':=k1z j.dc j.nodes j.role j.epoch j.base j.txs cn (j.m.Cuts).length cp cq (j.m.Nodes).length cr cu (j.modes).length cv cw (j.agreed).length cx cy (j.old).length cz j.owing cA cB cD j.hi cE j.cursor j.heard cF cG cH (j.held).length cI cJ j.last cK j.seedTo j.seeds cL (j.cut).length cM cN (j.end_).length cO j.floor j.floored j.seeded j.said cP (j.out).length cQ d3 (d2.2).length d4) dd rfl
 refine wp 2 [2,7,9,10,96,97,98] e λa e=>nl ?_
 obtain ⟨eJ,g⟩:=g.foldI (ck:=lD) (fs:=lC) cm (cn,cp,cq,cr,cu,cv,cw,cx,cy,cz,cA,eD,cB,eE,cD,eF,cE,eG,cF,fI,fJ,cG,fK,fL,cH,cI,cJ,fM,fN,cK,eH,cL,cM,cN,cO,cP,cQ,d3,d4) (jV.mk j.dc j.nodes j.role j.epoch j.base j.txs j.m j.modes j.agreed j.old j.owing j.st j.log j.co j.hi j.boxes j.cursor j.heard j.calls j.reads j.held j.loads j.last j.mv j.seedTo j.seeds j.cut j.end_ j.floor j.floored j.seeded j.said j.out d2.2) [0,3,4,5,6,1,7,8,9,10,11,12,13,14,15,16,17] [2,18] [2,3,4,5,6,7,8,9,10,11,12,13,1] dc kr kr
 cases ah
 exact ⟨_,(some cm),eJ,fQ,fR,e.kp [2,7,9,10,96,97,98],g.sp [1,0,2] [15,16,0],trivial⟩
 rintro a w ⟨κ,aS,bC,Z,aa,e,g,-⟩
 refine fF _ _ (bk (jX (n:=N) (λn a w => ∃κ aY,Fr (117) [] [k46 F B.length G,k47 aS,k48 u,k2b x,(96,.slice Z (C.2.1).length aa),(97,vi C.2.2),(98,vi aY)] a∧SS [] κ0 w0 κ w [.tok Z 52 13 (C.2.1).length aa,ox l7 aS bC C.1,mx (some u) J K] [Ro.mp lY F G B,Map.mp (kInt .i64) false (fInt .u64).ty (some u) J K ai,Ro.mp kN.ty Z aa C.2.1]∧M.nO N (M.lG N b5) n B x ai C aY=some r) ?_ ?_))
 exact ⟨_,0,e.kp [2,7,9,10,96,97,98],g.sp [0,1,2] [0,1,2],H⟩
 rintro n a w ⟨κ,aY,e,g,H⟩
 rcases n with _|eK
 simp [M.nO] at H
 simp only [M.nO] at H
 refine qr λ_ fS=>(jG (L':=[k46 F B.length G,k47 aS,k48 u,k2b x,(96,.slice Z (C.2.1).length aa),(97,vi C.2.2),(98,vi aY),(99,vb (decide (aY<C.2.2)))]) 1 [2,7,9,10,96,97,98,99] e kr λa e=>fS _ _ (qs λ_ fT=>bc e H (λhb H=>?_) λhb H=>?_))
 refine sk (fT _ _ (qs λ_ fU=>bk (qr λ_ fV=>(bd H λW c7 H=>wc (kS e g kr 2 (E:=52) (sz:=13) rfl rfl rfl kr rfl c7 kr kr λgA gB a d5 e=>wc (qT (t:=kN) e g kr 2 rfl rfl d5 rfl c7 kr kr kr λa e=>wc (wal e g (k1h empty) (sgN 13 jE) λfW a w e g=>wc (wst e g 0 0 13 [si W.Call,si W.Kind,sb W.Old,sb W.Has,sg W.Ver.Key,sg W.Ver.Val,sb W.Ver.Gone,su W.Ver.TS,si W.Ver.DC,si W.Ver.Tx,su W.Mark.TS,si W.Mark.DC,si W.Mark.Tx] (sgN 13 jE) λa w e g=>?_))))))))
 refine fV _ _ (qr λ_ fX=>bd H λfY aX H=>kA (λa w => ∃κ:Gh,Fr (117) [] [k46 F B.length G,k47 aS,k48 u,k2b x,(96,.slice Z (C.2.1).length aa),(97,vi C.2.2),(98,vi aY),(114,vb fY)] a∧SS [] κ0 w0 κ w [.tok Z 52 13 (C.2.1).length aa,ox l7 aS bC C.1,mx (some u) J K] [Ro.mp lY F G B,Map.mp (kInt .i64) false (fInt .u64).ty (some u) J K ai,Ro.mp kN.ty Z aa C.2.1]∧True) ?_ ?_)
 refine wp 1 [2,7,9,10,15,96,97,98,102] e λa e=>wc (wld e g 0 1 0 λa e=>wp 2 [2,7,9,10,15,96,97,98,105] e λa e=>bs aX (λhb aX=>?_) λhb aX=>?_)
 have e:=e.bv 105 hb
 refine wp 2 [2,7,9,10,15,96,97,98,105,107] e λa e=>wcg e (wld e g 0 10 0 λa e=>jG (L':=[k46 F B.length G,k47 aS,k48 u,k2b x,(96,.slice Z (C.2.1).length aa),(97,vi C.2.2),(98,vi aY),(105,vb true),(108,vu W.Mark.TS),(109,.map (some u)),(110,pt fW 0)]) 2 [2,7,9,10,96,97,98,105,108,109,110] e kr λa e=>wcg e (wld e g 0 0 0 λa e=>bd aX λgC eL aX=>wcg e (xS (KT:=3) (E:=32) (kt:=(kInt .i64)) (agg:=false) (t:=(fInt .u64).ty) e g kr 3 1 (k:=W.Call) (zc:=flat [su 0]) (zm:=0) rfl kr kr rfl rfl eL kr kr kr (λ_ _=>rfl) ?_)))
 rintro _ a rfl e
 refine wp 2 [2,7,9,10,96,97,98,114] e λa e=>nl ?_
 cases aX
 exact ⟨_,e.kp [2,7,9,10,96,97,98,114],g.sp [1,2,3] [0,1,2],trivial⟩
 have e:=e.bv 105 hb
 refine wp 9 [2,7,9,10,96,97,98,114] e λa e=>nl ?_
 cases aX
 exact ⟨_,e.kp [2,7,9,10,96,97,98,114],g.sp [1,2,3] [0,1,2],trivial⟩
 rintro a w ⟨κ,e,g,-⟩
 refine fX _ _ (bc e H (λhb H=>?_) λhb H=>?_)
 refine qr λ_ fZ=>wp 1 [6] e λa e=>fZ _ _ (rt ?_)
 cases H
 exact (j7 e g (l3 Tryz.results3 (rvt e)) ⟨rfl,(g.pick [] kr).ro,g.newC [] dc kr⟩)
 refine sk (fU _ _ (rl (wp 2 [2,7,9,10,96,97,98] e λa e=>nl ?_)))
 exact ⟨eK,Nat.lt_succ_self _,_,i64.wrap (aY+1),e.kp [2,7,9,10,96,97,98],g.sp [0,1,2] [0,1,2],H⟩
 refine xt (gn _ _ (rl (wp 3 [2,7,9,10] e λa e=>nl ?_)))
 exact ⟨b5,Nat.lt_succ_self _,_,aS,bC,C.1,J,K,ai,i64.wrap (x+1),e.kp [2,7,9,10],g.sp [1,2] [0,1],H⟩
 refine xt (gi _ _ (qr λ_ f0=>bd H λgD eM H=>wc (jS e g kr kr (C6 N g.fresh ((g.pick [] kr).ro) eM) ?_)))
 rintro _ κ w a ⟨rfl,hR,hN⟩ e g hO
 refine wp 1 [6] e λa e=>f0 _ _ (rt ?_)
 cases H
 exact (j7 e g (l3 Tryz.results3 (rvt e)) ⟨rfl,(g.pick [] kr).ro,g.newC [] dc kr⟩)
end Go.Cf
