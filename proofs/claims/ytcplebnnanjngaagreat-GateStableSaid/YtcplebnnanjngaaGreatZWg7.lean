/- The walks: each function returns what its model says. Printed by a program of ours. -/
import Derived.Test.YtcplebnnanjngaaGreatZSh
import Derived.Test.YtcplebnnanjngaaGreatZM1
import Derived.Test.YtcplebnnanjngaaGreatZWs
import Derived.Test.YtcplebnnanjngaaGreatZWo
import Derived.Test.YtcplebnnanjngaaGreatZWi
import Derived.Test.YtcplebnnanjngaaGreatZWp
import Derived.Test.YtcplebnnanjngaaGreatZWc
import Derived.Test.YtcplebnnanjngaaGreatZWg1
import Derived.Test.YtcplebnnanjngaaGreatZWg5
namespace Go.Cf
open Go Go.Proofs
open _root_.Int(toNat tdiv tmod)
open _root_.List(set replicate)
open _root_.ByteArray(empty)
open Go.IntKind(i64 u64)
set_option linter.unusedVariables false
set_option maxRecDepth 20000
set_option maxHeartbeats 8000000
theorem A9 (N){Ms}{κ0}{w0}(a2)(a5)(a9)(am:(List i9))(S)(p3)(bH)(p6)(bJ)(U)(D)(aA)(aB)(F)(j)(hB:SB Ms κ0 w0 [.box j 87 [(12,S),sp p3,sp p6,(6,U),ei 4 a9,(18,D),sl aA am.length aB,(1,F)],k2s aA am.length aB,k2c p3 bH a2,k3f p6 bJ a5] [(ml a9 4),k2t aA aB am]){r}(H:M.sT N a2 a5 a9 am=some r) :
    Calls Tryz.prog 76 #[pt j 0] w0 (kQ Ms κ0 w0 λv κ w => ∃a1 bh a3 bi aP aQ,v = .tuple #[]∧SS Ms κ0 w0 κ w [.box j 87 [(12,S),sp a1,sp a3,(6,U),ei 4 r.2.2.1,(18,D),sl aP (r.2.2.2).length aQ,(1,F)],k2s aP (r.2.2.2).length aQ,k2c a1 bh r.1,k3f a3 bi r.2.1] [(ml r.2.2.1 4),k2t aP aQ r.2.2.2]):=by
 have b:=hB.hS
 have b1:=b.fresh
 refine J6 (N:=(59)) (L:=[k2g j]) Tryz.func76 rfl Tryz.ntmps76 (show 1≤(59) by decide) rfl λa d=>?_
 unfold M.sT at H
 have b:=b.defs0
 refine qr λ_ bK=>wc (wbx d b [k34 j] (sgN 1 jE) λG a w d b=>bK _ _ (qs λ_ bL=>bd H λA ho H=>?_))
 obtain ⟨p,aL,b⟩:=b.optS 4 rfl ho
 rw [aL] at b
 try rw [aL] at d
 obtain ⟨⟨aT,aU⟩,b⟩:=b.unfI (ck:=jR) (fs:=jP) 4 rfl
 refine bd H λbM ho H=>?_
 obtain ⟨g,aL,b⟩:=b.optS 6 rfl ho
 rw [aL] at b
 try rw [aL] at d
 obtain ⟨⟨bN,bO,bP,bQ⟩,b⟩:=b.unfI (ck:=kV) (fs:=kT) 6 rfl
 refine rgX b (ra 3 5) ?_
 have b:=b.drew
 have hX:=b.px (ra 3 5)
 refine atk 0 (some 6) d hX rfl (vld 2 0 0) λa d=>anp [1,2] [1,8] d hX λa d=>atk 3 (some 9) d hX rfl (vld 4 2 0) λa d=>atk 4 (some 10) d hX rfl (vld 2 0 0) λa d=>anp [5,6] [1,9,12] d hX λa d=>atk 7 (some 13) d hX rfl (vld 4 1 0) λa d=>ago 8 d rfl (bd H λbR bt H=>wcS 2 [3,4,0,1,2,5,6,7,8] d b (λb=>vP N A aT aU p (b.sbK (ra 2 4)) bt) ?_)
 rintro _ κ w a ⟨rfl,h2⟩ d hB
 have b:=hB _ _ h2
 refine ⟨λ_=>(b.sx [0,1,5,6,7] (rg 8)),?_⟩
 refine ago 9 d rfl (bd H λao bu H=>wcS 3 [2,3,4,0,1,5,6,7,8] d b (λb=>yE N bM bR bN bO bP bQ g (b.sbK [0,1]) bu) ?_)
 rintro _ κ w a ⟨a4,a6,a7,a8,rfl,h2⟩ d hB
 have b:=(hB _ _ h2).cC (C':=[k2z g a4 (ao.2.list).length a6 a7 (ao.2.waiting).length a8 ao.2.bound,k30 a4 (ao.2.list).length a6,k30 a7 (ao.2.waiting).length a8,k2f p A.dc aT (A.beats).length aU A.got.Epoch A.got.Has A.got.T A.known.Epoch A.known.Has A.known.T A.stable,.ext (ownX (fInt .u64) 32 aT aU A.beats),k3r G j,.ext (qA ([]:List Nat)),k42 j S p g U a9 D aA am.length aB F,k2s aA am.length aB])
 refine ⟨λ_=>(b.sx (ra 3 5) (ra 2 8)),?_⟩
 refine kM ?_
 obtain ⟨V,b⟩:=b.foldI (ck:=jR) (fs:=jP) p (aT,aU) A [3,4] [0,1,2,5,6,7,8] (ra 4 4) dc kr kr
 obtain ⟨bw,b⟩:=b.foldI (ck:=kV) (fs:=kT) g (a4,a6,a7,a8) ao.2 [1,2,3] [0,4,5,6,7] [0,1] dc kr kr
 refine bL _ _ (qr λ_ bS=>(wc (wld d b 2 0 0 λa d=>wp 2 [1,18] d λa d=>wc (wls d b 4 4 1 λa d=>wp 1 [1,19,20] d λa d=>(bS _ _ (bk (jX (n:=N) (λn a w => ∃κ aq,∃e:jD,∃z,∃Q:List i9,∃W X k P,Fr (59) (E2 P) [(1,pt G 0),(19,.agg (flat [ei 4 a9]).toArray),(20,vi k)] a∧SS Ms κ0 w0 κ w (k1k G j S p g U z D W Q.length X F V A aq e (qA P)) [(ml a9 4),(ml z 4),k2t W X Q]∧M.mX N n a9 A e z Q k=some r) ?_ ?_)))))))
 exact ⟨_,bw,ao.2,a9,am,aA,aB,0,([]:List Nat),d.kp [1,19,20],b.sp [2,4,5,1,0,3] [8,8,9],H⟩
 rintro n a w ⟨κ,aq,e,z,Q,W,X,k,P,d,b,H⟩
 rcases n with _|aV
 simp [M.mX] at H
 simp only [M.mX] at H
 refine qr λ_ bT=>(jG (L':=[k27 G,(19,.agg (flat [ei 4 a9]).toArray),(20,vi k),(21,vb (decide (k<4)))]) 1 [1,19,20,21] d kr λa d=>bT _ _ (qs λ_ bU=>bc d H (λhb H=>?_) λhb H=>?_))
 refine sk (bU _ _ (m9 (λa w => ∃κ aR aW ar,∃au:List i9,∃aE aF al,Fr (59) (E2 al) [(1,pt G 0),(19,.agg (flat [ei 4 a9]).toArray),(20,vi k)] a∧SS Ms κ0 w0 κ w (k1k G j S p g U ar D aE au.length aF F V A aR aW (qA al)) [(ml a9 4),(ml ar 4),k2t aE aF au]∧M.qW N (M.mX N aV) a9 A k aW ar au=some r) ?_ ?_))
 refine bk (qr λ_ bx=>(jG (L':=[k27 G,(19,.agg (flat [ei 4 a9]).toArray),(20,vi k),(22,vi k)]) 1 [1,19,20,22] d kr λa d=>bd H λad bj H=>wc (kR d kr (v:=vi ad) (pA (t:=(fInt .i64)) (E:=3) (n:=4) (m:=4) rfl kr rfl bj (b.get 0 rfl) rfl rfl kr kr kr _) λa d=>wc (wal d b [si 0] (sgN 1 jE) λZ a w d b=>wc (wst d b 0 0 1 [si k] (sgN 1 jE) λa w d b=>wp 1 [1,2,3,19,20] d λa d=>bx _ _ (qs λ_ bz=>qr λ_ bA=>wp 2 [1,2,3,19,20,25] d λa d=>?_))))))
 refine bA _ _ (bc d H (λhb H=>?_) λhb H=>?_)
 refine xt ?_
 exact ⟨_,aq,e,z,Q,W,X,P,d.kp [1,19,20],b.sp (ra 1 6) [0,1,2],H⟩
 refine sk (bz _ _ (qs λ_ bB=>qs λ_ bC=>?_))
 obtain ⟨⟨ba,be,bf,bg⟩,b⟩:=b.unfI (ck:=kV) (fs:=kT) 5 rfl
 refine rl (wc (wld d b 4 0 0 λa d=>wp 2 [1,2,3,19,20,28] d λa d=>wc (wld d b 5 2 0 λa d=>jG (L':=[k27 G,k28 Z,(19,.agg (flat [ei 4 a9]).toArray),(20,vi k),(29,pt g 0),(30,vi ad)]) 1 [1,2,19,20,29,30] d kr λa d=>bd H λbY bl H=>wc (wcS 1 (rg 9) d b (λb=>A6 N e ad ba be bf bg g (b.sbK [0,1]) bl) ?_))))
 rintro _ κ w a ⟨af,ah,rfl,h2⟩ d hB
 have b:=hB _ _ h2
 refine nl ?_
 obtain ⟨bW,b⟩:=b.foldI (ck:=kV) (fs:=kT) g (ba,be,bf,bg) e [0,3,4] [1,2,5,6,7,8,9,10] [0,1] dc kr kr
 refine bC _ _ (bk ?_)
 obtain ⟨⟨I,J,K,O⟩,b⟩:=b.unfI (ck:=kV) (fs:=kT) 0 rfl
 refine bd H λav bm H=>?_
 have b:SS Ms κ0 w0 _ _ [.box Z 3 [si k],k3r G j,k42 j S p g U z D W Q.length X F,k2s W Q.length X,k30 I (e.list).length J,k30 K (e.waiting).length O,k3s p V A,.ext (qA P),k33 af g,.box ah 3 [si ad],k2z g I (e.list).length J K (e.waiting).length O e.bound] _:=b.selp [5,6,7,8,1,2,9,10,3,4,0] dc kr
 refine DD (C:=[.box Z 3 [si k],.box G 24 [(1,[pt j 0])],.box j 87 [(12,S),(1,[pt p 0]),(1,[pt g 0]),(6,U),ei 4 z,(18,D),sl W Q.length X,(1,F)],.tok W 61 15 Q.length X,.tok I 135 4 (e.list).length J,.tok K 135 4 (e.waiting).length O,ox o_stab_Table (some p) V (some A),.ext (qA P)]) (Cap:=[.box af 79 [(1,[pt g 0])],.box ah 3 [si ad],.box g 166 [sl I (e.list).length J,sl K (e.waiting).length O,su e.bound]]) (Cap2:=[.box af 79 [(1,[pt g 0])],.box ah 3 [si ad],.box g 166 [sl I (e.list).length J,sl K (e.waiting).length O,su e.bound]]) (Rc:=[Ro.mp lE I J e.list,Ro.mp lE K O e.waiting]) (R':=[ml a9 4,ml z 4,Ro.mp mZ W X Q]) (caps := #[pt af 0,pt ah 0]) (f:=131) [] (λl => #[.func (.yield l) #[] #[],pt af 0,pt ah 0]) d b kr (λ_ _=>rfl) ((b.pick [4,5,6] kr).ro) (λl=>by kernel_rfl) λae l rc w hrc b=>?_
 refine ⟨λx=>(λ(o:((List i9)×Nat)) (x:XF) => ∃q s,x=mkX ae l (lp rc [] o.2) [.box Z 3 [si k],.box G 24 [(1,[pt j 0])],.box j 87 [(12,S),(1,[pt p 0]),(1,[pt g 0]),(6,U),ei 4 z,(18,D),sl q (o.1).length s,(1,F)],.tok q 61 15 (o.1).length s,.tok I 135 4 (e.list).length J,.tok K 135 4 (e.waiting).length O,ox o_stab_Table (some p) V (some A),.ext (qA P)] [ml a9 4,ml z 4,Ro.mp mZ q s o.1]) av x,?_,?_⟩
 have b:=(b.rebase.add (m:=MP.const ((λ(o:((List i9)×Nat)) (x:XF) => ∃q s,x=mkX ae l (lp rc [] o.2) [.box Z 3 [si k],.box G 24 [(1,[pt j 0])],.box j 87 [(12,S),(1,[pt p 0]),(1,[pt g 0]),(6,U),ei 4 z,(18,D),sl q (o.1).length s,(1,F)],.tok q 61 15 (o.1).length s,.tok I 135 4 (e.list).length J,.tok K 135 4 (e.waiting).length O,ox o_stab_Table (some p) V (some A),.ext (qA P)] [ml a9 4,ml z 4,Ro.mp mZ q s o.1]) (Q,0) (mkX ae l (lp rc [] 0) [.box Z 3 [si k],.box G 24 [(1,[pt j 0])],.box j 87 [(12,S),(1,[pt p 0]),(1,[pt g 0]),(6,U),ei 4 z,(18,D),sl W Q.length X,(1,F)],.tok W 61 15 Q.length X,.tok I 135 4 (e.list).length J,.tok K 135 4 (e.waiting).length O,ox o_stab_Table (some p) V (some A),.ext (qA P)] [ml a9 4,ml z 4,Ro.mp mZ W X Q]))) ⟨W,X,rfl⟩).pick (R':=[Ro.mp lE I J e.list,Ro.mp lE K O e.waiting,MP.const ((λ(o:((List i9)×Nat)) (x:XF) => ∃q s,x=mkX ae l (lp rc [] o.2) [.box Z 3 [si k],.box G 24 [(1,[pt j 0])],.box j 87 [(12,S),(1,[pt p 0]),(1,[pt g 0]),(6,U),ei 4 z,(18,D),sl q (o.1).length s,(1,F)],.tok q 61 15 (o.1).length s,.tok I 135 4 (e.list).length J,.tok K 135 4 (e.waiting).length O,ox o_stab_Table (some p) V (some A),.ext (qA P)] [ml a9 4,ml z 4,Ro.mp mZ q s o.1]) (Q,0) (mkX ae l (lp rc [] 0) [.box Z 3 [si k],.box G 24 [(1,[pt j 0])],.box j 87 [(12,S),(1,[pt p 0]),(1,[pt g 0]),(6,U),ei 4 z,(18,D),sl W Q.length X,(1,F)],.tok W 61 15 Q.length X,.tok I 135 4 (e.list).length J,.tok K 135 4 (e.waiting).length O,ox o_stab_Table (some p) V (some A),.ext (qA P)] [ml a9 4,ml z 4,Ro.mp mZ W X Q]))]) [1,2,0] kr
 refine yV N (Y:=(λ(o:((List i9)×Nat)) (x:XF) => ∃q s,x=mkX ae l (lp rc [] o.2) [.box Z 3 [si k],.box G 24 [(1,[pt j 0])],.box j 87 [(12,S),(1,[pt p 0]),(1,[pt g 0]),(6,U),ei 4 z,(18,D),sl q (o.1).length s,(1,F)],.tok q 61 15 (o.1).length s,.tok I 135 4 (e.list).length J,.tok K 135 4 (e.waiting).length O,ox o_stab_Table (some p) V (some A),.ext (qA P)] [ml a9 4,ml z 4,Ro.mp mZ q s o.1])) (B:=(λ(o:((List i9)×Nat)) ai u=>bif (o.2==0) then Option.bind (M.oY N k (-1)) λaS=>Option.bind (M.lV N o.1 aS (jK.mk 18 (u64.wrap ai) (u64.wrap u.Tx) u.TS empty empty u.Vers ([]:List Int) (jT.mk 0 0 0 0 0 empty))) λaj=>some (((aj,0)),true) else none)) (l:=l) ?_ e ad g I J K O b bm
 rintro o _ κ w ai u aw ax s' c ⟨q,s,rfl⟩ hp hf hnd hlt hR H
 refine wO H (λhn H=>?_) (λ_ H=>by cases H)
 refine HG (L:=[k27 G,k28 Z,(19,.agg (flat [ei 4 a9]).toArray),(20,vi k),(32,vi ai),(33,.agg (flat [su u.TS,si u.DC,si u.Tx,sl aw (u.Vers).length ax]).toArray)]) hp hf hnd hlt hn hrc rfl [1,2,19,20,32,33] d kr kr λa d b=>?_
 have b:=b.adds hR
 skip
 refine qr λ_ bD=>(jG (L':=[k27 G,k28 Z,(4,vi ai),(19,.agg (flat [ei 4 a9]).toArray),(20,vi k),(33,.agg (flat [su u.TS,si u.DC,si u.Tx,sl aw (u.Vers).length ax]).toArray)]) 1 [1,2,4,19,20,33] d kr λa d=>bD _ _ (rl (wc (wal d b k0d (sgN 4 jE) λbZ a w d b=>wc (wst d b 0 0 4 (k0c u.TS u.DC u.Tx aw (u.Vers).length ax) (sgN 4 jE) λa w d b=>?_)))))
 refine nl (⟨_,_,_,b,λwb b=>?_⟩)
 obtain ⟨κb,hκb⟩ : ∃κb,κb=κ:=⟨_,rfl⟩
 subst hκb
 refine bk (rgX b [0,1,2,7,8] ?_)
 have b:=b.drew
 have hX:=b.px [0,1,2,7,8]
 refine anp [3,4,5,8,10] [1,2,19,20,38,39,42,44] d hX λa d=>atk 0 (some 34) d hX rfl (vld 2 0 0) λa d=>atk 1 (some 35) d hX rfl (vld 1 0 0) λa d=>atk 6 (some 40) d hX rfl (vld 0 2 0) λa d=>anp [7] [1,2,19,20,34,35,38,41,42,44] d hX λa d=>atk 9 (some 43) d hX rfl (vld 0 0 0) λa d=>atk 11 (some 45) d hX rfl (vld 0 3 0) λa d=>jO [12] [1,2,19,20,34,35,46] (L':=[k27 G,k28 Z,(19,.agg (flat [ei 4 a9]).toArray),(20,vi k),(34,pt j 0),(35,vi k),(46,.agg (flat [si 18,su (u64.wrap ai),su (u64.wrap u.Tx),su u.TS,sg empty,sg empty,sl aw (u.Vers).length ax,sl none 0 0,si 0,si 0,si 0,si 0,si 0,sg empty]).toArray)]) (listed':=(mU 14 8187)) (fuel:=2) d hX kr (by intro c a w t v h; cases t<;>exact h) kr rfl λa d=>?_
 refine ago 2 d rfl (bd H λaS bn H=>jS d b kr kr (uV N b.fresh k (-1) ((b.pick [] kr).ro) bn) ?_)
 rintro _ κ w a ⟨rfl,hR,hN⟩ d b hO
 refine ⟨λ_=>(b.sx [0,1,2,7,8] (rg 4)),?_⟩
 refine ago 13 d rfl ?_
 have b:=b.add (m:=Ro.mp (fInt .u64).ty none 0 ([]:List Int)) (Ro.nil (fInt .u64).ty _ _)
 refine bd H λaj bo H=>?_
 have a0:=b.segs 3 rfl
 refine wcS 2 [3,4,0,1,2,5,6,7,8] d b (λb=>oE N o.1 aS (jK.mk 18 (u64.wrap ai) (u64.wrap u.Tx) u.TS empty empty u.Vers ([]:List Int) (jT.mk 0 0 0 0 0 empty)) (flat [(12,S),k34 p,k34 g,(6,U),ei 4 z,(18,D)]) q s F aw ax none 0 j ((b.regr 0 [(true,6),(false,2)] rfl).sbK [4,1,0]) bo) ?_
 rintro _ κ w a ⟨ay,az,rfl,h2⟩ d hB
 have b:=(hB _ _ h2).unregrK 0 [(true,6),(false,2)] (s':=[(12,S),k34 p,k34 g,(6,U),ei 4 z,(18,D),sl ay aj.length az,(1,F)]) a0 rfl
 refine ⟨λ_=>(b.sx [2,3,4,7,8] (ra 2 4)),?_⟩
 refine kM ?_
 cases H
 try dsimp only [Exit.inBlock,Exit.then]
 repeat rw [if_neg dc]
 refine CC [] (C:=[.box Z 3 [si k],.box G 24 [(1,[pt j 0])],.box j 87 [(12,S),(1,[pt p 0]),(1,[pt g 0]),(6,U),ei 4 z,(18,D),sl ay aj.length az,(1,F)],.tok ay 61 15 aj.length az,.tok I 135 4 (e.list).length J,.tok K 135 4 (e.waiting).length O,ox o_stab_Table (some p) V (some A),.ext (qA P)]) (R:=[ml a9 4,ml z 4,Ro.mp mZ ay az aj]) (b.sp [3,4,0,1,5,6,7,8] [3,4,0]) ?_
 exact ⟨ay,az,rfl⟩
 rintro _ ⟨q,s,rfl⟩
 refine ⟨_,_,_,rfl,λκ w a d b=>?_⟩
 refine bs H (λhb H=>?_) λhb H=>?_
 refine GT hb ?_
 have b:=b.defsC 7 rfl rfl
 obtain ⟨bX,b⟩:=b.foldI (ck:=kV) (fs:=kT) g (I,J,K,O) e [10,5,6] [0,1,2,3,4,7,8,9] [3,4] dc kr kr
 refine bB _ _ ?_
 obtain ⟨⟨aG,aH,aI,aJ⟩,b⟩:=b.unfI (ck:=kV) (fs:=kT) 0 rfl
 refine rgS b [10] ?_
 have b:=b.drew
 have hX:=b.fx
 refine atk 0 (some 48) d hX rfl (vld 3 0 0) λa d=>anp [7,8] [1,2,19,20,56] d hX λa d=>atk 1 (some 49) d hX rfl (vld 2 0 0) λa d=>atk 2 (some 50) d hX rfl (vld 3 0 0) λa d=>jO [3,4] [1,19,20,49,52,56] (L':=[k27 G,(19,.agg (flat [ei 4 a9]).toArray),(20,vi k),(49,vi k),(52,pt j 13),(56,pt j 20)]) (listed':=(mU 11 415)) (fuel:=4) d hX kr (by intro c a w t v h; cases t<;>exact h) kr rfl λa d=>atk 5 (some 53) d hX rfl (vld 4 2 0) λa d=>ago 6 d rfl (bd H λak bq H=>wcS 1 (rg 11) d b (λb=>tN N e aG aH aI aJ g (b.sbK [0,1]) bq) ?_)
 rintro _ κ w a ⟨rfl,h2⟩ d hB
 have b:=hB _ _ h2
 refine ⟨λ_=>(b.sx [0,3,4,5,6,8,9,10] [0,1,2,3,4,5,6,5,6,9,10,2,3,13]),?_⟩
 refine bd H λb0 aX H=>atk 9 (some 57) d (b.sx [0,3,4,5,6,8,9,10] [0,1,2,3,4,5,6,5,6,9,10,2,3,13]) rfl (λw _=>lU (E:=3) (sz:=1) (n:=4) rfl rfl (i:=k) rfl (m1 aX (b.get 3 rfl)) kr kr w) λa d=>ago 10 d rfl (lM (t:=(fInt .i64)) (y:=ak) (v:=vi ak) d b kr 6 4 (s':=[(12,S),k34 p,k34 g,(6,U),ei 4 (set z (toNat k) ak),(18,D),sl q (av.1).length s,(1,F)]) (C':=[k2z g aG (e.list).length aH aI (e.waiting).length aJ (e.bound),k30 aG (e.list).length aH,k30 aI (e.waiting).length aJ,.ext (qA (ae::P)),.box Z 3 [si k],k3r G j,k42 j S p g U (set z (toNat k) ak) D q (av.1).length s F,k2s q (av.1).length s,k3s p V A,k33 af g,.box ah 3 [si ad]]) rfl rfl kr rfl rfl aX rfl rfl kr kr kr kr λa w d b=>?_)
 have b:=b.add (m:=ml (set z (toNat k) ak) 4) (List.length_set.trans (b.get 3 rfl))
 refine ⟨notE,?_⟩
 refine kM ?_
 obtain ⟨br,b⟩:=b.foldI (ck:=kV) (fs:=kT) g (aG,aH,aI,aJ) e [0,1,2] (ra 3 8) [1,2] dc kr kr
 exact ⟨_,br,e,(set z (toNat k) ak),av.1,q,s,(ae::P),d.kp [1,19,20],b.sp [3,4,5,6,0,1] [3,0,5],H⟩
 cases H
 rintro a w ⟨κ,aR,aW,ar,au,aE,aF,al,d,b,H⟩
 unfold M.qW at H
 refine rl (wp 2 [1,19,20] d λa d=>nl ?_)
 exact ⟨aV,Nat.lt_succ_self _,_,aR,aW,ar,au,aE,aF,i64.wrap (k+1),al,d.kp [1,19,20],b.sp (rg 6) [0,1,2],H⟩
 refine xt (HH (C':=[k3r G j,k42 j S p g U z D W Q.length X F,k2s W Q.length X,k3s p V A,k3m g aq e]) d b 5 rfl kr λw b=>?_)
 cases H
 exact ⟨_,(mI Tryz.results76),⟨(some p),V,(some g),aq,W,X,rfl,b.sp (ra 1 4) [1,2]⟩⟩
theorem AA (N){Ms}{κ0}{w0}(Q)(f:jA)(a9)(bw)(bx)(bz)(bA)(a7:(List i9))(O)(F)(G)(I)(J)(P)(e)(bB)(s)(bC)(bD)(bE)(cp)(bF)(u)(bG)(bH)(x)(j)(hB:SB Ms κ0 w0 (k1l j Q O F (f.Cuts).length G I (f.Nodes).length J P a9 e s bC bz cp u bG a7.length bH x (arrX j6 e bB bw) bD bE bF bA) (k1m F G f.Cuts I J f.Nodes (ml e 4) bC bD bE bx bG bH a7)){r}(H:M.u2 N Q f a9 bw bx bz bA a7=some r) :
    Calls Tryz.prog 77 #[pt j 0] w0 (kQ Ms κ0 w0 λv κ w => ∃aW ca bI bJ bK cr cb bL bM,v = .tuple #[]∧SS Ms κ0 w0 κ w (k1l j Q O F (f.Cuts).length G I (f.Nodes).length J P r.1 aW s bI r.2.2.2.1 cr u bL (r.u4.2).length bM x (arrX j6 aW ca r.2.1) bJ bK cb r.u4.1) [(ml aW 4),k3k bI bJ bK r.2.2.1,k2t bL bM r.u4.2]):=by
 have c:=hB.hS
 have dm:=c.fresh
 refine enL [k2g j] Tryz.func77 rfl Tryz.ntmps77 λa b=>?_
 unfold M.u2 at H
 refine F1 (qs λ_ cZ=>wpIn_label (cZ _ _ (qr λ_ c0=>(wp 3 [0,13] b λa b=>wc (wls b c 0 6 1 λa b=>wp 1 [0,14,15] b λa b=>(c0 _ _ (bk (jX (n:=N) (λn a w => ∃κ a8 ao ba aP aQ aR be bf bg aq bh,∃aS:List i9,∃aT aU g,Fr (67) [] [k2g j,(14,.agg (flat [(4,(encs pF e))]).toArray),(15,vi g)] a∧SS Ms κ0 w0 κ w (k1l j Q O F (f.Cuts).length G I (f.Nodes).length J P a8 e s aP bf bg u aT aS.length aU x (arrX j6 e ao ba) aQ aR aq bh) (k1m F G f.Cuts I J f.Nodes (ml e 4) aP aQ aR be aT aU aS)∧M.lW N n Q f a8 ba be bf bh aS g=some r) ?_ ?_))))))))
 exact ⟨_,a9,bB,bw,bC,bD,bE,bx,bz,cp,bF,bA,a7,bG,bH,0,b.kp [0,14,15],c.sp (rg 5) (rg 5),H⟩
 rintro n a w ⟨κ,a8,ao,ba,aP,aQ,aR,be,bf,bg,aq,bh,aS,aT,aU,g,b,c,H⟩
 rcases n with _|W
 simp [M.lW] at H
 simp only [M.lW] at H
 refine qr λ_ c1=>wp 1 [0,14,15,16] b λa b=>c1 _ _ (qs λ_ c2=>bc b H (λhb H=>?_) λhb H=>?_)
 refine sk (c2 _ _ (m9 (λa w => ∃κ bi aX bj ar au av aw ax aY ay az,∃ai:List i9,∃aA aB,Fr (67) [] [k2g j,(14,.agg (flat [(4,(encs pF e))]).toArray),(15,vi g)] a∧SS Ms κ0 w0 κ w (k1l j Q O F (f.Cuts).length G I (f.Nodes).length J P bi e s ar ax aY u aA ai.length aB x (arrX j6 e aX bj) au av ay az) (k1m F G f.Cuts I J f.Nodes (ml e 4) ar au av aw aA aB ai)∧M.pJ N (M.lW N W) Q f g bi bj aw ax az ai=some r) ?_ ?_))
 refine bk (qs λ_ cs=>bd H λdd cc H=>?_)
 obtain ⟨aZ,aV⟩:=c.arrIdx 2 rfl cc
 have c:=c.add (m:=MP.const (idx e g=some aZ)) aV
 refine rl (jG (L':=[k2g j,(14,.agg (flat [(4,(encs pF e))]).toArray),(15,vi g),(17,vi g)]) 1 [0,14,15,17] b kr λa b=>wc (kR b kr (v := .pointer (pa aZ)) (pA (t:=pF) (E:=81) (n:=4) (m:=4) rfl kr rfl aV (c.get 3 rfl) rfl rfl kr kr kr _) λa b=>wp 2 [0,2,3,14,15] b λa b=>(cs _ _ (bk (jX (n:=N) (λn a w => ∃κ h bl B k C D K A ab X ad,∃i:List i9,∃l o aD,Fr (67) [] [k2g j,k2h g,(3,.pointer (pa aD)),(14,.agg (flat [(4,(encs pF e))]).toArray),(15,vi g)] a∧SS Ms κ0 w0 κ w (k1l j Q O F (f.Cuts).length G I (f.Nodes).length J P h e s k A ab u l i.length o x (arrX j6 e bl B) C D X ad) [k2l F G f.Cuts,k2m I J f.Nodes,(ml e 4),k3k k C D K,k2t l o i,(MP.const (idx e g=some aD))]∧M.nT N (M.lW N W) n Q f g h B K A ad i=some r) ?_ ?_)))))
 exact ⟨_,a8,ao,ba,aP,aQ,aR,be,bf,bg,aq,bh,aS,aT,aU,aZ,b.kp [0,2,3,14,15],c.sp (rg 5) [1,2,3,4,5,0],H⟩
 rintro n a w ⟨κ,h,bl,B,k,C,D,K,A,ab,X,ad,i,l,o,aD,b,c,H⟩
 rcases n with _|bm
 simp [M.nT] at H
 simp only [M.nT] at H
 refine bk (qs λ_ cu=>bd H λd p H=>kJ (λa w => ∃κ T Y y z U,Fr (67) [] [k2g j,k2h g,(3,.pointer (pa U)),k26 T,(5,vb d.u4),(14,.agg (flat [(4,(encs pF e))]).toArray),(15,vi g)] a∧SS Ms κ0 w0 κ w [k43 j Q O F (f.Cuts).length G I (f.Nodes).length J P h e s k A ab u l i.length o x,k32 T d.1 d.2.1 d.2.2.1 y (d.2.2.2.1).length z,k38 y (d.2.2.2.1).length z,k2s l i.length o,.ext (arrX j6 e Y B),mx k C D,k2y ab X ad] [k2l F G f.Cuts,k2m I J f.Nodes,(ml e 4),k3k k C D K,k2t l o i,(MP.const (idx e g=some U)),k2u y z d.2.2.2.1]∧True) ?_ ?_)
 have aj:idx e g=some aD:=c.get 5 rfl
 refine bd p λde aE p=>?_
 obtain ⟨c3,c4,c⟩:=c.arrTakeP 2 rfl aE aj
 refine kU p (λR p=>?_) (λbN R p=>?_)
 obtain ⟨ak,c⟩:=c.optN 0 rfl R
 have bO:=b
 subst ak
 have b:=bO
 obtain ⟨cd,c⟩:=c.arrBackI 0 1 (ra 2 4) dc rfl rfl aj (aE.trans (congrArg some R))
 refine rl (wp 1 [0,2,3,14,15,20] b λa b=>bd p λaF ce p=>wc (wcS 0 (rg 5) b c (λc=>xG N (c.sbK []) ce) ?_))
 rintro _ κ w a ⟨bP,bQ,rfl,h2⟩ b hB
 have c:=hB _ _ h2
 refine wp 3 [0,2,3,14,15,22,23] b λa b=>wc (wal b c k0d (sgN 4 jE) λcv a w b c=>wc (wst b c 0 0 4 (k0c aF.1.TS aF.1.DC aF.1.Tx bP (aF.1.Vers).length bQ) (sgN 4 jE) λa w b c=>wp 1 [0,2,3,4,5,14,15] b λa b=>nl ?_))
 cases p
 exact ⟨_,cv,cd,bP,bQ,none,b.kp [0,2,3,4,5,14,15],c.sp [3,0,1,4,2,5,6] [1,2,3,4,5,6,0],trivial⟩
 obtain ⟨a0,ak,c⟩:=c.optS 0 rfl R
 have bR:=b
 subst ak
 have b:=bR
 obtain ⟨⟨bS,bT,bU,bV,bW,bX,bY⟩,c⟩:=c.unfI (ck:=lO) (fs:=lN) 0 rfl
 refine rl (wp 1 [0,2,3,14,15,20] b λa b=>bd p λaH cg p=>wc (wcS 3 [0,2,3,1,4,5,6,7,8] b c (λc=>wQ N bN bS bT bU bV bW bX bY a0 (c.sbK [0,1]) cg) ?_))
 rintro _ κ w a ⟨bZ,b0,rfl,h2⟩ b hB
 have c:=hB _ _ h2
 refine wp 3 [0,2,3,14,15,22,23] b λa b=>wc (wal b c k0d (sgN 4 jE) λcw a w b c=>wc (wst b c 0 0 4 (k0c aH.1.TS aH.1.DC aH.1.Tx bZ (aH.1.Vers).length b0) (sgN 4 jE) λa w b c=>wp 1 [0,2,3,4,5,14,15] b λa b=>nl ?_))
 obtain ⟨c6,c⟩:=c.foldI (ck:=lO) (fs:=lN) a0 (bS,bT,bU,bV,bW,bX,bY) bN [1,5,2,3] [0,4,6,7,8,9,10] [1,2] dc kr kr
 obtain ⟨ch,c⟩:=c.arrBackI 0 3 [1,2,4,5,6,7] dc rfl rfl aj (aE.trans (congrArg some R))
 cases p
 exact ⟨_,cw,ch,bZ,b0,(some a0),b.kp [0,2,3,4,5,14,15],c.sp [3,1,2,4,0,5,6] [3,4,5,6,7,8,0],trivial⟩
 rintro a w ⟨κ,T,Y,y,z,U,b,c,-⟩
 refine cu _ _ (qs λ_ cx=>qr λ_ cy=>wp 2 [0,2,3,4,14,15,25] b λa b=>cy _ _ (bc b H (λhb H=>?_) λhb H=>?_))
 refine xt ?_
 exact ⟨_,h,Y,B,k,C,D,K,A,ab,X,ad,i,l,o,b.kp [0,14,15],c.sp [0,3,4,5,6] (rg 5),H⟩
 refine sk (cx _ _ (qs λ_ cz=>qr λ_ cA=>(wp 1 [0,2,3,4,14,15,26] b λa b=>wc (wld b c 1 3 0 λa b=>wp 2 [0,2,3,4,14,15,27,28,29] b λa b=>(cA _ _ (bk (jX (n:=N) (λn a w => ∃κ L Z ae af,Fr (67) [] [k2g j,k2h g,(3,.pointer (pa U)),k26 T,(14,.agg (flat [(4,(encs pF e))]).toArray),(15,vi g),k2o y (d.2.2.2.1).length z,(28,vi ((d.2.2.2.1).length:Int)),(29,vi af)] a∧SS Ms κ0 w0 κ w [k43 j Q O F (f.Cuts).length G I (f.Nodes).length J P h e s k A L u l i.length o x,k32 T d.1 d.2.1 d.2.2.1 y (d.2.2.2.1).length z,k38 y (d.2.2.2.1).length z,k2s l i.length o,.ext (arrX j6 e Y B),mx k C D,k2y L Z ae] [k2l F G f.Cuts,k2m I J f.Nodes,(ml e 4),k3k k C D K,k2t l o i,(MP.const (idx e g=some U)),k2u y z d.2.2.2.1]∧M.oI N (M.lW N W) (M.nT N (M.lW N W) bm) n Q f g h B K A i d ae af=some r) ?_ ?_)))))))
 exact ⟨_,ab,X,ad,0,b.kp [0,2,3,4,14,15,27,28,29],c.sp (rg 7) (rg 7),H⟩
 rintro n a w ⟨κ,L,Z,ae,af,b,c,H⟩
 rcases n with _|ci
 simp [M.oI] at H
 simp only [M.oI] at H
 refine qr λ_ cB=>(jG (L':=[k2g j,k2h g,(3,.pointer (pa U)),k26 T,(14,.agg (flat [(4,(encs pF e))]).toArray),(15,vi g),k2o y (d.2.2.2.1).length z,(28,vi ((d.2.2.2.1).length:Int)),(29,vi af),(30,vb (decide (af<((d.2.2.2.1).length:Int))))]) 1 [0,2,3,4,14,15,27,28,29,30] b kr λa b=>cB _ _ (qs λ_ cD=>bc b H (λhb H=>?_) λhb H=>?_))
 refine sk (cD _ _ (qs λ_ cE=>bk (qr λ_ cF=>(bd H λV bn H=>wc (kS b c kr 6 (E:=48) (sz:=6) rfl rfl rfl kr rfl bn kr kr λdf dg a b1 b=>wc (qT (t:=jF) b c kr 6 rfl rfl b1 rfl bn kr kr kr λa b=>wc (wal b c (k0e empty) (sgN 6 jE) λdh a w b c=>wc (wst b c 0 0 6 (k0n V.Key V.Val V.Gone V.TS V.DC V.Tx) (sgN 6 jE) λa w b c=>?_))))))))
 refine cF _ _ (qr λ_ cG=>wp 2 [0,2,3,4,14,15,27,28,29,33,34] b λa b=>wc (wld b c 0 0 0 λa b=>bd H λb2 cj H=>?_))
 have bt:=c.segs 1 rfl
 refine wc (wcS 2 [1,7,0,2,3,4,5,6] b c (λc=>qP N ae V.Key (flat [si Q,(5,O),sl F (f.Cuts).length G,sl I (f.Nodes).length J,(7,P),su h,k3l e,(11,s),sm k,su A]) L Z (flat [(8,u),sl l i.length o,(1,x)]) j ((c.regr 0 [(true,10),(false,1),(true,3)] rfl).sbK []) cj) ?_)
 rintro _ κ w a ⟨a2,bo,rfl,h2⟩ b hB
 have c:=(hB _ _ h2).unregrK 0 [(true,10),(false,1),(true,3)] (s':=[si Q,(5,O),sl F (f.Cuts).length G,sl I (f.Nodes).length J,(7,P),su h,k3l e,(11,s),sm k,su A,sp a2,(8,u),sl l i.length o,(1,x)]) bt rfl
 refine cG _ _ (bc b H (λhb H=>?_) λhb H=>?_)
 refine xt ?_
 exact ⟨_,h,Y,B,k,C,D,K,A,a2,bo,b2.2,i,l,o,b.kp [0,14,15],c.sp [0,5,6,7,1] (rg 5),H⟩
 refine sk (cE _ _ (rl (wp 2 [0,2,3,4,14,15,27,28,29] b λa b=>nl ?_)))
 exact ⟨ci,Nat.lt_succ_self _,_,a2,bo,b2.2,i64.wrap (af+1),b.kp [0,2,3,4,14,15,27,28,29],c.sp [0,3,4,5,6,7,1] (rg 7),H⟩
 refine xt (cz _ _ (qs λ_ cH=>?_))
 have al:idx e g=some U:=c.get 5 rfl
 refine bd H λdi bq H=>?_
 obtain ⟨c8,c9,c⟩:=c.arrTakeP 4 rfl bq al
 refine kU H (λaa H=>?_) (λcI aa H=>?_)
 obtain ⟨ak,c⟩:=c.optN 0 rfl aa
 have b3:=b
 subst ak
 have b:=b3
 obtain ⟨da,c⟩:=c.arrBackI 0 1 (ra 2 6) dc rfl rfl al (bq.trans (congrArg some aa))
 cases H
 obtain ⟨a4,ak,c⟩:=c.optS 0 rfl aa
 have b4:=b
 subst ak
 have b:=b4
 obtain ⟨⟨cJ,cK,cL,cM,cN,cO,cP⟩,c⟩:=c.unfI (ck:=lO) (fs:=lN) 0 rfl
 refine rl (wp 1 [0,2,3,4,14,15,39] b λa b=>bd H λq cl H=>wc (wcS 4 (rg 11) b c (λc=>A7 N cI cJ cK cL cM cN cO cP a4 (c.sbK [0,1]) cl) ?_))
 rintro _ κ w a ⟨a5,a6,cQ,cR,cS,cT,cU,cV,cW,rfl,h2⟩ b hB
 have c:=hB _ _ h2
 refine wp 4 [0,2,3,4,14,15,41,42,43] b λa b=>wc (wal b c k0d (sgN 4 jE) λcX a w b c=>wp 1 [0,2,3,4,8,9,14,15,42,43] b λa b=>wc (wst b c 0 0 4 (k0c q.2.1.TS q.2.1.DC q.2.1.Tx a5 (q.2.1.Vers).length a6) (sgN 4 jE) λa w b c=>wp 1 [0,2,3,4,8,14,15] b λa b=>nl ?_))
 obtain ⟨db,c⟩:=c.foldI (ck:=lO) (fs:=lN) a4 (cQ,cR,cS,cT,cU,cV,cW) q.2.2.2 (ra 1 4) [0,5,6,7,8,9,10,11,12] [1,2] dc kr kr
 obtain ⟨br,c⟩:=c.arrPutI 0 3 [1,2,4,5,6,7,8,9] dc rfl rfl al
 refine cH _ _ (qs λ_ cY=>rgS c [10] ?_)
 have c:=c.drew
 have hX:=c.fx
 refine anp [0,1,2,3,5] [0,2,3,4,8,14,15,44,47,49] b hX λa b=>atk 4 (some 48) b hX rfl (vld 2 5 0) λa b=>atk 6 (some 50) b hX rfl (vld 3 0 0) λa b=>anp [7,8,9] [0,2,3,4,8,14,15,51,53] b hX λa b=>ago 10 b rfl (wst b c 3 5 1 [su (if d.1 > h then d.1 else h)] (sgN 1 jE) λa w b c=>⟨notE,?_⟩)
 refine kM (cY _ _ (rga (λ_=>True) [] ?_))
 have c:=c.drew
 refine anp [0,1,2,3,4,5,6,8] [0,2,3,14,15,54,57,60,62] b trivial λa b=>mG c [11] (atk 7 (some 61) b (c.sx [0,1,3,4,7,8] (rg 12)) rfl (vls 2 2 2) λa b=>atk 9 (some 63) b (c.sx [0,1,3,4,7,8] (rg 12)) rfl (vld 3 3 0) λa b=>ago 10 b rfl (bd H λb5 cn H=>jS b c kr kr (xR N c.fresh f d.2.2.2.1 F G I J y z ((c.pick [5,6,11] kr).ro) cn) ?_))
 rintro _ κ w a ⟨b6,b7,rfl,hR,hN⟩ b c hO
 have c:=c.adds hR
 have c:=c.addC hO hN
 refine ⟨λ_=>(c.sx [1,2,4,5,8,9] (ra 1 12)),?_⟩
 refine ago 11 b rfl (bd H λS co H=>?_)
 have bu:=c.segs 4 rfl
 refine wcS 3 [4,7,8,0,1,2,3,5,6,9] b c (λc=>uY N Q K A i (jB.mk g q.1 0 ([]:List ByteArray)) b5 (flat [(5,O),sl F (f.Cuts).length G,sl I (f.Nodes).length J,(7,P),su (if d.1 > h then d.1 else h),k3l e,(11,s)]) k C D (flat [sp L,(8,u)]) l o x b6 b7 j ((c.regr 0 [(false,1),(true,7),(false,2),(true,2),(false,2)] rfl).sbK [9,10,0]) co) ?_
 rintro _ κ w a ⟨aI,b8,b9,aJ,aL,rfl,h2⟩ b hB
 have c:=((hB _ _ h2).unregrK 0 [(false,1),(true,7),(false,2),(true,2),(false,2)] (s':=[si Q,(5,O),sl F (f.Cuts).length G,sl I (f.Nodes).length J,(7,P),su (if d.1 > h then d.1 else h),k3l e,(11,s),sm aI,su S.2.1,sp L,(8,u),sl aJ (S.2.2).length aL,(1,x)]) bu rfl).cC (C':=[k43 j Q O F (f.Cuts).length G I (f.Nodes).length J P (if d.1 > h then d.1 else h) e s aI S.2.1 L u aJ (S.2.2).length aL x,k2s aJ (S.2.2).length aL,mx aI b8 b9,.tok b6 141 2 b5.length b7,.ext (arrX j6 e br (set B (toNat g) (some q.2.2.2))),k32 cX q.2.1.TS q.2.1.DC q.2.1.Tx a5 (q.2.1.Vers).length a6,k38 a5 (q.2.1.Vers).length a6,k32 T d.1 d.2.1 d.2.2.1 y (d.2.2.2.1).length z,k38 y (d.2.2.2.1).length z,k2y L Z ae])
 refine ⟨notE,?_⟩
 refine kM ?_
 exact ⟨bm,Nat.lt_succ_self _,_,(if d.1 > h then d.1 else h),br,(set B (toNat g) (some q.2.2.2)),aI,b8,b9,S.1,S.2.1,L,Z,ae,S.2.2,aJ,aL,(some a4),b.kp [0,2,3,14,15],c.sp [0,1,4,2,9] [8,9,10,0,1,13],H⟩
 rintro a w ⟨κ,bi,aX,bj,ar,au,av,aw,ax,aY,ay,az,ai,aA,aB,b,c,H⟩
 unfold M.pJ at H
 refine rl (wp 2 [0,14,15] b λa b=>nl ?_)
 exact ⟨W,Nat.lt_succ_self _,_,bi,aX,bj,ar,au,av,aw,ax,aY,ay,az,ai,aA,aB,i64.wrap (g+1),b.kp [0,14,15],c.sp (rg 5) (rg 5),H⟩
 refine xt ?_
 cases H
 exact j7 b c (mI Tryz.results77) ⟨e,ao,aP,aQ,aR,bg,aq,aT,aU,rfl,c.sp (rg 5) [2,3,4]⟩
theorem sK (N){s}{u}{l}(d)(C)(m)(o)(h)(I)(z)(i)(g)(D:SB s u l (k09 g h I i z C) [k2l m o d]){r}(H:M.m0 N d C=some r) :
    Calls Tryz.prog 132 #[.slice m d.length o,.func (.func 83) #[pt g 0] #[]] l (kQ s u l λv κ w => ∃J F,v=vi r.1∧SS s u l κ w (k09 g h J i F r.2) []):=by
 have c:=D.hS
 have Y:=c.fresh
 refine en Tryz.func132 rfl Tryz.ntmps132 λa b=>?_
 unfold M.m0 at H
 refine qr λ_ K=>(wp 1 [0,1] b λa b=>(K _ _ (qs λ_ L=>qr λ_ O=>(wp 3 [0,1,7,8] b λa b=>(O _ _ (bk (jX (n:=N) (λn a w => ∃κ j e k f,Fr (19) [] [(0,.slice m d.length o),(1,.func (.func 83) #[pt g 0] #[]),(7,vi (d.length:Int)),(8,vi f)] a∧SS s u l κ w (k09 g h j i e k) [k2l m o d]∧M.kG N n d k f=some r) ?_ ?_)))))))
 exact ⟨_,I,z,C,0,b.kp [0,1,7,8],c.sp [0,1] [0],H⟩
 rintro n a w ⟨κ,j,e,k,f,b,c,H⟩
 rcases n with _|x
 simp [M.kG] at H
 simp only [M.kG] at H
 refine qr λ_ P=>wp 1 [0,1,7,8,9] b λa b=>P _ _ (qs λ_ Q=>bc b H (λhb H=>?_) λhb H=>?_)
 refine sk (Q _ _ (qs λ_ R=>bk (qr λ_ S=>(wp 2 [0,1,5,7,8] b λa b=>(S _ _ (qr λ_ T=>(jG (L':=k0t m d.length o (.func 83) #[pt g 0] #[] f (d.length:Int)) 3 [0,1,5,7,8,11,12,13] b kr λa b=>bd H λA p H=>wc (kS b c kr 0 (E:=9) (sz:=1) rfl rfl rfl kr rfl p kr kr λZ aa a y b=>wc (mM (t:=lB) b c kr 0 0 (v := .string (A)) rfl rfl y rfl p kr kr kr λa b=>?_)))))))))
 refine bd H λU G H=>wc (wcS 2 [0,1] b c (λc=>qP N k A h j e i g (c.sbK []) G) ?_)
 rintro _ κ w a ⟨B,q,rfl,X⟩ b D
 have c:=D _ _ X
 refine T _ _ (bc b H (λhb H=>?_) λhb H=>?_)
 refine qr λ_ V=>wp 2 [4] b λa b=>V _ _ (rt ?_)
 cases H
 exact j7 b c (l3 Tryz.results132 (rvt b)) ⟨B,q,rfl,c.sp [0,1] []⟩
 refine sk (R _ _ (rl (wp 2 [0,1,7,8] b λa b=>nl ?_)))
 exact ⟨x,Nat.lt_succ_self _,_,B,q,U.2,i64.wrap (f+1),b.kp [0,1,7,8],c.sp [0,1] [0],H⟩
 refine xt (L _ _ (qr λ_ W=>wp 1 [4] b λa b=>W _ _ (rt ?_)))
 cases H
 exact j7 b c (l3 Tryz.results132 (rvt b)) ⟨j,e,rfl,c.sp [0,1] []⟩
theorem rX (N){j}{k}{f}(g)(l)(m)(n)(d)(t)(i)(e)(h)(o:SB j k f (k09 h d t e i l) [k2l m n g]){r}(H:M.kH N g l=some r) :
    Calls Tryz.prog 112 #[.slice m g.length n,.func (.func 83) #[pt h 0] #[]] f (kQ j k f λv κ w => ∃u p,v=vb r.1∧SS j k f κ w (k09 h d u e p r.2) []):=by
 have c:=o.hS
 have B:=c.fresh
 refine en Tryz.func112 rfl Tryz.ntmps112 λa b=>?_
 unfold M.kH at H
 refine qr λ_ x=>wp 1 [0,1] b λa b=>x _ _ (qr λ_ y=>wp 2 [5,6] b λa b=>bd H λC q H=>wc (wcS 2 [0,1] b c (λc=>sK N g l m n d t i e h (c.sbK [0]) q) ?_))
 rintro _ κ w a ⟨z,s,rfl,A⟩ b o
 have c:=o _ _ A
 refine wp 2 [4] b λa b=>y _ _ (rt ?_)
 cases H
 exact j7 b c (l3 Tryz.results112 (rvt b)) ⟨z,s,rfl,c.sp [0,1] []⟩
theorem zQ (N){Ms}{κ0}{w0}(I)(a3)(X)(O)(a5)(f:(List i9))(y)(p4)(a6)(z)(u)(Q)(A)(l)(g)(B)(C)(o)(bI)(a8)(p)(i)(j)(q)(e)(Y:SB Ms κ0 w0 (k1n e I y p4 z u l g o bI p i f.length j q a6 a3 Q A B C a8 a5) (k1o u Q A X g B C O i j f)){r}(H:M.s5 N I a3 X O a5 f=some r) :
    Calls Tryz.prog 78 #[pt e 0] w0 (kQ Ms κ0 w0 λv κ w => ∃a9 aV ba aW aH aI,v = .tuple #[]∧SS Ms κ0 w0 κ w (k1n e I y a9 z u l g o ba p aH (r.2.2).length aI q aV r.1 Q A B C aW r.2.1) [k2t aH aI r.2.2]):=by
 have d:=Y.hS
 have bV:=d.fresh
 refine enL [k2g e] Tryz.func78 rfl Tryz.ntmps78 λa b=>?_
 unfold M.s5 at H
 refine qs λ_ bJ=>qs λ_ bK=>bd H λP x H=>kJ (λa w => ∃κ s D az Z,Fr (104) [] [k2g e,(43,vb P.2.2)] a∧SS Ms κ0 w0 κ w (k1n e I y s z u l g o az p i f.length j q D P.1 Q A B C Z P.2.1) (k1o u Q A X g B C O i j f)∧True) ?_ ?_
 refine kU x (λho x=>?_) (λaj ho x=>?_)
 obtain ⟨F,d⟩:=d.optN 5 rfl ho
 rw [F] at d
 try rw [F] at b
 refine rga (λ_=>True) [] ?_
 have d:=d.drew
 refine anp [0,1,2] [0,8] b trivial λa b=>mG d [36] (atk 3 (some 9) b (d.sx [0,2,3,4,5] [0,1,2]) rfl (vld 0 8 0) λa b=>jO (ra 4 32) [0,21,25,33,41] (L':=[k2g e,(21,vb true),(25,undef),(33,undef),(41,undef)]) (listed':=(mU 38 68719476735)) (fuel:=2) b (d.sx [0,2,3,4,5] [0,1,2]) kr (by intro c a w t v h; cases t<;>exact h) kr rfl λa b=>agn [36] ⟨JT 36 b rfl ?_,trivial⟩)
 intro a b
 refine ⟨notE,?_⟩
 refine tU [37] [0,43] b notE λa b=>?_
 have b:Fr (104) _ [k2g e,(43,vb true)] a:=b.kp [0,43]
 refine kM ?_
 cases x
 exact ⟨_,p4,a6,none,[],b.kp [0,43],d.sp (rg 6) [0,1,2],trivial⟩
 obtain ⟨ak,F,d⟩:=d.optS 5 rfl ho
 rw [F] at d
 try rw [F] at b
 obtain ⟨_,d⟩:=d.unfI (ck:=l8) (fs:=l6) 5 rfl
 refine bd x λaA ho x=>?_
 obtain ⟨W,F,d⟩:=d.optS 3 rfl ho
 rw [F] at d
 try rw [F] at b
 obtain ⟨⟨aJ,aL,aM,aO,aP⟩,d⟩:=d.unfI (ck:=kZ) (fs:=kY) 3 rfl
 refine bd x λbL J x=>kJ (λa w => ∃κ an ao,Fr (104) [] [k2g e,(43,vb bL)] a∧SS Ms κ0 w0 κ w [.box e 87 [si I,(13,y),k34 W,(14,z),sm u,(1,l),sm g,(1,o),k34 ak,(8,p),sl i f.length j,(1,q)],k2s i f.length j,k3n W an aA,mx u Q A,mx g B C,k3x ak ao aj] (k1o u Q A X g B C O i j f)∧True) ?_ ?_
 refine rgX d [0,1,3,4,6,7] ?_
 have d:=d.drew
 have G:=d.px [0,1,3,4,6,7]
 refine anp [0,1,2] [0,8] b G λa b=>atk 3 (some 9) b G rfl (vld 3 8 0) λa b=>anp (ra 4 5) [0,11,14] b G λa b=>atk 9 (some 15) b G rfl (vld 3 8 0) λa b=>anp [10,11] [0,11,17] b G λa b=>atk 12 (some 18) b G rfl (vld 2 5 0) λa b=>anp [13,14,15] [0,21] b G λa b=>bs J (λhb J=>?_) λhb J=>?_
 have b:=b.bv 21 hb
 refine anp (ra 16 22) [0,43] b G λa b=>kM ?_
 obtain ⟨be,d⟩:=d.foldI (ck:=kZ) (fs:=kY) W (aJ,aL,aM,aO,aP) aA [0,1,2] (ra 3 5) [0] dc kr kr
 obtain ⟨bf,d⟩:=d.foldI (ck:=l8) (fs:=l6) ak () aj [1] [0,2,3,4,5] [] dc kr kr
 cases J
 exact ⟨_,be,bf,b.kp [0,43],d.sp [2,3,1,4,5,0] [1,2,3],trivial⟩
 have b:=b.bv 21 hb
 refine anp [16,17,18,20,21,22,28,29,30] [0,21,24,28,36] b G λa b=>atk 19 (some 25) b G rfl (vld 3 2 0) λa b=>atk 23 (some 29) b G rfl (vld 3 8 0) λa b=>anp [24,25,26] [0,21,25,32,36] b G λa b=>atk 27 (some 33) b G rfl (vld 2 0 0) λa b=>atk 31 (some 37) b G rfl (vld 3 8 0) λa b=>anp [32,33,34] [0,21,25,33,40] b G λa b=>atk 35 (some 41) b G rfl (vld 2 1 0) λa b=>ago 36 b rfl (bd J λbW bg J=>wcS 3 (rg 8) b d (λd=>xK N aA aj.span.Lo aj.span.Hi aJ aL aM aO aP W (d.sbK [0]) bg) ?_)
 rintro _ κ w a ⟨bh,rfl,h2⟩ b Y
 have d:=Y _ _ h2
 refine ⟨λ_=>(d.sx [0,1,3,4,6,7] (rg 4)),?_⟩
 refine anp [37] [0,43] b (d.sx [0,1,3,4,6,7] (rg 4)) λa b=>kM ?_
 obtain ⟨bi,d⟩:=d.foldI (ck:=kZ) (fs:=kY) W (aJ,aL,aM,aO,bh) aA [0,1,2] (ra 3 5) [0] dc kr kr
 obtain ⟨bj,d⟩:=d.foldI (ck:=l8) (fs:=l6) ak () aj [1] [0,2,3,4,5] [] dc kr kr
 cases J
 exact ⟨_,bi,bj,b.kp [0,43],d.sp [2,3,1,4,5,0] [1,2,3],trivial⟩
 rintro a w ⟨κ,an,ao,b,d,-⟩
 cases x
 exact ⟨_,(some W),an,(some ak),ao,b.kp [0,43],d.sp (rg 6) [0,1,2],trivial⟩
 rintro a w ⟨κ,s,D,az,Z,b,d,-⟩
 refine bK _ _ (bc b H (λhb H=>?_) λhb H=>?_)
 refine rt ?_
 cases H
 exact j7 b d (mI Tryz.results78) ⟨s,D,az,Z,i,j,rfl,d.sp (rg 6) [2]⟩
 refine sk (bJ _ _ (qs λ_ bM=>qr λ_ bN=>(jG (L':=[k2g e,(46,pt e 29)]) 3 [0,46] b kr λa b=>wc (wld b d 0 4 0 λa b=>wc (z6 (KT:=32) (E:=95) (kt:=(kInt .u64)) (agg:=true) (t:=kX) b d kr 3 0 rfl kr rfl rfl kr λaQ a w b d=>(bN _ _ (bk (jX (n:=N) (λn a w => ∃κ S R T ar aa,Fr (104) [] [k2g e,(48,pt aQ 0)] a∧SS Ms κ0 w0 κ w [.box e 87 [si I,(13,y),sp s,(14,z),sm u,(1,l),sm g,(1,o),sp S,(8,p),sl i f.length j,(1,q)],k2s i f.length j,k3g s D P.1,mx u Q A,mx g B C,k2y S R T,.ext (objX (some aQ) (itO u A ar))] [k3i u Q A X,k3k g B C O,k2t i j f,It.mp (kInt .u64) Q ar aa]∧M.nE N n I X O f P T aa=some r) ?_ ?_))))))))
 exact ⟨_,az,Z,P.2.1,#[],(qL X),b.kp [0,48],d.sp [1,2,3,4,5,6,0] [1,2,3,0],H⟩
 rintro n a w ⟨κ,S,R,T,ar,aa,b,d,H⟩
 rcases n with _|aX
 simp [M.nE] at H
 simp only [M.nE] at H
 refine qr λ_ aR=>(wc (AV (kt:=(kInt .u64)) (agg:=true) (t:=kX) b d kr 3 6 0 3 rfl kr rfl rfl rfl rfl H ?_ ?_))
 intro H a b
 refine wp 1 [0,48,50] b λa b=>(aR _ _ (qs λ_ bR=>cf b rfl (xt (bM _ _ (qs λ_ bl=>qr λ_ bm=>(jG (L':=[k2g e,(59,pt e 31)]) 3 [0,59] b kr λa b=>wc (wld b d 0 6 0 λa b=>wc (z6 (KT:=32) (E:=138) (kt:=(kInt .u64)) (agg:=true) (t:=mD) b d kr 4 1 rfl kr rfl rfl kr λU a w b d=>(bm _ _ (bk (jX (n:=N) (λn a w => ∃κ ab ad ae au af,Fr (104) [] [k2g e,(61,pt U 0)] a∧SS Ms κ0 w0 κ w [.box e 87 [si I,(13,y),sp s,(14,z),sm u,(1,l),sm g,(1,o),sp ab,(8,p),sl i f.length j,(1,q)],k2s i f.length j,k3g s D P.1,mx u Q A,mx g B C,k2y ab ad ae,.ext (objX (some U) (itO g C au))] [k3i u Q A X,k3k g B C O,k2t i j f,It.mp (kInt .u64) B au af]∧M.nD N n I X O f P ae af=some r) ?_ ?_)))))))))))
 exact ⟨_,S,R,T,#[],(qL O),b.kp [0,61],d.sp [1,2,3,4,5,6,0] [1,2,3,0],H⟩
 rintro n a w ⟨κ,ab,ad,ae,au,af,b,d,H⟩
 rcases n with _|aY
 simp [M.nD] at H
 simp only [M.nD] at H
 refine qr λ_ aS=>(wc (AV (kt:=(kInt .u64)) (agg:=true) (t:=mD) b d kr 4 6 1 3 rfl kr rfl rfl rfl rfl H ?_ ?_))
 intro H a b
 refine jG (L':=[k2g e,(61,pt U 0),(63,vb false)]) 1 [0,61,63] b kr λa b=>aS _ _ (qs λ_ bS=>cf b rfl (xt (bl _ _ (qs λ_ bn=>bd H λk ho H=>?_))))
 obtain ⟨V,F,d⟩:=d.optS 5 rfl ho
 rw [F] at d
 try rw [F] at b
 obtain ⟨_,d⟩:=d.unfI (ck:=l8) (fs:=l6) 5 rfl
 refine rl (wp 3 [0,73] b λa b=>wc (wld b d 1 8 0 λa b=>wp 2 [0,76] b λa b=>wc (wst b d 0 5 1 [si 1] (sgN 1 jE) λa w b d=>nl ?_)))
 obtain ⟨bO,d⟩:=d.foldI (ck:=l8) (fs:=l6) V () (j8.mk k.span k.shard k.to 1) [0] (ra 1 6) [] dc kr kr
 refine bn _ _ ?_
 obtain ⟨_,d⟩:=d.unfI (ck:=l8) (fs:=l6) 0 rfl
 refine rga (λ_=>True) [] ?_
 have d:=d.drew
 refine anp [0,1,2,3,9,10,11,17,18,19] [77,80,88,96] b trivial λa b=>mG d [26] (atk 4 (some 81) b (d.sx [0,1,3,4,5,6] (rg 4)) rfl (vld 1 8 0) λa b=>anp [5,6,7] [77,84,88,96] b (d.sx [0,1,3,4,5,6] (rg 4)) λa b=>atk 8 (some 85) b (d.sx [0,1,3,4,5,6] (rg 4)) rfl (vld 0 2 0) λa b=>atk 12 (some 89) b (d.sx [0,1,3,4,5,6] (rg 4)) rfl (vld 1 8 0) λa b=>anp [13,14,15] [77,85,92,96] b (d.sx [0,1,3,4,5,6] (rg 4)) λa b=>atk 16 (some 93) b (d.sx [0,1,3,4,5,6] (rg 4)) rfl (vld 0 0 0) λa b=>atk 20 (some 97) b (d.sx [0,1,3,4,5,6] (rg 4)) rfl (vld 1 8 0) λa b=>?_)
 refine anp [21,22,23] [77,85,93,100] b (d.sx [0,1,3,4,5,6] (rg 4)) λa b=>atk 24 (some 101) b (d.sx [0,1,3,4,5,6] (rg 4)) rfl (vld 0 1 0) λa b=>anp [25] [77,85,102] b (d.sx [0,1,3,4,5,6] (rg 4)) λa b=>ago 26 b rfl ?_
 have d:=d.add (m:=Ro.mp jF.ty none 0 ([]:List jC)) (Ro.nil jF.ty _ _)
 have d:=d.add (m:=Ro.mp (fInt .u64).ty none 0 ([]:List Int)) (Ro.nil (fInt .u64).ty _ _)
 refine bd H λbo aZ H=>?_
 have aE:=d.segs 1 rfl
 refine wcS 2 [1,2,0,3,4,5,6] b d (λd=>lK N I f (((j8.mk k.span k.shard k.to 1).span).Node) (jK.mk 5 0 1 0 (((j8.mk k.span k.shard k.to 1).span).Lo) (((j8.mk k.span k.shard k.to 1).span).Hi) ([]:List jC) ([]:List Int) (jT.mk 0 0 0 0 0 empty)) (flat [(13,y),sp s,(14,z),sm u,(1,l),sm g,(1,o),k34 V,(8,p)]) i j q none 0 none 0 e ((d.regr 0 [(false,1),(true,9),(false,2)] rfl).sbK [4,1,0]) aZ) ?_
 rintro _ κ w a ⟨aT,aU,rfl,h2⟩ b Y
 have d:=(Y _ _ h2).unregrK 0 [(false,1),(true,9),(false,2)] (s':=[si I,(13,y),sp s,(14,z),sm u,(1,l),sm g,(1,o),k34 V,(8,p),sl aT bo.length aU,(1,q)]) aE rfl
 refine ⟨notE,?_⟩
 refine kM ?_
 obtain ⟨a0,d⟩:=d.foldI (ck:=l8) (fs:=l6) V () (j8.mk k.span k.shard k.to 1) [2] [0,1,3,4,5,6] [] dc kr kr
 cases H
 exact j7 b d (mI Tryz.results78) ⟨s,D,(some V),a0,aT,aU,rfl,d.sp [1,2,3,4,5,0] [0]⟩
 intro K bP bq a w H b d
 refine jG (L':=[k2g e,(61,pt U 0),(63,vb true)]) 1 [0,61,63] b kr λa b=>(aS _ _ (qs λ_ br=>ct b rfl (sk (br _ _ (bk (qr λ_ bt=>(wc (z8 (kt:=(kInt .u64)) (agg:=true) (t:=mD) b d kr 4 6 3 0 rfl kr rfl rfl rfl rfl ?_))))))))
 rintro _ a ⟨⟨av,aw⟩,rfl,hR⟩ b
 have d:=d.adds hR
 refine wp 1 [0,61,65] b λa b=>wc (wal b d [si 0,si 0,si 0,k2j] (sgN 4 jE) λbT a w b d=>wc (wst b d 0 0 4 [si K.2.dc,si K.2.at_,si K.2.left,sl av (K.2.keys).length aw] (sgN 4 jE) λa w b d=>(bt _ _ (qr λ_ bw=>(wp 1 [0,61,66] b λa b=>wc (wld b d 0 3 0 λa b=>jG (L':=[k2g e,(61,pt U 0),(67,.slice av (K.2.keys).length aw),(68,pt e 0)]) 1 [0,61,67,68] b kr λa b=>wc (kR b kr (v := .func (.func 83) #[pt e 0] #[]) (BS (caps := #[]) (bnd := #[pt e 0]) rfl kr kr _) λa b=>?_)))))))
 refine bd H λbx a2 H=>?_
 have aF:=d.segs 1 rfl
 refine wc (wcS 2 [1,6,0,2,3,4,5,7] b d (λd=>rX N K.2.keys ae av aw (flat [si I,(13,y),sp s,(14,z),sm u,(1,l),sm g,(1,o)]) ab ad (flat [(8,p),sl i f.length j,(1,q)]) e ((d.regr 0 [(true,8),(false,1),(true,3)] rfl).sbK [0]) a2) ?_)
 rintro _ κ w a ⟨ax,aB,rfl,h2⟩ b Y
 have d:=(Y _ _ h2).unregrK 0 [(true,8),(false,1),(true,3)] (s':=[si I,(13,y),sp s,(14,z),sm u,(1,l),sm g,(1,o),sp ax,(8,p),sl i f.length j,(1,q)]) aF rfl
 refine bw _ _ (bc b H (λhb H=>?_) λhb H=>?_)
 refine rt ?_
 cases H
 exact j7 b d (mI Tryz.results78) ⟨s,D,ax,aB,i,j,rfl,d.sp [0,3,4,5,6,1] [5]⟩
 refine sk ?_
 exact ⟨aY,Nat.lt_succ_self _,_,ax,aB,bx.2,bq,(kRem af K.1),b.kp [0,61],d.sp [0,3,4,5,6,1,7] [3,4,5,2],H⟩
 intro L bQ bz a w H b d
 refine jG (L':=[k2g e,(48,pt aQ 0),(50,vb true)]) 1 [0,48,50] b kr λa b=>(aR _ _ (qs λ_ bA=>ct b rfl (sk (bA _ _ (bk (qr λ_ bB=>(wc (z8 (kt:=(kInt .u64)) (agg:=true) (t:=kX) b d kr 3 6 2 0 rfl kr rfl rfl rfl rfl ?_))))))))
 rintro _ a ⟨⟨bC,bD⟩,rfl,hR⟩ b
 have d:=d.adds hR
 refine wp 1 [0,48,52] b λa b=>wc (wal b d (k0v empty) (sgN 5 jE) λbU a w b d=>wc (wst b d 0 0 5 (k0u L.2.id L.2.read L.2.key L.2.at_ bC (L.2.writes).length bD) (sgN 5 jE) λa w b d=>bB _ _ (qr λ_ bE=>wp 2 [0,48,53,54] b λa b=>wc (wld b d 0 2 0 λa b=>bd H λbF a4 H=>?_))))
 have aG:=d.segs 1 rfl
 refine wc (wcS 2 [1,6,0,2,3,4,5,7] b d (λd=>qP N T L.2.key (flat [si I,(13,y),sp s,(14,z),sm u,(1,l),sm g,(1,o)]) S R (flat [(8,p),sl i f.length j,(1,q)]) e ((d.regr 0 [(true,8),(false,1),(true,3)] rfl).sbK []) a4) ?_)
 rintro _ κ w a ⟨ay,aD,rfl,h2⟩ b Y
 have d:=(Y _ _ h2).unregrK 0 [(true,8),(false,1),(true,3)] (s':=[si I,(13,y),sp s,(14,z),sm u,(1,l),sm g,(1,o),sp ay,(8,p),sl i f.length j,(1,q)]) aG rfl
 refine bE _ _ (bc b H (λhb H=>?_) λhb H=>?_)
 refine rt ?_
 cases H
 exact j7 b d (mI Tryz.results78) ⟨s,D,ay,aD,i,j,rfl,d.sp [0,3,4,5,6,1] [5]⟩
 refine sk ?_
 exact ⟨aX,Nat.lt_succ_self _,_,ay,aD,bF.2,bz,(kRem aa L.1),b.kp [0,48],d.sp [0,3,4,5,6,1,7] [3,4,5,2],H⟩
theorem yZ (N){Ms}{κ0}{w0}(R)(S)(Q)(T)(a7)(aH)(ah)(Y)(g:(List Int))(z)(A)(aY)(I)(ai:(List i9))(L)(O)(p8)(aZ)(p)(Z)(an)(q)(j)(F)(G)(s)(l)(o)(aj)(ak)(u)(f)(hB:SB Ms κ0 w0 (k1p f R L S Q O T p8 p Z ah q j s l g.length o z A aY I aj ai.length ak u aZ a7 (arrX j6 Z an aH) F G) (k1c (ml Z 4) (ml ah 4) j F G Y l o g aj ak ai)){r}(H:M.rN N R S Q T a7 aH ah Y g z A aY I ai=some r) :
    Calls Tryz.prog 79 #[pt f 0] w0 (kQ Ms κ0 w0 λv κ w => ∃bJ bu ba bw bm bn,v = .tuple #[]∧SS Ms κ0 w0 κ w (k1p f R L S Q O T bJ p ba r.2.2.1 q j s l g.length o z A r.2.2.2.1 r.u4.1 bm (r.u4.2).length bn u bu r.1 (arrX j6 ba bw r.2.1) F G) [(ml ba 4),(ml r.2.2.1 4),k2t bm bn r.u4.2]):=by
 have d:=hB.hS
 have cq:=d.fresh
 refine en Tryz.func79 rfl Tryz.ntmps79 λa b=>?_
 unfold M.rN at H
 refine qs λ_ b7=>qr λ_ b8=>bd H λb9 ax H=>kA (λa w => ∃κ:Gh,Fr (129) [] [k2g f,(14,vb b9)] a∧SS Ms κ0 w0 κ w (k1p f R L S Q O T p8 p Z ah q j s l g.length o z A aY I aj ai.length ak u aZ a7 (arrX j6 Z an aH) F G) (k1c (ml Z 4) (ml ah 4) j F G Y l o g aj ak ai)∧True) ?_ ?_
 refine wp 3 [0,6] b λa b=>wc (wld b d 0 2 0 λa b=>wp 2 [0,9] b λa b=>bs ax (λhb ax=>?_) λhb ax=>?_)
 have b:=b.bv 9 hb
 refine wp 5 [0,14] b λa b=>nl ?_
 cases ax
 exact ⟨_,b.kp [0,14],d.sp (rg 5) (rg 5),trivial⟩
 have b:=b.bv 9 hb
 refine wp 3 [0,9,12] b λa b=>wcg b (wld b d 0 17 0 λa b=>wp 1 [0,14] b λa b=>nl ?_)
 cases ax
 exact ⟨_,b.kp [0,14],d.sp (rg 5) (rg 5),trivial⟩
 rintro a w ⟨κ,b,d,-⟩
 refine b8 _ _ (bc b H (λhb H=>?_) λhb H=>?_)
 refine rt ?_
 cases H
 exact j7 b d (mI Tryz.results79) ⟨p8,aZ,Z,an,aj,ak,rfl,d.sp (rg 5) [0,1,4]⟩
 refine sk (b7 _ _ (m9 (λa w => ∃κ bE bo bq aa ay bf ao aI,∃aq:List i9,∃ar au,Fr (129) [] [k2g f] a∧SS Ms κ0 w0 κ w (k1p f R L S Q O T bE p aa ao q j s l g.length o z A aI I ar aq.length au u bo bq (arrX j6 aa ay bf) F G) (k1c (ml aa 4) (ml ao 4) j F G Y l o g ar au aq)∧M.oM N R S Q T Y g z A I bq bf ao aI aq=some r) ?_ ?_))
 refine qr λ_ ca=>bd H λcb W H=>kA (λa w => ∃κ:Gh,Fr (129) [] [k2g f,(35,vb cb)] a∧SS Ms κ0 w0 κ w (k1p f R L S Q O T p8 p Z ah q j s l g.length o z A aY I aj ai.length ak u aZ a7 (arrX j6 Z an aH) F G) (k1c (ml Z 4) (ml ah 4) j F G Y l o g aj ak ai)∧True) ?_ ?_
 refine wp 3 [0,17] b λa b=>wc (wld b d 0 16 0 λa b=>wp 2 [0,20] b λa b=>bs W (λhb W=>?_) λhb W=>?_)
 have b:=b.bv 20 hb
 refine wp 3 [0,20,23] b λa b=>wcg b (wld b d 0 13 0 λa b=>wp 4 [0,28] b λa b=>bs W (λhb W=>?_) λhb W=>?_)
 have b:=b.bv 28 hb
 refine jG (L':=[k2g f,(28,vb true),(31,pt f 31)]) 3 [0,28,31] b kr λa b=>wcg b (wld b d 0 11 0 λa b=>wcg b (vA (KT:=32) (E:=138) (kt:=(kInt .u64)) (agg:=true) (t:=mD) b d kr 4 2 rfl kr rfl rfl kr λa b=>wp 2 [0,35] b λa b=>nl ?_))
 cases W
 exact ⟨_,b.kp [0,35],d.sp (rg 5) (rg 5),trivial⟩
 have b:=b.bv 28 hb
 refine wp 7 [0,35] b λa b=>nl ?_
 cases W
 exact ⟨_,b.kp [0,35],d.sp (rg 5) (rg 5),trivial⟩
 have b:=b.bv 20 hb
 refine wp 15 [0,35] b λa b=>nl ?_
 cases W
 exact ⟨_,b.kp [0,35],d.sp (rg 5) (rg 5),trivial⟩
 rintro a w ⟨κ,b,d,-⟩
 refine ca _ _ (bc b H (λhb H=>?_) λhb H=>?_)
 refine qr λ_ cc=>(jG (L':=[k2g f,(38,pt f 40)]) 3 [0,38] b kr λa b=>wc (wst b d 0 16 1 [sb true] (sgN 1 jE) λa w b d=>cc _ _ (qs λ_ cd=>bd H λab ho H=>?_)))
 obtain ⟨P,a0,d⟩:=d.optS 2 rfl ho
 rw [a0] at d
 try rw [a0] at b
 obtain ⟨⟨bF,bG⟩,d⟩:=d.unfI (ck:=jR) (fs:=jP) 2 rfl
 refine rl (wp 3 [0,41] b λa b=>wc (wld b d 2 6 0 λa b=>bd H λV bK H=>wc (wcS 2 (rg 6) b d (λd=>pE N ab bF bG P (d.sbK (rg 4)) bK) ?_)))
 rintro _ κ w a ⟨rfl,h2⟩ b hB
 have d:=hB _ _ h2
 refine wp 1 [0,43,44] b λa b=>nl ?_
 obtain ⟨af,d⟩:=d.foldI (ck:=jR) (fs:=jP) P (bF,bG) ab [0,1] (ra 2 4) (ra 1 4) dc kr kr
 refine cd _ _ (bk (jX (n:=N) (λn a w => ∃κ k ae U x,∃B:List i9,∃J K e,Fr (129) [] [k2g f,(43,.agg (flat [eb 4 V]).toArray),(44,vi e)] a∧SS Ms κ0 w0 κ w (k1q f R L S Q O T P p k x q j s l g.length o z A I J B.length K u af ab (arrX j6 k ae U) F G) (k1r (ml k 4) (ml x 4) j F G Y l o g J K B (ml V 4))∧M.m6 N n R S Q T Y g z A I ab V U x B e=some r) ?_ ?_))
 exact ⟨_,Z,an,aH,ah,ai,aj,ak,0,b.kp [0,43,44],d.sp [1,2,0,3,4] [5,6,7,8,9,0],H⟩
 rintro n a w ⟨κ,k,ae,U,x,B,J,K,e,b,d,H⟩
 rcases n with _|bg
 simp [M.m6] at H
 simp only [M.m6] at H
 refine qr λ_ bL=>wp 1 [0,43,44,45] b λa b=>bL _ _ (qs λ_ bM=>bc b H (λhb H=>?_) λhb H=>?_)
 refine sk (bM _ _ (m9 (λa w => ∃κ az aM aO aA,∃aB:List i9,∃aP aQ,Fr (129) [] [k2g f,(43,.agg (flat [eb 4 V]).toArray),(44,vi e)] a∧SS Ms κ0 w0 κ w (k1q f R L S Q O T P p az aA q j s l g.length o z A I aP aB.length aQ u af ab (arrX j6 az aM aO) F G) (k1r (ml az 4) (ml aA 4) j F G Y l o g aP aQ aB (ml V 4))∧M.pS N (M.m6 N bg) R S Q T Y g z A I ab V e aO aA aB=some r) ?_ ?_))
 refine bk (qr λ_ bN=>(jG (L':=[k2g f,(43,.agg (flat [eb 4 V]).toArray),(44,vi e),(46,vi e)]) 1 [0,43,44,46] b kr λa b=>bd H λbO bx H=>wc (kR b kr (v:=vb bO) (pA (t:=jN) (E:=4) (n:=4) (m:=4) rfl kr rfl bx (d.get 5 rfl) rfl rfl kr kr kr _) λa b=>wp 2 [0,2,3,43,44] b λa b=>bN _ _ (qr λ_ bP=>bd H λbQ al H=>kA (λa w => ∃κ:Gh,Fr (129) [] [k2g f,k2h e,(43,.agg (flat [eb 4 V]).toArray),(44,vi e),(56,vb bQ)] a∧SS Ms κ0 w0 κ w (k1q f R L S Q O T P p k x q j s l g.length o z A I J B.length K u af ab (arrX j6 k ae U) F G) (k1r (ml k 4) (ml x 4) j F G Y l o g J K B (ml V 4))∧True) ?_ ?_))))
 refine wp 2 [0,2,43,44,49] b λa b=>bs al (λhb al=>?_) λhb al=>?_
 have b:=b.bv 49 hb
 refine wp 4 [0,2,43,44,49,50,53] b λa b=>wcg b (wld b d 0 0 0 λa b=>wp 2 [0,2,43,44,56] b λa b=>nl ?_)
 cases al
 exact ⟨_,b.kp [0,2,43,44,56],d.sp (rg 5) (rg 6),trivial⟩
 have b:=b.bv 49 hb
 refine wp 7 [0,2,43,44,56] b λa b=>nl ?_
 cases al
 exact ⟨_,b.kp [0,2,43,44,56],d.sp (rg 5) (rg 6),trivial⟩
 rintro a w ⟨κ,b,d,-⟩
 refine bP _ _ (bc b H (λhb H=>?_) λhb H=>?_)
 refine qs λ_ bR=>bd H λcj bz H=>?_
 obtain ⟨bS,aD⟩:=d.arrIdx 3 rfl bz
 have d:=d.add (m:=MP.const (idx k e=some bS)) aD
 refine rgS d [16,20] ?_
 have d:=d.drew
 have X:=d.fx
 refine jO [0,1,4,5,6,8,13,14] [0,2,43,44,58,63,65,71] (L':=[k2g f,k2h e,(43,.agg (flat [eb 4 V]).toArray),(44,vi e),(58,vi e),(63,pt f 37),(65,vi e),(71,pt f 16)]) (listed':=(mU 21 24947)) (fuel:=13) b X kr (by intro c a w t v h; cases t<;>exact h) kr rfl λa b=>tU [2,3,17,18] [0,2,43,44,58,60,63,65,71,74] b (λ_=>X) λa b=>?_
 have b:Fr (129) _ [k2g f,k2h e,(43,.agg (flat [eb 4 V]).toArray),(44,vi e),(58,vi e),(60,vi e),(63,pt f 37),(65,vi e),(71,pt f 16),(74,pt f 20)] a:=b.kp [0,2,43,44,58,60,63,65,71,74]
 refine atk 7 (some 64) b X rfl (vld 0 13 0) λa b=>bd H λbe aR H=>?_
 obtain ⟨cl,cm,a2⟩:=d.ptr 4 rfl aR
 refine atk 9 (some 66) b (d.sx [0,2,3,4] (rg 7)) rfl (λw _=>mN (E:=32) (sz:=1) rfl a2 rfl kr rfl aR kr kr w) λa b=>atk 10 (some 67) b (d.sx [0,2,3,4] (rg 7)) rfl (qG (t:=(fInt .u64)) 4 0 (v:=vu be) rfl rfl a2 rfl aR kr kr kr) λa b=>jO [11] [0,2,43,44,58,60,68,71,74] (L':=[k2g f,k2h e,(43,.agg (flat [eb 4 V]).toArray),(44,vi e),(58,vi e),(60,vi e),(68,vi (i64.wrap be)),(71,pt f 16),(74,pt f 20)]) (listed':=(mU 21 421887)) (fuel:=5) b (d.sx [0,2,3,4] (rg 7)) kr (by intro c a w t v h; cases t<;>exact h) kr rfl λa b=>?_
 refine ago 12 b rfl (bd H λaE bA H=>wcS 0 (rg 5) b d (λd=>xP N (i64.wrap be) (d.sbK []) bA) ?_)
 rintro _ κ w a ⟨C,bT,bU,bV,bW,bX,bY,bZ,rfl,h2⟩ b hB
 have d:=hB _ _ h2
 refine ⟨λ_=>(d.sx [4,6,7,8] (ra 2 7)),?_⟩
 refine atk 15 (some 72) b (d.sx [4,6,7,8] (ra 2 7)) rfl (λw _=>lU (E:=81) (sz:=1) (n:=4) rfl rfl (i:=e) rfl (m1 aD (d.get 3 rfl)) kr kr w) λa b=>ago 16 b rfl ?_
 obtain ⟨bB,d⟩:=d.foldI (ck:=lO) (fs:=lN) C (bT,bU,bV,bW,bX,bY,bZ) aE [0,3,1,2] (ra 4 5) [0,1] dc kr kr
 refine lM (t:=pF) (y:=(some C)) (v:=pt C 0) b d kr 1 8 (s':=[si R,(1,L),si S,si Q,(7,O),sb T,k34 P,(3,p),k3l (set k (toNat e) (some C)),ei 4 x,(7,q),sm j,(5,s),sl l g.length o,su z,sb A,sb true,sb I,sl J B.length K,(1,u)]) (C':=[ox j6 (some C) bB (some aE),k44 f R L S Q O T P p (set k (toNat e) (some C)) x q j s l g.length o z A I J B.length K u,k2s J B.length K,k3s P af ab,.ext (arrX j6 k ae U),mx j F G]) rfl rfl kr rfl rfl aD rfl rfl kr kr kr kr λa w b d=>?_
 have d:=d.add (m:=ml (set k (toNat e) (some C)) 4) (List.length_set.trans (d.get 3 rfl))
 obtain ⟨aS,d⟩:=d.arrSetI 0 4 [1,2,3,5] dc (toNat e) rfl rfl
 refine ⟨notE,?_⟩
 refine ago 19 b rfl (bd H λcn bh H=>l5 b kr (E:=3) (sz:=1) (n:=4) rfl rfl (i:=e) rfl (m1 bh (d.get 5 rfl)) kr kr λa b=>⟨notE,?_⟩)
 refine ago 20 b rfl (lM (t:=(fInt .i64)) (y:=0) (v:=vi 0) b d kr 1 9 (s':=[si R,(1,L),si S,si Q,(7,O),sb T,k34 P,(3,p),k3l (set k (toNat e) (some C)),ei 4 (set x (toNat e) 0),(7,q),sm j,(5,s),sl l g.length o,su z,sb A,sb true,sb I,sl J B.length K,(1,u)]) (C':=[.ext (arrX j6 (set k (toNat e) (some C)) aS (set U (toNat e) (some aE))),k44 f R L S Q O T P p (set k (toNat e) (some C)) (set x (toNat e) 0) q j s l g.length o z A I J B.length K u,k2s J B.length K,k3s P af ab,mx j F G]) rfl rfl kr rfl rfl bh rfl rfl kr kr kr kr λa w b d=>?_)
 have d:=d.add (m:=ml (set x (toNat e) 0) 4) (List.length_set.trans (d.get 5 rfl))
 refine ⟨notE,?_⟩
 refine kM (bR _ _ (rga (λ_=>True) [] ?_))
 have d:=d.drew
 refine jO [0,1,3,4,5,7] [0,43,44,76,77,81,83] (L':=[k2g f,(43,.agg (flat [eb 4 V]).toArray),(44,vi e),(76,pt f 0),(77,vi e),(81,pt f 37),(83,vi e)]) (listed':=(mU 12 187)) (fuel:=6) b trivial kr (by intro c a w t v h; cases t<;>exact h) kr rfl λa b=>mG d [11] (atk 6 (some 82) b (d.sx [0,1,3,4] (rg 11)) rfl (vld 1 13 0) λa b=>bd H λbr aT H=>?_)
 obtain ⟨co,cp,a5⟩:=d.ptr 8 rfl aT
 refine atk 8 (some 84) b (d.sx [0,1,3,4] (rg 11)) rfl (λw _=>mN (E:=32) (sz:=1) rfl a5 rfl kr rfl aT kr kr w) λa b=>atk 9 (some 85) b (d.sx [0,1,3,4] (rg 11)) rfl (qG (t:=(fInt .u64)) 8 0 (v:=vu br) rfl rfl a5 rfl aT kr kr kr) λa b=>anp [10] [0,43,44,76,77,86] b (d.sx [0,1,3,4] (rg 11)) λa b=>ago 2 b rfl (bd H λb0 bC H=>jS b d kr kr (uV N d.fresh e (-1) ((d.pick [] kr).ro) bC) ?_)
 rintro _ κ w a ⟨rfl,hR,hN⟩ b d hO
 refine ⟨λ_=>(d.sx [0,1,3,4] (rg 11)),?_⟩
 refine ago 11 b rfl ?_
 have d:=d.add (m:=Ro.mp jF.ty none 0 ([]:List jC)) (Ro.nil jF.ty _ _)
 have d:=d.add (m:=Ro.mp (fInt .u64).ty none 0 ([]:List Int)) (Ro.nil (fInt .u64).ty _ _)
 refine bd H λaU bD H=>?_
 have bi:=d.segs 1 rfl
 refine wcS 2 [1,2,0,3,4] b d (λd=>oE N B b0 (jK.mk 20 0 br 0 empty empty ([]:List jC) ([]:List Int) (jT.mk 0 0 0 0 0 empty)) (flat [si R,(1,L),si S,si Q,(7,O),sb T,k34 P,(3,p),k3l (set k (toNat e) (some C)),ei 4 (set x (toNat e) 0),(7,q),sm j,(5,s),sl l g.length o,su z,sb A,sb true,sb I]) J K u none 0 none 0 f ((d.regr 0 [(true,18),(false,2)] rfl).sbK [11,1,0]) bD) ?_
 rintro _ κ w a ⟨aV,aW,rfl,h2⟩ b hB
 have d:=((hB _ _ h2).unregrK 0 [(true,18),(false,2)] (s':=[si R,(1,L),si S,si Q,(7,O),sb T,k34 P,(3,p),k3l (set k (toNat e) (some C)),ei 4 (set x (toNat e) 0),(7,q),sm j,(5,s),sl l g.length o,su z,sb A,sb true,sb I,sl aV aU.length aW,(1,u)]) bi rfl).cC (C':=[k44 f R L S Q O T P p (set k (toNat e) (some C)) (set x (toNat e) 0) q j s l g.length o z A I aV aU.length aW u,k2s aV aU.length aW,.ext (arrX j6 (set k (toNat e) (some C)) aS (set U (toNat e) (some aE))),k3s P af ab,mx j F G])
 refine ⟨notE,?_⟩
 refine kM ?_
 exact ⟨_,(set k (toNat e) (some C)),aS,(set U (toNat e) (some aE)),(set x (toNat e) 0),aU,aV,aW,b.kp [0,43,44],d.sp [0,1,3,2,4] [4,3,10,11,0,13],H⟩
 refine sk ?_
 exact ⟨_,k,ae,U,x,B,J,K,b.kp [0,43,44],d.sp (rg 5) (rg 6),H⟩
 rintro a w ⟨κ,az,aM,aO,aA,aB,aP,aQ,b,d,H⟩
 unfold M.pS at H
 refine rl (wp 2 [0,43,44] b λa b=>nl ?_)
 exact ⟨bg,Nat.lt_succ_self _,_,az,aM,aO,aA,aB,aP,aQ,i64.wrap (e+1),b.kp [0,43,44],d.sp (rg 5) (rg 6),H⟩
 refine xt ?_
 exact ⟨_,(some P),af,(some ab),k,ae,U,x,true,B,J,K,b.kp [0],d.sp (rg 5) (rg 5),H⟩
 refine sk ?_
 exact ⟨_,p8,aZ,a7,Z,an,aH,ah,aY,ai,aj,ak,b.kp [0],d.sp (rg 5) (rg 5),H⟩
 rintro a w ⟨κ,bE,bo,bq,aa,ay,bf,ao,aI,aq,ar,au,b,d,H⟩
 unfold M.oM at H
 refine qs λ_ ce=>bd H λaJ ho H=>?_
 obtain ⟨ad,a0,d⟩:=d.optS 2 rfl ho
 rw [a0] at d
 try rw [a0] at b
 obtain ⟨⟨a8,a9⟩,d⟩:=d.unfI (ck:=jR) (fs:=jP) 2 rfl
 refine bd H λcg D H=>kJ (λa w => ∃κ aX,Fr (129) [] [k2g f,(117,vb cg)] a∧SS Ms κ0 w0 κ w [.box f 87 [si R,(1,L),si S,si Q,(7,O),sb T,k34 ad,(3,p),k3l aa,ei 4 ao,(7,q),sm j,(5,s),sl l g.length o,su z,sb A,sb aI,sb I,sl ar aq.length au,(1,u)],k2s ar aq.length au,k3s ad aX aJ,.ext (arrX j6 aa ay bf),mx j F G] (k1c (ml aa 4) (ml ao 4) j F G Y l o g ar au aq)∧True) ?_ ?_
 refine rgS d [] ?_
 have d:=d.drew
 have X:=d.fx
 refine anp [0,1,2] [0,91] b X λa b=>atk 3 (some 92) b X rfl (vld 2 16 0) λa b=>anp [4] [0,93] b X λa b=>bs D (λhb D=>?_) λhb D=>?_
 have b:=b.bv 93 hb
 refine anp [5,6,7] [0,93,96] b X λa b=>atk 8 (some 97) b X rfl (vld 2 15 0) λa b=>anp [9,10] [0,99] b X λa b=>bs D (λhb D=>?_) λhb D=>?_
 have b:=b.bv 99 hb
 refine anp [11,12,13] [0,99,102] b X λa b=>atk 14 (some 103) b X rfl (vld 2 5 0) λa b=>anp [15,16,17] [0,106] b X λa b=>bs D (λhb D=>?_) λhb D=>?_
 have b:=b.bv 106 hb
 refine anp [18,19,20,23,24,25] [0,106,109,114] b X λa b=>atk 21 (some 110) b X rfl (vld 2 6 0) λa b=>atk 26 (some 115) b X rfl (vld 2 14 0) λa b=>ago 22 b rfl (bd D λcr b1 D=>wcS 2 (rg 6) b d (λd=>uS N aJ a8 a9 ad (d.sbK (rg 4)) b1) ?_)
 rintro _ κ w a ⟨rfl,h2⟩ b hB
 have d:=hB _ _ h2
 refine ⟨λ_=>(d.sx [0,1,2,4,5] (rg 9)),?_⟩
 refine anp [27,28] [0,117] b (d.sx [0,1,2,4,5] (rg 9)) λa b=>kM ?_
 obtain ⟨b2,d⟩:=d.foldI (ck:=jR) (fs:=jP) ad (a8,a9) aJ [0,1] (ra 2 4) (rg 4) dc kr kr
 cases D
 exact ⟨_,b2,b.kp [0,117],d.sp [1,2,0,3,4] (ra 4 5),trivial⟩
 have b:=b.bv 106 hb
 refine anp (ra 18 11) [0,117] b X λa b=>kM ?_
 obtain ⟨b3,d⟩:=d.foldI (ck:=jR) (fs:=jP) ad (a8,a9) aJ [0,1] (ra 2 4) (rg 4) dc kr kr
 cases D
 exact ⟨_,b3,b.kp [0,117],d.sp [1,2,0,3,4] (ra 4 5),trivial⟩
 have b:=b.bv 99 hb
 refine anp (ra 11 18) [0,117] b X λa b=>kM ?_
 obtain ⟨b4,d⟩:=d.foldI (ck:=jR) (fs:=jP) ad (a8,a9) aJ [0,1] (ra 2 4) (rg 4) dc kr kr
 cases D
 exact ⟨_,b4,b.kp [0,117],d.sp [1,2,0,3,4] (ra 4 5),trivial⟩
 have b:=b.bv 93 hb
 refine anp (ra 5 24) [0,117] b X λa b=>kM ?_
 obtain ⟨b5,d⟩:=d.foldI (ck:=jR) (fs:=jP) ad (a8,a9) aJ [0,1] (ra 2 4) (rg 4) dc kr kr
 cases D
 exact ⟨_,b5,b.kp [0,117],d.sp [1,2,0,3,4] (ra 4 5),trivial⟩
 rintro a w ⟨κ,aX,b,d,-⟩
 refine ce _ _ (bc b H (λhb H=>?_) λhb H=>?_)
 refine qr λ_ ch=>wp 3 [0,120] b λa b=>wc (wst b d 0 17 1 [sb true] (sgN 1 jE) λa w b d=>ch _ _ (rl (wp 4 [121,124] b λa b=>wc (wld b d 0 3 0 λa b=>wp 2 [121,127] b λa b=>?_))))
 have d:=d.add (m:=Ro.mp jF.ty none 0 ([]:List jC)) (Ro.nil jF.ty _ _)
 have d:=d.add (m:=Ro.mp (fInt .u64).ty none 0 ([]:List Int)) (Ro.nil (fInt .u64).ty _ _)
 refine bd H λci b6 H=>?_
 have bt:=d.segs 0 rfl
 refine wc (wcS 2 (rg 5) b d (λd=>oE N aq 0 (jK.mk 24 (u64.wrap Q) 0 0 empty empty ([]:List jC) ([]:List Int) (jT.mk 0 0 0 0 0 empty)) (flat [si R,(1,L),si S,si Q,(7,O),sb T,k34 ad,(3,p),k3l aa,ei 4 ao,(7,q),sm j,(5,s),sl l g.length o,su z,sb A,sb aI,sb true]) ar au u none 0 none 0 f ((d.regr 0 [(true,18),(false,2)] rfl).sbK [6,1,0]) b6) ?_)
 rintro _ κ w a ⟨bH,bI,rfl,h2⟩ b hB
 have d:=(hB _ _ h2).unregrK 0 [(true,18),(false,2)] (s':=[si R,(1,L),si S,si Q,(7,O),sb T,k34 ad,(3,p),k3l aa,ei 4 ao,(7,q),sm j,(5,s),sl l g.length o,su z,sb A,sb aI,sb true,sl bH ci.length bI,(1,u)]) bt rfl
 refine nl ?_
 cases H
 exact j7 b d (mI Tryz.results79) ⟨(some ad),aX,aa,ay,bH,bI,rfl,d.sp (rg 5) [3,4,0]⟩
 refine sk ?_
 cases H
 exact j7 b d (mI Tryz.results79) ⟨(some ad),aX,aa,ay,ar,au,rfl,d.sp (rg 5) [0,1,4]⟩
theorem u6 (N){k}{l}{i}(c)(h)(f)(g)(A:SB k l i [.ext (ownX jN 4 f g c)] []){r}(H:M.nK N c h=some r) :
    Calls Tryz.prog 113 #[.slice f c.length g,vb h] i (kQ k l i λv κ w=>v=vi r∧SS k l i κ w [.ext (ownX jN 4 f g c)] []):=by
 have e:=A.hS
 have E:=e.fresh
 refine en Tryz.func113 rfl Tryz.ntmps113 λa b=>?_
 unfold M.nK at H
 refine qr λ_ B=>(wp 1 [0,1] b λa b=>(B _ _ (qs λ_ C=>qr λ_ D=>(wp 3 [0,1,7,8] b λa b=>(D _ _ (bk (jX (n:=N) (λn a w => ∃κ d,Fr (19) [] [(0,.slice f c.length g),(1,vb h),(7,vi (c.length:Int)),(8,vi d)] a∧SS k l i κ w [.ext (ownX jN 4 f g c)] []∧M.kW N n c h d=some r) ?_ ?_)))))))
 exact ⟨_,0,b.kp [0,1,7,8],e.sp [0] [],H⟩
 rintro n a w ⟨κ,d,b,e,H⟩
 rcases n with _|m
 simp [M.kW] at H
 simp only [M.kW] at H
 refine qr λ_ p=>wp 1 [0,1,7,8,9] b λa b=>p _ _ (qs λ_ q=>bc b H (λhb H=>?_) λhb H=>?_)
 refine sk (q _ _ (qs λ_ s=>bk (qr λ_ t=>(wp 2 [0,1,5,7,8] b λa b=>(t _ _ (qr λ_ u=>(jG (L':=[(0,.slice f c.length g),(1,vb h),(5,vi d),(7,vi (c.length:Int)),(8,vi d),(11,vb h),(12,.slice f c.length g),(13,vi d)]) 3 [0,1,5,7,8,11,12,13] b kr λa b=>bd H λx j H=>wc (uA b e kr 0 (sz:=1) rfl rfl rfl rfl rfl j kr kr λF G a o b=>wc (z7 b e kr 0 (v:=vb x) rfl rfl o rfl j rfl kr kr λa b=>wp 1 [0,1,5,7,8,16] b λa b=>u _ _ (bc b H (λhb H=>?_) λhb H=>?_))))))))))
 refine qr λ_ y=>wp 2 [4] b λa b=>y _ _ (rt ?_)
 cases H
 exact j7 b e (l3 Tryz.results113 (rvt b)) ⟨rfl,e.sp [0] []⟩
 refine sk (s _ _ (rl (wp 2 [0,1,7,8] b λa b=>nl ?_)))
 exact ⟨m,Nat.lt_succ_self _,_,i64.wrap (d+1),b.kp [0,1,7,8],e.sp [0] [],H⟩
 refine xt (C _ _ (qr λ_ z=>wp 1 [4] b λa b=>z _ _ (rt ?_)))
 cases H
 exact j7 b e (l3 Tryz.results113 (rvt b)) ⟨rfl,e.sp [0] []⟩
theorem tI (N){h}{i}{e}(d)(j)(f)(g)(k:SB h i e [.ext (ownX jN 4 f g d)] []){r}(H:M.mK N d j=some r) :
    Calls Tryz.prog 80 #[.slice f d.length g,vb j] e (kQ h i e λv κ w=>v=vb r∧SS h i e κ w [.ext (ownX jN 4 f g d)] []):=by
 have c:=k.hS
 have p:=c.fresh
 refine en Tryz.func80 rfl Tryz.ntmps80 λa b=>?_
 unfold M.mK at H
 refine qr λ_ m=>wp 1 [0,1] b λa b=>m _ _ (qr λ_ n=>wp 2 [5,6] b λa b=>bd H λq l H=>wc (wcS 1 [0] b c (λc=>u6 N d j f g (c.sbK []) l) ?_))
 rintro _ κ w a ⟨rfl,o⟩ b k
 have c:=k _ _ o
 refine wp 2 [4] b λa b=>n _ _ (rt ?_)
 cases H
 exact j7 b c (l3 Tryz.results80 (rvt b)) ⟨rfl,c.sp [0] []⟩
theorem AB (N){Ms}{κ0}{w0}(a1)(a3)(a6)(a9)(s)(Z)(u:(List j3))(aa)(ab)(p4)(av)(p7)(bw)(aQ)(aT)(G)(I)(o)(y)(z)(A)(B)(p)(C)(D)(J)(j)(hB:SB Ms κ0 w0 [.box j 87 [si a1,(11,ab),sp p4,sp p7,sp aQ,(9,G),ei 4 s,(1,I),sm o,sl A u.length B,sm p,(12,J)],k2c p4 av a3,k3f p7 bw a6,k3g aQ aT a9,mx o y z,mx p C D] [(ml s 4),k3i o y z Z,k3j A B u,k3k p C D aa]){r}(H:M.sU N a1 a3 a6 a9 s Z u aa=some r) :
    Calls Tryz.prog 82 #[pt j 0] w0 (kQ Ms κ0 w0 λv κ w => ∃aA aF aB aG aD aH,v=vb r.1∧SS Ms κ0 w0 κ w [.box j 87 [si a1,(11,ab),sp aA,sp aB,sp aD,(9,G),ei 4 s,(1,I),sm o,sl A u.length B,sm p,(12,J)],k2c aA aF r.2.1,k3f aB aG r.2.2.1,k3g aD aH r.2.2.2,mx o y z,mx p C D] []):=by
 have d:=hB.hS
 have bG:=d.fresh
 refine en Tryz.func82 rfl Tryz.ntmps82 λa b=>?_
 unfold M.sU at H
 refine qr λ_ bx=>(jG (L':=[k2g j]) 1 [0] b kr λa b=>bx _ _ (qs λ_ bz=>qs λ_ bA=>bd H λx ho H=>?_))
 obtain ⟨l,L,d⟩:=d.optS 3 rfl ho
 rw [L] at d
 try rw [L] at b
 obtain ⟨⟨O,V,W,X,aU⟩,d⟩:=d.unfI (ck:=kZ) (fs:=kY) 3 rfl
 refine bd H λk ho H=>?_
 obtain ⟨g,L,d⟩:=d.optS 5 rfl ho
 rw [L] at d
 try rw [L] at b
 obtain ⟨⟨P,Q,R,S⟩,d⟩:=d.unfI (ck:=kV) (fs:=kT) 5 rfl
 refine rl (bd H λbB e H=>kA (λa w => ∃κ ae F,Fr (76) [] [k2g j,(42,vb bB)] a∧SS Ms κ0 w0 κ w [.box j 87 [si a1,(11,ab),sp p4,k34 g,k34 l,(9,G),ei 4 s,(1,I),sm o,sl A u.length B,sm p,(12,J)],k2c p4 av a3,k3m g ae k,k3n l F x,mx o y z,mx p C D] [(ml s 4),k3i o y z Z,k3j A B u,k3k p C D aa]∧True) ?_ ?_)
 refine wp 3 [0,7] b λa b=>wc (wld b d 6 4 0 λa b=>bd e λbH aV e=>wc (wcS 3 [3,4,5,0,1,2,6,7,8,9] b d (λd=>zT N x O V W X aU l (d.sbK [2]) aV) ?_))
 rintro _ κ w a ⟨K,rfl,h2⟩ b hB
 have d:=hB _ _ h2
 refine wp 2 [0,11] b λa b=>bs e (λhb e=>?_) λhb e=>?_
 have b:=b.bv 11 hb
 refine wp 31 [0,42] b λa b=>?_
 obtain ⟨aW,d⟩:=d.foldI (ck:=kV) (fs:=kT) g (P,Q,R,S) k [3,4,5] [0,1,2,6,7,8,9] [0,1] dc kr kr
 obtain ⟨aX,d⟩:=d.foldI (ck:=kZ) (fs:=kY) l (O,V,W,X,K) x [1,2,3] [0,4,5,6,7] [2] dc kr kr
 refine nl ?_
 cases e
 exact ⟨_,aW,aX,b.kp [0,42],d.sp [2,3,1,0,4,5] (ra 3 4),trivial⟩
 have b:=b.bv 11 hb
 refine jG (L':=[k2g j,(11,vb false),(14,pt j 29)]) 3 [0,11,14] b kr λa b=>wcg b (wld b d 6 8 0 λa b=>wcg b (vA (KT:=32) (E:=95) (kt:=(kInt .u64)) (agg:=true) (t:=kX) b d kr 8 4 rfl kr rfl rfl kr λa b=>wp 3 [0,19] b λa b=>bs e (λhb e=>?_) λhb e=>?_))
 have b:=b.bv 19 hb
 refine wp 23 [0,42] b λa b=>?_
 obtain ⟨aY,d⟩:=d.foldI (ck:=kV) (fs:=kT) g (P,Q,R,S) k [3,4,5] [0,1,2,6,7,8,9] [0,1] dc kr kr
 obtain ⟨aZ,d⟩:=d.foldI (ck:=kZ) (fs:=kY) l (O,V,W,X,K) x [1,2,3] [0,4,5,6,7] [2] dc kr kr
 refine nl ?_
 cases e
 exact ⟨_,aY,aZ,b.kp [0,42],d.sp [2,3,1,0,4,5] (ra 3 4),trivial⟩
 have b:=b.bv 19 hb
 refine wp 3 [0,19,22] b λa b=>wcg b (wld b d 6 9 0 λa b=>wp 4 [0,27] b λa b=>bs e (λhb e=>?_) λhb e=>?_)
 have b:=b.bv 27 hb
 refine wp 15 [0,42] b λa b=>?_
 obtain ⟨a0,d⟩:=d.foldI (ck:=kV) (fs:=kT) g (P,Q,R,S) k [3,4,5] [0,1,2,6,7,8,9] [0,1] dc kr kr
 obtain ⟨a2,d⟩:=d.foldI (ck:=kZ) (fs:=kY) l (O,V,W,X,K) x [1,2,3] [0,4,5,6,7] [2] dc kr kr
 refine nl ?_
 cases e
 exact ⟨_,a0,a2,b.kp [0,42],d.sp [2,3,1,0,4,5] (ra 3 4),trivial⟩
 have b:=b.bv 27 hb
 refine jG (L':=[k2g j,(27,vb false),(30,pt j 31)]) 3 [0,27,30] b kr λa b=>wcg b (wld b d 6 10 0 λa b=>wcg b (vA (KT:=32) (E:=138) (kt:=(kInt .u64)) (agg:=true) (t:=mD) b d kr 9 6 rfl kr rfl rfl kr λa b=>wp 3 [0,35] b λa b=>bs e (λhb e=>?_) λhb e=>?_))
 have b:=b.bv 35 hb
 refine wp 7 [0,42] b λa b=>?_
 obtain ⟨a4,d⟩:=d.foldI (ck:=kV) (fs:=kT) g (P,Q,R,S) k [3,4,5] [0,1,2,6,7,8,9] [0,1] dc kr kr
 obtain ⟨a5,d⟩:=d.foldI (ck:=kZ) (fs:=kY) l (O,V,W,X,K) x [1,2,3] [0,4,5,6,7] [2] dc kr kr
 refine nl ?_
 cases e
 exact ⟨_,a4,a5,b.kp [0,42],d.sp [2,3,1,0,4,5] (ra 3 4),trivial⟩
 have b:=b.bv 35 hb
 refine wp 3 [0,35,38] b λa b=>wcg b (wld b d 6 3 0 λa b=>bd e λbI a7 e=>wcg b (wcS 1 [3,0,1,2,4,5,6,7,8,9] b d (λd=>yD N k P Q R S g (d.sbK [0,1]) a7) ?_))
 rintro _ κ w a ⟨rfl,h2⟩ b hB
 have d:=(hB _ _ h2).cC (C':=[k2z g P (k.list).length Q R (k.waiting).length S k.bound,k39 l O,mx O V W,.ext (mpX jW X K x.open_ none),k30 P (k.list).length Q,k30 R (k.waiting).length S,.box j 87 [si a1,(11,ab),sp p4,k34 g,k34 l,(9,G),ei 4 s,(1,I),sm o,sl A u.length B,sm p,(12,J)],k2c p4 av a3,mx o y z,mx p C D])
 refine wp 2 [0,42] b λa b=>?_
 obtain ⟨a8,d⟩:=d.foldI (ck:=kV) (fs:=kT) g (P,Q,R,S) k [0,4,5] [1,2,3,6,7,8,9] [0,1] dc kr kr
 obtain ⟨ba,d⟩:=d.foldI (ck:=kZ) (fs:=kY) l (O,V,W,X,K) x [1,2,3] [0,4,5,6,7] [2] dc kr kr
 refine nl ?_
 cases e
 exact ⟨_,a8,ba,b.kp [0,42],d.sp [2,3,1,0,4,5] (ra 3 4),trivial⟩
 rintro a w ⟨κ,ae,F,b,d,-⟩
 refine bA _ _ (bc b H (λhb H=>?_) λhb H=>?_)
 refine qr λ_ bC=>wp 1 [2] b λa b=>bC _ _ (rt ?_)
 cases H
 exact j7 b d (l3 Tryz.results82 (rvt b)) ⟨p4,av,(some g),ae,(some l),F,rfl,d.sp (rg 6) []⟩
 refine sk (bz _ _ (qs λ_ bD=>qs λ_ bE=>bd H λan ho H=>?_))
 obtain ⟨T,L,d⟩:=d.optS 1 rfl ho
 rw [L] at d
 try rw [L] at b
 obtain ⟨⟨aR,aS⟩,d⟩:=d.unfI (ck:=jR) (fs:=jP) 1 rfl
 refine rl (wp 3 [0,45] b λa b=>wc (wld b d 2 2 0 λa b=>bd H λY be H=>wc (wcS 2 (rg 7) b d (λd=>pE N an aR aS T (d.sbK (rg 4)) be) ?_)))
 rintro _ κ w a ⟨rfl,h2⟩ b hB
 have d:=hB _ _ h2
 refine wp 1 [0,47,48] b λa b=>nl ?_
 obtain ⟨af,d⟩:=d.foldI (ck:=jR) (fs:=jP) T (aR,aS) an [0,1] (ra 2 5) (ra 1 4) dc kr kr
 refine bE _ _ (bk (jX (n:=N) (λn a w => ∃κ ah q,Fr (76) [] [k2g j,(47,.agg (flat [eb 4 Y]).toArray),(48,vi q)] a∧SS Ms κ0 w0 κ w [.box j 87 [si a1,(11,ab),k34 T,k34 g,k34 l,(9,G),ei 4 s,(1,I),sm o,sl A u.length B,sm p,(12,J)],k3s T af an,k3m g ah k,k3n l F x,mx o y z,mx p C D] [(ml s 4),k3i o y z Z,k3j A B u,k3k p C D aa,(ml Y 4)]∧M.oJ N n a1 s Z u aa x k an Y q=some r) ?_ ?_))
 exact ⟨_,ae,0,b.kp [0,47,48],d.sp [1,0,2,3,4,5] [5,6,7,8,0],H⟩
 rintro n a w ⟨κ,ah,q,b,d,H⟩
 rcases n with _|aI
 simp [M.oJ] at H
 simp only [M.oJ] at H
 refine qr λ_ bf=>wp 1 [0,47,48,49] b λa b=>bf _ _ (qs λ_ bg=>bc b H (λhb H=>?_) λhb H=>?_)
 refine sk (bg _ _ (qs λ_ bh=>bk (qr λ_ bi=>(jG (L':=[k2g j,(47,.agg (flat [eb 4 Y]).toArray),(48,vi q),(50,vi q)]) 1 [0,47,48,50] b kr λa b=>bd H λbj aJ H=>wc (kR b kr (v:=vb bj) (pA (t:=jN) (E:=4) (n:=4) (m:=4) rfl kr rfl aJ (d.get 4 rfl) rfl rfl kr kr kr _) λa b=>wp 2 [0,3,4,47,48] b λa b=>bi _ _ (qs λ_ bl=>?_))))))
 obtain ⟨⟨ai,aj,ak,al⟩,d⟩:=d.unfI (ck:=kV) (fs:=kT) 2 rfl
 refine bd H λbm f H=>kJ (λa w => ∃κ U,Fr (76) [] [k2g j,(47,.agg (flat [eb 4 Y]).toArray),(48,vi q),(74,vb bm)] a∧SS Ms κ0 w0 κ w [.box j 87 [si a1,(11,ab),k34 T,k34 g,k34 l,(9,G),ei 4 s,(1,I),sm o,sl A u.length B,sm p,(12,J)],k3s T af an,k3m g U k,k3n l F x,mx o y z,mx p C D] [(ml s 4),k3i o y z Z,k3j A B u,k3k p C D aa,(ml Y 4)]∧True) ?_ ?_
 refine rgS d [] ?_
 have d:=d.drew
 have hX:=d.fx
 refine anp [0,1] [0,3,47,48,53] b hX λa b=>bs f (λhb f=>?_) λhb f=>?_
 have b:=b.bv 53 hb
 refine anp (ra 2 4) [0,3,47,48,53,54,57] b hX λa b=>atk 6 (some 58) b hX rfl (vld 1 0 0) λa b=>anp [7,8,9] [0,3,47,48,61] b hX λa b=>bs f (λhb f=>?_) λhb f=>?_
 have b:=b.bv 61 hb
 refine jO [10,11,12,13,16,17,18] [0,47,48,61,63,65,70] (L':=[k2g j,(47,.agg (flat [eb 4 Y]).toArray),(48,vi q),(61,vb true),(63,vi q),(65,pt j 24),(70,pt j 13)]) (listed':=(mU 23 475135)) (fuel:=6) b hX kr (by intro c a w t v h; cases t<;>exact h) kr rfl λa b=>bd f λbn ax f=>atk 14 (some 66) b (d.sx [0,3,4,5,6,7] (rg 7)) rfl (λw _=>lU (E:=3) (sz:=1) (n:=4) rfl rfl (i:=q) rfl (m1 ax (d.get 2 rfl)) kr kr w) λa b=>atk 15 (some 67) b (d.sx [0,3,4,5,6,7] (rg 7)) rfl (rV (t:=(fInt .i64)) 1 6 (v:=vi bn) rfl rfl rfl rfl ax rfl rfl kr kr) λa b=>?_
 refine atk 19 (some 71) b (d.sx [0,3,4,5,6,7] (rg 7)) rfl (vld 1 3 0) λa b=>ago 20 b rfl (bd f λbF aL f=>wcS 1 (rg 8) b d (λd=>tN N k ai aj ak al g (d.sbK [0,1]) aL) ?_)
 rintro _ κ w a ⟨rfl,h2⟩ b hB
 have d:=hB _ _ h2
 refine ⟨λ_=>(d.sx [0,3,4,5,6,7] (rg 7)),?_⟩
 refine anp [21,22] [0,47,48,74] b (d.sx [0,3,4,5,6,7] (rg 7)) λa b=>kM ?_
 obtain ⟨aM,d⟩:=d.foldI (ck:=kV) (fs:=kT) g (ai,aj,ak,al) k [0,1,2] (ra 3 5) [0,1] dc kr kr
 cases f
 exact ⟨_,aM,b.kp [0,47,48,74],d.sp [1,2,0,3,4,5] (ra 2 5),trivial⟩
 have b:=b.bv 61 hb
 refine anp (ra 10 13) [0,47,48,74] b hX λa b=>kM ?_
 obtain ⟨aO,d⟩:=d.foldI (ck:=kV) (fs:=kT) g (ai,aj,ak,al) k [0,1,2] (ra 3 5) [0,1] dc kr kr
 cases f
 exact ⟨_,aO,b.kp [0,47,48,74],d.sp [1,2,0,3,4,5] (ra 2 5),trivial⟩
 have b:=b.bv 53 hb
 refine anp (ra 2 21) [0,47,48,74] b hX λa b=>kM ?_
 obtain ⟨aP,d⟩:=d.foldI (ck:=kV) (fs:=kT) g (ai,aj,ak,al) k [0,1,2] (ra 3 5) [0,1] dc kr kr
 cases f
 exact ⟨_,aP,b.kp [0,47,48,74],d.sp [1,2,0,3,4,5] (ra 2 5),trivial⟩
 rintro a w ⟨κ,U,b,d,-⟩
 refine bl _ _ (bc b H (λhb H=>?_) λhb H=>?_)
 refine qr λ_ bo=>wp 1 [2] b λa b=>bo _ _ (rt ?_)
 cases H
 exact j7 b d (l3 Tryz.results82 (rvt b)) ⟨(some T),af,(some g),U,(some l),F,rfl,d.sp (rg 6) []⟩
 refine sk (bh _ _ (rl (wp 2 [0,47,48] b λa b=>nl ?_)))
 exact ⟨aI,Nat.lt_succ_self _,_,U,i64.wrap (q+1),b.kp [0,47,48],d.sp (rg 6) (rg 5),H⟩
 refine xt (bD _ _ (qr λ_ bq=>wp 1 [2] b λa b=>bq _ _ (rt ?_)))
 cases H
 exact j7 b d (l3 Tryz.results82 (rvt b)) ⟨(some T),af,(some g),ah,(some l),F,rfl,d.sp (rg 6) []⟩
theorem uK (N){Ms}{κ0}{w0}(V)(W)(S)(d:jA)(e:(List Bool))(X)(bX)(bY)(bN)(bm)(bZ)(bO)(j)(ax)(k:(List j3))(b0)(bn)(b1)(l:(List Int))(B)(C)(ay)(az)(bP:(List i9))(F)(G)(L)(O)(P)(t)(n)(f)(g)(o)(co)(bR)(cp)(bS)(aJ)(bw)(be)(bT)(p)(h)(Q)(R)(u)(x)(bo)(b2)(b3)(bQ)(bU)(q)(y)(z)(b4)(b5)(s)(D)(hB:SB Ms κ0 w0 (k1s D V F W S G L (d.Cuts).length O P (d.Nodes).length t n f e.length g o X co cp aJ bm be bO j p h u k.length x bo bn bQ q y l.length z B C ay az b4 bP.length b5 s (ownX jN 4 f g e) bR bX bS bY bw bN (arrX j6 be bT bZ) Q R b2 b3 bU b1) (k1t L O d.Cuts P t d.Nodes (ml be 4) (ml bO 4) (ml j 4) h Q R ax u x k bo b2 b3 b0 y z l b4 b5 bP)){r}(H:M.pC N V W S d e X bX bY bN bm bZ bO j ax k b0 bn b1 l B C ay az bP=some r) :
    Calls Tryz.prog 34 #[pt D 0] w0 (kQ Ms κ0 w0 λv κ w => ∃c0 cH c1 cI c2 cJ bV cK cq cr cs c3 cL cu cv,v = .tuple #[]∧SS Ms κ0 w0 κ w (k1s D V F W S G L (d.Cuts).length O P (d.Nodes).length t n f e.length g o r.1 c0 c1 c2 r.u4.1 bV r.u4.2.2.1 j p h u k.length x cq r.u8.1 c3 q y l.length z B C r.u8.2.2.1 r.u8.2.2.2.1 cu (r.u8.u4).length cv s (ownX jN 4 f g e) cH r.2.1 cI r.2.2.1 cJ r.2.2.2.1 (arrX j6 bV cK r.u4.2.1) Q R cr cs cL r.u8.2.1) [(ml bV 4),(ml r.u4.2.2.1 4),k3k cq cr cs r.u4.2.2.2.1,k2t cu cv r.u8.u4]):=by
 have c:=hB.hS
 have dl:=c.fresh
 refine en Tryz.func34 rfl Tryz.ntmps34 λa b=>?_
 unfold M.pC at H
 refine m9 (λa w => ∃κ a2 aT bf ad ak aE ae al aF af A ao aG K I Z aa aH ah cZ bx cw ai am,∃an:List i9,∃ar au,Fr (84) [] [k2g D] a∧SS Ms κ0 w0 κ w (k1s D V F W S G L (d.Cuts).length O P (d.Nodes).length t n f e.length g o X a2 ad ae af A K j p h u k.length x I ah cZ q y l.length z B C ai am ar an.length au s (ownX jN 4 f g e) aT bf ak aE al aF (arrX j6 A ao aG) Q R Z aa bx cw) (k1t L O d.Cuts P t d.Nodes (ml A 4) (ml K 4) (ml j 4) h Q R ax u x k I Z aa aH y z l ar au an)∧M.pH N V W S d e X j ax k l B C bf aE aF af aG K aH ah cw ai am an=some r) ?_ ?_
 refine qr λ_ c4=>wp 3 [0,4] b λa b=>wc (wld b c 0 2 0 λa b=>wp 1 [0,6] b λa b=>c4 _ _ (bc b H (λhb H=>?_) λhb H=>?_))
 refine qr λ_ c5=>wp 1 [0,7] b λa b=>bd H λU cM H=>?_
 have cg:=c.segs 0 rfl
 refine wc (wcS 4 [0,1,3,4,2,5,6,7,8,9] b c (λc=>A9 N bX bY bO bP (flat [si V,(1,F),si W,si S,(2,G),sl L (d.Cuts).length O,sl P (d.Nodes).length t,(1,n),sl f e.length g,(1,o),sb X]) co bR cp bS (flat [sp aJ,su bm,k3l be]) (flat [ei 4 j,(1,p),sm h,sl u k.length x,sm bo,su bn,sp bQ,(3,q),sl y l.length z,su B,sb C,sb ay,sb az]) b4 b5 s D ((c.regr 0 [(true,11),(false,2),(true,3),(false,1),(true,13),(false,2)] rfl).sbK [3,9]) cM) ?_)
 rintro _ κ w a ⟨aA,b6,ab,bz,cx,cy,rfl,h2⟩ b hB
 have c:=(hB _ _ h2).unregrK 0 [(true,11),(false,2),(true,3),(false,1),(true,13),(false,2)] (s':=k1u V F W S G L (d.Cuts).length O P (d.Nodes).length t n f e.length g o X aA ab aJ bm be U.2.2.1 j p h u k.length x bo bn bQ q y l.length z B C ay az cx (U.2.2.2).length cy s) cg rfl
 refine c5 _ _ (qr λ_ c6=>wp 1 [0,9] b λa b=>bd H λi cN H=>?_)
 have ch:=c.segs 0 rfl
 refine wc (wcS 5 [0,1,6,8,9,2,3,4,5,7] b c (λc=>AA N V d bm bZ b0 bn b1 U.2.2.2 (flat [(1,F),si W,si S,(2,G)]) L O P t (flat [(1,n),sl f e.length g,(1,o),sb X,sp aA,sp ab,sp aJ]) be bT (flat [ei 4 U.2.2.1,ei 4 j,(1,p),sm h,sl u k.length x]) bo b2 b3 bQ bU (flat [(3,q),sl y l.length z,su B,sb C,sb ay,sb az]) cx cy s D ((c.regr 0 [(false,1),(true,4),(false,2),(true,7),(false,2),(true,5),(false,3),(true,6),(false,2)] rfl).sbK [2,3,4,9,1]) cN) ?_)
 rintro _ κ w a ⟨aU,b7,aq,bg,bh,bA,b8,bB,bC,rfl,h2⟩ b hB
 have c:=((hB _ _ h2).unregrK 0 [(false,1),(true,4),(false,2),(true,7),(false,2),(true,5),(false,3),(true,6),(false,2)] (s':=k1u V F W S G L (d.Cuts).length O P (d.Nodes).length t n f e.length g o X aA ab aJ i.1 aU U.2.2.1 j p h u k.length x aq i.2.2.2.1 bA q y l.length z B C ay az bB (i.u4.2).length bC s) ch rfl).cC (C':=[.box D 87 (k1u V F W S G L (d.Cuts).length O P (d.Nodes).length t n f e.length g o X aA ab aJ i.1 aU U.2.2.1 j p h u k.length x aq i.2.2.2.1 bA q y l.length z B C ay az bB (i.u4.2).length bC s),k2s bB (i.u4.2).length bC,.ext (arrX j6 aU b7 i.2.1),mx aq bg bh,k2y bA b8 i.u4.1,k2c aA b6 U.1,k3f ab bz U.2.1,.ext (ownX jN 4 f g e),k3g aJ bw bN,mx h Q R])
 refine c6 _ _ (qr λ_ c7=>wp 1 [0,11] b λa b=>bd H λaV cO H=>?_)
 have ci:=c.segs 0 rfl
 refine wc (wcS 6 [0,1,8,9,3,4,2,5,6,7] b c (λc=>zQ N V bN ax i.2.2.1 i.u4.1 i.u4.2 (flat [(1,F),si W,si S,(2,G),sl L (d.Cuts).length O,sl P (d.Nodes).length t,(1,n),sl f e.length g,(1,o),sb X,sp aA,sp ab]) aJ bw (flat [su i.1,k3l aU,ei 4 U.2.2.1,ei 4 j,(1,p)]) h Q R [.slice u k.length x] aq bg bh [vu i.2.2.2.1] bA b8 (flat [(3,q),sl y l.length z,su B,sb C,sb ay,sb az]) bB bC s D ((c.regr 0 [(false,1),(true,12),(false,1),(true,5),(false,5),(true,6),(false,2)] rfl).sbK [10,1,2]) cO) ?_)
 rintro _ κ w a ⟨aW,b9,aX,ca,cz,cA,rfl,h2⟩ b hB
 have c:=(hB _ _ h2).unregrK 0 [(false,1),(true,12),(false,1),(true,5),(false,5),(true,6),(false,2)] (s':=k1u V F W S G L (d.Cuts).length O P (d.Nodes).length t n f e.length g o X aA ab aW i.1 aU U.2.2.1 j p h u k.length x aq i.2.2.2.1 aX q y l.length z B C ay az cz (aV.2.2).length cA s) ci rfl
 refine c7 _ _ (rl (wp 1 [0,13] b λa b=>bd H λJ cP H=>?_))
 have cj:=c.segs 0 rfl
 refine wc (wcS 5 [0,1,7,6,4,2,3,5,8,9] b c (λc=>yZ N V W S X U.1 i.2.1 U.2.2.1 i.2.2.1 l B C ay az aV.2.2 F (flat [(2,G),sl L (d.Cuts).length O,sl P (d.Nodes).length t,(1,n),sl f e.length g,(1,o)]) aA b6 (flat [sp ab,sp aW,su i.1]) aU b7 (flat [ei 4 j,(1,p),sm h,sl u k.length x]) aq bg bh (flat [su i.2.2.2.1,sp aX,(3,q)]) y z cz cA s D ((c.regr 0 [(false,4),(true,6),(false,2),(true,3),(false,2),(true,4),(false,1),(true,3),(false,7)] rfl).sbK [1,4,2,14,0]) cP) ?_)
 rintro _ κ w a ⟨bD,cb,bE,cc,bF,bG,rfl,h2⟩ b hB
 have c:=((hB _ _ h2).unregrK 0 [(false,4),(true,6),(false,2),(true,3),(false,2),(true,4),(false,1),(true,3),(false,7)] (s':=k1u V F W S G L (d.Cuts).length O P (d.Nodes).length t n f e.length g o X bD ab aW i.1 bE J.2.2.1 j p h u k.length x aq i.2.2.2.1 aX q y l.length z B C J.2.2.2.1 J.u4.1 bF (J.u4.2).length bG s) cj rfl).cC (C':=[.box D 87 (k1u V F W S G L (d.Cuts).length O P (d.Nodes).length t n f e.length g o X bD ab aW i.1 bE J.2.2.1 j p h u k.length x aq i.2.2.2.1 aX q y l.length z B C J.2.2.2.1 J.u4.1 bF (J.u4.2).length bG s),k2s bF (J.u4.2).length bG,k2c bD cb J.1,.ext (arrX j6 bE cc J.2.1),mx aq bg bh,k3g aW b9 aV.1,mx h Q R,k2y aX ca aV.2.1,k3f ab bz U.2.1,.ext (ownX jN 4 f g e)])
 refine nl ?_
 exact ⟨_,bD,cb,J.1,ab,bz,U.2.1,aW,b9,aV.1,i.1,bE,cc,J.2.1,J.2.2.1,aq,bg,bh,i.2.2.1,i.2.2.2.1,aX,ca,aV.2.1,J.2.2.2.1,J.u4.1,J.u4.2,bF,bG,b.kp [0],c.sp [0,1,9,2,8,5,3,6,4,7] [9,10,0,1,13,14,15,5,17,2],H⟩
 refine sk ?_
 exact ⟨_,co,bR,bX,cp,bS,bY,aJ,bw,bN,bm,be,bT,bZ,bO,bo,b2,b3,b0,bn,bQ,bU,b1,ay,az,bP,b4,b5,b.kp [0],c.sp (rg 10) (rg 10),H⟩
 rintro a w ⟨κ,a2,aT,bf,ad,ak,aE,ae,al,aF,af,A,ao,aG,K,I,Z,aa,aH,ah,cZ,bx,cw,ai,am,an,ar,au,b,c,H⟩
 unfold M.pH at H
 refine m9 (λa w => ∃κ a5 bq aY cd aL bi ce,∃aM:List i9,∃aO aP,Fr (84) [] [k2g D] a∧SS Ms κ0 w0 κ w (k1s D V F W S G L (d.Cuts).length O P (d.Nodes).length t n f e.length g o a5 bq ad ae af A K j p h u k.length x I ah aL q y l.length z B C ai am aO aM.length aP s (ownX jN 4 f g e) aY cd ak aE al aF (arrX j6 A ao aG) Q R Z aa bi ce) (k1t L O d.Cuts P t d.Nodes (ml A 4) (ml K 4) (ml j 4) h Q R ax u x k I Z aa aH y z l aO aP aM)∧M.pG N V W S d e j ax k l B C aE aF af aG K aH ah ai am a5 cd ce aM=some r) ?_ ?_
 refine qs λ_ c9=>bd H λbj aj H=>kJ (λa w => ∃κ aD aQ,Fr (84) [] [k2g D,(33,vb bj.2)] a∧SS Ms κ0 w0 κ w (k1s D V F W S G L (d.Cuts).length O P (d.Nodes).length t n f e.length g o X a2 ad ae af A K j p h u k.length x I ah aD q y l.length z B C ai am ar an.length au s (ownX jN 4 f g e) aT bf ak aE al aF (arrX j6 A ao aG) Q R Z aa aQ bj.1) (k1t L O d.Cuts P t d.Nodes (ml A 4) (ml K 4) (ml j 4) h Q R ax u x k I Z aa aH y z l ar au an)∧True) ?_ ?_
 refine kU aj (λho aj=>?_) (λda ho aj=>?_)
 obtain ⟨a7,c⟩:=c.optN 9 rfl ho
 rw [a7] at c
 try rw [a7] at b
 refine rl (bd aj λdb aw aj=>kA (λa w => ∃κ:Gh,Fr (84) [] [k2g D,(33,vb db)] a∧SS Ms κ0 w0 κ w [.box D 87 [si V,(1,F),si W,si S,(2,G),sl L (d.Cuts).length O,sl P (d.Nodes).length t,(1,n),sl f e.length g,(1,o),sb X,sp a2,sp ad,sp ae,su af,k3l A,ei 4 K,ei 4 j,(1,p),sm h,sl u k.length x,sm I,su ah,k3o,(3,q),sl y l.length z,su B,sb C,sb ai,sb am,sl ar an.length au,(1,s)],k2s ar an.length au,.ext (ownX jN 4 f g e),k2c a2 aT bf,k3f ad ak aE,k3g ae al aF,.ext (arrX j6 A ao aG),mx h Q R,mx I Z aa] (k1t L O d.Cuts P t d.Nodes (ml A 4) (ml K 4) (ml j 4) h Q R ax u x k I Z aa aH y z l ar au an)∧True) ?_ ?_)
 refine wp 3 [0,17] b λa b=>wc (wld b c 0 10 0 λa b=>wp 1 [0,19] b λa b=>bs aw (λhb aw=>?_) λhb aw=>?_)
 have b:=b.bv 19 hb
 refine wp 3 [0,19,22] b λa b=>wcg b (wld b c 0 23 0 λa b=>wp 6 [0,26,29] b λa b=>wcg b (wld b c 0 8 0 λa b=>bd aw λdi cQ aw=>wcg b (wcS 1 [2,0,1,3,4,5,6,7,8,9] b c (λc=>tI N e false f g (c.sbK []) cQ) ?_)))
 rintro _ κ w a ⟨rfl,h2⟩ b hB
 have c:=hB _ _ h2
 refine wp 2 [0,33] b λa b=>nl ?_
 cases aw
 exact ⟨_,b.kp [0,33],c.sp [1,2,0,3,4,5,6,7,8] (rg 10),trivial⟩
 have b:=b.bv 19 hb
 refine wp 14 [0,33] b λa b=>nl ?_
 cases aw
 exact ⟨_,b.kp [0,33],c.sp (rg 9) (rg 10),trivial⟩
 rintro a w ⟨κ,b,c,-⟩
 cases aj
 have c:=c.addOpt o_gate_move
 exact ⟨_,none,[],b.kp [0,33],c.sp [1,2,3,4,5,6,7,8,9,0] (rg 10),trivial⟩
 obtain ⟨bW,a7,c⟩:=c.optS 9 rfl ho
 rw [a7] at c
 try rw [a7] at b
 refine rl (bd aj λdj aR aj=>kA (λa w => ∃κ:Gh,Fr (84) [] [k2g D,(33,vb false)] a∧SS Ms κ0 w0 κ w [.box D 87 [si V,(1,F),si W,si S,(2,G),sl L (d.Cuts).length O,sl P (d.Nodes).length t,(1,n),sl f e.length g,(1,o),sb X,sp a2,sp ad,sp ae,su af,k3l A,ei 4 K,ei 4 j,(1,p),sm h,sl u k.length x,sm I,su ah,k34 bW,(3,q),sl y l.length z,su B,sb C,sb ai,sb am,sl ar an.length au,(1,s)],k2s ar an.length au,.ext (ownX jN 4 f g e),k2c a2 aT bf,k3f ad ak aE,k3g ae al aF,.ext (arrX j6 A ao aG),mx h Q R,mx I Z aa,k3x bW bx da] (k1t L O d.Cuts P t d.Nodes (ml A 4) (ml K 4) (ml j 4) h Q R ax u x k I Z aa aH y z l ar au an)∧True) ?_ ?_)
 refine wp 3 [0,17] b λa b=>wc (wld b c 0 10 0 λa b=>wp 1 [0,19] b λa b=>bs aR (λhb aR=>?_) λhb aR=>?_)
 have b:=b.bv 19 hb
 refine wp 3 [0,19,22] b λa b=>wcg b (wld b c 0 23 0 λa b=>wp 10 [0,33] b λa b=>nl ?_)
 cases aR
 exact ⟨_,b.kp [0,33],c.sp (rg 10) (rg 10),trivial⟩
 have b:=b.bv 19 hb
 refine wp 14 [0,33] b λa b=>nl ?_
 cases aR
 exact ⟨_,b.kp [0,33],c.sp (rg 10) (rg 10),trivial⟩
 rintro a w ⟨κ,b,c,-⟩
 cases aj
 exact ⟨_,(some bW),bx,b.kp [0,33],c.sp (rg 10) (rg 10),trivial⟩
 rintro a w ⟨κ,aD,aQ,b,c,-⟩
 refine c9 _ _ (bc b H (λhb H=>?_) λhb H=>?_)
 refine qr λ_ dd=>(jG (L':=[k2g D,(36,pt D 11)]) 3 [0,36] b kr λa b=>wc (wst b c 0 10 1 [k2p] (sgN 1 jE) λa w b c=>dd _ _ (bd H λY ho H=>?_)))
 obtain ⟨aI,a7,c⟩:=c.optS 3 rfl ho
 rw [a7] at c
 try rw [a7] at b
 obtain ⟨⟨bH,bI⟩,c⟩:=c.unfI (ck:=jR) (fs:=jP) 3 rfl
 refine rga (λ_=>True) [] ?_
 have c:=c.drew
 refine anp [0,1,2,3,6,7,8] [0,37,40,45] b trivial λa b=>mG c [12] (atk 4 (some 41) b (c.sx [0,1,2,4,5,6,7,8,9,10] (rg 14)) rfl (vld 2 3 0) λa b=>anp [5] [0,37,42,45] b (c.sx [0,1,2,4,5,6,7,8,9,10] (rg 14)) λa b=>atk 9 (some 46) b (c.sx [0,1,2,4,5,6,7,8,9,10] (rg 14)) rfl (vld 2 11 0) λa b=>ago 10 b rfl (bd H λde cR H=>wcS 2 (rg 11) b c (λc=>rE N Y bH bI aI (c.sbK (rg 4)) cR) ?_))
 rintro _ κ w a ⟨rfl,h2⟩ b hB
 have c:=hB _ _ h2
 refine ⟨λ_=>(c.sx [0,1,2,4,5,6,7,8,9,10] (rg 14)),?_⟩
 refine anp [11] [0,37,48] b (c.sx [0,1,2,4,5,6,7,8,9,10] (rg 14)) λa b=>ago 12 b rfl ?_
 have c:=c.add (m:=Ro.mp jF.ty none 0 ([]:List jC)) (Ro.nil jF.ty _ _)
 have c:=c.add (m:=Ro.mp (fInt .u64).ty none 0 ([]:List Int)) (Ro.nil (fInt .u64).ty _ _)
 refine bd H λbJ cS H=>?_
 have cl:=c.segs 2 rfl
 refine wcS 2 [2,3,0,1,4,5,6,7,8,9,10] b c (λc=>oE N an 0 (jK.mk 23 (u64.wrap S) 0 de empty empty ([]:List jC) ([]:List Int) (jT.mk 0 0 0 0 0 empty)) (flat [si V,(1,F),si W,si S,(2,G),sl L (d.Cuts).length O,sl P (d.Nodes).length t,(1,n),sl f e.length g,(1,o),k2p,k34 aI,sp ad,sp ae,su af,k3l A,ei 4 K,ei 4 j,(1,p),sm h,sl u k.length x,sm I,su ah,sp aD,(3,q),sl y l.length z,su B,sb C,sb ai,sb am]) ar au s none 0 none 0 D ((c.regr 0 [(true,30),(false,2)] rfl).sbK [15,1,0]) cS) ?_
 rintro _ κ w a ⟨bK,bL,rfl,h2⟩ b hB
 have c:=((hB _ _ h2).unregrK 0 [(true,30),(false,2)] (s':=[si V,(1,F),si W,si S,(2,G),sl L (d.Cuts).length O,sl P (d.Nodes).length t,(1,n),sl f e.length g,(1,o),k2p,k34 aI,sp ad,sp ae,su af,k3l A,ei 4 K,ei 4 j,(1,p),sm h,sl u k.length x,sm I,su ah,sp aD,(3,q),sl y l.length z,su B,sb C,sb ai,sb am,sl bK bJ.length bL,(1,s)]) cl rfl).cC (C':=[.box D 87 [si V,(1,F),si W,si S,(2,G),sl L (d.Cuts).length O,sl P (d.Nodes).length t,(1,n),sl f e.length g,(1,o),k2p,k34 aI,sp ad,sp ae,su af,k3l A,ei 4 K,ei 4 j,(1,p),sm h,sl u k.length x,sm I,su ah,sp aD,(3,q),sl y l.length z,su B,sb C,sb ai,sb am,sl bK bJ.length bL,(1,s)],k2s bK bJ.length bL,k2f aI Y.dc bH (Y.beats).length bI Y.got.Epoch Y.got.Has Y.got.T Y.known.Epoch Y.known.Has Y.known.T Y.stable,.ext (ownX (fInt .u64) 32 bH bI Y.beats),.ext (ownX jN 4 f g e),k3f ad ak aE,k3g ae al aF,.ext (arrX j6 A ao aG),mx h Q R,mx I Z aa,k2y aD aQ bj.1])
 refine ⟨notE,?_⟩
 refine kM ?_
 obtain ⟨cT,c⟩:=c.foldI (ck:=jR) (fs:=jP) aI (bH,bI) Y [2,3] [0,1,4,5,6,7,8,9,10] (ra 3 4) dc kr kr
 exact ⟨_,false,(some aI),cT,(some Y),aD,aQ,bj.1,bJ,bK,bL,b.kp [0],c.sp [1,2,3,0,4,5,6,7,8,9] [7,8,9,10,11,12,13,14,15,0],H⟩
 refine sk ?_
 exact ⟨_,X,a2,aT,bf,aD,aQ,bj.1,an,ar,au,b.kp [0],c.sp (rg 10) (rg 10),H⟩
 rintro a w ⟨κ,a5,bq,aY,cd,aL,bi,ce,aM,aO,aP,b,c,H⟩
 unfold M.pG at H
 refine qr λ_ dh=>bd H λbM E H=>kA (λa w => ∃κ br a8 aZ a9 a0 ba,Fr (84) [] [k2g D,(72,vb bM.2.2.2)] a∧SS Ms κ0 w0 κ w (k1s D V F W S G L (d.Cuts).length O P (d.Nodes).length t n f e.length g o a5 br aZ a0 af A K j p h u k.length x I ah aL q y l.length z B C ai am aO aM.length aP s (ownX jN 4 f g e) a8 bM.1 a9 bM.2.1 ba bM.2.2.1 (arrX j6 A ao aG) Q R Z aa bi ce) (k1t L O d.Cuts P t d.Nodes (ml A 4) (ml K 4) (ml j 4) h Q R ax u x k I Z aa aH y z l aO aP aM)∧True) ?_ ?_
 refine wp 3 [0,52] b λa b=>wc (wld b c 0 2 0 λa b=>wp 2 [0,55] b λa b=>bs E (λhb E=>?_) λhb E=>?_)
 have b:=b.bv 55 hb
 refine wp 3 [0,55,58] b λa b=>wcg b (wld b c 0 10 0 λa b=>wp 3 [0,62] b λa b=>bs E (λhb E=>?_) λhb E=>?_)
 have b:=b.bv 62 hb
 refine wp 3 [0,62,65] b λa b=>wcg b (wld b c 0 29 0 λa b=>wp 3 [0,69] b λa b=>bs E (λhb E=>?_) λhb E=>?_)
 have b:=b.bv 69 hb
 refine wp 1 [0,69,70] b λa b=>bd E λdk cU E=>?_
 have cm:=c.segs 0 rfl
 refine wcg b (wcS 6 [0,3,4,5,7,8,1,2,6,9] b c (λc=>AB N V cd aE aF j ax k aH (flat [(1,F),si W,si S,(2,G),sl L (d.Cuts).length O,sl P (d.Nodes).length t,(1,n),sl f e.length g,(1,o),sb a5]) bq aY ad ak ae al (flat [su af,k3l A,ei 4 K]) p h Q R u x I Z aa (flat [su ah,sp aL,(3,q),sl y l.length z,su B,sb C,sb ai,sb am,sl aO aM.length aP,(1,s)]) D ((c.regr 0 [(false,1),(true,10),(false,3),(true,3),(false,5),(true,10)] rfl).sbK (ra 4 4)) cU) ?_)
 rintro _ κ w a ⟨cB,cV,cD,cW,cE,cX,rfl,h2⟩ b hB
 have c:=(hB _ _ h2).unregrK 0 [(false,1),(true,10),(false,3),(true,3),(false,5),(true,10)] (s':=k1u V F W S G L (d.Cuts).length O P (d.Nodes).length t n f e.length g o a5 cB cD cE af A K j p h u k.length x I ah aL q y l.length z B C ai am aO aM.length aP s) cm rfl
 refine wp 1 [0,72] b λa b=>nl ?_
 cases E
 exact ⟨_,cB,cV,cD,cW,cE,cX,b.kp [0,72],c.sp [0,6,7,1,2,3,8,4,5,9] (rg 10),trivial⟩
 have b:=b.bv 69 hb
 refine wp 3 [0,72] b λa b=>nl ?_
 cases E
 exact ⟨_,bq,aY,ad,ak,ae,al,b.kp [0,72],c.sp (rg 10) (rg 10),trivial⟩
 have b:=b.bv 62 hb
 refine wp 10 [0,72] b λa b=>nl ?_
 cases E
 exact ⟨_,bq,aY,ad,ak,ae,al,b.kp [0,72],c.sp (rg 10) (rg 10),trivial⟩
 have b:=b.bv 55 hb
 refine wp 17 [0,72] b λa b=>nl ?_
 cases E
 exact ⟨_,bq,aY,ad,ak,ae,al,b.kp [0,72],c.sp (rg 10) (rg 10),trivial⟩
 rintro a w ⟨κ,br,a8,aZ,a9,a0,ba,b,c,-⟩
 refine dh _ _ (bc b H (λhb H=>?_) λhb H=>?_)
 refine qr λ_ df=>wp 3 [0,75] b λa b=>wc (wst b c 0 29 1 [sb true] (sgN 1 jE) λa w b c=>df _ _ (rl (wp 4 [76,79] b λa b=>wc (wld b c 0 3 0 λa b=>wp 2 [76,82] b λa b=>?_))))
 have c:=c.add (m:=Ro.mp jF.ty none 0 ([]:List jC)) (Ro.nil jF.ty _ _)
 have c:=c.add (m:=Ro.mp (fInt .u64).ty none 0 ([]:List Int)) (Ro.nil (fInt .u64).ty _ _)
 refine bd H λdg cY H=>?_
 have cn:=c.segs 0 rfl
 refine wc (wcS 2 (rg 10) b c (λc=>oE N aM 0 (jK.mk 25 (u64.wrap S) 0 0 empty empty ([]:List jC) ([]:List Int) (jT.mk 0 0 0 0 0 empty)) (flat [si V,(1,F),si W,si S,(2,G),sl L (d.Cuts).length O,sl P (d.Nodes).length t,(1,n),sl f e.length g,(1,o),sb a5,sp br,sp aZ,sp a0,su af,k3l A,ei 4 K,ei 4 j,(1,p),sm h,sl u k.length x,sm I,su ah,sp aL,(3,q),sl y l.length z,su B,sb C,sb ai,sb true]) aO aP s none 0 none 0 D ((c.regr 0 [(true,30),(false,2)] rfl).sbK [11,1,0]) cY) ?_)
 rintro _ κ w a ⟨cF,cG,rfl,h2⟩ b hB
 have c:=(hB _ _ h2).unregrK 0 [(true,30),(false,2)] (s':=[si V,(1,F),si W,si S,(2,G),sl L (d.Cuts).length O,sl P (d.Nodes).length t,(1,n),sl f e.length g,(1,o),sb a5,sp br,sp aZ,sp a0,su af,k3l A,ei 4 K,ei 4 j,(1,p),sm h,sl u k.length x,sm I,su ah,sp aL,(3,q),sl y l.length z,su B,sb C,sb ai,sb true,sl cF dg.length cG,(1,s)]) cn rfl
 refine nl ?_
 cases H
 exact j7 b c (mI Tryz.results34) ⟨br,a8,aZ,a9,a0,ba,A,ao,I,Z,aa,aL,bi,cF,cG,rfl,c.sp (rg 10) [5,6,10,0]⟩
 refine sk ?_
 cases H
 exact j7 b c (mI Tryz.results34) ⟨br,a8,aZ,a9,a0,ba,A,ao,I,Z,aa,aL,bi,aO,aP,rfl,c.sp (rg 10) [2,3,7,9]⟩
end Go.Cf
