/- The walks: each function returns what its model says. Printed by a program of ours. -/
import Derived.Test.YtcplebnnanjngaaGreatZSh
import Derived.Test.YtcplebnnanjngaaGreatZM1
import Derived.Test.YtcplebnnanjngaaGreatZWs
import Derived.Test.YtcplebnnanjngaaGreatZWo
import Derived.Test.YtcplebnnanjngaaGreatZWi
import Derived.Test.YtcplebnnanjngaaGreatZWp
import Derived.Test.YtcplebnnanjngaaGreatZWc
import Derived.Test.YtcplebnnanjngaaGreatZWg1
import Derived.Test.YtcplebnnanjngaaGreatZWg5
namespace Go.Cf
open Go Go.Proofs Tryz
open _root_.Int(toNat tdiv tmod)
open _root_.List(set replicate)
open _root_.ByteArray(empty)
open Go.IntKind(i64 u64)
set_option linter.unusedVariables false
set_option maxRecDepth 20000
set_option maxHeartbeats 8000000
theorem AS (N){Ms}{κ0}{w0}(a2)(a5)(Z)(al:(List i9))(Q)(p3)(bG)(p6)(bI)(S)(z)(ay)(az)(A)(j)(hB:SB Ms κ0 w0 [.box j 87 [(12,Q),sp p3,sp p6,(6,S),ei 4 Z,(18,z),sl ay al.length az,(1,A)],k3j ay al.length az,k31 p3 bG a2,k47 p6 bI a5] [(ml Z 4),k3k ay az al]){r}(H:M.sY N a2 a5 Z al=some r) :
    Calls Tryz.prog 76 #[pt j 0] w0 (kP Ms κ0 w0 λv κ w=>∃a0 bg a1 bh aO aP,v = .tuple #[]∧SS Ms κ0 w0 κ w [.box j 87 [(12,Q),sp a0,sp a1,(6,S),ei 4 r.2.2.1,(18,z),sl aO r.2.2.2.length aP,(1,A)],k3j aO r.2.2.2.length aP,k31 a0 bg r.1,k47 a1 bh r.2.1] [(ml r.2.2.1 4),k3k aO aP r.2.2.2]):=by
 have b:=hB.hS
 have b0:=b.fresh
 refine KC (N:=(59)) (L:=[k35 j]) func76 rfl ntmps76 (show 1≤(59) by decide) rfl λa d=>?_
 unfold M.sY at H
 have b:=b.defs0
 refine qr λ_ bJ=>wc (wbx d b [k3v j] (sgN 1 jD) λF a w d b=>bJ _ _ (qs λ_ bK=>bd H λT ho H=>?_))
 obtain ⟨p,aI,b⟩:=b.optS 4 rfl ho
 rw [aI] at b
 try rw [aI] at d
 obtain ⟨⟨aS,aT⟩,b⟩:=b.unfI (ck:=jP) (fs:=jO) 4 rfl
 refine bd H λbL ho H=>?_
 obtain ⟨g,aI,b⟩:=b.optS 6 rfl ho
 rw [aI] at b
 try rw [aI] at d
 obtain ⟨⟨bM,bN,bO,bP⟩,b⟩:=b.unfI (ck:=kW) (fs:=kT) 6 rfl
 refine rgX b (ra 3 5) ?_
 have b:=b.drew
 have hX:=b.px (ra 3 5)
 refine atk 0 (some 6) d hX rfl (vld 2 0 0) λa d=>anp [1,2] [1,8] d hX λa d=>atk 3 (some 9) d hX rfl (vld 4 2 0) λa d=>atk 4 (some 10) d hX rfl (vld 2 0 0) λa d=>anp [5,6] [1,9,12] d hX λa d=>atk 7 (some 13) d hX rfl (vld 4 1 0) λa d=>ago 8 d rfl (bd H λbQ br H=>wcS 2 [3,4,0,1,2,5,6,7,8] d b (λb=>w6 N T aS aT p (b.sbK (ra 2 4)) br) ?_)
 rintro _ κ w a ⟨rfl,h2⟩ d hB
 have b:=hB _ _ h2
 refine ⟨λ_=>(b.sx [0,1,5,6,7] (rg 8)),?_⟩
 refine ago 9 d rfl (bd H λaJ bt H=>wcS 3 [2,3,4,0,1,5,6,7,8] d b (λb=>yR N bL bQ bM bN bO bP g (b.sbK [0,1]) bt) ?_)
 rintro _ κ w a ⟨a3,a4,a6,a7,rfl,h2⟩ d hB
 have b:=(hB _ _ h2).cC (C':=[k3q g a3 aJ.2 a4 a6 a7,k3r a3 aJ.2.list.length a4,k3r a6 aJ.2.waiting.length a7,k34 p T aS aT,.ext (ownX (fInt .u64) 32 aS aT T.beats),k4j F j,.ext (qI ([]:List Nat)),k4u j Q p g S Z z ay al.length az A,k3j ay al.length az])
 refine ⟨λ_=>(b.sx (ra 3 5) (ra 2 8)),?_⟩
 refine kN ?_
 obtain ⟨U,b⟩:=b.foldI (ck:=jP) (fs:=jO) p (aS,aT) T [3,4] [0,1,2,5,6,7,8] (ra 4 4) dc kr kr
 obtain ⟨bu,b⟩:=b.foldI (ck:=kW) (fs:=kT) g (a3,a4,a6,a7) aJ.2 [1,2,3] [0,4,5,6,7] [0,1] dc kr kr
 refine bK _ _ (qr λ_ bR=>(wc (wld d b 2 0 0 λa d=>wp 2 [1,18] d λa d=>wc (wls d b 4 4 1 λa d=>wp 1 [1,19,20] d λa d=>(bR _ _ (bk (jT (n:=N) (λn a w=>∃κ an,∃e:jC,∃u,∃P:List i9,∃V W k O,Fr (59) (EW O) [(1,pt F 0),(19,.agg (flat [ei 4 Z]).toArray),(20,vi k)] a∧SS Ms κ0 w0 κ w (k24 F j Q p g S u z V P.length W A U T an e (qI O)) [(ml Z 4),(ml u 4),k3k V W P]∧M.mY N n Z T e u P k=some r) ?_ ?_)))))))
 exact ⟨_,bu,aJ.2,Z,al,ay,az,0,([]:List Nat),d.kp [1,19,20],b.sp [2,4,5,1,0,3] [8,8,9],H⟩
 rintro n a w ⟨κ,an,e,u,P,V,W,k,O,d,b,H⟩
 rcases n with _|aU
 simp [M.mY] at H
 simp only [M.mY] at H
 refine qr λ_ bS=>(jE (L':=[k2w F,(19,.agg (flat [ei 4 Z]).toArray),(20,vi k),(21,vb (decide (k<4)))]) 1 [1,19,20,21] d kr λa d=>bS _ _ (qs λ_ bT=>bc d H (λhb H=>?_) λhb H=>?_))
 refine sk (bT _ _ (m2 (λa w=>∃κ aQ aV ao,∃aq:List i9,∃aB aD ak,Fr (59) (EW ak) [(1,pt F 0),(19,.agg (flat [ei 4 Z]).toArray),(20,vi k)] a∧SS Ms κ0 w0 κ w (k24 F j Q p g S ao z aB aq.length aD A U T aQ aV (qI ak)) [(ml Z 4),(ml ao 4),k3k aB aD aq]∧M.rB N (M.mY N aU) Z T k aV ao aq=some r) ?_ ?_))
 refine bk (qr λ_ bw=>(jE (L':=[k2w F,(19,.agg (flat [ei 4 Z]).toArray),(20,vi k),(22,vi k)]) 1 [1,19,20,22] d kr λa d=>bd H λab bi H=>wc (kQ d kr (v:=vi ab) (pJ (t:=(fInt .i64)) (E:=3) (n:=4) (m:=4) rfl kr rfl bi (b.get 0 rfl) rfl rfl kr kr kr _) λa d=>wc (wal d b [si 0] (sgN 1 jD) λX a w d b=>wc (wst d b 0 0 1 [si k] (sgN 1 jD) λa w d b=>wp 1 [1,2,3,19,20] d λa d=>bw _ _ (qs λ_ bx=>qr λ_ bz=>wp 2 [1,2,3,19,20,25] d λa d=>?_))))))
 refine bz _ _ (bc d H (λhb H=>?_) λhb H=>?_)
 refine xt ?_
 exact ⟨_,an,e,u,P,V,W,O,d.kp [1,19,20],b.sp (ra 1 6) [0,1,2],H⟩
 refine sk (bx _ _ (qs λ_ bA=>qs λ_ bB=>?_))
 obtain ⟨⟨a8,ba,be,bf⟩,b⟩:=b.unfI (ck:=kW) (fs:=kT) 5 rfl
 refine rl (wc (wld d b 4 0 0 λa d=>wp 2 [1,2,3,19,20,28] d λa d=>wc (wld d b 5 2 0 λa d=>jE (L':=[k2w F,k2x X,(19,.agg (flat [ei 4 Z]).toArray),(20,vi k),(29,pt g 0),(30,vi ab)]) 1 [1,2,19,20,29,30] d kr λa d=>bd H λbX bj H=>wc (wcS 1 (rg 9) d b (λb=>AP N e ab a8 ba be bf g (b.sbK [0,1]) bj) ?_))))
 rintro _ κ w a ⟨ae,af,rfl,h2⟩ d hB
 have b:=hB _ _ h2
 refine nl ?_
 obtain ⟨bV,b⟩:=b.foldI (ck:=kW) (fs:=kT) g (a8,ba,be,bf) e [0,3,4] [1,2,5,6,7,8,9,10] [0,1] dc kr kr
 refine bB _ _ (bk ?_)
 obtain ⟨⟨G,I,J,K⟩,b⟩:=b.unfI (ck:=kW) (fs:=kT) 0 rfl
 refine bd H λar bl H=>?_
 have b:SS Ms κ0 w0 _ _ [.box X 3 [si k],k4j F j,k4u j Q p g S u z V P.length W A,k3j V P.length W,k3r G e.list.length I,k3r J e.waiting.length K,k4m p U T,.ext (qI O),k3u ae g,.box af 3 [si ab],k3q g G e I J K] _:=b.selp [5,6,7,8,1,2,9,10,3,4,0] dc kr
 refine E5 (C:=[.box X 3 [si k],.box F 24 [(1,[pt j 0])],.box j 87 [(12,Q),(1,[pt p 0]),(1,[pt g 0]),(6,S),ei 4 u,(18,z),sl V P.length W,(1,A)],.tok V 61 15 P.length W,.tok G 135 4 e.list.length I,.tok J 135 4 e.waiting.length K,ox o_stab_Table (some p) U (some T),.ext (qI O)]) (Cap:=[.box ae 79 [(1,[pt g 0])],.box af 3 [si ab],.box g 166 [sl G e.list.length I,sl J e.waiting.length K,su e.bound]]) (Cap2:=[.box ae 79 [(1,[pt g 0])],.box af 3 [si ab],.box g 166 [sl G e.list.length I,sl J e.waiting.length K,su e.bound]]) (Rc:=[Ro.mp lD G I e.list,Ro.mp lD J K e.waiting]) (R':=[ml Z 4,ml u 4,Ro.mp n9 V W P]) (caps := #[pt ae 0,pt af 0]) (f:=131) [] (λl=>#[.func (.yield l) #[] #[],pt ae 0,pt af 0]) d b kr (λ_ _=>rfl) ((b.pick [4,5,6] kr).ro) (λl=>by kernel_rfl) λad l rc w hrc b=>?_
 refine ⟨λx=>(λ(o:((List i9)×Nat)) (x:XF)=>∃q s,x=mkX ad l (lp rc [] o.2) [.box X 3 [si k],.box F 24 [(1,[pt j 0])],.box j 87 [(12,Q),(1,[pt p 0]),(1,[pt g 0]),(6,S),ei 4 u,(18,z),sl q o.1.length s,(1,A)],.tok q 61 15 o.1.length s,.tok G 135 4 e.list.length I,.tok J 135 4 e.waiting.length K,ox o_stab_Table (some p) U (some T),.ext (qI O)] [ml Z 4,ml u 4,Ro.mp n9 q s o.1]) ar x,?_,?_⟩
 have b:=(b.rebase.add (m:=MP.const ((λ(o:((List i9)×Nat)) (x:XF)=>∃q s,x=mkX ad l (lp rc [] o.2) [.box X 3 [si k],.box F 24 [(1,[pt j 0])],.box j 87 [(12,Q),(1,[pt p 0]),(1,[pt g 0]),(6,S),ei 4 u,(18,z),sl q o.1.length s,(1,A)],.tok q 61 15 o.1.length s,.tok G 135 4 e.list.length I,.tok J 135 4 e.waiting.length K,ox o_stab_Table (some p) U (some T),.ext (qI O)] [ml Z 4,ml u 4,Ro.mp n9 q s o.1]) (P,0) (mkX ad l (lp rc [] 0) [.box X 3 [si k],.box F 24 [(1,[pt j 0])],.box j 87 [(12,Q),(1,[pt p 0]),(1,[pt g 0]),(6,S),ei 4 u,(18,z),sl V P.length W,(1,A)],.tok V 61 15 P.length W,.tok G 135 4 e.list.length I,.tok J 135 4 e.waiting.length K,ox o_stab_Table (some p) U (some T),.ext (qI O)] [ml Z 4,ml u 4,Ro.mp n9 V W P]))) ⟨V,W,rfl⟩).pick (R':=[Ro.mp lD G I e.list,Ro.mp lD J K e.waiting,MP.const ((λ(o:((List i9)×Nat)) (x:XF)=>∃q s,x=mkX ad l (lp rc [] o.2) [.box X 3 [si k],.box F 24 [(1,[pt j 0])],.box j 87 [(12,Q),(1,[pt p 0]),(1,[pt g 0]),(6,S),ei 4 u,(18,z),sl q o.1.length s,(1,A)],.tok q 61 15 o.1.length s,.tok G 135 4 e.list.length I,.tok J 135 4 e.waiting.length K,ox o_stab_Table (some p) U (some T),.ext (qI O)] [ml Z 4,ml u 4,Ro.mp n9 q s o.1]) (P,0) (mkX ad l (lp rc [] 0) [.box X 3 [si k],.box F 24 [(1,[pt j 0])],.box j 87 [(12,Q),(1,[pt p 0]),(1,[pt g 0]),(6,S),ei 4 u,(18,z),sl V P.length W,(1,A)],.tok V 61 15 P.length W,.tok G 135 4 e.list.length I,.tok J 135 4 e.waiting.length K,ox o_stab_Table (some p) U (some T),.ext (qI O)] [ml Z 4,ml u 4,Ro.mp n9 V W P]))]) [1,2,0] kr
 refine zG N (Y:=(λ(o:((List i9)×Nat)) (x:XF)=>∃q s,x=mkX ad l (lp rc [] o.2) [.box X 3 [si k],.box F 24 [(1,[pt j 0])],.box j 87 [(12,Q),(1,[pt p 0]),(1,[pt g 0]),(6,S),ei 4 u,(18,z),sl q o.1.length s,(1,A)],.tok q 61 15 o.1.length s,.tok G 135 4 e.list.length I,.tok J 135 4 e.waiting.length K,ox o_stab_Table (some p) U (some T),.ext (qI O)] [ml Z 4,ml u 4,Ro.mp n9 q s o.1])) (B:=(λ(o:((List i9)×Nat)) ah D=>bif (o.2==0) then Option.bind (M.pH N k (-1)) λaR=>Option.bind (M.lW N o.1 aR (jF.mk 18 (u64.wrap ah) (u64.wrap D.Tx) D.TS empty empty D.Vers ([]:List Int) (jU.mk 0 0 0 0 0 empty))) λai=>some (((ai,0)),true) else none)) (l:=l) ?_ e ab g G I J K b bl
 rintro o _ κ w ah D au av s' c ⟨q,s,rfl⟩ hp hf hnd hlt hR H
 refine wY H (λhn H=>?_) (λ_ H=>by cases H)
 refine I9 (L:=[k2w F,k2x X,(19,.agg (flat [ei 4 Z]).toArray),(20,vi k),(32,vi ah),(33,.agg (flat [su D.TS,si D.DC,si D.Tx,sl au D.Vers.length av]).toArray)]) hp hf hnd hlt hn hrc rfl [1,2,19,20,32,33] d kr kr λa d b=>?_
 have b:=b.adds hR
 skip
 refine qr λ_ bC=>(jE (L':=[k2w F,k2x X,(4,vi ah),(19,.agg (flat [ei 4 Z]).toArray),(20,vi k),(33,.agg (flat [su D.TS,si D.DC,si D.Tx,sl au D.Vers.length av]).toArray)]) 1 [1,2,4,19,20,33] d kr λa d=>bC _ _ (rl (wc (wal d b k0j (sgN 4 jD) λbY a w d b=>wc (wst d b 0 0 4 (k0i D au av) (sgN 4 jD) λa w d b=>?_)))))
 refine nl (⟨_,_,_,b,λwb b=>?_⟩)
 obtain ⟨κb,hκb⟩ : ∃κb,κb=κ:=⟨_,rfl⟩
 subst hκb
 refine bk (rgX b [0,1,2,7,8] ?_)
 have b:=b.drew
 have hX:=b.px [0,1,2,7,8]
 refine anp [3,4,5,8,10] [1,2,19,20,38,39,42,44] d hX λa d=>atk 0 (some 34) d hX rfl (vld 2 0 0) λa d=>atk 1 (some 35) d hX rfl (vld 1 0 0) λa d=>atk 6 (some 40) d hX rfl (vld 0 2 0) λa d=>anp [7] [1,2,19,20,34,35,38,41,42,44] d hX λa d=>atk 9 (some 43) d hX rfl (vld 0 0 0) λa d=>atk 11 (some 45) d hX rfl (vld 0 3 0) λa d=>jN [12] [1,2,19,20,34,35,46] (L':=[k2w F,k2x X,(19,.agg (flat [ei 4 Z]).toArray),(20,vi k),(34,pt j 0),(35,vi k),(46,.agg (flat [si 18,su (u64.wrap ah),su (u64.wrap D.Tx),su D.TS,sg empty,sg empty,sl au D.Vers.length av,sl none 0 0,si 0,si 0,si 0,si 0,si 0,sg empty]).toArray)]) (listed':=(mV 14 8187)) (fuel:=2) d hX kr (by intro c a w t v h; cases t<;>exact h) kr rfl λa d=>?_
 refine ago 2 d rfl (bd H λaR bm H=>jR d b kr kr (vF N b.fresh k (-1) ((b.pick [] kr).ro) bm) ?_)
 rintro _ κ w a ⟨rfl,hR,hN⟩ d b hO
 refine ⟨λ_=>(b.sx [0,1,2,7,8] (rg 4)),?_⟩
 refine ago 13 d rfl ?_
 have b:=b.add (m:=Ro.mp (fInt .u64).ty none 0 ([]:List Int)) (Ro.nil (fInt .u64).ty _ _)
 refine bd H λai bn H=>?_
 have aZ:=b.segs 3 rfl
 refine wcS 2 [3,4,0,1,2,5,6,7,8] d b (λb=>oO N o.1 aR (jF.mk 18 (u64.wrap ah) (u64.wrap D.Tx) D.TS empty empty D.Vers ([]:List Int) (jU.mk 0 0 0 0 0 empty)) (flat [(12,Q),k3v p,k3v g,(6,S),ei 4 u,(18,z)]) q s A au av none 0 j ((b.regr 0 [(true,6),(false,2)] rfl).sbK [4,1,0]) bn) ?_
 rintro _ κ w a ⟨aw,ax,rfl,h2⟩ d hB
 have b:=(hB _ _ h2).unregrK 0 [(true,6),(false,2)] (s':=[(12,Q),k3v p,k3v g,(6,S),ei 4 u,(18,z),sl aw ai.length ax,(1,A)]) aZ rfl
 refine ⟨λ_=>(b.sx [2,3,4,7,8] (ra 2 4)),?_⟩
 refine kN ?_
 cases H
 try dsimp only [Exit.inBlock,Exit.then]
 repeat rw [if_neg dc]
 refine CY [] (C:=[.box X 3 [si k],.box F 24 [(1,[pt j 0])],.box j 87 [(12,Q),(1,[pt p 0]),(1,[pt g 0]),(6,S),ei 4 u,(18,z),sl aw ai.length ax,(1,A)],.tok aw 61 15 ai.length ax,.tok G 135 4 e.list.length I,.tok J 135 4 e.waiting.length K,ox o_stab_Table (some p) U (some T),.ext (qI O)]) (R:=[ml Z 4,ml u 4,Ro.mp n9 aw ax ai]) (b.sp [3,4,0,1,5,6,7,8] [3,4,0]) ?_
 exact ⟨aw,ax,rfl⟩
 rintro _ ⟨q,s,rfl⟩
 refine ⟨_,_,_,rfl,λκ w a d b=>?_⟩
 refine bs H (λhb H=>?_) λhb H=>?_
 refine HL hb ?_
 have b:=b.defsC 7 rfl rfl
 obtain ⟨bW,b⟩:=b.foldI (ck:=kW) (fs:=kT) g (G,I,J,K) e [10,5,6] [0,1,2,3,4,7,8,9] [3,4] dc kr kr
 refine bA _ _ ?_
 obtain ⟨⟨aE,aF,aG,aH⟩,b⟩:=b.unfI (ck:=kW) (fs:=kT) 0 rfl
 refine rgS b [10] ?_
 have b:=b.drew
 have hX:=b.fx
 refine atk 0 (some 48) d hX rfl (vld 3 0 0) λa d=>anp [7,8] [1,2,19,20,56] d hX λa d=>atk 1 (some 49) d hX rfl (vld 2 0 0) λa d=>atk 2 (some 50) d hX rfl (vld 3 0 0) λa d=>jN [3,4] [1,19,20,49,52,56] (L':=[k2w F,(19,.agg (flat [ei 4 Z]).toArray),(20,vi k),(49,vi k),(52,pt j 13),(56,pt j 20)]) (listed':=(mV 11 415)) (fuel:=4) d hX kr (by intro c a w t v h; cases t<;>exact h) kr rfl λa d=>atk 5 (some 53) d hX rfl (vld 4 2 0) λa d=>ago 6 d rfl (bd H λaj bo H=>wcS 1 (rg 11) d b (λb=>tV N e aE aF aG aH g (b.sbK [0,1]) bo) ?_)
 rintro _ κ w a ⟨rfl,h2⟩ d hB
 have b:=hB _ _ h2
 refine ⟨λ_=>(b.sx [0,3,4,5,6,8,9,10] [0,1,2,3,4,5,6,5,6,9,10,2,3,13]),?_⟩
 refine bd H λbZ aW H=>atk 9 (some 57) d (b.sx [0,3,4,5,6,8,9,10] [0,1,2,3,4,5,6,5,6,9,10,2,3,13]) rfl (λw _=>lU (E:=3) (sz:=1) (n:=4) rfl rfl (i:=k) rfl (m4 aW (b.get 3 rfl)) kr kr w) λa d=>ago 10 d rfl (lK (t:=(fInt .i64)) (y:=aj) (v:=vi aj) d b kr 6 4 (s':=[(12,Q),k3v p,k3v g,(6,S),ei 4 (set u (toNat k) aj),(18,z),sl q ar.1.length s,(1,A)]) (C':=[k3q g aE e aF aG aH,k3r aE e.list.length aF,k3r aG e.waiting.length aH,.ext (qI (ad::O)),.box X 3 [si k],k4j F j,k4u j Q p g S (set u (toNat k) aj) z q ar.1.length s A,k3j q ar.1.length s,k4m p U T,k3u ae g,.box af 3 [si ab]]) rfl rfl kr rfl rfl aW rfl rfl kr kr kr kr λa w d b=>?_)
 have b:=b.add (m:=ml (set u (toNat k) aj) 4) (List.length_set.trans (b.get 3 rfl))
 refine ⟨notE,?_⟩
 refine kN ?_
 obtain ⟨bq,b⟩:=b.foldI (ck:=kW) (fs:=kT) g (aE,aF,aG,aH) e [0,1,2] (ra 3 8) [1,2] dc kr kr
 exact ⟨_,bq,e,(set u (toNat k) aj),ar.1,q,s,(ad::O),d.kp [1,19,20],b.sp [3,4,5,6,0,1] [3,0,5],H⟩
 cases H
 rintro a w ⟨κ,aQ,aV,ao,aq,aB,aD,ak,d,b,H⟩
 unfold M.rB at H
 refine rl (wp 2 [1,19,20] d λa d=>nl ?_)
 exact ⟨aU,jb _,_,aQ,aV,ao,aq,aB,aD,i64.wrap (k+1),ak,d.kp [1,19,20],b.sp (rg 6) [0,1,2],H⟩
 refine xt (IA (C':=[k4j F j,k4u j Q p g S u z V P.length W A,k3j V P.length W,k4m p U T,k4e g an e]) d b 5 rfl kr λw b=>?_)
 cases H
 exact ⟨_,(mL results76),⟨(some p),U,(some g),an,V,W,rfl,b.sp (ra 1 4) [1,2]⟩⟩
theorem AT (N){Ms}{κ0}{w0}(O)(h:j5)(a9)(br)(bt)(bu)(bw)(a4:(List i9))(K)(D)(F)(G)(I)(L)(e)(bx)(l)(bz)(bA)(bB)(cn)(bC)(o)(bD)(bE)(p)(i)(hB:SB Ms κ0 w0 (k25 i O K D h F G I L a9 e l bz bu cn o bD a4.length bE p (arrX j6 e bx br) bA bB bC bw) (k26 D F h G I (ml e 4) bz bA bB bt bD bE a4)){r}(H:M.uD N O h a9 br bt bu bw a4=some r) :
    Calls Tryz.prog 77 #[pt i 0] w0 (kP Ms κ0 w0 λv κ w=>∃aT b8 bF bG bH cp b9 bI bJ,v = .tuple #[]∧SS Ms κ0 w0 κ w (k25 i O K D h F G I L r.1 aT l bF r.2.2.2.1 cp o bI r.u4.2.length bJ p (arrX j6 aT b8 r.2.1) bG bH b9 r.u4.1) [(ml aT 4),k4c bF bG bH r.2.2.1,k3k bI bJ r.u4.2]):=by
 have c:=hB.hS
 have dm:=c.fresh
 refine enL [k35 i] func77 rfl ntmps77 λa b=>?_
 unfold M.uD at H
 refine FY (qs λ_ cZ=>wpIn_label (cZ _ _ (qr λ_ c0=>(wp 3 [0,13] b λa b=>wc (wls b c 0 6 1 λa b=>wp 1 [0,14,15] b λa b=>(c0 _ _ (bk (jT (n:=N) (λn a w=>∃κ a5 an a6 aL aM aO a7 a8 ba ao be,∃aP:List i9,∃aQ aR f,Fr (67) [] [k35 i,(14,.agg (flat [(4,(encs pO e))]).toArray),(15,vi f)] a∧SS Ms κ0 w0 κ w (k25 i O K D h F G I L a5 e l aL a8 ba o aQ aP.length aR p (arrX j6 e an a6) aM aO ao be) (k26 D F h G I (ml e 4) aL aM aO a7 aQ aR aP)∧M.lX N n O h a5 a6 a7 a8 be aP f=some r) ?_ ?_))))))))
 exact ⟨_,a9,bx,br,bz,bA,bB,bt,bu,cn,bC,bw,a4,bD,bE,0,b.kp [0,14,15],c.sp (rg 5) (rg 5),H⟩
 rintro n a w ⟨κ,a5,an,a6,aL,aM,aO,a7,a8,ba,ao,be,aP,aQ,aR,f,b,c,H⟩
 rcases n with _|V
 simp [M.lX] at H
 simp only [M.lX] at H
 refine qr λ_ c1=>wp 1 [0,14,15,16] b λa b=>c1 _ _ (qs λ_ c2=>bc b H (λhb H=>?_) λhb H=>?_)
 refine sk (c2 _ _ (m2 (λa w=>∃κ bf aU bg aq ar au av aw aV ax ay,∃af:List i9,∃az aA,Fr (67) [] [k35 i,(14,.agg (flat [(4,(encs pO e))]).toArray),(15,vi f)] a∧SS Ms κ0 w0 κ w (k25 i O K D h F G I L bf e l aq aw aV o az af.length aA p (arrX j6 e aU bg) ar au ax ay) (k26 D F h G I (ml e 4) aq ar au av az aA af)∧M.pT N (M.lX N V) O h f bf bg av aw ay af=some r) ?_ ?_))
 refine bk (qs λ_ cq=>bd H λdd ca H=>?_)
 obtain ⟨aW,aS⟩:=c.arrIdx 2 rfl ca
 have c:=c.add (m:=MP.const (idx e f=some aW)) aS
 refine rl (jE (L':=[k35 i,(14,.agg (flat [(4,(encs pO e))]).toArray),(15,vi f),(17,vi f)]) 1 [0,14,15,17] b kr λa b=>wc (kQ b kr (v := .pointer (pa aW)) (pJ (t:=pO) (E:=81) (n:=4) (m:=4) rfl kr rfl aS (c.get 3 rfl) rfl rfl kr kr kr _) λa b=>wp 2 [0,2,3,14,15] b λa b=>(cq _ _ (bk (jT (n:=N) (λn a w=>∃κ g bh y q z A J x ah W aa,∃j:List i9,∃s u aB,Fr (67) [] [k35 i,k36 f,(3,.pointer (pa aB)),(14,.agg (flat [(4,(encs pO e))]).toArray),(15,vi f)] a∧SS Ms κ0 w0 κ w (k25 i O K D h F G I L g e l q x ah o s j.length u p (arrX j6 e bh y) z A W aa) [k3a D F h.Cuts,k3b G I h.Nodes,(ml e 4),k4c q z A J,k3k s u j,(MP.const (idx e f=some aB))]∧M.nZ N (M.lX N V) n O h f g y J x aa j=some r) ?_ ?_)))))
 exact ⟨_,a5,an,a6,aL,aM,aO,a7,a8,ba,ao,be,aP,aQ,aR,aW,b.kp [0,2,3,14,15],c.sp (rg 5) [1,2,3,4,5,0],H⟩
 rintro n a w ⟨κ,g,bh,y,q,z,A,J,x,ah,W,aa,j,s,u,aB,b,c,H⟩
 rcases n with _|bi
 simp [M.nZ] at H
 simp only [M.nZ] at H
 refine bk (qs λ_ cr=>bd H λd k H=>kL (λa w=>∃κ S X B C T,Fr (67) [] [k35 i,k36 f,(3,.pointer (pa T)),k2v S,(5,vb d.u4),(14,.agg (flat [(4,(encs pO e))]).toArray),(15,vi f)] a∧SS Ms κ0 w0 κ w (k27 i O K D h F G I L g e l q x ah o s j.length u p S d.1 d.2.1 d.2.2.1 B d.2.2.2.1.length C (arrX j6 e X y) z A W aa) [k3a D F h.Cuts,k3b G I h.Nodes,(ml e 4),k4c q z A J,k3k s u j,(MP.const (idx e f=some T)),k3l B C d.2.2.2.1]∧True) ?_ ?_)
 have ai:idx e f=some aB:=c.get 5 rfl
 refine bd k λde aD k=>?_
 obtain ⟨c3,c4,c⟩:=c.arrTakeP 2 rfl aD ai
 refine kY k (λP k=>?_) (λbK P k=>?_)
 obtain ⟨aj,c⟩:=c.optN 0 rfl P
 have bL:=b
 subst aj
 have b:=bL
 obtain ⟨cb,c⟩:=c.arrBackI 0 1 (ra 2 4) dc rfl rfl ai (aD.trans (congrArg some P))
 refine rl (wp 1 [0,2,3,14,15,20] b λa b=>bd k λcs cc k=>wc (wcS 0 (rg 5) b c (λc=>xR N (c.sbK []) cc) ?_))
 rintro _ κ w a ⟨bM,bN,rfl,h2⟩ b hB
 have c:=hB _ _ h2
 refine wp 3 [0,2,3,14,15,22,23] b λa b=>wc (wal b c k0j (sgN 4 jD) λcu a w b c=>wc (wst b c 0 0 4 (k0i cs.1 bM bN) (sgN 4 jD) λa w b c=>wp 1 [0,2,3,4,5,14,15] b λa b=>nl ?_))
 cases k
 exact ⟨_,cu,cb,bM,bN,none,b.kp [0,2,3,4,5,14,15],c.sp [3,0,1,4,2,5,6] [1,2,3,4,5,6,0],ja⟩
 obtain ⟨aX,aj,c⟩:=c.optS 0 rfl P
 have bO:=b
 subst aj
 have b:=bO
 obtain ⟨⟨bP,bQ,bR,bS,bT,bU,bV⟩,c⟩:=c.unfI (ck:=lO) (fs:=lN) 0 rfl
 refine rl (wp 1 [0,2,3,14,15,20] b λa b=>bd k λcv cd k=>wc (wcS 3 [0,2,3,1,4,5,6,7,8] b c (λc=>xA N bK bP bQ bR bS bT bU bV aX (c.sbK [0,1]) cd) ?_))
 rintro _ κ w a ⟨bW,bX,rfl,h2⟩ b hB
 have c:=hB _ _ h2
 refine wp 3 [0,2,3,14,15,22,23] b λa b=>wc (wal b c k0j (sgN 4 jD) λcw a w b c=>wc (wst b c 0 0 4 (k0i cv.1 bW bX) (sgN 4 jD) λa w b c=>wp 1 [0,2,3,4,5,14,15] b λa b=>nl ?_))
 obtain ⟨c6,c⟩:=c.foldI (ck:=lO) (fs:=lN) aX (bP,bQ,bR,bS,bT,bU,bV) bK [1,5,2,3] [0,4,6,7,8,9,10] [1,2] dc kr kr
 obtain ⟨ce,c⟩:=c.arrBackI 0 3 [1,2,4,5,6,7] dc rfl rfl ai (aD.trans (congrArg some P))
 cases k
 exact ⟨_,cw,ce,bW,bX,(some aX),b.kp [0,2,3,4,5,14,15],c.sp [3,1,2,4,0,5,6] [3,4,5,6,7,8,0],ja⟩
 rintro a w ⟨κ,S,X,B,C,T,b,c,-⟩
 refine cr _ _ (qs λ_ cx=>qr λ_ cy=>wp 2 [0,2,3,4,14,15,25] b λa b=>cy _ _ (bc b H (λhb H=>?_) λhb H=>?_))
 refine xt ?_
 exact ⟨_,g,X,y,q,z,A,J,x,ah,W,aa,j,s,u,b.kp [0,14,15],c.sp [0,3,4,5,6] (rg 5),H⟩
 refine sk (cx _ _ (qs λ_ cz=>qr λ_ cA=>(wp 1 [0,2,3,4,14,15,26] b λa b=>wc (wld b c 1 3 0 λa b=>wp 2 [0,2,3,4,14,15,27,28,29] b λa b=>(cA _ _ (bk (jT (n:=N) (λn a w=>∃κ Q Y ab ad,Fr (67) [] [k35 i,k36 f,(3,.pointer (pa T)),k2v S,(14,.agg (flat [(4,(encs pO e))]).toArray),(15,vi f),k3d B d.2.2.2.1.length C,(28,vi (d.2.2.2.1.length:Int)),(29,vi ad)] a∧SS Ms κ0 w0 κ w (k27 i O K D h F G I L g e l q x Q o s j.length u p S d.1 d.2.1 d.2.2.1 B d.2.2.2.1.length C (arrX j6 e X y) z A Y ab) [k3a D F h.Cuts,k3b G I h.Nodes,(ml e 4),k4c q z A J,k3k s u j,(MP.const (idx e f=some T)),k3l B C d.2.2.2.1]∧M.oU N (M.lX N V) (M.nZ N (M.lX N V) bi) n O h f g y J x j d ab ad=some r) ?_ ?_)))))))
 exact ⟨_,ah,W,aa,0,b.kp [0,2,3,4,14,15,27,28,29],c.sp (rg 7) (rg 7),H⟩
 rintro n a w ⟨κ,Q,Y,ab,ad,b,c,H⟩
 rcases n with _|cg
 simp [M.oU] at H
 simp only [M.oU] at H
 refine qr λ_ cB=>(jE (L':=[k35 i,k36 f,(3,.pointer (pa T)),k2v S,(14,.agg (flat [(4,(encs pO e))]).toArray),(15,vi f),k3d B d.2.2.2.1.length C,(28,vi (d.2.2.2.1.length:Int)),(29,vi ad),(30,vb (decide (ad<(d.2.2.2.1.length:Int))))]) 1 [0,2,3,4,14,15,27,28,29,30] b kr λa b=>cB _ _ (qs λ_ cD=>bc b H (λhb H=>?_) λhb H=>?_))
 refine sk (cD _ _ (qs λ_ cE=>bk (qr λ_ cF=>(bd H λbY bj H=>wc (kR b c kr 6 (E:=48) (sz:=6) rfl rfl rfl kr rfl bj kr kr λdf dg a bZ b=>wc (qY (t:=jG) b c kr 6 rfl rfl bZ rfl bj kr kr kr λa b=>wc (wal b c (k0k empty) (sgN 6 jD) λdh a w b c=>wc (wst b c 0 0 6 (k0w bY) (sgN 6 jD) λa w b c=>?_))))))))
 refine cF _ _ (qr λ_ cG=>wp 2 [0,2,3,4,14,15,27,28,29,33,34] b λa b=>wc (wld b c 0 0 0 λa b=>bd H λb0 ch H=>?_))
 have bo:=c.segs 1 rfl
 refine wc (wcS 2 [1,7,0,2,3,4,5,6] b c (λc=>qU N ab bY.Key (flat [si O,(5,K),sl D h.Cuts.length F,sl G h.Nodes.length I,(7,L),su g,k4d e,(11,l),sm q,su x]) Q Y (flat [(8,o),sl s j.length u,(1,p)]) i ((c.regr 0 [(true,10),(false,1),(true,3)] rfl).sbK []) ch) ?_)
 rintro _ κ w a ⟨aY,bl,rfl,h2⟩ b hB
 have c:=(hB _ _ h2).unregrK 0 [(true,10),(false,1),(true,3)] (s':=[si O,(5,K),sl D h.Cuts.length F,sl G h.Nodes.length I,(7,L),su g,k4d e,(11,l),sm q,su x,sp aY,(8,o),sl s j.length u,(1,p)]) bo rfl
 refine cG _ _ (bc b H (λhb H=>?_) λhb H=>?_)
 refine xt ?_
 exact ⟨_,g,X,y,q,z,A,J,x,aY,bl,b0.2,j,s,u,b.kp [0,14,15],c.sp [0,5,6,7,1] (rg 5),H⟩
 refine sk (cE _ _ (rl (wp 2 [0,2,3,4,14,15,27,28,29] b λa b=>nl ?_)))
 exact ⟨cg,jb _,_,aY,bl,b0.2,i64.wrap (ad+1),b.kp [0,2,3,4,14,15,27,28,29],c.sp [0,3,4,5,6,7,1] (rg 7),H⟩
 refine xt (cz _ _ (qs λ_ cH=>?_))
 have ak:idx e f=some T:=c.get 5 rfl
 refine bd H λdi bm H=>?_
 obtain ⟨c8,c9,c⟩:=c.arrTakeP 4 rfl bm ak
 refine kY H (λZ H=>?_) (λcI Z H=>?_)
 obtain ⟨aj,c⟩:=c.optN 0 rfl Z
 have b1:=b
 subst aj
 have b:=b1
 obtain ⟨da,c⟩:=c.arrBackI 0 1 (ra 2 6) dc rfl rfl ak (bm.trans (congrArg some Z))
 cases H
 obtain ⟨aZ,aj,c⟩:=c.optS 0 rfl Z
 have b2:=b
 subst aj
 have b:=b2
 obtain ⟨⟨cJ,cK,cL,cM,cN,cO,cP⟩,c⟩:=c.unfI (ck:=lO) (fs:=lN) 0 rfl
 refine rl (wp 1 [0,2,3,4,14,15,39] b λa b=>bd H λU ci H=>wc (wcS 4 (rg 11) b c (λc=>AQ N cI cJ cK cL cM cN cO cP aZ (c.sbK [0,1]) ci) ?_))
 rintro _ κ w a ⟨a0,a2,cQ,cR,cS,cT,cU,cV,cW,rfl,h2⟩ b hB
 have c:=hB _ _ h2
 refine wp 4 [0,2,3,4,14,15,41,42,43] b λa b=>wc (wal b c k0j (sgN 4 jD) λcX a w b c=>wp 1 [0,2,3,4,8,9,14,15,42,43] b λa b=>wc (wst b c 0 0 4 (k0i U.2.1 a0 a2) (sgN 4 jD) λa w b c=>wp 1 [0,2,3,4,8,14,15] b λa b=>nl ?_))
 obtain ⟨db,c⟩:=c.foldI (ck:=lO) (fs:=lN) aZ (cQ,cR,cS,cT,cU,cV,cW) U.2.2.2 (ra 1 4) [0,5,6,7,8,9,10,11,12] [1,2] dc kr kr
 obtain ⟨bn,c⟩:=c.arrPutI 0 3 [1,2,4,5,6,7,8,9] dc rfl rfl ak
 refine cH _ _ (qs λ_ cY=>rgS c [10] ?_)
 have c:=c.drew
 have hX:=c.fx
 refine anp [0,1,2,3,5] [0,2,3,4,8,14,15,44,47,49] b hX λa b=>atk 4 (some 48) b hX rfl (vld 2 5 0) λa b=>atk 6 (some 50) b hX rfl (vld 3 0 0) λa b=>anp [7,8,9] [0,2,3,4,8,14,15,51,53] b hX λa b=>ago 10 b rfl (wst b c 3 5 1 [su (if d.1 > g then d.1 else g)] (sgN 1 jD) λa w b c=>⟨notE,?_⟩)
 refine kN (cY _ _ (rga (λ_=>True) [] ?_))
 have c:=c.drew
 refine anp [0,1,2,3,4,5,6,8] [0,2,3,14,15,54,57,60,62] b ja λa b=>mI c [11] (atk 7 (some 61) b (c.sx [0,1,3,4,7,8] (rg 12)) rfl (vls 2 2 2) λa b=>atk 9 (some 63) b (c.sx [0,1,3,4,7,8] (rg 12)) rfl (vld 3 3 0) λa b=>ago 10 b rfl (bd H λb3 cl H=>jR b c kr kr (yB N c.fresh h d.2.2.2.1 D F G I B C ((c.pick [5,6,11] kr).ro) cl) ?_))
 rintro _ κ w a ⟨b4,b5,rfl,hR,hN⟩ b c hO
 have c:=c.adds hR
 have c:=c.addC hO hN
 refine ⟨λ_=>(c.sx [1,2,4,5,8,9] (ra 1 12)),?_⟩
 refine ago 11 b rfl (bd H λR cm H=>?_)
 have bq:=c.segs 4 rfl
 refine wcS 3 [4,7,8,0,1,2,3,5,6,9] b c (λc=>vI N O J x j (jA.mk f U.1 0 ([]:List ByteArray)) b3 (flat [(5,K),sl D h.Cuts.length F,sl G h.Nodes.length I,(7,L),su (if d.1 > g then d.1 else g),k4d e,(11,l)]) q z A (flat [sp Q,(8,o)]) s u p b4 b5 i ((c.regr 0 [(false,1),(true,7),(false,2),(true,2),(false,2)] rfl).sbK [9,10,0]) cm) ?_
 rintro _ κ w a ⟨aF,b6,b7,aG,aH,rfl,h2⟩ b hB
 have c:=((hB _ _ h2).unregrK 0 [(false,1),(true,7),(false,2),(true,2),(false,2)] (s':=[si O,(5,K),sl D h.Cuts.length F,sl G h.Nodes.length I,(7,L),su (if d.1 > g then d.1 else g),k4d e,(11,l),sm aF,su R.2.1,sp Q,(8,o),sl aG R.2.2.length aH,(1,p)]) bq rfl).cC (C':=[k4v i O K D h F G I L (if d.1 > g then d.1 else g) e l aF R.2.1 Q o aG R.2.2.length aH p,k3j aG R.2.2.length aH,mx aF b6 b7,.tok b4 141 2 b3.length b5,.ext (arrX j6 e bn (set y (toNat f) (some U.2.2.2))),k3t cX U.2.1 a0 a2,k3z a0 U.2.1.Vers.length a2,.box S 135 [su d.1,si d.2.1,si d.2.2.1,sl B d.2.2.2.1.length C],k3z B d.2.2.2.1.length C,k3p Q Y ab])
 refine ⟨notE,?_⟩
 refine kN ?_
 exact ⟨bi,jb _,_,(if d.1 > g then d.1 else g),bn,(set y (toNat f) (some U.2.2.2)),aF,b6,b7,R.1,R.2.1,Q,Y,ab,R.2.2,aG,aH,(some aZ),b.kp [0,2,3,14,15],c.sp [0,1,4,2,9] [8,9,10,0,1,13],H⟩
 rintro a w ⟨κ,bf,aU,bg,aq,ar,au,av,aw,aV,ax,ay,af,az,aA,b,c,H⟩
 unfold M.pT at H
 refine rl (wp 2 [0,14,15] b λa b=>nl ?_)
 exact ⟨V,jb _,_,bf,aU,bg,aq,ar,au,av,aw,aV,ax,ay,af,az,aA,i64.wrap (f+1),b.kp [0,14,15],c.sp (rg 5) (rg 5),H⟩
 refine xt ?_
 cases H
 exact j7 b c (mL results77) ⟨e,an,aL,aM,aO,ba,ao,aQ,aR,rfl,c.sp (rg 5) [2,3,4]⟩
theorem sQ (N){s}{u}{l}(d)(C)(m)(o)(h)(I)(z)(i)(g)(D:SB s u l (k0f g h I i z C) [k3a m o d]){r}(H:M.m1 N d C=some r) :
    Calls Tryz.prog 132 #[.slice m d.length o,.func (.func 83) #[pt g 0] #[]] l (kP s u l λv κ w=>∃J F,v=vi r.1∧SS s u l κ w (k0f g h J i F r.2) []):=by
 have c:=D.hS
 have Y:=c.fresh
 refine en func132 rfl ntmps132 λa b=>?_
 unfold M.m1 at H
 refine qr λ_ K=>(wp 1 [0,1] b λa b=>(K _ _ (qs λ_ L=>qr λ_ O=>(wp 3 [0,1,7,8] b λa b=>(O _ _ (bk (jT (n:=N) (λn a w=>∃κ j e k f,Fr (19) [] [(0,.slice m d.length o),(1,.func (.func 83) #[pt g 0] #[]),(7,vi (d.length:Int)),(8,vi f)] a∧SS s u l κ w (k0f g h j i e k) [k3a m o d]∧M.kH N n d k f=some r) ?_ ?_)))))))
 exact ⟨_,I,z,C,0,b.kp [0,1,7,8],c.sp [0,1] [0],H⟩
 rintro n a w ⟨κ,j,e,k,f,b,c,H⟩
 rcases n with _|x
 simp [M.kH] at H
 simp only [M.kH] at H
 refine qr λ_ P=>wp 1 [0,1,7,8,9] b λa b=>P _ _ (qs λ_ Q=>bc b H (λhb H=>?_) λhb H=>?_)
 refine sk (Q _ _ (qs λ_ R=>bk (qr λ_ S=>(wp 2 [0,1,5,7,8] b λa b=>(S _ _ (qr λ_ T=>(jE (L':=k16 m d.length o (.func 83) #[pt g 0] #[] f (d.length:Int)) 3 [0,1,5,7,8,11,12,13] b kr λa b=>bd H λA p H=>wc (kR b c kr 0 (E:=9) (sz:=1) rfl rfl rfl kr rfl p kr kr λZ aa a y b=>wc (mH (t:=lC) b c kr 0 0 (v := .string (A)) rfl rfl y rfl p kr kr kr λa b=>?_)))))))))
 refine bd H λU G H=>wc (wcS 2 [0,1] b c (λc=>qU N k A h j e i g (c.sbK []) G) ?_)
 rintro _ κ w a ⟨B,q,rfl,X⟩ b D
 have c:=D _ _ X
 refine T _ _ (bc b H (λhb H=>?_) λhb H=>?_)
 refine qr λ_ V=>wp 2 [4] b λa b=>V _ _ (rt ?_)
 cases H
 exact j7 b c (l4 results132 (rvt b)) ⟨B,q,rfl,c.sp [0,1] []⟩
 refine sk (R _ _ (rl (wp 2 [0,1,7,8] b λa b=>nl ?_)))
 exact ⟨x,jb _,_,B,q,U.2,i64.wrap (f+1),b.kp [0,1,7,8],c.sp [0,1] [0],H⟩
 refine xt (L _ _ (qr λ_ W=>wp 1 [4] b λa b=>W _ _ (rt ?_)))
 cases H
 exact j7 b c (l4 results132 (rvt b)) ⟨j,e,rfl,c.sp [0,1] []⟩
theorem s4 (N){j}{k}{f}(g)(l)(m)(n)(d)(t)(i)(e)(h)(o:SB j k f (k0f h d t e i l) [k3a m n g]){r}(H:M.kI N g l=some r) :
    Calls Tryz.prog 112 #[.slice m g.length n,.func (.func 83) #[pt h 0] #[]] f (kP j k f λv κ w=>∃u p,v=vb r.1∧SS j k f κ w (k0f h d u e p r.2) []):=by
 have c:=o.hS
 have B:=c.fresh
 refine en func112 rfl ntmps112 λa b=>?_
 unfold M.kI at H
 refine qr λ_ x=>wp 1 [0,1] b λa b=>x _ _ (qr λ_ y=>wp 2 [5,6] b λa b=>bd H λC q H=>wc (wcS 2 [0,1] b c (λc=>sQ N g l m n d t i e h (c.sbK [0]) q) ?_))
 rintro _ κ w a ⟨z,s,rfl,A⟩ b o
 have c:=o _ _ A
 refine wp 2 [4] b λa b=>y _ _ (rt ?_)
 cases H
 exact j7 b c (l4 results112 (rvt b)) ⟨z,s,rfl,c.sp [0,1] []⟩
theorem A7 (N){Ms}{κ0}{w0}(I)(a3)(W)(L)(a5)(f:(List i9))(y)(p4)(a6)(z)(u)(P)(A)(l)(g)(B)(C)(o)(bI)(a8)(p)(i)(j)(q)(e)(X:SB Ms κ0 w0 (k28 e I y p4 z u l g o bI p i f.length j q a6 a3 P A B C a8 a5) (k29 u P A W g B C L i j f)){r}(H:M.s9 N I a3 W L a5 f=some r) :
    Calls Tryz.prog 78 #[pt e 0] w0 (kP Ms κ0 w0 λv κ w=>∃a9 aV ba aW aH aI,v = .tuple #[]∧SS Ms κ0 w0 κ w (k28 e I y a9 z u l g o ba p aH r.2.2.length aI q aV r.1 P A B C aW r.2.1) [k3k aH aI r.2.2]):=by
 have d:=X.hS
 have bV:=d.fresh
 refine enL [k35 e] func78 rfl ntmps78 λa b=>?_
 unfold M.s9 at H
 refine qs λ_ bJ=>qs λ_ bK=>bd H λO x H=>kL (λa w=>∃κ s D az Y,Fr (104) [] [k35 e,(43,vb O.2.2)] a∧SS Ms κ0 w0 κ w (k28 e I y s z u l g o az p i f.length j q D O.1 P A B C Y O.2.1) (k29 u P A W g B C L i j f)∧True) ?_ ?_
 refine kY x (λho x=>?_) (λai ho x=>?_)
 obtain ⟨F,d⟩:=d.optN 5 rfl ho
 rw [F] at d
 try rw [F] at b
 refine rga (λ_=>True) [] ?_
 have d:=d.drew
 refine anp [0,1,2] [0,8] b ja λa b=>mI d [36] (atk 3 (some 9) b (d.sx [0,2,3,4,5] [0,1,2]) rfl (vld 0 8 0) λa b=>jN (ra 4 32) [0,21,25,33,41] (L':=[k35 e,(21,vb true),(25,undef),(33,undef),(41,undef)]) (listed':=(mV 38 68719476735)) (fuel:=2) b (d.sx [0,2,3,4,5] [0,1,2]) kr (by intro c a w t v h; cases t<;>exact h) kr rfl λa b=>agn [36] ⟨LA 36 b rfl ?_,ja⟩)
 intro a b
 refine ⟨notE,?_⟩
 refine u1 [37] [0,43] b notE λa b=>?_
 have b:Fr (104) _ [k35 e,(43,vb true)] a:=b.kp [0,43]
 refine kN ?_
 cases x
 exact ⟨_,p4,a6,none,[],b.kp [0,43],d.sp (rg 6) [0,1,2],ja⟩
 obtain ⟨aj,F,d⟩:=d.optS 5 rfl ho
 rw [F] at d
 try rw [F] at b
 obtain ⟨_,d⟩:=d.unfI (ck:=lA) (fs:=l8) 5 rfl
 refine bd x λaA ho x=>?_
 obtain ⟨V,F,d⟩:=d.optS 3 rfl ho
 rw [F] at d
 try rw [F] at b
 obtain ⟨⟨aJ,aL,aM,aO,aP⟩,d⟩:=d.unfI (ck:=l3) (fs:=kZ) 3 rfl
 refine bd x λbL J x=>kL (λa w=>∃κ am an,Fr (104) [] [k35 e,(43,vb bL)] a∧SS Ms κ0 w0 κ w [.box e 87 [si I,(13,y),k3v V,(14,z),sm u,(1,l),sm g,(1,o),k3v aj,(8,p),sl i f.length j,(1,q)],k3j i f.length j,k4f V am aA,mx u P A,mx g B C,k4q aj an ai] (k29 u P A W g B C L i j f)∧True) ?_ ?_
 refine rgX d [0,1,3,4,6,7] ?_
 have d:=d.drew
 have G:=d.px [0,1,3,4,6,7]
 refine anp [0,1,2] [0,8] b G λa b=>atk 3 (some 9) b G rfl (vld 3 8 0) λa b=>anp (ra 4 5) [0,11,14] b G λa b=>atk 9 (some 15) b G rfl (vld 3 8 0) λa b=>anp [10,11] [0,11,17] b G λa b=>atk 12 (some 18) b G rfl (vld 2 5 0) λa b=>anp [13,14,15] [0,21] b G λa b=>bs J (λhb J=>?_) λhb J=>?_
 have b:=b.bv 21 hb
 refine anp (ra 16 22) [0,43] b G λa b=>kN ?_
 obtain ⟨be,d⟩:=d.foldI (ck:=l3) (fs:=kZ) V (aJ,aL,aM,aO,aP) aA [0,1,2] (ra 3 5) [0] dc kr kr
 obtain ⟨bf,d⟩:=d.foldI (ck:=lA) (fs:=l8) aj () ai [1] [0,2,3,4,5] [] dc kr kr
 cases J
 exact ⟨_,be,bf,b.kp [0,43],d.sp [2,3,1,4,5,0] [1,2,3],ja⟩
 have b:=b.bv 21 hb
 refine anp [16,17,18,20,21,22,28,29,30] [0,21,24,28,36] b G λa b=>atk 19 (some 25) b G rfl (vld 3 2 0) λa b=>atk 23 (some 29) b G rfl (vld 3 8 0) λa b=>anp [24,25,26] [0,21,25,32,36] b G λa b=>atk 27 (some 33) b G rfl (vld 2 0 0) λa b=>atk 31 (some 37) b G rfl (vld 3 8 0) λa b=>anp [32,33,34] [0,21,25,33,40] b G λa b=>atk 35 (some 41) b G rfl (vld 2 1 0) λa b=>ago 36 b rfl (bd J λbW bg J=>wcS 3 (rg 8) b d (λd=>xV N aA ai.span.Lo ai.span.Hi aJ aL aM aO aP V (d.sbK [0]) bg) ?_)
 rintro _ κ w a ⟨bh,rfl,h2⟩ b X
 have d:=X _ _ h2
 refine ⟨λ_=>(d.sx [0,1,3,4,6,7] (rg 4)),?_⟩
 refine anp [37] [0,43] b (d.sx [0,1,3,4,6,7] (rg 4)) λa b=>kN ?_
 obtain ⟨bi,d⟩:=d.foldI (ck:=l3) (fs:=kZ) V (aJ,aL,aM,aO,bh) aA [0,1,2] (ra 3 5) [0] dc kr kr
 obtain ⟨bj,d⟩:=d.foldI (ck:=lA) (fs:=l8) aj () ai [1] [0,2,3,4,5] [] dc kr kr
 cases J
 exact ⟨_,bi,bj,b.kp [0,43],d.sp [2,3,1,4,5,0] [1,2,3],ja⟩
 rintro a w ⟨κ,am,an,b,d,-⟩
 cases x
 exact ⟨_,(some V),am,(some aj),an,b.kp [0,43],d.sp (rg 6) [0,1,2],ja⟩
 rintro a w ⟨κ,s,D,az,Y,b,d,-⟩
 refine bK _ _ (bc b H (λhb H=>?_) λhb H=>?_)
 refine rt ?_
 cases H
 exact j7 b d (mL results78) ⟨s,D,az,Y,i,j,rfl,d.sp (rg 6) [2]⟩
 refine sk (bJ _ _ (qs λ_ bM=>qr λ_ bN=>(jE (L':=[k35 e,(46,pt e 29)]) 3 [0,46] b kr λa b=>wc (wld b d 0 4 0 λa b=>wc (xW (KT:=32) (E:=95) (kt:=(kInt .u64)) (agg:=true) (t:=kO) b d kr 3 0 rfl kr rfl rfl kr λaQ a w b d=>(bN _ _ (bk (jT (n:=N) (λn a w=>∃κ R Q S aq Z,Fr (104) [] [k35 e,(48,pt aQ 0)] a∧SS Ms κ0 w0 κ w [.box e 87 [si I,(13,y),sp s,(14,z),sm u,(1,l),sm g,(1,o),sp R,(8,p),sl i f.length j,(1,q)],k3j i f.length j,k48 s D O.1,mx u P A,mx g B C,k3p R Q S,.ext (objX (some aQ) (itO u A aq))] [k4a u P A W,k4c g B C L,k3k i j f,It.mp (kInt .u64) P aq Z]∧M.nJ N n I W L f O S Z=some r) ?_ ?_))))))))
 exact ⟨_,az,Y,O.2.1,#[],(pP W),b.kp [0,48],d.sp [1,2,3,4,5,6,0] [1,2,3,0],H⟩
 rintro n a w ⟨κ,R,Q,S,aq,Z,b,d,H⟩
 rcases n with _|aX
 simp [M.nJ] at H
 simp only [M.nJ] at H
 refine qr λ_ aR=>(wc (zO (kt:=(kInt .u64)) (agg:=true) (t:=kO) b d kr 3 6 0 3 rfl kr rfl rfl rfl rfl H ?_ ?_))
 intro H a b
 refine wp 1 [0,48,50] b λa b=>(aR _ _ (qs λ_ bR=>cf b rfl (xt (bM _ _ (qs λ_ bl=>qr λ_ bm=>(jE (L':=[k35 e,(59,pt e 31)]) 3 [0,59] b kr λa b=>wc (wld b d 0 6 0 λa b=>wc (xW (KT:=32) (E:=138) (kt:=(kInt .u64)) (agg:=true) (t:=mE) b d kr 4 1 rfl kr rfl rfl kr λT a w b d=>(bm _ _ (bk (jT (n:=N) (λn a w=>∃κ aa ab ad ar ae,Fr (104) [] [k35 e,(61,pt T 0)] a∧SS Ms κ0 w0 κ w [.box e 87 [si I,(13,y),sp s,(14,z),sm u,(1,l),sm g,(1,o),sp aa,(8,p),sl i f.length j,(1,q)],k3j i f.length j,k48 s D O.1,mx u P A,mx g B C,k3p aa ab ad,.ext (objX (some T) (itO g C ar))] [k4a u P A W,k4c g B C L,k3k i j f,It.mp (kInt .u64) B ar ae]∧M.nI N n I W L f O ad ae=some r) ?_ ?_)))))))))))
 exact ⟨_,R,Q,S,#[],(pP L),b.kp [0,61],d.sp [1,2,3,4,5,6,0] [1,2,3,0],H⟩
 rintro n a w ⟨κ,aa,ab,ad,ar,ae,b,d,H⟩
 rcases n with _|aY
 simp [M.nI] at H
 simp only [M.nI] at H
 refine qr λ_ aS=>(wc (zO (kt:=(kInt .u64)) (agg:=true) (t:=mE) b d kr 4 6 1 3 rfl kr rfl rfl rfl rfl H ?_ ?_))
 intro H a b
 refine jE (L':=[k35 e,(61,pt T 0),(63,vb false)]) 1 [0,61,63] b kr λa b=>aS _ _ (qs λ_ bS=>cf b rfl (xt (bl _ _ (qs λ_ bn=>bd H λk ho H=>?_))))
 obtain ⟨U,F,d⟩:=d.optS 5 rfl ho
 rw [F] at d
 try rw [F] at b
 obtain ⟨_,d⟩:=d.unfI (ck:=lA) (fs:=l8) 5 rfl
 refine rl (wp 3 [0,73] b λa b=>wc (wld b d 1 8 0 λa b=>wp 2 [0,76] b λa b=>wc (wst b d 0 5 1 [si 1] (sgN 1 jD) λa w b d=>nl ?_)))
 obtain ⟨bO,d⟩:=d.foldI (ck:=lA) (fs:=l8) U () (j8.mk k.span k.shard k.to 1) [0] (ra 1 6) [] dc kr kr
 refine bn _ _ ?_
 obtain ⟨_,d⟩:=d.unfI (ck:=lA) (fs:=l8) 0 rfl
 refine rga (λ_=>True) [] ?_
 have d:=d.drew
 refine anp [0,1,2,3,9,10,11,17,18,19] [77,80,88,96] b ja λa b=>mI d [26] (atk 4 (some 81) b (d.sx [0,1,3,4,5,6] (rg 4)) rfl (vld 1 8 0) λa b=>anp [5,6,7] [77,84,88,96] b (d.sx [0,1,3,4,5,6] (rg 4)) λa b=>atk 8 (some 85) b (d.sx [0,1,3,4,5,6] (rg 4)) rfl (vld 0 2 0) λa b=>atk 12 (some 89) b (d.sx [0,1,3,4,5,6] (rg 4)) rfl (vld 1 8 0) λa b=>anp [13,14,15] [77,85,92,96] b (d.sx [0,1,3,4,5,6] (rg 4)) λa b=>atk 16 (some 93) b (d.sx [0,1,3,4,5,6] (rg 4)) rfl (vld 0 0 0) λa b=>atk 20 (some 97) b (d.sx [0,1,3,4,5,6] (rg 4)) rfl (vld 1 8 0) λa b=>?_)
 refine anp [21,22,23] [77,85,93,100] b (d.sx [0,1,3,4,5,6] (rg 4)) λa b=>atk 24 (some 101) b (d.sx [0,1,3,4,5,6] (rg 4)) rfl (vld 0 1 0) λa b=>anp [25] [77,85,102] b (d.sx [0,1,3,4,5,6] (rg 4)) λa b=>ago 26 b rfl ?_
 have d:=d.add (m:=Ro.mp jG.ty none 0 ([]:List jB)) (Ro.nil jG.ty _ _)
 have d:=d.add (m:=Ro.mp (fInt .u64).ty none 0 ([]:List Int)) (Ro.nil (fInt .u64).ty _ _)
 refine bd H λbo aZ H=>?_
 have aE:=d.segs 1 rfl
 refine wcS 2 [1,2,0,3,4,5,6] b d (λd=>lJ N I f (((j8.mk k.span k.shard k.to 1).span).Node) (jF.mk 5 0 1 0 (((j8.mk k.span k.shard k.to 1).span).Lo) (((j8.mk k.span k.shard k.to 1).span).Hi) ([]:List jB) ([]:List Int) (jU.mk 0 0 0 0 0 empty)) (flat [(13,y),sp s,(14,z),sm u,(1,l),sm g,(1,o),k3v U,(8,p)]) i j q none 0 none 0 e ((d.regr 0 [(false,1),(true,9),(false,2)] rfl).sbK [4,1,0]) aZ) ?_
 rintro _ κ w a ⟨aT,aU,rfl,h2⟩ b X
 have d:=(X _ _ h2).unregrK 0 [(false,1),(true,9),(false,2)] (s':=[si I,(13,y),sp s,(14,z),sm u,(1,l),sm g,(1,o),k3v U,(8,p),sl aT bo.length aU,(1,q)]) aE rfl
 refine ⟨notE,?_⟩
 refine kN ?_
 obtain ⟨a0,d⟩:=d.foldI (ck:=lA) (fs:=l8) U () (j8.mk k.span k.shard k.to 1) [2] [0,1,3,4,5,6] [] dc kr kr
 cases H
 exact j7 b d (mL results78) ⟨s,D,(some U),a0,aT,aU,rfl,d.sp [1,2,3,4,5,0] [0]⟩
 intro K bP bq a w H b d
 refine jE (L':=[k35 e,(61,pt T 0),(63,vb true)]) 1 [0,61,63] b kr λa b=>(aS _ _ (qs λ_ br=>ct b rfl (sk (br _ _ (bk (qr λ_ bt=>(wc (xX (kt:=(kInt .u64)) (agg:=true) (t:=mE) b d kr 4 6 3 0 rfl kr rfl rfl rfl rfl ?_))))))))
 rintro _ a ⟨⟨au,av⟩,rfl,hR⟩ b
 have d:=d.adds hR
 refine wp 1 [0,61,65] b λa b=>wc (wal b d [si 0,si 0,si 0,k37] (sgN 4 jD) λbT a w b d=>wc (wst b d 0 0 4 [si K.2.dc,si K.2.at_,si K.2.left,sl au K.2.keys.length av] (sgN 4 jD) λa w b d=>(bt _ _ (qr λ_ bw=>(wp 1 [0,61,66] b λa b=>wc (wld b d 0 3 0 λa b=>jE (L':=[k35 e,(61,pt T 0),(67,.slice au K.2.keys.length av),(68,pt e 0)]) 1 [0,61,67,68] b kr λa b=>wc (kQ b kr (v := .func (.func 83) #[pt e 0] #[]) (CG (caps := #[]) (bnd := #[pt e 0]) rfl kr kr _) λa b=>?_)))))))
 refine bd H λbx a2 H=>?_
 have aF:=d.segs 1 rfl
 refine wc (wcS 2 [1,6,0,2,3,4,5,7] b d (λd=>s4 N K.2.keys ad au av (flat [si I,(13,y),sp s,(14,z),sm u,(1,l),sm g,(1,o)]) aa ab (flat [(8,p),sl i f.length j,(1,q)]) e ((d.regr 0 [(true,8),(false,1),(true,3)] rfl).sbK [0]) a2) ?_)
 rintro _ κ w a ⟨aw,aB,rfl,h2⟩ b X
 have d:=(X _ _ h2).unregrK 0 [(true,8),(false,1),(true,3)] (s':=[si I,(13,y),sp s,(14,z),sm u,(1,l),sm g,(1,o),sp aw,(8,p),sl i f.length j,(1,q)]) aF rfl
 refine bw _ _ (bc b H (λhb H=>?_) λhb H=>?_)
 refine rt ?_
 cases H
 exact j7 b d (mL results78) ⟨s,D,aw,aB,i,j,rfl,d.sp [0,3,4,5,6,1] [5]⟩
 refine sk ?_
 exact ⟨aY,jb _,_,aw,aB,bx.2,bq,(kRem ae K.1),b.kp [0,61],d.sp [0,3,4,5,6,1,7] [3,4,5,2],H⟩
 intro ax bQ bz a w H b d
 refine jE (L':=[k35 e,(48,pt aQ 0),(50,vb true)]) 1 [0,48,50] b kr λa b=>(aR _ _ (qs λ_ bA=>ct b rfl (sk (bA _ _ (bk (qr λ_ bB=>(wc (xX (kt:=(kInt .u64)) (agg:=true) (t:=kO) b d kr 3 6 2 0 rfl kr rfl rfl rfl rfl ?_))))))))
 rintro _ a ⟨⟨bC,bD⟩,rfl,hR⟩ b
 have d:=d.adds hR
 refine wp 1 [0,48,52] b λa b=>wc (wal b d (k14 empty) (sgN 5 jD) λbU a w b d=>wc (wst b d 0 0 5 (k13 ax.2 bC bD) (sgN 5 jD) λa w b d=>bB _ _ (qr λ_ bE=>wp 2 [0,48,53,54] b λa b=>wc (wld b d 0 2 0 λa b=>bd H λbF a4 H=>?_))))
 have aG:=d.segs 1 rfl
 refine wc (wcS 2 [1,6,0,2,3,4,5,7] b d (λd=>qU N S ax.2.key (flat [si I,(13,y),sp s,(14,z),sm u,(1,l),sm g,(1,o)]) R Q (flat [(8,p),sl i f.length j,(1,q)]) e ((d.regr 0 [(true,8),(false,1),(true,3)] rfl).sbK []) a4) ?_)
 rintro _ κ w a ⟨ay,aD,rfl,h2⟩ b X
 have d:=(X _ _ h2).unregrK 0 [(true,8),(false,1),(true,3)] (s':=[si I,(13,y),sp s,(14,z),sm u,(1,l),sm g,(1,o),sp ay,(8,p),sl i f.length j,(1,q)]) aG rfl
 refine bE _ _ (bc b H (λhb H=>?_) λhb H=>?_)
 refine rt ?_
 cases H
 exact j7 b d (mL results78) ⟨s,D,ay,aD,i,j,rfl,d.sp [0,3,4,5,6,1] [5]⟩
 refine sk ?_
 exact ⟨aX,jb _,_,ay,aD,bF.2,bz,(kRem Z ax.1),b.kp [0,48],d.sp [0,3,4,5,6,1,7] [3,4,5,2],H⟩
theorem zJ (N){Ms}{κ0}{w0}(R)(S)(Q)(T)(a7)(aH)(ah)(Y)(g:(List Int))(z)(A)(aY)(I)(ai:(List i9))(L)(O)(p8)(aZ)(p)(Z)(an)(q)(j)(F)(G)(s)(l)(o)(aj)(ak)(u)(f)(hB:SB Ms κ0 w0 (k2a f R L S Q O T p8 p Z ah q j s l g.length o z A aY I aj ai.length ak u aZ a7 (arrX j6 Z an aH) F G) (k1s (ml Z 4) (ml ah 4) j F G Y l o g aj ak ai)){r}(H:M.rS N R S Q T a7 aH ah Y g z A aY I ai=some r) :
    Calls Tryz.prog 79 #[pt f 0] w0 (kP Ms κ0 w0 λv κ w=>∃bJ bu ba bw bm bn,v = .tuple #[]∧SS Ms κ0 w0 κ w (k2a f R L S Q O T bJ p ba r.2.2.1 q j s l g.length o z A r.2.2.2.1 r.u4.1 bm r.u4.2.length bn u bu r.1 (arrX j6 ba bw r.2.1) F G) [(ml ba 4),(ml r.2.2.1 4),k3k bm bn r.u4.2]):=by
 have d:=hB.hS
 have cq:=d.fresh
 refine en func79 rfl ntmps79 λa b=>?_
 unfold M.rS at H
 refine qs λ_ b7=>qr λ_ b8=>bd H λb9 ax H=>k8 (λa w=>∃κ,Fr (129) [] [k35 f,(14,vb b9)] a∧SS Ms κ0 w0 κ w (k2a f R L S Q O T p8 p Z ah q j s l g.length o z A aY I aj ai.length ak u aZ a7 (arrX j6 Z an aH) F G) (k1s (ml Z 4) (ml ah 4) j F G Y l o g aj ak ai)∧True) ?_ ?_
 refine wp 3 [0,6] b λa b=>wc (wld b d 0 2 0 λa b=>wp 2 [0,9] b λa b=>bs ax (λhb ax=>?_) λhb ax=>?_)
 have b:=b.bv 9 hb
 refine wp 5 [0,14] b λa b=>nl ?_
 cases ax
 exact ⟨_,b.kp [0,14],d.sp (rg 5) (rg 5),ja⟩
 have b:=b.bv 9 hb
 refine wp 3 [0,9,12] b λa b=>wcg b (wld b d 0 17 0 λa b=>wp 1 [0,14] b λa b=>nl ?_)
 cases ax
 exact ⟨_,b.kp [0,14],d.sp (rg 5) (rg 5),ja⟩
 rintro a w ⟨κ,b,d,-⟩
 refine b8 _ _ (bc b H (λhb H=>?_) λhb H=>?_)
 refine rt ?_
 cases H
 exact j7 b d (mL results79) ⟨p8,aZ,Z,an,aj,ak,rfl,d.sp (rg 5) [0,1,4]⟩
 refine sk (b7 _ _ (m2 (λa w=>∃κ bE bo bq aa ay bf ao aI,∃aq:List i9,∃ar au,Fr (129) [] [k35 f] a∧SS Ms κ0 w0 κ w (k2a f R L S Q O T bE p aa ao q j s l g.length o z A aI I ar aq.length au u bo bq (arrX j6 aa ay bf) F G) (k1s (ml aa 4) (ml ao 4) j F G Y l o g ar au aq)∧M.oX N R S Q T Y g z A I bq bf ao aI aq=some r) ?_ ?_))
 refine qr λ_ ca=>bd H λcb W H=>k8 (λa w=>∃κ,Fr (129) [] [k35 f,(35,vb cb)] a∧SS Ms κ0 w0 κ w (k2a f R L S Q O T p8 p Z ah q j s l g.length o z A aY I aj ai.length ak u aZ a7 (arrX j6 Z an aH) F G) (k1s (ml Z 4) (ml ah 4) j F G Y l o g aj ak ai)∧True) ?_ ?_
 refine wp 3 [0,17] b λa b=>wc (wld b d 0 16 0 λa b=>wp 2 [0,20] b λa b=>bs W (λhb W=>?_) λhb W=>?_)
 have b:=b.bv 20 hb
 refine wp 3 [0,20,23] b λa b=>wcg b (wld b d 0 13 0 λa b=>wp 4 [0,28] b λa b=>bs W (λhb W=>?_) λhb W=>?_)
 have b:=b.bv 28 hb
 refine jE (L':=[k35 f,(28,vb true),(31,pt f 31)]) 3 [0,28,31] b kr λa b=>wcg b (wld b d 0 11 0 λa b=>wcg b (vO (KT:=32) (E:=138) (kt:=(kInt .u64)) (agg:=true) (t:=mE) b d kr 4 2 rfl kr rfl rfl kr λa b=>wp 2 [0,35] b λa b=>nl ?_))
 cases W
 exact ⟨_,b.kp [0,35],d.sp (rg 5) (rg 5),ja⟩
 have b:=b.bv 28 hb
 refine wp 7 [0,35] b λa b=>nl ?_
 cases W
 exact ⟨_,b.kp [0,35],d.sp (rg 5) (rg 5),ja⟩
 have b:=b.bv 20 hb
 refine wp 15 [0,35] b λa b=>nl ?_
 cases W
 exact ⟨_,b.kp [0,35],d.sp (rg 5) (rg 5),ja⟩
 rintro a w ⟨κ,b,d,-⟩
 refine ca _ _ (bc b H (λhb H=>?_) λhb H=>?_)
 refine qr λ_ cc=>(jE (L':=[k35 f,(38,pt f 40)]) 3 [0,38] b kr λa b=>wc (wst b d 0 16 1 [sb true] (sgN 1 jD) λa w b d=>cc _ _ (qs λ_ cd=>bd H λab ho H=>?_)))
 obtain ⟨P,a0,d⟩:=d.optS 2 rfl ho
 rw [a0] at d
 try rw [a0] at b
 obtain ⟨⟨bF,bG⟩,d⟩:=d.unfI (ck:=jP) (fs:=jO) 2 rfl
 refine rl (wp 3 [0,41] b λa b=>wc (wld b d 2 6 0 λa b=>bd H λV bK H=>wc (wcS 2 (rg 6) b d (λd=>pN N ab bF bG P (d.sbK (rg 4)) bK) ?_)))
 rintro _ κ w a ⟨rfl,h2⟩ b hB
 have d:=hB _ _ h2
 refine wp 1 [0,43,44] b λa b=>nl ?_
 obtain ⟨af,d⟩:=d.foldI (ck:=jP) (fs:=jO) P (bF,bG) ab [0,1] (ra 2 4) (ra 1 4) dc kr kr
 refine cd _ _ (bk (jT (n:=N) (λn a w=>∃κ k ae U x,∃B:List i9,∃J K e,Fr (129) [] [k35 f,(43,.agg (flat [eb 4 V]).toArray),(44,vi e)] a∧SS Ms κ0 w0 κ w (k2b f R L S Q O T P p k x q j s l g.length o z A I J B.length K u af ab (arrX j6 k ae U) F G) (k2c (ml k 4) (ml x 4) j F G Y l o g J K B (ml V 4))∧M.m9 N n R S Q T Y g z A I ab V U x B e=some r) ?_ ?_))
 exact ⟨_,Z,an,aH,ah,ai,aj,ak,0,b.kp [0,43,44],d.sp [1,2,0,3,4] [5,6,7,8,9,0],H⟩
 rintro n a w ⟨κ,k,ae,U,x,B,J,K,e,b,d,H⟩
 rcases n with _|bg
 simp [M.m9] at H
 simp only [M.m9] at H
 refine qr λ_ bL=>wp 1 [0,43,44,45] b λa b=>bL _ _ (qs λ_ bM=>bc b H (λhb H=>?_) λhb H=>?_)
 refine sk (bM _ _ (m2 (λa w=>∃κ az aM aO aA,∃aB:List i9,∃aP aQ,Fr (129) [] [k35 f,(43,.agg (flat [eb 4 V]).toArray),(44,vi e)] a∧SS Ms κ0 w0 κ w (k2b f R L S Q O T P p az aA q j s l g.length o z A I aP aB.length aQ u af ab (arrX j6 az aM aO) F G) (k2c (ml az 4) (ml aA 4) j F G Y l o g aP aQ aB (ml V 4))∧M.q7 N (M.m9 N bg) R S Q T Y g z A I ab V e aO aA aB=some r) ?_ ?_))
 refine bk (qr λ_ bN=>(jE (L':=[k35 f,(43,.agg (flat [eb 4 V]).toArray),(44,vi e),(46,vi e)]) 1 [0,43,44,46] b kr λa b=>bd H λbO bx H=>wc (kQ b kr (v:=vb bO) (pJ (t:=jM) (E:=4) (n:=4) (m:=4) rfl kr rfl bx (d.get 5 rfl) rfl rfl kr kr kr _) λa b=>wp 2 [0,2,3,43,44] b λa b=>bN _ _ (qr λ_ bP=>bd H λbQ al H=>k8 (λa w=>∃κ,Fr (129) [] [k35 f,k36 e,(43,.agg (flat [eb 4 V]).toArray),(44,vi e),(56,vb bQ)] a∧SS Ms κ0 w0 κ w (k2b f R L S Q O T P p k x q j s l g.length o z A I J B.length K u af ab (arrX j6 k ae U) F G) (k2c (ml k 4) (ml x 4) j F G Y l o g J K B (ml V 4))∧True) ?_ ?_))))
 refine wp 2 [0,2,43,44,49] b λa b=>bs al (λhb al=>?_) λhb al=>?_
 have b:=b.bv 49 hb
 refine wp 4 [0,2,43,44,49,50,53] b λa b=>wcg b (wld b d 0 0 0 λa b=>wp 2 [0,2,43,44,56] b λa b=>nl ?_)
 cases al
 exact ⟨_,b.kp [0,2,43,44,56],d.sp (rg 5) (rg 6),ja⟩
 have b:=b.bv 49 hb
 refine wp 7 [0,2,43,44,56] b λa b=>nl ?_
 cases al
 exact ⟨_,b.kp [0,2,43,44,56],d.sp (rg 5) (rg 6),ja⟩
 rintro a w ⟨κ,b,d,-⟩
 refine bP _ _ (bc b H (λhb H=>?_) λhb H=>?_)
 refine qs λ_ bR=>bd H λcj bz H=>?_
 obtain ⟨bS,aD⟩:=d.arrIdx 3 rfl bz
 have d:=d.add (m:=MP.const (idx k e=some bS)) aD
 refine rgS d [16,20] ?_
 have d:=d.drew
 have X:=d.fx
 refine jN [0,1,4,5,6,8,13,14] [0,2,43,44,58,63,65,71] (L':=[k35 f,k36 e,(43,.agg (flat [eb 4 V]).toArray),(44,vi e),(58,vi e),(63,pt f 37),(65,vi e),(71,pt f 16)]) (listed':=(mV 21 24947)) (fuel:=13) b X kr (by intro c a w t v h; cases t<;>exact h) kr rfl λa b=>u1 [2,3,17,18] [0,2,43,44,58,60,63,65,71,74] b (λ_=>X) λa b=>?_
 have b:Fr (129) _ [k35 f,k36 e,(43,.agg (flat [eb 4 V]).toArray),(44,vi e),(58,vi e),(60,vi e),(63,pt f 37),(65,vi e),(71,pt f 16),(74,pt f 20)] a:=b.kp [0,2,43,44,58,60,63,65,71,74]
 refine atk 7 (some 64) b X rfl (vld 0 13 0) λa b=>bd H λbe aR H=>?_
 obtain ⟨cl,cm,a2⟩:=d.ptr 4 rfl aR
 refine atk 9 (some 66) b (d.sx [0,2,3,4] (rg 7)) rfl (λw _=>mP (E:=32) (sz:=1) rfl a2 rfl kr rfl aR kr kr w) λa b=>atk 10 (some 67) b (d.sx [0,2,3,4] (rg 7)) rfl (qO (t:=(fInt .u64)) 4 0 (v:=vu be) rfl rfl a2 rfl aR kr kr kr) λa b=>jN [11] [0,2,43,44,58,60,68,71,74] (L':=[k35 f,k36 e,(43,.agg (flat [eb 4 V]).toArray),(44,vi e),(58,vi e),(60,vi e),(68,vi (i64.wrap be)),(71,pt f 16),(74,pt f 20)]) (listed':=(mV 21 421887)) (fuel:=5) b (d.sx [0,2,3,4] (rg 7)) kr (by intro c a w t v h; cases t<;>exact h) kr rfl λa b=>?_
 refine ago 12 b rfl (bd H λaE bA H=>wcS 0 (rg 5) b d (λd=>y9 N (i64.wrap be) (d.sbK []) bA) ?_)
 rintro _ κ w a ⟨C,bT,bU,bV,bW,bX,bY,bZ,rfl,h2⟩ b hB
 have d:=hB _ _ h2
 refine ⟨λ_=>(d.sx [4,6,7,8] (ra 2 7)),?_⟩
 refine atk 15 (some 72) b (d.sx [4,6,7,8] (ra 2 7)) rfl (λw _=>lU (E:=81) (sz:=1) (n:=4) rfl rfl (i:=e) rfl (m4 aD (d.get 3 rfl)) kr kr w) λa b=>ago 16 b rfl ?_
 obtain ⟨bB,d⟩:=d.foldI (ck:=lO) (fs:=lN) C (bT,bU,bV,bW,bX,bY,bZ) aE [0,3,1,2] (ra 4 5) [0,1] dc kr kr
 refine lK (t:=pO) (y:=(some C)) (v:=pt C 0) b d kr 1 8 (s':=[si R,(1,L),si S,si Q,(7,O),sb T,k3v P,(3,p),k4d (set k (toNat e) (some C)),ei 4 x,(7,q),sm j,(5,s),sl l g.length o,su z,sb A,sb true,sb I,sl J B.length K,(1,u)]) (C':=[ox j6 (some C) bB (some aE),k4w f R L S Q O T P p (set k (toNat e) (some C)) x q j s l g.length o z A I J B.length K u,k3j J B.length K,k4m P af ab,.ext (arrX j6 k ae U),mx j F G]) rfl rfl kr rfl rfl aD rfl rfl kr kr kr kr λa w b d=>?_
 have d:=d.add (m:=ml (set k (toNat e) (some C)) 4) (List.length_set.trans (d.get 3 rfl))
 obtain ⟨aS,d⟩:=d.arrSetI 0 4 [1,2,3,5] dc (toNat e) rfl rfl
 refine ⟨notE,?_⟩
 refine ago 19 b rfl (bd H λcn bh H=>l7 b kr (E:=3) (sz:=1) (n:=4) rfl rfl (i:=e) rfl (m4 bh (d.get 5 rfl)) kr kr λa b=>⟨notE,?_⟩)
 refine ago 20 b rfl (lK (t:=(fInt .i64)) (y:=0) (v:=vi 0) b d kr 1 9 (s':=[si R,(1,L),si S,si Q,(7,O),sb T,k3v P,(3,p),k4d (set k (toNat e) (some C)),ei 4 (set x (toNat e) 0),(7,q),sm j,(5,s),sl l g.length o,su z,sb A,sb true,sb I,sl J B.length K,(1,u)]) (C':=[.ext (arrX j6 (set k (toNat e) (some C)) aS (set U (toNat e) (some aE))),k4w f R L S Q O T P p (set k (toNat e) (some C)) (set x (toNat e) 0) q j s l g.length o z A I J B.length K u,k3j J B.length K,k4m P af ab,mx j F G]) rfl rfl kr rfl rfl bh rfl rfl kr kr kr kr λa w b d=>?_)
 have d:=d.add (m:=ml (set x (toNat e) 0) 4) (List.length_set.trans (d.get 5 rfl))
 refine ⟨notE,?_⟩
 refine kN (bR _ _ (rga (λ_=>True) [] ?_))
 have d:=d.drew
 refine jN [0,1,3,4,5,7] [0,43,44,76,77,81,83] (L':=[k35 f,(43,.agg (flat [eb 4 V]).toArray),(44,vi e),(76,pt f 0),(77,vi e),(81,pt f 37),(83,vi e)]) (listed':=(mV 12 187)) (fuel:=6) b ja kr (by intro c a w t v h; cases t<;>exact h) kr rfl λa b=>mI d [11] (atk 6 (some 82) b (d.sx [0,1,3,4] (rg 11)) rfl (vld 1 13 0) λa b=>bd H λbr aT H=>?_)
 obtain ⟨co,cp,a5⟩:=d.ptr 8 rfl aT
 refine atk 8 (some 84) b (d.sx [0,1,3,4] (rg 11)) rfl (λw _=>mP (E:=32) (sz:=1) rfl a5 rfl kr rfl aT kr kr w) λa b=>atk 9 (some 85) b (d.sx [0,1,3,4] (rg 11)) rfl (qO (t:=(fInt .u64)) 8 0 (v:=vu br) rfl rfl a5 rfl aT kr kr kr) λa b=>anp [10] [0,43,44,76,77,86] b (d.sx [0,1,3,4] (rg 11)) λa b=>ago 2 b rfl (bd H λb0 bC H=>jR b d kr kr (vF N d.fresh e (-1) ((d.pick [] kr).ro) bC) ?_)
 rintro _ κ w a ⟨rfl,hR,hN⟩ b d hO
 refine ⟨λ_=>(d.sx [0,1,3,4] (rg 11)),?_⟩
 refine ago 11 b rfl ?_
 have d:=d.add (m:=Ro.mp jG.ty none 0 ([]:List jB)) (Ro.nil jG.ty _ _)
 have d:=d.add (m:=Ro.mp (fInt .u64).ty none 0 ([]:List Int)) (Ro.nil (fInt .u64).ty _ _)
 refine bd H λaU bD H=>?_
 have bi:=d.segs 1 rfl
 refine wcS 2 [1,2,0,3,4] b d (λd=>oO N B b0 (jF.mk 20 0 br 0 empty empty ([]:List jB) ([]:List Int) (jU.mk 0 0 0 0 0 empty)) (flat [si R,(1,L),si S,si Q,(7,O),sb T,k3v P,(3,p),k4d (set k (toNat e) (some C)),ei 4 (set x (toNat e) 0),(7,q),sm j,(5,s),sl l g.length o,su z,sb A,sb true,sb I]) J K u none 0 none 0 f ((d.regr 0 [(true,18),(false,2)] rfl).sbK [11,1,0]) bD) ?_
 rintro _ κ w a ⟨aV,aW,rfl,h2⟩ b hB
 have d:=((hB _ _ h2).unregrK 0 [(true,18),(false,2)] (s':=[si R,(1,L),si S,si Q,(7,O),sb T,k3v P,(3,p),k4d (set k (toNat e) (some C)),ei 4 (set x (toNat e) 0),(7,q),sm j,(5,s),sl l g.length o,su z,sb A,sb true,sb I,sl aV aU.length aW,(1,u)]) bi rfl).cC (C':=[k4w f R L S Q O T P p (set k (toNat e) (some C)) (set x (toNat e) 0) q j s l g.length o z A I aV aU.length aW u,k3j aV aU.length aW,.ext (arrX j6 (set k (toNat e) (some C)) aS (set U (toNat e) (some aE))),k4m P af ab,mx j F G])
 refine ⟨notE,?_⟩
 refine kN ?_
 exact ⟨_,(set k (toNat e) (some C)),aS,(set U (toNat e) (some aE)),(set x (toNat e) 0),aU,aV,aW,b.kp [0,43,44],d.sp [0,1,3,2,4] [4,3,10,11,0,13],H⟩
 refine sk ?_
 exact ⟨_,k,ae,U,x,B,J,K,b.kp [0,43,44],d.sp (rg 5) (rg 6),H⟩
 rintro a w ⟨κ,az,aM,aO,aA,aB,aP,aQ,b,d,H⟩
 unfold M.q7 at H
 refine rl (wp 2 [0,43,44] b λa b=>nl ?_)
 exact ⟨bg,jb _,_,az,aM,aO,aA,aB,aP,aQ,i64.wrap (e+1),b.kp [0,43,44],d.sp (rg 5) (rg 6),H⟩
 refine xt ?_
 exact ⟨_,(some P),af,(some ab),k,ae,U,x,true,B,J,K,b.kp [0],d.sp (rg 5) (rg 5),H⟩
 refine sk ?_
 exact ⟨_,p8,aZ,a7,Z,an,aH,ah,aY,ai,aj,ak,b.kp [0],d.sp (rg 5) (rg 5),H⟩
 rintro a w ⟨κ,bE,bo,bq,aa,ay,bf,ao,aI,aq,ar,au,b,d,H⟩
 unfold M.oX at H
 refine qs λ_ ce=>bd H λaJ ho H=>?_
 obtain ⟨ad,a0,d⟩:=d.optS 2 rfl ho
 rw [a0] at d
 try rw [a0] at b
 obtain ⟨⟨a8,a9⟩,d⟩:=d.unfI (ck:=jP) (fs:=jO) 2 rfl
 refine bd H λcg D H=>kL (λa w=>∃κ aX,Fr (129) [] [k35 f,(117,vb cg)] a∧SS Ms κ0 w0 κ w [.box f 87 [si R,(1,L),si S,si Q,(7,O),sb T,k3v ad,(3,p),k4d aa,ei 4 ao,(7,q),sm j,(5,s),sl l g.length o,su z,sb A,sb aI,sb I,sl ar aq.length au,(1,u)],k3j ar aq.length au,k4m ad aX aJ,.ext (arrX j6 aa ay bf),mx j F G] (k1s (ml aa 4) (ml ao 4) j F G Y l o g ar au aq)∧True) ?_ ?_
 refine rgS d [] ?_
 have d:=d.drew
 have X:=d.fx
 refine anp [0,1,2] [0,91] b X λa b=>atk 3 (some 92) b X rfl (vld 2 16 0) λa b=>anp [4] [0,93] b X λa b=>bs D (λhb D=>?_) λhb D=>?_
 have b:=b.bv 93 hb
 refine anp [5,6,7] [0,93,96] b X λa b=>atk 8 (some 97) b X rfl (vld 2 15 0) λa b=>anp [9,10] [0,99] b X λa b=>bs D (λhb D=>?_) λhb D=>?_
 have b:=b.bv 99 hb
 refine anp [11,12,13] [0,99,102] b X λa b=>atk 14 (some 103) b X rfl (vld 2 5 0) λa b=>anp [15,16,17] [0,106] b X λa b=>bs D (λhb D=>?_) λhb D=>?_
 have b:=b.bv 106 hb
 refine anp [18,19,20,23,24,25] [0,106,109,114] b X λa b=>atk 21 (some 110) b X rfl (vld 2 6 0) λa b=>atk 26 (some 115) b X rfl (vld 2 14 0) λa b=>ago 22 b rfl (bd D λcr b1 D=>wcS 2 (rg 6) b d (λd=>vC N aJ a8 a9 ad (d.sbK (rg 4)) b1) ?_)
 rintro _ κ w a ⟨rfl,h2⟩ b hB
 have d:=hB _ _ h2
 refine ⟨λ_=>(d.sx [0,1,2,4,5] (rg 9)),?_⟩
 refine anp [27,28] [0,117] b (d.sx [0,1,2,4,5] (rg 9)) λa b=>kN ?_
 obtain ⟨b2,d⟩:=d.foldI (ck:=jP) (fs:=jO) ad (a8,a9) aJ [0,1] (ra 2 4) (rg 4) dc kr kr
 cases D
 exact ⟨_,b2,b.kp [0,117],d.sp [1,2,0,3,4] (ra 4 5),ja⟩
 have b:=b.bv 106 hb
 refine anp (ra 18 11) [0,117] b X λa b=>kN ?_
 obtain ⟨b3,d⟩:=d.foldI (ck:=jP) (fs:=jO) ad (a8,a9) aJ [0,1] (ra 2 4) (rg 4) dc kr kr
 cases D
 exact ⟨_,b3,b.kp [0,117],d.sp [1,2,0,3,4] (ra 4 5),ja⟩
 have b:=b.bv 99 hb
 refine anp (ra 11 18) [0,117] b X λa b=>kN ?_
 obtain ⟨b4,d⟩:=d.foldI (ck:=jP) (fs:=jO) ad (a8,a9) aJ [0,1] (ra 2 4) (rg 4) dc kr kr
 cases D
 exact ⟨_,b4,b.kp [0,117],d.sp [1,2,0,3,4] (ra 4 5),ja⟩
 have b:=b.bv 93 hb
 refine anp (ra 5 24) [0,117] b X λa b=>kN ?_
 obtain ⟨b5,d⟩:=d.foldI (ck:=jP) (fs:=jO) ad (a8,a9) aJ [0,1] (ra 2 4) (rg 4) dc kr kr
 cases D
 exact ⟨_,b5,b.kp [0,117],d.sp [1,2,0,3,4] (ra 4 5),ja⟩
 rintro a w ⟨κ,aX,b,d,-⟩
 refine ce _ _ (bc b H (λhb H=>?_) λhb H=>?_)
 refine qr λ_ ch=>wp 3 [0,120] b λa b=>wc (wst b d 0 17 1 [sb true] (sgN 1 jD) λa w b d=>ch _ _ (rl (wp 4 [121,124] b λa b=>wc (wld b d 0 3 0 λa b=>wp 2 [121,127] b λa b=>?_))))
 have d:=d.add (m:=Ro.mp jG.ty none 0 ([]:List jB)) (Ro.nil jG.ty _ _)
 have d:=d.add (m:=Ro.mp (fInt .u64).ty none 0 ([]:List Int)) (Ro.nil (fInt .u64).ty _ _)
 refine bd H λci b6 H=>?_
 have bt:=d.segs 0 rfl
 refine wc (wcS 2 (rg 5) b d (λd=>oO N aq 0 (jF.mk 24 (u64.wrap Q) 0 0 empty empty ([]:List jB) ([]:List Int) (jU.mk 0 0 0 0 0 empty)) (flat [si R,(1,L),si S,si Q,(7,O),sb T,k3v ad,(3,p),k4d aa,ei 4 ao,(7,q),sm j,(5,s),sl l g.length o,su z,sb A,sb aI,sb true]) ar au u none 0 none 0 f ((d.regr 0 [(true,18),(false,2)] rfl).sbK [6,1,0]) b6) ?_)
 rintro _ κ w a ⟨bH,bI,rfl,h2⟩ b hB
 have d:=(hB _ _ h2).unregrK 0 [(true,18),(false,2)] (s':=[si R,(1,L),si S,si Q,(7,O),sb T,k3v ad,(3,p),k4d aa,ei 4 ao,(7,q),sm j,(5,s),sl l g.length o,su z,sb A,sb aI,sb true,sl bH ci.length bI,(1,u)]) bt rfl
 refine nl ?_
 cases H
 exact j7 b d (mL results79) ⟨(some ad),aX,aa,ay,bH,bI,rfl,d.sp (rg 5) [3,4,0]⟩
 refine sk ?_
 cases H
 exact j7 b d (mL results79) ⟨(some ad),aX,aa,ay,ar,au,rfl,d.sp (rg 5) [0,1,4]⟩
theorem uG (N){k}{l}{i}(c)(h)(f)(g)(A:SB k l i [.ext (ownX jM 4 f g c)] []){r}(H:M.nQ N c h=some r) :
    Calls Tryz.prog 113 #[.slice f c.length g,vb h] i (kP k l i λv κ w=>v=vi r∧SS k l i κ w [.ext (ownX jM 4 f g c)] []):=by
 have e:=A.hS
 have E:=e.fresh
 refine en func113 rfl ntmps113 λa b=>?_
 unfold M.nQ at H
 refine qr λ_ B=>(wp 1 [0,1] b λa b=>(B _ _ (qs λ_ C=>qr λ_ D=>(wp 3 [0,1,7,8] b λa b=>(D _ _ (bk (jT (n:=N) (λn a w=>∃κ d,Fr (19) [] [(0,.slice f c.length g),(1,vb h),(7,vi (c.length:Int)),(8,vi d)] a∧SS k l i κ w [.ext (ownX jM 4 f g c)] []∧M.kX N n c h d=some r) ?_ ?_)))))))
 exact ⟨_,0,b.kp [0,1,7,8],e.sp [0] [],H⟩
 rintro n a w ⟨κ,d,b,e,H⟩
 rcases n with _|m
 simp [M.kX] at H
 simp only [M.kX] at H
 refine qr λ_ p=>wp 1 [0,1,7,8,9] b λa b=>p _ _ (qs λ_ q=>bc b H (λhb H=>?_) λhb H=>?_)
 refine sk (q _ _ (qs λ_ s=>bk (qr λ_ t=>(wp 2 [0,1,5,7,8] b λa b=>(t _ _ (qr λ_ u=>(jE (L':=[(0,.slice f c.length g),(1,vb h),(5,vi d),(7,vi (c.length:Int)),(8,vi d),(11,vb h),(12,.slice f c.length g),(13,vi d)]) 3 [0,1,5,7,8,11,12,13] b kr λa b=>bd H λx j H=>wc (uJ b e kr 0 (sz:=1) rfl rfl rfl rfl rfl j kr kr λF G a o b=>wc (zP b e kr 0 (v:=vb x) rfl rfl o rfl j rfl kr kr λa b=>wp 1 [0,1,5,7,8,16] b λa b=>u _ _ (bc b H (λhb H=>?_) λhb H=>?_))))))))))
 refine qr λ_ y=>wp 2 [4] b λa b=>y _ _ (rt ?_)
 cases H
 exact j7 b e (l4 results113 (rvt b)) ⟨rfl,e.sp [0] []⟩
 refine sk (s _ _ (rl (wp 2 [0,1,7,8] b λa b=>nl ?_)))
 exact ⟨m,jb _,_,i64.wrap (d+1),b.kp [0,1,7,8],e.sp [0] [],H⟩
 refine xt (C _ _ (qr λ_ z=>wp 1 [4] b λa b=>z _ _ (rt ?_)))
 cases H
 exact j7 b e (l4 results113 (rvt b)) ⟨rfl,e.sp [0] []⟩
theorem tP (N){h}{i}{e}(d)(j)(f)(g)(k:SB h i e [.ext (ownX jM 4 f g d)] []){r}(H:M.mO N d j=some r) :
    Calls Tryz.prog 80 #[.slice f d.length g,vb j] e (kP h i e λv κ w=>v=vb r∧SS h i e κ w [.ext (ownX jM 4 f g d)] []):=by
 have c:=k.hS
 have p:=c.fresh
 refine en func80 rfl ntmps80 λa b=>?_
 unfold M.mO at H
 refine qr λ_ m=>wp 1 [0,1] b λa b=>m _ _ (qr λ_ n=>wp 2 [5,6] b λa b=>bd H λq l H=>wc (wcS 1 [0] b c (λc=>uG N d j f g (c.sbK []) l) ?_))
 rintro _ κ w a ⟨rfl,o⟩ b k
 have c:=k _ _ o
 refine wp 2 [4] b λa b=>n _ _ (rt ?_)
 cases H
 exact j7 b c (l4 results80 (rvt b)) ⟨rfl,c.sp [0] []⟩
theorem AU (N){Ms}{κ0}{w0}(a1)(a3)(a6)(a9)(s)(Z)(u:(List i8))(aa)(ab)(p4)(av)(p7)(bw)(aQ)(aT)(G)(I)(o)(y)(z)(A)(B)(p)(C)(D)(J)(j)(hB:SB Ms κ0 w0 [.box j 87 [si a1,(11,ab),sp p4,sp p7,sp aQ,(9,G),ei 4 s,(1,I),sm o,sl A u.length B,sm p,(12,J)],k31 p4 av a3,k47 p7 bw a6,k48 aQ aT a9,mx o y z,mx p C D] [(ml s 4),k4a o y z Z,k4b A B u,k4c p C D aa]){r}(H:M.sZ N a1 a3 a6 a9 s Z u aa=some r) :
    Calls Tryz.prog 82 #[pt j 0] w0 (kP Ms κ0 w0 λv κ w=>∃aA aF aB aG aD aH,v=vb r.1∧SS Ms κ0 w0 κ w [.box j 87 [si a1,(11,ab),sp aA,sp aB,sp aD,(9,G),ei 4 s,(1,I),sm o,sl A u.length B,sm p,(12,J)],k31 aA aF r.2.1,k47 aB aG r.2.2.1,k48 aD aH r.2.2.2,mx o y z,mx p C D] []):=by
 have d:=hB.hS
 have bG:=d.fresh
 refine en func82 rfl ntmps82 λa b=>?_
 unfold M.sZ at H
 refine qr λ_ bx=>(jE (L':=[k35 j]) 1 [0] b kr λa b=>bx _ _ (qs λ_ bz=>qs λ_ bA=>bd H λx ho H=>?_))
 obtain ⟨k,L,d⟩:=d.optS 3 rfl ho
 rw [L] at d
 try rw [L] at b
 obtain ⟨⟨O,V,W,X,aU⟩,d⟩:=d.unfI (ck:=l3) (fs:=kZ) 3 rfl
 refine bd H λl ho H=>?_
 obtain ⟨g,L,d⟩:=d.optS 5 rfl ho
 rw [L] at d
 try rw [L] at b
 obtain ⟨⟨P,Q,R,S⟩,d⟩:=d.unfI (ck:=kW) (fs:=kT) 5 rfl
 refine rl (bd H λbB e H=>k8 (λa w=>∃κ ae F,Fr (76) [] [k35 j,(42,vb bB)] a∧SS Ms κ0 w0 κ w [.box j 87 [si a1,(11,ab),sp p4,k3v g,k3v k,(9,G),ei 4 s,(1,I),sm o,sl A u.length B,sm p,(12,J)],k31 p4 av a3,k4e g ae l,k4f k F x,mx o y z,mx p C D] [(ml s 4),k4a o y z Z,k4b A B u,k4c p C D aa]∧True) ?_ ?_)
 refine wp 3 [0,7] b λa b=>wc (wld b d 6 4 0 λa b=>bd e λbH aV e=>wc (wcS 3 [3,4,5,0,1,2,6,7,8,9] b d (λd=>AB N x O V W X aU k (d.sbK [2]) aV) ?_))
 rintro _ κ w a ⟨K,rfl,h2⟩ b hB
 have d:=hB _ _ h2
 refine wp 2 [0,11] b λa b=>bs e (λhb e=>?_) λhb e=>?_
 have b:=b.bv 11 hb
 refine wp 31 [0,42] b λa b=>?_
 obtain ⟨aW,d⟩:=d.foldI (ck:=kW) (fs:=kT) g (P,Q,R,S) l [3,4,5] [0,1,2,6,7,8,9] [0,1] dc kr kr
 obtain ⟨aX,d⟩:=d.foldI (ck:=l3) (fs:=kZ) k (O,V,W,X,K) x [1,2,3] [0,4,5,6,7] [2] dc kr kr
 refine nl ?_
 cases e
 exact ⟨_,aW,aX,b.kp [0,42],d.sp [2,3,1,0,4,5] (ra 3 4),ja⟩
 have b:=b.bv 11 hb
 refine jE (L':=[k35 j,(11,vb false),(14,pt j 29)]) 3 [0,11,14] b kr λa b=>wcg b (wld b d 6 8 0 λa b=>wcg b (vO (KT:=32) (E:=95) (kt:=(kInt .u64)) (agg:=true) (t:=kO) b d kr 8 4 rfl kr rfl rfl kr λa b=>wp 3 [0,19] b λa b=>bs e (λhb e=>?_) λhb e=>?_))
 have b:=b.bv 19 hb
 refine wp 23 [0,42] b λa b=>?_
 obtain ⟨aY,d⟩:=d.foldI (ck:=kW) (fs:=kT) g (P,Q,R,S) l [3,4,5] [0,1,2,6,7,8,9] [0,1] dc kr kr
 obtain ⟨aZ,d⟩:=d.foldI (ck:=l3) (fs:=kZ) k (O,V,W,X,K) x [1,2,3] [0,4,5,6,7] [2] dc kr kr
 refine nl ?_
 cases e
 exact ⟨_,aY,aZ,b.kp [0,42],d.sp [2,3,1,0,4,5] (ra 3 4),ja⟩
 have b:=b.bv 19 hb
 refine wp 3 [0,19,22] b λa b=>wcg b (wld b d 6 9 0 λa b=>wp 4 [0,27] b λa b=>bs e (λhb e=>?_) λhb e=>?_)
 have b:=b.bv 27 hb
 refine wp 15 [0,42] b λa b=>?_
 obtain ⟨a0,d⟩:=d.foldI (ck:=kW) (fs:=kT) g (P,Q,R,S) l [3,4,5] [0,1,2,6,7,8,9] [0,1] dc kr kr
 obtain ⟨a2,d⟩:=d.foldI (ck:=l3) (fs:=kZ) k (O,V,W,X,K) x [1,2,3] [0,4,5,6,7] [2] dc kr kr
 refine nl ?_
 cases e
 exact ⟨_,a0,a2,b.kp [0,42],d.sp [2,3,1,0,4,5] (ra 3 4),ja⟩
 have b:=b.bv 27 hb
 refine jE (L':=[k35 j,(27,vb false),(30,pt j 31)]) 3 [0,27,30] b kr λa b=>wcg b (wld b d 6 10 0 λa b=>wcg b (vO (KT:=32) (E:=138) (kt:=(kInt .u64)) (agg:=true) (t:=mE) b d kr 9 6 rfl kr rfl rfl kr λa b=>wp 3 [0,35] b λa b=>bs e (λhb e=>?_) λhb e=>?_))
 have b:=b.bv 35 hb
 refine wp 7 [0,42] b λa b=>?_
 obtain ⟨a4,d⟩:=d.foldI (ck:=kW) (fs:=kT) g (P,Q,R,S) l [3,4,5] [0,1,2,6,7,8,9] [0,1] dc kr kr
 obtain ⟨a5,d⟩:=d.foldI (ck:=l3) (fs:=kZ) k (O,V,W,X,K) x [1,2,3] [0,4,5,6,7] [2] dc kr kr
 refine nl ?_
 cases e
 exact ⟨_,a4,a5,b.kp [0,42],d.sp [2,3,1,0,4,5] (ra 3 4),ja⟩
 have b:=b.bv 35 hb
 refine wp 3 [0,35,38] b λa b=>wcg b (wld b d 6 3 0 λa b=>bd e λbI a7 e=>wcg b (wcS 1 [3,0,1,2,4,5,6,7,8,9] b d (λd=>yQ N l P Q R S g (d.sbK [0,1]) a7) ?_))
 rintro _ κ w a ⟨rfl,h2⟩ b hB
 have d:=(hB _ _ h2).cC (C':=[k3q g P l Q R S,k40 k O,mx O V W,.ext (mpX jW X K x.open_ none),k3r P l.list.length Q,k3r R l.waiting.length S,.box j 87 [si a1,(11,ab),sp p4,k3v g,k3v k,(9,G),ei 4 s,(1,I),sm o,sl A u.length B,sm p,(12,J)],k31 p4 av a3,mx o y z,mx p C D])
 refine wp 2 [0,42] b λa b=>?_
 obtain ⟨a8,d⟩:=d.foldI (ck:=kW) (fs:=kT) g (P,Q,R,S) l [0,4,5] [1,2,3,6,7,8,9] [0,1] dc kr kr
 obtain ⟨ba,d⟩:=d.foldI (ck:=l3) (fs:=kZ) k (O,V,W,X,K) x [1,2,3] [0,4,5,6,7] [2] dc kr kr
 refine nl ?_
 cases e
 exact ⟨_,a8,ba,b.kp [0,42],d.sp [2,3,1,0,4,5] (ra 3 4),ja⟩
 rintro a w ⟨κ,ae,F,b,d,-⟩
 refine bA _ _ (bc b H (λhb H=>?_) λhb H=>?_)
 refine qr λ_ bC=>wp 1 [2] b λa b=>bC _ _ (rt ?_)
 cases H
 exact j7 b d (l4 results82 (rvt b)) ⟨p4,av,(some g),ae,(some k),F,rfl,d.sp (rg 6) []⟩
 refine sk (bz _ _ (qs λ_ bD=>qs λ_ bE=>bd H λan ho H=>?_))
 obtain ⟨T,L,d⟩:=d.optS 1 rfl ho
 rw [L] at d
 try rw [L] at b
 obtain ⟨⟨aR,aS⟩,d⟩:=d.unfI (ck:=jP) (fs:=jO) 1 rfl
 refine rl (wp 3 [0,45] b λa b=>wc (wld b d 2 2 0 λa b=>bd H λY be H=>wc (wcS 2 (rg 7) b d (λd=>pN N an aR aS T (d.sbK (rg 4)) be) ?_)))
 rintro _ κ w a ⟨rfl,h2⟩ b hB
 have d:=hB _ _ h2
 refine wp 1 [0,47,48] b λa b=>nl ?_
 obtain ⟨af,d⟩:=d.foldI (ck:=jP) (fs:=jO) T (aR,aS) an [0,1] (ra 2 5) (ra 1 4) dc kr kr
 refine bE _ _ (bk (jT (n:=N) (λn a w=>∃κ ah q,Fr (76) [] [k35 j,(47,.agg (flat [eb 4 Y]).toArray),(48,vi q)] a∧SS Ms κ0 w0 κ w [.box j 87 [si a1,(11,ab),k3v T,k3v g,k3v k,(9,G),ei 4 s,(1,I),sm o,sl A u.length B,sm p,(12,J)],k4m T af an,k4e g ah l,k4f k F x,mx o y z,mx p C D] [(ml s 4),k4a o y z Z,k4b A B u,k4c p C D aa,(ml Y 4)]∧M.oV N n a1 s Z u aa x l an Y q=some r) ?_ ?_))
 exact ⟨_,ae,0,b.kp [0,47,48],d.sp [1,0,2,3,4,5] [5,6,7,8,0],H⟩
 rintro n a w ⟨κ,ah,q,b,d,H⟩
 rcases n with _|aI
 simp [M.oV] at H
 simp only [M.oV] at H
 refine qr λ_ bf=>wp 1 [0,47,48,49] b λa b=>bf _ _ (qs λ_ bg=>bc b H (λhb H=>?_) λhb H=>?_)
 refine sk (bg _ _ (qs λ_ bh=>bk (qr λ_ bi=>(jE (L':=[k35 j,(47,.agg (flat [eb 4 Y]).toArray),(48,vi q),(50,vi q)]) 1 [0,47,48,50] b kr λa b=>bd H λbj aJ H=>wc (kQ b kr (v:=vb bj) (pJ (t:=jM) (E:=4) (n:=4) (m:=4) rfl kr rfl aJ (d.get 4 rfl) rfl rfl kr kr kr _) λa b=>wp 2 [0,3,4,47,48] b λa b=>bi _ _ (qs λ_ bl=>?_))))))
 obtain ⟨⟨ai,aj,ak,al⟩,d⟩:=d.unfI (ck:=kW) (fs:=kT) 2 rfl
 refine bd H λbm f H=>kL (λa w=>∃κ U,Fr (76) [] [k35 j,(47,.agg (flat [eb 4 Y]).toArray),(48,vi q),(74,vb bm)] a∧SS Ms κ0 w0 κ w [.box j 87 [si a1,(11,ab),k3v T,k3v g,k3v k,(9,G),ei 4 s,(1,I),sm o,sl A u.length B,sm p,(12,J)],k4m T af an,k4e g U l,k4f k F x,mx o y z,mx p C D] [(ml s 4),k4a o y z Z,k4b A B u,k4c p C D aa,(ml Y 4)]∧True) ?_ ?_
 refine rgS d [] ?_
 have d:=d.drew
 have hX:=d.fx
 refine anp [0,1] [0,3,47,48,53] b hX λa b=>bs f (λhb f=>?_) λhb f=>?_
 have b:=b.bv 53 hb
 refine anp (ra 2 4) [0,3,47,48,53,54,57] b hX λa b=>atk 6 (some 58) b hX rfl (vld 1 0 0) λa b=>anp [7,8,9] [0,3,47,48,61] b hX λa b=>bs f (λhb f=>?_) λhb f=>?_
 have b:=b.bv 61 hb
 refine jN [10,11,12,13,16,17,18] [0,47,48,61,63,65,70] (L':=[k35 j,(47,.agg (flat [eb 4 Y]).toArray),(48,vi q),(61,vb true),(63,vi q),(65,pt j 24),(70,pt j 13)]) (listed':=(mV 23 475135)) (fuel:=6) b hX kr (by intro c a w t v h; cases t<;>exact h) kr rfl λa b=>bd f λbn ax f=>atk 14 (some 66) b (d.sx [0,3,4,5,6,7] (rg 7)) rfl (λw _=>lU (E:=3) (sz:=1) (n:=4) rfl rfl (i:=q) rfl (m4 ax (d.get 2 rfl)) kr kr w) λa b=>atk 15 (some 67) b (d.sx [0,3,4,5,6,7] (rg 7)) rfl (rZ (t:=(fInt .i64)) 1 6 (v:=vi bn) rfl rfl rfl rfl ax rfl rfl kr kr) λa b=>?_
 refine atk 19 (some 71) b (d.sx [0,3,4,5,6,7] (rg 7)) rfl (vld 1 3 0) λa b=>ago 20 b rfl (bd f λbF aL f=>wcS 1 (rg 8) b d (λd=>tV N l ai aj ak al g (d.sbK [0,1]) aL) ?_)
 rintro _ κ w a ⟨rfl,h2⟩ b hB
 have d:=hB _ _ h2
 refine ⟨λ_=>(d.sx [0,3,4,5,6,7] (rg 7)),?_⟩
 refine anp [21,22] [0,47,48,74] b (d.sx [0,3,4,5,6,7] (rg 7)) λa b=>kN ?_
 obtain ⟨aM,d⟩:=d.foldI (ck:=kW) (fs:=kT) g (ai,aj,ak,al) l [0,1,2] (ra 3 5) [0,1] dc kr kr
 cases f
 exact ⟨_,aM,b.kp [0,47,48,74],d.sp [1,2,0,3,4,5] (ra 2 5),ja⟩
 have b:=b.bv 61 hb
 refine anp (ra 10 13) [0,47,48,74] b hX λa b=>kN ?_
 obtain ⟨aO,d⟩:=d.foldI (ck:=kW) (fs:=kT) g (ai,aj,ak,al) l [0,1,2] (ra 3 5) [0,1] dc kr kr
 cases f
 exact ⟨_,aO,b.kp [0,47,48,74],d.sp [1,2,0,3,4,5] (ra 2 5),ja⟩
 have b:=b.bv 53 hb
 refine anp (ra 2 21) [0,47,48,74] b hX λa b=>kN ?_
 obtain ⟨aP,d⟩:=d.foldI (ck:=kW) (fs:=kT) g (ai,aj,ak,al) l [0,1,2] (ra 3 5) [0,1] dc kr kr
 cases f
 exact ⟨_,aP,b.kp [0,47,48,74],d.sp [1,2,0,3,4,5] (ra 2 5),ja⟩
 rintro a w ⟨κ,U,b,d,-⟩
 refine bl _ _ (bc b H (λhb H=>?_) λhb H=>?_)
 refine qr λ_ bo=>wp 1 [2] b λa b=>bo _ _ (rt ?_)
 cases H
 exact j7 b d (l4 results82 (rvt b)) ⟨(some T),af,(some g),U,(some k),F,rfl,d.sp (rg 6) []⟩
 refine sk (bh _ _ (rl (wp 2 [0,47,48] b λa b=>nl ?_)))
 exact ⟨aI,jb _,_,U,i64.wrap (q+1),b.kp [0,47,48],d.sp (rg 6) (rg 5),H⟩
 refine xt (bD _ _ (qr λ_ bq=>wp 1 [2] b λa b=>bq _ _ (rt ?_)))
 cases H
 exact j7 b d (l4 results82 (rvt b)) ⟨(some T),af,(some g),ah,(some k),F,rfl,d.sp (rg 6) []⟩
theorem uV (N){Ms}{κ0}{w0}(U)(V)(S)(z:j5)(d:(List Bool))(W)(bW)(bX)(bM)(bl)(bY)(bN)(i)(av)(j:(List i8))(bZ)(bm)(b0)(k:(List Int))(B)(C)(aw)(ax)(bO:(List i9))(F)(G)(L)(O)(P)(s)(l)(e)(f)(n)(cn)(bQ)(co)(bR)(aH)(bu)(a9)(bS)(o)(g)(Q)(R)(t)(u)(bn)(b1)(b2)(bP)(bT)(p)(x)(y)(b3)(b4)(q)(D)(hB:SB Ms κ0 w0 (k2d D U F V S G L z O P s l e d.length f n W cn co aH bl a9 bN i o g t j.length u bn bm bP p x k.length y B C aw ax b3 bO.length b4 q (ownX jM 4 e f d) bQ bW bR bX bu bM (arrX j6 a9 bS bY) Q R b1 b2 bT b0) (k2e L O z P s (ml a9 4) (ml bN 4) (ml i 4) g Q R av t u j bn b1 b2 bZ x y k b3 b4 bO)){r}(H:M.pL N U V S z d W bW bX bM bl bY bN i av j bZ bm b0 k B C aw ax bO=some r) :
    Calls Tryz.prog 34 #[pt D 0] w0 (kP Ms κ0 w0 λv κ w=>∃cZ cG c0 cH c1 cI bU cJ cp cq cr c2 cK cs cu,v = .tuple #[]∧SS Ms κ0 w0 κ w (k2d D U F V S G L z O P s l e d.length f n r.1 cZ c0 c1 r.u4.1 bU r.u4.2.2.1 i o g t j.length u cp r.u8.1 c2 p x k.length y B C r.u8.2.2.1 r.u8.2.2.2.1 cs r.u8.u4.length cu q (ownX jM 4 e f d) cG r.2.1 cH r.2.2.1 cI r.2.2.2.1 (arrX j6 bU cJ r.u4.2.1) Q R cq cr cK r.u8.2.1) [(ml bU 4),(ml r.u4.2.2.1 4),k4c cp cq cr r.u4.2.2.2.1,k3k cs cu r.u8.u4]):=by
 have c:=hB.hS
 have dk:=c.fresh
 refine en func34 rfl ntmps34 λa b=>?_
 unfold M.pL at H
 refine m2 (λa w=>∃κ aZ aR ba aa ai aB ab aj aD ad A am aE K I X Y aF ae cY bw cv af ak,∃al:List i9,∃ao aq,Fr (84) [] [k35 D] a∧SS Ms κ0 w0 κ w (k2d D U F V S G L z O P s l e d.length f n W aZ aa ab ad A K i o g t j.length u I ae cY p x k.length y B C af ak ao al.length aq q (ownX jM 4 e f d) aR ba ai aB aj aD (arrX j6 A am aE) Q R X Y bw cv) (k2e L O z P s (ml A 4) (ml K 4) (ml i 4) g Q R av t u j I X Y aF x y k ao aq al)∧M.pR N U V S z d W i av j k B C ba aB aD ad aE K aF ae cv af ak al=some r) ?_ ?_
 refine qr λ_ c3=>wp 3 [0,4] b λa b=>wc (wld b c 0 2 0 λa b=>wp 1 [0,6] b λa b=>c3 _ _ (bc b H (λhb H=>?_) λhb H=>?_))
 refine qr λ_ c4=>wp 1 [0,7] b λa b=>bd H λT cL H=>?_
 have ce:=c.segs 0 rfl
 refine wc (wcS 4 [0,1,3,4,2,5,6,7,8,9] b c (λc=>AS N bW bX bN bO (flat [si U,(1,F),si V,si S,(2,G),sl L z.Cuts.length O,sl P z.Nodes.length s,(1,l),sl e d.length f,(1,n),sb W]) cn bQ co bR (flat [sp aH,su bl,k4d a9]) (flat [ei 4 i,(1,o),sm g,sl t j.length u,sm bn,su bm,sp bP,(3,p),sl x k.length y,su B,sb C,sb aw,sb ax]) b3 b4 q D ((c.regr 0 [(true,11),(false,2),(true,3),(false,1),(true,13),(false,2)] rfl).sbK [3,9]) cL) ?_)
 rintro _ κ w a ⟨ay,b5,Z,bx,cw,cx,rfl,h2⟩ b hB
 have c:=(hB _ _ h2).unregrK 0 [(true,11),(false,2),(true,3),(false,1),(true,13),(false,2)] (s':=k2f U F V S G L z O P s l e d.length f n W ay Z aH bl a9 T.2.2.1 i o g t j.length u bn bm bP p x k.length y B C aw ax cw T.2.2.2.length cx q) ce rfl
 refine c4 _ _ (qr λ_ c5=>wp 1 [0,9] b λa b=>bd H λh cM H=>?_)
 have cg:=c.segs 0 rfl
 refine wc (wcS 5 [0,1,6,8,9,2,3,4,5,7] b c (λc=>AT N U z bl bY bZ bm b0 T.2.2.2 (flat [(1,F),si V,si S,(2,G)]) L O P s (flat [(1,l),sl e d.length f,(1,n),sb W,sp ay,sp Z,sp aH]) a9 bS (flat [ei 4 T.2.2.1,ei 4 i,(1,o),sm g,sl t j.length u]) bn b1 b2 bP bT (flat [(3,p),sl x k.length y,su B,sb C,sb aw,sb ax]) cw cx q D ((c.regr 0 [(false,1),(true,4),(false,2),(true,7),(false,2),(true,5),(false,3),(true,6),(false,2)] rfl).sbK [2,3,4,9,1]) cM) ?_)
 rintro _ κ w a ⟨aS,b6,an,be,bf,bz,b7,bA,bB,rfl,h2⟩ b hB
 have c:=((hB _ _ h2).unregrK 0 [(false,1),(true,4),(false,2),(true,7),(false,2),(true,5),(false,3),(true,6),(false,2)] (s':=k2f U F V S G L z O P s l e d.length f n W ay Z aH h.1 aS T.2.2.1 i o g t j.length u an h.2.2.2.1 bz p x k.length y B C aw ax bA h.u4.2.length bB q) cg rfl).cC (C':=[.box D 87 (k2f U F V S G L z O P s l e d.length f n W ay Z aH h.1 aS T.2.2.1 i o g t j.length u an h.2.2.2.1 bz p x k.length y B C aw ax bA h.u4.2.length bB q),k3j bA h.u4.2.length bB,.ext (arrX j6 aS b6 h.2.1),mx an be bf,k3p bz b7 h.u4.1,k31 ay b5 T.1,k47 Z bx T.2.1,.ext (ownX jM 4 e f d),k48 aH bu bM,mx g Q R])
 refine c5 _ _ (qr λ_ c6=>wp 1 [0,11] b λa b=>bd H λaT cN H=>?_)
 have ch:=c.segs 0 rfl
 refine wc (wcS 6 [0,1,8,9,3,4,2,5,6,7] b c (λc=>A7 N U bM av h.2.2.1 h.u4.1 h.u4.2 (flat [(1,F),si V,si S,(2,G),sl L z.Cuts.length O,sl P z.Nodes.length s,(1,l),sl e d.length f,(1,n),sb W,sp ay,sp Z]) aH bu (flat [su h.1,k4d aS,ei 4 T.2.2.1,ei 4 i,(1,o)]) g Q R [.slice t j.length u] an be bf [vu h.2.2.2.1] bz b7 (flat [(3,p),sl x k.length y,su B,sb C,sb aw,sb ax]) bA bB q D ((c.regr 0 [(false,1),(true,12),(false,1),(true,5),(false,5),(true,6),(false,2)] rfl).sbK [10,1,2]) cN) ?_)
 rintro _ κ w a ⟨aU,b8,aV,b9,cy,cz,rfl,h2⟩ b hB
 have c:=(hB _ _ h2).unregrK 0 [(false,1),(true,12),(false,1),(true,5),(false,5),(true,6),(false,2)] (s':=k2f U F V S G L z O P s l e d.length f n W ay Z aU h.1 aS T.2.2.1 i o g t j.length u an h.2.2.2.1 aV p x k.length y B C aw ax cy aT.2.2.length cz q) ch rfl
 refine c6 _ _ (rl (wp 1 [0,13] b λa b=>bd H λJ cO H=>?_))
 have ci:=c.segs 0 rfl
 refine wc (wcS 5 [0,1,7,6,4,2,3,5,8,9] b c (λc=>zJ N U V S W T.1 h.2.1 T.2.2.1 h.2.2.1 k B C aw ax aT.2.2 F (flat [(2,G),sl L z.Cuts.length O,sl P z.Nodes.length s,(1,l),sl e d.length f,(1,n)]) ay b5 (flat [sp Z,sp aU,su h.1]) aS b6 (flat [ei 4 i,(1,o),sm g,sl t j.length u]) an be bf (flat [su h.2.2.2.1,sp aV,(3,p)]) x y cy cz q D ((c.regr 0 [(false,4),(true,6),(false,2),(true,3),(false,2),(true,4),(false,1),(true,3),(false,7)] rfl).sbK [1,4,2,14,0]) cO) ?_)
 rintro _ κ w a ⟨bC,ca,bD,cb,bE,bF,rfl,h2⟩ b hB
 have c:=((hB _ _ h2).unregrK 0 [(false,4),(true,6),(false,2),(true,3),(false,2),(true,4),(false,1),(true,3),(false,7)] (s':=k2f U F V S G L z O P s l e d.length f n W bC Z aU h.1 bD J.2.2.1 i o g t j.length u an h.2.2.2.1 aV p x k.length y B C J.2.2.2.1 J.u4.1 bE J.u4.2.length bF q) ci rfl).cC (C':=[.box D 87 (k2f U F V S G L z O P s l e d.length f n W bC Z aU h.1 bD J.2.2.1 i o g t j.length u an h.2.2.2.1 aV p x k.length y B C J.2.2.2.1 J.u4.1 bE J.u4.2.length bF q),k3j bE J.u4.2.length bF,k31 bC ca J.1,.ext (arrX j6 bD cb J.2.1),mx an be bf,k48 aU b8 aT.1,mx g Q R,k3p aV b9 aT.2.1,k47 Z bx T.2.1,.ext (ownX jM 4 e f d)])
 refine nl ?_
 exact ⟨_,bC,ca,J.1,Z,bx,T.2.1,aU,b8,aT.1,h.1,bD,cb,J.2.1,J.2.2.1,an,be,bf,h.2.2.1,h.2.2.2.1,aV,b9,aT.2.1,J.2.2.2.1,J.u4.1,J.u4.2,bE,bF,b.kp [0],c.sp [0,1,9,2,8,5,3,6,4,7] [9,10,0,1,13,14,15,5,17,2],H⟩
 refine sk ?_
 exact ⟨_,cn,bQ,bW,co,bR,bX,aH,bu,bM,bl,a9,bS,bY,bN,bn,b1,b2,bZ,bm,bP,bT,b0,aw,ax,bO,b3,b4,b.kp [0],c.sp (rg 10) (rg 10),H⟩
 rintro a w ⟨κ,aZ,aR,ba,aa,ai,aB,ab,aj,aD,ad,A,am,aE,K,I,X,Y,aF,ae,cY,bw,cv,af,ak,al,ao,aq,b,c,H⟩
 unfold M.pR at H
 refine m2 (λa w=>∃κ a0 bo aW cc aI bg cd,∃aJ:List i9,∃aL aM,Fr (84) [] [k35 D] a∧SS Ms κ0 w0 κ w (k2d D U F V S G L z O P s l e d.length f n a0 bo aa ab ad A K i o g t j.length u I ae aI p x k.length y B C af ak aL aJ.length aM q (ownX jM 4 e f d) aW cc ai aB aj aD (arrX j6 A am aE) Q R X Y bg cd) (k2e L O z P s (ml A 4) (ml K 4) (ml i 4) g Q R av t u j I X Y aF x y k aL aM aJ)∧M.pQ N U V S z d i av j k B C aB aD ad aE K aF ae af ak a0 cc cd aJ=some r) ?_ ?_
 refine qs λ_ c7=>bd H λbh ah H=>kL (λa w=>∃κ aA aO,Fr (84) [] [k35 D,(33,vb bh.2)] a∧SS Ms κ0 w0 κ w (k2d D U F V S G L z O P s l e d.length f n W aZ aa ab ad A K i o g t j.length u I ae aA p x k.length y B C af ak ao al.length aq q (ownX jM 4 e f d) aR ba ai aB aj aD (arrX j6 A am aE) Q R X Y aO bh.1) (k2e L O z P s (ml A 4) (ml K 4) (ml i 4) g Q R av t u j I X Y aF x y k ao aq al)∧True) ?_ ?_
 refine kY ah (λho ah=>?_) (λc9 ho ah=>?_)
 obtain ⟨a2,c⟩:=c.optN 9 rfl ho
 rw [a2] at c
 try rw [a2] at b
 refine rl (bd ah λda au ah=>k8 (λa w=>∃κ,Fr (84) [] [k35 D,(33,vb da)] a∧SS Ms κ0 w0 κ w [.box D 87 [si U,(1,F),si V,si S,(2,G),sl L z.Cuts.length O,sl P z.Nodes.length s,(1,l),sl e d.length f,(1,n),sb W,sp aZ,sp aa,sp ab,su ad,k4d A,ei 4 K,ei 4 i,(1,o),sm g,sl t j.length u,sm I,su ae,k4g,(3,p),sl x k.length y,su B,sb C,sb af,sb ak,sl ao al.length aq,(1,q)],k3j ao al.length aq,.ext (ownX jM 4 e f d),k31 aZ aR ba,k47 aa ai aB,k48 ab aj aD,.ext (arrX j6 A am aE),mx g Q R,mx I X Y] (k2e L O z P s (ml A 4) (ml K 4) (ml i 4) g Q R av t u j I X Y aF x y k ao aq al)∧True) ?_ ?_)
 refine wp 3 [0,17] b λa b=>wc (wld b c 0 10 0 λa b=>wp 1 [0,19] b λa b=>bs au (λhb au=>?_) λhb au=>?_)
 have b:=b.bv 19 hb
 refine wp 3 [0,19,22] b λa b=>wcg b (wld b c 0 23 0 λa b=>wp 6 [0,26,29] b λa b=>wcg b (wld b c 0 8 0 λa b=>bd au λdh cP au=>wcg b (wcS 1 [2,0,1,3,4,5,6,7,8,9] b c (λc=>tP N d false e f (c.sbK []) cP) ?_)))
 rintro _ κ w a ⟨rfl,h2⟩ b hB
 have c:=hB _ _ h2
 refine wp 2 [0,33] b λa b=>nl ?_
 cases au
 exact ⟨_,b.kp [0,33],c.sp [1,2,0,3,4,5,6,7,8] (rg 10),ja⟩
 have b:=b.bv 19 hb
 refine wp 14 [0,33] b λa b=>nl ?_
 cases au
 exact ⟨_,b.kp [0,33],c.sp (rg 9) (rg 10),ja⟩
 rintro a w ⟨κ,b,c,-⟩
 cases ah
 have c:=c.addOpt o_gate_move
 exact ⟨_,none,[],b.kp [0,33],c.sp [1,2,3,4,5,6,7,8,9,0] (rg 10),ja⟩
 obtain ⟨bV,a2,c⟩:=c.optS 9 rfl ho
 rw [a2] at c
 try rw [a2] at b
 refine rl (bd ah λdi aP ah=>k8 (λa w=>∃κ,Fr (84) [] [k35 D,(33,vb false)] a∧SS Ms κ0 w0 κ w [.box D 87 [si U,(1,F),si V,si S,(2,G),sl L z.Cuts.length O,sl P z.Nodes.length s,(1,l),sl e d.length f,(1,n),sb W,sp aZ,sp aa,sp ab,su ad,k4d A,ei 4 K,ei 4 i,(1,o),sm g,sl t j.length u,sm I,su ae,k3v bV,(3,p),sl x k.length y,su B,sb C,sb af,sb ak,sl ao al.length aq,(1,q)],k3j ao al.length aq,.ext (ownX jM 4 e f d),k31 aZ aR ba,k47 aa ai aB,k48 ab aj aD,.ext (arrX j6 A am aE),mx g Q R,mx I X Y,k4q bV bw c9] (k2e L O z P s (ml A 4) (ml K 4) (ml i 4) g Q R av t u j I X Y aF x y k ao aq al)∧True) ?_ ?_)
 refine wp 3 [0,17] b λa b=>wc (wld b c 0 10 0 λa b=>wp 1 [0,19] b λa b=>bs aP (λhb aP=>?_) λhb aP=>?_)
 have b:=b.bv 19 hb
 refine wp 3 [0,19,22] b λa b=>wcg b (wld b c 0 23 0 λa b=>wp 10 [0,33] b λa b=>nl ?_)
 cases aP
 exact ⟨_,b.kp [0,33],c.sp (rg 10) (rg 10),ja⟩
 have b:=b.bv 19 hb
 refine wp 14 [0,33] b λa b=>nl ?_
 cases aP
 exact ⟨_,b.kp [0,33],c.sp (rg 10) (rg 10),ja⟩
 rintro a w ⟨κ,b,c,-⟩
 cases ah
 exact ⟨_,(some bV),bw,b.kp [0,33],c.sp (rg 10) (rg 10),ja⟩
 rintro a w ⟨κ,aA,aO,b,c,-⟩
 refine c7 _ _ (bc b H (λhb H=>?_) λhb H=>?_)
 refine qr λ_ db=>(jE (L':=[k35 D,(36,pt D 11)]) 3 [0,36] b kr λa b=>wc (wst b c 0 10 1 [k3e] (sgN 1 jD) λa w b c=>db _ _ (bd H λbi ho H=>?_)))
 obtain ⟨aG,a2,c⟩:=c.optS 3 rfl ho
 rw [a2] at c
 try rw [a2] at b
 obtain ⟨⟨bG,bH⟩,c⟩:=c.unfI (ck:=jP) (fs:=jO) 3 rfl
 refine rga (λ_=>True) [] ?_
 have c:=c.drew
 refine anp [0,1,2,3,6,7,8] [0,37,40,45] b ja λa b=>mI c [12] (atk 4 (some 41) b (c.sx [0,1,2,4,5,6,7,8,9,10] (rg 14)) rfl (vld 2 3 0) λa b=>anp [5] [0,37,42,45] b (c.sx [0,1,2,4,5,6,7,8,9,10] (rg 14)) λa b=>atk 9 (some 46) b (c.sx [0,1,2,4,5,6,7,8,9,10] (rg 14)) rfl (vld 2 11 0) λa b=>ago 10 b rfl (bd H λdd cQ H=>wcS 2 (rg 11) b c (λc=>tI N bi bG bH aG (c.sbK (rg 4)) cQ) ?_))
 rintro _ κ w a ⟨rfl,h2⟩ b hB
 have c:=hB _ _ h2
 refine ⟨λ_=>(c.sx [0,1,2,4,5,6,7,8,9,10] (rg 14)),?_⟩
 refine anp [11] [0,37,48] b (c.sx [0,1,2,4,5,6,7,8,9,10] (rg 14)) λa b=>ago 12 b rfl ?_
 have c:=c.add (m:=Ro.mp jG.ty none 0 ([]:List jB)) (Ro.nil jG.ty _ _)
 have c:=c.add (m:=Ro.mp (fInt .u64).ty none 0 ([]:List Int)) (Ro.nil (fInt .u64).ty _ _)
 refine bd H λbI cR H=>?_
 have cj:=c.segs 2 rfl
 refine wcS 2 [2,3,0,1,4,5,6,7,8,9,10] b c (λc=>oO N al 0 (jF.mk 23 (u64.wrap S) 0 dd empty empty ([]:List jB) ([]:List Int) (jU.mk 0 0 0 0 0 empty)) (flat [si U,(1,F),si V,si S,(2,G),sl L z.Cuts.length O,sl P z.Nodes.length s,(1,l),sl e d.length f,(1,n),k3e,k3v aG,sp aa,sp ab,su ad,k4d A,ei 4 K,ei 4 i,(1,o),sm g,sl t j.length u,sm I,su ae,sp aA,(3,p),sl x k.length y,su B,sb C,sb af,sb ak]) ao aq q none 0 none 0 D ((c.regr 0 [(true,30),(false,2)] rfl).sbK [15,1,0]) cR) ?_
 rintro _ κ w a ⟨bJ,bK,rfl,h2⟩ b hB
 have c:=((hB _ _ h2).unregrK 0 [(true,30),(false,2)] (s':=[si U,(1,F),si V,si S,(2,G),sl L z.Cuts.length O,sl P z.Nodes.length s,(1,l),sl e d.length f,(1,n),k3e,k3v aG,sp aa,sp ab,su ad,k4d A,ei 4 K,ei 4 i,(1,o),sm g,sl t j.length u,sm I,su ae,sp aA,(3,p),sl x k.length y,su B,sb C,sb af,sb ak,sl bJ bI.length bK,(1,q)]) cj rfl).cC (C':=[.box D 87 [si U,(1,F),si V,si S,(2,G),sl L z.Cuts.length O,sl P z.Nodes.length s,(1,l),sl e d.length f,(1,n),k3e,k3v aG,sp aa,sp ab,su ad,k4d A,ei 4 K,ei 4 i,(1,o),sm g,sl t j.length u,sm I,su ae,sp aA,(3,p),sl x k.length y,su B,sb C,sb af,sb ak,sl bJ bI.length bK,(1,q)],k3j bJ bI.length bK,k34 aG bi bG bH,.ext (ownX (fInt .u64) 32 bG bH bi.beats),.ext (ownX jM 4 e f d),k47 aa ai aB,k48 ab aj aD,.ext (arrX j6 A am aE),mx g Q R,mx I X Y,k3p aA aO bh.1])
 refine ⟨notE,?_⟩
 refine kN ?_
 obtain ⟨cS,c⟩:=c.foldI (ck:=jP) (fs:=jO) aG (bG,bH) bi [2,3] [0,1,4,5,6,7,8,9,10] (ra 3 4) dc kr kr
 exact ⟨_,false,(some aG),cS,(some bi),aA,aO,bh.1,bI,bJ,bK,b.kp [0],c.sp [1,2,3,0,4,5,6,7,8,9] [7,8,9,10,11,12,13,14,15,0],H⟩
 refine sk ?_
 exact ⟨_,W,aZ,aR,ba,aA,aO,bh.1,al,ao,aq,b.kp [0],c.sp (rg 10) (rg 10),H⟩
 rintro a w ⟨κ,a0,bo,aW,cc,aI,bg,cd,aJ,aL,aM,b,c,H⟩
 unfold M.pQ at H
 refine qr λ_ dg=>bd H λbL E H=>k8 (λa w=>∃κ bq a5 aX a7 aY a8,Fr (84) [] [k35 D,(72,vb bL.2.2.2)] a∧SS Ms κ0 w0 κ w (k2d D U F V S G L z O P s l e d.length f n a0 bq aX aY ad A K i o g t j.length u I ae aI p x k.length y B C af ak aL aJ.length aM q (ownX jM 4 e f d) a5 bL.1 a7 bL.2.1 a8 bL.2.2.1 (arrX j6 A am aE) Q R X Y bg cd) (k2e L O z P s (ml A 4) (ml K 4) (ml i 4) g Q R av t u j I X Y aF x y k aL aM aJ)∧True) ?_ ?_
 refine wp 3 [0,52] b λa b=>wc (wld b c 0 2 0 λa b=>wp 2 [0,55] b λa b=>bs E (λhb E=>?_) λhb E=>?_)
 have b:=b.bv 55 hb
 refine wp 3 [0,55,58] b λa b=>wcg b (wld b c 0 10 0 λa b=>wp 3 [0,62] b λa b=>bs E (λhb E=>?_) λhb E=>?_)
 have b:=b.bv 62 hb
 refine wp 3 [0,62,65] b λa b=>wcg b (wld b c 0 29 0 λa b=>wp 3 [0,69] b λa b=>bs E (λhb E=>?_) λhb E=>?_)
 have b:=b.bv 69 hb
 refine wp 1 [0,69,70] b λa b=>bd E λdj cT E=>?_
 have cl:=c.segs 0 rfl
 refine wcg b (wcS 6 [0,3,4,5,7,8,1,2,6,9] b c (λc=>AU N U cc aB aD i av j aF (flat [(1,F),si V,si S,(2,G),sl L z.Cuts.length O,sl P z.Nodes.length s,(1,l),sl e d.length f,(1,n),sb a0]) bo aW aa ai ab aj (flat [su ad,k4d A,ei 4 K]) o g Q R t u I X Y (flat [su ae,sp aI,(3,p),sl x k.length y,su B,sb C,sb af,sb ak,sl aL aJ.length aM,(1,q)]) D ((c.regr 0 [(false,1),(true,10),(false,3),(true,3),(false,5),(true,10)] rfl).sbK (ra 4 4)) cT) ?_)
 rintro _ κ w a ⟨cA,cU,cB,cV,cD,cW,rfl,h2⟩ b hB
 have c:=(hB _ _ h2).unregrK 0 [(false,1),(true,10),(false,3),(true,3),(false,5),(true,10)] (s':=k2f U F V S G L z O P s l e d.length f n a0 cA cB cD ad A K i o g t j.length u I ae aI p x k.length y B C af ak aL aJ.length aM q) cl rfl
 refine wp 1 [0,72] b λa b=>nl ?_
 cases E
 exact ⟨_,cA,cU,cB,cV,cD,cW,b.kp [0,72],c.sp [0,6,7,1,2,3,8,4,5,9] (rg 10),ja⟩
 have b:=b.bv 69 hb
 refine wp 3 [0,72] b λa b=>nl ?_
 cases E
 exact ⟨_,bo,aW,aa,ai,ab,aj,b.kp [0,72],c.sp (rg 10) (rg 10),ja⟩
 have b:=b.bv 62 hb
 refine wp 10 [0,72] b λa b=>nl ?_
 cases E
 exact ⟨_,bo,aW,aa,ai,ab,aj,b.kp [0,72],c.sp (rg 10) (rg 10),ja⟩
 have b:=b.bv 55 hb
 refine wp 17 [0,72] b λa b=>nl ?_
 cases E
 exact ⟨_,bo,aW,aa,ai,ab,aj,b.kp [0,72],c.sp (rg 10) (rg 10),ja⟩
 rintro a w ⟨κ,bq,a5,aX,a7,aY,a8,b,c,-⟩
 refine dg _ _ (bc b H (λhb H=>?_) λhb H=>?_)
 refine qr λ_ de=>wp 3 [0,75] b λa b=>wc (wst b c 0 29 1 [sb true] (sgN 1 jD) λa w b c=>de _ _ (rl (wp 4 [76,79] b λa b=>wc (wld b c 0 3 0 λa b=>wp 2 [76,82] b λa b=>?_))))
 have c:=c.add (m:=Ro.mp jG.ty none 0 ([]:List jB)) (Ro.nil jG.ty _ _)
 have c:=c.add (m:=Ro.mp (fInt .u64).ty none 0 ([]:List Int)) (Ro.nil (fInt .u64).ty _ _)
 refine bd H λdf cX H=>?_
 have cm:=c.segs 0 rfl
 refine wc (wcS 2 (rg 10) b c (λc=>oO N aJ 0 (jF.mk 25 (u64.wrap S) 0 0 empty empty ([]:List jB) ([]:List Int) (jU.mk 0 0 0 0 0 empty)) (flat [si U,(1,F),si V,si S,(2,G),sl L z.Cuts.length O,sl P z.Nodes.length s,(1,l),sl e d.length f,(1,n),sb a0,sp bq,sp aX,sp aY,su ad,k4d A,ei 4 K,ei 4 i,(1,o),sm g,sl t j.length u,sm I,su ae,sp aI,(3,p),sl x k.length y,su B,sb C,sb af,sb true]) aL aM q none 0 none 0 D ((c.regr 0 [(true,30),(false,2)] rfl).sbK [11,1,0]) cX) ?_)
 rintro _ κ w a ⟨cE,cF,rfl,h2⟩ b hB
 have c:=(hB _ _ h2).unregrK 0 [(true,30),(false,2)] (s':=[si U,(1,F),si V,si S,(2,G),sl L z.Cuts.length O,sl P z.Nodes.length s,(1,l),sl e d.length f,(1,n),sb a0,sp bq,sp aX,sp aY,su ad,k4d A,ei 4 K,ei 4 i,(1,o),sm g,sl t j.length u,sm I,su ae,sp aI,(3,p),sl x k.length y,su B,sb C,sb af,sb true,sl cE df.length cF,(1,q)]) cm rfl
 refine nl ?_
 cases H
 exact j7 b c (mL results34) ⟨bq,a5,aX,a7,aY,a8,A,am,I,X,Y,aI,bg,cE,cF,rfl,c.sp (rg 10) [5,6,10,0]⟩
 refine sk ?_
 cases H
 exact j7 b c (mL results34) ⟨bq,a5,aX,a7,aY,a8,A,am,I,X,Y,aI,bg,aL,aM,rfl,c.sp (rg 10) [2,3,7,9]⟩
end Go.Cf
