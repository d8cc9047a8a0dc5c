/- The walks: each function returns what its model says. Printed by a program of ours. -/
import Derived.Test.YtcplebnnanjngaaGreatZSh
import Derived.Test.YtcplebnnanjngaaGreatZM1
import Derived.Test.YtcplebnnanjngaaGreatZWg1
import Derived.Test.YtcplebnnanjngaaGreatZWg2
import Derived.Test.YtcplebnnanjngaaGreatZWgw
import Derived.Test.YtcplebnnanjngaaGreatZWg9
import Derived.Test.YtcplebnnanjngaaGreatZWr1
import Derived.Test.YtcplebnnanjngaaGreatZWr2
import Derived.Test.YtcplebnnanjngaaGreatZWr3
import Derived.Test.YtcplebnnanjngaaGreatZWr4
namespace Go.Cf
open Go Go.Proofs Tryz
open _root_.Int(toNat tdiv tmod)
open _root_.List(set replicate)
open _root_.ByteArray(empty)
open Go.IntKind(i64 u64)
set_option linter.unusedVariables false
set_option maxRecDepth 20000
set_option maxHeartbeats 8000000
theorem yS (N){κ0}{Z}(fH:lG κ0 Z)(a1)(a2)(A)(B)(C)(hR : ∀m∈([ml a2 4,Ro.mp lL B C A]:List MP),m.p κ0 Z){r}(H:M.r9 N a1 a2 A=some r) :
    Calls Tryz.prog 5 #[vi a1,.agg (flat [eb 4 a2]).toArray,.slice B A.length C] Z (kP [] κ0 Z λv κ w=>v=vb r∧(∀m∈([]:List MP),m.p κ w)∧sJ Z κ w []):=by
 have d:=SS.start fH hR
 refine en func5 rfl ntmps5 λa b=>?_
 unfold M.r9 at H
 refine qr λ_ h6=>(wc (wbx b d [eb 4 a2] (kS (d.get 0 rfl) jD) λb7 a w b d=>jE (L':=[(0,vi a1),k4x B A.length C,k2v b7]) 1 [0,2,4] b kr λa b=>(h6 _ _ (qr λ_ h8=>(bd H λx9 d0 H=>wc (l7 b kr (E:=4) (sz:=1) (n:=4) rfl rfl (i:=0) rfl (m4 d0 (d.get 0 rfl)) kr kr λa b=>wc (lK (t:=jM) (y:=true) (v:=vb true) b d kr 0 0 (s':=[eb 4 (set a2 (toNat 0) true)]) (C':=[k33 b7 (set a2 (toNat 0) true)]) rfl rfl kr rfl rfl d0 rfl rfl kr kr kr kr λa w b d=>?_)))))))
 have d:=d.add (m:=ml (set a2 (toNat 0) true) 4) (List.length_set.trans (d.get 0 rfl))
 refine h8 _ _ (qs λ_ fJ=>rgS d [] ?_)
 have d:=d.drew
 have hX:=d.fx
 refine bd H λfL d1 H=>bd H λfM d2 H=>anp (rg 5) [2,4,24] b hX λa b=>atk 5 (some 25) b hX rfl (vls 0 0 1) λa b=>ago 6 b rfl (jR b d kr kr (z2 N d.fresh ((d.pick [] kr).ro) d1) ?_)
 rintro _ κ w a ⟨fN,fO,rfl,hR,hN⟩ b d hO
 have d:=d.adds hR
 have d:=d.addC hO hN
 refine ⟨λ_=>(d.sx [1] [1,2,3]),?_⟩
 refine ago 7 b rfl (wcS 0 [0,1] b d (λd=>CF N 0 (i64.wrap ((i64.wrap (tmod (u64.wrap a1) 4))+1)) (set a2 (toNat 0) true) fL fN fO (d.sbK [1,0]) d2) ?_)
 rintro _ κ w a ⟨fP,c4,rfl,h2⟩ b hB
 have d:=hB _ _ h2
 refine ⟨λ_=>(d.sx [2] [1,2,3]),?_⟩
 refine jN (ra 8 5) [2,7,8] (L':=[k4x B A.length C,k4y fP,(8,vi fM.2)]) (listed':=(mV 13 8191)) (fuel:=0) b (d.sx [2] [1,2,3]) kr (by intro c a w t v h; cases t<;>exact h) kr rfl λa b=>kN (fJ _ _ (qs λ_ fQ=>qs λ_ fR=>bd H λc6 ae H=>kL (λa w=>∃κ cW be,Fr (143) [] [k4x B A.length C,k4y cW,(35,vb c6.2)] a∧SS [] κ0 Z κ w [ox l9 cW be c6.1] [Ro.mp lL B C A]∧True) ?_ ?_))
 refine kY ae (λho ae=>?_) (λfS ho ae=>?_)
 obtain ⟨J,d⟩:=d.optN 0 rfl ho
 rw [J] at d
 try rw [J] at b
 refine rl (bd ae λgj aJ ae=>k8 (λa w=>∃κ,Fr (143) [] [k4x B A.length C,(7,.pointer none),(35,vb true)] a∧SS [] κ0 Z κ w [] [Ro.mp lL B C A]∧True) ?_ ?_)
 refine wp 3 [2,7,32] b λa b=>bs aJ (λhb aJ=>?_) λhb aJ=>?_
 have b:=b.bv 32 hb
 refine wp 3 [2,7,35] b λa b=>nl ?_
 cases aJ
 exact ⟨_,b.kp [2,7,35],d.sp [] [3],ja⟩
 have b:=b.bv 32 hb
 refine wp 3 [2,7,35] b λa b=>nl ?_
 cases aJ
 exact ⟨_,b.kp [2,7,35],d.sp [] [3],ja⟩
 rintro a w ⟨κ,b,d,-⟩
 cases ae
 have d:=d.addOpt l9
 exact ⟨_,none,[],b.kp [2,7,35],d.sp [0] [0],ja⟩
 obtain ⟨c7,J,d⟩:=d.optS 0 rfl ho
 rw [J] at d
 try rw [J] at b
 refine rl (bd ae λfT aL ae=>k8 (λa w=>∃κ,Fr (143) [] [k4x B A.length C,(7,pt c7 0),(35,vb fT)] a∧SS [] κ0 Z κ w [ox l9 (some c7) c4 (some fS)] [Ro.mp lL B C A]∧True) ?_ ?_)
 refine wp 3 [2,7,32] b λa b=>bs aL (λhb aL=>?_) λhb aL=>?_
 have b:=b.bv 32 hb
 refine wp 3 [2,7,35] b λa b=>nl ?_
 cases aL
 exact ⟨_,b.kp [2,7,35],d.sp [0] [3],ja⟩
 have b:=b.bv 32 hb
 refine wp 3 [2,7,35] b λa b=>nl ?_
 cases aL
 exact ⟨_,b.kp [2,7,35],d.sp [0] [3],ja⟩
 rintro a w ⟨κ,b,d,-⟩
 cases ae
 exact ⟨_,(some c7),c4,b.kp [2,7,35],d.sp [0] [0],ja⟩
 rintro a w ⟨κ,cW,be,b,d,-⟩
 refine fR _ _ (bc b H (λhb H=>?_) λhb H=>?_)
 refine qr λ_ fU=>wp 1 [6] b λa b=>fU _ _ (rt ?_)
 cases H
 exact (j7 b d (l4 results5 (rvt b)) ⟨rfl,(d.pick [] kr).ro,d.newC [] dc kr⟩)
 refine sk (fQ _ _ (qr λ_ fV=>(wc (sS b d kr (kInt .i64) false (fInt .i64).ty rfl λl a w b d=>wp 1 [2,7,9] b λa b=>(fV _ _ (qs λ_ fW=>qr λ_ fX=>(wp 1 [2,7,9,10] b λa b=>(fX _ _ (bk (jT (n:=N) (λn a w=>∃κ aM bf cX ao aq aH x,Fr (143) [] [k4x B A.length C,k4y aM,k4z l,k30 x] a∧SS [] κ0 Z κ w [ox l9 aM bf cX,mx (some l) ao aq] [Ro.mp lL B C A,Map.mp (kInt .i64) false (fInt .i64).ty (some l) ao aq aH]∧M.kV N n A cX aH x=some r) ?_ ?_))))))))))
 exact ⟨_,cW,be,c6.1,#[],0,(some []),0,b.kp [2,7,9,10],d.sp [1,0] [1,0],H⟩
 rintro n a w ⟨κ,aM,bf,cX,ao,aq,aH,x,b,d,H⟩
 rcases n with _|av
 simp [M.kV] at H
 simp only [M.kV] at H
 refine qs λ_ fY=>qr λ_ fZ=>bd H λf0 aO H=>k8 (λa w=>∃κ,Fr (143) [] [k4x B A.length C,k4y aM,k4z l,k30 x,(44,vb f0)] a∧SS [] κ0 Z κ w [ox l9 aM bf cX,mx (some l) ao aq] [Ro.mp lL B C A,Map.mp (kInt .i64) false (fInt .i64).ty (some l) ao aq aH]∧True) ?_ ?_
 refine wp 5 [2,7,9,10,41] b λa b=>bs aO (λhb aO=>?_) λhb aO=>?_
 have b:=b.bv 41 hb
 refine wp 3 [2,7,9,10,44] b λa b=>nl ?_
 cases aO
 exact ⟨_,b.kp [2,7,9,10,44],d.sp [0,1] [0,1],ja⟩
 have b:=b.bv 41 hb
 refine wp 3 [2,7,9,10,44] b λa b=>nl ?_
 cases aO
 exact ⟨_,b.kp [2,7,9,10,44],d.sp [0,1] [0,1],ja⟩
 rintro a w ⟨κ,b,d,-⟩
 refine fZ _ _ (bc b H (λhb H=>?_) λhb H=>?_)
 refine sk (fY _ _ (qs λ_ f1=>bk (qr λ_ f2=>(jE (L':=[k4x B A.length C,k4y aM,k4z l,k30 x,(47,.slice B A.length C),(48,vi x)]) 2 [2,7,9,10,47,48] b kr λa b=>bd H λz c8 H=>wc (kR b d kr 0 (E:=40) (sz:=20) rfl rfl rfl kr rfl c8 kr kr λgk gl a dm b=>?_)))))
 obtain ⟨_,⟨⟨aP,aQ,aR,aS,aT,aU⟩,rfl,hR⟩,hc⟩:=d.elem 0 rfl dm c8
 have d:=(d.adds hR).add hc
 refine wc (kQ b kr (v := .agg (flat (k2p z aP aQ aR aS aT aU)).toArray) ((pD 0 0 20 (s:=[si z.Kind,si z.From,si z.Call,si z.Msg.Kind,su z.Msg.Id,su z.Msg.N,su z.Msg.TS,sg z.Msg.Lo,sg z.Msg.Hi,sl aP z.Msg.Vers.length aQ,sl aR z.Msg.Vec.length aS,si z.Msg.Cmd.Kind,si z.Msg.Cmd.DC,si z.Msg.Cmd.Shard,si z.Msg.Cmd.Node,si z.Msg.Cmd.Mode,sg z.Msg.Cmd.Key,sg z.Key,su z.T,sl aT z.Writes.length aU]) (s':=k2p z aP aQ aR aS aT aU) (n:=20) rfl rfl rfl (show mK [si z.Kind,si z.From,si z.Call,si z.Msg.Kind,su z.Msg.Id,su z.Msg.N,su z.Msg.TS,sg z.Msg.Lo,sg z.Msg.Hi,sl aP z.Msg.Vers.length aQ,sl aR z.Msg.Vec.length aS,si z.Msg.Cmd.Kind,si z.Msg.Cmd.DC,si z.Msg.Cmd.Shard,si z.Msg.Cmd.Node,si z.Msg.Cmd.Mode,sg z.Msg.Cmd.Key,sg z.Key,su z.T,sl aT z.Writes.length aU] from (sgN 20 jD)) kr kr kr kr kr _ ⟨_,d⟩)) λa b=>?_)
 refine bd H λf dn H=>wc (jR b d kr kr (FR N d.fresh z aP aQ aR aS aT aU ((d.pick [1,2,3] kr).ro) dn) ?_)
 rintro _ κ w a ⟨af,ah,ai,aj,ak,al,rfl,hR,hN⟩ b d hO
 have d:=d.adds hR
 refine wc (wal b d (k2q empty) (sgN 20 jD) λar a w b d=>wc (wst b d 0 0 20 (k2p f af ah ai aj ak al) (sgN 20 jD) λa w b d=>?_))
 refine f2 _ _ (qr λ_ d5=>(jE (L':=[k4x B A.length C,k4y aM,k4z l,k30 x,k3g ar,(52,vi x),(53,pt ar 2)]) 2 [2,7,9,10,11,52,53] b kr λa b=>wc (wst b d 0 2 1 [si x] (sgN 1 jD) λa w b d=>d5 _ _ (m2 (λa w=>∃κ bg cY bh aD aE aV,Fr (143) [] [k4x B A.length C,k4y bg,k4z l,k30 x] a∧SS [] κ0 Z κ w [ox l9 bg cY bh,mx (some l) aD aE] [Ro.mp lL B C A,Map.mp (kInt .i64) false (fInt .i64).ty (some l) aD aE aV]∧M.oJ N (M.kV N av) A x bh aV=some r) ?_ ?_))))
 refine qs λ_ d6=>bd H λaW V H=>kL (λa w=>∃κ aF aI,Fr (143) [] [k4x B A.length C,k4y aF,k4z l,k30 x,k3g ar,(67,vb aW.2)] a∧SS [] κ0 Z κ w [.box ar 40 [si f.Kind,si f.From,si x,si f.Msg.Kind,su f.Msg.Id,su f.Msg.N,su f.Msg.TS,sg f.Msg.Lo,sg f.Msg.Hi,sl af f.Msg.Vers.length ah,sl ai f.Msg.Vec.length aj,si f.Msg.Cmd.Kind,si f.Msg.Cmd.DC,si f.Msg.Cmd.Shard,si f.Msg.Cmd.Node,si f.Msg.Cmd.Mode,sg f.Msg.Cmd.Key,sg f.Key,su f.T,sl ak f.Writes.length al],ox l9 aF aI aW.1,mx (some l) ao aq] [Ro.mp lL B C A,Map.mp (kInt .i64) false (fInt .i64).ty (some l) ao aq aH,Ro.mp jG.ty af ah f.Msg.Vers,Ro.mp (fInt .u64).ty ai aj f.Msg.Vec,Ro.mp jG.ty ak al f.Writes]∧True) ?_ ?_
 refine kY V (λho V=>?_) (λq ho V=>?_)
 obtain ⟨J,d⟩:=d.optN 1 rfl ho
 rw [J] at d
 try rw [J] at b
 refine rl (bd V λd7 Q V=>k8 (λa w=>∃κ,Fr (143) [] [k4x B A.length C,(7,.pointer none),k4z l,k30 x,k3g ar,(67,vb d7)] a∧SS [] κ0 Z κ w [.box ar 40 [si f.Kind,si f.From,si x,si f.Msg.Kind,su f.Msg.Id,su f.Msg.N,su f.Msg.TS,sg f.Msg.Lo,sg f.Msg.Hi,sl af f.Msg.Vers.length ah,sl ai f.Msg.Vec.length aj,si f.Msg.Cmd.Kind,si f.Msg.Cmd.DC,si f.Msg.Cmd.Shard,si f.Msg.Cmd.Node,si f.Msg.Cmd.Mode,sg f.Msg.Cmd.Key,sg f.Key,su f.T,sl ak f.Writes.length al],mx (some l) ao aq] [Ro.mp lL B C A,Map.mp (kInt .i64) false (fInt .i64).ty (some l) ao aq aH,Ro.mp jG.ty af ah f.Msg.Vers,Ro.mp (fInt .u64).ty ai aj f.Msg.Vec,Ro.mp jG.ty ak al f.Writes]∧True) ?_ ?_)
 refine wp 1 [2,7,9,10,11,54] b λa b=>wc (wls b d 0 0 20 λa b=>bd Q λf5 dp Q=>wc (wcS 0 [0,1,2] b d (λd=>BD N (kG.mk f.Kind f.From x f.Msg f.Key f.T f.Writes) af ah ai aj ak al (d.sbK [0,1,2]) dp) ?_))
 rintro _ κ w a ⟨rfl,h2⟩ b hB
 have d:=hB _ _ h2
 refine wp 2 [2,7,9,10,11,58] b λa b=>bs Q (λhb Q=>?_) λhb Q=>?_
 have b:=b.bv 58 hb
 refine wp 1 [2,7,9,10,11,58,59] b λa b=>wcg b (wld b d 0 0 0 λa b=>wp 2 [2,7,9,10,11,58,62] b λa b=>bs Q (λhb Q=>?_) λhb Q=>?_)
 have b:=b.bv 62 hb
 refine wp 5 [2,7,9,10,11,67] b λa b=>nl ?_
 cases Q
 exact ⟨_,b.kp [2,7,9,10,11,67],d.sp [0,2] [7,8,0,1,2],ja⟩
 have b:=b.bv 62 hb
 refine wp 1 [2,7,9,10,11,58,62,63] b λa b=>wcg b (wld b d 0 0 0 λa b=>wp 3 [2,7,9,10,11,67] b λa b=>nl ?_)
 cases Q
 exact ⟨_,b.kp [2,7,9,10,11,67],d.sp [0,2] [7,8,0,1,2],ja⟩
 have b:=b.bv 58 hb
 refine wp 9 [2,7,9,10,11,67] b λa b=>nl ?_
 cases Q
 exact ⟨_,b.kp [2,7,9,10,11,67],d.sp [0,2] [7,8,0,1,2],ja⟩
 rintro a w ⟨κ,b,d,-⟩
 cases V
 have d:=d.addOpt l9
 exact ⟨_,none,[],b.kp [2,7,9,10,11,67],d.sp [1,0,2] (rg 5),ja⟩
 obtain ⟨au,J,d⟩:=d.optS 1 rfl ho
 rw [J] at d
 try rw [J] at b
 obtain ⟨⟨d8,d9,ea,ec,ed,ee,ef,eg,eh,ej,ek,dq,el,dr,em,ds,eo,dt,ep,eq,er,es,et,eu,ew,ex,ey,ez,eA,eB,du,eC,eD,eE,eF,eG,eH,eI,eJ⟩,d⟩:=d.unfI (ck:=lZ) (fs:=lV) 1 rfl
 refine rl (bd V λc9 R V=>k8 (λa w=>∃κ aX,Fr (143) [] [k4x B A.length C,(7,pt au 0),k4z l,k30 x,k3g ar,(67,vb c9.2)] a∧SS [] κ0 Z κ w [.box ar 40 [si f.Kind,si f.From,si x,si f.Msg.Kind,su f.Msg.Id,su f.Msg.N,su f.Msg.TS,sg f.Msg.Lo,sg f.Msg.Hi,sl af f.Msg.Vers.length ah,sl ai f.Msg.Vec.length aj,si f.Msg.Cmd.Kind,si f.Msg.Cmd.DC,si f.Msg.Cmd.Shard,si f.Msg.Cmd.Node,si f.Msg.Cmd.Mode,sg f.Msg.Cmd.Key,sg f.Key,su f.T,sl ak f.Writes.length al],ox l9 (some au) aX (some c9.1),mx (some l) ao aq] [Ro.mp lL B C A,Map.mp (kInt .i64) false (fInt .i64).ty (some l) ao aq aH,Ro.mp jG.ty af ah f.Msg.Vers,Ro.mp (fInt .u64).ty ai aj f.Msg.Vec,Ro.mp jG.ty ak al f.Writes]∧True) ?_ ?_)
 refine wp 1 [2,7,9,10,11,54] b λa b=>wc (wls b d 17 0 20 λa b=>bd R λe dv R=>wc (wcS 17 (rg 19) b d (λd=>H3 N q.dc q.nodes q.role q.epoch q.base q.txs q.m q.modes q.agreed q.old q.owing q.st q.log q.co q.hi q.boxes q.cursor q.heard q.calls q.reads q.held q.loads q.last q.mv q.seedTo q.seeds q.cut q.end_ q.floor q.floored q.seeded q.said q.out q.replies (kG.mk f.Kind f.From x f.Msg f.Key f.T f.Writes) d8 d9 ea ec ed ee ef eg eh ej ek dq el dr em ds eo dt ep eq er es et eu ew ex ey ez eA eB du eC eD eE eF eG eH eI eJ af ah ai aj ak al au (d.sbK (rg 16)) dv) ?_))
 rintro _ κ w a ⟨bi,bj,bl,bm,bn,bo,bq,br,bt,bu,bw,aY,bx,aZ,bz,a0,bA,a4,bB,bC,bD,bE,bF,bG,bH,bI,bJ,bK,bL,bM,a5,bN,bO,bP,bQ,bR,bS,bT,bU,rfl,h2⟩ b hB
 have d:=hB _ _ h2
 refine wp 2 [2,7,9,10,11,58] b λa b=>bs R (λhb R=>?_) λhb R=>?_
 have b:=b.bv 58 hb
 refine wp 1 [2,7,9,10,11,58,59] b λa b=>wcg b (wld b d 17 0 0 λa b=>wp 2 [2,7,9,10,11,58,62] b λa b=>bs R (λhb R=>?_) λhb R=>?_)
 have b:=b.bv 62 hb
 refine wp 5 [2,7,9,10,11,67] b λa b=>?_
 obtain ⟨dw,d⟩:=d.foldI (ck:=lZ) (fs:=lV) au (bi,bj,bl,bm,bn,bo,bq,br,bt,bu,bw,aY,bx,aZ,bz,a0,bA,a4,bB,bC,bD,bE,bF,bG,bH,bI,bJ,bK,bL,bM,a5,bN,bO,bP,bQ,bR,bS,bT,bU) (jV.mk q.dc q.nodes e.2.1 e.2.2.1 e.2.2.2.1 e.u4.1 e.u4.2.1 e.u4.2.2.1 e.u4.2.2.2.1 e.u8.1 e.u8.2.1 e.u8.2.2.1 e.u8.2.2.2.1 e.u8.u4.1 e.u8.u4.2.1 e.u8.u4.2.2.1 e.u8.u4.2.2.2.1 e.u8.u8.1 e.u8.u8.2.1 e.u8.u8.2.2.1 e.u8.u8.2.2.2.1 e.u8.u8.u4.1 e.u8.u8.u4.2.1 e.u8.u8.u4.2.2.1 e.u8.u8.u4.2.2.2.1 e.u8.u8.u8.1 e.u8.u8.u8.2.1 e.u8.u8.u8.2.2.1 e.u8.u8.u8.2.2.2.1 e.u8.u8.u8.u4.1 e.u8.u8.u8.u4.2.1 e.u8.u8.u8.u4.2.2.1 e.u8.u8.u8.u4.2.2.2.1 e.u8.u8.u8.u8) (rg 17) [17,18] (rg 13) dc kr kr
 refine nl ?_
 cases R
 exact ⟨_,dw,b.kp [2,7,9,10,11,67],d.sp [1,0,2] [33,34,26,27,28],ja⟩
 have b:=b.bv 62 hb
 refine wp 1 [2,7,9,10,11,58,62,63] b λa b=>wcg b (wld b d 17 0 0 λa b=>wp 3 [2,7,9,10,11,67] b λa b=>?_)
 obtain ⟨dx,d⟩:=d.foldI (ck:=lZ) (fs:=lV) au (bi,bj,bl,bm,bn,bo,bq,br,bt,bu,bw,aY,bx,aZ,bz,a0,bA,a4,bB,bC,bD,bE,bF,bG,bH,bI,bJ,bK,bL,bM,a5,bN,bO,bP,bQ,bR,bS,bT,bU) (jV.mk q.dc q.nodes e.2.1 e.2.2.1 e.2.2.2.1 e.u4.1 e.u4.2.1 e.u4.2.2.1 e.u4.2.2.2.1 e.u8.1 e.u8.2.1 e.u8.2.2.1 e.u8.2.2.2.1 e.u8.u4.1 e.u8.u4.2.1 e.u8.u4.2.2.1 e.u8.u4.2.2.2.1 e.u8.u8.1 e.u8.u8.2.1 e.u8.u8.2.2.1 e.u8.u8.2.2.2.1 e.u8.u8.u4.1 e.u8.u8.u4.2.1 e.u8.u8.u4.2.2.1 e.u8.u8.u4.2.2.2.1 e.u8.u8.u8.1 e.u8.u8.u8.2.1 e.u8.u8.u8.2.2.1 e.u8.u8.u8.2.2.2.1 e.u8.u8.u8.u4.1 e.u8.u8.u8.u4.2.1 e.u8.u8.u8.u4.2.2.1 e.u8.u8.u8.u4.2.2.2.1 e.u8.u8.u8.u8) (rg 17) [17,18] (rg 13) dc kr kr
 refine nl ?_
 cases R
 exact ⟨_,dx,b.kp [2,7,9,10,11,67],d.sp [1,0,2] [33,34,26,27,28],ja⟩
 have b:=b.bv 58 hb
 refine wp 9 [2,7,9,10,11,67] b λa b=>?_
 obtain ⟨dy,d⟩:=d.foldI (ck:=lZ) (fs:=lV) au (bi,bj,bl,bm,bn,bo,bq,br,bt,bu,bw,aY,bx,aZ,bz,a0,bA,a4,bB,bC,bD,bE,bF,bG,bH,bI,bJ,bK,bL,bM,a5,bN,bO,bP,bQ,bR,bS,bT,bU) (jV.mk q.dc q.nodes e.2.1 e.2.2.1 e.2.2.2.1 e.u4.1 e.u4.2.1 e.u4.2.2.1 e.u4.2.2.2.1 e.u8.1 e.u8.2.1 e.u8.2.2.1 e.u8.2.2.2.1 e.u8.u4.1 e.u8.u4.2.1 e.u8.u4.2.2.1 e.u8.u4.2.2.2.1 e.u8.u8.1 e.u8.u8.2.1 e.u8.u8.2.2.1 e.u8.u8.2.2.2.1 e.u8.u8.u4.1 e.u8.u8.u4.2.1 e.u8.u8.u4.2.2.1 e.u8.u8.u4.2.2.2.1 e.u8.u8.u8.1 e.u8.u8.u8.2.1 e.u8.u8.u8.2.2.1 e.u8.u8.u8.2.2.2.1 e.u8.u8.u8.u4.1 e.u8.u8.u8.u4.2.1 e.u8.u8.u8.u4.2.2.1 e.u8.u8.u8.u4.2.2.2.1 e.u8.u8.u8.u8) (rg 17) [17,18] (rg 13) dc kr kr
 refine nl ?_
 cases R
 exact ⟨_,dy,b.kp [2,7,9,10,11,67],d.sp [1,0,2] [33,34,26,27,28],ja⟩
 rintro a w ⟨κ,aX,b,d,-⟩
 cases V
 exact ⟨_,(some au),aX,b.kp [2,7,9,10,11,67],d.sp [0,1,2] (rg 5),ja⟩
 rintro a w ⟨κ,aF,aI,b,d,-⟩
 refine d6 _ _ (bc b H (λhb H=>?_) λhb H=>?_)
 refine rl (wp 3 [2,7,9,10,68,69,70] b λa b=>wc (wld b d 0 0 0 λa b=>jE (L':=[k4x B A.length C,k4y aF,k4z l,k30 x,(68,.map (some l)),(69,vi x),(72,vi (i64.wrap (f.Kind-1)))]) 1 [2,7,9,10,68,69,72] b kr λa b=>bd H λeK dz H=>wc (oC (KT:=3) (E:=3) (kt:=(kInt .i64)) (agg:=false) (t:=(fInt .i64).ty) b d kr 2 1 (k:=x) (v:=i64.wrap (f.Kind-1)) (cs:=flat [si (i64.wrap (f.Kind-1))]) rfl kr kr kr rfl rfl rfl dz kr kr λeL eM a w b d=>nl ?_)))
 exact ⟨_,aF,aI,aW.1,eL,eM,eK,b.kp [2,7,9,10],d.sp [1,2] [1,0],H⟩
 refine sk ?_
 exact ⟨_,aF,aI,aW.1,ao,aq,aH,b.kp [2,7,9,10],d.sp [1,2] [0,1],H⟩
 rintro a w ⟨κ,bg,cY,bh,aD,aE,aV,b,d,H⟩
 unfold M.oJ at H
 refine qs λ_ eN=>qs λ_ eO=>bd H λo W H=>kL (λa w=>∃κ I am D F,Fr (143) [] [k4x B A.length C,k4y I,k4z l,k30 x,k3i D o.2.1.length F,(75,vi o.2.2),(76,vi 0)] a∧SS [] κ0 Z κ w [.tok D 52 13 o.2.1.length F,ox l9 I am o.1,mx (some l) aD aE] [Ro.mp lL B C A,Map.mp (kInt .i64) false (fInt .i64).ty (some l) aD aE aV,Ro.mp kK.ty D F o.2.1]∧True) ?_ ?_
 refine kY W (λho W=>?_) (λu ho W=>?_)
 obtain ⟨J,d⟩:=d.optN 0 rfl ho
 rw [J] at d
 try rw [J] at b
 refine rl (wp 1 [2,7,9,10,73] b λa b=>bd W λf6 dA W=>wc (wcS 0 [0,1] b d (λd=>tR N (d.sbK []) dA) ?_))
 rintro _ κ w a ⟨eP,eQ,rfl,h2⟩ b hB
 have d:=hB _ _ h2
 refine wp 2 [2,7,9,10,74,75,76] b λa b=>nl ?_
 cases W
 exact ⟨_,none,[],eP,eQ,b.kp [2,7,9,10,74,75,76],d.sp [0,1,2] [1,2,0],ja⟩
 obtain ⟨bV,J,d⟩:=d.optS 0 rfl ho
 rw [J] at d
 try rw [J] at b
 obtain ⟨⟨bW,bX,bY,bZ,b0,b1,b2,b3,b4,b5,b6,dB,b8,dC,b9,dD,ca,dE,cb,eR,eS,cc,eT,eU,cd,ce,cg,eV,eW,ch,dF,ci,cj,cl,cm,cn,cp,eX,eY⟩,d⟩:=d.unfI (ck:=lZ) (fs:=lV) 0 rfl
 refine rl (wp 1 [2,7,9,10,73] b λa b=>bd W λda dG W=>?_)
 have c2:=d.segs 0 rfl
 refine wc (wcS 2 [0,5,1,2,3,4,6,7,8,9,10,11,12,13,14,15,16,17] b d (λd=>vJ N u.replies (flat (k2r u bW bX bY bZ b0 b1 b2 b3 b4 b5 b6 b8 b9 ca cb cc cd ce cg ch ci cj cl cm cn cp)) eX eY bV ((d.regr 0 [(true,34),(false,1)] rfl).sbK [12]) dG) ?_)
 rintro _ κ w a ⟨eZ,e0,db,dd,rfl,h2⟩ b hB
 have d:=(hB _ _ h2).unregrK 0 [(true,34),(false,1)] (s':=k2s u bW bX bY bZ b0 b1 b2 b3 b4 b5 b6 b8 b9 ca cb cc cd ce cg ch ci cj cl cm cn cp db da.2.length dd) c2 rfl
 refine wp 2 [2,7,9,10,74,75,76] b λa b=>nl ?_
 obtain ⟨dH,d⟩:=d.foldI (ck:=lZ) (fs:=lV) bV (bW,bX,bY,bZ,b0,b1,b2,b3,b4,b5,b6,dB,b8,dC,b9,dD,ca,dE,cb,eR,eS,cc,eT,eU,cd,ce,cg,eV,eW,ch,dF,ci,cj,cl,cm,cn,cp,db,dd) (jV.mk u.dc u.nodes u.role u.epoch u.base u.txs u.m u.modes u.agreed u.old u.owing u.st u.log u.co u.hi u.boxes u.cursor u.heard u.calls u.reads u.held u.loads u.last u.mv u.seedTo u.seeds u.cut u.end_ u.floor u.floored u.seeded u.said u.out da.2) [0,3,4,5,6,1,7,8,9,10,11,12,13,14,15,16,17] [2,18] [2,3,4,5,6,7,8,9,10,11,12,13,1] dc kr kr
 cases W
 exact ⟨_,(some bV),dH,eZ,e0,b.kp [2,7,9,10,74,75,76],d.sp [1,0,2] [15,16,0],ja⟩
 rintro a w ⟨κ,I,am,D,F,b,d,-⟩
 refine eO _ _ (bk (jT (n:=N) (λn a w=>∃κ L O aa P,Fr (143) [] [k4x B A.length C,k4y I,k4z l,k30 x,k3i D o.2.1.length F,(75,vi o.2.2),(76,vi P)] a∧SS [] κ0 Z κ w [.tok D 52 13 o.2.1.length F,ox l9 I am o.1,mx (some l) L O] [Ro.mp lL B C A,Map.mp (kInt .i64) false (fInt .i64).ty (some l) L O aa,Ro.mp kK.ty D F o.2.1]∧M.kU N (M.kV N av) n A x o aa P=some r) ?_ ?_))
 exact ⟨_,aD,aE,aV,0,b.kp [2,7,9,10,74,75,76],d.sp [0,1,2] [0,1,2],H⟩
 rintro n a w ⟨κ,L,O,aa,P,b,d,H⟩
 rcases n with _|cZ
 simp [M.kU] at H
 simp only [M.kU] at H
 refine qr λ_ e1=>(jE (L':=[k4x B A.length C,k4y I,k4z l,k30 x,k3i D o.2.1.length F,(75,vi o.2.2),(76,vi P),(77,vb (decide (P<o.2.2)))]) 1 [2,7,9,10,74,75,76,77] b kr λa b=>e1 _ _ (qs λ_ e2=>bc b H (λhb H=>?_) λhb H=>?_))
 refine sk (e2 _ _ (qs λ_ e3=>bk (qr λ_ e4=>(bd H λg c0 H=>wc (kR b d kr 2 (E:=52) (sz:=13) rfl rfl rfl kr rfl c0 kr kr λf7 f8 a de b=>wc (qY (t:=kK) b d kr 2 rfl rfl de rfl c0 kr kr kr λa b=>wc (wal b d (k20 empty) (sgN 13 jD) λK a w b d=>wc (wst b d 0 0 13 [si g.Call,si g.Kind,sb g.Old,sb g.Has,sg g.Ver.Key,sg g.Ver.Val,sb g.Ver.Gone,su g.Ver.TS,si g.Ver.DC,si g.Ver.Tx,su g.Mark.TS,si g.Mark.DC,si g.Mark.Tx] (sgN 13 jD) λa w b d=>?_))))))))
 refine e4 _ _ (m2 (λa w=>∃κ a6 a7 a8,Fr (143) [] [k4x B A.length C,k4y I,k4z l,k30 x,k3h K,k3i D o.2.1.length F,(75,vi o.2.2),(76,vi P)] a∧SS [] κ0 Z κ w [.box K 52 [si g.Call,si g.Kind,sb g.Old,sb g.Has,sg g.Ver.Key,sg g.Ver.Val,sb g.Ver.Gone,su g.Ver.TS,si g.Ver.DC,si g.Ver.Tx,su g.Mark.TS,si g.Mark.DC,si g.Mark.Tx],.tok D 52 13 o.2.1.length F,ox l9 I am o.1,mx (some l) a6 a7] [Ro.mp lL B C A,Map.mp (kInt .i64) false (fInt .i64).ty (some l) a6 a7 a8,Ro.mp kK.ty D F o.2.1]∧M.nC N (M.kU N (M.kV N av) cZ) A x o P g a8=some r) ?_ ?_)
 refine qr λ_ e5=>(jE (L':=[k4x B A.length C,k4y I,k4z l,k30 x,k3h K,k3i D o.2.1.length F,(75,vi o.2.2),(76,vi P),(80,.map (some l)),(81,pt K 0)]) 2 [2,7,9,10,13,74,75,76,80,81] b kr λa b=>wc (wld b d 0 0 0 λa b=>bd H λdf dI H=>wc (uI (KT:=3) (E:=3) (kt:=(kInt .i64)) (agg:=false) (t:=(fInt .i64).ty) b d kr 3 1 (k:=g.Call) (zc:=flat [si 0]) (zm:=0) rfl kr kr rfl rfl dI kr kr kr (λ_ _=>rfl) ?_)))
 rintro _ a rfl b
 refine wp 1 [2,7,9,10,13,14,74,75,76] b λa b=>e5 _ _ (bk (qr λ_ e6=>bd H λe7 aw H=>k8 (λa w=>∃κ,Fr (143) [] [k4x B A.length C,k4y I,k4z l,k30 x,k3h K,(14,vi df.1),k3i D o.2.1.length F,(75,vi o.2.2),(76,vi P),(84,vb e7)] a∧SS [] κ0 Z κ w [.box K 52 [si g.Call,si g.Kind,sb g.Old,sb g.Has,sg g.Ver.Key,sg g.Ver.Val,sb g.Ver.Gone,su g.Ver.TS,si g.Ver.DC,si g.Ver.Tx,su g.Mark.TS,si g.Mark.DC,si g.Mark.Tx],.tok D 52 13 o.2.1.length F,ox l9 I am o.1,mx (some l) L O] [Ro.mp lL B C A,Map.mp (kInt .i64) false (fInt .i64).ty (some l) L O aa,Ro.mp kK.ty D F o.2.1]∧True) ?_ ?_))
 refine wp 1 [2,7,9,10,13,14,74,75,76,85] b λa b=>wc (wld b d 0 1 0 λa b=>wp 2 [2,7,9,10,13,14,74,75,76,88] b λa b=>bs aw (λhb aw=>?_) λhb aw=>?_)
 have b:=b.bv 88 hb
 refine wp 4 [2,7,9,10,13,14,74,75,76,84] b λa b=>nl ?_
 cases aw
 exact ⟨_,b.kp [2,7,9,10,13,14,74,75,76,84],d.sp (rg 4) [0,1,2],ja⟩
 have b:=b.bv 88 hb
 refine wp 4 [2,7,9,10,13,14,74,75,76,84] b λa b=>nl ?_
 cases aw
 exact ⟨_,b.kp [2,7,9,10,13,14,74,75,76,84],d.sp (rg 4) [0,1,2],ja⟩
 rintro a w ⟨κ,b,d,-⟩
 refine e6 _ _ (bc b H (λhb H=>?_) λhb H=>?_)
 refine rl (jE (L':=[k4x B A.length C,k4y I,k4z l,k30 x,k3h K,k3i D o.2.1.length F,(75,vi o.2.2),(76,vi P),(92,.map (some l)),(93,pt K 0)]) 2 [2,7,9,10,13,74,75,76,92,93] b kr λa b=>wc (wld b d 0 0 0 λa b=>bd H λe8 dJ H=>wc (oC (KT:=3) (E:=3) (kt:=(kInt .i64)) (agg:=false) (t:=(fInt .i64).ty) b d kr 3 1 (k:=g.Call) (v:=4) (cs:=flat [si 4]) rfl kr kr kr rfl rfl rfl dJ kr kr λe9 fa a w b d=>nl ?_)))
 exact ⟨_,e9,fa,e8,b.kp [2,7,9,10,13,74,75,76],d.sp (rg 4) [1,0,3],H⟩
 refine qr λ_ fb=>bd H λfc ax H=>k8 (λa w=>∃κ,Fr (143) [] [k4x B A.length C,k4y I,k4z l,k30 x,k3h K,(14,vi df.1),k3i D o.2.1.length F,(75,vi o.2.2),(76,vi P),(95,vb fc)] a∧SS [] κ0 Z κ w [.box K 52 [si g.Call,si g.Kind,sb g.Old,sb g.Has,sg g.Ver.Key,sg g.Ver.Val,sb g.Ver.Gone,su g.Ver.TS,si g.Ver.DC,si g.Ver.Tx,su g.Mark.TS,si g.Mark.DC,si g.Mark.Tx],.tok D 52 13 o.2.1.length F,ox l9 I am o.1,mx (some l) L O] [Ro.mp lL B C A,Map.mp (kInt .i64) false (fInt .i64).ty (some l) L O aa,Ro.mp kK.ty D F o.2.1]∧True) ?_ ?_
 refine wp 1 [2,7,9,10,13,14,74,75,76,96] b λa b=>wc (wld b d 0 1 0 λa b=>wp 2 [2,7,9,10,13,14,74,75,76,99] b λa b=>bs ax (λhb ax=>?_) λhb ax=>?_)
 have b:=b.bv 99 hb
 refine wp 4 [2,7,9,10,13,14,74,75,76,95] b λa b=>nl ?_
 cases ax
 exact ⟨_,b.kp [2,7,9,10,13,14,74,75,76,95],d.sp (rg 4) [0,1,2],ja⟩
 have b:=b.bv 99 hb
 refine wp 4 [2,7,9,10,13,14,74,75,76,95] b λa b=>nl ?_
 cases ax
 exact ⟨_,b.kp [2,7,9,10,13,14,74,75,76,95],d.sp (rg 4) [0,1,2],ja⟩
 rintro a w ⟨κ,b,d,-⟩
 refine fb _ _ (bc b H (λhb H=>?_) λhb H=>?_)
 refine rl (jE (L':=[k4x B A.length C,k4y I,k4z l,k30 x,k3h K,k3i D o.2.1.length F,(75,vi o.2.2),(76,vi P),(103,.map (some l)),(104,pt K 0)]) 2 [2,7,9,10,13,74,75,76,103,104] b kr λa b=>wc (wld b d 0 0 0 λa b=>bd H λfd dK H=>wc (oC (KT:=3) (E:=3) (kt:=(kInt .i64)) (agg:=false) (t:=(fInt .i64).ty) b d kr 3 1 (k:=g.Call) (v:=3) (cs:=flat [si 3]) rfl kr kr kr rfl rfl rfl dK kr kr λfe fg a w b d=>nl ?_)))
 exact ⟨_,fe,fg,fd,b.kp [2,7,9,10,13,74,75,76],d.sp (rg 4) [1,0,3],H⟩
 refine qr λ_ fh=>bd H λfi ay H=>k8 (λa w=>∃κ,Fr (143) [] [k4x B A.length C,k4y I,k4z l,k30 x,k3h K,k3i D o.2.1.length F,(75,vi o.2.2),(76,vi P),(106,vb fi)] a∧SS [] κ0 Z κ w [.box K 52 [si g.Call,si g.Kind,sb g.Old,sb g.Has,sg g.Ver.Key,sg g.Ver.Val,sb g.Ver.Gone,su g.Ver.TS,si g.Ver.DC,si g.Ver.Tx,su g.Mark.TS,si g.Mark.DC,si g.Mark.Tx],.tok D 52 13 o.2.1.length F,ox l9 I am o.1,mx (some l) L O] [Ro.mp lL B C A,Map.mp (kInt .i64) false (fInt .i64).ty (some l) L O aa,Ro.mp kK.ty D F o.2.1]∧True) ?_ ?_
 refine wp 1 [2,7,9,10,13,14,74,75,76,107] b λa b=>wc (wld b d 0 1 0 λa b=>wp 2 [2,7,9,10,13,14,74,75,76,110] b λa b=>bs ay (λhb ay=>?_) λhb ay=>?_)
 have b:=b.bv 110 hb
 refine wp 4 [2,7,9,10,13,74,75,76,106] b λa b=>nl ?_
 cases ay
 exact ⟨_,b.kp [2,7,9,10,13,74,75,76,106],d.sp (rg 4) [0,1,2],ja⟩
 have b:=b.bv 110 hb
 refine wp 4 [2,7,9,10,13,74,75,76,106] b λa b=>nl ?_
 cases ay
 exact ⟨_,b.kp [2,7,9,10,13,74,75,76,106],d.sp (rg 4) [0,1,2],ja⟩
 rintro a w ⟨κ,b,d,-⟩
 refine fh _ _ (bc b H (λhb H=>?_) λhb H=>?_)
 refine rl (jE (L':=[k4x B A.length C,k4y I,k4z l,k30 x,k3h K,k3i D o.2.1.length F,(75,vi o.2.2),(76,vi P),(114,.map (some l)),(115,pt K 0)]) 2 [2,7,9,10,13,74,75,76,114,115] b kr λa b=>wc (wld b d 0 0 0 λa b=>bd H λfj dL H=>wc (oC (KT:=3) (E:=3) (kt:=(kInt .i64)) (agg:=false) (t:=(fInt .i64).ty) b d kr 3 1 (k:=g.Call) (v:=4) (cs:=flat [si 4]) rfl kr kr kr rfl rfl rfl dL kr kr λfk fl a w b d=>nl ?_)))
 exact ⟨_,fk,fl,fj,b.kp [2,7,9,10,13,74,75,76],d.sp (rg 4) [1,0,3],H⟩
 refine qr λ_ fm=>wp 1 [6] b λa b=>fm _ _ (rt ?_)
 cases H
 exact (j7 b d (l4 results5 (rvt b)) ⟨rfl,(d.pick [] kr).ro,d.newC [] dc kr⟩)
 rintro a w ⟨κ,a6,a7,a8,b,d,H⟩
 unfold M.nC at H
 refine qr λ_ fn=>(jE (L':=[k4x B A.length C,k4y I,k4z l,k30 x,k3i D o.2.1.length F,(75,vi o.2.2),(76,vi P),(117,.map (some l)),(118,pt K 0)]) 2 [2,7,9,10,74,75,76,117,118] b kr λa b=>wc (wld b d 0 0 0 λa b=>bd H λf9 dM H=>wc (uI (KT:=3) (E:=3) (kt:=(kInt .i64)) (agg:=false) (t:=(fInt .i64).ty) b d kr 3 1 (k:=g.Call) (zc:=flat [si 0]) (zm:=0) rfl kr kr rfl rfl dM kr kr kr (λ_ _=>rfl) ?_)))
 rintro _ a rfl b
 refine wp 1 [2,7,9,10,15,74,75,76] b λa b=>fn _ _ (qr λ_ fo=>wp 2 [2,7,9,10,74,75,76,122] b λa b=>fo _ _ (bc b H (λhb H=>?_) λhb H=>?_))
 refine qr λ_ fp=>wp 1 [6] b λa b=>fp _ _ (rt ?_)
 cases H
 exact (j7 b d (l4 results5 (rvt b)) ⟨rfl,(d.pick [] kr).ro,d.newC [] dc kr⟩)
 refine sk (e3 _ _ (rl (wp 2 [2,7,9,10,74,75,76] b λa b=>nl ?_)))
 exact ⟨cZ,jb _,_,a6,a7,a8,i64.wrap (P+1),b.kp [2,7,9,10,74,75,76],d.sp [1,2,3] [0,1,2],H⟩
 refine xt (eN _ _ (qs λ_ fq=>bd H λG X H=>kL (λa w=>∃κ ab az S U,Fr (143) [] [k4x B A.length C,k4y ab,k4z l,k30 x,(125,.slice S G.2.1.length U),(126,vi G.2.2),(127,vi 0)] a∧SS [] κ0 Z κ w [.tok S 3 1 G.2.1.length U,ox l9 ab az G.1,mx (some l) L O] [Ro.mp lL B C A,Map.mp (kInt .i64) false (fInt .i64).ty (some l) L O aa,Ro.mp (fInt .i64).ty S U G.2.1]∧True) ?_ ?_))
 refine kY X (λho X=>?_) (λj ho X=>?_)
 obtain ⟨J,d⟩:=d.optN 1 rfl ho
 rw [J] at d
 try rw [J] at b
 refine rl (wp 1 [2,7,9,10,124] b λa b=>bd X λga dN X=>wc (wcS 0 [0,1,2] b d (λd=>xM N (d.sbK []) dN) ?_))
 rintro _ κ w a ⟨fr,ft,rfl,h2⟩ b hB
 have d:=hB _ _ h2
 refine wp 2 [2,7,9,10,125,126,127] b λa b=>nl ?_
 cases X
 exact ⟨_,none,[],fr,ft,b.kp [2,7,9,10,125,126,127],d.sp [0,2,3] [1,2,0],ja⟩
 obtain ⟨cq,J,d⟩:=d.optS 1 rfl ho
 rw [J] at d
 try rw [J] at b
 obtain ⟨⟨cr,cu,cv,cw,cx,cy,cz,cA,cB,cD,cE,dO,cF,dP,cG,dR,cH,dS,cI,dg,dh,cJ,di,dj,cK,cL,cM,fu,fv,cN,dT,cO,cP,cQ,cR,cS,cT,cU,cV⟩,d⟩:=d.unfI (ck:=lZ) (fs:=lV) 1 rfl
 refine rl (wp 1 [2,7,9,10,124] b λa b=>bd X λgb dU X=>?_)
 have c3:=d.segs 0 rfl
 refine wc (wcS 3 [0,13,14,1,2,3,4,5,6,7,8,9,10,11,12,15,16,17,18] b d (λd=>AA N j.calls j.reads j.held (flat [si j.dc,si j.nodes,si j.role,si j.epoch,si j.base,si j.txs,sl cr j.m.Cuts.length cu,sl cv j.m.Nodes.length cw,sl cx j.modes.length cy,sl cz j.agreed.length cA,sl cB j.old.length cD,sb j.owing,sp cE,sp cF,sp cG,su j.hi,k4d cH,ei 4 j.cursor,ei 4 j.heard]) cI dg dh cJ di dj cK cL (flat [sm cM,su j.last,sp cN,si j.seedTo,si j.seeds,sl cO j.cut.length cP,sl cQ j.end_.length cR,su j.floor,sb j.floored,sb j.seeded,sb j.said,sl cS j.out.length cT,sl cU j.replies.length cV]) cq ((d.regr 0 [(true,19),(false,3),(true,13)] rfl).sbK [5,6,7]) dU) ?_)
 rintro _ κ w a ⟨fw,fy,rfl,h2⟩ b hB
 have d:=(hB _ _ h2).unregrK 0 [(true,19),(false,3),(true,13)] (s':=[si j.dc,si j.nodes,si j.role,si j.epoch,si j.base,si j.txs,sl cr j.m.Cuts.length cu,sl cv j.m.Nodes.length cw,sl cx j.modes.length cy,sl cz j.agreed.length cA,sl cB j.old.length cD,sb j.owing,sp cE,sp cF,sp cG,su j.hi,k4d cH,ei 4 j.cursor,ei 4 j.heard,sm cI,sm cJ,sl cK j.held.length cL,sm cM,su j.last,sp cN,si j.seedTo,si j.seeds,sl cO j.cut.length cP,sl cQ j.end_.length cR,su j.floor,sb j.floored,sb j.seeded,sb j.said,sl cS j.out.length cT,sl cU j.replies.length cV]) c3 rfl
 refine wp 2 [2,7,9,10,125,126,127] b λa b=>nl ?_
 obtain ⟨dV,d⟩:=d.foldI (ck:=lZ) (fs:=lV) cq (cr,cu,cv,cw,cx,cy,cz,cA,cB,cD,cE,dO,cF,dP,cG,dR,cH,dS,cI,dg,dh,cJ,di,dj,cK,cL,cM,fu,fv,cN,dT,cO,cP,cQ,cR,cS,cT,cU,cV) j [0,4,5,6,7,8,9,10,11,12,13,14,15,1,2,16,17] [3,18,19] (ra 1 13) dc kr kr
 cases X
 exact ⟨_,(some cq),dV,fw,fy,b.kp [2,7,9,10,125,126,127],d.sp [1,0,3] [14,15,0],ja⟩
 rintro a w ⟨κ,ab,az,S,U,b,d,-⟩
 refine fq _ _ (bk (jT (n:=N) (λn a w=>∃κ an,Fr (143) [] [k4x B A.length C,k4y ab,k4z l,k30 x,(125,.slice S G.2.1.length U),(126,vi G.2.2),(127,vi an)] a∧SS [] κ0 Z κ w [.tok S 3 1 G.2.1.length U,ox l9 ab az G.1,mx (some l) L O] [Ro.mp lL B C A,Map.mp (kInt .i64) false (fInt .i64).ty (some l) L O aa,Ro.mp (fInt .i64).ty S U G.2.1]∧M.mF N (M.kV N av) n A x aa G an=some r) ?_ ?_))
 exact ⟨_,0,b.kp [2,7,9,10,125,126,127],d.sp [0,1,2] [0,1,2],H⟩
 rintro n a w ⟨κ,an,b,d,H⟩
 rcases n with _|dW
 simp [M.mF] at H
 simp only [M.mF] at H
 refine qr λ_ fz=>(jE (L':=[k4x B A.length C,k4y ab,k4z l,k30 x,(125,.slice S G.2.1.length U),(126,vi G.2.2),(127,vi an),(128,vb (decide (an<G.2.2)))]) 1 [2,7,9,10,125,126,127,128] b kr λa b=>fz _ _ (qs λ_ fA=>bc b H (λhb H=>?_) λhb H=>?_))
 refine sk (fA _ _ (qs λ_ fB=>bk (qr λ_ fC=>(bd H λaG c1 H=>wc (kR b d kr 2 (E:=3) (sz:=1) rfl rfl rfl kr rfl c1 kr kr λgc gd a dk b=>wc (mH (t:=(fInt .i64)) b d kr 2 0 (v:=vi aG) rfl rfl dk rfl c1 kr kr kr λa b=>wp 1 [2,7,9,10,17,125,126,127] b λa b=>fC _ _ (qr λ_ fD=>bd H λfE Y H=>k8 (λa w=>∃κ,Fr (143) [] [k4x B A.length C,k4y ab,k4z l,k30 x,(125,.slice S G.2.1.length U),(126,vi G.2.2),(127,vi an),(140,vb fE)] a∧SS [] κ0 Z κ w [.tok S 3 1 G.2.1.length U,ox l9 ab az G.1,mx (some l) L O] [Ro.mp lL B C A,Map.mp (kInt .i64) false (fInt .i64).ty (some l) L O aa,Ro.mp (fInt .i64).ty S U G.2.1]∧True) ?_ ?_)))))))
 refine jE (L':=[k4x B A.length C,k4y ab,k4z l,k30 x,(17,vi aG),(125,.slice S G.2.1.length U),(126,vi G.2.2),(127,vi an),(131,.map (some l)),(132,vi aG)]) 2 [2,7,9,10,17,125,126,127,131,132] b kr λa b=>bd Y λgf dX Y=>wc (uI (KT:=3) (E:=3) (kt:=(kInt .i64)) (agg:=false) (t:=(fInt .i64).ty) b d kr 2 1 (k:=aG) (zc:=flat [si 0]) (zm:=0) rfl kr kr rfl rfl dX kr kr kr (λ_ _=>rfl) ?_)
 rintro _ a rfl b
 refine wp 2 [2,7,9,10,17,125,126,127,135] b λa b=>bs Y (λhb Y=>?_) λhb Y=>?_
 have b:=b.bv 135 hb
 refine wp 5 [2,7,9,10,125,126,127,140] b λa b=>nl ?_
 cases Y
 exact ⟨_,b.kp [2,7,9,10,125,126,127,140],d.sp [0,1,2] [0,1,2],ja⟩
 have b:=b.bv 135 hb
 refine jE (L':=[k4x B A.length C,k4y ab,k4z l,k30 x,(125,.slice S G.2.1.length U),(126,vi G.2.2),(127,vi an),(135,vb false),(136,.map (some l)),(137,vi aG)]) 2 [2,7,9,10,125,126,127,135,136,137] b kr λa b=>bd Y λgg dY Y=>wcg b (uI (KT:=3) (E:=3) (kt:=(kInt .i64)) (agg:=false) (t:=(fInt .i64).ty) b d kr 2 1 (k:=aG) (zc:=flat [si 0]) (zm:=0) rfl kr kr rfl rfl dY kr kr kr (λ_ _=>rfl) ?_)
 rintro _ a rfl b
 refine wp 2 [2,7,9,10,125,126,127,140] b λa b=>nl ?_
 cases Y
 exact ⟨_,b.kp [2,7,9,10,125,126,127,140],d.sp [0,1,2] [0,1,2],ja⟩
 rintro a w ⟨κ,b,d,-⟩
 refine fD _ _ (bc b H (λhb H=>?_) λhb H=>?_)
 refine qr λ_ fF=>wp 1 [6] b λa b=>fF _ _ (rt ?_)
 cases H
 exact (j7 b d (l4 results5 (rvt b)) ⟨rfl,(d.pick [] kr).ro,d.newC [] dc kr⟩)
 refine sk (fB _ _ (rl (wp 2 [2,7,9,10,125,126,127] b λa b=>nl ?_)))
 exact ⟨dW,jb _,_,i64.wrap (an+1),b.kp [2,7,9,10,125,126,127],d.sp [0,1,2] [0,1,2],H⟩
 refine xt (f1 _ _ (rl (wp 3 [2,7,9,10] b λa b=>nl ?_)))
 exact ⟨av,jb _,_,ab,az,G.1,L,O,aa,i64.wrap (x+1),b.kp [2,7,9,10],d.sp [1,2] [0,1],H⟩
 refine xt (fW _ _ (qr λ_ fG=>bd H λgi dZ H=>wc (jR b d kr kr (CQ N d.fresh ((d.pick [] kr).ro) dZ) ?_)))
 rintro _ κ w a ⟨rfl,hR,hN⟩ b d hO
 refine wp 1 [6] b λa b=>fG _ _ (rt ?_)
 cases H
 exact (j7 b d (l4 results5 (rvt b)) ⟨rfl,(d.pick [] kr).ro,d.newC [] dc kr⟩)
end Go.Cf
