/- The walks: each function returns what its model says. Printed by a program of ours. -/
import Derived.Test.YteeafoagaaedcaaZM1
import Derived.Test.YteeafoagaaedcaaZWt1
import Derived.Test.YteeafoagaaedcaaZWt2
import Derived.Test.YteeafoagaaedcaaZWn1
namespace Go.Cf
open Go Go.Proofs
set_option linter.unusedVariables false
set_option maxRecDepth 20000
set_option maxHeartbeats 8000000
theorem C_node_New (N:Nat){Ms:List Nat}{κ0:Gh}{w0:World}(a1:Int)(hB:SB Ms κ0 w0 [] []){r:(T_node_Node)}(H:M.node_New N a1=some r) :
    Calls Try.prog 61 #[vi a1] w0 (Post Ms κ0 w0 fun v κ w => ∃(b16 b17:Nat) (p18:Option Nat) (m19:Array MapEntry) (c20 b21:Nat) (p22:Option Nat) (m23:Array MapEntry) (c24:Nat) (p25:Option Nat) (m26:Array MapEntry) (c27:Nat) (p28:Option Addr) (c29:Nat) (p30:Option Addr) (c31:Nat),v=pt b16 0∧SS Ms κ0 w0 κ w [.box b16 151 [si r.dc,(1,[pt b17 0]),(1,[pt b21 0]),sm p25,sl p28 (r.owned).length c29,sl p30 (r.modes).length c31],.box b17 130 [sm p18,su r.store.floor],mx p18 m19 c20,.box b21 174 [su r.part.clock,sm p22],mx p22 m23 c24,mx p25 m26 c27,.tok p28 157 3 (r.owned).length c29,.tok p30 25 1 (r.modes).length c31] [Map.mp kStr false (tSl f_api_Ver.ty) p18 m19 c20 r.store.chains,Map.mp (kInt .u64) false (fInt .u64).ty p22 m23 c24 r.part.open_,Map.mp (kInt .u64) false (tSl f_api_Ver.ty) p25 m26 c27 r.writes,Ro.mp f_span_Shard.ty p28 c29 r.owned,Ro.mp (fInt .u64).ty p30 c31 r.modes]):=by
 have hS:=hB.hS
 have hfr:=hS.fresh
 refine en Try.func61 rfl Try.ntmps61 fun a hF=>?_
 unfold M.node_New at H
 refine qs fun _ hz=>rl (wp 1 [0] hF fun a hF=>nl (hz _ _ (qr fun _ h3=>(wl_pure (L':=[(3,vi a1)]) 1 [3] hF kr fun a hF=>bd H fun x4 hx4 H=>wc (wcS 0 [] hF hS (fun hS=>C_store_New N ⟨rfl,hS.pick [] kr⟩ hx4) ?_)))))
 rintro _ κ w a ⟨b5,p6,m7,c8,rfl,h2⟩ hF hB
 have hS:=hB _ _ h2
 refine bd H fun x9 hx9 H=>wc (wcS 0 [0,1] hF hS (fun hS=>C_part_New N ⟨rfl,hS.pick [] kr⟩ hx9) ?_)
 rintro _ κ w a ⟨b10,p11,m12,c13,rfl,h2⟩ hF hB
 have hS:=(hB _ _ h2).cC (C':=[.box b10 174 [su x9.clock,sm p11],mx p11 m12 c13,.box b5 130 [sm p6,su x4.floor],mx p6 m7 c8])
 refine wc (wo_makeMap hF hS kr (kInt .u64) false (tSl f_api_Ver.ty) rfl fun b14 a w hF hS=>wp 1 [7] hF fun a hF=>wc (wbx hF hS [si a1,(1,[pt b5 0]),(1,[pt b10 0]),(1,[.map (some b14)]),sl none 0 0,sl none 0 0] (sgN 6 sgNil) fun b15 a w hF hS=>wp 1 [2] hF fun a hF=>(h3 _ _ (rt ?_))))
 have hS:=hS.add (m:=Ro.mp f_span_Shard.ty none 0 ([]:List T_span_Shard)) (Ro.nil f_span_Shard.ty _ _)
 have hS:=hS.add (m:=Ro.mp (fInt .u64).ty none 0 ([]:List Int)) (Ro.nil (fInt .u64).ty _ _)
 have hS:=hS.addNil 157 3
 have hS:=hS.addNil 25 1
 cases H
 exact ret_done hF hS (res1 Try.results61 (rvt hF)) ⟨b15,b5,p6,m7,c8,b10,p11,m12,c13,(some b14),#[],0,none,0,none,0,rfl,hS.sp [2,6,7,4,5,3,1,0] [4,3,2,1,0]⟩
theorem C_node_Node_Owns (N:Nat){Ms:List Nat}{κ0:Gh}{w0:World}(a1:T_node_Node)(a18:ByteArray)(b2:Nat)(p3:Option Nat)(m4:Array MapEntry)(c5:Nat)(b6:Nat)(p7:Option Nat)(m8:Array MapEntry)(c9:Nat)(p10:Option Nat)(m11:Array MapEntry)(c12:Nat)(p13:Option Addr)(c14:Nat)(p15:Option Addr)(c16:Nat)(b17:Nat)(hB:SB Ms κ0 w0 [.box b17 151 [si a1.dc,(1,[pt b2 0]),(1,[pt b6 0]),sm p10,sl p13 (a1.owned).length c14,sl p15 (a1.modes).length c16],.box b2 130 [sm p3,su a1.store.floor],mx p3 m4 c5,.box b6 174 [su a1.part.clock,sm p7],mx p7 m8 c9,mx p10 m11 c12] [Map.mp kStr false (tSl f_api_Ver.ty) p3 m4 c5 a1.store.chains,Map.mp (kInt .u64) false (fInt .u64).ty p7 m8 c9 a1.part.open_,Map.mp (kInt .u64) false (tSl f_api_Ver.ty) p10 m11 c12 a1.writes,Ro.mp f_span_Shard.ty p13 c14 a1.owned,Ro.mp (fInt .u64).ty p15 c16 a1.modes]){r:(Bool)}(H:M.node_Node_Owns N a1 a18=some r) :
    Calls Try.prog 63 #[pt b17 0,.string (a18)] w0 (Post Ms κ0 w0 fun v κ w=>v=vb r∧SS Ms κ0 w0 κ w [.box b17 151 [si a1.dc,(1,[pt b2 0]),(1,[pt b6 0]),sm p10,sl p13 (a1.owned).length c14,sl p15 (a1.modes).length c16],.box b2 130 [sm p3,su a1.store.floor],mx p3 m4 c5,.box b6 174 [su a1.part.clock,sm p7],mx p7 m8 c9,mx p10 m11 c12] []):=by
 have hS:=hB.hS
 have hfr:=hS.fresh
 refine en Try.func63 rfl Try.ntmps63 fun a hF=>?_
 unfold M.node_Node_Owns at H
 refine qr fun _ h19=>(wp 1 [0,1] hF fun a hF=>(h19 _ _ (qs fun _ h20=>qr fun _ h21=>(wp 2 [0,1,8] hF fun a hF=>(h21 _ _ (cf hF rfl (sk (h20 _ _ (qs fun _ h22=>qr fun _ h23=>(wp 3 [1,11] hF fun a hF=>wc (wld hF hS 0 4 0 fun a hF=>wp 2 [1,12,13,14] hF fun a hF=>(h23 _ _ (bk (loop_fuel (n:=N) (fun n a w => ∃(κ:Gh) (y74:Int),Fr (25) [] [(1,.string (a18)),(12,.slice p13 (a1.owned).length c14),(13,vi ((a1.owned).length:Int)),(14,vi y74)] a∧SS Ms κ0 w0 κ w [.box b17 151 [si a1.dc,(1,[pt b2 0]),(1,[pt b6 0]),sm p10,sl p13 (a1.owned).length c14,sl p15 (a1.modes).length c16],.box b2 130 [sm p3,su a1.store.floor],.box b6 174 [su a1.part.clock,sm p7],mx p3 m4 c5,mx p7 m8 c9,mx p10 m11 c12] [Ro.mp f_span_Shard.ty p13 c14 a1.owned,Map.mp kStr false (tSl f_api_Ver.ty) p3 m4 c5 a1.store.chains,Map.mp (kInt .u64) false (fInt .u64).ty p7 m8 c9 a1.part.open_,Map.mp (kInt .u64) false (tSl f_api_Ver.ty) p10 m11 c12 a1.writes,Ro.mp (fInt .u64).ty p15 c16 a1.modes]∧M.node_Node_Owns_L1 N n a1 a18 y74=some r) ?_ ?_))))))))))))))
 exact ⟨_,0,hF.kp [1,12,13,14],hS.sp [0,1,3,2,4,5] [3,0,1,2,4],H⟩
 rintro n a w ⟨κ,y74,hF,hS,H⟩
 rcases n with _|fuel1
 simp [M.node_Node_Owns_L1] at H
 simp only [M.node_Node_Owns_L1] at H
 refine qr fun _ h75=>(wl_pure (L':=[(1,.string (a18)),(12,.slice p13 (a1.owned).length c14),(13,vi ((a1.owned).length:Int)),(14,vi y74),(15,vb (decide (y74<((a1.owned).length:Int))))]) 1 [1,12,13,14,15] hF kr fun a hF=>(h75 _ _ (qs fun _ h76=>bc hF H (fun hb H=>?_) fun hb H=>?_)))
 refine sk (h76 _ _ (qs fun _ h77=>bk (qr fun _ h78=>(bd H fun x79 hx79 H=>wc (wo_index hF hS kr 0 (E:=157) (sz:=3) rfl rfl rfl kr rfl hx79 kr kr fun b80 f81 a hpx79 hF=>wc (wo_loadRoAgg (t:=f_span_Shard) hF hS kr 0 rfl rfl hpx79 rfl hx79 kr kr kr fun a hF=>wc (wal hF hS [sg ByteArray.empty,sg ByteArray.empty,si 0] (sgN 3 sgNil) fun b82 a w hF hS=>wc (wst hF hS 0 0 3 [sg x79.Lo,sg x79.Hi,si x79.Node] (sgN 3 sgNil) fun a w hF hS=>(h78 _ _ (qr fun _ h83=>(wp 2 [1,6,12,13,14,18,19] hF fun a hF=>wc (wld hF hS 0 0 0 fun a hF=>wp 1 [1,12,13,14,18,20,21] hF fun a hF=>?_))))))))))))
 refine wc (wld hF hS 0 1 0 fun a hF=>bd H fun x84 hx84 H=>wc (wo_callP hF hS kr kr (C_span_Within N hS.fresh a18 x79.Lo x79.Hi ((hS.pick [] kr).ro) hx84) ?_))
 rintro _ κ w a ⟨rfl,hR,hN⟩ hF hS hO
 refine h83 _ _ (bc hF H (fun hb H=>?_) fun hb H=>?_)
 refine qr fun _ h85=>(wp 1 [4] hF fun a hF=>(h85 _ _ (rt ?_)))
 cases H
 exact ret_done hF hS (res1 Try.results63 (rvt hF)) ⟨rfl,hS.sp [1,2,4,3,5,6] []⟩
 refine sk (h77 _ _ (rl (wp 2 [1,12,13,14] hF fun a hF=>nl ?_)))
 exact ⟨fuel1,Nat.lt_succ_self _,_,IntKind.i64.wrap (y74+1),hF.kp [1,12,13,14],hS.sp (ra 1 6) (rg 5),H⟩
 refine xt (h22 _ _ (qr fun _ h86=>(wp 1 [4] hF fun a hF=>(h86 _ _ (rt ?_)))))
 cases H
 exact ret_done hF hS (res1 Try.results63 (rvt hF)) ⟨rfl,hS.sp [0,1,3,2,4,5] []⟩
theorem C_node_Node_prepare (N:Nat){Ms:List Nat}{κ0:Gh}{w0:World}(a1:T_node_Node)(a18:T_api_Msg)(a23:Int)(b2:Nat)(p3:Option Nat)(m4:Array MapEntry)(c5:Nat)(b6:Nat)(p7:Option Nat)(m8:Array MapEntry)(c9:Nat)(p10:Option Nat)(m11:Array MapEntry)(c12:Nat)(p13:Option Addr)(c14:Nat)(p15:Option Addr)(c16:Nat)(p19:Option Addr)(c20:Nat)(p21:Option Addr)(c22:Nat)(b17:Nat)(hB:SB Ms κ0 w0 [.box b17 151 [si a1.dc,(1,[pt b2 0]),(1,[pt b6 0]),sm p10,sl p13 (a1.owned).length c14,sl p15 (a1.modes).length c16],.tok p13 157 3 (a1.owned).length c14,.tok p15 25 1 (a1.modes).length c16,.box b2 130 [sm p3,su a1.store.floor],mx p3 m4 c5,.box b6 174 [su a1.part.clock,sm p7],mx p7 m8 c9,mx p10 m11 c12] [Map.mp kStr false (tSl f_api_Ver.ty) p3 m4 c5 a1.store.chains,Map.mp (kInt .u64) false (fInt .u64).ty p7 m8 c9 a1.part.open_,Map.mp (kInt .u64) false (tSl f_api_Ver.ty) p10 m11 c12 a1.writes,Ro.mp f_span_Shard.ty p13 c14 a1.owned,Ro.mp (fInt .u64).ty p15 c16 a1.modes,Ro.mp f_api_Ver.ty p19 c20 a18.Vers,Ro.mp (fInt .u64).ty p21 c22 a18.Vec]){r:(T_api_Msg×Bool×T_node_Node)}(H:M.node_Node_prepare N a1 a18 a23=some r) :
    Calls Try.prog 96 #[pt b17 0,.agg (flat [si a18.Kind,su a18.Id,su a18.N,su a18.TS,sg a18.Lo,sg a18.Hi,sl p19 (a18.Vers).length c20,sl p21 (a18.Vec).length c22,si a18.Cmd.Kind,si a18.Cmd.DC,si a18.Cmd.Shard,si a18.Cmd.Node,si a18.Cmd.Mode,sg a18.Cmd.Key]).toArray,vi a23] w0 (Post Ms κ0 w0 fun v κ w => ∃(p115:Option Addr) (c116:Nat) (p117:Option Addr) (c118 b119:Nat) (p120:Option Nat) (m121:Array MapEntry) (c122 b123:Nat) (p124:Option Nat) (m125:Array MapEntry) (c126:Nat) (p127:Option Nat) (m128:Array MapEntry) (c129:Nat) (p130:Option Addr) (c131:Nat) (p132:Option Addr) (c133:Nat),v = .tuple #[.agg (flat [si r.1.Kind,su r.1.Id,su r.1.N,su r.1.TS,sg r.1.Lo,sg r.1.Hi,sl p115 (r.1.Vers).length c116,sl p117 (r.1.Vec).length c118,si r.1.Cmd.Kind,si r.1.Cmd.DC,si r.1.Cmd.Shard,si r.1.Cmd.Node,si r.1.Cmd.Mode,sg r.1.Cmd.Key]).toArray,vb r.2.1]∧SS Ms κ0 w0 κ w [.box b17 151 [si r.2.2.dc,(1,[pt b119 0]),(1,[pt b123 0]),sm p127,sl p130 (r.2.2.owned).length c131,sl p132 (r.2.2.modes).length c133],.tok p130 157 3 (r.2.2.owned).length c131,.tok p132 25 1 (r.2.2.modes).length c133,.box b119 130 [sm p120,su r.2.2.store.floor],mx p120 m121 c122,.box b123 174 [su r.2.2.part.clock,sm p124],mx p124 m125 c126,mx p127 m128 c129,.tok p115 37 6 (r.1.Vers).length c116,.tok p117 25 1 (r.1.Vec).length c118] [Ro.mp f_api_Ver.ty p115 c116 r.1.Vers,Ro.mp (fInt .u64).ty p117 c118 r.1.Vec,Map.mp kStr false (tSl f_api_Ver.ty) p120 m121 c122 r.2.2.store.chains,Map.mp (kInt .u64) false (fInt .u64).ty p124 m125 c126 r.2.2.part.open_,Map.mp (kInt .u64) false (tSl f_api_Ver.ty) p127 m128 c129 r.2.2.writes,Ro.mp f_span_Shard.ty p130 c131 r.2.2.owned,Ro.mp (fInt .u64).ty p132 c133 r.2.2.modes]):=by
 have hS:=hB.hS
 have hfr:=hS.fresh
 refine en Try.func96 rfl Try.ntmps96 fun a hF=>?_
 unfold M.node_Node_prepare at H
 refine qr fun _ h24=>(wc (wbx hF hS [si a18.Kind,su a18.Id,su a18.N,su a18.TS,sg a18.Lo,sg a18.Hi,sl p19 (a18.Vers).length c20,sl p21 (a18.Vec).length c22,si a18.Cmd.Kind,si a18.Cmd.DC,si a18.Cmd.Shard,si a18.Cmd.Node,si a18.Cmd.Mode,sg a18.Cmd.Key] (sgN 14 sgNil) fun b25 a w hF hS=>wc (wal hF hS [si 0,su 0,su 0,su 0,sg ByteArray.empty,sg ByteArray.empty,sl none 0 0,sl none 0 0,si 0,si 0,si 0,si 0,si 0,sg ByteArray.empty] (sgN 14 sgNil) fun b26 a w hF hS=>?_)))
 refine wp 1 [0,2,4,6] hF fun a hF=>(h24 _ _ (qs fun _ h27=>qr fun _ h28=>(bd H fun v30 hv30 H=>wl_join (fun a w => ∃κ:Gh,Fr (70) [] [(0,pt b17 0),(2,vi a23),(4,pt b25 0),(6,pt b26 0),(20,vb v30)] a∧SS Ms κ0 w0 κ w [.box b26 93 [si 0,su 0,su 0,su 0,sg ByteArray.empty,sg ByteArray.empty,sl none 0 0,sl none 0 0,si 0,si 0,si 0,si 0,si 0,sg ByteArray.empty],.box b25 93 [si a18.Kind,su a18.Id,su a18.N,su a18.TS,sg a18.Lo,sg a18.Hi,sl p19 (a18.Vers).length c20,sl p21 (a18.Vec).length c22,si a18.Cmd.Kind,si a18.Cmd.DC,si a18.Cmd.Shard,si a18.Cmd.Node,si a18.Cmd.Mode,sg a18.Cmd.Key],.box b17 151 [si a1.dc,(1,[pt b2 0]),(1,[pt b6 0]),sm p10,sl p13 (a1.owned).length c14,sl p15 (a1.modes).length c16],.box b2 130 [sm p3,su a1.store.floor],.box b6 174 [su a1.part.clock,sm p7],.tok p13 157 3 (a1.owned).length c14,.tok p15 25 1 (a1.modes).length c16,mx p3 m4 c5,mx p7 m8 c9,mx p10 m11 c12] [Map.mp kStr false (tSl f_api_Ver.ty) p3 m4 c5 a1.store.chains,Map.mp (kInt .u64) false (fInt .u64).ty p7 m8 c9 a1.part.open_,Map.mp (kInt .u64) false (tSl f_api_Ver.ty) p10 m11 c12 a1.writes,Ro.mp f_span_Shard.ty p13 c14 a1.owned,Ro.mp (fInt .u64).ty p15 c16 a1.modes,Ro.mp f_api_Ver.ty none 0 ([]:List T_api_Ver),Ro.mp (fInt .u64).ty none 0 ([]:List Int),Ro.mp f_api_Ver.ty p19 c20 a18.Vers,Ro.mp (fInt .u64).ty p21 c22 a18.Vec]∧True) ?_ ?_)))
 refine wp 1 [0,2,4,6,12] hF fun a hF=>wc (wld hF hS 1 6 0 fun a hF=>wp 3 [0,2,4,6,16] hF fun a hF=>bs hv30 (fun hb hv30=>?_) fun hb hv30=>?_)
 have hF:=hF.bv 16 hb
 refine wp 4 [0,2,4,6,20] hF fun a hF=>nl ?_
 cases hv30
 have hS:=hS.add (m:=Ro.mp f_api_Ver.ty none 0 ([]:List T_api_Ver)) (Ro.nil f_api_Ver.ty _ _)
 have hS:=hS.add (m:=Ro.mp (fInt .u64).ty none 0 ([]:List Int)) (Ro.nil (fInt .u64).ty _ _)
 exact ⟨_,hF.kp [0,2,4,6,20],hS.sp [0,1,2,5,7,3,4,6,8,9] [2,3,4,5,6,1,0,7,8],trivial⟩
 have hF:=hF.bv 16 hb
 refine wp 1 [0,2,4,6,16,17] hF fun a hF=>wcg hF (wld hF hS 1 1 0 fun a hF=>wp 2 [0,2,4,6,20] hF fun a hF=>nl ?_)
 cases hv30
 have hS:=hS.add (m:=Ro.mp f_api_Ver.ty none 0 ([]:List T_api_Ver)) (Ro.nil f_api_Ver.ty _ _)
 have hS:=hS.add (m:=Ro.mp (fInt .u64).ty none 0 ([]:List Int)) (Ro.nil (fInt .u64).ty _ _)
 exact ⟨_,hF.kp [0,2,4,6,20],hS.sp [0,1,2,5,7,3,4,6,8,9] [2,3,4,5,6,1,0,7,8],trivial⟩
 rintro a w ⟨κ,hF,hS,-⟩
 refine h28 _ _ (bc hF H (fun hb H=>?_) fun hb H=>?_)
 refine qr fun _ h31=>(wp 1 [6,21] hF fun a hF=>wc (wst hF hS 0 0 14 [si 0,su 0,su 0,su 0,sg ByteArray.empty,sg ByteArray.empty,sl none 0 0,sl none 0 0,si 0,si 0,si 0,si 0,si 0,sg ByteArray.empty] (sgN 14 sgNil) fun a w hF hS=>wp 1 [6,7] hF fun a hF=>(h31 _ _ (rt ?_))))
 have hS':=hS
 have hS:=hS.addNil 37 6
 have hS:=hS.addNil 25 1
 cases H
 exact ret_done hF hS (res2 Try.results96 (rvs hF hS' 0 0 14) (rvt hF)) ⟨none,0,none,0,b2,p3,m4,c5,b6,p7,m8,c9,p10,m11,c12,p13,c14,p15,c16,rfl,hS.sp [4,7,8,5,9,6,10,11,1,0] [5,6,0,1,2,3,4]⟩
 refine sk (h27 _ _ (qs fun _ h32=>qr fun _ h33=>(wp 1 [0,2,4,6,22] hF fun a hF=>wc (wld hF hS 1 6 0 fun a hF=>wp 2 [0,2,4,6,23,24,25] hF fun a hF=>(h33 _ _ (bk (loop_fuel (n:=N) (fun n a w => ∃(κ:Gh) (y84:Int),Fr (70) [] [(0,pt b17 0),(2,vi a23),(4,pt b25 0),(6,pt b26 0),(23,.slice p19 (a18.Vers).length c20),(24,vi ((a18.Vers).length:Int)),(25,vi y84)] a∧SS Ms κ0 w0 κ w [.box b26 93 [si 0,su 0,su 0,su 0,sg ByteArray.empty,sg ByteArray.empty,sl none 0 0,sl none 0 0,si 0,si 0,si 0,si 0,si 0,sg ByteArray.empty],.box b25 93 [si a18.Kind,su a18.Id,su a18.N,su a18.TS,sg a18.Lo,sg a18.Hi,sl p19 (a18.Vers).length c20,sl p21 (a18.Vec).length c22,si a18.Cmd.Kind,si a18.Cmd.DC,si a18.Cmd.Shard,si a18.Cmd.Node,si a18.Cmd.Mode,sg a18.Cmd.Key],.box b17 151 [si a1.dc,(1,[pt b2 0]),(1,[pt b6 0]),sm p10,sl p13 (a1.owned).length c14,sl p15 (a1.modes).length c16],.box b2 130 [sm p3,su a1.store.floor],.box b6 174 [su a1.part.clock,sm p7],.tok p13 157 3 (a1.owned).length c14,.tok p15 25 1 (a1.modes).length c16,mx p3 m4 c5,mx p7 m8 c9,mx p10 m11 c12] [Map.mp kStr false (tSl f_api_Ver.ty) p3 m4 c5 a1.store.chains,Map.mp (kInt .u64) false (fInt .u64).ty p7 m8 c9 a1.part.open_,Map.mp (kInt .u64) false (tSl f_api_Ver.ty) p10 m11 c12 a1.writes,Ro.mp f_span_Shard.ty p13 c14 a1.owned,Ro.mp (fInt .u64).ty p15 c16 a1.modes,Ro.mp f_api_Ver.ty p19 c20 a18.Vers,Ro.mp f_api_Ver.ty none 0 ([]:List T_api_Ver),Ro.mp (fInt .u64).ty none 0 ([]:List Int),Ro.mp (fInt .u64).ty p21 c22 a18.Vec]∧M.node_Node_prepare_L1 N n a1 a18 a23 y84=some r) ?_ ?_)))))))
 exact ⟨_,0,hF.kp [0,2,4,6,23,24,25],hS.sp (rg 10) [0,1,2,3,4,7,5,6,8],H⟩
 rintro n a w ⟨κ,y84,hF,hS,H⟩
 rcases n with _|fuel1
 simp [M.node_Node_prepare_L1] at H
 simp only [M.node_Node_prepare_L1] at H
 refine qr fun _ h85=>(wl_pure (L':=[(0,pt b17 0),(2,vi a23),(4,pt b25 0),(6,pt b26 0),(23,.slice p19 (a18.Vers).length c20),(24,vi ((a18.Vers).length:Int)),(25,vi y84),(26,vb (decide (y84<((a18.Vers).length:Int))))]) 1 [0,2,4,6,23,24,25,26] hF kr fun a hF=>(h85 _ _ (qs fun _ h86=>bc hF H (fun hb H=>?_) fun hb H=>?_)))
 refine sk (h86 _ _ (qs fun _ h87=>bk (qr fun _ h88=>(bd H fun x89 hx89 H=>wc (wo_index hF hS kr 5 (E:=37) (sz:=6) rfl rfl rfl kr rfl hx89 kr kr fun b90 f91 a hpx89 hF=>wc (wo_loadRoAgg (t:=f_api_Ver) hF hS kr 5 rfl rfl hpx89 rfl hx89 kr kr kr fun a hF=>wc (wal hF hS [sg ByteArray.empty,sg ByteArray.empty,sb false,su 0,si 0,si 0] (sgN 6 sgNil) fun b92 a w hF hS=>wc (wst hF hS 0 0 6 [sg x89.Key,sg x89.Val,sb x89.Gone,su x89.TS,si x89.DC,si x89.Tx] (sgN 6 sgNil) fun a w hF hS=>nl ?_))))))))
 refine h88 _ _ (qr fun _ h93=>(bd H fun v95 hv95 H=>wl_join (fun a w => ∃κ:Gh,Fr (70) [] [(0,pt b17 0),(2,vi a23),(4,pt b25 0),(6,pt b26 0),(23,.slice p19 (a18.Vers).length c20),(24,vi ((a18.Vers).length:Int)),(25,vi y84),(38,vb v95)] a∧SS Ms κ0 w0 κ w [.box b17 151 [si a1.dc,(1,[pt b2 0]),(1,[pt b6 0]),sm p10,sl p13 (a1.owned).length c14,sl p15 (a1.modes).length c16],.box b2 130 [sm p3,su a1.store.floor],.box b6 174 [su a1.part.clock,sm p7],.box b26 93 [si 0,su 0,su 0,su 0,sg ByteArray.empty,sg ByteArray.empty,sl none 0 0,sl none 0 0,si 0,si 0,si 0,si 0,si 0,sg ByteArray.empty],.box b25 93 [si a18.Kind,su a18.Id,su a18.N,su a18.TS,sg a18.Lo,sg a18.Hi,sl p19 (a18.Vers).length c20,sl p21 (a18.Vec).length c22,si a18.Cmd.Kind,si a18.Cmd.DC,si a18.Cmd.Shard,si a18.Cmd.Node,si a18.Cmd.Mode,sg a18.Cmd.Key],.tok p13 157 3 (a1.owned).length c14,.tok p15 25 1 (a1.modes).length c16,mx p3 m4 c5,mx p7 m8 c9,mx p10 m11 c12] [Map.mp kStr false (tSl f_api_Ver.ty) p3 m4 c5 a1.store.chains,Map.mp (kInt .u64) false (fInt .u64).ty p7 m8 c9 a1.part.open_,Map.mp (kInt .u64) false (tSl f_api_Ver.ty) p10 m11 c12 a1.writes,Ro.mp f_span_Shard.ty p13 c14 a1.owned,Ro.mp (fInt .u64).ty p15 c16 a1.modes,Ro.mp f_api_Ver.ty p19 c20 a18.Vers,Ro.mp f_api_Ver.ty none 0 ([]:List T_api_Ver),Ro.mp (fInt .u64).ty none 0 ([]:List Int),Ro.mp (fInt .u64).ty p21 c22 a18.Vec]∧True) ?_ ?_))
 refine wp 2 [0,2,4,6,9,23,24,25,29,30] hF fun a hF=>wc (wld hF hS 0 0 0 fun a hF=>bd hv95 fun x96 hx96 hv95=>wc (wcS 6 [3,4,8,5,9,10,0,1,2,6,7] hF hS (fun hS=>C_node_Node_Owns N (T_node_Node.mk a1.dc (T_store_Store.mk a1.store.chains a1.store.floor) (T_part_Part.mk a1.part.clock a1.part.open_) a1.writes a1.owned a1.modes) x89.Key b2 p3 m4 c5 b6 p7 m8 c9 p10 m11 c12 p13 c14 p15 c16 b17 ⟨rfl,hS.pick (rg 5) kr⟩ hx96) ?_))
 rintro _ κ w a ⟨rfl,h2⟩ hF hB
 have hS:=hB _ _ h2
 refine wp 2 [0,2,4,6,9,23,24,25,34] hF fun a hF=>bs hv95 (fun hb hv95=>?_) fun hb hv95=>?_
 have hF:=hF.bv 34 hb
 refine wp 4 [0,2,4,6,23,24,25,38] hF fun a hF=>nl ?_
 cases hv95
 exact ⟨_,hF.kp [0,2,4,6,23,24,25,38],hS.sp [0,1,3,7,8,9,10,2,4,5] (rg 9),trivial⟩
 have hF:=hF.bv 34 hb
 refine wcg hF (wls hF hS 6 0 6 fun a hF=>bd hv95 fun x97 hx97 hv95=>wcg hF (wo_callP hF hS kr kr (C_store_Check N hS.fresh (T_api_Ver.mk x89.Key x89.Val x89.Gone x89.TS x89.DC x89.Tx) ((hS.pick [] kr).ro) hx97) ?_))
 rintro _ κ w a ⟨rfl,hR,hN⟩ hF hS hO
 refine wp 2 [0,2,4,6,23,24,25,38] hF fun a hF=>nl ?_
 cases hv95
 exact ⟨_,hF.kp [0,2,4,6,23,24,25,38],hS.sp [0,1,3,7,8,9,10,2,4,5] (rg 9),trivial⟩
 rintro a w ⟨κ,hF,hS,-⟩
 refine h93 _ _ (bc hF H (fun hb H=>?_) fun hb H=>?_)
 refine qr fun _ h98=>(wp 1 [6,39] hF fun a hF=>wc (wst hF hS 3 0 14 [si 0,su 0,su 0,su 0,sg ByteArray.empty,sg ByteArray.empty,sl none 0 0,sl none 0 0,si 0,si 0,si 0,si 0,si 0,sg ByteArray.empty] (sgN 14 sgNil) fun a w hF hS=>wp 1 [6,7] hF fun a hF=>(h98 _ _ (rt ?_))))
 have hS':=hS
 have hS:=hS.addNil 37 6
 have hS:=hS.addNil 25 1
 cases H
 exact ret_done hF hS (res2 Try.results96 (rvs hF hS' 3 0 14) (rvt hF)) ⟨none,0,none,0,b2,p3,m4,c5,b6,p7,m8,c9,p10,m11,c12,p13,c14,p15,c16,rfl,hS.sp [2,7,8,3,9,4,10,11,1,0] [6,7,0,1,2,3,4]⟩
 refine sk (h87 _ _ (rl (wp 2 [0,2,4,6,23,24,25] hF fun a hF=>nl ?_)))
 exact ⟨fuel1,Nat.lt_succ_self _,_,IntKind.i64.wrap (y84+1),hF.kp [0,2,4,6,23,24,25],hS.sp [3,4,0,1,2,5,6,7,8,9] (rg 9),H⟩
 refine xt (h32 _ _ (qs fun _ h99=>rgX hS [0,1,2,3,7,9] ?_))
 have hS:=hS.drew
 have hX:=hS.px [0,1,2,3,7,9]
 refine anp [0,1,2,4,6,8] [0,4,6,44,46,48,50] hF hX fun a hF=>atk 3 (some 45) hF hX rfl (vld 2 2 0) fun a hF=>atk 5 (some 47) hF hX rfl (vld 1 1 0) fun a hF=>atk 7 (some 49) hF hX rfl (vld 1 3 0) fun a hF=>ago 9 hF rfl (bd H fun x100 hx100 H=>wcS 2 [4,8,0,1,2,3,5,6,7,9] hF hS (fun hS=>C_part_Part_Prepare N (T_part_Part.mk a1.part.clock a1.part.open_) a18.Id a18.TS a23 p7 m8 c9 b6 ⟨rfl,hS.pick [1] kr⟩ hx100) ?_)
 rintro _ κ w a ⟨p101,m102,c103,rfl,h2⟩ hF hB
 have hS:=hB _ _ h2
 refine ⟨fun _=>(hS.sx [2,3,4,5,8,9] (ra 1 9)),?_⟩
 refine anp (ra 10 5) [0,4,6,10,11] hF (hS.sx [2,3,4,5,8,9] (ra 1 9)) fun a hF=>and_ (h99 _ _ (qs fun _ h104=>qr fun _ h105=>(wp 2 [0,4,6,10,55] hF fun a hF=>(h105 _ _ (bc hF H (fun hb H=>?_) fun hb H=>?_)))))
 refine qr fun _ h106=>(wp 1 [6,56] hF fun a hF=>wc (wst hF hS 2 0 14 [si 0,su 0,su 0,su 0,sg ByteArray.empty,sg ByteArray.empty,sl none 0 0,sl none 0 0,si 0,si 0,si 0,si 0,si 0,sg ByteArray.empty] (sgN 14 sgNil) fun a w hF hS=>wp 1 [6,7] hF fun a hF=>(h106 _ _ (rt ?_))))
 have hS':=hS
 have hS:=hS.addNil 37 6
 have hS:=hS.addNil 25 1
 cases H
 exact ret_done hF hS (res2 Try.results96 (rvs hF hS' 2 0 14) (rvt hF)) ⟨none,0,none,0,b2,p3,m4,c5,b6,p101,m102,c103,p10,m11,c12,p13,c14,p15,c16,rfl,hS.sp [6,8,9,7,10,2,3,11,1,0] [7,8,1,0,3,4,5]⟩
 refine sk (h104 _ _ (qs fun _ h107=>rgS hS [9] ?_))
 have hS:=hS.drew
 have hX:=hS.fx
 refine any_pure [0,1,2,4,6] [4,6,10,59,61,63] (L':=[(4,pt b25 0),(6,pt b26 0),(10,vu x100.1),(59,pt b17 3),(61,pt b25 1),(63,pt b25 6)]) (listed':=(bitA 10 87)) (fuel:=5) hF hX kr (by intro c a w t v h; cases t<;>exact h) kr rfl fun a hF=>atk 3 (some 60) hF hX rfl (vld 4 3 0) fun a hF=>atk 5 (some 62) hF hX rfl (vld 3 1 0) fun a hF=>atk 7 (some 64) hF hX rfl (vld 3 6 0) fun a hF=>ago 8 hF rfl ?_
 have hS:=hS.addNil 37 6
 refine bd H fun x108 hx108 H=>wo_append (ty:=f_api_Ver.ty) hF hS kr 0 7 6 rfl rfl rfl kr kr rfl rfl rfl hx108 kr (i:=Try.t37) (z := .agg (flat [sg ByteArray.empty,sg ByteArray.empty,sb false,su 0,si 0,si 0]).toArray) kr kr kr fun p109 c110 κ a w hF hS=>⟨fun _=>(hS.sx [1,2,3,4,5,6,9,10] (ra 1 10)),?_⟩
 refine ago 9 hF rfl (bd H fun x111 hx111 H=>wo_mapUpdate (KT:=25) (E:=39) (kt:=(kInt .u64)) (agg:=false) (t:=(tSl f_api_Ver.ty)) hF hS kr 10 4 (k:=a18.Id) (v:=x108) (cs:=flat [sl p109 x108.length c110]) rfl kr kr kr ⟨(p109,c110),rfl,(hS.pick [0] kr).ro⟩ rfl rfl hx111 kr kr fun m112 c113 a w hF hS=>⟨notE,?_⟩)
 refine and_ (h107 _ _ (qr fun _ h114=>(wp 1 [6,10,66] hF fun a hF=>wc (wld hF hS 4 1 0 fun a hF=>wp 2 [6,69] hF fun a hF=>wc (wst hF hS 3 0 14 [si 11,su a18.Id,su 0,su x100.1,sg ByteArray.empty,sg ByteArray.empty,sl none 0 0,sl none 0 0,si 0,si 0,si 0,si 0,si 0,sg ByteArray.empty] (sgN 14 sgNil) fun a w hF hS=>wp 1 [6,7] hF fun a hF=>(h114 _ _ (rt ?_)))))))
 have hS':=hS
 have hS:=hS.addNil 37 6
 have hS:=hS.addNil 25 1
 cases H
 exact ret_done hF hS (res2 Try.results96 (rvs hF hS' 3 0 14) (rvt hF)) ⟨none,0,none,0,b2,p3,m4,c5,b6,p101,m102,c103,p10,m112,c113,p13,c14,p15,c16,rfl,hS.sp [7,9,10,8,11,3,4,12,1,0] [9,10,3,2,0,6,7]⟩
theorem C_node_Node_load (N:Nat){Ms:List Nat}{κ0:Gh}{w0:World}(a1:T_node_Node)(a18:T_api_Msg)(b2:Nat)(p3:Option Nat)(m4:Array MapEntry)(c5:Nat)(b6:Nat)(p7:Option Nat)(m8:Array MapEntry)(c9:Nat)(p10:Option Nat)(m11:Array MapEntry)(c12:Nat)(p13:Option Addr)(c14:Nat)(p15:Option Addr)(c16:Nat)(p19:Option Addr)(c20:Nat)(p21:Option Addr)(c22:Nat)(b17:Nat)(hB:SB Ms κ0 w0 [.box b17 151 [si a1.dc,(1,[pt b2 0]),(1,[pt b6 0]),sm p10,sl p13 (a1.owned).length c14,sl p15 (a1.modes).length c16],.tok p13 157 3 (a1.owned).length c14,.tok p15 25 1 (a1.modes).length c16,.box b2 130 [sm p3,su a1.store.floor],mx p3 m4 c5,.box b6 174 [su a1.part.clock,sm p7],mx p7 m8 c9,mx p10 m11 c12] [Map.mp kStr false (tSl f_api_Ver.ty) p3 m4 c5 a1.store.chains,Map.mp (kInt .u64) false (fInt .u64).ty p7 m8 c9 a1.part.open_,Map.mp (kInt .u64) false (tSl f_api_Ver.ty) p10 m11 c12 a1.writes,Ro.mp f_span_Shard.ty p13 c14 a1.owned,Ro.mp (fInt .u64).ty p15 c16 a1.modes,Ro.mp f_api_Ver.ty p19 c20 a18.Vers,Ro.mp (fInt .u64).ty p21 c22 a18.Vec]){r:(T_node_Node)}(H:M.node_Node_load N a1 a18=some r) :
    Calls Try.prog 98 #[pt b17 0,.agg (flat [si a18.Kind,su a18.Id,su a18.N,su a18.TS,sg a18.Lo,sg a18.Hi,sl p19 (a18.Vers).length c20,sl p21 (a18.Vec).length c22,si a18.Cmd.Kind,si a18.Cmd.DC,si a18.Cmd.Shard,si a18.Cmd.Node,si a18.Cmd.Mode,sg a18.Cmd.Key]).toArray] w0 (Post Ms κ0 w0 fun v κ w => ∃(b104:Nat) (p105:Option Nat) (m106:Array MapEntry) (c107 b108:Nat) (p109:Option Nat) (m110:Array MapEntry) (c111:Nat) (p112:Option Nat) (m113:Array MapEntry) (c114:Nat) (p115:Option Addr) (c116:Nat) (p117:Option Addr) (c118:Nat),v = .tuple #[]∧SS Ms κ0 w0 κ w [.box b17 151 [si r.dc,(1,[pt b104 0]),(1,[pt b108 0]),sm p112,sl p115 (r.owned).length c116,sl p117 (r.modes).length c118],.tok p115 157 3 (r.owned).length c116,.tok p117 25 1 (r.modes).length c118,.box b104 130 [sm p105,su r.store.floor],mx p105 m106 c107,.box b108 174 [su r.part.clock,sm p109],mx p109 m110 c111,mx p112 m113 c114] [Map.mp kStr false (tSl f_api_Ver.ty) p105 m106 c107 r.store.chains,Map.mp (kInt .u64) false (fInt .u64).ty p109 m110 c111 r.part.open_,Map.mp (kInt .u64) false (tSl f_api_Ver.ty) p112 m113 c114 r.writes,Ro.mp f_span_Shard.ty p115 c116 r.owned,Ro.mp (fInt .u64).ty p117 c118 r.modes]):=by
 have hS:=hB.hS
 have hfr:=hS.fresh
 refine en Try.func98 rfl Try.ntmps98 fun a hF=>?_
 unfold M.node_Node_load at H
 refine qr fun _ h23=>(wc (wbx hF hS [si a18.Kind,su a18.Id,su a18.N,su a18.TS,sg a18.Lo,sg a18.Hi,sl p19 (a18.Vers).length c20,sl p21 (a18.Vec).length c22,si a18.Cmd.Kind,si a18.Cmd.DC,si a18.Cmd.Shard,si a18.Cmd.Node,si a18.Cmd.Mode,sg a18.Cmd.Key] (sgN 14 sgNil) fun b24 a w hF hS=>(h23 _ _ (qr fun _ h25=>(wp 1 [0,6] hF fun a hF=>wc (wld hF hS 0 6 0 fun a hF=>wp 2 [0,7,8,9] hF fun a hF=>(h25 _ _ (bk (loop_fuel (n:=N) (fun n a w => ∃(κ:Gh) (p76:Option Nat) (m77:Array MapEntry) (c78:Nat) (y79:Mp ByteArray (List T_api_Ver)) (y80 y81:Int) (p82:Option Nat) (m83:Array MapEntry) (c84:Nat) (y85:Mp Int Int) (y86:Int),Fr (27) [] [(0,pt b17 0),(7,.slice p19 (a18.Vers).length c20),(8,vi ((a18.Vers).length:Int)),(9,vi y86)] a∧SS Ms κ0 w0 κ w [.box b17 151 [si a1.dc,(1,[pt b2 0]),(1,[pt b6 0]),sm p10,sl p13 (a1.owned).length c14,sl p15 (a1.modes).length c16],.box b2 130 [sm p76,su y80],.box b6 174 [su y81,sm p82],.tok p13 157 3 (a1.owned).length c14,.tok p15 25 1 (a1.modes).length c16,mx p76 m77 c78,mx p82 m83 c84,mx p10 m11 c12] [Map.mp kStr false (tSl f_api_Ver.ty) p76 m77 c78 y79,Map.mp (kInt .u64) false (fInt .u64).ty p82 m83 c84 y85,Map.mp (kInt .u64) false (tSl f_api_Ver.ty) p10 m11 c12 a1.writes,Ro.mp f_span_Shard.ty p13 c14 a1.owned,Ro.mp (fInt .u64).ty p15 c16 a1.modes,Ro.mp f_api_Ver.ty p19 c20 a18.Vers]∧M.node_Node_load_L1 N n a1 a18 y79 y80 y81 y85 y86=some r) ?_ ?_)))))))))
 exact ⟨_,p3,m4,c5,a1.store.chains,a1.store.floor,a1.part.clock,p7,m8,c9,a1.part.open_,0,hF.kp [0,7,8,9],hS.sp [1,4,6,2,3,5,7,8] (rg 6),H⟩
 rintro n a w ⟨κ,p76,m77,c78,y79,y80,y81,p82,m83,c84,y85,y86,hF,hS,H⟩
 rcases n with _|fuel1
 simp [M.node_Node_load_L1] at H
 simp only [M.node_Node_load_L1] at H
 refine qr fun _ h87=>(wl_pure (L':=[(0,pt b17 0),(7,.slice p19 (a18.Vers).length c20),(8,vi ((a18.Vers).length:Int)),(9,vi y86),(10,vb (decide (y86<((a18.Vers).length:Int))))]) 1 [0,7,8,9,10] hF kr fun a hF=>(h87 _ _ (qs fun _ h88=>bc hF H (fun hb H=>?_) fun hb H=>?_)))
 refine sk (h88 _ _ (qs fun _ h89=>bk (qr fun _ h90=>(bd H fun x91 hx91 H=>wc (wo_index hF hS kr 5 (E:=37) (sz:=6) rfl rfl rfl kr rfl hx91 kr kr fun b92 f93 a hpx91 hF=>wc (wo_loadRoAgg (t:=f_api_Ver) hF hS kr 5 rfl rfl hpx91 rfl hx91 kr kr kr fun a hF=>wc (wal hF hS [sg ByteArray.empty,sg ByteArray.empty,sb false,su 0,si 0,si 0] (sgN 6 sgNil) fun b94 a w hF hS=>wc (wst hF hS 0 0 6 [sg x91.Key,sg x91.Val,sb x91.Gone,su x91.TS,si x91.DC,si x91.Tx] (sgN 6 sgNil) fun a w hF hS=>nl ?_))))))))
 refine h90 _ _ (qs fun _ h95=>rgX hS [0,1,3,7,8] ?_)
 have hS:=hS.drew
 have hX:=hS.px [0,1,3,7,8]
 refine anp [0,1,2] [0,5,7,8,9,15] hF hX fun a hF=>atk 3 (some 16) hF hX rfl (vld 1 1 0) fun a hF=>atk 4 (some 17) hF hX rfl (vls 0 0 6) fun a hF=>ago 5 hF rfl (bd H fun x96 hx96 H=>wcS 2 [2,6,0,1,3,4,5,7,8] hF hS (fun hS=>C_store_Store_Put N (T_store_Store.mk y79 y80) (T_api_Ver.mk x91.Key x91.Val x91.Gone x91.TS x91.DC x91.Tx) p76 m77 c78 b2 ⟨rfl,hS.pick [0] kr⟩ hx96) ?_)
 rintro _ κ w a ⟨p97,m98,c99,rfl,h2⟩ hF hB
 have hS:=hB _ _ h2
 refine ⟨fun _=>(hS.sx [2,3,4,7,8] (ra 1 6)),?_⟩
 refine and_ (h95 _ _ (rgX hS [0,1,2,3,8] ?_))
 have hS:=hS.drew
 have hX:=hS.px [0,1,2,3,8]
 refine anp [0,1,2,4] [0,7,8,9,21,23] hF hX fun a hF=>atk 3 (some 22) hF hX rfl (vld 3 2 0) fun a hF=>atk 5 (some 24) hF hX rfl (vld 2 3 0) fun a hF=>ago 6 hF rfl (bd H fun x100 hx100 H=>wcS 2 [4,7,0,1,2,3,5,6,8] hF hS (fun hS=>C_part_Part_See N (T_part_Part.mk y81 y85) x91.TS p82 m83 c84 b6 ⟨rfl,hS.pick [2] kr⟩ hx100) ?_)
 rintro _ κ w a ⟨p101,m102,c103,rfl,h2⟩ hF hB
 have hS:=(hB _ _ h2).cC (C':=[.box b6 174 [su x100.clock,sm p101],mx p101 m102 c103,.box b2 130 [sm p97,su x96.2.floor],mx p97 m98 c99,.box b94 37 [sg x91.Key,sg x91.Val,sb x91.Gone,su x91.TS,si x91.DC,si x91.Tx],.box b17 151 [si a1.dc,(1,[pt b2 0]),(1,[pt b6 0]),sm p10,sl p13 (a1.owned).length c14,sl p15 (a1.modes).length c16],.tok p13 157 3 (a1.owned).length c14,.tok p15 25 1 (a1.modes).length c16,mx p10 m11 c12])
 refine ⟨fun _=>(hS.sx [2,3,4,5,8] (ra 1 7)),?_⟩
 refine and_ (h89 _ _ (rl (wp 2 [0,7,8,9] hF fun a hF=>nl ?_)))
 exact ⟨fuel1,Nat.lt_succ_self _,_,p97,m98,c99,x96.2.chains,x96.2.floor,x100.clock,p101,m102,c103,x100.open_,IntKind.i64.wrap (y86+1),hF.kp [0,7,8,9],hS.sp [5,2,0,6,7,3,1,8] [1,0,4,5,6,7],H⟩
 refine xt ?_
 cases H
 exact ret_done hF hS (res0 Try.results98) ⟨b2,p76,m77,c78,b6,p82,m83,c84,p10,m11,c12,p13,c14,p15,c16,rfl,hS.sp [0,3,4,1,5,2,6,7] (rg 5)⟩
theorem C_node_before (N:Nat){κ0:Gh}{w0:World}(hfr:Fresh κ0 w0)(a1:ByteArray)(a2:ByteArray)(hR : ∀m∈([]:List MP),m.p κ0 w0){r:(Bool)}(H:M.node_before N a1 a2=some r) :
    Calls Try.prog 121 #[.string (a1),.string (a2)] w0 (Post [] κ0 w0 fun v κ w=>v=vb r∧(∀m∈([]:List MP),m.p κ w)∧NewC w0 κ w []):=by
 have hS:=SS.start hfr hR
 refine en Try.func121 rfl Try.ntmps121 fun a hF=>?_
 unfold M.node_before at H
 refine qr fun _ h3=>(wp 1 [0,1] hF fun a hF=>(h3 _ _ (qr fun _ h4=>(bd H fun v6 hv6 H=>wl_join (fun a w => ∃κ:Gh,Fr (16) [] [(4,vb v6)] a∧SS [] κ0 w0 κ w [] []∧True) ?_ ?_))))
 refine wp 3 [0,1,7] hF fun a hF=>bs hv6 (fun hb hv6=>?_) fun hb hv6=>?_
 have hF:=hF.bv 7 hb
 refine wp 3 [0,1,7,10] hF fun a hF=>bs hv6 (fun hb hv6=>?_) fun hb hv6=>?_
 have hF:=hF.bv 10 hb
 refine wp 6 [4] hF fun a hF=>nl ?_
 cases hv6
 exact ⟨_,hF.kp [4],hS.sp [] [],trivial⟩
 have hF:=hF.bv 10 hb
 refine wp 6 [4] hF fun a hF=>nl ?_
 cases hv6
 exact ⟨_,hF.kp [4],hS.sp [] [],trivial⟩
 have hF:=hF.bv 7 hb
 refine wp 9 [4] hF fun a hF=>nl ?_
 cases hv6
 exact ⟨_,hF.kp [4],hS.sp [] [],trivial⟩
 rintro a w ⟨κ,hF,hS,-⟩
 refine h4 _ _ (rt ?_)
 cases H
 exact (ret_done hF hS (res1 Try.results121 (rvt hF)) ⟨rfl,(hS.pick [] kr).ro,hS.newC [] dc kr⟩)
theorem C_node_Node_leave (N:Nat){Ms:List Nat}{κ0:Gh}{w0:World}(a1:T_node_Node)(a18:ByteArray)(a19:ByteArray)(b2:Nat)(p3:Option Nat)(m4:Array MapEntry)(c5:Nat)(b6:Nat)(p7:Option Nat)(m8:Array MapEntry)(c9:Nat)(p10:Option Nat)(m11:Array MapEntry)(c12:Nat)(p13:Option Addr)(c14:Nat)(p15:Option Addr)(c16:Nat)(b17:Nat)(hB:SB Ms κ0 w0 [.box b17 151 [si a1.dc,(1,[pt b2 0]),(1,[pt b6 0]),sm p10,sl p13 (a1.owned).length c14,sl p15 (a1.modes).length c16],.tok p13 157 3 (a1.owned).length c14,.tok p15 25 1 (a1.modes).length c16,.box b2 130 [sm p3,su a1.store.floor],mx p3 m4 c5,.box b6 174 [su a1.part.clock,sm p7],mx p7 m8 c9,mx p10 m11 c12] [Map.mp kStr false (tSl f_api_Ver.ty) p3 m4 c5 a1.store.chains,Map.mp (kInt .u64) false (fInt .u64).ty p7 m8 c9 a1.part.open_,Map.mp (kInt .u64) false (tSl f_api_Ver.ty) p10 m11 c12 a1.writes,Ro.mp f_span_Shard.ty p13 c14 a1.owned,Ro.mp (fInt .u64).ty p15 c16 a1.modes]){r:(T_node_Node)}(H:M.node_Node_leave N a1 a18 a19=some r) :
    Calls Try.prog 99 #[pt b17 0,.string (a18),.string (a19)] w0 (Post Ms κ0 w0 fun v κ w => ∃(b109:Nat) (p110:Option Nat) (m111:Array MapEntry) (c112 b113:Nat) (p114:Option Nat) (m115:Array MapEntry) (c116:Nat) (p117:Option Nat) (m118:Array MapEntry) (c119:Nat) (p120:Option Addr) (c121:Nat) (p122:Option Addr) (c123:Nat),v = .tuple #[]∧SS Ms κ0 w0 κ w [.box b17 151 [si r.dc,(1,[pt b109 0]),(1,[pt b113 0]),sm p117,sl p120 (r.owned).length c121,sl p122 (r.modes).length c123],.tok p120 157 3 (r.owned).length c121,.tok p122 25 1 (r.modes).length c123,.box b109 130 [sm p110,su r.store.floor],mx p110 m111 c112,.box b113 174 [su r.part.clock,sm p114],mx p114 m115 c116,mx p117 m118 c119] [Map.mp kStr false (tSl f_api_Ver.ty) p110 m111 c112 r.store.chains,Map.mp (kInt .u64) false (fInt .u64).ty p114 m115 c116 r.part.open_,Map.mp (kInt .u64) false (tSl f_api_Ver.ty) p117 m118 c119 r.writes,Ro.mp f_span_Shard.ty p120 c121 r.owned,Ro.mp (fInt .u64).ty p122 c123 r.modes]):=by
 have hS:=hB.hS
 have hfr:=hS.fresh
 refine en Try.func99 rfl Try.ntmps99 fun a hF=>?_
 unfold M.node_Node_leave at H
 refine qr fun _ h20=>(wp 1 [0,1,2,6] hF fun a hF=>(h20 _ _ (qs fun _ h21=>qr fun _ h22=>(wp 3 [0,1,2,6,13] hF fun a hF=>wc (wld hF hS 0 4 0 fun a hF=>wp 2 [0,1,2,6,14,15,16] hF fun a hF=>(h22 _ _ (bk (loop_fuel (n:=N) (fun n a w => ∃(κ:Gh) (y73:List T_span_Shard) (p74:Option Addr) (c75:Nat) (y76:Int),Fr (54) [] [(0,pt b17 0),(1,.string (a18)),(2,.string (a19)),(6,.slice p74 y73.length c75),(14,.slice p13 (a1.owned).length c14),(15,vi ((a1.owned).length:Int)),(16,vi y76)] a∧SS Ms κ0 w0 κ w [.box b17 151 [si a1.dc,(1,[pt b2 0]),(1,[pt b6 0]),sm p10,sl p13 (a1.owned).length c14,sl p15 (a1.modes).length c16],.box b2 130 [sm p3,su a1.store.floor],.box b6 174 [su a1.part.clock,sm p7],.tok p74 157 3 y73.length c75,.tok p13 157 3 (a1.owned).length c14,.tok p15 25 1 (a1.modes).length c16,mx p3 m4 c5,mx p7 m8 c9,mx p10 m11 c12] [Map.mp kStr false (tSl f_api_Ver.ty) p3 m4 c5 a1.store.chains,Map.mp (kInt .u64) false (fInt .u64).ty p7 m8 c9 a1.part.open_,Map.mp (kInt .u64) false (tSl f_api_Ver.ty) p10 m11 c12 a1.writes,Ro.mp f_span_Shard.ty p13 c14 a1.owned,Ro.mp (fInt .u64).ty p15 c16 a1.modes,Ro.mp f_span_Shard.ty p74 c75 y73]∧M.node_Node_leave_L1 N n a1 a18 a19 y73 y76=some r) ?_ ?_))))))))
 have hS:=hS.add (m:=Ro.mp f_span_Shard.ty none 0 ([]:List T_span_Shard)) (Ro.nil f_span_Shard.ty _ _)
 have hS:=hS.addNil 157 3
 exact ⟨_,([]:List T_span_Shard),none,0,0,hF.kp [0,1,2,6,14,15,16],hS.sp [1,4,6,0,2,3,5,7,8] [1,2,3,4,5,0],H⟩
 rintro n a w ⟨κ,y73,p74,c75,y76,hF,hS,H⟩
 rcases n with _|fuel1
 simp [M.node_Node_leave_L1] at H
 simp only [M.node_Node_leave_L1] at H
 refine qr fun _ h77=>(wl_pure (L':=[(0,pt b17 0),(1,.string (a18)),(2,.string (a19)),(6,.slice p74 y73.length c75),(14,.slice p13 (a1.owned).length c14),(15,vi ((a1.owned).length:Int)),(16,vi y76),(17,vb (decide (y76<((a1.owned).length:Int))))]) 1 [0,1,2,6,14,15,16,17] hF kr fun a hF=>(h77 _ _ (qs fun _ h78=>bc hF H (fun hb H=>?_) fun hb H=>?_)))
 refine sk (h78 _ _ (seq_join (fun a w => ∃(κ:Gh) (y79:List T_span_Shard) (p80:Option Addr) (c81:Nat),Fr (54) [] [(0,pt b17 0),(1,.string (a18)),(2,.string (a19)),(6,.slice p80 y79.length c81),(14,.slice p13 (a1.owned).length c14),(15,vi ((a1.owned).length:Int)),(16,vi y76)] a∧SS Ms κ0 w0 κ w [.box b17 151 [si a1.dc,(1,[pt b2 0]),(1,[pt b6 0]),sm p10,sl p13 (a1.owned).length c14,sl p15 (a1.modes).length c16],.box b2 130 [sm p3,su a1.store.floor],.box b6 174 [su a1.part.clock,sm p7],.tok p80 157 3 y79.length c81,.tok p13 157 3 (a1.owned).length c14,.tok p15 25 1 (a1.modes).length c16,mx p3 m4 c5,mx p7 m8 c9,mx p10 m11 c12] [Map.mp kStr false (tSl f_api_Ver.ty) p3 m4 c5 a1.store.chains,Map.mp (kInt .u64) false (fInt .u64).ty p7 m8 c9 a1.part.open_,Map.mp (kInt .u64) false (tSl f_api_Ver.ty) p10 m11 c12 a1.writes,Ro.mp f_span_Shard.ty p13 c14 a1.owned,Ro.mp (fInt .u64).ty p15 c16 a1.modes,Ro.mp f_span_Shard.ty p80 c81 y79]∧M.node_Node_leave_k2 N (M.node_Node_leave_L1 N fuel1) a1 a18 a19 y76 y79=some r) ?_ ?_))
 refine bk (qr fun _ h82=>(bd H fun x83 hx83 H=>wc (wo_index hF hS kr 3 (E:=157) (sz:=3) rfl rfl rfl kr rfl hx83 kr kr fun b84 f85 a hpx83 hF=>wc (wo_loadRoAgg (t:=f_span_Shard) hF hS kr 3 rfl rfl hpx83 rfl hx83 kr kr kr fun a hF=>wc (wal hF hS [sg ByteArray.empty,sg ByteArray.empty,si 0] (sgN 3 sgNil) fun b86 a w hF hS=>wc (wst hF hS 0 0 3 [sg x83.Lo,sg x83.Hi,si x83.Node] (sgN 3 sgNil) fun a w hF hS=>(h82 _ _ (seq_join (fun a w => ∃(κ:Gh) (y87:List T_span_Shard) (p88:Option Addr) (c89:Nat),Fr (54) [] [(0,pt b17 0),(1,.string (a18)),(2,.string (a19)),(6,.slice p88 y87.length c89),(8,pt b86 0),(14,.slice p13 (a1.owned).length c14),(15,vi ((a1.owned).length:Int)),(16,vi y76)] a∧SS Ms κ0 w0 κ w [.box b86 157 [sg x83.Lo,sg x83.Hi,si x83.Node],.box b17 151 [si a1.dc,(1,[pt b2 0]),(1,[pt b6 0]),sm p10,sl p13 (a1.owned).length c14,sl p15 (a1.modes).length c16],.box b2 130 [sm p3,su a1.store.floor],.box b6 174 [su a1.part.clock,sm p7],.tok p88 157 3 y87.length c89,.tok p13 157 3 (a1.owned).length c14,.tok p15 25 1 (a1.modes).length c16,mx p3 m4 c5,mx p7 m8 c9,mx p10 m11 c12] [Map.mp kStr false (tSl f_api_Ver.ty) p3 m4 c5 a1.store.chains,Map.mp (kInt .u64) false (fInt .u64).ty p7 m8 c9 a1.part.open_,Map.mp (kInt .u64) false (tSl f_api_Ver.ty) p10 m11 c12 a1.writes,Ro.mp f_span_Shard.ty p13 c14 a1.owned,Ro.mp (fInt .u64).ty p15 c16 a1.modes,Ro.mp f_span_Shard.ty p88 c89 y87]∧M.node_Node_leave_k3 N (M.node_Node_leave_L1 N fuel1) a1 a18 a19 y76 x83 y87=some r) ?_ ?_))))))))
 refine qr fun _ h99=>(wp 1 [0,1,2,6,8,14,15,16,20] hF fun a hF=>wc (wld hF hS 0 0 0 fun a hF=>wp 2 [0,1,2,6,8,14,15,16,23] hF fun a hF=>(h99 _ _ (bc hF H (fun hb H=>?_) fun hb H=>?_))))
 refine qr fun _ h100=>(wc (wls hF hS 0 0 3 fun a hF=>wc (wal hF hS [sg ByteArray.empty,sg ByteArray.empty,si 0] (sgN 3 sgNil) fun b101 a w hF hS=>wc (wst hF hS 0 0 3 [sg x83.Lo,sg x83.Hi,si x83.Node] (sgN 3 sgNil) fun a w hF hS=>(h100 _ _ (seq_join (fun a w => ∃(κ:Gh) (y102:ByteArray),Fr (54) [] [(0,pt b17 0),(1,.string (a18)),(2,.string (a19)),(6,.slice p74 y73.length c75),(8,pt b86 0),(9,pt b101 0),(14,.slice p13 (a1.owned).length c14),(15,vi ((a1.owned).length:Int)),(16,vi y76)] a∧SS Ms κ0 w0 κ w [.box b101 157 [sg x83.Lo,sg y102,si x83.Node],.box b86 157 [sg x83.Lo,sg x83.Hi,si x83.Node],.box b17 151 [si a1.dc,(1,[pt b2 0]),(1,[pt b6 0]),sm p10,sl p13 (a1.owned).length c14,sl p15 (a1.modes).length c16],.box b2 130 [sm p3,su a1.store.floor],.box b6 174 [su a1.part.clock,sm p7],.tok p74 157 3 y73.length c75,.tok p13 157 3 (a1.owned).length c14,.tok p15 25 1 (a1.modes).length c16,mx p3 m4 c5,mx p7 m8 c9,mx p10 m11 c12] [Map.mp kStr false (tSl f_api_Ver.ty) p3 m4 c5 a1.store.chains,Map.mp (kInt .u64) false (fInt .u64).ty p7 m8 c9 a1.part.open_,Map.mp (kInt .u64) false (tSl f_api_Ver.ty) p10 m11 c12 a1.writes,Ro.mp f_span_Shard.ty p13 c14 a1.owned,Ro.mp (fInt .u64).ty p15 c16 a1.modes,Ro.mp f_span_Shard.ty p74 c75 y73]∧M.node_Node_leave_k4 N (M.node_Node_leave_L1 N fuel1) a1 a18 a19 y73 y76 x83 y102=some r) ?_ ?_))))))
 refine qr fun _ h107=>(wp 2 [0,1,2,6,8,9,14,15,16,25,26] hF fun a hF=>wc (wld hF hS 1 1 0 fun a hF=>bd H fun x108 hx108 H=>wc (wo_callP hF hS kr kr (C_node_before N hS.fresh a18 x83.Hi ((hS.pick [] kr).ro) hx108) ?_)))
 rintro _ κ w a ⟨rfl,hR,hN⟩ hF hS hO
 refine h107 _ _ (bc hF H (fun hb H=>?_) fun hb H=>?_)
 refine rl (wp 2 [0,1,2,6,8,9,14,15,16,29,30] hF fun a hF=>wc (wst hF hS 0 1 1 [sg a18] (sgN 1 sgNil) fun a w hF hS=>nl ?_))
 exact ⟨_,a18,hF.kp [0,1,2,6,8,9,14,15,16],hS.sp (rg 11) (rg 6),H⟩
 refine sk ?_
 exact ⟨_,x83.Hi,hF.kp [0,1,2,6,8,9,14,15,16],hS.sp (rg 11) (rg 6),H⟩
 rintro a w ⟨κ,y102,hF,hS,H⟩
 unfold M.node_Node_leave_k4 at H
 refine rl (wl_pure (L':=[(0,pt b17 0),(1,.string (a18)),(2,.string (a19)),(8,pt b86 0),(9,pt b101 0),(14,.slice p13 (a1.owned).length c14),(15,vi ((a1.owned).length:Int)),(16,vi y76),(31,.slice p74 y73.length c75)]) 1 [0,1,2,8,9,14,15,16,31] hF kr fun a hF=>wc (wls hF hS 0 0 3 fun a hF=>wc (wo_buildN (t:=f_span_Shard) (z := .agg (flat [sg ByteArray.empty,sg ByteArray.empty,si 0]).toArray) (l:=[(T_span_Shard.mk x83.Lo y102 x83.Node)]) (vs:=[(0,.agg (flat [sg x83.Lo,sg y102,si x83.Node]).toArray)]) (cells := #[.string (x83.Lo),.string (y102),vi x83.Node]) (E:=157) hF hS kr rfl kr kr rfl kr kr kr kr kr fun p103 κ a w hF hS=>?_)))
 refine bd H fun x104 hx104 H=>wc (wo_appendW (ty:=f_span_Shard.ty) hF hS kr 6 6 0 rfl rfl rfl kr kr rfl rfl rfl hx104 kr (i:=Try.t157) (z := .agg (flat [sg ByteArray.empty,sg ByteArray.empty,si 0]).toArray) kr kr kr fun p105 c106 κ a w hF hS=>wp 1 [0,1,2,6,8,14,15,16] hF fun a hF=>nl ?_)
 exact ⟨_,x104,p105,c106,hF.kp [0,1,2,6,8,14,15,16],hS.sp (ra 2 10) [2,3,4,5,6,0],H⟩
 refine sk ?_
 exact ⟨_,y73,p74,c75,hF.kp [0,1,2,6,8,14,15,16],hS.sp (rg 10) (rg 6),H⟩
 rintro a w ⟨κ,y87,p88,c89,hF,hS,H⟩
 unfold M.node_Node_leave_k3 at H
 refine qr fun _ h90=>(wp 2 [0,1,2,6,8,14,15,16,35,36] hF fun a hF=>wc (wld hF hS 0 1 0 fun a hF=>bd H fun x91 hx91 H=>wc (wo_callP hF hS kr kr (C_node_before N hS.fresh a19 x83.Hi ((hS.pick [] kr).ro) hx91) ?_)))
 rintro _ κ w a ⟨rfl,hR,hN⟩ hF hS hO
 refine h90 _ _ (bc hF H (fun hb H=>?_) fun hb H=>?_)
 refine qr fun _ h92=>(wc (wls hF hS 0 0 3 fun a hF=>wc (wal hF hS [sg ByteArray.empty,sg ByteArray.empty,si 0] (sgN 3 sgNil) fun b93 a w hF hS=>wc (wst hF hS 0 0 3 [sg x83.Lo,sg x83.Hi,si x83.Node] (sgN 3 sgNil) fun a w hF hS=>(h92 _ _ (qr fun _ h94=>(wp 1 [0,1,2,6,10,14,15,16,40] hF fun a hF=>wc (wld hF hS 1 0 0 fun a hF=>wp 3 [0,1,2,6,10,14,15,16,43,44] hF fun a hF=>wc (wst hF hS 0 0 1 [sg (if (!sLt x83.Lo a19)=true then x83.Lo else a19)] (sgN 1 sgNil) fun a w hF hS=>(h94 _ _ (rl (wl_pure (L':=[(0,pt b17 0),(1,.string (a18)),(2,.string (a19)),(10,pt b93 0),(14,.slice p13 (a1.owned).length c14),(15,vi ((a1.owned).length:Int)),(16,vi y76),(45,.slice p88 y87.length c89)]) 1 [0,1,2,10,14,15,16,45] hF kr fun a hF=>?_))))))))))))
 refine wc (wls hF hS 0 0 3 fun a hF=>wc (wo_buildN (t:=f_span_Shard) (z := .agg (flat [sg ByteArray.empty,sg ByteArray.empty,si 0]).toArray) (l:=[(T_span_Shard.mk (if (!sLt x83.Lo a19)=true then x83.Lo else a19) x83.Hi x83.Node)]) (vs:=[(0,.agg (flat [sg (if (!sLt x83.Lo a19)=true then x83.Lo else a19),sg x83.Hi,si x83.Node]).toArray)]) (cells := #[.string ((if (!sLt x83.Lo a19)=true then x83.Lo else a19)),.string (x83.Hi),vi x83.Node]) (E:=157) hF hS kr rfl kr kr rfl kr kr kr kr kr fun p95 κ a w hF hS=>bd H fun x96 hx96 H=>wc (wo_appendW (ty:=f_span_Shard.ty) hF hS kr 6 6 0 rfl rfl rfl kr kr rfl rfl rfl hx96 kr (i:=Try.t157) (z := .agg (flat [sg ByteArray.empty,sg ByteArray.empty,si 0]).toArray) kr kr kr fun p97 c98 κ a w hF hS=>?_)))
 refine wp 1 [0,1,2,6,14,15,16] hF fun a hF=>nl ?_
 exact ⟨_,x96,p97,c98,hF.kp [0,1,2,6,14,15,16],hS.sp (ra 3 9) [2,3,4,5,6,0],H⟩
 refine sk ?_
 exact ⟨_,y87,p88,c89,hF.kp [0,1,2,6,14,15,16],hS.sp (ra 1 9) (rg 6),H⟩
 rintro a w ⟨κ,y79,p80,c81,hF,hS,H⟩
 unfold M.node_Node_leave_k2 at H
 refine rl (wp 2 [0,1,2,6,14,15,16] hF fun a hF=>nl ?_)
 exact ⟨fuel1,Nat.lt_succ_self _,_,y79,p80,c81,IntKind.i64.wrap (y76+1),hF.kp [0,1,2,6,14,15,16],hS.sp (rg 9) (rg 6),H⟩
 refine xt (h21 _ _ (rl (wp 4 [51,53] hF fun a hF=>wc (wst hF hS 0 4 1 [sl p74 y73.length c75] (sgN 1 sgNil) fun a w hF hS=>nl ?_))))
 cases H
 exact ret_done hF hS (res0 Try.results99) ⟨b2,p3,m4,c5,b6,p7,m8,c9,p10,m11,c12,p74,c75,p15,c16,rfl,hS.sp [0,3,5,1,6,2,7,8] [0,1,2,5,4]⟩
theorem C_node_Node_own (N:Nat){Ms:List Nat}{κ0:Gh}{w0:World}(a1:T_node_Node)(a18:ByteArray)(a19:ByteArray)(b2:Nat)(p3:Option Nat)(m4:Array MapEntry)(c5:Nat)(b6:Nat)(p7:Option Nat)(m8:Array MapEntry)(c9:Nat)(p10:Option Nat)(m11:Array MapEntry)(c12:Nat)(p13:Option Addr)(c14:Nat)(p15:Option Addr)(c16:Nat)(b17:Nat)(hB:SB Ms κ0 w0 [.box b17 151 [si a1.dc,(1,[pt b2 0]),(1,[pt b6 0]),sm p10,sl p13 (a1.owned).length c14,sl p15 (a1.modes).length c16],.tok p13 157 3 (a1.owned).length c14,.tok p15 25 1 (a1.modes).length c16,.box b2 130 [sm p3,su a1.store.floor],mx p3 m4 c5,.box b6 174 [su a1.part.clock,sm p7],mx p7 m8 c9,mx p10 m11 c12] [Map.mp kStr false (tSl f_api_Ver.ty) p3 m4 c5 a1.store.chains,Map.mp (kInt .u64) false (fInt .u64).ty p7 m8 c9 a1.part.open_,Map.mp (kInt .u64) false (tSl f_api_Ver.ty) p10 m11 c12 a1.writes,Ro.mp f_span_Shard.ty p13 c14 a1.owned,Ro.mp (fInt .u64).ty p15 c16 a1.modes]){r:(T_node_Node)}(H:M.node_Node_own N a1 a18 a19=some r) :
    Calls Try.prog 102 #[pt b17 0,.string (a18),.string (a19)] w0 (Post Ms κ0 w0 fun v κ w => ∃(b118:Nat) (p119:Option Nat) (m120:Array MapEntry) (c121 b122:Nat) (p123:Option Nat) (m124:Array MapEntry) (c125:Nat) (p126:Option Nat) (m127:Array MapEntry) (c128:Nat) (p129:Option Addr) (c130:Nat) (p131:Option Addr) (c132:Nat),v = .tuple #[]∧SS Ms κ0 w0 κ w [.box b17 151 [si r.dc,(1,[pt b118 0]),(1,[pt b122 0]),sm p126,sl p129 (r.owned).length c130,sl p131 (r.modes).length c132],.tok p129 157 3 (r.owned).length c130,.tok p131 25 1 (r.modes).length c132,.box b118 130 [sm p119,su r.store.floor],mx p119 m120 c121,.box b122 174 [su r.part.clock,sm p123],mx p123 m124 c125,mx p126 m127 c128] [Map.mp kStr false (tSl f_api_Ver.ty) p119 m120 c121 r.store.chains,Map.mp (kInt .u64) false (fInt .u64).ty p123 m124 c125 r.part.open_,Map.mp (kInt .u64) false (tSl f_api_Ver.ty) p126 m127 c128 r.writes,Ro.mp f_span_Shard.ty p129 c130 r.owned,Ro.mp (fInt .u64).ty p131 c132 r.modes]):=by
 have hS:=hB.hS
 have hfr:=hS.fresh
 refine en Try.func102 rfl Try.ntmps102 fun a hF=>?_
 unfold M.node_Node_own at H
 refine qr fun _ h20=>(wp 3 [0,1,2,8,9,10] hF fun a hF=>bd H fun x21 hx21 H=>wc (wcS 8 (rg 8) hF hS (fun hS=>C_node_Node_leave N (T_node_Node.mk a1.dc (T_store_Store.mk a1.store.chains a1.store.floor) (T_part_Part.mk a1.part.clock a1.part.open_) a1.writes a1.owned a1.modes) a18 a19 b2 p3 m4 c5 b6 p7 m8 c9 p10 m11 c12 p13 c14 p15 c16 b17 ⟨rfl,hS.pick (rg 5) kr⟩ hx21) ?_))
 rintro _ κ w a ⟨b22,p23,m24,c25,b26,p27,m28,c29,p30,m31,c32,p33,c34,p35,c36,rfl,h2⟩ hF hB
 have hS:=hB _ _ h2
 refine h20 _ _ (qs fun _ h37=>qr fun _ h38=>(bd H fun v40 hv40 H=>wl_join (fun a w => ∃κ:Gh,Fr (63) [] [(0,pt b17 0),(1,.string (a18)),(2,.string (a19)),(18,vb v40)] a∧SS Ms κ0 w0 κ w [.box b17 151 [si x21.dc,(1,[pt b22 0]),(1,[pt b26 0]),sm p30,sl p33 (x21.owned).length c34,sl p35 (x21.modes).length c36],.box b22 130 [sm p23,su x21.store.floor],.box b26 174 [su x21.part.clock,sm p27],.tok p33 157 3 (x21.owned).length c34,.tok p35 25 1 (x21.modes).length c36,mx p23 m24 c25,mx p27 m28 c29,mx p30 m31 c32] [Map.mp kStr false (tSl f_api_Ver.ty) p23 m24 c25 x21.store.chains,Map.mp (kInt .u64) false (fInt .u64).ty p27 m28 c29 x21.part.open_,Map.mp (kInt .u64) false (tSl f_api_Ver.ty) p30 m31 c32 x21.writes,Ro.mp f_span_Shard.ty p33 c34 x21.owned,Ro.mp (fInt .u64).ty p35 c36 x21.modes]∧True) ?_ ?_))
 refine wp 3 [0,1,2,14] hF fun a hF=>bs hv40 (fun hb hv40=>?_) fun hb hv40=>?_
 have hF:=hF.bv 14 hb
 refine wp 4 [0,1,2,18] hF fun a hF=>nl ?_
 cases hv40
 exact ⟨_,hF.kp [0,1,2,18],hS.sp [0,3,5,1,2,4,6,7] (rg 5),trivial⟩
 have hF:=hF.bv 14 hb
 refine wp 4 [0,1,2,18] hF fun a hF=>nl ?_
 cases hv40
 exact ⟨_,hF.kp [0,1,2,18],hS.sp [0,3,5,1,2,4,6,7] (rg 5),trivial⟩
 rintro a w ⟨κ,hF,hS,-⟩
 refine h38 _ _ (bc hF H (fun hb H=>?_) fun hb H=>?_)
 refine rt ?_
 cases H
 exact ret_done hF hS (res0 Try.results102) ⟨b22,p23,m24,c25,b26,p27,m28,c29,p30,m31,c32,p33,c34,p35,c36,rfl,hS.sp [0,3,4,1,5,2,6,7] (rg 5)⟩
 refine sk (h37 _ _ (qr fun _ h41=>(wp 1 [0,1,2,6] hF fun a hF=>(h41 _ _ (qs fun _ h42=>bk (loop_fuel (n:=N) (fun n a w => ∃(κ:Gh) (y93:Int),Fr (63) [] [(0,pt b17 0),(1,.string (a18)),(2,.string (a19)),(6,vi y93)] a∧SS Ms κ0 w0 κ w [.box b17 151 [si x21.dc,(1,[pt b22 0]),(1,[pt b26 0]),sm p30,sl p33 (x21.owned).length c34,sl p35 (x21.modes).length c36],.box b22 130 [sm p23,su x21.store.floor],.box b26 174 [su x21.part.clock,sm p27],.tok p33 157 3 (x21.owned).length c34,.tok p35 25 1 (x21.modes).length c36,mx p23 m24 c25,mx p27 m28 c29,mx p30 m31 c32] [Map.mp kStr false (tSl f_api_Ver.ty) p23 m24 c25 x21.store.chains,Map.mp (kInt .u64) false (fInt .u64).ty p27 m28 c29 x21.part.open_,Map.mp (kInt .u64) false (tSl f_api_Ver.ty) p30 m31 c32 x21.writes,Ro.mp f_span_Shard.ty p33 c34 x21.owned,Ro.mp (fInt .u64).ty p35 c36 x21.modes]∧M.node_Node_own_L1 N n a18 a19 x21 y93=some r) ?_ ?_))))))
 exact ⟨_,0,hF.kp [0,1,2,6],hS.sp (rg 8) (rg 5),H⟩
 rintro n a w ⟨κ,y93,hF,hS,H⟩
 rcases n with _|fuel1
 simp [M.node_Node_own_L1] at H
 simp only [M.node_Node_own_L1] at H
 refine qs fun _ h94=>qr fun _ h95=>(bd H fun v97 hv97 H=>wl_join (fun a w => ∃κ:Gh,Fr (63) [] [(0,pt b17 0),(1,.string (a18)),(2,.string (a19)),(6,vi y93),(37,vb v97)] a∧SS Ms κ0 w0 κ w [.box b17 151 [si x21.dc,(1,[pt b22 0]),(1,[pt b26 0]),sm p30,sl p33 (x21.owned).length c34,sl p35 (x21.modes).length c36],.box b22 130 [sm p23,su x21.store.floor],.box b26 174 [su x21.part.clock,sm p27],.tok p33 157 3 (x21.owned).length c34,.tok p35 25 1 (x21.modes).length c36,mx p23 m24 c25,mx p27 m28 c29,mx p30 m31 c32] [Map.mp kStr false (tSl f_api_Ver.ty) p23 m24 c25 x21.store.chains,Map.mp (kInt .u64) false (fInt .u64).ty p27 m28 c29 x21.part.open_,Map.mp (kInt .u64) false (tSl f_api_Ver.ty) p30 m31 c32 x21.writes,Ro.mp f_span_Shard.ty p33 c34 x21.owned,Ro.mp (fInt .u64).ty p35 c36 x21.modes]∧True) ?_ ?_)
 refine wp 4 [0,1,2,6,19,22] hF fun a hF=>wc (wld hF hS 0 4 0 fun a hF=>wp 3 [0,1,2,6,26] hF fun a hF=>bs hv97 (fun hb hv97=>?_) fun hb hv97=>?_)
 have hF:=hF.bv 26 hb
 refine wp 3 [0,1,2,6,26,29] hF fun a hF=>wcg hF (wld hF hS 0 4 0 fun a hF=>wl_pure (L':=[(0,pt b17 0),(1,.string (a18)),(2,.string (a19)),(6,vi y93),(26,vb true),(30,.slice p33 (x21.owned).length c34),(31,vi y93)]) 1 [0,1,2,6,26,30,31] hF kr fun a hF=>bd hv97 fun x98 hx98 hv97=>wcg hF (wo_index hF hS kr 3 (E:=157) (sz:=3) rfl rfl rfl kr rfl hx98 kr kr fun b99 f100 a hpx98 hF=>wl_pure (L':=[(0,pt b17 0),(1,.string (a18)),(2,.string (a19)),(6,vi y93),(26,vb true),(33,.pointer (some ⟨b99,(f100+Int.toNat y93*3),none⟩))]) 1 [0,1,2,6,26,33] hF kr fun a hF=>?_))
 refine wcg hF (wo_loadRo (t:=f_span_Shard) hF hS kr 3 0 (v := .string (x98.Lo)) rfl rfl hpx98 rfl hx98 kr kr kr fun a hF=>wp 3 [0,1,2,6,37] hF fun a hF=>nl ?_)
 cases hv97
 exact ⟨_,hF.kp [0,1,2,6,37],hS.sp (rg 8) (rg 5),trivial⟩
 have hF:=hF.bv 26 hb
 refine wp 11 [0,1,2,6,37] hF fun a hF=>nl ?_
 cases hv97
 exact ⟨_,hF.kp [0,1,2,6,37],hS.sp (rg 8) (rg 5),trivial⟩
 rintro a w ⟨κ,hF,hS,-⟩
 refine h95 _ _ (bc hF H (fun hb H=>?_) fun hb H=>?_)
 refine sk (h94 _ _ (bk (rl (wp 3 [0,1,2,6] hF fun a hF=>nl ?_))))
 exact ⟨fuel1,Nat.lt_succ_self _,_,IntKind.i64.wrap (y93+1),hF.kp [0,1,2,6],hS.sp (rg 8) (rg 5),H⟩
 refine xt (h42 _ _ (qr fun _ h101=>(wp 3 [0,1,2,6,42] hF fun a hF=>wc (wld hF hS 0 4 0 fun a hF=>wl_pure (L':=[(0,pt b17 0),(1,.string (a18)),(2,.string (a19)),(6,vi y93),(43,.slice p33 (x21.owned).length c34),(44,vi y93)]) 1 [0,1,2,6,43,44] hF kr fun a hF=>bd H fun x102 hx102 H=>wc (wo_slice hF hS kr 3 (E:=157) (lo:=0) (hi:=y93) rfl rfl rfl kr rfl ⟨_,rfl⟩ hx102 kr kr fun p103 c104 a hF hS=>?_)))))
 have hS:=hS.add (m:=Ro.mp f_span_Shard.ty none 0 ([]:List T_span_Shard)) (Ro.nil f_span_Shard.ty _ _)
 have hS:=hS.addNil 157 3
 refine bd H fun x105 hx105 H=>wc (wo_appendW (ty:=f_span_Shard.ty) hF hS kr 0 0 1 rfl rfl rfl kr kr rfl rfl rfl hx105 kr (i:=Try.t157) (z := .agg (flat [sg ByteArray.empty,sg ByteArray.empty,si 0]).toArray) kr kr kr fun p106 c107 κ a w hF hS=>wl_pure (L':=[(0,pt b17 0),(6,vi y93),(46,.slice p106 x105.length c107),(49,.agg (flat [sg a18,sg a19,si 0]).toArray)]) 3 [0,6,46,49] hF kr fun a hF=>wc (wo_buildN (t:=f_span_Shard) (z := .agg (flat [sg ByteArray.empty,sg ByteArray.empty,si 0]).toArray) (l:=[(T_span_Shard.mk a18 a19 0)]) (vs:=[(0,.agg (flat [sg a18,sg a19,si 0]).toArray)]) (cells := #[.string (a18),.string (a19),vi 0]) (E:=157) hF hS kr rfl kr kr rfl kr kr kr kr kr fun p108 κ a w hF hS=>?_))
 refine bd H fun x109 hx109 H=>wc (wo_appendW (ty:=f_span_Shard.ty) hF hS kr 1 1 0 rfl rfl rfl kr kr rfl rfl rfl hx109 kr (i:=Try.t157) (z := .agg (flat [sg ByteArray.empty,sg ByteArray.empty,si 0]).toArray) kr kr kr fun p110 c111 κ a w hF hS=>wp 1 [0,6,7] hF fun a hF=>(h101 _ _ (rl (wp 5 [6,52,53,56] hF fun a hF=>wc (wld hF hS 2 4 0 fun a hF=>wl_pure (L':=[(52,pt b17 0),(53,.slice p110 x109.length c111),(57,.slice p33 (x21.owned).length c34),(58,vi y93)]) 1 [52,53,57,58] hF kr fun a hF=>bd H fun x112 hx112 H=>wc (wo_sliceTok hF hS kr 8 5 rfl rfl rfl rfl rfl rfl hx112 kr kr fun p113 c114 a hF hS=>?_))))))
 refine bd H fun x115 hx115 H=>wc (wo_appendW (ty:=f_span_Shard.ty) hF hS kr 1 1 0 rfl rfl rfl kr kr rfl rfl rfl hx115 kr (i:=Try.t157) (z := .agg (flat [sg ByteArray.empty,sg ByteArray.empty,si 0]).toArray) kr kr kr fun p116 c117 κ a w hF hS=>wp 2 [60,62] hF fun a hF=>wc (wst hF hS 2 4 1 [sl p116 x115.length c117] (sgN 1 sgNil) fun a w hF hS=>nl ?_))
 cases H
 exact ret_done hF hS (res0 Try.results102) ⟨b22,p23,m24,c25,b26,p27,m28,c29,p30,m31,c32,p116,c117,p35,c36,rfl,hS.sp [2,1,6,3,7,4,8,9] [7,8,9,0,11]⟩
end Go.Cf
