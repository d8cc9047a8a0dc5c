/- The walks: each function returns what its model says. Printed by a program of ours. -/
import Derived.Test.YtgpgcfgejggolaaGreatDoorZM1
import Derived.Test.YtgpgcfgejggolaaGreatDoorZWn1
namespace Go.Cf
open Go Go.Proofs
set_option linter.unusedVariables false
set_option maxRecDepth 20000
set_option maxHeartbeats 8000000
theorem C_node_New (N:Nat){Ms:List Nat}{κ0:Gh}{w0:World}(a1:Int)(hB:SB Ms κ0 w0 [] []){r:(T_node_Node)}(H:M.node_New N a1=some r) :
    Calls Tryz.prog 32 #[vi a1] w0 (Post Ms κ0 w0 fun v κ w => ∃(b16 b17:Nat) (p18:Option Nat) (m19:Array MapEntry) (c20 b21:Nat) (p22:Option Nat) (m23:Array MapEntry) (c24:Nat) (p25:Option Nat) (m26:Array MapEntry) (c27:Nat) (p28:Option Addr) (c29:Nat) (p30:Option Addr) (c31:Nat),v=pt b16 0∧SS Ms κ0 w0 κ w [.box b16 193 [si r.dc,(1,[pt b17 0]),(1,[pt b21 0]),sm p25,sl p28 (r.owned).length c29,sl p30 (r.modes).length c31],.box b17 293 [sm p18,su r.store.floor],mx p18 m19 c20,.box b21 296 [su r.part.clock,sm p22],mx p22 m23 c24,mx p25 m26 c27,.tok p28 150 3 (r.owned).length c29,.tok p30 56 1 (r.modes).length c31] [Map.mp kStr false (tSl f_api_Ver.ty) p18 m19 c20 r.store.chains,Map.mp (kInt .u64) false (fInt .u64).ty p22 m23 c24 r.part.open_,Map.mp (kInt .u64) false (tSl f_api_Ver.ty) p25 m26 c27 r.writes,Ro.mp f_span_Shard.ty p28 c29 r.owned,Ro.mp (fInt .u64).ty p30 c31 r.modes]):=by
 have hS:=hB.hS
 have hfr:=hS.fresh
 refine en Tryz.func32 rfl Tryz.ntmps32 fun a hF=>?_
 unfold M.node_New at H
 refine qs fun _ hz=>rl (wp 1 [0] hF fun a hF=>nl (hz _ _ (qr fun _ h3=>(wl_pure (L':=[(3,vi a1)]) 1 [3] hF kr fun a hF=>bd H fun x4 hx4 H=>wc (wcS 0 [] hF hS (fun hS=>C_store_New N (hS.sbK []) hx4) ?_)))))
 rintro _ κ w a ⟨b5,p6,m7,c8,rfl,h2⟩ hF hB
 have hS:=hB _ _ h2
 refine bd H fun x9 hx9 H=>wc (wcS 0 [0,1] hF hS (fun hS=>C_part_New N (hS.sbK []) hx9) ?_)
 rintro _ κ w a ⟨b10,p11,m12,c13,rfl,h2⟩ hF hB
 have hS:=(hB _ _ h2).cC (C':=[.box b10 296 [su x9.clock,sm p11],mx p11 m12 c13,.box b5 293 [sm p6,su x4.floor],mx p6 m7 c8])
 refine wc (wo_makeMap hF hS kr (kInt .u64) false (tSl f_api_Ver.ty) rfl fun b14 a w hF hS=>wp 1 [7] hF fun a hF=>wc (wbx hF hS [si a1,(1,[pt b5 0]),(1,[pt b10 0]),(1,[.map (some b14)]),sl none 0 0,sl none 0 0] (sgN 6 sgNil) fun b15 a w hF hS=>wp 1 [2] hF fun a hF=>(h3 _ _ (rt ?_))))
 have hS:=hS.add (m:=Ro.mp f_span_Shard.ty none 0 ([]:List T_span_Shard)) (Ro.nil f_span_Shard.ty _ _)
 have hS:=hS.add (m:=Ro.mp (fInt .u64).ty none 0 ([]:List Int)) (Ro.nil (fInt .u64).ty _ _)
 have hS:=hS.addNil 150 3
 have hS:=hS.addNil 56 1
 cases H
 exact ret_done hF hS (res1 Tryz.results32 (rvt hF)) ⟨b15,b5,p6,m7,c8,b10,p11,m12,c13,(some b14),#[],0,none,0,none,0,rfl,hS.sp [2,6,7,4,5,3,1,0] [4,3,2,1,0]⟩
theorem C_node_Node_load_vtL (N:Nat){Ms:List Nat}{κ0:Gh}{w0:World}(a1:T_node_Node)(a18:T_api_Msg)(b2:Nat)(p3:Option Nat)(m4:Array MapEntry)(c5:Nat)(b6:Nat)(p7:Option Nat)(m8:Array MapEntry)(c9:Nat)(p10:Option Nat)(m11:Array MapEntry)(c12:Nat)(p13:Option Addr)(c14:Nat)(p15:Option Addr)(c16:Nat)(p19:Option Addr)(c20:Nat)(p21:Option Addr)(c22:Nat)(b17:Nat)(hB:SB Ms κ0 w0 [.box b17 193 [si a1.dc,(1,[pt b2 0]),(1,[pt b6 0]),sm p10,sl p13 (a1.owned).length c14,sl p15 (a1.modes).length c16],.box b2 293 [sm p3,su a1.store.floor],mx p3 m4 c5,.box b6 296 [su a1.part.clock,sm p7],mx p7 m8 c9,mx p10 m11 c12] [Map.mp kStr false (tSl f_api_Ver.ty) p3 m4 c5 a1.store.chains,Map.mp (kInt .u64) false (fInt .u64).ty p7 m8 c9 a1.part.open_,Map.mp (kInt .u64) false (tSl f_api_Ver.ty) p10 m11 c12 a1.writes,Ro.mp f_span_Shard.ty p13 c14 a1.owned,Ro.mp (fInt .u64).ty p15 c16 a1.modes,Ro.mp f_api_Ver.ty p19 c20 a18.Vers,Ro.mp (fInt .u64).ty p21 c22 a18.Vec]){r:Unit}(H:M.node_Node_load_vtL N a1 a18=some r) :
    Calls Tryz.prog 94 #[pt b17 0,.agg (flat [si a18.Kind,su a18.Id,su a18.N,su a18.TS,sg a18.Lo,sg a18.Hi,sl p19 (a18.Vers).length c20,sl p21 (a18.Vec).length c22,si a18.Cmd.Kind,si a18.Cmd.DC,si a18.Cmd.Shard,si a18.Cmd.Node,si a18.Cmd.Mode,sg a18.Cmd.Key]).toArray] w0 (Post Ms κ0 w0 fun v κ w=>v = .tuple #[]∧SS Ms κ0 w0 κ w [.box b17 193 [si a1.dc,(1,[pt b2 0]),(1,[pt b6 0]),sm p10,sl p13 (a1.owned).length c14,sl p15 (a1.modes).length c16],.box b2 293 [sm p3,su a1.store.floor],mx p3 m4 c5,.box b6 296 [su a1.part.clock,sm p7],mx p7 m8 c9,mx p10 m11 c12] []):=by
 have hS:=hB.hS
 have hfr:=hS.fresh
 refine en Tryz.func94 rfl Tryz.ntmps94 fun a hF=>?_
 unfold M.node_Node_load_vtL at H
 refine qr fun _ h23=>(wc (wbx hF hS [si a18.Kind,su a18.Id,su a18.N,su a18.TS,sg a18.Lo,sg a18.Hi,sl p19 (a18.Vers).length c20,sl p21 (a18.Vec).length c22,si a18.Cmd.Kind,si a18.Cmd.DC,si a18.Cmd.Shard,si a18.Cmd.Node,si a18.Cmd.Mode,sg a18.Cmd.Key] (sgN 14 sgNil) fun b24 a w hF hS=>(h23 _ _ (qr fun _ h25=>(wp 1 [0,6] hF fun a hF=>wc (wld hF hS 0 6 0 fun a hF=>wp 2 [0,7,8,9] hF fun a hF=>(h25 _ _ (bk (loop_fuel (n:=N) (fun n a w => ∃κ:Gh,Fr (27) [] [(0,pt b17 0),(7,.slice p19 (a18.Vers).length c20),(8,vi ((a18.Vers).length:Int)),(9,vi 0)] a∧SS Ms κ0 w0 κ w [.box b17 193 [si a1.dc,(1,[pt b2 0]),(1,[pt b6 0]),sm p10,sl p13 (a1.owned).length c14,sl p15 (a1.modes).length c16],.box b2 293 [sm p3,su a1.store.floor],.box b6 296 [su a1.part.clock,sm p7],mx p3 m4 c5,mx p7 m8 c9,mx p10 m11 c12] [Map.mp kStr false (tSl f_api_Ver.ty) p3 m4 c5 a1.store.chains,Map.mp (kInt .u64) false (fInt .u64).ty p7 m8 c9 a1.part.open_,Map.mp (kInt .u64) false (tSl f_api_Ver.ty) p10 m11 c12 a1.writes,Ro.mp f_span_Shard.ty p13 c14 a1.owned,Ro.mp (fInt .u64).ty p15 c16 a1.modes,Ro.mp f_api_Ver.ty p19 c20 a18.Vers]∧M.node_Node_load_vtL_L1 N n a1 a18=some r) ?_ ?_)))))))))
 exact ⟨_,hF.kp [0,7,8,9],hS.sp [1,2,4,3,5,6] (rg 6),H⟩
 rintro n a w ⟨κ,hF,hS,H⟩
 rcases n with _|fuel1
 simp [M.node_Node_load_vtL_L1] at H
 simp only [M.node_Node_load_vtL_L1] at H
 refine qr fun _ h26=>(wl_pure (L':=[(0,pt b17 0),(7,.slice p19 (a18.Vers).length c20),(8,vi ((a18.Vers).length:Int)),(9,vi 0),(10,vb (decide (0<((a18.Vers).length:Int))))]) 1 [0,7,8,9,10] hF kr fun a hF=>(h26 _ _ (qs fun _ h27=>bc hF H (fun hb H=>?_) fun hb H=>?_)))
 refine sk (h27 _ _ (qs fun _ h28=>bk (qr fun _ h29=>(bd H fun x30 hx30 H=>wc (wo_index hF hS kr 5 (E:=196) (sz:=6) rfl rfl rfl kr rfl hx30 kr kr fun b31 f32 a hpx30 hF=>wc (wo_loadRoAgg (t:=f_api_Ver) hF hS kr 5 rfl rfl hpx30 rfl hx30 kr kr kr fun a hF=>wc (wal hF hS [sg ByteArray.empty,sg ByteArray.empty,sb false,su 0,si 0,si 0] (sgN 6 sgNil) fun b33 a w hF hS=>wc (wst hF hS 0 0 6 [sg x30.Key,sg x30.Val,sb x30.Gone,su x30.TS,si x30.DC,si x30.Tx] (sgN 6 sgNil) fun a w hF hS=>nl ?_))))))))
 refine h29 _ _ (qs fun _ h34=>?_)
 cases H
 refine xt ?_
 cases H
 exact ret_done hF hS (res0 Tryz.results94) ⟨rfl,hS.sp [0,1,3,2,4,5] []⟩
theorem C_node_before (N:Nat){κ0:Gh}{w0:World}(hfr:Fresh κ0 w0)(a1:ByteArray)(a2:ByteArray)(hR : ∀m∈([]:List MP),m.p κ0 w0){r:(Bool)}(H:M.node_before N a1 a2=some r) :
    Calls Tryz.prog 172 #[.string (a1),.string (a2)] w0 (Post [] κ0 w0 fun v κ w=>v=vb r∧(∀m∈([]:List MP),m.p κ w)∧NewC w0 κ w []):=by
 have hS:=SS.start hfr hR
 refine en Tryz.func172 rfl Tryz.ntmps172 fun a hF=>?_
 unfold M.node_before at H
 refine qr fun _ h3=>(wp 1 [0,1] hF fun a hF=>(h3 _ _ (qr fun _ h4=>(bd H fun v6 hv6 H=>wl_join (fun a w => ∃κ:Gh,Fr (16) [] [(4,vb v6)] a∧SS [] κ0 w0 κ w [] []∧True) ?_ ?_))))
 refine wp 3 [0,1,7] hF fun a hF=>bs hv6 (fun hb hv6=>?_) fun hb hv6=>?_
 have hF:=hF.bv 7 hb
 refine wp 3 [0,1,7,10] hF fun a hF=>bs hv6 (fun hb hv6=>?_) fun hb hv6=>?_
 have hF:=hF.bv 10 hb
 refine wp 6 [4] hF fun a hF=>nl ?_
 cases hv6
 exact ⟨_,hF.kp [4],hS.sp [] [],trivial⟩
 have hF:=hF.bv 10 hb
 refine wp 6 [4] hF fun a hF=>nl ?_
 cases hv6
 exact ⟨_,hF.kp [4],hS.sp [] [],trivial⟩
 have hF:=hF.bv 7 hb
 refine wp 9 [4] hF fun a hF=>nl ?_
 cases hv6
 exact ⟨_,hF.kp [4],hS.sp [] [],trivial⟩
 rintro a w ⟨κ,hF,hS,-⟩
 refine h4 _ _ (rt ?_)
 cases H
 exact (ret_done hF hS (res1 Tryz.results172 (rvt hF)) ⟨rfl,(hS.pick [] kr).ro,hS.newC [] dc kr⟩)
theorem C_node_Node_leave (N:Nat){Ms:List Nat}{κ0:Gh}{w0:World}(a1:T_node_Node)(a18:ByteArray)(a19:ByteArray)(b2:Nat)(p3:Option Nat)(m4:Array MapEntry)(c5:Nat)(b6:Nat)(p7:Option Nat)(m8:Array MapEntry)(c9:Nat)(p10:Option Nat)(m11:Array MapEntry)(c12:Nat)(p13:Option Addr)(c14:Nat)(p15:Option Addr)(c16:Nat)(b17:Nat)(hB:SB Ms κ0 w0 [.box b17 193 [si a1.dc,(1,[pt b2 0]),(1,[pt b6 0]),sm p10,sl p13 (a1.owned).length c14,sl p15 (a1.modes).length c16],.tok p13 150 3 (a1.owned).length c14,.tok p15 56 1 (a1.modes).length c16,.box b2 293 [sm p3,su a1.store.floor],mx p3 m4 c5,.box b6 296 [su a1.part.clock,sm p7],mx p7 m8 c9,mx p10 m11 c12] [Map.mp kStr false (tSl f_api_Ver.ty) p3 m4 c5 a1.store.chains,Map.mp (kInt .u64) false (fInt .u64).ty p7 m8 c9 a1.part.open_,Map.mp (kInt .u64) false (tSl f_api_Ver.ty) p10 m11 c12 a1.writes,Ro.mp f_span_Shard.ty p13 c14 a1.owned,Ro.mp (fInt .u64).ty p15 c16 a1.modes]){r:(T_node_Node)}(H:M.node_Node_leave N a1 a18 a19=some r) :
    Calls Tryz.prog 95 #[pt b17 0,.string (a18),.string (a19)] w0 (Post Ms κ0 w0 fun v κ w => ∃(b109:Nat) (p110:Option Nat) (m111:Array MapEntry) (c112 b113:Nat) (p114:Option Nat) (m115:Array MapEntry) (c116:Nat) (p117:Option Nat) (m118:Array MapEntry) (c119:Nat) (p120:Option Addr) (c121:Nat) (p122:Option Addr) (c123:Nat),v = .tuple #[]∧SS Ms κ0 w0 κ w [.box b17 193 [si r.dc,(1,[pt b109 0]),(1,[pt b113 0]),sm p117,sl p120 (r.owned).length c121,sl p122 (r.modes).length c123],.tok p120 150 3 (r.owned).length c121,.tok p122 56 1 (r.modes).length c123,.box b109 293 [sm p110,su r.store.floor],mx p110 m111 c112,.box b113 296 [su r.part.clock,sm p114],mx p114 m115 c116,mx p117 m118 c119] [Map.mp kStr false (tSl f_api_Ver.ty) p110 m111 c112 r.store.chains,Map.mp (kInt .u64) false (fInt .u64).ty p114 m115 c116 r.part.open_,Map.mp (kInt .u64) false (tSl f_api_Ver.ty) p117 m118 c119 r.writes,Ro.mp f_span_Shard.ty p120 c121 r.owned,Ro.mp (fInt .u64).ty p122 c123 r.modes]):=by
 have hS:=hB.hS
 have hfr:=hS.fresh
 refine en Tryz.func95 rfl Tryz.ntmps95 fun a hF=>?_
 unfold M.node_Node_leave at H
 refine qr fun _ h20=>(wp 1 [0,1,2,6] hF fun a hF=>(h20 _ _ (qs fun _ h21=>qr fun _ h22=>(wp 3 [0,1,2,6,13] hF fun a hF=>wc (wld hF hS 0 4 0 fun a hF=>wp 2 [0,1,2,6,14,15,16] hF fun a hF=>(h22 _ _ (bk (loop_fuel (n:=N) (fun n a w => ∃(κ:Gh) (y73:List T_span_Shard) (p74:Option Addr) (c75:Nat) (y76:Int),Fr (54) [] [(0,pt b17 0),(1,.string (a18)),(2,.string (a19)),(6,.slice p74 y73.length c75),(14,.slice p13 (a1.owned).length c14),(15,vi ((a1.owned).length:Int)),(16,vi y76)] a∧SS Ms κ0 w0 κ w [.box b17 193 [si a1.dc,(1,[pt b2 0]),(1,[pt b6 0]),sm p10,sl p13 (a1.owned).length c14,sl p15 (a1.modes).length c16],.box b2 293 [sm p3,su a1.store.floor],.box b6 296 [su a1.part.clock,sm p7],.tok p74 150 3 y73.length c75,.tok p13 150 3 (a1.owned).length c14,.tok p15 56 1 (a1.modes).length c16,mx p3 m4 c5,mx p7 m8 c9,mx p10 m11 c12] [Map.mp kStr false (tSl f_api_Ver.ty) p3 m4 c5 a1.store.chains,Map.mp (kInt .u64) false (fInt .u64).ty p7 m8 c9 a1.part.open_,Map.mp (kInt .u64) false (tSl f_api_Ver.ty) p10 m11 c12 a1.writes,Ro.mp f_span_Shard.ty p13 c14 a1.owned,Ro.mp (fInt .u64).ty p15 c16 a1.modes,Ro.mp f_span_Shard.ty p74 c75 y73]∧M.node_Node_leave_L1 N n a1 a18 a19 y73 y76=some r) ?_ ?_))))))))
 have hS:=hS.add (m:=Ro.mp f_span_Shard.ty none 0 ([]:List T_span_Shard)) (Ro.nil f_span_Shard.ty _ _)
 have hS:=hS.addNil 150 3
 exact ⟨_,([]:List T_span_Shard),none,0,0,hF.kp [0,1,2,6,14,15,16],hS.sp [1,4,6,0,2,3,5,7,8] [1,2,3,4,5,0],H⟩
 rintro n a w ⟨κ,y73,p74,c75,y76,hF,hS,H⟩
 rcases n with _|fuel1
 simp [M.node_Node_leave_L1] at H
 simp only [M.node_Node_leave_L1] at H
 refine qr fun _ h77=>(wl_pure (L':=[(0,pt b17 0),(1,.string (a18)),(2,.string (a19)),(6,.slice p74 y73.length c75),(14,.slice p13 (a1.owned).length c14),(15,vi ((a1.owned).length:Int)),(16,vi y76),(17,vb (decide (y76<((a1.owned).length:Int))))]) 1 [0,1,2,6,14,15,16,17] hF kr fun a hF=>(h77 _ _ (qs fun _ h78=>bc hF H (fun hb H=>?_) fun hb H=>?_)))
 refine sk (h78 _ _ (seq_join (fun a w => ∃(κ:Gh) (y79:List T_span_Shard) (p80:Option Addr) (c81:Nat),Fr (54) [] [(0,pt b17 0),(1,.string (a18)),(2,.string (a19)),(6,.slice p80 y79.length c81),(14,.slice p13 (a1.owned).length c14),(15,vi ((a1.owned).length:Int)),(16,vi y76)] a∧SS Ms κ0 w0 κ w [.box b17 193 [si a1.dc,(1,[pt b2 0]),(1,[pt b6 0]),sm p10,sl p13 (a1.owned).length c14,sl p15 (a1.modes).length c16],.box b2 293 [sm p3,su a1.store.floor],.box b6 296 [su a1.part.clock,sm p7],.tok p80 150 3 y79.length c81,.tok p13 150 3 (a1.owned).length c14,.tok p15 56 1 (a1.modes).length c16,mx p3 m4 c5,mx p7 m8 c9,mx p10 m11 c12] [Map.mp kStr false (tSl f_api_Ver.ty) p3 m4 c5 a1.store.chains,Map.mp (kInt .u64) false (fInt .u64).ty p7 m8 c9 a1.part.open_,Map.mp (kInt .u64) false (tSl f_api_Ver.ty) p10 m11 c12 a1.writes,Ro.mp f_span_Shard.ty p13 c14 a1.owned,Ro.mp (fInt .u64).ty p15 c16 a1.modes,Ro.mp f_span_Shard.ty p80 c81 y79]∧M.node_Node_leave_k2 N (M.node_Node_leave_L1 N fuel1) a1 a18 a19 y76 y79=some r) ?_ ?_))
 refine bk (qr fun _ h82=>(bd H fun x83 hx83 H=>wc (wo_index hF hS kr 3 (E:=150) (sz:=3) rfl rfl rfl kr rfl hx83 kr kr fun b84 f85 a hpx83 hF=>wc (wo_loadRoAgg (t:=f_span_Shard) hF hS kr 3 rfl rfl hpx83 rfl hx83 kr kr kr fun a hF=>wc (wal hF hS [sg ByteArray.empty,sg ByteArray.empty,si 0] (sgN 3 sgNil) fun b86 a w hF hS=>wc (wst hF hS 0 0 3 [sg x83.Lo,sg x83.Hi,si x83.Node] (sgN 3 sgNil) fun a w hF hS=>(h82 _ _ (seq_join (fun a w => ∃(κ:Gh) (y87:List T_span_Shard) (p88:Option Addr) (c89:Nat),Fr (54) [] [(0,pt b17 0),(1,.string (a18)),(2,.string (a19)),(6,.slice p88 y87.length c89),(8,pt b86 0),(14,.slice p13 (a1.owned).length c14),(15,vi ((a1.owned).length:Int)),(16,vi y76)] a∧SS Ms κ0 w0 κ w [.box b86 150 [sg x83.Lo,sg x83.Hi,si x83.Node],.box b17 193 [si a1.dc,(1,[pt b2 0]),(1,[pt b6 0]),sm p10,sl p13 (a1.owned).length c14,sl p15 (a1.modes).length c16],.box b2 293 [sm p3,su a1.store.floor],.box b6 296 [su a1.part.clock,sm p7],.tok p88 150 3 y87.length c89,.tok p13 150 3 (a1.owned).length c14,.tok p15 56 1 (a1.modes).length c16,mx p3 m4 c5,mx p7 m8 c9,mx p10 m11 c12] [Map.mp kStr false (tSl f_api_Ver.ty) p3 m4 c5 a1.store.chains,Map.mp (kInt .u64) false (fInt .u64).ty p7 m8 c9 a1.part.open_,Map.mp (kInt .u64) false (tSl f_api_Ver.ty) p10 m11 c12 a1.writes,Ro.mp f_span_Shard.ty p13 c14 a1.owned,Ro.mp (fInt .u64).ty p15 c16 a1.modes,Ro.mp f_span_Shard.ty p88 c89 y87]∧M.node_Node_leave_k3 N (M.node_Node_leave_L1 N fuel1) a1 a18 a19 y76 x83 y87=some r) ?_ ?_))))))))
 refine qr fun _ h99=>(wp 1 [0,1,2,6,8,14,15,16,20] hF fun a hF=>wc (wld hF hS 0 0 0 fun a hF=>wp 2 [0,1,2,6,8,14,15,16,23] hF fun a hF=>(h99 _ _ (bc hF H (fun hb H=>?_) fun hb H=>?_))))
 refine qr fun _ h100=>(wc (wls hF hS 0 0 3 fun a hF=>wc (wal hF hS [sg ByteArray.empty,sg ByteArray.empty,si 0] (sgN 3 sgNil) fun b101 a w hF hS=>wc (wst hF hS 0 0 3 [sg x83.Lo,sg x83.Hi,si x83.Node] (sgN 3 sgNil) fun a w hF hS=>(h100 _ _ (seq_join (fun a w => ∃(κ:Gh) (y102:ByteArray),Fr (54) [] [(0,pt b17 0),(1,.string (a18)),(2,.string (a19)),(6,.slice p74 y73.length c75),(8,pt b86 0),(9,pt b101 0),(14,.slice p13 (a1.owned).length c14),(15,vi ((a1.owned).length:Int)),(16,vi y76)] a∧SS Ms κ0 w0 κ w [.box b101 150 [sg x83.Lo,sg y102,si x83.Node],.box b86 150 [sg x83.Lo,sg x83.Hi,si x83.Node],.box b17 193 [si a1.dc,(1,[pt b2 0]),(1,[pt b6 0]),sm p10,sl p13 (a1.owned).length c14,sl p15 (a1.modes).length c16],.box b2 293 [sm p3,su a1.store.floor],.box b6 296 [su a1.part.clock,sm p7],.tok p74 150 3 y73.length c75,.tok p13 150 3 (a1.owned).length c14,.tok p15 56 1 (a1.modes).length c16,mx p3 m4 c5,mx p7 m8 c9,mx p10 m11 c12] [Map.mp kStr false (tSl f_api_Ver.ty) p3 m4 c5 a1.store.chains,Map.mp (kInt .u64) false (fInt .u64).ty p7 m8 c9 a1.part.open_,Map.mp (kInt .u64) false (tSl f_api_Ver.ty) p10 m11 c12 a1.writes,Ro.mp f_span_Shard.ty p13 c14 a1.owned,Ro.mp (fInt .u64).ty p15 c16 a1.modes,Ro.mp f_span_Shard.ty p74 c75 y73]∧M.node_Node_leave_k4 N (M.node_Node_leave_L1 N fuel1) a1 a18 a19 y73 y76 x83 y102=some r) ?_ ?_))))))
 refine qr fun _ h107=>(wp 2 [0,1,2,6,8,9,14,15,16,25,26] hF fun a hF=>wc (wld hF hS 1 1 0 fun a hF=>bd H fun x108 hx108 H=>wc (wo_callP hF hS kr kr (C_node_before N hS.fresh a18 x83.Hi ((hS.pick [] kr).ro) hx108) ?_)))
 rintro _ κ w a ⟨rfl,hR,hN⟩ hF hS hO
 refine h107 _ _ (bc hF H (fun hb H=>?_) fun hb H=>?_)
 refine rl (wp 2 [0,1,2,6,8,9,14,15,16,29,30] hF fun a hF=>wc (wst hF hS 0 1 1 [sg a18] (sgN 1 sgNil) fun a w hF hS=>nl ?_))
 exact ⟨_,a18,hF.kp [0,1,2,6,8,9,14,15,16],hS.sp (rg 11) (rg 6),H⟩
 refine sk ?_
 exact ⟨_,x83.Hi,hF.kp [0,1,2,6,8,9,14,15,16],hS.sp (rg 11) (rg 6),H⟩
 rintro a w ⟨κ,y102,hF,hS,H⟩
 unfold M.node_Node_leave_k4 at H
 refine rl (wl_pure (L':=[(0,pt b17 0),(1,.string (a18)),(2,.string (a19)),(8,pt b86 0),(9,pt b101 0),(14,.slice p13 (a1.owned).length c14),(15,vi ((a1.owned).length:Int)),(16,vi y76),(31,.slice p74 y73.length c75)]) 1 [0,1,2,8,9,14,15,16,31] hF kr fun a hF=>wc (wls hF hS 0 0 3 fun a hF=>wc (wo_buildN (t:=f_span_Shard) (z := .agg (flat [sg ByteArray.empty,sg ByteArray.empty,si 0]).toArray) (l:=[(T_span_Shard.mk x83.Lo y102 x83.Node)]) (vs:=[(0,.agg (flat [sg x83.Lo,sg y102,si x83.Node]).toArray)]) (cells := #[.string (x83.Lo),.string (y102),vi x83.Node]) (E:=150) hF hS kr rfl kr kr rfl kr kr kr kr kr fun p103 κ a w hF hS=>?_)))
 refine bd H fun x104 hx104 H=>wc (wo_append (ty:=f_span_Shard.ty) hF hS kr 6 6 0 rfl rfl rfl kr kr rfl rfl rfl hx104 kr (i:=Tryz.t150) (z := .agg (flat [sg ByteArray.empty,sg ByteArray.empty,si 0]).toArray) kr kr kr fun p105 c106 κ a w hF hS=>wp 1 [0,1,2,6,8,14,15,16] hF fun a hF=>nl ?_)
 exact ⟨_,x104,p105,c106,hF.kp [0,1,2,6,8,14,15,16],hS.sp (ra 2 10) [2,3,4,5,6,0],H⟩
 refine sk ?_
 exact ⟨_,y73,p74,c75,hF.kp [0,1,2,6,8,14,15,16],hS.sp (rg 10) (rg 6),H⟩
 rintro a w ⟨κ,y87,p88,c89,hF,hS,H⟩
 unfold M.node_Node_leave_k3 at H
 refine qr fun _ h90=>(wp 2 [0,1,2,6,8,14,15,16,35,36] hF fun a hF=>wc (wld hF hS 0 1 0 fun a hF=>bd H fun x91 hx91 H=>wc (wo_callP hF hS kr kr (C_node_before N hS.fresh a19 x83.Hi ((hS.pick [] kr).ro) hx91) ?_)))
 rintro _ κ w a ⟨rfl,hR,hN⟩ hF hS hO
 refine h90 _ _ (bc hF H (fun hb H=>?_) fun hb H=>?_)
 refine qr fun _ h92=>(wc (wls hF hS 0 0 3 fun a hF=>wc (wal hF hS [sg ByteArray.empty,sg ByteArray.empty,si 0] (sgN 3 sgNil) fun b93 a w hF hS=>wc (wst hF hS 0 0 3 [sg x83.Lo,sg x83.Hi,si x83.Node] (sgN 3 sgNil) fun a w hF hS=>(h92 _ _ (qr fun _ h94=>(wp 1 [0,1,2,6,10,14,15,16,40] hF fun a hF=>wc (wld hF hS 1 0 0 fun a hF=>wp 3 [0,1,2,6,10,14,15,16,43,44] hF fun a hF=>wc (wst hF hS 0 0 1 [sg (if (!sLt x83.Lo a19)=true then x83.Lo else a19)] (sgN 1 sgNil) fun a w hF hS=>(h94 _ _ (rl (wl_pure (L':=[(0,pt b17 0),(1,.string (a18)),(2,.string (a19)),(10,pt b93 0),(14,.slice p13 (a1.owned).length c14),(15,vi ((a1.owned).length:Int)),(16,vi y76),(45,.slice p88 y87.length c89)]) 1 [0,1,2,10,14,15,16,45] hF kr fun a hF=>?_))))))))))))
 refine wc (wls hF hS 0 0 3 fun a hF=>wc (wo_buildN (t:=f_span_Shard) (z := .agg (flat [sg ByteArray.empty,sg ByteArray.empty,si 0]).toArray) (l:=[(T_span_Shard.mk (if (!sLt x83.Lo a19)=true then x83.Lo else a19) x83.Hi x83.Node)]) (vs:=[(0,.agg (flat [sg (if (!sLt x83.Lo a19)=true then x83.Lo else a19),sg x83.Hi,si x83.Node]).toArray)]) (cells := #[.string ((if (!sLt x83.Lo a19)=true then x83.Lo else a19)),.string (x83.Hi),vi x83.Node]) (E:=150) hF hS kr rfl kr kr rfl kr kr kr kr kr fun p95 κ a w hF hS=>bd H fun x96 hx96 H=>wc (wo_append (ty:=f_span_Shard.ty) hF hS kr 6 6 0 rfl rfl rfl kr kr rfl rfl rfl hx96 kr (i:=Tryz.t150) (z := .agg (flat [sg ByteArray.empty,sg ByteArray.empty,si 0]).toArray) kr kr kr fun p97 c98 κ a w hF hS=>?_)))
 refine wp 1 [0,1,2,6,14,15,16] hF fun a hF=>nl ?_
 exact ⟨_,x96,p97,c98,hF.kp [0,1,2,6,14,15,16],hS.sp (ra 3 9) [2,3,4,5,6,0],H⟩
 refine sk ?_
 exact ⟨_,y87,p88,c89,hF.kp [0,1,2,6,14,15,16],hS.sp (ra 1 9) (rg 6),H⟩
 rintro a w ⟨κ,y79,p80,c81,hF,hS,H⟩
 unfold M.node_Node_leave_k2 at H
 refine rl (wp 2 [0,1,2,6,14,15,16] hF fun a hF=>nl ?_)
 exact ⟨fuel1,Nat.lt_succ_self _,_,y79,p80,c81,IntKind.i64.wrap (y76+1),hF.kp [0,1,2,6,14,15,16],hS.sp (rg 9) (rg 6),H⟩
 refine xt (h21 _ _ (rl (wp 4 [51,53] hF fun a hF=>wc (wst hF hS 0 4 1 [sl p74 y73.length c75] (sgN 1 sgNil) fun a w hF hS=>nl ?_))))
 cases H
 exact ret_done hF hS (res0 Tryz.results95) ⟨b2,p3,m4,c5,b6,p7,m8,c9,p10,m11,c12,p74,c75,p15,c16,rfl,hS.sp [0,3,5,1,6,2,7,8] [0,1,2,5,4]⟩
theorem C_node_Node_own (N:Nat){Ms:List Nat}{κ0:Gh}{w0:World}(a1:T_node_Node)(a18:ByteArray)(a19:ByteArray)(b2:Nat)(p3:Option Nat)(m4:Array MapEntry)(c5:Nat)(b6:Nat)(p7:Option Nat)(m8:Array MapEntry)(c9:Nat)(p10:Option Nat)(m11:Array MapEntry)(c12:Nat)(p13:Option Addr)(c14:Nat)(p15:Option Addr)(c16:Nat)(b17:Nat)(hB:SB Ms κ0 w0 [.box b17 193 [si a1.dc,(1,[pt b2 0]),(1,[pt b6 0]),sm p10,sl p13 (a1.owned).length c14,sl p15 (a1.modes).length c16],.tok p13 150 3 (a1.owned).length c14,.tok p15 56 1 (a1.modes).length c16,.box b2 293 [sm p3,su a1.store.floor],mx p3 m4 c5,.box b6 296 [su a1.part.clock,sm p7],mx p7 m8 c9,mx p10 m11 c12] [Map.mp kStr false (tSl f_api_Ver.ty) p3 m4 c5 a1.store.chains,Map.mp (kInt .u64) false (fInt .u64).ty p7 m8 c9 a1.part.open_,Map.mp (kInt .u64) false (tSl f_api_Ver.ty) p10 m11 c12 a1.writes,Ro.mp f_span_Shard.ty p13 c14 a1.owned,Ro.mp (fInt .u64).ty p15 c16 a1.modes]){r:(T_node_Node)}(H:M.node_Node_own N a1 a18 a19=some r) :
    Calls Tryz.prog 102 #[pt b17 0,.string (a18),.string (a19)] w0 (Post Ms κ0 w0 fun v κ w => ∃(b118:Nat) (p119:Option Nat) (m120:Array MapEntry) (c121 b122:Nat) (p123:Option Nat) (m124:Array MapEntry) (c125:Nat) (p126:Option Nat) (m127:Array MapEntry) (c128:Nat) (p129:Option Addr) (c130:Nat) (p131:Option Addr) (c132:Nat),v = .tuple #[]∧SS Ms κ0 w0 κ w [.box b17 193 [si r.dc,(1,[pt b118 0]),(1,[pt b122 0]),sm p126,sl p129 (r.owned).length c130,sl p131 (r.modes).length c132],.tok p129 150 3 (r.owned).length c130,.tok p131 56 1 (r.modes).length c132,.box b118 293 [sm p119,su r.store.floor],mx p119 m120 c121,.box b122 296 [su r.part.clock,sm p123],mx p123 m124 c125,mx p126 m127 c128] [Map.mp kStr false (tSl f_api_Ver.ty) p119 m120 c121 r.store.chains,Map.mp (kInt .u64) false (fInt .u64).ty p123 m124 c125 r.part.open_,Map.mp (kInt .u64) false (tSl f_api_Ver.ty) p126 m127 c128 r.writes,Ro.mp f_span_Shard.ty p129 c130 r.owned,Ro.mp (fInt .u64).ty p131 c132 r.modes]):=by
 have hS:=hB.hS
 have hfr:=hS.fresh
 refine en Tryz.func102 rfl Tryz.ntmps102 fun a hF=>?_
 unfold M.node_Node_own at H
 refine qr fun _ h20=>(wp 3 [0,1,2,8,9,10] hF fun a hF=>bd H fun x21 hx21 H=>wc (wcS 8 (rg 8) hF hS (fun hS=>C_node_Node_leave N (T_node_Node.mk a1.dc (T_store_Store.mk a1.store.chains a1.store.floor) (T_part_Part.mk a1.part.clock a1.part.open_) a1.writes a1.owned a1.modes) a18 a19 b2 p3 m4 c5 b6 p7 m8 c9 p10 m11 c12 p13 c14 p15 c16 b17 (hS.sbK (rg 5)) hx21) ?_))
 rintro _ κ w a ⟨b22,p23,m24,c25,b26,p27,m28,c29,p30,m31,c32,p33,c34,p35,c36,rfl,h2⟩ hF hB
 have hS:=hB _ _ h2
 refine h20 _ _ (qs fun _ h37=>qr fun _ h38=>(bd H fun v40 hv40 H=>wl_join (fun a w => ∃κ:Gh,Fr (63) [] [(0,pt b17 0),(1,.string (a18)),(2,.string (a19)),(18,vb v40)] a∧SS Ms κ0 w0 κ w [.box b17 193 [si x21.dc,(1,[pt b22 0]),(1,[pt b26 0]),sm p30,sl p33 (x21.owned).length c34,sl p35 (x21.modes).length c36],.box b22 293 [sm p23,su x21.store.floor],.box b26 296 [su x21.part.clock,sm p27],.tok p33 150 3 (x21.owned).length c34,.tok p35 56 1 (x21.modes).length c36,mx p23 m24 c25,mx p27 m28 c29,mx p30 m31 c32] [Map.mp kStr false (tSl f_api_Ver.ty) p23 m24 c25 x21.store.chains,Map.mp (kInt .u64) false (fInt .u64).ty p27 m28 c29 x21.part.open_,Map.mp (kInt .u64) false (tSl f_api_Ver.ty) p30 m31 c32 x21.writes,Ro.mp f_span_Shard.ty p33 c34 x21.owned,Ro.mp (fInt .u64).ty p35 c36 x21.modes]∧True) ?_ ?_))
 refine wp 3 [0,1,2,14] hF fun a hF=>bs hv40 (fun hb hv40=>?_) fun hb hv40=>?_
 have hF:=hF.bv 14 hb
 refine wp 4 [0,1,2,18] hF fun a hF=>nl ?_
 cases hv40
 exact ⟨_,hF.kp [0,1,2,18],hS.sp [0,3,5,1,2,4,6,7] (rg 5),trivial⟩
 have hF:=hF.bv 14 hb
 refine wp 4 [0,1,2,18] hF fun a hF=>nl ?_
 cases hv40
 exact ⟨_,hF.kp [0,1,2,18],hS.sp [0,3,5,1,2,4,6,7] (rg 5),trivial⟩
 rintro a w ⟨κ,hF,hS,-⟩
 refine h38 _ _ (bc hF H (fun hb H=>?_) fun hb H=>?_)
 refine rt ?_
 cases H
 exact ret_done hF hS (res0 Tryz.results102) ⟨b22,p23,m24,c25,b26,p27,m28,c29,p30,m31,c32,p33,c34,p35,c36,rfl,hS.sp [0,3,4,1,5,2,6,7] (rg 5)⟩
 refine sk (h37 _ _ (qr fun _ h41=>(wp 1 [0,1,2,6] hF fun a hF=>(h41 _ _ (qs fun _ h42=>bk (loop_fuel (n:=N) (fun n a w => ∃(κ:Gh) (y93:Int),Fr (63) [] [(0,pt b17 0),(1,.string (a18)),(2,.string (a19)),(6,vi y93)] a∧SS Ms κ0 w0 κ w [.box b17 193 [si x21.dc,(1,[pt b22 0]),(1,[pt b26 0]),sm p30,sl p33 (x21.owned).length c34,sl p35 (x21.modes).length c36],.box b22 293 [sm p23,su x21.store.floor],.box b26 296 [su x21.part.clock,sm p27],.tok p33 150 3 (x21.owned).length c34,.tok p35 56 1 (x21.modes).length c36,mx p23 m24 c25,mx p27 m28 c29,mx p30 m31 c32] [Map.mp kStr false (tSl f_api_Ver.ty) p23 m24 c25 x21.store.chains,Map.mp (kInt .u64) false (fInt .u64).ty p27 m28 c29 x21.part.open_,Map.mp (kInt .u64) false (tSl f_api_Ver.ty) p30 m31 c32 x21.writes,Ro.mp f_span_Shard.ty p33 c34 x21.owned,Ro.mp (fInt .u64).ty p35 c36 x21.modes]∧M.node_Node_own_L1 N n a18 a19 x21 y93=some r) ?_ ?_))))))
 exact ⟨_,0,hF.kp [0,1,2,6],hS.sp (rg 8) (rg 5),H⟩
 rintro n a w ⟨κ,y93,hF,hS,H⟩
 rcases n with _|fuel1
 simp [M.node_Node_own_L1] at H
 simp only [M.node_Node_own_L1] at H
 refine qs fun _ h94=>qr fun _ h95=>(bd H fun v97 hv97 H=>wl_join (fun a w => ∃κ:Gh,Fr (63) [] [(0,pt b17 0),(1,.string (a18)),(2,.string (a19)),(6,vi y93),(37,vb v97)] a∧SS Ms κ0 w0 κ w [.box b17 193 [si x21.dc,(1,[pt b22 0]),(1,[pt b26 0]),sm p30,sl p33 (x21.owned).length c34,sl p35 (x21.modes).length c36],.box b22 293 [sm p23,su x21.store.floor],.box b26 296 [su x21.part.clock,sm p27],.tok p33 150 3 (x21.owned).length c34,.tok p35 56 1 (x21.modes).length c36,mx p23 m24 c25,mx p27 m28 c29,mx p30 m31 c32] [Map.mp kStr false (tSl f_api_Ver.ty) p23 m24 c25 x21.store.chains,Map.mp (kInt .u64) false (fInt .u64).ty p27 m28 c29 x21.part.open_,Map.mp (kInt .u64) false (tSl f_api_Ver.ty) p30 m31 c32 x21.writes,Ro.mp f_span_Shard.ty p33 c34 x21.owned,Ro.mp (fInt .u64).ty p35 c36 x21.modes]∧True) ?_ ?_)
 refine wp 4 [0,1,2,6,19,22] hF fun a hF=>wc (wld hF hS 0 4 0 fun a hF=>wp 3 [0,1,2,6,26] hF fun a hF=>bs hv97 (fun hb hv97=>?_) fun hb hv97=>?_)
 have hF:=hF.bv 26 hb
 refine wp 3 [0,1,2,6,26,29] hF fun a hF=>wcg hF (wld hF hS 0 4 0 fun a hF=>wl_pure (L':=[(0,pt b17 0),(1,.string (a18)),(2,.string (a19)),(6,vi y93),(26,vb true),(30,.slice p33 (x21.owned).length c34),(31,vi y93)]) 1 [0,1,2,6,26,30,31] hF kr fun a hF=>bd hv97 fun x98 hx98 hv97=>wcg hF (wo_index hF hS kr 3 (E:=150) (sz:=3) rfl rfl rfl kr rfl hx98 kr kr fun b99 f100 a hpx98 hF=>wl_pure (L':=[(0,pt b17 0),(1,.string (a18)),(2,.string (a19)),(6,vi y93),(26,vb true),(33,.pointer (some ⟨b99,(f100+Int.toNat y93*3),none⟩))]) 1 [0,1,2,6,26,33] hF kr fun a hF=>?_))
 refine wcg hF (wo_loadRo (t:=f_span_Shard) hF hS kr 3 0 (v := .string (x98.Lo)) rfl rfl hpx98 rfl hx98 kr kr kr fun a hF=>wp 3 [0,1,2,6,37] hF fun a hF=>nl ?_)
 cases hv97
 exact ⟨_,hF.kp [0,1,2,6,37],hS.sp (rg 8) (rg 5),trivial⟩
 have hF:=hF.bv 26 hb
 refine wp 11 [0,1,2,6,37] hF fun a hF=>nl ?_
 cases hv97
 exact ⟨_,hF.kp [0,1,2,6,37],hS.sp (rg 8) (rg 5),trivial⟩
 rintro a w ⟨κ,hF,hS,-⟩
 refine h95 _ _ (bc hF H (fun hb H=>?_) fun hb H=>?_)
 refine sk (h94 _ _ (bk (rl (wp 3 [0,1,2,6] hF fun a hF=>nl ?_))))
 exact ⟨fuel1,Nat.lt_succ_self _,_,IntKind.i64.wrap (y93+1),hF.kp [0,1,2,6],hS.sp (rg 8) (rg 5),H⟩
 refine xt (h42 _ _ (qr fun _ h101=>(wp 3 [0,1,2,6,42] hF fun a hF=>wc (wld hF hS 0 4 0 fun a hF=>wl_pure (L':=[(0,pt b17 0),(1,.string (a18)),(2,.string (a19)),(6,vi y93),(43,.slice p33 (x21.owned).length c34),(44,vi y93)]) 1 [0,1,2,6,43,44] hF kr fun a hF=>bd H fun x102 hx102 H=>wc (wo_slice hF hS kr 3 (E:=150) (lo:=0) (hi:=y93) rfl rfl rfl kr rfl ⟨_,rfl⟩ hx102 kr kr fun p103 c104 a hF hS=>?_)))))
 have hS:=hS.add (m:=Ro.mp f_span_Shard.ty none 0 ([]:List T_span_Shard)) (Ro.nil f_span_Shard.ty _ _)
 have hS:=hS.addNil 150 3
 refine bd H fun x105 hx105 H=>wc (wo_append (ty:=f_span_Shard.ty) hF hS kr 0 0 1 rfl rfl rfl kr kr rfl rfl rfl hx105 kr (i:=Tryz.t150) (z := .agg (flat [sg ByteArray.empty,sg ByteArray.empty,si 0]).toArray) kr kr kr fun p106 c107 κ a w hF hS=>wl_pure (L':=[(0,pt b17 0),(6,vi y93),(46,.slice p106 x105.length c107),(49,.agg (flat [sg a18,sg a19,si 0]).toArray)]) 3 [0,6,46,49] hF kr fun a hF=>wc (wo_buildN (t:=f_span_Shard) (z := .agg (flat [sg ByteArray.empty,sg ByteArray.empty,si 0]).toArray) (l:=[(T_span_Shard.mk a18 a19 0)]) (vs:=[(0,.agg (flat [sg a18,sg a19,si 0]).toArray)]) (cells := #[.string (a18),.string (a19),vi 0]) (E:=150) hF hS kr rfl kr kr rfl kr kr kr kr kr fun p108 κ a w hF hS=>?_))
 refine bd H fun x109 hx109 H=>wc (wo_append (ty:=f_span_Shard.ty) hF hS kr 1 1 0 rfl rfl rfl kr kr rfl rfl rfl hx109 kr (i:=Tryz.t150) (z := .agg (flat [sg ByteArray.empty,sg ByteArray.empty,si 0]).toArray) kr kr kr fun p110 c111 κ a w hF hS=>wp 1 [0,6,7] hF fun a hF=>(h101 _ _ (rl (wp 5 [6,52,53,56] hF fun a hF=>wc (wld hF hS 2 4 0 fun a hF=>wl_pure (L':=[(52,pt b17 0),(53,.slice p110 x109.length c111),(57,.slice p33 (x21.owned).length c34),(58,vi y93)]) 1 [52,53,57,58] hF kr fun a hF=>bd H fun x112 hx112 H=>wc (wo_sliceTok hF hS kr 8 5 rfl rfl rfl rfl rfl rfl hx112 kr kr fun p113 c114 a hF hS=>?_))))))
 refine bd H fun x115 hx115 H=>wc (wo_append (ty:=f_span_Shard.ty) hF hS kr 1 1 0 rfl rfl rfl kr kr rfl rfl rfl hx115 kr (i:=Tryz.t150) (z := .agg (flat [sg ByteArray.empty,sg ByteArray.empty,si 0]).toArray) kr kr kr fun p116 c117 κ a w hF hS=>wp 2 [60,62] hF fun a hF=>wc (wst hF hS 2 4 1 [sl p116 x115.length c117] (sgN 1 sgNil) fun a w hF hS=>nl ?_))
 cases H
 exact ret_done hF hS (res0 Tryz.results102) ⟨b22,p23,m24,c25,b26,p27,m28,c29,p30,m31,c32,p116,c117,p35,c36,rfl,hS.sp [2,1,6,3,7,4,8,9] [7,8,9,0,11]⟩
end Go.Cf
