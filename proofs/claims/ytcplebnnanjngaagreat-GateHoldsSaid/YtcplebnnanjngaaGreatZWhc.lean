/- The walks: each function returns what its model says. Printed by a program of ours. -/
import Derived.Test.YtcplebnnanjngaaGreatZM1
import Derived.Test.YtcplebnnanjngaaGreatZWhp
namespace Go.Cf
open Go Go.Proofs
set_option linter.unusedVariables false
set_option maxRecDepth 20000 in
set_option maxHeartbeats 8000000 in
theorem C_coord_New (N:Nat){Ms:List Nat}{κ0:Gh}{w0:World}(hB:SB Ms κ0 w0 [] []){r:(T_coord_Table)}(H:M.coord_New N=some r) :
    Calls Tryz.prog 49 #[] w0 (Post Ms κ0 w0 fun v κ w => ∃(b5:Nat) (p6:Option Nat) (m7:Array MapEntry) (c8:Nat) (p9:Mp Int (Option Nat)) (cs10:List Nat),v=pt b5 0∧SS Ms κ0 w0 κ w [.box b5 172 [(1,[.map p6])],.ext (objX p6 (.map m7 c8)),.ext (mpX o_coord_entry p9 cs10 r.open_ none)] [Map.mp (kInt .u64) false fPtr.ty p6 m7 c8 p9]):=by
 have hS:=hB.hS
 have hfr:=hS.fresh
 refine enter (N:=(4)) (L:=[]) Tryz.func49 rfl Tryz.ntmps49 (show 0≤(4) by decide) rfl fun a hF=>?_
 unfold M.coord_New at H
 refine wpIn_seq_k fun K1 hK1=>?_
 refine wpIn_region_lit ?_
 refine wl_pure (L':=[]) 1 [] hF (by kernel_rfl) fun a hF=>?_
 refine wpListIn_nil ?_
 refine hK1 _ _ ?_
 refine wpIn_seq_k fun K2 hK2=>?_
 refine wpIn_region_lit ?_
 refine wc (wo_makeMap hF hS (by kernel_rfl) (kInt .u64) false fPtr.ty rfl fun b3 a w hF hS=>?_)
 have hS:=hS.addMp (K:=Int) o_coord_entry
 refine wp 1 [2] hF fun a hF=>?_
 refine wc (wbx hF hS [(1,[.map (some b3)])] (sgN 1 sgNil) fun b4 a w hF hS=>?_)
 refine wp 1 [0] hF fun a hF=>?_
 refine wpListIn_nil ?_
 refine hK2 _ _ ?_
 refine wpIn_ret ?_
 cases H
 exact ret_done hF hS (res1 Tryz.results49 (rvt hF)) ⟨b4,(some b3),#[],0,(some []),[],rfl,hS.sp [0,2,1] [0]⟩
set_option maxRecDepth 20000 in
set_option maxHeartbeats 8000000 in
theorem C_coord_Shares (N:Nat){κ0:Gh}{w0:World}(hfr:Fresh κ0 w0)(a1:T_api_Map)(a6:(List T_api_Ver))(p2:Option Addr)(c3:Nat)(p4:Option Addr)(c5:Nat)(p7:Option Addr)(c8:Nat)(hR : ∀m∈([Ro.mp fStr.ty p2 c3 a1.Cuts,Ro.mp (fInt .i64).ty p4 c5 a1.Nodes,Ro.mp f_api_Ver.ty p7 c8 a6]:List MP),m.p κ0 w0){r:((List T_coord_Share))}(H:M.coord_Shares N a1 a6=some r) :
    Calls Tryz.prog 87 #[.agg (flat [sl p2 (a1.Cuts).length c3,sl p4 (a1.Nodes).length c5]).toArray,.slice p7 (a6).length c8] w0 (Post [] κ0 w0 fun v κ w => ∃(p154:Option Addr) (c155:Nat),v = .slice p154 (r).length c155∧(∀m∈([Ro.mp t_coord_Share p154 c155 r]:List MP),m.p κ w)∧NewC w0 κ w [.tok p154 141 2 (r).length c155]):=by
 have hS:=SS.start hfr hR
 refine enter (N:=(44)) (L:=[(0,.agg (flat [sl p2 (a1.Cuts).length c3,sl p4 (a1.Nodes).length c5]).toArray),(1,.slice p7 (a6).length c8)]) Tryz.func87 rfl Tryz.ntmps87 (show 2≤(44) by decide) rfl fun a hF=>?_
 unfold M.coord_Shares at H
 refine wpIn_seq_k fun K9 hK9=>?_
 refine wpIn_region_lit ?_
 refine wc (wbx hF hS [sl p2 (a1.Cuts).length c3,sl p4 (a1.Nodes).length c5] (sgN 2 sgNil) fun b10 a w hF hS=>?_)
 refine wp 1 [1,2] hF fun a hF=>?_
 refine wpListIn_nil ?_
 refine hK9 _ _ ?_
 refine wpIn_seq_k fun K11 hK11=>?_
 refine wpIn_region_lit ?_
 refine wp 1 [1,2,5] hF fun a hF=>?_
 refine wpListIn_nil ?_
 refine hK11 _ _ ?_
 refine wpIn_seq_k fun K12 hK12=>?_
 refine wpIn_seq_k fun K13 hK13=>?_
 refine wpIn_region_lit ?_
 refine wp 1 [1,2,5,10] hF fun a hF=>?_
 refine wpListIn_nil ?_
 refine hK13 _ _ ?_
 refine wpIn_block ?_
 refine loop_fuel (n:=N) (fun n a w => ∃(κ:Gh) (y64:List T_coord_Share) (p65:Option Addr) (c66:Nat) (y67:Int),Fr (44) [] [(1,.slice p7 (a6).length c8),(2,pt b10 0),(5,.slice p65 (y64).length c66),(10,vi y67)] a∧SS [] κ0 w0 κ w [.box b10 68 [sl p2 (a1.Cuts).length c3,sl p4 (a1.Nodes).length c5],.tok p65 141 2 (y64).length c66] [Ro.mp f_api_Ver.ty p7 c8 a6,Ro.mp t_coord_Share p65 c66 y64,Ro.mp fStr.ty p2 c3 a1.Cuts,Ro.mp (fInt .i64).ty p4 c5 a1.Nodes]∧M.coord_Shares_L1 N n a1 a6 y64 y67=some r) ?_ ?_
 have hS:=hS.add (m:=Ro.mp t_coord_Share none 0 ([]:List T_coord_Share)) (Ro.nil t_coord_Share _ _)
 have hS:=hS.addNil 141 2
 exact ⟨_,([]:List T_coord_Share),none,0,0,hF.kp [1,2,5,10],hS.sp [1,0] [3,0,1,2],H⟩
 rintro n a w ⟨κ,y64,p65,c66,y67,hF,hS,H⟩
 rcases n with _|fuel1
 simp [M.coord_Shares_L1] at H
 simp only [M.coord_Shares_L1] at H
 refine wpIn_seq_k fun K68 hK68=>?_
 refine wpIn_region_lit ?_
 refine wp 1 [1,2,5,10,11] hF fun a hF=>?_
 refine wpListIn_nil ?_
 refine hK68 _ _ ?_
 refine wpIn_seq_k fun K69 hK69=>?_
 refine bif_split H (fun hb H=>?_) (fun hb H=>?_)
 refine cond_t hF (by kernel_rfl) hb ?_
 refine wpIn_skip ?_
 refine hK69 _ _ ?_
 refine seq_join (fun a w => ∃(κ:Gh) (y70:List T_coord_Share) (p71:Option Addr) (c72:Nat),Fr (44) [] [(1,.slice p7 (a6).length c8),(2,pt b10 0),(5,.slice p71 (y70).length c72),(10,vi y67)] a∧SS [] κ0 w0 κ w [.box b10 68 [sl p2 (a1.Cuts).length c3,sl p4 (a1.Nodes).length c5],.tok p71 141 2 (y70).length c72] [Ro.mp f_api_Ver.ty p7 c8 a6,Ro.mp t_coord_Share p71 c72 y70,Ro.mp fStr.ty p2 c3 a1.Cuts,Ro.mp (fInt .i64).ty p4 c5 a1.Nodes]∧M.coord_Shares_k2 N (M.coord_Shares_L1 N fuel1) a1 a6 y67 y70=some r) ?_ ?_
 refine wpIn_block ?_
 refine wpIn_seq_k fun K73 hK73=>?_
 refine wpIn_region_lit ?_
 refine wp 2 [1,2,5,6,10] hF fun a hF=>?_
 refine wpListIn_nil ?_
 refine hK73 _ _ ?_
 refine wpIn_seq_k fun K74 hK74=>?_
 refine wpIn_region_lit ?_
 refine wp 2 [1,2,5,6,10,14] hF fun a hF=>?_
 refine wc (wal hF hS [si 0,sl none 0 0] (sgN 2 sgNil) fun b75 a w hF hS=>?_)
 refine wc (wst hF hS 0 0 2 [si y67,sl none 0 0] (sgN 2 sgNil) fun a w hF hS=>?_)
 refine wpListIn_nil ?_
 refine hK74 _ _ ?_
 refine wpIn_seq_k fun K76 hK76=>?_
 refine wpIn_seq_k fun K77 hK77=>?_
 refine wpIn_region_lit ?_
 refine wp 3 [1,2,5,6,7,10,15,16,17] hF fun a hF=>?_
 refine wpListIn_nil ?_
 refine hK77 _ _ ?_
 refine wpIn_block ?_
 refine loop_fuel (n:=N) (fun n a w => ∃(κ:Gh) (y128:List T_api_Ver) (p129:Option Addr) (c130:Nat) (y131:Int),Fr (44) [] [(1,.slice p7 (a6).length c8),(2,pt b10 0),(5,.slice p65 (y64).length c66),(6,vi y67),(7,pt b75 0),(10,vi y67),(15,.slice p7 (a6).length c8),(16,vi ((a6).length:Int)),(17,vi y131)] a∧SS [] κ0 w0 κ w [.box b75 141 [si y67,sl p129 (y128).length c130],.box b10 68 [sl p2 (a1.Cuts).length c3,sl p4 (a1.Nodes).length c5],.tok p129 48 6 (y128).length c130,.tok p65 141 2 (y64).length c66] [Ro.mp f_api_Ver.ty p7 c8 a6,Ro.mp t_coord_Share p65 c66 y64,Ro.mp f_api_Ver.ty p129 c130 y128,Ro.mp fStr.ty p2 c3 a1.Cuts,Ro.mp (fInt .i64).ty p4 c5 a1.Nodes]∧M.coord_Shares_L3 N (M.coord_Shares_L1 N fuel1) n a1 a6 y64 y67 y128 y131=some r) ?_ ?_
 have hS:=hS.add (m:=Ro.mp f_api_Ver.ty none 0 ([]:List T_api_Ver)) (Ro.nil f_api_Ver.ty _ _)
 have hS:=hS.addNil 48 6
 exact ⟨_,([]:List T_api_Ver),none,0,0,hF.kp [1,2,5,6,7,10,15,16,17],hS.sp [1,2,0,3] [1,2,0,3,4],H⟩
 rintro n a w ⟨κ,y128,p129,c130,y131,hF,hS,H⟩
 rcases n with _|fuel3
 simp [M.coord_Shares_L3] at H
 simp only [M.coord_Shares_L3] at H
 refine wpIn_seq_k fun K132 hK132=>?_
 refine wpIn_region_lit ?_
 refine wl_pure (L':=[(1,.slice p7 (a6).length c8),(2,pt b10 0),(5,.slice p65 (y64).length c66),(6,vi y67),(7,pt b75 0),(10,vi y67),(15,.slice p7 (a6).length c8),(16,vi ((a6).length:Int)),(17,vi y131),(18,vb (decide (y131<((a6).length:Int))))]) 1 [1,2,5,6,7,10,15,16,17,18] hF (by kernel_rfl) fun a hF=>?_
 refine wpListIn_nil ?_
 refine hK132 _ _ ?_
 refine wpIn_seq_k fun K133 hK133=>?_
 refine bif_split H (fun hb H=>?_) (fun hb H=>?_)
 refine cond_t hF (by kernel_rfl) hb ?_
 refine wpIn_skip ?_
 refine hK133 _ _ ?_
 refine seq_join (fun a w => ∃(κ:Gh) (y134:List T_api_Ver) (p135:Option Addr) (c136:Nat),Fr (44) [] [(1,.slice p7 (a6).length c8),(2,pt b10 0),(5,.slice p65 (y64).length c66),(6,vi y67),(7,pt b75 0),(10,vi y67),(15,.slice p7 (a6).length c8),(16,vi ((a6).length:Int)),(17,vi y131)] a∧SS [] κ0 w0 κ w [.box b75 141 [si y67,sl p135 (y134).length c136],.box b10 68 [sl p2 (a1.Cuts).length c3,sl p4 (a1.Nodes).length c5],.tok p135 48 6 (y134).length c136,.tok p65 141 2 (y64).length c66] [Ro.mp f_api_Ver.ty p7 c8 a6,Ro.mp t_coord_Share p65 c66 y64,Ro.mp f_api_Ver.ty p135 c136 y134,Ro.mp fStr.ty p2 c3 a1.Cuts,Ro.mp (fInt .i64).ty p4 c5 a1.Nodes]∧M.coord_Shares_k4 N (M.coord_Shares_L3 N (M.coord_Shares_L1 N fuel1) fuel3) a1 a6 y64 y67 y131 y134=some r) ?_ ?_
 refine wpIn_block ?_
 refine wpIn_seq_k fun K137 hK137=>?_
 refine wpIn_region_lit ?_
 refine bind_split H (fun x138 hx138 H=>?_)
 refine wc (wo_index hF hS (by kernel_rfl) 0 (E:=48) (sz:=6) rfl rfl rfl (by kernel_rfl) rfl hx138 (by kernel_rfl) (by kernel_rfl) fun b139 f140 a hpx138 hF=>?_)
 refine wc (wo_loadRoAgg (t:=f_api_Ver) hF hS (by kernel_rfl) 0 rfl rfl hpx138 rfl hx138 (by kernel_rfl) (by kernel_rfl) (by kernel_rfl) fun a hF=>?_)
 refine wc (wal hF hS [sg ByteArray.empty,sg ByteArray.empty,sb false,su 0,si 0,si 0] (sgN 6 sgNil) fun b141 a w hF hS=>?_)
 refine wc (wst hF hS 0 0 6 [sg x138.Key,sg x138.Val,sb x138.Gone,su x138.TS,si x138.DC,si x138.Tx] (sgN 6 sgNil) fun a w hF hS=>?_)
 refine wpListIn_nil ?_
 refine hK137 _ _ ?_
 refine wpIn_seq_k fun K142 hK142=>?_
 refine wpIn_region_lit ?_
 refine wc (wls hF hS 2 0 2 fun a hF=>?_)
 refine wp 1 [1,2,5,6,7,9,10,15,16,17,21,22] hF fun a hF=>?_
 refine wc (wld hF hS 0 0 0 fun a hF=>?_)
 refine bind_split H (fun x143 hx143 H=>?_)
 refine wc (wo_callP hF hS (by kernel_rfl) (by kernel_rfl) (C_span_Owner N hS.fresh (T_api_Map.mk a1.Cuts a1.Nodes) x138.Key p2 c3 p4 c5 ((hS.pick [3,4] (by kernel_rfl)).ro) hx143) ?_)
 rintro _ κ w a ⟨rfl,hR,hN⟩ hF hS hO
 refine wp 2 [1,2,5,6,7,9,10,15,16,17,26] hF fun a hF=>?_
 refine wpListIn_nil ?_
 refine hK142 _ _ ?_
 refine bif_split H (fun hb H=>?_) (fun hb H=>?_)
 refine cond_t hF (by kernel_rfl) hb ?_
 refine wpIn_region_lit ?_
 refine wl_pure (L':=[(1,.slice p7 (a6).length c8),(2,pt b10 0),(5,.slice p65 (y64).length c66),(6,vi y67),(7,pt b75 0),(9,pt b141 0),(10,vi y67),(15,.slice p7 (a6).length c8),(16,vi ((a6).length:Int)),(17,vi y131),(27,pt b75 1)]) 1 [1,2,5,6,7,9,10,15,16,17,27] hF (by kernel_rfl) fun a hF=>?_
 refine wc (wld hF hS 1 1 0 fun a hF=>?_)
 refine wc (wls hF hS 0 0 6 fun a hF=>?_)
 refine wc (wo_buildN (t:=f_api_Ver) (z := .agg (flat [sg ByteArray.empty,sg ByteArray.empty,sb false,su 0,si 0,si 0]).toArray) (l:=[(T_api_Ver.mk x138.Key x138.Val x138.Gone x138.TS x138.DC x138.Tx)]) (vs:=[(0,.agg (flat [sg x138.Key,sg x138.Val,sb x138.Gone,su x138.TS,si x138.DC,si x138.Tx]).toArray)]) (cells := #[.string (x138.Key),.string (x138.Val),vb x138.Gone,vu x138.TS,vi x138.DC,vi x138.Tx]) (E:=48) hF hS (by kernel_rfl) rfl (by kernel_rfl) (by kernel_rfl) rfl (by kernel_rfl) (by kernel_rfl) (by kernel_rfl) (by kernel_rfl) (by kernel_rfl) fun p144 κ a w hF hS=>?_)
 refine bind_split H (fun x145 hx145 H=>?_)
 refine wc (wo_append (ty:=f_api_Ver.ty) hF hS (by kernel_rfl) 4 3 0 rfl rfl rfl (by kernel_rfl) (by kernel_rfl) rfl rfl rfl hx145 (by kernel_rfl) (i:=Tryz.t48) (z := .agg (flat [sg ByteArray.empty,sg ByteArray.empty,sb false,su 0,si 0,si 0]).toArray) (by kernel_rfl) (by kernel_rfl) (by kernel_rfl) fun p146 c147 κ a w hF hS=>?_)
 refine wp 1 [1,2,5,6,7,10,15,16,17,31,32] hF fun a hF=>?_
 refine wc (wst hF hS 2 1 1 [sl p146 (x145).length c147] (sgN 1 sgNil) fun a w hF hS=>?_)
 refine wpListIn_nil ?_
 exact ⟨_,x145,p146,c147,hF.kp [1,2,5,6,7,10,15,16,17],hS.sp [2,3,4,5] [2,3,0,5,6],H⟩
 refine cond_f hF (by kernel_rfl) hb ?_
 refine wpIn_skip ?_
 exact ⟨_,y128,p129,c130,hF.kp [1,2,5,6,7,10,15,16,17],hS.sp [1,2,3,4] (rg 5),H⟩
 rintro a w ⟨κ,y134,p135,c136,hF,hS,H⟩
 unfold M.coord_Shares_k4 at H
 refine wpIn_region_lit ?_
 refine wp 2 [1,2,5,6,7,10,15,16,17] hF fun a hF=>?_
 refine wpListIn_nil ?_
 exact ⟨fuel3,Nat.lt_succ_self _,_,y134,p135,c136,IntKind.i64.wrap (y131+1),hF.kp [1,2,5,6,7,10,15,16,17],hS.sp (rg 4) (rg 5),H⟩
 refine cond_f hF (by kernel_rfl) hb ?_
 refine wpIn_exit ?_
 refine hK76 _ _ ?_
 refine wpIn_seq_k fun K148 hK148=>?_
 refine wpIn_region_lit ?_
 refine wp 1 [1,2,5,7,10,34] hF fun a hF=>?_
 refine wc (wld hF hS 0 1 0 fun a hF=>?_)
 refine wp 2 [1,2,5,7,10,37] hF fun a hF=>?_
 refine wpListIn_nil ?_
 refine hK148 _ _ ?_
 refine bif_split H (fun hb H=>?_) (fun hb H=>?_)
 refine cond_t hF (by kernel_rfl) hb ?_
 refine wpIn_region_lit ?_
 refine wl_pure (L':=[(1,.slice p7 (a6).length c8),(2,pt b10 0),(7,pt b75 0),(10,vi y67),(38,.slice p65 (y64).length c66)]) 1 [1,2,7,10,38] hF (by kernel_rfl) fun a hF=>?_
 refine wc (wls hF hS 0 0 2 fun a hF=>?_)
 refine wc (wo_build1 (t:=t_coord_Share) (y:=(T_coord_Share.mk y67 y128)) (v := .agg (flat [si y67,sl p129 (y128).length c130]).toArray) (z := .agg (flat [si 0,sl none 0 0]).toArray) (cells:=(flat [si y67,sl p129 (y128).length c130]).toArray) (E:=141) hF hS (by kernel_rfl) rfl (by kernel_rfl) ⟨(p129,c130),rfl,(hS.pick [2] (by kernel_rfl)).ro⟩ (by kernel_rfl) (by kernel_rfl) (by kernel_rfl) (by kernel_rfl) (by kernel_rfl) fun p149 κ a w hF hS=>?_)
 refine bind_split H (fun x150 hx150 H=>?_)
 refine wc (wo_append (ty:=t_coord_Share) hF hS (by kernel_rfl) 4 2 0 rfl rfl rfl (by kernel_rfl) (by kernel_rfl) rfl rfl rfl hx150 (by kernel_rfl) (i:=Tryz.t141) (z := .agg (flat [si 0,sl none 0 0]).toArray) (by kernel_rfl) (by kernel_rfl) (by kernel_rfl) fun p151 c152 κ a w hF hS=>?_)
 refine wp 1 [1,2,5,10] hF fun a hF=>?_
 refine wpListIn_nil ?_
 exact ⟨_,x150,p151,c152,hF.kp [1,2,5,10],hS.sp [2,4] [2,0,5,6],H⟩
 refine cond_f hF (by kernel_rfl) hb ?_
 refine wpIn_skip ?_
 exact ⟨_,y64,p65,c66,hF.kp [1,2,5,10],hS.sp [1,3] [0,1,3,4],H⟩
 rintro a w ⟨κ,y70,p71,c72,hF,hS,H⟩
 unfold M.coord_Shares_k2 at H
 refine wpIn_region_lit ?_
 refine wp 2 [1,2,5,10] hF fun a hF=>?_
 refine wpListIn_nil ?_
 exact ⟨fuel1,Nat.lt_succ_self _,_,y70,p71,c72,IntKind.i64.wrap (y67+1),hF.kp [1,2,5,10],hS.sp [0,1] (rg 4),H⟩
 refine cond_f hF (by kernel_rfl) hb ?_
 refine wpIn_exit ?_
 refine hK12 _ _ ?_
 refine wpIn_seq_k fun K153 hK153=>?_
 refine wpIn_region_lit ?_
 refine wp 2 [4] hF fun a hF=>?_
 refine wpListIn_nil ?_
 refine hK153 _ _ ?_
 refine wpIn_ret ?_
 cases H
 exact (ret_done hF hS (res1 Tryz.results87 (rvt hF)) ⟨p65,c66,rfl,(hS.pick [1] (by kernel_rfl)).ro,hS.newC [1] (by decide) (by kernel_rfl)⟩)
set_option maxRecDepth 20000 in
set_option maxHeartbeats 8000000 in
theorem C_coord_Table_find (N:Nat){Ms:List Nat}{κ0:Gh}{w0:World}(a1:T_coord_Table)(a8:Int)(a9:Int)(p2:Option Nat)(m3:Array MapEntry)(c4:Nat)(p5:Mp Int (Option Nat))(cs6:List Nat)(b7:Nat)(hB:SB Ms κ0 w0 [.box b7 172 [(1,[.map p2])],.ext (objX p2 (.map m3 c4)),.ext (mpX o_coord_entry p5 cs6 a1.open_ none)] [Map.mp (kInt .u64) false fPtr.ty p2 m3 c4 p5]){r:(Bool×Int)}(H:M.coord_Table_find N a1 a8 a9=some r) :
    Calls Tryz.prog 104 #[pt b7 0,vu a8,vi a9] w0 (Post Ms κ0 w0 fun v κ w => ∃(p109:Option Nat) (cs110:List Nat),v = .tuple #[.pointer (pa p109),vi r.2]∧SS Ms κ0 w0 κ w [.box b7 172 [(1,[.map p2])],.ext (objX p2 (.map m3 c4)),.ext (mpX o_coord_entry p5 cs110 a1.open_ none)] [MP.const (r.1=true→(mGet p5 a8).getD none=p109)]):=by
 have hS:=hB.hS
 have hfr:=hS.fresh
 refine enter (N:=(36)) (L:=[(0,pt b7 0),(1,vu a8),(2,vi a9)]) Tryz.func104 rfl Tryz.ntmps104 (show 3≤(36) by decide) rfl fun a hF=>?_
 unfold M.coord_Table_find at H
 refine wpIn_seq_k fun K10 hK10=>?_
 refine wpIn_region_lit ?_
 refine wp 2 [0,1,2] hF fun a hF=>?_
 refine wpListIn_nil ?_
 refine hK10 _ _ ?_
 refine wpIn_seq_k fun K11 hK11=>?_
 refine wpIn_seq_k fun K12 hK12=>?_
 refine wpIn_region_lit ?_
 refine wp 2 [0,1,2,12] hF fun a hF=>?_
 refine wpListIn_nil ?_
 refine hK12 _ _ ?_
 refine cond_f hF (by kernel_rfl) rfl ?_
 refine wpIn_skip ?_
 refine hK11 _ _ ?_
 refine wpIn_seq_k fun K13 hK13=>?_
 obtain ⟨p14,hlp14⟩ : ∃p,(mGet p5 a8).getD none=p:=⟨_,rfl⟩
 have hS:=hS.add (m:=MP.const ((mGet p5 a8).getD none=p14)) hlp14
 refine wpIn_region_lit ?_
 refine wp 3 [1,2,15] hF fun a hF=>?_
 refine wc (wld hF hS 0 0 0 fun a hF=>?_)
 refine wl_pure (L':=[(2,vi a9),(16,.map p2),(17,vu a8)]) 1 [2,16,17] hF (by kernel_rfl) fun a hF=>?_
 refine wc (wo_lookupP (KT:=32) (E:=182) (kt:=(kInt .u64)) hF hS (by kernel_rfl) 1 1 (k:=a8) rfl (by kernel_rfl) (by kernel_rfl) rfl rfl hlp14 (by kernel_rfl) (by kernel_rfl) (by kernel_rfl) fun a hF=>?_)
 refine wl_pure (L':=[(2,vi a9),(8,.pointer (pa p14))]) 1 [2,8] hF (by kernel_rfl) fun a hF=>?_
 refine wpListIn_nil ?_
 refine hK13 _ _ ?_
 refine wpIn_seq_k fun K15 hK15=>?_
 refine wpIn_seq_k fun K16 hK16=>?_
 refine bind_split H (fun v20 hv20 H=>?_)
 refine code_join (fun a w => ∃(κ:Gh) (cs17:List Nat) (p18:Option Nat),Fr (36) [] [(2,vi a9),(8,.pointer (pa p18)),(20,vb v20)] a∧SS Ms κ0 w0 κ w [.box b7 172 [(1,[.map p2])],.ext (objX p2 (.map m3 c4)),.ext (mpX o_coord_entry p5 cs17 a1.open_ none)] [MP.const ((mGet p5 a8).getD none=p18),Map.mp (kInt .u64) false fPtr.ty p2 m3 c4 p5]∧True) ?_ ?_
 have hqk22:(mGet p5 a8).getD none=p14:=hS.get 0 rfl
 refine opt_split hv20 (fun hmx21 hv20=>?_) (fun x21 hmx21 hv20=>?_)
 have hpq:=hS.mpNone 2 rfl hmx21 hqk22
 have hG3:=hF
 subst hpq
 have hF:=hG3
 refine wpIn_region_lit ?_
 refine wp 2 [2,8,20] hF fun a hF=>?_
 refine wpListIn_nil ?_
 cases hv20
 exact ⟨_,cs6,none,hF.kp [2,8,20],hS.sp [0,1,2] [0,1],trivial⟩
 obtain ⟨b23,cs24,cs25,hpq,hS⟩:=hS.mpTakeP 2 rfl hmx21 hqk22
 have hG4:=hF
 subst hpq
 have hF:=hG4
 refine wpIn_region_lit ?_
 refine wp 2 [2,8,20] hF fun a hF=>?_
 refine wpListIn_nil ?_
 obtain ⟨cs26,hS⟩:=hS.mpBackI 0 1 [2,3] (by decide) rfl rfl hqk22 hmx21
 cases hv20
 exact ⟨_,cs26,(some b23),hF.kp [2,8,20],hS.sp [1,2,0] [0,1],trivial⟩
 rintro a w ⟨κ,cs17,p18,hF,hS,-⟩
 refine hK16 _ _ ?_
 refine bif_split H (fun hb H=>?_) (fun hb H=>?_)
 refine cond_t hF (by kernel_rfl) hb ?_
 refine wpIn_seq_k fun K27 hK27=>?_
 refine wpIn_region_lit ?_
 refine wp 2 [6,7] hF fun a hF=>?_
 refine wpListIn_nil ?_
 refine hK27 _ _ ?_
 refine wpIn_ret ?_
 have hS:=hS.add (m:=MP.const (false=true→(mGet p5 a8).getD none=none)) (fun h=>by cases h)
 cases H
 exact ret_done hF hS (res2 Tryz.results104 (rvt hF) (rvt hF)) ⟨none,cs17,rfl,hS.sp [0,1,2] [0]⟩
 refine cond_f hF (by kernel_rfl) hb ?_
 refine wpIn_skip ?_
 refine hK15 _ _ ?_
 refine wpIn_seq_k fun K28 hK28=>?_
 refine wpIn_seq_k fun K29 hK29=>?_
 have hqk31:(mGet p5 a8).getD none=p18:=hS.get 0 rfl
 refine opt_split H (fun hmx30 H=>?_) (fun x30 hmx30 H=>?_)
 have hpq:=hS.mpNone 2 rfl hmx30 hqk31
 have hG7:=hF
 subst hpq
 have hF:=hG7
 cases H
 obtain ⟨b32,cs33,cs34,hpq,hS⟩:=hS.mpTakeP 2 rfl hmx30 hqk31
 have hG8:=hF
 subst hpq
 have hF:=hG8
 obtain ⟨⟨p35,c36,p37,m38,c39,p40,m41,c42⟩,hS⟩:=hS.unfI (ck:=c_coord_entry) (fs:=q_coord_entry) 0 rfl
 refine wpIn_region_lit ?_
 refine wp 3 [2,8,23] hF fun a hF=>?_
 refine wc (wld hF hS 0 1 0 fun a hF=>?_)
 refine wp 2 [2,8,24,25,26] hF fun a hF=>?_
 refine wpListIn_nil ?_
 obtain ⟨cs43,hS⟩:=hS.foldI (ck:=c_coord_entry) (fs:=q_coord_entry) b32 (p35,c36,p37,m38,c39,p40,m41,c42) x30 [0,1,2] [3,4,5] [0,1,2] (by decide) (by kernel_rfl) (by kernel_rfl)
 obtain ⟨cs44,hS⟩:=hS.mpBackI 0 1 [2,3] (by decide) rfl rfl hqk31 hmx30
 refine hK29 _ _ ?_
 refine wpIn_block ?_
 refine loop_fuel (n:=N) (fun n a w => ∃(κ:Gh) (y95:Int),Fr (36) [] [(2,vi a9),(8,pt b32 0),(24,.slice p35 (x30.shares).length c36),(25,vi ((x30.shares).length:Int)),(26,vi y95)] a∧SS Ms κ0 w0 κ w [.box b7 172 [(1,[.map p2])],.ext (objX p2 (.map m3 c4)),.ext (mpX o_coord_entry p5 cs44 a1.open_ none)] [MP.const ((mGet p5 a8).getD none=(some b32)),Ro.mp t_coord_Share p35 c36 x30.shares,Map.mp (kInt .u64) false fPtr.ty p2 m3 c4 p5]∧M.coord_Table_find_L1 N n a1 a8 a9 x30 y95=some r) ?_ ?_
 exact ⟨_,0,hF.kp [2,8,24,25,26],hS.sp [1,2,0] [3,0,4],H⟩
 rintro n a w ⟨κ,y95,hF,hS,H⟩
 rcases n with _|fuel1
 simp [M.coord_Table_find_L1] at H
 simp only [M.coord_Table_find_L1] at H
 refine wpIn_seq_k fun K96 hK96=>?_
 refine wpIn_region_lit ?_
 refine wl_pure (L':=[(2,vi a9),(8,pt b32 0),(24,.slice p35 (x30.shares).length c36),(25,vi ((x30.shares).length:Int)),(26,vi y95),(27,vb (decide (y95<((x30.shares).length:Int))))]) 1 [2,8,24,25,26,27] hF (by kernel_rfl) fun a hF=>?_
 refine wpListIn_nil ?_
 refine hK96 _ _ ?_
 refine wpIn_seq_k fun K97 hK97=>?_
 refine bif_split H (fun hb H=>?_) (fun hb H=>?_)
 refine cond_t hF (by kernel_rfl) hb ?_
 refine wpIn_skip ?_
 refine hK97 _ _ ?_
 refine wpIn_seq_k fun K98 hK98=>?_
 refine wpIn_block ?_
 refine wpIn_seq_k fun K99 hK99=>?_
 refine wpIn_region_lit ?_
 refine bind_split H (fun x100 hx100 H=>?_)
 refine wc (wo_index hF hS (by kernel_rfl) 1 (E:=141) (sz:=2) rfl rfl rfl (by kernel_rfl) rfl hx100 (by kernel_rfl) (by kernel_rfl) fun b101 f102 a hpx100 hF=>?_)
 obtain ⟨_,⟨⟨p103,c104⟩,rfl,hR⟩,hc⟩:=hS.elem 1 rfl hpx100 hx100
 have hS:=(hS.adds hR).add hc
 refine wc (wo_val hF (by kernel_rfl) (v := .agg (flat [si x100.Node,sl p103 (x100.Vers).length c104]).toArray) ((val_loadCs 0 0 2 (s:=[si x100.Node,sl p103 (x100.Vers).length c104]) (s':=[si x100.Node,sl p103 (x100.Vers).length c104]) (n:=2) rfl rfl rfl (show segGood [si x100.Node,sl p103 (x100.Vers).length c104] from (sgN 2 sgNil)) (by kernel_rfl) (by kernel_rfl) (by kernel_rfl) (by kernel_rfl) (by kernel_rfl) _ ⟨_,hS⟩)) fun a hF=>?_)
 refine wc (wal hF hS [si 0,sl none 0 0] (sgN 2 sgNil) fun b105 a w hF hS=>?_)
 refine wc (wst hF hS 0 0 2 [si x100.Node,sl p103 (x100.Vers).length c104] (sgN 2 sgNil) fun a w hF hS=>?_)
 refine wpListIn_nil ?_
 refine hK99 _ _ ?_
 refine wpIn_seq_k fun K106 hK106=>?_
 refine wpIn_region_lit ?_
 refine wp 1 [2,8,24,25,26,30] hF fun a hF=>?_
 refine wc (wld hF hS 0 0 0 fun a hF=>?_)
 refine wp 2 [2,8,24,25,26,33] hF fun a hF=>?_
 refine wpListIn_nil ?_
 refine hK106 _ _ ?_
 refine bif_split H (fun hb H=>?_) (fun hb H=>?_)
 refine cond_t hF (by kernel_rfl) hb ?_
 refine wpIn_seq_k fun K107 hK107=>?_
 refine wpIn_region_lit ?_
 refine wp 3 [6,7] hF fun a hF=>?_
 refine wpListIn_nil ?_
 refine hK107 _ _ ?_
 refine wpIn_ret ?_
 have hS:=hS.add (m:=MP.const (true=true→(mGet p5 a8).getD none=(some b32))) (fun _=>hS.get 2 rfl)
 cases H
 exact ret_done hF hS (res2 Tryz.results104 (rvt hF) (rvt hF)) ⟨(some b32),cs44,rfl,hS.sp [1,2,3] [0]⟩
 refine cond_f hF (by kernel_rfl) hb ?_
 refine wpIn_skip ?_
 refine hK98 _ _ ?_
 refine wpIn_region_lit ?_
 refine wp 2 [2,8,24,25,26] hF fun a hF=>?_
 refine wpListIn_nil ?_
 exact ⟨fuel1,Nat.lt_succ_self _,_,IntKind.i64.wrap (y95+1),hF.kp [2,8,24,25,26],hS.sp [1,2,3] [2,3,4],H⟩
 refine cond_f hF (by kernel_rfl) hb ?_
 refine wpIn_exit ?_
 refine hK28 _ _ ?_
 refine wpIn_seq_k fun K108 hK108=>?_
 refine wpIn_region_lit ?_
 refine wp 2 [6,7] hF fun a hF=>?_
 refine wpListIn_nil ?_
 refine hK108 _ _ ?_
 refine wpIn_ret ?_
 have hS:=hS.add (m:=MP.const (false=true→(mGet p5 a8).getD none=none)) (fun h=>by cases h)
 cases H
 exact ret_done hF hS (res2 Tryz.results104 (rvt hF) (rvt hF)) ⟨none,cs44,rfl,hS.sp [0,1,2] [0]⟩
set_option maxRecDepth 20000 in
set_option maxHeartbeats 8000000 in
theorem C_coord_Table_Start (N:Nat){Ms:List Nat}{κ0:Gh}{w0:World}(a1:T_coord_Table)(a8:Int)(a9:Int)(a10:(List T_coord_Share))(p2:Option Nat)(m3:Array MapEntry)(c4:Nat)(p5:Mp Int (Option Nat))(cs6:List Nat)(p11:Option Addr)(c12:Nat)(b7:Nat)(hB:SB Ms κ0 w0 [.box b7 172 [(1,[.map p2])],.ext (objX p2 (.map m3 c4)),.ext (mpX o_coord_entry p5 cs6 a1.open_ none)] [Map.mp (kInt .u64) false fPtr.ty p2 m3 c4 p5,Ro.mp t_coord_Share p11 c12 a10]){r:(Int×T_coord_Table)}(H:M.coord_Table_Start N a1 a8 a9 a10=some r) :
    Calls Tryz.prog 88 #[pt b7 0,vu a8,vu a9,.slice p11 (a10).length c12] w0 (Post Ms κ0 w0 fun v κ w => ∃(p183:Option Nat) (m184:Array MapEntry) (c185:Nat) (p186:Mp Int (Option Nat)) (cs187:List Nat),v=vi r.1∧SS Ms κ0 w0 κ w [.box b7 172 [(1,[.map p183])],.ext (objX p183 (.map m184 c185)),.ext (mpX o_coord_entry p186 cs187 r.2.open_ none)] [Map.mp (kInt .u64) false fPtr.ty p183 m184 c185 p186]):=by
 have hS:=hB.hS
 have hfr:=hS.fresh
 refine enter (N:=(76)) (L:=[(0,pt b7 0),(1,vu a8),(2,vu a9),(3,.slice p11 (a10).length c12)]) Tryz.func88 rfl Tryz.ntmps88 (show 4≤(76) by decide) rfl fun a hF=>?_
 unfold M.coord_Table_Start at H
 refine wpIn_seq_k fun K13 hK13=>?_
 refine wpIn_region_lit ?_
 refine wp 1 (rg 4) hF fun a hF=>?_
 refine wpListIn_nil ?_
 refine hK13 _ _ ?_
 refine wpIn_seq_k fun K14 hK14=>?_
 refine wpIn_seq_k fun K15 hK15=>?_
 refine wpIn_region_lit ?_
 refine wl_pure (L':=[(0,pt b7 0),(1,vu a8),(2,vu a9),(3,.slice p11 (a10).length c12),(20,vb (((a10).length:Int)==0))]) 7 [0,1,2,3,20] hF (by kernel_rfl) fun a hF=>?_
 refine wpListIn_nil ?_
 refine hK15 _ _ ?_
 refine bif_split H (fun hb H=>?_) (fun hb H=>?_)
 refine cond_t hF (by kernel_rfl) hb ?_
 refine wpIn_seq_k fun K16 hK16=>?_
 refine wpIn_region_lit ?_
 refine wp 1 [8] hF fun a hF=>?_
 refine wpListIn_nil ?_
 refine hK16 _ _ ?_
 refine wpIn_ret ?_
 cases H
 exact ret_done hF hS (res1 Tryz.results88 (rvt hF)) ⟨p2,m3,c4,p5,cs6,rfl,hS.sp [0,1,2] [0]⟩
 refine cond_f hF (by kernel_rfl) hb ?_
 refine wpIn_skip ?_
 refine hK14 _ _ ?_
 refine wpIn_seq_k fun K17 hK17=>?_
 refine wpIn_seq_k fun K18 hK18=>?_
 refine bind_split H (fun v21 hv21 H=>?_)
 refine code_join (fun a w => ∃(κ:Gh) (cs19:List Nat),Fr (76) [] [(0,pt b7 0),(1,vu a8),(2,vu a9),(3,.slice p11 (a10).length c12),(27,vb v21)] a∧SS Ms κ0 w0 κ w [.box b7 172 [(1,[.map p2])],.ext (objX p2 (.map m3 c4)),.ext (mpX o_coord_entry p5 cs19 a1.open_ none)] [Map.mp (kInt .u64) false fPtr.ty p2 m3 c4 p5,Ro.mp t_coord_Share p11 c12 a10]∧True) ?_ ?_
 obtain ⟨p22,hlp22⟩ : ∃p,(mGet p5 a8).getD none=p:=⟨_,rfl⟩
 have hS:=hS.add (m:=MP.const ((mGet p5 a8).getD none=p22)) hlp22
 have hqk24:(mGet p5 a8).getD none=p22:=hS.get 0 rfl
 refine opt_split hv21 (fun hmx23 hv21=>?_) (fun x23 hmx23 hv21=>?_)
 have hpq:=hS.mpNone 2 rfl hmx23 hqk24
 have hG7:=hF
 subst hpq
 have hF:=hG7
 refine wpIn_region_lit ?_
 refine wp 3 [0,1,2,3,23] hF fun a hF=>?_
 refine wc (wld hF hS 0 0 0 fun a hF=>?_)
 refine wl_pure (L':=[(0,pt b7 0),(1,vu a8),(2,vu a9),(3,.slice p11 (a10).length c12),(24,.map p2),(25,vu a8)]) 1 [0,1,2,3,24,25] hF (by kernel_rfl) fun a hF=>?_
 refine wc (wo_lookupP (KT:=32) (E:=182) (kt:=(kInt .u64)) hF hS (by kernel_rfl) 1 1 (k:=a8) rfl (by kernel_rfl) (by kernel_rfl) rfl rfl hlp22 (by kernel_rfl) (by kernel_rfl) (by kernel_rfl) fun a hF=>?_)
 refine wp 1 [0,1,2,3,27] hF fun a hF=>?_
 refine wpListIn_nil ?_
 cases hv21
 exact ⟨_,cs6,hF.kp [0,1,2,3,27],hS.sp [0,1,2] [1,2],trivial⟩
 obtain ⟨b25,cs26,cs27,hpq,hS⟩:=hS.mpTakeP 2 rfl hmx23 hqk24
 have hG8:=hF
 subst hpq
 have hF:=hG8
 refine wpIn_region_lit ?_
 refine wp 3 [0,1,2,3,23] hF fun a hF=>?_
 refine wc (wld hF hS 2 0 0 fun a hF=>?_)
 refine wl_pure (L':=[(0,pt b7 0),(1,vu a8),(2,vu a9),(3,.slice p11 (a10).length c12),(24,.map p2),(25,vu a8)]) 1 [0,1,2,3,24,25] hF (by kernel_rfl) fun a hF=>?_
 refine wc (wo_lookupP (KT:=32) (E:=182) (kt:=(kInt .u64)) hF hS (by kernel_rfl) 3 1 (k:=a8) rfl (by kernel_rfl) (by kernel_rfl) rfl rfl hlp22 (by kernel_rfl) (by kernel_rfl) (by kernel_rfl) fun a hF=>?_)
 refine wp 1 [0,1,2,3,27] hF fun a hF=>?_
 refine wpListIn_nil ?_
 obtain ⟨cs28,hS⟩:=hS.mpBackI 0 1 [2,3] (by decide) rfl rfl hqk24 hmx23
 cases hv21
 exact ⟨_,cs28,hF.kp [0,1,2,3,27],hS.sp [1,2,0] [1,2],trivial⟩
 rintro a w ⟨κ,cs19,hF,hS,-⟩
 refine hK18 _ _ ?_
 refine bif_split H (fun hb H=>?_) (fun hb H=>?_)
 refine cond_t hF (by kernel_rfl) hb ?_
 refine wpIn_seq_k fun K29 hK29=>?_
 refine wpIn_region_lit ?_
 refine wp 1 [8] hF fun a hF=>?_
 refine wpListIn_nil ?_
 refine hK29 _ _ ?_
 refine wpIn_ret ?_
 cases H
 exact ret_done hF hS (res1 Tryz.results88 (rvt hF)) ⟨p2,m3,c4,p5,cs19,rfl,hS.sp [0,1,2] [0]⟩
 refine cond_f hF (by kernel_rfl) hb ?_
 refine wpIn_skip ?_
 refine hK17 _ _ ?_
 refine wpIn_seq_k fun K30 hK30=>?_
 refine wpIn_region_lit ?_
 refine wl_pure (L':=[(0,pt b7 0),(1,vu a8),(3,.slice p11 (a10).length c12),(28,vu a9)]) 1 [0,1,3,28] hF (by kernel_rfl) fun a hF=>?_
 refine wc (wo_makeMap hF hS (by kernel_rfl) (kInt .i64) false (fInt .u64).ty rfl fun b31 a w hF hS=>?_)
 refine wc (wo_makeMap hF hS (by kernel_rfl) (kInt .i64) false fBool.ty rfl fun b32 a w hF hS=>?_)
 refine wp 1 [0,1,3,31] hF fun a hF=>?_
 refine wc (wbx hF hS [su a9,sl none 0 0,(1,[.map (some b31)]),(1,[.map (some b32)]),su 0,sb false] (sgN 6 sgNil) fun b33 a w hF hS=>?_)
 refine wp 1 [0,1,3,9] hF fun a hF=>?_
 refine wpListIn_nil ?_
 refine hK30 _ _ ?_
 refine wpIn_seq_k fun K34 hK34=>?_
 refine wpIn_seq_k fun K35 hK35=>?_
 refine wpIn_region_lit ?_
 refine wp 3 [0,1,3,9,33,34,35] hF fun a hF=>?_
 refine wpListIn_nil ?_
 refine hK35 _ _ ?_
 refine wpIn_block ?_
 refine loop_fuel (n:=N) (fun n a w => ∃(κ:Gh) (y86:List T_coord_Share) (p87:Option Addr) (c88:Nat) (y89:Int),Fr (76) [] [(0,pt b7 0),(1,vu a8),(3,.slice p11 (a10).length c12),(9,pt b33 0),(33,.slice p11 (a10).length c12),(34,vi ((a10).length:Int)),(35,vi y89)] a∧SS Ms κ0 w0 κ w [.box b33 185 [su a9,sl p87 (y86).length c88,(1,[.map (some b31)]),(1,[.map (some b32)]),su 0,sb false],.box b7 172 [(1,[.map p2])],.tok p87 141 2 (y86).length c88,.ext (objX (some b31) (.map (#[]) 0)),.ext (objX (some b32) (.map (#[]) 0)),.ext (objX p2 (.map m3 c4)),.ext (mpX o_coord_entry p5 cs19 a1.open_ none)] [Map.mp (kInt .u64) false fPtr.ty p2 m3 c4 p5,Ro.mp t_coord_Share p11 c12 a10,Ro.mp t_coord_Share p87 c88 y86,Map.mp (kInt .i64) false (fInt .u64).ty (some b31) (#[]) 0 (some []),Map.mp (kInt .i64) false fBool.ty (some b32) (#[]) 0 (some [])]∧M.coord_Table_Start_L1 N n a1 a8 a9 a10 y86 y89=some r) ?_ ?_
 have hS:=hS.add (m:=Ro.mp t_coord_Share none 0 ([]:List T_coord_Share)) (Ro.nil t_coord_Share _ _)
 have hS:=hS.addNil 141 2
 exact ⟨_,([]:List T_coord_Share),none,0,0,hF.kp [0,1,3,9,33,34,35],hS.sp [1,4,0,3,2,5,6] [3,4,0,2,1],H⟩
 rintro n a w ⟨κ,y86,p87,c88,y89,hF,hS,H⟩
 rcases n with _|fuel1
 simp [M.coord_Table_Start_L1] at H
 simp only [M.coord_Table_Start_L1] at H
 refine wpIn_seq_k fun K90 hK90=>?_
 refine wpIn_region_lit ?_
 refine wp 1 [0,1,3,9,33,34,35,36] hF fun a hF=>?_
 refine wpListIn_nil ?_
 refine hK90 _ _ ?_
 refine wpIn_seq_k fun K91 hK91=>?_
 refine bif_split H (fun hb H=>?_) (fun hb H=>?_)
 refine cond_t hF (by kernel_rfl) hb ?_
 refine wpIn_skip ?_
 refine hK91 _ _ ?_
 refine wpIn_seq_k fun K92 hK92=>?_
 refine wpIn_block ?_
 refine wpIn_seq_k fun K93 hK93=>?_
 refine wpIn_region_lit ?_
 refine wl_pure (L':=[(0,pt b7 0),(1,vu a8),(3,.slice p11 (a10).length c12),(9,pt b33 0),(33,.slice p11 (a10).length c12),(34,vi ((a10).length:Int)),(35,vi y89),(37,vi y89)]) 1 [0,1,3,9,33,34,35,37] hF (by kernel_rfl) fun a hF=>?_
 refine bind_split H (fun x94 hx94 H=>?_)
 refine wc (wo_index hF hS (by kernel_rfl) 1 (E:=141) (sz:=2) rfl rfl rfl (by kernel_rfl) rfl hx94 (by kernel_rfl) (by kernel_rfl) fun b95 f96 a hpx94 hF=>?_)
 obtain ⟨_,⟨⟨p97,c98⟩,rfl,hR⟩,hc⟩:=hS.elem 1 rfl hpx94 hx94
 have hS:=(hS.adds hR).add hc
 refine wc (wo_val hF (by kernel_rfl) (v := .agg (flat [si x94.Node,sl p97 (x94.Vers).length c98]).toArray) ((val_loadCs 0 0 2 (s:=[si x94.Node,sl p97 (x94.Vers).length c98]) (s':=[si x94.Node,sl p97 (x94.Vers).length c98]) (n:=2) rfl rfl rfl (show segGood [si x94.Node,sl p97 (x94.Vers).length c98] from (sgN 2 sgNil)) (by kernel_rfl) (by kernel_rfl) (by kernel_rfl) (by kernel_rfl) (by kernel_rfl) _ ⟨_,hS⟩)) fun a hF=>?_)
 refine wc (wal hF hS [si 0,sl none 0 0] (sgN 2 sgNil) fun b99 a w hF hS=>?_)
 refine wp 1 [0,1,3,9,10,11,33,34,35,39] hF fun a hF=>?_
 refine wc (wst hF hS 0 0 2 [si x94.Node,sl p97 (x94.Vers).length c98] (sgN 2 sgNil) fun a w hF hS=>?_)
 refine wpListIn_nil ?_
 refine hK93 _ _ ?_
 refine wpIn_seq_k fun K100 hK100=>?_
 refine wpIn_seq_k fun K101 hK101=>?_
 refine wpIn_region_lit ?_
 refine wl_pure (L':=[(0,pt b7 0),(1,vu a8),(3,.slice p11 (a10).length c12),(9,pt b33 0),(11,pt b99 0),(33,.slice p11 (a10).length c12),(34,vi ((a10).length:Int)),(35,vi y89),(40,.slice p11 (a10).length c12),(41,vi y89)]) 2 [0,1,3,9,11,33,34,35,40,41] hF (by kernel_rfl) fun a hF=>?_
 refine bind_split H (fun x102 hx102 H=>?_)
 refine wc (wo_slice hF hS (by kernel_rfl) 3 (E:=141) (lo:=0) (hi:=y89) rfl rfl rfl (by kernel_rfl) rfl ⟨_,rfl⟩ hx102 (by kernel_rfl) (by kernel_rfl) fun p103 c104 a hF hS=>?_)
 refine wp 2 [0,1,3,9,11,33,34,35,42,43,44] hF fun a hF=>?_
 refine wpListIn_nil ?_
 refine hK101 _ _ ?_
 refine wpIn_block ?_
 refine loop_fuel (n:=N) (fun n a w => ∃(κ:Gh) (y155:Int),Fr (76) [] [(0,pt b7 0),(1,vu a8),(3,.slice p11 (a10).length c12),(9,pt b33 0),(11,pt b99 0),(33,.slice p11 (a10).length c12),(34,vi ((a10).length:Int)),(35,vi y89),(42,.slice p103 (x102).length c104),(43,vi ((x102).length:Int)),(44,vi y155)] a∧SS Ms κ0 w0 κ w [.box b99 141 [si x94.Node,sl p97 (x94.Vers).length c98],.box b33 185 [su a9,sl p87 (y86).length c88,(1,[.map (some b31)]),(1,[.map (some b32)]),su 0,sb false],.box b7 172 [(1,[.map p2])],.tok p87 141 2 (y86).length c88,.ext (objX (some b31) (.map (#[]) 0)),.ext (objX (some b32) (.map (#[]) 0)),.ext (objX p2 (.map m3 c4)),.ext (mpX o_coord_entry p5 cs19 a1.open_ none)] [Map.mp (kInt .u64) false fPtr.ty p2 m3 c4 p5,Ro.mp t_coord_Share p11 c12 a10,Ro.mp t_coord_Share p87 c88 y86,Map.mp (kInt .i64) false (fInt .u64).ty (some b31) (#[]) 0 (some []),Map.mp (kInt .i64) false fBool.ty (some b32) (#[]) 0 (some []),Ro.mp t_coord_Share p103 c104 x102,Ro.mp f_api_Ver.ty p97 c98 x94.Vers]∧M.coord_Table_Start_L2 N (M.coord_Table_Start_L1 N fuel1) n a1 a8 a9 a10 y86 y89 x94 x102 y155=some r) ?_ ?_
 exact ⟨_,0,hF.kp [0,1,3,9,11,33,34,35,42,43,44],hS.sp (rg 8) [3,4,5,6,7,0,2],H⟩
 rintro n a w ⟨κ,y155,hF,hS,H⟩
 rcases n with _|fuel2
 simp [M.coord_Table_Start_L2] at H
 simp only [M.coord_Table_Start_L2] at H
 refine wpIn_seq_k fun K156 hK156=>?_
 refine wpIn_region_lit ?_
 refine wl_pure (L':=[(0,pt b7 0),(1,vu a8),(3,.slice p11 (a10).length c12),(9,pt b33 0),(11,pt b99 0),(33,.slice p11 (a10).length c12),(34,vi ((a10).length:Int)),(35,vi y89),(42,.slice p103 (x102).length c104),(43,vi ((x102).length:Int)),(44,vi y155),(45,vb (decide (y155<((x102).length:Int))))]) 1 [0,1,3,9,11,33,34,35,42,43,44,45] hF (by kernel_rfl) fun a hF=>?_
 refine wpListIn_nil ?_
 refine hK156 _ _ ?_
 refine wpIn_seq_k fun K157 hK157=>?_
 refine bif_split H (fun hb H=>?_) (fun hb H=>?_)
 refine cond_t hF (by kernel_rfl) hb ?_
 refine wpIn_skip ?_
 refine hK157 _ _ ?_
 refine wpIn_seq_k fun K158 hK158=>?_
 refine wpIn_block ?_
 refine wpIn_seq_k fun K159 hK159=>?_
 refine wpIn_region_lit ?_
 refine bind_split H (fun x160 hx160 H=>?_)
 refine wc (wo_index hF hS (by kernel_rfl) 5 (E:=141) (sz:=2) rfl rfl rfl (by kernel_rfl) rfl hx160 (by kernel_rfl) (by kernel_rfl) fun b161 f162 a hpx160 hF=>?_)
 obtain ⟨_,⟨⟨p163,c164⟩,rfl,hR⟩,hc⟩:=hS.elem 5 rfl hpx160 hx160
 have hS:=(hS.adds hR).add hc
 refine wc (wo_val hF (by kernel_rfl) (v := .agg (flat [si x160.Node,sl p163 (x160.Vers).length c164]).toArray) ((val_loadCs 0 0 2 (s:=[si x160.Node,sl p163 (x160.Vers).length c164]) (s':=[si x160.Node,sl p163 (x160.Vers).length c164]) (n:=2) rfl rfl rfl (show segGood [si x160.Node,sl p163 (x160.Vers).length c164] from (sgN 2 sgNil)) (by kernel_rfl) (by kernel_rfl) (by kernel_rfl) (by kernel_rfl) (by kernel_rfl) _ ⟨_,hS⟩)) fun a hF=>?_)
 refine wc (wal hF hS [si 0,sl none 0 0] (sgN 2 sgNil) fun b165 a w hF hS=>?_)
 refine wc (wst hF hS 0 0 2 [si x160.Node,sl p163 (x160.Vers).length c164] (sgN 2 sgNil) fun a w hF hS=>?_)
 refine wpListIn_nil ?_
 refine hK159 _ _ ?_
 refine wpIn_seq_k fun K166 hK166=>?_
 refine wpIn_region_lit ?_
 refine wp 1 [0,1,3,9,11,33,34,35,42,43,44,48] hF fun a hF=>?_
 refine wc (wld hF hS 0 0 0 fun a hF=>?_)
 refine wp 1 [0,1,3,9,11,33,34,35,42,43,44,49,50] hF fun a hF=>?_
 refine wc (wld hF hS 1 0 0 fun a hF=>?_)
 refine wp 1 [0,1,3,9,11,33,34,35,42,43,44,52] hF fun a hF=>?_
 refine wpListIn_nil ?_
 refine hK166 _ _ ?_
 refine bif_split H (fun hb H=>?_) (fun hb H=>?_)
 refine cond_t hF (by kernel_rfl) hb ?_
 refine wpIn_seq_k fun K167 hK167=>?_
 refine wpIn_region_lit ?_
 refine wp 1 [8] hF fun a hF=>?_
 refine wpListIn_nil ?_
 refine hK167 _ _ ?_
 refine wpIn_ret ?_
 cases H
 exact ret_done hF hS (res1 Tryz.results88 (rvt hF)) ⟨p2,m3,c4,p5,cs19,rfl,hS.sp [3,7,8] [2]⟩
 refine cond_f hF (by kernel_rfl) hb ?_
 refine wpIn_skip ?_
 refine hK158 _ _ ?_
 refine wpIn_region_lit ?_
 refine wp 2 [0,1,3,9,11,33,34,35,42,43,44] hF fun a hF=>?_
 refine wpListIn_nil ?_
 exact ⟨fuel2,Nat.lt_succ_self _,_,IntKind.i64.wrap (y155+1),hF.kp [0,1,3,9,11,33,34,35,42,43,44],hS.sp [1,2,3,4,5,6,7,8] [2,3,4,5,6,7,8],H⟩
 refine cond_f hF (by kernel_rfl) hb ?_
 refine wpIn_exit ?_
 refine hK100 _ _ ?_
 refine rgS hS [15] ?_
 have hS:=hS.drew
 refine bind_split H (fun x168 hx168 H=>?_)
 refine bind_split H (fun x172 hx172 H=>?_)
 refine any_pure [0,1,2,3,5,7] [0,1,3,9,33,34,35,54,57,59,61] (L':=[(0,pt b7 0),(1,vu a8),(3,.slice p11 (a10).length c12),(9,pt b33 0),(33,.slice p11 (a10).length c12),(34,vi ((a10).length:Int)),(35,vi y89),(54,pt b33 0),(57,pt b33 1),(59,pt b99 0),(61,pt b99 1)]) (listed':=(bitA 16 175)) (fuel:=10) hF (hS.sx [0,1,2,4,5,6,7] (rg 7)) (by kernel_rfl) (by intro c a w t v h; cases t<;>exact h) (by kernel_rfl) rfl fun a hF=>?_
 refine atk 4 (some 58) hF (hS.sx [0,1,2,4,5,6,7] (rg 7)) rfl (vld 1 1 0) fun a hF=>?_
 refine atk 6 (some 60) hF (hS.sx [0,1,2,4,5,6,7] (rg 7)) rfl (vld 0 0 0) fun a hF=>?_
 refine atk 8 (some 62) hF (hS.sx [0,1,2,4,5,6,7] (rg 7)) rfl (vld 0 1 0) fun a hF=>?_
 refine ago 9 hF rfl ?_
 have hS:=hS.add (m:=Ro.mp f_api_Ver.ty none 0 ([]:List T_api_Ver)) (Ro.nil f_api_Ver.ty _ _)
 have hS:=hS.addNil 48 6
 refine wo_append (ty:=f_api_Ver.ty) hF hS (by kernel_rfl) 0 0 7 rfl rfl rfl (by kernel_rfl) (by kernel_rfl) rfl rfl rfl hx168 (by kernel_rfl) (i:=Tryz.t48) (z := .agg (flat [sg ByteArray.empty,sg ByteArray.empty,sb false,su 0,si 0,si 0]).toArray) (by kernel_rfl) (by kernel_rfl) (by kernel_rfl) fun p169 c170 κ a w hF hS=>?_
 refine ⟨fun _=>(hS.sx [1,2,3,5,6,7,8] [2,3,4,5,6,7,8]),?_⟩
 refine any_pure [10] [0,1,3,9,33,34,35,54,58,64] (L':=[(0,pt b7 0),(1,vu a8),(3,.slice p11 (a10).length c12),(9,pt b33 0),(33,.slice p11 (a10).length c12),(34,vi ((a10).length:Int)),(35,vi y89),(54,pt b33 0),(58,.slice p87 (y86).length c88),(64,.agg (flat [si x94.Node,sl p169 (x168).length c170]).toArray)]) (listed':=(bitA 16 2047)) (fuel:=5) hF (hS.sx [1,2,3,5,6,7,8] [2,3,4,5,6,7,8]) (by kernel_rfl) (by intro c a w t v h; cases t<;>exact h) (by kernel_rfl) rfl fun a hF=>?_
 refine ago 11 hF rfl ?_
 refine wo_build1 (t:=t_coord_Share) (y:=(T_coord_Share.mk x94.Node x168)) (v := .agg (flat [si x94.Node,sl p169 (x168).length c170]).toArray) (z := .agg (flat [si 0,sl none 0 0]).toArray) (cells:=(flat [si x94.Node,sl p169 (x168).length c170]).toArray) (E:=141) hF hS (by kernel_rfl) rfl (by kernel_rfl) ⟨(p169,c170),rfl,(hS.pick [0] (by kernel_rfl)).ro⟩ (by kernel_rfl) (by kernel_rfl) (by kernel_rfl) (by kernel_rfl) (by kernel_rfl) fun p171 κ a w hF hS=>?_
 refine ⟨fun _=>(hS.sx [2,3,4,6,7,8,9] [3,4,5,6,7,8,9]),?_⟩
 refine ago 12 hF rfl ?_
 refine wo_append (ty:=t_coord_Share) hF hS (by kernel_rfl) 5 5 0 rfl rfl rfl (by kernel_rfl) (by kernel_rfl) rfl rfl rfl hx172 (by kernel_rfl) (i:=Tryz.t141) (z := .agg (flat [si 0,sl none 0 0]).toArray) (by kernel_rfl) (by kernel_rfl) (by kernel_rfl) fun p173 c174 κ a w hF hS=>?_
 refine ⟨fun _=>(hS.sx [2,3,4,6,7,8,9] [4,5,6,7,8,9,10]),?_⟩
 refine anp [13,14] [0,1,3,9,33,34,35,66,68] hF (hS.sx [2,3,4,6,7,8,9] [4,5,6,7,8,9,10]) fun a hF=>?_
 refine ago 15 hF rfl ?_
 refine wst hF hS 3 1 1 [sl p173 (x172).length c174] (sgN 1 sgNil) fun a w hF hS=>?_
 refine ⟨notE,?_⟩
 refine and_ ?_
 refine hK92 _ _ ?_
 refine wpIn_region_lit ?_
 refine wp 2 [0,1,3,9,33,34,35] hF fun a hF=>?_
 refine wpListIn_nil ?_
 exact ⟨fuel1,Nat.lt_succ_self _,_,x172,p173,c174,IntKind.i64.wrap (y89+1),hF.kp [0,1,3,9,33,34,35],hS.sp [3,4,5,6,7,8,9] [4,5,0,7,8],H⟩
 refine cond_f hF (by kernel_rfl) hb ?_
 refine wpIn_exit ?_
 refine hK34 _ _ ?_
 refine wpIn_seq_k fun K175 hK175=>?_
 refine wpIn_region_lit ?_
 refine wp 3 [1,9,72] hF fun a hF=>?_
 refine wc (wld hF hS 1 0 0 fun a hF=>?_)
 refine wl_pure (L':=[(73,.map p2),(74,vu a8),(75,pt b33 0)]) 2 [73,74,75] hF (by kernel_rfl) fun a hF=>?_
 obtain ⟨cs176,hS⟩:=hS.foldI (ck:=c_coord_entry) (fs:=q_coord_entry) b33 (p87,c88,(some b31),#[],0,(some b32),#[],0) (T_coord_entry.mk a9 y86 (some []) (some []) 0 false) [0,3,4] [1,2,5,6] [2,3,4] (by decide) (by kernel_rfl) (by kernel_rfl)
 refine bind_split H (fun x177 hx177 H=>?_)
 obtain ⟨p178,hbx177⟩:=hS.mpPutE 4 rfl hx177 (some b33)
 refine wc (wo_mapUpdate (KT:=32) (E:=182) (kt:=(kInt .u64)) (agg:=false) (t:=fPtr.ty) hF hS (by kernel_rfl) 3 0 (k:=a8) (v:=some b33) (cs:=flat [(1,[pt b33 0])]) rfl (by kernel_rfl) (by kernel_rfl) (by kernel_rfl) rfl rfl rfl hbx177 (by kernel_rfl) (by kernel_rfl) fun m180 c181 a w hF hS=>?_)
 obtain ⟨cs179,hS⟩:=hS.mpSetI 0 4 [1,2,3] (by decide) rfl rfl hx177 hbx177
 have hS:=hS.add (m:=MP.const ((mGet p178 a8).getD none=some b33)) (mPut_get hbx177)
 refine wpListIn_nil ?_
 refine hK175 _ _ ?_
 refine wpIn_seq_k fun K182 hK182=>?_
 refine wpIn_region_lit ?_
 refine wp 1 [8] hF fun a hF=>?_
 refine wpListIn_nil ?_
 refine hK182 _ _ ?_
 refine wpIn_ret ?_
 cases H
 exact ret_done hF hS (res1 Tryz.results88 (rvt hF)) ⟨p2,m180,c181,p178,cs179,rfl,hS.sp [1,3,0] [1]⟩
set_option maxRecDepth 20000 in
set_option maxHeartbeats 8000000 in
theorem C_coord_Table_Vote (N:Nat){Ms:List Nat}{κ0:Gh}{w0:World}(a1:T_coord_Table)(a8:Int)(a9:Int)(a10:Int)(p2:Option Nat)(m3:Array MapEntry)(c4:Nat)(p5:Mp Int (Option Nat))(cs6:List Nat)(b7:Nat)(hB:SB Ms κ0 w0 [.box b7 172 [(1,[.map p2])],.ext (objX p2 (.map m3 c4)),.ext (mpX o_coord_entry p5 cs6 a1.open_ none)] [Map.mp (kInt .u64) false fPtr.ty p2 m3 c4 p5]){r:(Int×Bool×Int×T_coord_Table)}(H:M.coord_Table_Vote N a1 a8 a9 a10=some r) :
    Calls Tryz.prog 69 #[pt b7 0,vu a8,vi a9,vu a10] w0 (Post Ms κ0 w0 fun v κ w => ∃(p142:Option Nat) (m143:Array MapEntry) (c144:Nat) (p145:Mp Int (Option Nat)) (cs146:List Nat),v = .tuple #[vu r.1,vb r.2.1,vi r.2.2.1]∧SS Ms κ0 w0 κ w [.box b7 172 [(1,[.map p142])],.ext (objX p142 (.map m143 c144)),.ext (mpX o_coord_entry p145 cs146 r.2.2.2.open_ none)] [Map.mp (kInt .u64) false fPtr.ty p142 m143 c144 p145]):=by
 have hS:=hB.hS
 have hfr:=hS.fresh
 refine enter (N:=(79)) (L:=[(0,pt b7 0),(1,vu a8),(2,vi a9),(3,vu a10)]) Tryz.func69 rfl Tryz.ntmps69 (show 4≤(79) by decide) rfl fun a hF=>?_
 unfold M.coord_Table_Vote at H
 refine wpIn_seq_k fun K11 hK11=>?_
 refine wpIn_region_lit ?_
 refine wp 3 (rg 4) hF fun a hF=>?_
 refine wpListIn_nil ?_
 refine hK11 _ _ ?_
 refine wpIn_seq_k fun K12 hK12=>?_
 refine wpIn_region_lit ?_
 refine wp 3 [2,3,16,17,18] hF fun a hF=>?_
 refine bind_split H (fun x13 hx13 H=>?_)
 refine wc (wcS 3 [0,1,2] hF hS (fun hS=>C_coord_Table_find N (T_coord_Table.mk a1.open_) a8 a9 p2 m3 c4 p5 cs6 b7 (hS.sbK [0]) hx13) ?_)
 rintro _ κ w a ⟨p14,cs15,rfl,h2⟩ hF hB
 have hS:=hB _ _ h2
 refine wp 5 [2,3,11,12] hF fun a hF=>?_
 refine wpListIn_nil ?_
 refine hK12 _ _ ?_
 refine wpIn_seq_k fun K16 hK16=>?_
 refine wpIn_seq_k fun K17 hK17=>?_
 refine wpIn_region_lit ?_
 refine wp 2 [2,3,11,12,23] hF fun a hF=>?_
 refine wpListIn_nil ?_
 refine hK17 _ _ ?_
 refine bif_split H (fun hb H=>?_) (fun hb H=>?_)
 refine cond_t hF (by kernel_rfl) hb ?_
 refine wpIn_seq_k fun K18 hK18=>?_
 refine wpIn_region_lit ?_
 refine wp 4 [8,9,10] hF fun a hF=>?_
 refine wpListIn_nil ?_
 refine hK18 _ _ ?_
 refine wpIn_ret ?_
 cases H
 exact ret_done hF hS (res3 Tryz.results69 (rvt hF) (rvt hF) (rvt hF)) ⟨p2,m3,c4,p5,cs15,rfl,hS.sp [0,1,2] [1]⟩
 refine cond_f hF (by kernel_rfl) hb ?_
 refine wpIn_skip ?_
 refine hK16 _ _ ?_
 refine wpIn_seq_k fun K19 hK19=>?_
 refine wpIn_seq_k fun K20 hK20=>?_
 refine bind_split H (fun x21 hmx21 H=>?_)
 obtain ⟨hcd,hmx21⟩:=bif_some hmx21
 have hqk22:=(hS.get 0 rfl:_=true→_) hcd
 obtain ⟨b23,cs24,cs25,hpq,hS⟩:=hS.mpTakeP 2 rfl hmx21 hqk22
 have hG3:=hF
 subst hpq
 have hF:=hG3
 obtain ⟨⟨p26,c27,p28,m29,c30,p31,m32,c33⟩,hS⟩:=hS.unfI (ck:=c_coord_entry) (fs:=q_coord_entry) 0 rfl
 refine wpIn_region_lit ?_
 refine wp 3 [2,3,11,28] hF fun a hF=>?_
 refine wc (wld hF hS 0 2 0 fun a hF=>?_)
 refine wl_pure (L':=[(2,vi a9),(3,vu a10),(11,pt b23 0),(29,.map p28),(30,vi a9)]) 1 [2,3,11,29,30] hF (by kernel_rfl) fun a hF=>?_
 refine bind_split H (fun x34 hx34 H=>?_)
 refine wc (wo_lookup (KT:=3) (E:=32) (kt:=(kInt .i64)) (agg:=false) (t:=(fInt .u64).ty) hF hS (by kernel_rfl) 1 1 (k:=a9) (zc:=flat [su 0]) (zm:=0) rfl (by kernel_rfl) (by kernel_rfl) rfl rfl hx34 (by kernel_rfl) (by kernel_rfl) (by kernel_rfl) (fun _ _=>rfl) ?_)
 rintro _ a rfl hF
 refine wp 5 [2,3,11,14] hF fun a hF=>?_
 refine wpListIn_nil ?_
 obtain ⟨cs35,hS⟩:=hS.foldI (ck:=c_coord_entry) (fs:=q_coord_entry) b23 (p26,c27,p28,m29,c30,p31,m32,c33) x21 [0,1,2] [3,4,5] [0,1,2] (by decide) (by kernel_rfl) (by kernel_rfl)
 obtain ⟨cs36,hS⟩:=hS.mpBackI 0 1 [2,3] (by decide) rfl rfl hqk22 hmx21
 have hS:=hS.add (m:=MP.const ((mGet p5 a8).getD none=(some b23))) hqk22
 refine hK20 _ _ ?_
 refine wpIn_seq_k fun K37 hK37=>?_
 refine wpIn_region_lit ?_
 refine wp 1 [2,3,11,34] hF fun a hF=>?_
 refine wpListIn_nil ?_
 refine hK37 _ _ ?_
 refine bif_split H (fun hb H=>?_) (fun hb H=>?_)
 refine cond_t hF (by kernel_rfl) hb ?_
 refine wpIn_seq_k fun K38 hK38=>?_
 refine wpIn_region_lit ?_
 refine wp 3 [8,9,10] hF fun a hF=>?_
 refine wpListIn_nil ?_
 refine hK38 _ _ ?_
 refine wpIn_ret ?_
 cases H
 exact ret_done hF hS (res3 Tryz.results69 (rvt hF) (rvt hF) (rvt hF)) ⟨p2,m3,c4,p5,cs36,rfl,hS.sp [1,2,0] [5]⟩
 refine cond_f hF (by kernel_rfl) hb ?_
 refine wpIn_skip ?_
 refine hK19 _ _ ?_
 refine wpIn_seq_k fun K39 hK39=>?_
 refine wpIn_seq_k fun K40 hK40=>?_
 have hqk42:(mGet p5 a8).getD none=(some b23):=hS.get 0 rfl
 refine bind_split H (fun x41 hmx41 H=>?_)
 obtain ⟨_,cs44,cs45,hpq,hS⟩:=hS.mpTakeP 0 rfl hmx41 hqk42
 cases hpq
 obtain ⟨⟨p46,c47,p48,m49,c50,p51,m52,c53⟩,hS⟩:=hS.unfI (ck:=c_coord_entry) (fs:=q_coord_entry) 0 rfl
 refine wpIn_region_lit ?_
 refine wp 4 [2,3,11,35,38] hF fun a hF=>?_
 refine wc (wld hF hS 0 0 0 fun a hF=>?_)
 refine wp 1 [2,3,11,40] hF fun a hF=>?_
 refine wpListIn_nil ?_
 obtain ⟨cs54,hS⟩:=hS.foldI (ck:=c_coord_entry) (fs:=q_coord_entry) b23 (p46,c47,p48,m49,c50,p51,m52,c53) x41 [0,1,2] [3,4,5] [0,1,2] (by decide) (by kernel_rfl) (by kernel_rfl)
 obtain ⟨cs55,hS⟩:=hS.mpBackI 0 1 [2,3] (by decide) rfl rfl hqk42 hmx41
 refine hK40 _ _ ?_
 refine bif_split H (fun hb H=>?_) (fun hb H=>?_)
 refine cond_t hF (by kernel_rfl) hb ?_
 refine wpIn_seq_k fun K56 hK56=>?_
 refine wpIn_region_lit ?_
 refine wp 3 [8,9,10] hF fun a hF=>?_
 refine wpListIn_nil ?_
 refine hK56 _ _ ?_
 refine wpIn_ret ?_
 cases H
 exact ret_done hF hS (res3 Tryz.results69 (rvt hF) (rvt hF) (rvt hF)) ⟨p2,m3,c4,p5,cs55,rfl,hS.sp [1,2,0] [8]⟩
 refine cond_f hF (by kernel_rfl) hb ?_
 refine wpIn_skip ?_
 refine hK39 _ _ ?_
 refine wpIn_seq_k fun K57 hK57=>?_
 have hqk59:(mGet p5 a8).getD none=(some b23):=hS.get 3 rfl
 refine bind_split H (fun x58 hmx58 H=>?_)
 obtain ⟨_,cs61,cs62,hpq,hS⟩:=hS.mpTakeP 0 rfl hmx58 hqk59
 cases hpq
 obtain ⟨⟨p63,c64,p65,m66,c67,p68,m69,c70⟩,hS⟩:=hS.unfI (ck:=c_coord_entry) (fs:=q_coord_entry) 0 rfl
 refine wpIn_region_lit ?_
 refine wp 3 [2,3,11,43] hF fun a hF=>?_
 refine wc (wld hF hS 0 2 0 fun a hF=>?_)
 refine wl_pure (L':=[(3,vu a10),(11,pt b23 0),(44,.map p65),(45,vi a9),(46,vu a10)]) 2 [3,11,44,45,46] hF (by kernel_rfl) fun a hF=>?_
 refine bind_split H (fun x71 hx71 H=>?_)
 refine wc (wo_mapUpdate (KT:=3) (E:=32) (kt:=(kInt .i64)) (agg:=false) (t:=(fInt .u64).ty) hF hS (by kernel_rfl) 1 1 (k:=a9) (v:=a10) (cs:=flat [su a10]) rfl (by kernel_rfl) (by kernel_rfl) (by kernel_rfl) rfl rfl rfl hx71 (by kernel_rfl) (by kernel_rfl) fun m72 c73 a w hF hS=>?_)
 refine wpListIn_nil ?_
 obtain ⟨cs74,hS⟩:=hS.foldI (ck:=c_coord_entry) (fs:=q_coord_entry) b23 (p63,c64,p65,m72,c73,p68,m69,c70) (T_coord_entry.mk x58.low x58.shares x71 x58.ended x58.at_ x58.decided) [0,1,2] [3,4,5] [1,0,3] (by decide) (by kernel_rfl) (by kernel_rfl)
 obtain ⟨cs75,hS⟩:=hS.mpPutI 0 1 [2,3] (by decide) rfl rfl hqk59 hmx58 (mPut_of hmx58)
 refine hK57 _ _ ?_
 refine wpIn_seq_k fun K76 hK76=>?_
 have hqk78:(mGet p5 a8).getD none=(some b23):=hS.get 7 rfl
 refine bind_split H (fun x77 hmx77 H=>?_)
 obtain ⟨_,cs80,cs81,hpq,hS⟩:=hS.mpTakeP 0 rfl hmx77 hqk78
 cases hpq
 obtain ⟨⟨p82,c83,p84,m85,c86,p87,m88,c89⟩,hS⟩:=hS.unfI (ck:=c_coord_entry) (fs:=q_coord_entry) 0 rfl
 refine wpIn_region_lit ?_
 refine wp 4 [3,11,47,50] hF fun a hF=>?_
 refine wc (wld hF hS 0 4 0 fun a hF=>?_)
 refine wp 4 [11,53,55] hF fun a hF=>?_
 refine wc (wst hF hS 0 4 1 [su (if a10 > x77.at_ then a10 else x77.at_)] (sgN 1 sgNil) fun a w hF hS=>?_)
 refine wpListIn_nil ?_
 obtain ⟨cs90,hS⟩:=hS.foldI (ck:=c_coord_entry) (fs:=q_coord_entry) b23 (p82,c83,p84,m85,c86,p87,m88,c89) (T_coord_entry.mk x77.low x77.shares x77.votes x77.ended (if a10 > x77.at_ then a10 else x77.at_) x77.decided) [0,1,2] [3,4,5] [0,1,2] (by decide) (by kernel_rfl) (by kernel_rfl)
 obtain ⟨cs91,hS⟩:=hS.mpPutI 0 1 [2,3] (by decide) rfl rfl hqk78 hmx77 (mPut_of hmx77)
 refine hK76 _ _ ?_
 refine wpIn_seq_k fun K92 hK92=>?_
 have hqk94:(mGet p5 a8).getD none=(some b23):=hS.get 10 rfl
 refine bind_split H (fun x93 hmx93 H=>?_)
 obtain ⟨_,cs96,cs97,hpq,hS⟩:=hS.mpTakeP 0 rfl hmx93 hqk94
 cases hpq
 obtain ⟨⟨p98,c99,p100,m101,c102,p103,m104,c105⟩,hS⟩:=hS.unfI (ck:=c_coord_entry) (fs:=q_coord_entry) 0 rfl
 refine rgS hS [14] ?_
 have hS:=hS.drew
 refine anp [0,1,2,3,6,7,8] [11,56,59,64] hF (hS.sx (rg 6) (rg 19)) fun a hF=>?_
 refine atk 4 (some 60) hF (hS.sx (rg 6) (rg 19)) rfl (vld 0 2 0) fun a hF=>?_
 refine atk 9 (some 65) hF (hS.sx (rg 6) (rg 19)) rfl (vld 0 1 0) fun a hF=>?_
 refine any_pure [10] [11,56,60,66] (L':=[(11,pt b23 0),(56,pt b23 0),(60,.map p100),(66,vi ((x93.shares).length:Int))]) (listed':=(bitA 15 2015)) (fuel:=5) hF (hS.sx (rg 6) (rg 19)) (by kernel_rfl) (by intro c a w t v h; cases t<;>exact h) (by kernel_rfl) rfl fun a hF=>?_
 refine ago 5 hF rfl ?_
 refine wo_lenMap (KT:=3) (E:=32) (kt:=(kInt .i64)) (agg:=false) (t:=(fInt .u64).ty) hF hS (by kernel_rfl) 1 1 rfl (by kernel_rfl) rfl rfl (by kernel_rfl) fun a hF=>?_
 refine ⟨fun _=>(hS.sx (rg 6) (rg 19)),?_⟩
 refine anp [11,12,13] [11,67,69] hF (hS.sx (rg 6) (rg 19)) fun a hF=>?_
 refine ago 14 hF rfl ?_
 refine wst hF hS 0 5 1 [sb ((mLen x93.votes:Int)==((x93.shares).length:Int))] (sgN 1 sgNil) fun a w hF hS=>?_
 refine ⟨notE,?_⟩
 refine and_ ?_
 obtain ⟨cs106,hS⟩:=hS.foldI (ck:=c_coord_entry) (fs:=q_coord_entry) b23 (p98,c99,p100,m101,c102,p103,m104,c105) (T_coord_entry.mk x93.low x93.shares x93.votes x93.ended x93.at_ ((mLen x93.votes:Int)==((x93.shares).length:Int))) [0,1,2] [3,4,5] [0,1,2] (by decide) (by kernel_rfl) (by kernel_rfl)
 obtain ⟨cs107,hS⟩:=hS.mpPutI 0 1 [2,3] (by decide) rfl rfl hqk94 hmx93 (mPut_of hmx93)
 refine hK92 _ _ ?_
 refine wpIn_seq_k fun K108 hK108=>?_
 refine wpIn_seq_k fun K109 hK109=>?_
 have hqk111:(mGet p5 a8).getD none=(some b23):=hS.get 13 rfl
 refine bind_split H (fun x110 hmx110 H=>?_)
 obtain ⟨_,cs113,cs114,hpq,hS⟩:=hS.mpTakeP 0 rfl hmx110 hqk111
 cases hpq
 obtain ⟨⟨p115,c116,p117,m118,c119,p120,m121,c122⟩,hS⟩:=hS.unfI (ck:=c_coord_entry) (fs:=q_coord_entry) 0 rfl
 refine wpIn_region_lit ?_
 refine wp 3 [11,72] hF fun a hF=>?_
 refine wc (wld hF hS 0 5 0 fun a hF=>?_)
 refine wp 1 [11,74] hF fun a hF=>?_
 refine wpListIn_nil ?_
 obtain ⟨cs123,hS⟩:=hS.foldI (ck:=c_coord_entry) (fs:=q_coord_entry) b23 (p115,c116,p117,m118,c119,p120,m121,c122) x110 [0,1,2] [3,4,5] [0,1,2] (by decide) (by kernel_rfl) (by kernel_rfl)
 obtain ⟨cs124,hS⟩:=hS.mpBackI 0 1 [2,3] (by decide) rfl rfl hqk111 hmx110
 refine hK109 _ _ ?_
 refine bif_split H (fun hb H=>?_) (fun hb H=>?_)
 refine cond_t hF (by kernel_rfl) hb ?_
 refine wpIn_seq_k fun K125 hK125=>?_
 refine wpIn_region_lit ?_
 refine wp 3 [8,9,10] hF fun a hF=>?_
 refine wpListIn_nil ?_
 refine hK125 _ _ ?_
 refine wpIn_ret ?_
 cases H
 exact ret_done hF hS (res3 Tryz.results69 (rvt hF) (rvt hF) (rvt hF)) ⟨p2,m3,c4,p5,cs124,rfl,hS.sp [1,2,0] [21]⟩
 refine cond_f hF (by kernel_rfl) hb ?_
 refine wpIn_skip ?_
 refine hK108 _ _ ?_
 refine wpIn_seq_k fun K126 hK126=>?_
 have hqk128:(mGet p5 a8).getD none=(some b23):=hS.get 16 rfl
 refine bind_split H (fun x127 hmx127 H=>?_)
 obtain ⟨_,cs130,cs131,hpq,hS⟩:=hS.mpTakeP 0 rfl hmx127 hqk128
 cases hpq
 obtain ⟨⟨p132,c133,p134,m135,c136,p137,m138,c139⟩,hS⟩:=hS.unfI (ck:=c_coord_entry) (fs:=q_coord_entry) 0 rfl
 refine wpIn_region_lit ?_
 refine wp 3 [77] hF fun a hF=>?_
 refine wc (wld hF hS 0 4 0 fun a hF=>?_)
 refine wp 3 [8,9,10] hF fun a hF=>?_
 refine wpListIn_nil ?_
 obtain ⟨cs140,hS⟩:=hS.foldI (ck:=c_coord_entry) (fs:=q_coord_entry) b23 (p132,c133,p134,m135,c136,p137,m138,c139) x127 [0,1,2] [3,4,5] [0,1,2] (by decide) (by kernel_rfl) (by kernel_rfl)
 obtain ⟨cs141,hS⟩:=hS.mpBackI 0 1 [2,3] (by decide) rfl rfl hqk128 hmx127
 refine hK126 _ _ ?_
 refine wpIn_ret ?_
 cases H
 exact ret_done hF hS (res3 Tryz.results69 (rvt hF) (rvt hF) (rvt hF)) ⟨p2,m3,c4,p5,cs141,rfl,hS.sp [1,2,0] [24]⟩
set_option maxRecDepth 20000 in
set_option maxHeartbeats 8000000 in
theorem C_coord_Table_End (N:Nat){Ms:List Nat}{κ0:Gh}{w0:World}(a1:T_coord_Table)(a8:Int)(a9:Int)(p2:Option Nat)(m3:Array MapEntry)(c4:Nat)(p5:Mp Int (Option Nat))(cs6:List Nat)(b7:Nat)(hB:SB Ms κ0 w0 [.box b7 172 [(1,[.map p2])],.ext (objX p2 (.map m3 c4)),.ext (mpX o_coord_entry p5 cs6 a1.open_ none)] [Map.mp (kInt .u64) false fPtr.ty p2 m3 c4 p5]){r:(Bool×Int×T_coord_Table)}(H:M.coord_Table_End N a1 a8 a9=some r) :
    Calls Tryz.prog 72 #[pt b7 0,vu a8,vi a9] w0 (Post Ms κ0 w0 fun v κ w => ∃(p96:Option Nat) (m97:Array MapEntry) (c98:Nat) (p99:Mp Int (Option Nat)) (cs100:List Nat),v = .tuple #[vb r.1,vi r.2.1]∧SS Ms κ0 w0 κ w [.box b7 172 [(1,[.map p96])],.ext (objX p96 (.map m97 c98)),.ext (mpX o_coord_entry p99 cs100 r.2.2.open_ none)] [Map.mp (kInt .u64) false fPtr.ty p96 m97 c98 p99]):=by
 have hS:=hB.hS
 have hfr:=hS.fresh
 refine enter (N:=(52)) (L:=[(0,pt b7 0),(1,vu a8),(2,vi a9)]) Tryz.func72 rfl Tryz.ntmps72 (show 3≤(52) by decide) rfl fun a hF=>?_
 unfold M.coord_Table_End at H
 refine wpIn_seq_k fun K10 hK10=>?_
 refine wpIn_region_lit ?_
 refine wp 2 [0,1,2] hF fun a hF=>?_
 refine wpListIn_nil ?_
 refine hK10 _ _ ?_
 refine wpIn_seq_k fun K11 hK11=>?_
 refine wpIn_region_lit ?_
 refine wp 3 [0,1,2,11,12,13] hF fun a hF=>?_
 refine bind_split H (fun x12 hx12 H=>?_)
 refine wc (wcS 3 [0,1,2] hF hS (fun hS=>C_coord_Table_find N (T_coord_Table.mk a1.open_) a8 a9 p2 m3 c4 p5 cs6 b7 (hS.sbK [0]) hx12) ?_)
 rintro _ κ w a ⟨p13,cs14,rfl,h2⟩ hF hB
 have hS:=hB _ _ h2
 refine wp 5 [0,1,2,8,9] hF fun a hF=>?_
 refine wpListIn_nil ?_
 refine hK11 _ _ ?_
 refine wpIn_seq_k fun K15 hK15=>?_
 refine wpIn_seq_k fun K16 hK16=>?_
 refine wpIn_region_lit ?_
 refine wp 2 [0,1,2,8,9,18] hF fun a hF=>?_
 refine wpListIn_nil ?_
 refine hK16 _ _ ?_
 refine bif_split H (fun hb H=>?_) (fun hb H=>?_)
 refine cond_t hF (by kernel_rfl) hb ?_
 refine wpIn_seq_k fun K17 hK17=>?_
 refine wpIn_region_lit ?_
 refine wp 3 [6,7] hF fun a hF=>?_
 refine wpListIn_nil ?_
 refine hK17 _ _ ?_
 refine wpIn_ret ?_
 cases H
 exact ret_done hF hS (res2 Tryz.results72 (rvt hF) (rvt hF)) ⟨p2,m3,c4,p5,cs14,rfl,hS.sp [0,1,2] [1]⟩
 refine cond_f hF (by kernel_rfl) hb ?_
 refine wpIn_skip ?_
 refine hK15 _ _ ?_
 refine wpIn_seq_k fun K18 hK18=>?_
 refine wpIn_seq_k fun K19 hK19=>?_
 refine bind_split H (fun x20 hmx20 H=>?_)
 obtain ⟨hcd,hmx20⟩:=bif_some hmx20
 have hqk21:=(hS.get 0 rfl:_=true→_) hcd
 obtain ⟨b22,cs23,cs24,hpq,hS⟩:=hS.mpTakeP 2 rfl hmx20 hqk21
 have hG3:=hF
 subst hpq
 have hF:=hG3
 obtain ⟨⟨p25,c26,p27,m28,c29,p30,m31,c32⟩,hS⟩:=hS.unfI (ck:=c_coord_entry) (fs:=q_coord_entry) 0 rfl
 refine wpIn_region_lit ?_
 refine wp 3 [0,1,2,8,22] hF fun a hF=>?_
 refine wc (wld hF hS 0 5 0 fun a hF=>?_)
 refine wp 1 [0,1,2,8,24] hF fun a hF=>?_
 refine wpListIn_nil ?_
 obtain ⟨cs33,hS⟩:=hS.foldI (ck:=c_coord_entry) (fs:=q_coord_entry) b22 (p25,c26,p27,m28,c29,p30,m31,c32) x20 [0,1,2] [3,4,5] [0,1,2] (by decide) (by kernel_rfl) (by kernel_rfl)
 obtain ⟨cs34,hS⟩:=hS.mpBackI 0 1 [2,3] (by decide) rfl rfl hqk21 hmx20
 have hS:=hS.add (m:=MP.const ((mGet p5 a8).getD none=(some b22))) hqk21
 refine hK19 _ _ ?_
 refine bif_split H (fun hb H=>?_) (fun hb H=>?_)
 refine cond_t hF (by kernel_rfl) hb ?_
 refine wpIn_seq_k fun K35 hK35=>?_
 refine wpIn_region_lit ?_
 refine wp 2 [6,7] hF fun a hF=>?_
 refine wpListIn_nil ?_
 refine hK35 _ _ ?_
 refine wpIn_ret ?_
 cases H
 exact ret_done hF hS (res2 Tryz.results72 (rvt hF) (rvt hF)) ⟨p2,m3,c4,p5,cs34,rfl,hS.sp [1,2,0] [5]⟩
 refine cond_f hF (by kernel_rfl) hb ?_
 refine wpIn_skip ?_
 refine hK18 _ _ ?_
 refine wpIn_seq_k fun K36 hK36=>?_
 refine wpIn_seq_k fun K37 hK37=>?_
 have hqk39:(mGet p5 a8).getD none=(some b22):=hS.get 0 rfl
 refine bind_split H (fun x38 hmx38 H=>?_)
 obtain ⟨_,cs41,cs42,hpq,hS⟩:=hS.mpTakeP 0 rfl hmx38 hqk39
 cases hpq
 obtain ⟨⟨p43,c44,p45,m46,c47,p48,m49,c50⟩,hS⟩:=hS.unfI (ck:=c_coord_entry) (fs:=q_coord_entry) 0 rfl
 refine wpIn_region_lit ?_
 refine wp 3 [0,1,2,8,27] hF fun a hF=>?_
 refine wc (wld hF hS 0 3 0 fun a hF=>?_)
 refine wl_pure (L':=[(0,pt b7 0),(1,vu a8),(2,vi a9),(8,pt b22 0),(28,.map p48),(29,vi a9)]) 1 [0,1,2,8,28,29] hF (by kernel_rfl) fun a hF=>?_
 refine bind_split H (fun x51 hx51 H=>?_)
 refine wc (wo_lookup (KT:=3) (E:=4) (kt:=(kInt .i64)) (agg:=false) (t:=fBool.ty) hF hS (by kernel_rfl) 2 2 (k:=a9) (zc:=flat [sb false]) (zm:=false) rfl (by kernel_rfl) (by kernel_rfl) rfl rfl hx51 (by kernel_rfl) (by kernel_rfl) (by kernel_rfl) (fun _ _=>rfl) ?_)
 rintro _ a rfl hF
 refine wpListIn_nil ?_
 obtain ⟨cs52,hS⟩:=hS.foldI (ck:=c_coord_entry) (fs:=q_coord_entry) b22 (p43,c44,p45,m46,c47,p48,m49,c50) x38 [0,1,2] [3,4,5] [0,1,2] (by decide) (by kernel_rfl) (by kernel_rfl)
 obtain ⟨cs53,hS⟩:=hS.mpBackI 0 1 [2,3] (by decide) rfl rfl hqk39 hmx38
 refine hK37 _ _ ?_
 refine bif_split H (fun hb H=>?_) (fun hb H=>?_)
 refine cond_t hF (by kernel_rfl) hb ?_
 refine wpIn_seq_k fun K54 hK54=>?_
 refine wpIn_region_lit ?_
 refine wp 2 [6,7] hF fun a hF=>?_
 refine wpListIn_nil ?_
 refine hK54 _ _ ?_
 refine wpIn_ret ?_
 cases H
 exact ret_done hF hS (res2 Tryz.results72 (rvt hF) (rvt hF)) ⟨p2,m3,c4,p5,cs53,rfl,hS.sp [1,2,0] [8]⟩
 refine cond_f hF (by kernel_rfl) hb ?_
 refine wpIn_skip ?_
 refine hK36 _ _ ?_
 refine wpIn_seq_k fun K55 hK55=>?_
 have hqk57:(mGet p5 a8).getD none=(some b22):=hS.get 3 rfl
 refine bind_split H (fun x56 hmx56 H=>?_)
 obtain ⟨_,cs59,cs60,hpq,hS⟩:=hS.mpTakeP 0 rfl hmx56 hqk57
 cases hpq
 obtain ⟨⟨p61,c62,p63,m64,c65,p66,m67,c68⟩,hS⟩:=hS.unfI (ck:=c_coord_entry) (fs:=q_coord_entry) 0 rfl
 refine wpIn_region_lit ?_
 refine wp 3 [0,1,2,8,33] hF fun a hF=>?_
 refine wc (wld hF hS 0 3 0 fun a hF=>?_)
 refine wl_pure (L':=[(0,pt b7 0),(1,vu a8),(8,pt b22 0),(34,.map p66),(35,vi a9)]) 1 [0,1,8,34,35] hF (by kernel_rfl) fun a hF=>?_
 refine bind_split H (fun x69 hx69 H=>?_)
 refine wc (wo_mapUpdate (KT:=3) (E:=4) (kt:=(kInt .i64)) (agg:=false) (t:=fBool.ty) hF hS (by kernel_rfl) 2 2 (k:=a9) (v:=true) (cs:=flat [sb true]) rfl (by kernel_rfl) (by kernel_rfl) (by kernel_rfl) rfl rfl rfl hx69 (by kernel_rfl) (by kernel_rfl) fun m70 c71 a w hF hS=>?_)
 refine wpListIn_nil ?_
 obtain ⟨cs72,hS⟩:=hS.foldI (ck:=c_coord_entry) (fs:=q_coord_entry) b22 (p61,c62,p63,m64,c65,p66,m70,c71) (T_coord_entry.mk x56.low x56.shares x56.votes x69 x56.at_ x56.decided) [0,1,2] [3,4,5] [1,2,0] (by decide) (by kernel_rfl) (by kernel_rfl)
 obtain ⟨cs73,hS⟩:=hS.mpPutI 0 1 [2,3] (by decide) rfl rfl hqk57 hmx56 (mPut_of hmx56)
 refine hK55 _ _ ?_
 refine wpIn_seq_k fun K74 hK74=>?_
 refine wpIn_seq_k fun K75 hK75=>?_
 have hqk77:(mGet p5 a8).getD none=(some b22):=hS.get 7 rfl
 refine bind_split H (fun x76 hmx76 H=>?_)
 obtain ⟨_,cs79,cs80,hpq,hS⟩:=hS.mpTakeP 0 rfl hmx76 hqk77
 cases hpq
 obtain ⟨⟨p81,c82,p83,m84,c85,p86,m87,c88⟩,hS⟩:=hS.unfI (ck:=c_coord_entry) (fs:=q_coord_entry) 0 rfl
 refine rgS hS [] ?_
 have hS:=hS.drew
 refine anp [0,1,2,5,6,7] [0,1,38,43] hF (hS.sx (rg 6) (rg 16)) fun a hF=>?_
 refine atk 3 (some 39) hF (hS.sx (rg 6) (rg 16)) rfl (vld 0 3 0) fun a hF=>?_
 refine atk 8 (some 44) hF (hS.sx (rg 6) (rg 16)) rfl (vld 0 1 0) fun a hF=>?_
 refine any_pure [9] [0,1,39,45] (L':=[(0,pt b7 0),(1,vu a8),(39,.map p86),(45,vi ((x76.shares).length:Int))]) (listed':=(bitA 11 1007)) (fuel:=2) hF (hS.sx (rg 6) (rg 16)) (by kernel_rfl) (by intro c a w t v h; cases t<;>exact h) (by kernel_rfl) rfl fun a hF=>?_
 refine ago 4 hF rfl ?_
 refine wo_lenMap (KT:=3) (E:=4) (kt:=(kInt .i64)) (agg:=false) (t:=fBool.ty) hF hS (by kernel_rfl) 2 2 rfl (by kernel_rfl) rfl rfl (by kernel_rfl) fun a hF=>?_
 refine ⟨fun _=>(hS.sx (rg 6) (rg 16)),?_⟩
 refine anp [10] [0,1,46] hF (hS.sx (rg 6) (rg 16)) fun a hF=>?_
 refine and_ ?_
 obtain ⟨cs89,hS⟩:=hS.foldI (ck:=c_coord_entry) (fs:=q_coord_entry) b22 (p81,c82,p83,m84,c85,p86,m87,c88) x76 [0,1,2] [3,4,5] [0,1,2] (by decide) (by kernel_rfl) (by kernel_rfl)
 obtain ⟨cs90,hS⟩:=hS.mpBackI 0 1 [2,3] (by decide) rfl rfl hqk77 hmx76
 refine hK75 _ _ ?_
 refine bif_split H (fun hb H=>?_) (fun hb H=>?_)
 refine cond_t hF (by kernel_rfl) hb ?_
 refine wpIn_seq_k fun K91 hK91=>?_
 refine wpIn_region_lit ?_
 refine wp 2 [6,7] hF fun a hF=>?_
 refine wpListIn_nil ?_
 refine hK91 _ _ ?_
 refine wpIn_ret ?_
 cases H
 exact ret_done hF hS (res2 Tryz.results72 (rvt hF) (rvt hF)) ⟨p2,m3,c4,p5,cs90,rfl,hS.sp [1,2,0] [15]⟩
 refine cond_f hF (by kernel_rfl) hb ?_
 refine wpIn_skip ?_
 refine hK74 _ _ ?_
 refine wpIn_seq_k fun K92 hK92=>?_
 refine wpIn_region_lit ?_
 refine wp 3 [1,49] hF fun a hF=>?_
 refine wc (wld hF hS 1 0 0 fun a hF=>?_)
 refine wl_pure (L':=[(50,.map p2),(51,vu a8)]) 1 [50,51] hF (by kernel_rfl) fun a hF=>?_
 refine wc (wo_delete (KT:=32) (E:=182) (kt:=(kInt .u64)) (agg:=false) (t:=fPtr.ty) hF hS (by kernel_rfl) 2 15 (k:=a8) rfl (by kernel_rfl) (by kernel_rfl) rfl rfl (by kernel_rfl) (by kernel_rfl) fun m93 a w hsub hF hS=>?_)
 obtain ⟨cs94,hS⟩:=hS.mpDelI 0 [1,2] (by decide) rfl a8
 refine wpListIn_nil ?_
 refine hK92 _ _ ?_
 refine wpIn_seq_k fun K95 hK95=>?_
 refine wpIn_region_lit ?_
 refine wp 2 [6,7] hF fun a hF=>?_
 refine wpListIn_nil ?_
 refine hK95 _ _ ?_
 refine wpIn_ret ?_
 cases H
 exact ret_done hF hS (res2 Tryz.results72 (rvt hF) (rvt hF)) ⟨p2,m93,c4,(mDel p5 a8),cs94,rfl,hS.sp [1,2,0] [0]⟩
set_option maxRecDepth 20000 in
set_option maxHeartbeats 8000000 in
theorem C_coord_Table_Writes (N:Nat){Ms:List Nat}{κ0:Gh}{w0:World}(a1:T_coord_Table)(a8:Int)(p2:Option Nat)(m3:Array MapEntry)(c4:Nat)(p5:Mp Int (Option Nat))(cs6:List Nat)(b7:Nat)(hB:SB Ms κ0 w0 [.box b7 172 [(1,[.map p2])],.ext (objX p2 (.map m3 c4)),.ext (mpX o_coord_entry p5 cs6 a1.open_ none)] [Map.mp (kInt .u64) false fPtr.ty p2 m3 c4 p5]){r:((List T_api_Ver))}(H:M.coord_Table_Writes N a1 a8=some r) :
    Calls Tryz.prog 68 #[pt b7 0,vu a8] w0 (Post Ms κ0 w0 fun v κ w => ∃(p110:Option Addr) (c111:Nat) (cs112:List Nat),v = .slice p110 (r).length c111∧SS Ms κ0 w0 κ w [.box b7 172 [(1,[.map p2])],.ext (objX p2 (.map m3 c4)),.ext (mpX o_coord_entry p5 cs112 a1.open_ none),.tok p110 48 6 (r).length c111] [Ro.mp f_api_Ver.ty p110 c111 r]):=by
 have hS:=hB.hS
 have hfr:=hS.fresh
 refine enter (N:=(39)) (L:=[(0,pt b7 0),(1,vu a8)]) Tryz.func68 rfl Tryz.ntmps68 (show 2≤(39) by decide) rfl fun a hF=>?_
 unfold M.coord_Table_Writes at H
 refine wpIn_seq_k fun K9 hK9=>?_
 refine wpIn_region_lit ?_
 refine wl_pure (L':=[(0,pt b7 0),(1,vu a8)]) 1 [0,1] hF (by kernel_rfl) fun a hF=>?_
 refine wpListIn_nil ?_
 refine hK9 _ _ ?_
 refine wpIn_seq_k fun K10 hK10=>?_
 refine wpIn_seq_k fun K11 hK11=>?_
 refine bind_split H (fun v14 hv14 H=>?_)
 refine code_join (fun a w => ∃(κ:Gh) (cs12:List Nat),Fr (39) [] [(0,pt b7 0),(1,vu a8),(18,vb v14)] a∧SS Ms κ0 w0 κ w [.box b7 172 [(1,[.map p2])],.ext (objX p2 (.map m3 c4)),.ext (mpX o_coord_entry p5 cs12 a1.open_ none)] [Map.mp (kInt .u64) false fPtr.ty p2 m3 c4 p5]∧True) ?_ ?_
 obtain ⟨p15,hlp15⟩ : ∃p,(mGet p5 a8).getD none=p:=⟨_,rfl⟩
 have hS:=hS.add (m:=MP.const ((mGet p5 a8).getD none=p15)) hlp15
 have hqk17:(mGet p5 a8).getD none=p15:=hS.get 0 rfl
 refine opt_split hv14 (fun hmx16 hv14=>?_) (fun x16 hmx16 hv14=>?_)
 have hpq:=hS.mpNone 2 rfl hmx16 hqk17
 have hG3:=hF
 subst hpq
 have hF:=hG3
 refine wpIn_region_lit ?_
 refine wp 6 [0,1,10,13] hF fun a hF=>?_
 refine wcg hF (wld hF hS 0 0 0 fun a hF=>?_)
 refine wl_pure (L':=[(0,pt b7 0),(1,vu a8),(10,vb false),(14,.map p2),(15,vu a8)]) 1 [0,1,10,14,15] hF (by kernel_rfl) fun a hF=>?_
 refine wcg hF (wo_lookupP (KT:=32) (E:=182) (kt:=(kInt .u64)) hF hS (by kernel_rfl) 1 1 (k:=a8) rfl (by kernel_rfl) (by kernel_rfl) rfl rfl hlp15 (by kernel_rfl) (by kernel_rfl) (by kernel_rfl) fun a hF=>?_)
 refine wp 2 [0,1,18] hF fun a hF=>?_
 refine wpListIn_nil ?_
 cases hv14
 exact ⟨_,cs6,hF.kp [0,1,18],hS.sp [0,1,2] [1],trivial⟩
 obtain ⟨b18,cs19,cs20,hpq,hS⟩:=hS.mpTakeP 2 rfl hmx16 hqk17
 have hG4:=hF
 subst hpq
 have hF:=hG4
 refine wpIn_region_lit ?_
 refine wp 6 [0,1,10,13] hF fun a hF=>?_
 refine wcg hF (wld hF hS 2 0 0 fun a hF=>?_)
 refine wl_pure (L':=[(0,pt b7 0),(1,vu a8),(10,vb false),(14,.map p2),(15,vu a8)]) 1 [0,1,10,14,15] hF (by kernel_rfl) fun a hF=>?_
 refine wcg hF (wo_lookupP (KT:=32) (E:=182) (kt:=(kInt .u64)) hF hS (by kernel_rfl) 3 1 (k:=a8) rfl (by kernel_rfl) (by kernel_rfl) rfl rfl hlp15 (by kernel_rfl) (by kernel_rfl) (by kernel_rfl) fun a hF=>?_)
 refine wp 2 [0,1,18] hF fun a hF=>?_
 refine wpListIn_nil ?_
 obtain ⟨cs21,hS⟩:=hS.mpBackI 0 1 [2,3] (by decide) rfl rfl hqk17 hmx16
 cases hv14
 exact ⟨_,cs21,hF.kp [0,1,18],hS.sp [1,2,0] [1],trivial⟩
 rintro a w ⟨κ,cs12,hF,hS,-⟩
 refine hK11 _ _ ?_
 refine bif_split H (fun hb H=>?_) (fun hb H=>?_)
 refine cond_t hF (by kernel_rfl) hb ?_
 refine wpIn_seq_k fun K22 hK22=>?_
 refine wpIn_region_lit ?_
 refine wp 1 [4] hF fun a hF=>?_
 refine wpListIn_nil ?_
 refine hK22 _ _ ?_
 refine wpIn_ret ?_
 have hS:=hS.add (m:=Ro.mp f_api_Ver.ty none 0 ([]:List T_api_Ver)) (Ro.nil f_api_Ver.ty _ _)
 have hS:=hS.addNil 48 6
 cases H
 exact ret_done hF hS (res1 Tryz.results68 (rvt hF)) ⟨none,0,cs12,rfl,hS.sp [1,2,3,0] [0]⟩
 refine cond_f hF (by kernel_rfl) hb ?_
 refine wpIn_skip ?_
 refine hK10 _ _ ?_
 refine wpIn_seq_k fun K23 hK23=>?_
 refine wpIn_region_lit ?_
 refine wl_pure (L':=[(0,pt b7 0),(1,vu a8),(5,.slice none 0 0)]) 1 [0,1,5] hF (by kernel_rfl) fun a hF=>?_
 refine wpListIn_nil ?_
 refine hK23 _ _ ?_
 refine wpIn_seq_k fun K24 hK24=>?_
 refine wpIn_seq_k fun K25 hK25=>?_
 obtain ⟨p26,hlp26⟩ : ∃p,(mGet p5 a8).getD none=p:=⟨_,rfl⟩
 have hS:=hS.add (m:=MP.const ((mGet p5 a8).getD none=p26)) hlp26
 have hqk28:(mGet p5 a8).getD none=p26:=hS.get 0 rfl
 refine opt_split H (fun hmx27 H=>?_) (fun x27 hmx27 H=>?_)
 have hpq:=hS.mpNone 2 rfl hmx27 hqk28
 have hG7:=hF
 subst hpq
 have hF:=hG7
 cases H
 obtain ⟨b29,cs30,cs31,hpq,hS⟩:=hS.mpTakeP 2 rfl hmx27 hqk28
 have hG8:=hF
 subst hpq
 have hF:=hG8
 obtain ⟨⟨p32,c33,p34,m35,c36,p37,m38,c39⟩,hS⟩:=hS.unfI (ck:=c_coord_entry) (fs:=q_coord_entry) 0 rfl
 refine wpIn_region_lit ?_
 refine wp 3 [1,5,21] hF fun a hF=>?_
 refine wc (wld hF hS 4 0 0 fun a hF=>?_)
 refine wl_pure (L':=[(5,.slice none 0 0),(22,.map p2),(23,vu a8)]) 1 [5,22,23] hF (by kernel_rfl) fun a hF=>?_
 refine wc (wo_lookupP (KT:=32) (E:=182) (kt:=(kInt .u64)) hF hS (by kernel_rfl) 5 4 (k:=a8) rfl (by kernel_rfl) (by kernel_rfl) rfl rfl hlp26 (by kernel_rfl) (by kernel_rfl) (by kernel_rfl) fun a hF=>?_)
 refine wp 2 [5,26] hF fun a hF=>?_
 refine wc (wld hF hS 0 1 0 fun a hF=>?_)
 refine wp 2 [5,27,28,29] hF fun a hF=>?_
 refine wpListIn_nil ?_
 obtain ⟨cs40,hS⟩:=hS.foldI (ck:=c_coord_entry) (fs:=q_coord_entry) b29 (p32,c33,p34,m35,c36,p37,m38,c39) x27 [0,1,2] [3,4,5] [0,1,2] (by decide) (by kernel_rfl) (by kernel_rfl)
 obtain ⟨cs41,hS⟩:=hS.mpBackI 0 1 [2,3] (by decide) rfl rfl hqk28 hmx27
 refine hK25 _ _ ?_
 refine wpIn_block ?_
 refine loop_fuel (n:=N) (fun n a w => ∃(κ:Gh) (y92:List T_api_Ver) (p93:Option Addr) (c94:Nat) (y95:Int),Fr (39) [] [(5,.slice p93 (y92).length c94),(27,.slice p32 (x27.shares).length c33),(28,vi ((x27.shares).length:Int)),(29,vi y95)] a∧SS Ms κ0 w0 κ w [.box b7 172 [(1,[.map p2])],.tok p93 48 6 (y92).length c94,.ext (objX p2 (.map m3 c4)),.ext (mpX o_coord_entry p5 cs41 a1.open_ none)] [Ro.mp f_api_Ver.ty p93 c94 y92,Ro.mp t_coord_Share p32 c33 x27.shares,Map.mp (kInt .u64) false fPtr.ty p2 m3 c4 p5]∧M.coord_Table_Writes_L1 N n a1 x27 y92 y95=some r) ?_ ?_
 have hS:=hS.add (m:=Ro.mp f_api_Ver.ty none 0 ([]:List T_api_Ver)) (Ro.nil f_api_Ver.ty _ _)
 have hS:=hS.addNil 48 6
 exact ⟨_,([]:List T_api_Ver),none,0,0,hF.kp [5,27,28,29],hS.sp [2,0,3,1] [0,1,5],H⟩
 rintro n a w ⟨κ,y92,p93,c94,y95,hF,hS,H⟩
 rcases n with _|fuel1
 simp [M.coord_Table_Writes_L1] at H
 simp only [M.coord_Table_Writes_L1] at H
 refine wpIn_seq_k fun K96 hK96=>?_
 refine wpIn_region_lit ?_
 refine wl_pure (L':=[(5,.slice p93 (y92).length c94),(27,.slice p32 (x27.shares).length c33),(28,vi ((x27.shares).length:Int)),(29,vi y95),(30,vb (decide (y95<((x27.shares).length:Int))))]) 1 [5,27,28,29,30] hF (by kernel_rfl) fun a hF=>?_
 refine wpListIn_nil ?_
 refine hK96 _ _ ?_
 refine wpIn_seq_k fun K97 hK97=>?_
 refine bif_split H (fun hb H=>?_) (fun hb H=>?_)
 refine cond_t hF (by kernel_rfl) hb ?_
 refine wpIn_skip ?_
 refine hK97 _ _ ?_
 refine wpIn_seq_k fun K98 hK98=>?_
 refine wpIn_block ?_
 refine wpIn_seq_k fun K99 hK99=>?_
 refine wpIn_region_lit ?_
 refine bind_split H (fun x100 hx100 H=>?_)
 refine wc (wo_index hF hS (by kernel_rfl) 1 (E:=141) (sz:=2) rfl rfl rfl (by kernel_rfl) rfl hx100 (by kernel_rfl) (by kernel_rfl) fun b101 f102 a hpx100 hF=>?_)
 obtain ⟨_,⟨⟨p103,c104⟩,rfl,hR⟩,hc⟩:=hS.elem 1 rfl hpx100 hx100
 have hS:=(hS.adds hR).add hc
 refine wc (wo_val hF (by kernel_rfl) (v := .agg (flat [si x100.Node,sl p103 (x100.Vers).length c104]).toArray) ((val_loadCs 0 0 2 (s:=[si x100.Node,sl p103 (x100.Vers).length c104]) (s':=[si x100.Node,sl p103 (x100.Vers).length c104]) (n:=2) rfl rfl rfl (show segGood [si x100.Node,sl p103 (x100.Vers).length c104] from (sgN 2 sgNil)) (by kernel_rfl) (by kernel_rfl) (by kernel_rfl) (by kernel_rfl) (by kernel_rfl) _ ⟨_,hS⟩)) fun a hF=>?_)
 refine wc (wal hF hS [si 0,sl none 0 0] (sgN 2 sgNil) fun b105 a w hF hS=>?_)
 refine wc (wst hF hS 0 0 2 [si x100.Node,sl p103 (x100.Vers).length c104] (sgN 2 sgNil) fun a w hF hS=>?_)
 refine wpListIn_nil ?_
 refine hK99 _ _ ?_
 refine wpIn_region_lit ?_
 refine wl_pure (L':=[(27,.slice p32 (x27.shares).length c33),(28,vi ((x27.shares).length:Int)),(29,vi y95),(33,.slice p93 (y92).length c94),(34,pt b105 1)]) 2 [27,28,29,33,34] hF (by kernel_rfl) fun a hF=>?_
 refine wc (wld hF hS 0 1 0 fun a hF=>?_)
 refine bind_split H (fun x106 hx106 H=>?_)
 refine wc (wo_append (ty:=f_api_Ver.ty) hF hS (by kernel_rfl) 2 2 1 rfl rfl rfl (by kernel_rfl) (by kernel_rfl) rfl rfl rfl hx106 (by kernel_rfl) (i:=Tryz.t48) (z := .agg (flat [sg ByteArray.empty,sg ByteArray.empty,sb false,su 0,si 0,si 0]).toArray) (by kernel_rfl) (by kernel_rfl) (by kernel_rfl) fun p107 c108 κ a w hF hS=>?_)
 refine wp 1 [5,27,28,29] hF fun a hF=>?_
 refine wpListIn_nil ?_
 refine hK98 _ _ ?_
 refine wpIn_region_lit ?_
 refine wp 2 [5,27,28,29] hF fun a hF=>?_
 refine wpListIn_nil ?_
 exact ⟨fuel1,Nat.lt_succ_self _,_,x106,p107,c108,IntKind.i64.wrap (y95+1),hF.kp [5,27,28,29],hS.sp [1,2,3,4] [0,4,5],H⟩
 refine cond_f hF (by kernel_rfl) hb ?_
 refine wpIn_exit ?_
 refine hK24 _ _ ?_
 refine wpIn_seq_k fun K109 hK109=>?_
 refine wpIn_region_lit ?_
 refine wp 2 [4] hF fun a hF=>?_
 refine wpListIn_nil ?_
 refine hK109 _ _ ?_
 refine wpIn_ret ?_
 cases H
 exact ret_done hF hS (res1 Tryz.results68 (rvt hF)) ⟨p93,c94,cs41,rfl,hS.sp [0,2,3,1] [0]⟩
set_option maxRecDepth 20000 in
set_option maxHeartbeats 8000000 in
theorem C_coord_Table_Nodes (N:Nat){Ms:List Nat}{κ0:Gh}{w0:World}(a1:T_coord_Table)(a8:Int)(p2:Option Nat)(m3:Array MapEntry)(c4:Nat)(p5:Mp Int (Option Nat))(cs6:List Nat)(b7:Nat)(hB:SB Ms κ0 w0 [.box b7 172 [(1,[.map p2])],.ext (objX p2 (.map m3 c4)),.ext (mpX o_coord_entry p5 cs6 a1.open_ none)] [Map.mp (kInt .u64) false fPtr.ty p2 m3 c4 p5]){r:((List Int))}(H:M.coord_Table_Nodes N a1 a8=some r) :
    Calls Tryz.prog 71 #[pt b7 0,vu a8] w0 (Post Ms κ0 w0 fun v κ w => ∃(p111:Option Addr) (c112:Nat) (cs113:List Nat),v = .slice p111 (r).length c112∧SS Ms κ0 w0 κ w [.box b7 172 [(1,[.map p2])],.ext (objX p2 (.map m3 c4)),.ext (mpX o_coord_entry p5 cs113 a1.open_ none),.tok p111 3 1 (r).length c112] [Ro.mp (fInt .i64).ty p111 c112 r]):=by
 have hS:=hB.hS
 have hfr:=hS.fresh
 refine enter (N:=(40)) (L:=[(0,pt b7 0),(1,vu a8)]) Tryz.func71 rfl Tryz.ntmps71 (show 2≤(40) by decide) rfl fun a hF=>?_
 unfold M.coord_Table_Nodes at H
 refine wpIn_seq_k fun K9 hK9=>?_
 refine wpIn_region_lit ?_
 refine wl_pure (L':=[(0,pt b7 0),(1,vu a8)]) 1 [0,1] hF (by kernel_rfl) fun a hF=>?_
 refine wpListIn_nil ?_
 refine hK9 _ _ ?_
 refine wpIn_seq_k fun K10 hK10=>?_
 refine wpIn_seq_k fun K11 hK11=>?_
 refine bind_split H (fun v14 hv14 H=>?_)
 refine code_join (fun a w => ∃(κ:Gh) (cs12:List Nat),Fr (40) [] [(0,pt b7 0),(1,vu a8),(18,vb v14)] a∧SS Ms κ0 w0 κ w [.box b7 172 [(1,[.map p2])],.ext (objX p2 (.map m3 c4)),.ext (mpX o_coord_entry p5 cs12 a1.open_ none)] [Map.mp (kInt .u64) false fPtr.ty p2 m3 c4 p5]∧True) ?_ ?_
 obtain ⟨p15,hlp15⟩ : ∃p,(mGet p5 a8).getD none=p:=⟨_,rfl⟩
 have hS:=hS.add (m:=MP.const ((mGet p5 a8).getD none=p15)) hlp15
 have hqk17:(mGet p5 a8).getD none=p15:=hS.get 0 rfl
 refine opt_split hv14 (fun hmx16 hv14=>?_) (fun x16 hmx16 hv14=>?_)
 have hpq:=hS.mpNone 2 rfl hmx16 hqk17
 have hG3:=hF
 subst hpq
 have hF:=hG3
 refine wpIn_region_lit ?_
 refine wp 6 [0,1,10,13] hF fun a hF=>?_
 refine wcg hF (wld hF hS 0 0 0 fun a hF=>?_)
 refine wl_pure (L':=[(0,pt b7 0),(1,vu a8),(10,vb false),(14,.map p2),(15,vu a8)]) 1 [0,1,10,14,15] hF (by kernel_rfl) fun a hF=>?_
 refine wcg hF (wo_lookupP (KT:=32) (E:=182) (kt:=(kInt .u64)) hF hS (by kernel_rfl) 1 1 (k:=a8) rfl (by kernel_rfl) (by kernel_rfl) rfl rfl hlp15 (by kernel_rfl) (by kernel_rfl) (by kernel_rfl) fun a hF=>?_)
 refine wp 2 [0,1,18] hF fun a hF=>?_
 refine wpListIn_nil ?_
 cases hv14
 exact ⟨_,cs6,hF.kp [0,1,18],hS.sp [0,1,2] [1],trivial⟩
 obtain ⟨b18,cs19,cs20,hpq,hS⟩:=hS.mpTakeP 2 rfl hmx16 hqk17
 have hG4:=hF
 subst hpq
 have hF:=hG4
 refine wpIn_region_lit ?_
 refine wp 6 [0,1,10,13] hF fun a hF=>?_
 refine wcg hF (wld hF hS 2 0 0 fun a hF=>?_)
 refine wl_pure (L':=[(0,pt b7 0),(1,vu a8),(10,vb false),(14,.map p2),(15,vu a8)]) 1 [0,1,10,14,15] hF (by kernel_rfl) fun a hF=>?_
 refine wcg hF (wo_lookupP (KT:=32) (E:=182) (kt:=(kInt .u64)) hF hS (by kernel_rfl) 3 1 (k:=a8) rfl (by kernel_rfl) (by kernel_rfl) rfl rfl hlp15 (by kernel_rfl) (by kernel_rfl) (by kernel_rfl) fun a hF=>?_)
 refine wp 2 [0,1,18] hF fun a hF=>?_
 refine wpListIn_nil ?_
 obtain ⟨cs21,hS⟩:=hS.mpBackI 0 1 [2,3] (by decide) rfl rfl hqk17 hmx16
 cases hv14
 exact ⟨_,cs21,hF.kp [0,1,18],hS.sp [1,2,0] [1],trivial⟩
 rintro a w ⟨κ,cs12,hF,hS,-⟩
 refine hK11 _ _ ?_
 refine bif_split H (fun hb H=>?_) (fun hb H=>?_)
 refine cond_t hF (by kernel_rfl) hb ?_
 refine wpIn_seq_k fun K22 hK22=>?_
 refine wpIn_region_lit ?_
 refine wp 1 [4] hF fun a hF=>?_
 refine wpListIn_nil ?_
 refine hK22 _ _ ?_
 refine wpIn_ret ?_
 have hS:=hS.add (m:=Ro.mp (fInt .i64).ty none 0 ([]:List Int)) (Ro.nil (fInt .i64).ty _ _)
 have hS:=hS.addNil 3 1
 cases H
 exact ret_done hF hS (res1 Tryz.results71 (rvt hF)) ⟨none,0,cs12,rfl,hS.sp [1,2,3,0] [0]⟩
 refine cond_f hF (by kernel_rfl) hb ?_
 refine wpIn_skip ?_
 refine hK10 _ _ ?_
 refine wpIn_seq_k fun K23 hK23=>?_
 refine wpIn_region_lit ?_
 refine wl_pure (L':=[(0,pt b7 0),(1,vu a8),(5,.slice none 0 0)]) 1 [0,1,5] hF (by kernel_rfl) fun a hF=>?_
 refine wpListIn_nil ?_
 refine hK23 _ _ ?_
 refine wpIn_seq_k fun K24 hK24=>?_
 refine wpIn_seq_k fun K25 hK25=>?_
 obtain ⟨p26,hlp26⟩ : ∃p,(mGet p5 a8).getD none=p:=⟨_,rfl⟩
 have hS:=hS.add (m:=MP.const ((mGet p5 a8).getD none=p26)) hlp26
 have hqk28:(mGet p5 a8).getD none=p26:=hS.get 0 rfl
 refine opt_split H (fun hmx27 H=>?_) (fun x27 hmx27 H=>?_)
 have hpq:=hS.mpNone 2 rfl hmx27 hqk28
 have hG7:=hF
 subst hpq
 have hF:=hG7
 cases H
 obtain ⟨b29,cs30,cs31,hpq,hS⟩:=hS.mpTakeP 2 rfl hmx27 hqk28
 have hG8:=hF
 subst hpq
 have hF:=hG8
 obtain ⟨⟨p32,c33,p34,m35,c36,p37,m38,c39⟩,hS⟩:=hS.unfI (ck:=c_coord_entry) (fs:=q_coord_entry) 0 rfl
 refine wpIn_region_lit ?_
 refine wp 3 [1,5,21] hF fun a hF=>?_
 refine wc (wld hF hS 4 0 0 fun a hF=>?_)
 refine wl_pure (L':=[(5,.slice none 0 0),(22,.map p2),(23,vu a8)]) 1 [5,22,23] hF (by kernel_rfl) fun a hF=>?_
 refine wc (wo_lookupP (KT:=32) (E:=182) (kt:=(kInt .u64)) hF hS (by kernel_rfl) 5 4 (k:=a8) rfl (by kernel_rfl) (by kernel_rfl) rfl rfl hlp26 (by kernel_rfl) (by kernel_rfl) (by kernel_rfl) fun a hF=>?_)
 refine wp 2 [5,26] hF fun a hF=>?_
 refine wc (wld hF hS 0 1 0 fun a hF=>?_)
 refine wp 2 [5,27,28,29] hF fun a hF=>?_
 refine wpListIn_nil ?_
 obtain ⟨cs40,hS⟩:=hS.foldI (ck:=c_coord_entry) (fs:=q_coord_entry) b29 (p32,c33,p34,m35,c36,p37,m38,c39) x27 [0,1,2] [3,4,5] [0,1,2] (by decide) (by kernel_rfl) (by kernel_rfl)
 obtain ⟨cs41,hS⟩:=hS.mpBackI 0 1 [2,3] (by decide) rfl rfl hqk28 hmx27
 refine hK25 _ _ ?_
 refine wpIn_block ?_
 refine loop_fuel (n:=N) (fun n a w => ∃(κ:Gh) (y92:List Int) (p93:Option Addr) (c94:Nat) (y95:Int),Fr (40) [] [(5,.slice p93 (y92).length c94),(27,.slice p32 (x27.shares).length c33),(28,vi ((x27.shares).length:Int)),(29,vi y95)] a∧SS Ms κ0 w0 κ w [.box b7 172 [(1,[.map p2])],.tok p93 3 1 (y92).length c94,.ext (objX p2 (.map m3 c4)),.ext (mpX o_coord_entry p5 cs41 a1.open_ none)] [Ro.mp (fInt .i64).ty p93 c94 y92,Ro.mp t_coord_Share p32 c33 x27.shares,Map.mp (kInt .u64) false fPtr.ty p2 m3 c4 p5]∧M.coord_Table_Nodes_L1 N n a1 x27 y92 y95=some r) ?_ ?_
 have hS:=hS.add (m:=Ro.mp (fInt .i64).ty none 0 ([]:List Int)) (Ro.nil (fInt .i64).ty _ _)
 have hS:=hS.addNil 3 1
 exact ⟨_,([]:List Int),none,0,0,hF.kp [5,27,28,29],hS.sp [2,0,3,1] [0,1,5],H⟩
 rintro n a w ⟨κ,y92,p93,c94,y95,hF,hS,H⟩
 rcases n with _|fuel1
 simp [M.coord_Table_Nodes_L1] at H
 simp only [M.coord_Table_Nodes_L1] at H
 refine wpIn_seq_k fun K96 hK96=>?_
 refine wpIn_region_lit ?_
 refine wl_pure (L':=[(5,.slice p93 (y92).length c94),(27,.slice p32 (x27.shares).length c33),(28,vi ((x27.shares).length:Int)),(29,vi y95),(30,vb (decide (y95<((x27.shares).length:Int))))]) 1 [5,27,28,29,30] hF (by kernel_rfl) fun a hF=>?_
 refine wpListIn_nil ?_
 refine hK96 _ _ ?_
 refine wpIn_seq_k fun K97 hK97=>?_
 refine bif_split H (fun hb H=>?_) (fun hb H=>?_)
 refine cond_t hF (by kernel_rfl) hb ?_
 refine wpIn_skip ?_
 refine hK97 _ _ ?_
 refine wpIn_seq_k fun K98 hK98=>?_
 refine wpIn_block ?_
 refine wpIn_seq_k fun K99 hK99=>?_
 refine wpIn_region_lit ?_
 refine bind_split H (fun x100 hx100 H=>?_)
 refine wc (wo_index hF hS (by kernel_rfl) 1 (E:=141) (sz:=2) rfl rfl rfl (by kernel_rfl) rfl hx100 (by kernel_rfl) (by kernel_rfl) fun b101 f102 a hpx100 hF=>?_)
 obtain ⟨_,⟨⟨p103,c104⟩,rfl,hR⟩,hc⟩:=hS.elem 1 rfl hpx100 hx100
 have hS:=(hS.adds hR).add hc
 refine wc (wo_val hF (by kernel_rfl) (v := .agg (flat [si x100.Node,sl p103 (x100.Vers).length c104]).toArray) ((val_loadCs 0 0 2 (s:=[si x100.Node,sl p103 (x100.Vers).length c104]) (s':=[si x100.Node,sl p103 (x100.Vers).length c104]) (n:=2) rfl rfl rfl (show segGood [si x100.Node,sl p103 (x100.Vers).length c104] from (sgN 2 sgNil)) (by kernel_rfl) (by kernel_rfl) (by kernel_rfl) (by kernel_rfl) (by kernel_rfl) _ ⟨_,hS⟩)) fun a hF=>?_)
 refine wc (wal hF hS [si 0,sl none 0 0] (sgN 2 sgNil) fun b105 a w hF hS=>?_)
 refine wc (wst hF hS 0 0 2 [si x100.Node,sl p103 (x100.Vers).length c104] (sgN 2 sgNil) fun a w hF hS=>?_)
 refine wpListIn_nil ?_
 refine hK99 _ _ ?_
 refine wpIn_region_lit ?_
 refine wl_pure (L':=[(27,.slice p32 (x27.shares).length c33),(28,vi ((x27.shares).length:Int)),(29,vi y95),(33,.slice p93 (y92).length c94),(34,pt b105 0)]) 2 [27,28,29,33,34] hF (by kernel_rfl) fun a hF=>?_
 refine wc (wld hF hS 0 0 0 fun a hF=>?_)
 refine wc (wo_buildN (t:=(fInt .i64)) (z:=vi 0) (l:=[x100.Node]) (vs:=[(0,vi x100.Node)]) (cells := #[vi x100.Node]) (E:=3) hF hS (by kernel_rfl) rfl (by kernel_rfl) (by kernel_rfl) rfl (by kernel_rfl) (by kernel_rfl) (by kernel_rfl) (by kernel_rfl) (by kernel_rfl) fun p106 κ a w hF hS=>?_)
 refine bind_split H (fun x107 hx107 H=>?_)
 refine wc (wo_append (ty:=(fInt .i64).ty) hF hS (by kernel_rfl) 3 3 0 rfl rfl rfl (by kernel_rfl) (by kernel_rfl) rfl rfl rfl hx107 (by kernel_rfl) (i:=Tryz.t3) (z:=vi 0) (by kernel_rfl) (by kernel_rfl) (by kernel_rfl) fun p108 c109 κ a w hF hS=>?_)
 refine wp 1 [5,27,28,29] hF fun a hF=>?_
 refine wpListIn_nil ?_
 refine hK98 _ _ ?_
 refine wpIn_region_lit ?_
 refine wp 2 [5,27,28,29] hF fun a hF=>?_
 refine wpListIn_nil ?_
 exact ⟨fuel1,Nat.lt_succ_self _,_,x107,p108,c109,IntKind.i64.wrap (y95+1),hF.kp [5,27,28,29],hS.sp [2,3,4,5] [0,5,6],H⟩
 refine cond_f hF (by kernel_rfl) hb ?_
 refine wpIn_exit ?_
 refine hK24 _ _ ?_
 refine wpIn_seq_k fun K110 hK110=>?_
 refine wpIn_region_lit ?_
 refine wp 2 [4] hF fun a hF=>?_
 refine wpListIn_nil ?_
 refine hK110 _ _ ?_
 refine wpIn_ret ?_
 cases H
 exact ret_done hF hS (res1 Tryz.results71 (rvt hF)) ⟨p93,c94,cs41,rfl,hS.sp [0,2,3,1] [0]⟩
set_option maxRecDepth 20000 in
set_option maxHeartbeats 8000000 in
theorem C_coord_Table_Touches (N:Nat){Ms:List Nat}{κ0:Gh}{w0:World}(a1:T_coord_Table)(a8:ByteArray)(a9:ByteArray)(p2:Option Nat)(m3:Array MapEntry)(c4:Nat)(p5:Mp Int (Option Nat))(cs6:List Nat)(b7:Nat)(hB:SB Ms κ0 w0 [.box b7 172 [(1,[.map p2])],.ext (objX p2 (.map m3 c4)),.ext (mpX o_coord_entry p5 cs6 a1.open_ none)] [Map.mp (kInt .u64) false fPtr.ty p2 m3 c4 p5]){r:(Bool)}(H:M.coord_Table_Touches N a1 a8 a9=some r) :
    Calls Tryz.prog 111 #[pt b7 0,.string (a8),.string (a9)] w0 (Post Ms κ0 w0 fun v κ w => ∃cs145:List Nat,v=vb r∧SS Ms κ0 w0 κ w [.box b7 172 [(1,[.map p2])],.ext (objX p2 (.map m3 c4)),.ext (mpX o_coord_entry p5 cs145 a1.open_ none)] []):=by
 have hS:=hB.hS
 have hfr:=hS.fresh
 refine enter (N:=(35)) (L:=[(0,pt b7 0),(1,.string (a8)),(2,.string (a9))]) Tryz.func111 rfl Tryz.ntmps111 (show 3≤(35) by decide) rfl fun a hF=>?_
 unfold M.coord_Table_Touches at H
 refine wpIn_seq_k fun K10 hK10=>?_
 refine wpIn_region_lit ?_
 refine wp 1 [0,1,2] hF fun a hF=>?_
 refine wpListIn_nil ?_
 refine hK10 _ _ ?_
 refine wpIn_seq_k fun K11 hK11=>?_
 refine wpIn_seq_k fun K12 hK12=>?_
 refine wpIn_region_lit ?_
 refine wp 2 [0,1,2,11] hF fun a hF=>?_
 refine wpListIn_nil ?_
 refine hK12 _ _ ?_
 refine cond_f hF (by kernel_rfl) rfl ?_
 refine wpIn_skip ?_
 refine hK11 _ _ ?_
 refine wpIn_seq_k fun K13 hK13=>?_
 refine wpIn_seq_k fun K14 hK14=>?_
 refine wpIn_region_lit ?_
 refine wl_pure (L':=[(0,pt b7 0),(1,.string (a8)),(2,.string (a9)),(14,pt b7 0)]) 3 [0,1,2,14] hF (by kernel_rfl) fun a hF=>?_
 refine wc (wld hF hS 0 0 0 fun a hF=>?_)
 refine wc (wo_range (KT:=32) (E:=182) (kt:=(kInt .u64)) (agg:=false) (t:=fPtr.ty) hF hS (by kernel_rfl) 1 0 rfl (by kernel_rfl) rfl rfl (by kernel_rfl) fun b15 a w hF hS=>?_)
 have hS:=hS.add (m:=It.mp (kInt .u64) m3 (#[]) (mKeys a1.open_)) (It_keys (hS.get 0 rfl) (hS.mpKeys 3 rfl))
 refine wpListIn_nil ?_
 refine hK14 _ _ ?_
 refine wpIn_block ?_
 refine loop_fuel (n:=N) (fun n a w => ∃(κ:Gh) (cs66:List Nat) (m67:Array Nat) (y68:List Int),Fr (35) [] [(0,pt b7 0),(1,.string (a8)),(2,.string (a9)),(16,pt b15 0)] a∧SS Ms κ0 w0 κ w [.box b7 172 [(1,[.map p2])],.ext (objX p2 (.map m3 c4)),.ext (mpX o_coord_entry p5 cs66 a1.open_ none),.ext (objX (some b15) (itO p2 c4 m67))] [Map.mp (kInt .u64) false fPtr.ty p2 m3 c4 p5,It.mp (kInt .u64) m3 m67 y68]∧M.coord_Table_Touches_L1 N n a1 a8 a9 y68=some r) ?_ ?_
 exact ⟨_,cs6,#[],(mKeys a1.open_),hF.kp [0,1,2,16],hS.sp [1,2,3,0] [2,0],H⟩
 rintro n a w ⟨κ,cs66,m67,y68,hF,hS,H⟩
 rcases n with _|fuel1
 simp [M.coord_Table_Touches_L1] at H
 simp only [M.coord_Table_Touches_L1] at H
 refine wpIn_seq_k fun K69 hK69=>?_
 refine wpIn_region_lit ?_
 refine wc (wo_next (kt:=(kInt .u64)) (agg:=false) (t:=fPtr.ty) hF hS (by kernel_rfl) 1 3 0 1 rfl (by kernel_rfl) rfl rfl rfl rfl (nextKeys (hS.mpKeys 2 rfl) H) ?_ ?_)
 intro H a hF
 refine wp 1 [0,1,2,16,18] hF fun a hF=>?_
 refine wpListIn_nil ?_
 refine hK69 _ _ ?_
 refine wpIn_seq_k fun K74 hK74=>?_
 refine cond_f hF (by kernel_rfl) rfl ?_
 refine wpIn_exit ?_
 refine hK13 _ _ ?_
 refine wpIn_seq_k fun K75 hK75=>?_
 refine wpIn_region_lit ?_
 refine wp 1 [6] hF fun a hF=>?_
 refine wpListIn_nil ?_
 refine hK75 _ _ ?_
 refine wpIn_ret ?_
 cases H
 exact ret_done hF hS (res1 Tryz.results111 (rvt hF)) ⟨cs66,rfl,hS.sp [0,1,2] []⟩
 rintro ⟨x70,p71⟩ cs72 m73 a w H hF hS
 refine wl_pure (L':=[(0,pt b7 0),(1,.string (a8)),(2,.string (a9)),(16,pt b15 0),(18,vb true)]) 1 [0,1,2,16,18] hF (by kernel_rfl) fun a hF=>?_
 refine wpListIn_nil ?_
 refine hK69 _ _ ?_
 refine wpIn_seq_k fun K76 hK76=>?_
 refine cond_t hF (by kernel_rfl) rfl ?_
 refine wpIn_skip ?_
 refine hK76 _ _ ?_
 refine wpIn_block ?_
 refine wpIn_seq_k fun K77 hK77=>?_
 refine wpIn_region_lit ?_
 refine wc (wo_entry (kt:=(kInt .u64)) (agg:=false) (t:=fPtr.ty) hF hS (by kernel_rfl) 1 3 2 0 rfl (by kernel_rfl) rfl rfl rfl rfl ?_)
 rintro _ a rfl hF
 refine wp 2 [0,1,2,7,16] hF fun a hF=>?_
 refine wpListIn_nil ?_
 refine hK77 _ _ ?_
 refine wpIn_seq_k fun K78 hK78=>?_
 refine wpIn_region_lit ?_
 refine wp 2 [0,1,2,16,21,22] hF fun a hF=>?_
 refine bind_split H (fun x79 hx79 H=>?_)
 refine wc (wcS 3 (rg 4) hF hS (fun hS=>C_coord_Table_Writes N (T_coord_Table.mk a1.open_) x70 p2 m3 c4 p5 cs66 b7 (hS.sbK [2]) hx79) ?_)
 rintro _ κ w a ⟨p80,c81,cs82,rfl,h2⟩ hF hB
 have hS:=hB _ _ h2
 refine wp 2 [0,1,2,16,23,24,25] hF fun a hF=>?_
 refine wpListIn_nil ?_
 refine hK78 _ _ ?_
 refine wpIn_block ?_
 refine loop_fuel (n:=N) (fun n a w => ∃(κ:Gh) (y133:Int),Fr (35) [] [(0,pt b7 0),(1,.string (a8)),(2,.string (a9)),(16,pt b15 0),(23,.slice p80 (x79).length c81),(24,vi ((x79).length:Int)),(25,vi y133)] a∧SS Ms κ0 w0 κ w [.box b7 172 [(1,[.map p2])],.tok p80 48 6 (x79).length c81,.ext (objX p2 (.map m3 c4)),.ext (mpX o_coord_entry p5 cs82 a1.open_ none),.ext (objX (some b15) (itO p2 c4 m73))] [Map.mp (kInt .u64) false fPtr.ty p2 m3 c4 p5,It.mp (kInt .u64) m3 m73 (kRem y68 x70),Ro.mp f_api_Ver.ty p80 c81 x79]∧M.coord_Table_Touches_L2 N (M.coord_Table_Touches_L1 N fuel1) n a1 a8 a9 y68 x70 x79 y133=some r) ?_ ?_
 exact ⟨_,0,hF.kp [0,1,2,16,23,24,25],hS.sp [0,3,1,2,4] [3,2,0],H⟩
 rintro n a w ⟨κ,y133,hF,hS,H⟩
 rcases n with _|fuel2
 simp [M.coord_Table_Touches_L2] at H
 simp only [M.coord_Table_Touches_L2] at H
 refine wpIn_seq_k fun K134 hK134=>?_
 refine wpIn_region_lit ?_
 refine wl_pure (L':=[(0,pt b7 0),(1,.string (a8)),(2,.string (a9)),(16,pt b15 0),(23,.slice p80 (x79).length c81),(24,vi ((x79).length:Int)),(25,vi y133),(26,vb (decide (y133<((x79).length:Int))))]) 1 [0,1,2,16,23,24,25,26] hF (by kernel_rfl) fun a hF=>?_
 refine wpListIn_nil ?_
 refine hK134 _ _ ?_
 refine wpIn_seq_k fun K135 hK135=>?_
 refine bif_split H (fun hb H=>?_) (fun hb H=>?_)
 refine cond_t hF (by kernel_rfl) hb ?_
 refine wpIn_skip ?_
 refine hK135 _ _ ?_
 refine wpIn_seq_k fun K136 hK136=>?_
 refine wpIn_block ?_
 refine wpIn_seq_k fun K137 hK137=>?_
 refine wpIn_region_lit ?_
 refine bind_split H (fun x138 hx138 H=>?_)
 refine wc (wo_index hF hS (by kernel_rfl) 2 (E:=48) (sz:=6) rfl rfl rfl (by kernel_rfl) rfl hx138 (by kernel_rfl) (by kernel_rfl) fun b139 f140 a hpx138 hF=>?_)
 refine wc (wo_loadRoAgg (t:=f_api_Ver) hF hS (by kernel_rfl) 2 rfl rfl hpx138 rfl hx138 (by kernel_rfl) (by kernel_rfl) (by kernel_rfl) fun a hF=>?_)
 refine wc (wal hF hS [sg ByteArray.empty,sg ByteArray.empty,sb false,su 0,si 0,si 0] (sgN 6 sgNil) fun b141 a w hF hS=>?_)
 refine wc (wst hF hS 0 0 6 [sg x138.Key,sg x138.Val,sb x138.Gone,su x138.TS,si x138.DC,si x138.Tx] (sgN 6 sgNil) fun a w hF hS=>?_)
 refine wpListIn_nil ?_
 refine hK137 _ _ ?_
 refine wpIn_seq_k fun K142 hK142=>?_
 refine wpIn_region_lit ?_
 refine wp 1 [0,1,2,16,23,24,25,29] hF fun a hF=>?_
 refine wc (wld hF hS 0 0 0 fun a hF=>?_)
 refine wp 2 [0,1,2,16,23,24,25,30,31,32] hF fun a hF=>?_
 refine bind_split H (fun x143 hx143 H=>?_)
 refine wc (wo_callP hF hS (by kernel_rfl) (by kernel_rfl) (C_span_Within N hS.fresh x138.Key a8 a9 ((hS.pick [] (by kernel_rfl)).ro) hx143) ?_)
 rintro _ κ w a ⟨rfl,hR,hN⟩ hF hS hO
 refine wpListIn_nil ?_
 refine hK142 _ _ ?_
 refine bif_split H (fun hb H=>?_) (fun hb H=>?_)
 refine cond_t hF (by kernel_rfl) hb ?_
 refine wpIn_seq_k fun K144 hK144=>?_
 refine wpIn_region_lit ?_
 refine wp 1 [6] hF fun a hF=>?_
 refine wpListIn_nil ?_
 refine hK144 _ _ ?_
 refine wpIn_ret ?_
 cases H
 exact ret_done hF hS (res1 Tryz.results111 (rvt hF)) ⟨cs82,rfl,hS.sp [1,3,4] []⟩
 refine cond_f hF (by kernel_rfl) hb ?_
 refine wpIn_skip ?_
 refine hK136 _ _ ?_
 refine wpIn_region_lit ?_
 refine wp 2 [0,1,2,16,23,24,25] hF fun a hF=>?_
 refine wpListIn_nil ?_
 exact ⟨fuel2,Nat.lt_succ_self _,_,IntKind.i64.wrap (y133+1),hF.kp [0,1,2,16,23,24,25],hS.sp [1,2,3,4,5] [0,1,2],H⟩
 refine cond_f hF (by kernel_rfl) hb ?_
 refine wpIn_exit ?_
 exact ⟨fuel1,Nat.lt_succ_self _,_,cs82,m73,(kRem y68 x70),hF.kp [0,1,2,16],hS.sp [0,2,3,4] [0,1],H⟩
end Go.Cf
