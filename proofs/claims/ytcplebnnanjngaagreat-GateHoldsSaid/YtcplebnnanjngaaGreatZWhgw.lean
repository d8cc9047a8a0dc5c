/- The walks: each function returns what its model says. Printed by a program of ours. -/
import Derived.Test.YtcplebnnanjngaaGreatZM1
import Derived.Test.YtcplebnnanjngaaGreatZWhg9
import Derived.Test.YtcplebnnanjngaaGreatZWt
namespace Go.Cf
open Go Go.Proofs
set_option linter.unusedVariables false
set_option maxRecDepth 20000 in
set_option maxHeartbeats 8000000 in
theorem C_maps_Values_map_uint64_int_uint64_int_ (N:Nat){κ0:Gh}{w0:World}(hfr:Fresh κ0 w0)(a1:(Mp Int Int))(p2:Option Nat)(m3:Array MapEntry)(c4:Nat)(hR : ∀m∈([Map.mp (kInt .u64) false (fInt .i64).ty p2 m3 c4 a1]:List MP),m.p κ0 w0){r:Unit}(H:M.maps_Values_map_uint64_int_uint64_int_ N a1=some r) :
    Calls Tryz.prog 37 #[.map p2] w0 (Post [] κ0 w0 fun v κ w => ∃b900:Nat,v = .func (.func 90) #[] #[pt b900 0]∧(∀m∈([]:List MP),m.p κ w)∧NewC w0 κ w [.box b900 76 [(1,[.map p2])]]):=by
 have hS:=SS.start hfr hR
 refine enter (N:=(4)) (L:=[(0,.map p2)]) Tryz.func37 rfl Tryz.ntmps37 (show 1≤(4) by decide) rfl fun a hF=>?_
 unfold M.maps_Values_map_uint64_int_uint64_int_ at H
 refine wpIn_seq_k fun K5 hK5=>?_
 refine wpIn_region_lit ?_
 refine wc (wbx hF hS [(1,[.map p2])] (sgN 1 sgNil) fun b6 a w hF hS=>?_)
 refine wl_pure (L':=[(1,pt b6 0)]) 1 [1] hF (by kernel_rfl) fun a hF=>?_
 refine wpListIn_nil ?_
 refine hK5 _ _ ?_
 refine wpIn_seq_k fun K7 hK7=>?_
 refine wpIn_region_lit ?_
 refine wc (wo_val hF (by kernel_rfl) (v := .func (.func 90) #[] #[pt b6 0]) (val_makeFunc (T':=0) (caps := #[pt b6 0]) rfl (by kernel_rfl) _) fun a hF=>?_)
 refine wp 1 [2] hF fun a hF=>?_
 refine wpListIn_nil ?_
 refine hK7 _ _ ?_
 refine wpIn_ret ?_
 cases H
 exact (ret_done hF hS (res1 Tryz.results37 (rvt hF)) ⟨b6,rfl,(hS.pick [] rfl).ro,hS.newC [0] (by decide) (by kernel_rfl)⟩)
set_option maxRecDepth 20000 in
set_option maxHeartbeats 8000000 in
theorem C_gate_Gate_Waits (N:Nat){Ms:List Nat}{κ0:Gh}{w0:World}(a2:(Mp Int Int))(a6:(Mp Int T_gate_call))(a10:(List T_gate_call))(cs1:List Value)(p3:Option Nat)(m4:Array MapEntry)(c5:Nat)(p7:Option Nat)(m8:Array MapEntry)(c9:Nat)(p11:Option Addr)(c12:Nat)(cs13:List Value)(b14:Nat)(hB:SB Ms κ0 w0 [.box b14 87 [(28,cs1),(1,[.map p3]),(1,[.map p7]),sl p11 (a10).length c12,(13,cs13)],.ext (objX p3 (.map m4 c5)),.ext (objX p7 (.map m8 c9))] [Map.mp (kInt .u64) false (fInt .i64).ty p3 m4 c5 a2,Map.mp (kInt .u64) true t_gate_call p7 m8 c9 a6,Ro.mp t_gate_call p11 c12 a10]){r:((List Int))}(H:M.gate_Gate_Waits N a2 a6 a10=some r) :
    Calls Tryz.prog 19 #[pt b14 0] w0 (Post Ms κ0 w0 fun v κ w => ∃(p170:Option Addr) (c171:Nat),v = .slice p170 (r).length c171∧SS Ms κ0 w0 κ w [.box b14 87 [(28,cs1),(1,[.map p3]),(1,[.map p7]),sl p11 (a10).length c12,(13,cs13)],.ext (objX p3 (.map m4 c5)),.ext (objX p7 (.map m8 c9)),.tok p170 3 1 (r).length c171] [Ro.mp (fInt .i64).ty p170 c171 r]):=by
 have hS:=hB.hS
 have hfr:=hS.fresh
 refine enter (N:=(48)) (L:=[(0,pt b14 0)]) Tryz.func19 rfl Tryz.ntmps19 (show 1≤(48) by decide) rfl fun a hF=>?_
 unfold M.gate_Gate_Waits at H
 refine wpIn_seq_k fun K15 hK15=>?_
 refine wpIn_region_lit ?_
 refine wp 1 [0] hF fun a hF=>?_
 refine wpListIn_nil ?_
 refine hK15 _ _ ?_
 refine wpIn_seq_k fun K16 hK16=>?_
 refine wpIn_seq_k fun K17 hK17=>?_
 refine wpIn_region_lit ?_
 refine wp 2 [0,9] hF fun a hF=>?_
 refine wpListIn_nil ?_
 refine hK17 _ _ ?_
 refine cond_f hF (by kernel_rfl) rfl ?_
 refine wpIn_skip ?_
 refine hK16 _ _ ?_
 refine wpIn_seq_k fun K18 hK18=>?_
 refine wpIn_region_lit ?_
 refine wp 3 [0,12] hF fun a hF=>?_
 refine wc (wld hF hS 0 1 0 fun a hF=>?_)
 refine bind_split H (fun x19 hx19 H=>?_)
 refine wc (wo_callP hF hS (by kernel_rfl) (by kernel_rfl) (C_maps_Values_map_uint64_int_uint64_int_ N hS.fresh a2 p3 m4 c5 ((hS.pick [0] (by kernel_rfl)).ro) hx19) ?_)
 rintro _ κ w a ⟨b20,rfl,hR,hN⟩ hF hS hO
 have hS:=hS.addC hO hN
 obtain ⟨k22,hlx21,H⟩:=allPm_some H
 refine wc (wo_callP hF hS (by kernel_rfl) (by kernel_rfl) (C_Collect90 hS.fresh b20 p3 m4 c5 a2 (hS.ck 0 rfl).1 (fun b hb=>((hS.ck 2 rfl) b hb).1) (hS.get 0 rfl) hlx21) ?_)
 rintro _ κ w a ⟨x21,p23,c24,hperm,rfl,hN⟩ hF hS hO
 have H:=H x21 hperm
 have hS:=hS.addC hO hN
 refine wp 1 [0,3] hF fun a hF=>?_
 refine wpListIn_nil ?_
 refine hK18 _ _ ?_
 refine wpIn_seq_k fun K25 hK25=>?_
 refine wpIn_seq_k fun K26 hK26=>?_
 refine wpIn_region_lit ?_
 refine wl_pure (L':=[(0,pt b14 0),(3,.slice p23 (x21).length c24),(18,pt b14 29)]) 3 [0,3,18] hF (by kernel_rfl) fun a hF=>?_
 refine wc (wld hF hS 2 2 0 fun a hF=>?_)
 refine wc (wo_range (KT:=32) (E:=95) (kt:=(kInt .u64)) (agg:=true) (t:=t_gate_call) hF hS (by kernel_rfl) 4 1 rfl (by kernel_rfl) rfl rfl (by kernel_rfl) fun b27 a w hF hS=>?_)
 refine wpListIn_nil ?_
 refine hK26 _ _ ?_
 refine wpIn_block ?_
 refine loop_fuel (n:=N) (fun n a w => ∃(κ:Gh) (p78:Option Addr) (c79:Nat) (y80:List Int) (m81:Array Nat) (y82:List Int),Fr (48) [] [(0,pt b14 0),(3,.slice p78 (y80).length c79),(20,pt b27 0)] a∧SS Ms κ0 w0 κ w [.box b14 87 [(28,cs1),(1,[.map p3]),(1,[.map p7]),sl p11 (a10).length c12,(13,cs13)],.ext (objX p3 (.map m4 c5)),.ext (objX p7 (.map m8 c9)),.ext (ownX (fInt .i64) 3 p78 c79 y80),.ext (objX (some b27) (itO p7 c9 m81))] [Map.mp (kInt .u64) false (fInt .i64).ty p3 m4 c5 a2,Map.mp (kInt .u64) true t_gate_call p7 m8 c9 a6,Ro.mp t_gate_call p11 c12 a10,It.mp (kInt .u64) m8 m81 y82]∧M.gate_Gate_Waits_L1 N n a2 a6 a10 y80 y82=some r) ?_ ?_
 exact ⟨_,p23,c24,x21,#[],(mKeys a6),hF.kp [0,3,20],hS.sp [3,4,5,1,0] [1,2,3,0],H⟩
 rintro n a w ⟨κ,p78,c79,y80,m81,y82,hF,hS,H⟩
 rcases n with _|fuel1
 simp [M.gate_Gate_Waits_L1] at H
 simp only [M.gate_Gate_Waits_L1] at H
 refine wpIn_seq_k fun K83 hK83=>?_
 refine wpIn_region_lit ?_
 refine wc (wo_next (kt:=(kInt .u64)) (agg:=true) (t:=t_gate_call) hF hS (by kernel_rfl) 2 4 1 3 rfl (by kernel_rfl) rfl rfl rfl rfl H ?_ ?_)
 intro H a hF
 refine wp 1 [0,3,20,22] hF fun a hF=>?_
 refine wpListIn_nil ?_
 refine hK83 _ _ ?_
 refine wpIn_seq_k fun K87 hK87=>?_
 refine cond_f hF (by kernel_rfl) rfl ?_
 refine wpIn_exit ?_
 refine hK25 _ _ ?_
 refine wpIn_seq_k fun K88 hK88=>?_
 refine wpIn_seq_k fun K89 hK89=>?_
 refine wpIn_region_lit ?_
 refine wp 3 [3,32] hF fun a hF=>?_
 refine wc (wld hF hS 0 3 0 fun a hF=>?_)
 refine wp 2 [3,33,34,35] hF fun a hF=>?_
 refine wpListIn_nil ?_
 refine hK89 _ _ ?_
 refine wpIn_block ?_
 refine loop_fuel (n:=N) (fun n a w => ∃(κ:Gh) (p140:Option Addr) (c141:Nat) (y142:List Int) (y143:Int),Fr (48) [] [(3,.slice p140 (y142).length c141),(33,.slice p11 (a10).length c12),(34,vi ((a10).length:Int)),(35,vi y143)] a∧SS Ms κ0 w0 κ w [.box b14 87 [(28,cs1),(1,[.map p3]),(1,[.map p7]),sl p11 (a10).length c12,(13,cs13)],.ext (objX p3 (.map m4 c5)),.ext (objX p7 (.map m8 c9)),.ext (ownX (fInt .i64) 3 p140 c141 y142)] [Ro.mp t_gate_call p11 c12 a10,Map.mp (kInt .u64) false (fInt .i64).ty p3 m4 c5 a2,Map.mp (kInt .u64) true t_gate_call p7 m8 c9 a6]∧M.gate_Gate_Waits_L2 N n a2 a6 a10 y142 y143=some r) ?_ ?_
 exact ⟨_,p78,c79,y80,0,hF.kp [3,33,34,35],hS.sp (rg 4) [2,0,1],H⟩
 rintro n a w ⟨κ,p140,c141,y142,y143,hF,hS,H⟩
 rcases n with _|fuel2
 simp [M.gate_Gate_Waits_L2] at H
 simp only [M.gate_Gate_Waits_L2] at H
 refine wpIn_seq_k fun K144 hK144=>?_
 refine wpIn_region_lit ?_
 refine wl_pure (L':=[(3,.slice p140 (y142).length c141),(33,.slice p11 (a10).length c12),(34,vi ((a10).length:Int)),(35,vi y143),(36,vb (decide (y143<((a10).length:Int))))]) 1 [3,33,34,35,36] hF (by kernel_rfl) fun a hF=>?_
 refine wpListIn_nil ?_
 refine hK144 _ _ ?_
 refine wpIn_seq_k fun K145 hK145=>?_
 refine bif_split H (fun hb H=>?_) (fun hb H=>?_)
 refine cond_t hF (by kernel_rfl) hb ?_
 refine wpIn_skip ?_
 refine hK145 _ _ ?_
 refine wpIn_seq_k fun K146 hK146=>?_
 refine wpIn_block ?_
 refine wpIn_seq_k fun K147 hK147=>?_
 refine wpIn_region_lit ?_
 refine bind_split H (fun x148 hx148 H=>?_)
 refine wc (wo_index hF hS (by kernel_rfl) 0 (E:=95) (sz:=5) rfl rfl rfl (by kernel_rfl) rfl hx148 (by kernel_rfl) (by kernel_rfl) fun b149 f150 a hpx148 hF=>?_)
 obtain ⟨_,⟨⟨p151,c152⟩,rfl,hR⟩,hc⟩:=hS.elem 0 rfl hpx148 hx148
 have hS:=(hS.adds hR).add hc
 refine wc (wo_val hF (by kernel_rfl) (v := .agg (flat [si x148.id,sb x148.read,sg x148.key,su x148.at_,sl p151 (x148.writes).length c152]).toArray) ((val_loadCs 0 0 5 (s:=[si x148.id,sb x148.read,sg x148.key,su x148.at_,sl p151 (x148.writes).length c152]) (s':=[si x148.id,sb x148.read,sg x148.key,su x148.at_,sl p151 (x148.writes).length c152]) (n:=5) rfl rfl rfl (show segGood [si x148.id,sb x148.read,sg x148.key,su x148.at_,sl p151 (x148.writes).length c152] from (sgN 5 sgNil)) (by kernel_rfl) (by kernel_rfl) (by kernel_rfl) (by kernel_rfl) (by kernel_rfl) _ ⟨_,hS⟩)) fun a hF=>?_)
 refine wc (wal hF hS [si 0,sb false,sg ByteArray.empty,su 0,sl none 0 0] (sgN 5 sgNil) fun b153 a w hF hS=>?_)
 refine wc (wst hF hS 0 0 5 [si x148.id,sb x148.read,sg x148.key,su x148.at_,sl p151 (x148.writes).length c152] (sgN 5 sgNil) fun a w hF hS=>?_)
 refine wpListIn_nil ?_
 refine hK147 _ _ ?_
 refine wpIn_region_lit ?_
 refine wl_pure (L':=[(33,.slice p11 (a10).length c12),(34,vi ((a10).length:Int)),(35,vi y143),(39,.slice p140 (y142).length c141),(40,pt b153 0)]) 2 [33,34,35,39,40] hF (by kernel_rfl) fun a hF=>?_
 refine wc (wld hF hS 0 0 0 fun a hF=>?_)
 refine wc (wo_buildN (t:=(fInt .i64)) (z:=vi 0) (l:=[x148.id]) (vs:=[(0,vi x148.id)]) (cells := #[vi x148.id]) (E:=3) hF hS (by kernel_rfl) rfl (by kernel_rfl) (by kernel_rfl) rfl (by kernel_rfl) (by kernel_rfl) (by kernel_rfl) (by kernel_rfl) (by kernel_rfl) fun p154 κ a w hF hS=>?_)
 refine bind_split H (fun x155 hx155 H=>?_)
 refine wc (wo_appendO hF hS (by kernel_rfl) 5 0 rfl rfl rfl rfl rfl rfl rfl hx155 (by kernel_rfl) (i:=Tryz.t3) (z:=vi 0) (by kernel_rfl) (by kernel_rfl) (by kernel_rfl) fun p156 c157 κ a w hF hS=>?_)
 refine wp 1 [3,33,34,35] hF fun a hF=>?_
 refine wpListIn_nil ?_
 refine hK146 _ _ ?_
 refine wpIn_region_lit ?_
 refine wp 2 [3,33,34,35] hF fun a hF=>?_
 refine wpListIn_nil ?_
 exact ⟨fuel2,Nat.lt_succ_self _,_,p156,c157,x155,IntKind.i64.wrap (y143+1),hF.kp [3,33,34,35],hS.sp [2,3,4,5] [3,4,5],H⟩
 refine cond_f hF (by kernel_rfl) hb ?_
 refine wpIn_exit ?_
 refine hK88 _ _ ?_
 refine wpIn_seq_k fun K158 hK158=>?_
 refine wpIn_region_lit ?_
 refine wl_pure (L':=[(3,.slice p140 (y142).length c141),(45,.slice p140 (y142).length c141)]) 1 [3,45] hF (by kernel_rfl) fun a hF=>?_
 refine bind_split H (fun x159 hx159 H=>?_)
 refine wc (wo_sortO hF hS (by kernel_rfl) 3 (by kernel_rfl) rfl rfl sortI38 sortN38 hx159 fun a w hF hS=>?_)
 rw [← srtIK_length hx159] at hF
 refine wpListIn_nil ?_
 refine hK158 _ _ ?_
 refine wpIn_seq_k fun K160 hK160=>?_
 refine wpIn_region_lit ?_
 refine wp 2 [2] hF fun a hF=>?_
 refine wpListIn_nil ?_
 refine hK160 _ _ ?_
 refine wpIn_ret ?_
 obtain ⟨κ,hS⟩:=hS.pubO 3 rfl
 cases H
 exact ret_done hF hS (res1 Tryz.results19 (rvt hF)) ⟨p140,c141,rfl,hS.sp (rg 4) [0]⟩
 intro x84 cs85 m86 a w H hF hS
 refine wl_pure (L':=[(0,pt b14 0),(3,.slice p78 (y80).length c79),(20,pt b27 0),(22,vb true)]) 1 [0,3,20,22] hF (by kernel_rfl) fun a hF=>?_
 refine wpListIn_nil ?_
 refine hK83 _ _ ?_
 refine wpIn_seq_k fun K161 hK161=>?_
 refine cond_t hF (by kernel_rfl) rfl ?_
 refine wpIn_skip ?_
 refine hK161 _ _ ?_
 refine wpIn_block ?_
 refine wpIn_seq_k fun K162 hK162=>?_
 refine wpIn_region_lit ?_
 refine wc (wo_entry (kt:=(kInt .u64)) (agg:=true) (t:=t_gate_call) hF hS (by kernel_rfl) 2 4 3 0 rfl (by kernel_rfl) rfl rfl rfl rfl ?_)
 rintro _ a ⟨⟨p163,c164⟩,rfl,hR⟩ hF
 have hS:=hS.adds hR
 refine wp 1 [0,3,20,24] hF fun a hF=>?_
 refine wc (wal hF hS [si 0,sb false,sg ByteArray.empty,su 0,sl none 0 0] (sgN 5 sgNil) fun b165 a w hF hS=>?_)
 refine wc (wst hF hS 0 0 5 [si x84.2.id,sb x84.2.read,sg x84.2.key,su x84.2.at_,sl p163 (x84.2.writes).length c164] (sgN 5 sgNil) fun a w hF hS=>?_)
 refine wpListIn_nil ?_
 refine hK162 _ _ ?_
 refine wpIn_region_lit ?_
 refine wl_pure (L':=[(0,pt b14 0),(20,pt b27 0),(25,.slice p78 (y80).length c79),(26,pt b165 0)]) 2 [0,20,25,26] hF (by kernel_rfl) fun a hF=>?_
 refine wc (wld hF hS 0 0 0 fun a hF=>?_)
 refine wc (wo_buildN (t:=(fInt .i64)) (z:=vi 0) (l:=[x84.2.id]) (vs:=[(0,vi x84.2.id)]) (cells := #[vi x84.2.id]) (E:=3) hF hS (by kernel_rfl) rfl (by kernel_rfl) (by kernel_rfl) rfl (by kernel_rfl) (by kernel_rfl) (by kernel_rfl) (by kernel_rfl) (by kernel_rfl) fun p166 κ a w hF hS=>?_)
 refine bind_split H (fun x167 hx167 H=>?_)
 refine wc (wo_appendO hF hS (by kernel_rfl) 5 0 rfl rfl rfl rfl rfl rfl rfl hx167 (by kernel_rfl) (i:=Tryz.t3) (z:=vi 0) (by kernel_rfl) (by kernel_rfl) (by kernel_rfl) fun p168 c169 κ a w hF hS=>?_)
 refine wp 1 [0,3,20] hF fun a hF=>?_
 refine wpListIn_nil ?_
 exact ⟨fuel1,Nat.lt_succ_self _,_,p168,c169,x167,m86,(kRem y82 x84.1),hF.kp [0,3,20],hS.sp [2,3,4,5,6] [4,5,6,3],H⟩
end Go.Cf
