/- The walks: each function returns what its model says. Printed by a program of ours. -/
import Derived.Test.YtcplebnnanjngaaGreatZM1
import Derived.Test.YtcplebnnanjngaaGreatZWng8
import Derived.Test.YtcplebnnanjngaaGreatZWng9
namespace Go.Cf
open Go Go.Proofs
set_option linter.unusedVariables false
set_option maxRecDepth 20000 in
set_option maxHeartbeats 8000000 in
theorem C_law22_do_nil0 (N : Nat) {Ms : List Nat} {κ0 : Gh} {w0 : World} (a1 : T_law22_Op) (p2 : Option Addr) (c3 : Nat) (p4 : Option Addr) (c5 : Nat) (p6 : Option Addr) (c7 : Nat) (hB : SB Ms κ0 w0 [] [Ro.mp f_api_Ver.ty p2 c3 a1.Msg.Vers, Ro.mp (fInt .u64).ty p4 c5 a1.Msg.Vec, Ro.mp f_api_Ver.ty p6 c7 a1.Writes]) {r : (Int)} (H : M.law22_do_nil0 N a1 = some r) :
    Calls Tryz.prog 12 #[.pointer none, .agg (flat [si a1.Kind, si a1.From, si a1.Call, si a1.Msg.Kind, su a1.Msg.Id, su a1.Msg.N, su a1.Msg.TS, sg a1.Msg.Lo, sg a1.Msg.Hi, sl p2 (a1.Msg.Vers).length c3, sl p4 (a1.Msg.Vec).length c5, si a1.Msg.Cmd.Kind, si a1.Msg.Cmd.DC, si a1.Msg.Cmd.Shard, si a1.Msg.Cmd.Node, si a1.Msg.Cmd.Mode, sg a1.Msg.Cmd.Key, sg a1.Key, su a1.T, sl p6 (a1.Writes).length c7]).toArray] w0 (Post Ms κ0 w0 fun v κ w => v = vi r ∧ SS Ms κ0 w0 κ w [] []) := by
 have hS := hB.hS
 have hfr := hS.fresh
 refine enter (N := (47)) (L := [(0, .pointer none), (1, .agg (flat [si a1.Kind, si a1.From, si a1.Call, si a1.Msg.Kind, su a1.Msg.Id, su a1.Msg.N, su a1.Msg.TS, sg a1.Msg.Lo, sg a1.Msg.Hi, sl p2 (a1.Msg.Vers).length c3, sl p4 (a1.Msg.Vec).length c5, si a1.Msg.Cmd.Kind, si a1.Msg.Cmd.DC, si a1.Msg.Cmd.Shard, si a1.Msg.Cmd.Node, si a1.Msg.Cmd.Mode, sg a1.Msg.Cmd.Key, sg a1.Key, su a1.T, sl p6 (a1.Writes).length c7]).toArray)]) Tryz.func12 rfl Tryz.ntmps12 (show 2 ≤ (47) by decide) rfl fun a hF => ?_
 unfold M.law22_do_nil0 at H
 refine wpIn_seq_k fun K8 hK8 => ?_
 refine wpIn_region_lit ?_
 refine wc (wbx hF hS [si a1.Kind, si a1.From, si a1.Call, si a1.Msg.Kind, su a1.Msg.Id, su a1.Msg.N, su a1.Msg.TS, sg a1.Msg.Lo, sg a1.Msg.Hi, sl p2 (a1.Msg.Vers).length c3, sl p4 (a1.Msg.Vec).length c5, si a1.Msg.Cmd.Kind, si a1.Msg.Cmd.DC, si a1.Msg.Cmd.Shard, si a1.Msg.Cmd.Node, si a1.Msg.Cmd.Mode, sg a1.Msg.Cmd.Key, sg a1.Key, su a1.T, sl p6 (a1.Writes).length c7] (sgN 20 sgNil) fun b9 a w hF hS => ?_)
 refine wp 1 [0, 3] hF fun a hF => ?_
 refine wpListIn_nil ?_
 refine hK8 _ _ ?_
 refine seq_join (fun a w => ∃ κ : Gh, Fr (47) [] [] a ∧ SS Ms κ0 w0 κ w [] [] ∧ M.law22_do_nil0_k1 N  = some r) ?_ ?_
 refine wpIn_seq_k fun K11 hK11 => ?_
 refine wpIn_region_lit ?_
 refine wp 1 [0, 3, 5] hF fun a hF => ?_
 refine wc (wld hF hS 0 0 0 fun a hF => ?_)
 refine wpListIn_nil ?_
 refine hK11 _ _ ?_
 refine wpIn_block ?_
 refine wpIn_seq_k fun K12 hK12 => ?_
 refine wpIn_region_lit ?_
 refine wp 2 [0, 3, 6, 7] hF fun a hF => ?_
 refine wpListIn_nil ?_
 refine hK12 _ _ ?_
 refine bif_split H (fun hb H => ?_) (fun hb H => ?_)
 refine cond_t hF (by kernel_rfl) hb ?_
 refine wpIn_region_lit ?_
 refine wp 2 [3, 9, 10] hF fun a hF => ?_
 refine wc (wld hF hS 0 1 0 fun a hF => ?_)
 refine wp 1 [9, 11, 12] hF fun a hF => ?_
 refine wc (wls hF hS 0 3 14 fun a hF => ?_)
 refine bind_split H (fun x13 hx13 H => ?_)
 refine wc (wcS 0 [0] hF hS (fun hS => C_gate_Gate_Take_nil0 N a1.From (T_api_Msg.mk a1.Msg.Kind a1.Msg.Id a1.Msg.N a1.Msg.TS a1.Msg.Lo a1.Msg.Hi a1.Msg.Vers a1.Msg.Vec (T_api_Cmd.mk a1.Msg.Cmd.Kind a1.Msg.Cmd.DC a1.Msg.Cmd.Shard a1.Msg.Cmd.Node a1.Msg.Cmd.Mode a1.Msg.Cmd.Key)) p2 c3 p4 c5  (hS.sbK [0, 1]) hx13) ?_)
 rintro _ κ w a ⟨rfl, h2⟩ hF hB
 have hS := hB _ _ h2
 refine wpListIn_nil ?_
 exact ⟨_, hF.kp [], hS.sp [] [], H⟩
 refine cond_f hF (by kernel_rfl) hb ?_
 refine wpIn_seq_k fun K14 hK14 => ?_
 refine wpIn_region_lit ?_
 refine wp 2 [0, 3, 6, 15] hF fun a hF => ?_
 refine wpListIn_nil ?_
 refine hK14 _ _ ?_
 refine bif_split H (fun hb H => ?_) (fun hb H => ?_)
 refine cond_t hF (by kernel_rfl) hb ?_
 refine wpIn_region_lit ?_
 refine wp 2 [3, 17, 18] hF fun a hF => ?_
 refine wc (wld hF hS 0 1 0 fun a hF => ?_)
 refine wp 1 [17, 19, 20] hF fun a hF => ?_
 refine wc (wls hF hS 0 3 14 fun a hF => ?_)
 refine bind_split H (fun x15 hx15 H => ?_)
 refine wc (wcS 0 [0] hF hS (fun hS => C_gate_Gate_Hear_nil0 N a1.From (T_api_Msg.mk a1.Msg.Kind a1.Msg.Id a1.Msg.N a1.Msg.TS a1.Msg.Lo a1.Msg.Hi a1.Msg.Vers a1.Msg.Vec (T_api_Cmd.mk a1.Msg.Cmd.Kind a1.Msg.Cmd.DC a1.Msg.Cmd.Shard a1.Msg.Cmd.Node a1.Msg.Cmd.Mode a1.Msg.Cmd.Key)) p2 c3 p4 c5  (hS.sbK [0, 1]) hx15) ?_)
 rintro _ κ w a ⟨rfl, h2⟩ hF hB
 have hS := hB _ _ h2
 refine wpListIn_nil ?_
 exact ⟨_, hF.kp [], hS.sp [] [], H⟩
 refine cond_f hF (by kernel_rfl) hb ?_
 refine wpIn_seq_k fun K16 hK16 => ?_
 refine wpIn_region_lit ?_
 refine wp 2 [0, 3, 6, 23] hF fun a hF => ?_
 refine wpListIn_nil ?_
 refine hK16 _ _ ?_
 refine bif_split H (fun hb H => ?_) (fun hb H => ?_)
 refine cond_t hF (by kernel_rfl) hb ?_
 refine wpIn_seq_k fun K17 hK17 => ?_
 refine wpIn_region_lit ?_
 refine wp 2 [3, 25, 26] hF fun a hF => ?_
 refine wc (wld hF hS 0 2 0 fun a hF => ?_)
 refine wp 1 [3, 25, 27, 28] hF fun a hF => ?_
 refine wc (wld hF hS 0 17 0 fun a hF => ?_)
 refine wp 1 [25, 27, 29, 30] hF fun a hF => ?_
 refine wc (wld hF hS 0 18 0 fun a hF => ?_)
 refine bind_split H (fun x18 hx18 H => ?_)
 refine wc (wcS 0 [0] hF hS (fun hS => C_gate_Gate_Read_nil0 N a1.Call a1.Key a1.T   (hS.sbK []) hx18) ?_)
 rintro _ κ w a ⟨rfl, h2⟩ hF hB
 have hS := hB _ _ h2
 refine wp 1 [4] hF fun a hF => ?_
 refine wpListIn_nil ?_
 refine hK17 _ _ ?_
 refine wpIn_ret ?_
 cases H
 exact ret_done hF hS (res1 Tryz.results12 (rvt hF)) ⟨rfl, hS.sp [] []⟩
 refine cond_f hF (by kernel_rfl) hb ?_
 refine wpIn_seq_k fun K19 hK19 => ?_
 refine wpIn_region_lit ?_
 refine wp 2 [0, 3, 6, 33] hF fun a hF => ?_
 refine wpListIn_nil ?_
 refine hK19 _ _ ?_
 refine bif_split H (fun hb H => ?_) (fun hb H => ?_)
 refine cond_t hF (by kernel_rfl) hb ?_
 refine wpIn_seq_k fun K20 hK20 => ?_
 refine wpIn_region_lit ?_
 refine wp 2 [3, 35, 36] hF fun a hF => ?_
 refine wc (wld hF hS 0 2 0 fun a hF => ?_)
 refine wp 1 [3, 35, 37, 38] hF fun a hF => ?_
 refine wc (wld hF hS 0 18 0 fun a hF => ?_)
 refine wp 1 [35, 37, 39, 40] hF fun a hF => ?_
 refine wc (wld hF hS 0 19 0 fun a hF => ?_)
 refine bind_split H (fun x21 hx21 H => ?_)
 refine wc (wcS 0 [0] hF hS (fun hS => C_gate_Gate_Commit_nil0 N a1.Call a1.T a1.Writes p6 c7  (hS.sbK [2]) hx21) ?_)
 rintro _ κ w a ⟨rfl, h2⟩ hF hB
 have hS := hB _ _ h2
 refine wp 1 [4] hF fun a hF => ?_
 refine wpListIn_nil ?_
 refine hK20 _ _ ?_
 refine wpIn_ret ?_
 cases H
 exact ret_done hF hS (res1 Tryz.results12 (rvt hF)) ⟨rfl, hS.sp [] []⟩
 refine cond_f hF (by kernel_rfl) hb ?_
 refine wpIn_seq_k fun K22 hK22 => ?_
 refine wpIn_region_lit ?_
 refine wp 2 [0, 43] hF fun a hF => ?_
 refine wpListIn_nil ?_
 refine hK22 _ _ ?_
 refine bif_split H (fun hb H => ?_) (fun hb H => ?_)
 refine cond_t hF (by kernel_rfl) hb ?_
 refine wpIn_seq_k fun K23 hK23 => ?_
 refine wpIn_region_lit ?_
 refine wp 1 [45] hF fun a hF => ?_
 refine bind_split H (fun x24 hx24 H => ?_)
 refine wc (wcS 0 [0] hF hS (fun hS => C_gate_Gate_Trim_nil0 N    (hS.sbK []) hx24) ?_)
 rintro _ κ w a ⟨rfl, h2⟩ hF hB
 have hS := hB _ _ h2
 refine wp 1 [4] hF fun a hF => ?_
 refine wpListIn_nil ?_
 refine hK23 _ _ ?_
 refine wpIn_ret ?_
 cases H
 exact ret_done hF hS (res1 Tryz.results12 (rvt hF)) ⟨rfl, hS.sp [] []⟩
 refine cond_f hF (by kernel_rfl) hb ?_
 refine wpIn_skip ?_
 exact ⟨_, hF.kp [], hS.sp [] [], H⟩
 rintro a w ⟨κ, hF, hS, H⟩
 unfold M.law22_do_nil0_k1 at H
 refine wpIn_seq_k fun K10 hK10 => ?_
 refine wpIn_region_lit ?_
 refine wp 1 [4] hF fun a hF => ?_
 refine wpListIn_nil ?_
 refine hK10 _ _ ?_
 refine wpIn_ret ?_
 cases H
 exact ret_done hF hS (res1 Tryz.results12 (rvt hF)) ⟨rfl, hS.sp [] []⟩
end Go.Cf
