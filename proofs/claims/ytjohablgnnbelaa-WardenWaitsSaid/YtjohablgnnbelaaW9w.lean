/- The walks: each function returns what its model says. Printed by a program of ours. -/
import Derived.Test.YtjohablgnnbelaaM9w
import Derived.Test.YtjohablgnnbelaaW3
import Derived.Test.YtjohablgnnbelaaW8
import Derived.Test.YtjohablgnnbelaaW8a
namespace Go.Cf
open Go Go.Proofs
set_option linter.unusedVariables false
set_option maxRecDepth 20000 in
set_option maxHeartbeats 1000000 in
theorem C_law19_WardenWaits (N : Nat) {κ0 : Gh} {w0 : World} (hfr : Fresh κ0 w0) (a1 : Int) (a2 : Int) (a3 : Int) (a4 : T_api_Cmd) (a5 : Int) (a6 : (List T_law19_Op)) (p7 : Option Addr) (c8 : Nat) (hR : ∀ m ∈ ([Ro.mp t_law19_Op p7 c8 a6] : List MP), m.p κ0 w0) {r : (Bool)} (H : M.law19_WardenWaits N a1 a2 a3 a4 a5 a6 = some r) :
    Calls Try.prog 17 #[.int .i64 (a1), .int .i64 (a2), .int .i64 (a3), .agg (flat [(1, [.int .i64 (a4.Kind)]), (1, [.int .i64 (a4.DC)]), (1, [.int .i64 (a4.Shard)]), (1, [.int .i64 (a4.Node)]), (1, [.int .i64 (a4.Mode)]), (1, [.string (a4.Key)])]).toArray, .int .i64 (a5), .slice p7 (a6).length c8] w0 (Post [] κ0 w0 fun v κ w => v = .bool (r) ∧ (∀ m ∈ ([] : List MP), m.p κ w) ∧ NewC w0 κ w []) := by
 have hS := SS.start hfr hR
 refine enter (N := (108)) (L := [(0, .int .i64 (a1)), (1, .int .i64 (a2)), (2, .int .i64 (a3)), (3, .agg (flat [si a4.Kind, si a4.DC, si a4.Shard, si a4.Node, si a4.Mode, sg a4.Key]).toArray), (4, .int .i64 (a5)), (5, .slice p7 (a6).length c8)]) Try.func17 rfl Try.ntmps17 (show 6 ≤ (108) by decide) rfl fun a hF => ?_
 unfold M.law19_WardenWaits at H
 refine wpIn_seq_k fun K9 hK9 => ?_
 refine wpIn_region_lit ?_
 refine wc (wbx hF hS [si a4.Kind, si a4.DC, si a4.Shard, si a4.Node, si a4.Mode, sg a4.Key] (sgN 6 sgNil) fun b10 a w hF hS => ?_)
 refine wp 1 [0, 1, 2, 4, 5, 9] hF fun a hF => ?_
 refine wpListIn_nil ?_
 refine hK9 _ _ ?_
 refine wpIn_seq_k fun K11 hK11 => ?_
 refine wpIn_region_lit ?_
 refine wp 3 [1, 4, 5, 9, 20, 21, 22] hF fun a hF => ?_
 refine bind_split H (fun x12 hx12 H => ?_)
 refine wc (wo_callP hF hS (by kernel_rfl) (by kernel_rfl) (C_config_Start N hS.fresh a1 a2 a3  ((hS.pick [] (by kernel_rfl)).ro) hx12) ?_)
 rintro _ κ w a ⟨cs13, rfl, hR, hN⟩ hF hS hO
 have hS := hS.adds hR
 refine wp 3 [1, 4, 5, 9, 24, 25] hF fun a hF => ?_
 have hS := hS.add (m := MP.const (List.length (List.replicate 4 false) = 4)) (List.length_replicate)
 have hS := hS.add (m := Arr.mp t_api_Map ((List.replicate 4 (flat [(1, [.slice none 0 0]), (1, [.slice none 0 0])])).flatten) 4 (List.replicate 4 (T_api_Map.mk ([] : List ByteArray) ([] : List Int)))) (Arr.zero _ _ _ _ _ z_api_Map)
 have hS := hS.add (m := MP.const (List.length (List.replicate 21 0) = 21)) (List.length_replicate)
 refine wc (wal hF hS [si 0, si 0, (4, (encs fBool (List.replicate 4 false))), (8, (List.replicate 4 (flat [(1, [.slice none 0 0]), (1, [.slice none 0 0])])).flatten), (21, (encs (fInt .i64) (List.replicate 21 0)))] (sgN 2 (sgEnc List.length_replicate (sgArr (hS.get 1 rfl) (sgEnc List.length_replicate sgNil)))) fun b14 a w hF hS => ?_)
 refine wc (wst hF hS 0 0 5 [si x12.1.Pool, si x12.1.Nodes, (4, (encs fBool x12.1.Members)), (8, cs13), (21, (encs (fInt .i64) x12.1.Modes))] (sgN 2 (sgEnc (hS.get 3 rfl) (sgArr (hS.get 4 rfl) (sgEnc (hS.get 5 rfl) sgNil)))) fun a w hF hS => ?_)
 refine wp 1 [1, 4, 5, 9, 13, 14] hF fun a hF => ?_
 refine wpListIn_nil ?_
 refine hK11 _ _ ?_
 refine wpIn_seq_k fun K15 hK15 => ?_
 refine wpIn_seq_k fun K16 hK16 => ?_
 refine wpIn_region_lit ?_
 refine bind_split H (fun v18 hv18 H => ?_)
 refine wl_join (fun a w => ∃ κ : Gh, Fr (108) [] [(4, .int .i64 (a5)), (5, .slice p7 (a6).length c8), (9, pt b10 0), (13, pt b14 0), (36, .bool (v18))] a ∧ SS [] κ0 w0 κ w [.box b14 30 [si x12.1.Pool, si x12.1.Nodes, (4, (encs fBool x12.1.Members)), (8, cs13), (21, (encs (fInt .i64) x12.1.Modes))], .box b10 72 [si a4.Kind, si a4.DC, si a4.Shard, si a4.Node, si a4.Mode, sg a4.Key]] [Ro.mp t_law19_Op p7 c8 a6, MP.const (List.length x12.1.Members = 4), Arr.mp t_api_Map cs13 4 x12.1.Maps, MP.const (List.length x12.1.Modes = 21)] ∧ True) ?_ ?_
 refine wp 3 [1, 4, 5, 9, 13, 28] hF fun a hF => ?_
 refine bif_split hv18 (fun hb hv18 => ?_) (fun hb hv18 => ?_)
 have hF := hF.boolv 28 (by kernel_rfl) hb
 refine wp 8 [4, 5, 9, 13, 36] hF fun a hF => ?_
 refine wpListIn_nil ?_
 cases hv18
 exact ⟨_, hF.kp [4, 5, 9, 13, 36], hS.sp [0, 1] [6, 3, 4, 5], trivial⟩
 have hF := hF.boolv 28 (by kernel_rfl) hb
 refine wp 4 [1, 4, 5, 9, 13, 32] hF fun a hF => ?_
 refine bif_split hv18 (fun hb hv18 => ?_) (fun hb hv18 => ?_)
 have hF := hF.boolv 32 (by kernel_rfl) hb
 refine wp 4 [4, 5, 9, 13, 36] hF fun a hF => ?_
 refine wpListIn_nil ?_
 cases hv18
 exact ⟨_, hF.kp [4, 5, 9, 13, 36], hS.sp [0, 1] [6, 3, 4, 5], trivial⟩
 have hF := hF.boolv 32 (by kernel_rfl) hb
 refine wp 4 [4, 5, 9, 13, 36] hF fun a hF => ?_
 refine wpListIn_nil ?_
 cases hv18
 exact ⟨_, hF.kp [4, 5, 9, 13, 36], hS.sp [0, 1] [6, 3, 4, 5], trivial⟩
 rintro a w ⟨κ, hF, hS, -⟩
 refine hK16 _ _ ?_
 refine bif_split H (fun hb H => ?_) (fun hb H => ?_)
 refine cond_t hF (by kernel_rfl) hb ?_
 refine wpIn_seq_k fun K19 hK19 => ?_
 refine wpIn_region_lit ?_
 refine bind_split H (fun x20 hx20 H => ?_)
 refine wc (wo_callP hF hS (by kernel_rfl) (by kernel_rfl) (C_law19_awake N hS.fresh   ((hS.pick [] (by kernel_rfl)).ro) hx20) ?_)
 rintro _ κ w a ⟨rfl, hR, hN⟩ hF hS hO
 refine wp 1 [12] hF fun a hF => ?_
 refine wpListIn_nil ?_
 refine hK19 _ _ ?_
 refine wpIn_ret ?_
 cases H
 exact (ret_done hF hS (res1 Try.results17 (rvt hF)) ⟨rfl, (hS.pick [] (by kernel_rfl)).ro, hS.newC [] (by decide) (by kernel_rfl)⟩)
 refine cond_f hF (by kernel_rfl) hb ?_
 refine wpIn_skip ?_
 refine hK15 _ _ ?_
 refine wpIn_seq_k fun K21 hK21 => ?_
 refine wpIn_region_lit ?_
 refine wc (wls hF hS 0 0 5 fun a hF => ?_)
 refine bind_split H (fun x22 hx22 H => ?_)
 refine wc (wo_callS (Cin := []) (Cr := [.box b14 30 [si x12.1.Pool, si x12.1.Nodes, (4, (encs fBool x12.1.Members)), (8, cs13), (21, (encs (fInt .i64) x12.1.Modes))], .box b10 72 [si a4.Kind, si a4.DC, si a4.Shard, si a4.Node, si a4.Mode, sg a4.Key]]) (args := #[.agg (flat [si x12.1.Pool, si x12.1.Nodes, (4, (encs fBool x12.1.Members)), (8, cs13), (21, (encs (fInt .i64) x12.1.Modes))]).toArray]) (f := 64) hF (hS.selp [0, 1] (by decide) (by kernel_rfl)) (by kernel_rfl) (by kernel_rfl) (fun hS => C_warden_New N (T_config_State.mk x12.1.Pool x12.1.Nodes x12.1.Members x12.1.Maps x12.1.Modes) cs13  rfl (hS.pick [1, 2, 3] (by kernel_rfl)) hx22) ?_)
 rintro _ κ w a ⟨b23, cs24, cs25, p26, c27, p28, c29, rfl, h2⟩ hF hB
 have hS := hB _ _ h2
 refine wp 1 [4, 5, 9, 15] hF fun a hF => ?_
 refine wpListIn_nil ?_
 refine hK21 _ _ ?_
 refine wpIn_seq_k fun K30 hK30 => ?_
 refine wpIn_seq_k fun K31 hK31 => ?_
 refine wpIn_region_lit ?_
 refine wp 2 [4, 5, 9, 15, 41] hF fun a hF => ?_
 refine wpListIn_nil ?_
 refine hK31 _ _ ?_
 refine cond_f hF (by kernel_rfl) rfl ?_
 refine wpIn_skip ?_
 refine hK30 _ _ ?_
 refine wpIn_seq_k fun K32 hK32 => ?_
 refine wpIn_seq_k fun K33 hK33 => ?_
 refine wpIn_region_lit ?_
 refine wl_pure (L' := [(4, .int .i64 (a5)), (5, .slice p7 (a6).length c8), (9, pt b10 0), (15, pt b23 0), (43, pt b23 0)]) 1 [4, 5, 9, 15, 43] hF (by kernel_rfl) fun a hF => ?_
 refine wc (wls hF hS 4 0 6 fun a hF => ?_)
 refine bind_split H (fun x34 hx34 H => ?_)
 refine wc (wo_callS (Cin := [.box b23 120 [si x22.now.Pool, si x22.now.Nodes, (4, (encs fBool x22.now.Members)), (8, cs24), (21, (encs (fInt .i64) x22.now.Modes)), si x22.tail.Pool, si x22.tail.Nodes, (4, (encs fBool x22.tail.Members)), (8, cs25), (21, (encs (fInt .i64) x22.tail.Modes)), (1, [.slice p26 (x22.queue).length c27]), si x22.done, si x22.epoch, si x22.step_, (4, (encs fBool x22.wait)), (1, [.int .u64 (x22.mark_)]), sb x22.ready, (1, [.slice p28 (x22.out).length c29])], .tok p26 72 6 (x22.queue).length c27, .tok p28 106 15 (x22.out).length c29]) (Cr := [.box b14 30 [si x12.1.Pool, si x12.1.Nodes, (4, (encs fBool x12.1.Members)), (8, cs13), (21, (encs (fInt .i64) x12.1.Modes))], .box b10 72 [si a4.Kind, si a4.DC, si a4.Shard, si a4.Node, si a4.Mode, sg a4.Key]]) (args := #[pt b23 0, .agg (flat [si a4.Kind, si a4.DC, si a4.Shard, si a4.Node, si a4.Mode, sg a4.Key]).toArray]) (f := 65) hF (hS.selp [0, 1, 2, 3, 4] (by decide) (by kernel_rfl)) (by kernel_rfl) (by kernel_rfl) (fun hS => C_warden_Warden_Ask N (T_warden_Warden.mk (T_config_State.mk x22.now.Pool x22.now.Nodes x22.now.Members x22.now.Maps x22.now.Modes) (T_config_State.mk x22.tail.Pool x22.tail.Nodes x22.tail.Members x22.tail.Maps x22.tail.Modes) x22.queue x22.done x22.epoch x22.step_ x22.wait x22.mark_ x22.ready x22.out) (T_api_Cmd.mk a4.Kind a4.DC a4.Shard a4.Node a4.Mode a4.Key) cs24 cs25 p26 c27 p28 c29 b23 rfl (hS.pick [0, 1, 2, 3, 4, 5, 6, 7, 8] (by kernel_rfl)) hx34) ?_)
 rintro _ κ w a ⟨cs35, cs36, p37, c38, p39, c40, rfl, h2⟩ hF hB
 have hS := hB _ _ h2
 refine wp 5 [4, 5, 15, 17] hF fun a hF => ?_
 refine wpListIn_nil ?_
 refine hK33 _ _ ?_
 refine wpIn_seq_k fun K41 hK41 => ?_
 refine wpIn_region_lit ?_
 refine wp 2 [4, 5, 15, 49] hF fun a hF => ?_
 refine wpListIn_nil ?_
 refine hK41 _ _ ?_
 refine bif_split H (fun hb H => ?_) (fun hb H => ?_)
 refine cond_t hF (by kernel_rfl) hb ?_
 refine wpIn_seq_k fun K42 hK42 => ?_
 refine wpIn_region_lit ?_
 refine bind_split H (fun v44 hv44 H => ?_)
 refine wl_join (fun a w => ∃ κ : Gh, Fr (108) [] [(12, .bool (v44))] a ∧ SS [] κ0 w0 κ w [] [] ∧ True) ?_ ?_
 refine bind_split hv44 (fun x45 hx45 hv44 => ?_)
 refine wc (wo_callP hF hS (by kernel_rfl) (by kernel_rfl) (C_law19_awake N hS.fresh   ((hS.pick [] (by kernel_rfl)).ro) hx45) ?_)
 rintro _ κ w a ⟨rfl, hR, hN⟩ hF hS hO
 refine wp 1 [15, 51] hF fun a hF => ?_
 refine bif_split hv44 (fun hb hv44 => ?_) (fun hb hv44 => ?_)
 have hF := hF.boolv 51 (by kernel_rfl) hb
 refine wl_pure (L' := [(15, pt b23 0), (51, .bool (true)), (52, pt b23 0)]) 1 [15, 51, 52] hF (by kernel_rfl) fun a hF => ?_
 refine bind_split hv44 (fun x46 hx46 hv44 => ?_)
 refine wcg hF (wo_callS (Cin := [.box b23 120 [si x34.2.2.now.Pool, si x34.2.2.now.Nodes, (4, (encs fBool x34.2.2.now.Members)), (8, cs35), (21, (encs (fInt .i64) x34.2.2.now.Modes)), si x34.2.2.tail.Pool, si x34.2.2.tail.Nodes, (4, (encs fBool x34.2.2.tail.Members)), (8, cs36), (21, (encs (fInt .i64) x34.2.2.tail.Modes)), (1, [.slice p37 (x34.2.2.queue).length c38]), si x34.2.2.done, si x34.2.2.epoch, si x34.2.2.step_, (4, (encs fBool x34.2.2.wait)), (1, [.int .u64 (x34.2.2.mark_)]), sb x34.2.2.ready, (1, [.slice p39 (x34.2.2.out).length c40])]]) (Cr := [.tok p37 72 6 (x34.2.2.queue).length c38, .tok p39 106 15 (x34.2.2.out).length c40, .box b14 30 [si x12.1.Pool, si x12.1.Nodes, (4, (encs fBool x12.1.Members)), (8, cs13), (21, (encs (fInt .i64) x12.1.Modes))], .box b10 72 [si a4.Kind, si a4.DC, si a4.Shard, si a4.Node, si a4.Mode, sg a4.Key]]) (args := #[pt b23 0]) (f := 66) hF (hS.selp [0, 1, 2, 3, 4] (by decide) (by kernel_rfl)) (by kernel_rfl) (by kernel_rfl) (fun hS => C_warden_Warden_Pending N (T_warden_Warden.mk (T_config_State.mk x34.2.2.now.Pool x34.2.2.now.Nodes x34.2.2.now.Members x34.2.2.now.Maps x34.2.2.now.Modes) (T_config_State.mk x34.2.2.tail.Pool x34.2.2.tail.Nodes x34.2.2.tail.Members x34.2.2.tail.Maps x34.2.2.tail.Modes) x34.2.2.queue x34.2.2.done x34.2.2.epoch x34.2.2.step_ x34.2.2.wait x34.2.2.mark_ x34.2.2.ready x34.2.2.out) cs35 cs36 p37 c38 p39 c40 b23 rfl (hS.pick [0, 1, 2, 3, 4, 5, 6, 7, 8] (by kernel_rfl)) hx46) ?_)
 rintro _ κ w a ⟨rfl, h2⟩ hF hB
 have hS := hB _ _ h2
 refine wp 3 [15, 56] hF fun a hF => ?_
 refine bif_split hv44 (fun hb hv44 => ?_) (fun hb hv44 => ?_)
 have hF := hF.boolv 56 (by kernel_rfl) hb
 refine wl_pure (L' := [(56, .bool (true)), (57, pt b23 0)]) 1 [56, 57] hF (by kernel_rfl) fun a hF => ?_
 refine bind_split hv44 (fun x47 hx47 hv44 => ?_)
 refine wcg hF (wo_callS (Cin := [.box b23 120 [si x34.2.2.now.Pool, si x34.2.2.now.Nodes, (4, (encs fBool x34.2.2.now.Members)), (8, cs35), (21, (encs (fInt .i64) x34.2.2.now.Modes)), si x34.2.2.tail.Pool, si x34.2.2.tail.Nodes, (4, (encs fBool x34.2.2.tail.Members)), (8, cs36), (21, (encs (fInt .i64) x34.2.2.tail.Modes)), (1, [.slice p37 (x34.2.2.queue).length c38]), si x34.2.2.done, si x34.2.2.epoch, si x34.2.2.step_, (4, (encs fBool x34.2.2.wait)), (1, [.int .u64 (x34.2.2.mark_)]), sb x34.2.2.ready, (1, [.slice p39 (x34.2.2.out).length c40])], .tok p37 72 6 (x34.2.2.queue).length c38, .tok p39 106 15 (x34.2.2.out).length c40]) (Cr := [.box b14 30 [si x12.1.Pool, si x12.1.Nodes, (4, (encs fBool x12.1.Members)), (8, cs13), (21, (encs (fInt .i64) x12.1.Modes))], .box b10 72 [si a4.Kind, si a4.DC, si a4.Shard, si a4.Node, si a4.Mode, sg a4.Key]]) (args := #[pt b23 0]) (f := 67) hF (hS.selp [0, 1, 2, 3, 4] (by decide) (by kernel_rfl)) (by kernel_rfl) (by kernel_rfl) (fun hS => C_warden_Warden_Out N (T_warden_Warden.mk (T_config_State.mk x34.2.2.now.Pool x34.2.2.now.Nodes x34.2.2.now.Members x34.2.2.now.Maps x34.2.2.now.Modes) (T_config_State.mk x34.2.2.tail.Pool x34.2.2.tail.Nodes x34.2.2.tail.Members x34.2.2.tail.Maps x34.2.2.tail.Modes) x34.2.2.queue x34.2.2.done x34.2.2.epoch x34.2.2.step_ x34.2.2.wait x34.2.2.mark_ x34.2.2.ready x34.2.2.out) cs35 cs36 p37 c38 p39 c40 b23 rfl (hS.pick [0, 1, 2, 3, 4, 5, 6, 7, 8] (by kernel_rfl)) hx47) ?_)
 rintro _ κ w a ⟨p48, c49, cs50, cs51, p52, c53, p54, c55, rfl, h2⟩ hF hB
 have hS := hB _ _ h2
 refine wp 4 [12] hF fun a hF => ?_
 refine wpListIn_nil ?_
 cases hv44
 exact ⟨_, hF.kp [12], hS.sp [] [], trivial⟩
 have hF := hF.boolv 56 (by kernel_rfl) hb
 refine wp 6 [12] hF fun a hF => ?_
 refine wpListIn_nil ?_
 cases hv44
 exact ⟨_, hF.kp [12], hS.sp [] [], trivial⟩
 have hF := hF.boolv 51 (by kernel_rfl) hb
 refine wp 11 [12] hF fun a hF => ?_
 refine wpListIn_nil ?_
 cases hv44
 exact ⟨_, hF.kp [12], hS.sp [] [], trivial⟩
 rintro a w ⟨κ, hF, hS, -⟩
 refine hK42 _ _ ?_
 refine wpIn_ret ?_
 cases H
 exact (ret_done hF hS (res1 Try.results17 (rvt hF)) ⟨rfl, (hS.pick [] (by kernel_rfl)).ro, hS.newC [] (by decide) (by kernel_rfl)⟩)
 refine cond_f hF (by kernel_rfl) hb ?_
 refine wpIn_skip ?_
 refine hK32 _ _ ?_
 refine wpIn_seq_k fun K56 hK56 => ?_
 refine wpIn_seq_k fun K57 hK57 => ?_
 refine wpIn_region_lit ?_
 refine wp 1 [4, 5, 15, 18] hF fun a hF => ?_
 refine wpListIn_nil ?_
 refine hK57 _ _ ?_
 refine wpIn_block ?_
 refine loop_fuel (n := N) (fun n a w => ∃ κ : Gh, ∃ y108 : Int, ∃ y109 : Int, ∃ y110 : (List Bool), ∃ y111 : (List T_api_Map), ∃ cs112 : List Value, ∃ y113 : (List Int), ∃ y114 : Int, ∃ y115 : Int, ∃ y116 : (List Bool), ∃ y117 : (List T_api_Map), ∃ cs118 : List Value, ∃ y119 : (List Int), ∃ y120 : (List T_api_Cmd), ∃ p121 : Option Addr, ∃ c122 : Nat, ∃ y123 : Int, ∃ y124 : Int, ∃ y125 : Int, ∃ y126 : (List Bool), ∃ y127 : Int, ∃ y128 : Bool, ∃ y129 : (List T_api_Mail), ∃ p130 : Option Addr, ∃ c131 : Nat, ∃ y132 : Int, Fr (108) [] [(4, .int .i64 (a5)), (5, .slice p7 (a6).length c8), (15, pt b23 0), (18, .int .i64 (y132))] a ∧ SS [] κ0 w0 κ w [.box b23 120 [si y108, si y109, (4, (encs fBool y110)), (8, cs112), (21, (encs (fInt .i64) y113)), si y114, si y115, (4, (encs fBool y116)), (8, cs118), (21, (encs (fInt .i64) y119)), (1, [.slice p121 (y120).length c122]), si y123, si y124, si y125, (4, (encs fBool y126)), (1, [.int .u64 (y127)]), sb y128, (1, [.slice p130 (y129).length c131])], .tok p121 72 6 (y120).length c122, .tok p130 106 15 (y129).length c131] [Ro.mp t_law19_Op p7 c8 a6, MP.const (List.length y110 = 4), Arr.mp t_api_Map cs112 4 y111, MP.const (List.length y113 = 21), MP.const (List.length y116 = 4), Arr.mp t_api_Map cs118 4 y117, MP.const (List.length y119 = 21), Ro.mp f_api_Cmd.ty p121 c122 y120, MP.const (List.length y126 = 4), Ro.mp t_api_Mail p130 c131 y129] ∧ M.law19_WardenWaits_L1 N n a5 a6 y108 y109 y110 y111 y113 y114 y115 y116 y117 y119 y120 y123 y124 y125 y126 y127 y128 y129 y132 = some r) ?_ ?_
 exact ⟨_, x34.2.2.now.Pool, x34.2.2.now.Nodes, x34.2.2.now.Members, x34.2.2.now.Maps, cs35, x34.2.2.now.Modes, x34.2.2.tail.Pool, x34.2.2.tail.Nodes, x34.2.2.tail.Members, x34.2.2.tail.Maps, cs36, x34.2.2.tail.Modes, x34.2.2.queue, p37, c38, x34.2.2.done, x34.2.2.epoch, x34.2.2.step_, x34.2.2.wait, x34.2.2.mark_, x34.2.2.ready, x34.2.2.out, p39, c40, 0, hF.kp [4, 5, 15, 18], hS.sp [0, 1, 2] [18, 0, 1, 2, 3, 4, 5, 6, 7, 8], H⟩
 rintro n a w ⟨κ, y108, y109, y110, y111, cs112, y113, y114, y115, y116, y117, cs118, y119, y120, p121, c122, y123, y124, y125, y126, y127, y128, y129, p130, c131, y132, hF, hS, H⟩
 rcases n with _ | fuel1
 simp [M.law19_WardenWaits_L1] at H
 simp only [M.law19_WardenWaits_L1] at H
 refine wpIn_seq_k fun K133 hK133 => ?_
 refine wpIn_seq_k fun K134 hK134 => ?_
 refine wpIn_region_lit ?_
 refine bind_split H (fun v136 hv136 H => ?_)
 refine wl_join (fun a w => ∃ κ : Gh, Fr (108) [] [(4, .int .i64 (a5)), (5, .slice p7 (a6).length c8), (15, pt b23 0), (18, .int .i64 (y132)), (69, .bool (v136))] a ∧ SS [] κ0 w0 κ w [.box b23 120 [si y108, si y109, (4, (encs fBool y110)), (8, cs112), (21, (encs (fInt .i64) y113)), si y114, si y115, (4, (encs fBool y116)), (8, cs118), (21, (encs (fInt .i64) y119)), (1, [.slice p121 (y120).length c122]), si y123, si y124, si y125, (4, (encs fBool y126)), (1, [.int .u64 (y127)]), sb y128, (1, [.slice p130 (y129).length c131])], .tok p121 72 6 (y120).length c122, .tok p130 106 15 (y129).length c131] [Ro.mp t_law19_Op p7 c8 a6, MP.const (List.length y110 = 4), Arr.mp t_api_Map cs112 4 y111, MP.const (List.length y113 = 21), MP.const (List.length y116 = 4), Arr.mp t_api_Map cs118 4 y117, MP.const (List.length y119 = 21), Ro.mp f_api_Cmd.ty p121 c122 y120, MP.const (List.length y126 = 4), Ro.mp t_api_Mail p130 c131 y129] ∧ True) ?_ ?_
 refine wp 5 [4, 5, 15, 18, 66] hF fun a hF => ?_
 refine bif_split hv136 (fun hb hv136 => ?_) (fun hb hv136 => ?_)
 have hF := hF.boolv 66 (by kernel_rfl) hb
 refine wp 3 [4, 5, 15, 18, 69] hF fun a hF => ?_
 refine wpListIn_nil ?_
 cases hv136
 exact ⟨_, hF.kp [4, 5, 15, 18, 69], hS.sp [0, 1, 2] [0, 1, 2, 3, 4, 5, 6, 7, 8, 9], trivial⟩
 have hF := hF.boolv 66 (by kernel_rfl) hb
 refine wp 3 [4, 5, 15, 18, 69] hF fun a hF => ?_
 refine wpListIn_nil ?_
 cases hv136
 exact ⟨_, hF.kp [4, 5, 15, 18, 69], hS.sp [0, 1, 2] [0, 1, 2, 3, 4, 5, 6, 7, 8, 9], trivial⟩
 rintro a w ⟨κ, hF, hS, -⟩
 refine hK134 _ _ ?_
 refine bif_split H (fun hb H => ?_) (fun hb H => ?_)
 refine cond_t hF (by kernel_rfl) hb ?_
 refine wpIn_skip ?_
 refine hK133 _ _ ?_
 refine wpIn_seq_k fun K137 hK137 => ?_
 refine wpIn_block ?_
 refine seq_join (fun a w => ∃ κ : Gh, ∃ y138 : Int, ∃ y139 : Int, ∃ y140 : (List Bool), ∃ y141 : (List T_api_Map), ∃ cs142 : List Value, ∃ y143 : (List Int), ∃ y144 : Int, ∃ y145 : Int, ∃ y146 : (List Bool), ∃ y147 : (List T_api_Map), ∃ cs148 : List Value, ∃ y149 : (List Int), ∃ y150 : (List T_api_Cmd), ∃ p151 : Option Addr, ∃ c152 : Nat, ∃ y153 : Int, ∃ y154 : Int, ∃ y155 : Int, ∃ y156 : (List Bool), ∃ y157 : Int, ∃ y158 : Bool, ∃ y159 : (List T_api_Mail), ∃ p160 : Option Addr, ∃ c161 : Nat, Fr (108) [] [(4, .int .i64 (a5)), (5, .slice p7 (a6).length c8), (15, pt b23 0), (18, .int .i64 (y132))] a ∧ SS [] κ0 w0 κ w [.box b23 120 [si y138, si y139, (4, (encs fBool y140)), (8, cs142), (21, (encs (fInt .i64) y143)), si y144, si y145, (4, (encs fBool y146)), (8, cs148), (21, (encs (fInt .i64) y149)), (1, [.slice p151 (y150).length c152]), si y153, si y154, si y155, (4, (encs fBool y156)), (1, [.int .u64 (y157)]), sb y158, (1, [.slice p160 (y159).length c161])], .tok p151 72 6 (y150).length c152, .tok p160 106 15 (y159).length c161] [Ro.mp t_law19_Op p7 c8 a6, MP.const (List.length y140 = 4), Arr.mp t_api_Map cs142 4 y141, MP.const (List.length y143 = 21), MP.const (List.length y146 = 4), Arr.mp t_api_Map cs148 4 y147, MP.const (List.length y149 = 21), Ro.mp f_api_Cmd.ty p151 c152 y150, MP.const (List.length y156 = 4), Ro.mp t_api_Mail p160 c161 y159] ∧ M.law19_WardenWaits_k2 N (M.law19_WardenWaits_L1 N fuel1) a5 a6 y132 y138 y139 y140 y141 y143 y144 y145 y146 y147 y149 y150 y153 y154 y155 y156 y157 y158 y159 = some r) ?_ ?_
 refine wpIn_seq_k fun K168 hK168 => ?_
 refine wpIn_region_lit ?_
 refine bind_split H (fun v170 hv170 H => ?_)
 refine wl_join (fun a w => ∃ κ : Gh, Fr (108) [] [(4, .int .i64 (a5)), (5, .slice p7 (a6).length c8), (15, pt b23 0), (18, .int .i64 (y132)), (86, .bool (v170))] a ∧ SS [] κ0 w0 κ w [.box b23 120 [si y108, si y109, (4, (encs fBool y110)), (8, cs112), (21, (encs (fInt .i64) y113)), si y114, si y115, (4, (encs fBool y116)), (8, cs118), (21, (encs (fInt .i64) y119)), (1, [.slice p121 (y120).length c122]), si y123, si y124, si y125, (4, (encs fBool y126)), (1, [.int .u64 (y127)]), sb y128, (1, [.slice p130 (y129).length c131])], .tok p121 72 6 (y120).length c122, .tok p130 106 15 (y129).length c131] [Ro.mp t_law19_Op p7 c8 a6, MP.const (List.length y110 = 4), Arr.mp t_api_Map cs112 4 y111, MP.const (List.length y113 = 21), MP.const (List.length y116 = 4), Arr.mp t_api_Map cs118 4 y117, MP.const (List.length y119 = 21), Ro.mp f_api_Cmd.ty p121 c122 y120, MP.const (List.length y126 = 4), Ro.mp t_api_Mail p130 c131 y129] ∧ True) ?_ ?_
 refine wl_pure (L' := [(4, .int .i64 (a5)), (5, .slice p7 (a6).length c8), (15, pt b23 0), (18, .int .i64 (y132)), (72, .slice p7 (a6).length c8), (73, .int .i64 (y132))]) 2 [4, 5, 15, 18, 72, 73] hF (by kernel_rfl) fun a hF => ?_
 refine bind_split hv170 (fun x171 hx171 hv170 => ?_)
 refine wc (wo_index hF hS (by kernel_rfl) 0 (E := 98) (sz := 22) rfl rfl rfl (by kernel_rfl) rfl hx171 (by kernel_rfl) (by kernel_rfl) fun b172 f173 a hpx171 hF => ?_)
 obtain ⟨_, ⟨⟨p174, c175, p176, c177⟩, rfl, hR⟩, hc⟩ := hS.elem 0 rfl hpx171 hx171
 have hS := (hS.adds hR).add hc
 refine wl_pure (L' := [(4, .int .i64 (a5)), (5, .slice p7 (a6).length c8), (15, pt b23 0), (18, .int .i64 (y132)), (75, .pointer (some ⟨b172, (f173 + Int.toNat y132 * 22), none⟩))]) 1 [4, 5, 15, 18, 75] hF (by kernel_rfl) fun a hF => ?_
 refine wc (wo_val hF (by kernel_rfl) (v := .bool (x171.Ask)) ((val_loadC 0 0 (s := [sb x171.Ask, si x171.Cmd.Kind, si x171.Cmd.DC, si x171.Cmd.Shard, si x171.Cmd.Node, si x171.Cmd.Mode, sg x171.Cmd.Key, si x171.DC, si x171.Msg.Kind, (1, [.int .u64 (x171.Msg.Id)]), (1, [.int .u64 (x171.Msg.N)]), (1, [.int .u64 (x171.Msg.TS)]), sg x171.Msg.Lo, sg x171.Msg.Hi, (1, [.slice p174 (x171.Msg.Vers).length c175]), (1, [.slice p176 (x171.Msg.Vec).length c177]), si x171.Msg.Cmd.Kind, si x171.Msg.Cmd.DC, si x171.Msg.Cmd.Shard, si x171.Msg.Cmd.Node, si x171.Msg.Cmd.Mode, sg x171.Msg.Cmd.Key]) (v := .bool (x171.Ask)) rfl rfl rfl (show segGood [sb x171.Ask, si x171.Cmd.Kind, si x171.Cmd.DC, si x171.Cmd.Shard, si x171.Cmd.Node, si x171.Cmd.Mode, sg x171.Cmd.Key, si x171.DC, si x171.Msg.Kind, (1, [.int .u64 (x171.Msg.Id)]), (1, [.int .u64 (x171.Msg.N)]), (1, [.int .u64 (x171.Msg.TS)]), sg x171.Msg.Lo, sg x171.Msg.Hi, (1, [.slice p174 (x171.Msg.Vers).length c175]), (1, [.slice p176 (x171.Msg.Vec).length c177]), si x171.Msg.Cmd.Kind, si x171.Msg.Cmd.DC, si x171.Msg.Cmd.Shard, si x171.Msg.Cmd.Node, si x171.Msg.Cmd.Mode, sg x171.Msg.Cmd.Key] from (sgN 22 sgNil)) (by kernel_rfl) (by kernel_rfl) (by kernel_rfl) w ⟨_, hS⟩)) fun a hF => ?_)
 refine wp 2 [4, 5, 15, 18, 78] hF fun a hF => ?_
 refine bif_split hv170 (fun hb hv170 => ?_) (fun hb hv170 => ?_)
 have hF := hF.boolv 78 (by kernel_rfl) hb
 refine wl_pure (L' := [(4, .int .i64 (a5)), (5, .slice p7 (a6).length c8), (15, pt b23 0), (18, .int .i64 (y132)), (78, .bool (true)), (79, .slice p7 (a6).length c8), (80, .int .i64 (y132))]) 2 [4, 5, 15, 18, 78, 79, 80] hF (by kernel_rfl) fun a hF => ?_
 refine bind_split hv170 (fun x178 hx178 hv170 => ?_)
 refine wcg hF (wo_index hF hS (by kernel_rfl) 3 (E := 98) (sz := 22) rfl rfl rfl (by kernel_rfl) rfl hx178 (by kernel_rfl) (by kernel_rfl) fun b179 f180 a hpx178 hF => ?_)
 obtain ⟨_, ⟨⟨p181, c182, p183, c184⟩, rfl, hR⟩, hc⟩ := hS.elem 3 rfl hpx178 hx178
 have hS := (hS.adds hR).add hc
 refine wl_pure (L' := [(4, .int .i64 (a5)), (5, .slice p7 (a6).length c8), (15, pt b23 0), (18, .int .i64 (y132)), (78, .bool (true)), (82, .pointer (some ⟨b179, (f180 + Int.toNat y132 * 22) + 7, none⟩))]) 1 [4, 5, 15, 18, 78, 82] hF (by kernel_rfl) fun a hF => ?_
 refine wcg hF (wo_val hF (by kernel_rfl) (v := .int .i64 (x178.DC)) ((val_loadC 0 7 (s := [sb x178.Ask, si x178.Cmd.Kind, si x178.Cmd.DC, si x178.Cmd.Shard, si x178.Cmd.Node, si x178.Cmd.Mode, sg x178.Cmd.Key, si x178.DC, si x178.Msg.Kind, (1, [.int .u64 (x178.Msg.Id)]), (1, [.int .u64 (x178.Msg.N)]), (1, [.int .u64 (x178.Msg.TS)]), sg x178.Msg.Lo, sg x178.Msg.Hi, (1, [.slice p181 (x178.Msg.Vers).length c182]), (1, [.slice p183 (x178.Msg.Vec).length c184]), si x178.Msg.Cmd.Kind, si x178.Msg.Cmd.DC, si x178.Msg.Cmd.Shard, si x178.Msg.Cmd.Node, si x178.Msg.Cmd.Mode, sg x178.Msg.Cmd.Key]) (v := .int .i64 (x178.DC)) rfl rfl rfl (show segGood [sb x178.Ask, si x178.Cmd.Kind, si x178.Cmd.DC, si x178.Cmd.Shard, si x178.Cmd.Node, si x178.Cmd.Mode, sg x178.Cmd.Key, si x178.DC, si x178.Msg.Kind, (1, [.int .u64 (x178.Msg.Id)]), (1, [.int .u64 (x178.Msg.N)]), (1, [.int .u64 (x178.Msg.TS)]), sg x178.Msg.Lo, sg x178.Msg.Hi, (1, [.slice p181 (x178.Msg.Vers).length c182]), (1, [.slice p183 (x178.Msg.Vec).length c184]), si x178.Msg.Cmd.Kind, si x178.Msg.Cmd.DC, si x178.Msg.Cmd.Shard, si x178.Msg.Cmd.Node, si x178.Msg.Cmd.Mode, sg x178.Msg.Cmd.Key] from (sgN 22 sgNil)) (by kernel_rfl) (by kernel_rfl) (by kernel_rfl) w ⟨_, hS⟩)) fun a hF => ?_)
 refine wp 3 [4, 5, 15, 18, 86] hF fun a hF => ?_
 refine wpListIn_nil ?_
 cases hv170
 exact ⟨_, hF.kp [4, 5, 15, 18, 86], hS.sp [0, 1, 2] [6, 7, 8, 9, 10, 11, 12, 13, 14, 15], trivial⟩
 have hF := hF.boolv 78 (by kernel_rfl) hb
 refine wp 8 [4, 5, 15, 18, 86] hF fun a hF => ?_
 refine wpListIn_nil ?_
 cases hv170
 exact ⟨_, hF.kp [4, 5, 15, 18, 86], hS.sp [0, 1, 2] [3, 4, 5, 6, 7, 8, 9, 10, 11, 12], trivial⟩
 rintro a w ⟨κ, hF, hS, -⟩
 refine hK168 _ _ ?_
 refine bif_split H (fun hb H => ?_) (fun hb H => ?_)
 refine cond_t hF (by kernel_rfl) hb ?_
 refine bind_split H (fun x185 hx185 H => ?_)
 obtain ⟨b186, f187, hpx185⟩ := hS.ptr 0 rfl hx185
 obtain ⟨_, ⟨⟨p188, c189, p190, c191⟩, rfl, hR⟩, hc⟩ := hS.elem 0 rfl hpx185 hx185
 have hS := (hS.adds hR).add hc
 refine rga (SSx [] κ0 w0 [.box b23 120 [si y108, si y109, (4, (encs fBool y110)), (8, cs112), (21, (encs (fInt .i64) y113)), si y114, si y115, (4, (encs fBool y116)), (8, cs118), (21, (encs (fInt .i64) y119)), (1, [.slice p121 (y120).length c122]), si y123, si y124, si y125, (4, (encs fBool y126)), (1, [.int .u64 (y127)]), sb y128, (1, [.slice p130 (y129).length c131])]] [MP.cells b186 (f187 + Int.toNat y132 * 22) (flat [sb x185.Ask, si x185.Cmd.Kind, si x185.Cmd.DC, si x185.Cmd.Shard, si x185.Cmd.Node, si x185.Cmd.Mode, sg x185.Cmd.Key, si x185.DC, si x185.Msg.Kind, (1, [.int .u64 (x185.Msg.Id)]), (1, [.int .u64 (x185.Msg.N)]), (1, [.int .u64 (x185.Msg.TS)]), sg x185.Msg.Lo, sg x185.Msg.Hi, (1, [.slice p188 (x185.Msg.Vers).length c189]), (1, [.slice p190 (x185.Msg.Vec).length c191]), si x185.Msg.Cmd.Kind, si x185.Msg.Cmd.DC, si x185.Msg.Cmd.Shard, si x185.Msg.Cmd.Node, si x185.Msg.Cmd.Mode, sg x185.Msg.Cmd.Key]), Ro.mp f_api_Ver.ty p188 c189 x185.Msg.Vers, Ro.mp (fInt .u64).ty p190 c191 x185.Msg.Vec, Ro.mp t_law19_Op p7 c8 a6, MP.const (List.length y110 = 4), Arr.mp t_api_Map cs112 4 y111, MP.const (List.length y113 = 21), MP.const (List.length y116 = 4), Arr.mp t_api_Map cs118 4 y117, MP.const (List.length y119 = 21), Ro.mp f_api_Cmd.ty p121 c122 y120, MP.const (List.length y126 = 4), Ro.mp t_api_Mail p130 c131 y129]) [11] ?_
 have hS := hS.drew
 refine any_pure [0, 1, 2, 6, 7] [4, 5, 15, 18, 87, 88, 89, 93, 94] (L' := [(4, .int .i64 (a5)), (5, .slice p7 (a6).length c8), (15, pt b23 0), (18, .int .i64 (y132)), (87, pt b23 0), (88, .slice p7 (a6).length c8), (89, .int .i64 (y132)), (93, .slice p7 (a6).length c8), (94, .int .i64 (y132))]) (listed' := #[true, true, true, false, false, false, true, true, false, false, false, false]) (fuel := 7) hF (hS.sx [0] [0, 1, 2, 3, 4, 5, 6, 7, 8, 9, 10, 11, 12]) (by kernel_rfl) (by intro c a w t v h; cases t <;> exact h) (by kernel_rfl) rfl fun a hF => ?_
 refine atk 3 (some 90) hF (hS.sx [0] [0, 1, 2, 3, 4, 5, 6, 7, 8, 9, 10, 11, 12]) rfl (fun w _ => val_index (E := 98) (sz := 22) rfl hpx185 rfl (by kernel_rfl) rfl hx185 (by kernel_rfl) (by kernel_rfl) w) fun a hF => ?_
 refine any_pure [4] [4, 5, 15, 18, 87, 91, 93, 94] (L' := [(4, .int .i64 (a5)), (5, .slice p7 (a6).length c8), (15, pt b23 0), (18, .int .i64 (y132)), (87, pt b23 0), (91, .pointer (some ⟨b186, (f187 + Int.toNat y132 * 22) + 7, none⟩)), (93, .slice p7 (a6).length c8), (94, .int .i64 (y132))]) (listed' := #[true, true, true, true, true, false, true, true, false, false, false, false]) (fuel := 5) hF (hS.sx [0] [0, 1, 2, 3, 4, 5, 6, 7, 8, 9, 10, 11, 12]) (by kernel_rfl) (by intro c a w t v h; cases t <;> exact h) (by kernel_rfl) rfl fun a hF => ?_
 refine atk 5 (some 92) hF (hS.sx [0] [0, 1, 2, 3, 4, 5, 6, 7, 8, 9, 10, 11, 12]) rfl (val_loadC 0 7 (s := [sb x185.Ask, si x185.Cmd.Kind, si x185.Cmd.DC, si x185.Cmd.Shard, si x185.Cmd.Node, si x185.Cmd.Mode, sg x185.Cmd.Key, si x185.DC, si x185.Msg.Kind, (1, [.int .u64 (x185.Msg.Id)]), (1, [.int .u64 (x185.Msg.N)]), (1, [.int .u64 (x185.Msg.TS)]), sg x185.Msg.Lo, sg x185.Msg.Hi, (1, [.slice p188 (x185.Msg.Vers).length c189]), (1, [.slice p190 (x185.Msg.Vec).length c191]), si x185.Msg.Cmd.Kind, si x185.Msg.Cmd.DC, si x185.Msg.Cmd.Shard, si x185.Msg.Cmd.Node, si x185.Msg.Cmd.Mode, sg x185.Msg.Cmd.Key]) (v := .int .i64 (x185.DC)) rfl rfl rfl (show segGood [sb x185.Ask, si x185.Cmd.Kind, si x185.Cmd.DC, si x185.Cmd.Shard, si x185.Cmd.Node, si x185.Cmd.Mode, sg x185.Cmd.Key, si x185.DC, si x185.Msg.Kind, (1, [.int .u64 (x185.Msg.Id)]), (1, [.int .u64 (x185.Msg.N)]), (1, [.int .u64 (x185.Msg.TS)]), sg x185.Msg.Lo, sg x185.Msg.Hi, (1, [.slice p188 (x185.Msg.Vers).length c189]), (1, [.slice p190 (x185.Msg.Vec).length c191]), si x185.Msg.Cmd.Kind, si x185.Msg.Cmd.DC, si x185.Msg.Cmd.Shard, si x185.Msg.Cmd.Node, si x185.Msg.Cmd.Mode, sg x185.Msg.Cmd.Key] from (sgN 22 sgNil)) (by kernel_rfl) (by kernel_rfl) (by kernel_rfl)) fun a hF => ?_
 refine atk 8 (some 95) hF (hS.sx [0] [0, 1, 2, 3, 4, 5, 6, 7, 8, 9, 10, 11, 12]) rfl (fun w _ => val_index (E := 98) (sz := 22) rfl hpx185 rfl (by kernel_rfl) rfl hx185 (by kernel_rfl) (by kernel_rfl) w) fun a hF => ?_
 refine any_pure [9] [4, 5, 15, 18, 87, 92, 96] (L' := [(4, .int .i64 (a5)), (5, .slice p7 (a6).length c8), (15, pt b23 0), (18, .int .i64 (y132)), (87, pt b23 0), (92, .int .i64 (x185.DC)), (96, .pointer (some ⟨b186, (f187 + Int.toNat y132 * 22) + 8, none⟩))]) (listed' := #[true, true, true, true, true, true, true, true, true, true, false, false]) (fuel := 2) hF (hS.sx [0] [0, 1, 2, 3, 4, 5, 6, 7, 8, 9, 10, 11, 12]) (by kernel_rfl) (by intro c a w t v h; cases t <;> exact h) (by kernel_rfl) rfl fun a hF => ?_
 refine atk 10 (some 97) hF (hS.sx [0] [0, 1, 2, 3, 4, 5, 6, 7, 8, 9, 10, 11, 12]) rfl (val_loadCs 0 8 14 (s := [sb x185.Ask, si x185.Cmd.Kind, si x185.Cmd.DC, si x185.Cmd.Shard, si x185.Cmd.Node, si x185.Cmd.Mode, sg x185.Cmd.Key, si x185.DC, si x185.Msg.Kind, (1, [.int .u64 (x185.Msg.Id)]), (1, [.int .u64 (x185.Msg.N)]), (1, [.int .u64 (x185.Msg.TS)]), sg x185.Msg.Lo, sg x185.Msg.Hi, (1, [.slice p188 (x185.Msg.Vers).length c189]), (1, [.slice p190 (x185.Msg.Vec).length c191]), si x185.Msg.Cmd.Kind, si x185.Msg.Cmd.DC, si x185.Msg.Cmd.Shard, si x185.Msg.Cmd.Node, si x185.Msg.Cmd.Mode, sg x185.Msg.Cmd.Key]) (s' := [si x185.Msg.Kind, (1, [.int .u64 (x185.Msg.Id)]), (1, [.int .u64 (x185.Msg.N)]), (1, [.int .u64 (x185.Msg.TS)]), sg x185.Msg.Lo, sg x185.Msg.Hi, (1, [.slice p188 (x185.Msg.Vers).length c189]), (1, [.slice p190 (x185.Msg.Vec).length c191]), si x185.Msg.Cmd.Kind, si x185.Msg.Cmd.DC, si x185.Msg.Cmd.Shard, si x185.Msg.Cmd.Node, si x185.Msg.Cmd.Mode, sg x185.Msg.Cmd.Key]) (n := 14) rfl rfl rfl (show segGood [sb x185.Ask, si x185.Cmd.Kind, si x185.Cmd.DC, si x185.Cmd.Shard, si x185.Cmd.Node, si x185.Cmd.Mode, sg x185.Cmd.Key, si x185.DC, si x185.Msg.Kind, (1, [.int .u64 (x185.Msg.Id)]), (1, [.int .u64 (x185.Msg.N)]), (1, [.int .u64 (x185.Msg.TS)]), sg x185.Msg.Lo, sg x185.Msg.Hi, (1, [.slice p188 (x185.Msg.Vers).length c189]), (1, [.slice p190 (x185.Msg.Vec).length c191]), si x185.Msg.Cmd.Kind, si x185.Msg.Cmd.DC, si x185.Msg.Cmd.Shard, si x185.Msg.Cmd.Node, si x185.Msg.Cmd.Mode, sg x185.Msg.Cmd.Key] from (sgN 22 sgNil)) (by kernel_rfl) (by kernel_rfl) (by kernel_rfl) (by kernel_rfl) (by kernel_rfl)) fun a hF => ?_
 refine ago 11 hF rfl ?_
 refine bind_split H (fun x192 hx192 H => ?_)
 refine wo_callS (Cin := [.box b23 120 [si y108, si y109, (4, (encs fBool y110)), (8, cs112), (21, (encs (fInt .i64) y113)), si y114, si y115, (4, (encs fBool y116)), (8, cs118), (21, (encs (fInt .i64) y119)), (1, [.slice p121 (y120).length c122]), si y123, si y124, si y125, (4, (encs fBool y126)), (1, [.int .u64 (y127)]), sb y128, (1, [.slice p130 (y129).length c131])], .tok p121 72 6 (y120).length c122, .tok p130 106 15 (y129).length c131]) (Cr := []) (args := #[pt b23 0, .int .i64 (x185.DC), .agg (flat [si x185.Msg.Kind, (1, [.int .u64 (x185.Msg.Id)]), (1, [.int .u64 (x185.Msg.N)]), (1, [.int .u64 (x185.Msg.TS)]), sg x185.Msg.Lo, sg x185.Msg.Hi, (1, [.slice p188 (x185.Msg.Vers).length c189]), (1, [.slice p190 (x185.Msg.Vec).length c191]), si x185.Msg.Cmd.Kind, si x185.Msg.Cmd.DC, si x185.Msg.Cmd.Shard, si x185.Msg.Cmd.Node, si x185.Msg.Cmd.Mode, sg x185.Msg.Cmd.Key]).toArray]) (f := 68) hF (hS.selp [0, 1, 2] (by decide) (by kernel_rfl)) (by kernel_rfl) (by kernel_rfl) (fun hS => C_warden_Warden_Take N (T_warden_Warden.mk (T_config_State.mk y108 y109 y110 y111 y113) (T_config_State.mk y114 y115 y116 y117 y119) y120 y123 y124 y125 y126 y127 y128 y129) x185.DC (T_api_Msg.mk x185.Msg.Kind x185.Msg.Id x185.Msg.N x185.Msg.TS x185.Msg.Lo x185.Msg.Hi x185.Msg.Vers x185.Msg.Vec (T_api_Cmd.mk x185.Msg.Cmd.Kind x185.Msg.Cmd.DC x185.Msg.Cmd.Shard x185.Msg.Cmd.Node x185.Msg.Cmd.Mode x185.Msg.Cmd.Key)) cs112 cs118 p121 c122 p130 c131 p188 c189 p190 c191 b23 rfl (hS.pick [4, 5, 6, 7, 8, 9, 10, 11, 12, 1, 2] (by kernel_rfl)) hx192) ?_
 rintro _ κ w a ⟨cs193, cs194, p195, c196, p197, c198, rfl, h2⟩ hF hB
 have hS := hB _ _ h2
 refine ⟨notE, ?_⟩
 refine and_ ?_
 exact ⟨_, x192.now.Pool, x192.now.Nodes, x192.now.Members, x192.now.Maps, cs193, x192.now.Modes, x192.tail.Pool, x192.tail.Nodes, x192.tail.Members, x192.tail.Maps, cs194, x192.tail.Modes, x192.queue, p195, c196, x192.done, x192.epoch, x192.step_, x192.wait, x192.mark_, x192.ready, x192.out, p197, c198, hF.kp [4, 5, 15, 18], hS.sp [0, 1, 2] [12, 0, 1, 2, 3, 4, 5, 6, 7, 8], H⟩
 refine cond_f hF (by kernel_rfl) hb ?_
 refine wpIn_skip ?_
 exact ⟨_, y108, y109, y110, y111, cs112, y113, y114, y115, y116, y117, cs118, y119, y120, p121, c122, y123, y124, y125, y126, y127, y128, y129, p130, c131, hF.kp [4, 5, 15, 18], hS.sp [0, 1, 2] [0, 1, 2, 3, 4, 5, 6, 7, 8, 9], H⟩
 rintro a w ⟨κ, y138, y139, y140, y141, cs142, y143, y144, y145, y146, y147, cs148, y149, y150, p151, c152, y153, y154, y155, y156, y157, y158, y159, p160, c161, hF, hS, H⟩
 unfold M.law19_WardenWaits_k2 at H
 refine wpIn_seq_k fun K162 hK162 => ?_
 refine wpIn_region_lit ?_
 refine bind_split H (fun v164 hv164 H => ?_)
 refine wl_join (fun a w => ∃ κ : Gh, Fr (108) [] [(4, .int .i64 (a5)), (5, .slice p7 (a6).length c8), (15, pt b23 0), (18, .int .i64 (y132)), (106, .bool (v164))] a ∧ SS [] κ0 w0 κ w [.box b23 120 [si y138, si y139, (4, (encs fBool y140)), (8, cs142), (21, (encs (fInt .i64) y143)), si y144, si y145, (4, (encs fBool y146)), (8, cs148), (21, (encs (fInt .i64) y149)), (1, [.slice p151 (y150).length c152]), si y153, si y154, si y155, (4, (encs fBool y156)), (1, [.int .u64 (y157)]), sb y158, (1, [.slice p160 (y159).length c161])], .tok p151 72 6 (y150).length c152, .tok p160 106 15 (y159).length c161] [Ro.mp t_law19_Op p7 c8 a6, MP.const (List.length y140 = 4), Arr.mp t_api_Map cs142 4 y141, MP.const (List.length y143 = 21), MP.const (List.length y146 = 4), Arr.mp t_api_Map cs148 4 y147, MP.const (List.length y149 = 21), Ro.mp f_api_Cmd.ty p151 c152 y150, MP.const (List.length y156 = 4), Ro.mp t_api_Mail p160 c161 y159] ∧ True) ?_ ?_
 refine wl_pure (L' := [(4, .int .i64 (a5)), (5, .slice p7 (a6).length c8), (15, pt b23 0), (18, .int .i64 (y132)), (99, pt b23 0)]) 1 [4, 5, 15, 18, 99] hF (by kernel_rfl) fun a hF => ?_
 refine bind_split hv164 (fun x165 hx165 hv164 => ?_)
 refine wc (wo_callS (Cin := [.box b23 120 [si y138, si y139, (4, (encs fBool y140)), (8, cs142), (21, (encs (fInt .i64) y143)), si y144, si y145, (4, (encs fBool y146)), (8, cs148), (21, (encs (fInt .i64) y149)), (1, [.slice p151 (y150).length c152]), si y153, si y154, si y155, (4, (encs fBool y156)), (1, [.int .u64 (y157)]), sb y158, (1, [.slice p160 (y159).length c161])]]) (Cr := [.tok p151 72 6 (y150).length c152, .tok p160 106 15 (y159).length c161]) (args := #[pt b23 0]) (f := 69) hF (hS.selp [0, 1, 2] (by decide) (by kernel_rfl)) (by kernel_rfl) (by kernel_rfl) (fun hS => C_warden_Warden_Acked N (T_warden_Warden.mk (T_config_State.mk y138 y139 y140 y141 y143) (T_config_State.mk y144 y145 y146 y147 y149) y150 y153 y154 y155 y156 y157 y158 y159) cs142 cs148 p151 c152 p160 c161 b23 rfl (hS.pick [1, 2, 3, 4, 5, 6, 7, 8, 9] (by kernel_rfl)) hx165) ?_)
 rintro _ κ w a ⟨rfl, h2⟩ hF hB
 have hS := hB _ _ h2
 refine wp 2 [4, 5, 15, 18, 102] hF fun a hF => ?_
 refine bif_split hv164 (fun hb hv164 => ?_) (fun hb hv164 => ?_)
 have hF := hF.boolv 102 (by kernel_rfl) hb
 refine wp 4 [4, 5, 15, 18, 106] hF fun a hF => ?_
 refine wpListIn_nil ?_
 cases hv164
 exact ⟨_, hF.kp [4, 5, 15, 18, 106], hS.sp [0, 1, 2] [0, 1, 2, 3, 4, 5, 6, 7, 8, 9], trivial⟩
 have hF := hF.boolv 102 (by kernel_rfl) hb
 refine wl_pure (L' := [(4, .int .i64 (a5)), (5, .slice p7 (a6).length c8), (15, pt b23 0), (18, .int .i64 (y132)), (102, .bool (false)), (103, pt b23 0)]) 1 [4, 5, 15, 18, 102, 103] hF (by kernel_rfl) fun a hF => ?_
 refine bind_split hv164 (fun x166 hx166 hv164 => ?_)
 refine wcg hF (wo_callS (Cin := [.box b23 120 [si y138, si y139, (4, (encs fBool y140)), (8, cs142), (21, (encs (fInt .i64) y143)), si y144, si y145, (4, (encs fBool y146)), (8, cs148), (21, (encs (fInt .i64) y149)), (1, [.slice p151 (y150).length c152]), si y153, si y154, si y155, (4, (encs fBool y156)), (1, [.int .u64 (y157)]), sb y158, (1, [.slice p160 (y159).length c161])]]) (Cr := [.tok p151 72 6 (y150).length c152, .tok p160 106 15 (y159).length c161]) (args := #[pt b23 0]) (f := 66) hF (hS.selp [0, 1, 2] (by decide) (by kernel_rfl)) (by kernel_rfl) (by kernel_rfl) (fun hS => C_warden_Warden_Pending N (T_warden_Warden.mk (T_config_State.mk y138 y139 y140 y141 y143) (T_config_State.mk y144 y145 y146 y147 y149) y150 y153 y154 y155 y156 y157 y158 y159) cs142 cs148 p151 c152 p160 c161 b23 rfl (hS.pick [1, 2, 3, 4, 5, 6, 7, 8, 9] (by kernel_rfl)) hx166) ?_)
 rintro _ κ w a ⟨rfl, h2⟩ hF hB
 have hS := hB _ _ h2
 refine wp 2 [4, 5, 15, 18, 106] hF fun a hF => ?_
 refine wpListIn_nil ?_
 cases hv164
 exact ⟨_, hF.kp [4, 5, 15, 18, 106], hS.sp [0, 1, 2] [0, 1, 2, 3, 4, 5, 6, 7, 8, 9], trivial⟩
 rintro a w ⟨κ, hF, hS, -⟩
 refine hK162 _ _ ?_
 refine bif_split H (fun hb H => ?_) (fun hb H => ?_)
 refine cond_t hF (by kernel_rfl) hb ?_
 refine wpIn_seq_k fun K167 hK167 => ?_
 refine wpIn_region_lit ?_
 refine wp 1 [12] hF fun a hF => ?_
 refine wpListIn_nil ?_
 refine hK167 _ _ ?_
 refine wpIn_ret ?_
 cases H
 exact (ret_done hF hS (res1 Try.results17 (rvt hF)) ⟨rfl, (hS.pick [] (by kernel_rfl)).ro, hS.newC [] (by decide) (by kernel_rfl)⟩)
 refine cond_f hF (by kernel_rfl) hb ?_
 refine wpIn_skip ?_
 refine hK137 _ _ ?_
 refine wpIn_region_lit ?_
 refine wp 3 [4, 5, 15, 18] hF fun a hF => ?_
 refine wpListIn_nil ?_
 exact ⟨fuel1, Nat.lt_succ_self _, _, y138, y139, y140, y141, cs142, y143, y144, y145, y146, y147, cs148, y149, y150, p151, c152, y153, y154, y155, y156, y157, y158, y159, p160, c161, IntKind.i64.wrap (y132 + 1), hF.kp [4, 5, 15, 18], hS.sp [0, 1, 2] [0, 1, 2, 3, 4, 5, 6, 7, 8, 9], H⟩
 refine cond_f hF (by kernel_rfl) hb ?_
 refine wpIn_exit ?_
 refine hK56 _ _ ?_
 refine wpIn_seq_k fun K199 hK199 => ?_
 refine wpIn_region_lit ?_
 refine bind_split H (fun x200 hx200 H => ?_)
 refine wc (wo_callP hF hS (by kernel_rfl) (by kernel_rfl) (C_law19_awake N hS.fresh   ((hS.pick [] (by kernel_rfl)).ro) hx200) ?_)
 rintro _ κ w a ⟨rfl, hR, hN⟩ hF hS hO
 refine wp 1 [12] hF fun a hF => ?_
 refine wpListIn_nil ?_
 refine hK199 _ _ ?_
 refine wpIn_ret ?_
 cases H
 exact (ret_done hF hS (res1 Try.results17 (rvt hF)) ⟨rfl, (hS.pick [] (by kernel_rfl)).ro, hS.newC [] (by decide) (by kernel_rfl)⟩)
end Go.Cf
