/- The walks: each function returns what its model says. Printed by a program of ours. -/
import Derived.Test.YtjohablgnnbelaaM7o
import Derived.Test.YtjohablgnnbelaaW2
import Derived.Test.YtjohablgnnbelaaW3
import Derived.Test.YtjohablgnnbelaaW6
import Derived.Test.YtjohablgnnbelaaW6w
namespace Go.Cf
open Go Go.Proofs
set_option linter.unusedVariables false
set_option maxRecDepth 20000 in
set_option maxHeartbeats 1000000 in
theorem C_law18_ConfigOne (N : Nat) {κ0 : Gh} {w0 : World} (hfr : Fresh κ0 w0) (a1 : T_config_State) (a3 : T_api_Cmd) (cs2 : List Value) (hR : ∀ m ∈ ([MP.const (List.length a1.Members = 4), Arr.mp t_api_Map cs2 4 a1.Maps, MP.const (List.length a1.Modes = 21)] : List MP), m.p κ0 w0) {r : (Bool)} (H : M.law18_ConfigOne N a1 a3 = some r) :
    Calls Try.prog 12 #[.agg (flat [(1, [.int .i64 (a1.Pool)]), (1, [.int .i64 (a1.Nodes)]), (4, (encs fBool a1.Members)), (8, cs2), (21, (encs (fInt .i64) a1.Modes))]).toArray, .agg (flat [(1, [.int .i64 (a3.Kind)]), (1, [.int .i64 (a3.DC)]), (1, [.int .i64 (a3.Shard)]), (1, [.int .i64 (a3.Node)]), (1, [.int .i64 (a3.Mode)]), (1, [.string (a3.Key)])]).toArray] w0 (Post [] κ0 w0 fun v κ w => v = .bool (r) ∧ (∀ m ∈ ([] : List MP), m.p κ w) ∧ NewC w0 κ w []) := by
 have hS := SS.start hfr hR
 refine enter (N := (97)) (L := [(0, .agg (flat [(1, [.int .i64 (a1.Pool)]), (1, [.int .i64 (a1.Nodes)]), (4, (encs fBool a1.Members)), (8, cs2), (21, (encs (fInt .i64) a1.Modes))]).toArray), (1, .agg (flat [(1, [.int .i64 (a3.Kind)]), (1, [.int .i64 (a3.DC)]), (1, [.int .i64 (a3.Shard)]), (1, [.int .i64 (a3.Node)]), (1, [.int .i64 (a3.Mode)]), (1, [.string (a3.Key)])]).toArray)]) Try.func12 rfl Try.ntmps12 (show 2 ≤ (97) by decide) rfl fun a hF => ?_
 unfold M.law18_ConfigOne at H
 refine wpIn_seq_k fun K4 hK4 => ?_
 refine wpIn_region_lit ?_
 refine wl_cons rfl (wo_box hF hS (by kernel_rfl) (v := .agg (flat [(1, [.int .i64 (a1.Pool)]), (1, [.int .i64 (a1.Nodes)]), (4, (encs fBool a1.Members)), (8, cs2), (21, (encs (fInt .i64) a1.Modes))]).toArray) (s := [(1, [.int .i64 (a1.Pool)]), (1, [.int .i64 (a1.Nodes)]), (4, (encs fBool a1.Members)), (8, cs2), (21, (encs (fInt .i64) a1.Modes))]) rfl (by kernel_rfl) (sgV rfl (sgV rfl (sgEnc (hS.get 0 rfl) (sgArr (hS.get 1 rfl) (sgEnc (hS.get 2 rfl) sgNil))))).1 (by kernel_rfl) fun b5 a w hF hS => ?_)
 refine wl_cons rfl (wo_box hF hS (by kernel_rfl) (v := .agg (flat [(1, [.int .i64 (a3.Kind)]), (1, [.int .i64 (a3.DC)]), (1, [.int .i64 (a3.Shard)]), (1, [.int .i64 (a3.Node)]), (1, [.int .i64 (a3.Mode)]), (1, [.string (a3.Key)])]).toArray) (s := [(1, [.int .i64 (a3.Kind)]), (1, [.int .i64 (a3.DC)]), (1, [.int .i64 (a3.Shard)]), (1, [.int .i64 (a3.Node)]), (1, [.int .i64 (a3.Mode)]), (1, [.string (a3.Key)])]) rfl (by kernel_rfl) (sgV rfl (sgV rfl (sgV rfl (sgV rfl (sgV rfl (sgV rfl sgNil)))))).1 (by kernel_rfl) fun b6 a w hF hS => ?_)
 refine wl_pure (L' := [(2, .pointer (some ⟨b5, 0, none⟩)), (3, .pointer (some ⟨b6, 0, none⟩))]) 1 [2, 3] hF (by kernel_rfl) fun a hF => ?_
 refine wpListIn_nil ?_
 refine hK4 _ _ ?_
 refine wpIn_seq_k fun K7 hK7 => ?_
 refine wpIn_seq_k fun K8 hK8 => ?_
 refine wpIn_region_lit ?_
 refine wl_cons rfl (wo_loads hF hS (by kernel_rfl) 1 0 5 (s' := [(1, [.int .i64 (a1.Pool)]), (1, [.int .i64 (a1.Nodes)]), (4, (encs fBool a1.Members)), (8, cs2), (21, (encs (fInt .i64) a1.Modes))]) (n := 35) rfl rfl rfl (by kernel_rfl) (by kernel_rfl) (by kernel_rfl) (by kernel_rfl) (by kernel_rfl) fun a hF => ?_)
 refine bind_split H (fun x9 hx9 H => ?_)
 refine wl_cons rfl (wo_callP (args := #[.agg (flat [(1, [.int .i64 (a1.Pool)]), (1, [.int .i64 (a1.Nodes)]), (4, (encs fBool a1.Members)), (8, cs2), (21, (encs (fInt .i64) a1.Modes))]).toArray]) (f := 53) hF hS (by kernel_rfl) (by kernel_rfl) (C_law18_great N hS.fresh (T_config_State.mk a1.Pool a1.Nodes a1.Members a1.Maps a1.Modes) cs2 ((hS.pick [0, 1, 2] (by kernel_rfl)).ro) hx9) ?_)
 rintro _ κ w a ⟨rfl, hR, hN⟩ hF hS hO
 refine wpListIn_nil ?_
 refine hK8 _ _ ?_
 refine bif_split H (fun hb H => ?_) (fun hb H => ?_)
 refine cond_t hF (by kernel_rfl) hb ?_
 refine wpIn_seq_k fun K10 hK10 => ?_
 refine wpIn_region_lit ?_
 refine bind_split H (fun x11 hx11 H => ?_)
 refine wl_cons rfl (wo_callP (args := #[]) (f := 25) hF hS (by kernel_rfl) (by kernel_rfl) (C_law18_awake N hS.fresh   ((hS.pick [] (by kernel_rfl)).ro) hx11) ?_)
 rintro _ κ w a ⟨rfl, hR, hN⟩ hF hS hO
 refine wl_pure (L' := [(4, .bool (x11))]) 1 [4] hF (by kernel_rfl) fun a hF => ?_
 refine wpListIn_nil ?_
 refine hK10 _ _ ?_
 refine wpIn_ret ?_
 cases H
 exact (ret_done hF hS (res1 Try.results12 (rv_tmp hF (by kernel_rfl))) ⟨rfl, (hS.pick [] (by kernel_rfl)).ro, hS.newC [] (by decide) (by kernel_rfl)⟩)
 refine cond_f hF (by kernel_rfl) hb ?_
 refine wpIn_skip ?_
 refine hK7 _ _ ?_
 refine wpIn_seq_k fun K12 hK12 => ?_
 refine wpIn_region_lit ?_
 refine wl_cons rfl (wo_loads hF hS (by kernel_rfl) 1 0 5 (s' := [(1, [.int .i64 (a1.Pool)]), (1, [.int .i64 (a1.Nodes)]), (4, (encs fBool a1.Members)), (8, cs2), (21, (encs (fInt .i64) a1.Modes))]) (n := 35) rfl rfl rfl (by kernel_rfl) (by kernel_rfl) (by kernel_rfl) (by kernel_rfl) (by kernel_rfl) fun a hF => ?_)
 refine wl_cons rfl (wo_loads hF hS (by kernel_rfl) 0 0 6 (s' := [(1, [.int .i64 (a3.Kind)]), (1, [.int .i64 (a3.DC)]), (1, [.int .i64 (a3.Shard)]), (1, [.int .i64 (a3.Node)]), (1, [.int .i64 (a3.Mode)]), (1, [.string (a3.Key)])]) (n := 6) rfl rfl rfl (by kernel_rfl) (by kernel_rfl) (by kernel_rfl) (by kernel_rfl) (by kernel_rfl) fun a hF => ?_)
 refine bind_split H (fun x13 hx13 H => ?_)
 refine wl_cons rfl (wo_callP (args := #[.agg (flat [(1, [.int .i64 (a1.Pool)]), (1, [.int .i64 (a1.Nodes)]), (4, (encs fBool a1.Members)), (8, cs2), (21, (encs (fInt .i64) a1.Modes))]).toArray, .agg (flat [(1, [.int .i64 (a3.Kind)]), (1, [.int .i64 (a3.DC)]), (1, [.int .i64 (a3.Shard)]), (1, [.int .i64 (a3.Node)]), (1, [.int .i64 (a3.Mode)]), (1, [.string (a3.Key)])]).toArray]) (f := 54) hF hS (by kernel_rfl) (by kernel_rfl) (C_config_Apply N hS.fresh (T_config_State.mk a1.Pool a1.Nodes a1.Members a1.Maps a1.Modes) (T_api_Cmd.mk a3.Kind a3.DC a3.Shard a3.Node a3.Mode a3.Key) cs2 ((hS.pick [0, 1, 2] (by kernel_rfl)).ro) hx13) ?_)
 rintro _ κ w a ⟨cs14, rfl, hR, hN⟩ hF hS hO
 have hS := hS.adds hR
 refine wl_pure (L' := [(2, .pointer (some ⟨b5, 0, none⟩)), (3, .pointer (some ⟨b6, 0, none⟩)), (16, .agg (flat [(1, [.int .i64 (x13.1.Pool)]), (1, [.int .i64 (x13.1.Nodes)]), (4, (encs fBool x13.1.Members)), (8, cs14), (21, (encs (fInt .i64) x13.1.Modes))]).toArray), (17, .int .i64 (x13.2))]) 3 [2, 3, 16, 17] hF (by kernel_rfl) fun a hF => ?_
 have hS := hS.add (m := MP.const (List.length (List.replicate 4 false) = 4)) (List.length_replicate)
 have hS := hS.add (m := Arr.mp t_api_Map ((List.replicate 4 (flat [(1, [.slice none 0 0]), (1, [.slice none 0 0])])).flatten) 4 (List.replicate 4 (T_api_Map.mk ([] : List ByteArray) ([] : List Int)))) (Arr.zero _ _ _ _ _ z_api_Map)
 have hS := hS.add (m := MP.const (List.length (List.replicate 21 0) = 21)) (List.length_replicate)
 refine wl_cons rfl (wo_alloc hF hS (by kernel_rfl) (z := .agg (flat [(1, [.int .i64 (0)]), (1, [.int .i64 (0)]), (4, (encs fBool (List.replicate 4 false))), (8, (List.replicate 4 (flat [(1, [.slice none 0 0]), (1, [.slice none 0 0])])).flatten), (21, (encs (fInt .i64) (List.replicate 21 0)))]).toArray) (s := [(1, [.int .i64 (0)]), (1, [.int .i64 (0)]), (4, (encs fBool (List.replicate 4 false))), (8, (List.replicate 4 (flat [(1, [.slice none 0 0]), (1, [.slice none 0 0])])).flatten), (21, (encs (fInt .i64) (List.replicate 21 0)))]) rfl (by kernel_rfl) (sgV rfl (sgV rfl (sgEnc List.length_replicate (sgArr (hS.get 1 rfl) (sgEnc List.length_replicate sgNil))))).1 (by kernel_rfl) fun b15 a w hF hS => ?_)
 refine wl_cons rfl (wo_stores hF hS (by kernel_rfl) 0 0 5 (v := .agg (flat [(1, [.int .i64 (x13.1.Pool)]), (1, [.int .i64 (x13.1.Nodes)]), (4, (encs fBool x13.1.Members)), (8, cs14), (21, (encs (fInt .i64) x13.1.Modes))]).toArray) (s' := [(1, [.int .i64 (x13.1.Pool)]), (1, [.int .i64 (x13.1.Nodes)]), (4, (encs fBool x13.1.Members)), (8, cs14), (21, (encs (fInt .i64) x13.1.Modes))]) (t := [(1, [.int .i64 (x13.1.Pool)]), (1, [.int .i64 (x13.1.Nodes)]), (4, (encs fBool x13.1.Members)), (8, cs14), (21, (encs (fInt .i64) x13.1.Modes))]) (C' := [.box b15 30 [(1, [.int .i64 (x13.1.Pool)]), (1, [.int .i64 (x13.1.Nodes)]), (4, (encs fBool x13.1.Members)), (8, cs14), (21, (encs (fInt .i64) x13.1.Modes))], .box b6 72 [(1, [.int .i64 (a3.Kind)]), (1, [.int .i64 (a3.DC)]), (1, [.int .i64 (a3.Shard)]), (1, [.int .i64 (a3.Node)]), (1, [.int .i64 (a3.Mode)]), (1, [.string (a3.Key)])], .box b5 30 [(1, [.int .i64 (a1.Pool)]), (1, [.int .i64 (a1.Nodes)]), (4, (encs fBool a1.Members)), (8, cs2), (21, (encs (fInt .i64) a1.Modes))]]) (n := 35) rfl rfl (by kernel_rfl) rfl (by kernel_rfl) (by kernel_rfl) (by kernel_rfl) (by kernel_rfl) (sgV rfl (sgV rfl (sgEnc (hS.get 3 rfl) (sgArr (hS.get 4 rfl) (sgEnc (hS.get 5 rfl) sgNil))))).1 (sgV rfl (sgV rfl (sgEnc (hS.get 3 rfl) (sgArr (hS.get 4 rfl) (sgEnc (hS.get 5 rfl) sgNil))))).2 (by kernel_rfl) (by kernel_rfl) (by kernel_rfl) fun a w hF hS => ?_)
 refine wl_pure (L' := [(2, .pointer (some ⟨b5, 0, none⟩)), (3, .pointer (some ⟨b6, 0, none⟩)), (5, .pointer (some ⟨b15, 0, none⟩)), (6, .int .i64 (x13.2))]) 1 [2, 3, 5, 6] hF (by kernel_rfl) fun a hF => ?_
 refine wpListIn_nil ?_
 refine hK12 _ _ ?_
 refine wpIn_seq_k fun K16 hK16 => ?_
 refine wpIn_seq_k fun K17 hK17 => ?_
 refine wpIn_region_lit ?_
 refine wl_pure (L' := [(2, .pointer (some ⟨b5, 0, none⟩)), (3, .pointer (some ⟨b6, 0, none⟩)), (5, .pointer (some ⟨b15, 0, none⟩)), (19, .bool ((x13.2 != 0)))]) 2 [2, 3, 5, 19] hF (by kernel_rfl) fun a hF => ?_
 refine wpListIn_nil ?_
 refine hK17 _ _ ?_
 refine bif_split H (fun hb H => ?_) (fun hb H => ?_)
 refine cond_t hF (by kernel_rfl) hb ?_
 refine wpIn_seq_k fun K18 hK18 => ?_
 refine wpIn_region_lit ?_
 refine bind_split H (fun v20 hv20 H => ?_)
 refine wl_join (fun a w => ∃ κ : Gh, Fr (97) [] [(4, .bool (v20))] a ∧ SS [] κ0 w0 κ w [] [] ∧ True) ?_ ?_
 refine bind_split hv20 (fun x21 hx21 hv20 => ?_)
 refine wl_cons rfl (wo_callP (args := #[]) (f := 25) hF hS (by kernel_rfl) (by kernel_rfl) (C_law18_awake N hS.fresh   ((hS.pick [] (by kernel_rfl)).ro) hx21) ?_)
 rintro _ κ w a ⟨rfl, hR, hN⟩ hF hS hO
 refine wl_pure (L' := [(5, .pointer (some ⟨b15, 0, none⟩)), (21, .bool (x21))]) 1 [5, 21] hF (by kernel_rfl) fun a hF => ?_
 refine bif_split hv20 (fun hb hv20 => ?_) (fun hb hv20 => ?_)
 have hF := hF.boolv 21 (by kernel_rfl) hb
 refine wl_consg hF (by kernel_rfl) (wo_loads hF hS (by kernel_rfl) 0 0 5 (s' := [(1, [.int .i64 (x13.1.Pool)]), (1, [.int .i64 (x13.1.Nodes)]), (4, (encs fBool x13.1.Members)), (8, cs14), (21, (encs (fInt .i64) x13.1.Modes))]) (n := 35) rfl rfl rfl (by kernel_rfl) (by kernel_rfl) (by kernel_rfl) (by kernel_rfl) (by kernel_rfl) fun a hF => ?_)
 refine wl_pure (L' := [(21, .bool (true)), (22, .agg (flat [(1, [.int .i64 (x13.1.Pool)]), (1, [.int .i64 (x13.1.Nodes)]), (4, (encs fBool x13.1.Members)), (8, cs14), (21, (encs (fInt .i64) x13.1.Modes))]).toArray), (23, .agg (flat [(1, [.int .i64 (0)]), (1, [.int .i64 (0)]), (4, (encs fBool (List.replicate 4 false))), (8, (List.replicate 4 (flat [(1, [.slice none 0 0]), (1, [.slice none 0 0])])).flatten), (21, (encs (fInt .i64) (List.replicate 21 0)))]).toArray)]) 1 [21, 22, 23] hF (by kernel_rfl) fun a hF => ?_
 refine bind_split hv20 (fun x22 hx22 hv20 => ?_)
 refine wl_consg hF (by kernel_rfl) (wo_callP (args := #[.agg (flat [(1, [.int .i64 (x13.1.Pool)]), (1, [.int .i64 (x13.1.Nodes)]), (4, (encs fBool x13.1.Members)), (8, cs14), (21, (encs (fInt .i64) x13.1.Modes))]).toArray, .agg (flat [(1, [.int .i64 (0)]), (1, [.int .i64 (0)]), (4, (encs fBool (List.replicate 4 false))), (8, (List.replicate 4 (flat [(1, [.slice none 0 0]), (1, [.slice none 0 0])])).flatten), (21, (encs (fInt .i64) (List.replicate 21 0)))]).toArray]) (f := 26) hF hS (by kernel_rfl) (by kernel_rfl) (C_law18_Same N hS.fresh (T_config_State.mk x13.1.Pool x13.1.Nodes x13.1.Members x13.1.Maps x13.1.Modes) (T_ref18_State.mk 0 0 (List.replicate 4 false) (List.replicate 4 (T_api_Map.mk ([] : List ByteArray) ([] : List Int))) (List.replicate 21 0)) cs14 ((List.replicate 4 (flat [(1, [.slice none 0 0]), (1, [.slice none 0 0])])).flatten) ((hS.pick [3, 4, 5, 2, 1, 0] (by kernel_rfl)).ro) hx22) ?_)
 rintro _ κ w a ⟨rfl, hR, hN⟩ hF hS hO
 refine wl_pure (L' := [(4, .bool (x22))]) 2 [4] hF (by kernel_rfl) fun a hF => ?_
 refine wpListIn_nil ?_
 cases hv20
 exact ⟨_, hF.keep' [4] (by kernel_rfl), (hS.selp [] (by decide) (by kernel_rfl)).pick [] (by kernel_rfl), trivial⟩
 have hF := hF.boolv 21 (by kernel_rfl) hb
 refine wl_pure (L' := [(4, .bool (false))]) 5 [4] hF (by kernel_rfl) fun a hF => ?_
 refine wpListIn_nil ?_
 cases hv20
 exact ⟨_, hF.keep' [4] (by kernel_rfl), (hS.selp [] (by decide) (by kernel_rfl)).pick [] (by kernel_rfl), trivial⟩
 rintro a w ⟨κ, hF, hS, -⟩
 refine hK18 _ _ ?_
 refine wpIn_ret ?_
 cases H
 exact (ret_done hF hS (res1 Try.results12 (rv_tmp hF (by kernel_rfl))) ⟨rfl, (hS.pick [] (by kernel_rfl)).ro, hS.newC [] (by decide) (by kernel_rfl)⟩)
 refine cond_f hF (by kernel_rfl) hb ?_
 refine wpIn_skip ?_
 refine hK16 _ _ ?_
 refine wpIn_seq_k fun K23 hK23 => ?_
 refine wpIn_seq_k fun K24 hK24 => ?_
 refine wpIn_region_lit ?_
 refine wl_pure (L' := [(2, .pointer (some ⟨b5, 0, none⟩)), (3, .pointer (some ⟨b6, 0, none⟩)), (5, .pointer (some ⟨b15, 0, none⟩)), (26, .int .i64 (0))]) 1 [2, 3, 5, 26] hF (by kernel_rfl) fun a hF => ?_
 refine wpListIn_nil ?_
 refine hK24 _ _ ?_
 refine wpIn_block ?_
 refine loop_fuel (n := N) (fun n a w => ∃ κ : Gh, ∃ y75 : Int, Fr (97) [] [(2, .pointer (some ⟨b5, 0, none⟩)), (3, .pointer (some ⟨b6, 0, none⟩)), (5, .pointer (some ⟨b15, 0, none⟩)), (26, .int .i64 (y75))] a ∧ SS [] κ0 w0 κ w [.box b15 30 [(1, [.int .i64 (x13.1.Pool)]), (1, [.int .i64 (x13.1.Nodes)]), (4, (encs fBool x13.1.Members)), (8, cs14), (21, (encs (fInt .i64) x13.1.Modes))], .box b6 72 [(1, [.int .i64 (a3.Kind)]), (1, [.int .i64 (a3.DC)]), (1, [.int .i64 (a3.Shard)]), (1, [.int .i64 (a3.Node)]), (1, [.int .i64 (a3.Mode)]), (1, [.string (a3.Key)])], .box b5 30 [(1, [.int .i64 (a1.Pool)]), (1, [.int .i64 (a1.Nodes)]), (4, (encs fBool a1.Members)), (8, cs2), (21, (encs (fInt .i64) a1.Modes))]] [MP.const (List.length x13.1.Members = 4), Arr.mp t_api_Map cs14 4 x13.1.Maps, MP.const (List.length x13.1.Modes = 21), MP.const (List.length a1.Members = 4), Arr.mp t_api_Map cs2 4 a1.Maps, MP.const (List.length a1.Modes = 21)] ∧ M.law18_ConfigOne_L1 N n a1 a3 x13 y75 = some r) ?_ ?_
 exact ⟨_, 0, hF.keep' [2, 3, 5, 26] (by kernel_rfl), (hS.selp [0, 1, 2] (by decide) (by kernel_rfl)).pick [3, 4, 5, 6, 7, 8] (by kernel_rfl), H⟩
 rintro n a w ⟨κ, y75, hF, hS, H⟩
 rcases n with _ | fuel1
 simp [M.law18_ConfigOne_L1] at H
 simp only [M.law18_ConfigOne_L1] at H
 refine wpIn_seq_k fun K76 hK76 => ?_
 refine wpIn_region_lit ?_
 refine wl_pure (L' := [(2, .pointer (some ⟨b5, 0, none⟩)), (3, .pointer (some ⟨b6, 0, none⟩)), (5, .pointer (some ⟨b15, 0, none⟩)), (26, .int .i64 (y75)), (27, .bool (decide (y75 < 4)))]) 1 [2, 3, 5, 26, 27] hF (by kernel_rfl) fun a hF => ?_
 refine wpListIn_nil ?_
 refine hK76 _ _ ?_
 refine wpIn_seq_k fun K77 hK77 => ?_
 refine bif_split H (fun hb H => ?_) (fun hb H => ?_)
 refine cond_t hF (by kernel_rfl) hb ?_
 refine wpIn_skip ?_
 refine hK77 _ _ ?_
 refine wpIn_seq_k fun K78 hK78 => ?_
 refine wpIn_block ?_
 refine wpIn_seq_k fun K79 hK79 => ?_
 refine wpIn_region_lit ?_
 refine wl_pure (L' := [(2, .pointer (some ⟨b5, 0, none⟩)), (3, .pointer (some ⟨b6, 0, none⟩)), (5, .pointer (some ⟨b15, 0, none⟩)), (7, .int .i64 (y75)), (26, .int .i64 (y75))]) 2 [2, 3, 5, 7, 26] hF (by kernel_rfl) fun a hF => ?_
 refine wpListIn_nil ?_
 refine hK79 _ _ ?_
 refine wpIn_seq_k fun K80 hK80 => ?_
 refine bind_split H (fun v82 hv82 H => ?_)
 refine code_join (fun a w => ∃ κ : Gh, Fr (97) [] [(2, .pointer (some ⟨b5, 0, none⟩)), (3, .pointer (some ⟨b6, 0, none⟩)), (5, .pointer (some ⟨b15, 0, none⟩)), (26, .int .i64 (y75)), (55, .bool (v82))] a ∧ SS [] κ0 w0 κ w [.box b15 30 [(1, [.int .i64 (x13.1.Pool)]), (1, [.int .i64 (x13.1.Nodes)]), (4, (encs fBool x13.1.Members)), (8, cs14), (21, (encs (fInt .i64) x13.1.Modes))], .box b6 72 [(1, [.int .i64 (a3.Kind)]), (1, [.int .i64 (a3.DC)]), (1, [.int .i64 (a3.Shard)]), (1, [.int .i64 (a3.Node)]), (1, [.int .i64 (a3.Mode)]), (1, [.string (a3.Key)])], .box b5 30 [(1, [.int .i64 (a1.Pool)]), (1, [.int .i64 (a1.Nodes)]), (4, (encs fBool a1.Members)), (8, cs2), (21, (encs (fInt .i64) a1.Modes))]] [MP.const (List.length x13.1.Members = 4), Arr.mp t_api_Map cs14 4 x13.1.Maps, MP.const (List.length x13.1.Modes = 21), MP.const (List.length a1.Members = 4), Arr.mp t_api_Map cs2 4 a1.Maps, MP.const (List.length a1.Modes = 21)] ∧ True) ?_ ?_
 refine region_any (SSx [] κ0 w0 [.box b15 30 [(1, [.int .i64 (x13.1.Pool)]), (1, [.int .i64 (x13.1.Nodes)]), (4, (encs fBool x13.1.Members)), (8, cs14), (21, (encs (fInt .i64) x13.1.Modes))], .box b6 72 [(1, [.int .i64 (a3.Kind)]), (1, [.int .i64 (a3.DC)]), (1, [.int .i64 (a3.Shard)]), (1, [.int .i64 (a3.Node)]), (1, [.int .i64 (a3.Mode)]), (1, [.string (a3.Key)])], .box b5 30 [(1, [.int .i64 (a1.Pool)]), (1, [.int .i64 (a1.Nodes)]), (4, (encs fBool a1.Members)), (8, cs2), (21, (encs (fInt .i64) a1.Modes))]] [MP.const (List.length x13.1.Members = 4), Arr.mp t_api_Map cs14 4 x13.1.Maps, MP.const (List.length x13.1.Modes = 21), MP.const (List.length a1.Members = 4), Arr.mp t_api_Map cs2 4 a1.Maps, MP.const (List.length a1.Modes = 21)]) [] (by kernel_rfl) (n := 27) (by kernel_rfl) (l := #[false, false, false, false, false, false, false, false, false, false, false, false, false, false, false, false, false, false, false, false, false, false, false, false, false, false, false]) (by kernel_rfl) ?_
 have hS := hS.drew
 refine any_pure [0, 1] [2, 3, 5, 7, 26, 29, 30] (L' := [(2, .pointer (some ⟨b5, 0, none⟩)), (3, .pointer (some ⟨b6, 0, none⟩)), (5, .pointer (some ⟨b15, 0, none⟩)), (7, .int .i64 (y75)), (26, .int .i64 (y75)), (29, .int .i64 (y75)), (30, .pointer (some ⟨b6, 1, none⟩))]) (listed' := #[true, true, false, false, false, false, false, false, false, false, false, false, false, false, false, false, false, false, false, false, false, false, false, false, false, false, false]) (fuel := 25) hF ⟨_, (hS.selp [0, 1, 2] (by decide) (by kernel_rfl)).pick [0, 1, 2, 3, 4, 5] (by kernel_rfl)⟩ (by kernel_rfl) (by intro c a w t v h; cases t <;> exact h) (by kernel_rfl) rfl fun a hF => ?_
 refine any_take 2 (some 31) hF ⟨_, (hS.selp [0, 1, 2] (by decide) (by kernel_rfl)).pick [0, 1, 2, 3, 4, 5] (by kernel_rfl)⟩ rfl (by kernel_rfl) (by kernel_rfl) (by intro c a w v h; exact h) (by kernel_rfl) (by kernel_rfl) (by kernel_rfl) rfl (val_load 1 1 0 (v := .int .i64 (a3.DC)) rfl rfl rfl rfl rfl (by kernel_rfl) (by kernel_rfl)) fun a hF => ?_
 refine any_pure [3, 4] [2, 3, 5, 7, 26, 33] (L' := [(2, .pointer (some ⟨b5, 0, none⟩)), (3, .pointer (some ⟨b6, 0, none⟩)), (5, .pointer (some ⟨b15, 0, none⟩)), (7, .int .i64 (y75)), (26, .int .i64 (y75)), (33, .bool ((y75 != a3.DC)))]) (listed' := #[true, true, true, true, true, false, false, false, false, false, false, false, false, false, false, false, false, false, false, false, false, false, false, false, false, false, false]) (fuel := 22) hF ⟨_, (hS.selp [0, 1, 2] (by decide) (by kernel_rfl)).pick [0, 1, 2, 3, 4, 5] (by kernel_rfl)⟩ (by kernel_rfl) (by intro c a w t v h; cases t <;> exact h) (by kernel_rfl) rfl fun a hF => ?_
 refine bif_split hv82 (fun hb hv82 => ?_) (fun hb hv82 => ?_)
 have hF := hF.boolv 33 (by kernel_rfl) hb
 refine any_pure [5, 6, 9, 10] [2, 3, 5, 7, 26, 33, 34, 35, 38, 39] (L' := [(2, .pointer (some ⟨b5, 0, none⟩)), (3, .pointer (some ⟨b6, 0, none⟩)), (5, .pointer (some ⟨b15, 0, none⟩)), (7, .int .i64 (y75)), (26, .int .i64 (y75)), (33, .bool (true)), (34, .int .i64 (y75)), (35, .pointer (some ⟨b15, 2, none⟩)), (38, .int .i64 (y75)), (39, .pointer (some ⟨b5, 2, none⟩))]) (listed' := #[true, true, true, true, true, true, true, false, false, true, true, false, false, false, false, false, false, false, false, false, false, false, false, false, false, false, false]) (fuel := 18) hF ⟨_, (hS.selp [0, 1, 2] (by decide) (by kernel_rfl)).pick [0, 1, 2, 3, 4, 5] (by kernel_rfl)⟩ (by kernel_rfl) (by intro c a w t v h; cases t <;> exact h) (by kernel_rfl) rfl fun a hF => ?_
 refine bind_split hv82 (fun x83 hx83 hv82 => ?_)
 refine any_take 7 (some 36) hF ⟨_, (hS.selp [0, 1, 2] (by decide) (by kernel_rfl)).pick [0, 1, 2, 3, 4, 5] (by kernel_rfl)⟩ rfl (by kernel_rfl) (by kernel_rfl) (by intro c a w v h; exact h) (by kernel_rfl) (by kernel_rfl) (by kernel_rfl) rfl (fun w _ => val_indexArr (E := 4) (sz := 1) (n := 4) rfl rfl (i := y75) rfl (idx_lt hx83 (hS.get 0 rfl)) (by kernel_rfl) (by kernel_rfl) w) fun a hF => ?_
 refine any_take 8 (some 37) hF ⟨_, (hS.selp [0, 1, 2] (by decide) (by kernel_rfl)).pick [0, 1, 2, 3, 4, 5] (by kernel_rfl)⟩ rfl (by kernel_rfl) (by kernel_rfl) (by intro c a w v h; exact h) (by kernel_rfl) (by kernel_rfl) (by kernel_rfl) rfl (val_loadA1 (t := fBool) 0 2 (v := .bool (x83)) rfl rfl rfl rfl hx83 rfl rfl (by kernel_rfl) (by kernel_rfl)) fun a hF => ?_
 refine bind_split hv82 (fun x84 hx84 hv82 => ?_)
 refine any_take 11 (some 40) hF ⟨_, (hS.selp [0, 1, 2] (by decide) (by kernel_rfl)).pick [0, 1, 2, 3, 4, 5] (by kernel_rfl)⟩ rfl (by kernel_rfl) (by kernel_rfl) (by intro c a w v h; exact h) (by kernel_rfl) (by kernel_rfl) (by kernel_rfl) rfl (fun w _ => val_indexArr (E := 4) (sz := 1) (n := 4) rfl rfl (i := y75) rfl (idx_lt hx84 (hS.get 3 rfl)) (by kernel_rfl) (by kernel_rfl) w) fun a hF => ?_
 refine any_take 12 (some 41) hF ⟨_, (hS.selp [0, 1, 2] (by decide) (by kernel_rfl)).pick [0, 1, 2, 3, 4, 5] (by kernel_rfl)⟩ rfl (by kernel_rfl) (by kernel_rfl) (by intro c a w v h; exact h) (by kernel_rfl) (by kernel_rfl) (by kernel_rfl) rfl (val_loadA1 (t := fBool) 2 2 (v := .bool (x84)) rfl rfl rfl rfl hx84 rfl rfl (by kernel_rfl) (by kernel_rfl)) fun a hF => ?_
 refine any_pure [13, 14] [2, 3, 5, 7, 26, 33, 43] (L' := [(2, .pointer (some ⟨b5, 0, none⟩)), (3, .pointer (some ⟨b6, 0, none⟩)), (5, .pointer (some ⟨b15, 0, none⟩)), (7, .int .i64 (y75)), (26, .int .i64 (y75)), (33, .bool (true)), (43, .bool ((!(x83 == x84))))]) (listed' := #[true, true, true, true, true, true, true, true, true, true, true, true, true, true, true, false, false, false, false, false, false, false, false, false, false, false, false]) (fuel := 12) hF ⟨_, (hS.selp [0, 1, 2] (by decide) (by kernel_rfl)).pick [0, 1, 2, 3, 4, 5] (by kernel_rfl)⟩ (by kernel_rfl) (by intro c a w t v h; cases t <;> exact h) (by kernel_rfl) rfl fun a hF => ?_
 refine bif_split hv82 (fun hb hv82 => ?_) (fun hb hv82 => ?_)
 have hF := hF.boolv 43 (by kernel_rfl) hb
 refine any_pure [15, 16, 17, 18, 19, 20, 21, 22, 23, 24, 25, 26] [2, 3, 5, 26, 55] (L' := [(2, .pointer (some ⟨b5, 0, none⟩)), (3, .pointer (some ⟨b6, 0, none⟩)), (5, .pointer (some ⟨b15, 0, none⟩)), (26, .int .i64 (y75)), (55, .bool (true))]) (listed' := #[true, true, true, true, true, true, true, true, true, true, true, true, true, true, true, true, true, true, true, true, true, true, true, true, true, true, true]) (fuel := 0) hF ⟨_, (hS.selp [0, 1, 2] (by decide) (by kernel_rfl)).pick [0, 1, 2, 3, 4, 5] (by kernel_rfl)⟩ (by kernel_rfl) (by intro c a w t v h; cases t <;> exact h) (by kernel_rfl) rfl fun a hF => ?_
 refine any_done (by kernel_rfl) ?_ _
 cases hv82
 exact ⟨_, hF.keep' [2, 3, 5, 26, 55] (by kernel_rfl), (hS.selp [0, 1, 2] (by decide) (by kernel_rfl)).pick [0, 1, 2, 3, 4, 5] (by kernel_rfl), trivial⟩
 have hF := hF.boolv 43 (by kernel_rfl) hb
 refine any_pure [15, 16, 19, 20] [2, 3, 5, 26, 33, 43, 44, 45, 48, 49] (L' := [(2, .pointer (some ⟨b5, 0, none⟩)), (3, .pointer (some ⟨b6, 0, none⟩)), (5, .pointer (some ⟨b15, 0, none⟩)), (26, .int .i64 (y75)), (33, .bool (true)), (43, .bool (false)), (44, .int .i64 (y75)), (45, .pointer (some ⟨b15, 6, none⟩)), (48, .int .i64 (y75)), (49, .pointer (some ⟨b5, 6, none⟩))]) (listed' := #[true, true, true, true, true, true, true, true, true, true, true, true, true, true, true, true, true, false, false, true, true, false, false, false, false, false, false]) (fuel := 8) hF ⟨_, (hS.selp [0, 1, 2] (by decide) (by kernel_rfl)).pick [0, 1, 2, 3, 4, 5] (by kernel_rfl)⟩ (by kernel_rfl) (by intro c a w t v h; cases t <;> exact h) (by kernel_rfl) rfl fun a hF => ?_
 refine bind_split hv82 (fun x85 hx85 hv82 => ?_)
 refine any_take 17 (some 46) hF ⟨_, (hS.selp [0, 1, 2] (by decide) (by kernel_rfl)).pick [0, 1, 2, 3, 4, 5] (by kernel_rfl)⟩ rfl (by kernel_rfl) (by kernel_rfl) (by intro c a w v h; exact h) (by kernel_rfl) (by kernel_rfl) (by kernel_rfl) rfl (fun w _ => val_indexArr (E := 26) (sz := 2) (n := 4) rfl rfl (i := y75) rfl (idx_lt hx85 ((hS.get 1 rfl : ArrP _ _ _ _ _ _).1)) (by kernel_rfl) (by kernel_rfl) w) fun a hF => ?_
 obtain ⟨⟨p86, c87, p88, c89⟩, hqx85, hR⟩ := elemATy (hS.get 1 rfl) hx85
 have hS := hS.adds hR
 refine any_take 18 (some 47) hF ⟨_, (hS.selp [0, 1, 2] (by decide) (by kernel_rfl)).pick [2, 3, 4, 5, 6, 7] (by kernel_rfl)⟩ rfl (by kernel_rfl) (by kernel_rfl) (by intro c a w v h; exact h) (by kernel_rfl) (by kernel_rfl) (by kernel_rfl) rfl (val_loadATy (t := t_api_Map) (n := 4) 0 3 rfl rfl rfl rfl (idx_lt hx85 (hS.get 3 rfl : ArrP _ _ _ _ _ _).1) (by kernel_rfl) (by kernel_rfl) (by kernel_rfl) (by kernel_rfl) hqx85) fun a hF => ?_
 refine bind_split hv82 (fun x90 hx90 hv82 => ?_)
 refine any_take 21 (some 50) hF ⟨_, (hS.selp [0, 1, 2] (by decide) (by kernel_rfl)).pick [2, 3, 4, 5, 6, 7] (by kernel_rfl)⟩ rfl (by kernel_rfl) (by kernel_rfl) (by intro c a w v h; exact h) (by kernel_rfl) (by kernel_rfl) (by kernel_rfl) rfl (fun w _ => val_indexArr (E := 26) (sz := 2) (n := 4) rfl rfl (i := y75) rfl (idx_lt hx90 ((hS.get 6 rfl : ArrP _ _ _ _ _ _).1)) (by kernel_rfl) (by kernel_rfl) w) fun a hF => ?_
 obtain ⟨⟨p91, c92, p93, c94⟩, hqx90, hR⟩ := elemATy (hS.get 6 rfl) hx90
 have hS := hS.adds hR
 refine any_take 22 (some 51) hF ⟨_, (hS.selp [0, 1, 2] (by decide) (by kernel_rfl)).pick [4, 5, 6, 7, 8, 9] (by kernel_rfl)⟩ rfl (by kernel_rfl) (by kernel_rfl) (by intro c a w v h; exact h) (by kernel_rfl) (by kernel_rfl) (by kernel_rfl) rfl (val_loadATy (t := t_api_Map) (n := 4) 2 3 rfl rfl rfl rfl (idx_lt hx90 (hS.get 8 rfl : ArrP _ _ _ _ _ _).1) (by kernel_rfl) (by kernel_rfl) (by kernel_rfl) (by kernel_rfl) hqx90) fun a hF => ?_
 refine any_go 23 (o := ⟨(some 52), (Go.Op.call (Go.Call.mk (Go.Callee.value (Go.Operand.func 44)) #[(Go.Operand.tmp 47), (Go.Operand.tmp 51)] #[26, 26])), 4, "law.go:102", #[(Go.Edge.mk 18 Go.Ground.data), (Go.Edge.mk 22 Go.Ground.data), (Go.Edge.mk 14 Go.Ground.chain), (Go.Edge.mk 14 Go.Ground.guard)], (some (14, false))⟩) hF rfl (by kernel_rfl) (by kernel_rfl) (listed' := #[true, true, true, true, true, true, true, true, true, true, true, true, true, true, true, true, true, true, true, true, true, true, true, true, false, false, false]) (by kernel_rfl) ?_
 refine bind_split hv82 (fun x95 hx95 hv82 => ?_)
 refine wo_callP (args := #[.agg (flat [(1, [.slice p86 (x85.Cuts).length c87]), (1, [.slice p88 (x85.Nodes).length c89])]).toArray, .agg (flat [(1, [.slice p91 (x90.Cuts).length c92]), (1, [.slice p93 (x90.Nodes).length c94])]).toArray]) (f := 44) hF hS (by kernel_rfl) (by kernel_rfl) (C_ref08_Same N hS.fresh (T_api_Map.mk x85.Cuts x85.Nodes) (T_api_Map.mk x90.Cuts x90.Nodes) p86 c87 p88 c89 p91 c92 p93 c94 ((hS.pick [2, 3, 0, 1] (by kernel_rfl)).ro) hx95) ?_
 rintro _ κ w a ⟨rfl, hR, hN⟩ hF hS hO
 refine ⟨fun _ => ⟨_, (hS.selp [0, 1, 2] (by decide) (by kernel_rfl)).pick [4, 5, 6, 7, 8, 9] (by kernel_rfl)⟩, ?_⟩
 refine any_pure [24, 25, 26] [2, 3, 5, 26, 55] (L' := [(2, .pointer (some ⟨b5, 0, none⟩)), (3, .pointer (some ⟨b6, 0, none⟩)), (5, .pointer (some ⟨b15, 0, none⟩)), (26, .int .i64 (y75)), (55, .bool ((!x95)))]) (listed' := #[true, true, true, true, true, true, true, true, true, true, true, true, true, true, true, true, true, true, true, true, true, true, true, true, true, true, true]) (fuel := 0) hF ⟨_, (hS.selp [0, 1, 2] (by decide) (by kernel_rfl)).pick [4, 5, 6, 7, 8, 9] (by kernel_rfl)⟩ (by kernel_rfl) (by intro c a w t v h; cases t <;> exact h) (by kernel_rfl) rfl fun a hF => ?_
 refine any_done (by kernel_rfl) ?_ _
 cases hv82
 exact ⟨_, hF.keep' [2, 3, 5, 26, 55] (by kernel_rfl), (hS.selp [0, 1, 2] (by decide) (by kernel_rfl)).pick [4, 5, 6, 7, 8, 9] (by kernel_rfl), trivial⟩
 have hF := hF.boolv 33 (by kernel_rfl) hb
 refine any_pure [5, 6, 7, 8, 9, 10, 11, 12, 13, 14, 15, 16, 17, 18, 19, 20, 21, 22, 23, 24, 25, 26] [2, 3, 5, 26, 55] (L' := [(2, .pointer (some ⟨b5, 0, none⟩)), (3, .pointer (some ⟨b6, 0, none⟩)), (5, .pointer (some ⟨b15, 0, none⟩)), (26, .int .i64 (y75)), (55, .bool (false))]) (listed' := #[true, true, true, true, true, true, true, true, true, true, true, true, true, true, true, true, true, true, true, true, true, true, true, true, true, true, true]) (fuel := 0) hF ⟨_, (hS.selp [0, 1, 2] (by decide) (by kernel_rfl)).pick [0, 1, 2, 3, 4, 5] (by kernel_rfl)⟩ (by kernel_rfl) (by intro c a w t v h; cases t <;> exact h) (by kernel_rfl) rfl fun a hF => ?_
 refine any_done (by kernel_rfl) ?_ _
 cases hv82
 exact ⟨_, hF.keep' [2, 3, 5, 26, 55] (by kernel_rfl), (hS.selp [0, 1, 2] (by decide) (by kernel_rfl)).pick [0, 1, 2, 3, 4, 5] (by kernel_rfl), trivial⟩
 rintro a w ⟨κ, hF, hS, -⟩
 refine hK80 _ _ ?_
 refine bif_split H (fun hb H => ?_) (fun hb H => ?_)
 refine cond_t hF (by kernel_rfl) hb ?_
 refine wpIn_seq_k fun K96 hK96 => ?_
 refine wpIn_region_lit ?_
 refine wl_pure (L' := [(4, .bool (false))]) 1 [4] hF (by kernel_rfl) fun a hF => ?_
 refine wpListIn_nil ?_
 refine hK96 _ _ ?_
 refine wpIn_ret ?_
 cases H
 exact (ret_done hF hS (res1 Try.results12 (rv_tmp hF (by kernel_rfl))) ⟨rfl, (hS.pick [] (by kernel_rfl)).ro, hS.newC [] (by decide) (by kernel_rfl)⟩)
 refine cond_f hF (by kernel_rfl) hb ?_
 refine wpIn_skip ?_
 refine hK78 _ _ ?_
 refine wpIn_region_lit ?_
 refine wl_pure (L' := [(2, .pointer (some ⟨b5, 0, none⟩)), (3, .pointer (some ⟨b6, 0, none⟩)), (5, .pointer (some ⟨b15, 0, none⟩)), (26, .int .i64 (IntKind.i64.wrap (y75 + 1)))]) 2 [2, 3, 5, 26] hF (by kernel_rfl) fun a hF => ?_
 refine wpListIn_nil ?_
 exact ⟨fuel1, Nat.lt_succ_self _, _, IntKind.i64.wrap (y75 + 1), hF.keep' [2, 3, 5, 26] (by kernel_rfl), (hS.selp [0, 1, 2] (by decide) (by kernel_rfl)).pick [0, 1, 2, 3, 4, 5] (by kernel_rfl), H⟩
 refine cond_f hF (by kernel_rfl) hb ?_
 refine wpIn_exit ?_
 refine hK23 _ _ ?_
 refine wpIn_seq_k fun K97 hK97 => ?_
 refine wpIn_seq_k fun K98 hK98 => ?_
 refine wpIn_region_lit ?_
 refine wl_pure (L' := [(2, .pointer (some ⟨b5, 0, none⟩)), (3, .pointer (some ⟨b6, 0, none⟩)), (5, .pointer (some ⟨b15, 0, none⟩)), (57, .int .i64 (0))]) 1 [2, 3, 5, 57] hF (by kernel_rfl) fun a hF => ?_
 refine wpListIn_nil ?_
 refine hK98 _ _ ?_
 refine wpIn_block ?_
 refine loop_fuel (n := N) (fun n a w => ∃ κ : Gh, ∃ y149 : Int, Fr (97) [] [(2, .pointer (some ⟨b5, 0, none⟩)), (3, .pointer (some ⟨b6, 0, none⟩)), (5, .pointer (some ⟨b15, 0, none⟩)), (57, .int .i64 (y149))] a ∧ SS [] κ0 w0 κ w [.box b15 30 [(1, [.int .i64 (x13.1.Pool)]), (1, [.int .i64 (x13.1.Nodes)]), (4, (encs fBool x13.1.Members)), (8, cs14), (21, (encs (fInt .i64) x13.1.Modes))], .box b6 72 [(1, [.int .i64 (a3.Kind)]), (1, [.int .i64 (a3.DC)]), (1, [.int .i64 (a3.Shard)]), (1, [.int .i64 (a3.Node)]), (1, [.int .i64 (a3.Mode)]), (1, [.string (a3.Key)])], .box b5 30 [(1, [.int .i64 (a1.Pool)]), (1, [.int .i64 (a1.Nodes)]), (4, (encs fBool a1.Members)), (8, cs2), (21, (encs (fInt .i64) a1.Modes))]] [MP.const (List.length x13.1.Members = 4), Arr.mp t_api_Map cs14 4 x13.1.Maps, MP.const (List.length x13.1.Modes = 21), MP.const (List.length a1.Members = 4), Arr.mp t_api_Map cs2 4 a1.Maps, MP.const (List.length a1.Modes = 21)] ∧ M.law18_ConfigOne_L2 N n a1 a3 x13 y149 = some r) ?_ ?_
 exact ⟨_, 0, hF.keep' [2, 3, 5, 57] (by kernel_rfl), (hS.selp [0, 1, 2] (by decide) (by kernel_rfl)).pick [0, 1, 2, 3, 4, 5] (by kernel_rfl), H⟩
 rintro n a w ⟨κ, y149, hF, hS, H⟩
 rcases n with _ | fuel2
 simp [M.law18_ConfigOne_L2] at H
 simp only [M.law18_ConfigOne_L2] at H
 refine wpIn_seq_k fun K150 hK150 => ?_
 refine wpIn_region_lit ?_
 refine wl_pure (L' := [(2, .pointer (some ⟨b5, 0, none⟩)), (3, .pointer (some ⟨b6, 0, none⟩)), (5, .pointer (some ⟨b15, 0, none⟩)), (57, .int .i64 (y149)), (58, .bool (decide (y149 < 21)))]) 1 [2, 3, 5, 57, 58] hF (by kernel_rfl) fun a hF => ?_
 refine wpListIn_nil ?_
 refine hK150 _ _ ?_
 refine wpIn_seq_k fun K151 hK151 => ?_
 refine bif_split H (fun hb H => ?_) (fun hb H => ?_)
 refine cond_t hF (by kernel_rfl) hb ?_
 refine wpIn_skip ?_
 refine hK151 _ _ ?_
 refine wpIn_seq_k fun K152 hK152 => ?_
 refine wpIn_block ?_
 refine wpIn_seq_k fun K153 hK153 => ?_
 refine wpIn_region_lit ?_
 refine wl_pure (L' := [(2, .pointer (some ⟨b5, 0, none⟩)), (3, .pointer (some ⟨b6, 0, none⟩)), (5, .pointer (some ⟨b15, 0, none⟩)), (8, .int .i64 (y149)), (57, .int .i64 (y149))]) 2 [2, 3, 5, 8, 57] hF (by kernel_rfl) fun a hF => ?_
 refine wpListIn_nil ?_
 refine hK153 _ _ ?_
 refine wpIn_seq_k fun K154 hK154 => ?_
 refine bind_split H (fun v156 hv156 H => ?_)
 refine code_join (fun a w => ∃ κ : Gh, Fr (97) [] [(2, .pointer (some ⟨b5, 0, none⟩)), (3, .pointer (some ⟨b6, 0, none⟩)), (5, .pointer (some ⟨b15, 0, none⟩)), (57, .int .i64 (y149)), (80, .bool (v156))] a ∧ SS [] κ0 w0 κ w [.box b15 30 [(1, [.int .i64 (x13.1.Pool)]), (1, [.int .i64 (x13.1.Nodes)]), (4, (encs fBool x13.1.Members)), (8, cs14), (21, (encs (fInt .i64) x13.1.Modes))], .box b6 72 [(1, [.int .i64 (a3.Kind)]), (1, [.int .i64 (a3.DC)]), (1, [.int .i64 (a3.Shard)]), (1, [.int .i64 (a3.Node)]), (1, [.int .i64 (a3.Mode)]), (1, [.string (a3.Key)])], .box b5 30 [(1, [.int .i64 (a1.Pool)]), (1, [.int .i64 (a1.Nodes)]), (4, (encs fBool a1.Members)), (8, cs2), (21, (encs (fInt .i64) a1.Modes))]] [MP.const (List.length x13.1.Members = 4), Arr.mp t_api_Map cs14 4 x13.1.Maps, MP.const (List.length x13.1.Modes = 21), MP.const (List.length a1.Members = 4), Arr.mp t_api_Map cs2 4 a1.Maps, MP.const (List.length a1.Modes = 21)] ∧ True) ?_ ?_
 refine region_any (SSx [] κ0 w0 [.box b15 30 [(1, [.int .i64 (x13.1.Pool)]), (1, [.int .i64 (x13.1.Nodes)]), (4, (encs fBool x13.1.Members)), (8, cs14), (21, (encs (fInt .i64) x13.1.Modes))], .box b6 72 [(1, [.int .i64 (a3.Kind)]), (1, [.int .i64 (a3.DC)]), (1, [.int .i64 (a3.Shard)]), (1, [.int .i64 (a3.Node)]), (1, [.int .i64 (a3.Mode)]), (1, [.string (a3.Key)])], .box b5 30 [(1, [.int .i64 (a1.Pool)]), (1, [.int .i64 (a1.Nodes)]), (4, (encs fBool a1.Members)), (8, cs2), (21, (encs (fInt .i64) a1.Modes))]] [MP.const (List.length x13.1.Members = 4), Arr.mp t_api_Map cs14 4 x13.1.Maps, MP.const (List.length x13.1.Modes = 21), MP.const (List.length a1.Members = 4), Arr.mp t_api_Map cs2 4 a1.Maps, MP.const (List.length a1.Modes = 21)]) [] (by kernel_rfl) (n := 21) (by kernel_rfl) (l := #[false, false, false, false, false, false, false, false, false, false, false, false, false, false, false, false, false, false, false, false, false]) (by kernel_rfl) ?_
 have hS := hS.drew
 refine any_pure [0, 1, 2] [2, 3, 5, 8, 57, 62] (L' := [(2, .pointer (some ⟨b5, 0, none⟩)), (3, .pointer (some ⟨b6, 0, none⟩)), (5, .pointer (some ⟨b15, 0, none⟩)), (8, .int .i64 (y149)), (57, .int .i64 (y149)), (62, .bool ((y149 == 0)))]) (listed' := #[true, true, true, false, false, false, false, false, false, false, false, false, false, false, false, false, false, false, false, false, false]) (fuel := 18) hF ⟨_, (hS.selp [0, 1, 2] (by decide) (by kernel_rfl)).pick [0, 1, 2, 3, 4, 5] (by kernel_rfl)⟩ (by kernel_rfl) (by intro c a w t v h; cases t <;> exact h) (by kernel_rfl) rfl fun a hF => ?_
 refine bif_split hv156 (fun hb hv156 => ?_) (fun hb hv156 => ?_)
 have hF := hF.boolv 62 (by kernel_rfl) hb
 refine any_pure [3, 4, 5, 6, 7, 8, 9, 10, 11, 12, 15, 16] [2, 3, 5, 57, 70, 71, 72, 75, 76] (L' := [(2, .pointer (some ⟨b5, 0, none⟩)), (3, .pointer (some ⟨b6, 0, none⟩)), (5, .pointer (some ⟨b15, 0, none⟩)), (57, .int .i64 (y149)), (70, .bool (true)), (71, .int .i64 (y149)), (72, .pointer (some ⟨b15, 14, none⟩)), (75, .int .i64 (y149)), (76, .pointer (some ⟨b5, 14, none⟩))]) (listed' := #[true, true, true, true, true, true, true, true, true, true, true, true, true, false, false, true, true, false, false, false, false]) (fuel := 6) hF ⟨_, (hS.selp [0, 1, 2] (by decide) (by kernel_rfl)).pick [0, 1, 2, 3, 4, 5] (by kernel_rfl)⟩ (by kernel_rfl) (by intro c a w t v h; cases t <;> exact h) (by kernel_rfl) rfl fun a hF => ?_
 refine bind_split hv156 (fun x157 hx157 hv156 => ?_)
 refine any_take 13 (some 73) hF ⟨_, (hS.selp [0, 1, 2] (by decide) (by kernel_rfl)).pick [0, 1, 2, 3, 4, 5] (by kernel_rfl)⟩ rfl (by kernel_rfl) (by kernel_rfl) (by intro c a w v h; exact h) (by kernel_rfl) (by kernel_rfl) (by kernel_rfl) rfl (fun w _ => val_indexArr (E := 3) (sz := 1) (n := 21) rfl rfl (i := y149) rfl (idx_lt hx157 (hS.get 2 rfl)) (by kernel_rfl) (by kernel_rfl) w) fun a hF => ?_
 refine any_take 14 (some 74) hF ⟨_, (hS.selp [0, 1, 2] (by decide) (by kernel_rfl)).pick [0, 1, 2, 3, 4, 5] (by kernel_rfl)⟩ rfl (by kernel_rfl) (by kernel_rfl) (by intro c a w v h; exact h) (by kernel_rfl) (by kernel_rfl) (by kernel_rfl) rfl (val_loadA1 (t := (fInt .i64)) 0 4 (v := .int .i64 (x157)) rfl rfl rfl rfl hx157 rfl rfl (by kernel_rfl) (by kernel_rfl)) fun a hF => ?_
 refine bind_split hv156 (fun x158 hx158 hv156 => ?_)
 refine any_take 17 (some 77) hF ⟨_, (hS.selp [0, 1, 2] (by decide) (by kernel_rfl)).pick [0, 1, 2, 3, 4, 5] (by kernel_rfl)⟩ rfl (by kernel_rfl) (by kernel_rfl) (by intro c a w v h; exact h) (by kernel_rfl) (by kernel_rfl) (by kernel_rfl) rfl (fun w _ => val_indexArr (E := 3) (sz := 1) (n := 21) rfl rfl (i := y149) rfl (idx_lt hx158 (hS.get 5 rfl)) (by kernel_rfl) (by kernel_rfl) w) fun a hF => ?_
 refine any_take 18 (some 78) hF ⟨_, (hS.selp [0, 1, 2] (by decide) (by kernel_rfl)).pick [0, 1, 2, 3, 4, 5] (by kernel_rfl)⟩ rfl (by kernel_rfl) (by kernel_rfl) (by intro c a w v h; exact h) (by kernel_rfl) (by kernel_rfl) (by kernel_rfl) rfl (val_loadA1 (t := (fInt .i64)) 2 4 (v := .int .i64 (x158)) rfl rfl rfl rfl hx158 rfl rfl (by kernel_rfl) (by kernel_rfl)) fun a hF => ?_
 refine any_pure [19, 20] [2, 3, 5, 57, 80] (L' := [(2, .pointer (some ⟨b5, 0, none⟩)), (3, .pointer (some ⟨b6, 0, none⟩)), (5, .pointer (some ⟨b15, 0, none⟩)), (57, .int .i64 (y149)), (80, .bool ((x157 != x158)))]) (listed' := #[true, true, true, true, true, true, true, true, true, true, true, true, true, true, true, true, true, true, true, true, true]) (fuel := 0) hF ⟨_, (hS.selp [0, 1, 2] (by decide) (by kernel_rfl)).pick [0, 1, 2, 3, 4, 5] (by kernel_rfl)⟩ (by kernel_rfl) (by intro c a w t v h; cases t <;> exact h) (by kernel_rfl) rfl fun a hF => ?_
 refine any_done (by kernel_rfl) ?_ _
 cases hv156
 exact ⟨_, hF.keep' [2, 3, 5, 57, 80] (by kernel_rfl), (hS.selp [0, 1, 2] (by decide) (by kernel_rfl)).pick [0, 1, 2, 3, 4, 5] (by kernel_rfl), trivial⟩
 have hF := hF.boolv 62 (by kernel_rfl) hb
 refine any_pure [3, 4, 5, 6] [2, 3, 5, 8, 57, 62, 65, 66] (L' := [(2, .pointer (some ⟨b5, 0, none⟩)), (3, .pointer (some ⟨b6, 0, none⟩)), (5, .pointer (some ⟨b15, 0, none⟩)), (8, .int .i64 (y149)), (57, .int .i64 (y149)), (62, .bool (false)), (65, .int .i64 (IntKind.i64.wrap (Int.tdiv (IntKind.i64.wrap (y149 - 1)) 5))), (66, .pointer (some ⟨b6, 1, none⟩))]) (listed' := #[true, true, true, true, true, true, true, false, false, false, false, false, false, false, false, false, false, false, false, false, false]) (fuel := 14) hF ⟨_, (hS.selp [0, 1, 2] (by decide) (by kernel_rfl)).pick [0, 1, 2, 3, 4, 5] (by kernel_rfl)⟩ (by kernel_rfl) (by intro c a w t v h; cases t <;> exact h) (by kernel_rfl) rfl fun a hF => ?_
 refine any_take 7 (some 67) hF ⟨_, (hS.selp [0, 1, 2] (by decide) (by kernel_rfl)).pick [0, 1, 2, 3, 4, 5] (by kernel_rfl)⟩ rfl (by kernel_rfl) (by kernel_rfl) (by intro c a w v h; exact h) (by kernel_rfl) (by kernel_rfl) (by kernel_rfl) rfl (val_load 1 1 0 (v := .int .i64 (a3.DC)) rfl rfl rfl rfl rfl (by kernel_rfl) (by kernel_rfl)) fun a hF => ?_
 refine any_pure [8, 9, 10] [2, 3, 5, 8, 57, 70] (L' := [(2, .pointer (some ⟨b5, 0, none⟩)), (3, .pointer (some ⟨b6, 0, none⟩)), (5, .pointer (some ⟨b15, 0, none⟩)), (8, .int .i64 (y149)), (57, .int .i64 (y149)), (70, .bool ((IntKind.i64.wrap (Int.tdiv (IntKind.i64.wrap (y149 - 1)) 5) != a3.DC)))]) (listed' := #[true, true, true, true, true, true, true, true, true, true, true, false, false, false, false, false, false, false, false, false, false]) (fuel := 10) hF ⟨_, (hS.selp [0, 1, 2] (by decide) (by kernel_rfl)).pick [0, 1, 2, 3, 4, 5] (by kernel_rfl)⟩ (by kernel_rfl) (by intro c a w t v h; cases t <;> exact h) (by kernel_rfl) rfl fun a hF => ?_
 refine bif_split hv156 (fun hb hv156 => ?_) (fun hb hv156 => ?_)
 have hF := hF.boolv 70 (by kernel_rfl) hb
 refine any_pure [11, 12, 15, 16] [2, 3, 5, 57, 70, 71, 72, 75, 76] (L' := [(2, .pointer (some ⟨b5, 0, none⟩)), (3, .pointer (some ⟨b6, 0, none⟩)), (5, .pointer (some ⟨b15, 0, none⟩)), (57, .int .i64 (y149)), (70, .bool (true)), (71, .int .i64 (y149)), (72, .pointer (some ⟨b15, 14, none⟩)), (75, .int .i64 (y149)), (76, .pointer (some ⟨b5, 14, none⟩))]) (listed' := #[true, true, true, true, true, true, true, true, true, true, true, true, true, false, false, true, true, false, false, false, false]) (fuel := 6) hF ⟨_, (hS.selp [0, 1, 2] (by decide) (by kernel_rfl)).pick [0, 1, 2, 3, 4, 5] (by kernel_rfl)⟩ (by kernel_rfl) (by intro c a w t v h; cases t <;> exact h) (by kernel_rfl) rfl fun a hF => ?_
 refine bind_split hv156 (fun x159 hx159 hv156 => ?_)
 refine any_take 13 (some 73) hF ⟨_, (hS.selp [0, 1, 2] (by decide) (by kernel_rfl)).pick [0, 1, 2, 3, 4, 5] (by kernel_rfl)⟩ rfl (by kernel_rfl) (by kernel_rfl) (by intro c a w v h; exact h) (by kernel_rfl) (by kernel_rfl) (by kernel_rfl) rfl (fun w _ => val_indexArr (E := 3) (sz := 1) (n := 21) rfl rfl (i := y149) rfl (idx_lt hx159 (hS.get 2 rfl)) (by kernel_rfl) (by kernel_rfl) w) fun a hF => ?_
 refine any_take 14 (some 74) hF ⟨_, (hS.selp [0, 1, 2] (by decide) (by kernel_rfl)).pick [0, 1, 2, 3, 4, 5] (by kernel_rfl)⟩ rfl (by kernel_rfl) (by kernel_rfl) (by intro c a w v h; exact h) (by kernel_rfl) (by kernel_rfl) (by kernel_rfl) rfl (val_loadA1 (t := (fInt .i64)) 0 4 (v := .int .i64 (x159)) rfl rfl rfl rfl hx159 rfl rfl (by kernel_rfl) (by kernel_rfl)) fun a hF => ?_
 refine bind_split hv156 (fun x160 hx160 hv156 => ?_)
 refine any_take 17 (some 77) hF ⟨_, (hS.selp [0, 1, 2] (by decide) (by kernel_rfl)).pick [0, 1, 2, 3, 4, 5] (by kernel_rfl)⟩ rfl (by kernel_rfl) (by kernel_rfl) (by intro c a w v h; exact h) (by kernel_rfl) (by kernel_rfl) (by kernel_rfl) rfl (fun w _ => val_indexArr (E := 3) (sz := 1) (n := 21) rfl rfl (i := y149) rfl (idx_lt hx160 (hS.get 5 rfl)) (by kernel_rfl) (by kernel_rfl) w) fun a hF => ?_
 refine any_take 18 (some 78) hF ⟨_, (hS.selp [0, 1, 2] (by decide) (by kernel_rfl)).pick [0, 1, 2, 3, 4, 5] (by kernel_rfl)⟩ rfl (by kernel_rfl) (by kernel_rfl) (by intro c a w v h; exact h) (by kernel_rfl) (by kernel_rfl) (by kernel_rfl) rfl (val_loadA1 (t := (fInt .i64)) 2 4 (v := .int .i64 (x160)) rfl rfl rfl rfl hx160 rfl rfl (by kernel_rfl) (by kernel_rfl)) fun a hF => ?_
 refine any_pure [19, 20] [2, 3, 5, 57, 80] (L' := [(2, .pointer (some ⟨b5, 0, none⟩)), (3, .pointer (some ⟨b6, 0, none⟩)), (5, .pointer (some ⟨b15, 0, none⟩)), (57, .int .i64 (y149)), (80, .bool ((x159 != x160)))]) (listed' := #[true, true, true, true, true, true, true, true, true, true, true, true, true, true, true, true, true, true, true, true, true]) (fuel := 0) hF ⟨_, (hS.selp [0, 1, 2] (by decide) (by kernel_rfl)).pick [0, 1, 2, 3, 4, 5] (by kernel_rfl)⟩ (by kernel_rfl) (by intro c a w t v h; cases t <;> exact h) (by kernel_rfl) rfl fun a hF => ?_
 refine any_done (by kernel_rfl) ?_ _
 cases hv156
 exact ⟨_, hF.keep' [2, 3, 5, 57, 80] (by kernel_rfl), (hS.selp [0, 1, 2] (by decide) (by kernel_rfl)).pick [0, 1, 2, 3, 4, 5] (by kernel_rfl), trivial⟩
 have hF := hF.boolv 70 (by kernel_rfl) hb
 refine any_pure [11, 12, 13, 14, 15, 16, 17, 18, 19, 20] [2, 3, 5, 57, 80] (L' := [(2, .pointer (some ⟨b5, 0, none⟩)), (3, .pointer (some ⟨b6, 0, none⟩)), (5, .pointer (some ⟨b15, 0, none⟩)), (57, .int .i64 (y149)), (80, .bool (false))]) (listed' := #[true, true, true, true, true, true, true, true, true, true, true, true, true, true, true, true, true, true, true, true, true]) (fuel := 0) hF ⟨_, (hS.selp [0, 1, 2] (by decide) (by kernel_rfl)).pick [0, 1, 2, 3, 4, 5] (by kernel_rfl)⟩ (by kernel_rfl) (by intro c a w t v h; cases t <;> exact h) (by kernel_rfl) rfl fun a hF => ?_
 refine any_done (by kernel_rfl) ?_ _
 cases hv156
 exact ⟨_, hF.keep' [2, 3, 5, 57, 80] (by kernel_rfl), (hS.selp [0, 1, 2] (by decide) (by kernel_rfl)).pick [0, 1, 2, 3, 4, 5] (by kernel_rfl), trivial⟩
 rintro a w ⟨κ, hF, hS, -⟩
 refine hK154 _ _ ?_
 refine bif_split H (fun hb H => ?_) (fun hb H => ?_)
 refine cond_t hF (by kernel_rfl) hb ?_
 refine wpIn_seq_k fun K161 hK161 => ?_
 refine wpIn_region_lit ?_
 refine wl_pure (L' := [(4, .bool (false))]) 1 [4] hF (by kernel_rfl) fun a hF => ?_
 refine wpListIn_nil ?_
 refine hK161 _ _ ?_
 refine wpIn_ret ?_
 cases H
 exact (ret_done hF hS (res1 Try.results12 (rv_tmp hF (by kernel_rfl))) ⟨rfl, (hS.pick [] (by kernel_rfl)).ro, hS.newC [] (by decide) (by kernel_rfl)⟩)
 refine cond_f hF (by kernel_rfl) hb ?_
 refine wpIn_skip ?_
 refine hK152 _ _ ?_
 refine wpIn_region_lit ?_
 refine wl_pure (L' := [(2, .pointer (some ⟨b5, 0, none⟩)), (3, .pointer (some ⟨b6, 0, none⟩)), (5, .pointer (some ⟨b15, 0, none⟩)), (57, .int .i64 (IntKind.i64.wrap (y149 + 1)))]) 2 [2, 3, 5, 57] hF (by kernel_rfl) fun a hF => ?_
 refine wpListIn_nil ?_
 exact ⟨fuel2, Nat.lt_succ_self _, _, IntKind.i64.wrap (y149 + 1), hF.keep' [2, 3, 5, 57] (by kernel_rfl), (hS.selp [0, 1, 2] (by decide) (by kernel_rfl)).pick [0, 1, 2, 3, 4, 5] (by kernel_rfl), H⟩
 refine cond_f hF (by kernel_rfl) hb ?_
 refine wpIn_exit ?_
 refine hK97 _ _ ?_
 refine wpIn_seq_k fun K162 hK162 => ?_
 refine wpIn_region_lit ?_
 refine bind_split H (fun v164 hv164 H => ?_)
 refine wl_join (fun a w => ∃ κ : Gh, Fr (97) [] [(4, .bool (v164))] a ∧ SS [] κ0 w0 κ w [] [] ∧ True) ?_ ?_
 refine bind_split hv164 (fun x165 hx165 hv164 => ?_)
 refine wl_cons rfl (wo_callP (args := #[]) (f := 25) hF hS (by kernel_rfl) (by kernel_rfl) (C_law18_awake N hS.fresh   ((hS.pick [] (by kernel_rfl)).ro) hx165) ?_)
 rintro _ κ w a ⟨rfl, hR, hN⟩ hF hS hO
 refine wl_pure (L' := [(2, .pointer (some ⟨b5, 0, none⟩)), (5, .pointer (some ⟨b15, 0, none⟩)), (83, .bool (x165))]) 1 [2, 5, 83] hF (by kernel_rfl) fun a hF => ?_
 refine bif_split hv164 (fun hb hv164 => ?_) (fun hb hv164 => ?_)
 have hF := hF.boolv 83 (by kernel_rfl) hb
 refine wl_pure (L' := [(2, .pointer (some ⟨b5, 0, none⟩)), (5, .pointer (some ⟨b15, 0, none⟩)), (83, .bool (true)), (84, .pointer (some ⟨b15, 0, none⟩))]) 1 [2, 5, 83, 84] hF (by kernel_rfl) fun a hF => ?_
 refine wl_consg hF (by kernel_rfl) (wo_load hF hS (by kernel_rfl) 0 0 0 (v := .int .i64 (x13.1.Pool)) rfl rfl rfl rfl rfl (by kernel_rfl) (by kernel_rfl) fun a hF => ?_)
 refine wl_pure (L' := [(2, .pointer (some ⟨b5, 0, none⟩)), (5, .pointer (some ⟨b15, 0, none⟩)), (83, .bool (true)), (85, .int .i64 (x13.1.Pool)), (86, .pointer (some ⟨b5, 0, none⟩))]) 1 [2, 5, 83, 85, 86] hF (by kernel_rfl) fun a hF => ?_
 refine wl_consg hF (by kernel_rfl) (wo_load hF hS (by kernel_rfl) 2 0 0 (v := .int .i64 (a1.Pool)) rfl rfl rfl rfl rfl (by kernel_rfl) (by kernel_rfl) fun a hF => ?_)
 refine wl_pure (L' := [(2, .pointer (some ⟨b5, 0, none⟩)), (5, .pointer (some ⟨b15, 0, none⟩)), (90, .bool ((x13.1.Pool == a1.Pool)))]) 3 [2, 5, 90] hF (by kernel_rfl) fun a hF => ?_
 refine bif_split hv164 (fun hb hv164 => ?_) (fun hb hv164 => ?_)
 have hF := hF.boolv 90 (by kernel_rfl) hb
 refine wl_pure (L' := [(2, .pointer (some ⟨b5, 0, none⟩)), (90, .bool (true)), (91, .pointer (some ⟨b15, 1, none⟩))]) 1 [2, 90, 91] hF (by kernel_rfl) fun a hF => ?_
 refine wl_consg hF (by kernel_rfl) (wo_load hF hS (by kernel_rfl) 0 1 0 (v := .int .i64 (x13.1.Nodes)) rfl rfl rfl rfl rfl (by kernel_rfl) (by kernel_rfl) fun a hF => ?_)
 refine wl_pure (L' := [(90, .bool (true)), (92, .int .i64 (x13.1.Nodes)), (93, .pointer (some ⟨b5, 1, none⟩))]) 1 [90, 92, 93] hF (by kernel_rfl) fun a hF => ?_
 refine wl_consg hF (by kernel_rfl) (wo_load hF hS (by kernel_rfl) 2 1 0 (v := .int .i64 (a1.Nodes)) rfl rfl rfl rfl rfl (by kernel_rfl) (by kernel_rfl) fun a hF => ?_)
 refine wl_pure (L' := [(4, .bool ((x13.1.Nodes == a1.Nodes)))]) 3 [4] hF (by kernel_rfl) fun a hF => ?_
 refine wpListIn_nil ?_
 cases hv164
 exact ⟨_, hF.keep' [4] (by kernel_rfl), (hS.selp [] (by decide) (by kernel_rfl)).pick [] (by kernel_rfl), trivial⟩
 have hF := hF.boolv 90 (by kernel_rfl) hb
 refine wl_pure (L' := [(4, .bool (false))]) 7 [4] hF (by kernel_rfl) fun a hF => ?_
 refine wpListIn_nil ?_
 cases hv164
 exact ⟨_, hF.keep' [4] (by kernel_rfl), (hS.selp [] (by decide) (by kernel_rfl)).pick [] (by kernel_rfl), trivial⟩
 have hF := hF.boolv 83 (by kernel_rfl) hb
 refine wl_pure (L' := [(4, .bool (false))]) 14 [4] hF (by kernel_rfl) fun a hF => ?_
 refine wpListIn_nil ?_
 cases hv164
 exact ⟨_, hF.keep' [4] (by kernel_rfl), (hS.selp [] (by decide) (by kernel_rfl)).pick [] (by kernel_rfl), trivial⟩
 rintro a w ⟨κ, hF, hS, -⟩
 refine hK162 _ _ ?_
 refine wpIn_ret ?_
 cases H
 exact (ret_done hF hS (res1 Try.results12 (rv_tmp hF (by kernel_rfl))) ⟨rfl, (hS.pick [] (by kernel_rfl)).ro, hS.newC [] (by decide) (by kernel_rfl)⟩)
end Go.Cf
