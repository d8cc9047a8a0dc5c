/- The walks: each function returns what its model says. Printed by a program of ours. -/
import Derived.Test.YtjohablgnnbelaaM7r
import Derived.Test.YtjohablgnnbelaaW1
import Derived.Test.YtjohablgnnbelaaW3
import Derived.Test.YtjohablgnnbelaaW6
import Derived.Test.YtjohablgnnbelaaW6w
namespace Go.Cf
open Go Go.Proofs
set_option linter.unusedVariables false
set_option maxRecDepth 20000 in
set_option maxHeartbeats 1000000 in
theorem C_law18_ConfigRuns (N : Nat) {κ0 : Gh} {w0 : World} (hfr : Fresh κ0 w0) (a1 : Int) (a2 : Int) (a3 : Int) (a4 : (List T_api_Cmd)) (p5 : Option Addr) (c6 : Nat) (hR : ∀ m ∈ ([Ro.mp f_api_Cmd.ty p5 c6 a4] : List MP), m.p κ0 w0) {r : (Bool)} (H : M.law18_ConfigRuns N a1 a2 a3 a4 = some r) :
    Calls Try.prog 15 #[.int .i64 (a1), .int .i64 (a2), .int .i64 (a3), .slice p5 (a4).length c6] w0 (Post [] κ0 w0 fun v κ w => v = .bool (r) ∧ (∀ m ∈ ([] : List MP), m.p κ w) ∧ NewC w0 κ w []) := by
 have hS := SS.start hfr hR
 refine enter (N := (136)) (L := [(0, .int .i64 (a1)), (1, .int .i64 (a2)), (2, .int .i64 (a3)), (3, .slice p5 (a4).length c6)]) Try.func15 rfl Try.ntmps15 (show 4 ≤ (136) by decide) rfl fun a hF => ?_
 unfold M.law18_ConfigRuns at H
 refine wpIn_seq_k fun K7 hK7 => ?_
 refine wpIn_region_lit ?_
 refine wl_pure (L' := [(0, .int .i64 (a1)), (1, .int .i64 (a2)), (2, .int .i64 (a3)), (3, .slice p5 (a4).length c6)]) 1 [0, 1, 2, 3] hF (by kernel_rfl) fun a hF => ?_
 refine wpListIn_nil ?_
 refine hK7 _ _ ?_
 refine wpIn_seq_k fun K8 hK8 => ?_
 refine wpIn_region_lit ?_
 refine wl_pure (L' := [(0, .int .i64 (a1)), (2, .int .i64 (a3)), (3, .slice p5 (a4).length c6), (22, .int .i64 (a1)), (23, .int .i64 (a2)), (24, .int .i64 (a3))]) 3 [0, 2, 3, 22, 23, 24] hF (by kernel_rfl) fun a hF => ?_
 refine bind_split H (fun x9 hx9 H => ?_)
 refine wl_cons rfl (wo_callP (args := #[.int .i64 (a1), .int .i64 (a2), .int .i64 (a3)]) (f := 23) hF hS (by kernel_rfl) (by kernel_rfl) (C_config_Start N hS.fresh a1 a2 a3  ((hS.pick [] (by kernel_rfl)).ro) hx9) ?_)
 rintro _ κ w a ⟨cs10, rfl, hR, hN⟩ hF hS hO
 have hS := hS.adds hR
 refine wl_pure (L' := [(0, .int .i64 (a1)), (2, .int .i64 (a3)), (3, .slice p5 (a4).length c6), (26, .agg (flat [(1, [.int .i64 (x9.1.Pool)]), (1, [.int .i64 (x9.1.Nodes)]), (4, (encs fBool x9.1.Members)), (8, cs10), (21, (encs (fInt .i64) x9.1.Modes))]).toArray), (27, .int .i64 (x9.2))]) 3 [0, 2, 3, 26, 27] hF (by kernel_rfl) fun a hF => ?_
 have hS := hS.add (m := MP.const (List.length (List.replicate 4 false) = 4)) (List.length_replicate)
 have hS := hS.add (m := Arr.mp t_api_Map ((List.replicate 4 (flat [(1, [.slice none 0 0]), (1, [.slice none 0 0])])).flatten) 4 (List.replicate 4 (T_api_Map.mk ([] : List ByteArray) ([] : List Int)))) (Arr.zero _ _ _ _ _ z_api_Map)
 have hS := hS.add (m := MP.const (List.length (List.replicate 21 0) = 21)) (List.length_replicate)
 refine wl_cons rfl (wo_alloc hF hS (by kernel_rfl) (z := .agg (flat [(1, [.int .i64 (0)]), (1, [.int .i64 (0)]), (4, (encs fBool (List.replicate 4 false))), (8, (List.replicate 4 (flat [(1, [.slice none 0 0]), (1, [.slice none 0 0])])).flatten), (21, (encs (fInt .i64) (List.replicate 21 0)))]).toArray) (s := [(1, [.int .i64 (0)]), (1, [.int .i64 (0)]), (4, (encs fBool (List.replicate 4 false))), (8, (List.replicate 4 (flat [(1, [.slice none 0 0]), (1, [.slice none 0 0])])).flatten), (21, (encs (fInt .i64) (List.replicate 21 0)))]) rfl (by kernel_rfl) (sgV rfl (sgV rfl (sgEnc List.length_replicate (sgArr (hS.get 1 rfl) (sgEnc List.length_replicate sgNil))))).1 (by kernel_rfl) fun b11 a w hF hS => ?_)
 refine wl_cons rfl (wo_stores hF hS (by kernel_rfl) 0 0 5 (v := .agg (flat [(1, [.int .i64 (x9.1.Pool)]), (1, [.int .i64 (x9.1.Nodes)]), (4, (encs fBool x9.1.Members)), (8, cs10), (21, (encs (fInt .i64) x9.1.Modes))]).toArray) (s' := [(1, [.int .i64 (x9.1.Pool)]), (1, [.int .i64 (x9.1.Nodes)]), (4, (encs fBool x9.1.Members)), (8, cs10), (21, (encs (fInt .i64) x9.1.Modes))]) (t := [(1, [.int .i64 (x9.1.Pool)]), (1, [.int .i64 (x9.1.Nodes)]), (4, (encs fBool x9.1.Members)), (8, cs10), (21, (encs (fInt .i64) x9.1.Modes))]) (C' := [.box b11 30 [(1, [.int .i64 (x9.1.Pool)]), (1, [.int .i64 (x9.1.Nodes)]), (4, (encs fBool x9.1.Members)), (8, cs10), (21, (encs (fInt .i64) x9.1.Modes))]]) (n := 35) rfl rfl (by kernel_rfl) rfl (by kernel_rfl) (by kernel_rfl) (by kernel_rfl) (by kernel_rfl) (sgV rfl (sgV rfl (sgEnc (hS.get 3 rfl) (sgArr (hS.get 4 rfl) (sgEnc (hS.get 5 rfl) sgNil))))).1 (sgV rfl (sgV rfl (sgEnc (hS.get 3 rfl) (sgArr (hS.get 4 rfl) (sgEnc (hS.get 5 rfl) sgNil))))).2 (by kernel_rfl) (by kernel_rfl) (by kernel_rfl) fun a w hF hS => ?_)
 refine wl_pure (L' := [(0, .int .i64 (a1)), (2, .int .i64 (a3)), (3, .slice p5 (a4).length c6), (9, .pointer (some ⟨b11, 0, none⟩)), (10, .int .i64 (x9.2))]) 1 [0, 2, 3, 9, 10] hF (by kernel_rfl) fun a hF => ?_
 refine wpListIn_nil ?_
 refine hK8 _ _ ?_
 refine wpIn_seq_k fun K12 hK12 => ?_
 refine wpIn_seq_k fun K13 hK13 => ?_
 refine wpIn_region_lit ?_
 refine wl_pure (L' := [(0, .int .i64 (a1)), (2, .int .i64 (a3)), (3, .slice p5 (a4).length c6), (9, .pointer (some ⟨b11, 0, none⟩)), (10, .int .i64 (x9.2)), (29, .bool ((x9.2 != 0)))]) 2 [0, 2, 3, 9, 10, 29] hF (by kernel_rfl) fun a hF => ?_
 refine wpListIn_nil ?_
 refine hK13 _ _ ?_
 refine bif_split H (fun hb H => ?_) (fun hb H => ?_)
 refine cond_t hF (by kernel_rfl) hb ?_
 refine wpIn_seq_k fun K14 hK14 => ?_
 refine wpIn_region_lit ?_
 refine bind_split H (fun v16 hv16 H => ?_)
 refine wl_join (fun a w => ∃ κ : Gh, Fr (136) [] [(8, .bool (v16))] a ∧ SS [] κ0 w0 κ w [] [] ∧ True) ?_ ?_
 refine bind_split hv16 (fun x17 hx17 hv16 => ?_)
 refine wl_cons rfl (wo_callP (args := #[]) (f := 25) hF hS (by kernel_rfl) (by kernel_rfl) (C_law18_awake N hS.fresh   ((hS.pick [] (by kernel_rfl)).ro) hx17) ?_)
 rintro _ κ w a ⟨rfl, hR, hN⟩ hF hS hO
 refine wl_pure (L' := [(10, .int .i64 (x9.2)), (31, .bool (x17))]) 1 [10, 31] hF (by kernel_rfl) fun a hF => ?_
 refine bif_split hv16 (fun hb hv16 => ?_) (fun hb hv16 => ?_)
 have hF := hF.boolv 31 (by kernel_rfl) hb
 refine wl_pure (L' := [(8, .bool ((x9.2 == 1)))]) 4 [8] hF (by kernel_rfl) fun a hF => ?_
 refine wpListIn_nil ?_
 cases hv16
 exact ⟨_, hF.keep' [8] (by kernel_rfl), (hS.selp [] (by decide) (by kernel_rfl)).pick [] (by kernel_rfl), trivial⟩
 have hF := hF.boolv 31 (by kernel_rfl) hb
 refine wl_pure (L' := [(8, .bool (false))]) 4 [8] hF (by kernel_rfl) fun a hF => ?_
 refine wpListIn_nil ?_
 cases hv16
 exact ⟨_, hF.keep' [8] (by kernel_rfl), (hS.selp [] (by decide) (by kernel_rfl)).pick [] (by kernel_rfl), trivial⟩
 rintro a w ⟨κ, hF, hS, -⟩
 refine hK14 _ _ ?_
 refine wpIn_ret ?_
 cases H
 exact (ret_done hF hS (res1 Try.results15 (rv_tmp hF (by kernel_rfl))) ⟨rfl, (hS.pick [] (by kernel_rfl)).ro, hS.newC [] (by decide) (by kernel_rfl)⟩)
 refine cond_f hF (by kernel_rfl) hb ?_
 refine wpIn_skip ?_
 refine hK12 _ _ ?_
 refine wpIn_seq_k fun K18 hK18 => ?_
 refine wpIn_seq_k fun K19 hK19 => ?_
 refine wpIn_region_lit ?_
 refine wl_pure (L' := [(0, .int .i64 (a1)), (2, .int .i64 (a3)), (3, .slice p5 (a4).length c6), (9, .pointer (some ⟨b11, 0, none⟩)), (11, .int .i64 (0))]) 1 [0, 2, 3, 9, 11] hF (by kernel_rfl) fun a hF => ?_
 refine wpListIn_nil ?_
 refine hK19 _ _ ?_
 refine wpIn_block ?_
 refine loop_fuel (n := N) (fun n a w => ∃ κ : Gh, ∃ y70 : Int, ∃ y71 : Int, ∃ y72 : (List Bool), ∃ y73 : (List T_api_Map), ∃ cs74 : List Value, ∃ y75 : (List Int), ∃ y76 : Int, Fr (136) [] [(0, .int .i64 (a1)), (2, .int .i64 (a3)), (3, .slice p5 (a4).length c6), (9, .pointer (some ⟨b11, 0, none⟩)), (11, .int .i64 (y76))] a ∧ SS [] κ0 w0 κ w [.box b11 30 [(1, [.int .i64 (y70)]), (1, [.int .i64 (y71)]), (4, (encs fBool y72)), (8, cs74), (21, (encs (fInt .i64) y75))]] [Ro.mp f_api_Cmd.ty p5 c6 a4, MP.const (List.length y72 = 4), Arr.mp t_api_Map cs74 4 y73, MP.const (List.length y75 = 21)] ∧ M.law18_ConfigRuns_L1 N n a1 a3 a4 y70 y71 y72 y73 y75 y76 = some r) ?_ ?_
 exact ⟨_, x9.1.Pool, x9.1.Nodes, x9.1.Members, x9.1.Maps, cs10, x9.1.Modes, 0, hF.keep' [0, 2, 3, 9, 11] (by kernel_rfl), (hS.selp [0] (by decide) (by kernel_rfl)).pick [6, 3, 4, 5] (by kernel_rfl), H⟩
 rintro n a w ⟨κ, y70, y71, y72, y73, cs74, y75, y76, hF, hS, H⟩
 rcases n with _ | fuel1
 simp [M.law18_ConfigRuns_L1] at H
 simp only [M.law18_ConfigRuns_L1] at H
 refine wpIn_seq_k fun K77 hK77 => ?_
 refine wpIn_seq_k fun K78 hK78 => ?_
 refine wpIn_region_lit ?_
 refine bind_split H (fun v80 hv80 H => ?_)
 refine wl_join (fun a w => ∃ κ : Gh, Fr (136) [] [(0, .int .i64 (a1)), (2, .int .i64 (a3)), (3, .slice p5 (a4).length c6), (9, .pointer (some ⟨b11, 0, none⟩)), (11, .int .i64 (y76)), (42, .bool (v80))] a ∧ SS [] κ0 w0 κ w [.box b11 30 [(1, [.int .i64 (y70)]), (1, [.int .i64 (y71)]), (4, (encs fBool y72)), (8, cs74), (21, (encs (fInt .i64) y75))]] [Ro.mp f_api_Cmd.ty p5 c6 a4, MP.const (List.length y72 = 4), Arr.mp t_api_Map cs74 4 y73, MP.const (List.length y75 = 21)] ∧ True) ?_ ?_
 refine wl_pure (L' := [(0, .int .i64 (a1)), (2, .int .i64 (a3)), (3, .slice p5 (a4).length c6), (9, .pointer (some ⟨b11, 0, none⟩)), (11, .int .i64 (y76)), (39, .bool (decide (y76 < ((a4).length : Int))))]) 5 [0, 2, 3, 9, 11, 39] hF (by kernel_rfl) fun a hF => ?_
 refine bif_split hv80 (fun hb hv80 => ?_) (fun hb hv80 => ?_)
 have hF := hF.boolv 39 (by kernel_rfl) hb
 refine wl_pure (L' := [(0, .int .i64 (a1)), (2, .int .i64 (a3)), (3, .slice p5 (a4).length c6), (9, .pointer (some ⟨b11, 0, none⟩)), (11, .int .i64 (y76)), (42, .bool (decide (y76 < 80)))]) 3 [0, 2, 3, 9, 11, 42] hF (by kernel_rfl) fun a hF => ?_
 refine wpListIn_nil ?_
 cases hv80
 exact ⟨_, hF.keep' [0, 2, 3, 9, 11, 42] (by kernel_rfl), (hS.selp [0] (by decide) (by kernel_rfl)).pick [0, 1, 2, 3] (by kernel_rfl), trivial⟩
 have hF := hF.boolv 39 (by kernel_rfl) hb
 refine wl_pure (L' := [(0, .int .i64 (a1)), (2, .int .i64 (a3)), (3, .slice p5 (a4).length c6), (9, .pointer (some ⟨b11, 0, none⟩)), (11, .int .i64 (y76)), (42, .bool (false))]) 3 [0, 2, 3, 9, 11, 42] hF (by kernel_rfl) fun a hF => ?_
 refine wpListIn_nil ?_
 cases hv80
 exact ⟨_, hF.keep' [0, 2, 3, 9, 11, 42] (by kernel_rfl), (hS.selp [0] (by decide) (by kernel_rfl)).pick [0, 1, 2, 3] (by kernel_rfl), trivial⟩
 rintro a w ⟨κ, hF, hS, -⟩
 refine hK78 _ _ ?_
 refine bif_split H (fun hb H => ?_) (fun hb H => ?_)
 refine cond_t hF (by kernel_rfl) hb ?_
 refine wpIn_skip ?_
 refine hK77 _ _ ?_
 refine seq_join (fun a w => ∃ κ : Gh, ∃ y81 : Int, ∃ y82 : Int, ∃ y83 : (List Bool), ∃ y84 : (List T_api_Map), ∃ cs85 : List Value, ∃ y86 : (List Int), Fr (136) [] [(0, .int .i64 (a1)), (2, .int .i64 (a3)), (3, .slice p5 (a4).length c6), (9, .pointer (some ⟨b11, 0, none⟩)), (11, .int .i64 (y76))] a ∧ SS [] κ0 w0 κ w [.box b11 30 [(1, [.int .i64 (y81)]), (1, [.int .i64 (y82)]), (4, (encs fBool y83)), (8, cs85), (21, (encs (fInt .i64) y86))]] [Ro.mp f_api_Cmd.ty p5 c6 a4, MP.const (List.length y83 = 4), Arr.mp t_api_Map cs85 4 y84, MP.const (List.length y86 = 21)] ∧ M.law18_ConfigRuns_k2 N (M.law18_ConfigRuns_L1 N fuel1) a1 a3 a4 y76 y81 y82 y83 y84 y86 = some r) ?_ ?_
 refine wpIn_block ?_
 refine wpIn_seq_k fun K87 hK87 => ?_
 refine bind_split H (fun v96 hv96 H => ?_)
 refine code_join (fun a w => ∃ κ : Gh, ∃ b88 : Nat, ∃ cs93 : List Value, Fr (136) [] [(0, .int .i64 (a1)), (2, .int .i64 (a3)), (3, .slice p5 (a4).length c6), (9, .pointer (some ⟨b11, 0, none⟩)), (11, .int .i64 (y76)), (12, .pointer (some ⟨b88, 0, none⟩)), (13, .int .i64 (v96.2.2.2.2.2))] a ∧ SS [] κ0 w0 κ w [.box b11 30 [(1, [.int .i64 (y70)]), (1, [.int .i64 (y71)]), (4, (encs fBool y72)), (8, cs74), (21, (encs (fInt .i64) y75))], .box b88 30 [(1, [.int .i64 (v96.1)]), (1, [.int .i64 (v96.2.1)]), (4, (encs fBool v96.2.2.1)), (8, cs93), (21, (encs (fInt .i64) v96.2.2.2.2.1))]] [Ro.mp f_api_Cmd.ty p5 c6 a4, MP.const (List.length y72 = 4), Arr.mp t_api_Map cs74 4 y73, MP.const (List.length y75 = 21), MP.const (List.length v96.2.2.1 = 4), Arr.mp t_api_Map cs93 4 v96.2.2.2.1, MP.const (List.length v96.2.2.2.2.1 = 21)] ∧ True) ?_ ?_
 refine region_any (SSx [] κ0 w0 [.box b11 30 [(1, [.int .i64 (y70)]), (1, [.int .i64 (y71)]), (4, (encs fBool y72)), (8, cs74), (21, (encs (fInt .i64) y75))]] [Ro.mp f_api_Cmd.ty p5 c6 a4, MP.const (List.length y72 = 4), Arr.mp t_api_Map cs74 4 y73, MP.const (List.length y75 = 21)]) [10] (by kernel_rfl) (n := 12) (by kernel_rfl) (l := #[false, false, false, false, false, false, false, false, false, false, false, false]) (by kernel_rfl) ?_
 have hS := hS.drew
 refine bind_split hv96 (fun x97 hx97 hv96 => ?_)
 refine bind_split hv96 (fun x100 hx100 hv96 => ?_)
 refine any_pure [1, 2] [0, 2, 3, 9, 11, 47, 48] (L' := [(0, .int .i64 (a1)), (2, .int .i64 (a3)), (3, .slice p5 (a4).length c6), (9, .pointer (some ⟨b11, 0, none⟩)), (11, .int .i64 (y76)), (47, .slice p5 (a4).length c6), (48, .int .i64 (y76))]) (listed' := #[false, true, true, false, false, false, false, false, false, false, false, false]) (fuel := 10) hF ⟨_, (hS.selp [0] (by decide) (by kernel_rfl)).pick [0, 1, 2, 3] (by kernel_rfl)⟩ (by kernel_rfl) (by intro c a w t v h; cases t <;> exact h) (by kernel_rfl) rfl fun a hF => ?_
 refine any_take 0 (some 46) hF ⟨_, (hS.selp [0] (by decide) (by kernel_rfl)).pick [0, 1, 2, 3] (by kernel_rfl)⟩ rfl (by kernel_rfl) (by kernel_rfl) (by intro c a w v h; exact h) (by kernel_rfl) (by kernel_rfl) (by kernel_rfl) rfl (val_loads 0 0 5 (s' := [(1, [.int .i64 (y70)]), (1, [.int .i64 (y71)]), (4, (encs fBool y72)), (8, cs74), (21, (encs (fInt .i64) y75))]) (n := 35) rfl rfl rfl (by kernel_rfl) (by kernel_rfl) (by kernel_rfl) (by kernel_rfl) (by kernel_rfl)) fun a hF => ?_
 obtain ⟨b98, f99, hpx97⟩ := hS.ptr 0 rfl hx97
 refine any_take 3 (some 49) hF ⟨_, (hS.selp [0] (by decide) (by kernel_rfl)).pick [0, 1, 2, 3] (by kernel_rfl)⟩ rfl (by kernel_rfl) (by kernel_rfl) (by intro c a w v h; exact h) (by kernel_rfl) (by kernel_rfl) (by kernel_rfl) rfl (fun w _ => val_index (E := 72) (sz := 6) rfl hpx97 rfl (by kernel_rfl) rfl hx97 (by kernel_rfl) (by kernel_rfl) w) fun a hF => ?_
 refine any_take 4 (some 50) hF ⟨_, (hS.selp [0] (by decide) (by kernel_rfl)).pick [0, 1, 2, 3] (by kernel_rfl)⟩ rfl (by kernel_rfl) (by kernel_rfl) (by intro c a w v h; exact h) (by kernel_rfl) (by kernel_rfl) (by kernel_rfl) rfl (val_loadRoAgg (t := f_api_Cmd) 0 rfl rfl hpx97 rfl hx97 (by kernel_rfl) (by kernel_rfl) (by kernel_rfl)) fun a hF => ?_
 refine any_go2 5 9 (oi := ⟨(some 51), (Go.Op.call (Go.Call.mk (Go.Callee.value (Go.Operand.func 54)) #[(Go.Operand.tmp 46), (Go.Operand.tmp 50)] #[30, 72])), 32, "law.go:61", #[(Go.Edge.mk 0 Go.Ground.data), (Go.Edge.mk 4 Go.Ground.data)], none⟩) (oj := ⟨(some 12), (Go.Op.alloc 30), 0, "law.go:61", #[], none⟩) hF rfl rfl (by kernel_rfl) (by kernel_rfl) (by kernel_rfl) (li := #[true, true, true, true, true, true, false, false, false, false, false, false]) (lj := #[true, true, true, true, true, false, false, false, false, true, false, false]) (by kernel_rfl) (by kernel_rfl) ?_ ?_
 refine wo_callP (args := #[.agg (flat [(1, [.int .i64 (y70)]), (1, [.int .i64 (y71)]), (4, (encs fBool y72)), (8, cs74), (21, (encs (fInt .i64) y75))]).toArray, .agg (flat [(1, [.int .i64 (x97.Kind)]), (1, [.int .i64 (x97.DC)]), (1, [.int .i64 (x97.Shard)]), (1, [.int .i64 (x97.Node)]), (1, [.int .i64 (x97.Mode)]), (1, [.string (x97.Key)])]).toArray]) (f := 54) hF hS (by kernel_rfl) (by kernel_rfl) (C_config_Apply N hS.fresh (T_config_State.mk y70 y71 y72 y73 y75) (T_api_Cmd.mk x97.Kind x97.DC x97.Shard x97.Node x97.Mode x97.Key) cs74 ((hS.pick [1, 2, 3] (by kernel_rfl)).ro) hx100) ?_
 rintro _ κ w a ⟨cs101, rfl, hR, hN⟩ hF hS hO
 have hS := hS.adds hR
 refine ⟨fun _ => ⟨_, (hS.selp [0] (by decide) (by kernel_rfl)).pick [3, 4, 5, 6] (by kernel_rfl)⟩, ?_⟩
 refine any_pure [6, 7] [0, 2, 3, 9, 11, 45, 52] (L' := [(0, .int .i64 (a1)), (2, .int .i64 (a3)), (3, .slice p5 (a4).length c6), (9, .pointer (some ⟨b11, 0, none⟩)), (11, .int .i64 (y76)), (45, .tuple #[.agg (flat [(1, [.int .i64 (x100.1.Pool)]), (1, [.int .i64 (x100.1.Nodes)]), (4, (encs fBool x100.1.Members)), (8, cs101), (21, (encs (fInt .i64) x100.1.Modes))]).toArray, .int .i64 (x100.2)]), (52, .agg (flat [(1, [.int .i64 (x100.1.Pool)]), (1, [.int .i64 (x100.1.Nodes)]), (4, (encs fBool x100.1.Members)), (8, cs101), (21, (encs (fInt .i64) x100.1.Modes))]).toArray)]) (listed' := #[true, true, true, true, true, true, true, true, false, false, false, false]) (fuel := 4) hF ⟨_, (hS.selp [0] (by decide) (by kernel_rfl)).pick [3, 4, 5, 6] (by kernel_rfl)⟩ (by kernel_rfl) (by intro c a w t v h; cases t <;> exact h) (by kernel_rfl) rfl fun a hF => ?_
 refine any_go2 8 9 (oi := ⟨(some 53), (Go.Op.extract (Go.Operand.tmp 45) 1), 31, "law.go:61", #[(Go.Edge.mk 6 Go.Ground.data), (Go.Edge.mk 10 (Go.Ground.gcOnly Go.Departure.lateStores))], none⟩) (oj := ⟨(some 12), (Go.Op.alloc 30), 0, "law.go:61", #[], none⟩) hF rfl rfl (by kernel_rfl) (by kernel_rfl) (by kernel_rfl) (li := #[true, true, true, true, true, true, true, true, true, false, false, false]) (lj := #[true, true, true, true, true, true, true, true, false, true, false, false]) (by kernel_rfl) (by kernel_rfl) ?_ ?_
 refine wo_pure (v := .int .i64 (x100.2)) hF (by kernel_rfl) (by kernel_rfl) fun a hF => ?_
 refine ⟨fun _ => ⟨_, (hS.selp [0] (by decide) (by kernel_rfl)).pick [3, 4, 5, 6] (by kernel_rfl)⟩, ?_⟩
 refine any_go 9 (o := ⟨(some 12), (Go.Op.alloc 30), 0, "law.go:61", #[], none⟩) hF rfl (by kernel_rfl) (by kernel_rfl) (listed' := #[true, true, true, true, true, true, true, true, true, true, false, false]) (by kernel_rfl) ?_
 have hS := hS.add (m := MP.const (List.length (List.replicate 4 false) = 4)) (List.length_replicate)
 have hS := hS.add (m := Arr.mp t_api_Map ((List.replicate 4 (flat [(1, [.slice none 0 0]), (1, [.slice none 0 0])])).flatten) 4 (List.replicate 4 (T_api_Map.mk ([] : List ByteArray) ([] : List Int)))) (Arr.zero _ _ _ _ _ z_api_Map)
 have hS := hS.add (m := MP.const (List.length (List.replicate 21 0) = 21)) (List.length_replicate)
 refine wo_alloc hF hS (by kernel_rfl) (z := .agg (flat [(1, [.int .i64 (0)]), (1, [.int .i64 (0)]), (4, (encs fBool (List.replicate 4 false))), (8, (List.replicate 4 (flat [(1, [.slice none 0 0]), (1, [.slice none 0 0])])).flatten), (21, (encs (fInt .i64) (List.replicate 21 0)))]).toArray) (s := [(1, [.int .i64 (0)]), (1, [.int .i64 (0)]), (4, (encs fBool (List.replicate 4 false))), (8, (List.replicate 4 (flat [(1, [.slice none 0 0]), (1, [.slice none 0 0])])).flatten), (21, (encs (fInt .i64) (List.replicate 21 0)))]) rfl (by kernel_rfl) (sgV rfl (sgV rfl (sgEnc List.length_replicate (sgArr (hS.get 1 rfl) (sgEnc List.length_replicate sgNil))))).1 (by kernel_rfl) fun b102 a w hF hS => ?_
 refine ⟨fun _ => ⟨_, (hS.selp [1] (by decide) (by kernel_rfl)).pick [6, 7, 8, 9] (by kernel_rfl)⟩, ?_⟩
 refine any_go 10 (o := ⟨none, (Go.Op.store 30 (Go.Operand.tmp 12) (Go.Operand.tmp 52)), 0, "law.go:61", #[(Go.Edge.mk 9 Go.Ground.data), (Go.Edge.mk 7 Go.Ground.data), (Go.Edge.mk 5 Go.Ground.chain), (Go.Edge.mk 0 Go.Ground.phase), (Go.Edge.mk 1 Go.Ground.phase), (Go.Edge.mk 2 Go.Ground.phase), (Go.Edge.mk 3 Go.Ground.phase), (Go.Edge.mk 4 Go.Ground.phase), (Go.Edge.mk 5 Go.Ground.phase), (Go.Edge.mk 6 Go.Ground.phase), (Go.Edge.mk 7 Go.Ground.phase), (Go.Edge.mk 8 (Go.Ground.textOnly Go.Departure.lateStores)), (Go.Edge.mk 9 Go.Ground.phase)], none⟩) hF rfl (by kernel_rfl) (by kernel_rfl) (listed' := #[true, true, true, true, true, true, true, true, true, true, true, false]) (by kernel_rfl) ?_
 refine wo_stores hF hS (by kernel_rfl) 0 0 5 (v := .agg (flat [(1, [.int .i64 (x100.1.Pool)]), (1, [.int .i64 (x100.1.Nodes)]), (4, (encs fBool x100.1.Members)), (8, cs101), (21, (encs (fInt .i64) x100.1.Modes))]).toArray) (s' := [(1, [.int .i64 (x100.1.Pool)]), (1, [.int .i64 (x100.1.Nodes)]), (4, (encs fBool x100.1.Members)), (8, cs101), (21, (encs (fInt .i64) x100.1.Modes))]) (t := [(1, [.int .i64 (x100.1.Pool)]), (1, [.int .i64 (x100.1.Nodes)]), (4, (encs fBool x100.1.Members)), (8, cs101), (21, (encs (fInt .i64) x100.1.Modes))]) (C' := [.box b102 30 [(1, [.int .i64 (x100.1.Pool)]), (1, [.int .i64 (x100.1.Nodes)]), (4, (encs fBool x100.1.Members)), (8, cs101), (21, (encs (fInt .i64) x100.1.Modes))], .box b11 30 [(1, [.int .i64 (y70)]), (1, [.int .i64 (y71)]), (4, (encs fBool y72)), (8, cs74), (21, (encs (fInt .i64) y75))]]) (n := 35) rfl rfl (by kernel_rfl) rfl (by kernel_rfl) (by kernel_rfl) (by kernel_rfl) (by kernel_rfl) (sgV rfl (sgV rfl (sgEnc (hS.get 3 rfl) (sgArr (hS.get 4 rfl) (sgEnc (hS.get 5 rfl) sgNil))))).1 (sgV rfl (sgV rfl (sgEnc (hS.get 3 rfl) (sgArr (hS.get 4 rfl) (sgEnc (hS.get 5 rfl) sgNil))))).2 (by kernel_rfl) (by kernel_rfl) (by kernel_rfl) fun a w hF hS => ?_
 refine ⟨fun h => absurd (show false = true from h) Bool.false_ne_true, ?_⟩
 refine any_go 11 (o := ⟨(some 13), (Go.Op.assign (Go.Operand.tmp 53)), 31, "law.go:61", #[(Go.Edge.mk 8 Go.Ground.data), (Go.Edge.mk 10 Go.Ground.chain), (Go.Edge.mk 0 Go.Ground.phase), (Go.Edge.mk 1 Go.Ground.phase), (Go.Edge.mk 2 Go.Ground.phase), (Go.Edge.mk 3 Go.Ground.phase), (Go.Edge.mk 4 Go.Ground.phase), (Go.Edge.mk 5 Go.Ground.phase), (Go.Edge.mk 6 Go.Ground.phase), (Go.Edge.mk 7 Go.Ground.phase), (Go.Edge.mk 8 Go.Ground.phase), (Go.Edge.mk 9 Go.Ground.phase), (Go.Edge.mk 10 Go.Ground.phase)], none⟩) hF rfl (by kernel_rfl) (by kernel_rfl) (listed' := #[true, true, true, true, true, true, true, true, true, true, true, true]) (by kernel_rfl) ?_
 refine wo_pure (v := .int .i64 (x100.2)) hF (by kernel_rfl) (by kernel_rfl) fun a hF => ?_
 refine ⟨fun h => absurd (show false = true from h) Bool.false_ne_true, ?_⟩
 refine any_done (by kernel_rfl) ?_ _
 cases hv96
 exact ⟨_, b102, cs101, hF.keep' [0, 2, 3, 9, 11, 12, 13] (by kernel_rfl), (hS.selp [1, 0] (by decide) (by kernel_rfl)).pick [6, 7, 8, 9, 3, 4, 5] (by kernel_rfl), trivial⟩
 have hS := hS.add (m := MP.const (List.length (List.replicate 4 false) = 4)) (List.length_replicate)
 have hS := hS.add (m := Arr.mp t_api_Map ((List.replicate 4 (flat [(1, [.slice none 0 0]), (1, [.slice none 0 0])])).flatten) 4 (List.replicate 4 (T_api_Map.mk ([] : List ByteArray) ([] : List Int)))) (Arr.zero _ _ _ _ _ z_api_Map)
 have hS := hS.add (m := MP.const (List.length (List.replicate 21 0) = 21)) (List.length_replicate)
 refine wo_alloc hF hS (by kernel_rfl) (z := .agg (flat [(1, [.int .i64 (0)]), (1, [.int .i64 (0)]), (4, (encs fBool (List.replicate 4 false))), (8, (List.replicate 4 (flat [(1, [.slice none 0 0]), (1, [.slice none 0 0])])).flatten), (21, (encs (fInt .i64) (List.replicate 21 0)))]).toArray) (s := [(1, [.int .i64 (0)]), (1, [.int .i64 (0)]), (4, (encs fBool (List.replicate 4 false))), (8, (List.replicate 4 (flat [(1, [.slice none 0 0]), (1, [.slice none 0 0])])).flatten), (21, (encs (fInt .i64) (List.replicate 21 0)))]) rfl (by kernel_rfl) (sgV rfl (sgV rfl (sgEnc List.length_replicate (sgArr (hS.get 1 rfl) (sgEnc List.length_replicate sgNil))))).1 (by kernel_rfl) fun b102 a w hF hS => ?_
 refine ⟨fun _ => ⟨_, (hS.selp [1] (by decide) (by kernel_rfl)).pick [6, 7, 8, 9] (by kernel_rfl)⟩, ?_⟩
 refine any_go2 8 10 (oi := ⟨(some 53), (Go.Op.extract (Go.Operand.tmp 45) 1), 31, "law.go:61", #[(Go.Edge.mk 6 Go.Ground.data), (Go.Edge.mk 10 (Go.Ground.gcOnly Go.Departure.lateStores))], none⟩) (oj := ⟨none, (Go.Op.store 30 (Go.Operand.tmp 12) (Go.Operand.tmp 52)), 0, "law.go:61", #[(Go.Edge.mk 9 Go.Ground.data), (Go.Edge.mk 7 Go.Ground.data), (Go.Edge.mk 5 Go.Ground.chain), (Go.Edge.mk 0 Go.Ground.phase), (Go.Edge.mk 1 Go.Ground.phase), (Go.Edge.mk 2 Go.Ground.phase), (Go.Edge.mk 3 Go.Ground.phase), (Go.Edge.mk 4 Go.Ground.phase), (Go.Edge.mk 5 Go.Ground.phase), (Go.Edge.mk 6 Go.Ground.phase), (Go.Edge.mk 7 Go.Ground.phase), (Go.Edge.mk 8 (Go.Ground.textOnly Go.Departure.lateStores)), (Go.Edge.mk 9 Go.Ground.phase)], none⟩) hF rfl rfl (by kernel_rfl) (by kernel_rfl) (by kernel_rfl) (li := #[true, true, true, true, true, true, true, true, true, true, false, false]) (lj := #[true, true, true, true, true, true, true, true, false, true, true, false]) (by kernel_rfl) (by kernel_rfl) ?_ ?_
 refine wo_pure (v := .int .i64 (x100.2)) hF (by kernel_rfl) (by kernel_rfl) fun a hF => ?_
 refine ⟨fun _ => ⟨_, (hS.selp [1] (by decide) (by kernel_rfl)).pick [6, 7, 8, 9] (by kernel_rfl)⟩, ?_⟩
 refine any_go 10 (o := ⟨none, (Go.Op.store 30 (Go.Operand.tmp 12) (Go.Operand.tmp 52)), 0, "law.go:61", #[(Go.Edge.mk 9 Go.Ground.data), (Go.Edge.mk 7 Go.Ground.data), (Go.Edge.mk 5 Go.Ground.chain), (Go.Edge.mk 0 Go.Ground.phase), (Go.Edge.mk 1 Go.Ground.phase), (Go.Edge.mk 2 Go.Ground.phase), (Go.Edge.mk 3 Go.Ground.phase), (Go.Edge.mk 4 Go.Ground.phase), (Go.Edge.mk 5 Go.Ground.phase), (Go.Edge.mk 6 Go.Ground.phase), (Go.Edge.mk 7 Go.Ground.phase), (Go.Edge.mk 8 (Go.Ground.textOnly Go.Departure.lateStores)), (Go.Edge.mk 9 Go.Ground.phase)], none⟩) hF rfl (by kernel_rfl) (by kernel_rfl) (listed' := #[true, true, true, true, true, true, true, true, true, true, true, false]) (by kernel_rfl) ?_
 refine wo_stores hF hS (by kernel_rfl) 0 0 5 (v := .agg (flat [(1, [.int .i64 (x100.1.Pool)]), (1, [.int .i64 (x100.1.Nodes)]), (4, (encs fBool x100.1.Members)), (8, cs101), (21, (encs (fInt .i64) x100.1.Modes))]).toArray) (s' := [(1, [.int .i64 (x100.1.Pool)]), (1, [.int .i64 (x100.1.Nodes)]), (4, (encs fBool x100.1.Members)), (8, cs101), (21, (encs (fInt .i64) x100.1.Modes))]) (t := [(1, [.int .i64 (x100.1.Pool)]), (1, [.int .i64 (x100.1.Nodes)]), (4, (encs fBool x100.1.Members)), (8, cs101), (21, (encs (fInt .i64) x100.1.Modes))]) (C' := [.box b102 30 [(1, [.int .i64 (x100.1.Pool)]), (1, [.int .i64 (x100.1.Nodes)]), (4, (encs fBool x100.1.Members)), (8, cs101), (21, (encs (fInt .i64) x100.1.Modes))], .box b11 30 [(1, [.int .i64 (y70)]), (1, [.int .i64 (y71)]), (4, (encs fBool y72)), (8, cs74), (21, (encs (fInt .i64) y75))]]) (n := 35) rfl rfl (by kernel_rfl) rfl (by kernel_rfl) (by kernel_rfl) (by kernel_rfl) (by kernel_rfl) (sgV rfl (sgV rfl (sgEnc (hS.get 3 rfl) (sgArr (hS.get 4 rfl) (sgEnc (hS.get 5 rfl) sgNil))))).1 (sgV rfl (sgV rfl (sgEnc (hS.get 3 rfl) (sgArr (hS.get 4 rfl) (sgEnc (hS.get 5 rfl) sgNil))))).2 (by kernel_rfl) (by kernel_rfl) (by kernel_rfl) fun a w hF hS => ?_
 refine ⟨fun h => absurd (show false = true from h) Bool.false_ne_true, ?_⟩
 refine any_go 11 (o := ⟨(some 13), (Go.Op.assign (Go.Operand.tmp 53)), 31, "law.go:61", #[(Go.Edge.mk 8 Go.Ground.data), (Go.Edge.mk 10 Go.Ground.chain), (Go.Edge.mk 0 Go.Ground.phase), (Go.Edge.mk 1 Go.Ground.phase), (Go.Edge.mk 2 Go.Ground.phase), (Go.Edge.mk 3 Go.Ground.phase), (Go.Edge.mk 4 Go.Ground.phase), (Go.Edge.mk 5 Go.Ground.phase), (Go.Edge.mk 6 Go.Ground.phase), (Go.Edge.mk 7 Go.Ground.phase), (Go.Edge.mk 8 Go.Ground.phase), (Go.Edge.mk 9 Go.Ground.phase), (Go.Edge.mk 10 Go.Ground.phase)], none⟩) hF rfl (by kernel_rfl) (by kernel_rfl) (listed' := #[true, true, true, true, true, true, true, true, true, true, true, true]) (by kernel_rfl) ?_
 refine wo_pure (v := .int .i64 (x100.2)) hF (by kernel_rfl) (by kernel_rfl) fun a hF => ?_
 refine ⟨fun h => absurd (show false = true from h) Bool.false_ne_true, ?_⟩
 refine any_done (by kernel_rfl) ?_ _
 cases hv96
 exact ⟨_, b102, cs101, hF.keep' [0, 2, 3, 9, 11, 12, 13] (by kernel_rfl), (hS.selp [1, 0] (by decide) (by kernel_rfl)).pick [6, 7, 8, 9, 3, 4, 5] (by kernel_rfl), trivial⟩
 refine wo_stores hF hS (by kernel_rfl) 0 0 5 (v := .agg (flat [(1, [.int .i64 (x100.1.Pool)]), (1, [.int .i64 (x100.1.Nodes)]), (4, (encs fBool x100.1.Members)), (8, cs101), (21, (encs (fInt .i64) x100.1.Modes))]).toArray) (s' := [(1, [.int .i64 (x100.1.Pool)]), (1, [.int .i64 (x100.1.Nodes)]), (4, (encs fBool x100.1.Members)), (8, cs101), (21, (encs (fInt .i64) x100.1.Modes))]) (t := [(1, [.int .i64 (x100.1.Pool)]), (1, [.int .i64 (x100.1.Nodes)]), (4, (encs fBool x100.1.Members)), (8, cs101), (21, (encs (fInt .i64) x100.1.Modes))]) (C' := [.box b102 30 [(1, [.int .i64 (x100.1.Pool)]), (1, [.int .i64 (x100.1.Nodes)]), (4, (encs fBool x100.1.Members)), (8, cs101), (21, (encs (fInt .i64) x100.1.Modes))], .box b11 30 [(1, [.int .i64 (y70)]), (1, [.int .i64 (y71)]), (4, (encs fBool y72)), (8, cs74), (21, (encs (fInt .i64) y75))]]) (n := 35) rfl rfl (by kernel_rfl) rfl (by kernel_rfl) (by kernel_rfl) (by kernel_rfl) (by kernel_rfl) (sgV rfl (sgV rfl (sgEnc (hS.get 3 rfl) (sgArr (hS.get 4 rfl) (sgEnc (hS.get 5 rfl) sgNil))))).1 (sgV rfl (sgV rfl (sgEnc (hS.get 3 rfl) (sgArr (hS.get 4 rfl) (sgEnc (hS.get 5 rfl) sgNil))))).2 (by kernel_rfl) (by kernel_rfl) (by kernel_rfl) fun a w hF hS => ?_
 refine ⟨fun h => absurd (show false = true from h) Bool.false_ne_true, ?_⟩
 refine any_go 8 (o := ⟨(some 53), (Go.Op.extract (Go.Operand.tmp 45) 1), 31, "law.go:61", #[(Go.Edge.mk 6 Go.Ground.data), (Go.Edge.mk 10 (Go.Ground.gcOnly Go.Departure.lateStores))], none⟩) hF rfl (by kernel_rfl) (by kernel_rfl) (listed' := #[true, true, true, true, true, true, true, true, true, true, true, false]) (by kernel_rfl) ?_
 refine wo_pure (v := .int .i64 (x100.2)) hF (by kernel_rfl) (by kernel_rfl) fun a hF => ?_
 refine ⟨fun h => absurd (show false = true from h) Bool.false_ne_true, ?_⟩
 refine any_go 11 (o := ⟨(some 13), (Go.Op.assign (Go.Operand.tmp 53)), 31, "law.go:61", #[(Go.Edge.mk 8 Go.Ground.data), (Go.Edge.mk 10 Go.Ground.chain), (Go.Edge.mk 0 Go.Ground.phase), (Go.Edge.mk 1 Go.Ground.phase), (Go.Edge.mk 2 Go.Ground.phase), (Go.Edge.mk 3 Go.Ground.phase), (Go.Edge.mk 4 Go.Ground.phase), (Go.Edge.mk 5 Go.Ground.phase), (Go.Edge.mk 6 Go.Ground.phase), (Go.Edge.mk 7 Go.Ground.phase), (Go.Edge.mk 8 Go.Ground.phase), (Go.Edge.mk 9 Go.Ground.phase), (Go.Edge.mk 10 Go.Ground.phase)], none⟩) hF rfl (by kernel_rfl) (by kernel_rfl) (listed' := #[true, true, true, true, true, true, true, true, true, true, true, true]) (by kernel_rfl) ?_
 refine wo_pure (v := .int .i64 (x100.2)) hF (by kernel_rfl) (by kernel_rfl) fun a hF => ?_
 refine ⟨fun h => absurd (show false = true from h) Bool.false_ne_true, ?_⟩
 refine any_done (by kernel_rfl) ?_ _
 cases hv96
 exact ⟨_, b102, cs101, hF.keep' [0, 2, 3, 9, 11, 12, 13] (by kernel_rfl), (hS.selp [1, 0] (by decide) (by kernel_rfl)).pick [6, 7, 8, 9, 3, 4, 5] (by kernel_rfl), trivial⟩
 have hS := hS.add (m := MP.const (List.length (List.replicate 4 false) = 4)) (List.length_replicate)
 have hS := hS.add (m := Arr.mp t_api_Map ((List.replicate 4 (flat [(1, [.slice none 0 0]), (1, [.slice none 0 0])])).flatten) 4 (List.replicate 4 (T_api_Map.mk ([] : List ByteArray) ([] : List Int)))) (Arr.zero _ _ _ _ _ z_api_Map)
 have hS := hS.add (m := MP.const (List.length (List.replicate 21 0) = 21)) (List.length_replicate)
 refine wo_alloc hF hS (by kernel_rfl) (z := .agg (flat [(1, [.int .i64 (0)]), (1, [.int .i64 (0)]), (4, (encs fBool (List.replicate 4 false))), (8, (List.replicate 4 (flat [(1, [.slice none 0 0]), (1, [.slice none 0 0])])).flatten), (21, (encs (fInt .i64) (List.replicate 21 0)))]).toArray) (s := [(1, [.int .i64 (0)]), (1, [.int .i64 (0)]), (4, (encs fBool (List.replicate 4 false))), (8, (List.replicate 4 (flat [(1, [.slice none 0 0]), (1, [.slice none 0 0])])).flatten), (21, (encs (fInt .i64) (List.replicate 21 0)))]) rfl (by kernel_rfl) (sgV rfl (sgV rfl (sgEnc List.length_replicate (sgArr (hS.get 1 rfl) (sgEnc List.length_replicate sgNil))))).1 (by kernel_rfl) fun b102 a w hF hS => ?_
 refine ⟨fun _ => ⟨_, (hS.selp [1] (by decide) (by kernel_rfl)).pick [3, 4, 5, 6] (by kernel_rfl)⟩, ?_⟩
 refine any_go 5 (o := ⟨(some 51), (Go.Op.call (Go.Call.mk (Go.Callee.value (Go.Operand.func 54)) #[(Go.Operand.tmp 46), (Go.Operand.tmp 50)] #[30, 72])), 32, "law.go:61", #[(Go.Edge.mk 0 Go.Ground.data), (Go.Edge.mk 4 Go.Ground.data)], none⟩) hF rfl (by kernel_rfl) (by kernel_rfl) (listed' := #[true, true, true, true, true, true, false, false, false, true, false, false]) (by kernel_rfl) ?_
 refine wo_callP (args := #[.agg (flat [(1, [.int .i64 (y70)]), (1, [.int .i64 (y71)]), (4, (encs fBool y72)), (8, cs74), (21, (encs (fInt .i64) y75))]).toArray, .agg (flat [(1, [.int .i64 (x97.Kind)]), (1, [.int .i64 (x97.DC)]), (1, [.int .i64 (x97.Shard)]), (1, [.int .i64 (x97.Node)]), (1, [.int .i64 (x97.Mode)]), (1, [.string (x97.Key)])]).toArray]) (f := 54) hF hS (by kernel_rfl) (by kernel_rfl) (C_config_Apply N hS.fresh (T_config_State.mk y70 y71 y72 y73 y75) (T_api_Cmd.mk x97.Kind x97.DC x97.Shard x97.Node x97.Mode x97.Key) cs74 ((hS.pick [4, 5, 6] (by kernel_rfl)).ro) hx100) ?_
 rintro _ κ w a ⟨cs101, rfl, hR, hN⟩ hF hS hO
 have hS := hS.adds hR
 refine ⟨fun _ => ⟨_, (hS.selp [1] (by decide) (by kernel_rfl)).pick [6, 7, 8, 9] (by kernel_rfl)⟩, ?_⟩
 refine any_pure [6, 7] [0, 2, 3, 9, 11, 12, 45, 52] (L' := [(0, .int .i64 (a1)), (2, .int .i64 (a3)), (3, .slice p5 (a4).length c6), (9, .pointer (some ⟨b11, 0, none⟩)), (11, .int .i64 (y76)), (12, .pointer (some ⟨b102, 0, none⟩)), (45, .tuple #[.agg (flat [(1, [.int .i64 (x100.1.Pool)]), (1, [.int .i64 (x100.1.Nodes)]), (4, (encs fBool x100.1.Members)), (8, cs101), (21, (encs (fInt .i64) x100.1.Modes))]).toArray, .int .i64 (x100.2)]), (52, .agg (flat [(1, [.int .i64 (x100.1.Pool)]), (1, [.int .i64 (x100.1.Nodes)]), (4, (encs fBool x100.1.Members)), (8, cs101), (21, (encs (fInt .i64) x100.1.Modes))]).toArray)]) (listed' := #[true, true, true, true, true, true, true, true, false, true, false, false]) (fuel := 3) hF ⟨_, (hS.selp [1] (by decide) (by kernel_rfl)).pick [6, 7, 8, 9] (by kernel_rfl)⟩ (by kernel_rfl) (by intro c a w t v h; cases t <;> exact h) (by kernel_rfl) rfl fun a hF => ?_
 refine any_go2 8 10 (oi := ⟨(some 53), (Go.Op.extract (Go.Operand.tmp 45) 1), 31, "law.go:61", #[(Go.Edge.mk 6 Go.Ground.data), (Go.Edge.mk 10 (Go.Ground.gcOnly Go.Departure.lateStores))], none⟩) (oj := ⟨none, (Go.Op.store 30 (Go.Operand.tmp 12) (Go.Operand.tmp 52)), 0, "law.go:61", #[(Go.Edge.mk 9 Go.Ground.data), (Go.Edge.mk 7 Go.Ground.data), (Go.Edge.mk 5 Go.Ground.chain), (Go.Edge.mk 0 Go.Ground.phase), (Go.Edge.mk 1 Go.Ground.phase), (Go.Edge.mk 2 Go.Ground.phase), (Go.Edge.mk 3 Go.Ground.phase), (Go.Edge.mk 4 Go.Ground.phase), (Go.Edge.mk 5 Go.Ground.phase), (Go.Edge.mk 6 Go.Ground.phase), (Go.Edge.mk 7 Go.Ground.phase), (Go.Edge.mk 8 (Go.Ground.textOnly Go.Departure.lateStores)), (Go.Edge.mk 9 Go.Ground.phase)], none⟩) hF rfl rfl (by kernel_rfl) (by kernel_rfl) (by kernel_rfl) (li := #[true, true, true, true, true, true, true, true, true, true, false, false]) (lj := #[true, true, true, true, true, true, true, true, false, true, true, false]) (by kernel_rfl) (by kernel_rfl) ?_ ?_
 refine wo_pure (v := .int .i64 (x100.2)) hF (by kernel_rfl) (by kernel_rfl) fun a hF => ?_
 refine ⟨fun _ => ⟨_, (hS.selp [1] (by decide) (by kernel_rfl)).pick [6, 7, 8, 9] (by kernel_rfl)⟩, ?_⟩
 refine any_go 10 (o := ⟨none, (Go.Op.store 30 (Go.Operand.tmp 12) (Go.Operand.tmp 52)), 0, "law.go:61", #[(Go.Edge.mk 9 Go.Ground.data), (Go.Edge.mk 7 Go.Ground.data), (Go.Edge.mk 5 Go.Ground.chain), (Go.Edge.mk 0 Go.Ground.phase), (Go.Edge.mk 1 Go.Ground.phase), (Go.Edge.mk 2 Go.Ground.phase), (Go.Edge.mk 3 Go.Ground.phase), (Go.Edge.mk 4 Go.Ground.phase), (Go.Edge.mk 5 Go.Ground.phase), (Go.Edge.mk 6 Go.Ground.phase), (Go.Edge.mk 7 Go.Ground.phase), (Go.Edge.mk 8 (Go.Ground.textOnly Go.Departure.lateStores)), (Go.Edge.mk 9 Go.Ground.phase)], none⟩) hF rfl (by kernel_rfl) (by kernel_rfl) (listed' := #[true, true, true, true, true, true, true, true, true, true, true, false]) (by kernel_rfl) ?_
 refine wo_stores hF hS (by kernel_rfl) 0 0 5 (v := .agg (flat [(1, [.int .i64 (x100.1.Pool)]), (1, [.int .i64 (x100.1.Nodes)]), (4, (encs fBool x100.1.Members)), (8, cs101), (21, (encs (fInt .i64) x100.1.Modes))]).toArray) (s' := [(1, [.int .i64 (x100.1.Pool)]), (1, [.int .i64 (x100.1.Nodes)]), (4, (encs fBool x100.1.Members)), (8, cs101), (21, (encs (fInt .i64) x100.1.Modes))]) (t := [(1, [.int .i64 (x100.1.Pool)]), (1, [.int .i64 (x100.1.Nodes)]), (4, (encs fBool x100.1.Members)), (8, cs101), (21, (encs (fInt .i64) x100.1.Modes))]) (C' := [.box b102 30 [(1, [.int .i64 (x100.1.Pool)]), (1, [.int .i64 (x100.1.Nodes)]), (4, (encs fBool x100.1.Members)), (8, cs101), (21, (encs (fInt .i64) x100.1.Modes))], .box b11 30 [(1, [.int .i64 (y70)]), (1, [.int .i64 (y71)]), (4, (encs fBool y72)), (8, cs74), (21, (encs (fInt .i64) y75))]]) (n := 35) rfl rfl (by kernel_rfl) rfl (by kernel_rfl) (by kernel_rfl) (by kernel_rfl) (by kernel_rfl) (sgV rfl (sgV rfl (sgEnc (hS.get 0 rfl) (sgArr (hS.get 1 rfl) (sgEnc (hS.get 2 rfl) sgNil))))).1 (sgV rfl (sgV rfl (sgEnc (hS.get 0 rfl) (sgArr (hS.get 1 rfl) (sgEnc (hS.get 2 rfl) sgNil))))).2 (by kernel_rfl) (by kernel_rfl) (by kernel_rfl) fun a w hF hS => ?_
 refine ⟨fun h => absurd (show false = true from h) Bool.false_ne_true, ?_⟩
 refine any_go 11 (o := ⟨(some 13), (Go.Op.assign (Go.Operand.tmp 53)), 31, "law.go:61", #[(Go.Edge.mk 8 Go.Ground.data), (Go.Edge.mk 10 Go.Ground.chain), (Go.Edge.mk 0 Go.Ground.phase), (Go.Edge.mk 1 Go.Ground.phase), (Go.Edge.mk 2 Go.Ground.phase), (Go.Edge.mk 3 Go.Ground.phase), (Go.Edge.mk 4 Go.Ground.phase), (Go.Edge.mk 5 Go.Ground.phase), (Go.Edge.mk 6 Go.Ground.phase), (Go.Edge.mk 7 Go.Ground.phase), (Go.Edge.mk 8 Go.Ground.phase), (Go.Edge.mk 9 Go.Ground.phase), (Go.Edge.mk 10 Go.Ground.phase)], none⟩) hF rfl (by kernel_rfl) (by kernel_rfl) (listed' := #[true, true, true, true, true, true, true, true, true, true, true, true]) (by kernel_rfl) ?_
 refine wo_pure (v := .int .i64 (x100.2)) hF (by kernel_rfl) (by kernel_rfl) fun a hF => ?_
 refine ⟨fun h => absurd (show false = true from h) Bool.false_ne_true, ?_⟩
 refine any_done (by kernel_rfl) ?_ _
 cases hv96
 exact ⟨_, b102, cs101, hF.keep' [0, 2, 3, 9, 11, 12, 13] (by kernel_rfl), (hS.selp [1, 0] (by decide) (by kernel_rfl)).pick [6, 7, 8, 9, 0, 1, 2] (by kernel_rfl), trivial⟩
 refine wo_stores hF hS (by kernel_rfl) 0 0 5 (v := .agg (flat [(1, [.int .i64 (x100.1.Pool)]), (1, [.int .i64 (x100.1.Nodes)]), (4, (encs fBool x100.1.Members)), (8, cs101), (21, (encs (fInt .i64) x100.1.Modes))]).toArray) (s' := [(1, [.int .i64 (x100.1.Pool)]), (1, [.int .i64 (x100.1.Nodes)]), (4, (encs fBool x100.1.Members)), (8, cs101), (21, (encs (fInt .i64) x100.1.Modes))]) (t := [(1, [.int .i64 (x100.1.Pool)]), (1, [.int .i64 (x100.1.Nodes)]), (4, (encs fBool x100.1.Members)), (8, cs101), (21, (encs (fInt .i64) x100.1.Modes))]) (C' := [.box b102 30 [(1, [.int .i64 (x100.1.Pool)]), (1, [.int .i64 (x100.1.Nodes)]), (4, (encs fBool x100.1.Members)), (8, cs101), (21, (encs (fInt .i64) x100.1.Modes))], .box b11 30 [(1, [.int .i64 (y70)]), (1, [.int .i64 (y71)]), (4, (encs fBool y72)), (8, cs74), (21, (encs (fInt .i64) y75))]]) (n := 35) rfl rfl (by kernel_rfl) rfl (by kernel_rfl) (by kernel_rfl) (by kernel_rfl) (by kernel_rfl) (sgV rfl (sgV rfl (sgEnc (hS.get 0 rfl) (sgArr (hS.get 1 rfl) (sgEnc (hS.get 2 rfl) sgNil))))).1 (sgV rfl (sgV rfl (sgEnc (hS.get 0 rfl) (sgArr (hS.get 1 rfl) (sgEnc (hS.get 2 rfl) sgNil))))).2 (by kernel_rfl) (by kernel_rfl) (by kernel_rfl) fun a w hF hS => ?_
 refine ⟨fun h => absurd (show false = true from h) Bool.false_ne_true, ?_⟩
 refine any_go 8 (o := ⟨(some 53), (Go.Op.extract (Go.Operand.tmp 45) 1), 31, "law.go:61", #[(Go.Edge.mk 6 Go.Ground.data), (Go.Edge.mk 10 (Go.Ground.gcOnly Go.Departure.lateStores))], none⟩) hF rfl (by kernel_rfl) (by kernel_rfl) (listed' := #[true, true, true, true, true, true, true, true, true, true, true, false]) (by kernel_rfl) ?_
 refine wo_pure (v := .int .i64 (x100.2)) hF (by kernel_rfl) (by kernel_rfl) fun a hF => ?_
 refine ⟨fun h => absurd (show false = true from h) Bool.false_ne_true, ?_⟩
 refine any_go 11 (o := ⟨(some 13), (Go.Op.assign (Go.Operand.tmp 53)), 31, "law.go:61", #[(Go.Edge.mk 8 Go.Ground.data), (Go.Edge.mk 10 Go.Ground.chain), (Go.Edge.mk 0 Go.Ground.phase), (Go.Edge.mk 1 Go.Ground.phase), (Go.Edge.mk 2 Go.Ground.phase), (Go.Edge.mk 3 Go.Ground.phase), (Go.Edge.mk 4 Go.Ground.phase), (Go.Edge.mk 5 Go.Ground.phase), (Go.Edge.mk 6 Go.Ground.phase), (Go.Edge.mk 7 Go.Ground.phase), (Go.Edge.mk 8 Go.Ground.phase), (Go.Edge.mk 9 Go.Ground.phase), (Go.Edge.mk 10 Go.Ground.phase)], none⟩) hF rfl (by kernel_rfl) (by kernel_rfl) (listed' := #[true, true, true, true, true, true, true, true, true, true, true, true]) (by kernel_rfl) ?_
 refine wo_pure (v := .int .i64 (x100.2)) hF (by kernel_rfl) (by kernel_rfl) fun a hF => ?_
 refine ⟨fun h => absurd (show false = true from h) Bool.false_ne_true, ?_⟩
 refine any_done (by kernel_rfl) ?_ _
 cases hv96
 exact ⟨_, b102, cs101, hF.keep' [0, 2, 3, 9, 11, 12, 13] (by kernel_rfl), (hS.selp [1, 0] (by decide) (by kernel_rfl)).pick [6, 7, 8, 9, 0, 1, 2] (by kernel_rfl), trivial⟩
 rintro a w ⟨κ, b88, cs93, hF, hS, -⟩
 refine hK87 _ _ ?_
 refine wpIn_seq_k fun K103 hK103 => ?_
 refine wpIn_seq_k fun K104 hK104 => ?_
 refine wpIn_region_lit ?_
 refine wl_pure (L' := [(0, .int .i64 (a1)), (2, .int .i64 (a3)), (3, .slice p5 (a4).length c6), (9, .pointer (some ⟨b11, 0, none⟩)), (11, .int .i64 (y76)), (12, .pointer (some ⟨b88, 0, none⟩)), (55, .bool ((v96.2.2.2.2.2 != 0)))]) 2 [0, 2, 3, 9, 11, 12, 55] hF (by kernel_rfl) fun a hF => ?_
 refine wpListIn_nil ?_
 refine hK104 _ _ ?_
 refine bif_split H (fun hb H => ?_) (fun hb H => ?_)
 refine cond_t hF (by kernel_rfl) hb ?_
 refine wpIn_seq_k fun K105 hK105 => ?_
 refine wpIn_seq_k fun K106 hK106 => ?_
 refine wpIn_region_lit ?_
 refine wl_pure (L' := [(0, .int .i64 (a1)), (2, .int .i64 (a3)), (3, .slice p5 (a4).length c6), (9, .pointer (some ⟨b11, 0, none⟩)), (11, .int .i64 (y76)), (56, .pointer (some ⟨b88, 0, none⟩))]) 1 [0, 2, 3, 9, 11, 56] hF (by kernel_rfl) fun a hF => ?_
 refine wl_cons rfl (wo_load hF hS (by kernel_rfl) 1 0 0 (v := .int .i64 (v96.1)) rfl rfl rfl rfl rfl (by kernel_rfl) (by kernel_rfl) fun a hF => ?_)
 refine wl_pure (L' := [(0, .int .i64 (a1)), (2, .int .i64 (a3)), (3, .slice p5 (a4).length c6), (9, .pointer (some ⟨b11, 0, none⟩)), (11, .int .i64 (y76)), (58, .bool ((v96.1 != 0)))]) 1 [0, 2, 3, 9, 11, 58] hF (by kernel_rfl) fun a hF => ?_
 refine wpListIn_nil ?_
 refine hK106 _ _ ?_
 refine bif_split H (fun hb H => ?_) (fun hb H => ?_)
 refine cond_t hF (by kernel_rfl) hb ?_
 refine wpIn_seq_k fun K107 hK107 => ?_
 refine wpIn_region_lit ?_
 refine wl_pure (L' := [(8, .bool (false))]) 1 [8] hF (by kernel_rfl) fun a hF => ?_
 refine wpListIn_nil ?_
 refine hK107 _ _ ?_
 refine wpIn_ret ?_
 cases H
 exact (ret_done hF hS (res1 Try.results15 (rv_tmp hF (by kernel_rfl))) ⟨rfl, (hS.pick [] (by kernel_rfl)).ro, hS.newC [] (by decide) (by kernel_rfl)⟩)
 refine cond_f hF (by kernel_rfl) hb ?_
 refine wpIn_skip ?_
 refine hK105 _ _ ?_
 refine wpIn_exit ?_
 exact ⟨_, y70, y71, y72, y73, cs74, y75, hF.keep' [0, 2, 3, 9, 11] (by kernel_rfl), (hS.selp [0] (by decide) (by kernel_rfl)).pick [0, 1, 2, 3] (by kernel_rfl), H⟩
 refine cond_f hF (by kernel_rfl) hb ?_
 refine wpIn_skip ?_
 refine hK103 _ _ ?_
 refine wpIn_seq_k fun K108 hK108 => ?_
 refine wpIn_region_lit ?_
 refine wl_cons rfl (wo_loads hF hS (by kernel_rfl) 1 0 5 (s' := [(1, [.int .i64 (v96.1)]), (1, [.int .i64 (v96.2.1)]), (4, (encs fBool v96.2.2.1)), (8, cs93), (21, (encs (fInt .i64) v96.2.2.2.2.1))]) (n := 35) rfl rfl rfl (by kernel_rfl) (by kernel_rfl) (by kernel_rfl) (by kernel_rfl) (by kernel_rfl) fun a hF => ?_)
 refine wl_cons rfl (wo_stores hF hS (by kernel_rfl) 0 0 5 (v := .agg (flat [(1, [.int .i64 (v96.1)]), (1, [.int .i64 (v96.2.1)]), (4, (encs fBool v96.2.2.1)), (8, cs93), (21, (encs (fInt .i64) v96.2.2.2.2.1))]).toArray) (s' := [(1, [.int .i64 (v96.1)]), (1, [.int .i64 (v96.2.1)]), (4, (encs fBool v96.2.2.1)), (8, cs93), (21, (encs (fInt .i64) v96.2.2.2.2.1))]) (t := [(1, [.int .i64 (v96.1)]), (1, [.int .i64 (v96.2.1)]), (4, (encs fBool v96.2.2.1)), (8, cs93), (21, (encs (fInt .i64) v96.2.2.2.2.1))]) (C' := [.box b11 30 [(1, [.int .i64 (v96.1)]), (1, [.int .i64 (v96.2.1)]), (4, (encs fBool v96.2.2.1)), (8, cs93), (21, (encs (fInt .i64) v96.2.2.2.2.1))], .box b88 30 [(1, [.int .i64 (v96.1)]), (1, [.int .i64 (v96.2.1)]), (4, (encs fBool v96.2.2.1)), (8, cs93), (21, (encs (fInt .i64) v96.2.2.2.2.1))]]) (n := 35) rfl rfl (by kernel_rfl) rfl (by kernel_rfl) (by kernel_rfl) (by kernel_rfl) (by kernel_rfl) (sgV rfl (sgV rfl (sgEnc (hS.get 4 rfl) (sgArr (hS.get 5 rfl) (sgEnc (hS.get 6 rfl) sgNil))))).1 (sgV rfl (sgV rfl (sgEnc (hS.get 4 rfl) (sgArr (hS.get 5 rfl) (sgEnc (hS.get 6 rfl) sgNil))))).2 (by kernel_rfl) (by kernel_rfl) (by kernel_rfl) fun a w hF hS => ?_)
 refine wpListIn_nil ?_
 refine hK108 _ _ ?_
 refine wpIn_seq_k fun K109 hK109 => ?_
 refine wpIn_region_lit ?_
 refine wl_pure (L' := [(0, .int .i64 (a1)), (2, .int .i64 (a3)), (3, .slice p5 (a4).length c6), (9, .pointer (some ⟨b11, 0, none⟩)), (11, .int .i64 (y76)), (14, .int .i64 (0))]) 1 [0, 2, 3, 9, 11, 14] hF (by kernel_rfl) fun a hF => ?_
 refine wpListIn_nil ?_
 refine hK109 _ _ ?_
 refine wpIn_seq_k fun K110 hK110 => ?_
 refine wpIn_seq_k fun K111 hK111 => ?_
 refine wpIn_region_lit ?_
 refine wl_pure (L' := [(0, .int .i64 (a1)), (2, .int .i64 (a3)), (3, .slice p5 (a4).length c6), (9, .pointer (some ⟨b11, 0, none⟩)), (11, .int .i64 (y76)), (14, .int .i64 (0)), (60, .pointer (some ⟨b11, 6, none⟩))]) 1 [0, 2, 3, 9, 11, 14, 60] hF (by kernel_rfl) fun a hF => ?_
 refine wl_cons rfl (wo_loads hF hS (by kernel_rfl) 0 3 1 (s' := [(8, cs93)]) (n := 8) rfl rfl rfl (by kernel_rfl) (by kernel_rfl) (by kernel_rfl) (by kernel_rfl) (by kernel_rfl) fun a hF => ?_)
 refine wl_pure (L' := [(0, .int .i64 (a1)), (2, .int .i64 (a3)), (3, .slice p5 (a4).length c6), (9, .pointer (some ⟨b11, 0, none⟩)), (11, .int .i64 (y76)), (14, .int .i64 (0)), (61, .agg (flat [(8, cs93)]).toArray), (62, .int .i64 (0))]) 1 [0, 2, 3, 9, 11, 14, 61, 62] hF (by kernel_rfl) fun a hF => ?_
 refine wpListIn_nil ?_
 refine hK111 _ _ ?_
 refine wpIn_block ?_
 refine loop_fuel (n := N) (fun n a w => ∃ κ : Gh, ∃ y162 : Int, ∃ y163 : Int, Fr (136) [] [(0, .int .i64 (a1)), (2, .int .i64 (a3)), (3, .slice p5 (a4).length c6), (9, .pointer (some ⟨b11, 0, none⟩)), (11, .int .i64 (y76)), (14, .int .i64 (y162)), (61, .agg (flat [(8, cs93)]).toArray), (62, .int .i64 (y163))] a ∧ SS [] κ0 w0 κ w [.box b11 30 [(1, [.int .i64 (v96.1)]), (1, [.int .i64 (v96.2.1)]), (4, (encs fBool v96.2.2.1)), (8, cs93), (21, (encs (fInt .i64) v96.2.2.2.2.1))]] [Ro.mp f_api_Cmd.ty p5 c6 a4, Arr.mp t_api_Map cs93 4 v96.2.2.2.1, MP.const (List.length v96.2.2.1 = 4), MP.const (List.length v96.2.2.2.2.1 = 21)] ∧ M.law18_ConfigRuns_L3 N (M.law18_ConfigRuns_L1 N fuel1) n a1 a3 a4 y76 v96 y162 y163 = some r) ?_ ?_
 exact ⟨_, 0, 0, hF.keep' [0, 2, 3, 9, 11, 14, 61, 62] (by kernel_rfl), (hS.selp [0] (by decide) (by kernel_rfl)).pick [0, 5, 4, 6] (by kernel_rfl), H⟩
 rintro n a w ⟨κ, y162, y163, hF, hS, H⟩
 rcases n with _ | fuel3
 simp [M.law18_ConfigRuns_L3] at H
 simp only [M.law18_ConfigRuns_L3] at H
 refine wpIn_seq_k fun K164 hK164 => ?_
 refine wpIn_region_lit ?_
 refine wl_pure (L' := [(0, .int .i64 (a1)), (2, .int .i64 (a3)), (3, .slice p5 (a4).length c6), (9, .pointer (some ⟨b11, 0, none⟩)), (11, .int .i64 (y76)), (14, .int .i64 (y162)), (61, .agg (flat [(8, cs93)]).toArray), (62, .int .i64 (y163)), (63, .bool (decide (y163 < 4)))]) 1 [0, 2, 3, 9, 11, 14, 61, 62, 63] hF (by kernel_rfl) fun a hF => ?_
 refine wpListIn_nil ?_
 refine hK164 _ _ ?_
 refine wpIn_seq_k fun K165 hK165 => ?_
 refine bif_split H (fun hb H => ?_) (fun hb H => ?_)
 refine cond_t hF (by kernel_rfl) hb ?_
 refine wpIn_skip ?_
 refine hK165 _ _ ?_
 refine wpIn_seq_k fun K166 hK166 => ?_
 refine wpIn_block ?_
 refine wpIn_seq_k fun K167 hK167 => ?_
 refine wpIn_region_lit ?_
 refine wl_pure (L' := [(0, .int .i64 (a1)), (2, .int .i64 (a3)), (3, .slice p5 (a4).length c6), (9, .pointer (some ⟨b11, 0, none⟩)), (11, .int .i64 (y76)), (14, .int .i64 (y162)), (61, .agg (flat [(8, cs93)]).toArray), (62, .int .i64 (y163)), (64, .int .i64 (y163))]) 1 [0, 2, 3, 9, 11, 14, 61, 62, 64] hF (by kernel_rfl) fun a hF => ?_
 refine bind_split H (fun x168 hx168 H => ?_)
 refine wl_cons rfl (wo_val hF (by kernel_rfl) (val_indexATy (t := t_api_Map) (E := 26) (n := 4) (m := 8) (cs := cs93) rfl (by kernel_rfl) rfl (idx_lt hx168 (hS.get 1 rfl : ArrP _ _ _ _ _ _).1) (by kernel_rfl) (by kernel_rfl) (by kernel_rfl) _) ?_)
 obtain ⟨⟨p169, c170, p171, c172⟩, hq, hR⟩ := (hS.get 1 rfl : ArrP _ _ _ _ _ _).2.2.2 _ _ (idx_some hx168).2.2
 rw [show (List.take _ (List.drop _ _)) = _ from hq]
 intro a hF
 have hS := hS.adds hR
 refine wl_cons rfl (wo_alloc hF hS (by kernel_rfl) (z := .agg (flat [(1, [.slice none 0 0]), (1, [.slice none 0 0])]).toArray) (s := [(1, [.slice none 0 0]), (1, [.slice none 0 0])]) rfl (by kernel_rfl) (sgV rfl (sgV rfl sgNil)).1 (by kernel_rfl) fun b173 a w hF hS => ?_)
 refine wl_pure (L' := [(0, .int .i64 (a1)), (2, .int .i64 (a3)), (3, .slice p5 (a4).length c6), (9, .pointer (some ⟨b11, 0, none⟩)), (11, .int .i64 (y76)), (14, .int .i64 (y162)), (15, .int .i64 (y163)), (16, .pointer (some ⟨b173, 0, none⟩)), (61, .agg (flat [(8, cs93)]).toArray), (62, .int .i64 (y163)), (65, .agg (flat [(1, [.slice p169 (x168.Cuts).length c170]), (1, [.slice p171 (x168.Nodes).length c172])]).toArray)]) 1 [0, 2, 3, 9, 11, 14, 15, 16, 61, 62, 65] hF (by kernel_rfl) fun a hF => ?_
 refine wl_cons rfl (wo_stores hF hS (by kernel_rfl) 0 0 2 (v := .agg (flat [(1, [.slice p169 (x168.Cuts).length c170]), (1, [.slice p171 (x168.Nodes).length c172])]).toArray) (s' := [(1, [.slice p169 (x168.Cuts).length c170]), (1, [.slice p171 (x168.Nodes).length c172])]) (t := [(1, [.slice p169 (x168.Cuts).length c170]), (1, [.slice p171 (x168.Nodes).length c172])]) (C' := [.box b173 26 [(1, [.slice p169 (x168.Cuts).length c170]), (1, [.slice p171 (x168.Nodes).length c172])], .box b11 30 [(1, [.int .i64 (v96.1)]), (1, [.int .i64 (v96.2.1)]), (4, (encs fBool v96.2.2.1)), (8, cs93), (21, (encs (fInt .i64) v96.2.2.2.2.1))]]) (n := 2) rfl rfl (by kernel_rfl) rfl (by kernel_rfl) (by kernel_rfl) (by kernel_rfl) (by kernel_rfl) (sgV rfl (sgV rfl sgNil)).1 (sgV rfl (sgV rfl sgNil)).2 (by kernel_rfl) (by kernel_rfl) (by kernel_rfl) fun a w hF hS => ?_)
 refine wpListIn_nil ?_
 refine hK167 _ _ ?_
 refine seq_join (fun a w => ∃ κ : Gh, ∃ y174 : Int, Fr (136) [] [(0, .int .i64 (a1)), (2, .int .i64 (a3)), (3, .slice p5 (a4).length c6), (9, .pointer (some ⟨b11, 0, none⟩)), (11, .int .i64 (y76)), (14, .int .i64 (y174)), (15, .int .i64 (y163)), (16, .pointer (some ⟨b173, 0, none⟩)), (61, .agg (flat [(8, cs93)]).toArray), (62, .int .i64 (y163))] a ∧ SS [] κ0 w0 κ w [.box b173 26 [(1, [.slice p169 (x168.Cuts).length c170]), (1, [.slice p171 (x168.Nodes).length c172])], .box b11 30 [(1, [.int .i64 (v96.1)]), (1, [.int .i64 (v96.2.1)]), (4, (encs fBool v96.2.2.1)), (8, cs93), (21, (encs (fInt .i64) v96.2.2.2.2.1))]] [Ro.mp f_api_Cmd.ty p5 c6 a4, Arr.mp t_api_Map cs93 4 v96.2.2.2.1, Ro.mp fStr.ty p169 c170 x168.Cuts, Ro.mp (fInt .i64).ty p171 c172 x168.Nodes, MP.const (List.length v96.2.2.1 = 4), MP.const (List.length v96.2.2.2.2.1 = 21)] ∧ M.law18_ConfigRuns_k4 N (M.law18_ConfigRuns_L3 N (M.law18_ConfigRuns_L1 N fuel1) fuel3) a1 a3 a4 y76 v96 y163 x168 y174 = some r) ?_ ?_
 refine wpIn_seq_k fun K182 hK182 => ?_
 refine wpIn_region_lit ?_
 refine wl_pure (L' := [(0, .int .i64 (a1)), (2, .int .i64 (a3)), (3, .slice p5 (a4).length c6), (9, .pointer (some ⟨b11, 0, none⟩)), (11, .int .i64 (y76)), (14, .int .i64 (y162)), (15, .int .i64 (y163)), (16, .pointer (some ⟨b173, 0, none⟩)), (61, .agg (flat [(8, cs93)]).toArray), (62, .int .i64 (y163)), (66, .int .i64 (y163)), (67, .pointer (some ⟨b11, 2, none⟩))]) 2 [0, 2, 3, 9, 11, 14, 15, 16, 61, 62, 66, 67] hF (by kernel_rfl) fun a hF => ?_
 refine bind_split H (fun x183 hx183 H => ?_)
 refine wl_cons rfl (wo_indexArr hF (by kernel_rfl) (E := 4) (sz := 1) (n := 4) rfl rfl (i := y163) rfl (idx_lt hx183 (hS.get 4 rfl)) (by kernel_rfl) (by kernel_rfl) fun a hF => ?_)
 refine wl_cons rfl (wo_loadA1 (t := fBool) hF hS (by kernel_rfl) 1 2 (v := .bool (x183)) rfl rfl rfl rfl hx183 rfl rfl (by kernel_rfl) (by kernel_rfl) fun a hF => ?_)
 refine wpListIn_nil ?_
 refine hK182 _ _ ?_
 refine bif_split H (fun hb H => ?_) (fun hb H => ?_)
 refine cond_t hF (by kernel_rfl) hb ?_
 refine wpIn_region_lit ?_
 refine wl_pure (L' := [(0, .int .i64 (a1)), (2, .int .i64 (a3)), (3, .slice p5 (a4).length c6), (9, .pointer (some ⟨b11, 0, none⟩)), (11, .int .i64 (y76)), (14, .int .i64 (IntKind.i64.wrap (y162 + 1))), (15, .int .i64 (y163)), (16, .pointer (some ⟨b173, 0, none⟩)), (61, .agg (flat [(8, cs93)]).toArray), (62, .int .i64 (y163))]) 3 [0, 2, 3, 9, 11, 14, 15, 16, 61, 62] hF (by kernel_rfl) fun a hF => ?_
 refine wpListIn_nil ?_
 exact ⟨_, IntKind.i64.wrap (y162 + 1), hF.keep' [0, 2, 3, 9, 11, 14, 15, 16, 61, 62] (by kernel_rfl), (hS.selp [0, 1] (by decide) (by kernel_rfl)).pick [2, 3, 0, 1, 4, 5] (by kernel_rfl), H⟩
 refine cond_f hF (by kernel_rfl) hb ?_
 refine wpIn_skip ?_
 exact ⟨_, y162, hF.keep' [0, 2, 3, 9, 11, 14, 15, 16, 61, 62] (by kernel_rfl), (hS.selp [0, 1] (by decide) (by kernel_rfl)).pick [2, 3, 0, 1, 4, 5] (by kernel_rfl), H⟩
 rintro a w ⟨κ, y174, hF, hS, H⟩
 unfold M.law18_ConfigRuns_k4 at H
 refine wpIn_seq_k fun K175 hK175 => ?_
 refine bind_split H (fun v177 hv177 H => ?_)
 refine code_join (fun a w => ∃ κ : Gh, Fr (136) [] [(0, .int .i64 (a1)), (2, .int .i64 (a3)), (3, .slice p5 (a4).length c6), (9, .pointer (some ⟨b11, 0, none⟩)), (11, .int .i64 (y76)), (14, .int .i64 (y174)), (61, .agg (flat [(8, cs93)]).toArray), (62, .int .i64 (y163)), (97, .bool (v177))] a ∧ SS [] κ0 w0 κ w [.box b11 30 [(1, [.int .i64 (v96.1)]), (1, [.int .i64 (v96.2.1)]), (4, (encs fBool v96.2.2.1)), (8, cs93), (21, (encs (fInt .i64) v96.2.2.2.2.1))]] [Ro.mp f_api_Cmd.ty p5 c6 a4, Arr.mp t_api_Map cs93 4 v96.2.2.2.1, MP.const (List.length v96.2.2.1 = 4), MP.const (List.length v96.2.2.2.2.1 = 21)] ∧ True) ?_ ?_
 refine region_any (SSx [] κ0 w0 [.box b173 26 [(1, [.slice p169 (x168.Cuts).length c170]), (1, [.slice p171 (x168.Nodes).length c172])], .box b11 30 [(1, [.int .i64 (v96.1)]), (1, [.int .i64 (v96.2.1)]), (4, (encs fBool v96.2.2.1)), (8, cs93), (21, (encs (fInt .i64) v96.2.2.2.2.1))]] [Ro.mp f_api_Cmd.ty p5 c6 a4, Arr.mp t_api_Map cs93 4 v96.2.2.2.1, Ro.mp fStr.ty p169 c170 x168.Cuts, Ro.mp (fInt .i64).ty p171 c172 x168.Nodes, MP.const (List.length v96.2.2.1 = 4), MP.const (List.length v96.2.2.2.2.1 = 21)]) [] (by kernel_rfl) (n := 26) (by kernel_rfl) (l := #[false, false, false, false, false, false, false, false, false, false, false, false, false, false, false, false, false, false, false, false, false, false, false, false, false, false]) (by kernel_rfl) ?_
 have hS := hS.drew
 refine any_pure [0, 1, 5] [0, 2, 3, 9, 11, 14, 15, 16, 61, 62, 72, 73, 77] (L' := [(0, .int .i64 (a1)), (2, .int .i64 (a3)), (3, .slice p5 (a4).length c6), (9, .pointer (some ⟨b11, 0, none⟩)), (11, .int .i64 (y76)), (14, .int .i64 (y174)), (15, .int .i64 (y163)), (16, .pointer (some ⟨b173, 0, none⟩)), (61, .agg (flat [(8, cs93)]).toArray), (62, .int .i64 (y163)), (72, .int .i64 (y163)), (73, .pointer (some ⟨b11, 2, none⟩)), (77, .int .i64 (a3))]) (listed' := #[true, true, false, false, false, true, false, false, false, false, false, false, false, false, false, false, false, false, false, false, false, false, false, false, false, false]) (fuel := 23) hF ⟨_, (hS.selp [0, 1] (by decide) (by kernel_rfl)).pick [0, 1, 2, 3, 4, 5] (by kernel_rfl)⟩ (by kernel_rfl) (by intro c a w t v h; cases t <;> exact h) (by kernel_rfl) rfl fun a hF => ?_
 refine bind_split hv177 (fun x178 hx178 hv177 => ?_)
 refine any_take 2 (some 74) hF ⟨_, (hS.selp [0, 1] (by decide) (by kernel_rfl)).pick [0, 1, 2, 3, 4, 5] (by kernel_rfl)⟩ rfl (by kernel_rfl) (by kernel_rfl) (by intro c a w v h; exact h) (by kernel_rfl) (by kernel_rfl) (by kernel_rfl) rfl (fun w _ => val_indexArr (E := 4) (sz := 1) (n := 4) rfl rfl (i := y163) rfl (idx_lt hx178 (hS.get 4 rfl)) (by kernel_rfl) (by kernel_rfl) w) fun a hF => ?_
 refine any_take 3 (some 75) hF ⟨_, (hS.selp [0, 1] (by decide) (by kernel_rfl)).pick [0, 1, 2, 3, 4, 5] (by kernel_rfl)⟩ rfl (by kernel_rfl) (by kernel_rfl) (by intro c a w v h; exact h) (by kernel_rfl) (by kernel_rfl) (by kernel_rfl) rfl (val_loadA1 (t := fBool) 1 2 (v := .bool (x178)) rfl rfl rfl rfl hx178 rfl rfl (by kernel_rfl) (by kernel_rfl)) fun a hF => ?_
 refine any_take 4 (some 76) hF ⟨_, (hS.selp [0, 1] (by decide) (by kernel_rfl)).pick [0, 1, 2, 3, 4, 5] (by kernel_rfl)⟩ rfl (by kernel_rfl) (by kernel_rfl) (by intro c a w v h; exact h) (by kernel_rfl) (by kernel_rfl) (by kernel_rfl) rfl (val_loads 0 0 2 (s' := [(1, [.slice p169 (x168.Cuts).length c170]), (1, [.slice p171 (x168.Nodes).length c172])]) (n := 2) rfl rfl rfl (by kernel_rfl) (by kernel_rfl) (by kernel_rfl) (by kernel_rfl) (by kernel_rfl)) fun a hF => ?_
 refine any_go 6 (o := ⟨(some 78), (Go.Op.call (Go.Call.mk (Go.Callee.value (Go.Operand.func 31)) #[(Go.Operand.tmp 76), (Go.Operand.tmp 77)] #[26, 3])), 31, "law.go:74", #[(Go.Edge.mk 4 Go.Ground.data), (Go.Edge.mk 5 Go.Ground.data)], none⟩) hF rfl (by kernel_rfl) (by kernel_rfl) (listed' := #[true, true, true, true, true, true, true, false, false, false, false, false, false, false, false, false, false, false, false, false, false, false, false, false, false, false]) (by kernel_rfl) ?_
 refine bind_split hv177 (fun x179 hx179 hv177 => ?_)
 refine wo_callP (args := #[.agg (flat [(1, [.slice p169 (x168.Cuts).length c170]), (1, [.slice p171 (x168.Nodes).length c172])]).toArray, .int .i64 (a3)]) (f := 31) hF hS (by kernel_rfl) (by kernel_rfl) (C_ref08_Check N hS.fresh (T_api_Map.mk x168.Cuts x168.Nodes) a3 p169 c170 p171 c172 ((hS.pick [2, 3] (by kernel_rfl)).ro) hx179) ?_
 rintro _ κ w a ⟨rfl, hR, hN⟩ hF hS hO
 refine ⟨fun _ => ⟨_, (hS.selp [0, 1] (by decide) (by kernel_rfl)).pick [0, 1, 2, 3, 4, 5] (by kernel_rfl)⟩, ?_⟩
 refine any_pure [7, 8, 9] [0, 2, 3, 9, 11, 14, 15, 16, 61, 62, 81] (L' := [(0, .int .i64 (a1)), (2, .int .i64 (a3)), (3, .slice p5 (a4).length c6), (9, .pointer (some ⟨b11, 0, none⟩)), (11, .int .i64 (y76)), (14, .int .i64 (y174)), (15, .int .i64 (y163)), (16, .pointer (some ⟨b173, 0, none⟩)), (61, .agg (flat [(8, cs93)]).toArray), (62, .int .i64 (y163)), (81, .bool ((!(x178 == (x179 == 0)))))]) (listed' := #[true, true, true, true, true, true, true, true, true, true, false, false, false, false, false, false, false, false, false, false, false, false, false, false, false, false]) (fuel := 16) hF ⟨_, (hS.selp [0, 1] (by decide) (by kernel_rfl)).pick [0, 1, 2, 3, 4, 5] (by kernel_rfl)⟩ (by kernel_rfl) (by intro c a w t v h; cases t <;> exact h) (by kernel_rfl) rfl fun a hF => ?_
 refine bif_split hv177 (fun hb hv177 => ?_) (fun hb hv177 => ?_)
 have hF := hF.boolv 81 (by kernel_rfl) hb
 refine any_pure [10, 11, 12, 13, 14, 15, 16, 17, 18, 19, 20, 21, 22, 23, 24, 25] [0, 2, 3, 9, 11, 14, 61, 62, 97] (L' := [(0, .int .i64 (a1)), (2, .int .i64 (a3)), (3, .slice p5 (a4).length c6), (9, .pointer (some ⟨b11, 0, none⟩)), (11, .int .i64 (y76)), (14, .int .i64 (y174)), (61, .agg (flat [(8, cs93)]).toArray), (62, .int .i64 (y163)), (97, .bool (true))]) (listed' := #[true, true, true, true, true, true, true, true, true, true, true, true, true, true, true, true, true, true, true, true, true, true, true, true, true, true]) (fuel := 0) hF ⟨_, (hS.selp [0, 1] (by decide) (by kernel_rfl)).pick [0, 1, 2, 3, 4, 5] (by kernel_rfl)⟩ (by kernel_rfl) (by intro c a w t v h; cases t <;> exact h) (by kernel_rfl) rfl fun a hF => ?_
 refine any_done (by kernel_rfl) ?_ _
 cases hv177
 exact ⟨_, hF.keep' [0, 2, 3, 9, 11, 14, 61, 62, 97] (by kernel_rfl), (hS.selp [1] (by decide) (by kernel_rfl)).pick [0, 1, 4, 5] (by kernel_rfl), trivial⟩
 have hF := hF.boolv 81 (by kernel_rfl) hb
 refine any_pure [10, 11] [0, 2, 3, 9, 11, 14, 16, 61, 62, 81, 82, 83] (L' := [(0, .int .i64 (a1)), (2, .int .i64 (a3)), (3, .slice p5 (a4).length c6), (9, .pointer (some ⟨b11, 0, none⟩)), (11, .int .i64 (y76)), (14, .int .i64 (y174)), (16, .pointer (some ⟨b173, 0, none⟩)), (61, .agg (flat [(8, cs93)]).toArray), (62, .int .i64 (y163)), (81, .bool (false)), (82, .int .i64 (y163)), (83, .pointer (some ⟨b11, 2, none⟩))]) (listed' := #[true, true, true, true, true, true, true, true, true, true, true, true, false, false, false, false, false, false, false, false, false, false, false, false, false, false]) (fuel := 14) hF ⟨_, (hS.selp [0, 1] (by decide) (by kernel_rfl)).pick [0, 1, 2, 3, 4, 5] (by kernel_rfl)⟩ (by kernel_rfl) (by intro c a w t v h; cases t <;> exact h) (by kernel_rfl) rfl fun a hF => ?_
 refine bind_split hv177 (fun x180 hx180 hv177 => ?_)
 refine any_take 12 (some 84) hF ⟨_, (hS.selp [0, 1] (by decide) (by kernel_rfl)).pick [0, 1, 2, 3, 4, 5] (by kernel_rfl)⟩ rfl (by kernel_rfl) (by kernel_rfl) (by intro c a w v h; exact h) (by kernel_rfl) (by kernel_rfl) (by kernel_rfl) rfl (fun w _ => val_indexArr (E := 4) (sz := 1) (n := 4) rfl rfl (i := y163) rfl (idx_lt hx180 (hS.get 4 rfl)) (by kernel_rfl) (by kernel_rfl) w) fun a hF => ?_
 refine any_take 13 (some 85) hF ⟨_, (hS.selp [0, 1] (by decide) (by kernel_rfl)).pick [0, 1, 2, 3, 4, 5] (by kernel_rfl)⟩ rfl (by kernel_rfl) (by kernel_rfl) (by intro c a w v h; exact h) (by kernel_rfl) (by kernel_rfl) (by kernel_rfl) rfl (val_loadA1 (t := fBool) 1 2 (v := .bool (x180)) rfl rfl rfl rfl hx180 rfl rfl (by kernel_rfl) (by kernel_rfl)) fun a hF => ?_
 refine any_pure [14, 15] [0, 2, 3, 9, 11, 14, 16, 61, 62, 81, 87] (L' := [(0, .int .i64 (a1)), (2, .int .i64 (a3)), (3, .slice p5 (a4).length c6), (9, .pointer (some ⟨b11, 0, none⟩)), (11, .int .i64 (y76)), (14, .int .i64 (y174)), (16, .pointer (some ⟨b173, 0, none⟩)), (61, .agg (flat [(8, cs93)]).toArray), (62, .int .i64 (y163)), (81, .bool (false)), (87, .bool ((!x180)))]) (listed' := #[true, true, true, true, true, true, true, true, true, true, true, true, true, true, true, true, false, false, false, false, false, false, false, false, false, false]) (fuel := 10) hF ⟨_, (hS.selp [0, 1] (by decide) (by kernel_rfl)).pick [0, 1, 2, 3, 4, 5] (by kernel_rfl)⟩ (by kernel_rfl) (by intro c a w t v h; cases t <;> exact h) (by kernel_rfl) rfl fun a hF => ?_
 refine bif_split hv177 (fun hb hv177 => ?_) (fun hb hv177 => ?_)
 have hF := hF.boolv 87 (by kernel_rfl) hb
 refine any_pure [16, 19] [0, 2, 3, 9, 11, 14, 61, 62, 81, 87, 88, 91] (L' := [(0, .int .i64 (a1)), (2, .int .i64 (a3)), (3, .slice p5 (a4).length c6), (9, .pointer (some ⟨b11, 0, none⟩)), (11, .int .i64 (y76)), (14, .int .i64 (y174)), (61, .agg (flat [(8, cs93)]).toArray), (62, .int .i64 (y163)), (81, .bool (false)), (87, .bool (true)), (88, .pointer (some ⟨b173, 1, none⟩)), (91, .pointer (some ⟨b173, 0, none⟩))]) (listed' := #[true, true, true, true, true, true, true, true, true, true, true, true, true, true, true, true, true, false, false, true, false, false, false, false, false, false]) (fuel := 8) hF ⟨_, (hS.selp [0, 1] (by decide) (by kernel_rfl)).pick [0, 1, 2, 3, 4, 5] (by kernel_rfl)⟩ (by kernel_rfl) (by intro c a w t v h; cases t <;> exact h) (by kernel_rfl) rfl fun a hF => ?_
 refine any_take 17 (some 89) hF ⟨_, (hS.selp [0, 1] (by decide) (by kernel_rfl)).pick [0, 1, 2, 3, 4, 5] (by kernel_rfl)⟩ rfl (by kernel_rfl) (by kernel_rfl) (by intro c a w v h; exact h) (by kernel_rfl) (by kernel_rfl) (by kernel_rfl) rfl (val_load 0 1 0 (v := .slice p171 (x168.Nodes).length c172) rfl rfl rfl rfl rfl (by kernel_rfl) (by kernel_rfl)) fun a hF => ?_
 refine any_pure [18] [0, 2, 3, 9, 11, 14, 61, 62, 81, 87, 90, 91] (L' := [(0, .int .i64 (a1)), (2, .int .i64 (a3)), (3, .slice p5 (a4).length c6), (9, .pointer (some ⟨b11, 0, none⟩)), (11, .int .i64 (y76)), (14, .int .i64 (y174)), (61, .agg (flat [(8, cs93)]).toArray), (62, .int .i64 (y163)), (81, .bool (false)), (87, .bool (true)), (90, .int .i64 (((x168.Nodes).length : Int))), (91, .pointer (some ⟨b173, 0, none⟩))]) (listed' := #[true, true, true, true, true, true, true, true, true, true, true, true, true, true, true, true, true, true, true, true, false, false, false, false, false, false]) (fuel := 6) hF ⟨_, (hS.selp [0, 1] (by decide) (by kernel_rfl)).pick [0, 1, 2, 3, 4, 5] (by kernel_rfl)⟩ (by kernel_rfl) (by intro c a w t v h; cases t <;> exact h) (by kernel_rfl) rfl fun a hF => ?_
 refine any_take 20 (some 92) hF ⟨_, (hS.selp [0, 1] (by decide) (by kernel_rfl)).pick [0, 1, 2, 3, 4, 5] (by kernel_rfl)⟩ rfl (by kernel_rfl) (by kernel_rfl) (by intro c a w v h; exact h) (by kernel_rfl) (by kernel_rfl) (by kernel_rfl) rfl (val_load 0 0 0 (v := .slice p169 (x168.Cuts).length c170) rfl rfl rfl rfl rfl (by kernel_rfl) (by kernel_rfl)) fun a hF => ?_
 refine any_pure [21, 22, 23, 24, 25] [0, 2, 3, 9, 11, 14, 61, 62, 97] (L' := [(0, .int .i64 (a1)), (2, .int .i64 (a3)), (3, .slice p5 (a4).length c6), (9, .pointer (some ⟨b11, 0, none⟩)), (11, .int .i64 (y76)), (14, .int .i64 (y174)), (61, .agg (flat [(8, cs93)]).toArray), (62, .int .i64 (y163)), (97, .bool (decide (IntKind.i64.wrap (((x168.Nodes).length : Int) + ((x168.Cuts).length : Int)) > 0)))]) (listed' := #[true, true, true, true, true, true, true, true, true, true, true, true, true, true, true, true, true, true, true, true, true, true, true, true, true, true]) (fuel := 0) hF ⟨_, (hS.selp [0, 1] (by decide) (by kernel_rfl)).pick [0, 1, 2, 3, 4, 5] (by kernel_rfl)⟩ (by kernel_rfl) (by intro c a w t v h; cases t <;> exact h) (by kernel_rfl) rfl fun a hF => ?_
 refine any_done (by kernel_rfl) ?_ _
 cases hv177
 exact ⟨_, hF.keep' [0, 2, 3, 9, 11, 14, 61, 62, 97] (by kernel_rfl), (hS.selp [1] (by decide) (by kernel_rfl)).pick [0, 1, 4, 5] (by kernel_rfl), trivial⟩
 have hF := hF.boolv 87 (by kernel_rfl) hb
 refine any_pure [16, 17, 18, 19, 20, 21, 22, 23, 24, 25] [0, 2, 3, 9, 11, 14, 61, 62, 97] (L' := [(0, .int .i64 (a1)), (2, .int .i64 (a3)), (3, .slice p5 (a4).length c6), (9, .pointer (some ⟨b11, 0, none⟩)), (11, .int .i64 (y76)), (14, .int .i64 (y174)), (61, .agg (flat [(8, cs93)]).toArray), (62, .int .i64 (y163)), (97, .bool (false))]) (listed' := #[true, true, true, true, true, true, true, true, true, true, true, true, true, true, true, true, true, true, true, true, true, true, true, true, true, true]) (fuel := 0) hF ⟨_, (hS.selp [0, 1] (by decide) (by kernel_rfl)).pick [0, 1, 2, 3, 4, 5] (by kernel_rfl)⟩ (by kernel_rfl) (by intro c a w t v h; cases t <;> exact h) (by kernel_rfl) rfl fun a hF => ?_
 refine any_done (by kernel_rfl) ?_ _
 cases hv177
 exact ⟨_, hF.keep' [0, 2, 3, 9, 11, 14, 61, 62, 97] (by kernel_rfl), (hS.selp [1] (by decide) (by kernel_rfl)).pick [0, 1, 4, 5] (by kernel_rfl), trivial⟩
 rintro a w ⟨κ, hF, hS, -⟩
 refine hK175 _ _ ?_
 refine bif_split H (fun hb H => ?_) (fun hb H => ?_)
 refine cond_t hF (by kernel_rfl) hb ?_
 refine wpIn_seq_k fun K181 hK181 => ?_
 refine wpIn_region_lit ?_
 refine wl_pure (L' := [(8, .bool (false))]) 1 [8] hF (by kernel_rfl) fun a hF => ?_
 refine wpListIn_nil ?_
 refine hK181 _ _ ?_
 refine wpIn_ret ?_
 cases H
 exact (ret_done hF hS (res1 Try.results15 (rv_tmp hF (by kernel_rfl))) ⟨rfl, (hS.pick [] (by kernel_rfl)).ro, hS.newC [] (by decide) (by kernel_rfl)⟩)
 refine cond_f hF (by kernel_rfl) hb ?_
 refine wpIn_skip ?_
 refine hK166 _ _ ?_
 refine wpIn_region_lit ?_
 refine wl_pure (L' := [(0, .int .i64 (a1)), (2, .int .i64 (a3)), (3, .slice p5 (a4).length c6), (9, .pointer (some ⟨b11, 0, none⟩)), (11, .int .i64 (y76)), (14, .int .i64 (y174)), (61, .agg (flat [(8, cs93)]).toArray), (62, .int .i64 (IntKind.i64.wrap (y163 + 1)))]) 2 [0, 2, 3, 9, 11, 14, 61, 62] hF (by kernel_rfl) fun a hF => ?_
 refine wpListIn_nil ?_
 exact ⟨fuel3, Nat.lt_succ_self _, _, y174, IntKind.i64.wrap (y163 + 1), hF.keep' [0, 2, 3, 9, 11, 14, 61, 62] (by kernel_rfl), (hS.selp [0] (by decide) (by kernel_rfl)).pick [0, 1, 2, 3] (by kernel_rfl), H⟩
 refine cond_f hF (by kernel_rfl) hb ?_
 refine wpIn_exit ?_
 refine hK110 _ _ ?_
 refine wpIn_seq_k fun K184 hK184 => ?_
 refine wpIn_seq_k fun K185 hK185 => ?_
 refine wpIn_region_lit ?_
 refine wl_pure (L' := [(0, .int .i64 (a1)), (2, .int .i64 (a3)), (3, .slice p5 (a4).length c6), (9, .pointer (some ⟨b11, 0, none⟩)), (11, .int .i64 (y76)), (14, .int .i64 (y162)), (99, .pointer (some ⟨b11, 14, none⟩))]) 1 [0, 2, 3, 9, 11, 14, 99] hF (by kernel_rfl) fun a hF => ?_
 refine wl_cons rfl (wo_loads hF hS (by kernel_rfl) 0 4 1 (s' := [(21, (encs (fInt .i64) v96.2.2.2.2.1))]) (n := 21) rfl rfl rfl (by kernel_rfl) (by kernel_rfl) (by kernel_rfl) (by kernel_rfl) (by kernel_rfl) fun a hF => ?_)
 refine wl_pure (L' := [(0, .int .i64 (a1)), (2, .int .i64 (a3)), (3, .slice p5 (a4).length c6), (9, .pointer (some ⟨b11, 0, none⟩)), (11, .int .i64 (y76)), (14, .int .i64 (y162)), (100, .agg (flat [(21, (encs (fInt .i64) v96.2.2.2.2.1))]).toArray), (101, .int .i64 (0))]) 1 [0, 2, 3, 9, 11, 14, 100, 101] hF (by kernel_rfl) fun a hF => ?_
 refine wpListIn_nil ?_
 refine hK185 _ _ ?_
 refine wpIn_block ?_
 refine loop_fuel (n := N) (fun n a w => ∃ κ : Gh, ∃ y236 : Int, Fr (136) [] [(0, .int .i64 (a1)), (2, .int .i64 (a3)), (3, .slice p5 (a4).length c6), (9, .pointer (some ⟨b11, 0, none⟩)), (11, .int .i64 (y76)), (14, .int .i64 (y162)), (100, .agg (flat [(21, (encs (fInt .i64) v96.2.2.2.2.1))]).toArray), (101, .int .i64 (y236))] a ∧ SS [] κ0 w0 κ w [.box b11 30 [(1, [.int .i64 (v96.1)]), (1, [.int .i64 (v96.2.1)]), (4, (encs fBool v96.2.2.1)), (8, cs93), (21, (encs (fInt .i64) v96.2.2.2.2.1))]] [Ro.mp f_api_Cmd.ty p5 c6 a4, MP.const (List.length v96.2.2.2.2.1 = 21), MP.const (List.length v96.2.2.1 = 4), Arr.mp t_api_Map cs93 4 v96.2.2.2.1] ∧ M.law18_ConfigRuns_L5 N (M.law18_ConfigRuns_L1 N fuel1) n a1 a3 a4 y76 v96 y162 y236 = some r) ?_ ?_
 exact ⟨_, 0, hF.keep' [0, 2, 3, 9, 11, 14, 100, 101] (by kernel_rfl), (hS.selp [0] (by decide) (by kernel_rfl)).pick [0, 3, 2, 1] (by kernel_rfl), H⟩
 rintro n a w ⟨κ, y236, hF, hS, H⟩
 rcases n with _ | fuel5
 simp [M.law18_ConfigRuns_L5] at H
 simp only [M.law18_ConfigRuns_L5] at H
 refine wpIn_seq_k fun K237 hK237 => ?_
 refine wpIn_region_lit ?_
 refine wl_pure (L' := [(0, .int .i64 (a1)), (2, .int .i64 (a3)), (3, .slice p5 (a4).length c6), (9, .pointer (some ⟨b11, 0, none⟩)), (11, .int .i64 (y76)), (14, .int .i64 (y162)), (100, .agg (flat [(21, (encs (fInt .i64) v96.2.2.2.2.1))]).toArray), (101, .int .i64 (y236)), (102, .bool (decide (y236 < 21)))]) 1 [0, 2, 3, 9, 11, 14, 100, 101, 102] hF (by kernel_rfl) fun a hF => ?_
 refine wpListIn_nil ?_
 refine hK237 _ _ ?_
 refine wpIn_seq_k fun K238 hK238 => ?_
 refine bif_split H (fun hb H => ?_) (fun hb H => ?_)
 refine cond_t hF (by kernel_rfl) hb ?_
 refine wpIn_skip ?_
 refine hK238 _ _ ?_
 refine wpIn_seq_k fun K239 hK239 => ?_
 refine wpIn_block ?_
 refine wpIn_seq_k fun K240 hK240 => ?_
 refine wpIn_region_lit ?_
 refine bind_split H (fun x241 hx241 H => ?_)
 refine wl_cons rfl (wo_val hF (by kernel_rfl) (v := .int .i64 (x241)) (val_indexA1 (t := (fInt .i64)) (E := 3) (n := 21) (m := 21) rfl (by kernel_rfl) rfl hx241 (hS.get 1 rfl) rfl rfl (by kernel_rfl) (by kernel_rfl) (by kernel_rfl) _) fun a hF => ?_)
 refine wl_pure (L' := [(0, .int .i64 (a1)), (2, .int .i64 (a3)), (3, .slice p5 (a4).length c6), (9, .pointer (some ⟨b11, 0, none⟩)), (11, .int .i64 (y76)), (14, .int .i64 (y162)), (18, .int .i64 (x241)), (100, .agg (flat [(21, (encs (fInt .i64) v96.2.2.2.2.1))]).toArray), (101, .int .i64 (y236))]) 1 [0, 2, 3, 9, 11, 14, 18, 100, 101] hF (by kernel_rfl) fun a hF => ?_
 refine wpListIn_nil ?_
 refine hK240 _ _ ?_
 refine wpIn_seq_k fun K242 hK242 => ?_
 refine wpIn_region_lit ?_
 refine wl_pure (L' := [(0, .int .i64 (a1)), (2, .int .i64 (a3)), (3, .slice p5 (a4).length c6), (9, .pointer (some ⟨b11, 0, none⟩)), (11, .int .i64 (y76)), (14, .int .i64 (y162)), (18, .int .i64 (x241)), (100, .agg (flat [(21, (encs (fInt .i64) v96.2.2.2.2.1))]).toArray), (101, .int .i64 (y236)), (104, .pointer (some ⟨b11, 14, none⟩))]) 1 [0, 2, 3, 9, 11, 14, 18, 100, 101, 104] hF (by kernel_rfl) fun a hF => ?_
 refine wl_cons rfl (wo_loads hF hS (by kernel_rfl) 0 4 1 (s' := [(21, (encs (fInt .i64) v96.2.2.2.2.1))]) (n := 21) rfl rfl rfl (by kernel_rfl) (by kernel_rfl) (by kernel_rfl) (by kernel_rfl) (by kernel_rfl) fun a hF => ?_)
 refine wl_pure (L' := [(0, .int .i64 (a1)), (2, .int .i64 (a3)), (3, .slice p5 (a4).length c6), (9, .pointer (some ⟨b11, 0, none⟩)), (11, .int .i64 (y76)), (14, .int .i64 (y162)), (18, .int .i64 (x241)), (100, .agg (flat [(21, (encs (fInt .i64) v96.2.2.2.2.1))]).toArray), (101, .int .i64 (y236)), (105, .agg (flat [(21, (encs (fInt .i64) v96.2.2.2.2.1))]).toArray), (106, .int .i64 (0))]) 1 [0, 2, 3, 9, 11, 14, 18, 100, 101, 105, 106] hF (by kernel_rfl) fun a hF => ?_
 refine wpListIn_nil ?_
 refine hK242 _ _ ?_
 refine wpIn_block ?_
 refine loop_fuel (n := N) (fun n a w => ∃ κ : Gh, ∃ y293 : Int, Fr (136) [] [(0, .int .i64 (a1)), (2, .int .i64 (a3)), (3, .slice p5 (a4).length c6), (9, .pointer (some ⟨b11, 0, none⟩)), (11, .int .i64 (y76)), (14, .int .i64 (y162)), (18, .int .i64 (x241)), (100, .agg (flat [(21, (encs (fInt .i64) v96.2.2.2.2.1))]).toArray), (101, .int .i64 (y236)), (105, .agg (flat [(21, (encs (fInt .i64) v96.2.2.2.2.1))]).toArray), (106, .int .i64 (y293))] a ∧ SS [] κ0 w0 κ w [.box b11 30 [(1, [.int .i64 (v96.1)]), (1, [.int .i64 (v96.2.1)]), (4, (encs fBool v96.2.2.1)), (8, cs93), (21, (encs (fInt .i64) v96.2.2.2.2.1))]] [Ro.mp f_api_Cmd.ty p5 c6 a4, MP.const (List.length v96.2.2.2.2.1 = 21), MP.const (List.length v96.2.2.1 = 4), Arr.mp t_api_Map cs93 4 v96.2.2.2.1] ∧ M.law18_ConfigRuns_L6 N (M.law18_ConfigRuns_L5 N (M.law18_ConfigRuns_L1 N fuel1) fuel5) n a1 a3 a4 y76 v96 y162 y236 x241 y293 = some r) ?_ ?_
 exact ⟨_, 0, hF.keep' [0, 2, 3, 9, 11, 14, 18, 100, 101, 105, 106] (by kernel_rfl), (hS.selp [0] (by decide) (by kernel_rfl)).pick [0, 1, 2, 3] (by kernel_rfl), H⟩
 rintro n a w ⟨κ, y293, hF, hS, H⟩
 rcases n with _ | fuel6
 simp [M.law18_ConfigRuns_L6] at H
 simp only [M.law18_ConfigRuns_L6] at H
 refine wpIn_seq_k fun K294 hK294 => ?_
 refine wpIn_region_lit ?_
 refine wl_pure (L' := [(0, .int .i64 (a1)), (2, .int .i64 (a3)), (3, .slice p5 (a4).length c6), (9, .pointer (some ⟨b11, 0, none⟩)), (11, .int .i64 (y76)), (14, .int .i64 (y162)), (18, .int .i64 (x241)), (100, .agg (flat [(21, (encs (fInt .i64) v96.2.2.2.2.1))]).toArray), (101, .int .i64 (y236)), (105, .agg (flat [(21, (encs (fInt .i64) v96.2.2.2.2.1))]).toArray), (106, .int .i64 (y293)), (107, .bool (decide (y293 < 21)))]) 1 [0, 2, 3, 9, 11, 14, 18, 100, 101, 105, 106, 107] hF (by kernel_rfl) fun a hF => ?_
 refine wpListIn_nil ?_
 refine hK294 _ _ ?_
 refine wpIn_seq_k fun K295 hK295 => ?_
 refine bif_split H (fun hb H => ?_) (fun hb H => ?_)
 refine cond_t hF (by kernel_rfl) hb ?_
 refine wpIn_skip ?_
 refine hK295 _ _ ?_
 refine wpIn_seq_k fun K296 hK296 => ?_
 refine wpIn_block ?_
 refine wpIn_seq_k fun K297 hK297 => ?_
 refine wpIn_region_lit ?_
 refine bind_split H (fun x298 hx298 H => ?_)
 refine wl_cons rfl (wo_val hF (by kernel_rfl) (v := .int .i64 (x298)) (val_indexA1 (t := (fInt .i64)) (E := 3) (n := 21) (m := 21) rfl (by kernel_rfl) rfl hx298 (hS.get 1 rfl) rfl rfl (by kernel_rfl) (by kernel_rfl) (by kernel_rfl) _) fun a hF => ?_)
 refine wl_pure (L' := [(0, .int .i64 (a1)), (2, .int .i64 (a3)), (3, .slice p5 (a4).length c6), (9, .pointer (some ⟨b11, 0, none⟩)), (11, .int .i64 (y76)), (14, .int .i64 (y162)), (18, .int .i64 (x241)), (20, .int .i64 (x298)), (100, .agg (flat [(21, (encs (fInt .i64) v96.2.2.2.2.1))]).toArray), (101, .int .i64 (y236)), (105, .agg (flat [(21, (encs (fInt .i64) v96.2.2.2.2.1))]).toArray), (106, .int .i64 (y293))]) 1 [0, 2, 3, 9, 11, 14, 18, 20, 100, 101, 105, 106] hF (by kernel_rfl) fun a hF => ?_
 refine wpListIn_nil ?_
 refine hK297 _ _ ?_
 refine wpIn_seq_k fun K299 hK299 => ?_
 refine wpIn_region_lit ?_
 refine wl_pure (L' := [(0, .int .i64 (a1)), (2, .int .i64 (a3)), (3, .slice p5 (a4).length c6), (9, .pointer (some ⟨b11, 0, none⟩)), (11, .int .i64 (y76)), (14, .int .i64 (y162)), (18, .int .i64 (x241)), (100, .agg (flat [(21, (encs (fInt .i64) v96.2.2.2.2.1))]).toArray), (101, .int .i64 (y236)), (105, .agg (flat [(21, (encs (fInt .i64) v96.2.2.2.2.1))]).toArray), (106, .int .i64 (y293)), (109, .int .i64 (x241)), (110, .int .i64 (x298))]) 2 [0, 2, 3, 9, 11, 14, 18, 100, 101, 105, 106, 109, 110] hF (by kernel_rfl) fun a hF => ?_
 refine bind_split H (fun x300 hx300 H => ?_)
 refine wl_cons rfl (wo_callP (args := #[.int .i64 (x241), .int .i64 (x298)]) (f := 59) hF hS (by kernel_rfl) (by kernel_rfl) (C_wire_Agree N hS.fresh x241 x298  ((hS.pick [] (by kernel_rfl)).ro) hx300) ?_)
 rintro _ κ w a ⟨rfl, hR, hN⟩ hF hS hO
 refine wl_pure (L' := [(0, .int .i64 (a1)), (2, .int .i64 (a3)), (3, .slice p5 (a4).length c6), (9, .pointer (some ⟨b11, 0, none⟩)), (11, .int .i64 (y76)), (14, .int .i64 (y162)), (18, .int .i64 (x241)), (100, .agg (flat [(21, (encs (fInt .i64) v96.2.2.2.2.1))]).toArray), (101, .int .i64 (y236)), (105, .agg (flat [(21, (encs (fInt .i64) v96.2.2.2.2.1))]).toArray), (106, .int .i64 (y293)), (112, .bool ((x300 == 0)))]) 1 [0, 2, 3, 9, 11, 14, 18, 100, 101, 105, 106, 112] hF (by kernel_rfl) fun a hF => ?_
 refine wpListIn_nil ?_
 refine hK299 _ _ ?_
 refine bif_split H (fun hb H => ?_) (fun hb H => ?_)
 refine cond_t hF (by kernel_rfl) hb ?_
 refine wpIn_seq_k fun K301 hK301 => ?_
 refine wpIn_region_lit ?_
 refine wl_pure (L' := [(8, .bool (false))]) 1 [8] hF (by kernel_rfl) fun a hF => ?_
 refine wpListIn_nil ?_
 refine hK301 _ _ ?_
 refine wpIn_ret ?_
 cases H
 exact (ret_done hF hS (res1 Try.results15 (rv_tmp hF (by kernel_rfl))) ⟨rfl, (hS.pick [] (by kernel_rfl)).ro, hS.newC [] (by decide) (by kernel_rfl)⟩)
 refine cond_f hF (by kernel_rfl) hb ?_
 refine wpIn_skip ?_
 refine hK296 _ _ ?_
 refine wpIn_region_lit ?_
 refine wl_pure (L' := [(0, .int .i64 (a1)), (2, .int .i64 (a3)), (3, .slice p5 (a4).length c6), (9, .pointer (some ⟨b11, 0, none⟩)), (11, .int .i64 (y76)), (14, .int .i64 (y162)), (18, .int .i64 (x241)), (100, .agg (flat [(21, (encs (fInt .i64) v96.2.2.2.2.1))]).toArray), (101, .int .i64 (y236)), (105, .agg (flat [(21, (encs (fInt .i64) v96.2.2.2.2.1))]).toArray), (106, .int .i64 (IntKind.i64.wrap (y293 + 1)))]) 2 [0, 2, 3, 9, 11, 14, 18, 100, 101, 105, 106] hF (by kernel_rfl) fun a hF => ?_
 refine wpListIn_nil ?_
 exact ⟨fuel6, Nat.lt_succ_self _, _, IntKind.i64.wrap (y293 + 1), hF.keep' [0, 2, 3, 9, 11, 14, 18, 100, 101, 105, 106] (by kernel_rfl), (hS.selp [0] (by decide) (by kernel_rfl)).pick [0, 1, 2, 3] (by kernel_rfl), H⟩
 refine cond_f hF (by kernel_rfl) hb ?_
 refine wpIn_exit ?_
 refine hK239 _ _ ?_
 refine wpIn_region_lit ?_
 refine wl_pure (L' := [(0, .int .i64 (a1)), (2, .int .i64 (a3)), (3, .slice p5 (a4).length c6), (9, .pointer (some ⟨b11, 0, none⟩)), (11, .int .i64 (y76)), (14, .int .i64 (y162)), (100, .agg (flat [(21, (encs (fInt .i64) v96.2.2.2.2.1))]).toArray), (101, .int .i64 (IntKind.i64.wrap (y236 + 1)))]) 2 [0, 2, 3, 9, 11, 14, 100, 101] hF (by kernel_rfl) fun a hF => ?_
 refine wpListIn_nil ?_
 exact ⟨fuel5, Nat.lt_succ_self _, _, IntKind.i64.wrap (y236 + 1), hF.keep' [0, 2, 3, 9, 11, 14, 100, 101] (by kernel_rfl), (hS.selp [0] (by decide) (by kernel_rfl)).pick [0, 1, 2, 3] (by kernel_rfl), H⟩
 refine cond_f hF (by kernel_rfl) hb ?_
 refine wpIn_exit ?_
 refine hK184 _ _ ?_
 refine wpIn_seq_k fun K302 hK302 => ?_
 refine wpIn_region_lit ?_
 refine bind_split H (fun v304 hv304 H => ?_)
 refine wl_join (fun a w => ∃ κ : Gh, Fr (136) [] [(0, .int .i64 (a1)), (2, .int .i64 (a3)), (3, .slice p5 (a4).length c6), (9, .pointer (some ⟨b11, 0, none⟩)), (11, .int .i64 (y76)), (134, .bool (v304))] a ∧ SS [] κ0 w0 κ w [.box b11 30 [(1, [.int .i64 (v96.1)]), (1, [.int .i64 (v96.2.1)]), (4, (encs fBool v96.2.2.1)), (8, cs93), (21, (encs (fInt .i64) v96.2.2.2.2.1))]] [Ro.mp f_api_Cmd.ty p5 c6 a4, MP.const (List.length v96.2.2.1 = 4), Arr.mp t_api_Map cs93 4 v96.2.2.2.1, MP.const (List.length v96.2.2.2.2.1 = 21)] ∧ True) ?_ ?_
 refine wl_pure (L' := [(0, .int .i64 (a1)), (2, .int .i64 (a3)), (3, .slice p5 (a4).length c6), (9, .pointer (some ⟨b11, 0, none⟩)), (11, .int .i64 (y76)), (14, .int .i64 (y162)), (117, .bool ((y162 == 0)))]) 3 [0, 2, 3, 9, 11, 14, 117] hF (by kernel_rfl) fun a hF => ?_
 refine bif_split hv304 (fun hb hv304 => ?_) (fun hb hv304 => ?_)
 have hF := hF.boolv 117 (by kernel_rfl) hb
 refine wl_pure (L' := [(0, .int .i64 (a1)), (2, .int .i64 (a3)), (3, .slice p5 (a4).length c6), (9, .pointer (some ⟨b11, 0, none⟩)), (11, .int .i64 (y76)), (134, .bool (true))]) 17 [0, 2, 3, 9, 11, 134] hF (by kernel_rfl) fun a hF => ?_
 refine wpListIn_nil ?_
 cases hv304
 exact ⟨_, hF.keep' [0, 2, 3, 9, 11, 134] (by kernel_rfl), (hS.selp [0] (by decide) (by kernel_rfl)).pick [0, 2, 3, 1] (by kernel_rfl), trivial⟩
 have hF := hF.boolv 117 (by kernel_rfl) hb
 refine wl_pure (L' := [(0, .int .i64 (a1)), (2, .int .i64 (a3)), (3, .slice p5 (a4).length c6), (9, .pointer (some ⟨b11, 0, none⟩)), (11, .int .i64 (y76)), (117, .bool (false)), (118, .int .i64 (y162))]) 1 [0, 2, 3, 9, 11, 117, 118] hF (by kernel_rfl) fun a hF => ?_
 refine wl_consg hF (by kernel_rfl) (wo_loads hF hS (by kernel_rfl) 0 0 5 (s' := [(1, [.int .i64 (v96.1)]), (1, [.int .i64 (v96.2.1)]), (4, (encs fBool v96.2.2.1)), (8, cs93), (21, (encs (fInt .i64) v96.2.2.2.2.1))]) (n := 35) rfl rfl rfl (by kernel_rfl) (by kernel_rfl) (by kernel_rfl) (by kernel_rfl) (by kernel_rfl) fun a hF => ?_)
 refine bind_split hv304 (fun x305 hx305 hv304 => ?_)
 refine wl_consg hF (by kernel_rfl) (wo_callP (args := #[.agg (flat [(1, [.int .i64 (v96.1)]), (1, [.int .i64 (v96.2.1)]), (4, (encs fBool v96.2.2.1)), (8, cs93), (21, (encs (fInt .i64) v96.2.2.2.2.1))]).toArray]) (f := 27) hF hS (by kernel_rfl) (by kernel_rfl) (C_config_Count N hS.fresh (T_config_State.mk v96.1 v96.2.1 v96.2.2.1 v96.2.2.2.1 v96.2.2.2.2.1) cs93 ((hS.pick [2, 3, 1] (by kernel_rfl)).ro) hx305) ?_)
 rintro _ κ w a ⟨rfl, hR, hN⟩ hF hS hO
 refine wl_pure (L' := [(0, .int .i64 (a1)), (2, .int .i64 (a3)), (3, .slice p5 (a4).length c6), (9, .pointer (some ⟨b11, 0, none⟩)), (11, .int .i64 (y76)), (123, .bool ((y162 != x305)))]) 3 [0, 2, 3, 9, 11, 123] hF (by kernel_rfl) fun a hF => ?_
 refine bif_split hv304 (fun hb hv304 => ?_) (fun hb hv304 => ?_)
 have hF := hF.boolv 123 (by kernel_rfl) hb
 refine wl_pure (L' := [(0, .int .i64 (a1)), (2, .int .i64 (a3)), (3, .slice p5 (a4).length c6), (9, .pointer (some ⟨b11, 0, none⟩)), (11, .int .i64 (y76)), (134, .bool (true))]) 11 [0, 2, 3, 9, 11, 134] hF (by kernel_rfl) fun a hF => ?_
 refine wpListIn_nil ?_
 cases hv304
 exact ⟨_, hF.keep' [0, 2, 3, 9, 11, 134] (by kernel_rfl), (hS.selp [0] (by decide) (by kernel_rfl)).pick [0, 2, 3, 1] (by kernel_rfl), trivial⟩
 have hF := hF.boolv 123 (by kernel_rfl) hb
 refine wl_pure (L' := [(0, .int .i64 (a1)), (2, .int .i64 (a3)), (3, .slice p5 (a4).length c6), (9, .pointer (some ⟨b11, 0, none⟩)), (11, .int .i64 (y76)), (123, .bool (false)), (124, .pointer (some ⟨b11, 0, none⟩))]) 1 [0, 2, 3, 9, 11, 123, 124] hF (by kernel_rfl) fun a hF => ?_
 refine wl_consg hF (by kernel_rfl) (wo_load hF hS (by kernel_rfl) 0 0 0 (v := .int .i64 (v96.1)) rfl rfl rfl rfl rfl (by kernel_rfl) (by kernel_rfl) fun a hF => ?_)
 refine wl_pure (L' := [(0, .int .i64 (a1)), (2, .int .i64 (a3)), (3, .slice p5 (a4).length c6), (9, .pointer (some ⟨b11, 0, none⟩)), (11, .int .i64 (y76)), (129, .bool ((v96.1 != a1)))]) 4 [0, 2, 3, 9, 11, 129] hF (by kernel_rfl) fun a hF => ?_
 refine bif_split hv304 (fun hb hv304 => ?_) (fun hb hv304 => ?_)
 have hF := hF.boolv 129 (by kernel_rfl) hb
 refine wl_pure (L' := [(0, .int .i64 (a1)), (2, .int .i64 (a3)), (3, .slice p5 (a4).length c6), (9, .pointer (some ⟨b11, 0, none⟩)), (11, .int .i64 (y76)), (134, .bool (true))]) 5 [0, 2, 3, 9, 11, 134] hF (by kernel_rfl) fun a hF => ?_
 refine wpListIn_nil ?_
 cases hv304
 exact ⟨_, hF.keep' [0, 2, 3, 9, 11, 134] (by kernel_rfl), (hS.selp [0] (by decide) (by kernel_rfl)).pick [0, 2, 3, 1] (by kernel_rfl), trivial⟩
 have hF := hF.boolv 129 (by kernel_rfl) hb
 refine wl_pure (L' := [(0, .int .i64 (a1)), (2, .int .i64 (a3)), (3, .slice p5 (a4).length c6), (9, .pointer (some ⟨b11, 0, none⟩)), (11, .int .i64 (y76)), (129, .bool (false)), (130, .pointer (some ⟨b11, 1, none⟩))]) 1 [0, 2, 3, 9, 11, 129, 130] hF (by kernel_rfl) fun a hF => ?_
 refine wl_consg hF (by kernel_rfl) (wo_load hF hS (by kernel_rfl) 0 1 0 (v := .int .i64 (v96.2.1)) rfl rfl rfl rfl rfl (by kernel_rfl) (by kernel_rfl) fun a hF => ?_)
 refine wl_pure (L' := [(0, .int .i64 (a1)), (2, .int .i64 (a3)), (3, .slice p5 (a4).length c6), (9, .pointer (some ⟨b11, 0, none⟩)), (11, .int .i64 (y76)), (134, .bool ((v96.2.1 != a3)))]) 3 [0, 2, 3, 9, 11, 134] hF (by kernel_rfl) fun a hF => ?_
 refine wpListIn_nil ?_
 cases hv304
 exact ⟨_, hF.keep' [0, 2, 3, 9, 11, 134] (by kernel_rfl), (hS.selp [0] (by decide) (by kernel_rfl)).pick [0, 2, 3, 1] (by kernel_rfl), trivial⟩
 rintro a w ⟨κ, hF, hS, -⟩
 refine hK302 _ _ ?_
 refine bif_split H (fun hb H => ?_) (fun hb H => ?_)
 refine cond_t hF (by kernel_rfl) hb ?_
 refine wpIn_seq_k fun K306 hK306 => ?_
 refine wpIn_region_lit ?_
 refine wl_pure (L' := [(8, .bool (false))]) 1 [8] hF (by kernel_rfl) fun a hF => ?_
 refine wpListIn_nil ?_
 refine hK306 _ _ ?_
 refine wpIn_ret ?_
 cases H
 exact (ret_done hF hS (res1 Try.results15 (rv_tmp hF (by kernel_rfl))) ⟨rfl, (hS.pick [] (by kernel_rfl)).ro, hS.newC [] (by decide) (by kernel_rfl)⟩)
 refine cond_f hF (by kernel_rfl) hb ?_
 refine wpIn_skip ?_
 exact ⟨_, v96.1, v96.2.1, v96.2.2.1, v96.2.2.2.1, cs93, v96.2.2.2.2.1, hF.keep' [0, 2, 3, 9, 11] (by kernel_rfl), (hS.selp [0] (by decide) (by kernel_rfl)).pick [0, 1, 2, 3] (by kernel_rfl), H⟩
 rintro a w ⟨κ, y81, y82, y83, y84, cs85, y86, hF, hS, H⟩
 unfold M.law18_ConfigRuns_k2 at H
 refine wpIn_region_lit ?_
 refine wl_pure (L' := [(0, .int .i64 (a1)), (2, .int .i64 (a3)), (3, .slice p5 (a4).length c6), (9, .pointer (some ⟨b11, 0, none⟩)), (11, .int .i64 (IntKind.i64.wrap (y76 + 1)))]) 3 [0, 2, 3, 9, 11] hF (by kernel_rfl) fun a hF => ?_
 refine wpListIn_nil ?_
 exact ⟨fuel1, Nat.lt_succ_self _, _, y81, y82, y83, y84, cs85, y86, IntKind.i64.wrap (y76 + 1), hF.keep' [0, 2, 3, 9, 11] (by kernel_rfl), (hS.selp [0] (by decide) (by kernel_rfl)).pick [0, 1, 2, 3] (by kernel_rfl), H⟩
 refine cond_f hF (by kernel_rfl) hb ?_
 refine wpIn_exit ?_
 refine hK18 _ _ ?_
 refine wpIn_seq_k fun K307 hK307 => ?_
 refine wpIn_region_lit ?_
 refine bind_split H (fun x308 hx308 H => ?_)
 refine wl_cons rfl (wo_callP (args := #[]) (f := 25) hF hS (by kernel_rfl) (by kernel_rfl) (C_law18_awake N hS.fresh   ((hS.pick [] (by kernel_rfl)).ro) hx308) ?_)
 rintro _ κ w a ⟨rfl, hR, hN⟩ hF hS hO
 refine wl_pure (L' := [(8, .bool (x308))]) 1 [8] hF (by kernel_rfl) fun a hF => ?_
 refine wpListIn_nil ?_
 refine hK307 _ _ ?_
 refine wpIn_ret ?_
 cases H
 exact (ret_done hF hS (res1 Try.results15 (rv_tmp hF (by kernel_rfl))) ⟨rfl, (hS.pick [] (by kernel_rfl)).ro, hS.newC [] (by decide) (by kernel_rfl)⟩)
end Go.Cf
