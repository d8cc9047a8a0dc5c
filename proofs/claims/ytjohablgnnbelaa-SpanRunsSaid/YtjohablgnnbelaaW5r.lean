/- The walks: each function returns what its model says. Printed by a program of ours. -/
import Derived.Test.YtjohablgnnbelaaM5r
import Derived.Test.YtjohablgnnbelaaW1
import Derived.Test.YtjohablgnnbelaaW2b
import Derived.Test.YtjohablgnnbelaaW2c
import Derived.Test.YtjohablgnnbelaaW4
namespace Go.Cf
open Go Go.Proofs
set_option linter.unusedVariables false
set_option maxRecDepth 20000 in
set_option maxHeartbeats 1000000 in
theorem C_law08_SpanRuns (N : Nat) {κ0 : Gh} {w0 : World} (hfr : Fresh κ0 w0) (a1 : Int) (a2 : (List T_api_Cmd)) (a5 : ByteArray) (p3 : Option Addr) (c4 : Nat) (hR : ∀ m ∈ ([Ro.mp f_api_Cmd.ty p3 c4 a2] : List MP), m.p κ0 w0) {r : (Bool)} (H : M.law08_SpanRuns N a1 a2 a5 = some r) :
    Calls Try.prog 11 #[.int .i64 (a1), .slice p3 (a2).length c4, .string (a5)] w0 (Post [] κ0 w0 fun v κ w => v = .bool (r) ∧ (∀ m ∈ ([] : List MP), m.p κ w) ∧ NewC w0 κ w []) := by
  have hS := SS.start hfr hR
  clear hR
  refine enter (N := (87)) (L := [(0, .int .i64 (a1)), (1, .slice p3 (a2).length c4), (2, .string (a5))]) Try.func11 rfl Try.ntmps11 (show 3 ≤ (87) by decide) rfl fun a hF => ?_
  unfold M.law08_SpanRuns at H
  refine wpIn_seq_k fun K6 hK6 => ?_
  refine wpIn_region_lit ?_
  refine wl_pure (L' := [(0, .int .i64 (a1)), (1, .slice p3 (a2).length c4), (2, .string (a5))]) 1 [0, 1, 2] hF (by kernel_rfl) ?_
  clear hF
  intro a hF
  refine wpListIn_nil ?_
  refine hK6 _ _ ?_
  clear hK6 K6
  refine wpIn_seq_k fun K7 hK7 => ?_
  refine wpIn_region_lit ?_
  refine bind_split H (fun x8 hx8 H => ?_)
  refine wl_cons rfl (wo_callP (args := #[.int .i64 (0)]) (f := 52) hF hS (by kernel_rfl) (by kernel_rfl) (C_span_Whole N hS.fresh 0  ((hS.pick [] (by kernel_rfl)).ro) hx8) ?_)
  clear hF hS hx8
  rintro _ κ w a ⟨p9, c10, p11, c12, rfl, hR, hN⟩ hF hS hO
  have hS := hS.adds hR
  have hS := hS.addC hO hN
  clear hR hN hO
  refine wl_cons rfl (wo_alloc hF hS (by kernel_rfl) (z := .agg (flat [(1, [.slice none 0 0]), (1, [.slice none 0 0])]).toArray) (s := [(1, [.slice none 0 0]), (1, [.slice none 0 0])]) rfl (by kernel_rfl) (sgV rfl (sgV rfl sgNil)).1 (by kernel_rfl) ?_)
  clear hF hS
  intro b13 a w hF hS
  refine wl_cons rfl (wo_stores hF hS (by kernel_rfl) 0 0 2 (v := .agg (flat [(1, [.slice p9 (x8.Cuts).length c10]), (1, [.slice p11 (x8.Nodes).length c12])]).toArray) (s' := [(1, [.slice p9 (x8.Cuts).length c10]), (1, [.slice p11 (x8.Nodes).length c12])]) (t := [(1, [.slice p9 (x8.Cuts).length c10]), (1, [.slice p11 (x8.Nodes).length c12])]) (C' := [.box b13 26 [(1, [.slice p9 (x8.Cuts).length c10]), (1, [.slice p11 (x8.Nodes).length c12])], .tok p9 9 1 (x8.Cuts).length c10, .tok p11 3 1 (x8.Nodes).length c12]) (n := 2) rfl rfl (by kernel_rfl) rfl (by kernel_rfl) (by kernel_rfl) (by kernel_rfl) (by kernel_rfl) (sgV rfl (sgV rfl sgNil)).1 (sgV rfl (sgV rfl sgNil)).2 (by kernel_rfl) (by kernel_rfl) (by kernel_rfl) ?_)
  clear hF hS
  intro a w hF hS
  refine wpListIn_nil ?_
  refine hK7 _ _ ?_
  clear hK7 K7
  refine wpIn_seq_k fun K14 hK14 => ?_
  refine wpIn_region_lit ?_
  refine wl_pure (L' := [(0, .int .i64 (IntKind.i64.wrap ((IntKind.i64.wrap (Int.tmod (IntKind.u64.wrap a1) 4)) + 1))), (1, .slice p3 (a2).length c4), (2, .string (a5)), (7, .pointer (some ⟨b13, 0, none⟩))]) 6 [0, 1, 2, 7] hF (by kernel_rfl) ?_
  clear hF
  intro a hF
  refine wpListIn_nil ?_
  refine hK14 _ _ ?_
  clear hK14 K14
  refine wpIn_seq_k fun K15 hK15 => ?_
  refine wpIn_seq_k fun K16 hK16 => ?_
  refine wpIn_region_lit ?_
  refine wl_pure (L' := [(0, .int .i64 (IntKind.i64.wrap ((IntKind.i64.wrap (Int.tmod (IntKind.u64.wrap a1) 4)) + 1))), (1, .slice p3 (a2).length c4), (2, .string (a5)), (7, .pointer (some ⟨b13, 0, none⟩)), (8, .int .i64 (0))]) 1 [0, 1, 2, 7, 8] hF (by kernel_rfl) ?_
  clear hF
  intro a hF
  refine wpListIn_nil ?_
  refine hK16 _ _ ?_
  clear hK16 K16
  refine wpIn_block ?_
  refine loop_fuel (n := N) (fun n a w => ∃ κ : Gh, ∃ y67 : (List ByteArray), ∃ p68 : Option Addr, ∃ c69 : Nat, ∃ y70 : (List Int), ∃ p71 : Option Addr, ∃ c72 : Nat, ∃ y73 : Int, Fr (87) [] [(0, .int .i64 (IntKind.i64.wrap ((IntKind.i64.wrap (Int.tmod (IntKind.u64.wrap a1) 4)) + 1))), (1, .slice p3 (a2).length c4), (2, .string (a5)), (7, .pointer (some ⟨b13, 0, none⟩)), (8, .int .i64 (y73))] a ∧ SS [] κ0 w0 κ w [.box b13 26 [(1, [.slice p68 (y67).length c69]), (1, [.slice p71 (y70).length c72])], .tok p68 9 1 (y67).length c69, .tok p71 3 1 (y70).length c72] [Ro.mp f_api_Cmd.ty p3 c4 a2, Ro.mp fStr.ty p68 c69 y67, Ro.mp (fInt .i64).ty p71 c72 y70] ∧ M.law08_SpanRuns_L1 N n a1 a2 a5 y67 y70 y73 = some r) ?_ ?_
  · exact ⟨_, x8.Cuts, p9, c10, x8.Nodes, p11, c12, 0, hF.keep' [0, 1, 2, 7, 8] (by kernel_rfl), (hS.selp [0, 1, 2] (by decide) (by kernel_rfl)).pick [2, 0, 1] (by kernel_rfl), H⟩
  · clear hF hS H
    rintro n a w ⟨κ, y67, p68, c69, y70, p71, c72, y73, hF, hS, H⟩
    cases n with
    | zero => simp [M.law08_SpanRuns_L1] at H
    | succ fuel1 =>
      simp only [M.law08_SpanRuns_L1] at H
      refine wpIn_seq_k fun K74 hK74 => ?_
      refine wpIn_seq_k fun K75 hK75 => ?_
      refine wpIn_region_lit ?_
      refine bind_split H (fun v77 hv77 H => ?_)
      refine wl_join (fun a w => ∃ κ : Gh, Fr (87) [] [(0, .int .i64 (IntKind.i64.wrap ((IntKind.i64.wrap (Int.tmod (IntKind.u64.wrap a1) 4)) + 1))), (1, .slice p3 (a2).length c4), (2, .string (a5)), (7, .pointer (some ⟨b13, 0, none⟩)), (8, .int .i64 (y73)), (26, .bool (v77))] a ∧ SS [] κ0 w0 κ w [.box b13 26 [(1, [.slice p68 (y67).length c69]), (1, [.slice p71 (y70).length c72])], .tok p68 9 1 (y67).length c69, .tok p71 3 1 (y70).length c72] [Ro.mp f_api_Cmd.ty p3 c4 a2, Ro.mp fStr.ty p68 c69 y67, Ro.mp (fInt .i64).ty p71 c72 y70] ∧ True) ?_ ?_
      · clear H
        refine wl_pure (L' := [(0, .int .i64 (IntKind.i64.wrap ((IntKind.i64.wrap (Int.tmod (IntKind.u64.wrap a1) 4)) + 1))), (1, .slice p3 (a2).length c4), (2, .string (a5)), (7, .pointer (some ⟨b13, 0, none⟩)), (8, .int .i64 (y73)), (23, .bool (decide (y73 < ((a2).length : Int))))]) 5 [0, 1, 2, 7, 8, 23] hF (by kernel_rfl) ?_
        clear hF
        intro a hF
        refine bif_split hv77 (fun hb hv77 => ?_) (fun hb hv77 => ?_)
        · have hF := hF.boolv 23 (by kernel_rfl) hb
          clear hb
          refine wl_pure (L' := [(0, .int .i64 (IntKind.i64.wrap ((IntKind.i64.wrap (Int.tmod (IntKind.u64.wrap a1) 4)) + 1))), (1, .slice p3 (a2).length c4), (2, .string (a5)), (7, .pointer (some ⟨b13, 0, none⟩)), (8, .int .i64 (y73)), (26, .bool (decide (y73 < 60)))]) 3 [0, 1, 2, 7, 8, 26] hF (by kernel_rfl) ?_
          clear hF
          intro a hF
          refine wpListIn_nil ?_
          cases hv77
          exact ⟨_, hF.keep' [0, 1, 2, 7, 8, 26] (by kernel_rfl), (hS.selp [0, 1, 2] (by decide) (by kernel_rfl)).pick [0, 1, 2] (by kernel_rfl), trivial⟩
        · have hF := hF.boolv 23 (by kernel_rfl) hb
          clear hb
          refine wl_pure (L' := [(0, .int .i64 (IntKind.i64.wrap ((IntKind.i64.wrap (Int.tmod (IntKind.u64.wrap a1) 4)) + 1))), (1, .slice p3 (a2).length c4), (2, .string (a5)), (7, .pointer (some ⟨b13, 0, none⟩)), (8, .int .i64 (y73)), (26, .bool (false))]) 3 [0, 1, 2, 7, 8, 26] hF (by kernel_rfl) ?_
          clear hF
          intro a hF
          refine wpListIn_nil ?_
          cases hv77
          exact ⟨_, hF.keep' [0, 1, 2, 7, 8, 26] (by kernel_rfl), (hS.selp [0, 1, 2] (by decide) (by kernel_rfl)).pick [0, 1, 2] (by kernel_rfl), trivial⟩
      · clear hF hS hv77
        rintro a w ⟨κ, hF, hS, -⟩
        refine hK75 _ _ ?_
        clear hK75 K75
        refine bif_split H (fun hb H => ?_) (fun hb H => ?_)
        · refine cond_t hF (by kernel_rfl) hb ?_
          clear hb
          refine wpIn_skip ?_
          refine hK74 _ _ ?_
          refine wpIn_seq_k fun K78 hK78 => ?_
          refine wpIn_block ?_
          refine wpIn_seq_k fun K79 hK79 => ?_
          refine wpIn_region_lit ?_
          refine wl_pure (L' := [(0, .int .i64 (IntKind.i64.wrap ((IntKind.i64.wrap (Int.tmod (IntKind.u64.wrap a1) 4)) + 1))), (1, .slice p3 (a2).length c4), (2, .string (a5)), (7, .pointer (some ⟨b13, 0, none⟩)), (8, .int .i64 (y73)), (29, .slice p3 (a2).length c4), (30, .int .i64 (y73))]) 2 [0, 1, 2, 7, 8, 29, 30] hF (by kernel_rfl) ?_
          clear hF
          intro a hF
          refine bind_split H (fun x80 hx80 H => ?_)
          refine wl_cons rfl (wo_index hF hS (by kernel_rfl) 0 (E := 72) (sz := 6) rfl rfl rfl (by kernel_rfl) rfl hx80 (by kernel_rfl) (by kernel_rfl) ?_)
          clear hF
          intro b81 f82 a hpx80 hF
          refine wl_cons rfl (wo_loadRoAgg (t := f_api_Cmd) hF hS (by kernel_rfl) 0 rfl rfl hpx80 rfl hx80 (by kernel_rfl) (by kernel_rfl) (by kernel_rfl) ?_)
          clear hF
          intro a hF
          refine wl_cons rfl (wo_alloc hF hS (by kernel_rfl) (z := .agg (flat [(1, [.int .i64 (0)]), (1, [.int .i64 (0)]), (1, [.int .i64 (0)]), (1, [.int .i64 (0)]), (1, [.int .i64 (0)]), (1, [.string (ByteArray.empty)])]).toArray) (s := [(1, [.int .i64 (0)]), (1, [.int .i64 (0)]), (1, [.int .i64 (0)]), (1, [.int .i64 (0)]), (1, [.int .i64 (0)]), (1, [.string (ByteArray.empty)])]) rfl (by kernel_rfl) (sgV rfl (sgV rfl (sgV rfl (sgV rfl (sgV rfl (sgV rfl sgNil)))))).1 (by kernel_rfl) ?_)
          clear hF hS
          intro b83 a w hF hS
          refine wl_cons rfl (wo_stores hF hS (by kernel_rfl) 0 0 6 (v := .agg (flat [(1, [.int .i64 (x80.Kind)]), (1, [.int .i64 (x80.DC)]), (1, [.int .i64 (x80.Shard)]), (1, [.int .i64 (x80.Node)]), (1, [.int .i64 (x80.Mode)]), (1, [.string (x80.Key)])]).toArray) (s' := [(1, [.int .i64 (x80.Kind)]), (1, [.int .i64 (x80.DC)]), (1, [.int .i64 (x80.Shard)]), (1, [.int .i64 (x80.Node)]), (1, [.int .i64 (x80.Mode)]), (1, [.string (x80.Key)])]) (t := [(1, [.int .i64 (x80.Kind)]), (1, [.int .i64 (x80.DC)]), (1, [.int .i64 (x80.Shard)]), (1, [.int .i64 (x80.Node)]), (1, [.int .i64 (x80.Mode)]), (1, [.string (x80.Key)])]) (C' := [.box b83 72 [(1, [.int .i64 (x80.Kind)]), (1, [.int .i64 (x80.DC)]), (1, [.int .i64 (x80.Shard)]), (1, [.int .i64 (x80.Node)]), (1, [.int .i64 (x80.Mode)]), (1, [.string (x80.Key)])], .box b13 26 [(1, [.slice p68 (y67).length c69]), (1, [.slice p71 (y70).length c72])], .tok p68 9 1 (y67).length c69, .tok p71 3 1 (y70).length c72]) (n := 6) rfl rfl (by kernel_rfl) rfl (by kernel_rfl) (by kernel_rfl) (by kernel_rfl) (by kernel_rfl) (sgV rfl (sgV rfl (sgV rfl (sgV rfl (sgV rfl (sgV rfl sgNil)))))).1 (sgV rfl (sgV rfl (sgV rfl (sgV rfl (sgV rfl (sgV rfl sgNil)))))).2 (by kernel_rfl) (by kernel_rfl) (by kernel_rfl) ?_)
          clear hF hS
          intro a w hF hS
          refine wpListIn_nil ?_
          refine hK79 _ _ ?_
          clear hK79 K79
          refine wpIn_seq_k fun K84 hK84 => ?_
          refine wpIn_region_lit ?_
          refine wl_cons rfl (wo_loads hF hS (by kernel_rfl) 1 0 2 (s' := [(1, [.slice p68 (y67).length c69]), (1, [.slice p71 (y70).length c72])]) (n := 2) rfl rfl rfl (by kernel_rfl) (by kernel_rfl) (by kernel_rfl) (by kernel_rfl) (by kernel_rfl) ?_)
          clear hF
          intro a hF
          refine wl_pure (L' := [(0, .int .i64 (IntKind.i64.wrap ((IntKind.i64.wrap (Int.tmod (IntKind.u64.wrap a1) 4)) + 1))), (1, .slice p3 (a2).length c4), (2, .string (a5)), (7, .pointer (some ⟨b13, 0, none⟩)), (8, .int .i64 (y73)), (9, .pointer (some ⟨b83, 0, none⟩)), (34, .agg (flat [(1, [.slice p68 (y67).length c69]), (1, [.slice p71 (y70).length c72])]).toArray), (35, .int .i64 (IntKind.i64.wrap ((IntKind.i64.wrap (Int.tmod (IntKind.u64.wrap a1) 4)) + 1))), (36, .pointer (some ⟨b83, 2, none⟩))]) 2 [0, 1, 2, 7, 8, 9, 34, 35, 36] hF (by kernel_rfl) ?_
          clear hF
          intro a hF
          refine wl_cons rfl (wo_load hF hS (by kernel_rfl) 0 2 0 (v := .int .i64 (x80.Shard)) rfl rfl rfl rfl rfl (by kernel_rfl) (by kernel_rfl) ?_)
          clear hF
          intro a hF
          refine wl_pure (L' := [(0, .int .i64 (IntKind.i64.wrap ((IntKind.i64.wrap (Int.tmod (IntKind.u64.wrap a1) 4)) + 1))), (1, .slice p3 (a2).length c4), (2, .string (a5)), (7, .pointer (some ⟨b13, 0, none⟩)), (8, .int .i64 (y73)), (9, .pointer (some ⟨b83, 0, none⟩)), (34, .agg (flat [(1, [.slice p68 (y67).length c69]), (1, [.slice p71 (y70).length c72])]).toArray), (35, .int .i64 (IntKind.i64.wrap ((IntKind.i64.wrap (Int.tmod (IntKind.u64.wrap a1) 4)) + 1))), (37, .int .i64 (x80.Shard)), (38, .pointer (some ⟨b83, 3, none⟩))]) 1 [0, 1, 2, 7, 8, 9, 34, 35, 37, 38] hF (by kernel_rfl) ?_
          clear hF
          intro a hF
          refine wl_cons rfl (wo_load hF hS (by kernel_rfl) 0 3 0 (v := .int .i64 (x80.Node)) rfl rfl rfl rfl rfl (by kernel_rfl) (by kernel_rfl) ?_)
          clear hF
          intro a hF
          refine bind_split H (fun x85 hx85 H => ?_)
          refine wl_cons rfl (wo_callP (args := #[.agg (flat [(1, [.slice p68 (y67).length c69]), (1, [.slice p71 (y70).length c72])]).toArray, .int .i64 (IntKind.i64.wrap ((IntKind.i64.wrap (Int.tmod (IntKind.u64.wrap a1) 4)) + 1)), .int .i64 (x80.Shard), .int .i64 (x80.Node)]) (f := 45) hF hS (by kernel_rfl) (by kernel_rfl) (C_span_Move N hS.fresh (T_api_Map.mk y67 y70) (IntKind.i64.wrap ((IntKind.i64.wrap (Int.tmod (IntKind.u64.wrap a1) 4)) + 1)) x80.Shard x80.Node p68 c69 p71 c72 ((hS.pick [1, 2] (by kernel_rfl)).ro) hx85) ?_)
          clear hF hS hx85
          rintro _ κ w a ⟨p86, c87, p88, c89, rfl, hR, hN⟩ hF hS hO
          have hS := hS.adds hR
          have hS := hS.addC hO hN
          clear hR hN hO
          refine wl_pure (L' := [(0, .int .i64 (IntKind.i64.wrap ((IntKind.i64.wrap (Int.tmod (IntKind.u64.wrap a1) 4)) + 1))), (1, .slice p3 (a2).length c4), (2, .string (a5)), (7, .pointer (some ⟨b13, 0, none⟩)), (8, .int .i64 (y73)), (9, .pointer (some ⟨b83, 0, none⟩)), (41, .agg (flat [(1, [.slice p86 (x85.1.Cuts).length c87]), (1, [.slice p88 (x85.1.Nodes).length c89])]).toArray), (42, .int .i64 (x85.2))]) 3 [0, 1, 2, 7, 8, 9, 41, 42] hF (by kernel_rfl) ?_
          clear hF
          intro a hF
          refine wl_cons rfl (wo_alloc hF hS (by kernel_rfl) (z := .agg (flat [(1, [.slice none 0 0]), (1, [.slice none 0 0])]).toArray) (s := [(1, [.slice none 0 0]), (1, [.slice none 0 0])]) rfl (by kernel_rfl) (sgV rfl (sgV rfl sgNil)).1 (by kernel_rfl) ?_)
          clear hF hS
          intro b90 a w hF hS
          refine wl_cons rfl (wo_stores hF hS (by kernel_rfl) 0 0 2 (v := .agg (flat [(1, [.slice p86 (x85.1.Cuts).length c87]), (1, [.slice p88 (x85.1.Nodes).length c89])]).toArray) (s' := [(1, [.slice p86 (x85.1.Cuts).length c87]), (1, [.slice p88 (x85.1.Nodes).length c89])]) (t := [(1, [.slice p86 (x85.1.Cuts).length c87]), (1, [.slice p88 (x85.1.Nodes).length c89])]) (C' := [.box b90 26 [(1, [.slice p86 (x85.1.Cuts).length c87]), (1, [.slice p88 (x85.1.Nodes).length c89])], .tok p86 9 1 (x85.1.Cuts).length c87, .tok p88 3 1 (x85.1.Nodes).length c89, .box b83 72 [(1, [.int .i64 (x80.Kind)]), (1, [.int .i64 (x80.DC)]), (1, [.int .i64 (x80.Shard)]), (1, [.int .i64 (x80.Node)]), (1, [.int .i64 (x80.Mode)]), (1, [.string (x80.Key)])], .box b13 26 [(1, [.slice p68 (y67).length c69]), (1, [.slice p71 (y70).length c72])], .tok p68 9 1 (y67).length c69, .tok p71 3 1 (y70).length c72]) (n := 2) rfl rfl (by kernel_rfl) rfl (by kernel_rfl) (by kernel_rfl) (by kernel_rfl) (by kernel_rfl) (sgV rfl (sgV rfl sgNil)).1 (sgV rfl (sgV rfl sgNil)).2 (by kernel_rfl) (by kernel_rfl) (by kernel_rfl) ?_)
          clear hF hS
          intro a w hF hS
          refine wl_pure (L' := [(0, .int .i64 (IntKind.i64.wrap ((IntKind.i64.wrap (Int.tmod (IntKind.u64.wrap a1) 4)) + 1))), (1, .slice p3 (a2).length c4), (2, .string (a5)), (7, .pointer (some ⟨b13, 0, none⟩)), (8, .int .i64 (y73)), (9, .pointer (some ⟨b83, 0, none⟩)), (10, .pointer (some ⟨b90, 0, none⟩)), (11, .int .i64 (x85.2))]) 1 [0, 1, 2, 7, 8, 9, 10, 11] hF (by kernel_rfl) ?_
          clear hF
          intro a hF
          refine wpListIn_nil ?_
          refine hK84 _ _ ?_
          clear hK84 K84
          refine seq_join (fun a w => ∃ κ : Gh, ∃ y91 : (List ByteArray), ∃ p92 : Option Addr, ∃ c93 : Nat, ∃ y94 : (List Int), ∃ p95 : Option Addr, ∃ c96 : Nat, ∃ y97 : Int, Fr (87) [] [(0, .int .i64 (IntKind.i64.wrap ((IntKind.i64.wrap (Int.tmod (IntKind.u64.wrap a1) 4)) + 1))), (1, .slice p3 (a2).length c4), (2, .string (a5)), (7, .pointer (some ⟨b13, 0, none⟩)), (8, .int .i64 (y73)), (10, .pointer (some ⟨b90, 0, none⟩)), (11, .int .i64 (y97))] a ∧ SS [] κ0 w0 κ w [.box b90 26 [(1, [.slice p92 (y91).length c93]), (1, [.slice p95 (y94).length c96])], .box b13 26 [(1, [.slice p68 (y67).length c69]), (1, [.slice p71 (y70).length c72])], .tok p92 9 1 (y91).length c93, .tok p95 3 1 (y94).length c96, .tok p68 9 1 (y67).length c69, .tok p71 3 1 (y70).length c72] [Ro.mp f_api_Cmd.ty p3 c4 a2, Ro.mp fStr.ty p92 c93 y91, Ro.mp (fInt .i64).ty p95 c96 y94, Ro.mp fStr.ty p68 c69 y67, Ro.mp (fInt .i64).ty p71 c72 y70] ∧ M.law08_SpanRuns_k2 N (M.law08_SpanRuns_L1 N fuel1) a1 a2 a5 y67 y70 y73 y91 y94 y97 = some r) ?_ ?_
          · refine wpIn_seq_k fun K112 hK112 => ?_
            refine wpIn_region_lit ?_
            refine wl_pure (L' := [(0, .int .i64 (IntKind.i64.wrap ((IntKind.i64.wrap (Int.tmod (IntKind.u64.wrap a1) 4)) + 1))), (1, .slice p3 (a2).length c4), (2, .string (a5)), (7, .pointer (some ⟨b13, 0, none⟩)), (8, .int .i64 (y73)), (9, .pointer (some ⟨b83, 0, none⟩)), (10, .pointer (some ⟨b90, 0, none⟩)), (11, .int .i64 (x85.2)), (43, .pointer (some ⟨b83, 0, none⟩))]) 1 [0, 1, 2, 7, 8, 9, 10, 11, 43] hF (by kernel_rfl) ?_
            clear hF
            intro a hF
            refine wl_cons rfl (wo_load hF hS (by kernel_rfl) 3 0 0 (v := .int .i64 (x80.Kind)) rfl rfl rfl rfl rfl (by kernel_rfl) (by kernel_rfl) ?_)
            clear hF
            intro a hF
            refine wpListIn_nil ?_
            refine hK112 _ _ ?_
            clear hK112 K112
            refine wpIn_block ?_
            refine wpIn_seq_k fun K113 hK113 => ?_
            refine wpIn_region_lit ?_
            refine wl_pure (L' := [(0, .int .i64 (IntKind.i64.wrap ((IntKind.i64.wrap (Int.tmod (IntKind.u64.wrap a1) 4)) + 1))), (1, .slice p3 (a2).length c4), (2, .string (a5)), (7, .pointer (some ⟨b13, 0, none⟩)), (8, .int .i64 (y73)), (9, .pointer (some ⟨b83, 0, none⟩)), (10, .pointer (some ⟨b90, 0, none⟩)), (11, .int .i64 (x85.2)), (44, .int .i64 (x80.Kind)), (45, .bool ((x80.Kind == 3)))]) 2 [0, 1, 2, 7, 8, 9, 10, 11, 44, 45] hF (by kernel_rfl) ?_
            clear hF
            intro a hF
            refine wpListIn_nil ?_
            refine hK113 _ _ ?_
            clear hK113 K113
            refine bif_split H (fun hb H => ?_) (fun hb H => ?_)
            · refine cond_t hF (by kernel_rfl) hb ?_
              clear hb
              refine wpIn_region_lit ?_
              refine wl_cons rfl (wo_loads hF hS (by kernel_rfl) 4 0 2 (s' := [(1, [.slice p68 (y67).length c69]), (1, [.slice p71 (y70).length c72])]) (n := 2) rfl rfl rfl (by kernel_rfl) (by kernel_rfl) (by kernel_rfl) (by kernel_rfl) (by kernel_rfl) ?_)
              clear hF
              intro a hF
              refine wl_pure (L' := [(0, .int .i64 (IntKind.i64.wrap ((IntKind.i64.wrap (Int.tmod (IntKind.u64.wrap a1) 4)) + 1))), (1, .slice p3 (a2).length c4), (2, .string (a5)), (7, .pointer (some ⟨b13, 0, none⟩)), (8, .int .i64 (y73)), (9, .pointer (some ⟨b83, 0, none⟩)), (10, .pointer (some ⟨b90, 0, none⟩)), (48, .agg (flat [(1, [.slice p68 (y67).length c69]), (1, [.slice p71 (y70).length c72])]).toArray), (49, .int .i64 (IntKind.i64.wrap ((IntKind.i64.wrap (Int.tmod (IntKind.u64.wrap a1) 4)) + 1))), (50, .pointer (some ⟨b83, 2, none⟩))]) 2 [0, 1, 2, 7, 8, 9, 10, 48, 49, 50] hF (by kernel_rfl) ?_
              clear hF
              intro a hF
              refine wl_cons rfl (wo_load hF hS (by kernel_rfl) 3 2 0 (v := .int .i64 (x80.Shard)) rfl rfl rfl rfl rfl (by kernel_rfl) (by kernel_rfl) ?_)
              clear hF
              intro a hF
              refine wl_pure (L' := [(0, .int .i64 (IntKind.i64.wrap ((IntKind.i64.wrap (Int.tmod (IntKind.u64.wrap a1) 4)) + 1))), (1, .slice p3 (a2).length c4), (2, .string (a5)), (7, .pointer (some ⟨b13, 0, none⟩)), (8, .int .i64 (y73)), (10, .pointer (some ⟨b90, 0, none⟩)), (48, .agg (flat [(1, [.slice p68 (y67).length c69]), (1, [.slice p71 (y70).length c72])]).toArray), (49, .int .i64 (IntKind.i64.wrap ((IntKind.i64.wrap (Int.tmod (IntKind.u64.wrap a1) 4)) + 1))), (51, .int .i64 (x80.Shard)), (52, .pointer (some ⟨b83, 5, none⟩))]) 1 [0, 1, 2, 7, 8, 10, 48, 49, 51, 52] hF (by kernel_rfl) ?_
              clear hF
              intro a hF
              refine wl_cons rfl (wo_load hF hS (by kernel_rfl) 3 5 0 (v := .string (x80.Key)) rfl rfl rfl rfl rfl (by kernel_rfl) (by kernel_rfl) ?_)
              clear hF
              intro a hF
              refine bind_split H (fun x114 hx114 H => ?_)
              refine wl_cons rfl (wo_callP (args := #[.agg (flat [(1, [.slice p68 (y67).length c69]), (1, [.slice p71 (y70).length c72])]).toArray, .int .i64 (IntKind.i64.wrap ((IntKind.i64.wrap (Int.tmod (IntKind.u64.wrap a1) 4)) + 1)), .int .i64 (x80.Shard), .string (x80.Key)]) (f := 42) hF hS (by kernel_rfl) (by kernel_rfl) (C_span_Split N hS.fresh (T_api_Map.mk y67 y70) (IntKind.i64.wrap ((IntKind.i64.wrap (Int.tmod (IntKind.u64.wrap a1) 4)) + 1)) x80.Shard x80.Key p68 c69 p71 c72 ((hS.pick [3, 4] (by kernel_rfl)).ro) hx114) ?_)
              clear hF hS hx114
              rintro _ κ w a ⟨p115, c116, p117, c118, rfl, hR, hN⟩ hF hS hO
              have hS := hS.adds hR
              have hS := hS.addC hO hN
              clear hR hN hO
              refine wl_pure (L' := [(0, .int .i64 (IntKind.i64.wrap ((IntKind.i64.wrap (Int.tmod (IntKind.u64.wrap a1) 4)) + 1))), (1, .slice p3 (a2).length c4), (2, .string (a5)), (7, .pointer (some ⟨b13, 0, none⟩)), (8, .int .i64 (y73)), (10, .pointer (some ⟨b90, 0, none⟩)), (55, .agg (flat [(1, [.slice p115 (x114.1.Cuts).length c116]), (1, [.slice p117 (x114.1.Nodes).length c118])]).toArray), (56, .int .i64 (x114.2))]) 3 [0, 1, 2, 7, 8, 10, 55, 56] hF (by kernel_rfl) ?_
              clear hF
              intro a hF
              refine wl_cons rfl (wo_stores hF hS (by kernel_rfl) 2 0 2 (v := .agg (flat [(1, [.slice p115 (x114.1.Cuts).length c116]), (1, [.slice p117 (x114.1.Nodes).length c118])]).toArray) (s' := [(1, [.slice p115 (x114.1.Cuts).length c116]), (1, [.slice p117 (x114.1.Nodes).length c118])]) (t := [(1, [.slice p115 (x114.1.Cuts).length c116]), (1, [.slice p117 (x114.1.Nodes).length c118])]) (C' := [.tok p115 9 1 (x114.1.Cuts).length c116, .tok p117 3 1 (x114.1.Nodes).length c118, .box b90 26 [(1, [.slice p115 (x114.1.Cuts).length c116]), (1, [.slice p117 (x114.1.Nodes).length c118])], .tok p86 9 1 (x85.1.Cuts).length c87, .tok p88 3 1 (x85.1.Nodes).length c89, .box b83 72 [(1, [.int .i64 (x80.Kind)]), (1, [.int .i64 (x80.DC)]), (1, [.int .i64 (x80.Shard)]), (1, [.int .i64 (x80.Node)]), (1, [.int .i64 (x80.Mode)]), (1, [.string (x80.Key)])], .box b13 26 [(1, [.slice p68 (y67).length c69]), (1, [.slice p71 (y70).length c72])], .tok p68 9 1 (y67).length c69, .tok p71 3 1 (y70).length c72]) (n := 2) rfl rfl (by kernel_rfl) rfl (by kernel_rfl) (by kernel_rfl) (by kernel_rfl) (by kernel_rfl) (sgV rfl (sgV rfl sgNil)).1 (sgV rfl (sgV rfl sgNil)).2 (by kernel_rfl) (by kernel_rfl) (by kernel_rfl) ?_)
              clear hF hS
              intro a w hF hS
              refine wl_pure (L' := [(0, .int .i64 (IntKind.i64.wrap ((IntKind.i64.wrap (Int.tmod (IntKind.u64.wrap a1) 4)) + 1))), (1, .slice p3 (a2).length c4), (2, .string (a5)), (7, .pointer (some ⟨b13, 0, none⟩)), (8, .int .i64 (y73)), (10, .pointer (some ⟨b90, 0, none⟩)), (11, .int .i64 (x114.2))]) 1 [0, 1, 2, 7, 8, 10, 11] hF (by kernel_rfl) ?_
              clear hF
              intro a hF
              refine wpListIn_nil ?_
              exact ⟨_, x114.1.Cuts, p115, c116, x114.1.Nodes, p117, c118, x114.2, hF.keep' [0, 1, 2, 7, 8, 10, 11] (by kernel_rfl), (hS.selp [2, 6, 0, 1, 7, 8] (by decide) (by kernel_rfl)).pick [4, 0, 1, 5, 6] (by kernel_rfl), H⟩
            · refine cond_f hF (by kernel_rfl) hb ?_
              clear hb
              refine wpIn_seq_k fun K119 hK119 => ?_
              refine wpIn_region_lit ?_
              refine wl_pure (L' := [(0, .int .i64 (IntKind.i64.wrap ((IntKind.i64.wrap (Int.tmod (IntKind.u64.wrap a1) 4)) + 1))), (1, .slice p3 (a2).length c4), (2, .string (a5)), (7, .pointer (some ⟨b13, 0, none⟩)), (8, .int .i64 (y73)), (9, .pointer (some ⟨b83, 0, none⟩)), (10, .pointer (some ⟨b90, 0, none⟩)), (11, .int .i64 (x85.2)), (57, .bool ((x80.Kind == 4)))]) 2 [0, 1, 2, 7, 8, 9, 10, 11, 57] hF (by kernel_rfl) ?_
              clear hF
              intro a hF
              refine wpListIn_nil ?_
              refine hK119 _ _ ?_
              clear hK119 K119
              refine bif_split H (fun hb H => ?_) (fun hb H => ?_)
              · refine cond_t hF (by kernel_rfl) hb ?_
                clear hb
                refine wpIn_region_lit ?_
                refine wl_cons rfl (wo_loads hF hS (by kernel_rfl) 4 0 2 (s' := [(1, [.slice p68 (y67).length c69]), (1, [.slice p71 (y70).length c72])]) (n := 2) rfl rfl rfl (by kernel_rfl) (by kernel_rfl) (by kernel_rfl) (by kernel_rfl) (by kernel_rfl) ?_)
                clear hF
                intro a hF
                refine wl_pure (L' := [(0, .int .i64 (IntKind.i64.wrap ((IntKind.i64.wrap (Int.tmod (IntKind.u64.wrap a1) 4)) + 1))), (1, .slice p3 (a2).length c4), (2, .string (a5)), (7, .pointer (some ⟨b13, 0, none⟩)), (8, .int .i64 (y73)), (10, .pointer (some ⟨b90, 0, none⟩)), (60, .agg (flat [(1, [.slice p68 (y67).length c69]), (1, [.slice p71 (y70).length c72])]).toArray), (61, .int .i64 (IntKind.i64.wrap ((IntKind.i64.wrap (Int.tmod (IntKind.u64.wrap a1) 4)) + 1))), (62, .pointer (some ⟨b83, 2, none⟩))]) 2 [0, 1, 2, 7, 8, 10, 60, 61, 62] hF (by kernel_rfl) ?_
                clear hF
                intro a hF
                refine wl_cons rfl (wo_load hF hS (by kernel_rfl) 3 2 0 (v := .int .i64 (x80.Shard)) rfl rfl rfl rfl rfl (by kernel_rfl) (by kernel_rfl) ?_)
                clear hF
                intro a hF
                refine bind_split H (fun x120 hx120 H => ?_)
                refine wl_cons rfl (wo_callP (args := #[.agg (flat [(1, [.slice p68 (y67).length c69]), (1, [.slice p71 (y70).length c72])]).toArray, .int .i64 (IntKind.i64.wrap ((IntKind.i64.wrap (Int.tmod (IntKind.u64.wrap a1) 4)) + 1)), .int .i64 (x80.Shard)]) (f := 43) hF hS (by kernel_rfl) (by kernel_rfl) (C_span_Merge N hS.fresh (T_api_Map.mk y67 y70) (IntKind.i64.wrap ((IntKind.i64.wrap (Int.tmod (IntKind.u64.wrap a1) 4)) + 1)) x80.Shard p68 c69 p71 c72 ((hS.pick [3, 4] (by kernel_rfl)).ro) hx120) ?_)
                clear hF hS hx120
                rintro _ κ w a ⟨p121, c122, p123, c124, rfl, hR, hN⟩ hF hS hO
                have hS := hS.adds hR
                have hS := hS.addC hO hN
                clear hR hN hO
                refine wl_pure (L' := [(0, .int .i64 (IntKind.i64.wrap ((IntKind.i64.wrap (Int.tmod (IntKind.u64.wrap a1) 4)) + 1))), (1, .slice p3 (a2).length c4), (2, .string (a5)), (7, .pointer (some ⟨b13, 0, none⟩)), (8, .int .i64 (y73)), (10, .pointer (some ⟨b90, 0, none⟩)), (65, .agg (flat [(1, [.slice p121 (x120.1.Cuts).length c122]), (1, [.slice p123 (x120.1.Nodes).length c124])]).toArray), (66, .int .i64 (x120.2))]) 3 [0, 1, 2, 7, 8, 10, 65, 66] hF (by kernel_rfl) ?_
                clear hF
                intro a hF
                refine wl_cons rfl (wo_stores hF hS (by kernel_rfl) 2 0 2 (v := .agg (flat [(1, [.slice p121 (x120.1.Cuts).length c122]), (1, [.slice p123 (x120.1.Nodes).length c124])]).toArray) (s' := [(1, [.slice p121 (x120.1.Cuts).length c122]), (1, [.slice p123 (x120.1.Nodes).length c124])]) (t := [(1, [.slice p121 (x120.1.Cuts).length c122]), (1, [.slice p123 (x120.1.Nodes).length c124])]) (C' := [.tok p121 9 1 (x120.1.Cuts).length c122, .tok p123 3 1 (x120.1.Nodes).length c124, .box b90 26 [(1, [.slice p121 (x120.1.Cuts).length c122]), (1, [.slice p123 (x120.1.Nodes).length c124])], .tok p86 9 1 (x85.1.Cuts).length c87, .tok p88 3 1 (x85.1.Nodes).length c89, .box b83 72 [(1, [.int .i64 (x80.Kind)]), (1, [.int .i64 (x80.DC)]), (1, [.int .i64 (x80.Shard)]), (1, [.int .i64 (x80.Node)]), (1, [.int .i64 (x80.Mode)]), (1, [.string (x80.Key)])], .box b13 26 [(1, [.slice p68 (y67).length c69]), (1, [.slice p71 (y70).length c72])], .tok p68 9 1 (y67).length c69, .tok p71 3 1 (y70).length c72]) (n := 2) rfl rfl (by kernel_rfl) rfl (by kernel_rfl) (by kernel_rfl) (by kernel_rfl) (by kernel_rfl) (sgV rfl (sgV rfl sgNil)).1 (sgV rfl (sgV rfl sgNil)).2 (by kernel_rfl) (by kernel_rfl) (by kernel_rfl) ?_)
                clear hF hS
                intro a w hF hS
                refine wl_pure (L' := [(0, .int .i64 (IntKind.i64.wrap ((IntKind.i64.wrap (Int.tmod (IntKind.u64.wrap a1) 4)) + 1))), (1, .slice p3 (a2).length c4), (2, .string (a5)), (7, .pointer (some ⟨b13, 0, none⟩)), (8, .int .i64 (y73)), (10, .pointer (some ⟨b90, 0, none⟩)), (11, .int .i64 (x120.2))]) 1 [0, 1, 2, 7, 8, 10, 11] hF (by kernel_rfl) ?_
                clear hF
                intro a hF
                refine wpListIn_nil ?_
                exact ⟨_, x120.1.Cuts, p121, c122, x120.1.Nodes, p123, c124, x120.2, hF.keep' [0, 1, 2, 7, 8, 10, 11] (by kernel_rfl), (hS.selp [2, 6, 0, 1, 7, 8] (by decide) (by kernel_rfl)).pick [4, 0, 1, 5, 6] (by kernel_rfl), H⟩
              · refine cond_f hF (by kernel_rfl) hb ?_
                clear hb
                refine wpIn_skip ?_
                exact ⟨_, x85.1.Cuts, p86, c87, x85.1.Nodes, p88, c89, x85.2, hF.keep' [0, 1, 2, 7, 8, 10, 11] (by kernel_rfl), (hS.selp [0, 4, 1, 2, 5, 6] (by decide) (by kernel_rfl)).pick [2, 0, 1, 3, 4] (by kernel_rfl), H⟩
          · clear hF hS H
            rintro a w ⟨κ, y91, p92, c93, y94, p95, c96, y97, hF, hS, H⟩
            unfold M.law08_SpanRuns_k2 at H
            refine seq_join (fun a w => ∃ κ : Gh, ∃ y98 : (List ByteArray), ∃ p99 : Option Addr, ∃ c100 : Nat, ∃ y101 : (List Int), ∃ p102 : Option Addr, ∃ c103 : Nat, Fr (87) [] [(0, .int .i64 (IntKind.i64.wrap ((IntKind.i64.wrap (Int.tmod (IntKind.u64.wrap a1) 4)) + 1))), (1, .slice p3 (a2).length c4), (2, .string (a5)), (7, .pointer (some ⟨b13, 0, none⟩)), (8, .int .i64 (y73))] a ∧ SS [] κ0 w0 κ w [.box b13 26 [(1, [.slice p99 (y98).length c100]), (1, [.slice p102 (y101).length c103])], .tok p99 9 1 (y98).length c100, .tok p102 3 1 (y101).length c103] [Ro.mp f_api_Cmd.ty p3 c4 a2, Ro.mp fStr.ty p99 c100 y98, Ro.mp (fInt .i64).ty p102 c103 y101] ∧ M.law08_SpanRuns_k3 N (M.law08_SpanRuns_L1 N fuel1) a1 a2 a5 y73 y98 y101 = some r) ?_ ?_
            · refine wpIn_seq_k fun K111 hK111 => ?_
              refine wpIn_region_lit ?_
              refine wl_pure (L' := [(0, .int .i64 (IntKind.i64.wrap ((IntKind.i64.wrap (Int.tmod (IntKind.u64.wrap a1) 4)) + 1))), (1, .slice p3 (a2).length c4), (2, .string (a5)), (7, .pointer (some ⟨b13, 0, none⟩)), (8, .int .i64 (y73)), (10, .pointer (some ⟨b90, 0, none⟩)), (68, .bool ((y97 == 0)))]) 2 [0, 1, 2, 7, 8, 10, 68] hF (by kernel_rfl) ?_
              clear hF
              intro a hF
              refine wpListIn_nil ?_
              refine hK111 _ _ ?_
              clear hK111 K111
              refine bif_split H (fun hb H => ?_) (fun hb H => ?_)
              · refine cond_t hF (by kernel_rfl) hb ?_
                clear hb
                refine wpIn_region_lit ?_
                refine wl_cons rfl (wo_loads hF hS (by kernel_rfl) 0 0 2 (s' := [(1, [.slice p92 (y91).length c93]), (1, [.slice p95 (y94).length c96])]) (n := 2) rfl rfl rfl (by kernel_rfl) (by kernel_rfl) (by kernel_rfl) (by kernel_rfl) (by kernel_rfl) ?_)
                clear hF
                intro a hF
                refine wl_cons rfl (wo_stores hF hS (by kernel_rfl) 1 0 2 (v := .agg (flat [(1, [.slice p92 (y91).length c93]), (1, [.slice p95 (y94).length c96])]).toArray) (s' := [(1, [.slice p92 (y91).length c93]), (1, [.slice p95 (y94).length c96])]) (t := [(1, [.slice p92 (y91).length c93]), (1, [.slice p95 (y94).length c96])]) (C' := [.box b90 26 [(1, [.slice p92 (y91).length c93]), (1, [.slice p95 (y94).length c96])], .box b13 26 [(1, [.slice p92 (y91).length c93]), (1, [.slice p95 (y94).length c96])], .tok p92 9 1 (y91).length c93, .tok p95 3 1 (y94).length c96, .tok p68 9 1 (y67).length c69, .tok p71 3 1 (y70).length c72]) (n := 2) rfl rfl (by kernel_rfl) rfl (by kernel_rfl) (by kernel_rfl) (by kernel_rfl) (by kernel_rfl) (sgV rfl (sgV rfl sgNil)).1 (sgV rfl (sgV rfl sgNil)).2 (by kernel_rfl) (by kernel_rfl) (by kernel_rfl) ?_)
                clear hF hS
                intro a w hF hS
                refine wpListIn_nil ?_
                exact ⟨_, y91, p92, c93, y94, p95, c96, hF.keep' [0, 1, 2, 7, 8] (by kernel_rfl), (hS.selp [1, 2, 3] (by decide) (by kernel_rfl)).pick [0, 1, 2] (by kernel_rfl), H⟩
              · refine cond_f hF (by kernel_rfl) hb ?_
                clear hb
                refine wpIn_skip ?_
                exact ⟨_, y67, p68, c69, y70, p71, c72, hF.keep' [0, 1, 2, 7, 8] (by kernel_rfl), (hS.selp [1, 4, 5] (by decide) (by kernel_rfl)).pick [0, 3, 4] (by kernel_rfl), H⟩
            · clear hF hS H
              rintro a w ⟨κ, y98, p99, c100, y101, p102, c103, hF, hS, H⟩
              unfold M.law08_SpanRuns_k3 at H
              refine wpIn_seq_k fun K104 hK104 => ?_
              refine wpIn_region_lit ?_
              refine wl_cons rfl (wo_loads hF hS (by kernel_rfl) 0 0 2 (s' := [(1, [.slice p99 (y98).length c100]), (1, [.slice p102 (y101).length c103])]) (n := 2) rfl rfl rfl (by kernel_rfl) (by kernel_rfl) (by kernel_rfl) (by kernel_rfl) (by kernel_rfl) ?_)
              clear hF
              intro a hF
              refine wl_pure (L' := [(0, .int .i64 (IntKind.i64.wrap ((IntKind.i64.wrap (Int.tmod (IntKind.u64.wrap a1) 4)) + 1))), (1, .slice p3 (a2).length c4), (2, .string (a5)), (7, .pointer (some ⟨b13, 0, none⟩)), (8, .int .i64 (y73)), (70, .agg (flat [(1, [.slice p99 (y98).length c100]), (1, [.slice p102 (y101).length c103])]).toArray), (71, .string (a5))]) 1 [0, 1, 2, 7, 8, 70, 71] hF (by kernel_rfl) ?_
              clear hF
              intro a hF
              refine bind_split H (fun x105 hx105 H => ?_)
              refine wl_cons rfl (wo_callP (args := #[.agg (flat [(1, [.slice p99 (y98).length c100]), (1, [.slice p102 (y101).length c103])]).toArray, .string (a5)]) (f := 38) hF hS (by kernel_rfl) (by kernel_rfl) (C_span_Owner N hS.fresh (T_api_Map.mk y98 y101) a5 p99 c100 p102 c103 ((hS.pick [1, 2] (by kernel_rfl)).ro) hx105) ?_)
              clear hF hS hx105
              rintro _ κ w a ⟨rfl, hR, hN⟩ hF hS hO
              clear hR hN hO
              refine wl_pure (L' := [(0, .int .i64 (IntKind.i64.wrap ((IntKind.i64.wrap (Int.tmod (IntKind.u64.wrap a1) 4)) + 1))), (1, .slice p3 (a2).length c4), (2, .string (a5)), (7, .pointer (some ⟨b13, 0, none⟩)), (8, .int .i64 (y73)), (12, .int .i64 (x105))]) 1 [0, 1, 2, 7, 8, 12] hF (by kernel_rfl) ?_
              clear hF
              intro a hF
              refine wpListIn_nil ?_
              refine hK104 _ _ ?_
              clear hK104 K104
              refine wpIn_seq_k fun K106 hK106 => ?_
              refine wpIn_region_lit ?_
              refine bind_split H (fun v108 hv108 H => ?_)
              refine wl_join (fun a w => ∃ κ : Gh, Fr (87) [] [(0, .int .i64 (IntKind.i64.wrap ((IntKind.i64.wrap (Int.tmod (IntKind.u64.wrap a1) 4)) + 1))), (1, .slice p3 (a2).length c4), (2, .string (a5)), (7, .pointer (some ⟨b13, 0, none⟩)), (8, .int .i64 (y73)), (85, .bool (v108))] a ∧ SS [] κ0 w0 κ w [.box b13 26 [(1, [.slice p99 (y98).length c100]), (1, [.slice p102 (y101).length c103])], .tok p99 9 1 (y98).length c100, .tok p102 3 1 (y101).length c103] [Ro.mp f_api_Cmd.ty p3 c4 a2, Ro.mp fStr.ty p99 c100 y98, Ro.mp (fInt .i64).ty p102 c103 y101] ∧ True) ?_ ?_
              · clear H
                refine wl_cons rfl (wo_loads hF hS (by kernel_rfl) 0 0 2 (s' := [(1, [.slice p99 (y98).length c100]), (1, [.slice p102 (y101).length c103])]) (n := 2) rfl rfl rfl (by kernel_rfl) (by kernel_rfl) (by kernel_rfl) (by kernel_rfl) (by kernel_rfl) ?_)
                clear hF
                intro a hF
                refine wl_pure (L' := [(0, .int .i64 (IntKind.i64.wrap ((IntKind.i64.wrap (Int.tmod (IntKind.u64.wrap a1) 4)) + 1))), (1, .slice p3 (a2).length c4), (2, .string (a5)), (7, .pointer (some ⟨b13, 0, none⟩)), (8, .int .i64 (y73)), (12, .int .i64 (x105)), (73, .agg (flat [(1, [.slice p99 (y98).length c100]), (1, [.slice p102 (y101).length c103])]).toArray), (74, .int .i64 (IntKind.i64.wrap ((IntKind.i64.wrap (Int.tmod (IntKind.u64.wrap a1) 4)) + 1)))]) 1 [0, 1, 2, 7, 8, 12, 73, 74] hF (by kernel_rfl) ?_
                clear hF
                intro a hF
                refine bind_split hv108 (fun x109 hx109 hv108 => ?_)
                refine wl_cons rfl (wo_callP (args := #[.agg (flat [(1, [.slice p99 (y98).length c100]), (1, [.slice p102 (y101).length c103])]).toArray, .int .i64 (IntKind.i64.wrap ((IntKind.i64.wrap (Int.tmod (IntKind.u64.wrap a1) 4)) + 1))]) (f := 30) hF hS (by kernel_rfl) (by kernel_rfl) (C_span_Check N hS.fresh (T_api_Map.mk y98 y101) (IntKind.i64.wrap ((IntKind.i64.wrap (Int.tmod (IntKind.u64.wrap a1) 4)) + 1)) p99 c100 p102 c103 ((hS.pick [1, 2] (by kernel_rfl)).ro) hx109) ?_)
                clear hF hS hx109
                rintro _ κ w a ⟨rfl, hR, hN⟩ hF hS hO
                clear hR hN hO
                refine wl_pure (L' := [(0, .int .i64 (IntKind.i64.wrap ((IntKind.i64.wrap (Int.tmod (IntKind.u64.wrap a1) 4)) + 1))), (1, .slice p3 (a2).length c4), (2, .string (a5)), (7, .pointer (some ⟨b13, 0, none⟩)), (8, .int .i64 (y73)), (12, .int .i64 (x105)), (77, .bool ((x109 != 0)))]) 2 [0, 1, 2, 7, 8, 12, 77] hF (by kernel_rfl) ?_
                clear hF
                intro a hF
                refine bif_split hv108 (fun hb hv108 => ?_) (fun hb hv108 => ?_)
                · have hF := hF.boolv 77 (by kernel_rfl) hb
                  clear hb
                  refine wl_pure (L' := [(0, .int .i64 (IntKind.i64.wrap ((IntKind.i64.wrap (Int.tmod (IntKind.u64.wrap a1) 4)) + 1))), (1, .slice p3 (a2).length c4), (2, .string (a5)), (7, .pointer (some ⟨b13, 0, none⟩)), (8, .int .i64 (y73)), (85, .bool (true))]) 8 [0, 1, 2, 7, 8, 85] hF (by kernel_rfl) ?_
                  clear hF
                  intro a hF
                  refine wpListIn_nil ?_
                  cases hv108
                  exact ⟨_, hF.keep' [0, 1, 2, 7, 8, 85] (by kernel_rfl), (hS.selp [0, 1, 2] (by decide) (by kernel_rfl)).pick [0, 1, 2] (by kernel_rfl), trivial⟩
                · have hF := hF.boolv 77 (by kernel_rfl) hb
                  clear hb
                  refine wl_pure (L' := [(0, .int .i64 (IntKind.i64.wrap ((IntKind.i64.wrap (Int.tmod (IntKind.u64.wrap a1) 4)) + 1))), (1, .slice p3 (a2).length c4), (2, .string (a5)), (7, .pointer (some ⟨b13, 0, none⟩)), (8, .int .i64 (y73)), (12, .int .i64 (x105)), (81, .bool (decide (x105 < 0)))]) 4 [0, 1, 2, 7, 8, 12, 81] hF (by kernel_rfl) ?_
                  clear hF
                  intro a hF
                  refine bif_split hv108 (fun hb hv108 => ?_) (fun hb hv108 => ?_)
                  · have hF := hF.boolv 81 (by kernel_rfl) hb
                    clear hb
                    refine wl_pure (L' := [(0, .int .i64 (IntKind.i64.wrap ((IntKind.i64.wrap (Int.tmod (IntKind.u64.wrap a1) 4)) + 1))), (1, .slice p3 (a2).length c4), (2, .string (a5)), (7, .pointer (some ⟨b13, 0, none⟩)), (8, .int .i64 (y73)), (85, .bool (true))]) 4 [0, 1, 2, 7, 8, 85] hF (by kernel_rfl) ?_
                    clear hF
                    intro a hF
                    refine wpListIn_nil ?_
                    cases hv108
                    exact ⟨_, hF.keep' [0, 1, 2, 7, 8, 85] (by kernel_rfl), (hS.selp [0, 1, 2] (by decide) (by kernel_rfl)).pick [0, 1, 2] (by kernel_rfl), trivial⟩
                  · have hF := hF.boolv 81 (by kernel_rfl) hb
                    clear hb
                    refine wl_pure (L' := [(0, .int .i64 (IntKind.i64.wrap ((IntKind.i64.wrap (Int.tmod (IntKind.u64.wrap a1) 4)) + 1))), (1, .slice p3 (a2).length c4), (2, .string (a5)), (7, .pointer (some ⟨b13, 0, none⟩)), (8, .int .i64 (y73)), (85, .bool (decide (x105 ≥ IntKind.i64.wrap ((IntKind.i64.wrap (Int.tmod (IntKind.u64.wrap a1) 4)) + 1))))]) 4 [0, 1, 2, 7, 8, 85] hF (by kernel_rfl) ?_
                    clear hF
                    intro a hF
                    refine wpListIn_nil ?_
                    cases hv108
                    exact ⟨_, hF.keep' [0, 1, 2, 7, 8, 85] (by kernel_rfl), (hS.selp [0, 1, 2] (by decide) (by kernel_rfl)).pick [0, 1, 2] (by kernel_rfl), trivial⟩
              · clear hF hS hv108
                rintro a w ⟨κ, hF, hS, -⟩
                refine hK106 _ _ ?_
                clear hK106 K106
                refine bif_split H (fun hb H => ?_) (fun hb H => ?_)
                · refine cond_t hF (by kernel_rfl) hb ?_
                  clear hb
                  refine wpIn_seq_k fun K110 hK110 => ?_
                  refine wpIn_region_lit ?_
                  refine wl_pure (L' := [(6, .bool (false))]) 1 [6] hF (by kernel_rfl) ?_
                  clear hF
                  intro a hF
                  refine wpListIn_nil ?_
                  refine hK110 _ _ ?_
                  clear hK110 K110
                  refine wpIn_ret ?_
                  cases H
                  exact (ret_done hF hS (res1 Try.results11 (rv_tmp hF (by kernel_rfl))) ⟨rfl, (hS.pick [] (by kernel_rfl)).ro, hS.newC [] (by decide) (by kernel_rfl)⟩)
                · refine cond_f hF (by kernel_rfl) hb ?_
                  clear hb
                  refine wpIn_skip ?_
                  refine hK78 _ _ ?_
                  refine wpIn_region_lit ?_
                  refine wl_pure (L' := [(0, .int .i64 (IntKind.i64.wrap ((IntKind.i64.wrap (Int.tmod (IntKind.u64.wrap a1) 4)) + 1))), (1, .slice p3 (a2).length c4), (2, .string (a5)), (7, .pointer (some ⟨b13, 0, none⟩)), (8, .int .i64 (IntKind.i64.wrap (y73 + 1)))]) 3 [0, 1, 2, 7, 8] hF (by kernel_rfl) ?_
                  clear hF
                  intro a hF
                  refine wpListIn_nil ?_
                  exact ⟨fuel1, Nat.lt_succ_self _, _, y98, p99, c100, y101, p102, c103, IntKind.i64.wrap (y73 + 1), hF.keep' [0, 1, 2, 7, 8] (by kernel_rfl), (hS.selp [0, 1, 2] (by decide) (by kernel_rfl)).pick [0, 1, 2] (by kernel_rfl), H⟩
        · refine cond_f hF (by kernel_rfl) hb ?_
          clear hb
          refine wpIn_exit ?_
          refine hK15 _ _ ?_
          refine wpIn_seq_k fun K125 hK125 => ?_
          refine wpIn_region_lit ?_
          refine bind_split H (fun x126 hx126 H => ?_)
          refine wl_cons rfl (wo_callP (args := #[]) (f := 29) hF hS (by kernel_rfl) (by kernel_rfl) (C_law08_awake N hS.fresh   ((hS.pick [] (by kernel_rfl)).ro) hx126) ?_)
          clear hF hS hx126
          rintro _ κ w a ⟨rfl, hR, hN⟩ hF hS hO
          clear hR hN hO
          refine wl_pure (L' := [(6, .bool (x126))]) 1 [6] hF (by kernel_rfl) ?_
          clear hF
          intro a hF
          refine wpListIn_nil ?_
          refine hK125 _ _ ?_
          clear hK125 K125
          refine wpIn_ret ?_
          cases H
          exact (ret_done hF hS (res1 Try.results11 (rv_tmp hF (by kernel_rfl))) ⟨rfl, (hS.pick [] (by kernel_rfl)).ro, hS.newC [] (by decide) (by kernel_rfl)⟩)
end Go.Cf
