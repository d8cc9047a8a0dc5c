/- The walks: each function returns what its model says. Printed by a program of ours. -/
import Derived.Test.YtjohablgnnbelaaM5m
import Derived.Test.YtjohablgnnbelaaW1
import Derived.Test.YtjohablgnnbelaaW2b
import Derived.Test.YtjohablgnnbelaaW4
namespace Go.Cf
open Go Go.Proofs
set_option linter.unusedVariables false
set_option maxRecDepth 20000 in
set_option maxHeartbeats 1000000 in
theorem C_law08_SpanMoves (N : Nat) {κ0 : Gh} {w0 : World} (hfr : Fresh κ0 w0) (a1 : T_api_Map) (a6 : Int) (a7 : Int) (a8 : Int) (a9 : ByteArray) (p2 : Option Addr) (c3 : Nat) (p4 : Option Addr) (c5 : Nat) (hR : ∀ m ∈ ([Ro.mp fStr.ty p2 c3 a1.Cuts, Ro.mp (fInt .i64).ty p4 c5 a1.Nodes] : List MP), m.p κ0 w0) {r : (Bool)} (H : M.law08_SpanMoves N a1 a6 a7 a8 a9 = some r) :
    Calls Try.prog 8 #[.agg (flat [(1, [.slice p2 (a1.Cuts).length c3]), (1, [.slice p4 (a1.Nodes).length c5])]).toArray, .int .i64 (a6), .int .i64 (a7), .int .i64 (a8), .string (a9)] w0 (Post [] κ0 w0 fun v κ w => v = .bool (r) ∧ (∀ m ∈ ([] : List MP), m.p κ w) ∧ NewC w0 κ w []) := by
  have hS := SS.start hfr hR
  clear hR
  refine enter (N := (48)) (L := [(0, .agg (flat [(1, [.slice p2 (a1.Cuts).length c3]), (1, [.slice p4 (a1.Nodes).length c5])]).toArray), (1, .int .i64 (a6)), (2, .int .i64 (a7)), (3, .int .i64 (a8)), (4, .string (a9))]) Try.func8 rfl Try.ntmps8 (show 5 ≤ (48) by decide) rfl fun a hF => ?_
  unfold M.law08_SpanMoves at H
  refine wpIn_seq_k fun K10 hK10 => ?_
  refine wpIn_region_lit ?_
  refine wl_cons rfl (wo_box hF hS (by kernel_rfl) (v := .agg (flat [(1, [.slice p2 (a1.Cuts).length c3]), (1, [.slice p4 (a1.Nodes).length c5])]).toArray) (s := [(1, [.slice p2 (a1.Cuts).length c3]), (1, [.slice p4 (a1.Nodes).length c5])]) rfl (by kernel_rfl) (sgV rfl (sgV rfl sgNil)).1 (by kernel_rfl) ?_)
  clear hF hS
  intro b11 a w hF hS
  refine wl_pure (L' := [(1, .int .i64 (a6)), (2, .int .i64 (a7)), (3, .int .i64 (a8)), (4, .string (a9)), (5, .pointer (some ⟨b11, 0, none⟩))]) 1 [1, 2, 3, 4, 5] hF (by kernel_rfl) ?_
  clear hF
  intro a hF
  refine wpListIn_nil ?_
  refine hK10 _ _ ?_
  clear hK10 K10
  refine wpIn_seq_k fun K12 hK12 => ?_
  refine wpIn_region_lit ?_
  refine wl_cons rfl (wo_loads hF hS (by kernel_rfl) 0 0 2 (s' := [(1, [.slice p2 (a1.Cuts).length c3]), (1, [.slice p4 (a1.Nodes).length c5])]) (n := 2) rfl rfl rfl (by kernel_rfl) (by kernel_rfl) (by kernel_rfl) (by kernel_rfl) (by kernel_rfl) ?_)
  clear hF
  intro a hF
  refine wl_pure (L' := [(2, .int .i64 (a7)), (3, .int .i64 (a8)), (4, .string (a9)), (5, .pointer (some ⟨b11, 0, none⟩)), (15, .agg (flat [(1, [.slice p2 (a1.Cuts).length c3]), (1, [.slice p4 (a1.Nodes).length c5])]).toArray), (16, .int .i64 (a6)), (17, .int .i64 (a7)), (18, .int .i64 (a8))]) 3 [2, 3, 4, 5, 15, 16, 17, 18] hF (by kernel_rfl) ?_
  clear hF
  intro a hF
  refine bind_split H (fun x13 hx13 H => ?_)
  refine wl_cons rfl (wo_callP (args := #[.agg (flat [(1, [.slice p2 (a1.Cuts).length c3]), (1, [.slice p4 (a1.Nodes).length c5])]).toArray, .int .i64 (a6), .int .i64 (a7), .int .i64 (a8)]) (f := 45) hF hS (by kernel_rfl) (by kernel_rfl) (C_span_Move N hS.fresh (T_api_Map.mk a1.Cuts a1.Nodes) a6 a7 a8 p2 c3 p4 c5 ((hS.pick [0, 1] (by kernel_rfl)).ro) hx13) ?_)
  clear hF hS hx13
  rintro _ κ w a ⟨p14, c15, p16, c17, rfl, hR, hN⟩ hF hS hO
  have hS := hS.adds hR
  have hS := hS.addC hO hN
  clear hR hN hO
  refine wl_pure (L' := [(2, .int .i64 (a7)), (3, .int .i64 (a8)), (4, .string (a9)), (5, .pointer (some ⟨b11, 0, none⟩)), (20, .agg (flat [(1, [.slice p14 (x13.1.Cuts).length c15]), (1, [.slice p16 (x13.1.Nodes).length c17])]).toArray), (21, .int .i64 (x13.2))]) 3 [2, 3, 4, 5, 20, 21] hF (by kernel_rfl) ?_
  clear hF
  intro a hF
  refine wl_cons rfl (wo_alloc hF hS (by kernel_rfl) (z := .agg (flat [(1, [.slice none 0 0]), (1, [.slice none 0 0])]).toArray) (s := [(1, [.slice none 0 0]), (1, [.slice none 0 0])]) rfl (by kernel_rfl) (sgV rfl (sgV rfl sgNil)).1 (by kernel_rfl) ?_)
  clear hF hS
  intro b18 a w hF hS
  refine wl_cons rfl (wo_stores hF hS (by kernel_rfl) 0 0 2 (v := .agg (flat [(1, [.slice p14 (x13.1.Cuts).length c15]), (1, [.slice p16 (x13.1.Nodes).length c17])]).toArray) (s' := [(1, [.slice p14 (x13.1.Cuts).length c15]), (1, [.slice p16 (x13.1.Nodes).length c17])]) (t := [(1, [.slice p14 (x13.1.Cuts).length c15]), (1, [.slice p16 (x13.1.Nodes).length c17])]) (C' := [.box b18 26 [(1, [.slice p14 (x13.1.Cuts).length c15]), (1, [.slice p16 (x13.1.Nodes).length c17])], .tok p14 9 1 (x13.1.Cuts).length c15, .tok p16 3 1 (x13.1.Nodes).length c17, .box b11 26 [(1, [.slice p2 (a1.Cuts).length c3]), (1, [.slice p4 (a1.Nodes).length c5])]]) (n := 2) rfl rfl (by kernel_rfl) rfl (by kernel_rfl) (by kernel_rfl) (by kernel_rfl) (by kernel_rfl) (sgV rfl (sgV rfl sgNil)).1 (sgV rfl (sgV rfl sgNil)).2 (by kernel_rfl) (by kernel_rfl) (by kernel_rfl) ?_)
  clear hF hS
  intro a w hF hS
  refine wl_pure (L' := [(2, .int .i64 (a7)), (3, .int .i64 (a8)), (4, .string (a9)), (5, .pointer (some ⟨b11, 0, none⟩)), (11, .pointer (some ⟨b18, 0, none⟩)), (12, .int .i64 (x13.2))]) 1 [2, 3, 4, 5, 11, 12] hF (by kernel_rfl) ?_
  clear hF
  intro a hF
  refine wpListIn_nil ?_
  refine hK12 _ _ ?_
  clear hK12 K12
  refine wpIn_seq_k fun K19 hK19 => ?_
  refine wpIn_seq_k fun K20 hK20 => ?_
  refine wpIn_region_lit ?_
  refine wl_pure (L' := [(2, .int .i64 (a7)), (3, .int .i64 (a8)), (4, .string (a9)), (5, .pointer (some ⟨b11, 0, none⟩)), (11, .pointer (some ⟨b18, 0, none⟩)), (23, .bool ((x13.2 != 0)))]) 2 [2, 3, 4, 5, 11, 23] hF (by kernel_rfl) ?_
  clear hF
  intro a hF
  refine wpListIn_nil ?_
  refine hK20 _ _ ?_
  clear hK20 K20
  refine bif_split H (fun hb H => ?_) (fun hb H => ?_)
  · refine cond_t hF (by kernel_rfl) hb ?_
    clear hb
    refine wpIn_seq_k fun K21 hK21 => ?_
    refine wpIn_region_lit ?_
    refine bind_split H (fun v23 hv23 H => ?_)
    refine wl_join (fun a w => ∃ κ : Gh, Fr (48) [] [(10, .bool (v23))] a ∧ SS [] κ0 w0 κ w [] [] ∧ True) ?_ ?_
    · clear H
      refine bind_split hv23 (fun x24 hx24 hv23 => ?_)
      refine wl_cons rfl (wo_callP (args := #[]) (f := 29) hF hS (by kernel_rfl) (by kernel_rfl) (C_law08_awake N hS.fresh   ((hS.pick [] (by kernel_rfl)).ro) hx24) ?_)
      clear hF hS hx24
      rintro _ κ w a ⟨rfl, hR, hN⟩ hF hS hO
      clear hR hN hO
      refine wl_pure (L' := [(11, .pointer (some ⟨b18, 0, none⟩)), (25, .bool (x24))]) 1 [11, 25] hF (by kernel_rfl) ?_
      clear hF
      intro a hF
      refine bif_split hv23 (fun hb hv23 => ?_) (fun hb hv23 => ?_)
      · have hF := hF.boolv 25 (by kernel_rfl) hb
        clear hb
        refine wl_pure (L' := [(25, .bool (true)), (26, .pointer (some ⟨b18, 1, none⟩))]) 1 [25, 26] hF (by kernel_rfl) ?_
        clear hF
        intro a hF
        refine wl_consg hF (by kernel_rfl) (wo_load hF hS (by kernel_rfl) 0 1 0 (v := .slice p16 (x13.1.Nodes).length c17) rfl rfl rfl rfl rfl (by kernel_rfl) (by kernel_rfl) ?_)
        clear hF
        intro a hF
        refine wl_pure (L' := [(10, .bool ((((x13.1.Nodes).length : Int) == 0)))]) 4 [10] hF (by kernel_rfl) ?_
        clear hF
        intro a hF
        refine wpListIn_nil ?_
        cases hv23
        exact ⟨_, hF.keep' [10] (by kernel_rfl), (hS.selp [] (by decide) (by kernel_rfl)).pick [] (by kernel_rfl), trivial⟩
      · have hF := hF.boolv 25 (by kernel_rfl) hb
        clear hb
        refine wl_pure (L' := [(10, .bool (false))]) 6 [10] hF (by kernel_rfl) ?_
        clear hF
        intro a hF
        refine wpListIn_nil ?_
        cases hv23
        exact ⟨_, hF.keep' [10] (by kernel_rfl), (hS.selp [] (by decide) (by kernel_rfl)).pick [] (by kernel_rfl), trivial⟩
    · clear hF hS hv23
      rintro a w ⟨κ, hF, hS, -⟩
      refine hK21 _ _ ?_
      clear hK21 K21
      refine wpIn_ret ?_
      cases H
      exact (ret_done hF hS (res1 Try.results8 (rv_tmp hF (by kernel_rfl))) ⟨rfl, (hS.pick [] (by kernel_rfl)).ro, hS.newC [] (by decide) (by kernel_rfl)⟩)
  · refine cond_f hF (by kernel_rfl) hb ?_
    clear hb
    refine wpIn_skip ?_
    refine hK19 _ _ ?_
    refine wpIn_seq_k fun K25 hK25 => ?_
    refine wpIn_region_lit ?_
    refine wl_cons rfl (wo_loads hF hS (by kernel_rfl) 3 0 2 (s' := [(1, [.slice p2 (a1.Cuts).length c3]), (1, [.slice p4 (a1.Nodes).length c5])]) (n := 2) rfl rfl rfl (by kernel_rfl) (by kernel_rfl) (by kernel_rfl) (by kernel_rfl) (by kernel_rfl) ?_)
    clear hF
    intro a hF
    refine wl_pure (L' := [(2, .int .i64 (a7)), (3, .int .i64 (a8)), (4, .string (a9)), (5, .pointer (some ⟨b11, 0, none⟩)), (11, .pointer (some ⟨b18, 0, none⟩)), (31, .agg (flat [(1, [.slice p2 (a1.Cuts).length c3]), (1, [.slice p4 (a1.Nodes).length c5])]).toArray), (32, .string (a9))]) 1 [2, 3, 4, 5, 11, 31, 32] hF (by kernel_rfl) ?_
    clear hF
    intro a hF
    refine bind_split H (fun x26 hx26 H => ?_)
    refine wl_cons rfl (wo_callP (args := #[.agg (flat [(1, [.slice p2 (a1.Cuts).length c3]), (1, [.slice p4 (a1.Nodes).length c5])]).toArray, .string (a9)]) (f := 38) hF hS (by kernel_rfl) (by kernel_rfl) (C_span_Owner N hS.fresh (T_api_Map.mk a1.Cuts a1.Nodes) a9 p2 c3 p4 c5 ((hS.pick [2, 3] (by kernel_rfl)).ro) hx26) ?_)
    clear hF hS hx26
    rintro _ κ w a ⟨rfl, hR, hN⟩ hF hS hO
    clear hR hN hO
    refine wl_pure (L' := [(2, .int .i64 (a7)), (3, .int .i64 (a8)), (4, .string (a9)), (5, .pointer (some ⟨b11, 0, none⟩)), (11, .pointer (some ⟨b18, 0, none⟩)), (13, .int .i64 (x26))]) 1 [2, 3, 4, 5, 11, 13] hF (by kernel_rfl) ?_
    clear hF
    intro a hF
    refine wpListIn_nil ?_
    refine hK25 _ _ ?_
    clear hK25 K25
    refine seq_join (fun a w => ∃ κ : Gh, ∃ y27 : Int, Fr (48) [] [(4, .string (a9)), (11, .pointer (some ⟨b18, 0, none⟩)), (13, .int .i64 (y27))] a ∧ SS [] κ0 w0 κ w [.box b18 26 [(1, [.slice p14 (x13.1.Cuts).length c15]), (1, [.slice p16 (x13.1.Nodes).length c17])], .tok p14 9 1 (x13.1.Cuts).length c15, .tok p16 3 1 (x13.1.Nodes).length c17] [Ro.mp fStr.ty p14 c15 x13.1.Cuts, Ro.mp (fInt .i64).ty p16 c17 x13.1.Nodes] ∧ M.law08_SpanMoves_k1 N a9 x13 y27 = some r) ?_ ?_
    · refine wpIn_seq_k fun K33 hK33 => ?_
      refine wpIn_region_lit ?_
      refine wl_cons rfl (wo_loads hF hS (by kernel_rfl) 3 0 2 (s' := [(1, [.slice p2 (a1.Cuts).length c3]), (1, [.slice p4 (a1.Nodes).length c5])]) (n := 2) rfl rfl rfl (by kernel_rfl) (by kernel_rfl) (by kernel_rfl) (by kernel_rfl) (by kernel_rfl) ?_)
      clear hF
      intro a hF
      refine wl_pure (L' := [(2, .int .i64 (a7)), (3, .int .i64 (a8)), (4, .string (a9)), (11, .pointer (some ⟨b18, 0, none⟩)), (13, .int .i64 (x26)), (34, .agg (flat [(1, [.slice p2 (a1.Cuts).length c3]), (1, [.slice p4 (a1.Nodes).length c5])]).toArray), (35, .string (a9))]) 1 [2, 3, 4, 11, 13, 34, 35] hF (by kernel_rfl) ?_
      clear hF
      intro a hF
      refine bind_split H (fun x34 hx34 H => ?_)
      refine wl_cons rfl (wo_callP (args := #[.agg (flat [(1, [.slice p2 (a1.Cuts).length c3]), (1, [.slice p4 (a1.Nodes).length c5])]).toArray, .string (a9)]) (f := 36) hF hS (by kernel_rfl) (by kernel_rfl) (C_span_Find N hS.fresh (T_api_Map.mk a1.Cuts a1.Nodes) a9 p2 c3 p4 c5 ((hS.pick [2, 3] (by kernel_rfl)).ro) hx34) ?_)
      clear hF hS hx34
      rintro _ κ w a ⟨rfl, hR, hN⟩ hF hS hO
      clear hR hN hO
      refine wl_pure (L' := [(3, .int .i64 (a8)), (4, .string (a9)), (11, .pointer (some ⟨b18, 0, none⟩)), (13, .int .i64 (x26)), (38, .bool ((x34 == a7)))]) 2 [3, 4, 11, 13, 38] hF (by kernel_rfl) ?_
      clear hF
      intro a hF
      refine wpListIn_nil ?_
      refine hK33 _ _ ?_
      clear hK33 K33
      refine bif_split H (fun hb H => ?_) (fun hb H => ?_)
      · refine cond_t hF (by kernel_rfl) hb ?_
        clear hb
        refine wpIn_region_lit ?_
        refine wl_pure (L' := [(4, .string (a9)), (11, .pointer (some ⟨b18, 0, none⟩)), (13, .int .i64 (a8))]) 2 [4, 11, 13] hF (by kernel_rfl) ?_
        clear hF
        intro a hF
        refine wpListIn_nil ?_
        exact ⟨_, a8, hF.keep' [4, 11, 13] (by kernel_rfl), (hS.selp [0, 1, 2] (by decide) (by kernel_rfl)).pick [0, 1] (by kernel_rfl), H⟩
      · refine cond_f hF (by kernel_rfl) hb ?_
        clear hb
        refine wpIn_skip ?_
        exact ⟨_, x26, hF.keep' [4, 11, 13] (by kernel_rfl), (hS.selp [0, 1, 2] (by decide) (by kernel_rfl)).pick [0, 1] (by kernel_rfl), H⟩
    · clear hF hS H
      rintro a w ⟨κ, y27, hF, hS, H⟩
      unfold M.law08_SpanMoves_k1 at H
      refine wpIn_seq_k fun K28 hK28 => ?_
      refine wpIn_region_lit ?_
      refine bind_split H (fun v30 hv30 H => ?_)
      refine wl_join (fun a w => ∃ κ : Gh, Fr (48) [] [(10, .bool (v30))] a ∧ SS [] κ0 w0 κ w [] [] ∧ True) ?_ ?_
      · clear H
        refine bind_split hv30 (fun x31 hx31 hv30 => ?_)
        refine wl_cons rfl (wo_callP (args := #[]) (f := 29) hF hS (by kernel_rfl) (by kernel_rfl) (C_law08_awake N hS.fresh   ((hS.pick [] (by kernel_rfl)).ro) hx31) ?_)
        clear hF hS hx31
        rintro _ κ w a ⟨rfl, hR, hN⟩ hF hS hO
        clear hR hN hO
        refine wl_pure (L' := [(4, .string (a9)), (11, .pointer (some ⟨b18, 0, none⟩)), (13, .int .i64 (y27)), (41, .bool (x31))]) 1 [4, 11, 13, 41] hF (by kernel_rfl) ?_
        clear hF
        intro a hF
        refine bif_split hv30 (fun hb hv30 => ?_) (fun hb hv30 => ?_)
        · have hF := hF.boolv 41 (by kernel_rfl) hb
          clear hb
          refine wl_consg hF (by kernel_rfl) (wo_loads hF hS (by kernel_rfl) 0 0 2 (s' := [(1, [.slice p14 (x13.1.Cuts).length c15]), (1, [.slice p16 (x13.1.Nodes).length c17])]) (n := 2) rfl rfl rfl (by kernel_rfl) (by kernel_rfl) (by kernel_rfl) (by kernel_rfl) (by kernel_rfl) ?_)
          clear hF
          intro a hF
          refine wl_pure (L' := [(13, .int .i64 (y27)), (41, .bool (true)), (42, .agg (flat [(1, [.slice p14 (x13.1.Cuts).length c15]), (1, [.slice p16 (x13.1.Nodes).length c17])]).toArray), (43, .string (a9))]) 1 [13, 41, 42, 43] hF (by kernel_rfl) ?_
          clear hF
          intro a hF
          refine bind_split hv30 (fun x32 hx32 hv30 => ?_)
          refine wl_consg hF (by kernel_rfl) (wo_callP (args := #[.agg (flat [(1, [.slice p14 (x13.1.Cuts).length c15]), (1, [.slice p16 (x13.1.Nodes).length c17])]).toArray, .string (a9)]) (f := 38) hF hS (by kernel_rfl) (by kernel_rfl) (C_span_Owner N hS.fresh (T_api_Map.mk x13.1.Cuts x13.1.Nodes) a9 p14 c15 p16 c17 ((hS.pick [0, 1] (by kernel_rfl)).ro) hx32) ?_)
          clear hF hS hx32
          rintro _ κ w a ⟨rfl, hR, hN⟩ hF hS hO
          clear hR hN hO
          refine wl_pure (L' := [(10, .bool ((x32 == y27)))]) 4 [10] hF (by kernel_rfl) ?_
          clear hF
          intro a hF
          refine wpListIn_nil ?_
          cases hv30
          exact ⟨_, hF.keep' [10] (by kernel_rfl), (hS.selp [] (by decide) (by kernel_rfl)).pick [] (by kernel_rfl), trivial⟩
        · have hF := hF.boolv 41 (by kernel_rfl) hb
          clear hb
          refine wl_pure (L' := [(10, .bool (false))]) 7 [10] hF (by kernel_rfl) ?_
          clear hF
          intro a hF
          refine wpListIn_nil ?_
          cases hv30
          exact ⟨_, hF.keep' [10] (by kernel_rfl), (hS.selp [] (by decide) (by kernel_rfl)).pick [] (by kernel_rfl), trivial⟩
      · clear hF hS hv30
        rintro a w ⟨κ, hF, hS, -⟩
        refine hK28 _ _ ?_
        clear hK28 K28
        refine wpIn_ret ?_
        cases H
        exact (ret_done hF hS (res1 Try.results8 (rv_tmp hF (by kernel_rfl))) ⟨rfl, (hS.pick [] (by kernel_rfl)).ro, hS.newC [] (by decide) (by kernel_rfl)⟩)
end Go.Cf
