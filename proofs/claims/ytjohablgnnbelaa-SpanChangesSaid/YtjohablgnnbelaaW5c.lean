/- The walks: each function returns what its model says. Printed by a program of ours. -/
import Derived.Test.YtjohablgnnbelaaM5c
import Derived.Test.YtjohablgnnbelaaW1
import Derived.Test.YtjohablgnnbelaaW2
import Derived.Test.YtjohablgnnbelaaW2b
import Derived.Test.YtjohablgnnbelaaW2c
import Derived.Test.YtjohablgnnbelaaW4
namespace Go.Cf
open Go Go.Proofs
set_option linter.unusedVariables false
set_option maxRecDepth 20000 in
set_option maxHeartbeats 1000000 in
theorem C_law08_SpanChanges (N : Nat) {κ0 : Gh} {w0 : World} (hfr : Fresh κ0 w0) (a1 : T_api_Map) (a6 : Int) (a7 : Int) (a8 : Int) (a9 : ByteArray) (p2 : Option Addr) (c3 : Nat) (p4 : Option Addr) (c5 : Nat) (hR : ∀ m ∈ ([Ro.mp fStr.ty p2 c3 a1.Cuts, Ro.mp (fInt .i64).ty p4 c5 a1.Nodes] : List MP), m.p κ0 w0) {r : (Bool)} (H : M.law08_SpanChanges N a1 a6 a7 a8 a9 = some r) :
    Calls Try.prog 9 #[.agg (flat [(1, [.slice p2 (a1.Cuts).length c3]), (1, [.slice p4 (a1.Nodes).length c5])]).toArray, .int .i64 (a6), .int .i64 (a7), .int .i64 (a8), .string (a9)] w0 (Post [] κ0 w0 fun v κ w => v = .bool (r) ∧ (∀ m ∈ ([] : List MP), m.p κ w) ∧ NewC w0 κ w []) := by
  have hS := SS.start hfr hR
  clear hR
  refine enter (N := (134)) (L := [(0, .agg (flat [(1, [.slice p2 (a1.Cuts).length c3]), (1, [.slice p4 (a1.Nodes).length c5])]).toArray), (1, .int .i64 (a6)), (2, .int .i64 (a7)), (3, .int .i64 (a8)), (4, .string (a9))]) Try.func9 rfl Try.ntmps9 (show 5 ≤ (134) by decide) rfl fun a hF => ?_
  unfold M.law08_SpanChanges at H
  refine wpIn_seq_k fun K10 hK10 => ?_
  refine wpIn_region_lit ?_
  refine wl_cons rfl (wo_box hF hS (by kernel_rfl) (v := .agg (flat [(1, [.slice p2 (a1.Cuts).length c3]), (1, [.slice p4 (a1.Nodes).length c5])]).toArray) (s := [(1, [.slice p2 (a1.Cuts).length c3]), (1, [.slice p4 (a1.Nodes).length c5])]) rfl (by kernel_rfl) (sgV rfl (sgV rfl sgNil)).1 (by kernel_rfl) ?_)
  clear hF hS
  intro b11 a w hF hS
  refine wl_pure (L' := [(1, .int .i64 (a6)), (2, .int .i64 (a7)), (3, .int .i64 (a8)), (4, .string (a9)), (5, .pointer (some ⟨b11, 0, none⟩))]) 1 [1, 2, 3, 4, 5] hF (by kernel_rfl) ?_
  clear hF
  intro a hF
  refine wpListIn_nil ?_
  refine hK10 _ _ ?_
  clear hK10 K10
  refine wpIn_seq_k fun K12 hK12 => ?_
  refine wpIn_seq_k fun K13 hK13 => ?_
  refine wpIn_region_lit ?_
  refine wl_cons rfl (wo_loads hF hS (by kernel_rfl) 0 0 2 (s' := [(1, [.slice p2 (a1.Cuts).length c3]), (1, [.slice p4 (a1.Nodes).length c5])]) (n := 2) rfl rfl rfl (by kernel_rfl) (by kernel_rfl) (by kernel_rfl) (by kernel_rfl) (by kernel_rfl) ?_)
  clear hF
  intro a hF
  refine bind_split H (fun x14 hx14 H => ?_)
  refine wl_cons rfl (wo_callP (args := #[.agg (flat [(1, [.slice p2 (a1.Cuts).length c3]), (1, [.slice p4 (a1.Nodes).length c5])]).toArray]) (f := 32) hF hS (by kernel_rfl) (by kernel_rfl) (C_law08_great N hS.fresh (T_api_Map.mk a1.Cuts a1.Nodes) p2 c3 p4 c5 ((hS.pick [0, 1] (by kernel_rfl)).ro) hx14) ?_)
  clear hF hS hx14
  rintro _ κ w a ⟨rfl, hR, hN⟩ hF hS hO
  clear hR hN hO
  refine wpListIn_nil ?_
  refine hK13 _ _ ?_
  clear hK13 K13
  refine bif_split H (fun hb H => ?_) (fun hb H => ?_)
  · refine cond_t hF (by kernel_rfl) hb ?_
    clear hb
    refine wpIn_seq_k fun K15 hK15 => ?_
    refine wpIn_region_lit ?_
    refine bind_split H (fun x16 hx16 H => ?_)
    refine wl_cons rfl (wo_callP (args := #[]) (f := 29) hF hS (by kernel_rfl) (by kernel_rfl) (C_law08_awake N hS.fresh   ((hS.pick [] (by kernel_rfl)).ro) hx16) ?_)
    clear hF hS hx16
    rintro _ κ w a ⟨rfl, hR, hN⟩ hF hS hO
    clear hR hN hO
    refine wl_pure (L' := [(10, .bool (x16))]) 1 [10] hF (by kernel_rfl) ?_
    clear hF
    intro a hF
    refine wpListIn_nil ?_
    refine hK15 _ _ ?_
    clear hK15 K15
    refine wpIn_ret ?_
    cases H
    exact (ret_done hF hS (res1 Try.results9 (rv_tmp hF (by kernel_rfl))) ⟨rfl, (hS.pick [] (by kernel_rfl)).ro, hS.newC [] (by decide) (by kernel_rfl)⟩)
  · refine cond_f hF (by kernel_rfl) hb ?_
    clear hb
    refine wpIn_skip ?_
    refine hK12 _ _ ?_
    refine wpIn_seq_k fun K17 hK17 => ?_
    refine wpIn_region_lit ?_
    refine wl_cons rfl (wo_loads hF hS (by kernel_rfl) 0 0 2 (s' := [(1, [.slice p2 (a1.Cuts).length c3]), (1, [.slice p4 (a1.Nodes).length c5])]) (n := 2) rfl rfl rfl (by kernel_rfl) (by kernel_rfl) (by kernel_rfl) (by kernel_rfl) (by kernel_rfl) ?_)
    clear hF
    intro a hF
    refine wl_pure (L' := [(1, .int .i64 (a6)), (2, .int .i64 (a7)), (3, .int .i64 (a8)), (4, .string (a9)), (5, .pointer (some ⟨b11, 0, none⟩)), (27, .agg (flat [(1, [.slice p2 (a1.Cuts).length c3]), (1, [.slice p4 (a1.Nodes).length c5])]).toArray), (28, .int .i64 (a6)), (29, .int .i64 (a7)), (30, .string (a9))]) 3 [1, 2, 3, 4, 5, 27, 28, 29, 30] hF (by kernel_rfl) ?_
    clear hF
    intro a hF
    refine bind_split H (fun x18 hx18 H => ?_)
    refine wl_cons rfl (wo_callP (args := #[.agg (flat [(1, [.slice p2 (a1.Cuts).length c3]), (1, [.slice p4 (a1.Nodes).length c5])]).toArray, .int .i64 (a6), .int .i64 (a7), .string (a9)]) (f := 42) hF hS (by kernel_rfl) (by kernel_rfl) (C_span_Split N hS.fresh (T_api_Map.mk a1.Cuts a1.Nodes) a6 a7 a9 p2 c3 p4 c5 ((hS.pick [0, 1] (by kernel_rfl)).ro) hx18) ?_)
    clear hF hS hx18
    rintro _ κ w a ⟨p19, c20, p21, c22, rfl, hR, hN⟩ hF hS hO
    have hS := hS.adds hR
    have hS := hS.addC hO hN
    clear hR hN hO
    refine wl_pure (L' := [(1, .int .i64 (a6)), (2, .int .i64 (a7)), (3, .int .i64 (a8)), (4, .string (a9)), (5, .pointer (some ⟨b11, 0, none⟩)), (32, .agg (flat [(1, [.slice p19 (x18.1.Cuts).length c20]), (1, [.slice p21 (x18.1.Nodes).length c22])]).toArray), (33, .int .i64 (x18.2))]) 3 [1, 2, 3, 4, 5, 32, 33] hF (by kernel_rfl) ?_
    clear hF
    intro a hF
    refine wl_cons rfl (wo_alloc hF hS (by kernel_rfl) (z := .agg (flat [(1, [.slice none 0 0]), (1, [.slice none 0 0])]).toArray) (s := [(1, [.slice none 0 0]), (1, [.slice none 0 0])]) rfl (by kernel_rfl) (sgV rfl (sgV rfl sgNil)).1 (by kernel_rfl) ?_)
    clear hF hS
    intro b23 a w hF hS
    refine wl_cons rfl (wo_stores hF hS (by kernel_rfl) 0 0 2 (v := .agg (flat [(1, [.slice p19 (x18.1.Cuts).length c20]), (1, [.slice p21 (x18.1.Nodes).length c22])]).toArray) (s' := [(1, [.slice p19 (x18.1.Cuts).length c20]), (1, [.slice p21 (x18.1.Nodes).length c22])]) (t := [(1, [.slice p19 (x18.1.Cuts).length c20]), (1, [.slice p21 (x18.1.Nodes).length c22])]) (C' := [.box b23 26 [(1, [.slice p19 (x18.1.Cuts).length c20]), (1, [.slice p21 (x18.1.Nodes).length c22])], .tok p19 9 1 (x18.1.Cuts).length c20, .tok p21 3 1 (x18.1.Nodes).length c22, .box b11 26 [(1, [.slice p2 (a1.Cuts).length c3]), (1, [.slice p4 (a1.Nodes).length c5])]]) (n := 2) rfl rfl (by kernel_rfl) rfl (by kernel_rfl) (by kernel_rfl) (by kernel_rfl) (by kernel_rfl) (sgV rfl (sgV rfl sgNil)).1 (sgV rfl (sgV rfl sgNil)).2 (by kernel_rfl) (by kernel_rfl) (by kernel_rfl) ?_)
    clear hF hS
    intro a w hF hS
    refine wl_pure (L' := [(1, .int .i64 (a6)), (2, .int .i64 (a7)), (3, .int .i64 (a8)), (4, .string (a9)), (5, .pointer (some ⟨b11, 0, none⟩)), (11, .pointer (some ⟨b23, 0, none⟩)), (12, .int .i64 (x18.2))]) 1 [1, 2, 3, 4, 5, 11, 12] hF (by kernel_rfl) ?_
    clear hF
    intro a hF
    refine wpListIn_nil ?_
    refine hK17 _ _ ?_
    clear hK17 K17
    refine wpIn_seq_k fun K24 hK24 => ?_
    refine wpIn_region_lit ?_
    refine wl_cons rfl (wo_loads hF hS (by kernel_rfl) 3 0 2 (s' := [(1, [.slice p2 (a1.Cuts).length c3]), (1, [.slice p4 (a1.Nodes).length c5])]) (n := 2) rfl rfl rfl (by kernel_rfl) (by kernel_rfl) (by kernel_rfl) (by kernel_rfl) (by kernel_rfl) ?_)
    clear hF
    intro a hF
    refine wl_pure (L' := [(1, .int .i64 (a6)), (2, .int .i64 (a7)), (3, .int .i64 (a8)), (5, .pointer (some ⟨b11, 0, none⟩)), (11, .pointer (some ⟨b23, 0, none⟩)), (12, .int .i64 (x18.2)), (35, .agg (flat [(1, [.slice p2 (a1.Cuts).length c3]), (1, [.slice p4 (a1.Nodes).length c5])]).toArray), (36, .int .i64 (a6)), (37, .int .i64 (a7)), (38, .string (a9))]) 3 [1, 2, 3, 5, 11, 12, 35, 36, 37, 38] hF (by kernel_rfl) ?_
    clear hF
    intro a hF
    refine bind_split H (fun x25 hx25 H => ?_)
    refine wl_cons rfl (wo_callP (args := #[.agg (flat [(1, [.slice p2 (a1.Cuts).length c3]), (1, [.slice p4 (a1.Nodes).length c5])]).toArray, .int .i64 (a6), .int .i64 (a7), .string (a9)]) (f := 46) hF hS (by kernel_rfl) (by kernel_rfl) (C_ref08_Split N hS.fresh (T_api_Map.mk a1.Cuts a1.Nodes) a6 a7 a9 p2 c3 p4 c5 ((hS.pick [2, 3] (by kernel_rfl)).ro) hx25) ?_)
    clear hF hS hx25
    rintro _ κ w a ⟨p26, c27, p28, c29, rfl, hR, hN⟩ hF hS hO
    have hS := hS.adds hR
    have hS := hS.addC hO hN
    clear hR hN hO
    refine wl_pure (L' := [(1, .int .i64 (a6)), (2, .int .i64 (a7)), (3, .int .i64 (a8)), (5, .pointer (some ⟨b11, 0, none⟩)), (11, .pointer (some ⟨b23, 0, none⟩)), (12, .int .i64 (x18.2)), (40, .agg (flat [(1, [.slice p26 (x25.1.Cuts).length c27]), (1, [.slice p28 (x25.1.Nodes).length c29])]).toArray), (41, .int .i64 (x25.2))]) 3 [1, 2, 3, 5, 11, 12, 40, 41] hF (by kernel_rfl) ?_
    clear hF
    intro a hF
    refine wl_cons rfl (wo_alloc hF hS (by kernel_rfl) (z := .agg (flat [(1, [.slice none 0 0]), (1, [.slice none 0 0])]).toArray) (s := [(1, [.slice none 0 0]), (1, [.slice none 0 0])]) rfl (by kernel_rfl) (sgV rfl (sgV rfl sgNil)).1 (by kernel_rfl) ?_)
    clear hF hS
    intro b30 a w hF hS
    refine wl_cons rfl (wo_stores hF hS (by kernel_rfl) 0 0 2 (v := .agg (flat [(1, [.slice p26 (x25.1.Cuts).length c27]), (1, [.slice p28 (x25.1.Nodes).length c29])]).toArray) (s' := [(1, [.slice p26 (x25.1.Cuts).length c27]), (1, [.slice p28 (x25.1.Nodes).length c29])]) (t := [(1, [.slice p26 (x25.1.Cuts).length c27]), (1, [.slice p28 (x25.1.Nodes).length c29])]) (C' := [.box b30 26 [(1, [.slice p26 (x25.1.Cuts).length c27]), (1, [.slice p28 (x25.1.Nodes).length c29])], .tok p26 9 1 (x25.1.Cuts).length c27, .tok p28 3 1 (x25.1.Nodes).length c29, .box b23 26 [(1, [.slice p19 (x18.1.Cuts).length c20]), (1, [.slice p21 (x18.1.Nodes).length c22])], .tok p19 9 1 (x18.1.Cuts).length c20, .tok p21 3 1 (x18.1.Nodes).length c22, .box b11 26 [(1, [.slice p2 (a1.Cuts).length c3]), (1, [.slice p4 (a1.Nodes).length c5])]]) (n := 2) rfl rfl (by kernel_rfl) rfl (by kernel_rfl) (by kernel_rfl) (by kernel_rfl) (by kernel_rfl) (sgV rfl (sgV rfl sgNil)).1 (sgV rfl (sgV rfl sgNil)).2 (by kernel_rfl) (by kernel_rfl) (by kernel_rfl) ?_)
    clear hF hS
    intro a w hF hS
    refine wl_pure (L' := [(1, .int .i64 (a6)), (2, .int .i64 (a7)), (3, .int .i64 (a8)), (5, .pointer (some ⟨b11, 0, none⟩)), (11, .pointer (some ⟨b23, 0, none⟩)), (12, .int .i64 (x18.2)), (13, .pointer (some ⟨b30, 0, none⟩)), (14, .int .i64 (x25.2))]) 1 [1, 2, 3, 5, 11, 12, 13, 14] hF (by kernel_rfl) ?_
    clear hF
    intro a hF
    refine wpListIn_nil ?_
    refine hK24 _ _ ?_
    clear hK24 K24
    refine wpIn_seq_k fun K31 hK31 => ?_
    refine wpIn_region_lit ?_
    refine wl_cons rfl (wo_loads hF hS (by kernel_rfl) 6 0 2 (s' := [(1, [.slice p2 (a1.Cuts).length c3]), (1, [.slice p4 (a1.Nodes).length c5])]) (n := 2) rfl rfl rfl (by kernel_rfl) (by kernel_rfl) (by kernel_rfl) (by kernel_rfl) (by kernel_rfl) ?_)
    clear hF
    intro a hF
    refine wl_pure (L' := [(1, .int .i64 (a6)), (2, .int .i64 (a7)), (3, .int .i64 (a8)), (5, .pointer (some ⟨b11, 0, none⟩)), (11, .pointer (some ⟨b23, 0, none⟩)), (12, .int .i64 (x18.2)), (13, .pointer (some ⟨b30, 0, none⟩)), (14, .int .i64 (x25.2)), (43, .agg (flat [(1, [.slice p2 (a1.Cuts).length c3]), (1, [.slice p4 (a1.Nodes).length c5])]).toArray), (44, .int .i64 (a6)), (45, .int .i64 (a7))]) 2 [1, 2, 3, 5, 11, 12, 13, 14, 43, 44, 45] hF (by kernel_rfl) ?_
    clear hF
    intro a hF
    refine bind_split H (fun x32 hx32 H => ?_)
    refine wl_cons rfl (wo_callP (args := #[.agg (flat [(1, [.slice p2 (a1.Cuts).length c3]), (1, [.slice p4 (a1.Nodes).length c5])]).toArray, .int .i64 (a6), .int .i64 (a7)]) (f := 43) hF hS (by kernel_rfl) (by kernel_rfl) (C_span_Merge N hS.fresh (T_api_Map.mk a1.Cuts a1.Nodes) a6 a7 p2 c3 p4 c5 ((hS.pick [4, 5] (by kernel_rfl)).ro) hx32) ?_)
    clear hF hS hx32
    rintro _ κ w a ⟨p33, c34, p35, c36, rfl, hR, hN⟩ hF hS hO
    have hS := hS.adds hR
    have hS := hS.addC hO hN
    clear hR hN hO
    refine wl_pure (L' := [(1, .int .i64 (a6)), (2, .int .i64 (a7)), (3, .int .i64 (a8)), (5, .pointer (some ⟨b11, 0, none⟩)), (11, .pointer (some ⟨b23, 0, none⟩)), (12, .int .i64 (x18.2)), (13, .pointer (some ⟨b30, 0, none⟩)), (14, .int .i64 (x25.2)), (47, .agg (flat [(1, [.slice p33 (x32.1.Cuts).length c34]), (1, [.slice p35 (x32.1.Nodes).length c36])]).toArray), (48, .int .i64 (x32.2))]) 3 [1, 2, 3, 5, 11, 12, 13, 14, 47, 48] hF (by kernel_rfl) ?_
    clear hF
    intro a hF
    refine wl_cons rfl (wo_alloc hF hS (by kernel_rfl) (z := .agg (flat [(1, [.slice none 0 0]), (1, [.slice none 0 0])]).toArray) (s := [(1, [.slice none 0 0]), (1, [.slice none 0 0])]) rfl (by kernel_rfl) (sgV rfl (sgV rfl sgNil)).1 (by kernel_rfl) ?_)
    clear hF hS
    intro b37 a w hF hS
    refine wl_cons rfl (wo_stores hF hS (by kernel_rfl) 0 0 2 (v := .agg (flat [(1, [.slice p33 (x32.1.Cuts).length c34]), (1, [.slice p35 (x32.1.Nodes).length c36])]).toArray) (s' := [(1, [.slice p33 (x32.1.Cuts).length c34]), (1, [.slice p35 (x32.1.Nodes).length c36])]) (t := [(1, [.slice p33 (x32.1.Cuts).length c34]), (1, [.slice p35 (x32.1.Nodes).length c36])]) (C' := [.box b37 26 [(1, [.slice p33 (x32.1.Cuts).length c34]), (1, [.slice p35 (x32.1.Nodes).length c36])], .tok p33 9 1 (x32.1.Cuts).length c34, .tok p35 3 1 (x32.1.Nodes).length c36, .box b30 26 [(1, [.slice p26 (x25.1.Cuts).length c27]), (1, [.slice p28 (x25.1.Nodes).length c29])], .tok p26 9 1 (x25.1.Cuts).length c27, .tok p28 3 1 (x25.1.Nodes).length c29, .box b23 26 [(1, [.slice p19 (x18.1.Cuts).length c20]), (1, [.slice p21 (x18.1.Nodes).length c22])], .tok p19 9 1 (x18.1.Cuts).length c20, .tok p21 3 1 (x18.1.Nodes).length c22, .box b11 26 [(1, [.slice p2 (a1.Cuts).length c3]), (1, [.slice p4 (a1.Nodes).length c5])]]) (n := 2) rfl rfl (by kernel_rfl) rfl (by kernel_rfl) (by kernel_rfl) (by kernel_rfl) (by kernel_rfl) (sgV rfl (sgV rfl sgNil)).1 (sgV rfl (sgV rfl sgNil)).2 (by kernel_rfl) (by kernel_rfl) (by kernel_rfl) ?_)
    clear hF hS
    intro a w hF hS
    refine wl_pure (L' := [(1, .int .i64 (a6)), (2, .int .i64 (a7)), (3, .int .i64 (a8)), (5, .pointer (some ⟨b11, 0, none⟩)), (11, .pointer (some ⟨b23, 0, none⟩)), (12, .int .i64 (x18.2)), (13, .pointer (some ⟨b30, 0, none⟩)), (14, .int .i64 (x25.2)), (15, .pointer (some ⟨b37, 0, none⟩)), (16, .int .i64 (x32.2))]) 1 [1, 2, 3, 5, 11, 12, 13, 14, 15, 16] hF (by kernel_rfl) ?_
    clear hF
    intro a hF
    refine wpListIn_nil ?_
    refine hK31 _ _ ?_
    clear hK31 K31
    refine wpIn_seq_k fun K38 hK38 => ?_
    refine wpIn_region_lit ?_
    refine wl_cons rfl (wo_loads hF hS (by kernel_rfl) 9 0 2 (s' := [(1, [.slice p2 (a1.Cuts).length c3]), (1, [.slice p4 (a1.Nodes).length c5])]) (n := 2) rfl rfl rfl (by kernel_rfl) (by kernel_rfl) (by kernel_rfl) (by kernel_rfl) (by kernel_rfl) ?_)
    clear hF
    intro a hF
    refine wl_pure (L' := [(1, .int .i64 (a6)), (2, .int .i64 (a7)), (3, .int .i64 (a8)), (5, .pointer (some ⟨b11, 0, none⟩)), (11, .pointer (some ⟨b23, 0, none⟩)), (12, .int .i64 (x18.2)), (13, .pointer (some ⟨b30, 0, none⟩)), (14, .int .i64 (x25.2)), (15, .pointer (some ⟨b37, 0, none⟩)), (16, .int .i64 (x32.2)), (50, .agg (flat [(1, [.slice p2 (a1.Cuts).length c3]), (1, [.slice p4 (a1.Nodes).length c5])]).toArray), (51, .int .i64 (a6)), (52, .int .i64 (a7))]) 2 [1, 2, 3, 5, 11, 12, 13, 14, 15, 16, 50, 51, 52] hF (by kernel_rfl) ?_
    clear hF
    intro a hF
    refine bind_split H (fun x39 hx39 H => ?_)
    refine wl_cons rfl (wo_callP (args := #[.agg (flat [(1, [.slice p2 (a1.Cuts).length c3]), (1, [.slice p4 (a1.Nodes).length c5])]).toArray, .int .i64 (a6), .int .i64 (a7)]) (f := 47) hF hS (by kernel_rfl) (by kernel_rfl) (C_ref08_Merge N hS.fresh (T_api_Map.mk a1.Cuts a1.Nodes) a6 a7 p2 c3 p4 c5 ((hS.pick [6, 7] (by kernel_rfl)).ro) hx39) ?_)
    clear hF hS hx39
    rintro _ κ w a ⟨p40, c41, p42, c43, rfl, hR, hN⟩ hF hS hO
    have hS := hS.adds hR
    have hS := hS.addC hO hN
    clear hR hN hO
    refine wl_pure (L' := [(1, .int .i64 (a6)), (2, .int .i64 (a7)), (3, .int .i64 (a8)), (5, .pointer (some ⟨b11, 0, none⟩)), (11, .pointer (some ⟨b23, 0, none⟩)), (12, .int .i64 (x18.2)), (13, .pointer (some ⟨b30, 0, none⟩)), (14, .int .i64 (x25.2)), (15, .pointer (some ⟨b37, 0, none⟩)), (16, .int .i64 (x32.2)), (54, .agg (flat [(1, [.slice p40 (x39.1.Cuts).length c41]), (1, [.slice p42 (x39.1.Nodes).length c43])]).toArray), (55, .int .i64 (x39.2))]) 3 [1, 2, 3, 5, 11, 12, 13, 14, 15, 16, 54, 55] hF (by kernel_rfl) ?_
    clear hF
    intro a hF
    refine wl_cons rfl (wo_alloc hF hS (by kernel_rfl) (z := .agg (flat [(1, [.slice none 0 0]), (1, [.slice none 0 0])]).toArray) (s := [(1, [.slice none 0 0]), (1, [.slice none 0 0])]) rfl (by kernel_rfl) (sgV rfl (sgV rfl sgNil)).1 (by kernel_rfl) ?_)
    clear hF hS
    intro b44 a w hF hS
    refine wl_cons rfl (wo_stores hF hS (by kernel_rfl) 0 0 2 (v := .agg (flat [(1, [.slice p40 (x39.1.Cuts).length c41]), (1, [.slice p42 (x39.1.Nodes).length c43])]).toArray) (s' := [(1, [.slice p40 (x39.1.Cuts).length c41]), (1, [.slice p42 (x39.1.Nodes).length c43])]) (t := [(1, [.slice p40 (x39.1.Cuts).length c41]), (1, [.slice p42 (x39.1.Nodes).length c43])]) (C' := [.box b44 26 [(1, [.slice p40 (x39.1.Cuts).length c41]), (1, [.slice p42 (x39.1.Nodes).length c43])], .tok p40 9 1 (x39.1.Cuts).length c41, .tok p42 3 1 (x39.1.Nodes).length c43, .box b37 26 [(1, [.slice p33 (x32.1.Cuts).length c34]), (1, [.slice p35 (x32.1.Nodes).length c36])], .tok p33 9 1 (x32.1.Cuts).length c34, .tok p35 3 1 (x32.1.Nodes).length c36, .box b30 26 [(1, [.slice p26 (x25.1.Cuts).length c27]), (1, [.slice p28 (x25.1.Nodes).length c29])], .tok p26 9 1 (x25.1.Cuts).length c27, .tok p28 3 1 (x25.1.Nodes).length c29, .box b23 26 [(1, [.slice p19 (x18.1.Cuts).length c20]), (1, [.slice p21 (x18.1.Nodes).length c22])], .tok p19 9 1 (x18.1.Cuts).length c20, .tok p21 3 1 (x18.1.Nodes).length c22, .box b11 26 [(1, [.slice p2 (a1.Cuts).length c3]), (1, [.slice p4 (a1.Nodes).length c5])]]) (n := 2) rfl rfl (by kernel_rfl) rfl (by kernel_rfl) (by kernel_rfl) (by kernel_rfl) (by kernel_rfl) (sgV rfl (sgV rfl sgNil)).1 (sgV rfl (sgV rfl sgNil)).2 (by kernel_rfl) (by kernel_rfl) (by kernel_rfl) ?_)
    clear hF hS
    intro a w hF hS
    refine wl_pure (L' := [(1, .int .i64 (a6)), (2, .int .i64 (a7)), (3, .int .i64 (a8)), (5, .pointer (some ⟨b11, 0, none⟩)), (11, .pointer (some ⟨b23, 0, none⟩)), (12, .int .i64 (x18.2)), (13, .pointer (some ⟨b30, 0, none⟩)), (14, .int .i64 (x25.2)), (15, .pointer (some ⟨b37, 0, none⟩)), (16, .int .i64 (x32.2)), (17, .pointer (some ⟨b44, 0, none⟩)), (18, .int .i64 (x39.2))]) 1 [1, 2, 3, 5, 11, 12, 13, 14, 15, 16, 17, 18] hF (by kernel_rfl) ?_
    clear hF
    intro a hF
    refine wpListIn_nil ?_
    refine hK38 _ _ ?_
    clear hK38 K38
    refine wpIn_seq_k fun K45 hK45 => ?_
    refine wpIn_region_lit ?_
    refine wl_cons rfl (wo_loads hF hS (by kernel_rfl) 12 0 2 (s' := [(1, [.slice p2 (a1.Cuts).length c3]), (1, [.slice p4 (a1.Nodes).length c5])]) (n := 2) rfl rfl rfl (by kernel_rfl) (by kernel_rfl) (by kernel_rfl) (by kernel_rfl) (by kernel_rfl) ?_)
    clear hF
    intro a hF
    refine wl_pure (L' := [(1, .int .i64 (a6)), (2, .int .i64 (a7)), (3, .int .i64 (a8)), (5, .pointer (some ⟨b11, 0, none⟩)), (11, .pointer (some ⟨b23, 0, none⟩)), (12, .int .i64 (x18.2)), (13, .pointer (some ⟨b30, 0, none⟩)), (14, .int .i64 (x25.2)), (15, .pointer (some ⟨b37, 0, none⟩)), (16, .int .i64 (x32.2)), (17, .pointer (some ⟨b44, 0, none⟩)), (18, .int .i64 (x39.2)), (57, .agg (flat [(1, [.slice p2 (a1.Cuts).length c3]), (1, [.slice p4 (a1.Nodes).length c5])]).toArray), (58, .int .i64 (a6)), (59, .int .i64 (a7)), (60, .int .i64 (a8))]) 3 [1, 2, 3, 5, 11, 12, 13, 14, 15, 16, 17, 18, 57, 58, 59, 60] hF (by kernel_rfl) ?_
    clear hF
    intro a hF
    refine bind_split H (fun x46 hx46 H => ?_)
    refine wl_cons rfl (wo_callP (args := #[.agg (flat [(1, [.slice p2 (a1.Cuts).length c3]), (1, [.slice p4 (a1.Nodes).length c5])]).toArray, .int .i64 (a6), .int .i64 (a7), .int .i64 (a8)]) (f := 45) hF hS (by kernel_rfl) (by kernel_rfl) (C_span_Move N hS.fresh (T_api_Map.mk a1.Cuts a1.Nodes) a6 a7 a8 p2 c3 p4 c5 ((hS.pick [8, 9] (by kernel_rfl)).ro) hx46) ?_)
    clear hF hS hx46
    rintro _ κ w a ⟨p47, c48, p49, c50, rfl, hR, hN⟩ hF hS hO
    have hS := hS.adds hR
    have hS := hS.addC hO hN
    clear hR hN hO
    refine wl_pure (L' := [(1, .int .i64 (a6)), (2, .int .i64 (a7)), (3, .int .i64 (a8)), (5, .pointer (some ⟨b11, 0, none⟩)), (11, .pointer (some ⟨b23, 0, none⟩)), (12, .int .i64 (x18.2)), (13, .pointer (some ⟨b30, 0, none⟩)), (14, .int .i64 (x25.2)), (15, .pointer (some ⟨b37, 0, none⟩)), (16, .int .i64 (x32.2)), (17, .pointer (some ⟨b44, 0, none⟩)), (18, .int .i64 (x39.2)), (62, .agg (flat [(1, [.slice p47 (x46.1.Cuts).length c48]), (1, [.slice p49 (x46.1.Nodes).length c50])]).toArray), (63, .int .i64 (x46.2))]) 3 [1, 2, 3, 5, 11, 12, 13, 14, 15, 16, 17, 18, 62, 63] hF (by kernel_rfl) ?_
    clear hF
    intro a hF
    refine wl_cons rfl (wo_alloc hF hS (by kernel_rfl) (z := .agg (flat [(1, [.slice none 0 0]), (1, [.slice none 0 0])]).toArray) (s := [(1, [.slice none 0 0]), (1, [.slice none 0 0])]) rfl (by kernel_rfl) (sgV rfl (sgV rfl sgNil)).1 (by kernel_rfl) ?_)
    clear hF hS
    intro b51 a w hF hS
    refine wl_cons rfl (wo_stores hF hS (by kernel_rfl) 0 0 2 (v := .agg (flat [(1, [.slice p47 (x46.1.Cuts).length c48]), (1, [.slice p49 (x46.1.Nodes).length c50])]).toArray) (s' := [(1, [.slice p47 (x46.1.Cuts).length c48]), (1, [.slice p49 (x46.1.Nodes).length c50])]) (t := [(1, [.slice p47 (x46.1.Cuts).length c48]), (1, [.slice p49 (x46.1.Nodes).length c50])]) (C' := [.box b51 26 [(1, [.slice p47 (x46.1.Cuts).length c48]), (1, [.slice p49 (x46.1.Nodes).length c50])], .tok p47 9 1 (x46.1.Cuts).length c48, .tok p49 3 1 (x46.1.Nodes).length c50, .box b44 26 [(1, [.slice p40 (x39.1.Cuts).length c41]), (1, [.slice p42 (x39.1.Nodes).length c43])], .tok p40 9 1 (x39.1.Cuts).length c41, .tok p42 3 1 (x39.1.Nodes).length c43, .box b37 26 [(1, [.slice p33 (x32.1.Cuts).length c34]), (1, [.slice p35 (x32.1.Nodes).length c36])], .tok p33 9 1 (x32.1.Cuts).length c34, .tok p35 3 1 (x32.1.Nodes).length c36, .box b30 26 [(1, [.slice p26 (x25.1.Cuts).length c27]), (1, [.slice p28 (x25.1.Nodes).length c29])], .tok p26 9 1 (x25.1.Cuts).length c27, .tok p28 3 1 (x25.1.Nodes).length c29, .box b23 26 [(1, [.slice p19 (x18.1.Cuts).length c20]), (1, [.slice p21 (x18.1.Nodes).length c22])], .tok p19 9 1 (x18.1.Cuts).length c20, .tok p21 3 1 (x18.1.Nodes).length c22, .box b11 26 [(1, [.slice p2 (a1.Cuts).length c3]), (1, [.slice p4 (a1.Nodes).length c5])]]) (n := 2) rfl rfl (by kernel_rfl) rfl (by kernel_rfl) (by kernel_rfl) (by kernel_rfl) (by kernel_rfl) (sgV rfl (sgV rfl sgNil)).1 (sgV rfl (sgV rfl sgNil)).2 (by kernel_rfl) (by kernel_rfl) (by kernel_rfl) ?_)
    clear hF hS
    intro a w hF hS
    refine wl_pure (L' := [(1, .int .i64 (a6)), (2, .int .i64 (a7)), (3, .int .i64 (a8)), (5, .pointer (some ⟨b11, 0, none⟩)), (11, .pointer (some ⟨b23, 0, none⟩)), (12, .int .i64 (x18.2)), (13, .pointer (some ⟨b30, 0, none⟩)), (14, .int .i64 (x25.2)), (15, .pointer (some ⟨b37, 0, none⟩)), (16, .int .i64 (x32.2)), (17, .pointer (some ⟨b44, 0, none⟩)), (18, .int .i64 (x39.2)), (19, .pointer (some ⟨b51, 0, none⟩)), (20, .int .i64 (x46.2))]) 1 [1, 2, 3, 5, 11, 12, 13, 14, 15, 16, 17, 18, 19, 20] hF (by kernel_rfl) ?_
    clear hF
    intro a hF
    refine wpListIn_nil ?_
    refine hK45 _ _ ?_
    clear hK45 K45
    refine wpIn_seq_k fun K52 hK52 => ?_
    refine wpIn_region_lit ?_
    refine wl_cons rfl (wo_loads hF hS (by kernel_rfl) 15 0 2 (s' := [(1, [.slice p2 (a1.Cuts).length c3]), (1, [.slice p4 (a1.Nodes).length c5])]) (n := 2) rfl rfl rfl (by kernel_rfl) (by kernel_rfl) (by kernel_rfl) (by kernel_rfl) (by kernel_rfl) ?_)
    clear hF
    intro a hF
    refine wl_pure (L' := [(1, .int .i64 (a6)), (11, .pointer (some ⟨b23, 0, none⟩)), (12, .int .i64 (x18.2)), (13, .pointer (some ⟨b30, 0, none⟩)), (14, .int .i64 (x25.2)), (15, .pointer (some ⟨b37, 0, none⟩)), (16, .int .i64 (x32.2)), (17, .pointer (some ⟨b44, 0, none⟩)), (18, .int .i64 (x39.2)), (19, .pointer (some ⟨b51, 0, none⟩)), (20, .int .i64 (x46.2)), (65, .agg (flat [(1, [.slice p2 (a1.Cuts).length c3]), (1, [.slice p4 (a1.Nodes).length c5])]).toArray), (66, .int .i64 (a6)), (67, .int .i64 (a7)), (68, .int .i64 (a8))]) 3 [1, 11, 12, 13, 14, 15, 16, 17, 18, 19, 20, 65, 66, 67, 68] hF (by kernel_rfl) ?_
    clear hF
    intro a hF
    refine bind_split H (fun x53 hx53 H => ?_)
    refine wl_cons rfl (wo_callP (args := #[.agg (flat [(1, [.slice p2 (a1.Cuts).length c3]), (1, [.slice p4 (a1.Nodes).length c5])]).toArray, .int .i64 (a6), .int .i64 (a7), .int .i64 (a8)]) (f := 48) hF hS (by kernel_rfl) (by kernel_rfl) (C_ref08_Move N hS.fresh (T_api_Map.mk a1.Cuts a1.Nodes) a6 a7 a8 p2 c3 p4 c5 ((hS.pick [10, 11] (by kernel_rfl)).ro) hx53) ?_)
    clear hF hS hx53
    rintro _ κ w a ⟨p54, c55, p56, c57, rfl, hR, hN⟩ hF hS hO
    have hS := hS.adds hR
    have hS := hS.addC hO hN
    clear hR hN hO
    refine wl_pure (L' := [(1, .int .i64 (a6)), (11, .pointer (some ⟨b23, 0, none⟩)), (12, .int .i64 (x18.2)), (13, .pointer (some ⟨b30, 0, none⟩)), (14, .int .i64 (x25.2)), (15, .pointer (some ⟨b37, 0, none⟩)), (16, .int .i64 (x32.2)), (17, .pointer (some ⟨b44, 0, none⟩)), (18, .int .i64 (x39.2)), (19, .pointer (some ⟨b51, 0, none⟩)), (20, .int .i64 (x46.2)), (70, .agg (flat [(1, [.slice p54 (x53.1.Cuts).length c55]), (1, [.slice p56 (x53.1.Nodes).length c57])]).toArray), (71, .int .i64 (x53.2))]) 3 [1, 11, 12, 13, 14, 15, 16, 17, 18, 19, 20, 70, 71] hF (by kernel_rfl) ?_
    clear hF
    intro a hF
    refine wl_cons rfl (wo_alloc hF hS (by kernel_rfl) (z := .agg (flat [(1, [.slice none 0 0]), (1, [.slice none 0 0])]).toArray) (s := [(1, [.slice none 0 0]), (1, [.slice none 0 0])]) rfl (by kernel_rfl) (sgV rfl (sgV rfl sgNil)).1 (by kernel_rfl) ?_)
    clear hF hS
    intro b58 a w hF hS
    refine wl_cons rfl (wo_stores hF hS (by kernel_rfl) 0 0 2 (v := .agg (flat [(1, [.slice p54 (x53.1.Cuts).length c55]), (1, [.slice p56 (x53.1.Nodes).length c57])]).toArray) (s' := [(1, [.slice p54 (x53.1.Cuts).length c55]), (1, [.slice p56 (x53.1.Nodes).length c57])]) (t := [(1, [.slice p54 (x53.1.Cuts).length c55]), (1, [.slice p56 (x53.1.Nodes).length c57])]) (C' := [.box b58 26 [(1, [.slice p54 (x53.1.Cuts).length c55]), (1, [.slice p56 (x53.1.Nodes).length c57])], .tok p54 9 1 (x53.1.Cuts).length c55, .tok p56 3 1 (x53.1.Nodes).length c57, .box b51 26 [(1, [.slice p47 (x46.1.Cuts).length c48]), (1, [.slice p49 (x46.1.Nodes).length c50])], .tok p47 9 1 (x46.1.Cuts).length c48, .tok p49 3 1 (x46.1.Nodes).length c50, .box b44 26 [(1, [.slice p40 (x39.1.Cuts).length c41]), (1, [.slice p42 (x39.1.Nodes).length c43])], .tok p40 9 1 (x39.1.Cuts).length c41, .tok p42 3 1 (x39.1.Nodes).length c43, .box b37 26 [(1, [.slice p33 (x32.1.Cuts).length c34]), (1, [.slice p35 (x32.1.Nodes).length c36])], .tok p33 9 1 (x32.1.Cuts).length c34, .tok p35 3 1 (x32.1.Nodes).length c36, .box b30 26 [(1, [.slice p26 (x25.1.Cuts).length c27]), (1, [.slice p28 (x25.1.Nodes).length c29])], .tok p26 9 1 (x25.1.Cuts).length c27, .tok p28 3 1 (x25.1.Nodes).length c29, .box b23 26 [(1, [.slice p19 (x18.1.Cuts).length c20]), (1, [.slice p21 (x18.1.Nodes).length c22])], .tok p19 9 1 (x18.1.Cuts).length c20, .tok p21 3 1 (x18.1.Nodes).length c22, .box b11 26 [(1, [.slice p2 (a1.Cuts).length c3]), (1, [.slice p4 (a1.Nodes).length c5])]]) (n := 2) rfl rfl (by kernel_rfl) rfl (by kernel_rfl) (by kernel_rfl) (by kernel_rfl) (by kernel_rfl) (sgV rfl (sgV rfl sgNil)).1 (sgV rfl (sgV rfl sgNil)).2 (by kernel_rfl) (by kernel_rfl) (by kernel_rfl) ?_)
    clear hF hS
    intro a w hF hS
    refine wl_pure (L' := [(1, .int .i64 (a6)), (11, .pointer (some ⟨b23, 0, none⟩)), (12, .int .i64 (x18.2)), (13, .pointer (some ⟨b30, 0, none⟩)), (14, .int .i64 (x25.2)), (15, .pointer (some ⟨b37, 0, none⟩)), (16, .int .i64 (x32.2)), (17, .pointer (some ⟨b44, 0, none⟩)), (18, .int .i64 (x39.2)), (19, .pointer (some ⟨b51, 0, none⟩)), (20, .int .i64 (x46.2)), (21, .pointer (some ⟨b58, 0, none⟩)), (22, .int .i64 (x53.2))]) 1 [1, 11, 12, 13, 14, 15, 16, 17, 18, 19, 20, 21, 22] hF (by kernel_rfl) ?_
    clear hF
    intro a hF
    refine wpListIn_nil ?_
    refine hK52 _ _ ?_
    clear hK52 K52
    refine wpIn_seq_k fun K59 hK59 => ?_
    refine wpIn_seq_k fun K60 hK60 => ?_
    refine wpIn_region_lit ?_
    refine bind_split H (fun v62 hv62 H => ?_)
    refine wl_join (fun a w => ∃ κ : Gh, Fr (134) [] [(1, .int .i64 (a6)), (11, .pointer (some ⟨b23, 0, none⟩)), (12, .int .i64 (x18.2)), (15, .pointer (some ⟨b37, 0, none⟩)), (16, .int .i64 (x32.2)), (19, .pointer (some ⟨b51, 0, none⟩)), (20, .int .i64 (x46.2)), (102, .bool (v62))] a ∧ SS [] κ0 w0 κ w [.box b51 26 [(1, [.slice p47 (x46.1.Cuts).length c48]), (1, [.slice p49 (x46.1.Nodes).length c50])], .box b37 26 [(1, [.slice p33 (x32.1.Cuts).length c34]), (1, [.slice p35 (x32.1.Nodes).length c36])], .box b23 26 [(1, [.slice p19 (x18.1.Cuts).length c20]), (1, [.slice p21 (x18.1.Nodes).length c22])], .tok p47 9 1 (x46.1.Cuts).length c48, .tok p49 3 1 (x46.1.Nodes).length c50, .tok p33 9 1 (x32.1.Cuts).length c34, .tok p35 3 1 (x32.1.Nodes).length c36, .tok p19 9 1 (x18.1.Cuts).length c20, .tok p21 3 1 (x18.1.Nodes).length c22] [Ro.mp fStr.ty p47 c48 x46.1.Cuts, Ro.mp (fInt .i64).ty p49 c50 x46.1.Nodes, Ro.mp fStr.ty p33 c34 x32.1.Cuts, Ro.mp (fInt .i64).ty p35 c36 x32.1.Nodes, Ro.mp fStr.ty p19 c20 x18.1.Cuts, Ro.mp (fInt .i64).ty p21 c22 x18.1.Nodes] ∧ True) ?_ ?_
    · clear H
      refine wl_pure (L' := [(1, .int .i64 (a6)), (11, .pointer (some ⟨b23, 0, none⟩)), (12, .int .i64 (x18.2)), (13, .pointer (some ⟨b30, 0, none⟩)), (15, .pointer (some ⟨b37, 0, none⟩)), (16, .int .i64 (x32.2)), (17, .pointer (some ⟨b44, 0, none⟩)), (18, .int .i64 (x39.2)), (19, .pointer (some ⟨b51, 0, none⟩)), (20, .int .i64 (x46.2)), (21, .pointer (some ⟨b58, 0, none⟩)), (22, .int .i64 (x53.2)), (75, .bool ((x18.2 != x25.2)))]) 4 [1, 11, 12, 13, 15, 16, 17, 18, 19, 20, 21, 22, 75] hF (by kernel_rfl) ?_
      clear hF
      intro a hF
      refine bif_split hv62 (fun hb hv62 => ?_) (fun hb hv62 => ?_)
      · have hF := hF.boolv 75 (by kernel_rfl) hb
        clear hb
        refine wl_pure (L' := [(1, .int .i64 (a6)), (11, .pointer (some ⟨b23, 0, none⟩)), (12, .int .i64 (x18.2)), (15, .pointer (some ⟨b37, 0, none⟩)), (16, .int .i64 (x32.2)), (19, .pointer (some ⟨b51, 0, none⟩)), (20, .int .i64 (x46.2)), (102, .bool (true))]) 27 [1, 11, 12, 15, 16, 19, 20, 102] hF (by kernel_rfl) ?_
        clear hF
        intro a hF
        refine wpListIn_nil ?_
        cases hv62
        exact ⟨_, hF.keep' [1, 11, 12, 15, 16, 19, 20, 102] (by kernel_rfl), (hS.selp [3, 9, 15, 4, 5, 10, 11, 16, 17] (by decide) (by kernel_rfl)).pick [2, 3, 6, 7, 10, 11] (by kernel_rfl), trivial⟩
      · have hF := hF.boolv 75 (by kernel_rfl) hb
        clear hb
        refine wl_pure (L' := [(1, .int .i64 (a6)), (11, .pointer (some ⟨b23, 0, none⟩)), (12, .int .i64 (x18.2)), (13, .pointer (some ⟨b30, 0, none⟩)), (15, .pointer (some ⟨b37, 0, none⟩)), (16, .int .i64 (x32.2)), (17, .pointer (some ⟨b44, 0, none⟩)), (19, .pointer (some ⟨b51, 0, none⟩)), (20, .int .i64 (x46.2)), (21, .pointer (some ⟨b58, 0, none⟩)), (22, .int .i64 (x53.2)), (80, .bool ((x32.2 != x39.2)))]) 5 [1, 11, 12, 13, 15, 16, 17, 19, 20, 21, 22, 80] hF (by kernel_rfl) ?_
        clear hF
        intro a hF
        refine bif_split hv62 (fun hb hv62 => ?_) (fun hb hv62 => ?_)
        · have hF := hF.boolv 80 (by kernel_rfl) hb
          clear hb
          refine wl_pure (L' := [(1, .int .i64 (a6)), (11, .pointer (some ⟨b23, 0, none⟩)), (12, .int .i64 (x18.2)), (15, .pointer (some ⟨b37, 0, none⟩)), (16, .int .i64 (x32.2)), (19, .pointer (some ⟨b51, 0, none⟩)), (20, .int .i64 (x46.2)), (102, .bool (true))]) 22 [1, 11, 12, 15, 16, 19, 20, 102] hF (by kernel_rfl) ?_
          clear hF
          intro a hF
          refine wpListIn_nil ?_
          cases hv62
          exact ⟨_, hF.keep' [1, 11, 12, 15, 16, 19, 20, 102] (by kernel_rfl), (hS.selp [3, 9, 15, 4, 5, 10, 11, 16, 17] (by decide) (by kernel_rfl)).pick [2, 3, 6, 7, 10, 11] (by kernel_rfl), trivial⟩
        · have hF := hF.boolv 80 (by kernel_rfl) hb
          clear hb
          refine wl_pure (L' := [(1, .int .i64 (a6)), (11, .pointer (some ⟨b23, 0, none⟩)), (12, .int .i64 (x18.2)), (13, .pointer (some ⟨b30, 0, none⟩)), (15, .pointer (some ⟨b37, 0, none⟩)), (16, .int .i64 (x32.2)), (17, .pointer (some ⟨b44, 0, none⟩)), (19, .pointer (some ⟨b51, 0, none⟩)), (20, .int .i64 (x46.2)), (21, .pointer (some ⟨b58, 0, none⟩)), (85, .bool ((x46.2 != x53.2)))]) 5 [1, 11, 12, 13, 15, 16, 17, 19, 20, 21, 85] hF (by kernel_rfl) ?_
          clear hF
          intro a hF
          refine bif_split hv62 (fun hb hv62 => ?_) (fun hb hv62 => ?_)
          · have hF := hF.boolv 85 (by kernel_rfl) hb
            clear hb
            refine wl_pure (L' := [(1, .int .i64 (a6)), (11, .pointer (some ⟨b23, 0, none⟩)), (12, .int .i64 (x18.2)), (15, .pointer (some ⟨b37, 0, none⟩)), (16, .int .i64 (x32.2)), (19, .pointer (some ⟨b51, 0, none⟩)), (20, .int .i64 (x46.2)), (102, .bool (true))]) 17 [1, 11, 12, 15, 16, 19, 20, 102] hF (by kernel_rfl) ?_
            clear hF
            intro a hF
            refine wpListIn_nil ?_
            cases hv62
            exact ⟨_, hF.keep' [1, 11, 12, 15, 16, 19, 20, 102] (by kernel_rfl), (hS.selp [3, 9, 15, 4, 5, 10, 11, 16, 17] (by decide) (by kernel_rfl)).pick [2, 3, 6, 7, 10, 11] (by kernel_rfl), trivial⟩
          · have hF := hF.boolv 85 (by kernel_rfl) hb
            clear hb
            refine wl_consg hF (by kernel_rfl) (wo_loads hF hS (by kernel_rfl) 15 0 2 (s' := [(1, [.slice p19 (x18.1.Cuts).length c20]), (1, [.slice p21 (x18.1.Nodes).length c22])]) (n := 2) rfl rfl rfl (by kernel_rfl) (by kernel_rfl) (by kernel_rfl) (by kernel_rfl) (by kernel_rfl) ?_)
            clear hF
            intro a hF
            refine wl_consg hF (by kernel_rfl) (wo_loads hF hS (by kernel_rfl) 12 0 2 (s' := [(1, [.slice p26 (x25.1.Cuts).length c27]), (1, [.slice p28 (x25.1.Nodes).length c29])]) (n := 2) rfl rfl rfl (by kernel_rfl) (by kernel_rfl) (by kernel_rfl) (by kernel_rfl) (by kernel_rfl) ?_)
            clear hF
            intro a hF
            refine bind_split hv62 (fun x63 hx63 hv62 => ?_)
            refine wl_consg hF (by kernel_rfl) (wo_callP (args := #[.agg (flat [(1, [.slice p19 (x18.1.Cuts).length c20]), (1, [.slice p21 (x18.1.Nodes).length c22])]).toArray, .agg (flat [(1, [.slice p26 (x25.1.Cuts).length c27]), (1, [.slice p28 (x25.1.Nodes).length c29])]).toArray]) (f := 44) hF hS (by kernel_rfl) (by kernel_rfl) (C_ref08_Same N hS.fresh (T_api_Map.mk x18.1.Cuts x18.1.Nodes) (T_api_Map.mk x25.1.Cuts x25.1.Nodes) p19 c20 p21 c22 p26 c27 p28 c29 ((hS.pick [10, 11, 8, 9] (by kernel_rfl)).ro) hx63) ?_)
            clear hF hS hx63
            rintro _ κ w a ⟨rfl, hR, hN⟩ hF hS hO
            clear hR hN hO
            refine wl_pure (L' := [(1, .int .i64 (a6)), (11, .pointer (some ⟨b23, 0, none⟩)), (12, .int .i64 (x18.2)), (15, .pointer (some ⟨b37, 0, none⟩)), (16, .int .i64 (x32.2)), (17, .pointer (some ⟨b44, 0, none⟩)), (19, .pointer (some ⟨b51, 0, none⟩)), (20, .int .i64 (x46.2)), (21, .pointer (some ⟨b58, 0, none⟩)), (91, .bool ((!x63)))]) 3 [1, 11, 12, 15, 16, 17, 19, 20, 21, 91] hF (by kernel_rfl) ?_
            clear hF
            intro a hF
            refine bif_split hv62 (fun hb hv62 => ?_) (fun hb hv62 => ?_)
            · have hF := hF.boolv 91 (by kernel_rfl) hb
              clear hb
              refine wl_pure (L' := [(1, .int .i64 (a6)), (11, .pointer (some ⟨b23, 0, none⟩)), (12, .int .i64 (x18.2)), (15, .pointer (some ⟨b37, 0, none⟩)), (16, .int .i64 (x32.2)), (19, .pointer (some ⟨b51, 0, none⟩)), (20, .int .i64 (x46.2)), (102, .bool (true))]) 11 [1, 11, 12, 15, 16, 19, 20, 102] hF (by kernel_rfl) ?_
              clear hF
              intro a hF
              refine wpListIn_nil ?_
              cases hv62
              exact ⟨_, hF.keep' [1, 11, 12, 15, 16, 19, 20, 102] (by kernel_rfl), (hS.selp [3, 9, 15, 4, 5, 10, 11, 16, 17] (by decide) (by kernel_rfl)).pick [2, 3, 6, 7, 10, 11] (by kernel_rfl), trivial⟩
            · have hF := hF.boolv 91 (by kernel_rfl) hb
              clear hb
              refine wl_consg hF (by kernel_rfl) (wo_loads hF hS (by kernel_rfl) 9 0 2 (s' := [(1, [.slice p33 (x32.1.Cuts).length c34]), (1, [.slice p35 (x32.1.Nodes).length c36])]) (n := 2) rfl rfl rfl (by kernel_rfl) (by kernel_rfl) (by kernel_rfl) (by kernel_rfl) (by kernel_rfl) ?_)
              clear hF
              intro a hF
              refine wl_consg hF (by kernel_rfl) (wo_loads hF hS (by kernel_rfl) 6 0 2 (s' := [(1, [.slice p40 (x39.1.Cuts).length c41]), (1, [.slice p42 (x39.1.Nodes).length c43])]) (n := 2) rfl rfl rfl (by kernel_rfl) (by kernel_rfl) (by kernel_rfl) (by kernel_rfl) (by kernel_rfl) ?_)
              clear hF
              intro a hF
              refine bind_split hv62 (fun x64 hx64 hv62 => ?_)
              refine wl_consg hF (by kernel_rfl) (wo_callP (args := #[.agg (flat [(1, [.slice p33 (x32.1.Cuts).length c34]), (1, [.slice p35 (x32.1.Nodes).length c36])]).toArray, .agg (flat [(1, [.slice p40 (x39.1.Cuts).length c41]), (1, [.slice p42 (x39.1.Nodes).length c43])]).toArray]) (f := 44) hF hS (by kernel_rfl) (by kernel_rfl) (C_ref08_Same N hS.fresh (T_api_Map.mk x32.1.Cuts x32.1.Nodes) (T_api_Map.mk x39.1.Cuts x39.1.Nodes) p33 c34 p35 c36 p40 c41 p42 c43 ((hS.pick [6, 7, 4, 5] (by kernel_rfl)).ro) hx64) ?_)
              clear hF hS hx64
              rintro _ κ w a ⟨rfl, hR, hN⟩ hF hS hO
              clear hR hN hO
              refine wl_pure (L' := [(1, .int .i64 (a6)), (11, .pointer (some ⟨b23, 0, none⟩)), (12, .int .i64 (x18.2)), (15, .pointer (some ⟨b37, 0, none⟩)), (16, .int .i64 (x32.2)), (19, .pointer (some ⟨b51, 0, none⟩)), (20, .int .i64 (x46.2)), (21, .pointer (some ⟨b58, 0, none⟩)), (97, .bool ((!x64)))]) 3 [1, 11, 12, 15, 16, 19, 20, 21, 97] hF (by kernel_rfl) ?_
              clear hF
              intro a hF
              refine bif_split hv62 (fun hb hv62 => ?_) (fun hb hv62 => ?_)
              · have hF := hF.boolv 97 (by kernel_rfl) hb
                clear hb
                refine wl_pure (L' := [(1, .int .i64 (a6)), (11, .pointer (some ⟨b23, 0, none⟩)), (12, .int .i64 (x18.2)), (15, .pointer (some ⟨b37, 0, none⟩)), (16, .int .i64 (x32.2)), (19, .pointer (some ⟨b51, 0, none⟩)), (20, .int .i64 (x46.2)), (102, .bool (true))]) 5 [1, 11, 12, 15, 16, 19, 20, 102] hF (by kernel_rfl) ?_
                clear hF
                intro a hF
                refine wpListIn_nil ?_
                cases hv62
                exact ⟨_, hF.keep' [1, 11, 12, 15, 16, 19, 20, 102] (by kernel_rfl), (hS.selp [3, 9, 15, 4, 5, 10, 11, 16, 17] (by decide) (by kernel_rfl)).pick [2, 3, 6, 7, 10, 11] (by kernel_rfl), trivial⟩
              · have hF := hF.boolv 97 (by kernel_rfl) hb
                clear hb
                refine wl_consg hF (by kernel_rfl) (wo_loads hF hS (by kernel_rfl) 3 0 2 (s' := [(1, [.slice p47 (x46.1.Cuts).length c48]), (1, [.slice p49 (x46.1.Nodes).length c50])]) (n := 2) rfl rfl rfl (by kernel_rfl) (by kernel_rfl) (by kernel_rfl) (by kernel_rfl) (by kernel_rfl) ?_)
                clear hF
                intro a hF
                refine wl_consg hF (by kernel_rfl) (wo_loads hF hS (by kernel_rfl) 0 0 2 (s' := [(1, [.slice p54 (x53.1.Cuts).length c55]), (1, [.slice p56 (x53.1.Nodes).length c57])]) (n := 2) rfl rfl rfl (by kernel_rfl) (by kernel_rfl) (by kernel_rfl) (by kernel_rfl) (by kernel_rfl) ?_)
                clear hF
                intro a hF
                refine bind_split hv62 (fun x65 hx65 hv62 => ?_)
                refine wl_consg hF (by kernel_rfl) (wo_callP (args := #[.agg (flat [(1, [.slice p47 (x46.1.Cuts).length c48]), (1, [.slice p49 (x46.1.Nodes).length c50])]).toArray, .agg (flat [(1, [.slice p54 (x53.1.Cuts).length c55]), (1, [.slice p56 (x53.1.Nodes).length c57])]).toArray]) (f := 44) hF hS (by kernel_rfl) (by kernel_rfl) (C_ref08_Same N hS.fresh (T_api_Map.mk x46.1.Cuts x46.1.Nodes) (T_api_Map.mk x53.1.Cuts x53.1.Nodes) p47 c48 p49 c50 p54 c55 p56 c57 ((hS.pick [2, 3, 0, 1] (by kernel_rfl)).ro) hx65) ?_)
                clear hF hS hx65
                rintro _ κ w a ⟨rfl, hR, hN⟩ hF hS hO
                clear hR hN hO
                refine wl_pure (L' := [(1, .int .i64 (a6)), (11, .pointer (some ⟨b23, 0, none⟩)), (12, .int .i64 (x18.2)), (15, .pointer (some ⟨b37, 0, none⟩)), (16, .int .i64 (x32.2)), (19, .pointer (some ⟨b51, 0, none⟩)), (20, .int .i64 (x46.2)), (102, .bool ((!x65)))]) 2 [1, 11, 12, 15, 16, 19, 20, 102] hF (by kernel_rfl) ?_
                clear hF
                intro a hF
                refine wpListIn_nil ?_
                cases hv62
                exact ⟨_, hF.keep' [1, 11, 12, 15, 16, 19, 20, 102] (by kernel_rfl), (hS.selp [3, 9, 15, 4, 5, 10, 11, 16, 17] (by decide) (by kernel_rfl)).pick [2, 3, 6, 7, 10, 11] (by kernel_rfl), trivial⟩
    · clear hF hS hv62
      rintro a w ⟨κ, hF, hS, -⟩
      refine hK60 _ _ ?_
      clear hK60 K60
      refine bif_split H (fun hb H => ?_) (fun hb H => ?_)
      · refine cond_t hF (by kernel_rfl) hb ?_
        clear hb
        refine wpIn_seq_k fun K66 hK66 => ?_
        refine wpIn_region_lit ?_
        refine wl_pure (L' := [(10, .bool (false))]) 1 [10] hF (by kernel_rfl) ?_
        clear hF
        intro a hF
        refine wpListIn_nil ?_
        refine hK66 _ _ ?_
        clear hK66 K66
        refine wpIn_ret ?_
        cases H
        exact (ret_done hF hS (res1 Try.results9 (rv_tmp hF (by kernel_rfl))) ⟨rfl, (hS.pick [] (by kernel_rfl)).ro, hS.newC [] (by decide) (by kernel_rfl)⟩)
      · refine cond_f hF (by kernel_rfl) hb ?_
        clear hb
        refine wpIn_skip ?_
        refine hK59 _ _ ?_
        refine wpIn_seq_k fun K67 hK67 => ?_
        refine wpIn_region_lit ?_
        refine bind_split H (fun v69 hv69 H => ?_)
        refine wl_join (fun a w => ∃ κ : Gh, Fr (134) [] [(10, .bool (v69))] a ∧ SS [] κ0 w0 κ w [] [] ∧ True) ?_ ?_
        · clear H
          refine bind_split hv69 (fun x70 hx70 hv69 => ?_)
          refine wl_cons rfl (wo_callP (args := #[]) (f := 29) hF hS (by kernel_rfl) (by kernel_rfl) (C_law08_awake N hS.fresh   ((hS.pick [] (by kernel_rfl)).ro) hx70) ?_)
          clear hF hS hx70
          rintro _ κ w a ⟨rfl, hR, hN⟩ hF hS hO
          clear hR hN hO
          refine wl_pure (L' := [(1, .int .i64 (a6)), (11, .pointer (some ⟨b23, 0, none⟩)), (12, .int .i64 (x18.2)), (15, .pointer (some ⟨b37, 0, none⟩)), (16, .int .i64 (x32.2)), (19, .pointer (some ⟨b51, 0, none⟩)), (20, .int .i64 (x46.2)), (104, .bool (x70))]) 1 [1, 11, 12, 15, 16, 19, 20, 104] hF (by kernel_rfl) ?_
          clear hF
          intro a hF
          refine bif_split hv69 (fun hb hv69 => ?_) (fun hb hv69 => ?_)
          · have hF := hF.boolv 104 (by kernel_rfl) hb
            clear hb
            refine wl_pure (L' := [(1, .int .i64 (a6)), (11, .pointer (some ⟨b23, 0, none⟩)), (15, .pointer (some ⟨b37, 0, none⟩)), (16, .int .i64 (x32.2)), (19, .pointer (some ⟨b51, 0, none⟩)), (20, .int .i64 (x46.2)), (104, .bool (true)), (107, .bool ((x18.2 != 0)))]) 3 [1, 11, 15, 16, 19, 20, 104, 107] hF (by kernel_rfl) ?_
            clear hF
            intro a hF
            refine bif_split hv69 (fun hb hv69 => ?_) (fun hb hv69 => ?_)
            · have hF := hF.boolv 107 (by kernel_rfl) hb
              clear hb
              refine wl_pure (L' := [(1, .int .i64 (a6)), (15, .pointer (some ⟨b37, 0, none⟩)), (19, .pointer (some ⟨b51, 0, none⟩)), (20, .int .i64 (x46.2)), (114, .bool (true)), (117, .bool ((x32.2 != 0)))]) 10 [1, 15, 19, 20, 114, 117] hF (by kernel_rfl) ?_
              clear hF
              intro a hF
              refine bif_split hv69 (fun hb hv69 => ?_) (fun hb hv69 => ?_)
              · have hF := hF.boolv 117 (by kernel_rfl) hb
                clear hb
                refine wl_pure (L' := [(1, .int .i64 (a6)), (19, .pointer (some ⟨b51, 0, none⟩)), (124, .bool (true)), (127, .bool ((x46.2 != 0)))]) 10 [1, 19, 124, 127] hF (by kernel_rfl) ?_
                clear hF
                intro a hF
                refine bif_split hv69 (fun hb hv69 => ?_) (fun hb hv69 => ?_)
                · have hF := hF.boolv 127 (by kernel_rfl) hb
                  clear hb
                  refine wl_pure (L' := [(10, .bool (true))]) 7 [10] hF (by kernel_rfl) ?_
                  clear hF
                  intro a hF
                  refine wpListIn_nil ?_
                  cases hv69
                  exact ⟨_, hF.keep' [10] (by kernel_rfl), (hS.selp [] (by decide) (by kernel_rfl)).pick [] (by kernel_rfl), trivial⟩
                · have hF := hF.boolv 127 (by kernel_rfl) hb
                  clear hb
                  refine wl_consg hF (by kernel_rfl) (wo_loads hF hS (by kernel_rfl) 0 0 2 (s' := [(1, [.slice p47 (x46.1.Cuts).length c48]), (1, [.slice p49 (x46.1.Nodes).length c50])]) (n := 2) rfl rfl rfl (by kernel_rfl) (by kernel_rfl) (by kernel_rfl) (by kernel_rfl) (by kernel_rfl) ?_)
                  clear hF
                  intro a hF
                  refine wl_pure (L' := [(124, .bool (true)), (127, .bool (false)), (128, .agg (flat [(1, [.slice p47 (x46.1.Cuts).length c48]), (1, [.slice p49 (x46.1.Nodes).length c50])]).toArray), (129, .int .i64 (a6))]) 1 [124, 127, 128, 129] hF (by kernel_rfl) ?_
                  clear hF
                  intro a hF
                  refine bind_split hv69 (fun x71 hx71 hv69 => ?_)
                  refine wl_consg hF (by kernel_rfl) (wo_callP (args := #[.agg (flat [(1, [.slice p47 (x46.1.Cuts).length c48]), (1, [.slice p49 (x46.1.Nodes).length c50])]).toArray, .int .i64 (a6)]) (f := 30) hF hS (by kernel_rfl) (by kernel_rfl) (C_span_Check N hS.fresh (T_api_Map.mk x46.1.Cuts x46.1.Nodes) a6 p47 c48 p49 c50 ((hS.pick [0, 1] (by kernel_rfl)).ro) hx71) ?_)
                  clear hF hS hx71
                  rintro _ κ w a ⟨rfl, hR, hN⟩ hF hS hO
                  clear hR hN hO
                  refine wl_pure (L' := [(10, .bool ((x71 == 0)))]) 4 [10] hF (by kernel_rfl) ?_
                  clear hF
                  intro a hF
                  refine wpListIn_nil ?_
                  cases hv69
                  exact ⟨_, hF.keep' [10] (by kernel_rfl), (hS.selp [] (by decide) (by kernel_rfl)).pick [] (by kernel_rfl), trivial⟩
              · have hF := hF.boolv 117 (by kernel_rfl) hb
                clear hb
                refine wl_consg hF (by kernel_rfl) (wo_loads hF hS (by kernel_rfl) 1 0 2 (s' := [(1, [.slice p33 (x32.1.Cuts).length c34]), (1, [.slice p35 (x32.1.Nodes).length c36])]) (n := 2) rfl rfl rfl (by kernel_rfl) (by kernel_rfl) (by kernel_rfl) (by kernel_rfl) (by kernel_rfl) ?_)
                clear hF
                intro a hF
                refine wl_pure (L' := [(1, .int .i64 (a6)), (19, .pointer (some ⟨b51, 0, none⟩)), (20, .int .i64 (x46.2)), (114, .bool (true)), (117, .bool (false)), (118, .agg (flat [(1, [.slice p33 (x32.1.Cuts).length c34]), (1, [.slice p35 (x32.1.Nodes).length c36])]).toArray), (119, .int .i64 (a6))]) 1 [1, 19, 20, 114, 117, 118, 119] hF (by kernel_rfl) ?_
                clear hF
                intro a hF
                refine bind_split hv69 (fun x72 hx72 hv69 => ?_)
                refine wl_consg hF (by kernel_rfl) (wo_callP (args := #[.agg (flat [(1, [.slice p33 (x32.1.Cuts).length c34]), (1, [.slice p35 (x32.1.Nodes).length c36])]).toArray, .int .i64 (a6)]) (f := 30) hF hS (by kernel_rfl) (by kernel_rfl) (C_span_Check N hS.fresh (T_api_Map.mk x32.1.Cuts x32.1.Nodes) a6 p33 c34 p35 c36 ((hS.pick [2, 3] (by kernel_rfl)).ro) hx72) ?_)
                clear hF hS hx72
                rintro _ κ w a ⟨rfl, hR, hN⟩ hF hS hO
                clear hR hN hO
                refine wl_pure (L' := [(1, .int .i64 (a6)), (19, .pointer (some ⟨b51, 0, none⟩)), (20, .int .i64 (x46.2)), (124, .bool ((x72 == 0)))]) 4 [1, 19, 20, 124] hF (by kernel_rfl) ?_
                clear hF
                intro a hF
                refine bif_split hv69 (fun hb hv69 => ?_) (fun hb hv69 => ?_)
                · have hF := hF.boolv 124 (by kernel_rfl) hb
                  clear hb
                  refine wl_pure (L' := [(1, .int .i64 (a6)), (19, .pointer (some ⟨b51, 0, none⟩)), (124, .bool (true)), (127, .bool ((x46.2 != 0)))]) 3 [1, 19, 124, 127] hF (by kernel_rfl) ?_
                  clear hF
                  intro a hF
                  refine bif_split hv69 (fun hb hv69 => ?_) (fun hb hv69 => ?_)
                  · have hF := hF.boolv 127 (by kernel_rfl) hb
                    clear hb
                    refine wl_pure (L' := [(10, .bool (true))]) 7 [10] hF (by kernel_rfl) ?_
                    clear hF
                    intro a hF
                    refine wpListIn_nil ?_
                    cases hv69
                    exact ⟨_, hF.keep' [10] (by kernel_rfl), (hS.selp [] (by decide) (by kernel_rfl)).pick [] (by kernel_rfl), trivial⟩
                  · have hF := hF.boolv 127 (by kernel_rfl) hb
                    clear hb
                    refine wl_consg hF (by kernel_rfl) (wo_loads hF hS (by kernel_rfl) 0 0 2 (s' := [(1, [.slice p47 (x46.1.Cuts).length c48]), (1, [.slice p49 (x46.1.Nodes).length c50])]) (n := 2) rfl rfl rfl (by kernel_rfl) (by kernel_rfl) (by kernel_rfl) (by kernel_rfl) (by kernel_rfl) ?_)
                    clear hF
                    intro a hF
                    refine wl_pure (L' := [(124, .bool (true)), (127, .bool (false)), (128, .agg (flat [(1, [.slice p47 (x46.1.Cuts).length c48]), (1, [.slice p49 (x46.1.Nodes).length c50])]).toArray), (129, .int .i64 (a6))]) 1 [124, 127, 128, 129] hF (by kernel_rfl) ?_
                    clear hF
                    intro a hF
                    refine bind_split hv69 (fun x73 hx73 hv69 => ?_)
                    refine wl_consg hF (by kernel_rfl) (wo_callP (args := #[.agg (flat [(1, [.slice p47 (x46.1.Cuts).length c48]), (1, [.slice p49 (x46.1.Nodes).length c50])]).toArray, .int .i64 (a6)]) (f := 30) hF hS (by kernel_rfl) (by kernel_rfl) (C_span_Check N hS.fresh (T_api_Map.mk x46.1.Cuts x46.1.Nodes) a6 p47 c48 p49 c50 ((hS.pick [0, 1] (by kernel_rfl)).ro) hx73) ?_)
                    clear hF hS hx73
                    rintro _ κ w a ⟨rfl, hR, hN⟩ hF hS hO
                    clear hR hN hO
                    refine wl_pure (L' := [(10, .bool ((x73 == 0)))]) 4 [10] hF (by kernel_rfl) ?_
                    clear hF
                    intro a hF
                    refine wpListIn_nil ?_
                    cases hv69
                    exact ⟨_, hF.keep' [10] (by kernel_rfl), (hS.selp [] (by decide) (by kernel_rfl)).pick [] (by kernel_rfl), trivial⟩
                · have hF := hF.boolv 124 (by kernel_rfl) hb
                  clear hb
                  refine wl_pure (L' := [(10, .bool (false))]) 10 [10] hF (by kernel_rfl) ?_
                  clear hF
                  intro a hF
                  refine wpListIn_nil ?_
                  cases hv69
                  exact ⟨_, hF.keep' [10] (by kernel_rfl), (hS.selp [] (by decide) (by kernel_rfl)).pick [] (by kernel_rfl), trivial⟩
            · have hF := hF.boolv 107 (by kernel_rfl) hb
              clear hb
              refine wl_consg hF (by kernel_rfl) (wo_loads hF hS (by kernel_rfl) 2 0 2 (s' := [(1, [.slice p19 (x18.1.Cuts).length c20]), (1, [.slice p21 (x18.1.Nodes).length c22])]) (n := 2) rfl rfl rfl (by kernel_rfl) (by kernel_rfl) (by kernel_rfl) (by kernel_rfl) (by kernel_rfl) ?_)
              clear hF
              intro a hF
              refine wl_pure (L' := [(1, .int .i64 (a6)), (15, .pointer (some ⟨b37, 0, none⟩)), (16, .int .i64 (x32.2)), (19, .pointer (some ⟨b51, 0, none⟩)), (20, .int .i64 (x46.2)), (104, .bool (true)), (107, .bool (false)), (108, .agg (flat [(1, [.slice p19 (x18.1.Cuts).length c20]), (1, [.slice p21 (x18.1.Nodes).length c22])]).toArray), (109, .int .i64 (a6))]) 1 [1, 15, 16, 19, 20, 104, 107, 108, 109] hF (by kernel_rfl) ?_
              clear hF
              intro a hF
              refine bind_split hv69 (fun x74 hx74 hv69 => ?_)
              refine wl_consg hF (by kernel_rfl) (wo_callP (args := #[.agg (flat [(1, [.slice p19 (x18.1.Cuts).length c20]), (1, [.slice p21 (x18.1.Nodes).length c22])]).toArray, .int .i64 (a6)]) (f := 30) hF hS (by kernel_rfl) (by kernel_rfl) (C_span_Check N hS.fresh (T_api_Map.mk x18.1.Cuts x18.1.Nodes) a6 p19 c20 p21 c22 ((hS.pick [4, 5] (by kernel_rfl)).ro) hx74) ?_)
              clear hF hS hx74
              rintro _ κ w a ⟨rfl, hR, hN⟩ hF hS hO
              clear hR hN hO
              refine wl_pure (L' := [(1, .int .i64 (a6)), (15, .pointer (some ⟨b37, 0, none⟩)), (16, .int .i64 (x32.2)), (19, .pointer (some ⟨b51, 0, none⟩)), (20, .int .i64 (x46.2)), (114, .bool ((x74 == 0)))]) 4 [1, 15, 16, 19, 20, 114] hF (by kernel_rfl) ?_
              clear hF
              intro a hF
              refine bif_split hv69 (fun hb hv69 => ?_) (fun hb hv69 => ?_)
              · have hF := hF.boolv 114 (by kernel_rfl) hb
                clear hb
                refine wl_pure (L' := [(1, .int .i64 (a6)), (15, .pointer (some ⟨b37, 0, none⟩)), (19, .pointer (some ⟨b51, 0, none⟩)), (20, .int .i64 (x46.2)), (114, .bool (true)), (117, .bool ((x32.2 != 0)))]) 3 [1, 15, 19, 20, 114, 117] hF (by kernel_rfl) ?_
                clear hF
                intro a hF
                refine bif_split hv69 (fun hb hv69 => ?_) (fun hb hv69 => ?_)
                · have hF := hF.boolv 117 (by kernel_rfl) hb
                  clear hb
                  refine wl_pure (L' := [(1, .int .i64 (a6)), (19, .pointer (some ⟨b51, 0, none⟩)), (124, .bool (true)), (127, .bool ((x46.2 != 0)))]) 10 [1, 19, 124, 127] hF (by kernel_rfl) ?_
                  clear hF
                  intro a hF
                  refine bif_split hv69 (fun hb hv69 => ?_) (fun hb hv69 => ?_)
                  · have hF := hF.boolv 127 (by kernel_rfl) hb
                    clear hb
                    refine wl_pure (L' := [(10, .bool (true))]) 7 [10] hF (by kernel_rfl) ?_
                    clear hF
                    intro a hF
                    refine wpListIn_nil ?_
                    cases hv69
                    exact ⟨_, hF.keep' [10] (by kernel_rfl), (hS.selp [] (by decide) (by kernel_rfl)).pick [] (by kernel_rfl), trivial⟩
                  · have hF := hF.boolv 127 (by kernel_rfl) hb
                    clear hb
                    refine wl_consg hF (by kernel_rfl) (wo_loads hF hS (by kernel_rfl) 0 0 2 (s' := [(1, [.slice p47 (x46.1.Cuts).length c48]), (1, [.slice p49 (x46.1.Nodes).length c50])]) (n := 2) rfl rfl rfl (by kernel_rfl) (by kernel_rfl) (by kernel_rfl) (by kernel_rfl) (by kernel_rfl) ?_)
                    clear hF
                    intro a hF
                    refine wl_pure (L' := [(124, .bool (true)), (127, .bool (false)), (128, .agg (flat [(1, [.slice p47 (x46.1.Cuts).length c48]), (1, [.slice p49 (x46.1.Nodes).length c50])]).toArray), (129, .int .i64 (a6))]) 1 [124, 127, 128, 129] hF (by kernel_rfl) ?_
                    clear hF
                    intro a hF
                    refine bind_split hv69 (fun x75 hx75 hv69 => ?_)
                    refine wl_consg hF (by kernel_rfl) (wo_callP (args := #[.agg (flat [(1, [.slice p47 (x46.1.Cuts).length c48]), (1, [.slice p49 (x46.1.Nodes).length c50])]).toArray, .int .i64 (a6)]) (f := 30) hF hS (by kernel_rfl) (by kernel_rfl) (C_span_Check N hS.fresh (T_api_Map.mk x46.1.Cuts x46.1.Nodes) a6 p47 c48 p49 c50 ((hS.pick [0, 1] (by kernel_rfl)).ro) hx75) ?_)
                    clear hF hS hx75
                    rintro _ κ w a ⟨rfl, hR, hN⟩ hF hS hO
                    clear hR hN hO
                    refine wl_pure (L' := [(10, .bool ((x75 == 0)))]) 4 [10] hF (by kernel_rfl) ?_
                    clear hF
                    intro a hF
                    refine wpListIn_nil ?_
                    cases hv69
                    exact ⟨_, hF.keep' [10] (by kernel_rfl), (hS.selp [] (by decide) (by kernel_rfl)).pick [] (by kernel_rfl), trivial⟩
                · have hF := hF.boolv 117 (by kernel_rfl) hb
                  clear hb
                  refine wl_consg hF (by kernel_rfl) (wo_loads hF hS (by kernel_rfl) 1 0 2 (s' := [(1, [.slice p33 (x32.1.Cuts).length c34]), (1, [.slice p35 (x32.1.Nodes).length c36])]) (n := 2) rfl rfl rfl (by kernel_rfl) (by kernel_rfl) (by kernel_rfl) (by kernel_rfl) (by kernel_rfl) ?_)
                  clear hF
                  intro a hF
                  refine wl_pure (L' := [(1, .int .i64 (a6)), (19, .pointer (some ⟨b51, 0, none⟩)), (20, .int .i64 (x46.2)), (114, .bool (true)), (117, .bool (false)), (118, .agg (flat [(1, [.slice p33 (x32.1.Cuts).length c34]), (1, [.slice p35 (x32.1.Nodes).length c36])]).toArray), (119, .int .i64 (a6))]) 1 [1, 19, 20, 114, 117, 118, 119] hF (by kernel_rfl) ?_
                  clear hF
                  intro a hF
                  refine bind_split hv69 (fun x76 hx76 hv69 => ?_)
                  refine wl_consg hF (by kernel_rfl) (wo_callP (args := #[.agg (flat [(1, [.slice p33 (x32.1.Cuts).length c34]), (1, [.slice p35 (x32.1.Nodes).length c36])]).toArray, .int .i64 (a6)]) (f := 30) hF hS (by kernel_rfl) (by kernel_rfl) (C_span_Check N hS.fresh (T_api_Map.mk x32.1.Cuts x32.1.Nodes) a6 p33 c34 p35 c36 ((hS.pick [2, 3] (by kernel_rfl)).ro) hx76) ?_)
                  clear hF hS hx76
                  rintro _ κ w a ⟨rfl, hR, hN⟩ hF hS hO
                  clear hR hN hO
                  refine wl_pure (L' := [(1, .int .i64 (a6)), (19, .pointer (some ⟨b51, 0, none⟩)), (20, .int .i64 (x46.2)), (124, .bool ((x76 == 0)))]) 4 [1, 19, 20, 124] hF (by kernel_rfl) ?_
                  clear hF
                  intro a hF
                  refine bif_split hv69 (fun hb hv69 => ?_) (fun hb hv69 => ?_)
                  · have hF := hF.boolv 124 (by kernel_rfl) hb
                    clear hb
                    refine wl_pure (L' := [(1, .int .i64 (a6)), (19, .pointer (some ⟨b51, 0, none⟩)), (124, .bool (true)), (127, .bool ((x46.2 != 0)))]) 3 [1, 19, 124, 127] hF (by kernel_rfl) ?_
                    clear hF
                    intro a hF
                    refine bif_split hv69 (fun hb hv69 => ?_) (fun hb hv69 => ?_)
                    · have hF := hF.boolv 127 (by kernel_rfl) hb
                      clear hb
                      refine wl_pure (L' := [(10, .bool (true))]) 7 [10] hF (by kernel_rfl) ?_
                      clear hF
                      intro a hF
                      refine wpListIn_nil ?_
                      cases hv69
                      exact ⟨_, hF.keep' [10] (by kernel_rfl), (hS.selp [] (by decide) (by kernel_rfl)).pick [] (by kernel_rfl), trivial⟩
                    · have hF := hF.boolv 127 (by kernel_rfl) hb
                      clear hb
                      refine wl_consg hF (by kernel_rfl) (wo_loads hF hS (by kernel_rfl) 0 0 2 (s' := [(1, [.slice p47 (x46.1.Cuts).length c48]), (1, [.slice p49 (x46.1.Nodes).length c50])]) (n := 2) rfl rfl rfl (by kernel_rfl) (by kernel_rfl) (by kernel_rfl) (by kernel_rfl) (by kernel_rfl) ?_)
                      clear hF
                      intro a hF
                      refine wl_pure (L' := [(124, .bool (true)), (127, .bool (false)), (128, .agg (flat [(1, [.slice p47 (x46.1.Cuts).length c48]), (1, [.slice p49 (x46.1.Nodes).length c50])]).toArray), (129, .int .i64 (a6))]) 1 [124, 127, 128, 129] hF (by kernel_rfl) ?_
                      clear hF
                      intro a hF
                      refine bind_split hv69 (fun x77 hx77 hv69 => ?_)
                      refine wl_consg hF (by kernel_rfl) (wo_callP (args := #[.agg (flat [(1, [.slice p47 (x46.1.Cuts).length c48]), (1, [.slice p49 (x46.1.Nodes).length c50])]).toArray, .int .i64 (a6)]) (f := 30) hF hS (by kernel_rfl) (by kernel_rfl) (C_span_Check N hS.fresh (T_api_Map.mk x46.1.Cuts x46.1.Nodes) a6 p47 c48 p49 c50 ((hS.pick [0, 1] (by kernel_rfl)).ro) hx77) ?_)
                      clear hF hS hx77
                      rintro _ κ w a ⟨rfl, hR, hN⟩ hF hS hO
                      clear hR hN hO
                      refine wl_pure (L' := [(10, .bool ((x77 == 0)))]) 4 [10] hF (by kernel_rfl) ?_
                      clear hF
                      intro a hF
                      refine wpListIn_nil ?_
                      cases hv69
                      exact ⟨_, hF.keep' [10] (by kernel_rfl), (hS.selp [] (by decide) (by kernel_rfl)).pick [] (by kernel_rfl), trivial⟩
                  · have hF := hF.boolv 124 (by kernel_rfl) hb
                    clear hb
                    refine wl_pure (L' := [(10, .bool (false))]) 10 [10] hF (by kernel_rfl) ?_
                    clear hF
                    intro a hF
                    refine wpListIn_nil ?_
                    cases hv69
                    exact ⟨_, hF.keep' [10] (by kernel_rfl), (hS.selp [] (by decide) (by kernel_rfl)).pick [] (by kernel_rfl), trivial⟩
              · have hF := hF.boolv 114 (by kernel_rfl) hb
                clear hb
                refine wl_pure (L' := [(10, .bool (false))]) 20 [10] hF (by kernel_rfl) ?_
                clear hF
                intro a hF
                refine wpListIn_nil ?_
                cases hv69
                exact ⟨_, hF.keep' [10] (by kernel_rfl), (hS.selp [] (by decide) (by kernel_rfl)).pick [] (by kernel_rfl), trivial⟩
          · have hF := hF.boolv 104 (by kernel_rfl) hb
            clear hb
            refine wl_pure (L' := [(10, .bool (false))]) 30 [10] hF (by kernel_rfl) ?_
            clear hF
            intro a hF
            refine wpListIn_nil ?_
            cases hv69
            exact ⟨_, hF.keep' [10] (by kernel_rfl), (hS.selp [] (by decide) (by kernel_rfl)).pick [] (by kernel_rfl), trivial⟩
        · clear hF hS hv69
          rintro a w ⟨κ, hF, hS, -⟩
          refine hK67 _ _ ?_
          clear hK67 K67
          refine wpIn_ret ?_
          cases H
          exact (ret_done hF hS (res1 Try.results9 (rv_tmp hF (by kernel_rfl))) ⟨rfl, (hS.pick [] (by kernel_rfl)).ro, hS.newC [] (by decide) (by kernel_rfl)⟩)
end Go.Cf
