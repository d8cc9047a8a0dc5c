/- The walks: each function returns what its model says. Printed by a program of ours. -/
import Derived.Test.YtjohablgnnbelaaM4
import Derived.Test.YtjohablgnnbelaaW3
namespace Go.Cf
open Go Go.Proofs
set_option linter.unusedVariables false
set_option maxRecDepth 20000 in
set_option maxHeartbeats 1000000 in
theorem C_span_Split (N : Nat) {κ0 : Gh} {w0 : World} (hfr : Fresh κ0 w0) (a1 : T_api_Map) (a6 : Int) (a7 : Int) (a8 : ByteArray) (p2 : Option Addr) (c3 : Nat) (p4 : Option Addr) (c5 : Nat) (hR : ∀ m ∈ ([Ro.mp fStr.ty p2 c3 a1.Cuts, Ro.mp (fInt .i64).ty p4 c5 a1.Nodes] : List MP), m.p κ0 w0) {r : (T_api_Map × Int)} (H : M.span_Split N a1 a6 a7 a8 = some r) :
    Calls Try.prog 42 #[.agg (flat [(1, [.slice p2 (a1.Cuts).length c3]), (1, [.slice p4 (a1.Nodes).length c5])]).toArray, .int .i64 (a6), .int .i64 (a7), .string (a8)] w0 (Post [] κ0 w0 fun v κ w => ∃ p99 : Option Addr, ∃ c100 : Nat, ∃ p101 : Option Addr, ∃ c102 : Nat, v = .tuple #[.agg (flat [(1, [.slice p99 (r.1.Cuts).length c100]), (1, [.slice p101 (r.1.Nodes).length c102])]).toArray, .int .i64 (r.2)] ∧ (∀ m ∈ ([Ro.mp fStr.ty p99 c100 r.1.Cuts, Ro.mp (fInt .i64).ty p101 c102 r.1.Nodes] : List MP), m.p κ w) ∧ NewC w0 κ w [.tok p99 9 1 (r.1.Cuts).length c100, .tok p101 3 1 (r.1.Nodes).length c102]) := by
  have hS := SS.start hfr hR
  clear hR
  refine enter (N := (89)) (L := [(0, .agg (flat [(1, [.slice p2 (a1.Cuts).length c3]), (1, [.slice p4 (a1.Nodes).length c5])]).toArray), (1, .int .i64 (a6)), (2, .int .i64 (a7)), (3, .string (a8))]) Try.func42 rfl Try.ntmps42 (show 4 ≤ (89) by decide) rfl fun a hF => ?_
  unfold M.span_Split at H
  refine wpIn_seq_k fun K9 hK9 => ?_
  refine wpIn_region_lit ?_
  refine wl_cons rfl (wo_box hF hS (by kernel_rfl) (v := .agg (flat [(1, [.slice p2 (a1.Cuts).length c3]), (1, [.slice p4 (a1.Nodes).length c5])]).toArray) (s := [(1, [.slice p2 (a1.Cuts).length c3]), (1, [.slice p4 (a1.Nodes).length c5])]) rfl (by kernel_rfl) (sgV rfl (sgV rfl sgNil)).1 (by kernel_rfl) ?_)
  clear hF hS
  intro b10 a w hF hS
  refine wl_cons rfl (wo_alloc hF hS (by kernel_rfl) (z := .agg (flat [(1, [.slice none 0 0]), (1, [.slice none 0 0])]).toArray) (s := [(1, [.slice none 0 0]), (1, [.slice none 0 0])]) rfl (by kernel_rfl) (sgV rfl (sgV rfl sgNil)).1 (by kernel_rfl) ?_)
  clear hF hS
  intro b11 a w hF hS
  refine wl_pure (L' := [(1, .int .i64 (a6)), (2, .int .i64 (a7)), (3, .string (a8)), (4, .pointer (some ⟨b10, 0, none⟩)), (8, .pointer (some ⟨b11, 0, none⟩))]) 1 [1, 2, 3, 4, 8] hF (by kernel_rfl) ?_
  clear hF
  intro a hF
  refine wpListIn_nil ?_
  refine hK9 _ _ ?_
  clear hK9 K9
  refine wpIn_seq_k fun K12 hK12 => ?_
  refine wpIn_seq_k fun K13 hK13 => ?_
  refine wpIn_region_lit ?_
  refine wl_cons rfl (wo_loads hF hS (by kernel_rfl) 1 0 2 (s' := [(1, [.slice p2 (a1.Cuts).length c3]), (1, [.slice p4 (a1.Nodes).length c5])]) (n := 2) rfl rfl rfl (by kernel_rfl) (by kernel_rfl) (by kernel_rfl) (by kernel_rfl) (by kernel_rfl) ?_)
  clear hF
  intro a hF
  refine wl_pure (L' := [(2, .int .i64 (a7)), (3, .string (a8)), (4, .pointer (some ⟨b10, 0, none⟩)), (8, .pointer (some ⟨b11, 0, none⟩)), (14, .agg (flat [(1, [.slice p2 (a1.Cuts).length c3]), (1, [.slice p4 (a1.Nodes).length c5])]).toArray), (15, .int .i64 (a6))]) 1 [2, 3, 4, 8, 14, 15] hF (by kernel_rfl) ?_
  clear hF
  intro a hF
  refine bind_split H (fun x14 hx14 H => ?_)
  refine wl_cons rfl (wo_callP (args := #[.agg (flat [(1, [.slice p2 (a1.Cuts).length c3]), (1, [.slice p4 (a1.Nodes).length c5])]).toArray, .int .i64 (a6)]) (f := 30) hF hS (by kernel_rfl) (by kernel_rfl) (C_span_Check N hS.fresh (T_api_Map.mk a1.Cuts a1.Nodes) a6 p2 c3 p4 c5 ((hS.pick [0, 1] (by kernel_rfl)).ro) hx14) ?_)
  clear hF hS hx14
  rintro _ κ w a ⟨rfl, hR, hN⟩ hF hS hO
  clear hR hN hO
  refine wl_pure (L' := [(2, .int .i64 (a7)), (3, .string (a8)), (4, .pointer (some ⟨b10, 0, none⟩)), (8, .pointer (some ⟨b11, 0, none⟩)), (10, .int .i64 (x14))]) 1 [2, 3, 4, 8, 10] hF (by kernel_rfl) ?_
  clear hF
  intro a hF
  refine wpListIn_nil ?_
  refine hK13 _ _ ?_
  clear hK13 K13
  refine wpIn_seq_k fun K15 hK15 => ?_
  refine wpIn_region_lit ?_
  refine wl_pure (L' := [(2, .int .i64 (a7)), (3, .string (a8)), (4, .pointer (some ⟨b10, 0, none⟩)), (8, .pointer (some ⟨b11, 0, none⟩)), (10, .int .i64 (x14)), (18, .bool ((x14 != 0)))]) 2 [2, 3, 4, 8, 10, 18] hF (by kernel_rfl) ?_
  clear hF
  intro a hF
  refine wpListIn_nil ?_
  refine hK15 _ _ ?_
  clear hK15 K15
  refine bif_split H (fun hb H => ?_) (fun hb H => ?_)
  · refine cond_t hF (by kernel_rfl) hb ?_
    clear hb
    refine wpIn_seq_k fun K16 hK16 => ?_
    refine wpIn_region_lit ?_
    refine wl_pure (L' := [(8, .pointer (some ⟨b11, 0, none⟩)), (19, .agg (flat [(1, [.slice none 0 0]), (1, [.slice none 0 0])]).toArray), (20, .int .i64 (x14))]) 2 [8, 19, 20] hF (by kernel_rfl) ?_
    clear hF
    intro a hF
    refine wl_cons rfl (wo_stores hF hS (by kernel_rfl) 0 0 2 (v := .agg (flat [(1, [.slice none 0 0]), (1, [.slice none 0 0])]).toArray) (s' := [(1, [.slice none 0 0]), (1, [.slice none 0 0])]) (t := [(1, [.slice none 0 0]), (1, [.slice none 0 0])]) (C' := [.box b11 26 [(1, [.slice none 0 0]), (1, [.slice none 0 0])], .box b10 26 [(1, [.slice p2 (a1.Cuts).length c3]), (1, [.slice p4 (a1.Nodes).length c5])]]) (n := 2) rfl rfl (by kernel_rfl) rfl (by kernel_rfl) (by kernel_rfl) (by kernel_rfl) (by kernel_rfl) (sgV rfl (sgV rfl sgNil)).1 (sgV rfl (sgV rfl sgNil)).2 (by kernel_rfl) (by kernel_rfl) (by kernel_rfl) ?_)
    clear hF hS
    intro a w hF hS
    refine wl_pure (L' := [(8, .pointer (some ⟨b11, 0, none⟩)), (9, .int .i64 (x14))]) 1 [8, 9] hF (by kernel_rfl) ?_
    clear hF
    intro a hF
    refine wpListIn_nil ?_
    refine hK16 _ _ ?_
    clear hK16 K16
    refine wpIn_ret ?_
    have hS' := hS
    have hS := hS.add (m := Ro.mp fStr.ty none 0 ([] : List ByteArray)) (Ro.nil fStr.ty _ _)
    have hS := hS.add (m := Ro.mp (fInt .i64).ty none 0 ([] : List Int)) (Ro.nil (fInt .i64).ty _ _)
    have hS := hS.addNil 9 1
    have hS := hS.addNil 3 1
    cases H
    exact (ret_done hF hS (res2 Try.results42 (rv_cells hF hS' 0 0 2 (n := 2) rfl rfl (by kernel_rfl) (by kernel_rfl) (by kernel_rfl) (by kernel_rfl) (by kernel_rfl)) (rv_tmp hF (by kernel_rfl))) ⟨none, 0, none, 0, rfl, (hS.pick [1, 0] (by kernel_rfl)).ro, hS.newC [1, 0] (by decide) (by kernel_rfl)⟩)
  · refine cond_f hF (by kernel_rfl) hb ?_
    clear hb
    refine wpIn_skip ?_
    refine hK12 _ _ ?_
    refine wpIn_seq_k fun K17 hK17 => ?_
    refine wpIn_region_lit ?_
    refine wl_cons rfl (wo_loads hF hS (by kernel_rfl) 1 0 2 (s' := [(1, [.slice p2 (a1.Cuts).length c3]), (1, [.slice p4 (a1.Nodes).length c5])]) (n := 2) rfl rfl rfl (by kernel_rfl) (by kernel_rfl) (by kernel_rfl) (by kernel_rfl) (by kernel_rfl) ?_)
    clear hF
    intro a hF
    refine wl_pure (L' := [(2, .int .i64 (a7)), (3, .string (a8)), (4, .pointer (some ⟨b10, 0, none⟩)), (8, .pointer (some ⟨b11, 0, none⟩)), (22, .agg (flat [(1, [.slice p2 (a1.Cuts).length c3]), (1, [.slice p4 (a1.Nodes).length c5])]).toArray), (23, .int .i64 (a7))]) 1 [2, 3, 4, 8, 22, 23] hF (by kernel_rfl) ?_
    clear hF
    intro a hF
    refine bind_split H (fun x18 hx18 H => ?_)
    refine wl_cons rfl (wo_callP (args := #[.agg (flat [(1, [.slice p2 (a1.Cuts).length c3]), (1, [.slice p4 (a1.Nodes).length c5])]).toArray, .int .i64 (a7)]) (f := 33) hF hS (by kernel_rfl) (by kernel_rfl) (C_span_At N hS.fresh (T_api_Map.mk a1.Cuts a1.Nodes) a7 p2 c3 p4 c5 ((hS.pick [0, 1] (by kernel_rfl)).ro) hx18) ?_)
    clear hF hS hx18
    rintro _ κ w a ⟨rfl, hR, hN⟩ hF hS hO
    clear hR hN hO
    refine wl_pure (L' := [(2, .int .i64 (a7)), (3, .string (a8)), (4, .pointer (some ⟨b10, 0, none⟩)), (8, .pointer (some ⟨b11, 0, none⟩)), (25, .agg (flat [(1, [.string (x18.1.Lo)]), (1, [.string (x18.1.Hi)]), (1, [.int .i64 (x18.1.Node)])]).toArray), (26, .bool (x18.2))]) 3 [2, 3, 4, 8, 25, 26] hF (by kernel_rfl) ?_
    clear hF
    intro a hF
    refine wl_cons rfl (wo_alloc hF hS (by kernel_rfl) (z := .agg (flat [(1, [.string (ByteArray.empty)]), (1, [.string (ByteArray.empty)]), (1, [.int .i64 (0)])]).toArray) (s := [(1, [.string (ByteArray.empty)]), (1, [.string (ByteArray.empty)]), (1, [.int .i64 (0)])]) rfl (by kernel_rfl) (sgV rfl (sgV rfl (sgV rfl sgNil))).1 (by kernel_rfl) ?_)
    clear hF hS
    intro b19 a w hF hS
    refine wl_cons rfl (wo_stores hF hS (by kernel_rfl) 0 0 3 (v := .agg (flat [(1, [.string (x18.1.Lo)]), (1, [.string (x18.1.Hi)]), (1, [.int .i64 (x18.1.Node)])]).toArray) (s' := [(1, [.string (x18.1.Lo)]), (1, [.string (x18.1.Hi)]), (1, [.int .i64 (x18.1.Node)])]) (t := [(1, [.string (x18.1.Lo)]), (1, [.string (x18.1.Hi)]), (1, [.int .i64 (x18.1.Node)])]) (C' := [.box b19 46 [(1, [.string (x18.1.Lo)]), (1, [.string (x18.1.Hi)]), (1, [.int .i64 (x18.1.Node)])], .box b11 26 [(1, [.slice none 0 0]), (1, [.slice none 0 0])], .box b10 26 [(1, [.slice p2 (a1.Cuts).length c3]), (1, [.slice p4 (a1.Nodes).length c5])]]) (n := 3) rfl rfl (by kernel_rfl) rfl (by kernel_rfl) (by kernel_rfl) (by kernel_rfl) (by kernel_rfl) (sgV rfl (sgV rfl (sgV rfl sgNil))).1 (sgV rfl (sgV rfl (sgV rfl sgNil))).2 (by kernel_rfl) (by kernel_rfl) (by kernel_rfl) ?_)
    clear hF hS
    intro a w hF hS
    refine wl_pure (L' := [(2, .int .i64 (a7)), (3, .string (a8)), (4, .pointer (some ⟨b10, 0, none⟩)), (8, .pointer (some ⟨b11, 0, none⟩)), (11, .pointer (some ⟨b19, 0, none⟩)), (12, .bool (x18.2))]) 1 [2, 3, 4, 8, 11, 12] hF (by kernel_rfl) ?_
    clear hF
    intro a hF
    refine wpListIn_nil ?_
    refine hK17 _ _ ?_
    clear hK17 K17
    refine wpIn_seq_k fun K20 hK20 => ?_
    refine wpIn_seq_k fun K21 hK21 => ?_
    refine wpIn_region_lit ?_
    refine wl_pure (L' := [(2, .int .i64 (a7)), (3, .string (a8)), (4, .pointer (some ⟨b10, 0, none⟩)), (8, .pointer (some ⟨b11, 0, none⟩)), (11, .pointer (some ⟨b19, 0, none⟩)), (28, .bool ((!x18.2)))]) 2 [2, 3, 4, 8, 11, 28] hF (by kernel_rfl) ?_
    clear hF
    intro a hF
    refine wpListIn_nil ?_
    refine hK21 _ _ ?_
    clear hK21 K21
    refine bif_split H (fun hb H => ?_) (fun hb H => ?_)
    · refine cond_t hF (by kernel_rfl) hb ?_
      clear hb
      refine wpIn_seq_k fun K22 hK22 => ?_
      refine wpIn_region_lit ?_
      refine wl_pure (L' := [(8, .pointer (some ⟨b11, 0, none⟩)), (29, .agg (flat [(1, [.slice none 0 0]), (1, [.slice none 0 0])]).toArray)]) 1 [8, 29] hF (by kernel_rfl) ?_
      clear hF
      intro a hF
      refine wl_cons rfl (wo_stores hF hS (by kernel_rfl) 1 0 2 (v := .agg (flat [(1, [.slice none 0 0]), (1, [.slice none 0 0])]).toArray) (s' := [(1, [.slice none 0 0]), (1, [.slice none 0 0])]) (t := [(1, [.slice none 0 0]), (1, [.slice none 0 0])]) (C' := [.box b19 46 [(1, [.string (x18.1.Lo)]), (1, [.string (x18.1.Hi)]), (1, [.int .i64 (x18.1.Node)])], .box b11 26 [(1, [.slice none 0 0]), (1, [.slice none 0 0])], .box b10 26 [(1, [.slice p2 (a1.Cuts).length c3]), (1, [.slice p4 (a1.Nodes).length c5])]]) (n := 2) rfl rfl (by kernel_rfl) rfl (by kernel_rfl) (by kernel_rfl) (by kernel_rfl) (by kernel_rfl) (sgV rfl (sgV rfl sgNil)).1 (sgV rfl (sgV rfl sgNil)).2 (by kernel_rfl) (by kernel_rfl) (by kernel_rfl) ?_)
      clear hF hS
      intro a w hF hS
      refine wl_pure (L' := [(8, .pointer (some ⟨b11, 0, none⟩)), (9, .int .i64 (7))]) 1 [8, 9] hF (by kernel_rfl) ?_
      clear hF
      intro a hF
      refine wpListIn_nil ?_
      refine hK22 _ _ ?_
      clear hK22 K22
      refine wpIn_ret ?_
      have hS' := hS
      have hS := hS.add (m := Ro.mp fStr.ty none 0 ([] : List ByteArray)) (Ro.nil fStr.ty _ _)
      have hS := hS.add (m := Ro.mp (fInt .i64).ty none 0 ([] : List Int)) (Ro.nil (fInt .i64).ty _ _)
      have hS := hS.addNil 9 1
      have hS := hS.addNil 3 1
      cases H
      exact (ret_done hF hS (res2 Try.results42 (rv_cells hF hS' 1 0 2 (n := 2) rfl rfl (by kernel_rfl) (by kernel_rfl) (by kernel_rfl) (by kernel_rfl) (by kernel_rfl)) (rv_tmp hF (by kernel_rfl))) ⟨none, 0, none, 0, rfl, (hS.pick [1, 0] (by kernel_rfl)).ro, hS.newC [1, 0] (by decide) (by kernel_rfl)⟩)
    · refine cond_f hF (by kernel_rfl) hb ?_
      clear hb
      refine wpIn_skip ?_
      refine hK20 _ _ ?_
      refine wpIn_seq_k fun K23 hK23 => ?_
      refine wpIn_seq_k fun K24 hK24 => ?_
      refine wpIn_region_lit ?_
      refine bind_split H (fun v26 hv26 H => ?_)
      refine wl_join (fun a w => ∃ κ : Gh, Fr (89) [] [(2, .int .i64 (a7)), (3, .string (a8)), (4, .pointer (some ⟨b10, 0, none⟩)), (8, .pointer (some ⟨b11, 0, none⟩)), (11, .pointer (some ⟨b19, 0, none⟩)), (47, .bool (v26))] a ∧ SS [] κ0 w0 κ w [.box b19 46 [(1, [.string (x18.1.Lo)]), (1, [.string (x18.1.Hi)]), (1, [.int .i64 (x18.1.Node)])], .box b11 26 [(1, [.slice none 0 0]), (1, [.slice none 0 0])], .box b10 26 [(1, [.slice p2 (a1.Cuts).length c3]), (1, [.slice p4 (a1.Nodes).length c5])]] [Ro.mp fStr.ty none 0 ([] : List ByteArray), Ro.mp (fInt .i64).ty none 0 ([] : List Int), Ro.mp fStr.ty p2 c3 a1.Cuts, Ro.mp (fInt .i64).ty p4 c5 a1.Nodes] ∧ True) ?_ ?_
      · clear H
        refine wl_pure (L' := [(2, .int .i64 (a7)), (3, .string (a8)), (4, .pointer (some ⟨b10, 0, none⟩)), (8, .pointer (some ⟨b11, 0, none⟩)), (11, .pointer (some ⟨b19, 0, none⟩)), (33, .bool (decide (((a8).size : Int) > 16)))]) 4 [2, 3, 4, 8, 11, 33] hF (by kernel_rfl) ?_
        clear hF
        intro a hF
        refine bif_split hv26 (fun hb hv26 => ?_) (fun hb hv26 => ?_)
        · have hF := hF.boolv 33 (by kernel_rfl) hb
          clear hb
          refine wl_pure (L' := [(2, .int .i64 (a7)), (3, .string (a8)), (4, .pointer (some ⟨b10, 0, none⟩)), (8, .pointer (some ⟨b11, 0, none⟩)), (11, .pointer (some ⟨b19, 0, none⟩)), (47, .bool (true))]) 14 [2, 3, 4, 8, 11, 47] hF (by kernel_rfl) ?_
          clear hF
          intro a hF
          refine wpListIn_nil ?_
          cases hv26
          have hS := hS.add (m := Ro.mp fStr.ty none 0 ([] : List ByteArray)) (Ro.nil fStr.ty _ _)
          have hS := hS.add (m := Ro.mp (fInt .i64).ty none 0 ([] : List Int)) (Ro.nil (fInt .i64).ty _ _)
          exact ⟨_, hF.keep' [2, 3, 4, 8, 11, 47] (by kernel_rfl), (hS.selp [0, 1, 2] (by decide) (by kernel_rfl)).pick [1, 0, 2, 3] (by kernel_rfl), trivial⟩
        · have hF := hF.boolv 33 (by kernel_rfl) hb
          clear hb
          refine wl_pure (L' := [(2, .int .i64 (a7)), (3, .string (a8)), (4, .pointer (some ⟨b10, 0, none⟩)), (8, .pointer (some ⟨b11, 0, none⟩)), (11, .pointer (some ⟨b19, 0, none⟩)), (33, .bool (false)), (34, .string (a8)), (35, .pointer (some ⟨b19, 0, none⟩))]) 2 [2, 3, 4, 8, 11, 33, 34, 35] hF (by kernel_rfl) ?_
          clear hF
          intro a hF
          refine wl_consg hF (by kernel_rfl) (wo_load hF hS (by kernel_rfl) 0 0 0 (v := .string (x18.1.Lo)) rfl rfl rfl rfl rfl (by kernel_rfl) (by kernel_rfl) ?_)
          clear hF
          intro a hF
          refine wl_pure (L' := [(2, .int .i64 (a7)), (3, .string (a8)), (4, .pointer (some ⟨b10, 0, none⟩)), (8, .pointer (some ⟨b11, 0, none⟩)), (11, .pointer (some ⟨b19, 0, none⟩)), (39, .bool ((sLt a8 x18.1.Lo || sEq a8 x18.1.Lo)))]) 3 [2, 3, 4, 8, 11, 39] hF (by kernel_rfl) ?_
          clear hF
          intro a hF
          refine bif_split hv26 (fun hb hv26 => ?_) (fun hb hv26 => ?_)
          · have hF := hF.boolv 39 (by kernel_rfl) hb
            clear hb
            refine wl_pure (L' := [(2, .int .i64 (a7)), (3, .string (a8)), (4, .pointer (some ⟨b10, 0, none⟩)), (8, .pointer (some ⟨b11, 0, none⟩)), (11, .pointer (some ⟨b19, 0, none⟩)), (47, .bool (true))]) 8 [2, 3, 4, 8, 11, 47] hF (by kernel_rfl) ?_
            clear hF
            intro a hF
            refine wpListIn_nil ?_
            cases hv26
            have hS := hS.add (m := Ro.mp fStr.ty none 0 ([] : List ByteArray)) (Ro.nil fStr.ty _ _)
            have hS := hS.add (m := Ro.mp (fInt .i64).ty none 0 ([] : List Int)) (Ro.nil (fInt .i64).ty _ _)
            exact ⟨_, hF.keep' [2, 3, 4, 8, 11, 47] (by kernel_rfl), (hS.selp [0, 1, 2] (by decide) (by kernel_rfl)).pick [1, 0, 2, 3] (by kernel_rfl), trivial⟩
          · have hF := hF.boolv 39 (by kernel_rfl) hb
            clear hb
            refine wl_pure (L' := [(2, .int .i64 (a7)), (3, .string (a8)), (4, .pointer (some ⟨b10, 0, none⟩)), (8, .pointer (some ⟨b11, 0, none⟩)), (11, .pointer (some ⟨b19, 0, none⟩)), (39, .bool (false)), (40, .string (a8)), (41, .pointer (some ⟨b19, 0, none⟩))]) 2 [2, 3, 4, 8, 11, 39, 40, 41] hF (by kernel_rfl) ?_
            clear hF
            intro a hF
            refine wl_consg hF (by kernel_rfl) (wo_load hF hS (by kernel_rfl) 0 0 0 (v := .string (x18.1.Lo)) rfl rfl rfl rfl rfl (by kernel_rfl) (by kernel_rfl) ?_)
            clear hF
            intro a hF
            refine wl_pure (L' := [(2, .int .i64 (a7)), (3, .string (a8)), (4, .pointer (some ⟨b10, 0, none⟩)), (8, .pointer (some ⟨b11, 0, none⟩)), (11, .pointer (some ⟨b19, 0, none⟩)), (39, .bool (false)), (40, .string (a8)), (42, .string (x18.1.Lo)), (43, .pointer (some ⟨b19, 1, none⟩))]) 1 [2, 3, 4, 8, 11, 39, 40, 42, 43] hF (by kernel_rfl) ?_
            clear hF
            intro a hF
            refine wl_consg hF (by kernel_rfl) (wo_load hF hS (by kernel_rfl) 0 1 0 (v := .string (x18.1.Hi)) rfl rfl rfl rfl rfl (by kernel_rfl) (by kernel_rfl) ?_)
            clear hF
            intro a hF
            refine bind_split hv26 (fun x27 hx27 hv26 => ?_)
            refine wl_consg hF (by kernel_rfl) (wo_callP (args := #[.string (a8), .string (x18.1.Lo), .string (x18.1.Hi)]) (f := 40) hF hS (by kernel_rfl) (by kernel_rfl) (C_span_Within N hS.fresh a8 x18.1.Lo x18.1.Hi  ((hS.pick [] (by kernel_rfl)).ro) hx27) ?_)
            clear hF hS hx27
            rintro _ κ w a ⟨rfl, hR, hN⟩ hF hS hO
            clear hR hN hO
            refine wl_pure (L' := [(2, .int .i64 (a7)), (3, .string (a8)), (4, .pointer (some ⟨b10, 0, none⟩)), (8, .pointer (some ⟨b11, 0, none⟩)), (11, .pointer (some ⟨b19, 0, none⟩)), (47, .bool ((!x27)))]) 2 [2, 3, 4, 8, 11, 47] hF (by kernel_rfl) ?_
            clear hF
            intro a hF
            refine wpListIn_nil ?_
            cases hv26
            have hS := hS.add (m := Ro.mp fStr.ty none 0 ([] : List ByteArray)) (Ro.nil fStr.ty _ _)
            have hS := hS.add (m := Ro.mp (fInt .i64).ty none 0 ([] : List Int)) (Ro.nil (fInt .i64).ty _ _)
            exact ⟨_, hF.keep' [2, 3, 4, 8, 11, 47] (by kernel_rfl), (hS.selp [0, 1, 2] (by decide) (by kernel_rfl)).pick [1, 0, 2, 3] (by kernel_rfl), trivial⟩
      · clear hF hS hv26
        rintro a w ⟨κ, hF, hS, -⟩
        refine hK24 _ _ ?_
        clear hK24 K24
        refine bif_split H (fun hb H => ?_) (fun hb H => ?_)
        · refine cond_t hF (by kernel_rfl) hb ?_
          clear hb
          refine wpIn_seq_k fun K28 hK28 => ?_
          refine wpIn_region_lit ?_
          refine wl_pure (L' := [(8, .pointer (some ⟨b11, 0, none⟩)), (48, .agg (flat [(1, [.slice none 0 0]), (1, [.slice none 0 0])]).toArray)]) 1 [8, 48] hF (by kernel_rfl) ?_
          clear hF
          intro a hF
          refine wl_cons rfl (wo_stores hF hS (by kernel_rfl) 1 0 2 (v := .agg (flat [(1, [.slice none 0 0]), (1, [.slice none 0 0])]).toArray) (s' := [(1, [.slice none 0 0]), (1, [.slice none 0 0])]) (t := [(1, [.slice none 0 0]), (1, [.slice none 0 0])]) (C' := [.box b19 46 [(1, [.string (x18.1.Lo)]), (1, [.string (x18.1.Hi)]), (1, [.int .i64 (x18.1.Node)])], .box b11 26 [(1, [.slice none 0 0]), (1, [.slice none 0 0])], .box b10 26 [(1, [.slice p2 (a1.Cuts).length c3]), (1, [.slice p4 (a1.Nodes).length c5])]]) (n := 2) rfl rfl (by kernel_rfl) rfl (by kernel_rfl) (by kernel_rfl) (by kernel_rfl) (by kernel_rfl) (sgV rfl (sgV rfl sgNil)).1 (sgV rfl (sgV rfl sgNil)).2 (by kernel_rfl) (by kernel_rfl) (by kernel_rfl) ?_)
          clear hF hS
          intro a w hF hS
          refine wl_pure (L' := [(8, .pointer (some ⟨b11, 0, none⟩)), (9, .int .i64 (14))]) 1 [8, 9] hF (by kernel_rfl) ?_
          clear hF
          intro a hF
          refine wpListIn_nil ?_
          refine hK28 _ _ ?_
          clear hK28 K28
          refine wpIn_ret ?_
          have hS' := hS
          have hS := hS.addNil 9 1
          have hS := hS.addNil 3 1
          cases H
          exact (ret_done hF hS (res2 Try.results42 (rv_cells hF hS' 1 0 2 (n := 2) rfl rfl (by kernel_rfl) (by kernel_rfl) (by kernel_rfl) (by kernel_rfl) (by kernel_rfl)) (rv_tmp hF (by kernel_rfl))) ⟨none, 0, none, 0, rfl, (hS.pick [0, 1] (by kernel_rfl)).ro, hS.newC [1, 0] (by decide) (by kernel_rfl)⟩)
        · refine cond_f hF (by kernel_rfl) hb ?_
          clear hb
          refine wpIn_skip ?_
          refine hK23 _ _ ?_
          refine wpIn_seq_k fun K29 hK29 => ?_
          refine wpIn_seq_k fun K30 hK30 => ?_
          refine wpIn_region_lit ?_
          refine wl_pure (L' := [(2, .int .i64 (a7)), (3, .string (a8)), (4, .pointer (some ⟨b10, 0, none⟩)), (8, .pointer (some ⟨b11, 0, none⟩)), (11, .pointer (some ⟨b19, 0, none⟩)), (49, .pointer (some ⟨b10, 1, none⟩))]) 1 [2, 3, 4, 8, 11, 49] hF (by kernel_rfl) ?_
          clear hF
          intro a hF
          refine wl_cons rfl (wo_load hF hS (by kernel_rfl) 2 1 0 (v := .slice p4 (a1.Nodes).length c5) rfl rfl rfl rfl rfl (by kernel_rfl) (by kernel_rfl) ?_)
          clear hF
          intro a hF
          refine wl_pure (L' := [(2, .int .i64 (a7)), (3, .string (a8)), (4, .pointer (some ⟨b10, 0, none⟩)), (8, .pointer (some ⟨b11, 0, none⟩)), (11, .pointer (some ⟨b19, 0, none⟩)), (52, .bool ((((a1.Nodes).length : Int) == 8)))]) 2 [2, 3, 4, 8, 11, 52] hF (by kernel_rfl) ?_
          clear hF
          intro a hF
          refine wpListIn_nil ?_
          refine hK30 _ _ ?_
          clear hK30 K30
          refine bif_split H (fun hb H => ?_) (fun hb H => ?_)
          · refine cond_t hF (by kernel_rfl) hb ?_
            clear hb
            refine wpIn_seq_k fun K31 hK31 => ?_
            refine wpIn_region_lit ?_
            refine wl_pure (L' := [(8, .pointer (some ⟨b11, 0, none⟩)), (53, .agg (flat [(1, [.slice none 0 0]), (1, [.slice none 0 0])]).toArray)]) 1 [8, 53] hF (by kernel_rfl) ?_
            clear hF
            intro a hF
            refine wl_cons rfl (wo_stores hF hS (by kernel_rfl) 1 0 2 (v := .agg (flat [(1, [.slice none 0 0]), (1, [.slice none 0 0])]).toArray) (s' := [(1, [.slice none 0 0]), (1, [.slice none 0 0])]) (t := [(1, [.slice none 0 0]), (1, [.slice none 0 0])]) (C' := [.box b19 46 [(1, [.string (x18.1.Lo)]), (1, [.string (x18.1.Hi)]), (1, [.int .i64 (x18.1.Node)])], .box b11 26 [(1, [.slice none 0 0]), (1, [.slice none 0 0])], .box b10 26 [(1, [.slice p2 (a1.Cuts).length c3]), (1, [.slice p4 (a1.Nodes).length c5])]]) (n := 2) rfl rfl (by kernel_rfl) rfl (by kernel_rfl) (by kernel_rfl) (by kernel_rfl) (by kernel_rfl) (sgV rfl (sgV rfl sgNil)).1 (sgV rfl (sgV rfl sgNil)).2 (by kernel_rfl) (by kernel_rfl) (by kernel_rfl) ?_)
            clear hF hS
            intro a w hF hS
            refine wl_pure (L' := [(8, .pointer (some ⟨b11, 0, none⟩)), (9, .int .i64 (9))]) 1 [8, 9] hF (by kernel_rfl) ?_
            clear hF
            intro a hF
            refine wpListIn_nil ?_
            refine hK31 _ _ ?_
            clear hK31 K31
            refine wpIn_ret ?_
            have hS' := hS
            have hS := hS.addNil 9 1
            have hS := hS.addNil 3 1
            cases H
            exact (ret_done hF hS (res2 Try.results42 (rv_cells hF hS' 1 0 2 (n := 2) rfl rfl (by kernel_rfl) (by kernel_rfl) (by kernel_rfl) (by kernel_rfl) (by kernel_rfl)) (rv_tmp hF (by kernel_rfl))) ⟨none, 0, none, 0, rfl, (hS.pick [0, 1] (by kernel_rfl)).ro, hS.newC [1, 0] (by decide) (by kernel_rfl)⟩)
          · refine cond_f hF (by kernel_rfl) hb ?_
            clear hb
            refine wpIn_skip ?_
            refine hK29 _ _ ?_
            refine wpIn_seq_k fun K32 hK32 => ?_
            refine wpIn_region_lit ?_
            refine wl_pure (L' := [(2, .int .i64 (a7)), (3, .string (a8)), (4, .pointer (some ⟨b10, 0, none⟩)), (8, .pointer (some ⟨b11, 0, none⟩)), (11, .pointer (some ⟨b19, 0, none⟩)), (54, .agg (flat [(1, [.slice none 0 0]), (1, [.slice none 0 0])]).toArray)]) 1 [2, 3, 4, 8, 11, 54] hF (by kernel_rfl) ?_
            clear hF
            intro a hF
            refine wl_cons rfl (wo_alloc hF hS (by kernel_rfl) (z := .agg (flat [(1, [.slice none 0 0]), (1, [.slice none 0 0])]).toArray) (s := [(1, [.slice none 0 0]), (1, [.slice none 0 0])]) rfl (by kernel_rfl) (sgV rfl (sgV rfl sgNil)).1 (by kernel_rfl) ?_)
            clear hF hS
            intro b33 a w hF hS
            refine wl_cons rfl (wo_stores hF hS (by kernel_rfl) 0 0 2 (v := .agg (flat [(1, [.slice none 0 0]), (1, [.slice none 0 0])]).toArray) (s' := [(1, [.slice none 0 0]), (1, [.slice none 0 0])]) (t := [(1, [.slice none 0 0]), (1, [.slice none 0 0])]) (C' := [.box b33 26 [(1, [.slice none 0 0]), (1, [.slice none 0 0])], .box b19 46 [(1, [.string (x18.1.Lo)]), (1, [.string (x18.1.Hi)]), (1, [.int .i64 (x18.1.Node)])], .box b11 26 [(1, [.slice none 0 0]), (1, [.slice none 0 0])], .box b10 26 [(1, [.slice p2 (a1.Cuts).length c3]), (1, [.slice p4 (a1.Nodes).length c5])]]) (n := 2) rfl rfl (by kernel_rfl) rfl (by kernel_rfl) (by kernel_rfl) (by kernel_rfl) (by kernel_rfl) (sgV rfl (sgV rfl sgNil)).1 (sgV rfl (sgV rfl sgNil)).2 (by kernel_rfl) (by kernel_rfl) (by kernel_rfl) ?_)
            clear hF hS
            intro a w hF hS
            refine wpListIn_nil ?_
            refine hK32 _ _ ?_
            clear hK32 K32
            refine wpIn_seq_k fun K34 hK34 => ?_
            refine bind_split H (fun v38 hv38 H => ?_)
            refine code_join (fun a w => ∃ κ : Gh, ∃ p36 : Option Addr, ∃ c37 : Nat, Fr (89) [] [(2, .int .i64 (a7)), (4, .pointer (some ⟨b10, 0, none⟩)), (8, .pointer (some ⟨b11, 0, none⟩)), (11, .pointer (some ⟨b19, 0, none⟩)), (13, .pointer (some ⟨b33, 0, none⟩))] a ∧ SS [] κ0 w0 κ w [.box b33 26 [(1, [.slice p36 (v38).length c37]), (1, [.slice none 0 0])], .box b19 46 [(1, [.string (x18.1.Lo)]), (1, [.string (x18.1.Hi)]), (1, [.int .i64 (x18.1.Node)])], .box b11 26 [(1, [.slice none 0 0]), (1, [.slice none 0 0])], .box b10 26 [(1, [.slice p2 (a1.Cuts).length c3]), (1, [.slice p4 (a1.Nodes).length c5])], .tok p36 9 1 (v38).length c37] [Ro.mp fStr.ty p36 c37 v38, Ro.mp (fInt .i64).ty none 0 ([] : List Int), Ro.mp fStr.ty none 0 ([] : List ByteArray), Ro.mp fStr.ty p2 c3 a1.Cuts, Ro.mp (fInt .i64).ty p4 c5 a1.Nodes] ∧ True) ?_ ?_
            · clear H
              refine region_any (SSx [] κ0 w0 [.box b33 26 [(1, [.slice none 0 0]), (1, [.slice none 0 0])], .box b19 46 [(1, [.string (x18.1.Lo)]), (1, [.string (x18.1.Hi)]), (1, [.int .i64 (x18.1.Node)])], .box b11 26 [(1, [.slice none 0 0]), (1, [.slice none 0 0])], .box b10 26 [(1, [.slice p2 (a1.Cuts).length c3]), (1, [.slice p4 (a1.Nodes).length c5])]] [Ro.mp fStr.ty none 0 ([] : List ByteArray), Ro.mp (fInt .i64).ty none 0 ([] : List Int), Ro.mp fStr.ty p2 c3 a1.Cuts, Ro.mp (fInt .i64).ty p4 c5 a1.Nodes]) [16] (by kernel_rfl) (n := 17) (by kernel_rfl) (l := #[false, false, false, false, false, false, false, false, false, false, false, false, false, false, false, false, false]) (by kernel_rfl) ?_
              have hS := hS.drew
              refine bind_split hv38 (fun x39 hx39 hv38 => ?_)
              refine bind_split hv38 (fun x42 hx42 hv38 => ?_)
              refine bind_split hv38 (fun x46 hx46 hv38 => ?_)
              refine bind_split hv38 (fun x49 hx49 hv38 => ?_)
              refine bind_split hv38 (fun x52 hx52 hv38 => ?_)
              refine any_pure [0, 2, 4, 7, 10, 12] [2, 4, 8, 11, 13, 55, 57, 59, 62, 65, 67] (L' := [(2, .int .i64 (a7)), (4, .pointer (some ⟨b10, 0, none⟩)), (8, .pointer (some ⟨b11, 0, none⟩)), (11, .pointer (some ⟨b19, 0, none⟩)), (13, .pointer (some ⟨b33, 0, none⟩)), (55, .pointer (some ⟨b33, 0, none⟩)), (57, .pointer (some ⟨b10, 0, none⟩)), (59, .int .i64 (a7)), (62, .string (a8)), (65, .pointer (some ⟨b10, 0, none⟩)), (67, .int .i64 (a7))]) (listed' := #[true, false, true, false, true, false, false, true, false, false, true, false, true, false, false, false, false]) (fuel := 11) hF ⟨_, (hS.selp [0, 1, 2, 3] (by decide) (by kernel_rfl)).pick [0, 1, 2, 3] (by kernel_rfl)⟩ (by kernel_rfl) (by intro c a w t v h; cases t <;> exact h) (by kernel_rfl) rfl ?_
              clear hF
              intro a hF
              refine any_take 1 (some 56) hF ⟨_, (hS.selp [0, 1, 2, 3] (by decide) (by kernel_rfl)).pick [0, 1, 2, 3] (by kernel_rfl)⟩ rfl (by kernel_rfl) (by kernel_rfl) (by intro c a w v h; exact h) (by kernel_rfl) (by kernel_rfl) (by kernel_rfl) rfl (val_load 0 0 0 (v := .slice none 0 0) rfl rfl rfl rfl rfl (by kernel_rfl) (by kernel_rfl)) ?_
              clear hF
              intro a hF
              refine any_take 3 (some 58) hF ⟨_, (hS.selp [0, 1, 2, 3] (by decide) (by kernel_rfl)).pick [0, 1, 2, 3] (by kernel_rfl)⟩ rfl (by kernel_rfl) (by kernel_rfl) (by intro c a w v h; exact h) (by kernel_rfl) (by kernel_rfl) (by kernel_rfl) rfl (val_load 3 0 0 (v := .slice p2 (a1.Cuts).length c3) rfl rfl rfl rfl rfl (by kernel_rfl) (by kernel_rfl)) ?_
              clear hF
              intro a hF
              obtain ⟨p55, c56, hvx39, hrx39⟩ := slice_val Try.prog fStr.ty (L := [(2, .int .i64 (a7)), (4, .pointer (some ⟨b10, 0, none⟩)), (8, .pointer (some ⟨b11, 0, none⟩)), (11, .pointer (some ⟨b19, 0, none⟩)), (13, .pointer (some ⟨b33, 0, none⟩)), (55, .pointer (some ⟨b33, 0, none⟩)), (56, .slice none 0 0), (57, .pointer (some ⟨b10, 0, none⟩)), (58, .slice p2 (a1.Cuts).length c3), (59, .int .i64 (a7)), (62, .string (a8)), (65, .pointer (some ⟨b10, 0, none⟩)), (67, .int .i64 (a7))]) (o := ⟨(some 60), (Go.Op.slice 23 (Go.Operand.tmp 58) none (some (Go.Operand.tmp 59)) none), 23, "span.go:120", #[(Go.Edge.mk 3 Go.Ground.data), (Go.Edge.mk 4 Go.Ground.data)], none⟩) (E := 9) (lo := 0) (hi := a7) rfl (hS.get 2 rfl : Ro fStr.ty _ _ p2 c3 a1.Cuts).1 rfl rfl rfl ⟨_, rfl⟩ hx39 (by kernel_rfl) (by kernel_rfl)
              have hS := hS.add (m := Ro.mp fStr.ty p55 c56 x39) (hrx39 _ _ (hS.get 2 rfl))
              refine any_take 5 (some 60) (hF.keep' [2, 4, 8, 11, 13, 55, 56, 57, 58, 59, 62, 65, 66, 67, 68] (by kernel_rfl) : Fr (89) _ [(2, .int .i64 (a7)), (4, .pointer (some ⟨b10, 0, none⟩)), (8, .pointer (some ⟨b11, 0, none⟩)), (11, .pointer (some ⟨b19, 0, none⟩)), (13, .pointer (some ⟨b33, 0, none⟩)), (55, .pointer (some ⟨b33, 0, none⟩)), (56, .slice none 0 0), (57, .pointer (some ⟨b10, 0, none⟩)), (58, .slice p2 (a1.Cuts).length c3), (59, .int .i64 (a7)), (62, .string (a8)), (65, .pointer (some ⟨b10, 0, none⟩)), (67, .int .i64 (a7))] a) ⟨_, (hS.selp [0, 1, 2, 3] (by decide) (by kernel_rfl)).pick [1, 2, 3, 4] (by kernel_rfl)⟩ rfl (by kernel_rfl) (by kernel_rfl) (by intro c a w v h; exact h) (by kernel_rfl) (by kernel_rfl) (by kernel_rfl) rfl (fun w _ => hvx39 w) ?_
              clear hF hx39 hvx39 hrx39
              intro a hF
              refine any_take 11 (some 66) hF ⟨_, (hS.selp [0, 1, 2, 3] (by decide) (by kernel_rfl)).pick [1, 2, 3, 4] (by kernel_rfl)⟩ rfl (by kernel_rfl) (by kernel_rfl) (by intro c a w v h; exact h) (by kernel_rfl) (by kernel_rfl) (by kernel_rfl) rfl (val_load 3 0 0 (v := .slice p2 (a1.Cuts).length c3) rfl rfl rfl rfl rfl (by kernel_rfl) (by kernel_rfl)) ?_
              clear hF
              intro a hF
              obtain ⟨p57, c58, hvx49, hrx49⟩ := slice_val Try.prog fStr.ty (L := [(2, .int .i64 (a7)), (4, .pointer (some ⟨b10, 0, none⟩)), (8, .pointer (some ⟨b11, 0, none⟩)), (11, .pointer (some ⟨b19, 0, none⟩)), (13, .pointer (some ⟨b33, 0, none⟩)), (55, .pointer (some ⟨b33, 0, none⟩)), (56, .slice none 0 0), (57, .pointer (some ⟨b10, 0, none⟩)), (58, .slice p2 (a1.Cuts).length c3), (59, .int .i64 (a7)), (60, .slice p55 (x39).length c56), (62, .string (a8)), (65, .pointer (some ⟨b10, 0, none⟩)), (66, .slice p2 (a1.Cuts).length c3), (67, .int .i64 (a7))]) (o := ⟨(some 68), (Go.Op.slice 23 (Go.Operand.tmp 66) (some (Go.Operand.tmp 67)) none none), 23, "span.go:120", #[(Go.Edge.mk 11 Go.Ground.data), (Go.Edge.mk 12 Go.Ground.data)], none⟩) (E := 9) (lo := a7) (hi := ((a1.Cuts).length : Int)) rfl (hS.get 3 rfl : Ro fStr.ty _ _ p2 c3 a1.Cuts).1 rfl rfl ⟨_, rfl⟩ rfl hx49 (by kernel_rfl) (by kernel_rfl)
              have hS := hS.add (m := Ro.mp fStr.ty p57 c58 x49) (hrx49 _ _ (hS.get 3 rfl))
              refine any_take 13 (some 68) (hF.keep' [2, 4, 8, 11, 13, 55, 56, 57, 58, 59, 60, 62, 65, 66, 67] (by kernel_rfl) : Fr (89) _ [(2, .int .i64 (a7)), (4, .pointer (some ⟨b10, 0, none⟩)), (8, .pointer (some ⟨b11, 0, none⟩)), (11, .pointer (some ⟨b19, 0, none⟩)), (13, .pointer (some ⟨b33, 0, none⟩)), (55, .pointer (some ⟨b33, 0, none⟩)), (56, .slice none 0 0), (57, .pointer (some ⟨b10, 0, none⟩)), (58, .slice p2 (a1.Cuts).length c3), (59, .int .i64 (a7)), (60, .slice p55 (x39).length c56), (62, .string (a8)), (65, .pointer (some ⟨b10, 0, none⟩)), (66, .slice p2 (a1.Cuts).length c3), (67, .int .i64 (a7))] a) ⟨_, (hS.selp [0, 1, 2, 3] (by decide) (by kernel_rfl)).pick [2, 3, 4, 5] (by kernel_rfl)⟩ rfl (by kernel_rfl) (by kernel_rfl) (by intro c a w v h; exact h) (by kernel_rfl) (by kernel_rfl) (by kernel_rfl) rfl (fun w _ => hvx49 w) ?_
              clear hF hx49 hvx49 hrx49
              intro a hF
              refine any_go2 6 8 (oi := ⟨(some 61), (Go.Op.call (Go.Call.mk (Go.Callee.builtin Go.Builtin.append) #[(Go.Operand.tmp 56), (Go.Operand.tmp 60)] #[23, 23])), 23, "span.go:120", #[(Go.Edge.mk 1 Go.Ground.data), (Go.Edge.mk 5 Go.Ground.data)], none⟩) (oj := ⟨(some 63), (Go.Op.buildSlice 23 1 #[(0, (Go.Operand.tmp 62))]), 23, "span.go:120", #[(Go.Edge.mk 7 Go.Ground.data)], none⟩) hF rfl rfl (by kernel_rfl) (by kernel_rfl) (by kernel_rfl) (li := #[true, true, true, true, true, true, true, true, false, false, true, true, true, true, false, false, false]) (lj := #[true, true, true, true, true, true, false, true, true, false, true, true, true, true, false, false, false]) (by kernel_rfl) (by kernel_rfl) ?_ ?_
              · have hS := hS.addNil 9 1
                refine wo_append (ty := fStr.ty) hF hS (by kernel_rfl) 0 2 1 rfl rfl rfl (by kernel_rfl) (by kernel_rfl) rfl rfl rfl hx42 (by kernel_rfl) (i := Try.t9) (z := .string (ByteArray.empty)) (by kernel_rfl) (by kernel_rfl) (by kernel_rfl) ?_
                clear hF hS hx42
                intro p59 c60 κ a w hF hS
                refine ⟨fun _ => ⟨_, (hS.selp [1, 2, 3, 4] (by decide) (by kernel_rfl)).pick [3, 4, 5, 6] (by kernel_rfl)⟩, ?_⟩
                refine any_go 8 (o := ⟨(some 63), (Go.Op.buildSlice 23 1 #[(0, (Go.Operand.tmp 62))]), 23, "span.go:120", #[(Go.Edge.mk 7 Go.Ground.data)], none⟩) hF rfl (by kernel_rfl) (by kernel_rfl) (listed' := #[true, true, true, true, true, true, true, true, true, false, true, true, true, true, false, false, false]) (by kernel_rfl) ?_
                refine wo_buildN (t := fStr) (z := .string (ByteArray.empty)) (l := [a8]) (vs := [(0, .string (a8))]) (cells := #[.string (a8)]) (E := 9) hF hS (by kernel_rfl) rfl (by kernel_rfl) (by kernel_rfl) rfl (by kernel_rfl) (by kernel_rfl) (by kernel_rfl) (by kernel_rfl) (by kernel_rfl) ?_
                clear hF hS
                intro p61 κ a w hF hS
                refine ⟨fun _ => ⟨_, (hS.selp [2, 3, 4, 5] (by decide) (by kernel_rfl)).pick [4, 5, 6, 7] (by kernel_rfl)⟩, ?_⟩
                refine any_go 9 (o := ⟨(some 64), (Go.Op.call (Go.Call.mk (Go.Callee.builtin Go.Builtin.append) #[(Go.Operand.tmp 61), (Go.Operand.tmp 63)] #[23, 23])), 23, "span.go:120", #[(Go.Edge.mk 6 Go.Ground.data), (Go.Edge.mk 8 Go.Ground.data), (Go.Edge.mk 6 Go.Ground.chain)], none⟩) hF rfl (by kernel_rfl) (by kernel_rfl) (listed' := #[true, true, true, true, true, true, true, true, true, true, true, true, true, true, false, false, false]) (by kernel_rfl) ?_
                refine wo_append (ty := fStr.ty) hF hS (by kernel_rfl) 1 1 0 rfl rfl rfl (by kernel_rfl) (by kernel_rfl) rfl rfl rfl hx46 (by kernel_rfl) (i := Try.t9) (z := .string (ByteArray.empty)) (by kernel_rfl) (by kernel_rfl) (by kernel_rfl) ?_
                clear hF hS hx46
                intro p62 c63 κ a w hF hS
                refine ⟨fun _ => ⟨_, (hS.selp [2, 3, 4, 5] (by decide) (by kernel_rfl)).pick [5, 6, 7, 8] (by kernel_rfl)⟩, ?_⟩
                refine any_go 14 (o := ⟨(some 69), (Go.Op.call (Go.Call.mk (Go.Callee.builtin Go.Builtin.append) #[(Go.Operand.tmp 64), (Go.Operand.tmp 68)] #[23, 23])), 23, "span.go:120", #[(Go.Edge.mk 9 Go.Ground.data), (Go.Edge.mk 13 Go.Ground.data), (Go.Edge.mk 9 Go.Ground.chain)], none⟩) hF rfl (by kernel_rfl) (by kernel_rfl) (listed' := #[true, true, true, true, true, true, true, true, true, true, true, true, true, true, true, false, false]) (by kernel_rfl) ?_
                refine wo_append (ty := fStr.ty) hF hS (by kernel_rfl) 1 0 3 rfl rfl rfl (by kernel_rfl) (by kernel_rfl) rfl rfl rfl hx52 (by kernel_rfl) (i := Try.t9) (z := .string (ByteArray.empty)) (by kernel_rfl) (by kernel_rfl) (by kernel_rfl) ?_
                clear hF hS hx52
                intro p64 c65 κ a w hF hS
                refine ⟨fun _ => ⟨_, (hS.selp [2, 3, 4, 5] (by decide) (by kernel_rfl)).pick [6, 7, 8, 9] (by kernel_rfl)⟩, ?_⟩
                refine any_pure [15] [2, 4, 8, 11, 13, 69, 70] (L' := [(2, .int .i64 (a7)), (4, .pointer (some ⟨b10, 0, none⟩)), (8, .pointer (some ⟨b11, 0, none⟩)), (11, .pointer (some ⟨b19, 0, none⟩)), (13, .pointer (some ⟨b33, 0, none⟩)), (69, .slice p64 (x52).length c65), (70, .pointer (some ⟨b33, 0, none⟩))]) (listed' := #[true, true, true, true, true, true, true, true, true, true, true, true, true, true, true, true, false]) (fuel := 1) hF ⟨_, (hS.selp [2, 3, 4, 5] (by decide) (by kernel_rfl)).pick [6, 7, 8, 9] (by kernel_rfl)⟩ (by kernel_rfl) (by intro c a w t v h; cases t <;> exact h) (by kernel_rfl) rfl ?_
                clear hF
                intro a hF
                refine any_go 16 (o := ⟨none, (Go.Op.store 23 (Go.Operand.tmp 70) (Go.Operand.tmp 69)), 0, "span.go:120", #[(Go.Edge.mk 15 Go.Ground.data), (Go.Edge.mk 14 Go.Ground.data), (Go.Edge.mk 14 Go.Ground.chain), (Go.Edge.mk 0 Go.Ground.phase), (Go.Edge.mk 1 Go.Ground.phase), (Go.Edge.mk 2 Go.Ground.phase), (Go.Edge.mk 3 Go.Ground.phase), (Go.Edge.mk 4 Go.Ground.phase), (Go.Edge.mk 5 Go.Ground.phase), (Go.Edge.mk 6 Go.Ground.phase), (Go.Edge.mk 7 Go.Ground.phase), (Go.Edge.mk 8 Go.Ground.phase), (Go.Edge.mk 9 Go.Ground.phase), (Go.Edge.mk 10 Go.Ground.phase), (Go.Edge.mk 11 Go.Ground.phase), (Go.Edge.mk 12 Go.Ground.phase), (Go.Edge.mk 13 Go.Ground.phase), (Go.Edge.mk 14 Go.Ground.phase)], none⟩) hF rfl (by kernel_rfl) (by kernel_rfl) (listed' := #[true, true, true, true, true, true, true, true, true, true, true, true, true, true, true, true, true]) (by kernel_rfl) ?_
                refine wo_stores hF hS (by kernel_rfl) 2 0 1 (v := .slice p64 (x52).length c65) (s' := [(1, [.slice p64 (x52).length c65])]) (t := [(1, [.slice p64 (x52).length c65]), (1, [.slice none 0 0])]) (C' := [.tok p61 9 1 ([a8]).length 1, .tok p64 9 1 (x52).length c65, .box b33 26 [(1, [.slice p64 (x52).length c65]), (1, [.slice none 0 0])], .box b19 46 [(1, [.string (x18.1.Lo)]), (1, [.string (x18.1.Hi)]), (1, [.int .i64 (x18.1.Node)])], .box b11 26 [(1, [.slice none 0 0]), (1, [.slice none 0 0])], .box b10 26 [(1, [.slice p2 (a1.Cuts).length c3]), (1, [.slice p4 (a1.Nodes).length c5])]]) (n := 1) rfl rfl (by kernel_rfl) rfl (by kernel_rfl) (by kernel_rfl) (by kernel_rfl) (by kernel_rfl) (sgV rfl sgNil).1 (sgV rfl sgNil).2 (by kernel_rfl) (by kernel_rfl) (by kernel_rfl) ?_
                clear hF hS
                intro a w hF hS
                refine ⟨fun h => absurd (show false = true from h) Bool.false_ne_true, ?_⟩
                refine any_done (by kernel_rfl) ?_ _
                cases hv38
                exact ⟨_, p64, c65, hF.keep' [2, 4, 8, 11, 13] (by kernel_rfl), (hS.selp [2, 3, 4, 5, 1] (by decide) (by kernel_rfl)).pick [0, 7, 6, 8, 9] (by kernel_rfl), trivial⟩
              · refine wo_buildN (t := fStr) (z := .string (ByteArray.empty)) (l := [a8]) (vs := [(0, .string (a8))]) (cells := #[.string (a8)]) (E := 9) hF hS (by kernel_rfl) rfl (by kernel_rfl) (by kernel_rfl) rfl (by kernel_rfl) (by kernel_rfl) (by kernel_rfl) (by kernel_rfl) (by kernel_rfl) ?_
                clear hF hS
                intro p59 κ a w hF hS
                refine ⟨fun _ => ⟨_, (hS.selp [1, 2, 3, 4] (by decide) (by kernel_rfl)).pick [3, 4, 5, 6] (by kernel_rfl)⟩, ?_⟩
                refine any_go 6 (o := ⟨(some 61), (Go.Op.call (Go.Call.mk (Go.Callee.builtin Go.Builtin.append) #[(Go.Operand.tmp 56), (Go.Operand.tmp 60)] #[23, 23])), 23, "span.go:120", #[(Go.Edge.mk 1 Go.Ground.data), (Go.Edge.mk 5 Go.Ground.data)], none⟩) hF rfl (by kernel_rfl) (by kernel_rfl) (listed' := #[true, true, true, true, true, true, true, true, true, false, true, true, true, true, false, false, false]) (by kernel_rfl) ?_
                have hS := hS.addNil 9 1
                refine wo_append (ty := fStr.ty) hF hS (by kernel_rfl) 0 3 2 rfl rfl rfl (by kernel_rfl) (by kernel_rfl) rfl rfl rfl hx42 (by kernel_rfl) (i := Try.t9) (z := .string (ByteArray.empty)) (by kernel_rfl) (by kernel_rfl) (by kernel_rfl) ?_
                clear hF hS hx42
                intro p60 c61 κ a w hF hS
                refine ⟨fun _ => ⟨_, (hS.selp [2, 3, 4, 5] (by decide) (by kernel_rfl)).pick [4, 5, 6, 7] (by kernel_rfl)⟩, ?_⟩
                refine any_go 9 (o := ⟨(some 64), (Go.Op.call (Go.Call.mk (Go.Callee.builtin Go.Builtin.append) #[(Go.Operand.tmp 61), (Go.Operand.tmp 63)] #[23, 23])), 23, "span.go:120", #[(Go.Edge.mk 6 Go.Ground.data), (Go.Edge.mk 8 Go.Ground.data), (Go.Edge.mk 6 Go.Ground.chain)], none⟩) hF rfl (by kernel_rfl) (by kernel_rfl) (listed' := #[true, true, true, true, true, true, true, true, true, true, true, true, true, true, false, false, false]) (by kernel_rfl) ?_
                refine wo_append (ty := fStr.ty) hF hS (by kernel_rfl) 0 0 1 rfl rfl rfl (by kernel_rfl) (by kernel_rfl) rfl rfl rfl hx46 (by kernel_rfl) (i := Try.t9) (z := .string (ByteArray.empty)) (by kernel_rfl) (by kernel_rfl) (by kernel_rfl) ?_
                clear hF hS hx46
                intro p62 c63 κ a w hF hS
                refine ⟨fun _ => ⟨_, (hS.selp [2, 3, 4, 5] (by decide) (by kernel_rfl)).pick [5, 6, 7, 8] (by kernel_rfl)⟩, ?_⟩
                refine any_go 14 (o := ⟨(some 69), (Go.Op.call (Go.Call.mk (Go.Callee.builtin Go.Builtin.append) #[(Go.Operand.tmp 64), (Go.Operand.tmp 68)] #[23, 23])), 23, "span.go:120", #[(Go.Edge.mk 9 Go.Ground.data), (Go.Edge.mk 13 Go.Ground.data), (Go.Edge.mk 9 Go.Ground.chain)], none⟩) hF rfl (by kernel_rfl) (by kernel_rfl) (listed' := #[true, true, true, true, true, true, true, true, true, true, true, true, true, true, true, false, false]) (by kernel_rfl) ?_
                refine wo_append (ty := fStr.ty) hF hS (by kernel_rfl) 0 0 3 rfl rfl rfl (by kernel_rfl) (by kernel_rfl) rfl rfl rfl hx52 (by kernel_rfl) (i := Try.t9) (z := .string (ByteArray.empty)) (by kernel_rfl) (by kernel_rfl) (by kernel_rfl) ?_
                clear hF hS hx52
                intro p64 c65 κ a w hF hS
                refine ⟨fun _ => ⟨_, (hS.selp [2, 3, 4, 5] (by decide) (by kernel_rfl)).pick [6, 7, 8, 9] (by kernel_rfl)⟩, ?_⟩
                refine any_pure [15] [2, 4, 8, 11, 13, 69, 70] (L' := [(2, .int .i64 (a7)), (4, .pointer (some ⟨b10, 0, none⟩)), (8, .pointer (some ⟨b11, 0, none⟩)), (11, .pointer (some ⟨b19, 0, none⟩)), (13, .pointer (some ⟨b33, 0, none⟩)), (69, .slice p64 (x52).length c65), (70, .pointer (some ⟨b33, 0, none⟩))]) (listed' := #[true, true, true, true, true, true, true, true, true, true, true, true, true, true, true, true, false]) (fuel := 1) hF ⟨_, (hS.selp [2, 3, 4, 5] (by decide) (by kernel_rfl)).pick [6, 7, 8, 9] (by kernel_rfl)⟩ (by kernel_rfl) (by intro c a w t v h; cases t <;> exact h) (by kernel_rfl) rfl ?_
                clear hF
                intro a hF
                refine any_go 16 (o := ⟨none, (Go.Op.store 23 (Go.Operand.tmp 70) (Go.Operand.tmp 69)), 0, "span.go:120", #[(Go.Edge.mk 15 Go.Ground.data), (Go.Edge.mk 14 Go.Ground.data), (Go.Edge.mk 14 Go.Ground.chain), (Go.Edge.mk 0 Go.Ground.phase), (Go.Edge.mk 1 Go.Ground.phase), (Go.Edge.mk 2 Go.Ground.phase), (Go.Edge.mk 3 Go.Ground.phase), (Go.Edge.mk 4 Go.Ground.phase), (Go.Edge.mk 5 Go.Ground.phase), (Go.Edge.mk 6 Go.Ground.phase), (Go.Edge.mk 7 Go.Ground.phase), (Go.Edge.mk 8 Go.Ground.phase), (Go.Edge.mk 9 Go.Ground.phase), (Go.Edge.mk 10 Go.Ground.phase), (Go.Edge.mk 11 Go.Ground.phase), (Go.Edge.mk 12 Go.Ground.phase), (Go.Edge.mk 13 Go.Ground.phase), (Go.Edge.mk 14 Go.Ground.phase)], none⟩) hF rfl (by kernel_rfl) (by kernel_rfl) (listed' := #[true, true, true, true, true, true, true, true, true, true, true, true, true, true, true, true, true]) (by kernel_rfl) ?_
                refine wo_stores hF hS (by kernel_rfl) 2 0 1 (v := .slice p64 (x52).length c65) (s' := [(1, [.slice p64 (x52).length c65])]) (t := [(1, [.slice p64 (x52).length c65]), (1, [.slice none 0 0])]) (C' := [.tok p64 9 1 (x52).length c65, .tok p59 9 1 ([a8]).length 1, .box b33 26 [(1, [.slice p64 (x52).length c65]), (1, [.slice none 0 0])], .box b19 46 [(1, [.string (x18.1.Lo)]), (1, [.string (x18.1.Hi)]), (1, [.int .i64 (x18.1.Node)])], .box b11 26 [(1, [.slice none 0 0]), (1, [.slice none 0 0])], .box b10 26 [(1, [.slice p2 (a1.Cuts).length c3]), (1, [.slice p4 (a1.Nodes).length c5])]]) (n := 1) rfl rfl (by kernel_rfl) rfl (by kernel_rfl) (by kernel_rfl) (by kernel_rfl) (by kernel_rfl) (sgV rfl sgNil).1 (sgV rfl sgNil).2 (by kernel_rfl) (by kernel_rfl) (by kernel_rfl) ?_
                clear hF hS
                intro a w hF hS
                refine ⟨fun h => absurd (show false = true from h) Bool.false_ne_true, ?_⟩
                refine any_done (by kernel_rfl) ?_ _
                cases hv38
                exact ⟨_, p64, c65, hF.keep' [2, 4, 8, 11, 13] (by kernel_rfl), (hS.selp [2, 3, 4, 5, 0] (by decide) (by kernel_rfl)).pick [0, 7, 6, 8, 9] (by kernel_rfl), trivial⟩
            · clear hF hS hv38
              rintro a w ⟨κ, p36, c37, hF, hS, -⟩
              refine hK34 _ _ ?_
              clear hK34 K34
              refine wpIn_seq_k fun K66 hK66 => ?_
              refine bind_split H (fun v70 hv70 H => ?_)
              refine code_join (fun a w => ∃ κ : Gh, ∃ p68 : Option Addr, ∃ c69 : Nat, Fr (89) [] [(8, .pointer (some ⟨b11, 0, none⟩)), (13, .pointer (some ⟨b33, 0, none⟩))] a ∧ SS [] κ0 w0 κ w [.box b33 26 [(1, [.slice p36 (v38).length c37]), (1, [.slice p68 (v70).length c69])], .box b11 26 [(1, [.slice none 0 0]), (1, [.slice none 0 0])], .tok p68 3 1 (v70).length c69, .tok p36 9 1 (v38).length c37] [Ro.mp fStr.ty p36 c37 v38, Ro.mp (fInt .i64).ty p68 c69 v70, Ro.mp fStr.ty none 0 ([] : List ByteArray), Ro.mp (fInt .i64).ty none 0 ([] : List Int)] ∧ True) ?_ ?_
              · clear H
                refine region_any (SSx [] κ0 w0 [.box b33 26 [(1, [.slice p36 (v38).length c37]), (1, [.slice none 0 0])], .box b19 46 [(1, [.string (x18.1.Lo)]), (1, [.string (x18.1.Hi)]), (1, [.int .i64 (x18.1.Node)])], .box b11 26 [(1, [.slice none 0 0]), (1, [.slice none 0 0])], .box b10 26 [(1, [.slice p2 (a1.Cuts).length c3]), (1, [.slice p4 (a1.Nodes).length c5])]] [Ro.mp fStr.ty p36 c37 v38, Ro.mp (fInt .i64).ty none 0 ([] : List Int), Ro.mp fStr.ty none 0 ([] : List ByteArray), Ro.mp fStr.ty p2 c3 a1.Cuts, Ro.mp (fInt .i64).ty p4 c5 a1.Nodes]) [17] (by kernel_rfl) (n := 18) (by kernel_rfl) (l := #[false, false, false, false, false, false, false, false, false, false, false, false, false, false, false, false, false, false]) (by kernel_rfl) ?_
                have hS := hS.drew
                refine bind_split hv70 (fun x71 hx71 hv70 => ?_)
                refine bind_split hv70 (fun x74 hx74 hv70 => ?_)
                refine bind_split hv70 (fun x78 hx78 hv70 => ?_)
                refine bind_split hv70 (fun x81 hx81 hv70 => ?_)
                refine bind_split hv70 (fun x84 hx84 hv70 => ?_)
                refine any_pure [0, 2, 4, 7, 11, 13] [8, 13, 71, 73, 75, 78, 82, 84] (L' := [(8, .pointer (some ⟨b11, 0, none⟩)), (13, .pointer (some ⟨b33, 0, none⟩)), (71, .pointer (some ⟨b33, 1, none⟩)), (73, .pointer (some ⟨b10, 1, none⟩)), (75, .int .i64 (a7)), (78, .pointer (some ⟨b19, 2, none⟩)), (82, .pointer (some ⟨b10, 1, none⟩)), (84, .int .i64 (a7))]) (listed' := #[true, false, true, false, true, false, false, true, false, false, false, true, false, true, false, false, false, false]) (fuel := 12) hF ⟨_, (hS.selp [0, 1, 2, 3] (by decide) (by kernel_rfl)).pick [0, 1, 2, 3, 4] (by kernel_rfl)⟩ (by kernel_rfl) (by intro c a w t v h; cases t <;> exact h) (by kernel_rfl) rfl ?_
                clear hF
                intro a hF
                refine any_take 1 (some 72) hF ⟨_, (hS.selp [0, 1, 2, 3] (by decide) (by kernel_rfl)).pick [0, 1, 2, 3, 4] (by kernel_rfl)⟩ rfl (by kernel_rfl) (by kernel_rfl) (by intro c a w v h; exact h) (by kernel_rfl) (by kernel_rfl) (by kernel_rfl) rfl (val_load 0 1 0 (v := .slice none 0 0) rfl rfl rfl rfl rfl (by kernel_rfl) (by kernel_rfl)) ?_
                clear hF
                intro a hF
                refine any_take 3 (some 74) hF ⟨_, (hS.selp [0, 1, 2, 3] (by decide) (by kernel_rfl)).pick [0, 1, 2, 3, 4] (by kernel_rfl)⟩ rfl (by kernel_rfl) (by kernel_rfl) (by intro c a w v h; exact h) (by kernel_rfl) (by kernel_rfl) (by kernel_rfl) rfl (val_load 3 1 0 (v := .slice p4 (a1.Nodes).length c5) rfl rfl rfl rfl rfl (by kernel_rfl) (by kernel_rfl)) ?_
                clear hF
                intro a hF
                obtain ⟨p87, c88, hvx71, hrx71⟩ := slice_val Try.prog (fInt .i64).ty (L := [(8, .pointer (some ⟨b11, 0, none⟩)), (13, .pointer (some ⟨b33, 0, none⟩)), (71, .pointer (some ⟨b33, 1, none⟩)), (72, .slice none 0 0), (73, .pointer (some ⟨b10, 1, none⟩)), (74, .slice p4 (a1.Nodes).length c5), (75, .int .i64 (a7)), (78, .pointer (some ⟨b19, 2, none⟩)), (82, .pointer (some ⟨b10, 1, none⟩)), (84, .int .i64 (a7))]) (o := ⟨(some 76), (Go.Op.slice 24 (Go.Operand.tmp 74) none (some (Go.Operand.tmp 75)) none), 24, "span.go:121", #[(Go.Edge.mk 3 Go.Ground.data), (Go.Edge.mk 4 Go.Ground.data)], none⟩) (E := 3) (lo := 0) (hi := a7) rfl (hS.get 4 rfl : Ro (fInt .i64).ty _ _ p4 c5 a1.Nodes).1 rfl rfl rfl ⟨_, rfl⟩ hx71 (by kernel_rfl) (by kernel_rfl)
                have hS := hS.add (m := Ro.mp (fInt .i64).ty p87 c88 x71) (hrx71 _ _ (hS.get 4 rfl))
                refine any_take 5 (some 76) (hF.keep' [8, 13, 71, 72, 73, 74, 75, 78, 79, 82, 83, 84, 85] (by kernel_rfl) : Fr (89) _ [(8, .pointer (some ⟨b11, 0, none⟩)), (13, .pointer (some ⟨b33, 0, none⟩)), (71, .pointer (some ⟨b33, 1, none⟩)), (72, .slice none 0 0), (73, .pointer (some ⟨b10, 1, none⟩)), (74, .slice p4 (a1.Nodes).length c5), (75, .int .i64 (a7)), (78, .pointer (some ⟨b19, 2, none⟩)), (82, .pointer (some ⟨b10, 1, none⟩)), (84, .int .i64 (a7))] a) ⟨_, (hS.selp [0, 1, 2, 3] (by decide) (by kernel_rfl)).pick [1, 2, 3, 4, 5] (by kernel_rfl)⟩ rfl (by kernel_rfl) (by kernel_rfl) (by intro c a w v h; exact h) (by kernel_rfl) (by kernel_rfl) (by kernel_rfl) rfl (fun w _ => hvx71 w) ?_
                clear hF hx71 hvx71 hrx71
                intro a hF
                refine any_take 8 (some 79) hF ⟨_, (hS.selp [0, 1, 2, 3] (by decide) (by kernel_rfl)).pick [1, 2, 3, 4, 5] (by kernel_rfl)⟩ rfl (by kernel_rfl) (by kernel_rfl) (by intro c a w v h; exact h) (by kernel_rfl) (by kernel_rfl) (by kernel_rfl) rfl (val_load 1 2 0 (v := .int .i64 (x18.1.Node)) rfl rfl rfl rfl rfl (by kernel_rfl) (by kernel_rfl)) ?_
                clear hF
                intro a hF
                refine any_take 12 (some 83) hF ⟨_, (hS.selp [0, 1, 2, 3] (by decide) (by kernel_rfl)).pick [1, 2, 3, 4, 5] (by kernel_rfl)⟩ rfl (by kernel_rfl) (by kernel_rfl) (by intro c a w v h; exact h) (by kernel_rfl) (by kernel_rfl) (by kernel_rfl) rfl (val_load 3 1 0 (v := .slice p4 (a1.Nodes).length c5) rfl rfl rfl rfl rfl (by kernel_rfl) (by kernel_rfl)) ?_
                clear hF
                intro a hF
                obtain ⟨p89, c90, hvx81, hrx81⟩ := slice_val Try.prog (fInt .i64).ty (L := [(8, .pointer (some ⟨b11, 0, none⟩)), (13, .pointer (some ⟨b33, 0, none⟩)), (71, .pointer (some ⟨b33, 1, none⟩)), (72, .slice none 0 0), (73, .pointer (some ⟨b10, 1, none⟩)), (74, .slice p4 (a1.Nodes).length c5), (75, .int .i64 (a7)), (76, .slice p87 (x71).length c88), (78, .pointer (some ⟨b19, 2, none⟩)), (79, .int .i64 (x18.1.Node)), (82, .pointer (some ⟨b10, 1, none⟩)), (83, .slice p4 (a1.Nodes).length c5), (84, .int .i64 (a7))]) (o := ⟨(some 85), (Go.Op.slice 24 (Go.Operand.tmp 83) (some (Go.Operand.tmp 84)) none none), 24, "span.go:121", #[(Go.Edge.mk 12 Go.Ground.data), (Go.Edge.mk 13 Go.Ground.data)], none⟩) (E := 3) (lo := a7) (hi := ((a1.Nodes).length : Int)) rfl (hS.get 5 rfl : Ro (fInt .i64).ty _ _ p4 c5 a1.Nodes).1 rfl rfl ⟨_, rfl⟩ rfl hx81 (by kernel_rfl) (by kernel_rfl)
                have hS := hS.add (m := Ro.mp (fInt .i64).ty p89 c90 x81) (hrx81 _ _ (hS.get 5 rfl))
                refine any_take 14 (some 85) (hF.keep' [8, 13, 71, 72, 73, 74, 75, 76, 78, 79, 82, 83, 84] (by kernel_rfl) : Fr (89) _ [(8, .pointer (some ⟨b11, 0, none⟩)), (13, .pointer (some ⟨b33, 0, none⟩)), (71, .pointer (some ⟨b33, 1, none⟩)), (72, .slice none 0 0), (73, .pointer (some ⟨b10, 1, none⟩)), (74, .slice p4 (a1.Nodes).length c5), (75, .int .i64 (a7)), (76, .slice p87 (x71).length c88), (78, .pointer (some ⟨b19, 2, none⟩)), (79, .int .i64 (x18.1.Node)), (82, .pointer (some ⟨b10, 1, none⟩)), (83, .slice p4 (a1.Nodes).length c5), (84, .int .i64 (a7))] a) ⟨_, (hS.selp [0, 1, 2, 3] (by decide) (by kernel_rfl)).pick [2, 3, 4, 5, 6] (by kernel_rfl)⟩ rfl (by kernel_rfl) (by kernel_rfl) (by intro c a w v h; exact h) (by kernel_rfl) (by kernel_rfl) (by kernel_rfl) rfl (fun w _ => hvx81 w) ?_
                clear hF hx81 hvx81 hrx81
                intro a hF
                refine any_go2 6 9 (oi := ⟨(some 77), (Go.Op.call (Go.Call.mk (Go.Callee.builtin Go.Builtin.append) #[(Go.Operand.tmp 72), (Go.Operand.tmp 76)] #[24, 24])), 24, "span.go:121", #[(Go.Edge.mk 1 Go.Ground.data), (Go.Edge.mk 5 Go.Ground.data)], none⟩) (oj := ⟨(some 80), (Go.Op.buildSlice 24 1 #[(0, (Go.Operand.tmp 79))]), 24, "span.go:121", #[(Go.Edge.mk 8 Go.Ground.data)], none⟩) hF rfl rfl (by kernel_rfl) (by kernel_rfl) (by kernel_rfl) (li := #[true, true, true, true, true, true, true, true, true, false, false, true, true, true, true, false, false, false]) (lj := #[true, true, true, true, true, true, false, true, true, true, false, true, true, true, true, false, false, false]) (by kernel_rfl) (by kernel_rfl) ?_ ?_
                · have hS := hS.addNil 3 1
                  refine wo_append (ty := (fInt .i64).ty) hF hS (by kernel_rfl) 0 3 1 rfl rfl rfl (by kernel_rfl) (by kernel_rfl) rfl rfl rfl hx74 (by kernel_rfl) (i := Try.t3) (z := .int .i64 (0)) (by kernel_rfl) (by kernel_rfl) (by kernel_rfl) ?_
                  clear hF hS hx74
                  intro p91 c92 κ a w hF hS
                  refine ⟨fun _ => ⟨_, (hS.selp [1, 2, 3, 4] (by decide) (by kernel_rfl)).pick [3, 4, 5, 6, 7] (by kernel_rfl)⟩, ?_⟩
                  refine any_go 9 (o := ⟨(some 80), (Go.Op.buildSlice 24 1 #[(0, (Go.Operand.tmp 79))]), 24, "span.go:121", #[(Go.Edge.mk 8 Go.Ground.data)], none⟩) hF rfl (by kernel_rfl) (by kernel_rfl) (listed' := #[true, true, true, true, true, true, true, true, true, true, false, true, true, true, true, false, false, false]) (by kernel_rfl) ?_
                  refine wo_buildN (t := (fInt .i64)) (z := .int .i64 (0)) (l := [x18.1.Node]) (vs := [(0, .int .i64 (x18.1.Node))]) (cells := #[.int .i64 (x18.1.Node)]) (E := 3) hF hS (by kernel_rfl) rfl (by kernel_rfl) (by kernel_rfl) rfl (by kernel_rfl) (by kernel_rfl) (by kernel_rfl) (by kernel_rfl) (by kernel_rfl) ?_
                  clear hF hS
                  intro p93 κ a w hF hS
                  refine ⟨fun _ => ⟨_, (hS.selp [2, 3, 4, 5] (by decide) (by kernel_rfl)).pick [4, 5, 6, 7, 8] (by kernel_rfl)⟩, ?_⟩
                  refine any_go 10 (o := ⟨(some 81), (Go.Op.call (Go.Call.mk (Go.Callee.builtin Go.Builtin.append) #[(Go.Operand.tmp 77), (Go.Operand.tmp 80)] #[24, 24])), 24, "span.go:121", #[(Go.Edge.mk 6 Go.Ground.data), (Go.Edge.mk 9 Go.Ground.data), (Go.Edge.mk 6 Go.Ground.chain)], none⟩) hF rfl (by kernel_rfl) (by kernel_rfl) (listed' := #[true, true, true, true, true, true, true, true, true, true, true, true, true, true, true, false, false, false]) (by kernel_rfl) ?_
                  refine wo_append (ty := (fInt .i64).ty) hF hS (by kernel_rfl) 1 1 0 rfl rfl rfl (by kernel_rfl) (by kernel_rfl) rfl rfl rfl hx78 (by kernel_rfl) (i := Try.t3) (z := .int .i64 (0)) (by kernel_rfl) (by kernel_rfl) (by kernel_rfl) ?_
                  clear hF hS hx78
                  intro p94 c95 κ a w hF hS
                  refine ⟨fun _ => ⟨_, (hS.selp [2, 3, 4, 5] (by decide) (by kernel_rfl)).pick [5, 6, 7, 8, 9] (by kernel_rfl)⟩, ?_⟩
                  refine any_go 15 (o := ⟨(some 86), (Go.Op.call (Go.Call.mk (Go.Callee.builtin Go.Builtin.append) #[(Go.Operand.tmp 81), (Go.Operand.tmp 85)] #[24, 24])), 24, "span.go:121", #[(Go.Edge.mk 10 Go.Ground.data), (Go.Edge.mk 14 Go.Ground.data), (Go.Edge.mk 10 Go.Ground.chain)], none⟩) hF rfl (by kernel_rfl) (by kernel_rfl) (listed' := #[true, true, true, true, true, true, true, true, true, true, true, true, true, true, true, true, false, false]) (by kernel_rfl) ?_
                  refine wo_append (ty := (fInt .i64).ty) hF hS (by kernel_rfl) 1 0 3 rfl rfl rfl (by kernel_rfl) (by kernel_rfl) rfl rfl rfl hx84 (by kernel_rfl) (i := Try.t3) (z := .int .i64 (0)) (by kernel_rfl) (by kernel_rfl) (by kernel_rfl) ?_
                  clear hF hS hx84
                  intro p96 c97 κ a w hF hS
                  refine ⟨fun _ => ⟨_, (hS.selp [2, 3, 4, 5] (by decide) (by kernel_rfl)).pick [6, 7, 8, 9, 10] (by kernel_rfl)⟩, ?_⟩
                  refine any_pure [16] [8, 13, 86, 87] (L' := [(8, .pointer (some ⟨b11, 0, none⟩)), (13, .pointer (some ⟨b33, 0, none⟩)), (86, .slice p96 (x84).length c97), (87, .pointer (some ⟨b33, 1, none⟩))]) (listed' := #[true, true, true, true, true, true, true, true, true, true, true, true, true, true, true, true, true, false]) (fuel := 1) hF ⟨_, (hS.selp [2, 3, 4, 5] (by decide) (by kernel_rfl)).pick [6, 7, 8, 9, 10] (by kernel_rfl)⟩ (by kernel_rfl) (by intro c a w t v h; cases t <;> exact h) (by kernel_rfl) rfl ?_
                  clear hF
                  intro a hF
                  refine any_go 17 (o := ⟨none, (Go.Op.store 24 (Go.Operand.tmp 87) (Go.Operand.tmp 86)), 0, "span.go:121", #[(Go.Edge.mk 16 Go.Ground.data), (Go.Edge.mk 15 Go.Ground.data), (Go.Edge.mk 15 Go.Ground.chain), (Go.Edge.mk 0 Go.Ground.phase), (Go.Edge.mk 1 Go.Ground.phase), (Go.Edge.mk 2 Go.Ground.phase), (Go.Edge.mk 3 Go.Ground.phase), (Go.Edge.mk 4 Go.Ground.phase), (Go.Edge.mk 5 Go.Ground.phase), (Go.Edge.mk 6 Go.Ground.phase), (Go.Edge.mk 7 Go.Ground.phase), (Go.Edge.mk 8 Go.Ground.phase), (Go.Edge.mk 9 Go.Ground.phase), (Go.Edge.mk 10 Go.Ground.phase), (Go.Edge.mk 11 Go.Ground.phase), (Go.Edge.mk 12 Go.Ground.phase), (Go.Edge.mk 13 Go.Ground.phase), (Go.Edge.mk 14 Go.Ground.phase), (Go.Edge.mk 15 Go.Ground.phase)], none⟩) hF rfl (by kernel_rfl) (by kernel_rfl) (listed' := #[true, true, true, true, true, true, true, true, true, true, true, true, true, true, true, true, true, true]) (by kernel_rfl) ?_
                  refine wo_stores hF hS (by kernel_rfl) 2 1 1 (v := .slice p96 (x84).length c97) (s' := [(1, [.slice p96 (x84).length c97])]) (t := [(1, [.slice p36 (v38).length c37]), (1, [.slice p96 (x84).length c97])]) (C' := [.tok p93 3 1 ([x18.1.Node]).length 1, .tok p96 3 1 (x84).length c97, .box b33 26 [(1, [.slice p36 (v38).length c37]), (1, [.slice p96 (x84).length c97])], .box b19 46 [(1, [.string (x18.1.Lo)]), (1, [.string (x18.1.Hi)]), (1, [.int .i64 (x18.1.Node)])], .box b11 26 [(1, [.slice none 0 0]), (1, [.slice none 0 0])], .box b10 26 [(1, [.slice p2 (a1.Cuts).length c3]), (1, [.slice p4 (a1.Nodes).length c5])], .tok p36 9 1 (v38).length c37]) (n := 1) rfl rfl (by kernel_rfl) rfl (by kernel_rfl) (by kernel_rfl) (by kernel_rfl) (by kernel_rfl) (sgV rfl sgNil).1 (sgV rfl sgNil).2 (by kernel_rfl) (by kernel_rfl) (by kernel_rfl) ?_
                  clear hF hS
                  intro a w hF hS
                  refine ⟨fun h => absurd (show false = true from h) Bool.false_ne_true, ?_⟩
                  refine any_done (by kernel_rfl) ?_ _
                  cases hv70
                  exact ⟨_, p96, c97, hF.keep' [8, 13] (by kernel_rfl), (hS.selp [2, 4, 1, 6] (by decide) (by kernel_rfl)).pick [6, 0, 8, 7] (by kernel_rfl), trivial⟩
                · refine wo_buildN (t := (fInt .i64)) (z := .int .i64 (0)) (l := [x18.1.Node]) (vs := [(0, .int .i64 (x18.1.Node))]) (cells := #[.int .i64 (x18.1.Node)]) (E := 3) hF hS (by kernel_rfl) rfl (by kernel_rfl) (by kernel_rfl) rfl (by kernel_rfl) (by kernel_rfl) (by kernel_rfl) (by kernel_rfl) (by kernel_rfl) ?_
                  clear hF hS
                  intro p91 κ a w hF hS
                  refine ⟨fun _ => ⟨_, (hS.selp [1, 2, 3, 4] (by decide) (by kernel_rfl)).pick [3, 4, 5, 6, 7] (by kernel_rfl)⟩, ?_⟩
                  refine any_go 6 (o := ⟨(some 77), (Go.Op.call (Go.Call.mk (Go.Callee.builtin Go.Builtin.append) #[(Go.Operand.tmp 72), (Go.Operand.tmp 76)] #[24, 24])), 24, "span.go:121", #[(Go.Edge.mk 1 Go.Ground.data), (Go.Edge.mk 5 Go.Ground.data)], none⟩) hF rfl (by kernel_rfl) (by kernel_rfl) (listed' := #[true, true, true, true, true, true, true, true, true, true, false, true, true, true, true, false, false, false]) (by kernel_rfl) ?_
                  have hS := hS.addNil 3 1
                  refine wo_append (ty := (fInt .i64).ty) hF hS (by kernel_rfl) 0 4 2 rfl rfl rfl (by kernel_rfl) (by kernel_rfl) rfl rfl rfl hx74 (by kernel_rfl) (i := Try.t3) (z := .int .i64 (0)) (by kernel_rfl) (by kernel_rfl) (by kernel_rfl) ?_
                  clear hF hS hx74
                  intro p92 c93 κ a w hF hS
                  refine ⟨fun _ => ⟨_, (hS.selp [2, 3, 4, 5] (by decide) (by kernel_rfl)).pick [4, 5, 6, 7, 8] (by kernel_rfl)⟩, ?_⟩
                  refine any_go 10 (o := ⟨(some 81), (Go.Op.call (Go.Call.mk (Go.Callee.builtin Go.Builtin.append) #[(Go.Operand.tmp 77), (Go.Operand.tmp 80)] #[24, 24])), 24, "span.go:121", #[(Go.Edge.mk 6 Go.Ground.data), (Go.Edge.mk 9 Go.Ground.data), (Go.Edge.mk 6 Go.Ground.chain)], none⟩) hF rfl (by kernel_rfl) (by kernel_rfl) (listed' := #[true, true, true, true, true, true, true, true, true, true, true, true, true, true, true, false, false, false]) (by kernel_rfl) ?_
                  refine wo_append (ty := (fInt .i64).ty) hF hS (by kernel_rfl) 0 0 1 rfl rfl rfl (by kernel_rfl) (by kernel_rfl) rfl rfl rfl hx78 (by kernel_rfl) (i := Try.t3) (z := .int .i64 (0)) (by kernel_rfl) (by kernel_rfl) (by kernel_rfl) ?_
                  clear hF hS hx78
                  intro p94 c95 κ a w hF hS
                  refine ⟨fun _ => ⟨_, (hS.selp [2, 3, 4, 5] (by decide) (by kernel_rfl)).pick [5, 6, 7, 8, 9] (by kernel_rfl)⟩, ?_⟩
                  refine any_go 15 (o := ⟨(some 86), (Go.Op.call (Go.Call.mk (Go.Callee.builtin Go.Builtin.append) #[(Go.Operand.tmp 81), (Go.Operand.tmp 85)] #[24, 24])), 24, "span.go:121", #[(Go.Edge.mk 10 Go.Ground.data), (Go.Edge.mk 14 Go.Ground.data), (Go.Edge.mk 10 Go.Ground.chain)], none⟩) hF rfl (by kernel_rfl) (by kernel_rfl) (listed' := #[true, true, true, true, true, true, true, true, true, true, true, true, true, true, true, true, false, false]) (by kernel_rfl) ?_
                  refine wo_append (ty := (fInt .i64).ty) hF hS (by kernel_rfl) 0 0 3 rfl rfl rfl (by kernel_rfl) (by kernel_rfl) rfl rfl rfl hx84 (by kernel_rfl) (i := Try.t3) (z := .int .i64 (0)) (by kernel_rfl) (by kernel_rfl) (by kernel_rfl) ?_
                  clear hF hS hx84
                  intro p96 c97 κ a w hF hS
                  refine ⟨fun _ => ⟨_, (hS.selp [2, 3, 4, 5] (by decide) (by kernel_rfl)).pick [6, 7, 8, 9, 10] (by kernel_rfl)⟩, ?_⟩
                  refine any_pure [16] [8, 13, 86, 87] (L' := [(8, .pointer (some ⟨b11, 0, none⟩)), (13, .pointer (some ⟨b33, 0, none⟩)), (86, .slice p96 (x84).length c97), (87, .pointer (some ⟨b33, 1, none⟩))]) (listed' := #[true, true, true, true, true, true, true, true, true, true, true, true, true, true, true, true, true, false]) (fuel := 1) hF ⟨_, (hS.selp [2, 3, 4, 5] (by decide) (by kernel_rfl)).pick [6, 7, 8, 9, 10] (by kernel_rfl)⟩ (by kernel_rfl) (by intro c a w t v h; cases t <;> exact h) (by kernel_rfl) rfl ?_
                  clear hF
                  intro a hF
                  refine any_go 17 (o := ⟨none, (Go.Op.store 24 (Go.Operand.tmp 87) (Go.Operand.tmp 86)), 0, "span.go:121", #[(Go.Edge.mk 16 Go.Ground.data), (Go.Edge.mk 15 Go.Ground.data), (Go.Edge.mk 15 Go.Ground.chain), (Go.Edge.mk 0 Go.Ground.phase), (Go.Edge.mk 1 Go.Ground.phase), (Go.Edge.mk 2 Go.Ground.phase), (Go.Edge.mk 3 Go.Ground.phase), (Go.Edge.mk 4 Go.Ground.phase), (Go.Edge.mk 5 Go.Ground.phase), (Go.Edge.mk 6 Go.Ground.phase), (Go.Edge.mk 7 Go.Ground.phase), (Go.Edge.mk 8 Go.Ground.phase), (Go.Edge.mk 9 Go.Ground.phase), (Go.Edge.mk 10 Go.Ground.phase), (Go.Edge.mk 11 Go.Ground.phase), (Go.Edge.mk 12 Go.Ground.phase), (Go.Edge.mk 13 Go.Ground.phase), (Go.Edge.mk 14 Go.Ground.phase), (Go.Edge.mk 15 Go.Ground.phase)], none⟩) hF rfl (by kernel_rfl) (by kernel_rfl) (listed' := #[true, true, true, true, true, true, true, true, true, true, true, true, true, true, true, true, true, true]) (by kernel_rfl) ?_
                  refine wo_stores hF hS (by kernel_rfl) 2 1 1 (v := .slice p96 (x84).length c97) (s' := [(1, [.slice p96 (x84).length c97])]) (t := [(1, [.slice p36 (v38).length c37]), (1, [.slice p96 (x84).length c97])]) (C' := [.tok p96 3 1 (x84).length c97, .tok p91 3 1 ([x18.1.Node]).length 1, .box b33 26 [(1, [.slice p36 (v38).length c37]), (1, [.slice p96 (x84).length c97])], .box b19 46 [(1, [.string (x18.1.Lo)]), (1, [.string (x18.1.Hi)]), (1, [.int .i64 (x18.1.Node)])], .box b11 26 [(1, [.slice none 0 0]), (1, [.slice none 0 0])], .box b10 26 [(1, [.slice p2 (a1.Cuts).length c3]), (1, [.slice p4 (a1.Nodes).length c5])], .tok p36 9 1 (v38).length c37]) (n := 1) rfl rfl (by kernel_rfl) rfl (by kernel_rfl) (by kernel_rfl) (by kernel_rfl) (by kernel_rfl) (sgV rfl sgNil).1 (sgV rfl sgNil).2 (by kernel_rfl) (by kernel_rfl) (by kernel_rfl) ?_
                  clear hF hS
                  intro a w hF hS
                  refine ⟨fun h => absurd (show false = true from h) Bool.false_ne_true, ?_⟩
                  refine any_done (by kernel_rfl) ?_ _
                  cases hv70
                  exact ⟨_, p96, c97, hF.keep' [8, 13] (by kernel_rfl), (hS.selp [2, 4, 0, 6] (by decide) (by kernel_rfl)).pick [6, 0, 8, 7] (by kernel_rfl), trivial⟩
              · clear hF hS hv70
                rintro a w ⟨κ, p68, c69, hF, hS, -⟩
                refine hK66 _ _ ?_
                clear hK66 K66
                refine wpIn_seq_k fun K98 hK98 => ?_
                refine wpIn_region_lit ?_
                refine wl_cons rfl (wo_loads hF hS (by kernel_rfl) 0 0 2 (s' := [(1, [.slice p36 (v38).length c37]), (1, [.slice p68 (v70).length c69])]) (n := 2) rfl rfl rfl (by kernel_rfl) (by kernel_rfl) (by kernel_rfl) (by kernel_rfl) (by kernel_rfl) ?_)
                clear hF
                intro a hF
                refine wl_cons rfl (wo_stores hF hS (by kernel_rfl) 1 0 2 (v := .agg (flat [(1, [.slice p36 (v38).length c37]), (1, [.slice p68 (v70).length c69])]).toArray) (s' := [(1, [.slice p36 (v38).length c37]), (1, [.slice p68 (v70).length c69])]) (t := [(1, [.slice p36 (v38).length c37]), (1, [.slice p68 (v70).length c69])]) (C' := [.box b33 26 [(1, [.slice p36 (v38).length c37]), (1, [.slice p68 (v70).length c69])], .box b11 26 [(1, [.slice p36 (v38).length c37]), (1, [.slice p68 (v70).length c69])], .tok p68 3 1 (v70).length c69, .tok p36 9 1 (v38).length c37]) (n := 2) rfl rfl (by kernel_rfl) rfl (by kernel_rfl) (by kernel_rfl) (by kernel_rfl) (by kernel_rfl) (sgV rfl (sgV rfl sgNil)).1 (sgV rfl (sgV rfl sgNil)).2 (by kernel_rfl) (by kernel_rfl) (by kernel_rfl) ?_)
                clear hF hS
                intro a w hF hS
                refine wl_pure (L' := [(8, .pointer (some ⟨b11, 0, none⟩)), (9, .int .i64 (0))]) 1 [8, 9] hF (by kernel_rfl) ?_
                clear hF
                intro a hF
                refine wpListIn_nil ?_
                refine hK98 _ _ ?_
                clear hK98 K98
                refine wpIn_ret ?_
                have hS' := hS
                cases H
                exact (ret_done hF hS (res2 Try.results42 (rv_cells hF hS' 1 0 2 (n := 2) rfl rfl (by kernel_rfl) (by kernel_rfl) (by kernel_rfl) (by kernel_rfl) (by kernel_rfl)) (rv_tmp hF (by kernel_rfl))) ⟨p36, c37, p68, c69, rfl, (hS.pick [0, 1] (by kernel_rfl)).ro, hS.newC [3, 2] (by decide) (by kernel_rfl)⟩)
set_option maxRecDepth 20000 in
set_option maxHeartbeats 1000000 in
theorem C_law08_awake (N : Nat) {κ0 : Gh} {w0 : World} (hfr : Fresh κ0 w0)   (hR : ∀ m ∈ ([] : List MP), m.p κ0 w0) {r : (Bool)} (H : M.law08_awake N  = some r) :
    Calls Try.prog 29 #[] w0 (Post [] κ0 w0 fun v κ w => v = .bool (r) ∧ (∀ m ∈ ([] : List MP), m.p κ w) ∧ NewC w0 κ w []) := by
  have hS := SS.start hfr hR
  clear hR
  refine enter (N := (21)) (L := []) Try.func29 rfl Try.ntmps29 (show 0 ≤ (21) by decide) rfl fun a hF => ?_
  unfold M.law08_awake at H
  refine wpIn_seq_k fun K1 hK1 => ?_
  refine wpIn_region_lit ?_
  refine wl_pure (L' := []) 1 [] hF (by kernel_rfl) ?_
  clear hF
  intro a hF
  refine wpListIn_nil ?_
  refine hK1 _ _ ?_
  clear hK1 K1
  refine wpIn_seq_k fun K2 hK2 => ?_
  refine wpIn_region_lit ?_
  refine bind_split H (fun x3 hx3 H => ?_)
  refine wl_cons rfl (wo_callP (args := #[.int .i64 (0)]) (f := 52) hF hS (by kernel_rfl) (by kernel_rfl) (C_span_Whole N hS.fresh 0  ((hS.pick [] (by kernel_rfl)).ro) hx3) ?_)
  clear hF hS hx3
  rintro _ κ w a ⟨p4, c5, p6, c7, rfl, hR, hN⟩ hF hS hO
  have hS := hS.adds hR
  have hS := hS.addC hO hN
  clear hR hN hO
  refine bind_split H (fun x8 hx8 H => ?_)
  refine wl_cons rfl (wo_callP (args := #[.agg (flat [(1, [.slice p4 (x3.Cuts).length c5]), (1, [.slice p6 (x3.Nodes).length c7])]).toArray, .int .i64 (2), .int .i64 (0), .string ((ByteArray.mk #[109]))]) (f := 42) hF hS (by kernel_rfl) (by kernel_rfl) (C_span_Split N hS.fresh (T_api_Map.mk x3.Cuts x3.Nodes) 2 0 (ByteArray.mk #[109]) p4 c5 p6 c7 ((hS.pick [0, 1] (by kernel_rfl)).ro) hx8) ?_)
  clear hF hS hx8
  rintro _ κ w a ⟨p9, c10, p11, c12, rfl, hR, hN⟩ hF hS hO
  have hS := hS.adds hR
  have hS := hS.addC hO hN
  clear hR hN hO
  refine wl_pure (L' := [(6, .agg (flat [(1, [.slice p9 (x8.1.Cuts).length c10]), (1, [.slice p11 (x8.1.Nodes).length c12])]).toArray), (7, .int .i64 (x8.2))]) 3 [6, 7] hF (by kernel_rfl) ?_
  clear hF
  intro a hF
  refine wl_cons rfl (wo_alloc hF hS (by kernel_rfl) (z := .agg (flat [(1, [.slice none 0 0]), (1, [.slice none 0 0])]).toArray) (s := [(1, [.slice none 0 0]), (1, [.slice none 0 0])]) rfl (by kernel_rfl) (sgV rfl (sgV rfl sgNil)).1 (by kernel_rfl) ?_)
  clear hF hS
  intro b13 a w hF hS
  refine wl_cons rfl (wo_stores hF hS (by kernel_rfl) 0 0 2 (v := .agg (flat [(1, [.slice p9 (x8.1.Cuts).length c10]), (1, [.slice p11 (x8.1.Nodes).length c12])]).toArray) (s' := [(1, [.slice p9 (x8.1.Cuts).length c10]), (1, [.slice p11 (x8.1.Nodes).length c12])]) (t := [(1, [.slice p9 (x8.1.Cuts).length c10]), (1, [.slice p11 (x8.1.Nodes).length c12])]) (C' := [.box b13 26 [(1, [.slice p9 (x8.1.Cuts).length c10]), (1, [.slice p11 (x8.1.Nodes).length c12])], .tok p9 9 1 (x8.1.Cuts).length c10, .tok p11 3 1 (x8.1.Nodes).length c12, .tok p4 9 1 (x3.Cuts).length c5, .tok p6 3 1 (x3.Nodes).length c7]) (n := 2) rfl rfl (by kernel_rfl) rfl (by kernel_rfl) (by kernel_rfl) (by kernel_rfl) (by kernel_rfl) (sgV rfl (sgV rfl sgNil)).1 (sgV rfl (sgV rfl sgNil)).2 (by kernel_rfl) (by kernel_rfl) (by kernel_rfl) ?_)
  clear hF hS
  intro a w hF hS
  refine wl_pure (L' := [(1, .pointer (some ⟨b13, 0, none⟩)), (2, .int .i64 (x8.2))]) 1 [1, 2] hF (by kernel_rfl) ?_
  clear hF
  intro a hF
  refine wpListIn_nil ?_
  refine hK2 _ _ ?_
  clear hK2 K2
  refine wpIn_seq_k fun K14 hK14 => ?_
  refine wpIn_region_lit ?_
  refine bind_split H (fun v16 hv16 H => ?_)
  refine wl_join (fun a w => ∃ κ : Gh, Fr (21) [] [(0, .bool (v16))] a ∧ SS [] κ0 w0 κ w [] [] ∧ True) ?_ ?_
  · clear H
    refine wl_pure (L' := [(1, .pointer (some ⟨b13, 0, none⟩)), (10, .bool ((x8.2 == 0)))]) 3 [1, 10] hF (by kernel_rfl) ?_
    clear hF
    intro a hF
    refine bif_split hv16 (fun hb hv16 => ?_) (fun hb hv16 => ?_)
    · have hF := hF.boolv 10 (by kernel_rfl) hb
      clear hb
      refine wl_pure (L' := [(1, .pointer (some ⟨b13, 0, none⟩)), (10, .bool (true)), (11, .pointer (some ⟨b13, 0, none⟩))]) 1 [1, 10, 11] hF (by kernel_rfl) ?_
      clear hF
      intro a hF
      refine wl_consg hF (by kernel_rfl) (wo_load hF hS (by kernel_rfl) 0 0 0 (v := .slice p9 (x8.1.Cuts).length c10) rfl rfl rfl rfl rfl (by kernel_rfl) (by kernel_rfl) ?_)
      clear hF
      intro a hF
      refine wl_pure (L' := [(1, .pointer (some ⟨b13, 0, none⟩)), (16, .bool ((((x8.1.Cuts).length : Int) == 1)))]) 4 [1, 16] hF (by kernel_rfl) ?_
      clear hF
      intro a hF
      refine bif_split hv16 (fun hb hv16 => ?_) (fun hb hv16 => ?_)
      · have hF := hF.boolv 16 (by kernel_rfl) hb
        clear hb
        refine wl_consg hF (by kernel_rfl) (wo_loads hF hS (by kernel_rfl) 0 0 2 (s' := [(1, [.slice p9 (x8.1.Cuts).length c10]), (1, [.slice p11 (x8.1.Nodes).length c12])]) (n := 2) rfl rfl rfl (by kernel_rfl) (by kernel_rfl) (by kernel_rfl) (by kernel_rfl) (by kernel_rfl) ?_)
        clear hF
        intro a hF
        refine bind_split hv16 (fun x17 hx17 hv16 => ?_)
        refine wl_consg hF (by kernel_rfl) (wo_callP (args := #[.agg (flat [(1, [.slice p9 (x8.1.Cuts).length c10]), (1, [.slice p11 (x8.1.Nodes).length c12])]).toArray, .string ((ByteArray.mk #[110]))]) (f := 36) hF hS (by kernel_rfl) (by kernel_rfl) (C_span_Find N hS.fresh (T_api_Map.mk x8.1.Cuts x8.1.Nodes) (ByteArray.mk #[110]) p9 c10 p11 c12 ((hS.pick [0, 1] (by kernel_rfl)).ro) hx17) ?_)
        clear hF hS hx17
        rintro _ κ w a ⟨rfl, hR, hN⟩ hF hS hO
        clear hR hN hO
        refine wl_pure (L' := [(0, .bool ((x17 == 1)))]) 3 [0] hF (by kernel_rfl) ?_
        clear hF
        intro a hF
        refine wpListIn_nil ?_
        cases hv16
        exact ⟨_, hF.keep' [0] (by kernel_rfl), (hS.selp [] (by decide) (by kernel_rfl)).pick [] (by kernel_rfl), trivial⟩
      · have hF := hF.boolv 16 (by kernel_rfl) hb
        clear hb
        refine wl_pure (L' := [(0, .bool (false))]) 5 [0] hF (by kernel_rfl) ?_
        clear hF
        intro a hF
        refine wpListIn_nil ?_
        cases hv16
        exact ⟨_, hF.keep' [0] (by kernel_rfl), (hS.selp [] (by decide) (by kernel_rfl)).pick [] (by kernel_rfl), trivial⟩
    · have hF := hF.boolv 10 (by kernel_rfl) hb
      clear hb
      refine wl_pure (L' := [(0, .bool (false))]) 11 [0] hF (by kernel_rfl) ?_
      clear hF
      intro a hF
      refine wpListIn_nil ?_
      cases hv16
      exact ⟨_, hF.keep' [0] (by kernel_rfl), (hS.selp [] (by decide) (by kernel_rfl)).pick [] (by kernel_rfl), trivial⟩
  · clear hF hS hv16
    rintro a w ⟨κ, hF, hS, -⟩
    refine hK14 _ _ ?_
    clear hK14 K14
    refine wpIn_ret ?_
    cases H
    exact (ret_done hF hS (res1 Try.results29 (rv_tmp hF (by kernel_rfl))) ⟨rfl, (hS.pick [] (by kernel_rfl)).ro, hS.newC [] (by decide) (by kernel_rfl)⟩)
set_option maxRecDepth 20000 in
set_option maxHeartbeats 1000000 in
theorem C_law08_SpanChecks (N : Nat) {κ0 : Gh} {w0 : World} (hfr : Fresh κ0 w0) (a1 : T_api_Map) (a6 : Int) (p2 : Option Addr) (c3 : Nat) (p4 : Option Addr) (c5 : Nat) (hR : ∀ m ∈ ([Ro.mp fStr.ty p2 c3 a1.Cuts, Ro.mp (fInt .i64).ty p4 c5 a1.Nodes] : List MP), m.p κ0 w0) {r : (Bool)} (H : M.law08_SpanChecks N a1 a6 = some r) :
    Calls Try.prog 4 #[.agg (flat [(1, [.slice p2 (a1.Cuts).length c3]), (1, [.slice p4 (a1.Nodes).length c5])]).toArray, .int .i64 (a6)] w0 (Post [] κ0 w0 fun v κ w => v = .bool (r) ∧ (∀ m ∈ ([] : List MP), m.p κ w) ∧ NewC w0 κ w []) := by
  have hS := SS.start hfr hR
  clear hR
  refine enter (N := (15)) (L := [(0, .agg (flat [(1, [.slice p2 (a1.Cuts).length c3]), (1, [.slice p4 (a1.Nodes).length c5])]).toArray), (1, .int .i64 (a6))]) Try.func4 rfl Try.ntmps4 (show 2 ≤ (15) by decide) rfl fun a hF => ?_
  unfold M.law08_SpanChecks at H
  refine wpIn_seq_k fun K7 hK7 => ?_
  refine wpIn_region_lit ?_
  refine wl_cons rfl (wo_box hF hS (by kernel_rfl) (v := .agg (flat [(1, [.slice p2 (a1.Cuts).length c3]), (1, [.slice p4 (a1.Nodes).length c5])]).toArray) (s := [(1, [.slice p2 (a1.Cuts).length c3]), (1, [.slice p4 (a1.Nodes).length c5])]) rfl (by kernel_rfl) (sgV rfl (sgV rfl sgNil)).1 (by kernel_rfl) ?_)
  clear hF hS
  intro b8 a w hF hS
  refine wl_pure (L' := [(1, .int .i64 (a6)), (2, .pointer (some ⟨b8, 0, none⟩))]) 1 [1, 2] hF (by kernel_rfl) ?_
  clear hF
  intro a hF
  refine wpListIn_nil ?_
  refine hK7 _ _ ?_
  clear hK7 K7
  refine wpIn_seq_k fun K9 hK9 => ?_
  refine bind_split H (fun v11 hv11 H => ?_)
  refine code_join (fun a w => ∃ κ : Gh, Fr (15) [] [(4, .bool (v11))] a ∧ SS [] κ0 w0 κ w [] [] ∧ True) ?_ ?_
  · clear H
    refine region_any (SSx [] κ0 w0 [.box b8 26 [(1, [.slice p2 (a1.Cuts).length c3]), (1, [.slice p4 (a1.Nodes).length c5])]] [Ro.mp fStr.ty p2 c3 a1.Cuts, Ro.mp (fInt .i64).ty p4 c5 a1.Nodes]) [] (by kernel_rfl) (n := 11) (by kernel_rfl) (l := #[false, false, false, false, false, false, false, false, false, false, false]) (by kernel_rfl) ?_
    have hS := hS.drew
    refine bind_split hv11 (fun x12 hx12 hv11 => ?_)
    refine bif_split hv11 (fun hb13 hv11 => ?_) (fun hb13 hv11 => ?_)
    · refine bind_split hv11 (fun x14 hx14 hv11 => ?_)
      refine bind_split hv11 (fun x15 hx15 hv11 => ?_)
      refine any_go 0 (o := ⟨(some 5), (Go.Op.call (Go.Call.mk (Go.Callee.value (Go.Operand.func 29)) #[] #[])), 4, "law.go:21", #[], none⟩) hF rfl (by kernel_rfl) (by kernel_rfl) (listed' := #[true, false, false, false, false, false, false, false, false, false, false]) (by kernel_rfl) ?_
      refine wo_callP (args := #[]) (f := 29) hF hS (by kernel_rfl) (by kernel_rfl) (C_law08_awake N hS.fresh   ((hS.pick [] (by kernel_rfl)).ro) hx12) ?_
      clear hF hS hx12
      rintro _ κ w a ⟨rfl, hR, hN⟩ hF hS hO
      clear hR hN hO
      refine ⟨fun _ => ⟨_, (hS.selp [0] (by decide) (by kernel_rfl)).pick [0, 1] (by kernel_rfl)⟩, ?_⟩
      refine any_pure [1] [1, 2, 6] (L' := [(1, .int .i64 (a6)), (2, .pointer (some ⟨b8, 0, none⟩)), (6, .bool (x12))]) (listed' := #[true, true, false, false, false, false, false, false, false, false, false]) (fuel := 9) hF ⟨_, (hS.selp [0] (by decide) (by kernel_rfl)).pick [0, 1] (by kernel_rfl)⟩ (by kernel_rfl) (by intro c a w t v h; cases t <;> exact h) (by kernel_rfl) rfl ?_
      clear hF
      intro a hF
      have hF := hF.boolv 6 (by kernel_rfl) hb13
      refine any_pure [3, 6] [2, 6, 8, 11] (L' := [(2, .pointer (some ⟨b8, 0, none⟩)), (6, .bool (true)), (8, .int .i64 (a6)), (11, .int .i64 (a6))]) (listed' := #[true, true, false, true, false, false, true, false, false, false, false]) (fuel := 7) hF ⟨_, (hS.selp [0] (by decide) (by kernel_rfl)).pick [0, 1] (by kernel_rfl)⟩ (by kernel_rfl) (by intro c a w t v h; cases t <;> exact h) (by kernel_rfl) rfl ?_
      clear hF
      intro a hF
      refine any_take 2 (some 7) hF ⟨_, (hS.selp [0] (by decide) (by kernel_rfl)).pick [0, 1] (by kernel_rfl)⟩ rfl (by kernel_rfl) (by kernel_rfl) (by intro c a w v h; exact h) (by kernel_rfl) (by kernel_rfl) (by kernel_rfl) rfl (val_loads 0 0 2 (s' := [(1, [.slice p2 (a1.Cuts).length c3]), (1, [.slice p4 (a1.Nodes).length c5])]) (n := 2) rfl rfl rfl (by kernel_rfl) (by kernel_rfl) (by kernel_rfl) (by kernel_rfl) (by kernel_rfl)) ?_
      clear hF
      intro a hF
      refine any_take 5 (some 10) hF ⟨_, (hS.selp [0] (by decide) (by kernel_rfl)).pick [0, 1] (by kernel_rfl)⟩ rfl (by kernel_rfl) (by kernel_rfl) (by intro c a w v h; exact h) (by kernel_rfl) (by kernel_rfl) (by kernel_rfl) rfl (val_loads 0 0 2 (s' := [(1, [.slice p2 (a1.Cuts).length c3]), (1, [.slice p4 (a1.Nodes).length c5])]) (n := 2) rfl rfl rfl (by kernel_rfl) (by kernel_rfl) (by kernel_rfl) (by kernel_rfl) (by kernel_rfl)) ?_
      clear hF
      intro a hF
      refine any_go 4 (o := ⟨(some 9), (Go.Op.call (Go.Call.mk (Go.Callee.value (Go.Operand.func 30)) #[(Go.Operand.tmp 7), (Go.Operand.tmp 8)] #[26, 3])), 31, "law.go:21", #[(Go.Edge.mk 2 Go.Ground.data), (Go.Edge.mk 3 Go.Ground.data), (Go.Edge.mk 1 Go.Ground.chain), (Go.Edge.mk 1 Go.Ground.guard)], (some (1, true))⟩) hF rfl (by kernel_rfl) (by kernel_rfl) (listed' := #[true, true, true, true, true, true, true, false, false, false, false]) (by kernel_rfl) ?_
      refine wo_callP (args := #[.agg (flat [(1, [.slice p2 (a1.Cuts).length c3]), (1, [.slice p4 (a1.Nodes).length c5])]).toArray, .int .i64 (a6)]) (f := 30) hF hS (by kernel_rfl) (by kernel_rfl) (C_span_Check N hS.fresh (T_api_Map.mk a1.Cuts a1.Nodes) a6 p2 c3 p4 c5 ((hS.pick [0, 1] (by kernel_rfl)).ro) hx14) ?_
      clear hF hS hx14
      rintro _ κ w a ⟨rfl, hR, hN⟩ hF hS hO
      clear hR hN hO
      refine ⟨fun _ => ⟨_, (hS.selp [0] (by decide) (by kernel_rfl)).pick [0, 1] (by kernel_rfl)⟩, ?_⟩
      refine any_go 7 (o := ⟨(some 12), (Go.Op.call (Go.Call.mk (Go.Callee.value (Go.Operand.func 31)) #[(Go.Operand.tmp 10), (Go.Operand.tmp 11)] #[26, 3])), 31, "law.go:21", #[(Go.Edge.mk 5 Go.Ground.data), (Go.Edge.mk 6 Go.Ground.data), (Go.Edge.mk 4 Go.Ground.chain), (Go.Edge.mk 1 Go.Ground.guard)], (some (1, true))⟩) hF rfl (by kernel_rfl) (by kernel_rfl) (listed' := #[true, true, true, true, true, true, true, true, false, false, false]) (by kernel_rfl) ?_
      refine wo_callP (args := #[.agg (flat [(1, [.slice p2 (a1.Cuts).length c3]), (1, [.slice p4 (a1.Nodes).length c5])]).toArray, .int .i64 (a6)]) (f := 31) hF hS (by kernel_rfl) (by kernel_rfl) (C_ref08_Check N hS.fresh (T_api_Map.mk a1.Cuts a1.Nodes) a6 p2 c3 p4 c5 ((hS.pick [0, 1] (by kernel_rfl)).ro) hx15) ?_
      clear hF hS hx15
      rintro _ κ w a ⟨rfl, hR, hN⟩ hF hS hO
      clear hR hN hO
      refine ⟨fun _ => ⟨_, (hS.selp [0] (by decide) (by kernel_rfl)).pick [0, 1] (by kernel_rfl)⟩, ?_⟩
      refine any_pure [8, 9, 10] [4] (L' := [(4, .bool ((x14 == x15)))]) (listed' := #[true, true, true, true, true, true, true, true, true, true, true]) (fuel := 0) hF ⟨_, (hS.selp [0] (by decide) (by kernel_rfl)).pick [0, 1] (by kernel_rfl)⟩ (by kernel_rfl) (by intro c a w t v h; cases t <;> exact h) (by kernel_rfl) rfl ?_
      clear hF
      intro a hF
      refine any_done (by kernel_rfl) ?_ _
      cases hv11
      exact ⟨_, hF.keep' [4] (by kernel_rfl), (hS.selp [] (by decide) (by kernel_rfl)).pick [] (by kernel_rfl), trivial⟩
    · refine any_go 0 (o := ⟨(some 5), (Go.Op.call (Go.Call.mk (Go.Callee.value (Go.Operand.func 29)) #[] #[])), 4, "law.go:21", #[], none⟩) hF rfl (by kernel_rfl) (by kernel_rfl) (listed' := #[true, false, false, false, false, false, false, false, false, false, false]) (by kernel_rfl) ?_
      refine wo_callP (args := #[]) (f := 29) hF hS (by kernel_rfl) (by kernel_rfl) (C_law08_awake N hS.fresh   ((hS.pick [] (by kernel_rfl)).ro) hx12) ?_
      clear hF hS hx12
      rintro _ κ w a ⟨rfl, hR, hN⟩ hF hS hO
      clear hR hN hO
      refine ⟨fun _ => ⟨_, (hS.selp [0] (by decide) (by kernel_rfl)).pick [0, 1] (by kernel_rfl)⟩, ?_⟩
      refine any_pure [1] [1, 2, 6] (L' := [(1, .int .i64 (a6)), (2, .pointer (some ⟨b8, 0, none⟩)), (6, .bool (x12))]) (listed' := #[true, true, false, false, false, false, false, false, false, false, false]) (fuel := 9) hF ⟨_, (hS.selp [0] (by decide) (by kernel_rfl)).pick [0, 1] (by kernel_rfl)⟩ (by kernel_rfl) (by intro c a w t v h; cases t <;> exact h) (by kernel_rfl) rfl ?_
      clear hF
      intro a hF
      have hF := hF.boolv 6 (by kernel_rfl) hb13
      refine any_pure [2, 3, 4, 5, 6, 7, 8, 9, 10] [4] (L' := [(4, .bool (false))]) (listed' := #[true, true, true, true, true, true, true, true, true, true, true]) (fuel := 0) hF ⟨_, (hS.selp [0] (by decide) (by kernel_rfl)).pick [0, 1] (by kernel_rfl)⟩ (by kernel_rfl) (by intro c a w t v h; cases t <;> exact h) (by kernel_rfl) rfl ?_
      clear hF
      intro a hF
      refine any_done (by kernel_rfl) ?_ _
      cases hv11
      exact ⟨_, hF.keep' [4] (by kernel_rfl), (hS.selp [] (by decide) (by kernel_rfl)).pick [] (by kernel_rfl), trivial⟩
  · clear hF hS hv11
    rintro a w ⟨κ, hF, hS, -⟩
    refine hK9 _ _ ?_
    clear hK9 K9
    refine wpIn_ret ?_
    cases H
    exact (ret_done hF hS (res1 Try.results4 (rv_tmp hF (by kernel_rfl))) ⟨rfl, (hS.pick [] (by kernel_rfl)).ro, hS.newC [] (by decide) (by kernel_rfl)⟩)
set_option maxRecDepth 20000 in
set_option maxHeartbeats 1000000 in
theorem C_law08_SpanParts (N : Nat) {κ0 : Gh} {w0 : World} (hfr : Fresh κ0 w0) (a1 : T_api_Map) (a6 : Int) (a7 : ByteArray) (p2 : Option Addr) (c3 : Nat) (p4 : Option Addr) (c5 : Nat) (hR : ∀ m ∈ ([Ro.mp fStr.ty p2 c3 a1.Cuts, Ro.mp (fInt .i64).ty p4 c5 a1.Nodes] : List MP), m.p κ0 w0) {r : (Bool)} (H : M.law08_SpanParts N a1 a6 a7 = some r) :
    Calls Try.prog 6 #[.agg (flat [(1, [.slice p2 (a1.Cuts).length c3]), (1, [.slice p4 (a1.Nodes).length c5])]).toArray, .int .i64 (a6), .string (a7)] w0 (Post [] κ0 w0 fun v κ w => v = .bool (r) ∧ (∀ m ∈ ([] : List MP), m.p κ w) ∧ NewC w0 κ w []) := by
  have hS := SS.start hfr hR
  clear hR
  refine enterM (N := (49)) (L := [(0, .agg (flat [(1, [.slice p2 (a1.Cuts).length c3]), (1, [.slice p4 (a1.Nodes).length c5])]).toArray), (1, .int .i64 (a6)), (2, .string (a7))]) Try.func6 rfl Try.ntmps6 (show 3 ≤ (49) by decide) rfl fun a hF => ?_
  unfold M.law08_SpanParts at H
  refine wpIn_seq_k fun K8 hK8 => ?_
  refine wpIn_region_lit ?_
  refine wl_cons rfl (wo_box hF hS (by kernel_rfl) (v := .agg (flat [(1, [.slice p2 (a1.Cuts).length c3]), (1, [.slice p4 (a1.Nodes).length c5])]).toArray) (s := [(1, [.slice p2 (a1.Cuts).length c3]), (1, [.slice p4 (a1.Nodes).length c5])]) rfl (by kernel_rfl) (sgV rfl (sgV rfl sgNil)).1 (by kernel_rfl) ?_)
  clear hF hS
  intro b9 a w hF hS
  refine wl_cons rfl (wo_box hF hS (by kernel_rfl) (v := .string (a7)) (s := [(1, [.string (a7)])]) rfl (by kernel_rfl) (sgV rfl sgNil).1 (by kernel_rfl) ?_)
  clear hF hS
  intro b10 a w hF hS
  refine wl_cons rfl (wo_alloc hF hS (by kernel_rfl) (z := .bool (false)) (s := [(1, [.bool (false)])]) rfl (by kernel_rfl) (sgV rfl sgNil).1 (by kernel_rfl) ?_)
  clear hF hS
  intro b11 a w hF hS
  refine wpListIn_nil ?_
  refine hK8 _ _ ?_
  clear hK8 K8
  refine wpIn_seq_k fun K12 hK12 => ?_
  refine wpIn_seq_k fun K13 hK13 => ?_
  refine wpIn_region_lit ?_
  refine bind_split H (fun x14 hx14 H => ?_)
  refine wl_cons rfl (wo_callP (args := #[]) (f := 29) hF hS (by kernel_rfl) (by kernel_rfl) (C_law08_awake N hS.fresh   ((hS.pick [] (by kernel_rfl)).ro) hx14) ?_)
  clear hF hS hx14
  rintro _ κ w a ⟨rfl, hR, hN⟩ hF hS hO
  clear hR hN hO
  refine wl_pure (L' := [(1, .int .i64 (a6)), (3, .pointer (some ⟨b9, 0, none⟩)), (5, .pointer (some ⟨b10, 0, none⟩)), (6, .pointer (some ⟨b11, 0, none⟩)), (12, .bool ((!x14)))]) 1 [1, 3, 5, 6, 12] hF (by kernel_rfl) ?_
  clear hF
  intro a hF
  refine wpListIn_nil ?_
  refine hK13 _ _ ?_
  clear hK13 K13
  refine bif_split H (fun hb H => ?_) (fun hb H => ?_)
  · refine cond_t hF (by kernel_rfl) hb ?_
    clear hb
    refine wpIn_seq_k fun K15 hK15 => ?_
    refine wpIn_region_lit ?_
    refine wl_cons rfl (wo_stores hF hS (by kernel_rfl) 0 0 1 (v := .bool (false)) (s' := [(1, [.bool (false)])]) (t := [(1, [.bool (false)])]) (C' := [.box b11 4 [(1, [.bool (false)])], .box b10 9 [(1, [.string (a7)])], .box b9 26 [(1, [.slice p2 (a1.Cuts).length c3]), (1, [.slice p4 (a1.Nodes).length c5])]]) (n := 1) rfl rfl (by kernel_rfl) rfl (by kernel_rfl) (by kernel_rfl) (by kernel_rfl) (by kernel_rfl) (sgV rfl sgNil).1 (sgV rfl sgNil).2 (by kernel_rfl) (by kernel_rfl) (by kernel_rfl) ?_)
    clear hF hS
    intro a w hF hS
    refine wpListIn_nil ?_
    refine hK15 _ _ ?_
    clear hK15 K15
    refine wpIn_ret ?_
    have hS' := hS
    cases H
    exact (ret_done0 hF hS (res1 Try.results6 (rv_cell hF hS' 0 0 0 rfl rfl rfl rfl (by kernel_rfl) (by kernel_rfl))) ⟨rfl, (hS.pick [] (by kernel_rfl)).ro, hS.newC [] (by decide) (by kernel_rfl)⟩)
  · refine cond_f hF (by kernel_rfl) hb ?_
    clear hb
    refine wpIn_skip ?_
    refine hK12 _ _ ?_
    refine wpIn_seq_k fun K16 hK16 => ?_
    refine wpIn_seq_k fun K17 hK17 => ?_
    refine wpIn_region_lit ?_
    refine wl_cons rfl (wo_loads hF hS (by kernel_rfl) 2 0 2 (s' := [(1, [.slice p2 (a1.Cuts).length c3]), (1, [.slice p4 (a1.Nodes).length c5])]) (n := 2) rfl rfl rfl (by kernel_rfl) (by kernel_rfl) (by kernel_rfl) (by kernel_rfl) (by kernel_rfl) ?_)
    clear hF
    intro a hF
    refine wl_pure (L' := [(3, .pointer (some ⟨b9, 0, none⟩)), (5, .pointer (some ⟨b10, 0, none⟩)), (6, .pointer (some ⟨b11, 0, none⟩)), (13, .agg (flat [(1, [.slice p2 (a1.Cuts).length c3]), (1, [.slice p4 (a1.Nodes).length c5])]).toArray), (14, .int .i64 (a6))]) 1 [3, 5, 6, 13, 14] hF (by kernel_rfl) ?_
    clear hF
    intro a hF
    refine bind_split H (fun x18 hx18 H => ?_)
    refine wl_cons rfl (wo_callP (args := #[.agg (flat [(1, [.slice p2 (a1.Cuts).length c3]), (1, [.slice p4 (a1.Nodes).length c5])]).toArray, .int .i64 (a6)]) (f := 30) hF hS (by kernel_rfl) (by kernel_rfl) (C_span_Check N hS.fresh (T_api_Map.mk a1.Cuts a1.Nodes) a6 p2 c3 p4 c5 ((hS.pick [0, 1] (by kernel_rfl)).ro) hx18) ?_)
    clear hF hS hx18
    rintro _ κ w a ⟨rfl, hR, hN⟩ hF hS hO
    clear hR hN hO
    refine wl_pure (L' := [(3, .pointer (some ⟨b9, 0, none⟩)), (5, .pointer (some ⟨b10, 0, none⟩)), (6, .pointer (some ⟨b11, 0, none⟩)), (16, .bool ((x18 != 0)))]) 1 [3, 5, 6, 16] hF (by kernel_rfl) ?_
    clear hF
    intro a hF
    refine wpListIn_nil ?_
    refine hK17 _ _ ?_
    clear hK17 K17
    refine bif_split H (fun hb H => ?_) (fun hb H => ?_)
    · refine cond_t hF (by kernel_rfl) hb ?_
      clear hb
      refine wpIn_seq_k fun K19 hK19 => ?_
      refine wpIn_region_lit ?_
      refine bind_split H (fun x20 hx20 H => ?_)
      refine wl_cons rfl (wo_callP (args := #[]) (f := 29) hF hS (by kernel_rfl) (by kernel_rfl) (C_law08_awake N hS.fresh   ((hS.pick [] (by kernel_rfl)).ro) hx20) ?_)
      clear hF hS hx20
      rintro _ κ w a ⟨rfl, hR, hN⟩ hF hS hO
      clear hR hN hO
      refine wl_cons rfl (wo_stores hF hS (by kernel_rfl) 0 0 1 (v := .bool (x20)) (s' := [(1, [.bool (x20)])]) (t := [(1, [.bool (x20)])]) (C' := [.box b11 4 [(1, [.bool (x20)])], .box b10 9 [(1, [.string (a7)])], .box b9 26 [(1, [.slice p2 (a1.Cuts).length c3]), (1, [.slice p4 (a1.Nodes).length c5])]]) (n := 1) rfl rfl (by kernel_rfl) rfl (by kernel_rfl) (by kernel_rfl) (by kernel_rfl) (by kernel_rfl) (sgV rfl sgNil).1 (sgV rfl sgNil).2 (by kernel_rfl) (by kernel_rfl) (by kernel_rfl) ?_)
      clear hF hS
      intro a w hF hS
      refine wpListIn_nil ?_
      refine hK19 _ _ ?_
      clear hK19 K19
      refine wpIn_ret ?_
      have hS' := hS
      cases H
      exact (ret_done0 hF hS (res1 Try.results6 (rv_cell hF hS' 0 0 0 rfl rfl rfl rfl (by kernel_rfl) (by kernel_rfl))) ⟨rfl, (hS.pick [] (by kernel_rfl)).ro, hS.newC [] (by decide) (by kernel_rfl)⟩)
    · refine cond_f hF (by kernel_rfl) hb ?_
      clear hb
      refine wpIn_skip ?_
      refine hK16 _ _ ?_
      refine wpIn_seq_k fun K21 hK21 => ?_
      refine wpIn_region_lit ?_
      refine wl_cons rfl (wo_alloc hF hS (by kernel_rfl) (z := .int .i64 (0)) (s := [(1, [.int .i64 (0)])]) rfl (by kernel_rfl) (sgV rfl sgNil).1 (by kernel_rfl) ?_)
      clear hF hS
      intro b22 a w hF hS
      refine wl_cons rfl (wo_alloc hF hS (by kernel_rfl) (z := .int .i64 (0)) (s := [(1, [.int .i64 (0)])]) rfl (by kernel_rfl) (sgV rfl sgNil).1 (by kernel_rfl) ?_)
      clear hF hS
      intro b23 a w hF hS
      refine wl_cons rfl (wo_stores hF hS (by kernel_rfl) 1 0 1 (v := .int .i64 (0)) (s' := [(1, [.int .i64 (0)])]) (t := [(1, [.int .i64 (0)])]) (C' := [.box b23 3 [(1, [.int .i64 (0)])], .box b22 3 [(1, [.int .i64 (0)])], .box b11 4 [(1, [.bool (false)])], .box b10 9 [(1, [.string (a7)])], .box b9 26 [(1, [.slice p2 (a1.Cuts).length c3]), (1, [.slice p4 (a1.Nodes).length c5])]]) (n := 1) rfl rfl (by kernel_rfl) rfl (by kernel_rfl) (by kernel_rfl) (by kernel_rfl) (by kernel_rfl) (sgV rfl sgNil).1 (sgV rfl sgNil).2 (by kernel_rfl) (by kernel_rfl) (by kernel_rfl) ?_)
      clear hF hS
      intro a w hF hS
      refine wl_cons rfl (wo_stores hF hS (by kernel_rfl) 0 0 1 (v := .int .i64 ((-1))) (s' := [(1, [.int .i64 ((-1))])]) (t := [(1, [.int .i64 ((-1))])]) (C' := [.box b23 3 [(1, [.int .i64 ((-1))])], .box b22 3 [(1, [.int .i64 (0)])], .box b11 4 [(1, [.bool (false)])], .box b10 9 [(1, [.string (a7)])], .box b9 26 [(1, [.slice p2 (a1.Cuts).length c3]), (1, [.slice p4 (a1.Nodes).length c5])]]) (n := 1) rfl rfl (by kernel_rfl) rfl (by kernel_rfl) (by kernel_rfl) (by kernel_rfl) (by kernel_rfl) (sgV rfl sgNil).1 (sgV rfl sgNil).2 (by kernel_rfl) (by kernel_rfl) (by kernel_rfl) ?_)
      clear hF hS
      intro a w hF hS
      refine wpListIn_nil ?_
      refine hK21 _ _ ?_
      clear hK21 K21
      refine wpIn_seq_k fun K24 hK24 => ?_
      refine wpIn_seq_k fun K25 hK25 => ?_
      refine wpIn_region_lit ?_
      refine wl_cons rfl (wo_loads hF hS (by kernel_rfl) 4 0 2 (s' := [(1, [.slice p2 (a1.Cuts).length c3]), (1, [.slice p4 (a1.Nodes).length c5])]) (n := 2) rfl rfl rfl (by kernel_rfl) (by kernel_rfl) (by kernel_rfl) (by kernel_rfl) (by kernel_rfl) ?_)
      clear hF
      intro a hF
      refine bind_split H (fun x26 hx26 H => ?_)
      refine wl_cons rfl (wo_callP (args := #[.agg (flat [(1, [.slice p2 (a1.Cuts).length c3]), (1, [.slice p4 (a1.Nodes).length c5])]).toArray]) (f := 35) hF hS (by kernel_rfl) (by kernel_rfl) (C_span_Shards N hS.fresh (T_api_Map.mk a1.Cuts a1.Nodes) p2 c3 p4 c5 ((hS.pick [0, 1] (by kernel_rfl)).ro) hx26) ?_)
      clear hF hS hx26
      rintro _ κ w a ⟨b27, rfl, hR, hN⟩ hF hS hO
      have hS := hS.addC hO hN
      clear hR hN hO
      refine wpListIn_nil ?_
      refine hK25 _ _ ?_
      clear hK25 K25
      refine wpIn_block ?_
      refine bind_split H (fun v92 hv92 H => ?_)
      have hS : SS [] κ0 w0 _ _ [.box b23 3 [(1, [.int .i64 ((-1))])], .box b22 3 [(1, [.int .i64 (0)])], .box b11 4 [(1, [.bool (false)])], .box b10 9 [(1, [.string (a7)])], .box b9 26 [(1, [.slice p2 (a1.Cuts).length c3]), (1, [.slice p4 (a1.Nodes).length c5])], .box b27 26 [(1, [.slice p2 (a1.Cuts).length c3]), (1, [.slice p4 (a1.Nodes).length c5])]] _ := hS.selp [1, 2, 3, 4, 5, 0] (by decide) (by kernel_rfl)
      refine wp_range' (C := [.box b23 3 [(1, [.int .i64 ((-1))])], .box b22 3 [(1, [.int .i64 (0)])], .box b11 4 [(1, [.bool (false)])], .box b10 9 [(1, [.string (a7)])], .box b9 26 [(1, [.slice p2 (a1.Cuts).length c3]), (1, [.slice p4 (a1.Nodes).length c5])]]) (Cap := [.box b27 26 [(1, [.slice p2 (a1.Cuts).length c3]), (1, [.slice p4 (a1.Nodes).length c5])]]) (R' := [Ro.mp fStr.ty p2 c3 a1.Cuts, Ro.mp (fInt .i64).ty p4 c5 a1.Nodes]) (caps := #[.pointer (some ⟨b27, 0, none⟩)]) (f := 80) [.ret] (fun l => #[.func (.yield l) #[] #[], .pointer (some ⟨b27, 0, none⟩)]) hF hS (by kernel_rfl) (fun _ _ => rfl) ((hS.pick [0, 1] (by kernel_rfl)).ro) (fun l => by kernel_rfl) ?_
      intro r l rc w hrc hS
      refine ⟨fun x => (fun (v82 : (Int × Int × Nat)) (x : XF) => x = mkX r l (lp rc [.ret] v82.2.2) [.box b23 3 [(1, [.int .i64 (v82.1)])], .box b22 3 [(1, [.int .i64 (v82.2.1)])], .box b11 4 [(1, [.bool (false)])], .box b10 9 [(1, [.string (a7)])], .box b9 26 [(1, [.slice p2 (a1.Cuts).length c3]), (1, [.slice p4 (a1.Nodes).length c5])]] [Ro.mp fStr.ty p2 c3 a1.Cuts, Ro.mp (fInt .i64).ty p4 c5 a1.Nodes]) v92 x, ?_, ?_⟩
      · have hS := (hS.rebase.add (m := MP.const ((fun (v82 : (Int × Int × Nat)) (x : XF) => x = mkX r l (lp rc [.ret] v82.2.2) [.box b23 3 [(1, [.int .i64 (v82.1)])], .box b22 3 [(1, [.int .i64 (v82.2.1)])], .box b11 4 [(1, [.bool (false)])], .box b10 9 [(1, [.string (a7)])], .box b9 26 [(1, [.slice p2 (a1.Cuts).length c3]), (1, [.slice p4 (a1.Nodes).length c5])]] [Ro.mp fStr.ty p2 c3 a1.Cuts, Ro.mp (fInt .i64).ty p4 c5 a1.Nodes]) ((-1), 0, 0) (mkX r l (lp rc [.ret] 0) [.box b23 3 [(1, [.int .i64 ((-1))])], .box b22 3 [(1, [.int .i64 (0)])], .box b11 4 [(1, [.bool (false)])], .box b10 9 [(1, [.string (a7)])], .box b9 26 [(1, [.slice p2 (a1.Cuts).length c3]), (1, [.slice p4 (a1.Nodes).length c5])]] [Ro.mp fStr.ty p2 c3 a1.Cuts, Ro.mp (fInt .i64).ty p4 c5 a1.Nodes]))) rfl).pick (R' := [Ro.mp fStr.ty p2 c3 a1.Cuts, Ro.mp (fInt .i64).ty p4 c5 a1.Nodes, MP.const ((fun (v82 : (Int × Int × Nat)) (x : XF) => x = mkX r l (lp rc [.ret] v82.2.2) [.box b23 3 [(1, [.int .i64 (v82.1)])], .box b22 3 [(1, [.int .i64 (v82.2.1)])], .box b11 4 [(1, [.bool (false)])], .box b10 9 [(1, [.string (a7)])], .box b9 26 [(1, [.slice p2 (a1.Cuts).length c3]), (1, [.slice p4 (a1.Nodes).length c5])]] [Ro.mp fStr.ty p2 c3 a1.Cuts, Ro.mp (fInt .i64).ty p4 c5 a1.Nodes]) ((-1), 0, 0) (mkX r l (lp rc [.ret] 0) [.box b23 3 [(1, [.int .i64 ((-1))])], .box b22 3 [(1, [.int .i64 (0)])], .box b11 4 [(1, [.bool (false)])], .box b10 9 [(1, [.string (a7)])], .box b9 26 [(1, [.slice p2 (a1.Cuts).length c3]), (1, [.slice p4 (a1.Nodes).length c5])]] [Ro.mp fStr.ty p2 c3 a1.Cuts, Ro.mp (fInt .i64).ty p4 c5 a1.Nodes]))]) [1, 2, 0] (by kernel_rfl)
        refine C_span_Shards_1 N (Y := (fun (v82 : (Int × Int × Nat)) (x : XF) => x = mkX r l (lp rc [.ret] v82.2.2) [.box b23 3 [(1, [.int .i64 (v82.1)])], .box b22 3 [(1, [.int .i64 (v82.2.1)])], .box b11 4 [(1, [.bool (false)])], .box b10 9 [(1, [.string (a7)])], .box b9 26 [(1, [.slice p2 (a1.Cuts).length c3]), (1, [.slice p4 (a1.Nodes).length c5])]] [Ro.mp fStr.ty p2 c3 a1.Cuts, Ro.mp (fInt .i64).ty p4 c5 a1.Nodes])) (B := (fun (v82 : (Int × Int × Nat)) x28 x29 => bif (v82.2.2 == 0) then (Option.bind (M.span_Within N a7 x29.Lo x29.Hi) fun x86 => (bif x86 then (Option.bind (M.span_Find N (T_api_Map.mk a1.Cuts a1.Nodes) a7) fun x90 => (bif (x28 != x90) then (some (((x29.Node, IntKind.i64.wrap (v82.2.1 + 1), 1)), false)) else (some (((x29.Node, IntKind.i64.wrap (v82.2.1 + 1), 0)), true)))) else (some (((v82.1, v82.2.1, 0)), true)))) else none)) (l := l) ?_ (T_api_Map.mk a1.Cuts a1.Nodes) p2 c3 p4 c5 hS hv92
        clear hS H hv92
        rintro v82 _ κ w x28 x29  s' c rfl hp hf hnd hlt hR H
        refine bif_split H (fun hn H => ?_) (fun _ H => by cases H)
        · refine round_at (L := [(3, .pointer (some ⟨b9, 0, none⟩)), (5, .pointer (some ⟨b10, 0, none⟩)), (6, .pointer (some ⟨b11, 0, none⟩)), (7, .pointer (some ⟨b22, 0, none⟩)), (8, .pointer (some ⟨b23, 0, none⟩)), (20, .int .i64 (x28)), (21, .agg (flat [(1, [.string (x29.Lo)]), (1, [.string (x29.Hi)]), (1, [.int .i64 (x29.Node)])]).toArray)]) hp hf hnd hlt hn hrc rfl [3, 5, 6, 7, 8, 20, 21] hF (by kernel_rfl) (by kernel_rfl) ?_
          clear hF hp hf hnd hlt hn
          intro a hF hS
          have hS := hS.adds hR
          clear hR
          skip
          refine wpIn_seq_k fun K83 hK83 => ?_
          refine wpIn_region_lit ?_
          refine wl_pure (L' := [(3, .pointer (some ⟨b9, 0, none⟩)), (5, .pointer (some ⟨b10, 0, none⟩)), (6, .pointer (some ⟨b11, 0, none⟩)), (7, .pointer (some ⟨b22, 0, none⟩)), (8, .pointer (some ⟨b23, 0, none⟩)), (9, .int .i64 (x28)), (21, .agg (flat [(1, [.string (x29.Lo)]), (1, [.string (x29.Hi)]), (1, [.int .i64 (x29.Node)])]).toArray)]) 1 [3, 5, 6, 7, 8, 9, 21] hF (by kernel_rfl) ?_
          clear hF
          intro a hF
          refine wpListIn_nil ?_
          refine hK83 _ _ ?_
          clear hK83 K83
          refine wpIn_region_lit ?_
          refine wl_cons rfl (wo_alloc hF hS (by kernel_rfl) (z := .agg (flat [(1, [.string (ByteArray.empty)]), (1, [.string (ByteArray.empty)]), (1, [.int .i64 (0)])]).toArray) (s := [(1, [.string (ByteArray.empty)]), (1, [.string (ByteArray.empty)]), (1, [.int .i64 (0)])]) rfl (by kernel_rfl) (sgV rfl (sgV rfl (sgV rfl sgNil))).1 (by kernel_rfl) ?_)
          clear hF hS
          intro b84 a w hF hS
          refine wl_cons rfl (wo_stores hF hS (by kernel_rfl) 0 0 3 (v := .agg (flat [(1, [.string (x29.Lo)]), (1, [.string (x29.Hi)]), (1, [.int .i64 (x29.Node)])]).toArray) (s' := [(1, [.string (x29.Lo)]), (1, [.string (x29.Hi)]), (1, [.int .i64 (x29.Node)])]) (t := [(1, [.string (x29.Lo)]), (1, [.string (x29.Hi)]), (1, [.int .i64 (x29.Node)])]) (C' := [.box b84 46 [(1, [.string (x29.Lo)]), (1, [.string (x29.Hi)]), (1, [.int .i64 (x29.Node)])], .box b23 3 [(1, [.int .i64 (v82.1)])], .box b22 3 [(1, [.int .i64 (v82.2.1)])], .box b11 4 [(1, [.bool (false)])], .box b10 9 [(1, [.string (a7)])], .box b9 26 [(1, [.slice p2 (a1.Cuts).length c3]), (1, [.slice p4 (a1.Nodes).length c5])]]) (n := 3) rfl rfl (by kernel_rfl) rfl (by kernel_rfl) (by kernel_rfl) (by kernel_rfl) (by kernel_rfl) (sgV rfl (sgV rfl (sgV rfl sgNil))).1 (sgV rfl (sgV rfl (sgV rfl sgNil))).2 (by kernel_rfl) (by kernel_rfl) (by kernel_rfl) ?_)
          clear hF hS
          intro a w hF hS
          refine wpListIn_nil ?_
          refine ⟨_, _, _, hS, fun w hS => ?_⟩
          refine wpIn_block ?_
          refine wpIn_seq_k fun K85 hK85 => ?_
          refine wpIn_region_lit ?_
          refine wl_cons rfl (wo_load hF hS (by kernel_rfl) 4 0 0 (v := .string (a7)) rfl rfl rfl rfl rfl (by kernel_rfl) (by kernel_rfl) ?_)
          clear hF
          intro a hF
          refine wl_pure (L' := [(3, .pointer (some ⟨b9, 0, none⟩)), (5, .pointer (some ⟨b10, 0, none⟩)), (6, .pointer (some ⟨b11, 0, none⟩)), (7, .pointer (some ⟨b22, 0, none⟩)), (8, .pointer (some ⟨b23, 0, none⟩)), (9, .int .i64 (x28)), (10, .pointer (some ⟨b84, 0, none⟩)), (22, .string (a7)), (23, .pointer (some ⟨b84, 0, none⟩))]) 1 [3, 5, 6, 7, 8, 9, 10, 22, 23] hF (by kernel_rfl) ?_
          clear hF
          intro a hF
          refine wl_cons rfl (wo_load hF hS (by kernel_rfl) 0 0 0 (v := .string (x29.Lo)) rfl rfl rfl rfl rfl (by kernel_rfl) (by kernel_rfl) ?_)
          clear hF
          intro a hF
          refine wl_pure (L' := [(3, .pointer (some ⟨b9, 0, none⟩)), (5, .pointer (some ⟨b10, 0, none⟩)), (6, .pointer (some ⟨b11, 0, none⟩)), (7, .pointer (some ⟨b22, 0, none⟩)), (8, .pointer (some ⟨b23, 0, none⟩)), (9, .int .i64 (x28)), (10, .pointer (some ⟨b84, 0, none⟩)), (22, .string (a7)), (24, .string (x29.Lo)), (25, .pointer (some ⟨b84, 1, none⟩))]) 1 [3, 5, 6, 7, 8, 9, 10, 22, 24, 25] hF (by kernel_rfl) ?_
          clear hF
          intro a hF
          refine wl_cons rfl (wo_load hF hS (by kernel_rfl) 0 1 0 (v := .string (x29.Hi)) rfl rfl rfl rfl rfl (by kernel_rfl) (by kernel_rfl) ?_)
          clear hF
          intro a hF
          refine bind_split H (fun x86 hx86 H => ?_)
          refine wl_cons rfl (wo_callP (args := #[.string (a7), .string (x29.Lo), .string (x29.Hi)]) (f := 40) hF hS (by kernel_rfl) (by kernel_rfl) (C_span_Within N hS.fresh a7 x29.Lo x29.Hi  ((hS.pick [] (by kernel_rfl)).ro) hx86) ?_)
          clear hF hS hx86
          rintro _ κ w a ⟨rfl, hR, hN⟩ hF hS hO
          clear hR hN hO
          refine wpListIn_nil ?_
          refine hK85 _ _ ?_
          clear hK85 K85
          refine bif_split H (fun hb H => ?_) (fun hb H => ?_)
          · refine cond_t hF (by kernel_rfl) hb ?_
            clear hb
            refine wpIn_seq_k fun K87 hK87 => ?_
            refine wpIn_region_lit ?_
            refine wl_cons rfl (wo_load hF hS (by kernel_rfl) 2 0 0 (v := .int .i64 (v82.2.1)) rfl rfl rfl rfl rfl (by kernel_rfl) (by kernel_rfl) ?_)
            clear hF
            intro a hF
            refine wl_pure (L' := [(3, .pointer (some ⟨b9, 0, none⟩)), (5, .pointer (some ⟨b10, 0, none⟩)), (6, .pointer (some ⟨b11, 0, none⟩)), (7, .pointer (some ⟨b22, 0, none⟩)), (8, .pointer (some ⟨b23, 0, none⟩)), (9, .int .i64 (x28)), (10, .pointer (some ⟨b84, 0, none⟩)), (29, .int .i64 (IntKind.i64.wrap (v82.2.1 + 1)))]) 1 [3, 5, 6, 7, 8, 9, 10, 29] hF (by kernel_rfl) ?_
            clear hF
            intro a hF
            refine wl_cons rfl (wo_stores hF hS (by kernel_rfl) 2 0 1 (v := .int .i64 (IntKind.i64.wrap (v82.2.1 + 1))) (s' := [(1, [.int .i64 (IntKind.i64.wrap (v82.2.1 + 1))])]) (t := [(1, [.int .i64 (IntKind.i64.wrap (v82.2.1 + 1))])]) (C' := [.box b84 46 [(1, [.string (x29.Lo)]), (1, [.string (x29.Hi)]), (1, [.int .i64 (x29.Node)])], .box b23 3 [(1, [.int .i64 (v82.1)])], .box b22 3 [(1, [.int .i64 (IntKind.i64.wrap (v82.2.1 + 1))])], .box b11 4 [(1, [.bool (false)])], .box b10 9 [(1, [.string (a7)])], .box b9 26 [(1, [.slice p2 (a1.Cuts).length c3]), (1, [.slice p4 (a1.Nodes).length c5])]]) (n := 1) rfl rfl (by kernel_rfl) rfl (by kernel_rfl) (by kernel_rfl) (by kernel_rfl) (by kernel_rfl) (sgV rfl sgNil).1 (sgV rfl sgNil).2 (by kernel_rfl) (by kernel_rfl) (by kernel_rfl) ?_)
            clear hF hS
            intro a w hF hS
            refine wpListIn_nil ?_
            refine hK87 _ _ ?_
            clear hK87 K87
            refine wpIn_seq_k fun K88 hK88 => ?_
            refine wpIn_region_lit ?_
            refine wl_pure (L' := [(3, .pointer (some ⟨b9, 0, none⟩)), (5, .pointer (some ⟨b10, 0, none⟩)), (6, .pointer (some ⟨b11, 0, none⟩)), (8, .pointer (some ⟨b23, 0, none⟩)), (9, .int .i64 (x28)), (30, .pointer (some ⟨b84, 2, none⟩))]) 1 [3, 5, 6, 8, 9, 30] hF (by kernel_rfl) ?_
            clear hF
            intro a hF
            refine wl_cons rfl (wo_load hF hS (by kernel_rfl) 0 2 0 (v := .int .i64 (x29.Node)) rfl rfl rfl rfl rfl (by kernel_rfl) (by kernel_rfl) ?_)
            clear hF
            intro a hF
            refine wl_cons rfl (wo_stores hF hS (by kernel_rfl) 1 0 1 (v := .int .i64 (x29.Node)) (s' := [(1, [.int .i64 (x29.Node)])]) (t := [(1, [.int .i64 (x29.Node)])]) (C' := [.box b84 46 [(1, [.string (x29.Lo)]), (1, [.string (x29.Hi)]), (1, [.int .i64 (x29.Node)])], .box b23 3 [(1, [.int .i64 (x29.Node)])], .box b22 3 [(1, [.int .i64 (IntKind.i64.wrap (v82.2.1 + 1))])], .box b11 4 [(1, [.bool (false)])], .box b10 9 [(1, [.string (a7)])], .box b9 26 [(1, [.slice p2 (a1.Cuts).length c3]), (1, [.slice p4 (a1.Nodes).length c5])]]) (n := 1) rfl rfl (by kernel_rfl) rfl (by kernel_rfl) (by kernel_rfl) (by kernel_rfl) (by kernel_rfl) (sgV rfl sgNil).1 (sgV rfl sgNil).2 (by kernel_rfl) (by kernel_rfl) (by kernel_rfl) ?_)
            clear hF hS
            intro a w hF hS
            refine wpListIn_nil ?_
            refine hK88 _ _ ?_
            clear hK88 K88
            refine wpIn_seq_k fun K89 hK89 => ?_
            refine wpIn_region_lit ?_
            refine wl_pure (L' := [(3, .pointer (some ⟨b9, 0, none⟩)), (5, .pointer (some ⟨b10, 0, none⟩)), (6, .pointer (some ⟨b11, 0, none⟩)), (32, .int .i64 (x28))]) 1 [3, 5, 6, 32] hF (by kernel_rfl) ?_
            clear hF
            intro a hF
            refine wl_cons rfl (wo_loads hF hS (by kernel_rfl) 5 0 2 (s' := [(1, [.slice p2 (a1.Cuts).length c3]), (1, [.slice p4 (a1.Nodes).length c5])]) (n := 2) rfl rfl rfl (by kernel_rfl) (by kernel_rfl) (by kernel_rfl) (by kernel_rfl) (by kernel_rfl) ?_)
            clear hF
            intro a hF
            refine wl_cons rfl (wo_load hF hS (by kernel_rfl) 4 0 0 (v := .string (a7)) rfl rfl rfl rfl rfl (by kernel_rfl) (by kernel_rfl) ?_)
            clear hF
            intro a hF
            refine bind_split H (fun x90 hx90 H => ?_)
            refine wl_cons rfl (wo_callP (args := #[.agg (flat [(1, [.slice p2 (a1.Cuts).length c3]), (1, [.slice p4 (a1.Nodes).length c5])]).toArray, .string (a7)]) (f := 36) hF hS (by kernel_rfl) (by kernel_rfl) (C_span_Find N hS.fresh (T_api_Map.mk a1.Cuts a1.Nodes) a7 p2 c3 p4 c5 ((hS.pick [0, 1] (by kernel_rfl)).ro) hx90) ?_)
            clear hF hS hx90
            rintro _ κ w a ⟨rfl, hR, hN⟩ hF hS hO
            clear hR hN hO
            refine wl_pure (L' := [(6, .pointer (some ⟨b11, 0, none⟩)), (36, .bool ((x28 != x90)))]) 1 [6, 36] hF (by kernel_rfl) ?_
            clear hF
            intro a hF
            refine wpListIn_nil ?_
            refine hK89 _ _ ?_
            clear hK89 K89
            refine bif_split H (fun hb H => ?_) (fun hb H => ?_)
            · refine cond_t hF (by kernel_rfl) hb ?_
              clear hb
              refine wpIn_seq_k fun K91 hK91 => ?_
              refine wpIn_region_lit ?_
              refine wl_cons rfl (wo_stores hF hS (by kernel_rfl) 3 0 1 (v := .bool (false)) (s' := [(1, [.bool (false)])]) (t := [(1, [.bool (false)])]) (C' := [.box b84 46 [(1, [.string (x29.Lo)]), (1, [.string (x29.Hi)]), (1, [.int .i64 (x29.Node)])], .box b23 3 [(1, [.int .i64 (x29.Node)])], .box b22 3 [(1, [.int .i64 (IntKind.i64.wrap (v82.2.1 + 1))])], .box b11 4 [(1, [.bool (false)])], .box b10 9 [(1, [.string (a7)])], .box b9 26 [(1, [.slice p2 (a1.Cuts).length c3]), (1, [.slice p4 (a1.Nodes).length c5])]]) (n := 1) rfl rfl (by kernel_rfl) rfl (by kernel_rfl) (by kernel_rfl) (by kernel_rfl) (by kernel_rfl) (sgV rfl sgNil).1 (sgV rfl sgNil).2 (by kernel_rfl) (by kernel_rfl) (by kernel_rfl) ?_)
              clear hF hS
              intro a w hF hS
              refine wpListIn_nil ?_
              refine hK91 _ _ ?_
              clear hK91 K91
              refine wpIn_ret ?_
              cases H
              try dsimp only [Exit.inBlock, Exit.then]
              refine re_ret [.ret] 0 rfl (C := [.box b23 3 [(1, [.int .i64 (x29.Node)])], .box b22 3 [(1, [.int .i64 (IntKind.i64.wrap (v82.2.1 + 1))])], .box b11 4 [(1, [.bool (false)])], .box b10 9 [(1, [.string (a7)])], .box b9 26 [(1, [.slice p2 (a1.Cuts).length c3]), (1, [.slice p4 (a1.Nodes).length c5])]]) (R := [Ro.mp fStr.ty p2 c3 a1.Cuts, Ro.mp (fInt .i64).ty p4 c5 a1.Nodes]) ((hS.selp [1, 2, 3, 4, 5] (by decide) (by kernel_rfl)).pick [0, 1] (by kernel_rfl)) ?_
              exact rfl
            · refine cond_f hF (by kernel_rfl) hb ?_
              clear hb
              refine wpIn_skip ?_
              cases H
              try dsimp only [Exit.inBlock, Exit.then]
              refine re_normal [.ret] (C := [.box b23 3 [(1, [.int .i64 (x29.Node)])], .box b22 3 [(1, [.int .i64 (IntKind.i64.wrap (v82.2.1 + 1))])], .box b11 4 [(1, [.bool (false)])], .box b10 9 [(1, [.string (a7)])], .box b9 26 [(1, [.slice p2 (a1.Cuts).length c3]), (1, [.slice p4 (a1.Nodes).length c5])]]) (R := [Ro.mp fStr.ty p2 c3 a1.Cuts, Ro.mp (fInt .i64).ty p4 c5 a1.Nodes]) ((hS.selp [1, 2, 3, 4, 5] (by decide) (by kernel_rfl)).pick [0, 1] (by kernel_rfl)) ?_
              exact rfl
          · refine cond_f hF (by kernel_rfl) hb ?_
            clear hb
            refine wpIn_skip ?_
            cases H
            try dsimp only [Exit.inBlock, Exit.then]
            refine re_normal [.ret] (C := [.box b23 3 [(1, [.int .i64 (v82.1)])], .box b22 3 [(1, [.int .i64 (v82.2.1)])], .box b11 4 [(1, [.bool (false)])], .box b10 9 [(1, [.string (a7)])], .box b9 26 [(1, [.slice p2 (a1.Cuts).length c3]), (1, [.slice p4 (a1.Nodes).length c5])]]) (R := [Ro.mp fStr.ty p2 c3 a1.Cuts, Ro.mp (fInt .i64).ty p4 c5 a1.Nodes]) ((hS.selp [1, 2, 3, 4, 5] (by decide) (by kernel_rfl)).pick [0, 1] (by kernel_rfl)) ?_
            exact rfl
      · rintro _ rfl
        refine ⟨_, _, _, rfl, fun κ w a hF hS => ?_⟩
        clear hrc
        refine bif_split H (fun hb H => ?_) (fun hb H => ?_)
        · refine jumped0 hb ?_
          clear hb
          refine hK24 _ _ ?_
          refine wpIn_seq_k fun K93 hK93 => ?_
          refine bind_split H (fun v95 hv95 H => ?_)
          refine code_join (fun a w => ∃ κ : Gh, Fr (49) [mark r] [(6, .pointer (some ⟨b11, 0, none⟩))] a ∧ SS [] κ0 w0 κ w [.box b11 4 [(1, [.bool (v95)])], .ext (defX r)] [] ∧ True) ?_ ?_
          · clear H
            refine region_any (SSx [] κ0 w0 [.box b23 3 [(1, [.int .i64 (v92.1)])], .box b22 3 [(1, [.int .i64 (v92.2.1)])], .box b11 4 [(1, [.bool (false)])], .box b10 9 [(1, [.string (a7)])], .box b9 26 [(1, [.slice p2 (a1.Cuts).length c3]), (1, [.slice p4 (a1.Nodes).length c5])]] [Ro.mp fStr.ty p2 c3 a1.Cuts, Ro.mp (fInt .i64).ty p4 c5 a1.Nodes, Ro.mp fStr.ty p2 c3 a1.Cuts, Ro.mp (fInt .i64).ty p4 c5 a1.Nodes]) [12] (by kernel_rfl) (n := 13) (by kernel_rfl) (l := #[false, false, false, false, false, false, false, false, false, false, false, false, false]) (by kernel_rfl) ?_
            have hS := hS.drew
            refine bind_split hv95 (fun x96 hx96 hv95 => ?_)
            refine bif_split hv95 (fun hb97 hv95 => ?_) (fun hb97 hv95 => ?_)
            · refine bif_split hv95 (fun hb98 hv95 => ?_) (fun hb98 hv95 => ?_)
              · refine bind_split hv95 (fun x99 hx99 hv95 => ?_)
                refine any_go 0 (o := ⟨(some 37), (Go.Op.call (Go.Call.mk (Go.Callee.value (Go.Operand.func 29)) #[] #[])), 4, "law.go:84", #[], none⟩) hF rfl (by kernel_rfl) (by kernel_rfl) (listed' := #[true, false, false, false, false, false, false, false, false, false, false, false, false]) (by kernel_rfl) ?_
                refine wo_callP (args := #[]) (f := 29) hF hS (by kernel_rfl) (by kernel_rfl) (C_law08_awake N hS.fresh   ((hS.pick [] (by kernel_rfl)).ro) hx96) ?_
                clear hF hS hx96
                rintro _ κ w a ⟨rfl, hR, hN⟩ hF hS hO
                clear hR hN hO
                refine ⟨fun _ => ⟨_, (hS.selp [1, 2, 3, 4, 5] (by decide) (by kernel_rfl)).pick [0, 1, 0, 1] (by kernel_rfl)⟩, ?_⟩
                refine any_pure [1] [3, 5, 6, 7, 8, 38] (L' := [(3, .pointer (some ⟨b9, 0, none⟩)), (5, .pointer (some ⟨b10, 0, none⟩)), (6, .pointer (some ⟨b11, 0, none⟩)), (7, .pointer (some ⟨b22, 0, none⟩)), (8, .pointer (some ⟨b23, 0, none⟩)), (38, .bool (x96))]) (listed' := #[true, true, false, false, false, false, false, false, false, false, false, false, false]) (fuel := 11) hF ⟨_, (hS.selp [1, 2, 3, 4, 5] (by decide) (by kernel_rfl)).pick [0, 1, 0, 1] (by kernel_rfl)⟩ (by kernel_rfl) (by intro c a w t v h; cases t <;> exact h) (by kernel_rfl) rfl ?_
                clear hF
                intro a hF
                have hF := hF.boolv 38 (by kernel_rfl) hb97
                refine any_take 2 (some 39) hF ⟨_, (hS.selp [1, 2, 3, 4, 5] (by decide) (by kernel_rfl)).pick [0, 1, 0, 1] (by kernel_rfl)⟩ rfl (by kernel_rfl) (by kernel_rfl) (by intro c a w v h; exact h) (by kernel_rfl) (by kernel_rfl) (by kernel_rfl) rfl (val_load 1 0 0 (v := .int .i64 (v92.2.1)) rfl rfl rfl rfl rfl (by kernel_rfl) (by kernel_rfl)) ?_
                clear hF
                intro a hF
                refine any_pure [3, 4, 5] [3, 5, 6, 8, 42] (L' := [(3, .pointer (some ⟨b9, 0, none⟩)), (5, .pointer (some ⟨b10, 0, none⟩)), (6, .pointer (some ⟨b11, 0, none⟩)), (8, .pointer (some ⟨b23, 0, none⟩)), (42, .bool ((v92.2.1 == 1)))]) (listed' := #[true, true, true, true, true, true, false, false, false, false, false, false, false]) (fuel := 7) hF ⟨_, (hS.selp [1, 2, 3, 4, 5] (by decide) (by kernel_rfl)).pick [0, 1, 0, 1] (by kernel_rfl)⟩ (by kernel_rfl) (by intro c a w t v h; cases t <;> exact h) (by kernel_rfl) rfl ?_
                clear hF
                intro a hF
                have hF := hF.boolv 42 (by kernel_rfl) hb98
                refine any_take 6 (some 43) hF ⟨_, (hS.selp [1, 2, 3, 4, 5] (by decide) (by kernel_rfl)).pick [0, 1, 0, 1] (by kernel_rfl)⟩ rfl (by kernel_rfl) (by kernel_rfl) (by intro c a w v h; exact h) (by kernel_rfl) (by kernel_rfl) (by kernel_rfl) rfl (val_load 0 0 0 (v := .int .i64 (v92.1)) rfl rfl rfl rfl rfl (by kernel_rfl) (by kernel_rfl)) ?_
                clear hF
                intro a hF
                refine any_take 7 (some 44) hF ⟨_, (hS.selp [1, 2, 3, 4, 5] (by decide) (by kernel_rfl)).pick [0, 1, 0, 1] (by kernel_rfl)⟩ rfl (by kernel_rfl) (by kernel_rfl) (by intro c a w v h; exact h) (by kernel_rfl) (by kernel_rfl) (by kernel_rfl) rfl (val_loads 4 0 2 (s' := [(1, [.slice p2 (a1.Cuts).length c3]), (1, [.slice p4 (a1.Nodes).length c5])]) (n := 2) rfl rfl rfl (by kernel_rfl) (by kernel_rfl) (by kernel_rfl) (by kernel_rfl) (by kernel_rfl)) ?_
                clear hF
                intro a hF
                refine any_take 8 (some 45) hF ⟨_, (hS.selp [1, 2, 3, 4, 5] (by decide) (by kernel_rfl)).pick [0, 1, 0, 1] (by kernel_rfl)⟩ rfl (by kernel_rfl) (by kernel_rfl) (by intro c a w v h; exact h) (by kernel_rfl) (by kernel_rfl) (by kernel_rfl) rfl (val_load 3 0 0 (v := .string (a7)) rfl rfl rfl rfl rfl (by kernel_rfl) (by kernel_rfl)) ?_
                clear hF
                intro a hF
                refine any_go 9 (o := ⟨(some 46), (Go.Op.call (Go.Call.mk (Go.Callee.value (Go.Operand.func 38)) #[(Go.Operand.tmp 44), (Go.Operand.tmp 45)] #[26, 9])), 3, "law.go:84", #[(Go.Edge.mk 7 Go.Ground.data), (Go.Edge.mk 8 Go.Ground.data), (Go.Edge.mk 5 Go.Ground.chain), (Go.Edge.mk 5 Go.Ground.guard)], (some (5, true))⟩) hF rfl (by kernel_rfl) (by kernel_rfl) (listed' := #[true, true, true, true, true, true, true, true, true, true, false, false, false]) (by kernel_rfl) ?_
                refine wo_callP (args := #[.agg (flat [(1, [.slice p2 (a1.Cuts).length c3]), (1, [.slice p4 (a1.Nodes).length c5])]).toArray, .string (a7)]) (f := 38) hF hS (by kernel_rfl) (by kernel_rfl) (C_span_Owner N hS.fresh (T_api_Map.mk a1.Cuts a1.Nodes) a7 p2 c3 p4 c5 ((hS.pick [0, 1] (by kernel_rfl)).ro) hx99) ?_
                clear hF hS hx99
                rintro _ κ w a ⟨rfl, hR, hN⟩ hF hS hO
                clear hR hN hO
                refine ⟨fun _ => ⟨_, (hS.selp [1, 2, 3, 4, 5] (by decide) (by kernel_rfl)).pick [0, 1, 0, 1] (by kernel_rfl)⟩, ?_⟩
                refine any_pure [10, 11] [6, 48] (L' := [(6, .pointer (some ⟨b11, 0, none⟩)), (48, .bool ((v92.1 == x99)))]) (listed' := #[true, true, true, true, true, true, true, true, true, true, true, true, false]) (fuel := 1) hF ⟨_, (hS.selp [1, 2, 3, 4, 5] (by decide) (by kernel_rfl)).pick [0, 1, 0, 1] (by kernel_rfl)⟩ (by kernel_rfl) (by intro c a w t v h; cases t <;> exact h) (by kernel_rfl) rfl ?_
                clear hF
                intro a hF
                refine any_go 12 (o := ⟨none, (Go.Op.store 4 (Go.Operand.tmp 6) (Go.Operand.tmp 48)), 0, "law.go:84", #[(Go.Edge.mk 11 Go.Ground.data), (Go.Edge.mk 9 Go.Ground.chain), (Go.Edge.mk 0 Go.Ground.phase), (Go.Edge.mk 1 Go.Ground.phase), (Go.Edge.mk 2 Go.Ground.phase), (Go.Edge.mk 3 Go.Ground.phase), (Go.Edge.mk 4 Go.Ground.phase), (Go.Edge.mk 5 Go.Ground.phase), (Go.Edge.mk 6 Go.Ground.phase), (Go.Edge.mk 7 Go.Ground.phase), (Go.Edge.mk 8 Go.Ground.phase), (Go.Edge.mk 9 Go.Ground.phase), (Go.Edge.mk 10 Go.Ground.phase), (Go.Edge.mk 11 Go.Ground.phase)], none⟩) hF rfl (by kernel_rfl) (by kernel_rfl) (listed' := #[true, true, true, true, true, true, true, true, true, true, true, true, true]) (by kernel_rfl) ?_
                refine wo_stores hF hS (by kernel_rfl) 3 0 1 (v := .bool ((v92.1 == x99))) (s' := [(1, [.bool ((v92.1 == x99))])]) (t := [(1, [.bool ((v92.1 == x99))])]) (C' := [.ext (defX r), .box b23 3 [(1, [.int .i64 (v92.1)])], .box b22 3 [(1, [.int .i64 (v92.2.1)])], .box b11 4 [(1, [.bool ((v92.1 == x99))])], .box b10 9 [(1, [.string (a7)])], .box b9 26 [(1, [.slice p2 (a1.Cuts).length c3]), (1, [.slice p4 (a1.Nodes).length c5])]]) (n := 1) rfl rfl (by kernel_rfl) rfl (by kernel_rfl) (by kernel_rfl) (by kernel_rfl) (by kernel_rfl) (sgV rfl sgNil).1 (sgV rfl sgNil).2 (by kernel_rfl) (by kernel_rfl) (by kernel_rfl) ?_
                clear hF hS
                intro a w hF hS
                refine ⟨fun h => absurd (show false = true from h) Bool.false_ne_true, ?_⟩
                refine any_done (by kernel_rfl) ?_ _
                cases hv95
                exact ⟨_, hF.keep' [6] (by kernel_rfl), (hS.selp [3, 0] (by decide) (by kernel_rfl)).pick [] (by kernel_rfl), trivial⟩
              · refine any_go 0 (o := ⟨(some 37), (Go.Op.call (Go.Call.mk (Go.Callee.value (Go.Operand.func 29)) #[] #[])), 4, "law.go:84", #[], none⟩) hF rfl (by kernel_rfl) (by kernel_rfl) (listed' := #[true, false, false, false, false, false, false, false, false, false, false, false, false]) (by kernel_rfl) ?_
                refine wo_callP (args := #[]) (f := 29) hF hS (by kernel_rfl) (by kernel_rfl) (C_law08_awake N hS.fresh   ((hS.pick [] (by kernel_rfl)).ro) hx96) ?_
                clear hF hS hx96
                rintro _ κ w a ⟨rfl, hR, hN⟩ hF hS hO
                clear hR hN hO
                refine ⟨fun _ => ⟨_, (hS.selp [1, 2, 3, 4, 5] (by decide) (by kernel_rfl)).pick [0, 1, 0, 1] (by kernel_rfl)⟩, ?_⟩
                refine any_pure [1] [3, 5, 6, 7, 8, 38] (L' := [(3, .pointer (some ⟨b9, 0, none⟩)), (5, .pointer (some ⟨b10, 0, none⟩)), (6, .pointer (some ⟨b11, 0, none⟩)), (7, .pointer (some ⟨b22, 0, none⟩)), (8, .pointer (some ⟨b23, 0, none⟩)), (38, .bool (x96))]) (listed' := #[true, true, false, false, false, false, false, false, false, false, false, false, false]) (fuel := 11) hF ⟨_, (hS.selp [1, 2, 3, 4, 5] (by decide) (by kernel_rfl)).pick [0, 1, 0, 1] (by kernel_rfl)⟩ (by kernel_rfl) (by intro c a w t v h; cases t <;> exact h) (by kernel_rfl) rfl ?_
                clear hF
                intro a hF
                have hF := hF.boolv 38 (by kernel_rfl) hb97
                refine any_take 2 (some 39) hF ⟨_, (hS.selp [1, 2, 3, 4, 5] (by decide) (by kernel_rfl)).pick [0, 1, 0, 1] (by kernel_rfl)⟩ rfl (by kernel_rfl) (by kernel_rfl) (by intro c a w v h; exact h) (by kernel_rfl) (by kernel_rfl) (by kernel_rfl) rfl (val_load 1 0 0 (v := .int .i64 (v92.2.1)) rfl rfl rfl rfl rfl (by kernel_rfl) (by kernel_rfl)) ?_
                clear hF
                intro a hF
                refine any_pure [3, 4, 5] [3, 5, 6, 8, 42] (L' := [(3, .pointer (some ⟨b9, 0, none⟩)), (5, .pointer (some ⟨b10, 0, none⟩)), (6, .pointer (some ⟨b11, 0, none⟩)), (8, .pointer (some ⟨b23, 0, none⟩)), (42, .bool ((v92.2.1 == 1)))]) (listed' := #[true, true, true, true, true, true, false, false, false, false, false, false, false]) (fuel := 7) hF ⟨_, (hS.selp [1, 2, 3, 4, 5] (by decide) (by kernel_rfl)).pick [0, 1, 0, 1] (by kernel_rfl)⟩ (by kernel_rfl) (by intro c a w t v h; cases t <;> exact h) (by kernel_rfl) rfl ?_
                clear hF
                intro a hF
                have hF := hF.boolv 42 (by kernel_rfl) hb98
                refine any_pure [6, 7, 8, 9, 10, 11] [6, 48] (L' := [(6, .pointer (some ⟨b11, 0, none⟩)), (48, .bool (false))]) (listed' := #[true, true, true, true, true, true, true, true, true, true, true, true, false]) (fuel := 1) hF ⟨_, (hS.selp [1, 2, 3, 4, 5] (by decide) (by kernel_rfl)).pick [0, 1, 0, 1] (by kernel_rfl)⟩ (by kernel_rfl) (by intro c a w t v h; cases t <;> exact h) (by kernel_rfl) rfl ?_
                clear hF
                intro a hF
                refine any_go 12 (o := ⟨none, (Go.Op.store 4 (Go.Operand.tmp 6) (Go.Operand.tmp 48)), 0, "law.go:84", #[(Go.Edge.mk 11 Go.Ground.data), (Go.Edge.mk 9 Go.Ground.chain), (Go.Edge.mk 0 Go.Ground.phase), (Go.Edge.mk 1 Go.Ground.phase), (Go.Edge.mk 2 Go.Ground.phase), (Go.Edge.mk 3 Go.Ground.phase), (Go.Edge.mk 4 Go.Ground.phase), (Go.Edge.mk 5 Go.Ground.phase), (Go.Edge.mk 6 Go.Ground.phase), (Go.Edge.mk 7 Go.Ground.phase), (Go.Edge.mk 8 Go.Ground.phase), (Go.Edge.mk 9 Go.Ground.phase), (Go.Edge.mk 10 Go.Ground.phase), (Go.Edge.mk 11 Go.Ground.phase)], none⟩) hF rfl (by kernel_rfl) (by kernel_rfl) (listed' := #[true, true, true, true, true, true, true, true, true, true, true, true, true]) (by kernel_rfl) ?_
                refine wo_stores hF hS (by kernel_rfl) 3 0 1 (v := .bool (false)) (s' := [(1, [.bool (false)])]) (t := [(1, [.bool (false)])]) (C' := [.ext (defX r), .box b23 3 [(1, [.int .i64 (v92.1)])], .box b22 3 [(1, [.int .i64 (v92.2.1)])], .box b11 4 [(1, [.bool (false)])], .box b10 9 [(1, [.string (a7)])], .box b9 26 [(1, [.slice p2 (a1.Cuts).length c3]), (1, [.slice p4 (a1.Nodes).length c5])]]) (n := 1) rfl rfl (by kernel_rfl) rfl (by kernel_rfl) (by kernel_rfl) (by kernel_rfl) (by kernel_rfl) (sgV rfl sgNil).1 (sgV rfl sgNil).2 (by kernel_rfl) (by kernel_rfl) (by kernel_rfl) ?_
                clear hF hS
                intro a w hF hS
                refine ⟨fun h => absurd (show false = true from h) Bool.false_ne_true, ?_⟩
                refine any_done (by kernel_rfl) ?_ _
                cases hv95
                exact ⟨_, hF.keep' [6] (by kernel_rfl), (hS.selp [3, 0] (by decide) (by kernel_rfl)).pick [] (by kernel_rfl), trivial⟩
            · refine any_go 0 (o := ⟨(some 37), (Go.Op.call (Go.Call.mk (Go.Callee.value (Go.Operand.func 29)) #[] #[])), 4, "law.go:84", #[], none⟩) hF rfl (by kernel_rfl) (by kernel_rfl) (listed' := #[true, false, false, false, false, false, false, false, false, false, false, false, false]) (by kernel_rfl) ?_
              refine wo_callP (args := #[]) (f := 29) hF hS (by kernel_rfl) (by kernel_rfl) (C_law08_awake N hS.fresh   ((hS.pick [] (by kernel_rfl)).ro) hx96) ?_
              clear hF hS hx96
              rintro _ κ w a ⟨rfl, hR, hN⟩ hF hS hO
              clear hR hN hO
              refine ⟨fun _ => ⟨_, (hS.selp [1, 2, 3, 4, 5] (by decide) (by kernel_rfl)).pick [0, 1, 0, 1] (by kernel_rfl)⟩, ?_⟩
              refine any_pure [1] [3, 5, 6, 7, 8, 38] (L' := [(3, .pointer (some ⟨b9, 0, none⟩)), (5, .pointer (some ⟨b10, 0, none⟩)), (6, .pointer (some ⟨b11, 0, none⟩)), (7, .pointer (some ⟨b22, 0, none⟩)), (8, .pointer (some ⟨b23, 0, none⟩)), (38, .bool (x96))]) (listed' := #[true, true, false, false, false, false, false, false, false, false, false, false, false]) (fuel := 11) hF ⟨_, (hS.selp [1, 2, 3, 4, 5] (by decide) (by kernel_rfl)).pick [0, 1, 0, 1] (by kernel_rfl)⟩ (by kernel_rfl) (by intro c a w t v h; cases t <;> exact h) (by kernel_rfl) rfl ?_
              clear hF
              intro a hF
              have hF := hF.boolv 38 (by kernel_rfl) hb97
              refine any_pure [2, 3, 4, 5, 6, 7, 8, 9, 10, 11] [6, 48] (L' := [(6, .pointer (some ⟨b11, 0, none⟩)), (48, .bool (false))]) (listed' := #[true, true, true, true, true, true, true, true, true, true, true, true, false]) (fuel := 1) hF ⟨_, (hS.selp [1, 2, 3, 4, 5] (by decide) (by kernel_rfl)).pick [0, 1, 0, 1] (by kernel_rfl)⟩ (by kernel_rfl) (by intro c a w t v h; cases t <;> exact h) (by kernel_rfl) rfl ?_
              clear hF
              intro a hF
              refine any_go 12 (o := ⟨none, (Go.Op.store 4 (Go.Operand.tmp 6) (Go.Operand.tmp 48)), 0, "law.go:84", #[(Go.Edge.mk 11 Go.Ground.data), (Go.Edge.mk 9 Go.Ground.chain), (Go.Edge.mk 0 Go.Ground.phase), (Go.Edge.mk 1 Go.Ground.phase), (Go.Edge.mk 2 Go.Ground.phase), (Go.Edge.mk 3 Go.Ground.phase), (Go.Edge.mk 4 Go.Ground.phase), (Go.Edge.mk 5 Go.Ground.phase), (Go.Edge.mk 6 Go.Ground.phase), (Go.Edge.mk 7 Go.Ground.phase), (Go.Edge.mk 8 Go.Ground.phase), (Go.Edge.mk 9 Go.Ground.phase), (Go.Edge.mk 10 Go.Ground.phase), (Go.Edge.mk 11 Go.Ground.phase)], none⟩) hF rfl (by kernel_rfl) (by kernel_rfl) (listed' := #[true, true, true, true, true, true, true, true, true, true, true, true, true]) (by kernel_rfl) ?_
              refine wo_stores hF hS (by kernel_rfl) 3 0 1 (v := .bool (false)) (s' := [(1, [.bool (false)])]) (t := [(1, [.bool (false)])]) (C' := [.ext (defX r), .box b23 3 [(1, [.int .i64 (v92.1)])], .box b22 3 [(1, [.int .i64 (v92.2.1)])], .box b11 4 [(1, [.bool (false)])], .box b10 9 [(1, [.string (a7)])], .box b9 26 [(1, [.slice p2 (a1.Cuts).length c3]), (1, [.slice p4 (a1.Nodes).length c5])]]) (n := 1) rfl rfl (by kernel_rfl) rfl (by kernel_rfl) (by kernel_rfl) (by kernel_rfl) (by kernel_rfl) (sgV rfl sgNil).1 (sgV rfl sgNil).2 (by kernel_rfl) (by kernel_rfl) (by kernel_rfl) ?_
              clear hF hS
              intro a w hF hS
              refine ⟨fun h => absurd (show false = true from h) Bool.false_ne_true, ?_⟩
              refine any_done (by kernel_rfl) ?_ _
              cases hv95
              exact ⟨_, hF.keep' [6] (by kernel_rfl), (hS.selp [3, 0] (by decide) (by kernel_rfl)).pick [] (by kernel_rfl), trivial⟩
          · clear hF hS hv95
            rintro a w ⟨κ, hF, hS, -⟩
            refine hK93 _ _ ?_
            clear hK93 K93
            refine wpIn_ret ?_
            refine ret_doneM (C' := [.box b11 4 [(1, [.bool (v95)])]]) hF hS 1 rfl (by kernel_rfl) fun w hS => ?_
            cases H
            exact ⟨_, (res1 Try.results6 (rv_cell hF hS 0 0 0 rfl rfl rfl rfl (by kernel_rfl) (by kernel_rfl))), ⟨rfl, (hS.pick [] (by kernel_rfl)).ro, hS.newC [] (by decide) (by kernel_rfl)⟩⟩
        · clear hb
          refine bif_split H (fun hb H => ?_) (fun hb H => ?_)
          · refine jumpedS 0 hb rfl ?_
            clear hb
            refine wpIn_ret ?_
            refine ret_doneM (C' := [.box b23 3 [(1, [.int .i64 (v92.1)])], .box b22 3 [(1, [.int .i64 (v92.2.1)])], .box b11 4 [(1, [.bool (false)])], .box b10 9 [(1, [.string (a7)])], .box b9 26 [(1, [.slice p2 (a1.Cuts).length c3]), (1, [.slice p4 (a1.Nodes).length c5])]]) hF hS 0 rfl (by kernel_rfl) fun w hS => ?_
            cases H
            exact ⟨_, (res1 Try.results6 (rv_cell hF hS 2 0 0 rfl rfl rfl rfl (by kernel_rfl) (by kernel_rfl))), ⟨rfl, (hS.pick [] (by kernel_rfl)).ro, hS.newC [] (by decide) (by kernel_rfl)⟩⟩
          · clear hb
            cases H
set_option maxRecDepth 20000 in
set_option maxHeartbeats 1000000 in
theorem C_law08_SpanTurns (N : Nat) {κ0 : Gh} {w0 : World} (hfr : Fresh κ0 w0) (a1 : T_api_Map) (a6 : Int) (a7 : Int) (a8 : ByteArray) (a9 : ByteArray) (p2 : Option Addr) (c3 : Nat) (p4 : Option Addr) (c5 : Nat) (hR : ∀ m ∈ ([Ro.mp fStr.ty p2 c3 a1.Cuts, Ro.mp (fInt .i64).ty p4 c5 a1.Nodes] : List MP), m.p κ0 w0) {r : (Bool)} (H : M.law08_SpanTurns N a1 a6 a7 a8 a9 = some r) :
    Calls Try.prog 7 #[.agg (flat [(1, [.slice p2 (a1.Cuts).length c3]), (1, [.slice p4 (a1.Nodes).length c5])]).toArray, .int .i64 (a6), .int .i64 (a7), .string (a8), .string (a9)] w0 (Post [] κ0 w0 fun v κ w => v = .bool (r) ∧ (∀ m ∈ ([] : List MP), m.p κ w) ∧ NewC w0 κ w []) := by
  have hS := SS.start hfr hR
  clear hR
  refine enter (N := (80)) (L := [(0, .agg (flat [(1, [.slice p2 (a1.Cuts).length c3]), (1, [.slice p4 (a1.Nodes).length c5])]).toArray), (1, .int .i64 (a6)), (2, .int .i64 (a7)), (3, .string (a8)), (4, .string (a9))]) Try.func7 rfl Try.ntmps7 (show 5 ≤ (80) by decide) rfl fun a hF => ?_
  unfold M.law08_SpanTurns at H
  refine wpIn_seq_k fun K10 hK10 => ?_
  refine wpIn_region_lit ?_
  refine wl_cons rfl (wo_box hF hS (by kernel_rfl) (v := .agg (flat [(1, [.slice p2 (a1.Cuts).length c3]), (1, [.slice p4 (a1.Nodes).length c5])]).toArray) (s := [(1, [.slice p2 (a1.Cuts).length c3]), (1, [.slice p4 (a1.Nodes).length c5])]) rfl (by kernel_rfl) (sgV rfl (sgV rfl sgNil)).1 (by kernel_rfl) ?_)
  clear hF hS
  intro b11 a w hF hS
  refine wl_pure (L' := [(1, .int .i64 (a6)), (2, .int .i64 (a7)), (3, .string (a8)), (4, .string (a9)), (5, .pointer (some ⟨b11, 0, none⟩))]) 1 [1, 2, 3, 4, 5] hF (by kernel_rfl) ?_
  clear hF
  intro a hF
  refine wpListIn_nil ?_
  refine hK10 _ _ ?_
  clear hK10 K10
  refine wpIn_seq_k fun K12 hK12 => ?_
  refine wpIn_region_lit ?_
  refine wl_cons rfl (wo_loads hF hS (by kernel_rfl) 0 0 2 (s' := [(1, [.slice p2 (a1.Cuts).length c3]), (1, [.slice p4 (a1.Nodes).length c5])]) (n := 2) rfl rfl rfl (by kernel_rfl) (by kernel_rfl) (by kernel_rfl) (by kernel_rfl) (by kernel_rfl) ?_)
  clear hF
  intro a hF
  refine wl_pure (L' := [(1, .int .i64 (a6)), (2, .int .i64 (a7)), (3, .string (a8)), (4, .string (a9)), (5, .pointer (some ⟨b11, 0, none⟩)), (16, .agg (flat [(1, [.slice p2 (a1.Cuts).length c3]), (1, [.slice p4 (a1.Nodes).length c5])]).toArray), (17, .int .i64 (a6)), (18, .int .i64 (a7)), (19, .string (a8))]) 3 [1, 2, 3, 4, 5, 16, 17, 18, 19] hF (by kernel_rfl) ?_
  clear hF
  intro a hF
  refine bind_split H (fun x13 hx13 H => ?_)
  refine wl_cons rfl (wo_callP (args := #[.agg (flat [(1, [.slice p2 (a1.Cuts).length c3]), (1, [.slice p4 (a1.Nodes).length c5])]).toArray, .int .i64 (a6), .int .i64 (a7), .string (a8)]) (f := 42) hF hS (by kernel_rfl) (by kernel_rfl) (C_span_Split N hS.fresh (T_api_Map.mk a1.Cuts a1.Nodes) a6 a7 a8 p2 c3 p4 c5 ((hS.pick [0, 1] (by kernel_rfl)).ro) hx13) ?_)
  clear hF hS hx13
  rintro _ κ w a ⟨p14, c15, p16, c17, rfl, hR, hN⟩ hF hS hO
  have hS := hS.adds hR
  have hS := hS.addC hO hN
  clear hR hN hO
  refine wl_pure (L' := [(1, .int .i64 (a6)), (2, .int .i64 (a7)), (3, .string (a8)), (4, .string (a9)), (5, .pointer (some ⟨b11, 0, none⟩)), (21, .agg (flat [(1, [.slice p14 (x13.1.Cuts).length c15]), (1, [.slice p16 (x13.1.Nodes).length c17])]).toArray), (22, .int .i64 (x13.2))]) 3 [1, 2, 3, 4, 5, 21, 22] hF (by kernel_rfl) ?_
  clear hF
  intro a hF
  refine wl_cons rfl (wo_alloc hF hS (by kernel_rfl) (z := .agg (flat [(1, [.slice none 0 0]), (1, [.slice none 0 0])]).toArray) (s := [(1, [.slice none 0 0]), (1, [.slice none 0 0])]) rfl (by kernel_rfl) (sgV rfl (sgV rfl sgNil)).1 (by kernel_rfl) ?_)
  clear hF hS
  intro b18 a w hF hS
  refine wl_cons rfl (wo_stores hF hS (by kernel_rfl) 0 0 2 (v := .agg (flat [(1, [.slice p14 (x13.1.Cuts).length c15]), (1, [.slice p16 (x13.1.Nodes).length c17])]).toArray) (s' := [(1, [.slice p14 (x13.1.Cuts).length c15]), (1, [.slice p16 (x13.1.Nodes).length c17])]) (t := [(1, [.slice p14 (x13.1.Cuts).length c15]), (1, [.slice p16 (x13.1.Nodes).length c17])]) (C' := [.box b18 26 [(1, [.slice p14 (x13.1.Cuts).length c15]), (1, [.slice p16 (x13.1.Nodes).length c17])], .tok p14 9 1 (x13.1.Cuts).length c15, .tok p16 3 1 (x13.1.Nodes).length c17, .box b11 26 [(1, [.slice p2 (a1.Cuts).length c3]), (1, [.slice p4 (a1.Nodes).length c5])]]) (n := 2) rfl rfl (by kernel_rfl) rfl (by kernel_rfl) (by kernel_rfl) (by kernel_rfl) (by kernel_rfl) (sgV rfl (sgV rfl sgNil)).1 (sgV rfl (sgV rfl sgNil)).2 (by kernel_rfl) (by kernel_rfl) (by kernel_rfl) ?_)
  clear hF hS
  intro a w hF hS
  refine wl_pure (L' := [(1, .int .i64 (a6)), (2, .int .i64 (a7)), (3, .string (a8)), (4, .string (a9)), (5, .pointer (some ⟨b11, 0, none⟩)), (11, .pointer (some ⟨b18, 0, none⟩)), (12, .int .i64 (x13.2))]) 1 [1, 2, 3, 4, 5, 11, 12] hF (by kernel_rfl) ?_
  clear hF
  intro a hF
  refine wpListIn_nil ?_
  refine hK12 _ _ ?_
  clear hK12 K12
  refine wpIn_seq_k fun K19 hK19 => ?_
  refine wpIn_seq_k fun K20 hK20 => ?_
  refine wpIn_region_lit ?_
  refine wl_pure (L' := [(1, .int .i64 (a6)), (2, .int .i64 (a7)), (3, .string (a8)), (4, .string (a9)), (5, .pointer (some ⟨b11, 0, none⟩)), (11, .pointer (some ⟨b18, 0, none⟩)), (24, .bool ((x13.2 != 0)))]) 2 [1, 2, 3, 4, 5, 11, 24] hF (by kernel_rfl) ?_
  clear hF
  intro a hF
  refine wpListIn_nil ?_
  refine hK20 _ _ ?_
  clear hK20 K20
  refine bif_split H (fun hb H => ?_) (fun hb H => ?_)
  · refine cond_t hF (by kernel_rfl) hb ?_
    clear hb
    refine wpIn_seq_k fun K21 hK21 => ?_
    refine wpIn_region_lit ?_
    refine bind_split H (fun v23 hv23 H => ?_)
    refine wl_join (fun a w => ∃ κ : Gh, Fr (80) [] [(10, .bool (v23))] a ∧ SS [] κ0 w0 κ w [] [] ∧ True) ?_ ?_
    · clear H
      refine bind_split hv23 (fun x24 hx24 hv23 => ?_)
      refine wl_cons rfl (wo_callP (args := #[]) (f := 29) hF hS (by kernel_rfl) (by kernel_rfl) (C_law08_awake N hS.fresh   ((hS.pick [] (by kernel_rfl)).ro) hx24) ?_)
      clear hF hS hx24
      rintro _ κ w a ⟨rfl, hR, hN⟩ hF hS hO
      clear hR hN hO
      refine wl_pure (L' := [(11, .pointer (some ⟨b18, 0, none⟩)), (26, .bool (x24))]) 1 [11, 26] hF (by kernel_rfl) ?_
      clear hF
      intro a hF
      refine bif_split hv23 (fun hb hv23 => ?_) (fun hb hv23 => ?_)
      · have hF := hF.boolv 26 (by kernel_rfl) hb
        clear hb
        refine wl_pure (L' := [(11, .pointer (some ⟨b18, 0, none⟩)), (26, .bool (true)), (27, .pointer (some ⟨b18, 0, none⟩))]) 1 [11, 26, 27] hF (by kernel_rfl) ?_
        clear hF
        intro a hF
        refine wl_consg hF (by kernel_rfl) (wo_load hF hS (by kernel_rfl) 0 0 0 (v := .slice p14 (x13.1.Cuts).length c15) rfl rfl rfl rfl rfl (by kernel_rfl) (by kernel_rfl) ?_)
        clear hF
        intro a hF
        refine wl_pure (L' := [(26, .bool (true)), (29, .int .i64 (((x13.1.Cuts).length : Int))), (30, .pointer (some ⟨b18, 1, none⟩))]) 2 [26, 29, 30] hF (by kernel_rfl) ?_
        clear hF
        intro a hF
        refine wl_consg hF (by kernel_rfl) (wo_load hF hS (by kernel_rfl) 0 1 0 (v := .slice p16 (x13.1.Nodes).length c17) rfl rfl rfl rfl rfl (by kernel_rfl) (by kernel_rfl) ?_)
        clear hF
        intro a hF
        refine wl_pure (L' := [(10, .bool ((IntKind.i64.wrap (((x13.1.Cuts).length : Int) + ((x13.1.Nodes).length : Int)) == 0)))]) 5 [10] hF (by kernel_rfl) ?_
        clear hF
        intro a hF
        refine wpListIn_nil ?_
        cases hv23
        exact ⟨_, hF.keep' [10] (by kernel_rfl), (hS.selp [] (by decide) (by kernel_rfl)).pick [] (by kernel_rfl), trivial⟩
      · have hF := hF.boolv 26 (by kernel_rfl) hb
        clear hb
        refine wl_pure (L' := [(10, .bool (false))]) 10 [10] hF (by kernel_rfl) ?_
        clear hF
        intro a hF
        refine wpListIn_nil ?_
        cases hv23
        exact ⟨_, hF.keep' [10] (by kernel_rfl), (hS.selp [] (by decide) (by kernel_rfl)).pick [] (by kernel_rfl), trivial⟩
    · clear hF hS hv23
      rintro a w ⟨κ, hF, hS, -⟩
      refine hK21 _ _ ?_
      clear hK21 K21
      refine wpIn_ret ?_
      cases H
      exact (ret_done hF hS (res1 Try.results7 (rv_tmp hF (by kernel_rfl))) ⟨rfl, (hS.pick [] (by kernel_rfl)).ro, hS.newC [] (by decide) (by kernel_rfl)⟩)
  · refine cond_f hF (by kernel_rfl) hb ?_
    clear hb
    refine wpIn_skip ?_
    refine hK19 _ _ ?_
    refine wpIn_seq_k fun K25 hK25 => ?_
    refine wpIn_region_lit ?_
    refine wl_cons rfl (wo_loads hF hS (by kernel_rfl) 0 0 2 (s' := [(1, [.slice p14 (x13.1.Cuts).length c15]), (1, [.slice p16 (x13.1.Nodes).length c17])]) (n := 2) rfl rfl rfl (by kernel_rfl) (by kernel_rfl) (by kernel_rfl) (by kernel_rfl) (by kernel_rfl) ?_)
    clear hF
    intro a hF
    refine wl_pure (L' := [(2, .int .i64 (a7)), (3, .string (a8)), (4, .string (a9)), (5, .pointer (some ⟨b11, 0, none⟩)), (11, .pointer (some ⟨b18, 0, none⟩)), (37, .agg (flat [(1, [.slice p14 (x13.1.Cuts).length c15]), (1, [.slice p16 (x13.1.Nodes).length c17])]).toArray), (38, .int .i64 (a6)), (39, .int .i64 (a7))]) 2 [2, 3, 4, 5, 11, 37, 38, 39] hF (by kernel_rfl) ?_
    clear hF
    intro a hF
    refine bind_split H (fun x26 hx26 H => ?_)
    refine wl_cons rfl (wo_callP (args := #[.agg (flat [(1, [.slice p14 (x13.1.Cuts).length c15]), (1, [.slice p16 (x13.1.Nodes).length c17])]).toArray, .int .i64 (a6), .int .i64 (a7)]) (f := 43) hF hS (by kernel_rfl) (by kernel_rfl) (C_span_Merge N hS.fresh (T_api_Map.mk x13.1.Cuts x13.1.Nodes) a6 a7 p14 c15 p16 c17 ((hS.pick [0, 1] (by kernel_rfl)).ro) hx26) ?_)
    clear hF hS hx26
    rintro _ κ w a ⟨p27, c28, p29, c30, rfl, hR, hN⟩ hF hS hO
    have hS := hS.adds hR
    have hS := hS.addC hO hN
    clear hR hN hO
    refine wl_pure (L' := [(2, .int .i64 (a7)), (3, .string (a8)), (4, .string (a9)), (5, .pointer (some ⟨b11, 0, none⟩)), (11, .pointer (some ⟨b18, 0, none⟩)), (41, .agg (flat [(1, [.slice p27 (x26.1.Cuts).length c28]), (1, [.slice p29 (x26.1.Nodes).length c30])]).toArray), (42, .int .i64 (x26.2))]) 3 [2, 3, 4, 5, 11, 41, 42] hF (by kernel_rfl) ?_
    clear hF
    intro a hF
    refine wl_cons rfl (wo_alloc hF hS (by kernel_rfl) (z := .agg (flat [(1, [.slice none 0 0]), (1, [.slice none 0 0])]).toArray) (s := [(1, [.slice none 0 0]), (1, [.slice none 0 0])]) rfl (by kernel_rfl) (sgV rfl (sgV rfl sgNil)).1 (by kernel_rfl) ?_)
    clear hF hS
    intro b31 a w hF hS
    refine wl_cons rfl (wo_stores hF hS (by kernel_rfl) 0 0 2 (v := .agg (flat [(1, [.slice p27 (x26.1.Cuts).length c28]), (1, [.slice p29 (x26.1.Nodes).length c30])]).toArray) (s' := [(1, [.slice p27 (x26.1.Cuts).length c28]), (1, [.slice p29 (x26.1.Nodes).length c30])]) (t := [(1, [.slice p27 (x26.1.Cuts).length c28]), (1, [.slice p29 (x26.1.Nodes).length c30])]) (C' := [.box b31 26 [(1, [.slice p27 (x26.1.Cuts).length c28]), (1, [.slice p29 (x26.1.Nodes).length c30])], .tok p27 9 1 (x26.1.Cuts).length c28, .tok p29 3 1 (x26.1.Nodes).length c30, .box b18 26 [(1, [.slice p14 (x13.1.Cuts).length c15]), (1, [.slice p16 (x13.1.Nodes).length c17])], .tok p14 9 1 (x13.1.Cuts).length c15, .tok p16 3 1 (x13.1.Nodes).length c17, .box b11 26 [(1, [.slice p2 (a1.Cuts).length c3]), (1, [.slice p4 (a1.Nodes).length c5])]]) (n := 2) rfl rfl (by kernel_rfl) rfl (by kernel_rfl) (by kernel_rfl) (by kernel_rfl) (by kernel_rfl) (sgV rfl (sgV rfl sgNil)).1 (sgV rfl (sgV rfl sgNil)).2 (by kernel_rfl) (by kernel_rfl) (by kernel_rfl) ?_)
    clear hF hS
    intro a w hF hS
    refine wl_pure (L' := [(2, .int .i64 (a7)), (3, .string (a8)), (4, .string (a9)), (5, .pointer (some ⟨b11, 0, none⟩)), (11, .pointer (some ⟨b18, 0, none⟩)), (13, .pointer (some ⟨b31, 0, none⟩)), (14, .int .i64 (x26.2))]) 1 [2, 3, 4, 5, 11, 13, 14] hF (by kernel_rfl) ?_
    clear hF
    intro a hF
    refine wpListIn_nil ?_
    refine hK25 _ _ ?_
    clear hK25 K25
    refine wpIn_seq_k fun K32 hK32 => ?_
    refine bind_split H (fun v34 hv34 H => ?_)
    refine code_join (fun a w => ∃ κ : Gh, Fr (80) [] [(10, .bool (v34))] a ∧ SS [] κ0 w0 κ w [] [] ∧ True) ?_ ?_
    · clear H
      refine region_any (SSx [] κ0 w0 [.box b31 26 [(1, [.slice p27 (x26.1.Cuts).length c28]), (1, [.slice p29 (x26.1.Nodes).length c30])], .box b18 26 [(1, [.slice p14 (x13.1.Cuts).length c15]), (1, [.slice p16 (x13.1.Nodes).length c17])], .box b11 26 [(1, [.slice p2 (a1.Cuts).length c3]), (1, [.slice p4 (a1.Nodes).length c5])]] [Ro.mp fStr.ty p27 c28 x26.1.Cuts, Ro.mp (fInt .i64).ty p29 c30 x26.1.Nodes, Ro.mp fStr.ty p14 c15 x13.1.Cuts, Ro.mp (fInt .i64).ty p16 c17 x13.1.Nodes, Ro.mp fStr.ty p2 c3 a1.Cuts, Ro.mp (fInt .i64).ty p4 c5 a1.Nodes]) [] (by kernel_rfl) (n := 38) (by kernel_rfl) (l := #[false, false, false, false, false, false, false, false, false, false, false, false, false, false, false, false, false, false, false, false, false, false, false, false, false, false, false, false, false, false, false, false, false, false, false, false, false, false]) (by kernel_rfl) ?_
      have hS := hS.drew
      refine bind_split hv34 (fun x35 hx35 hv34 => ?_)
      refine bif_split hv34 (fun hb36 hv34 => ?_) (fun hb36 hv34 => ?_)
      · refine bif_split hv34 (fun hb37 hv34 => ?_) (fun hb37 hv34 => ?_)
        · refine bind_split hv34 (fun x38 hx38 hv34 => ?_)
          refine bif_split hv34 (fun hb39 hv34 => ?_) (fun hb39 hv34 => ?_)
          · refine bind_split hv34 (fun x40 hx40 hv34 => ?_)
            refine bind_split hv34 (fun x41 hx41 hv34 => ?_)
            refine bif_split hv34 (fun hb42 hv34 => ?_) (fun hb42 hv34 => ?_)
            · refine bif_split hv34 (fun hb43 hv34 => ?_) (fun hb43 hv34 => ?_)
              · refine bind_split hv34 (fun x44 hx44 hv34 => ?_)
                refine any_go 0 (o := ⟨(some 43), (Go.Op.call (Go.Call.mk (Go.Callee.value (Go.Operand.func 29)) #[] #[])), 4, "law.go:94", #[], none⟩) hF rfl (by kernel_rfl) (by kernel_rfl) (listed' := #[true, false, false, false, false, false, false, false, false, false, false, false, false, false, false, false, false, false, false, false, false, false, false, false, false, false, false, false, false, false, false, false, false, false, false, false, false, false]) (by kernel_rfl) ?_
                refine wo_callP (args := #[]) (f := 29) hF hS (by kernel_rfl) (by kernel_rfl) (C_law08_awake N hS.fresh   ((hS.pick [] (by kernel_rfl)).ro) hx35) ?_
                clear hF hS hx35
                rintro _ κ w a ⟨rfl, hR, hN⟩ hF hS hO
                clear hR hN hO
                refine ⟨fun _ => ⟨_, (hS.selp [0, 3, 6] (by decide) (by kernel_rfl)).pick [0, 1, 2, 3, 4, 5] (by kernel_rfl)⟩, ?_⟩
                refine any_pure [1] [2, 3, 4, 5, 11, 13, 14, 44] (L' := [(2, .int .i64 (a7)), (3, .string (a8)), (4, .string (a9)), (5, .pointer (some ⟨b11, 0, none⟩)), (11, .pointer (some ⟨b18, 0, none⟩)), (13, .pointer (some ⟨b31, 0, none⟩)), (14, .int .i64 (x26.2)), (44, .bool (x35))]) (listed' := #[true, true, false, false, false, false, false, false, false, false, false, false, false, false, false, false, false, false, false, false, false, false, false, false, false, false, false, false, false, false, false, false, false, false, false, false, false, false]) (fuel := 36) hF ⟨_, (hS.selp [0, 3, 6] (by decide) (by kernel_rfl)).pick [0, 1, 2, 3, 4, 5] (by kernel_rfl)⟩ (by kernel_rfl) (by intro c a w t v h; cases t <;> exact h) (by kernel_rfl) rfl ?_
                clear hF
                intro a hF
                have hF := hF.boolv 44 (by kernel_rfl) hb36
                refine any_pure [2, 3, 4, 5] [2, 3, 4, 5, 11, 13, 48] (L' := [(2, .int .i64 (a7)), (3, .string (a8)), (4, .string (a9)), (5, .pointer (some ⟨b11, 0, none⟩)), (11, .pointer (some ⟨b18, 0, none⟩)), (13, .pointer (some ⟨b31, 0, none⟩)), (48, .bool ((x26.2 == 0)))]) (listed' := #[true, true, true, true, true, true, false, false, false, false, false, false, false, false, false, false, false, false, false, false, false, false, false, false, false, false, false, false, false, false, false, false, false, false, false, false, false, false]) (fuel := 32) hF ⟨_, (hS.selp [0, 3, 6] (by decide) (by kernel_rfl)).pick [0, 1, 2, 3, 4, 5] (by kernel_rfl)⟩ (by kernel_rfl) (by intro c a w t v h; cases t <;> exact h) (by kernel_rfl) rfl ?_
                clear hF
                intro a hF
                have hF := hF.boolv 48 (by kernel_rfl) hb37
                refine any_take 6 (some 49) hF ⟨_, (hS.selp [0, 3, 6] (by decide) (by kernel_rfl)).pick [0, 1, 2, 3, 4, 5] (by kernel_rfl)⟩ rfl (by kernel_rfl) (by kernel_rfl) (by intro c a w v h; exact h) (by kernel_rfl) (by kernel_rfl) (by kernel_rfl) rfl (val_loads 2 0 2 (s' := [(1, [.slice p2 (a1.Cuts).length c3]), (1, [.slice p4 (a1.Nodes).length c5])]) (n := 2) rfl rfl rfl (by kernel_rfl) (by kernel_rfl) (by kernel_rfl) (by kernel_rfl) (by kernel_rfl)) ?_
                clear hF
                intro a hF
                refine any_take 7 (some 50) hF ⟨_, (hS.selp [0, 3, 6] (by decide) (by kernel_rfl)).pick [0, 1, 2, 3, 4, 5] (by kernel_rfl)⟩ rfl (by kernel_rfl) (by kernel_rfl) (by intro c a w v h; exact h) (by kernel_rfl) (by kernel_rfl) (by kernel_rfl) rfl (val_loads 0 0 2 (s' := [(1, [.slice p27 (x26.1.Cuts).length c28]), (1, [.slice p29 (x26.1.Nodes).length c30])]) (n := 2) rfl rfl rfl (by kernel_rfl) (by kernel_rfl) (by kernel_rfl) (by kernel_rfl) (by kernel_rfl)) ?_
                clear hF
                intro a hF
                refine any_go 8 (o := ⟨(some 51), (Go.Op.call (Go.Call.mk (Go.Callee.value (Go.Operand.func 44)) #[(Go.Operand.tmp 49), (Go.Operand.tmp 50)] #[26, 26])), 4, "law.go:94", #[(Go.Edge.mk 6 Go.Ground.data), (Go.Edge.mk 7 Go.Ground.data), (Go.Edge.mk 5 Go.Ground.chain), (Go.Edge.mk 5 Go.Ground.guard)], (some (5, true))⟩) hF rfl (by kernel_rfl) (by kernel_rfl) (listed' := #[true, true, true, true, true, true, true, true, true, false, false, false, false, false, false, false, false, false, false, false, false, false, false, false, false, false, false, false, false, false, false, false, false, false, false, false, false, false]) (by kernel_rfl) ?_
                refine wo_callP (args := #[.agg (flat [(1, [.slice p2 (a1.Cuts).length c3]), (1, [.slice p4 (a1.Nodes).length c5])]).toArray, .agg (flat [(1, [.slice p27 (x26.1.Cuts).length c28]), (1, [.slice p29 (x26.1.Nodes).length c30])]).toArray]) (f := 44) hF hS (by kernel_rfl) (by kernel_rfl) (C_ref08_Same N hS.fresh (T_api_Map.mk a1.Cuts a1.Nodes) (T_api_Map.mk x26.1.Cuts x26.1.Nodes) p2 c3 p4 c5 p27 c28 p29 c30 ((hS.pick [4, 5, 0, 1] (by kernel_rfl)).ro) hx38) ?_
                clear hF hS hx38
                rintro _ κ w a ⟨rfl, hR, hN⟩ hF hS hO
                clear hR hN hO
                refine ⟨fun _ => ⟨_, (hS.selp [0, 3, 6] (by decide) (by kernel_rfl)).pick [0, 1, 2, 3, 4, 5] (by kernel_rfl)⟩, ?_⟩
                refine any_pure [9, 10] [2, 3, 4, 5, 11, 53] (L' := [(2, .int .i64 (a7)), (3, .string (a8)), (4, .string (a9)), (5, .pointer (some ⟨b11, 0, none⟩)), (11, .pointer (some ⟨b18, 0, none⟩)), (53, .bool (x38))]) (listed' := #[true, true, true, true, true, true, true, true, true, true, true, false, false, false, false, false, false, false, false, false, false, false, false, false, false, false, false, false, false, false, false, false, false, false, false, false, false, false]) (fuel := 27) hF ⟨_, (hS.selp [0, 3, 6] (by decide) (by kernel_rfl)).pick [0, 1, 2, 3, 4, 5] (by kernel_rfl)⟩ (by kernel_rfl) (by intro c a w t v h; cases t <;> exact h) (by kernel_rfl) rfl ?_
                clear hF
                intro a hF
                have hF := hF.boolv 53 (by kernel_rfl) hb39
                refine any_pure [12, 15] [2, 3, 5, 11, 53, 55, 58] (L' := [(2, .int .i64 (a7)), (3, .string (a8)), (5, .pointer (some ⟨b11, 0, none⟩)), (11, .pointer (some ⟨b18, 0, none⟩)), (53, .bool (true)), (55, .string (a9)), (58, .string (a9))]) (listed' := #[true, true, true, true, true, true, true, true, true, true, true, false, true, false, false, true, false, false, false, false, false, false, false, false, false, false, false, false, false, false, false, false, false, false, false, false, false, false]) (fuel := 25) hF ⟨_, (hS.selp [0, 3, 6] (by decide) (by kernel_rfl)).pick [0, 1, 2, 3, 4, 5] (by kernel_rfl)⟩ (by kernel_rfl) (by intro c a w t v h; cases t <;> exact h) (by kernel_rfl) rfl ?_
                clear hF
                intro a hF
                refine any_take 11 (some 54) hF ⟨_, (hS.selp [0, 3, 6] (by decide) (by kernel_rfl)).pick [0, 1, 2, 3, 4, 5] (by kernel_rfl)⟩ rfl (by kernel_rfl) (by kernel_rfl) (by intro c a w v h; exact h) (by kernel_rfl) (by kernel_rfl) (by kernel_rfl) rfl (val_loads 1 0 2 (s' := [(1, [.slice p14 (x13.1.Cuts).length c15]), (1, [.slice p16 (x13.1.Nodes).length c17])]) (n := 2) rfl rfl rfl (by kernel_rfl) (by kernel_rfl) (by kernel_rfl) (by kernel_rfl) (by kernel_rfl)) ?_
                clear hF
                intro a hF
                refine any_take 14 (some 57) hF ⟨_, (hS.selp [0, 3, 6] (by decide) (by kernel_rfl)).pick [0, 1, 2, 3, 4, 5] (by kernel_rfl)⟩ rfl (by kernel_rfl) (by kernel_rfl) (by intro c a w v h; exact h) (by kernel_rfl) (by kernel_rfl) (by kernel_rfl) rfl (val_loads 2 0 2 (s' := [(1, [.slice p2 (a1.Cuts).length c3]), (1, [.slice p4 (a1.Nodes).length c5])]) (n := 2) rfl rfl rfl (by kernel_rfl) (by kernel_rfl) (by kernel_rfl) (by kernel_rfl) (by kernel_rfl)) ?_
                clear hF
                intro a hF
                refine any_go 13 (o := ⟨(some 56), (Go.Op.call (Go.Call.mk (Go.Callee.value (Go.Operand.func 38)) #[(Go.Operand.tmp 54), (Go.Operand.tmp 55)] #[26, 9])), 3, "law.go:94", #[(Go.Edge.mk 11 Go.Ground.data), (Go.Edge.mk 12 Go.Ground.data), (Go.Edge.mk 10 Go.Ground.chain), (Go.Edge.mk 10 Go.Ground.guard)], (some (10, true))⟩) hF rfl (by kernel_rfl) (by kernel_rfl) (listed' := #[true, true, true, true, true, true, true, true, true, true, true, true, true, true, true, true, false, false, false, false, false, false, false, false, false, false, false, false, false, false, false, false, false, false, false, false, false, false]) (by kernel_rfl) ?_
                refine wo_callP (args := #[.agg (flat [(1, [.slice p14 (x13.1.Cuts).length c15]), (1, [.slice p16 (x13.1.Nodes).length c17])]).toArray, .string (a9)]) (f := 38) hF hS (by kernel_rfl) (by kernel_rfl) (C_span_Owner N hS.fresh (T_api_Map.mk x13.1.Cuts x13.1.Nodes) a9 p14 c15 p16 c17 ((hS.pick [2, 3] (by kernel_rfl)).ro) hx40) ?_
                clear hF hS hx40
                rintro _ κ w a ⟨rfl, hR, hN⟩ hF hS hO
                clear hR hN hO
                refine ⟨fun _ => ⟨_, (hS.selp [0, 3, 6] (by decide) (by kernel_rfl)).pick [0, 1, 2, 3, 4, 5] (by kernel_rfl)⟩, ?_⟩
                refine any_go 16 (o := ⟨(some 59), (Go.Op.call (Go.Call.mk (Go.Callee.value (Go.Operand.func 38)) #[(Go.Operand.tmp 57), (Go.Operand.tmp 58)] #[26, 9])), 3, "law.go:94", #[(Go.Edge.mk 14 Go.Ground.data), (Go.Edge.mk 15 Go.Ground.data), (Go.Edge.mk 13 Go.Ground.chain), (Go.Edge.mk 10 Go.Ground.guard)], (some (10, true))⟩) hF rfl (by kernel_rfl) (by kernel_rfl) (listed' := #[true, true, true, true, true, true, true, true, true, true, true, true, true, true, true, true, true, false, false, false, false, false, false, false, false, false, false, false, false, false, false, false, false, false, false, false, false, false]) (by kernel_rfl) ?_
                refine wo_callP (args := #[.agg (flat [(1, [.slice p2 (a1.Cuts).length c3]), (1, [.slice p4 (a1.Nodes).length c5])]).toArray, .string (a9)]) (f := 38) hF hS (by kernel_rfl) (by kernel_rfl) (C_span_Owner N hS.fresh (T_api_Map.mk a1.Cuts a1.Nodes) a9 p2 c3 p4 c5 ((hS.pick [4, 5] (by kernel_rfl)).ro) hx41) ?_
                clear hF hS hx41
                rintro _ κ w a ⟨rfl, hR, hN⟩ hF hS hO
                clear hR hN hO
                refine ⟨fun _ => ⟨_, (hS.selp [0, 3, 6] (by decide) (by kernel_rfl)).pick [0, 1, 2, 3, 4, 5] (by kernel_rfl)⟩, ?_⟩
                refine any_pure [17, 18, 19] [2, 3, 5, 11, 62] (L' := [(2, .int .i64 (a7)), (3, .string (a8)), (5, .pointer (some ⟨b11, 0, none⟩)), (11, .pointer (some ⟨b18, 0, none⟩)), (62, .bool ((x40 == x41)))]) (listed' := #[true, true, true, true, true, true, true, true, true, true, true, true, true, true, true, true, true, true, true, true, false, false, false, false, false, false, false, false, false, false, false, false, false, false, false, false, false, false]) (fuel := 18) hF ⟨_, (hS.selp [0, 3, 6] (by decide) (by kernel_rfl)).pick [0, 1, 2, 3, 4, 5] (by kernel_rfl)⟩ (by kernel_rfl) (by intro c a w t v h; cases t <;> exact h) (by kernel_rfl) rfl ?_
                clear hF
                intro a hF
                have hF := hF.boolv 62 (by kernel_rfl) hb42
                refine any_pure [20, 23] [2, 3, 11, 62, 63, 66] (L' := [(2, .int .i64 (a7)), (3, .string (a8)), (11, .pointer (some ⟨b18, 0, none⟩)), (62, .bool (true)), (63, .pointer (some ⟨b18, 1, none⟩)), (66, .pointer (some ⟨b11, 1, none⟩))]) (listed' := #[true, true, true, true, true, true, true, true, true, true, true, true, true, true, true, true, true, true, true, true, true, false, false, true, false, false, false, false, false, false, false, false, false, false, false, false, false, false]) (fuel := 16) hF ⟨_, (hS.selp [0, 3, 6] (by decide) (by kernel_rfl)).pick [0, 1, 2, 3, 4, 5] (by kernel_rfl)⟩ (by kernel_rfl) (by intro c a w t v h; cases t <;> exact h) (by kernel_rfl) rfl ?_
                clear hF
                intro a hF
                refine any_take 21 (some 64) hF ⟨_, (hS.selp [0, 3, 6] (by decide) (by kernel_rfl)).pick [0, 1, 2, 3, 4, 5] (by kernel_rfl)⟩ rfl (by kernel_rfl) (by kernel_rfl) (by intro c a w v h; exact h) (by kernel_rfl) (by kernel_rfl) (by kernel_rfl) rfl (val_load 1 1 0 (v := .slice p16 (x13.1.Nodes).length c17) rfl rfl rfl rfl rfl (by kernel_rfl) (by kernel_rfl)) ?_
                clear hF
                intro a hF
                refine any_pure [22] [2, 3, 11, 62, 65, 66] (L' := [(2, .int .i64 (a7)), (3, .string (a8)), (11, .pointer (some ⟨b18, 0, none⟩)), (62, .bool (true)), (65, .int .i64 (((x13.1.Nodes).length : Int))), (66, .pointer (some ⟨b11, 1, none⟩))]) (listed' := #[true, true, true, true, true, true, true, true, true, true, true, true, true, true, true, true, true, true, true, true, true, true, true, true, false, false, false, false, false, false, false, false, false, false, false, false, false, false]) (fuel := 14) hF ⟨_, (hS.selp [0, 3, 6] (by decide) (by kernel_rfl)).pick [0, 1, 2, 3, 4, 5] (by kernel_rfl)⟩ (by kernel_rfl) (by intro c a w t v h; cases t <;> exact h) (by kernel_rfl) rfl ?_
                clear hF
                intro a hF
                refine any_take 24 (some 67) hF ⟨_, (hS.selp [0, 3, 6] (by decide) (by kernel_rfl)).pick [0, 1, 2, 3, 4, 5] (by kernel_rfl)⟩ rfl (by kernel_rfl) (by kernel_rfl) (by intro c a w v h; exact h) (by kernel_rfl) (by kernel_rfl) (by kernel_rfl) rfl (val_load 2 1 0 (v := .slice p4 (a1.Nodes).length c5) rfl rfl rfl rfl rfl (by kernel_rfl) (by kernel_rfl)) ?_
                clear hF
                intro a hF
                refine any_pure [25, 26, 27, 28, 29] [2, 3, 11, 72] (L' := [(2, .int .i64 (a7)), (3, .string (a8)), (11, .pointer (some ⟨b18, 0, none⟩)), (72, .bool ((((x13.1.Nodes).length : Int) == IntKind.i64.wrap (((a1.Nodes).length : Int) + 1))))]) (listed' := #[true, true, true, true, true, true, true, true, true, true, true, true, true, true, true, true, true, true, true, true, true, true, true, true, true, true, true, true, true, true, false, false, false, false, false, false, false, false]) (fuel := 8) hF ⟨_, (hS.selp [0, 3, 6] (by decide) (by kernel_rfl)).pick [0, 1, 2, 3, 4, 5] (by kernel_rfl)⟩ (by kernel_rfl) (by intro c a w t v h; cases t <;> exact h) (by kernel_rfl) rfl ?_
                clear hF
                intro a hF
                have hF := hF.boolv 72 (by kernel_rfl) hb43
                refine any_pure [31, 33, 34] [11, 72, 74, 77] (L' := [(11, .pointer (some ⟨b18, 0, none⟩)), (72, .bool (true)), (74, .string (a8)), (77, .int .i64 (IntKind.i64.wrap (a7 + 1)))]) (listed' := #[true, true, true, true, true, true, true, true, true, true, true, true, true, true, true, true, true, true, true, true, true, true, true, true, true, true, true, true, true, true, false, true, false, true, true, false, false, false]) (fuel := 5) hF ⟨_, (hS.selp [0, 3, 6] (by decide) (by kernel_rfl)).pick [0, 1, 2, 3, 4, 5] (by kernel_rfl)⟩ (by kernel_rfl) (by intro c a w t v h; cases t <;> exact h) (by kernel_rfl) rfl ?_
                clear hF
                intro a hF
                refine any_take 30 (some 73) hF ⟨_, (hS.selp [0, 3, 6] (by decide) (by kernel_rfl)).pick [0, 1, 2, 3, 4, 5] (by kernel_rfl)⟩ rfl (by kernel_rfl) (by kernel_rfl) (by intro c a w v h; exact h) (by kernel_rfl) (by kernel_rfl) (by kernel_rfl) rfl (val_loads 1 0 2 (s' := [(1, [.slice p14 (x13.1.Cuts).length c15]), (1, [.slice p16 (x13.1.Nodes).length c17])]) (n := 2) rfl rfl rfl (by kernel_rfl) (by kernel_rfl) (by kernel_rfl) (by kernel_rfl) (by kernel_rfl)) ?_
                clear hF
                intro a hF
                refine any_go 32 (o := ⟨(some 75), (Go.Op.call (Go.Call.mk (Go.Callee.value (Go.Operand.func 36)) #[(Go.Operand.tmp 73), (Go.Operand.tmp 74)] #[26, 9])), 3, "law.go:94", #[(Go.Edge.mk 30 Go.Ground.data), (Go.Edge.mk 31 Go.Ground.data), (Go.Edge.mk 29 Go.Ground.chain), (Go.Edge.mk 29 Go.Ground.guard)], (some (29, true))⟩) hF rfl (by kernel_rfl) (by kernel_rfl) (listed' := #[true, true, true, true, true, true, true, true, true, true, true, true, true, true, true, true, true, true, true, true, true, true, true, true, true, true, true, true, true, true, true, true, true, true, true, false, false, false]) (by kernel_rfl) ?_
                refine wo_callP (args := #[.agg (flat [(1, [.slice p14 (x13.1.Cuts).length c15]), (1, [.slice p16 (x13.1.Nodes).length c17])]).toArray, .string (a8)]) (f := 36) hF hS (by kernel_rfl) (by kernel_rfl) (C_span_Find N hS.fresh (T_api_Map.mk x13.1.Cuts x13.1.Nodes) a8 p14 c15 p16 c17 ((hS.pick [2, 3] (by kernel_rfl)).ro) hx44) ?_
                clear hF hS hx44
                rintro _ κ w a ⟨rfl, hR, hN⟩ hF hS hO
                clear hR hN hO
                refine ⟨fun _ => ⟨_, (hS.selp [0, 3, 6] (by decide) (by kernel_rfl)).pick [0, 1, 2, 3, 4, 5] (by kernel_rfl)⟩, ?_⟩
                refine any_pure [35, 36, 37] [10] (L' := [(10, .bool ((x44 == IntKind.i64.wrap (a7 + 1))))]) (listed' := #[true, true, true, true, true, true, true, true, true, true, true, true, true, true, true, true, true, true, true, true, true, true, true, true, true, true, true, true, true, true, true, true, true, true, true, true, true, true]) (fuel := 0) hF ⟨_, (hS.selp [0, 3, 6] (by decide) (by kernel_rfl)).pick [0, 1, 2, 3, 4, 5] (by kernel_rfl)⟩ (by kernel_rfl) (by intro c a w t v h; cases t <;> exact h) (by kernel_rfl) rfl ?_
                clear hF
                intro a hF
                refine any_done (by kernel_rfl) ?_ _
                cases hv34
                exact ⟨_, hF.keep' [10] (by kernel_rfl), (hS.selp [] (by decide) (by kernel_rfl)).pick [] (by kernel_rfl), trivial⟩
              · refine any_go 0 (o := ⟨(some 43), (Go.Op.call (Go.Call.mk (Go.Callee.value (Go.Operand.func 29)) #[] #[])), 4, "law.go:94", #[], none⟩) hF rfl (by kernel_rfl) (by kernel_rfl) (listed' := #[true, false, false, false, false, false, false, false, false, false, false, false, false, false, false, false, false, false, false, false, false, false, false, false, false, false, false, false, false, false, false, false, false, false, false, false, false, false]) (by kernel_rfl) ?_
                refine wo_callP (args := #[]) (f := 29) hF hS (by kernel_rfl) (by kernel_rfl) (C_law08_awake N hS.fresh   ((hS.pick [] (by kernel_rfl)).ro) hx35) ?_
                clear hF hS hx35
                rintro _ κ w a ⟨rfl, hR, hN⟩ hF hS hO
                clear hR hN hO
                refine ⟨fun _ => ⟨_, (hS.selp [0, 3, 6] (by decide) (by kernel_rfl)).pick [0, 1, 2, 3, 4, 5] (by kernel_rfl)⟩, ?_⟩
                refine any_pure [1] [2, 3, 4, 5, 11, 13, 14, 44] (L' := [(2, .int .i64 (a7)), (3, .string (a8)), (4, .string (a9)), (5, .pointer (some ⟨b11, 0, none⟩)), (11, .pointer (some ⟨b18, 0, none⟩)), (13, .pointer (some ⟨b31, 0, none⟩)), (14, .int .i64 (x26.2)), (44, .bool (x35))]) (listed' := #[true, true, false, false, false, false, false, false, false, false, false, false, false, false, false, false, false, false, false, false, false, false, false, false, false, false, false, false, false, false, false, false, false, false, false, false, false, false]) (fuel := 36) hF ⟨_, (hS.selp [0, 3, 6] (by decide) (by kernel_rfl)).pick [0, 1, 2, 3, 4, 5] (by kernel_rfl)⟩ (by kernel_rfl) (by intro c a w t v h; cases t <;> exact h) (by kernel_rfl) rfl ?_
                clear hF
                intro a hF
                have hF := hF.boolv 44 (by kernel_rfl) hb36
                refine any_pure [2, 3, 4, 5] [2, 3, 4, 5, 11, 13, 48] (L' := [(2, .int .i64 (a7)), (3, .string (a8)), (4, .string (a9)), (5, .pointer (some ⟨b11, 0, none⟩)), (11, .pointer (some ⟨b18, 0, none⟩)), (13, .pointer (some ⟨b31, 0, none⟩)), (48, .bool ((x26.2 == 0)))]) (listed' := #[true, true, true, true, true, true, false, false, false, false, false, false, false, false, false, false, false, false, false, false, false, false, false, false, false, false, false, false, false, false, false, false, false, false, false, false, false, false]) (fuel := 32) hF ⟨_, (hS.selp [0, 3, 6] (by decide) (by kernel_rfl)).pick [0, 1, 2, 3, 4, 5] (by kernel_rfl)⟩ (by kernel_rfl) (by intro c a w t v h; cases t <;> exact h) (by kernel_rfl) rfl ?_
                clear hF
                intro a hF
                have hF := hF.boolv 48 (by kernel_rfl) hb37
                refine any_take 6 (some 49) hF ⟨_, (hS.selp [0, 3, 6] (by decide) (by kernel_rfl)).pick [0, 1, 2, 3, 4, 5] (by kernel_rfl)⟩ rfl (by kernel_rfl) (by kernel_rfl) (by intro c a w v h; exact h) (by kernel_rfl) (by kernel_rfl) (by kernel_rfl) rfl (val_loads 2 0 2 (s' := [(1, [.slice p2 (a1.Cuts).length c3]), (1, [.slice p4 (a1.Nodes).length c5])]) (n := 2) rfl rfl rfl (by kernel_rfl) (by kernel_rfl) (by kernel_rfl) (by kernel_rfl) (by kernel_rfl)) ?_
                clear hF
                intro a hF
                refine any_take 7 (some 50) hF ⟨_, (hS.selp [0, 3, 6] (by decide) (by kernel_rfl)).pick [0, 1, 2, 3, 4, 5] (by kernel_rfl)⟩ rfl (by kernel_rfl) (by kernel_rfl) (by intro c a w v h; exact h) (by kernel_rfl) (by kernel_rfl) (by kernel_rfl) rfl (val_loads 0 0 2 (s' := [(1, [.slice p27 (x26.1.Cuts).length c28]), (1, [.slice p29 (x26.1.Nodes).length c30])]) (n := 2) rfl rfl rfl (by kernel_rfl) (by kernel_rfl) (by kernel_rfl) (by kernel_rfl) (by kernel_rfl)) ?_
                clear hF
                intro a hF
                refine any_go 8 (o := ⟨(some 51), (Go.Op.call (Go.Call.mk (Go.Callee.value (Go.Operand.func 44)) #[(Go.Operand.tmp 49), (Go.Operand.tmp 50)] #[26, 26])), 4, "law.go:94", #[(Go.Edge.mk 6 Go.Ground.data), (Go.Edge.mk 7 Go.Ground.data), (Go.Edge.mk 5 Go.Ground.chain), (Go.Edge.mk 5 Go.Ground.guard)], (some (5, true))⟩) hF rfl (by kernel_rfl) (by kernel_rfl) (listed' := #[true, true, true, true, true, true, true, true, true, false, false, false, false, false, false, false, false, false, false, false, false, false, false, false, false, false, false, false, false, false, false, false, false, false, false, false, false, false]) (by kernel_rfl) ?_
                refine wo_callP (args := #[.agg (flat [(1, [.slice p2 (a1.Cuts).length c3]), (1, [.slice p4 (a1.Nodes).length c5])]).toArray, .agg (flat [(1, [.slice p27 (x26.1.Cuts).length c28]), (1, [.slice p29 (x26.1.Nodes).length c30])]).toArray]) (f := 44) hF hS (by kernel_rfl) (by kernel_rfl) (C_ref08_Same N hS.fresh (T_api_Map.mk a1.Cuts a1.Nodes) (T_api_Map.mk x26.1.Cuts x26.1.Nodes) p2 c3 p4 c5 p27 c28 p29 c30 ((hS.pick [4, 5, 0, 1] (by kernel_rfl)).ro) hx38) ?_
                clear hF hS hx38
                rintro _ κ w a ⟨rfl, hR, hN⟩ hF hS hO
                clear hR hN hO
                refine ⟨fun _ => ⟨_, (hS.selp [0, 3, 6] (by decide) (by kernel_rfl)).pick [0, 1, 2, 3, 4, 5] (by kernel_rfl)⟩, ?_⟩
                refine any_pure [9, 10] [2, 3, 4, 5, 11, 53] (L' := [(2, .int .i64 (a7)), (3, .string (a8)), (4, .string (a9)), (5, .pointer (some ⟨b11, 0, none⟩)), (11, .pointer (some ⟨b18, 0, none⟩)), (53, .bool (x38))]) (listed' := #[true, true, true, true, true, true, true, true, true, true, true, false, false, false, false, false, false, false, false, false, false, false, false, false, false, false, false, false, false, false, false, false, false, false, false, false, false, false]) (fuel := 27) hF ⟨_, (hS.selp [0, 3, 6] (by decide) (by kernel_rfl)).pick [0, 1, 2, 3, 4, 5] (by kernel_rfl)⟩ (by kernel_rfl) (by intro c a w t v h; cases t <;> exact h) (by kernel_rfl) rfl ?_
                clear hF
                intro a hF
                have hF := hF.boolv 53 (by kernel_rfl) hb39
                refine any_pure [12, 15] [2, 3, 5, 11, 53, 55, 58] (L' := [(2, .int .i64 (a7)), (3, .string (a8)), (5, .pointer (some ⟨b11, 0, none⟩)), (11, .pointer (some ⟨b18, 0, none⟩)), (53, .bool (true)), (55, .string (a9)), (58, .string (a9))]) (listed' := #[true, true, true, true, true, true, true, true, true, true, true, false, true, false, false, true, false, false, false, false, false, false, false, false, false, false, false, false, false, false, false, false, false, false, false, false, false, false]) (fuel := 25) hF ⟨_, (hS.selp [0, 3, 6] (by decide) (by kernel_rfl)).pick [0, 1, 2, 3, 4, 5] (by kernel_rfl)⟩ (by kernel_rfl) (by intro c a w t v h; cases t <;> exact h) (by kernel_rfl) rfl ?_
                clear hF
                intro a hF
                refine any_take 11 (some 54) hF ⟨_, (hS.selp [0, 3, 6] (by decide) (by kernel_rfl)).pick [0, 1, 2, 3, 4, 5] (by kernel_rfl)⟩ rfl (by kernel_rfl) (by kernel_rfl) (by intro c a w v h; exact h) (by kernel_rfl) (by kernel_rfl) (by kernel_rfl) rfl (val_loads 1 0 2 (s' := [(1, [.slice p14 (x13.1.Cuts).length c15]), (1, [.slice p16 (x13.1.Nodes).length c17])]) (n := 2) rfl rfl rfl (by kernel_rfl) (by kernel_rfl) (by kernel_rfl) (by kernel_rfl) (by kernel_rfl)) ?_
                clear hF
                intro a hF
                refine any_take 14 (some 57) hF ⟨_, (hS.selp [0, 3, 6] (by decide) (by kernel_rfl)).pick [0, 1, 2, 3, 4, 5] (by kernel_rfl)⟩ rfl (by kernel_rfl) (by kernel_rfl) (by intro c a w v h; exact h) (by kernel_rfl) (by kernel_rfl) (by kernel_rfl) rfl (val_loads 2 0 2 (s' := [(1, [.slice p2 (a1.Cuts).length c3]), (1, [.slice p4 (a1.Nodes).length c5])]) (n := 2) rfl rfl rfl (by kernel_rfl) (by kernel_rfl) (by kernel_rfl) (by kernel_rfl) (by kernel_rfl)) ?_
                clear hF
                intro a hF
                refine any_go 13 (o := ⟨(some 56), (Go.Op.call (Go.Call.mk (Go.Callee.value (Go.Operand.func 38)) #[(Go.Operand.tmp 54), (Go.Operand.tmp 55)] #[26, 9])), 3, "law.go:94", #[(Go.Edge.mk 11 Go.Ground.data), (Go.Edge.mk 12 Go.Ground.data), (Go.Edge.mk 10 Go.Ground.chain), (Go.Edge.mk 10 Go.Ground.guard)], (some (10, true))⟩) hF rfl (by kernel_rfl) (by kernel_rfl) (listed' := #[true, true, true, true, true, true, true, true, true, true, true, true, true, true, true, true, false, false, false, false, false, false, false, false, false, false, false, false, false, false, false, false, false, false, false, false, false, false]) (by kernel_rfl) ?_
                refine wo_callP (args := #[.agg (flat [(1, [.slice p14 (x13.1.Cuts).length c15]), (1, [.slice p16 (x13.1.Nodes).length c17])]).toArray, .string (a9)]) (f := 38) hF hS (by kernel_rfl) (by kernel_rfl) (C_span_Owner N hS.fresh (T_api_Map.mk x13.1.Cuts x13.1.Nodes) a9 p14 c15 p16 c17 ((hS.pick [2, 3] (by kernel_rfl)).ro) hx40) ?_
                clear hF hS hx40
                rintro _ κ w a ⟨rfl, hR, hN⟩ hF hS hO
                clear hR hN hO
                refine ⟨fun _ => ⟨_, (hS.selp [0, 3, 6] (by decide) (by kernel_rfl)).pick [0, 1, 2, 3, 4, 5] (by kernel_rfl)⟩, ?_⟩
                refine any_go 16 (o := ⟨(some 59), (Go.Op.call (Go.Call.mk (Go.Callee.value (Go.Operand.func 38)) #[(Go.Operand.tmp 57), (Go.Operand.tmp 58)] #[26, 9])), 3, "law.go:94", #[(Go.Edge.mk 14 Go.Ground.data), (Go.Edge.mk 15 Go.Ground.data), (Go.Edge.mk 13 Go.Ground.chain), (Go.Edge.mk 10 Go.Ground.guard)], (some (10, true))⟩) hF rfl (by kernel_rfl) (by kernel_rfl) (listed' := #[true, true, true, true, true, true, true, true, true, true, true, true, true, true, true, true, true, false, false, false, false, false, false, false, false, false, false, false, false, false, false, false, false, false, false, false, false, false]) (by kernel_rfl) ?_
                refine wo_callP (args := #[.agg (flat [(1, [.slice p2 (a1.Cuts).length c3]), (1, [.slice p4 (a1.Nodes).length c5])]).toArray, .string (a9)]) (f := 38) hF hS (by kernel_rfl) (by kernel_rfl) (C_span_Owner N hS.fresh (T_api_Map.mk a1.Cuts a1.Nodes) a9 p2 c3 p4 c5 ((hS.pick [4, 5] (by kernel_rfl)).ro) hx41) ?_
                clear hF hS hx41
                rintro _ κ w a ⟨rfl, hR, hN⟩ hF hS hO
                clear hR hN hO
                refine ⟨fun _ => ⟨_, (hS.selp [0, 3, 6] (by decide) (by kernel_rfl)).pick [0, 1, 2, 3, 4, 5] (by kernel_rfl)⟩, ?_⟩
                refine any_pure [17, 18, 19] [2, 3, 5, 11, 62] (L' := [(2, .int .i64 (a7)), (3, .string (a8)), (5, .pointer (some ⟨b11, 0, none⟩)), (11, .pointer (some ⟨b18, 0, none⟩)), (62, .bool ((x40 == x41)))]) (listed' := #[true, true, true, true, true, true, true, true, true, true, true, true, true, true, true, true, true, true, true, true, false, false, false, false, false, false, false, false, false, false, false, false, false, false, false, false, false, false]) (fuel := 18) hF ⟨_, (hS.selp [0, 3, 6] (by decide) (by kernel_rfl)).pick [0, 1, 2, 3, 4, 5] (by kernel_rfl)⟩ (by kernel_rfl) (by intro c a w t v h; cases t <;> exact h) (by kernel_rfl) rfl ?_
                clear hF
                intro a hF
                have hF := hF.boolv 62 (by kernel_rfl) hb42
                refine any_pure [20, 23] [2, 3, 11, 62, 63, 66] (L' := [(2, .int .i64 (a7)), (3, .string (a8)), (11, .pointer (some ⟨b18, 0, none⟩)), (62, .bool (true)), (63, .pointer (some ⟨b18, 1, none⟩)), (66, .pointer (some ⟨b11, 1, none⟩))]) (listed' := #[true, true, true, true, true, true, true, true, true, true, true, true, true, true, true, true, true, true, true, true, true, false, false, true, false, false, false, false, false, false, false, false, false, false, false, false, false, false]) (fuel := 16) hF ⟨_, (hS.selp [0, 3, 6] (by decide) (by kernel_rfl)).pick [0, 1, 2, 3, 4, 5] (by kernel_rfl)⟩ (by kernel_rfl) (by intro c a w t v h; cases t <;> exact h) (by kernel_rfl) rfl ?_
                clear hF
                intro a hF
                refine any_take 21 (some 64) hF ⟨_, (hS.selp [0, 3, 6] (by decide) (by kernel_rfl)).pick [0, 1, 2, 3, 4, 5] (by kernel_rfl)⟩ rfl (by kernel_rfl) (by kernel_rfl) (by intro c a w v h; exact h) (by kernel_rfl) (by kernel_rfl) (by kernel_rfl) rfl (val_load 1 1 0 (v := .slice p16 (x13.1.Nodes).length c17) rfl rfl rfl rfl rfl (by kernel_rfl) (by kernel_rfl)) ?_
                clear hF
                intro a hF
                refine any_pure [22] [2, 3, 11, 62, 65, 66] (L' := [(2, .int .i64 (a7)), (3, .string (a8)), (11, .pointer (some ⟨b18, 0, none⟩)), (62, .bool (true)), (65, .int .i64 (((x13.1.Nodes).length : Int))), (66, .pointer (some ⟨b11, 1, none⟩))]) (listed' := #[true, true, true, true, true, true, true, true, true, true, true, true, true, true, true, true, true, true, true, true, true, true, true, true, false, false, false, false, false, false, false, false, false, false, false, false, false, false]) (fuel := 14) hF ⟨_, (hS.selp [0, 3, 6] (by decide) (by kernel_rfl)).pick [0, 1, 2, 3, 4, 5] (by kernel_rfl)⟩ (by kernel_rfl) (by intro c a w t v h; cases t <;> exact h) (by kernel_rfl) rfl ?_
                clear hF
                intro a hF
                refine any_take 24 (some 67) hF ⟨_, (hS.selp [0, 3, 6] (by decide) (by kernel_rfl)).pick [0, 1, 2, 3, 4, 5] (by kernel_rfl)⟩ rfl (by kernel_rfl) (by kernel_rfl) (by intro c a w v h; exact h) (by kernel_rfl) (by kernel_rfl) (by kernel_rfl) rfl (val_load 2 1 0 (v := .slice p4 (a1.Nodes).length c5) rfl rfl rfl rfl rfl (by kernel_rfl) (by kernel_rfl)) ?_
                clear hF
                intro a hF
                refine any_pure [25, 26, 27, 28, 29] [2, 3, 11, 72] (L' := [(2, .int .i64 (a7)), (3, .string (a8)), (11, .pointer (some ⟨b18, 0, none⟩)), (72, .bool ((((x13.1.Nodes).length : Int) == IntKind.i64.wrap (((a1.Nodes).length : Int) + 1))))]) (listed' := #[true, true, true, true, true, true, true, true, true, true, true, true, true, true, true, true, true, true, true, true, true, true, true, true, true, true, true, true, true, true, false, false, false, false, false, false, false, false]) (fuel := 8) hF ⟨_, (hS.selp [0, 3, 6] (by decide) (by kernel_rfl)).pick [0, 1, 2, 3, 4, 5] (by kernel_rfl)⟩ (by kernel_rfl) (by intro c a w t v h; cases t <;> exact h) (by kernel_rfl) rfl ?_
                clear hF
                intro a hF
                have hF := hF.boolv 72 (by kernel_rfl) hb43
                refine any_pure [30, 31, 32, 33, 34, 35, 36, 37] [10] (L' := [(10, .bool (false))]) (listed' := #[true, true, true, true, true, true, true, true, true, true, true, true, true, true, true, true, true, true, true, true, true, true, true, true, true, true, true, true, true, true, true, true, true, true, true, true, true, true]) (fuel := 0) hF ⟨_, (hS.selp [0, 3, 6] (by decide) (by kernel_rfl)).pick [0, 1, 2, 3, 4, 5] (by kernel_rfl)⟩ (by kernel_rfl) (by intro c a w t v h; cases t <;> exact h) (by kernel_rfl) rfl ?_
                clear hF
                intro a hF
                refine any_done (by kernel_rfl) ?_ _
                cases hv34
                exact ⟨_, hF.keep' [10] (by kernel_rfl), (hS.selp [] (by decide) (by kernel_rfl)).pick [] (by kernel_rfl), trivial⟩
            · refine any_go 0 (o := ⟨(some 43), (Go.Op.call (Go.Call.mk (Go.Callee.value (Go.Operand.func 29)) #[] #[])), 4, "law.go:94", #[], none⟩) hF rfl (by kernel_rfl) (by kernel_rfl) (listed' := #[true, false, false, false, false, false, false, false, false, false, false, false, false, false, false, false, false, false, false, false, false, false, false, false, false, false, false, false, false, false, false, false, false, false, false, false, false, false]) (by kernel_rfl) ?_
              refine wo_callP (args := #[]) (f := 29) hF hS (by kernel_rfl) (by kernel_rfl) (C_law08_awake N hS.fresh   ((hS.pick [] (by kernel_rfl)).ro) hx35) ?_
              clear hF hS hx35
              rintro _ κ w a ⟨rfl, hR, hN⟩ hF hS hO
              clear hR hN hO
              refine ⟨fun _ => ⟨_, (hS.selp [0, 3, 6] (by decide) (by kernel_rfl)).pick [0, 1, 2, 3, 4, 5] (by kernel_rfl)⟩, ?_⟩
              refine any_pure [1] [2, 3, 4, 5, 11, 13, 14, 44] (L' := [(2, .int .i64 (a7)), (3, .string (a8)), (4, .string (a9)), (5, .pointer (some ⟨b11, 0, none⟩)), (11, .pointer (some ⟨b18, 0, none⟩)), (13, .pointer (some ⟨b31, 0, none⟩)), (14, .int .i64 (x26.2)), (44, .bool (x35))]) (listed' := #[true, true, false, false, false, false, false, false, false, false, false, false, false, false, false, false, false, false, false, false, false, false, false, false, false, false, false, false, false, false, false, false, false, false, false, false, false, false]) (fuel := 36) hF ⟨_, (hS.selp [0, 3, 6] (by decide) (by kernel_rfl)).pick [0, 1, 2, 3, 4, 5] (by kernel_rfl)⟩ (by kernel_rfl) (by intro c a w t v h; cases t <;> exact h) (by kernel_rfl) rfl ?_
              clear hF
              intro a hF
              have hF := hF.boolv 44 (by kernel_rfl) hb36
              refine any_pure [2, 3, 4, 5] [2, 3, 4, 5, 11, 13, 48] (L' := [(2, .int .i64 (a7)), (3, .string (a8)), (4, .string (a9)), (5, .pointer (some ⟨b11, 0, none⟩)), (11, .pointer (some ⟨b18, 0, none⟩)), (13, .pointer (some ⟨b31, 0, none⟩)), (48, .bool ((x26.2 == 0)))]) (listed' := #[true, true, true, true, true, true, false, false, false, false, false, false, false, false, false, false, false, false, false, false, false, false, false, false, false, false, false, false, false, false, false, false, false, false, false, false, false, false]) (fuel := 32) hF ⟨_, (hS.selp [0, 3, 6] (by decide) (by kernel_rfl)).pick [0, 1, 2, 3, 4, 5] (by kernel_rfl)⟩ (by kernel_rfl) (by intro c a w t v h; cases t <;> exact h) (by kernel_rfl) rfl ?_
              clear hF
              intro a hF
              have hF := hF.boolv 48 (by kernel_rfl) hb37
              refine any_take 6 (some 49) hF ⟨_, (hS.selp [0, 3, 6] (by decide) (by kernel_rfl)).pick [0, 1, 2, 3, 4, 5] (by kernel_rfl)⟩ rfl (by kernel_rfl) (by kernel_rfl) (by intro c a w v h; exact h) (by kernel_rfl) (by kernel_rfl) (by kernel_rfl) rfl (val_loads 2 0 2 (s' := [(1, [.slice p2 (a1.Cuts).length c3]), (1, [.slice p4 (a1.Nodes).length c5])]) (n := 2) rfl rfl rfl (by kernel_rfl) (by kernel_rfl) (by kernel_rfl) (by kernel_rfl) (by kernel_rfl)) ?_
              clear hF
              intro a hF
              refine any_take 7 (some 50) hF ⟨_, (hS.selp [0, 3, 6] (by decide) (by kernel_rfl)).pick [0, 1, 2, 3, 4, 5] (by kernel_rfl)⟩ rfl (by kernel_rfl) (by kernel_rfl) (by intro c a w v h; exact h) (by kernel_rfl) (by kernel_rfl) (by kernel_rfl) rfl (val_loads 0 0 2 (s' := [(1, [.slice p27 (x26.1.Cuts).length c28]), (1, [.slice p29 (x26.1.Nodes).length c30])]) (n := 2) rfl rfl rfl (by kernel_rfl) (by kernel_rfl) (by kernel_rfl) (by kernel_rfl) (by kernel_rfl)) ?_
              clear hF
              intro a hF
              refine any_go 8 (o := ⟨(some 51), (Go.Op.call (Go.Call.mk (Go.Callee.value (Go.Operand.func 44)) #[(Go.Operand.tmp 49), (Go.Operand.tmp 50)] #[26, 26])), 4, "law.go:94", #[(Go.Edge.mk 6 Go.Ground.data), (Go.Edge.mk 7 Go.Ground.data), (Go.Edge.mk 5 Go.Ground.chain), (Go.Edge.mk 5 Go.Ground.guard)], (some (5, true))⟩) hF rfl (by kernel_rfl) (by kernel_rfl) (listed' := #[true, true, true, true, true, true, true, true, true, false, false, false, false, false, false, false, false, false, false, false, false, false, false, false, false, false, false, false, false, false, false, false, false, false, false, false, false, false]) (by kernel_rfl) ?_
              refine wo_callP (args := #[.agg (flat [(1, [.slice p2 (a1.Cuts).length c3]), (1, [.slice p4 (a1.Nodes).length c5])]).toArray, .agg (flat [(1, [.slice p27 (x26.1.Cuts).length c28]), (1, [.slice p29 (x26.1.Nodes).length c30])]).toArray]) (f := 44) hF hS (by kernel_rfl) (by kernel_rfl) (C_ref08_Same N hS.fresh (T_api_Map.mk a1.Cuts a1.Nodes) (T_api_Map.mk x26.1.Cuts x26.1.Nodes) p2 c3 p4 c5 p27 c28 p29 c30 ((hS.pick [4, 5, 0, 1] (by kernel_rfl)).ro) hx38) ?_
              clear hF hS hx38
              rintro _ κ w a ⟨rfl, hR, hN⟩ hF hS hO
              clear hR hN hO
              refine ⟨fun _ => ⟨_, (hS.selp [0, 3, 6] (by decide) (by kernel_rfl)).pick [0, 1, 2, 3, 4, 5] (by kernel_rfl)⟩, ?_⟩
              refine any_pure [9, 10] [2, 3, 4, 5, 11, 53] (L' := [(2, .int .i64 (a7)), (3, .string (a8)), (4, .string (a9)), (5, .pointer (some ⟨b11, 0, none⟩)), (11, .pointer (some ⟨b18, 0, none⟩)), (53, .bool (x38))]) (listed' := #[true, true, true, true, true, true, true, true, true, true, true, false, false, false, false, false, false, false, false, false, false, false, false, false, false, false, false, false, false, false, false, false, false, false, false, false, false, false]) (fuel := 27) hF ⟨_, (hS.selp [0, 3, 6] (by decide) (by kernel_rfl)).pick [0, 1, 2, 3, 4, 5] (by kernel_rfl)⟩ (by kernel_rfl) (by intro c a w t v h; cases t <;> exact h) (by kernel_rfl) rfl ?_
              clear hF
              intro a hF
              have hF := hF.boolv 53 (by kernel_rfl) hb39
              refine any_pure [12, 15] [2, 3, 5, 11, 53, 55, 58] (L' := [(2, .int .i64 (a7)), (3, .string (a8)), (5, .pointer (some ⟨b11, 0, none⟩)), (11, .pointer (some ⟨b18, 0, none⟩)), (53, .bool (true)), (55, .string (a9)), (58, .string (a9))]) (listed' := #[true, true, true, true, true, true, true, true, true, true, true, false, true, false, false, true, false, false, false, false, false, false, false, false, false, false, false, false, false, false, false, false, false, false, false, false, false, false]) (fuel := 25) hF ⟨_, (hS.selp [0, 3, 6] (by decide) (by kernel_rfl)).pick [0, 1, 2, 3, 4, 5] (by kernel_rfl)⟩ (by kernel_rfl) (by intro c a w t v h; cases t <;> exact h) (by kernel_rfl) rfl ?_
              clear hF
              intro a hF
              refine any_take 11 (some 54) hF ⟨_, (hS.selp [0, 3, 6] (by decide) (by kernel_rfl)).pick [0, 1, 2, 3, 4, 5] (by kernel_rfl)⟩ rfl (by kernel_rfl) (by kernel_rfl) (by intro c a w v h; exact h) (by kernel_rfl) (by kernel_rfl) (by kernel_rfl) rfl (val_loads 1 0 2 (s' := [(1, [.slice p14 (x13.1.Cuts).length c15]), (1, [.slice p16 (x13.1.Nodes).length c17])]) (n := 2) rfl rfl rfl (by kernel_rfl) (by kernel_rfl) (by kernel_rfl) (by kernel_rfl) (by kernel_rfl)) ?_
              clear hF
              intro a hF
              refine any_take 14 (some 57) hF ⟨_, (hS.selp [0, 3, 6] (by decide) (by kernel_rfl)).pick [0, 1, 2, 3, 4, 5] (by kernel_rfl)⟩ rfl (by kernel_rfl) (by kernel_rfl) (by intro c a w v h; exact h) (by kernel_rfl) (by kernel_rfl) (by kernel_rfl) rfl (val_loads 2 0 2 (s' := [(1, [.slice p2 (a1.Cuts).length c3]), (1, [.slice p4 (a1.Nodes).length c5])]) (n := 2) rfl rfl rfl (by kernel_rfl) (by kernel_rfl) (by kernel_rfl) (by kernel_rfl) (by kernel_rfl)) ?_
              clear hF
              intro a hF
              refine any_go 13 (o := ⟨(some 56), (Go.Op.call (Go.Call.mk (Go.Callee.value (Go.Operand.func 38)) #[(Go.Operand.tmp 54), (Go.Operand.tmp 55)] #[26, 9])), 3, "law.go:94", #[(Go.Edge.mk 11 Go.Ground.data), (Go.Edge.mk 12 Go.Ground.data), (Go.Edge.mk 10 Go.Ground.chain), (Go.Edge.mk 10 Go.Ground.guard)], (some (10, true))⟩) hF rfl (by kernel_rfl) (by kernel_rfl) (listed' := #[true, true, true, true, true, true, true, true, true, true, true, true, true, true, true, true, false, false, false, false, false, false, false, false, false, false, false, false, false, false, false, false, false, false, false, false, false, false]) (by kernel_rfl) ?_
              refine wo_callP (args := #[.agg (flat [(1, [.slice p14 (x13.1.Cuts).length c15]), (1, [.slice p16 (x13.1.Nodes).length c17])]).toArray, .string (a9)]) (f := 38) hF hS (by kernel_rfl) (by kernel_rfl) (C_span_Owner N hS.fresh (T_api_Map.mk x13.1.Cuts x13.1.Nodes) a9 p14 c15 p16 c17 ((hS.pick [2, 3] (by kernel_rfl)).ro) hx40) ?_
              clear hF hS hx40
              rintro _ κ w a ⟨rfl, hR, hN⟩ hF hS hO
              clear hR hN hO
              refine ⟨fun _ => ⟨_, (hS.selp [0, 3, 6] (by decide) (by kernel_rfl)).pick [0, 1, 2, 3, 4, 5] (by kernel_rfl)⟩, ?_⟩
              refine any_go 16 (o := ⟨(some 59), (Go.Op.call (Go.Call.mk (Go.Callee.value (Go.Operand.func 38)) #[(Go.Operand.tmp 57), (Go.Operand.tmp 58)] #[26, 9])), 3, "law.go:94", #[(Go.Edge.mk 14 Go.Ground.data), (Go.Edge.mk 15 Go.Ground.data), (Go.Edge.mk 13 Go.Ground.chain), (Go.Edge.mk 10 Go.Ground.guard)], (some (10, true))⟩) hF rfl (by kernel_rfl) (by kernel_rfl) (listed' := #[true, true, true, true, true, true, true, true, true, true, true, true, true, true, true, true, true, false, false, false, false, false, false, false, false, false, false, false, false, false, false, false, false, false, false, false, false, false]) (by kernel_rfl) ?_
              refine wo_callP (args := #[.agg (flat [(1, [.slice p2 (a1.Cuts).length c3]), (1, [.slice p4 (a1.Nodes).length c5])]).toArray, .string (a9)]) (f := 38) hF hS (by kernel_rfl) (by kernel_rfl) (C_span_Owner N hS.fresh (T_api_Map.mk a1.Cuts a1.Nodes) a9 p2 c3 p4 c5 ((hS.pick [4, 5] (by kernel_rfl)).ro) hx41) ?_
              clear hF hS hx41
              rintro _ κ w a ⟨rfl, hR, hN⟩ hF hS hO
              clear hR hN hO
              refine ⟨fun _ => ⟨_, (hS.selp [0, 3, 6] (by decide) (by kernel_rfl)).pick [0, 1, 2, 3, 4, 5] (by kernel_rfl)⟩, ?_⟩
              refine any_pure [17, 18, 19] [2, 3, 5, 11, 62] (L' := [(2, .int .i64 (a7)), (3, .string (a8)), (5, .pointer (some ⟨b11, 0, none⟩)), (11, .pointer (some ⟨b18, 0, none⟩)), (62, .bool ((x40 == x41)))]) (listed' := #[true, true, true, true, true, true, true, true, true, true, true, true, true, true, true, true, true, true, true, true, false, false, false, false, false, false, false, false, false, false, false, false, false, false, false, false, false, false]) (fuel := 18) hF ⟨_, (hS.selp [0, 3, 6] (by decide) (by kernel_rfl)).pick [0, 1, 2, 3, 4, 5] (by kernel_rfl)⟩ (by kernel_rfl) (by intro c a w t v h; cases t <;> exact h) (by kernel_rfl) rfl ?_
              clear hF
              intro a hF
              have hF := hF.boolv 62 (by kernel_rfl) hb42
              refine any_pure [20, 21, 22, 23, 24, 25, 26, 27, 28, 29, 30, 31, 32, 33, 34, 35, 36, 37] [10] (L' := [(10, .bool (false))]) (listed' := #[true, true, true, true, true, true, true, true, true, true, true, true, true, true, true, true, true, true, true, true, true, true, true, true, true, true, true, true, true, true, true, true, true, true, true, true, true, true]) (fuel := 0) hF ⟨_, (hS.selp [0, 3, 6] (by decide) (by kernel_rfl)).pick [0, 1, 2, 3, 4, 5] (by kernel_rfl)⟩ (by kernel_rfl) (by intro c a w t v h; cases t <;> exact h) (by kernel_rfl) rfl ?_
              clear hF
              intro a hF
              refine any_done (by kernel_rfl) ?_ _
              cases hv34
              exact ⟨_, hF.keep' [10] (by kernel_rfl), (hS.selp [] (by decide) (by kernel_rfl)).pick [] (by kernel_rfl), trivial⟩
          · refine any_go 0 (o := ⟨(some 43), (Go.Op.call (Go.Call.mk (Go.Callee.value (Go.Operand.func 29)) #[] #[])), 4, "law.go:94", #[], none⟩) hF rfl (by kernel_rfl) (by kernel_rfl) (listed' := #[true, false, false, false, false, false, false, false, false, false, false, false, false, false, false, false, false, false, false, false, false, false, false, false, false, false, false, false, false, false, false, false, false, false, false, false, false, false]) (by kernel_rfl) ?_
            refine wo_callP (args := #[]) (f := 29) hF hS (by kernel_rfl) (by kernel_rfl) (C_law08_awake N hS.fresh   ((hS.pick [] (by kernel_rfl)).ro) hx35) ?_
            clear hF hS hx35
            rintro _ κ w a ⟨rfl, hR, hN⟩ hF hS hO
            clear hR hN hO
            refine ⟨fun _ => ⟨_, (hS.selp [0, 3, 6] (by decide) (by kernel_rfl)).pick [0, 1, 2, 3, 4, 5] (by kernel_rfl)⟩, ?_⟩
            refine any_pure [1] [2, 3, 4, 5, 11, 13, 14, 44] (L' := [(2, .int .i64 (a7)), (3, .string (a8)), (4, .string (a9)), (5, .pointer (some ⟨b11, 0, none⟩)), (11, .pointer (some ⟨b18, 0, none⟩)), (13, .pointer (some ⟨b31, 0, none⟩)), (14, .int .i64 (x26.2)), (44, .bool (x35))]) (listed' := #[true, true, false, false, false, false, false, false, false, false, false, false, false, false, false, false, false, false, false, false, false, false, false, false, false, false, false, false, false, false, false, false, false, false, false, false, false, false]) (fuel := 36) hF ⟨_, (hS.selp [0, 3, 6] (by decide) (by kernel_rfl)).pick [0, 1, 2, 3, 4, 5] (by kernel_rfl)⟩ (by kernel_rfl) (by intro c a w t v h; cases t <;> exact h) (by kernel_rfl) rfl ?_
            clear hF
            intro a hF
            have hF := hF.boolv 44 (by kernel_rfl) hb36
            refine any_pure [2, 3, 4, 5] [2, 3, 4, 5, 11, 13, 48] (L' := [(2, .int .i64 (a7)), (3, .string (a8)), (4, .string (a9)), (5, .pointer (some ⟨b11, 0, none⟩)), (11, .pointer (some ⟨b18, 0, none⟩)), (13, .pointer (some ⟨b31, 0, none⟩)), (48, .bool ((x26.2 == 0)))]) (listed' := #[true, true, true, true, true, true, false, false, false, false, false, false, false, false, false, false, false, false, false, false, false, false, false, false, false, false, false, false, false, false, false, false, false, false, false, false, false, false]) (fuel := 32) hF ⟨_, (hS.selp [0, 3, 6] (by decide) (by kernel_rfl)).pick [0, 1, 2, 3, 4, 5] (by kernel_rfl)⟩ (by kernel_rfl) (by intro c a w t v h; cases t <;> exact h) (by kernel_rfl) rfl ?_
            clear hF
            intro a hF
            have hF := hF.boolv 48 (by kernel_rfl) hb37
            refine any_take 6 (some 49) hF ⟨_, (hS.selp [0, 3, 6] (by decide) (by kernel_rfl)).pick [0, 1, 2, 3, 4, 5] (by kernel_rfl)⟩ rfl (by kernel_rfl) (by kernel_rfl) (by intro c a w v h; exact h) (by kernel_rfl) (by kernel_rfl) (by kernel_rfl) rfl (val_loads 2 0 2 (s' := [(1, [.slice p2 (a1.Cuts).length c3]), (1, [.slice p4 (a1.Nodes).length c5])]) (n := 2) rfl rfl rfl (by kernel_rfl) (by kernel_rfl) (by kernel_rfl) (by kernel_rfl) (by kernel_rfl)) ?_
            clear hF
            intro a hF
            refine any_take 7 (some 50) hF ⟨_, (hS.selp [0, 3, 6] (by decide) (by kernel_rfl)).pick [0, 1, 2, 3, 4, 5] (by kernel_rfl)⟩ rfl (by kernel_rfl) (by kernel_rfl) (by intro c a w v h; exact h) (by kernel_rfl) (by kernel_rfl) (by kernel_rfl) rfl (val_loads 0 0 2 (s' := [(1, [.slice p27 (x26.1.Cuts).length c28]), (1, [.slice p29 (x26.1.Nodes).length c30])]) (n := 2) rfl rfl rfl (by kernel_rfl) (by kernel_rfl) (by kernel_rfl) (by kernel_rfl) (by kernel_rfl)) ?_
            clear hF
            intro a hF
            refine any_go 8 (o := ⟨(some 51), (Go.Op.call (Go.Call.mk (Go.Callee.value (Go.Operand.func 44)) #[(Go.Operand.tmp 49), (Go.Operand.tmp 50)] #[26, 26])), 4, "law.go:94", #[(Go.Edge.mk 6 Go.Ground.data), (Go.Edge.mk 7 Go.Ground.data), (Go.Edge.mk 5 Go.Ground.chain), (Go.Edge.mk 5 Go.Ground.guard)], (some (5, true))⟩) hF rfl (by kernel_rfl) (by kernel_rfl) (listed' := #[true, true, true, true, true, true, true, true, true, false, false, false, false, false, false, false, false, false, false, false, false, false, false, false, false, false, false, false, false, false, false, false, false, false, false, false, false, false]) (by kernel_rfl) ?_
            refine wo_callP (args := #[.agg (flat [(1, [.slice p2 (a1.Cuts).length c3]), (1, [.slice p4 (a1.Nodes).length c5])]).toArray, .agg (flat [(1, [.slice p27 (x26.1.Cuts).length c28]), (1, [.slice p29 (x26.1.Nodes).length c30])]).toArray]) (f := 44) hF hS (by kernel_rfl) (by kernel_rfl) (C_ref08_Same N hS.fresh (T_api_Map.mk a1.Cuts a1.Nodes) (T_api_Map.mk x26.1.Cuts x26.1.Nodes) p2 c3 p4 c5 p27 c28 p29 c30 ((hS.pick [4, 5, 0, 1] (by kernel_rfl)).ro) hx38) ?_
            clear hF hS hx38
            rintro _ κ w a ⟨rfl, hR, hN⟩ hF hS hO
            clear hR hN hO
            refine ⟨fun _ => ⟨_, (hS.selp [0, 3, 6] (by decide) (by kernel_rfl)).pick [0, 1, 2, 3, 4, 5] (by kernel_rfl)⟩, ?_⟩
            refine any_pure [9, 10] [2, 3, 4, 5, 11, 53] (L' := [(2, .int .i64 (a7)), (3, .string (a8)), (4, .string (a9)), (5, .pointer (some ⟨b11, 0, none⟩)), (11, .pointer (some ⟨b18, 0, none⟩)), (53, .bool (x38))]) (listed' := #[true, true, true, true, true, true, true, true, true, true, true, false, false, false, false, false, false, false, false, false, false, false, false, false, false, false, false, false, false, false, false, false, false, false, false, false, false, false]) (fuel := 27) hF ⟨_, (hS.selp [0, 3, 6] (by decide) (by kernel_rfl)).pick [0, 1, 2, 3, 4, 5] (by kernel_rfl)⟩ (by kernel_rfl) (by intro c a w t v h; cases t <;> exact h) (by kernel_rfl) rfl ?_
            clear hF
            intro a hF
            have hF := hF.boolv 53 (by kernel_rfl) hb39
            refine any_pure [11, 12, 13, 14, 15, 16, 17, 18, 19, 20, 21, 22, 23, 24, 25, 26, 27, 28, 29, 30, 31, 32, 33, 34, 35, 36, 37] [10] (L' := [(10, .bool (false))]) (listed' := #[true, true, true, true, true, true, true, true, true, true, true, true, true, true, true, true, true, true, true, true, true, true, true, true, true, true, true, true, true, true, true, true, true, true, true, true, true, true]) (fuel := 0) hF ⟨_, (hS.selp [0, 3, 6] (by decide) (by kernel_rfl)).pick [0, 1, 2, 3, 4, 5] (by kernel_rfl)⟩ (by kernel_rfl) (by intro c a w t v h; cases t <;> exact h) (by kernel_rfl) rfl ?_
            clear hF
            intro a hF
            refine any_done (by kernel_rfl) ?_ _
            cases hv34
            exact ⟨_, hF.keep' [10] (by kernel_rfl), (hS.selp [] (by decide) (by kernel_rfl)).pick [] (by kernel_rfl), trivial⟩
        · refine any_go 0 (o := ⟨(some 43), (Go.Op.call (Go.Call.mk (Go.Callee.value (Go.Operand.func 29)) #[] #[])), 4, "law.go:94", #[], none⟩) hF rfl (by kernel_rfl) (by kernel_rfl) (listed' := #[true, false, false, false, false, false, false, false, false, false, false, false, false, false, false, false, false, false, false, false, false, false, false, false, false, false, false, false, false, false, false, false, false, false, false, false, false, false]) (by kernel_rfl) ?_
          refine wo_callP (args := #[]) (f := 29) hF hS (by kernel_rfl) (by kernel_rfl) (C_law08_awake N hS.fresh   ((hS.pick [] (by kernel_rfl)).ro) hx35) ?_
          clear hF hS hx35
          rintro _ κ w a ⟨rfl, hR, hN⟩ hF hS hO
          clear hR hN hO
          refine ⟨fun _ => ⟨_, (hS.selp [0, 3, 6] (by decide) (by kernel_rfl)).pick [0, 1, 2, 3, 4, 5] (by kernel_rfl)⟩, ?_⟩
          refine any_pure [1] [2, 3, 4, 5, 11, 13, 14, 44] (L' := [(2, .int .i64 (a7)), (3, .string (a8)), (4, .string (a9)), (5, .pointer (some ⟨b11, 0, none⟩)), (11, .pointer (some ⟨b18, 0, none⟩)), (13, .pointer (some ⟨b31, 0, none⟩)), (14, .int .i64 (x26.2)), (44, .bool (x35))]) (listed' := #[true, true, false, false, false, false, false, false, false, false, false, false, false, false, false, false, false, false, false, false, false, false, false, false, false, false, false, false, false, false, false, false, false, false, false, false, false, false]) (fuel := 36) hF ⟨_, (hS.selp [0, 3, 6] (by decide) (by kernel_rfl)).pick [0, 1, 2, 3, 4, 5] (by kernel_rfl)⟩ (by kernel_rfl) (by intro c a w t v h; cases t <;> exact h) (by kernel_rfl) rfl ?_
          clear hF
          intro a hF
          have hF := hF.boolv 44 (by kernel_rfl) hb36
          refine any_pure [2, 3, 4, 5] [2, 3, 4, 5, 11, 13, 48] (L' := [(2, .int .i64 (a7)), (3, .string (a8)), (4, .string (a9)), (5, .pointer (some ⟨b11, 0, none⟩)), (11, .pointer (some ⟨b18, 0, none⟩)), (13, .pointer (some ⟨b31, 0, none⟩)), (48, .bool ((x26.2 == 0)))]) (listed' := #[true, true, true, true, true, true, false, false, false, false, false, false, false, false, false, false, false, false, false, false, false, false, false, false, false, false, false, false, false, false, false, false, false, false, false, false, false, false]) (fuel := 32) hF ⟨_, (hS.selp [0, 3, 6] (by decide) (by kernel_rfl)).pick [0, 1, 2, 3, 4, 5] (by kernel_rfl)⟩ (by kernel_rfl) (by intro c a w t v h; cases t <;> exact h) (by kernel_rfl) rfl ?_
          clear hF
          intro a hF
          have hF := hF.boolv 48 (by kernel_rfl) hb37
          refine any_pure [6, 7, 8, 9, 10, 11, 12, 13, 14, 15, 16, 17, 18, 19, 20, 21, 22, 23, 24, 25, 26, 27, 28, 29, 30, 31, 32, 33, 34, 35, 36, 37] [10] (L' := [(10, .bool (false))]) (listed' := #[true, true, true, true, true, true, true, true, true, true, true, true, true, true, true, true, true, true, true, true, true, true, true, true, true, true, true, true, true, true, true, true, true, true, true, true, true, true]) (fuel := 0) hF ⟨_, (hS.selp [0, 3, 6] (by decide) (by kernel_rfl)).pick [0, 1, 2, 3, 4, 5] (by kernel_rfl)⟩ (by kernel_rfl) (by intro c a w t v h; cases t <;> exact h) (by kernel_rfl) rfl ?_
          clear hF
          intro a hF
          refine any_done (by kernel_rfl) ?_ _
          cases hv34
          exact ⟨_, hF.keep' [10] (by kernel_rfl), (hS.selp [] (by decide) (by kernel_rfl)).pick [] (by kernel_rfl), trivial⟩
      · refine any_go 0 (o := ⟨(some 43), (Go.Op.call (Go.Call.mk (Go.Callee.value (Go.Operand.func 29)) #[] #[])), 4, "law.go:94", #[], none⟩) hF rfl (by kernel_rfl) (by kernel_rfl) (listed' := #[true, false, false, false, false, false, false, false, false, false, false, false, false, false, false, false, false, false, false, false, false, false, false, false, false, false, false, false, false, false, false, false, false, false, false, false, false, false]) (by kernel_rfl) ?_
        refine wo_callP (args := #[]) (f := 29) hF hS (by kernel_rfl) (by kernel_rfl) (C_law08_awake N hS.fresh   ((hS.pick [] (by kernel_rfl)).ro) hx35) ?_
        clear hF hS hx35
        rintro _ κ w a ⟨rfl, hR, hN⟩ hF hS hO
        clear hR hN hO
        refine ⟨fun _ => ⟨_, (hS.selp [0, 3, 6] (by decide) (by kernel_rfl)).pick [0, 1, 2, 3, 4, 5] (by kernel_rfl)⟩, ?_⟩
        refine any_pure [1] [2, 3, 4, 5, 11, 13, 14, 44] (L' := [(2, .int .i64 (a7)), (3, .string (a8)), (4, .string (a9)), (5, .pointer (some ⟨b11, 0, none⟩)), (11, .pointer (some ⟨b18, 0, none⟩)), (13, .pointer (some ⟨b31, 0, none⟩)), (14, .int .i64 (x26.2)), (44, .bool (x35))]) (listed' := #[true, true, false, false, false, false, false, false, false, false, false, false, false, false, false, false, false, false, false, false, false, false, false, false, false, false, false, false, false, false, false, false, false, false, false, false, false, false]) (fuel := 36) hF ⟨_, (hS.selp [0, 3, 6] (by decide) (by kernel_rfl)).pick [0, 1, 2, 3, 4, 5] (by kernel_rfl)⟩ (by kernel_rfl) (by intro c a w t v h; cases t <;> exact h) (by kernel_rfl) rfl ?_
        clear hF
        intro a hF
        have hF := hF.boolv 44 (by kernel_rfl) hb36
        refine any_pure [2, 3, 4, 5, 6, 7, 8, 9, 10, 11, 12, 13, 14, 15, 16, 17, 18, 19, 20, 21, 22, 23, 24, 25, 26, 27, 28, 29, 30, 31, 32, 33, 34, 35, 36, 37] [10] (L' := [(10, .bool (false))]) (listed' := #[true, true, true, true, true, true, true, true, true, true, true, true, true, true, true, true, true, true, true, true, true, true, true, true, true, true, true, true, true, true, true, true, true, true, true, true, true, true]) (fuel := 0) hF ⟨_, (hS.selp [0, 3, 6] (by decide) (by kernel_rfl)).pick [0, 1, 2, 3, 4, 5] (by kernel_rfl)⟩ (by kernel_rfl) (by intro c a w t v h; cases t <;> exact h) (by kernel_rfl) rfl ?_
        clear hF
        intro a hF
        refine any_done (by kernel_rfl) ?_ _
        cases hv34
        exact ⟨_, hF.keep' [10] (by kernel_rfl), (hS.selp [] (by decide) (by kernel_rfl)).pick [] (by kernel_rfl), trivial⟩
    · clear hF hS hv34
      rintro a w ⟨κ, hF, hS, -⟩
      refine hK32 _ _ ?_
      clear hK32 K32
      refine wpIn_ret ?_
      cases H
      exact (ret_done hF hS (res1 Try.results7 (rv_tmp hF (by kernel_rfl))) ⟨rfl, (hS.pick [] (by kernel_rfl)).ro, hS.newC [] (by decide) (by kernel_rfl)⟩)
end Go.Cf
