/- The walks: each function returns what its model says. Printed by a program of ours. -/
import Derived.Test.YtjohablgnnbelaaM4f
import Derived.Test.YtjohablgnnbelaaW1
import Derived.Test.YtjohablgnnbelaaW2
import Derived.Test.YtjohablgnnbelaaW2c
import Derived.Test.YtjohablgnnbelaaW4
namespace Go.Cf
open Go Go.Proofs
set_option linter.unusedVariables false
set_option maxRecDepth 20000 in
set_option maxHeartbeats 1000000 in
theorem C_law08_SpanFinds (N : Nat) {κ0 : Gh} {w0 : World} (hfr : Fresh κ0 w0) (a1 : T_api_Map) (a6 : ByteArray) (a7 : ByteArray) (a8 : ByteArray) (a9 : Int) (p2 : Option Addr) (c3 : Nat) (p4 : Option Addr) (c5 : Nat) (hR : ∀ m ∈ ([Ro.mp fStr.ty p2 c3 a1.Cuts, Ro.mp (fInt .i64).ty p4 c5 a1.Nodes] : List MP), m.p κ0 w0) {r : (Bool)} (H : M.law08_SpanFinds N a1 a6 a7 a8 a9 = some r) :
    Calls Try.prog 5 #[.agg (flat [(1, [.slice p2 (a1.Cuts).length c3]), (1, [.slice p4 (a1.Nodes).length c5])]).toArray, .string (a6), .string (a7), .string (a8), .int .i64 (a9)] w0 (Post [] κ0 w0 fun v κ w => v = .bool (r) ∧ (∀ m ∈ ([] : List MP), m.p κ w) ∧ NewC w0 κ w []) := by
  have hS := SS.start hfr hR
  clear hR
  refine enterM (N := (154)) (L := [(0, .agg (flat [(1, [.slice p2 (a1.Cuts).length c3]), (1, [.slice p4 (a1.Nodes).length c5])]).toArray), (1, .string (a6)), (2, .string (a7)), (3, .string (a8)), (4, .int .i64 (a9))]) Try.func5 rfl Try.ntmps5 (show 5 ≤ (154) by decide) rfl fun a hF => ?_
  unfold M.law08_SpanFinds at H
  refine wpIn_seq_k fun K10 hK10 => ?_
  refine wpIn_region_lit ?_
  refine wl_cons rfl (wo_box hF hS (by kernel_rfl) (v := .agg (flat [(1, [.slice p2 (a1.Cuts).length c3]), (1, [.slice p4 (a1.Nodes).length c5])]).toArray) (s := [(1, [.slice p2 (a1.Cuts).length c3]), (1, [.slice p4 (a1.Nodes).length c5])]) rfl (by kernel_rfl) (sgV rfl (sgV rfl sgNil)).1 (by kernel_rfl) ?_)
  clear hF hS
  intro b11 a w hF hS
  refine wl_cons rfl (wo_alloc hF hS (by kernel_rfl) (z := .bool (false)) (s := [(1, [.bool (false)])]) rfl (by kernel_rfl) (sgV rfl sgNil).1 (by kernel_rfl) ?_)
  clear hF hS
  intro b12 a w hF hS
  refine wpListIn_nil ?_
  refine hK10 _ _ ?_
  clear hK10 K10
  refine wpIn_seq_k fun K13 hK13 => ?_
  refine wpIn_seq_k fun K14 hK14 => ?_
  refine wpIn_region_lit ?_
  refine bind_split H (fun x15 hx15 H => ?_)
  refine wl_cons rfl (wo_callP (args := #[]) (f := 29) hF hS (by kernel_rfl) (by kernel_rfl) (C_law08_awake N hS.fresh   ((hS.pick [] (by kernel_rfl)).ro) hx15) ?_)
  clear hF hS hx15
  rintro _ κ w a ⟨rfl, hR, hN⟩ hF hS hO
  clear hR hN hO
  refine wl_pure (L' := [(1, .string (a6)), (2, .string (a7)), (3, .string (a8)), (4, .int .i64 (a9)), (5, .pointer (some ⟨b11, 0, none⟩)), (10, .pointer (some ⟨b12, 0, none⟩)), (26, .bool ((!x15)))]) 1 [1, 2, 3, 4, 5, 10, 26] hF (by kernel_rfl) ?_
  clear hF
  intro a hF
  refine wpListIn_nil ?_
  refine hK14 _ _ ?_
  clear hK14 K14
  refine bif_split H (fun hb H => ?_) (fun hb H => ?_)
  · refine cond_t hF (by kernel_rfl) hb ?_
    clear hb
    refine wpIn_seq_k fun K16 hK16 => ?_
    refine wpIn_region_lit ?_
    refine wl_cons rfl (wo_stores hF hS (by kernel_rfl) 0 0 1 (v := .bool (false)) (s' := [(1, [.bool (false)])]) (t := [(1, [.bool (false)])]) (C' := [.box b12 4 [(1, [.bool (false)])], .box b11 26 [(1, [.slice p2 (a1.Cuts).length c3]), (1, [.slice p4 (a1.Nodes).length c5])]]) (n := 1) rfl rfl (by kernel_rfl) rfl (by kernel_rfl) (by kernel_rfl) (by kernel_rfl) (by kernel_rfl) (sgV rfl sgNil).1 (sgV rfl sgNil).2 (by kernel_rfl) (by kernel_rfl) (by kernel_rfl) ?_)
    clear hF hS
    intro a w hF hS
    refine wpListIn_nil ?_
    refine hK16 _ _ ?_
    clear hK16 K16
    refine wpIn_ret ?_
    have hS' := hS
    cases H
    exact (ret_done0 hF hS (res1 Try.results5 (rv_cell hF hS' 0 0 0 rfl rfl rfl rfl (by kernel_rfl) (by kernel_rfl))) ⟨rfl, (hS.pick [] (by kernel_rfl)).ro, hS.newC [] (by decide) (by kernel_rfl)⟩)
  · refine cond_f hF (by kernel_rfl) hb ?_
    clear hb
    refine wpIn_skip ?_
    refine hK13 _ _ ?_
    refine wpIn_seq_k fun K17 hK17 => ?_
    refine wpIn_seq_k fun K18 hK18 => ?_
    refine wpIn_region_lit ?_
    refine wl_cons rfl (wo_loads hF hS (by kernel_rfl) 1 0 2 (s' := [(1, [.slice p2 (a1.Cuts).length c3]), (1, [.slice p4 (a1.Nodes).length c5])]) (n := 2) rfl rfl rfl (by kernel_rfl) (by kernel_rfl) (by kernel_rfl) (by kernel_rfl) (by kernel_rfl) ?_)
    clear hF
    intro a hF
    refine bind_split H (fun x19 hx19 H => ?_)
    refine wl_cons rfl (wo_callP (args := #[.agg (flat [(1, [.slice p2 (a1.Cuts).length c3]), (1, [.slice p4 (a1.Nodes).length c5])]).toArray]) (f := 32) hF hS (by kernel_rfl) (by kernel_rfl) (C_law08_great N hS.fresh (T_api_Map.mk a1.Cuts a1.Nodes) p2 c3 p4 c5 ((hS.pick [0, 1] (by kernel_rfl)).ro) hx19) ?_)
    clear hF hS hx19
    rintro _ κ w a ⟨rfl, hR, hN⟩ hF hS hO
    clear hR hN hO
    refine wpListIn_nil ?_
    refine hK18 _ _ ?_
    clear hK18 K18
    refine bif_split H (fun hb H => ?_) (fun hb H => ?_)
    · refine cond_t hF (by kernel_rfl) hb ?_
      clear hb
      refine wpIn_seq_k fun K20 hK20 => ?_
      refine wpIn_region_lit ?_
      refine bind_split H (fun x21 hx21 H => ?_)
      refine wl_cons rfl (wo_callP (args := #[]) (f := 29) hF hS (by kernel_rfl) (by kernel_rfl) (C_law08_awake N hS.fresh   ((hS.pick [] (by kernel_rfl)).ro) hx21) ?_)
      clear hF hS hx21
      rintro _ κ w a ⟨rfl, hR, hN⟩ hF hS hO
      clear hR hN hO
      refine wl_cons rfl (wo_stores hF hS (by kernel_rfl) 0 0 1 (v := .bool (x21)) (s' := [(1, [.bool (x21)])]) (t := [(1, [.bool (x21)])]) (C' := [.box b12 4 [(1, [.bool (x21)])], .box b11 26 [(1, [.slice p2 (a1.Cuts).length c3]), (1, [.slice p4 (a1.Nodes).length c5])]]) (n := 1) rfl rfl (by kernel_rfl) rfl (by kernel_rfl) (by kernel_rfl) (by kernel_rfl) (by kernel_rfl) (sgV rfl sgNil).1 (sgV rfl sgNil).2 (by kernel_rfl) (by kernel_rfl) (by kernel_rfl) ?_)
      clear hF hS
      intro a w hF hS
      refine wpListIn_nil ?_
      refine hK20 _ _ ?_
      clear hK20 K20
      refine wpIn_ret ?_
      have hS' := hS
      cases H
      exact (ret_done0 hF hS (res1 Try.results5 (rv_cell hF hS' 0 0 0 rfl rfl rfl rfl (by kernel_rfl) (by kernel_rfl))) ⟨rfl, (hS.pick [] (by kernel_rfl)).ro, hS.newC [] (by decide) (by kernel_rfl)⟩)
    · refine cond_f hF (by kernel_rfl) hb ?_
      clear hb
      refine wpIn_skip ?_
      refine hK17 _ _ ?_
      refine wpIn_seq_k fun K22 hK22 => ?_
      refine wpIn_region_lit ?_
      refine wl_cons rfl (wo_loads hF hS (by kernel_rfl) 1 0 2 (s' := [(1, [.slice p2 (a1.Cuts).length c3]), (1, [.slice p4 (a1.Nodes).length c5])]) (n := 2) rfl rfl rfl (by kernel_rfl) (by kernel_rfl) (by kernel_rfl) (by kernel_rfl) (by kernel_rfl) ?_)
      clear hF
      intro a hF
      refine wl_pure (L' := [(1, .string (a6)), (2, .string (a7)), (3, .string (a8)), (4, .int .i64 (a9)), (5, .pointer (some ⟨b11, 0, none⟩)), (10, .pointer (some ⟨b12, 0, none⟩)), (31, .agg (flat [(1, [.slice p2 (a1.Cuts).length c3]), (1, [.slice p4 (a1.Nodes).length c5])]).toArray), (32, .int .i64 (a9))]) 1 [1, 2, 3, 4, 5, 10, 31, 32] hF (by kernel_rfl) ?_
      clear hF
      intro a hF
      refine bind_split H (fun x23 hx23 H => ?_)
      refine wl_cons rfl (wo_callP (args := #[.agg (flat [(1, [.slice p2 (a1.Cuts).length c3]), (1, [.slice p4 (a1.Nodes).length c5])]).toArray, .int .i64 (a9)]) (f := 33) hF hS (by kernel_rfl) (by kernel_rfl) (C_span_At N hS.fresh (T_api_Map.mk a1.Cuts a1.Nodes) a9 p2 c3 p4 c5 ((hS.pick [0, 1] (by kernel_rfl)).ro) hx23) ?_)
      clear hF hS hx23
      rintro _ κ w a ⟨rfl, hR, hN⟩ hF hS hO
      clear hR hN hO
      refine wl_pure (L' := [(1, .string (a6)), (2, .string (a7)), (3, .string (a8)), (4, .int .i64 (a9)), (5, .pointer (some ⟨b11, 0, none⟩)), (10, .pointer (some ⟨b12, 0, none⟩)), (34, .agg (flat [(1, [.string (x23.1.Lo)]), (1, [.string (x23.1.Hi)]), (1, [.int .i64 (x23.1.Node)])]).toArray), (35, .bool (x23.2))]) 3 [1, 2, 3, 4, 5, 10, 34, 35] hF (by kernel_rfl) ?_
      clear hF
      intro a hF
      refine wl_cons rfl (wo_alloc hF hS (by kernel_rfl) (z := .agg (flat [(1, [.string (ByteArray.empty)]), (1, [.string (ByteArray.empty)]), (1, [.int .i64 (0)])]).toArray) (s := [(1, [.string (ByteArray.empty)]), (1, [.string (ByteArray.empty)]), (1, [.int .i64 (0)])]) rfl (by kernel_rfl) (sgV rfl (sgV rfl (sgV rfl sgNil))).1 (by kernel_rfl) ?_)
      clear hF hS
      intro b24 a w hF hS
      refine wl_cons rfl (wo_stores hF hS (by kernel_rfl) 0 0 3 (v := .agg (flat [(1, [.string (x23.1.Lo)]), (1, [.string (x23.1.Hi)]), (1, [.int .i64 (x23.1.Node)])]).toArray) (s' := [(1, [.string (x23.1.Lo)]), (1, [.string (x23.1.Hi)]), (1, [.int .i64 (x23.1.Node)])]) (t := [(1, [.string (x23.1.Lo)]), (1, [.string (x23.1.Hi)]), (1, [.int .i64 (x23.1.Node)])]) (C' := [.box b24 46 [(1, [.string (x23.1.Lo)]), (1, [.string (x23.1.Hi)]), (1, [.int .i64 (x23.1.Node)])], .box b12 4 [(1, [.bool (false)])], .box b11 26 [(1, [.slice p2 (a1.Cuts).length c3]), (1, [.slice p4 (a1.Nodes).length c5])]]) (n := 3) rfl rfl (by kernel_rfl) rfl (by kernel_rfl) (by kernel_rfl) (by kernel_rfl) (by kernel_rfl) (sgV rfl (sgV rfl (sgV rfl sgNil))).1 (sgV rfl (sgV rfl (sgV rfl sgNil))).2 (by kernel_rfl) (by kernel_rfl) (by kernel_rfl) ?_)
      clear hF hS
      intro a w hF hS
      refine wl_pure (L' := [(1, .string (a6)), (2, .string (a7)), (3, .string (a8)), (4, .int .i64 (a9)), (5, .pointer (some ⟨b11, 0, none⟩)), (10, .pointer (some ⟨b12, 0, none⟩)), (11, .pointer (some ⟨b24, 0, none⟩)), (12, .bool (x23.2))]) 1 [1, 2, 3, 4, 5, 10, 11, 12] hF (by kernel_rfl) ?_
      clear hF
      intro a hF
      refine wpListIn_nil ?_
      refine hK22 _ _ ?_
      clear hK22 K22
      refine wpIn_seq_k fun K25 hK25 => ?_
      refine wpIn_region_lit ?_
      refine wl_cons rfl (wo_loads hF hS (by kernel_rfl) 2 0 2 (s' := [(1, [.slice p2 (a1.Cuts).length c3]), (1, [.slice p4 (a1.Nodes).length c5])]) (n := 2) rfl rfl rfl (by kernel_rfl) (by kernel_rfl) (by kernel_rfl) (by kernel_rfl) (by kernel_rfl) ?_)
      clear hF
      intro a hF
      refine wl_pure (L' := [(1, .string (a6)), (2, .string (a7)), (3, .string (a8)), (4, .int .i64 (a9)), (5, .pointer (some ⟨b11, 0, none⟩)), (10, .pointer (some ⟨b12, 0, none⟩)), (11, .pointer (some ⟨b24, 0, none⟩)), (12, .bool (x23.2)), (37, .agg (flat [(1, [.slice p2 (a1.Cuts).length c3]), (1, [.slice p4 (a1.Nodes).length c5])]).toArray), (38, .int .i64 (a9))]) 1 [1, 2, 3, 4, 5, 10, 11, 12, 37, 38] hF (by kernel_rfl) ?_
      clear hF
      intro a hF
      refine bind_split H (fun x26 hx26 H => ?_)
      refine wl_cons rfl (wo_callP (args := #[.agg (flat [(1, [.slice p2 (a1.Cuts).length c3]), (1, [.slice p4 (a1.Nodes).length c5])]).toArray, .int .i64 (a9)]) (f := 34) hF hS (by kernel_rfl) (by kernel_rfl) (C_ref08_Ends N hS.fresh (T_api_Map.mk a1.Cuts a1.Nodes) a9 p2 c3 p4 c5 ((hS.pick [0, 1] (by kernel_rfl)).ro) hx26) ?_)
      clear hF hS hx26
      rintro _ κ w a ⟨rfl, hR, hN⟩ hF hS hO
      clear hR hN hO
      refine wl_pure (L' := [(1, .string (a6)), (2, .string (a7)), (3, .string (a8)), (4, .int .i64 (a9)), (5, .pointer (some ⟨b11, 0, none⟩)), (10, .pointer (some ⟨b12, 0, none⟩)), (11, .pointer (some ⟨b24, 0, none⟩)), (12, .bool (x23.2)), (13, .string (x26.1)), (14, .string (x26.2.1)), (15, .bool (x26.2.2))]) 7 [1, 2, 3, 4, 5, 10, 11, 12, 13, 14, 15] hF (by kernel_rfl) ?_
      clear hF
      intro a hF
      refine wpListIn_nil ?_
      refine hK25 _ _ ?_
      clear hK25 K25
      refine wpIn_seq_k fun K27 hK27 => ?_
      refine wpIn_seq_k fun K28 hK28 => ?_
      refine bind_split H (fun v30 hv30 H => ?_)
      refine code_join (fun a w => ∃ κ : Gh, Fr (154) [] [(1, .string (a6)), (2, .string (a7)), (3, .string (a8)), (5, .pointer (some ⟨b11, 0, none⟩)), (10, .pointer (some ⟨b12, 0, none⟩)), (70, .bool (v30))] a ∧ SS [] κ0 w0 κ w [.box b12 4 [(1, [.bool (false)])], .box b11 26 [(1, [.slice p2 (a1.Cuts).length c3]), (1, [.slice p4 (a1.Nodes).length c5])]] [Ro.mp fStr.ty p2 c3 a1.Cuts, Ro.mp (fInt .i64).ty p4 c5 a1.Nodes] ∧ True) ?_ ?_
      · clear H
        refine region_any (SSx [] κ0 w0 [.box b24 46 [(1, [.string (x23.1.Lo)]), (1, [.string (x23.1.Hi)]), (1, [.int .i64 (x23.1.Node)])], .box b12 4 [(1, [.bool (false)])], .box b11 26 [(1, [.slice p2 (a1.Cuts).length c3]), (1, [.slice p4 (a1.Nodes).length c5])]] [Ro.mp fStr.ty p2 c3 a1.Cuts, Ro.mp (fInt .i64).ty p4 c5 a1.Nodes]) [] (by kernel_rfl) (n := 28) (by kernel_rfl) (l := #[false, false, false, false, false, false, false, false, false, false, false, false, false, false, false, false, false, false, false, false, false, false, false, false, false, false, false, false]) (by kernel_rfl) ?_
        have hS := hS.drew
        refine any_pure [0, 1, 2, 3] [1, 2, 3, 4, 5, 10, 11, 12, 13, 14, 46] (L' := [(1, .string (a6)), (2, .string (a7)), (3, .string (a8)), (4, .int .i64 (a9)), (5, .pointer (some ⟨b11, 0, none⟩)), (10, .pointer (some ⟨b12, 0, none⟩)), (11, .pointer (some ⟨b24, 0, none⟩)), (12, .bool (x23.2)), (13, .string (x26.1)), (14, .string (x26.2.1)), (46, .bool ((!(x23.2 == x26.2.2))))]) (listed' := #[true, true, true, true, false, false, false, false, false, false, false, false, false, false, false, false, false, false, false, false, false, false, false, false, false, false, false, false]) (fuel := 24) hF ⟨_, (hS.selp [0, 1, 2] (by decide) (by kernel_rfl)).pick [0, 1] (by kernel_rfl)⟩ (by kernel_rfl) (by intro c a w t v h; cases t <;> exact h) (by kernel_rfl) rfl ?_
        clear hF
        intro a hF
        refine bif_split hv30 (fun hb hv30 => ?_) (fun hb hv30 => ?_)
        · have hF := hF.boolv 46 (by kernel_rfl) hb
          clear hb
          refine any_pure [4, 5, 6, 7, 8, 9, 10, 11, 12, 13, 14, 15, 16, 17, 18, 19, 20, 21, 22, 23, 24, 25, 26, 27] [1, 2, 3, 5, 10, 70] (L' := [(1, .string (a6)), (2, .string (a7)), (3, .string (a8)), (5, .pointer (some ⟨b11, 0, none⟩)), (10, .pointer (some ⟨b12, 0, none⟩)), (70, .bool (true))]) (listed' := #[true, true, true, true, true, true, true, true, true, true, true, true, true, true, true, true, true, true, true, true, true, true, true, true, true, true, true, true]) (fuel := 0) hF ⟨_, (hS.selp [0, 1, 2] (by decide) (by kernel_rfl)).pick [0, 1] (by kernel_rfl)⟩ (by kernel_rfl) (by intro c a w t v h; cases t <;> exact h) (by kernel_rfl) rfl ?_
          clear hF
          intro a hF
          refine any_done (by kernel_rfl) ?_ _
          cases hv30
          exact ⟨_, hF.keep' [1, 2, 3, 5, 10, 70] (by kernel_rfl), (hS.selp [1, 2] (by decide) (by kernel_rfl)).pick [0, 1] (by kernel_rfl), trivial⟩
        · have hF := hF.boolv 46 (by kernel_rfl) hb
          clear hb
          refine any_pure [4, 6] [1, 2, 3, 4, 5, 10, 11, 12, 14, 46, 47, 49] (L' := [(1, .string (a6)), (2, .string (a7)), (3, .string (a8)), (4, .int .i64 (a9)), (5, .pointer (some ⟨b11, 0, none⟩)), (10, .pointer (some ⟨b12, 0, none⟩)), (11, .pointer (some ⟨b24, 0, none⟩)), (12, .bool (x23.2)), (14, .string (x26.2.1)), (46, .bool (false)), (47, .pointer (some ⟨b24, 0, none⟩)), (49, .string (x26.1))]) (listed' := #[true, true, true, true, true, false, true, false, false, false, false, false, false, false, false, false, false, false, false, false, false, false, false, false, false, false, false, false]) (fuel := 22) hF ⟨_, (hS.selp [0, 1, 2] (by decide) (by kernel_rfl)).pick [0, 1] (by kernel_rfl)⟩ (by kernel_rfl) (by intro c a w t v h; cases t <;> exact h) (by kernel_rfl) rfl ?_
          clear hF
          intro a hF
          refine any_take 5 (some 48) hF ⟨_, (hS.selp [0, 1, 2] (by decide) (by kernel_rfl)).pick [0, 1] (by kernel_rfl)⟩ rfl (by kernel_rfl) (by kernel_rfl) (by intro c a w v h; exact h) (by kernel_rfl) (by kernel_rfl) (by kernel_rfl) rfl (val_load 0 0 0 (v := .string (x23.1.Lo)) rfl rfl rfl rfl rfl (by kernel_rfl) (by kernel_rfl)) ?_
          clear hF
          intro a hF
          refine any_pure [7, 8, 9] [1, 2, 3, 4, 5, 10, 11, 12, 14, 52] (L' := [(1, .string (a6)), (2, .string (a7)), (3, .string (a8)), (4, .int .i64 (a9)), (5, .pointer (some ⟨b11, 0, none⟩)), (10, .pointer (some ⟨b12, 0, none⟩)), (11, .pointer (some ⟨b24, 0, none⟩)), (12, .bool (x23.2)), (14, .string (x26.2.1)), (52, .bool ((!sEq x23.1.Lo x26.1)))]) (listed' := #[true, true, true, true, true, true, true, true, true, true, false, false, false, false, false, false, false, false, false, false, false, false, false, false, false, false, false, false]) (fuel := 18) hF ⟨_, (hS.selp [0, 1, 2] (by decide) (by kernel_rfl)).pick [0, 1] (by kernel_rfl)⟩ (by kernel_rfl) (by intro c a w t v h; cases t <;> exact h) (by kernel_rfl) rfl ?_
          clear hF
          intro a hF
          refine bif_split hv30 (fun hb hv30 => ?_) (fun hb hv30 => ?_)
          · have hF := hF.boolv 52 (by kernel_rfl) hb
            clear hb
            refine any_pure [10, 11, 12, 13, 14, 15, 16, 17, 18, 19, 20, 21, 22, 23, 24, 25, 26, 27] [1, 2, 3, 5, 10, 70] (L' := [(1, .string (a6)), (2, .string (a7)), (3, .string (a8)), (5, .pointer (some ⟨b11, 0, none⟩)), (10, .pointer (some ⟨b12, 0, none⟩)), (70, .bool (true))]) (listed' := #[true, true, true, true, true, true, true, true, true, true, true, true, true, true, true, true, true, true, true, true, true, true, true, true, true, true, true, true]) (fuel := 0) hF ⟨_, (hS.selp [0, 1, 2] (by decide) (by kernel_rfl)).pick [0, 1] (by kernel_rfl)⟩ (by kernel_rfl) (by intro c a w t v h; cases t <;> exact h) (by kernel_rfl) rfl ?_
            clear hF
            intro a hF
            refine any_done (by kernel_rfl) ?_ _
            cases hv30
            exact ⟨_, hF.keep' [1, 2, 3, 5, 10, 70] (by kernel_rfl), (hS.selp [1, 2] (by decide) (by kernel_rfl)).pick [0, 1] (by kernel_rfl), trivial⟩
          · have hF := hF.boolv 52 (by kernel_rfl) hb
            clear hb
            refine any_pure [10, 12] [1, 2, 3, 4, 5, 10, 11, 12, 52, 53, 55] (L' := [(1, .string (a6)), (2, .string (a7)), (3, .string (a8)), (4, .int .i64 (a9)), (5, .pointer (some ⟨b11, 0, none⟩)), (10, .pointer (some ⟨b12, 0, none⟩)), (11, .pointer (some ⟨b24, 0, none⟩)), (12, .bool (x23.2)), (52, .bool (false)), (53, .pointer (some ⟨b24, 1, none⟩)), (55, .string (x26.2.1))]) (listed' := #[true, true, true, true, true, true, true, true, true, true, true, false, true, false, false, false, false, false, false, false, false, false, false, false, false, false, false, false]) (fuel := 16) hF ⟨_, (hS.selp [0, 1, 2] (by decide) (by kernel_rfl)).pick [0, 1] (by kernel_rfl)⟩ (by kernel_rfl) (by intro c a w t v h; cases t <;> exact h) (by kernel_rfl) rfl ?_
            clear hF
            intro a hF
            refine any_take 11 (some 54) hF ⟨_, (hS.selp [0, 1, 2] (by decide) (by kernel_rfl)).pick [0, 1] (by kernel_rfl)⟩ rfl (by kernel_rfl) (by kernel_rfl) (by intro c a w v h; exact h) (by kernel_rfl) (by kernel_rfl) (by kernel_rfl) rfl (val_load 0 1 0 (v := .string (x23.1.Hi)) rfl rfl rfl rfl rfl (by kernel_rfl) (by kernel_rfl)) ?_
            clear hF
            intro a hF
            refine any_pure [13, 14, 15] [1, 2, 3, 4, 5, 10, 11, 12, 58] (L' := [(1, .string (a6)), (2, .string (a7)), (3, .string (a8)), (4, .int .i64 (a9)), (5, .pointer (some ⟨b11, 0, none⟩)), (10, .pointer (some ⟨b12, 0, none⟩)), (11, .pointer (some ⟨b24, 0, none⟩)), (12, .bool (x23.2)), (58, .bool ((!sEq x23.1.Hi x26.2.1)))]) (listed' := #[true, true, true, true, true, true, true, true, true, true, true, true, true, true, true, true, false, false, false, false, false, false, false, false, false, false, false, false]) (fuel := 12) hF ⟨_, (hS.selp [0, 1, 2] (by decide) (by kernel_rfl)).pick [0, 1] (by kernel_rfl)⟩ (by kernel_rfl) (by intro c a w t v h; cases t <;> exact h) (by kernel_rfl) rfl ?_
            clear hF
            intro a hF
            refine bif_split hv30 (fun hb hv30 => ?_) (fun hb hv30 => ?_)
            · have hF := hF.boolv 58 (by kernel_rfl) hb
              clear hb
              refine any_pure [16, 17, 18, 19, 20, 21, 22, 23, 24, 25, 26, 27] [1, 2, 3, 5, 10, 70] (L' := [(1, .string (a6)), (2, .string (a7)), (3, .string (a8)), (5, .pointer (some ⟨b11, 0, none⟩)), (10, .pointer (some ⟨b12, 0, none⟩)), (70, .bool (true))]) (listed' := #[true, true, true, true, true, true, true, true, true, true, true, true, true, true, true, true, true, true, true, true, true, true, true, true, true, true, true, true]) (fuel := 0) hF ⟨_, (hS.selp [0, 1, 2] (by decide) (by kernel_rfl)).pick [0, 1] (by kernel_rfl)⟩ (by kernel_rfl) (by intro c a w t v h; cases t <;> exact h) (by kernel_rfl) rfl ?_
              clear hF
              intro a hF
              refine any_done (by kernel_rfl) ?_ _
              cases hv30
              exact ⟨_, hF.keep' [1, 2, 3, 5, 10, 70] (by kernel_rfl), (hS.selp [1, 2] (by decide) (by kernel_rfl)).pick [0, 1] (by kernel_rfl), trivial⟩
            · have hF := hF.boolv 58 (by kernel_rfl) hb
              clear hb
              refine any_pure [16, 17] [1, 2, 3, 4, 5, 10, 11, 58, 60] (L' := [(1, .string (a6)), (2, .string (a7)), (3, .string (a8)), (4, .int .i64 (a9)), (5, .pointer (some ⟨b11, 0, none⟩)), (10, .pointer (some ⟨b12, 0, none⟩)), (11, .pointer (some ⟨b24, 0, none⟩)), (58, .bool (false)), (60, .bool (x23.2))]) (listed' := #[true, true, true, true, true, true, true, true, true, true, true, true, true, true, true, true, true, true, false, false, false, false, false, false, false, false, false, false]) (fuel := 10) hF ⟨_, (hS.selp [0, 1, 2] (by decide) (by kernel_rfl)).pick [0, 1] (by kernel_rfl)⟩ (by kernel_rfl) (by intro c a w t v h; cases t <;> exact h) (by kernel_rfl) rfl ?_
              clear hF
              intro a hF
              refine bif_split hv30 (fun hb hv30 => ?_) (fun hb hv30 => ?_)
              · have hF := hF.boolv 60 (by kernel_rfl) hb
                clear hb
                refine any_pure [18, 20, 22] [1, 2, 3, 5, 10, 58, 60, 61, 63, 65] (L' := [(1, .string (a6)), (2, .string (a7)), (3, .string (a8)), (5, .pointer (some ⟨b11, 0, none⟩)), (10, .pointer (some ⟨b12, 0, none⟩)), (58, .bool (false)), (60, .bool (true)), (61, .pointer (some ⟨b24, 2, none⟩)), (63, .pointer (some ⟨b11, 1, none⟩)), (65, .int .i64 (a9))]) (listed' := #[true, true, true, true, true, true, true, true, true, true, true, true, true, true, true, true, true, true, true, false, true, false, true, false, false, false, false, false]) (fuel := 7) hF ⟨_, (hS.selp [0, 1, 2] (by decide) (by kernel_rfl)).pick [0, 1] (by kernel_rfl)⟩ (by kernel_rfl) (by intro c a w t v h; cases t <;> exact h) (by kernel_rfl) rfl ?_
                clear hF
                intro a hF
                refine any_take 19 (some 62) hF ⟨_, (hS.selp [0, 1, 2] (by decide) (by kernel_rfl)).pick [0, 1] (by kernel_rfl)⟩ rfl (by kernel_rfl) (by kernel_rfl) (by intro c a w v h; exact h) (by kernel_rfl) (by kernel_rfl) (by kernel_rfl) rfl (val_load 0 2 0 (v := .int .i64 (x23.1.Node)) rfl rfl rfl rfl rfl (by kernel_rfl) (by kernel_rfl)) ?_
                clear hF
                intro a hF
                refine any_take 21 (some 64) hF ⟨_, (hS.selp [0, 1, 2] (by decide) (by kernel_rfl)).pick [0, 1] (by kernel_rfl)⟩ rfl (by kernel_rfl) (by kernel_rfl) (by intro c a w v h; exact h) (by kernel_rfl) (by kernel_rfl) (by kernel_rfl) rfl (val_load 2 1 0 (v := .slice p4 (a1.Nodes).length c5) rfl rfl rfl rfl rfl (by kernel_rfl) (by kernel_rfl)) ?_
                clear hF
                intro a hF
                refine bind_split hv30 (fun x31 hx31 hv30 => ?_)
                obtain ⟨b32, f33, hpx31⟩ := hS.ptr 1 rfl hx31
                refine any_take 23 (some 66) hF ⟨_, (hS.selp [0, 1, 2] (by decide) (by kernel_rfl)).pick [0, 1] (by kernel_rfl)⟩ rfl (by kernel_rfl) (by kernel_rfl) (by intro c a w v h; exact h) (by kernel_rfl) (by kernel_rfl) (by kernel_rfl) rfl (fun w _ => val_index (E := 3) (sz := 1) rfl hpx31 rfl (by kernel_rfl) rfl hx31 (by kernel_rfl) (by kernel_rfl) w) ?_
                clear hF
                intro a hF
                refine any_take 24 (some 67) hF ⟨_, (hS.selp [0, 1, 2] (by decide) (by kernel_rfl)).pick [0, 1] (by kernel_rfl)⟩ rfl (by kernel_rfl) (by kernel_rfl) (by intro c a w v h; exact h) (by kernel_rfl) (by kernel_rfl) (by kernel_rfl) rfl (val_loadRo (t := (fInt .i64)) 1 0 (v := .int .i64 (x31)) rfl rfl hpx31 rfl hx31 (by kernel_rfl) (by kernel_rfl) (by kernel_rfl)) ?_
                clear hF
                intro a hF
                refine any_pure [25, 26, 27] [1, 2, 3, 5, 10, 70] (L' := [(1, .string (a6)), (2, .string (a7)), (3, .string (a8)), (5, .pointer (some ⟨b11, 0, none⟩)), (10, .pointer (some ⟨b12, 0, none⟩)), (70, .bool ((x23.1.Node != x31)))]) (listed' := #[true, true, true, true, true, true, true, true, true, true, true, true, true, true, true, true, true, true, true, true, true, true, true, true, true, true, true, true]) (fuel := 0) hF ⟨_, (hS.selp [0, 1, 2] (by decide) (by kernel_rfl)).pick [0, 1] (by kernel_rfl)⟩ (by kernel_rfl) (by intro c a w t v h; cases t <;> exact h) (by kernel_rfl) rfl ?_
                clear hF
                intro a hF
                refine any_done (by kernel_rfl) ?_ _
                cases hv30
                exact ⟨_, hF.keep' [1, 2, 3, 5, 10, 70] (by kernel_rfl), (hS.selp [1, 2] (by decide) (by kernel_rfl)).pick [0, 1] (by kernel_rfl), trivial⟩
              · have hF := hF.boolv 60 (by kernel_rfl) hb
                clear hb
                refine any_pure [18, 19, 20, 21, 22, 23, 24, 25, 26, 27] [1, 2, 3, 5, 10, 70] (L' := [(1, .string (a6)), (2, .string (a7)), (3, .string (a8)), (5, .pointer (some ⟨b11, 0, none⟩)), (10, .pointer (some ⟨b12, 0, none⟩)), (70, .bool (false))]) (listed' := #[true, true, true, true, true, true, true, true, true, true, true, true, true, true, true, true, true, true, true, true, true, true, true, true, true, true, true, true]) (fuel := 0) hF ⟨_, (hS.selp [0, 1, 2] (by decide) (by kernel_rfl)).pick [0, 1] (by kernel_rfl)⟩ (by kernel_rfl) (by intro c a w t v h; cases t <;> exact h) (by kernel_rfl) rfl ?_
                clear hF
                intro a hF
                refine any_done (by kernel_rfl) ?_ _
                cases hv30
                exact ⟨_, hF.keep' [1, 2, 3, 5, 10, 70] (by kernel_rfl), (hS.selp [1, 2] (by decide) (by kernel_rfl)).pick [0, 1] (by kernel_rfl), trivial⟩
      · clear hF hS hv30
        rintro a w ⟨κ, hF, hS, -⟩
        refine hK28 _ _ ?_
        clear hK28 K28
        refine bif_split H (fun hb H => ?_) (fun hb H => ?_)
        · refine cond_t hF (by kernel_rfl) hb ?_
          clear hb
          refine wpIn_seq_k fun K34 hK34 => ?_
          refine wpIn_region_lit ?_
          refine wl_cons rfl (wo_stores hF hS (by kernel_rfl) 0 0 1 (v := .bool (false)) (s' := [(1, [.bool (false)])]) (t := [(1, [.bool (false)])]) (C' := [.box b12 4 [(1, [.bool (false)])], .box b11 26 [(1, [.slice p2 (a1.Cuts).length c3]), (1, [.slice p4 (a1.Nodes).length c5])]]) (n := 1) rfl rfl (by kernel_rfl) rfl (by kernel_rfl) (by kernel_rfl) (by kernel_rfl) (by kernel_rfl) (sgV rfl sgNil).1 (sgV rfl sgNil).2 (by kernel_rfl) (by kernel_rfl) (by kernel_rfl) ?_)
          clear hF hS
          intro a w hF hS
          refine wpListIn_nil ?_
          refine hK34 _ _ ?_
          clear hK34 K34
          refine wpIn_ret ?_
          have hS' := hS
          cases H
          exact (ret_done0 hF hS (res1 Try.results5 (rv_cell hF hS' 0 0 0 rfl rfl rfl rfl (by kernel_rfl) (by kernel_rfl))) ⟨rfl, (hS.pick [] (by kernel_rfl)).ro, hS.newC [] (by decide) (by kernel_rfl)⟩)
        · refine cond_f hF (by kernel_rfl) hb ?_
          clear hb
          refine wpIn_skip ?_
          refine hK27 _ _ ?_
          refine wpIn_seq_k fun K35 hK35 => ?_
          refine wpIn_region_lit ?_
          refine wl_cons rfl (wo_alloc hF hS (by kernel_rfl) (z := .int .i64 (0)) (s := [(1, [.int .i64 (0)])]) rfl (by kernel_rfl) (sgV rfl sgNil).1 (by kernel_rfl) ?_)
          clear hF hS
          intro b36 a w hF hS
          refine wl_cons rfl (wo_stores hF hS (by kernel_rfl) 0 0 1 (v := .int .i64 (0)) (s' := [(1, [.int .i64 (0)])]) (t := [(1, [.int .i64 (0)])]) (C' := [.box b36 3 [(1, [.int .i64 (0)])], .box b12 4 [(1, [.bool (false)])], .box b11 26 [(1, [.slice p2 (a1.Cuts).length c3]), (1, [.slice p4 (a1.Nodes).length c5])]]) (n := 1) rfl rfl (by kernel_rfl) rfl (by kernel_rfl) (by kernel_rfl) (by kernel_rfl) (by kernel_rfl) (sgV rfl sgNil).1 (sgV rfl sgNil).2 (by kernel_rfl) (by kernel_rfl) (by kernel_rfl) ?_)
          clear hF hS
          intro a w hF hS
          refine wpListIn_nil ?_
          refine hK35 _ _ ?_
          clear hK35 K35
          refine wpIn_seq_k fun K37 hK37 => ?_
          refine wpIn_seq_k fun K38 hK38 => ?_
          refine wpIn_region_lit ?_
          refine wl_cons rfl (wo_loads hF hS (by kernel_rfl) 2 0 2 (s' := [(1, [.slice p2 (a1.Cuts).length c3]), (1, [.slice p4 (a1.Nodes).length c5])]) (n := 2) rfl rfl rfl (by kernel_rfl) (by kernel_rfl) (by kernel_rfl) (by kernel_rfl) (by kernel_rfl) ?_)
          clear hF
          intro a hF
          refine bind_split H (fun x39 hx39 H => ?_)
          refine wl_cons rfl (wo_callP (args := #[.agg (flat [(1, [.slice p2 (a1.Cuts).length c3]), (1, [.slice p4 (a1.Nodes).length c5])]).toArray]) (f := 35) hF hS (by kernel_rfl) (by kernel_rfl) (C_span_Shards N hS.fresh (T_api_Map.mk a1.Cuts a1.Nodes) p2 c3 p4 c5 ((hS.pick [0, 1] (by kernel_rfl)).ro) hx39) ?_)
          clear hF hS hx39
          rintro _ κ w a ⟨b40, rfl, hR, hN⟩ hF hS hO
          have hS := hS.addC hO hN
          clear hR hN hO
          refine wpListIn_nil ?_
          refine hK38 _ _ ?_
          clear hK38 K38
          refine wpIn_block ?_
          refine bind_split H (fun v107 hv107 H => ?_)
          have hS : SS [] κ0 w0 _ _ [.box b36 3 [(1, [.int .i64 (0)])], .box b12 4 [(1, [.bool (false)])], .box b11 26 [(1, [.slice p2 (a1.Cuts).length c3]), (1, [.slice p4 (a1.Nodes).length c5])], .box b40 26 [(1, [.slice p2 (a1.Cuts).length c3]), (1, [.slice p4 (a1.Nodes).length c5])]] _ := hS.selp [1, 2, 3, 0] (by decide) (by kernel_rfl)
          refine wp_range' (C := [.box b36 3 [(1, [.int .i64 (0)])], .box b12 4 [(1, [.bool (false)])], .box b11 26 [(1, [.slice p2 (a1.Cuts).length c3]), (1, [.slice p4 (a1.Nodes).length c5])]]) (Cap := [.box b40 26 [(1, [.slice p2 (a1.Cuts).length c3]), (1, [.slice p4 (a1.Nodes).length c5])]]) (R' := [Ro.mp fStr.ty p2 c3 a1.Cuts, Ro.mp (fInt .i64).ty p4 c5 a1.Nodes]) (caps := #[.pointer (some ⟨b40, 0, none⟩)]) (f := 80) [.ret] (fun l => #[.func (.yield l) #[] #[], .pointer (some ⟨b40, 0, none⟩)]) hF hS (by kernel_rfl) (fun _ _ => rfl) ((hS.pick [0, 1] (by kernel_rfl)).ro) (fun l => by kernel_rfl) ?_
          intro r l rc w hrc hS
          refine ⟨fun x => (fun (v94 : (Int × Nat)) (x : XF) => x = mkX r l (lp rc [.ret] v94.2) [.box b36 3 [(1, [.int .i64 (v94.1)])], .box b12 4 [(1, [.bool (false)])], .box b11 26 [(1, [.slice p2 (a1.Cuts).length c3]), (1, [.slice p4 (a1.Nodes).length c5])]] [Ro.mp fStr.ty p2 c3 a1.Cuts, Ro.mp (fInt .i64).ty p4 c5 a1.Nodes]) v107 x, ?_, ?_⟩
          · have hS := (hS.rebase.add (m := MP.const ((fun (v94 : (Int × Nat)) (x : XF) => x = mkX r l (lp rc [.ret] v94.2) [.box b36 3 [(1, [.int .i64 (v94.1)])], .box b12 4 [(1, [.bool (false)])], .box b11 26 [(1, [.slice p2 (a1.Cuts).length c3]), (1, [.slice p4 (a1.Nodes).length c5])]] [Ro.mp fStr.ty p2 c3 a1.Cuts, Ro.mp (fInt .i64).ty p4 c5 a1.Nodes]) (0, 0) (mkX r l (lp rc [.ret] 0) [.box b36 3 [(1, [.int .i64 (0)])], .box b12 4 [(1, [.bool (false)])], .box b11 26 [(1, [.slice p2 (a1.Cuts).length c3]), (1, [.slice p4 (a1.Nodes).length c5])]] [Ro.mp fStr.ty p2 c3 a1.Cuts, Ro.mp (fInt .i64).ty p4 c5 a1.Nodes]))) rfl).pick (R' := [Ro.mp fStr.ty p2 c3 a1.Cuts, Ro.mp (fInt .i64).ty p4 c5 a1.Nodes, MP.const ((fun (v94 : (Int × Nat)) (x : XF) => x = mkX r l (lp rc [.ret] v94.2) [.box b36 3 [(1, [.int .i64 (v94.1)])], .box b12 4 [(1, [.bool (false)])], .box b11 26 [(1, [.slice p2 (a1.Cuts).length c3]), (1, [.slice p4 (a1.Nodes).length c5])]] [Ro.mp fStr.ty p2 c3 a1.Cuts, Ro.mp (fInt .i64).ty p4 c5 a1.Nodes]) (0, 0) (mkX r l (lp rc [.ret] 0) [.box b36 3 [(1, [.int .i64 (0)])], .box b12 4 [(1, [.bool (false)])], .box b11 26 [(1, [.slice p2 (a1.Cuts).length c3]), (1, [.slice p4 (a1.Nodes).length c5])]] [Ro.mp fStr.ty p2 c3 a1.Cuts, Ro.mp (fInt .i64).ty p4 c5 a1.Nodes]))]) [1, 2, 0] (by kernel_rfl)
            refine C_span_Shards_1 N (Y := (fun (v94 : (Int × Nat)) (x : XF) => x = mkX r l (lp rc [.ret] v94.2) [.box b36 3 [(1, [.int .i64 (v94.1)])], .box b12 4 [(1, [.bool (false)])], .box b11 26 [(1, [.slice p2 (a1.Cuts).length c3]), (1, [.slice p4 (a1.Nodes).length c5])]] [Ro.mp fStr.ty p2 c3 a1.Cuts, Ro.mp (fInt .i64).ty p4 c5 a1.Nodes])) (B := (fun (v94 : (Int × Nat)) x41 x42 => bif (v94.2 == 0) then (Option.bind (M.ref08_Ends N (T_api_Map.mk a1.Cuts a1.Nodes) x41) fun x98 => (Option.bind (bif (x41 != v94.1) then (some true) else (bif (!x98.2.2) then (some true) else (bif (!sEq x42.Lo x98.1) then (some true) else (bif (!sEq x42.Hi x98.2.1) then (some true) else (Option.bind (idx a1.Nodes x41) fun x103 => (some (x42.Node != x103))))))) fun v102 => (bif v102 then (some (((v94.1, 1)), false)) else (some (((IntKind.i64.wrap (v94.1 + 1), 0)), true))))) else none)) (l := l) ?_ (T_api_Map.mk a1.Cuts a1.Nodes) p2 c3 p4 c5 hS hv107
            clear hS H hv107
            rintro v94 _ κ w x41 x42  s' c rfl hp hf hnd hlt hR H
            refine bif_split H (fun hn H => ?_) (fun _ H => by cases H)
            · refine round_at (L := [(1, .string (a6)), (2, .string (a7)), (3, .string (a8)), (5, .pointer (some ⟨b11, 0, none⟩)), (10, .pointer (some ⟨b12, 0, none⟩)), (16, .pointer (some ⟨b36, 0, none⟩)), (73, .int .i64 (x41)), (74, .agg (flat [(1, [.string (x42.Lo)]), (1, [.string (x42.Hi)]), (1, [.int .i64 (x42.Node)])]).toArray)]) hp hf hnd hlt hn hrc rfl [1, 2, 3, 5, 10, 16, 73, 74] hF (by kernel_rfl) (by kernel_rfl) ?_
              clear hF hp hf hnd hlt hn
              intro a hF hS
              have hS := hS.adds hR
              clear hR
              skip
              refine wpIn_seq_k fun K95 hK95 => ?_
              refine wpIn_region_lit ?_
              refine wl_pure (L' := [(1, .string (a6)), (2, .string (a7)), (3, .string (a8)), (5, .pointer (some ⟨b11, 0, none⟩)), (10, .pointer (some ⟨b12, 0, none⟩)), (16, .pointer (some ⟨b36, 0, none⟩)), (17, .int .i64 (x41)), (74, .agg (flat [(1, [.string (x42.Lo)]), (1, [.string (x42.Hi)]), (1, [.int .i64 (x42.Node)])]).toArray)]) 1 [1, 2, 3, 5, 10, 16, 17, 74] hF (by kernel_rfl) ?_
              clear hF
              intro a hF
              refine wpListIn_nil ?_
              refine hK95 _ _ ?_
              clear hK95 K95
              refine wpIn_region_lit ?_
              refine wl_cons rfl (wo_alloc hF hS (by kernel_rfl) (z := .agg (flat [(1, [.string (ByteArray.empty)]), (1, [.string (ByteArray.empty)]), (1, [.int .i64 (0)])]).toArray) (s := [(1, [.string (ByteArray.empty)]), (1, [.string (ByteArray.empty)]), (1, [.int .i64 (0)])]) rfl (by kernel_rfl) (sgV rfl (sgV rfl (sgV rfl sgNil))).1 (by kernel_rfl) ?_)
              clear hF hS
              intro b96 a w hF hS
              refine wl_cons rfl (wo_stores hF hS (by kernel_rfl) 0 0 3 (v := .agg (flat [(1, [.string (x42.Lo)]), (1, [.string (x42.Hi)]), (1, [.int .i64 (x42.Node)])]).toArray) (s' := [(1, [.string (x42.Lo)]), (1, [.string (x42.Hi)]), (1, [.int .i64 (x42.Node)])]) (t := [(1, [.string (x42.Lo)]), (1, [.string (x42.Hi)]), (1, [.int .i64 (x42.Node)])]) (C' := [.box b96 46 [(1, [.string (x42.Lo)]), (1, [.string (x42.Hi)]), (1, [.int .i64 (x42.Node)])], .box b36 3 [(1, [.int .i64 (v94.1)])], .box b12 4 [(1, [.bool (false)])], .box b11 26 [(1, [.slice p2 (a1.Cuts).length c3]), (1, [.slice p4 (a1.Nodes).length c5])]]) (n := 3) rfl rfl (by kernel_rfl) rfl (by kernel_rfl) (by kernel_rfl) (by kernel_rfl) (by kernel_rfl) (sgV rfl (sgV rfl (sgV rfl sgNil))).1 (sgV rfl (sgV rfl (sgV rfl sgNil))).2 (by kernel_rfl) (by kernel_rfl) (by kernel_rfl) ?_)
              clear hF hS
              intro a w hF hS
              refine wpListIn_nil ?_
              refine ⟨_, _, _, hS, fun wb hS => ?_⟩
              obtain ⟨κb, hκb⟩ : ∃ κb, κb = κ := ⟨_, rfl⟩
              subst hκb
              refine wpIn_block ?_
              refine wpIn_seq_k fun K97 hK97 => ?_
              refine wpIn_region_lit ?_
              refine wl_cons rfl (wo_loads hF hS (by kernel_rfl) 3 0 2 (s' := [(1, [.slice p2 (a1.Cuts).length c3]), (1, [.slice p4 (a1.Nodes).length c5])]) (n := 2) rfl rfl rfl (by kernel_rfl) (by kernel_rfl) (by kernel_rfl) (by kernel_rfl) (by kernel_rfl) ?_)
              clear hF
              intro a hF
              refine wl_pure (L' := [(1, .string (a6)), (2, .string (a7)), (3, .string (a8)), (5, .pointer (some ⟨b11, 0, none⟩)), (10, .pointer (some ⟨b12, 0, none⟩)), (16, .pointer (some ⟨b36, 0, none⟩)), (17, .int .i64 (x41)), (18, .pointer (some ⟨b96, 0, none⟩)), (76, .agg (flat [(1, [.slice p2 (a1.Cuts).length c3]), (1, [.slice p4 (a1.Nodes).length c5])]).toArray), (77, .int .i64 (x41))]) 1 [1, 2, 3, 5, 10, 16, 17, 18, 76, 77] hF (by kernel_rfl) ?_
              clear hF
              intro a hF
              refine bind_split H (fun x98 hx98 H => ?_)
              refine wl_cons rfl (wo_callP (args := #[.agg (flat [(1, [.slice p2 (a1.Cuts).length c3]), (1, [.slice p4 (a1.Nodes).length c5])]).toArray, .int .i64 (x41)]) (f := 34) hF hS (by kernel_rfl) (by kernel_rfl) (C_ref08_Ends N hS.fresh (T_api_Map.mk a1.Cuts a1.Nodes) x41 p2 c3 p4 c5 ((hS.pick [0, 1] (by kernel_rfl)).ro) hx98) ?_)
              clear hF hS hx98
              rintro _ κ w a ⟨rfl, hR, hN⟩ hF hS hO
              clear hR hN hO
              refine wl_pure (L' := [(1, .string (a6)), (2, .string (a7)), (3, .string (a8)), (5, .pointer (some ⟨b11, 0, none⟩)), (10, .pointer (some ⟨b12, 0, none⟩)), (16, .pointer (some ⟨b36, 0, none⟩)), (17, .int .i64 (x41)), (18, .pointer (some ⟨b96, 0, none⟩)), (19, .string (x98.1)), (20, .string (x98.2.1)), (21, .bool (x98.2.2))]) 7 [1, 2, 3, 5, 10, 16, 17, 18, 19, 20, 21] hF (by kernel_rfl) ?_
              clear hF
              intro a hF
              refine wpListIn_nil ?_
              refine hK97 _ _ ?_
              clear hK97 K97
              refine wpIn_seq_k fun K99 hK99 => ?_
              refine wpIn_seq_k fun K100 hK100 => ?_
              refine bind_split H (fun v102 hv102 H => ?_)
              refine code_join (fun a w => ∃ κ : Gh, Fr (154) [] [(1, .string (a6)), (2, .string (a7)), (3, .string (a8)), (5, .pointer (some ⟨b11, 0, none⟩)), (10, .pointer (some ⟨b12, 0, none⟩)), (16, .pointer (some ⟨b36, 0, none⟩)), (110, .bool (v102))] a ∧ SS (blksOf [.box b96 46 [(1, [.string (x42.Lo)]), (1, [.string (x42.Hi)]), (1, [.int .i64 (x42.Node)])], .box b36 3 [(1, [.int .i64 (v94.1)])], .box b12 4 [(1, [.bool (false)])], .box b11 26 [(1, [.slice p2 (a1.Cuts).length c3]), (1, [.slice p4 (a1.Nodes).length c5])]]) κb wb κ w [.box b36 3 [(1, [.int .i64 (v94.1)])], .box b12 4 [(1, [.bool (false)])], .box b11 26 [(1, [.slice p2 (a1.Cuts).length c3]), (1, [.slice p4 (a1.Nodes).length c5])]] [Ro.mp fStr.ty p2 c3 a1.Cuts, Ro.mp (fInt .i64).ty p4 c5 a1.Nodes] ∧ True) ?_ ?_
              · clear H
                refine region_any (SSx (blksOf [.box b96 46 [(1, [.string (x42.Lo)]), (1, [.string (x42.Hi)]), (1, [.int .i64 (x42.Node)])], .box b36 3 [(1, [.int .i64 (v94.1)])], .box b12 4 [(1, [.bool (false)])], .box b11 26 [(1, [.slice p2 (a1.Cuts).length c3]), (1, [.slice p4 (a1.Nodes).length c5])]]) κb wb [.box b96 46 [(1, [.string (x42.Lo)]), (1, [.string (x42.Hi)]), (1, [.int .i64 (x42.Node)])], .box b36 3 [(1, [.int .i64 (v94.1)])], .box b12 4 [(1, [.bool (false)])], .box b11 26 [(1, [.slice p2 (a1.Cuts).length c3]), (1, [.slice p4 (a1.Nodes).length c5])]] [Ro.mp fStr.ty p2 c3 a1.Cuts, Ro.mp (fInt .i64).ty p4 c5 a1.Nodes]) [] (by kernel_rfl) (n := 29) (by kernel_rfl) (l := #[false, false, false, false, false, false, false, false, false, false, false, false, false, false, false, false, false, false, false, false, false, false, false, false, false, false, false, false, false]) (by kernel_rfl) ?_
                have hS := hS.drew
                refine any_pure [0] [1, 2, 3, 5, 10, 16, 17, 18, 19, 20, 21, 82] (L' := [(1, .string (a6)), (2, .string (a7)), (3, .string (a8)), (5, .pointer (some ⟨b11, 0, none⟩)), (10, .pointer (some ⟨b12, 0, none⟩)), (16, .pointer (some ⟨b36, 0, none⟩)), (17, .int .i64 (x41)), (18, .pointer (some ⟨b96, 0, none⟩)), (19, .string (x98.1)), (20, .string (x98.2.1)), (21, .bool (x98.2.2)), (82, .int .i64 (x41))]) (listed' := #[true, false, false, false, false, false, false, false, false, false, false, false, false, false, false, false, false, false, false, false, false, false, false, false, false, false, false, false, false]) (fuel := 28) hF ⟨_, (hS.selp [0, 1, 2, 3] (by decide) (by kernel_rfl)).pick [0, 1] (by kernel_rfl)⟩ (by kernel_rfl) (by intro c a w t v h; cases t <;> exact h) (by kernel_rfl) rfl ?_
                clear hF
                intro a hF
                refine any_take 1 (some 83) hF ⟨_, (hS.selp [0, 1, 2, 3] (by decide) (by kernel_rfl)).pick [0, 1] (by kernel_rfl)⟩ rfl (by kernel_rfl) (by kernel_rfl) (by intro c a w v h; exact h) (by kernel_rfl) (by kernel_rfl) (by kernel_rfl) rfl (val_load 1 0 0 (v := .int .i64 (v94.1)) rfl rfl rfl rfl rfl (by kernel_rfl) (by kernel_rfl)) ?_
                clear hF
                intro a hF
                refine any_pure [2, 3] [1, 2, 3, 5, 10, 16, 17, 18, 19, 20, 21, 85] (L' := [(1, .string (a6)), (2, .string (a7)), (3, .string (a8)), (5, .pointer (some ⟨b11, 0, none⟩)), (10, .pointer (some ⟨b12, 0, none⟩)), (16, .pointer (some ⟨b36, 0, none⟩)), (17, .int .i64 (x41)), (18, .pointer (some ⟨b96, 0, none⟩)), (19, .string (x98.1)), (20, .string (x98.2.1)), (21, .bool (x98.2.2)), (85, .bool ((x41 != v94.1)))]) (listed' := #[true, true, true, true, false, false, false, false, false, false, false, false, false, false, false, false, false, false, false, false, false, false, false, false, false, false, false, false, false]) (fuel := 25) hF ⟨_, (hS.selp [0, 1, 2, 3] (by decide) (by kernel_rfl)).pick [0, 1] (by kernel_rfl)⟩ (by kernel_rfl) (by intro c a w t v h; cases t <;> exact h) (by kernel_rfl) rfl ?_
                clear hF
                intro a hF
                refine bif_split hv102 (fun hb hv102 => ?_) (fun hb hv102 => ?_)
                · have hF := hF.boolv 85 (by kernel_rfl) hb
                  clear hb
                  refine any_pure [4, 5, 6, 7, 8, 9, 10, 11, 12, 13, 14, 15, 16, 17, 18, 19, 20, 21, 22, 23, 24, 25, 26, 27, 28] [1, 2, 3, 5, 10, 16, 110] (L' := [(1, .string (a6)), (2, .string (a7)), (3, .string (a8)), (5, .pointer (some ⟨b11, 0, none⟩)), (10, .pointer (some ⟨b12, 0, none⟩)), (16, .pointer (some ⟨b36, 0, none⟩)), (110, .bool (true))]) (listed' := #[true, true, true, true, true, true, true, true, true, true, true, true, true, true, true, true, true, true, true, true, true, true, true, true, true, true, true, true, true]) (fuel := 0) hF ⟨_, (hS.selp [0, 1, 2, 3] (by decide) (by kernel_rfl)).pick [0, 1] (by kernel_rfl)⟩ (by kernel_rfl) (by intro c a w t v h; cases t <;> exact h) (by kernel_rfl) rfl ?_
                  clear hF
                  intro a hF
                  refine any_done (by kernel_rfl) ?_ _
                  cases hv102
                  exact ⟨_, hF.keep' [1, 2, 3, 5, 10, 16, 110] (by kernel_rfl), (hS.selp [1, 2, 3] (by decide) (by kernel_rfl)).pick [0, 1] (by kernel_rfl), trivial⟩
                · have hF := hF.boolv 85 (by kernel_rfl) hb
                  clear hb
                  refine any_pure [4, 5, 6, 7] [1, 2, 3, 5, 10, 16, 17, 18, 19, 20, 89] (L' := [(1, .string (a6)), (2, .string (a7)), (3, .string (a8)), (5, .pointer (some ⟨b11, 0, none⟩)), (10, .pointer (some ⟨b12, 0, none⟩)), (16, .pointer (some ⟨b36, 0, none⟩)), (17, .int .i64 (x41)), (18, .pointer (some ⟨b96, 0, none⟩)), (19, .string (x98.1)), (20, .string (x98.2.1)), (89, .bool ((!x98.2.2)))]) (listed' := #[true, true, true, true, true, true, true, true, false, false, false, false, false, false, false, false, false, false, false, false, false, false, false, false, false, false, false, false, false]) (fuel := 21) hF ⟨_, (hS.selp [0, 1, 2, 3] (by decide) (by kernel_rfl)).pick [0, 1] (by kernel_rfl)⟩ (by kernel_rfl) (by intro c a w t v h; cases t <;> exact h) (by kernel_rfl) rfl ?_
                  clear hF
                  intro a hF
                  refine bif_split hv102 (fun hb hv102 => ?_) (fun hb hv102 => ?_)
                  · have hF := hF.boolv 89 (by kernel_rfl) hb
                    clear hb
                    refine any_pure [8, 9, 10, 11, 12, 13, 14, 15, 16, 17, 18, 19, 20, 21, 22, 23, 24, 25, 26, 27, 28] [1, 2, 3, 5, 10, 16, 110] (L' := [(1, .string (a6)), (2, .string (a7)), (3, .string (a8)), (5, .pointer (some ⟨b11, 0, none⟩)), (10, .pointer (some ⟨b12, 0, none⟩)), (16, .pointer (some ⟨b36, 0, none⟩)), (110, .bool (true))]) (listed' := #[true, true, true, true, true, true, true, true, true, true, true, true, true, true, true, true, true, true, true, true, true, true, true, true, true, true, true, true, true]) (fuel := 0) hF ⟨_, (hS.selp [0, 1, 2, 3] (by decide) (by kernel_rfl)).pick [0, 1] (by kernel_rfl)⟩ (by kernel_rfl) (by intro c a w t v h; cases t <;> exact h) (by kernel_rfl) rfl ?_
                    clear hF
                    intro a hF
                    refine any_done (by kernel_rfl) ?_ _
                    cases hv102
                    exact ⟨_, hF.keep' [1, 2, 3, 5, 10, 16, 110] (by kernel_rfl), (hS.selp [1, 2, 3] (by decide) (by kernel_rfl)).pick [0, 1] (by kernel_rfl), trivial⟩
                  · have hF := hF.boolv 89 (by kernel_rfl) hb
                    clear hb
                    refine any_pure [8, 10] [1, 2, 3, 5, 10, 16, 17, 18, 20, 89, 90, 92] (L' := [(1, .string (a6)), (2, .string (a7)), (3, .string (a8)), (5, .pointer (some ⟨b11, 0, none⟩)), (10, .pointer (some ⟨b12, 0, none⟩)), (16, .pointer (some ⟨b36, 0, none⟩)), (17, .int .i64 (x41)), (18, .pointer (some ⟨b96, 0, none⟩)), (20, .string (x98.2.1)), (89, .bool (false)), (90, .pointer (some ⟨b96, 0, none⟩)), (92, .string (x98.1))]) (listed' := #[true, true, true, true, true, true, true, true, true, false, true, false, false, false, false, false, false, false, false, false, false, false, false, false, false, false, false, false, false]) (fuel := 19) hF ⟨_, (hS.selp [0, 1, 2, 3] (by decide) (by kernel_rfl)).pick [0, 1] (by kernel_rfl)⟩ (by kernel_rfl) (by intro c a w t v h; cases t <;> exact h) (by kernel_rfl) rfl ?_
                    clear hF
                    intro a hF
                    refine any_take 9 (some 91) hF ⟨_, (hS.selp [0, 1, 2, 3] (by decide) (by kernel_rfl)).pick [0, 1] (by kernel_rfl)⟩ rfl (by kernel_rfl) (by kernel_rfl) (by intro c a w v h; exact h) (by kernel_rfl) (by kernel_rfl) (by kernel_rfl) rfl (val_load 0 0 0 (v := .string (x42.Lo)) rfl rfl rfl rfl rfl (by kernel_rfl) (by kernel_rfl)) ?_
                    clear hF
                    intro a hF
                    refine any_pure [11, 12, 13] [1, 2, 3, 5, 10, 16, 17, 18, 20, 95] (L' := [(1, .string (a6)), (2, .string (a7)), (3, .string (a8)), (5, .pointer (some ⟨b11, 0, none⟩)), (10, .pointer (some ⟨b12, 0, none⟩)), (16, .pointer (some ⟨b36, 0, none⟩)), (17, .int .i64 (x41)), (18, .pointer (some ⟨b96, 0, none⟩)), (20, .string (x98.2.1)), (95, .bool ((!sEq x42.Lo x98.1)))]) (listed' := #[true, true, true, true, true, true, true, true, true, true, true, true, true, true, false, false, false, false, false, false, false, false, false, false, false, false, false, false, false]) (fuel := 15) hF ⟨_, (hS.selp [0, 1, 2, 3] (by decide) (by kernel_rfl)).pick [0, 1] (by kernel_rfl)⟩ (by kernel_rfl) (by intro c a w t v h; cases t <;> exact h) (by kernel_rfl) rfl ?_
                    clear hF
                    intro a hF
                    refine bif_split hv102 (fun hb hv102 => ?_) (fun hb hv102 => ?_)
                    · have hF := hF.boolv 95 (by kernel_rfl) hb
                      clear hb
                      refine any_pure [14, 15, 16, 17, 18, 19, 20, 21, 22, 23, 24, 25, 26, 27, 28] [1, 2, 3, 5, 10, 16, 110] (L' := [(1, .string (a6)), (2, .string (a7)), (3, .string (a8)), (5, .pointer (some ⟨b11, 0, none⟩)), (10, .pointer (some ⟨b12, 0, none⟩)), (16, .pointer (some ⟨b36, 0, none⟩)), (110, .bool (true))]) (listed' := #[true, true, true, true, true, true, true, true, true, true, true, true, true, true, true, true, true, true, true, true, true, true, true, true, true, true, true, true, true]) (fuel := 0) hF ⟨_, (hS.selp [0, 1, 2, 3] (by decide) (by kernel_rfl)).pick [0, 1] (by kernel_rfl)⟩ (by kernel_rfl) (by intro c a w t v h; cases t <;> exact h) (by kernel_rfl) rfl ?_
                      clear hF
                      intro a hF
                      refine any_done (by kernel_rfl) ?_ _
                      cases hv102
                      exact ⟨_, hF.keep' [1, 2, 3, 5, 10, 16, 110] (by kernel_rfl), (hS.selp [1, 2, 3] (by decide) (by kernel_rfl)).pick [0, 1] (by kernel_rfl), trivial⟩
                    · have hF := hF.boolv 95 (by kernel_rfl) hb
                      clear hb
                      refine any_pure [14, 16] [1, 2, 3, 5, 10, 16, 17, 18, 95, 96, 98] (L' := [(1, .string (a6)), (2, .string (a7)), (3, .string (a8)), (5, .pointer (some ⟨b11, 0, none⟩)), (10, .pointer (some ⟨b12, 0, none⟩)), (16, .pointer (some ⟨b36, 0, none⟩)), (17, .int .i64 (x41)), (18, .pointer (some ⟨b96, 0, none⟩)), (95, .bool (false)), (96, .pointer (some ⟨b96, 1, none⟩)), (98, .string (x98.2.1))]) (listed' := #[true, true, true, true, true, true, true, true, true, true, true, true, true, true, true, false, true, false, false, false, false, false, false, false, false, false, false, false, false]) (fuel := 13) hF ⟨_, (hS.selp [0, 1, 2, 3] (by decide) (by kernel_rfl)).pick [0, 1] (by kernel_rfl)⟩ (by kernel_rfl) (by intro c a w t v h; cases t <;> exact h) (by kernel_rfl) rfl ?_
                      clear hF
                      intro a hF
                      refine any_take 15 (some 97) hF ⟨_, (hS.selp [0, 1, 2, 3] (by decide) (by kernel_rfl)).pick [0, 1] (by kernel_rfl)⟩ rfl (by kernel_rfl) (by kernel_rfl) (by intro c a w v h; exact h) (by kernel_rfl) (by kernel_rfl) (by kernel_rfl) rfl (val_load 0 1 0 (v := .string (x42.Hi)) rfl rfl rfl rfl rfl (by kernel_rfl) (by kernel_rfl)) ?_
                      clear hF
                      intro a hF
                      refine any_pure [17, 18, 19] [1, 2, 3, 5, 10, 16, 17, 18, 101] (L' := [(1, .string (a6)), (2, .string (a7)), (3, .string (a8)), (5, .pointer (some ⟨b11, 0, none⟩)), (10, .pointer (some ⟨b12, 0, none⟩)), (16, .pointer (some ⟨b36, 0, none⟩)), (17, .int .i64 (x41)), (18, .pointer (some ⟨b96, 0, none⟩)), (101, .bool ((!sEq x42.Hi x98.2.1)))]) (listed' := #[true, true, true, true, true, true, true, true, true, true, true, true, true, true, true, true, true, true, true, true, false, false, false, false, false, false, false, false, false]) (fuel := 9) hF ⟨_, (hS.selp [0, 1, 2, 3] (by decide) (by kernel_rfl)).pick [0, 1] (by kernel_rfl)⟩ (by kernel_rfl) (by intro c a w t v h; cases t <;> exact h) (by kernel_rfl) rfl ?_
                      clear hF
                      intro a hF
                      refine bif_split hv102 (fun hb hv102 => ?_) (fun hb hv102 => ?_)
                      · have hF := hF.boolv 101 (by kernel_rfl) hb
                        clear hb
                        refine any_pure [20, 21, 22, 23, 24, 25, 26, 27, 28] [1, 2, 3, 5, 10, 16, 110] (L' := [(1, .string (a6)), (2, .string (a7)), (3, .string (a8)), (5, .pointer (some ⟨b11, 0, none⟩)), (10, .pointer (some ⟨b12, 0, none⟩)), (16, .pointer (some ⟨b36, 0, none⟩)), (110, .bool (true))]) (listed' := #[true, true, true, true, true, true, true, true, true, true, true, true, true, true, true, true, true, true, true, true, true, true, true, true, true, true, true, true, true]) (fuel := 0) hF ⟨_, (hS.selp [0, 1, 2, 3] (by decide) (by kernel_rfl)).pick [0, 1] (by kernel_rfl)⟩ (by kernel_rfl) (by intro c a w t v h; cases t <;> exact h) (by kernel_rfl) rfl ?_
                        clear hF
                        intro a hF
                        refine any_done (by kernel_rfl) ?_ _
                        cases hv102
                        exact ⟨_, hF.keep' [1, 2, 3, 5, 10, 16, 110] (by kernel_rfl), (hS.selp [1, 2, 3] (by decide) (by kernel_rfl)).pick [0, 1] (by kernel_rfl), trivial⟩
                      · have hF := hF.boolv 101 (by kernel_rfl) hb
                        clear hb
                        refine any_pure [20, 22, 24] [1, 2, 3, 5, 10, 16, 101, 102, 104, 106] (L' := [(1, .string (a6)), (2, .string (a7)), (3, .string (a8)), (5, .pointer (some ⟨b11, 0, none⟩)), (10, .pointer (some ⟨b12, 0, none⟩)), (16, .pointer (some ⟨b36, 0, none⟩)), (101, .bool (false)), (102, .pointer (some ⟨b96, 2, none⟩)), (104, .pointer (some ⟨b11, 1, none⟩)), (106, .int .i64 (x41))]) (listed' := #[true, true, true, true, true, true, true, true, true, true, true, true, true, true, true, true, true, true, true, true, true, false, true, false, true, false, false, false, false]) (fuel := 6) hF ⟨_, (hS.selp [0, 1, 2, 3] (by decide) (by kernel_rfl)).pick [0, 1] (by kernel_rfl)⟩ (by kernel_rfl) (by intro c a w t v h; cases t <;> exact h) (by kernel_rfl) rfl ?_
                        clear hF
                        intro a hF
                        refine any_take 21 (some 103) hF ⟨_, (hS.selp [0, 1, 2, 3] (by decide) (by kernel_rfl)).pick [0, 1] (by kernel_rfl)⟩ rfl (by kernel_rfl) (by kernel_rfl) (by intro c a w v h; exact h) (by kernel_rfl) (by kernel_rfl) (by kernel_rfl) rfl (val_load 0 2 0 (v := .int .i64 (x42.Node)) rfl rfl rfl rfl rfl (by kernel_rfl) (by kernel_rfl)) ?_
                        clear hF
                        intro a hF
                        refine any_take 23 (some 105) hF ⟨_, (hS.selp [0, 1, 2, 3] (by decide) (by kernel_rfl)).pick [0, 1] (by kernel_rfl)⟩ rfl (by kernel_rfl) (by kernel_rfl) (by intro c a w v h; exact h) (by kernel_rfl) (by kernel_rfl) (by kernel_rfl) rfl (val_load 3 1 0 (v := .slice p4 (a1.Nodes).length c5) rfl rfl rfl rfl rfl (by kernel_rfl) (by kernel_rfl)) ?_
                        clear hF
                        intro a hF
                        refine bind_split hv102 (fun x103 hx103 hv102 => ?_)
                        obtain ⟨b104, f105, hpx103⟩ := hS.ptr 1 rfl hx103
                        refine any_take 25 (some 107) hF ⟨_, (hS.selp [0, 1, 2, 3] (by decide) (by kernel_rfl)).pick [0, 1] (by kernel_rfl)⟩ rfl (by kernel_rfl) (by kernel_rfl) (by intro c a w v h; exact h) (by kernel_rfl) (by kernel_rfl) (by kernel_rfl) rfl (fun w _ => val_index (E := 3) (sz := 1) rfl hpx103 rfl (by kernel_rfl) rfl hx103 (by kernel_rfl) (by kernel_rfl) w) ?_
                        clear hF
                        intro a hF
                        refine any_take 26 (some 108) hF ⟨_, (hS.selp [0, 1, 2, 3] (by decide) (by kernel_rfl)).pick [0, 1] (by kernel_rfl)⟩ rfl (by kernel_rfl) (by kernel_rfl) (by intro c a w v h; exact h) (by kernel_rfl) (by kernel_rfl) (by kernel_rfl) rfl (val_loadRo (t := (fInt .i64)) 1 0 (v := .int .i64 (x103)) rfl rfl hpx103 rfl hx103 (by kernel_rfl) (by kernel_rfl) (by kernel_rfl)) ?_
                        clear hF
                        intro a hF
                        refine any_pure [27, 28] [1, 2, 3, 5, 10, 16, 110] (L' := [(1, .string (a6)), (2, .string (a7)), (3, .string (a8)), (5, .pointer (some ⟨b11, 0, none⟩)), (10, .pointer (some ⟨b12, 0, none⟩)), (16, .pointer (some ⟨b36, 0, none⟩)), (110, .bool ((x42.Node != x103)))]) (listed' := #[true, true, true, true, true, true, true, true, true, true, true, true, true, true, true, true, true, true, true, true, true, true, true, true, true, true, true, true, true]) (fuel := 0) hF ⟨_, (hS.selp [0, 1, 2, 3] (by decide) (by kernel_rfl)).pick [0, 1] (by kernel_rfl)⟩ (by kernel_rfl) (by intro c a w t v h; cases t <;> exact h) (by kernel_rfl) rfl ?_
                        clear hF
                        intro a hF
                        refine any_done (by kernel_rfl) ?_ _
                        cases hv102
                        exact ⟨_, hF.keep' [1, 2, 3, 5, 10, 16, 110] (by kernel_rfl), (hS.selp [1, 2, 3] (by decide) (by kernel_rfl)).pick [0, 1] (by kernel_rfl), trivial⟩
              · clear hF hS hv102
                rintro a w ⟨κ, hF, hS, -⟩
                refine hK100 _ _ ?_
                clear hK100 K100
                refine bif_split H (fun hb H => ?_) (fun hb H => ?_)
                · refine cond_t hF (by kernel_rfl) hb ?_
                  clear hb
                  refine wpIn_seq_k fun K106 hK106 => ?_
                  refine wpIn_region_lit ?_
                  refine wl_cons rfl (wo_stores hF hS (by kernel_rfl) 1 0 1 (v := .bool (false)) (s' := [(1, [.bool (false)])]) (t := [(1, [.bool (false)])]) (C' := [.box b36 3 [(1, [.int .i64 (v94.1)])], .box b12 4 [(1, [.bool (false)])], .box b11 26 [(1, [.slice p2 (a1.Cuts).length c3]), (1, [.slice p4 (a1.Nodes).length c5])]]) (n := 1) rfl rfl (by kernel_rfl) rfl (by kernel_rfl) (by kernel_rfl) (by kernel_rfl) (by kernel_rfl) (sgV rfl sgNil).1 (sgV rfl sgNil).2 (by kernel_rfl) (by kernel_rfl) (by kernel_rfl) ?_)
                  clear hF hS
                  intro a w hF hS
                  refine wpListIn_nil ?_
                  refine hK106 _ _ ?_
                  clear hK106 K106
                  refine wpIn_ret ?_
                  cases H
                  try dsimp only [Exit.inBlock, Exit.then]
                  refine re_ret [.ret] 0 rfl (C := [.box b36 3 [(1, [.int .i64 (v94.1)])], .box b12 4 [(1, [.bool (false)])], .box b11 26 [(1, [.slice p2 (a1.Cuts).length c3]), (1, [.slice p4 (a1.Nodes).length c5])]]) (R := [Ro.mp fStr.ty p2 c3 a1.Cuts, Ro.mp (fInt .i64).ty p4 c5 a1.Nodes]) ((hS.selp [0, 1, 2] (by decide) (by kernel_rfl)).pick [0, 1] (by kernel_rfl)) ?_
                  exact rfl
                · refine cond_f hF (by kernel_rfl) hb ?_
                  clear hb
                  refine wpIn_skip ?_
                  refine hK99 _ _ ?_
                  refine wpIn_region_lit ?_
                  refine wl_cons rfl (wo_load hF hS (by kernel_rfl) 0 0 0 (v := .int .i64 (v94.1)) rfl rfl rfl rfl rfl (by kernel_rfl) (by kernel_rfl) ?_)
                  clear hF
                  intro a hF
                  refine wl_pure (L' := [(1, .string (a6)), (2, .string (a7)), (3, .string (a8)), (5, .pointer (some ⟨b11, 0, none⟩)), (10, .pointer (some ⟨b12, 0, none⟩)), (16, .pointer (some ⟨b36, 0, none⟩)), (112, .int .i64 (IntKind.i64.wrap (v94.1 + 1)))]) 1 [1, 2, 3, 5, 10, 16, 112] hF (by kernel_rfl) ?_
                  clear hF
                  intro a hF
                  refine wl_cons rfl (wo_stores hF hS (by kernel_rfl) 0 0 1 (v := .int .i64 (IntKind.i64.wrap (v94.1 + 1))) (s' := [(1, [.int .i64 (IntKind.i64.wrap (v94.1 + 1))])]) (t := [(1, [.int .i64 (IntKind.i64.wrap (v94.1 + 1))])]) (C' := [.box b36 3 [(1, [.int .i64 (IntKind.i64.wrap (v94.1 + 1))])], .box b12 4 [(1, [.bool (false)])], .box b11 26 [(1, [.slice p2 (a1.Cuts).length c3]), (1, [.slice p4 (a1.Nodes).length c5])]]) (n := 1) rfl rfl (by kernel_rfl) rfl (by kernel_rfl) (by kernel_rfl) (by kernel_rfl) (by kernel_rfl) (sgV rfl sgNil).1 (sgV rfl sgNil).2 (by kernel_rfl) (by kernel_rfl) (by kernel_rfl) ?_)
                  clear hF hS
                  intro a w hF hS
                  refine wpListIn_nil ?_
                  cases H
                  try dsimp only [Exit.inBlock, Exit.then]
                  refine re_normal [.ret] (C := [.box b36 3 [(1, [.int .i64 (IntKind.i64.wrap (v94.1 + 1))])], .box b12 4 [(1, [.bool (false)])], .box b11 26 [(1, [.slice p2 (a1.Cuts).length c3]), (1, [.slice p4 (a1.Nodes).length c5])]]) (R := [Ro.mp fStr.ty p2 c3 a1.Cuts, Ro.mp (fInt .i64).ty p4 c5 a1.Nodes]) ((hS.selp [0, 1, 2] (by decide) (by kernel_rfl)).pick [0, 1] (by kernel_rfl)) ?_
                  exact rfl
          · rintro _ rfl
            refine ⟨_, _, _, rfl, fun κ w a hF hS => ?_⟩
            clear hrc
            refine bif_split H (fun hb H => ?_) (fun hb H => ?_)
            · refine jumped0 hb ?_
              clear hb
              refine hK37 _ _ ?_
              refine wpIn_seq_k fun K108 hK108 => ?_
              refine wpIn_region_lit ?_
              refine wl_cons rfl (wo_loads hF hS (by kernel_rfl) 3 0 2 (s' := [(1, [.slice p2 (a1.Cuts).length c3]), (1, [.slice p4 (a1.Nodes).length c5])]) (n := 2) rfl rfl rfl (by kernel_rfl) (by kernel_rfl) (by kernel_rfl) (by kernel_rfl) (by kernel_rfl) ?_)
              clear hF
              intro a hF
              refine wl_cons rfl (wo_load hF hS (by kernel_rfl) 1 0 0 (v := .int .i64 (v107.1)) rfl rfl rfl rfl rfl (by kernel_rfl) (by kernel_rfl) ?_)
              clear hF
              intro a hF
              refine bind_split H (fun x109 hx109 H => ?_)
              refine wl_cons rfl (wo_callP (args := #[.agg (flat [(1, [.slice p2 (a1.Cuts).length c3]), (1, [.slice p4 (a1.Nodes).length c5])]).toArray, .int .i64 (v107.1)]) (f := 34) hF hS (by kernel_rfl) (by kernel_rfl) (C_ref08_Ends N hS.fresh (T_api_Map.mk a1.Cuts a1.Nodes) v107.1 p2 c3 p4 c5 ((hS.pick [0, 1] (by kernel_rfl)).ro) hx109) ?_)
              clear hF hS hx109
              rintro _ κ w a ⟨rfl, hR, hN⟩ hF hS hO
              clear hR hN hO
              refine wl_pure (L' := [(1, .string (a6)), (2, .string (a7)), (3, .string (a8)), (5, .pointer (some ⟨b11, 0, none⟩)), (10, .pointer (some ⟨b12, 0, none⟩)), (24, .bool (x109.2.2))]) 7 [1, 2, 3, 5, 10, 24] hF (by kernel_rfl) ?_
              clear hF
              intro a hF
              refine wpListIn_nil ?_
              refine hK108 _ _ ?_
              clear hK108 K108
              refine wpIn_seq_k fun K110 hK110 => ?_
              refine bind_split H (fun v112 hv112 H => ?_)
              refine code_join (fun a w => ∃ κ : Gh, Fr (154) [mark r] [(10, .pointer (some ⟨b12, 0, none⟩))] a ∧ SS [] κ0 w0 κ w [.box b12 4 [(1, [.bool (v112)])], .ext (defX r)] [] ∧ True) ?_ ?_
              · clear H
                refine region_any (SSx [] κ0 w0 [.box b36 3 [(1, [.int .i64 (v107.1)])], .box b12 4 [(1, [.bool (false)])], .box b11 26 [(1, [.slice p2 (a1.Cuts).length c3]), (1, [.slice p4 (a1.Nodes).length c5])]] [Ro.mp fStr.ty p2 c3 a1.Cuts, Ro.mp (fInt .i64).ty p4 c5 a1.Nodes, Ro.mp fStr.ty p2 c3 a1.Cuts, Ro.mp (fInt .i64).ty p4 c5 a1.Nodes]) [34] (by kernel_rfl) (n := 35) (by kernel_rfl) (l := #[false, false, false, false, false, false, false, false, false, false, false, false, false, false, false, false, false, false, false, false, false, false, false, false, false, false, false, false, false, false, false, false, false, false, false]) (by kernel_rfl) ?_
                have hS := hS.drew
                refine bind_split hv112 (fun x113 hx113 hv112 => ?_)
                refine bif_split hv112 (fun hb114 hv112 => ?_) (fun hb114 hv112 => ?_)
                · refine bif_split hv112 (fun hb115 hv112 => ?_) (fun hb115 hv112 => ?_)
                  · refine bind_split hv112 (fun x116 hx116 hv112 => ?_)
                    refine bind_split hv112 (fun x117 hx117 hv112 => ?_)
                    refine bif_split hv112 (fun hb118 hv112 => ?_) (fun hb118 hv112 => ?_)
                    · refine bind_split hv112 (fun x119 hx119 hv112 => ?_)
                      refine bind_split hv112 (fun x120 hx120 hv112 => ?_)
                      refine bif_split hv112 (fun hb121 hv112 => ?_) (fun hb121 hv112 => ?_)
                      · refine bind_split hv112 (fun x122 hx122 hv112 => ?_)
                        refine bind_split hv112 (fun x123 hx123 hv112 => ?_)
                        refine any_go 0 (o := ⟨(some 120), (Go.Op.call (Go.Call.mk (Go.Callee.value (Go.Operand.func 29)) #[] #[])), 4, "law.go:46", #[], none⟩) hF rfl (by kernel_rfl) (by kernel_rfl) (listed' := #[true, false, false, false, false, false, false, false, false, false, false, false, false, false, false, false, false, false, false, false, false, false, false, false, false, false, false, false, false, false, false, false, false, false, false]) (by kernel_rfl) ?_
                        refine wo_callP (args := #[]) (f := 29) hF hS (by kernel_rfl) (by kernel_rfl) (C_law08_awake N hS.fresh   ((hS.pick [] (by kernel_rfl)).ro) hx113) ?_
                        clear hF hS hx113
                        rintro _ κ w a ⟨rfl, hR, hN⟩ hF hS hO
                        clear hR hN hO
                        refine ⟨fun _ => ⟨_, (hS.selp [1, 2, 3] (by decide) (by kernel_rfl)).pick [0, 1, 0, 1] (by kernel_rfl)⟩, ?_⟩
                        refine any_pure [1] [1, 2, 3, 5, 10, 24, 121] (L' := [(1, .string (a6)), (2, .string (a7)), (3, .string (a8)), (5, .pointer (some ⟨b11, 0, none⟩)), (10, .pointer (some ⟨b12, 0, none⟩)), (24, .bool (x109.2.2)), (121, .bool (x113))]) (listed' := #[true, true, false, false, false, false, false, false, false, false, false, false, false, false, false, false, false, false, false, false, false, false, false, false, false, false, false, false, false, false, false, false, false, false, false]) (fuel := 33) hF ⟨_, (hS.selp [1, 2, 3] (by decide) (by kernel_rfl)).pick [0, 1, 0, 1] (by kernel_rfl)⟩ (by kernel_rfl) (by intro c a w t v h; cases t <;> exact h) (by kernel_rfl) rfl ?_
                        clear hF
                        intro a hF
                        have hF := hF.boolv 121 (by kernel_rfl) hb114
                        refine any_pure [2, 3, 4, 5] [1, 2, 3, 5, 10, 125] (L' := [(1, .string (a6)), (2, .string (a7)), (3, .string (a8)), (5, .pointer (some ⟨b11, 0, none⟩)), (10, .pointer (some ⟨b12, 0, none⟩)), (125, .bool ((!x109.2.2)))]) (listed' := #[true, true, true, true, true, true, false, false, false, false, false, false, false, false, false, false, false, false, false, false, false, false, false, false, false, false, false, false, false, false, false, false, false, false, false]) (fuel := 29) hF ⟨_, (hS.selp [1, 2, 3] (by decide) (by kernel_rfl)).pick [0, 1, 0, 1] (by kernel_rfl)⟩ (by kernel_rfl) (by intro c a w t v h; cases t <;> exact h) (by kernel_rfl) rfl ?_
                        clear hF
                        intro a hF
                        have hF := hF.boolv 125 (by kernel_rfl) hb115
                        refine any_pure [7, 10] [1, 2, 3, 5, 10, 125, 127, 130] (L' := [(1, .string (a6)), (2, .string (a7)), (3, .string (a8)), (5, .pointer (some ⟨b11, 0, none⟩)), (10, .pointer (some ⟨b12, 0, none⟩)), (125, .bool (true)), (127, .string (a6)), (130, .string (a6))]) (listed' := #[true, true, true, true, true, true, false, true, false, false, true, false, false, false, false, false, false, false, false, false, false, false, false, false, false, false, false, false, false, false, false, false, false, false, false]) (fuel := 27) hF ⟨_, (hS.selp [1, 2, 3] (by decide) (by kernel_rfl)).pick [0, 1, 0, 1] (by kernel_rfl)⟩ (by kernel_rfl) (by intro c a w t v h; cases t <;> exact h) (by kernel_rfl) rfl ?_
                        clear hF
                        intro a hF
                        refine any_take 6 (some 126) hF ⟨_, (hS.selp [1, 2, 3] (by decide) (by kernel_rfl)).pick [0, 1, 0, 1] (by kernel_rfl)⟩ rfl (by kernel_rfl) (by kernel_rfl) (by intro c a w v h; exact h) (by kernel_rfl) (by kernel_rfl) (by kernel_rfl) rfl (val_loads 2 0 2 (s' := [(1, [.slice p2 (a1.Cuts).length c3]), (1, [.slice p4 (a1.Nodes).length c5])]) (n := 2) rfl rfl rfl (by kernel_rfl) (by kernel_rfl) (by kernel_rfl) (by kernel_rfl) (by kernel_rfl)) ?_
                        clear hF
                        intro a hF
                        refine any_take 9 (some 129) hF ⟨_, (hS.selp [1, 2, 3] (by decide) (by kernel_rfl)).pick [0, 1, 0, 1] (by kernel_rfl)⟩ rfl (by kernel_rfl) (by kernel_rfl) (by intro c a w v h; exact h) (by kernel_rfl) (by kernel_rfl) (by kernel_rfl) rfl (val_loads 2 0 2 (s' := [(1, [.slice p2 (a1.Cuts).length c3]), (1, [.slice p4 (a1.Nodes).length c5])]) (n := 2) rfl rfl rfl (by kernel_rfl) (by kernel_rfl) (by kernel_rfl) (by kernel_rfl) (by kernel_rfl)) ?_
                        clear hF
                        intro a hF
                        refine any_go 8 (o := ⟨(some 128), (Go.Op.call (Go.Call.mk (Go.Callee.value (Go.Operand.func 36)) #[(Go.Operand.tmp 126), (Go.Operand.tmp 127)] #[26, 9])), 3, "law.go:46", #[(Go.Edge.mk 6 Go.Ground.data), (Go.Edge.mk 7 Go.Ground.data), (Go.Edge.mk 5 Go.Ground.chain), (Go.Edge.mk 5 Go.Ground.guard)], (some (5, true))⟩) hF rfl (by kernel_rfl) (by kernel_rfl) (listed' := #[true, true, true, true, true, true, true, true, true, true, true, false, false, false, false, false, false, false, false, false, false, false, false, false, false, false, false, false, false, false, false, false, false, false, false]) (by kernel_rfl) ?_
                        refine wo_callP (args := #[.agg (flat [(1, [.slice p2 (a1.Cuts).length c3]), (1, [.slice p4 (a1.Nodes).length c5])]).toArray, .string (a6)]) (f := 36) hF hS (by kernel_rfl) (by kernel_rfl) (C_span_Find N hS.fresh (T_api_Map.mk a1.Cuts a1.Nodes) a6 p2 c3 p4 c5 ((hS.pick [0, 1] (by kernel_rfl)).ro) hx116) ?_
                        clear hF hS hx116
                        rintro _ κ w a ⟨rfl, hR, hN⟩ hF hS hO
                        clear hR hN hO
                        refine ⟨fun _ => ⟨_, (hS.selp [1, 2, 3] (by decide) (by kernel_rfl)).pick [0, 1, 0, 1] (by kernel_rfl)⟩, ?_⟩
                        refine any_go 11 (o := ⟨(some 131), (Go.Op.call (Go.Call.mk (Go.Callee.value (Go.Operand.func 37)) #[(Go.Operand.tmp 129), (Go.Operand.tmp 130)] #[26, 9])), 3, "law.go:46", #[(Go.Edge.mk 9 Go.Ground.data), (Go.Edge.mk 10 Go.Ground.data), (Go.Edge.mk 8 Go.Ground.chain), (Go.Edge.mk 5 Go.Ground.guard)], (some (5, true))⟩) hF rfl (by kernel_rfl) (by kernel_rfl) (listed' := #[true, true, true, true, true, true, true, true, true, true, true, true, false, false, false, false, false, false, false, false, false, false, false, false, false, false, false, false, false, false, false, false, false, false, false]) (by kernel_rfl) ?_
                        refine wo_callP (args := #[.agg (flat [(1, [.slice p2 (a1.Cuts).length c3]), (1, [.slice p4 (a1.Nodes).length c5])]).toArray, .string (a6)]) (f := 37) hF hS (by kernel_rfl) (by kernel_rfl) (C_ref08_Find N hS.fresh (T_api_Map.mk a1.Cuts a1.Nodes) a6 p2 c3 p4 c5 ((hS.pick [0, 1] (by kernel_rfl)).ro) hx117) ?_
                        clear hF hS hx117
                        rintro _ κ w a ⟨rfl, hR, hN⟩ hF hS hO
                        clear hR hN hO
                        refine ⟨fun _ => ⟨_, (hS.selp [1, 2, 3] (by decide) (by kernel_rfl)).pick [0, 1, 0, 1] (by kernel_rfl)⟩, ?_⟩
                        refine any_pure [12, 13, 14] [1, 2, 3, 5, 10, 134] (L' := [(1, .string (a6)), (2, .string (a7)), (3, .string (a8)), (5, .pointer (some ⟨b11, 0, none⟩)), (10, .pointer (some ⟨b12, 0, none⟩)), (134, .bool ((x116 == x117)))]) (listed' := #[true, true, true, true, true, true, true, true, true, true, true, true, true, true, true, false, false, false, false, false, false, false, false, false, false, false, false, false, false, false, false, false, false, false, false]) (fuel := 20) hF ⟨_, (hS.selp [1, 2, 3] (by decide) (by kernel_rfl)).pick [0, 1, 0, 1] (by kernel_rfl)⟩ (by kernel_rfl) (by intro c a w t v h; cases t <;> exact h) (by kernel_rfl) rfl ?_
                        clear hF
                        intro a hF
                        have hF := hF.boolv 134 (by kernel_rfl) hb118
                        refine any_pure [16, 19] [1, 2, 3, 5, 10, 134, 136, 139] (L' := [(1, .string (a6)), (2, .string (a7)), (3, .string (a8)), (5, .pointer (some ⟨b11, 0, none⟩)), (10, .pointer (some ⟨b12, 0, none⟩)), (134, .bool (true)), (136, .string (a6)), (139, .string (a6))]) (listed' := #[true, true, true, true, true, true, true, true, true, true, true, true, true, true, true, false, true, false, false, true, false, false, false, false, false, false, false, false, false, false, false, false, false, false, false]) (fuel := 18) hF ⟨_, (hS.selp [1, 2, 3] (by decide) (by kernel_rfl)).pick [0, 1, 0, 1] (by kernel_rfl)⟩ (by kernel_rfl) (by intro c a w t v h; cases t <;> exact h) (by kernel_rfl) rfl ?_
                        clear hF
                        intro a hF
                        refine any_take 15 (some 135) hF ⟨_, (hS.selp [1, 2, 3] (by decide) (by kernel_rfl)).pick [0, 1, 0, 1] (by kernel_rfl)⟩ rfl (by kernel_rfl) (by kernel_rfl) (by intro c a w v h; exact h) (by kernel_rfl) (by kernel_rfl) (by kernel_rfl) rfl (val_loads 2 0 2 (s' := [(1, [.slice p2 (a1.Cuts).length c3]), (1, [.slice p4 (a1.Nodes).length c5])]) (n := 2) rfl rfl rfl (by kernel_rfl) (by kernel_rfl) (by kernel_rfl) (by kernel_rfl) (by kernel_rfl)) ?_
                        clear hF
                        intro a hF
                        refine any_take 18 (some 138) hF ⟨_, (hS.selp [1, 2, 3] (by decide) (by kernel_rfl)).pick [0, 1, 0, 1] (by kernel_rfl)⟩ rfl (by kernel_rfl) (by kernel_rfl) (by intro c a w v h; exact h) (by kernel_rfl) (by kernel_rfl) (by kernel_rfl) rfl (val_loads 2 0 2 (s' := [(1, [.slice p2 (a1.Cuts).length c3]), (1, [.slice p4 (a1.Nodes).length c5])]) (n := 2) rfl rfl rfl (by kernel_rfl) (by kernel_rfl) (by kernel_rfl) (by kernel_rfl) (by kernel_rfl)) ?_
                        clear hF
                        intro a hF
                        refine any_go 17 (o := ⟨(some 137), (Go.Op.call (Go.Call.mk (Go.Callee.value (Go.Operand.func 38)) #[(Go.Operand.tmp 135), (Go.Operand.tmp 136)] #[26, 9])), 3, "law.go:46", #[(Go.Edge.mk 15 Go.Ground.data), (Go.Edge.mk 16 Go.Ground.data), (Go.Edge.mk 14 Go.Ground.chain), (Go.Edge.mk 14 Go.Ground.guard)], (some (14, true))⟩) hF rfl (by kernel_rfl) (by kernel_rfl) (listed' := #[true, true, true, true, true, true, true, true, true, true, true, true, true, true, true, true, true, true, true, true, false, false, false, false, false, false, false, false, false, false, false, false, false, false, false]) (by kernel_rfl) ?_
                        refine wo_callP (args := #[.agg (flat [(1, [.slice p2 (a1.Cuts).length c3]), (1, [.slice p4 (a1.Nodes).length c5])]).toArray, .string (a6)]) (f := 38) hF hS (by kernel_rfl) (by kernel_rfl) (C_span_Owner N hS.fresh (T_api_Map.mk a1.Cuts a1.Nodes) a6 p2 c3 p4 c5 ((hS.pick [0, 1] (by kernel_rfl)).ro) hx119) ?_
                        clear hF hS hx119
                        rintro _ κ w a ⟨rfl, hR, hN⟩ hF hS hO
                        clear hR hN hO
                        refine ⟨fun _ => ⟨_, (hS.selp [1, 2, 3] (by decide) (by kernel_rfl)).pick [0, 1, 0, 1] (by kernel_rfl)⟩, ?_⟩
                        refine any_go 20 (o := ⟨(some 140), (Go.Op.call (Go.Call.mk (Go.Callee.value (Go.Operand.func 39)) #[(Go.Operand.tmp 138), (Go.Operand.tmp 139)] #[26, 9])), 3, "law.go:46", #[(Go.Edge.mk 18 Go.Ground.data), (Go.Edge.mk 19 Go.Ground.data), (Go.Edge.mk 17 Go.Ground.chain), (Go.Edge.mk 14 Go.Ground.guard)], (some (14, true))⟩) hF rfl (by kernel_rfl) (by kernel_rfl) (listed' := #[true, true, true, true, true, true, true, true, true, true, true, true, true, true, true, true, true, true, true, true, true, false, false, false, false, false, false, false, false, false, false, false, false, false, false]) (by kernel_rfl) ?_
                        refine wo_callP (args := #[.agg (flat [(1, [.slice p2 (a1.Cuts).length c3]), (1, [.slice p4 (a1.Nodes).length c5])]).toArray, .string (a6)]) (f := 39) hF hS (by kernel_rfl) (by kernel_rfl) (C_ref08_Owner N hS.fresh (T_api_Map.mk a1.Cuts a1.Nodes) a6 p2 c3 p4 c5 ((hS.pick [0, 1] (by kernel_rfl)).ro) hx120) ?_
                        clear hF hS hx120
                        rintro _ κ w a ⟨rfl, hR, hN⟩ hF hS hO
                        clear hR hN hO
                        refine ⟨fun _ => ⟨_, (hS.selp [1, 2, 3] (by decide) (by kernel_rfl)).pick [0, 1, 0, 1] (by kernel_rfl)⟩, ?_⟩
                        refine any_pure [21, 22, 23] [1, 2, 3, 10, 143] (L' := [(1, .string (a6)), (2, .string (a7)), (3, .string (a8)), (10, .pointer (some ⟨b12, 0, none⟩)), (143, .bool ((x119 == x120)))]) (listed' := #[true, true, true, true, true, true, true, true, true, true, true, true, true, true, true, true, true, true, true, true, true, true, true, true, false, false, false, false, false, false, false, false, false, false, false]) (fuel := 11) hF ⟨_, (hS.selp [1, 2, 3] (by decide) (by kernel_rfl)).pick [0, 1, 0, 1] (by kernel_rfl)⟩ (by kernel_rfl) (by intro c a w t v h; cases t <;> exact h) (by kernel_rfl) rfl ?_
                        clear hF
                        intro a hF
                        have hF := hF.boolv 143 (by kernel_rfl) hb121
                        refine any_pure [24, 25, 26, 28, 29, 30] [10, 143, 144, 145, 146, 148, 149, 150] (L' := [(10, .pointer (some ⟨b12, 0, none⟩)), (143, .bool (true)), (144, .string (a6)), (145, .string (a7)), (146, .string (a8)), (148, .string (a6)), (149, .string (a7)), (150, .string (a8))]) (listed' := #[true, true, true, true, true, true, true, true, true, true, true, true, true, true, true, true, true, true, true, true, true, true, true, true, true, true, true, false, true, true, true, false, false, false, false]) (fuel := 5) hF ⟨_, (hS.selp [1, 2, 3] (by decide) (by kernel_rfl)).pick [0, 1, 0, 1] (by kernel_rfl)⟩ (by kernel_rfl) (by intro c a w t v h; cases t <;> exact h) (by kernel_rfl) rfl ?_
                        clear hF
                        intro a hF
                        refine any_go 27 (o := ⟨(some 147), (Go.Op.call (Go.Call.mk (Go.Callee.value (Go.Operand.func 40)) #[(Go.Operand.tmp 144), (Go.Operand.tmp 145), (Go.Operand.tmp 146)] #[9, 9, 9])), 4, "law.go:46", #[(Go.Edge.mk 24 Go.Ground.data), (Go.Edge.mk 25 Go.Ground.data), (Go.Edge.mk 26 Go.Ground.data), (Go.Edge.mk 23 Go.Ground.chain), (Go.Edge.mk 23 Go.Ground.guard)], (some (23, true))⟩) hF rfl (by kernel_rfl) (by kernel_rfl) (listed' := #[true, true, true, true, true, true, true, true, true, true, true, true, true, true, true, true, true, true, true, true, true, true, true, true, true, true, true, true, true, true, true, false, false, false, false]) (by kernel_rfl) ?_
                        refine wo_callP (args := #[.string (a6), .string (a7), .string (a8)]) (f := 40) hF hS (by kernel_rfl) (by kernel_rfl) (C_span_Within N hS.fresh a6 a7 a8  ((hS.pick [] (by kernel_rfl)).ro) hx122) ?_
                        clear hF hS hx122
                        rintro _ κ w a ⟨rfl, hR, hN⟩ hF hS hO
                        clear hR hN hO
                        refine ⟨fun _ => ⟨_, (hS.selp [1, 2, 3] (by decide) (by kernel_rfl)).pick [0, 1, 0, 1] (by kernel_rfl)⟩, ?_⟩
                        refine any_go 31 (o := ⟨(some 151), (Go.Op.call (Go.Call.mk (Go.Callee.value (Go.Operand.func 41)) #[(Go.Operand.tmp 148), (Go.Operand.tmp 149), (Go.Operand.tmp 150)] #[9, 9, 9])), 4, "law.go:46", #[(Go.Edge.mk 28 Go.Ground.data), (Go.Edge.mk 29 Go.Ground.data), (Go.Edge.mk 30 Go.Ground.data), (Go.Edge.mk 27 Go.Ground.chain), (Go.Edge.mk 23 Go.Ground.guard)], (some (23, true))⟩) hF rfl (by kernel_rfl) (by kernel_rfl) (listed' := #[true, true, true, true, true, true, true, true, true, true, true, true, true, true, true, true, true, true, true, true, true, true, true, true, true, true, true, true, true, true, true, true, false, false, false]) (by kernel_rfl) ?_
                        refine wo_callP (args := #[.string (a6), .string (a7), .string (a8)]) (f := 41) hF hS (by kernel_rfl) (by kernel_rfl) (C_ref08_Within N hS.fresh a6 a7 a8  ((hS.pick [] (by kernel_rfl)).ro) hx123) ?_
                        clear hF hS hx123
                        rintro _ κ w a ⟨rfl, hR, hN⟩ hF hS hO
                        clear hR hN hO
                        refine ⟨fun _ => ⟨_, (hS.selp [1, 2, 3] (by decide) (by kernel_rfl)).pick [0, 1, 0, 1] (by kernel_rfl)⟩, ?_⟩
                        refine any_pure [32, 33] [10, 153] (L' := [(10, .pointer (some ⟨b12, 0, none⟩)), (153, .bool ((x122 == x123)))]) (listed' := #[true, true, true, true, true, true, true, true, true, true, true, true, true, true, true, true, true, true, true, true, true, true, true, true, true, true, true, true, true, true, true, true, true, true, false]) (fuel := 1) hF ⟨_, (hS.selp [1, 2, 3] (by decide) (by kernel_rfl)).pick [0, 1, 0, 1] (by kernel_rfl)⟩ (by kernel_rfl) (by intro c a w t v h; cases t <;> exact h) (by kernel_rfl) rfl ?_
                        clear hF
                        intro a hF
                        refine any_go 34 (o := ⟨none, (Go.Op.store 4 (Go.Operand.tmp 10) (Go.Operand.tmp 153)), 0, "law.go:46", #[(Go.Edge.mk 33 Go.Ground.data), (Go.Edge.mk 31 Go.Ground.chain), (Go.Edge.mk 0 Go.Ground.phase), (Go.Edge.mk 1 Go.Ground.phase), (Go.Edge.mk 2 Go.Ground.phase), (Go.Edge.mk 3 Go.Ground.phase), (Go.Edge.mk 4 Go.Ground.phase), (Go.Edge.mk 5 Go.Ground.phase), (Go.Edge.mk 6 Go.Ground.phase), (Go.Edge.mk 7 Go.Ground.phase), (Go.Edge.mk 8 Go.Ground.phase), (Go.Edge.mk 9 Go.Ground.phase), (Go.Edge.mk 10 Go.Ground.phase), (Go.Edge.mk 11 Go.Ground.phase), (Go.Edge.mk 12 Go.Ground.phase), (Go.Edge.mk 13 Go.Ground.phase), (Go.Edge.mk 14 Go.Ground.phase), (Go.Edge.mk 15 Go.Ground.phase), (Go.Edge.mk 16 Go.Ground.phase), (Go.Edge.mk 17 Go.Ground.phase), (Go.Edge.mk 18 Go.Ground.phase), (Go.Edge.mk 19 Go.Ground.phase), (Go.Edge.mk 20 Go.Ground.phase), (Go.Edge.mk 21 Go.Ground.phase), (Go.Edge.mk 22 Go.Ground.phase), (Go.Edge.mk 23 Go.Ground.phase), (Go.Edge.mk 24 Go.Ground.phase), (Go.Edge.mk 25 Go.Ground.phase), (Go.Edge.mk 26 Go.Ground.phase), (Go.Edge.mk 27 Go.Ground.phase), (Go.Edge.mk 28 Go.Ground.phase), (Go.Edge.mk 29 Go.Ground.phase), (Go.Edge.mk 30 Go.Ground.phase), (Go.Edge.mk 31 Go.Ground.phase), (Go.Edge.mk 32 Go.Ground.phase), (Go.Edge.mk 33 Go.Ground.phase)], none⟩) hF rfl (by kernel_rfl) (by kernel_rfl) (listed' := #[true, true, true, true, true, true, true, true, true, true, true, true, true, true, true, true, true, true, true, true, true, true, true, true, true, true, true, true, true, true, true, true, true, true, true]) (by kernel_rfl) ?_
                        refine wo_stores hF hS (by kernel_rfl) 2 0 1 (v := .bool ((x122 == x123))) (s' := [(1, [.bool ((x122 == x123))])]) (t := [(1, [.bool ((x122 == x123))])]) (C' := [.ext (defX r), .box b36 3 [(1, [.int .i64 (v107.1)])], .box b12 4 [(1, [.bool ((x122 == x123))])], .box b11 26 [(1, [.slice p2 (a1.Cuts).length c3]), (1, [.slice p4 (a1.Nodes).length c5])]]) (n := 1) rfl rfl (by kernel_rfl) rfl (by kernel_rfl) (by kernel_rfl) (by kernel_rfl) (by kernel_rfl) (sgV rfl sgNil).1 (sgV rfl sgNil).2 (by kernel_rfl) (by kernel_rfl) (by kernel_rfl) ?_
                        clear hF hS
                        intro a w hF hS
                        refine ⟨fun h => absurd (show false = true from h) Bool.false_ne_true, ?_⟩
                        refine any_done (by kernel_rfl) ?_ _
                        cases hv112
                        exact ⟨_, hF.keep' [10] (by kernel_rfl), (hS.selp [2, 0] (by decide) (by kernel_rfl)).pick [] (by kernel_rfl), trivial⟩
                      · refine any_go 0 (o := ⟨(some 120), (Go.Op.call (Go.Call.mk (Go.Callee.value (Go.Operand.func 29)) #[] #[])), 4, "law.go:46", #[], none⟩) hF rfl (by kernel_rfl) (by kernel_rfl) (listed' := #[true, false, false, false, false, false, false, false, false, false, false, false, false, false, false, false, false, false, false, false, false, false, false, false, false, false, false, false, false, false, false, false, false, false, false]) (by kernel_rfl) ?_
                        refine wo_callP (args := #[]) (f := 29) hF hS (by kernel_rfl) (by kernel_rfl) (C_law08_awake N hS.fresh   ((hS.pick [] (by kernel_rfl)).ro) hx113) ?_
                        clear hF hS hx113
                        rintro _ κ w a ⟨rfl, hR, hN⟩ hF hS hO
                        clear hR hN hO
                        refine ⟨fun _ => ⟨_, (hS.selp [1, 2, 3] (by decide) (by kernel_rfl)).pick [0, 1, 0, 1] (by kernel_rfl)⟩, ?_⟩
                        refine any_pure [1] [1, 2, 3, 5, 10, 24, 121] (L' := [(1, .string (a6)), (2, .string (a7)), (3, .string (a8)), (5, .pointer (some ⟨b11, 0, none⟩)), (10, .pointer (some ⟨b12, 0, none⟩)), (24, .bool (x109.2.2)), (121, .bool (x113))]) (listed' := #[true, true, false, false, false, false, false, false, false, false, false, false, false, false, false, false, false, false, false, false, false, false, false, false, false, false, false, false, false, false, false, false, false, false, false]) (fuel := 33) hF ⟨_, (hS.selp [1, 2, 3] (by decide) (by kernel_rfl)).pick [0, 1, 0, 1] (by kernel_rfl)⟩ (by kernel_rfl) (by intro c a w t v h; cases t <;> exact h) (by kernel_rfl) rfl ?_
                        clear hF
                        intro a hF
                        have hF := hF.boolv 121 (by kernel_rfl) hb114
                        refine any_pure [2, 3, 4, 5] [1, 2, 3, 5, 10, 125] (L' := [(1, .string (a6)), (2, .string (a7)), (3, .string (a8)), (5, .pointer (some ⟨b11, 0, none⟩)), (10, .pointer (some ⟨b12, 0, none⟩)), (125, .bool ((!x109.2.2)))]) (listed' := #[true, true, true, true, true, true, false, false, false, false, false, false, false, false, false, false, false, false, false, false, false, false, false, false, false, false, false, false, false, false, false, false, false, false, false]) (fuel := 29) hF ⟨_, (hS.selp [1, 2, 3] (by decide) (by kernel_rfl)).pick [0, 1, 0, 1] (by kernel_rfl)⟩ (by kernel_rfl) (by intro c a w t v h; cases t <;> exact h) (by kernel_rfl) rfl ?_
                        clear hF
                        intro a hF
                        have hF := hF.boolv 125 (by kernel_rfl) hb115
                        refine any_pure [7, 10] [1, 2, 3, 5, 10, 125, 127, 130] (L' := [(1, .string (a6)), (2, .string (a7)), (3, .string (a8)), (5, .pointer (some ⟨b11, 0, none⟩)), (10, .pointer (some ⟨b12, 0, none⟩)), (125, .bool (true)), (127, .string (a6)), (130, .string (a6))]) (listed' := #[true, true, true, true, true, true, false, true, false, false, true, false, false, false, false, false, false, false, false, false, false, false, false, false, false, false, false, false, false, false, false, false, false, false, false]) (fuel := 27) hF ⟨_, (hS.selp [1, 2, 3] (by decide) (by kernel_rfl)).pick [0, 1, 0, 1] (by kernel_rfl)⟩ (by kernel_rfl) (by intro c a w t v h; cases t <;> exact h) (by kernel_rfl) rfl ?_
                        clear hF
                        intro a hF
                        refine any_take 6 (some 126) hF ⟨_, (hS.selp [1, 2, 3] (by decide) (by kernel_rfl)).pick [0, 1, 0, 1] (by kernel_rfl)⟩ rfl (by kernel_rfl) (by kernel_rfl) (by intro c a w v h; exact h) (by kernel_rfl) (by kernel_rfl) (by kernel_rfl) rfl (val_loads 2 0 2 (s' := [(1, [.slice p2 (a1.Cuts).length c3]), (1, [.slice p4 (a1.Nodes).length c5])]) (n := 2) rfl rfl rfl (by kernel_rfl) (by kernel_rfl) (by kernel_rfl) (by kernel_rfl) (by kernel_rfl)) ?_
                        clear hF
                        intro a hF
                        refine any_take 9 (some 129) hF ⟨_, (hS.selp [1, 2, 3] (by decide) (by kernel_rfl)).pick [0, 1, 0, 1] (by kernel_rfl)⟩ rfl (by kernel_rfl) (by kernel_rfl) (by intro c a w v h; exact h) (by kernel_rfl) (by kernel_rfl) (by kernel_rfl) rfl (val_loads 2 0 2 (s' := [(1, [.slice p2 (a1.Cuts).length c3]), (1, [.slice p4 (a1.Nodes).length c5])]) (n := 2) rfl rfl rfl (by kernel_rfl) (by kernel_rfl) (by kernel_rfl) (by kernel_rfl) (by kernel_rfl)) ?_
                        clear hF
                        intro a hF
                        refine any_go 8 (o := ⟨(some 128), (Go.Op.call (Go.Call.mk (Go.Callee.value (Go.Operand.func 36)) #[(Go.Operand.tmp 126), (Go.Operand.tmp 127)] #[26, 9])), 3, "law.go:46", #[(Go.Edge.mk 6 Go.Ground.data), (Go.Edge.mk 7 Go.Ground.data), (Go.Edge.mk 5 Go.Ground.chain), (Go.Edge.mk 5 Go.Ground.guard)], (some (5, true))⟩) hF rfl (by kernel_rfl) (by kernel_rfl) (listed' := #[true, true, true, true, true, true, true, true, true, true, true, false, false, false, false, false, false, false, false, false, false, false, false, false, false, false, false, false, false, false, false, false, false, false, false]) (by kernel_rfl) ?_
                        refine wo_callP (args := #[.agg (flat [(1, [.slice p2 (a1.Cuts).length c3]), (1, [.slice p4 (a1.Nodes).length c5])]).toArray, .string (a6)]) (f := 36) hF hS (by kernel_rfl) (by kernel_rfl) (C_span_Find N hS.fresh (T_api_Map.mk a1.Cuts a1.Nodes) a6 p2 c3 p4 c5 ((hS.pick [0, 1] (by kernel_rfl)).ro) hx116) ?_
                        clear hF hS hx116
                        rintro _ κ w a ⟨rfl, hR, hN⟩ hF hS hO
                        clear hR hN hO
                        refine ⟨fun _ => ⟨_, (hS.selp [1, 2, 3] (by decide) (by kernel_rfl)).pick [0, 1, 0, 1] (by kernel_rfl)⟩, ?_⟩
                        refine any_go 11 (o := ⟨(some 131), (Go.Op.call (Go.Call.mk (Go.Callee.value (Go.Operand.func 37)) #[(Go.Operand.tmp 129), (Go.Operand.tmp 130)] #[26, 9])), 3, "law.go:46", #[(Go.Edge.mk 9 Go.Ground.data), (Go.Edge.mk 10 Go.Ground.data), (Go.Edge.mk 8 Go.Ground.chain), (Go.Edge.mk 5 Go.Ground.guard)], (some (5, true))⟩) hF rfl (by kernel_rfl) (by kernel_rfl) (listed' := #[true, true, true, true, true, true, true, true, true, true, true, true, false, false, false, false, false, false, false, false, false, false, false, false, false, false, false, false, false, false, false, false, false, false, false]) (by kernel_rfl) ?_
                        refine wo_callP (args := #[.agg (flat [(1, [.slice p2 (a1.Cuts).length c3]), (1, [.slice p4 (a1.Nodes).length c5])]).toArray, .string (a6)]) (f := 37) hF hS (by kernel_rfl) (by kernel_rfl) (C_ref08_Find N hS.fresh (T_api_Map.mk a1.Cuts a1.Nodes) a6 p2 c3 p4 c5 ((hS.pick [0, 1] (by kernel_rfl)).ro) hx117) ?_
                        clear hF hS hx117
                        rintro _ κ w a ⟨rfl, hR, hN⟩ hF hS hO
                        clear hR hN hO
                        refine ⟨fun _ => ⟨_, (hS.selp [1, 2, 3] (by decide) (by kernel_rfl)).pick [0, 1, 0, 1] (by kernel_rfl)⟩, ?_⟩
                        refine any_pure [12, 13, 14] [1, 2, 3, 5, 10, 134] (L' := [(1, .string (a6)), (2, .string (a7)), (3, .string (a8)), (5, .pointer (some ⟨b11, 0, none⟩)), (10, .pointer (some ⟨b12, 0, none⟩)), (134, .bool ((x116 == x117)))]) (listed' := #[true, true, true, true, true, true, true, true, true, true, true, true, true, true, true, false, false, false, false, false, false, false, false, false, false, false, false, false, false, false, false, false, false, false, false]) (fuel := 20) hF ⟨_, (hS.selp [1, 2, 3] (by decide) (by kernel_rfl)).pick [0, 1, 0, 1] (by kernel_rfl)⟩ (by kernel_rfl) (by intro c a w t v h; cases t <;> exact h) (by kernel_rfl) rfl ?_
                        clear hF
                        intro a hF
                        have hF := hF.boolv 134 (by kernel_rfl) hb118
                        refine any_pure [16, 19] [1, 2, 3, 5, 10, 134, 136, 139] (L' := [(1, .string (a6)), (2, .string (a7)), (3, .string (a8)), (5, .pointer (some ⟨b11, 0, none⟩)), (10, .pointer (some ⟨b12, 0, none⟩)), (134, .bool (true)), (136, .string (a6)), (139, .string (a6))]) (listed' := #[true, true, true, true, true, true, true, true, true, true, true, true, true, true, true, false, true, false, false, true, false, false, false, false, false, false, false, false, false, false, false, false, false, false, false]) (fuel := 18) hF ⟨_, (hS.selp [1, 2, 3] (by decide) (by kernel_rfl)).pick [0, 1, 0, 1] (by kernel_rfl)⟩ (by kernel_rfl) (by intro c a w t v h; cases t <;> exact h) (by kernel_rfl) rfl ?_
                        clear hF
                        intro a hF
                        refine any_take 15 (some 135) hF ⟨_, (hS.selp [1, 2, 3] (by decide) (by kernel_rfl)).pick [0, 1, 0, 1] (by kernel_rfl)⟩ rfl (by kernel_rfl) (by kernel_rfl) (by intro c a w v h; exact h) (by kernel_rfl) (by kernel_rfl) (by kernel_rfl) rfl (val_loads 2 0 2 (s' := [(1, [.slice p2 (a1.Cuts).length c3]), (1, [.slice p4 (a1.Nodes).length c5])]) (n := 2) rfl rfl rfl (by kernel_rfl) (by kernel_rfl) (by kernel_rfl) (by kernel_rfl) (by kernel_rfl)) ?_
                        clear hF
                        intro a hF
                        refine any_take 18 (some 138) hF ⟨_, (hS.selp [1, 2, 3] (by decide) (by kernel_rfl)).pick [0, 1, 0, 1] (by kernel_rfl)⟩ rfl (by kernel_rfl) (by kernel_rfl) (by intro c a w v h; exact h) (by kernel_rfl) (by kernel_rfl) (by kernel_rfl) rfl (val_loads 2 0 2 (s' := [(1, [.slice p2 (a1.Cuts).length c3]), (1, [.slice p4 (a1.Nodes).length c5])]) (n := 2) rfl rfl rfl (by kernel_rfl) (by kernel_rfl) (by kernel_rfl) (by kernel_rfl) (by kernel_rfl)) ?_
                        clear hF
                        intro a hF
                        refine any_go 17 (o := ⟨(some 137), (Go.Op.call (Go.Call.mk (Go.Callee.value (Go.Operand.func 38)) #[(Go.Operand.tmp 135), (Go.Operand.tmp 136)] #[26, 9])), 3, "law.go:46", #[(Go.Edge.mk 15 Go.Ground.data), (Go.Edge.mk 16 Go.Ground.data), (Go.Edge.mk 14 Go.Ground.chain), (Go.Edge.mk 14 Go.Ground.guard)], (some (14, true))⟩) hF rfl (by kernel_rfl) (by kernel_rfl) (listed' := #[true, true, true, true, true, true, true, true, true, true, true, true, true, true, true, true, true, true, true, true, false, false, false, false, false, false, false, false, false, false, false, false, false, false, false]) (by kernel_rfl) ?_
                        refine wo_callP (args := #[.agg (flat [(1, [.slice p2 (a1.Cuts).length c3]), (1, [.slice p4 (a1.Nodes).length c5])]).toArray, .string (a6)]) (f := 38) hF hS (by kernel_rfl) (by kernel_rfl) (C_span_Owner N hS.fresh (T_api_Map.mk a1.Cuts a1.Nodes) a6 p2 c3 p4 c5 ((hS.pick [0, 1] (by kernel_rfl)).ro) hx119) ?_
                        clear hF hS hx119
                        rintro _ κ w a ⟨rfl, hR, hN⟩ hF hS hO
                        clear hR hN hO
                        refine ⟨fun _ => ⟨_, (hS.selp [1, 2, 3] (by decide) (by kernel_rfl)).pick [0, 1, 0, 1] (by kernel_rfl)⟩, ?_⟩
                        refine any_go 20 (o := ⟨(some 140), (Go.Op.call (Go.Call.mk (Go.Callee.value (Go.Operand.func 39)) #[(Go.Operand.tmp 138), (Go.Operand.tmp 139)] #[26, 9])), 3, "law.go:46", #[(Go.Edge.mk 18 Go.Ground.data), (Go.Edge.mk 19 Go.Ground.data), (Go.Edge.mk 17 Go.Ground.chain), (Go.Edge.mk 14 Go.Ground.guard)], (some (14, true))⟩) hF rfl (by kernel_rfl) (by kernel_rfl) (listed' := #[true, true, true, true, true, true, true, true, true, true, true, true, true, true, true, true, true, true, true, true, true, false, false, false, false, false, false, false, false, false, false, false, false, false, false]) (by kernel_rfl) ?_
                        refine wo_callP (args := #[.agg (flat [(1, [.slice p2 (a1.Cuts).length c3]), (1, [.slice p4 (a1.Nodes).length c5])]).toArray, .string (a6)]) (f := 39) hF hS (by kernel_rfl) (by kernel_rfl) (C_ref08_Owner N hS.fresh (T_api_Map.mk a1.Cuts a1.Nodes) a6 p2 c3 p4 c5 ((hS.pick [0, 1] (by kernel_rfl)).ro) hx120) ?_
                        clear hF hS hx120
                        rintro _ κ w a ⟨rfl, hR, hN⟩ hF hS hO
                        clear hR hN hO
                        refine ⟨fun _ => ⟨_, (hS.selp [1, 2, 3] (by decide) (by kernel_rfl)).pick [0, 1, 0, 1] (by kernel_rfl)⟩, ?_⟩
                        refine any_pure [21, 22, 23] [1, 2, 3, 10, 143] (L' := [(1, .string (a6)), (2, .string (a7)), (3, .string (a8)), (10, .pointer (some ⟨b12, 0, none⟩)), (143, .bool ((x119 == x120)))]) (listed' := #[true, true, true, true, true, true, true, true, true, true, true, true, true, true, true, true, true, true, true, true, true, true, true, true, false, false, false, false, false, false, false, false, false, false, false]) (fuel := 11) hF ⟨_, (hS.selp [1, 2, 3] (by decide) (by kernel_rfl)).pick [0, 1, 0, 1] (by kernel_rfl)⟩ (by kernel_rfl) (by intro c a w t v h; cases t <;> exact h) (by kernel_rfl) rfl ?_
                        clear hF
                        intro a hF
                        have hF := hF.boolv 143 (by kernel_rfl) hb121
                        refine any_pure [24, 25, 26, 27, 28, 29, 30, 31, 32, 33] [10, 153] (L' := [(10, .pointer (some ⟨b12, 0, none⟩)), (153, .bool (false))]) (listed' := #[true, true, true, true, true, true, true, true, true, true, true, true, true, true, true, true, true, true, true, true, true, true, true, true, true, true, true, true, true, true, true, true, true, true, false]) (fuel := 1) hF ⟨_, (hS.selp [1, 2, 3] (by decide) (by kernel_rfl)).pick [0, 1, 0, 1] (by kernel_rfl)⟩ (by kernel_rfl) (by intro c a w t v h; cases t <;> exact h) (by kernel_rfl) rfl ?_
                        clear hF
                        intro a hF
                        refine any_go 34 (o := ⟨none, (Go.Op.store 4 (Go.Operand.tmp 10) (Go.Operand.tmp 153)), 0, "law.go:46", #[(Go.Edge.mk 33 Go.Ground.data), (Go.Edge.mk 31 Go.Ground.chain), (Go.Edge.mk 0 Go.Ground.phase), (Go.Edge.mk 1 Go.Ground.phase), (Go.Edge.mk 2 Go.Ground.phase), (Go.Edge.mk 3 Go.Ground.phase), (Go.Edge.mk 4 Go.Ground.phase), (Go.Edge.mk 5 Go.Ground.phase), (Go.Edge.mk 6 Go.Ground.phase), (Go.Edge.mk 7 Go.Ground.phase), (Go.Edge.mk 8 Go.Ground.phase), (Go.Edge.mk 9 Go.Ground.phase), (Go.Edge.mk 10 Go.Ground.phase), (Go.Edge.mk 11 Go.Ground.phase), (Go.Edge.mk 12 Go.Ground.phase), (Go.Edge.mk 13 Go.Ground.phase), (Go.Edge.mk 14 Go.Ground.phase), (Go.Edge.mk 15 Go.Ground.phase), (Go.Edge.mk 16 Go.Ground.phase), (Go.Edge.mk 17 Go.Ground.phase), (Go.Edge.mk 18 Go.Ground.phase), (Go.Edge.mk 19 Go.Ground.phase), (Go.Edge.mk 20 Go.Ground.phase), (Go.Edge.mk 21 Go.Ground.phase), (Go.Edge.mk 22 Go.Ground.phase), (Go.Edge.mk 23 Go.Ground.phase), (Go.Edge.mk 24 Go.Ground.phase), (Go.Edge.mk 25 Go.Ground.phase), (Go.Edge.mk 26 Go.Ground.phase), (Go.Edge.mk 27 Go.Ground.phase), (Go.Edge.mk 28 Go.Ground.phase), (Go.Edge.mk 29 Go.Ground.phase), (Go.Edge.mk 30 Go.Ground.phase), (Go.Edge.mk 31 Go.Ground.phase), (Go.Edge.mk 32 Go.Ground.phase), (Go.Edge.mk 33 Go.Ground.phase)], none⟩) hF rfl (by kernel_rfl) (by kernel_rfl) (listed' := #[true, true, true, true, true, true, true, true, true, true, true, true, true, true, true, true, true, true, true, true, true, true, true, true, true, true, true, true, true, true, true, true, true, true, true]) (by kernel_rfl) ?_
                        refine wo_stores hF hS (by kernel_rfl) 2 0 1 (v := .bool (false)) (s' := [(1, [.bool (false)])]) (t := [(1, [.bool (false)])]) (C' := [.ext (defX r), .box b36 3 [(1, [.int .i64 (v107.1)])], .box b12 4 [(1, [.bool (false)])], .box b11 26 [(1, [.slice p2 (a1.Cuts).length c3]), (1, [.slice p4 (a1.Nodes).length c5])]]) (n := 1) rfl rfl (by kernel_rfl) rfl (by kernel_rfl) (by kernel_rfl) (by kernel_rfl) (by kernel_rfl) (sgV rfl sgNil).1 (sgV rfl sgNil).2 (by kernel_rfl) (by kernel_rfl) (by kernel_rfl) ?_
                        clear hF hS
                        intro a w hF hS
                        refine ⟨fun h => absurd (show false = true from h) Bool.false_ne_true, ?_⟩
                        refine any_done (by kernel_rfl) ?_ _
                        cases hv112
                        exact ⟨_, hF.keep' [10] (by kernel_rfl), (hS.selp [2, 0] (by decide) (by kernel_rfl)).pick [] (by kernel_rfl), trivial⟩
                    · refine any_go 0 (o := ⟨(some 120), (Go.Op.call (Go.Call.mk (Go.Callee.value (Go.Operand.func 29)) #[] #[])), 4, "law.go:46", #[], none⟩) hF rfl (by kernel_rfl) (by kernel_rfl) (listed' := #[true, false, false, false, false, false, false, false, false, false, false, false, false, false, false, false, false, false, false, false, false, false, false, false, false, false, false, false, false, false, false, false, false, false, false]) (by kernel_rfl) ?_
                      refine wo_callP (args := #[]) (f := 29) hF hS (by kernel_rfl) (by kernel_rfl) (C_law08_awake N hS.fresh   ((hS.pick [] (by kernel_rfl)).ro) hx113) ?_
                      clear hF hS hx113
                      rintro _ κ w a ⟨rfl, hR, hN⟩ hF hS hO
                      clear hR hN hO
                      refine ⟨fun _ => ⟨_, (hS.selp [1, 2, 3] (by decide) (by kernel_rfl)).pick [0, 1, 0, 1] (by kernel_rfl)⟩, ?_⟩
                      refine any_pure [1] [1, 2, 3, 5, 10, 24, 121] (L' := [(1, .string (a6)), (2, .string (a7)), (3, .string (a8)), (5, .pointer (some ⟨b11, 0, none⟩)), (10, .pointer (some ⟨b12, 0, none⟩)), (24, .bool (x109.2.2)), (121, .bool (x113))]) (listed' := #[true, true, false, false, false, false, false, false, false, false, false, false, false, false, false, false, false, false, false, false, false, false, false, false, false, false, false, false, false, false, false, false, false, false, false]) (fuel := 33) hF ⟨_, (hS.selp [1, 2, 3] (by decide) (by kernel_rfl)).pick [0, 1, 0, 1] (by kernel_rfl)⟩ (by kernel_rfl) (by intro c a w t v h; cases t <;> exact h) (by kernel_rfl) rfl ?_
                      clear hF
                      intro a hF
                      have hF := hF.boolv 121 (by kernel_rfl) hb114
                      refine any_pure [2, 3, 4, 5] [1, 2, 3, 5, 10, 125] (L' := [(1, .string (a6)), (2, .string (a7)), (3, .string (a8)), (5, .pointer (some ⟨b11, 0, none⟩)), (10, .pointer (some ⟨b12, 0, none⟩)), (125, .bool ((!x109.2.2)))]) (listed' := #[true, true, true, true, true, true, false, false, false, false, false, false, false, false, false, false, false, false, false, false, false, false, false, false, false, false, false, false, false, false, false, false, false, false, false]) (fuel := 29) hF ⟨_, (hS.selp [1, 2, 3] (by decide) (by kernel_rfl)).pick [0, 1, 0, 1] (by kernel_rfl)⟩ (by kernel_rfl) (by intro c a w t v h; cases t <;> exact h) (by kernel_rfl) rfl ?_
                      clear hF
                      intro a hF
                      have hF := hF.boolv 125 (by kernel_rfl) hb115
                      refine any_pure [7, 10] [1, 2, 3, 5, 10, 125, 127, 130] (L' := [(1, .string (a6)), (2, .string (a7)), (3, .string (a8)), (5, .pointer (some ⟨b11, 0, none⟩)), (10, .pointer (some ⟨b12, 0, none⟩)), (125, .bool (true)), (127, .string (a6)), (130, .string (a6))]) (listed' := #[true, true, true, true, true, true, false, true, false, false, true, false, false, false, false, false, false, false, false, false, false, false, false, false, false, false, false, false, false, false, false, false, false, false, false]) (fuel := 27) hF ⟨_, (hS.selp [1, 2, 3] (by decide) (by kernel_rfl)).pick [0, 1, 0, 1] (by kernel_rfl)⟩ (by kernel_rfl) (by intro c a w t v h; cases t <;> exact h) (by kernel_rfl) rfl ?_
                      clear hF
                      intro a hF
                      refine any_take 6 (some 126) hF ⟨_, (hS.selp [1, 2, 3] (by decide) (by kernel_rfl)).pick [0, 1, 0, 1] (by kernel_rfl)⟩ rfl (by kernel_rfl) (by kernel_rfl) (by intro c a w v h; exact h) (by kernel_rfl) (by kernel_rfl) (by kernel_rfl) rfl (val_loads 2 0 2 (s' := [(1, [.slice p2 (a1.Cuts).length c3]), (1, [.slice p4 (a1.Nodes).length c5])]) (n := 2) rfl rfl rfl (by kernel_rfl) (by kernel_rfl) (by kernel_rfl) (by kernel_rfl) (by kernel_rfl)) ?_
                      clear hF
                      intro a hF
                      refine any_take 9 (some 129) hF ⟨_, (hS.selp [1, 2, 3] (by decide) (by kernel_rfl)).pick [0, 1, 0, 1] (by kernel_rfl)⟩ rfl (by kernel_rfl) (by kernel_rfl) (by intro c a w v h; exact h) (by kernel_rfl) (by kernel_rfl) (by kernel_rfl) rfl (val_loads 2 0 2 (s' := [(1, [.slice p2 (a1.Cuts).length c3]), (1, [.slice p4 (a1.Nodes).length c5])]) (n := 2) rfl rfl rfl (by kernel_rfl) (by kernel_rfl) (by kernel_rfl) (by kernel_rfl) (by kernel_rfl)) ?_
                      clear hF
                      intro a hF
                      refine any_go 8 (o := ⟨(some 128), (Go.Op.call (Go.Call.mk (Go.Callee.value (Go.Operand.func 36)) #[(Go.Operand.tmp 126), (Go.Operand.tmp 127)] #[26, 9])), 3, "law.go:46", #[(Go.Edge.mk 6 Go.Ground.data), (Go.Edge.mk 7 Go.Ground.data), (Go.Edge.mk 5 Go.Ground.chain), (Go.Edge.mk 5 Go.Ground.guard)], (some (5, true))⟩) hF rfl (by kernel_rfl) (by kernel_rfl) (listed' := #[true, true, true, true, true, true, true, true, true, true, true, false, false, false, false, false, false, false, false, false, false, false, false, false, false, false, false, false, false, false, false, false, false, false, false]) (by kernel_rfl) ?_
                      refine wo_callP (args := #[.agg (flat [(1, [.slice p2 (a1.Cuts).length c3]), (1, [.slice p4 (a1.Nodes).length c5])]).toArray, .string (a6)]) (f := 36) hF hS (by kernel_rfl) (by kernel_rfl) (C_span_Find N hS.fresh (T_api_Map.mk a1.Cuts a1.Nodes) a6 p2 c3 p4 c5 ((hS.pick [0, 1] (by kernel_rfl)).ro) hx116) ?_
                      clear hF hS hx116
                      rintro _ κ w a ⟨rfl, hR, hN⟩ hF hS hO
                      clear hR hN hO
                      refine ⟨fun _ => ⟨_, (hS.selp [1, 2, 3] (by decide) (by kernel_rfl)).pick [0, 1, 0, 1] (by kernel_rfl)⟩, ?_⟩
                      refine any_go 11 (o := ⟨(some 131), (Go.Op.call (Go.Call.mk (Go.Callee.value (Go.Operand.func 37)) #[(Go.Operand.tmp 129), (Go.Operand.tmp 130)] #[26, 9])), 3, "law.go:46", #[(Go.Edge.mk 9 Go.Ground.data), (Go.Edge.mk 10 Go.Ground.data), (Go.Edge.mk 8 Go.Ground.chain), (Go.Edge.mk 5 Go.Ground.guard)], (some (5, true))⟩) hF rfl (by kernel_rfl) (by kernel_rfl) (listed' := #[true, true, true, true, true, true, true, true, true, true, true, true, false, false, false, false, false, false, false, false, false, false, false, false, false, false, false, false, false, false, false, false, false, false, false]) (by kernel_rfl) ?_
                      refine wo_callP (args := #[.agg (flat [(1, [.slice p2 (a1.Cuts).length c3]), (1, [.slice p4 (a1.Nodes).length c5])]).toArray, .string (a6)]) (f := 37) hF hS (by kernel_rfl) (by kernel_rfl) (C_ref08_Find N hS.fresh (T_api_Map.mk a1.Cuts a1.Nodes) a6 p2 c3 p4 c5 ((hS.pick [0, 1] (by kernel_rfl)).ro) hx117) ?_
                      clear hF hS hx117
                      rintro _ κ w a ⟨rfl, hR, hN⟩ hF hS hO
                      clear hR hN hO
                      refine ⟨fun _ => ⟨_, (hS.selp [1, 2, 3] (by decide) (by kernel_rfl)).pick [0, 1, 0, 1] (by kernel_rfl)⟩, ?_⟩
                      refine any_pure [12, 13, 14] [1, 2, 3, 5, 10, 134] (L' := [(1, .string (a6)), (2, .string (a7)), (3, .string (a8)), (5, .pointer (some ⟨b11, 0, none⟩)), (10, .pointer (some ⟨b12, 0, none⟩)), (134, .bool ((x116 == x117)))]) (listed' := #[true, true, true, true, true, true, true, true, true, true, true, true, true, true, true, false, false, false, false, false, false, false, false, false, false, false, false, false, false, false, false, false, false, false, false]) (fuel := 20) hF ⟨_, (hS.selp [1, 2, 3] (by decide) (by kernel_rfl)).pick [0, 1, 0, 1] (by kernel_rfl)⟩ (by kernel_rfl) (by intro c a w t v h; cases t <;> exact h) (by kernel_rfl) rfl ?_
                      clear hF
                      intro a hF
                      have hF := hF.boolv 134 (by kernel_rfl) hb118
                      refine any_pure [15, 16, 17, 18, 19, 20, 21, 22, 23, 24, 25, 26, 27, 28, 29, 30, 31, 32, 33] [10, 153] (L' := [(10, .pointer (some ⟨b12, 0, none⟩)), (153, .bool (false))]) (listed' := #[true, true, true, true, true, true, true, true, true, true, true, true, true, true, true, true, true, true, true, true, true, true, true, true, true, true, true, true, true, true, true, true, true, true, false]) (fuel := 1) hF ⟨_, (hS.selp [1, 2, 3] (by decide) (by kernel_rfl)).pick [0, 1, 0, 1] (by kernel_rfl)⟩ (by kernel_rfl) (by intro c a w t v h; cases t <;> exact h) (by kernel_rfl) rfl ?_
                      clear hF
                      intro a hF
                      refine any_go 34 (o := ⟨none, (Go.Op.store 4 (Go.Operand.tmp 10) (Go.Operand.tmp 153)), 0, "law.go:46", #[(Go.Edge.mk 33 Go.Ground.data), (Go.Edge.mk 31 Go.Ground.chain), (Go.Edge.mk 0 Go.Ground.phase), (Go.Edge.mk 1 Go.Ground.phase), (Go.Edge.mk 2 Go.Ground.phase), (Go.Edge.mk 3 Go.Ground.phase), (Go.Edge.mk 4 Go.Ground.phase), (Go.Edge.mk 5 Go.Ground.phase), (Go.Edge.mk 6 Go.Ground.phase), (Go.Edge.mk 7 Go.Ground.phase), (Go.Edge.mk 8 Go.Ground.phase), (Go.Edge.mk 9 Go.Ground.phase), (Go.Edge.mk 10 Go.Ground.phase), (Go.Edge.mk 11 Go.Ground.phase), (Go.Edge.mk 12 Go.Ground.phase), (Go.Edge.mk 13 Go.Ground.phase), (Go.Edge.mk 14 Go.Ground.phase), (Go.Edge.mk 15 Go.Ground.phase), (Go.Edge.mk 16 Go.Ground.phase), (Go.Edge.mk 17 Go.Ground.phase), (Go.Edge.mk 18 Go.Ground.phase), (Go.Edge.mk 19 Go.Ground.phase), (Go.Edge.mk 20 Go.Ground.phase), (Go.Edge.mk 21 Go.Ground.phase), (Go.Edge.mk 22 Go.Ground.phase), (Go.Edge.mk 23 Go.Ground.phase), (Go.Edge.mk 24 Go.Ground.phase), (Go.Edge.mk 25 Go.Ground.phase), (Go.Edge.mk 26 Go.Ground.phase), (Go.Edge.mk 27 Go.Ground.phase), (Go.Edge.mk 28 Go.Ground.phase), (Go.Edge.mk 29 Go.Ground.phase), (Go.Edge.mk 30 Go.Ground.phase), (Go.Edge.mk 31 Go.Ground.phase), (Go.Edge.mk 32 Go.Ground.phase), (Go.Edge.mk 33 Go.Ground.phase)], none⟩) hF rfl (by kernel_rfl) (by kernel_rfl) (listed' := #[true, true, true, true, true, true, true, true, true, true, true, true, true, true, true, true, true, true, true, true, true, true, true, true, true, true, true, true, true, true, true, true, true, true, true]) (by kernel_rfl) ?_
                      refine wo_stores hF hS (by kernel_rfl) 2 0 1 (v := .bool (false)) (s' := [(1, [.bool (false)])]) (t := [(1, [.bool (false)])]) (C' := [.ext (defX r), .box b36 3 [(1, [.int .i64 (v107.1)])], .box b12 4 [(1, [.bool (false)])], .box b11 26 [(1, [.slice p2 (a1.Cuts).length c3]), (1, [.slice p4 (a1.Nodes).length c5])]]) (n := 1) rfl rfl (by kernel_rfl) rfl (by kernel_rfl) (by kernel_rfl) (by kernel_rfl) (by kernel_rfl) (sgV rfl sgNil).1 (sgV rfl sgNil).2 (by kernel_rfl) (by kernel_rfl) (by kernel_rfl) ?_
                      clear hF hS
                      intro a w hF hS
                      refine ⟨fun h => absurd (show false = true from h) Bool.false_ne_true, ?_⟩
                      refine any_done (by kernel_rfl) ?_ _
                      cases hv112
                      exact ⟨_, hF.keep' [10] (by kernel_rfl), (hS.selp [2, 0] (by decide) (by kernel_rfl)).pick [] (by kernel_rfl), trivial⟩
                  · refine any_go 0 (o := ⟨(some 120), (Go.Op.call (Go.Call.mk (Go.Callee.value (Go.Operand.func 29)) #[] #[])), 4, "law.go:46", #[], none⟩) hF rfl (by kernel_rfl) (by kernel_rfl) (listed' := #[true, false, false, false, false, false, false, false, false, false, false, false, false, false, false, false, false, false, false, false, false, false, false, false, false, false, false, false, false, false, false, false, false, false, false]) (by kernel_rfl) ?_
                    refine wo_callP (args := #[]) (f := 29) hF hS (by kernel_rfl) (by kernel_rfl) (C_law08_awake N hS.fresh   ((hS.pick [] (by kernel_rfl)).ro) hx113) ?_
                    clear hF hS hx113
                    rintro _ κ w a ⟨rfl, hR, hN⟩ hF hS hO
                    clear hR hN hO
                    refine ⟨fun _ => ⟨_, (hS.selp [1, 2, 3] (by decide) (by kernel_rfl)).pick [0, 1, 0, 1] (by kernel_rfl)⟩, ?_⟩
                    refine any_pure [1] [1, 2, 3, 5, 10, 24, 121] (L' := [(1, .string (a6)), (2, .string (a7)), (3, .string (a8)), (5, .pointer (some ⟨b11, 0, none⟩)), (10, .pointer (some ⟨b12, 0, none⟩)), (24, .bool (x109.2.2)), (121, .bool (x113))]) (listed' := #[true, true, false, false, false, false, false, false, false, false, false, false, false, false, false, false, false, false, false, false, false, false, false, false, false, false, false, false, false, false, false, false, false, false, false]) (fuel := 33) hF ⟨_, (hS.selp [1, 2, 3] (by decide) (by kernel_rfl)).pick [0, 1, 0, 1] (by kernel_rfl)⟩ (by kernel_rfl) (by intro c a w t v h; cases t <;> exact h) (by kernel_rfl) rfl ?_
                    clear hF
                    intro a hF
                    have hF := hF.boolv 121 (by kernel_rfl) hb114
                    refine any_pure [2, 3, 4, 5] [1, 2, 3, 5, 10, 125] (L' := [(1, .string (a6)), (2, .string (a7)), (3, .string (a8)), (5, .pointer (some ⟨b11, 0, none⟩)), (10, .pointer (some ⟨b12, 0, none⟩)), (125, .bool ((!x109.2.2)))]) (listed' := #[true, true, true, true, true, true, false, false, false, false, false, false, false, false, false, false, false, false, false, false, false, false, false, false, false, false, false, false, false, false, false, false, false, false, false]) (fuel := 29) hF ⟨_, (hS.selp [1, 2, 3] (by decide) (by kernel_rfl)).pick [0, 1, 0, 1] (by kernel_rfl)⟩ (by kernel_rfl) (by intro c a w t v h; cases t <;> exact h) (by kernel_rfl) rfl ?_
                    clear hF
                    intro a hF
                    have hF := hF.boolv 125 (by kernel_rfl) hb115
                    refine any_pure [6, 7, 8, 9, 10, 11, 12, 13, 14, 15, 16, 17, 18, 19, 20, 21, 22, 23, 24, 25, 26, 27, 28, 29, 30, 31, 32, 33] [10, 153] (L' := [(10, .pointer (some ⟨b12, 0, none⟩)), (153, .bool (false))]) (listed' := #[true, true, true, true, true, true, true, true, true, true, true, true, true, true, true, true, true, true, true, true, true, true, true, true, true, true, true, true, true, true, true, true, true, true, false]) (fuel := 1) hF ⟨_, (hS.selp [1, 2, 3] (by decide) (by kernel_rfl)).pick [0, 1, 0, 1] (by kernel_rfl)⟩ (by kernel_rfl) (by intro c a w t v h; cases t <;> exact h) (by kernel_rfl) rfl ?_
                    clear hF
                    intro a hF
                    refine any_go 34 (o := ⟨none, (Go.Op.store 4 (Go.Operand.tmp 10) (Go.Operand.tmp 153)), 0, "law.go:46", #[(Go.Edge.mk 33 Go.Ground.data), (Go.Edge.mk 31 Go.Ground.chain), (Go.Edge.mk 0 Go.Ground.phase), (Go.Edge.mk 1 Go.Ground.phase), (Go.Edge.mk 2 Go.Ground.phase), (Go.Edge.mk 3 Go.Ground.phase), (Go.Edge.mk 4 Go.Ground.phase), (Go.Edge.mk 5 Go.Ground.phase), (Go.Edge.mk 6 Go.Ground.phase), (Go.Edge.mk 7 Go.Ground.phase), (Go.Edge.mk 8 Go.Ground.phase), (Go.Edge.mk 9 Go.Ground.phase), (Go.Edge.mk 10 Go.Ground.phase), (Go.Edge.mk 11 Go.Ground.phase), (Go.Edge.mk 12 Go.Ground.phase), (Go.Edge.mk 13 Go.Ground.phase), (Go.Edge.mk 14 Go.Ground.phase), (Go.Edge.mk 15 Go.Ground.phase), (Go.Edge.mk 16 Go.Ground.phase), (Go.Edge.mk 17 Go.Ground.phase), (Go.Edge.mk 18 Go.Ground.phase), (Go.Edge.mk 19 Go.Ground.phase), (Go.Edge.mk 20 Go.Ground.phase), (Go.Edge.mk 21 Go.Ground.phase), (Go.Edge.mk 22 Go.Ground.phase), (Go.Edge.mk 23 Go.Ground.phase), (Go.Edge.mk 24 Go.Ground.phase), (Go.Edge.mk 25 Go.Ground.phase), (Go.Edge.mk 26 Go.Ground.phase), (Go.Edge.mk 27 Go.Ground.phase), (Go.Edge.mk 28 Go.Ground.phase), (Go.Edge.mk 29 Go.Ground.phase), (Go.Edge.mk 30 Go.Ground.phase), (Go.Edge.mk 31 Go.Ground.phase), (Go.Edge.mk 32 Go.Ground.phase), (Go.Edge.mk 33 Go.Ground.phase)], none⟩) hF rfl (by kernel_rfl) (by kernel_rfl) (listed' := #[true, true, true, true, true, true, true, true, true, true, true, true, true, true, true, true, true, true, true, true, true, true, true, true, true, true, true, true, true, true, true, true, true, true, true]) (by kernel_rfl) ?_
                    refine wo_stores hF hS (by kernel_rfl) 2 0 1 (v := .bool (false)) (s' := [(1, [.bool (false)])]) (t := [(1, [.bool (false)])]) (C' := [.ext (defX r), .box b36 3 [(1, [.int .i64 (v107.1)])], .box b12 4 [(1, [.bool (false)])], .box b11 26 [(1, [.slice p2 (a1.Cuts).length c3]), (1, [.slice p4 (a1.Nodes).length c5])]]) (n := 1) rfl rfl (by kernel_rfl) rfl (by kernel_rfl) (by kernel_rfl) (by kernel_rfl) (by kernel_rfl) (sgV rfl sgNil).1 (sgV rfl sgNil).2 (by kernel_rfl) (by kernel_rfl) (by kernel_rfl) ?_
                    clear hF hS
                    intro a w hF hS
                    refine ⟨fun h => absurd (show false = true from h) Bool.false_ne_true, ?_⟩
                    refine any_done (by kernel_rfl) ?_ _
                    cases hv112
                    exact ⟨_, hF.keep' [10] (by kernel_rfl), (hS.selp [2, 0] (by decide) (by kernel_rfl)).pick [] (by kernel_rfl), trivial⟩
                · refine any_go 0 (o := ⟨(some 120), (Go.Op.call (Go.Call.mk (Go.Callee.value (Go.Operand.func 29)) #[] #[])), 4, "law.go:46", #[], none⟩) hF rfl (by kernel_rfl) (by kernel_rfl) (listed' := #[true, false, false, false, false, false, false, false, false, false, false, false, false, false, false, false, false, false, false, false, false, false, false, false, false, false, false, false, false, false, false, false, false, false, false]) (by kernel_rfl) ?_
                  refine wo_callP (args := #[]) (f := 29) hF hS (by kernel_rfl) (by kernel_rfl) (C_law08_awake N hS.fresh   ((hS.pick [] (by kernel_rfl)).ro) hx113) ?_
                  clear hF hS hx113
                  rintro _ κ w a ⟨rfl, hR, hN⟩ hF hS hO
                  clear hR hN hO
                  refine ⟨fun _ => ⟨_, (hS.selp [1, 2, 3] (by decide) (by kernel_rfl)).pick [0, 1, 0, 1] (by kernel_rfl)⟩, ?_⟩
                  refine any_pure [1] [1, 2, 3, 5, 10, 24, 121] (L' := [(1, .string (a6)), (2, .string (a7)), (3, .string (a8)), (5, .pointer (some ⟨b11, 0, none⟩)), (10, .pointer (some ⟨b12, 0, none⟩)), (24, .bool (x109.2.2)), (121, .bool (x113))]) (listed' := #[true, true, false, false, false, false, false, false, false, false, false, false, false, false, false, false, false, false, false, false, false, false, false, false, false, false, false, false, false, false, false, false, false, false, false]) (fuel := 33) hF ⟨_, (hS.selp [1, 2, 3] (by decide) (by kernel_rfl)).pick [0, 1, 0, 1] (by kernel_rfl)⟩ (by kernel_rfl) (by intro c a w t v h; cases t <;> exact h) (by kernel_rfl) rfl ?_
                  clear hF
                  intro a hF
                  have hF := hF.boolv 121 (by kernel_rfl) hb114
                  refine any_pure [2, 3, 4, 5, 6, 7, 8, 9, 10, 11, 12, 13, 14, 15, 16, 17, 18, 19, 20, 21, 22, 23, 24, 25, 26, 27, 28, 29, 30, 31, 32, 33] [10, 153] (L' := [(10, .pointer (some ⟨b12, 0, none⟩)), (153, .bool (false))]) (listed' := #[true, true, true, true, true, true, true, true, true, true, true, true, true, true, true, true, true, true, true, true, true, true, true, true, true, true, true, true, true, true, true, true, true, true, false]) (fuel := 1) hF ⟨_, (hS.selp [1, 2, 3] (by decide) (by kernel_rfl)).pick [0, 1, 0, 1] (by kernel_rfl)⟩ (by kernel_rfl) (by intro c a w t v h; cases t <;> exact h) (by kernel_rfl) rfl ?_
                  clear hF
                  intro a hF
                  refine any_go 34 (o := ⟨none, (Go.Op.store 4 (Go.Operand.tmp 10) (Go.Operand.tmp 153)), 0, "law.go:46", #[(Go.Edge.mk 33 Go.Ground.data), (Go.Edge.mk 31 Go.Ground.chain), (Go.Edge.mk 0 Go.Ground.phase), (Go.Edge.mk 1 Go.Ground.phase), (Go.Edge.mk 2 Go.Ground.phase), (Go.Edge.mk 3 Go.Ground.phase), (Go.Edge.mk 4 Go.Ground.phase), (Go.Edge.mk 5 Go.Ground.phase), (Go.Edge.mk 6 Go.Ground.phase), (Go.Edge.mk 7 Go.Ground.phase), (Go.Edge.mk 8 Go.Ground.phase), (Go.Edge.mk 9 Go.Ground.phase), (Go.Edge.mk 10 Go.Ground.phase), (Go.Edge.mk 11 Go.Ground.phase), (Go.Edge.mk 12 Go.Ground.phase), (Go.Edge.mk 13 Go.Ground.phase), (Go.Edge.mk 14 Go.Ground.phase), (Go.Edge.mk 15 Go.Ground.phase), (Go.Edge.mk 16 Go.Ground.phase), (Go.Edge.mk 17 Go.Ground.phase), (Go.Edge.mk 18 Go.Ground.phase), (Go.Edge.mk 19 Go.Ground.phase), (Go.Edge.mk 20 Go.Ground.phase), (Go.Edge.mk 21 Go.Ground.phase), (Go.Edge.mk 22 Go.Ground.phase), (Go.Edge.mk 23 Go.Ground.phase), (Go.Edge.mk 24 Go.Ground.phase), (Go.Edge.mk 25 Go.Ground.phase), (Go.Edge.mk 26 Go.Ground.phase), (Go.Edge.mk 27 Go.Ground.phase), (Go.Edge.mk 28 Go.Ground.phase), (Go.Edge.mk 29 Go.Ground.phase), (Go.Edge.mk 30 Go.Ground.phase), (Go.Edge.mk 31 Go.Ground.phase), (Go.Edge.mk 32 Go.Ground.phase), (Go.Edge.mk 33 Go.Ground.phase)], none⟩) hF rfl (by kernel_rfl) (by kernel_rfl) (listed' := #[true, true, true, true, true, true, true, true, true, true, true, true, true, true, true, true, true, true, true, true, true, true, true, true, true, true, true, true, true, true, true, true, true, true, true]) (by kernel_rfl) ?_
                  refine wo_stores hF hS (by kernel_rfl) 2 0 1 (v := .bool (false)) (s' := [(1, [.bool (false)])]) (t := [(1, [.bool (false)])]) (C' := [.ext (defX r), .box b36 3 [(1, [.int .i64 (v107.1)])], .box b12 4 [(1, [.bool (false)])], .box b11 26 [(1, [.slice p2 (a1.Cuts).length c3]), (1, [.slice p4 (a1.Nodes).length c5])]]) (n := 1) rfl rfl (by kernel_rfl) rfl (by kernel_rfl) (by kernel_rfl) (by kernel_rfl) (by kernel_rfl) (sgV rfl sgNil).1 (sgV rfl sgNil).2 (by kernel_rfl) (by kernel_rfl) (by kernel_rfl) ?_
                  clear hF hS
                  intro a w hF hS
                  refine ⟨fun h => absurd (show false = true from h) Bool.false_ne_true, ?_⟩
                  refine any_done (by kernel_rfl) ?_ _
                  cases hv112
                  exact ⟨_, hF.keep' [10] (by kernel_rfl), (hS.selp [2, 0] (by decide) (by kernel_rfl)).pick [] (by kernel_rfl), trivial⟩
              · clear hF hS hv112
                rintro a w ⟨κ, hF, hS, -⟩
                refine hK110 _ _ ?_
                clear hK110 K110
                refine wpIn_ret ?_
                refine ret_doneM (C' := [.box b12 4 [(1, [.bool (v112)])]]) hF hS 1 rfl (by kernel_rfl) fun w hS => ?_
                cases H
                exact ⟨_, (res1 Try.results5 (rv_cell hF hS 0 0 0 rfl rfl rfl rfl (by kernel_rfl) (by kernel_rfl))), ⟨rfl, (hS.pick [] (by kernel_rfl)).ro, hS.newC [] (by decide) (by kernel_rfl)⟩⟩
            · clear hb
              refine bif_split H (fun hb H => ?_) (fun hb H => ?_)
              · refine jumpedS 0 hb rfl ?_
                clear hb
                refine wpIn_ret ?_
                refine ret_doneM (C' := [.box b36 3 [(1, [.int .i64 (v107.1)])], .box b12 4 [(1, [.bool (false)])], .box b11 26 [(1, [.slice p2 (a1.Cuts).length c3]), (1, [.slice p4 (a1.Nodes).length c5])]]) hF hS 0 rfl (by kernel_rfl) fun w hS => ?_
                cases H
                exact ⟨_, (res1 Try.results5 (rv_cell hF hS 1 0 0 rfl rfl rfl rfl (by kernel_rfl) (by kernel_rfl))), ⟨rfl, (hS.pick [] (by kernel_rfl)).ro, hS.newC [] (by decide) (by kernel_rfl)⟩⟩
              · clear hb
                cases H
end Go.Cf
