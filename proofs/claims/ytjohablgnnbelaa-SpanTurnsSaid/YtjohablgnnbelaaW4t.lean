/- The walks: each function returns what its model says. Printed by a program of ours. -/
import Derived.Test.YtjohablgnnbelaaM4t
import Derived.Test.YtjohablgnnbelaaW1
import Derived.Test.YtjohablgnnbelaaW2
import Derived.Test.YtjohablgnnbelaaW2b
import Derived.Test.YtjohablgnnbelaaW2c
import Derived.Test.YtjohablgnnbelaaW4
namespace Go.Cf
open Go Go.Proofs
set_option linter.unusedVariables false
set_option maxRecDepth 20000 in
set_option maxHeartbeats 1000000 in
theorem C_law08_SpanTurns (N : Nat) {κ0 : Gh} {w0 : World} (hfr : Fresh κ0 w0) (a1 : T_api_Map) (a6 : Int) (a7 : Int) (a8 : ByteArray) (a9 : ByteArray) (p2 : Option Addr) (c3 : Nat) (p4 : Option Addr) (c5 : Nat) (hR : ∀ m ∈ ([Ro.mp fStr.ty p2 c3 a1.Cuts, Ro.mp (fInt .i64).ty p4 c5 a1.Nodes] : List MP), m.p κ0 w0) {r : (Bool)} (H : M.law08_SpanTurns N a1 a6 a7 a8 a9 = some r) :
    Calls Try.prog 7 #[.agg (flat [(1, [.slice p2 (a1.Cuts).length c3]), (1, [.slice p4 (a1.Nodes).length c5])]).toArray, .int .i64 (a6), .int .i64 (a7), .string (a8), .string (a9)] w0 (Post [] κ0 w0 fun v κ w => v = .bool (r) ∧ (∀ m ∈ ([] : List MP), m.p κ w) ∧ NewC w0 κ w []) := by
  have hS := SS.start hfr hR
  clear hR
  refine enter (N := (80)) (L := [(0, .agg (flat [(1, [.slice p2 (a1.Cuts).length c3]), (1, [.slice p4 (a1.Nodes).length c5])]).toArray), (1, .int .i64 (a6)), (2, .int .i64 (a7)), (3, .string (a8)), (4, .string (a9))]) Try.func7 rfl Try.ntmps7 (show 5 ≤ (80) by decide) rfl fun a hF => ?_
  unfold M.law08_SpanTurns at H
  refine wpIn_seq_k fun K10 hK10 => ?_
  refine wpIn_region_lit ?_
  refine wl_cons rfl (wo_box hF hS (by kernel_rfl) (v := .agg (flat [(1, [.slice p2 (a1.Cuts).length c3]), (1, [.slice p4 (a1.Nodes).length c5])]).toArray) (s := [(1, [.slice p2 (a1.Cuts).length c3]), (1, [.slice p4 (a1.Nodes).length c5])]) rfl (by kernel_rfl) (sgV rfl (sgV rfl sgNil)).1 (by kernel_rfl) ?_)
  clear hF hS
  intro b11 a w hF hS
  refine wl_pure (L' := [(1, .int .i64 (a6)), (2, .int .i64 (a7)), (3, .string (a8)), (4, .string (a9)), (5, .pointer (some ⟨b11, 0, none⟩))]) 1 [1, 2, 3, 4, 5] hF (by kernel_rfl) ?_
  clear hF
  intro a hF
  refine wpListIn_nil ?_
  refine hK10 _ _ ?_
  clear hK10 K10
  refine wpIn_seq_k fun K12 hK12 => ?_
  refine wpIn_region_lit ?_
  refine wl_cons rfl (wo_loads hF hS (by kernel_rfl) 0 0 2 (s' := [(1, [.slice p2 (a1.Cuts).length c3]), (1, [.slice p4 (a1.Nodes).length c5])]) (n := 2) rfl rfl rfl (by kernel_rfl) (by kernel_rfl) (by kernel_rfl) (by kernel_rfl) (by kernel_rfl) ?_)
  clear hF
  intro a hF
  refine wl_pure (L' := [(1, .int .i64 (a6)), (2, .int .i64 (a7)), (3, .string (a8)), (4, .string (a9)), (5, .pointer (some ⟨b11, 0, none⟩)), (16, .agg (flat [(1, [.slice p2 (a1.Cuts).length c3]), (1, [.slice p4 (a1.Nodes).length c5])]).toArray), (17, .int .i64 (a6)), (18, .int .i64 (a7)), (19, .string (a8))]) 3 [1, 2, 3, 4, 5, 16, 17, 18, 19] hF (by kernel_rfl) ?_
  clear hF
  intro a hF
  refine bind_split H (fun x13 hx13 H => ?_)
  refine wl_cons rfl (wo_callP (args := #[.agg (flat [(1, [.slice p2 (a1.Cuts).length c3]), (1, [.slice p4 (a1.Nodes).length c5])]).toArray, .int .i64 (a6), .int .i64 (a7), .string (a8)]) (f := 42) hF hS (by kernel_rfl) (by kernel_rfl) (C_span_Split N hS.fresh (T_api_Map.mk a1.Cuts a1.Nodes) a6 a7 a8 p2 c3 p4 c5 ((hS.pick [0, 1] (by kernel_rfl)).ro) hx13) ?_)
  clear hF hS hx13
  rintro _ κ w a ⟨p14, c15, p16, c17, rfl, hR, hN⟩ hF hS hO
  have hS := hS.adds hR
  have hS := hS.addC hO hN
  clear hR hN hO
  refine wl_pure (L' := [(1, .int .i64 (a6)), (2, .int .i64 (a7)), (3, .string (a8)), (4, .string (a9)), (5, .pointer (some ⟨b11, 0, none⟩)), (21, .agg (flat [(1, [.slice p14 (x13.1.Cuts).length c15]), (1, [.slice p16 (x13.1.Nodes).length c17])]).toArray), (22, .int .i64 (x13.2))]) 3 [1, 2, 3, 4, 5, 21, 22] hF (by kernel_rfl) ?_
  clear hF
  intro a hF
  refine wl_cons rfl (wo_alloc hF hS (by kernel_rfl) (z := .agg (flat [(1, [.slice none 0 0]), (1, [.slice none 0 0])]).toArray) (s := [(1, [.slice none 0 0]), (1, [.slice none 0 0])]) rfl (by kernel_rfl) (sgV rfl (sgV rfl sgNil)).1 (by kernel_rfl) ?_)
  clear hF hS
  intro b18 a w hF hS
  refine wl_cons rfl (wo_stores hF hS (by kernel_rfl) 0 0 2 (v := .agg (flat [(1, [.slice p14 (x13.1.Cuts).length c15]), (1, [.slice p16 (x13.1.Nodes).length c17])]).toArray) (s' := [(1, [.slice p14 (x13.1.Cuts).length c15]), (1, [.slice p16 (x13.1.Nodes).length c17])]) (t := [(1, [.slice p14 (x13.1.Cuts).length c15]), (1, [.slice p16 (x13.1.Nodes).length c17])]) (C' := [.box b18 26 [(1, [.slice p14 (x13.1.Cuts).length c15]), (1, [.slice p16 (x13.1.Nodes).length c17])], .tok p14 9 1 (x13.1.Cuts).length c15, .tok p16 3 1 (x13.1.Nodes).length c17, .box b11 26 [(1, [.slice p2 (a1.Cuts).length c3]), (1, [.slice p4 (a1.Nodes).length c5])]]) (n := 2) rfl rfl (by kernel_rfl) rfl (by kernel_rfl) (by kernel_rfl) (by kernel_rfl) (by kernel_rfl) (sgV rfl (sgV rfl sgNil)).1 (sgV rfl (sgV rfl sgNil)).2 (by kernel_rfl) (by kernel_rfl) (by kernel_rfl) ?_)
  clear hF hS
  intro a w hF hS
  refine wl_pure (L' := [(1, .int .i64 (a6)), (2, .int .i64 (a7)), (3, .string (a8)), (4, .string (a9)), (5, .pointer (some ⟨b11, 0, none⟩)), (11, .pointer (some ⟨b18, 0, none⟩)), (12, .int .i64 (x13.2))]) 1 [1, 2, 3, 4, 5, 11, 12] hF (by kernel_rfl) ?_
  clear hF
  intro a hF
  refine wpListIn_nil ?_
  refine hK12 _ _ ?_
  clear hK12 K12
  refine wpIn_seq_k fun K19 hK19 => ?_
  refine wpIn_seq_k fun K20 hK20 => ?_
  refine wpIn_region_lit ?_
  refine wl_pure (L' := [(1, .int .i64 (a6)), (2, .int .i64 (a7)), (3, .string (a8)), (4, .string (a9)), (5, .pointer (some ⟨b11, 0, none⟩)), (11, .pointer (some ⟨b18, 0, none⟩)), (24, .bool ((x13.2 != 0)))]) 2 [1, 2, 3, 4, 5, 11, 24] hF (by kernel_rfl) ?_
  clear hF
  intro a hF
  refine wpListIn_nil ?_
  refine hK20 _ _ ?_
  clear hK20 K20
  refine bif_split H (fun hb H => ?_) (fun hb H => ?_)
  · refine cond_t hF (by kernel_rfl) hb ?_
    clear hb
    refine wpIn_seq_k fun K21 hK21 => ?_
    refine wpIn_region_lit ?_
    refine bind_split H (fun v23 hv23 H => ?_)
    refine wl_join (fun a w => ∃ κ : Gh, Fr (80) [] [(10, .bool (v23))] a ∧ SS [] κ0 w0 κ w [] [] ∧ True) ?_ ?_
    · clear H
      refine bind_split hv23 (fun x24 hx24 hv23 => ?_)
      refine wl_cons rfl (wo_callP (args := #[]) (f := 29) hF hS (by kernel_rfl) (by kernel_rfl) (C_law08_awake N hS.fresh   ((hS.pick [] (by kernel_rfl)).ro) hx24) ?_)
      clear hF hS hx24
      rintro _ κ w a ⟨rfl, hR, hN⟩ hF hS hO
      clear hR hN hO
      refine wl_pure (L' := [(11, .pointer (some ⟨b18, 0, none⟩)), (26, .bool (x24))]) 1 [11, 26] hF (by kernel_rfl) ?_
      clear hF
      intro a hF
      refine bif_split hv23 (fun hb hv23 => ?_) (fun hb hv23 => ?_)
      · have hF := hF.boolv 26 (by kernel_rfl) hb
        clear hb
        refine wl_pure (L' := [(11, .pointer (some ⟨b18, 0, none⟩)), (26, .bool (true)), (27, .pointer (some ⟨b18, 0, none⟩))]) 1 [11, 26, 27] hF (by kernel_rfl) ?_
        clear hF
        intro a hF
        refine wl_consg hF (by kernel_rfl) (wo_load hF hS (by kernel_rfl) 0 0 0 (v := .slice p14 (x13.1.Cuts).length c15) rfl rfl rfl rfl rfl (by kernel_rfl) (by kernel_rfl) ?_)
        clear hF
        intro a hF
        refine wl_pure (L' := [(26, .bool (true)), (29, .int .i64 (((x13.1.Cuts).length : Int))), (30, .pointer (some ⟨b18, 1, none⟩))]) 2 [26, 29, 30] hF (by kernel_rfl) ?_
        clear hF
        intro a hF
        refine wl_consg hF (by kernel_rfl) (wo_load hF hS (by kernel_rfl) 0 1 0 (v := .slice p16 (x13.1.Nodes).length c17) rfl rfl rfl rfl rfl (by kernel_rfl) (by kernel_rfl) ?_)
        clear hF
        intro a hF
        refine wl_pure (L' := [(10, .bool ((IntKind.i64.wrap (((x13.1.Cuts).length : Int) + ((x13.1.Nodes).length : Int)) == 0)))]) 5 [10] hF (by kernel_rfl) ?_
        clear hF
        intro a hF
        refine wpListIn_nil ?_
        cases hv23
        exact ⟨_, hF.keep' [10] (by kernel_rfl), (hS.selp [] (by decide) (by kernel_rfl)).pick [] (by kernel_rfl), trivial⟩
      · have hF := hF.boolv 26 (by kernel_rfl) hb
        clear hb
        refine wl_pure (L' := [(10, .bool (false))]) 10 [10] hF (by kernel_rfl) ?_
        clear hF
        intro a hF
        refine wpListIn_nil ?_
        cases hv23
        exact ⟨_, hF.keep' [10] (by kernel_rfl), (hS.selp [] (by decide) (by kernel_rfl)).pick [] (by kernel_rfl), trivial⟩
    · clear hF hS hv23
      rintro a w ⟨κ, hF, hS, -⟩
      refine hK21 _ _ ?_
      clear hK21 K21
      refine wpIn_ret ?_
      cases H
      exact (ret_done hF hS (res1 Try.results7 (rv_tmp hF (by kernel_rfl))) ⟨rfl, (hS.pick [] (by kernel_rfl)).ro, hS.newC [] (by decide) (by kernel_rfl)⟩)
  · refine cond_f hF (by kernel_rfl) hb ?_
    clear hb
    refine wpIn_skip ?_
    refine hK19 _ _ ?_
    refine wpIn_seq_k fun K25 hK25 => ?_
    refine wpIn_region_lit ?_
    refine wl_cons rfl (wo_loads hF hS (by kernel_rfl) 0 0 2 (s' := [(1, [.slice p14 (x13.1.Cuts).length c15]), (1, [.slice p16 (x13.1.Nodes).length c17])]) (n := 2) rfl rfl rfl (by kernel_rfl) (by kernel_rfl) (by kernel_rfl) (by kernel_rfl) (by kernel_rfl) ?_)
    clear hF
    intro a hF
    refine wl_pure (L' := [(2, .int .i64 (a7)), (3, .string (a8)), (4, .string (a9)), (5, .pointer (some ⟨b11, 0, none⟩)), (11, .pointer (some ⟨b18, 0, none⟩)), (37, .agg (flat [(1, [.slice p14 (x13.1.Cuts).length c15]), (1, [.slice p16 (x13.1.Nodes).length c17])]).toArray), (38, .int .i64 (a6)), (39, .int .i64 (a7))]) 2 [2, 3, 4, 5, 11, 37, 38, 39] hF (by kernel_rfl) ?_
    clear hF
    intro a hF
    refine bind_split H (fun x26 hx26 H => ?_)
    refine wl_cons rfl (wo_callP (args := #[.agg (flat [(1, [.slice p14 (x13.1.Cuts).length c15]), (1, [.slice p16 (x13.1.Nodes).length c17])]).toArray, .int .i64 (a6), .int .i64 (a7)]) (f := 43) hF hS (by kernel_rfl) (by kernel_rfl) (C_span_Merge N hS.fresh (T_api_Map.mk x13.1.Cuts x13.1.Nodes) a6 a7 p14 c15 p16 c17 ((hS.pick [0, 1] (by kernel_rfl)).ro) hx26) ?_)
    clear hF hS hx26
    rintro _ κ w a ⟨p27, c28, p29, c30, rfl, hR, hN⟩ hF hS hO
    have hS := hS.adds hR
    have hS := hS.addC hO hN
    clear hR hN hO
    refine wl_pure (L' := [(2, .int .i64 (a7)), (3, .string (a8)), (4, .string (a9)), (5, .pointer (some ⟨b11, 0, none⟩)), (11, .pointer (some ⟨b18, 0, none⟩)), (41, .agg (flat [(1, [.slice p27 (x26.1.Cuts).length c28]), (1, [.slice p29 (x26.1.Nodes).length c30])]).toArray), (42, .int .i64 (x26.2))]) 3 [2, 3, 4, 5, 11, 41, 42] hF (by kernel_rfl) ?_
    clear hF
    intro a hF
    refine wl_cons rfl (wo_alloc hF hS (by kernel_rfl) (z := .agg (flat [(1, [.slice none 0 0]), (1, [.slice none 0 0])]).toArray) (s := [(1, [.slice none 0 0]), (1, [.slice none 0 0])]) rfl (by kernel_rfl) (sgV rfl (sgV rfl sgNil)).1 (by kernel_rfl) ?_)
    clear hF hS
    intro b31 a w hF hS
    refine wl_cons rfl (wo_stores hF hS (by kernel_rfl) 0 0 2 (v := .agg (flat [(1, [.slice p27 (x26.1.Cuts).length c28]), (1, [.slice p29 (x26.1.Nodes).length c30])]).toArray) (s' := [(1, [.slice p27 (x26.1.Cuts).length c28]), (1, [.slice p29 (x26.1.Nodes).length c30])]) (t := [(1, [.slice p27 (x26.1.Cuts).length c28]), (1, [.slice p29 (x26.1.Nodes).length c30])]) (C' := [.box b31 26 [(1, [.slice p27 (x26.1.Cuts).length c28]), (1, [.slice p29 (x26.1.Nodes).length c30])], .tok p27 9 1 (x26.1.Cuts).length c28, .tok p29 3 1 (x26.1.Nodes).length c30, .box b18 26 [(1, [.slice p14 (x13.1.Cuts).length c15]), (1, [.slice p16 (x13.1.Nodes).length c17])], .tok p14 9 1 (x13.1.Cuts).length c15, .tok p16 3 1 (x13.1.Nodes).length c17, .box b11 26 [(1, [.slice p2 (a1.Cuts).length c3]), (1, [.slice p4 (a1.Nodes).length c5])]]) (n := 2) rfl rfl (by kernel_rfl) rfl (by kernel_rfl) (by kernel_rfl) (by kernel_rfl) (by kernel_rfl) (sgV rfl (sgV rfl sgNil)).1 (sgV rfl (sgV rfl sgNil)).2 (by kernel_rfl) (by kernel_rfl) (by kernel_rfl) ?_)
    clear hF hS
    intro a w hF hS
    refine wl_pure (L' := [(2, .int .i64 (a7)), (3, .string (a8)), (4, .string (a9)), (5, .pointer (some ⟨b11, 0, none⟩)), (11, .pointer (some ⟨b18, 0, none⟩)), (13, .pointer (some ⟨b31, 0, none⟩)), (14, .int .i64 (x26.2))]) 1 [2, 3, 4, 5, 11, 13, 14] hF (by kernel_rfl) ?_
    clear hF
    intro a hF
    refine wpListIn_nil ?_
    refine hK25 _ _ ?_
    clear hK25 K25
    refine wpIn_seq_k fun K32 hK32 => ?_
    refine bind_split H (fun v34 hv34 H => ?_)
    refine code_join (fun a w => ∃ κ : Gh, Fr (80) [] [(10, .bool (v34))] a ∧ SS [] κ0 w0 κ w [] [] ∧ True) ?_ ?_
    · clear H
      refine region_any (SSx [] κ0 w0 [.box b31 26 [(1, [.slice p27 (x26.1.Cuts).length c28]), (1, [.slice p29 (x26.1.Nodes).length c30])], .box b18 26 [(1, [.slice p14 (x13.1.Cuts).length c15]), (1, [.slice p16 (x13.1.Nodes).length c17])], .box b11 26 [(1, [.slice p2 (a1.Cuts).length c3]), (1, [.slice p4 (a1.Nodes).length c5])]] [Ro.mp fStr.ty p27 c28 x26.1.Cuts, Ro.mp (fInt .i64).ty p29 c30 x26.1.Nodes, Ro.mp fStr.ty p14 c15 x13.1.Cuts, Ro.mp (fInt .i64).ty p16 c17 x13.1.Nodes, Ro.mp fStr.ty p2 c3 a1.Cuts, Ro.mp (fInt .i64).ty p4 c5 a1.Nodes]) [] (by kernel_rfl) (n := 38) (by kernel_rfl) (l := #[false, false, false, false, false, false, false, false, false, false, false, false, false, false, false, false, false, false, false, false, false, false, false, false, false, false, false, false, false, false, false, false, false, false, false, false, false, false]) (by kernel_rfl) ?_
      have hS := hS.drew
      refine bind_split hv34 (fun x35 hx35 hv34 => ?_)
      refine bif_split hv34 (fun hb36 hv34 => ?_) (fun hb36 hv34 => ?_)
      · refine bif_split hv34 (fun hb37 hv34 => ?_) (fun hb37 hv34 => ?_)
        · refine bind_split hv34 (fun x38 hx38 hv34 => ?_)
          refine bif_split hv34 (fun hb39 hv34 => ?_) (fun hb39 hv34 => ?_)
          · refine bind_split hv34 (fun x40 hx40 hv34 => ?_)
            refine bind_split hv34 (fun x41 hx41 hv34 => ?_)
            refine bif_split hv34 (fun hb42 hv34 => ?_) (fun hb42 hv34 => ?_)
            · refine bif_split hv34 (fun hb43 hv34 => ?_) (fun hb43 hv34 => ?_)
              · refine bind_split hv34 (fun x44 hx44 hv34 => ?_)
                refine any_go 0 (o := ⟨(some 43), (Go.Op.call (Go.Call.mk (Go.Callee.value (Go.Operand.func 29)) #[] #[])), 4, "law.go:94", #[], none⟩) hF rfl (by kernel_rfl) (by kernel_rfl) (listed' := #[true, false, false, false, false, false, false, false, false, false, false, false, false, false, false, false, false, false, false, false, false, false, false, false, false, false, false, false, false, false, false, false, false, false, false, false, false, false]) (by kernel_rfl) ?_
                refine wo_callP (args := #[]) (f := 29) hF hS (by kernel_rfl) (by kernel_rfl) (C_law08_awake N hS.fresh   ((hS.pick [] (by kernel_rfl)).ro) hx35) ?_
                clear hF hS hx35
                rintro _ κ w a ⟨rfl, hR, hN⟩ hF hS hO
                clear hR hN hO
                refine ⟨fun _ => ⟨_, (hS.selp [0, 3, 6] (by decide) (by kernel_rfl)).pick [0, 1, 2, 3, 4, 5] (by kernel_rfl)⟩, ?_⟩
                refine any_pure [1] [2, 3, 4, 5, 11, 13, 14, 44] (L' := [(2, .int .i64 (a7)), (3, .string (a8)), (4, .string (a9)), (5, .pointer (some ⟨b11, 0, none⟩)), (11, .pointer (some ⟨b18, 0, none⟩)), (13, .pointer (some ⟨b31, 0, none⟩)), (14, .int .i64 (x26.2)), (44, .bool (x35))]) (listed' := #[true, true, false, false, false, false, false, false, false, false, false, false, false, false, false, false, false, false, false, false, false, false, false, false, false, false, false, false, false, false, false, false, false, false, false, false, false, false]) (fuel := 36) hF ⟨_, (hS.selp [0, 3, 6] (by decide) (by kernel_rfl)).pick [0, 1, 2, 3, 4, 5] (by kernel_rfl)⟩ (by kernel_rfl) (by intro c a w t v h; cases t <;> exact h) (by kernel_rfl) rfl ?_
                clear hF
                intro a hF
                have hF := hF.boolv 44 (by kernel_rfl) hb36
                refine any_pure [2, 3, 4, 5] [2, 3, 4, 5, 11, 13, 48] (L' := [(2, .int .i64 (a7)), (3, .string (a8)), (4, .string (a9)), (5, .pointer (some ⟨b11, 0, none⟩)), (11, .pointer (some ⟨b18, 0, none⟩)), (13, .pointer (some ⟨b31, 0, none⟩)), (48, .bool ((x26.2 == 0)))]) (listed' := #[true, true, true, true, true, true, false, false, false, false, false, false, false, false, false, false, false, false, false, false, false, false, false, false, false, false, false, false, false, false, false, false, false, false, false, false, false, false]) (fuel := 32) hF ⟨_, (hS.selp [0, 3, 6] (by decide) (by kernel_rfl)).pick [0, 1, 2, 3, 4, 5] (by kernel_rfl)⟩ (by kernel_rfl) (by intro c a w t v h; cases t <;> exact h) (by kernel_rfl) rfl ?_
                clear hF
                intro a hF
                have hF := hF.boolv 48 (by kernel_rfl) hb37
                refine any_take 6 (some 49) hF ⟨_, (hS.selp [0, 3, 6] (by decide) (by kernel_rfl)).pick [0, 1, 2, 3, 4, 5] (by kernel_rfl)⟩ rfl (by kernel_rfl) (by kernel_rfl) (by intro c a w v h; exact h) (by kernel_rfl) (by kernel_rfl) (by kernel_rfl) rfl (val_loads 2 0 2 (s' := [(1, [.slice p2 (a1.Cuts).length c3]), (1, [.slice p4 (a1.Nodes).length c5])]) (n := 2) rfl rfl rfl (by kernel_rfl) (by kernel_rfl) (by kernel_rfl) (by kernel_rfl) (by kernel_rfl)) ?_
                clear hF
                intro a hF
                refine any_take 7 (some 50) hF ⟨_, (hS.selp [0, 3, 6] (by decide) (by kernel_rfl)).pick [0, 1, 2, 3, 4, 5] (by kernel_rfl)⟩ rfl (by kernel_rfl) (by kernel_rfl) (by intro c a w v h; exact h) (by kernel_rfl) (by kernel_rfl) (by kernel_rfl) rfl (val_loads 0 0 2 (s' := [(1, [.slice p27 (x26.1.Cuts).length c28]), (1, [.slice p29 (x26.1.Nodes).length c30])]) (n := 2) rfl rfl rfl (by kernel_rfl) (by kernel_rfl) (by kernel_rfl) (by kernel_rfl) (by kernel_rfl)) ?_
                clear hF
                intro a hF
                refine any_go 8 (o := ⟨(some 51), (Go.Op.call (Go.Call.mk (Go.Callee.value (Go.Operand.func 44)) #[(Go.Operand.tmp 49), (Go.Operand.tmp 50)] #[26, 26])), 4, "law.go:94", #[(Go.Edge.mk 6 Go.Ground.data), (Go.Edge.mk 7 Go.Ground.data), (Go.Edge.mk 5 Go.Ground.chain), (Go.Edge.mk 5 Go.Ground.guard)], (some (5, true))⟩) hF rfl (by kernel_rfl) (by kernel_rfl) (listed' := #[true, true, true, true, true, true, true, true, true, false, false, false, false, false, false, false, false, false, false, false, false, false, false, false, false, false, false, false, false, false, false, false, false, false, false, false, false, false]) (by kernel_rfl) ?_
                refine wo_callP (args := #[.agg (flat [(1, [.slice p2 (a1.Cuts).length c3]), (1, [.slice p4 (a1.Nodes).length c5])]).toArray, .agg (flat [(1, [.slice p27 (x26.1.Cuts).length c28]), (1, [.slice p29 (x26.1.Nodes).length c30])]).toArray]) (f := 44) hF hS (by kernel_rfl) (by kernel_rfl) (C_ref08_Same N hS.fresh (T_api_Map.mk a1.Cuts a1.Nodes) (T_api_Map.mk x26.1.Cuts x26.1.Nodes) p2 c3 p4 c5 p27 c28 p29 c30 ((hS.pick [4, 5, 0, 1] (by kernel_rfl)).ro) hx38) ?_
                clear hF hS hx38
                rintro _ κ w a ⟨rfl, hR, hN⟩ hF hS hO
                clear hR hN hO
                refine ⟨fun _ => ⟨_, (hS.selp [0, 3, 6] (by decide) (by kernel_rfl)).pick [0, 1, 2, 3, 4, 5] (by kernel_rfl)⟩, ?_⟩
                refine any_pure [9, 10] [2, 3, 4, 5, 11, 53] (L' := [(2, .int .i64 (a7)), (3, .string (a8)), (4, .string (a9)), (5, .pointer (some ⟨b11, 0, none⟩)), (11, .pointer (some ⟨b18, 0, none⟩)), (53, .bool (x38))]) (listed' := #[true, true, true, true, true, true, true, true, true, true, true, false, false, false, false, false, false, false, false, false, false, false, false, false, false, false, false, false, false, false, false, false, false, false, false, false, false, false]) (fuel := 27) hF ⟨_, (hS.selp [0, 3, 6] (by decide) (by kernel_rfl)).pick [0, 1, 2, 3, 4, 5] (by kernel_rfl)⟩ (by kernel_rfl) (by intro c a w t v h; cases t <;> exact h) (by kernel_rfl) rfl ?_
                clear hF
                intro a hF
                have hF := hF.boolv 53 (by kernel_rfl) hb39
                refine any_pure [12, 15] [2, 3, 5, 11, 53, 55, 58] (L' := [(2, .int .i64 (a7)), (3, .string (a8)), (5, .pointer (some ⟨b11, 0, none⟩)), (11, .pointer (some ⟨b18, 0, none⟩)), (53, .bool (true)), (55, .string (a9)), (58, .string (a9))]) (listed' := #[true, true, true, true, true, true, true, true, true, true, true, false, true, false, false, true, false, false, false, false, false, false, false, false, false, false, false, false, false, false, false, false, false, false, false, false, false, false]) (fuel := 25) hF ⟨_, (hS.selp [0, 3, 6] (by decide) (by kernel_rfl)).pick [0, 1, 2, 3, 4, 5] (by kernel_rfl)⟩ (by kernel_rfl) (by intro c a w t v h; cases t <;> exact h) (by kernel_rfl) rfl ?_
                clear hF
                intro a hF
                refine any_take 11 (some 54) hF ⟨_, (hS.selp [0, 3, 6] (by decide) (by kernel_rfl)).pick [0, 1, 2, 3, 4, 5] (by kernel_rfl)⟩ rfl (by kernel_rfl) (by kernel_rfl) (by intro c a w v h; exact h) (by kernel_rfl) (by kernel_rfl) (by kernel_rfl) rfl (val_loads 1 0 2 (s' := [(1, [.slice p14 (x13.1.Cuts).length c15]), (1, [.slice p16 (x13.1.Nodes).length c17])]) (n := 2) rfl rfl rfl (by kernel_rfl) (by kernel_rfl) (by kernel_rfl) (by kernel_rfl) (by kernel_rfl)) ?_
                clear hF
                intro a hF
                refine any_take 14 (some 57) hF ⟨_, (hS.selp [0, 3, 6] (by decide) (by kernel_rfl)).pick [0, 1, 2, 3, 4, 5] (by kernel_rfl)⟩ rfl (by kernel_rfl) (by kernel_rfl) (by intro c a w v h; exact h) (by kernel_rfl) (by kernel_rfl) (by kernel_rfl) rfl (val_loads 2 0 2 (s' := [(1, [.slice p2 (a1.Cuts).length c3]), (1, [.slice p4 (a1.Nodes).length c5])]) (n := 2) rfl rfl rfl (by kernel_rfl) (by kernel_rfl) (by kernel_rfl) (by kernel_rfl) (by kernel_rfl)) ?_
                clear hF
                intro a hF
                refine any_go 13 (o := ⟨(some 56), (Go.Op.call (Go.Call.mk (Go.Callee.value (Go.Operand.func 38)) #[(Go.Operand.tmp 54), (Go.Operand.tmp 55)] #[26, 9])), 3, "law.go:94", #[(Go.Edge.mk 11 Go.Ground.data), (Go.Edge.mk 12 Go.Ground.data), (Go.Edge.mk 10 Go.Ground.chain), (Go.Edge.mk 10 Go.Ground.guard)], (some (10, true))⟩) hF rfl (by kernel_rfl) (by kernel_rfl) (listed' := #[true, true, true, true, true, true, true, true, true, true, true, true, true, true, true, true, false, false, false, false, false, false, false, false, false, false, false, false, false, false, false, false, false, false, false, false, false, false]) (by kernel_rfl) ?_
                refine wo_callP (args := #[.agg (flat [(1, [.slice p14 (x13.1.Cuts).length c15]), (1, [.slice p16 (x13.1.Nodes).length c17])]).toArray, .string (a9)]) (f := 38) hF hS (by kernel_rfl) (by kernel_rfl) (C_span_Owner N hS.fresh (T_api_Map.mk x13.1.Cuts x13.1.Nodes) a9 p14 c15 p16 c17 ((hS.pick [2, 3] (by kernel_rfl)).ro) hx40) ?_
                clear hF hS hx40
                rintro _ κ w a ⟨rfl, hR, hN⟩ hF hS hO
                clear hR hN hO
                refine ⟨fun _ => ⟨_, (hS.selp [0, 3, 6] (by decide) (by kernel_rfl)).pick [0, 1, 2, 3, 4, 5] (by kernel_rfl)⟩, ?_⟩
                refine any_go 16 (o := ⟨(some 59), (Go.Op.call (Go.Call.mk (Go.Callee.value (Go.Operand.func 38)) #[(Go.Operand.tmp 57), (Go.Operand.tmp 58)] #[26, 9])), 3, "law.go:94", #[(Go.Edge.mk 14 Go.Ground.data), (Go.Edge.mk 15 Go.Ground.data), (Go.Edge.mk 13 Go.Ground.chain), (Go.Edge.mk 10 Go.Ground.guard)], (some (10, true))⟩) hF rfl (by kernel_rfl) (by kernel_rfl) (listed' := #[true, true, true, true, true, true, true, true, true, true, true, true, true, true, true, true, true, false, false, false, false, false, false, false, false, false, false, false, false, false, false, false, false, false, false, false, false, false]) (by kernel_rfl) ?_
                refine wo_callP (args := #[.agg (flat [(1, [.slice p2 (a1.Cuts).length c3]), (1, [.slice p4 (a1.Nodes).length c5])]).toArray, .string (a9)]) (f := 38) hF hS (by kernel_rfl) (by kernel_rfl) (C_span_Owner N hS.fresh (T_api_Map.mk a1.Cuts a1.Nodes) a9 p2 c3 p4 c5 ((hS.pick [4, 5] (by kernel_rfl)).ro) hx41) ?_
                clear hF hS hx41
                rintro _ κ w a ⟨rfl, hR, hN⟩ hF hS hO
                clear hR hN hO
                refine ⟨fun _ => ⟨_, (hS.selp [0, 3, 6] (by decide) (by kernel_rfl)).pick [0, 1, 2, 3, 4, 5] (by kernel_rfl)⟩, ?_⟩
                refine any_pure [17, 18, 19] [2, 3, 5, 11, 62] (L' := [(2, .int .i64 (a7)), (3, .string (a8)), (5, .pointer (some ⟨b11, 0, none⟩)), (11, .pointer (some ⟨b18, 0, none⟩)), (62, .bool ((x40 == x41)))]) (listed' := #[true, true, true, true, true, true, true, true, true, true, true, true, true, true, true, true, true, true, true, true, false, false, false, false, false, false, false, false, false, false, false, false, false, false, false, false, false, false]) (fuel := 18) hF ⟨_, (hS.selp [0, 3, 6] (by decide) (by kernel_rfl)).pick [0, 1, 2, 3, 4, 5] (by kernel_rfl)⟩ (by kernel_rfl) (by intro c a w t v h; cases t <;> exact h) (by kernel_rfl) rfl ?_
                clear hF
                intro a hF
                have hF := hF.boolv 62 (by kernel_rfl) hb42
                refine any_pure [20, 23] [2, 3, 11, 62, 63, 66] (L' := [(2, .int .i64 (a7)), (3, .string (a8)), (11, .pointer (some ⟨b18, 0, none⟩)), (62, .bool (true)), (63, .pointer (some ⟨b18, 1, none⟩)), (66, .pointer (some ⟨b11, 1, none⟩))]) (listed' := #[true, true, true, true, true, true, true, true, true, true, true, true, true, true, true, true, true, true, true, true, true, false, false, true, false, false, false, false, false, false, false, false, false, false, false, false, false, false]) (fuel := 16) hF ⟨_, (hS.selp [0, 3, 6] (by decide) (by kernel_rfl)).pick [0, 1, 2, 3, 4, 5] (by kernel_rfl)⟩ (by kernel_rfl) (by intro c a w t v h; cases t <;> exact h) (by kernel_rfl) rfl ?_
                clear hF
                intro a hF
                refine any_take 21 (some 64) hF ⟨_, (hS.selp [0, 3, 6] (by decide) (by kernel_rfl)).pick [0, 1, 2, 3, 4, 5] (by kernel_rfl)⟩ rfl (by kernel_rfl) (by kernel_rfl) (by intro c a w v h; exact h) (by kernel_rfl) (by kernel_rfl) (by kernel_rfl) rfl (val_load 1 1 0 (v := .slice p16 (x13.1.Nodes).length c17) rfl rfl rfl rfl rfl (by kernel_rfl) (by kernel_rfl)) ?_
                clear hF
                intro a hF
                refine any_pure [22] [2, 3, 11, 62, 65, 66] (L' := [(2, .int .i64 (a7)), (3, .string (a8)), (11, .pointer (some ⟨b18, 0, none⟩)), (62, .bool (true)), (65, .int .i64 (((x13.1.Nodes).length : Int))), (66, .pointer (some ⟨b11, 1, none⟩))]) (listed' := #[true, true, true, true, true, true, true, true, true, true, true, true, true, true, true, true, true, true, true, true, true, true, true, true, false, false, false, false, false, false, false, false, false, false, false, false, false, false]) (fuel := 14) hF ⟨_, (hS.selp [0, 3, 6] (by decide) (by kernel_rfl)).pick [0, 1, 2, 3, 4, 5] (by kernel_rfl)⟩ (by kernel_rfl) (by intro c a w t v h; cases t <;> exact h) (by kernel_rfl) rfl ?_
                clear hF
                intro a hF
                refine any_take 24 (some 67) hF ⟨_, (hS.selp [0, 3, 6] (by decide) (by kernel_rfl)).pick [0, 1, 2, 3, 4, 5] (by kernel_rfl)⟩ rfl (by kernel_rfl) (by kernel_rfl) (by intro c a w v h; exact h) (by kernel_rfl) (by kernel_rfl) (by kernel_rfl) rfl (val_load 2 1 0 (v := .slice p4 (a1.Nodes).length c5) rfl rfl rfl rfl rfl (by kernel_rfl) (by kernel_rfl)) ?_
                clear hF
                intro a hF
                refine any_pure [25, 26, 27, 28, 29] [2, 3, 11, 72] (L' := [(2, .int .i64 (a7)), (3, .string (a8)), (11, .pointer (some ⟨b18, 0, none⟩)), (72, .bool ((((x13.1.Nodes).length : Int) == IntKind.i64.wrap (((a1.Nodes).length : Int) + 1))))]) (listed' := #[true, true, true, true, true, true, true, true, true, true, true, true, true, true, true, true, true, true, true, true, true, true, true, true, true, true, true, true, true, true, false, false, false, false, false, false, false, false]) (fuel := 8) hF ⟨_, (hS.selp [0, 3, 6] (by decide) (by kernel_rfl)).pick [0, 1, 2, 3, 4, 5] (by kernel_rfl)⟩ (by kernel_rfl) (by intro c a w t v h; cases t <;> exact h) (by kernel_rfl) rfl ?_
                clear hF
                intro a hF
                have hF := hF.boolv 72 (by kernel_rfl) hb43
                refine any_pure [31, 33, 34] [11, 72, 74, 77] (L' := [(11, .pointer (some ⟨b18, 0, none⟩)), (72, .bool (true)), (74, .string (a8)), (77, .int .i64 (IntKind.i64.wrap (a7 + 1)))]) (listed' := #[true, true, true, true, true, true, true, true, true, true, true, true, true, true, true, true, true, true, true, true, true, true, true, true, true, true, true, true, true, true, false, true, false, true, true, false, false, false]) (fuel := 5) hF ⟨_, (hS.selp [0, 3, 6] (by decide) (by kernel_rfl)).pick [0, 1, 2, 3, 4, 5] (by kernel_rfl)⟩ (by kernel_rfl) (by intro c a w t v h; cases t <;> exact h) (by kernel_rfl) rfl ?_
                clear hF
                intro a hF
                refine any_take 30 (some 73) hF ⟨_, (hS.selp [0, 3, 6] (by decide) (by kernel_rfl)).pick [0, 1, 2, 3, 4, 5] (by kernel_rfl)⟩ rfl (by kernel_rfl) (by kernel_rfl) (by intro c a w v h; exact h) (by kernel_rfl) (by kernel_rfl) (by kernel_rfl) rfl (val_loads 1 0 2 (s' := [(1, [.slice p14 (x13.1.Cuts).length c15]), (1, [.slice p16 (x13.1.Nodes).length c17])]) (n := 2) rfl rfl rfl (by kernel_rfl) (by kernel_rfl) (by kernel_rfl) (by kernel_rfl) (by kernel_rfl)) ?_
                clear hF
                intro a hF
                refine any_go 32 (o := ⟨(some 75), (Go.Op.call (Go.Call.mk (Go.Callee.value (Go.Operand.func 36)) #[(Go.Operand.tmp 73), (Go.Operand.tmp 74)] #[26, 9])), 3, "law.go:94", #[(Go.Edge.mk 30 Go.Ground.data), (Go.Edge.mk 31 Go.Ground.data), (Go.Edge.mk 29 Go.Ground.chain), (Go.Edge.mk 29 Go.Ground.guard)], (some (29, true))⟩) hF rfl (by kernel_rfl) (by kernel_rfl) (listed' := #[true, true, true, true, true, true, true, true, true, true, true, true, true, true, true, true, true, true, true, true, true, true, true, true, true, true, true, true, true, true, true, true, true, true, true, false, false, false]) (by kernel_rfl) ?_
                refine wo_callP (args := #[.agg (flat [(1, [.slice p14 (x13.1.Cuts).length c15]), (1, [.slice p16 (x13.1.Nodes).length c17])]).toArray, .string (a8)]) (f := 36) hF hS (by kernel_rfl) (by kernel_rfl) (C_span_Find N hS.fresh (T_api_Map.mk x13.1.Cuts x13.1.Nodes) a8 p14 c15 p16 c17 ((hS.pick [2, 3] (by kernel_rfl)).ro) hx44) ?_
                clear hF hS hx44
                rintro _ κ w a ⟨rfl, hR, hN⟩ hF hS hO
                clear hR hN hO
                refine ⟨fun _ => ⟨_, (hS.selp [0, 3, 6] (by decide) (by kernel_rfl)).pick [0, 1, 2, 3, 4, 5] (by kernel_rfl)⟩, ?_⟩
                refine any_pure [35, 36, 37] [10] (L' := [(10, .bool ((x44 == IntKind.i64.wrap (a7 + 1))))]) (listed' := #[true, true, true, true, true, true, true, true, true, true, true, true, true, true, true, true, true, true, true, true, true, true, true, true, true, true, true, true, true, true, true, true, true, true, true, true, true, true]) (fuel := 0) hF ⟨_, (hS.selp [0, 3, 6] (by decide) (by kernel_rfl)).pick [0, 1, 2, 3, 4, 5] (by kernel_rfl)⟩ (by kernel_rfl) (by intro c a w t v h; cases t <;> exact h) (by kernel_rfl) rfl ?_
                clear hF
                intro a hF
                refine any_done (by kernel_rfl) ?_ _
                cases hv34
                exact ⟨_, hF.keep' [10] (by kernel_rfl), (hS.selp [] (by decide) (by kernel_rfl)).pick [] (by kernel_rfl), trivial⟩
              · refine any_go 0 (o := ⟨(some 43), (Go.Op.call (Go.Call.mk (Go.Callee.value (Go.Operand.func 29)) #[] #[])), 4, "law.go:94", #[], none⟩) hF rfl (by kernel_rfl) (by kernel_rfl) (listed' := #[true, false, false, false, false, false, false, false, false, false, false, false, false, false, false, false, false, false, false, false, false, false, false, false, false, false, false, false, false, false, false, false, false, false, false, false, false, false]) (by kernel_rfl) ?_
                refine wo_callP (args := #[]) (f := 29) hF hS (by kernel_rfl) (by kernel_rfl) (C_law08_awake N hS.fresh   ((hS.pick [] (by kernel_rfl)).ro) hx35) ?_
                clear hF hS hx35
                rintro _ κ w a ⟨rfl, hR, hN⟩ hF hS hO
                clear hR hN hO
                refine ⟨fun _ => ⟨_, (hS.selp [0, 3, 6] (by decide) (by kernel_rfl)).pick [0, 1, 2, 3, 4, 5] (by kernel_rfl)⟩, ?_⟩
                refine any_pure [1] [2, 3, 4, 5, 11, 13, 14, 44] (L' := [(2, .int .i64 (a7)), (3, .string (a8)), (4, .string (a9)), (5, .pointer (some ⟨b11, 0, none⟩)), (11, .pointer (some ⟨b18, 0, none⟩)), (13, .pointer (some ⟨b31, 0, none⟩)), (14, .int .i64 (x26.2)), (44, .bool (x35))]) (listed' := #[true, true, false, false, false, false, false, false, false, false, false, false, false, false, false, false, false, false, false, false, false, false, false, false, false, false, false, false, false, false, false, false, false, false, false, false, false, false]) (fuel := 36) hF ⟨_, (hS.selp [0, 3, 6] (by decide) (by kernel_rfl)).pick [0, 1, 2, 3, 4, 5] (by kernel_rfl)⟩ (by kernel_rfl) (by intro c a w t v h; cases t <;> exact h) (by kernel_rfl) rfl ?_
                clear hF
                intro a hF
                have hF := hF.boolv 44 (by kernel_rfl) hb36
                refine any_pure [2, 3, 4, 5] [2, 3, 4, 5, 11, 13, 48] (L' := [(2, .int .i64 (a7)), (3, .string (a8)), (4, .string (a9)), (5, .pointer (some ⟨b11, 0, none⟩)), (11, .pointer (some ⟨b18, 0, none⟩)), (13, .pointer (some ⟨b31, 0, none⟩)), (48, .bool ((x26.2 == 0)))]) (listed' := #[true, true, true, true, true, true, false, false, false, false, false, false, false, false, false, false, false, false, false, false, false, false, false, false, false, false, false, false, false, false, false, false, false, false, false, false, false, false]) (fuel := 32) hF ⟨_, (hS.selp [0, 3, 6] (by decide) (by kernel_rfl)).pick [0, 1, 2, 3, 4, 5] (by kernel_rfl)⟩ (by kernel_rfl) (by intro c a w t v h; cases t <;> exact h) (by kernel_rfl) rfl ?_
                clear hF
                intro a hF
                have hF := hF.boolv 48 (by kernel_rfl) hb37
                refine any_take 6 (some 49) hF ⟨_, (hS.selp [0, 3, 6] (by decide) (by kernel_rfl)).pick [0, 1, 2, 3, 4, 5] (by kernel_rfl)⟩ rfl (by kernel_rfl) (by kernel_rfl) (by intro c a w v h; exact h) (by kernel_rfl) (by kernel_rfl) (by kernel_rfl) rfl (val_loads 2 0 2 (s' := [(1, [.slice p2 (a1.Cuts).length c3]), (1, [.slice p4 (a1.Nodes).length c5])]) (n := 2) rfl rfl rfl (by kernel_rfl) (by kernel_rfl) (by kernel_rfl) (by kernel_rfl) (by kernel_rfl)) ?_
                clear hF
                intro a hF
                refine any_take 7 (some 50) hF ⟨_, (hS.selp [0, 3, 6] (by decide) (by kernel_rfl)).pick [0, 1, 2, 3, 4, 5] (by kernel_rfl)⟩ rfl (by kernel_rfl) (by kernel_rfl) (by intro c a w v h; exact h) (by kernel_rfl) (by kernel_rfl) (by kernel_rfl) rfl (val_loads 0 0 2 (s' := [(1, [.slice p27 (x26.1.Cuts).length c28]), (1, [.slice p29 (x26.1.Nodes).length c30])]) (n := 2) rfl rfl rfl (by kernel_rfl) (by kernel_rfl) (by kernel_rfl) (by kernel_rfl) (by kernel_rfl)) ?_
                clear hF
                intro a hF
                refine any_go 8 (o := ⟨(some 51), (Go.Op.call (Go.Call.mk (Go.Callee.value (Go.Operand.func 44)) #[(Go.Operand.tmp 49), (Go.Operand.tmp 50)] #[26, 26])), 4, "law.go:94", #[(Go.Edge.mk 6 Go.Ground.data), (Go.Edge.mk 7 Go.Ground.data), (Go.Edge.mk 5 Go.Ground.chain), (Go.Edge.mk 5 Go.Ground.guard)], (some (5, true))⟩) hF rfl (by kernel_rfl) (by kernel_rfl) (listed' := #[true, true, true, true, true, true, true, true, true, false, false, false, false, false, false, false, false, false, false, false, false, false, false, false, false, false, false, false, false, false, false, false, false, false, false, false, false, false]) (by kernel_rfl) ?_
                refine wo_callP (args := #[.agg (flat [(1, [.slice p2 (a1.Cuts).length c3]), (1, [.slice p4 (a1.Nodes).length c5])]).toArray, .agg (flat [(1, [.slice p27 (x26.1.Cuts).length c28]), (1, [.slice p29 (x26.1.Nodes).length c30])]).toArray]) (f := 44) hF hS (by kernel_rfl) (by kernel_rfl) (C_ref08_Same N hS.fresh (T_api_Map.mk a1.Cuts a1.Nodes) (T_api_Map.mk x26.1.Cuts x26.1.Nodes) p2 c3 p4 c5 p27 c28 p29 c30 ((hS.pick [4, 5, 0, 1] (by kernel_rfl)).ro) hx38) ?_
                clear hF hS hx38
                rintro _ κ w a ⟨rfl, hR, hN⟩ hF hS hO
                clear hR hN hO
                refine ⟨fun _ => ⟨_, (hS.selp [0, 3, 6] (by decide) (by kernel_rfl)).pick [0, 1, 2, 3, 4, 5] (by kernel_rfl)⟩, ?_⟩
                refine any_pure [9, 10] [2, 3, 4, 5, 11, 53] (L' := [(2, .int .i64 (a7)), (3, .string (a8)), (4, .string (a9)), (5, .pointer (some ⟨b11, 0, none⟩)), (11, .pointer (some ⟨b18, 0, none⟩)), (53, .bool (x38))]) (listed' := #[true, true, true, true, true, true, true, true, true, true, true, false, false, false, false, false, false, false, false, false, false, false, false, false, false, false, false, false, false, false, false, false, false, false, false, false, false, false]) (fuel := 27) hF ⟨_, (hS.selp [0, 3, 6] (by decide) (by kernel_rfl)).pick [0, 1, 2, 3, 4, 5] (by kernel_rfl)⟩ (by kernel_rfl) (by intro c a w t v h; cases t <;> exact h) (by kernel_rfl) rfl ?_
                clear hF
                intro a hF
                have hF := hF.boolv 53 (by kernel_rfl) hb39
                refine any_pure [12, 15] [2, 3, 5, 11, 53, 55, 58] (L' := [(2, .int .i64 (a7)), (3, .string (a8)), (5, .pointer (some ⟨b11, 0, none⟩)), (11, .pointer (some ⟨b18, 0, none⟩)), (53, .bool (true)), (55, .string (a9)), (58, .string (a9))]) (listed' := #[true, true, true, true, true, true, true, true, true, true, true, false, true, false, false, true, false, false, false, false, false, false, false, false, false, false, false, false, false, false, false, false, false, false, false, false, false, false]) (fuel := 25) hF ⟨_, (hS.selp [0, 3, 6] (by decide) (by kernel_rfl)).pick [0, 1, 2, 3, 4, 5] (by kernel_rfl)⟩ (by kernel_rfl) (by intro c a w t v h; cases t <;> exact h) (by kernel_rfl) rfl ?_
                clear hF
                intro a hF
                refine any_take 11 (some 54) hF ⟨_, (hS.selp [0, 3, 6] (by decide) (by kernel_rfl)).pick [0, 1, 2, 3, 4, 5] (by kernel_rfl)⟩ rfl (by kernel_rfl) (by kernel_rfl) (by intro c a w v h; exact h) (by kernel_rfl) (by kernel_rfl) (by kernel_rfl) rfl (val_loads 1 0 2 (s' := [(1, [.slice p14 (x13.1.Cuts).length c15]), (1, [.slice p16 (x13.1.Nodes).length c17])]) (n := 2) rfl rfl rfl (by kernel_rfl) (by kernel_rfl) (by kernel_rfl) (by kernel_rfl) (by kernel_rfl)) ?_
                clear hF
                intro a hF
                refine any_take 14 (some 57) hF ⟨_, (hS.selp [0, 3, 6] (by decide) (by kernel_rfl)).pick [0, 1, 2, 3, 4, 5] (by kernel_rfl)⟩ rfl (by kernel_rfl) (by kernel_rfl) (by intro c a w v h; exact h) (by kernel_rfl) (by kernel_rfl) (by kernel_rfl) rfl (val_loads 2 0 2 (s' := [(1, [.slice p2 (a1.Cuts).length c3]), (1, [.slice p4 (a1.Nodes).length c5])]) (n := 2) rfl rfl rfl (by kernel_rfl) (by kernel_rfl) (by kernel_rfl) (by kernel_rfl) (by kernel_rfl)) ?_
                clear hF
                intro a hF
                refine any_go 13 (o := ⟨(some 56), (Go.Op.call (Go.Call.mk (Go.Callee.value (Go.Operand.func 38)) #[(Go.Operand.tmp 54), (Go.Operand.tmp 55)] #[26, 9])), 3, "law.go:94", #[(Go.Edge.mk 11 Go.Ground.data), (Go.Edge.mk 12 Go.Ground.data), (Go.Edge.mk 10 Go.Ground.chain), (Go.Edge.mk 10 Go.Ground.guard)], (some (10, true))⟩) hF rfl (by kernel_rfl) (by kernel_rfl) (listed' := #[true, true, true, true, true, true, true, true, true, true, true, true, true, true, true, true, false, false, false, false, false, false, false, false, false, false, false, false, false, false, false, false, false, false, false, false, false, false]) (by kernel_rfl) ?_
                refine wo_callP (args := #[.agg (flat [(1, [.slice p14 (x13.1.Cuts).length c15]), (1, [.slice p16 (x13.1.Nodes).length c17])]).toArray, .string (a9)]) (f := 38) hF hS (by kernel_rfl) (by kernel_rfl) (C_span_Owner N hS.fresh (T_api_Map.mk x13.1.Cuts x13.1.Nodes) a9 p14 c15 p16 c17 ((hS.pick [2, 3] (by kernel_rfl)).ro) hx40) ?_
                clear hF hS hx40
                rintro _ κ w a ⟨rfl, hR, hN⟩ hF hS hO
                clear hR hN hO
                refine ⟨fun _ => ⟨_, (hS.selp [0, 3, 6] (by decide) (by kernel_rfl)).pick [0, 1, 2, 3, 4, 5] (by kernel_rfl)⟩, ?_⟩
                refine any_go 16 (o := ⟨(some 59), (Go.Op.call (Go.Call.mk (Go.Callee.value (Go.Operand.func 38)) #[(Go.Operand.tmp 57), (Go.Operand.tmp 58)] #[26, 9])), 3, "law.go:94", #[(Go.Edge.mk 14 Go.Ground.data), (Go.Edge.mk 15 Go.Ground.data), (Go.Edge.mk 13 Go.Ground.chain), (Go.Edge.mk 10 Go.Ground.guard)], (some (10, true))⟩) hF rfl (by kernel_rfl) (by kernel_rfl) (listed' := #[true, true, true, true, true, true, true, true, true, true, true, true, true, true, true, true, true, false, false, false, false, false, false, false, false, false, false, false, false, false, false, false, false, false, false, false, false, false]) (by kernel_rfl) ?_
                refine wo_callP (args := #[.agg (flat [(1, [.slice p2 (a1.Cuts).length c3]), (1, [.slice p4 (a1.Nodes).length c5])]).toArray, .string (a9)]) (f := 38) hF hS (by kernel_rfl) (by kernel_rfl) (C_span_Owner N hS.fresh (T_api_Map.mk a1.Cuts a1.Nodes) a9 p2 c3 p4 c5 ((hS.pick [4, 5] (by kernel_rfl)).ro) hx41) ?_
                clear hF hS hx41
                rintro _ κ w a ⟨rfl, hR, hN⟩ hF hS hO
                clear hR hN hO
                refine ⟨fun _ => ⟨_, (hS.selp [0, 3, 6] (by decide) (by kernel_rfl)).pick [0, 1, 2, 3, 4, 5] (by kernel_rfl)⟩, ?_⟩
                refine any_pure [17, 18, 19] [2, 3, 5, 11, 62] (L' := [(2, .int .i64 (a7)), (3, .string (a8)), (5, .pointer (some ⟨b11, 0, none⟩)), (11, .pointer (some ⟨b18, 0, none⟩)), (62, .bool ((x40 == x41)))]) (listed' := #[true, true, true, true, true, true, true, true, true, true, true, true, true, true, true, true, true, true, true, true, false, false, false, false, false, false, false, false, false, false, false, false, false, false, false, false, false, false]) (fuel := 18) hF ⟨_, (hS.selp [0, 3, 6] (by decide) (by kernel_rfl)).pick [0, 1, 2, 3, 4, 5] (by kernel_rfl)⟩ (by kernel_rfl) (by intro c a w t v h; cases t <;> exact h) (by kernel_rfl) rfl ?_
                clear hF
                intro a hF
                have hF := hF.boolv 62 (by kernel_rfl) hb42
                refine any_pure [20, 23] [2, 3, 11, 62, 63, 66] (L' := [(2, .int .i64 (a7)), (3, .string (a8)), (11, .pointer (some ⟨b18, 0, none⟩)), (62, .bool (true)), (63, .pointer (some ⟨b18, 1, none⟩)), (66, .pointer (some ⟨b11, 1, none⟩))]) (listed' := #[true, true, true, true, true, true, true, true, true, true, true, true, true, true, true, true, true, true, true, true, true, false, false, true, false, false, false, false, false, false, false, false, false, false, false, false, false, false]) (fuel := 16) hF ⟨_, (hS.selp [0, 3, 6] (by decide) (by kernel_rfl)).pick [0, 1, 2, 3, 4, 5] (by kernel_rfl)⟩ (by kernel_rfl) (by intro c a w t v h; cases t <;> exact h) (by kernel_rfl) rfl ?_
                clear hF
                intro a hF
                refine any_take 21 (some 64) hF ⟨_, (hS.selp [0, 3, 6] (by decide) (by kernel_rfl)).pick [0, 1, 2, 3, 4, 5] (by kernel_rfl)⟩ rfl (by kernel_rfl) (by kernel_rfl) (by intro c a w v h; exact h) (by kernel_rfl) (by kernel_rfl) (by kernel_rfl) rfl (val_load 1 1 0 (v := .slice p16 (x13.1.Nodes).length c17) rfl rfl rfl rfl rfl (by kernel_rfl) (by kernel_rfl)) ?_
                clear hF
                intro a hF
                refine any_pure [22] [2, 3, 11, 62, 65, 66] (L' := [(2, .int .i64 (a7)), (3, .string (a8)), (11, .pointer (some ⟨b18, 0, none⟩)), (62, .bool (true)), (65, .int .i64 (((x13.1.Nodes).length : Int))), (66, .pointer (some ⟨b11, 1, none⟩))]) (listed' := #[true, true, true, true, true, true, true, true, true, true, true, true, true, true, true, true, true, true, true, true, true, true, true, true, false, false, false, false, false, false, false, false, false, false, false, false, false, false]) (fuel := 14) hF ⟨_, (hS.selp [0, 3, 6] (by decide) (by kernel_rfl)).pick [0, 1, 2, 3, 4, 5] (by kernel_rfl)⟩ (by kernel_rfl) (by intro c a w t v h; cases t <;> exact h) (by kernel_rfl) rfl ?_
                clear hF
                intro a hF
                refine any_take 24 (some 67) hF ⟨_, (hS.selp [0, 3, 6] (by decide) (by kernel_rfl)).pick [0, 1, 2, 3, 4, 5] (by kernel_rfl)⟩ rfl (by kernel_rfl) (by kernel_rfl) (by intro c a w v h; exact h) (by kernel_rfl) (by kernel_rfl) (by kernel_rfl) rfl (val_load 2 1 0 (v := .slice p4 (a1.Nodes).length c5) rfl rfl rfl rfl rfl (by kernel_rfl) (by kernel_rfl)) ?_
                clear hF
                intro a hF
                refine any_pure [25, 26, 27, 28, 29] [2, 3, 11, 72] (L' := [(2, .int .i64 (a7)), (3, .string (a8)), (11, .pointer (some ⟨b18, 0, none⟩)), (72, .bool ((((x13.1.Nodes).length : Int) == IntKind.i64.wrap (((a1.Nodes).length : Int) + 1))))]) (listed' := #[true, true, true, true, true, true, true, true, true, true, true, true, true, true, true, true, true, true, true, true, true, true, true, true, true, true, true, true, true, true, false, false, false, false, false, false, false, false]) (fuel := 8) hF ⟨_, (hS.selp [0, 3, 6] (by decide) (by kernel_rfl)).pick [0, 1, 2, 3, 4, 5] (by kernel_rfl)⟩ (by kernel_rfl) (by intro c a w t v h; cases t <;> exact h) (by kernel_rfl) rfl ?_
                clear hF
                intro a hF
                have hF := hF.boolv 72 (by kernel_rfl) hb43
                refine any_pure [30, 31, 32, 33, 34, 35, 36, 37] [10] (L' := [(10, .bool (false))]) (listed' := #[true, true, true, true, true, true, true, true, true, true, true, true, true, true, true, true, true, true, true, true, true, true, true, true, true, true, true, true, true, true, true, true, true, true, true, true, true, true]) (fuel := 0) hF ⟨_, (hS.selp [0, 3, 6] (by decide) (by kernel_rfl)).pick [0, 1, 2, 3, 4, 5] (by kernel_rfl)⟩ (by kernel_rfl) (by intro c a w t v h; cases t <;> exact h) (by kernel_rfl) rfl ?_
                clear hF
                intro a hF
                refine any_done (by kernel_rfl) ?_ _
                cases hv34
                exact ⟨_, hF.keep' [10] (by kernel_rfl), (hS.selp [] (by decide) (by kernel_rfl)).pick [] (by kernel_rfl), trivial⟩
            · refine any_go 0 (o := ⟨(some 43), (Go.Op.call (Go.Call.mk (Go.Callee.value (Go.Operand.func 29)) #[] #[])), 4, "law.go:94", #[], none⟩) hF rfl (by kernel_rfl) (by kernel_rfl) (listed' := #[true, false, false, false, false, false, false, false, false, false, false, false, false, false, false, false, false, false, false, false, false, false, false, false, false, false, false, false, false, false, false, false, false, false, false, false, false, false]) (by kernel_rfl) ?_
              refine wo_callP (args := #[]) (f := 29) hF hS (by kernel_rfl) (by kernel_rfl) (C_law08_awake N hS.fresh   ((hS.pick [] (by kernel_rfl)).ro) hx35) ?_
              clear hF hS hx35
              rintro _ κ w a ⟨rfl, hR, hN⟩ hF hS hO
              clear hR hN hO
              refine ⟨fun _ => ⟨_, (hS.selp [0, 3, 6] (by decide) (by kernel_rfl)).pick [0, 1, 2, 3, 4, 5] (by kernel_rfl)⟩, ?_⟩
              refine any_pure [1] [2, 3, 4, 5, 11, 13, 14, 44] (L' := [(2, .int .i64 (a7)), (3, .string (a8)), (4, .string (a9)), (5, .pointer (some ⟨b11, 0, none⟩)), (11, .pointer (some ⟨b18, 0, none⟩)), (13, .pointer (some ⟨b31, 0, none⟩)), (14, .int .i64 (x26.2)), (44, .bool (x35))]) (listed' := #[true, true, false, false, false, false, false, false, false, false, false, false, false, false, false, false, false, false, false, false, false, false, false, false, false, false, false, false, false, false, false, false, false, false, false, false, false, false]) (fuel := 36) hF ⟨_, (hS.selp [0, 3, 6] (by decide) (by kernel_rfl)).pick [0, 1, 2, 3, 4, 5] (by kernel_rfl)⟩ (by kernel_rfl) (by intro c a w t v h; cases t <;> exact h) (by kernel_rfl) rfl ?_
              clear hF
              intro a hF
              have hF := hF.boolv 44 (by kernel_rfl) hb36
              refine any_pure [2, 3, 4, 5] [2, 3, 4, 5, 11, 13, 48] (L' := [(2, .int .i64 (a7)), (3, .string (a8)), (4, .string (a9)), (5, .pointer (some ⟨b11, 0, none⟩)), (11, .pointer (some ⟨b18, 0, none⟩)), (13, .pointer (some ⟨b31, 0, none⟩)), (48, .bool ((x26.2 == 0)))]) (listed' := #[true, true, true, true, true, true, false, false, false, false, false, false, false, false, false, false, false, false, false, false, false, false, false, false, false, false, false, false, false, false, false, false, false, false, false, false, false, false]) (fuel := 32) hF ⟨_, (hS.selp [0, 3, 6] (by decide) (by kernel_rfl)).pick [0, 1, 2, 3, 4, 5] (by kernel_rfl)⟩ (by kernel_rfl) (by intro c a w t v h; cases t <;> exact h) (by kernel_rfl) rfl ?_
              clear hF
              intro a hF
              have hF := hF.boolv 48 (by kernel_rfl) hb37
              refine any_take 6 (some 49) hF ⟨_, (hS.selp [0, 3, 6] (by decide) (by kernel_rfl)).pick [0, 1, 2, 3, 4, 5] (by kernel_rfl)⟩ rfl (by kernel_rfl) (by kernel_rfl) (by intro c a w v h; exact h) (by kernel_rfl) (by kernel_rfl) (by kernel_rfl) rfl (val_loads 2 0 2 (s' := [(1, [.slice p2 (a1.Cuts).length c3]), (1, [.slice p4 (a1.Nodes).length c5])]) (n := 2) rfl rfl rfl (by kernel_rfl) (by kernel_rfl) (by kernel_rfl) (by kernel_rfl) (by kernel_rfl)) ?_
              clear hF
              intro a hF
              refine any_take 7 (some 50) hF ⟨_, (hS.selp [0, 3, 6] (by decide) (by kernel_rfl)).pick [0, 1, 2, 3, 4, 5] (by kernel_rfl)⟩ rfl (by kernel_rfl) (by kernel_rfl) (by intro c a w v h; exact h) (by kernel_rfl) (by kernel_rfl) (by kernel_rfl) rfl (val_loads 0 0 2 (s' := [(1, [.slice p27 (x26.1.Cuts).length c28]), (1, [.slice p29 (x26.1.Nodes).length c30])]) (n := 2) rfl rfl rfl (by kernel_rfl) (by kernel_rfl) (by kernel_rfl) (by kernel_rfl) (by kernel_rfl)) ?_
              clear hF
              intro a hF
              refine any_go 8 (o := ⟨(some 51), (Go.Op.call (Go.Call.mk (Go.Callee.value (Go.Operand.func 44)) #[(Go.Operand.tmp 49), (Go.Operand.tmp 50)] #[26, 26])), 4, "law.go:94", #[(Go.Edge.mk 6 Go.Ground.data), (Go.Edge.mk 7 Go.Ground.data), (Go.Edge.mk 5 Go.Ground.chain), (Go.Edge.mk 5 Go.Ground.guard)], (some (5, true))⟩) hF rfl (by kernel_rfl) (by kernel_rfl) (listed' := #[true, true, true, true, true, true, true, true, true, false, false, false, false, false, false, false, false, false, false, false, false, false, false, false, false, false, false, false, false, false, false, false, false, false, false, false, false, false]) (by kernel_rfl) ?_
              refine wo_callP (args := #[.agg (flat [(1, [.slice p2 (a1.Cuts).length c3]), (1, [.slice p4 (a1.Nodes).length c5])]).toArray, .agg (flat [(1, [.slice p27 (x26.1.Cuts).length c28]), (1, [.slice p29 (x26.1.Nodes).length c30])]).toArray]) (f := 44) hF hS (by kernel_rfl) (by kernel_rfl) (C_ref08_Same N hS.fresh (T_api_Map.mk a1.Cuts a1.Nodes) (T_api_Map.mk x26.1.Cuts x26.1.Nodes) p2 c3 p4 c5 p27 c28 p29 c30 ((hS.pick [4, 5, 0, 1] (by kernel_rfl)).ro) hx38) ?_
              clear hF hS hx38
              rintro _ κ w a ⟨rfl, hR, hN⟩ hF hS hO
              clear hR hN hO
              refine ⟨fun _ => ⟨_, (hS.selp [0, 3, 6] (by decide) (by kernel_rfl)).pick [0, 1, 2, 3, 4, 5] (by kernel_rfl)⟩, ?_⟩
              refine any_pure [9, 10] [2, 3, 4, 5, 11, 53] (L' := [(2, .int .i64 (a7)), (3, .string (a8)), (4, .string (a9)), (5, .pointer (some ⟨b11, 0, none⟩)), (11, .pointer (some ⟨b18, 0, none⟩)), (53, .bool (x38))]) (listed' := #[true, true, true, true, true, true, true, true, true, true, true, false, false, false, false, false, false, false, false, false, false, false, false, false, false, false, false, false, false, false, false, false, false, false, false, false, false, false]) (fuel := 27) hF ⟨_, (hS.selp [0, 3, 6] (by decide) (by kernel_rfl)).pick [0, 1, 2, 3, 4, 5] (by kernel_rfl)⟩ (by kernel_rfl) (by intro c a w t v h; cases t <;> exact h) (by kernel_rfl) rfl ?_
              clear hF
              intro a hF
              have hF := hF.boolv 53 (by kernel_rfl) hb39
              refine any_pure [12, 15] [2, 3, 5, 11, 53, 55, 58] (L' := [(2, .int .i64 (a7)), (3, .string (a8)), (5, .pointer (some ⟨b11, 0, none⟩)), (11, .pointer (some ⟨b18, 0, none⟩)), (53, .bool (true)), (55, .string (a9)), (58, .string (a9))]) (listed' := #[true, true, true, true, true, true, true, true, true, true, true, false, true, false, false, true, false, false, false, false, false, false, false, false, false, false, false, false, false, false, false, false, false, false, false, false, false, false]) (fuel := 25) hF ⟨_, (hS.selp [0, 3, 6] (by decide) (by kernel_rfl)).pick [0, 1, 2, 3, 4, 5] (by kernel_rfl)⟩ (by kernel_rfl) (by intro c a w t v h; cases t <;> exact h) (by kernel_rfl) rfl ?_
              clear hF
              intro a hF
              refine any_take 11 (some 54) hF ⟨_, (hS.selp [0, 3, 6] (by decide) (by kernel_rfl)).pick [0, 1, 2, 3, 4, 5] (by kernel_rfl)⟩ rfl (by kernel_rfl) (by kernel_rfl) (by intro c a w v h; exact h) (by kernel_rfl) (by kernel_rfl) (by kernel_rfl) rfl (val_loads 1 0 2 (s' := [(1, [.slice p14 (x13.1.Cuts).length c15]), (1, [.slice p16 (x13.1.Nodes).length c17])]) (n := 2) rfl rfl rfl (by kernel_rfl) (by kernel_rfl) (by kernel_rfl) (by kernel_rfl) (by kernel_rfl)) ?_
              clear hF
              intro a hF
              refine any_take 14 (some 57) hF ⟨_, (hS.selp [0, 3, 6] (by decide) (by kernel_rfl)).pick [0, 1, 2, 3, 4, 5] (by kernel_rfl)⟩ rfl (by kernel_rfl) (by kernel_rfl) (by intro c a w v h; exact h) (by kernel_rfl) (by kernel_rfl) (by kernel_rfl) rfl (val_loads 2 0 2 (s' := [(1, [.slice p2 (a1.Cuts).length c3]), (1, [.slice p4 (a1.Nodes).length c5])]) (n := 2) rfl rfl rfl (by kernel_rfl) (by kernel_rfl) (by kernel_rfl) (by kernel_rfl) (by kernel_rfl)) ?_
              clear hF
              intro a hF
              refine any_go 13 (o := ⟨(some 56), (Go.Op.call (Go.Call.mk (Go.Callee.value (Go.Operand.func 38)) #[(Go.Operand.tmp 54), (Go.Operand.tmp 55)] #[26, 9])), 3, "law.go:94", #[(Go.Edge.mk 11 Go.Ground.data), (Go.Edge.mk 12 Go.Ground.data), (Go.Edge.mk 10 Go.Ground.chain), (Go.Edge.mk 10 Go.Ground.guard)], (some (10, true))⟩) hF rfl (by kernel_rfl) (by kernel_rfl) (listed' := #[true, true, true, true, true, true, true, true, true, true, true, true, true, true, true, true, false, false, false, false, false, false, false, false, false, false, false, false, false, false, false, false, false, false, false, false, false, false]) (by kernel_rfl) ?_
              refine wo_callP (args := #[.agg (flat [(1, [.slice p14 (x13.1.Cuts).length c15]), (1, [.slice p16 (x13.1.Nodes).length c17])]).toArray, .string (a9)]) (f := 38) hF hS (by kernel_rfl) (by kernel_rfl) (C_span_Owner N hS.fresh (T_api_Map.mk x13.1.Cuts x13.1.Nodes) a9 p14 c15 p16 c17 ((hS.pick [2, 3] (by kernel_rfl)).ro) hx40) ?_
              clear hF hS hx40
              rintro _ κ w a ⟨rfl, hR, hN⟩ hF hS hO
              clear hR hN hO
              refine ⟨fun _ => ⟨_, (hS.selp [0, 3, 6] (by decide) (by kernel_rfl)).pick [0, 1, 2, 3, 4, 5] (by kernel_rfl)⟩, ?_⟩
              refine any_go 16 (o := ⟨(some 59), (Go.Op.call (Go.Call.mk (Go.Callee.value (Go.Operand.func 38)) #[(Go.Operand.tmp 57), (Go.Operand.tmp 58)] #[26, 9])), 3, "law.go:94", #[(Go.Edge.mk 14 Go.Ground.data), (Go.Edge.mk 15 Go.Ground.data), (Go.Edge.mk 13 Go.Ground.chain), (Go.Edge.mk 10 Go.Ground.guard)], (some (10, true))⟩) hF rfl (by kernel_rfl) (by kernel_rfl) (listed' := #[true, true, true, true, true, true, true, true, true, true, true, true, true, true, true, true, true, false, false, false, false, false, false, false, false, false, false, false, false, false, false, false, false, false, false, false, false, false]) (by kernel_rfl) ?_
              refine wo_callP (args := #[.agg (flat [(1, [.slice p2 (a1.Cuts).length c3]), (1, [.slice p4 (a1.Nodes).length c5])]).toArray, .string (a9)]) (f := 38) hF hS (by kernel_rfl) (by kernel_rfl) (C_span_Owner N hS.fresh (T_api_Map.mk a1.Cuts a1.Nodes) a9 p2 c3 p4 c5 ((hS.pick [4, 5] (by kernel_rfl)).ro) hx41) ?_
              clear hF hS hx41
              rintro _ κ w a ⟨rfl, hR, hN⟩ hF hS hO
              clear hR hN hO
              refine ⟨fun _ => ⟨_, (hS.selp [0, 3, 6] (by decide) (by kernel_rfl)).pick [0, 1, 2, 3, 4, 5] (by kernel_rfl)⟩, ?_⟩
              refine any_pure [17, 18, 19] [2, 3, 5, 11, 62] (L' := [(2, .int .i64 (a7)), (3, .string (a8)), (5, .pointer (some ⟨b11, 0, none⟩)), (11, .pointer (some ⟨b18, 0, none⟩)), (62, .bool ((x40 == x41)))]) (listed' := #[true, true, true, true, true, true, true, true, true, true, true, true, true, true, true, true, true, true, true, true, false, false, false, false, false, false, false, false, false, false, false, false, false, false, false, false, false, false]) (fuel := 18) hF ⟨_, (hS.selp [0, 3, 6] (by decide) (by kernel_rfl)).pick [0, 1, 2, 3, 4, 5] (by kernel_rfl)⟩ (by kernel_rfl) (by intro c a w t v h; cases t <;> exact h) (by kernel_rfl) rfl ?_
              clear hF
              intro a hF
              have hF := hF.boolv 62 (by kernel_rfl) hb42
              refine any_pure [20, 21, 22, 23, 24, 25, 26, 27, 28, 29, 30, 31, 32, 33, 34, 35, 36, 37] [10] (L' := [(10, .bool (false))]) (listed' := #[true, true, true, true, true, true, true, true, true, true, true, true, true, true, true, true, true, true, true, true, true, true, true, true, true, true, true, true, true, true, true, true, true, true, true, true, true, true]) (fuel := 0) hF ⟨_, (hS.selp [0, 3, 6] (by decide) (by kernel_rfl)).pick [0, 1, 2, 3, 4, 5] (by kernel_rfl)⟩ (by kernel_rfl) (by intro c a w t v h; cases t <;> exact h) (by kernel_rfl) rfl ?_
              clear hF
              intro a hF
              refine any_done (by kernel_rfl) ?_ _
              cases hv34
              exact ⟨_, hF.keep' [10] (by kernel_rfl), (hS.selp [] (by decide) (by kernel_rfl)).pick [] (by kernel_rfl), trivial⟩
          · refine any_go 0 (o := ⟨(some 43), (Go.Op.call (Go.Call.mk (Go.Callee.value (Go.Operand.func 29)) #[] #[])), 4, "law.go:94", #[], none⟩) hF rfl (by kernel_rfl) (by kernel_rfl) (listed' := #[true, false, false, false, false, false, false, false, false, false, false, false, false, false, false, false, false, false, false, false, false, false, false, false, false, false, false, false, false, false, false, false, false, false, false, false, false, false]) (by kernel_rfl) ?_
            refine wo_callP (args := #[]) (f := 29) hF hS (by kernel_rfl) (by kernel_rfl) (C_law08_awake N hS.fresh   ((hS.pick [] (by kernel_rfl)).ro) hx35) ?_
            clear hF hS hx35
            rintro _ κ w a ⟨rfl, hR, hN⟩ hF hS hO
            clear hR hN hO
            refine ⟨fun _ => ⟨_, (hS.selp [0, 3, 6] (by decide) (by kernel_rfl)).pick [0, 1, 2, 3, 4, 5] (by kernel_rfl)⟩, ?_⟩
            refine any_pure [1] [2, 3, 4, 5, 11, 13, 14, 44] (L' := [(2, .int .i64 (a7)), (3, .string (a8)), (4, .string (a9)), (5, .pointer (some ⟨b11, 0, none⟩)), (11, .pointer (some ⟨b18, 0, none⟩)), (13, .pointer (some ⟨b31, 0, none⟩)), (14, .int .i64 (x26.2)), (44, .bool (x35))]) (listed' := #[true, true, false, false, false, false, false, false, false, false, false, false, false, false, false, false, false, false, false, false, false, false, false, false, false, false, false, false, false, false, false, false, false, false, false, false, false, false]) (fuel := 36) hF ⟨_, (hS.selp [0, 3, 6] (by decide) (by kernel_rfl)).pick [0, 1, 2, 3, 4, 5] (by kernel_rfl)⟩ (by kernel_rfl) (by intro c a w t v h; cases t <;> exact h) (by kernel_rfl) rfl ?_
            clear hF
            intro a hF
            have hF := hF.boolv 44 (by kernel_rfl) hb36
            refine any_pure [2, 3, 4, 5] [2, 3, 4, 5, 11, 13, 48] (L' := [(2, .int .i64 (a7)), (3, .string (a8)), (4, .string (a9)), (5, .pointer (some ⟨b11, 0, none⟩)), (11, .pointer (some ⟨b18, 0, none⟩)), (13, .pointer (some ⟨b31, 0, none⟩)), (48, .bool ((x26.2 == 0)))]) (listed' := #[true, true, true, true, true, true, false, false, false, false, false, false, false, false, false, false, false, false, false, false, false, false, false, false, false, false, false, false, false, false, false, false, false, false, false, false, false, false]) (fuel := 32) hF ⟨_, (hS.selp [0, 3, 6] (by decide) (by kernel_rfl)).pick [0, 1, 2, 3, 4, 5] (by kernel_rfl)⟩ (by kernel_rfl) (by intro c a w t v h; cases t <;> exact h) (by kernel_rfl) rfl ?_
            clear hF
            intro a hF
            have hF := hF.boolv 48 (by kernel_rfl) hb37
            refine any_take 6 (some 49) hF ⟨_, (hS.selp [0, 3, 6] (by decide) (by kernel_rfl)).pick [0, 1, 2, 3, 4, 5] (by kernel_rfl)⟩ rfl (by kernel_rfl) (by kernel_rfl) (by intro c a w v h; exact h) (by kernel_rfl) (by kernel_rfl) (by kernel_rfl) rfl (val_loads 2 0 2 (s' := [(1, [.slice p2 (a1.Cuts).length c3]), (1, [.slice p4 (a1.Nodes).length c5])]) (n := 2) rfl rfl rfl (by kernel_rfl) (by kernel_rfl) (by kernel_rfl) (by kernel_rfl) (by kernel_rfl)) ?_
            clear hF
            intro a hF
            refine any_take 7 (some 50) hF ⟨_, (hS.selp [0, 3, 6] (by decide) (by kernel_rfl)).pick [0, 1, 2, 3, 4, 5] (by kernel_rfl)⟩ rfl (by kernel_rfl) (by kernel_rfl) (by intro c a w v h; exact h) (by kernel_rfl) (by kernel_rfl) (by kernel_rfl) rfl (val_loads 0 0 2 (s' := [(1, [.slice p27 (x26.1.Cuts).length c28]), (1, [.slice p29 (x26.1.Nodes).length c30])]) (n := 2) rfl rfl rfl (by kernel_rfl) (by kernel_rfl) (by kernel_rfl) (by kernel_rfl) (by kernel_rfl)) ?_
            clear hF
            intro a hF
            refine any_go 8 (o := ⟨(some 51), (Go.Op.call (Go.Call.mk (Go.Callee.value (Go.Operand.func 44)) #[(Go.Operand.tmp 49), (Go.Operand.tmp 50)] #[26, 26])), 4, "law.go:94", #[(Go.Edge.mk 6 Go.Ground.data), (Go.Edge.mk 7 Go.Ground.data), (Go.Edge.mk 5 Go.Ground.chain), (Go.Edge.mk 5 Go.Ground.guard)], (some (5, true))⟩) hF rfl (by kernel_rfl) (by kernel_rfl) (listed' := #[true, true, true, true, true, true, true, true, true, false, false, false, false, false, false, false, false, false, false, false, false, false, false, false, false, false, false, false, false, false, false, false, false, false, false, false, false, false]) (by kernel_rfl) ?_
            refine wo_callP (args := #[.agg (flat [(1, [.slice p2 (a1.Cuts).length c3]), (1, [.slice p4 (a1.Nodes).length c5])]).toArray, .agg (flat [(1, [.slice p27 (x26.1.Cuts).length c28]), (1, [.slice p29 (x26.1.Nodes).length c30])]).toArray]) (f := 44) hF hS (by kernel_rfl) (by kernel_rfl) (C_ref08_Same N hS.fresh (T_api_Map.mk a1.Cuts a1.Nodes) (T_api_Map.mk x26.1.Cuts x26.1.Nodes) p2 c3 p4 c5 p27 c28 p29 c30 ((hS.pick [4, 5, 0, 1] (by kernel_rfl)).ro) hx38) ?_
            clear hF hS hx38
            rintro _ κ w a ⟨rfl, hR, hN⟩ hF hS hO
            clear hR hN hO
            refine ⟨fun _ => ⟨_, (hS.selp [0, 3, 6] (by decide) (by kernel_rfl)).pick [0, 1, 2, 3, 4, 5] (by kernel_rfl)⟩, ?_⟩
            refine any_pure [9, 10] [2, 3, 4, 5, 11, 53] (L' := [(2, .int .i64 (a7)), (3, .string (a8)), (4, .string (a9)), (5, .pointer (some ⟨b11, 0, none⟩)), (11, .pointer (some ⟨b18, 0, none⟩)), (53, .bool (x38))]) (listed' := #[true, true, true, true, true, true, true, true, true, true, true, false, false, false, false, false, false, false, false, false, false, false, false, false, false, false, false, false, false, false, false, false, false, false, false, false, false, false]) (fuel := 27) hF ⟨_, (hS.selp [0, 3, 6] (by decide) (by kernel_rfl)).pick [0, 1, 2, 3, 4, 5] (by kernel_rfl)⟩ (by kernel_rfl) (by intro c a w t v h; cases t <;> exact h) (by kernel_rfl) rfl ?_
            clear hF
            intro a hF
            have hF := hF.boolv 53 (by kernel_rfl) hb39
            refine any_pure [11, 12, 13, 14, 15, 16, 17, 18, 19, 20, 21, 22, 23, 24, 25, 26, 27, 28, 29, 30, 31, 32, 33, 34, 35, 36, 37] [10] (L' := [(10, .bool (false))]) (listed' := #[true, true, true, true, true, true, true, true, true, true, true, true, true, true, true, true, true, true, true, true, true, true, true, true, true, true, true, true, true, true, true, true, true, true, true, true, true, true]) (fuel := 0) hF ⟨_, (hS.selp [0, 3, 6] (by decide) (by kernel_rfl)).pick [0, 1, 2, 3, 4, 5] (by kernel_rfl)⟩ (by kernel_rfl) (by intro c a w t v h; cases t <;> exact h) (by kernel_rfl) rfl ?_
            clear hF
            intro a hF
            refine any_done (by kernel_rfl) ?_ _
            cases hv34
            exact ⟨_, hF.keep' [10] (by kernel_rfl), (hS.selp [] (by decide) (by kernel_rfl)).pick [] (by kernel_rfl), trivial⟩
        · refine any_go 0 (o := ⟨(some 43), (Go.Op.call (Go.Call.mk (Go.Callee.value (Go.Operand.func 29)) #[] #[])), 4, "law.go:94", #[], none⟩) hF rfl (by kernel_rfl) (by kernel_rfl) (listed' := #[true, false, false, false, false, false, false, false, false, false, false, false, false, false, false, false, false, false, false, false, false, false, false, false, false, false, false, false, false, false, false, false, false, false, false, false, false, false]) (by kernel_rfl) ?_
          refine wo_callP (args := #[]) (f := 29) hF hS (by kernel_rfl) (by kernel_rfl) (C_law08_awake N hS.fresh   ((hS.pick [] (by kernel_rfl)).ro) hx35) ?_
          clear hF hS hx35
          rintro _ κ w a ⟨rfl, hR, hN⟩ hF hS hO
          clear hR hN hO
          refine ⟨fun _ => ⟨_, (hS.selp [0, 3, 6] (by decide) (by kernel_rfl)).pick [0, 1, 2, 3, 4, 5] (by kernel_rfl)⟩, ?_⟩
          refine any_pure [1] [2, 3, 4, 5, 11, 13, 14, 44] (L' := [(2, .int .i64 (a7)), (3, .string (a8)), (4, .string (a9)), (5, .pointer (some ⟨b11, 0, none⟩)), (11, .pointer (some ⟨b18, 0, none⟩)), (13, .pointer (some ⟨b31, 0, none⟩)), (14, .int .i64 (x26.2)), (44, .bool (x35))]) (listed' := #[true, true, false, false, false, false, false, false, false, false, false, false, false, false, false, false, false, false, false, false, false, false, false, false, false, false, false, false, false, false, false, false, false, false, false, false, false, false]) (fuel := 36) hF ⟨_, (hS.selp [0, 3, 6] (by decide) (by kernel_rfl)).pick [0, 1, 2, 3, 4, 5] (by kernel_rfl)⟩ (by kernel_rfl) (by intro c a w t v h; cases t <;> exact h) (by kernel_rfl) rfl ?_
          clear hF
          intro a hF
          have hF := hF.boolv 44 (by kernel_rfl) hb36
          refine any_pure [2, 3, 4, 5] [2, 3, 4, 5, 11, 13, 48] (L' := [(2, .int .i64 (a7)), (3, .string (a8)), (4, .string (a9)), (5, .pointer (some ⟨b11, 0, none⟩)), (11, .pointer (some ⟨b18, 0, none⟩)), (13, .pointer (some ⟨b31, 0, none⟩)), (48, .bool ((x26.2 == 0)))]) (listed' := #[true, true, true, true, true, true, false, false, false, false, false, false, false, false, false, false, false, false, false, false, false, false, false, false, false, false, false, false, false, false, false, false, false, false, false, false, false, false]) (fuel := 32) hF ⟨_, (hS.selp [0, 3, 6] (by decide) (by kernel_rfl)).pick [0, 1, 2, 3, 4, 5] (by kernel_rfl)⟩ (by kernel_rfl) (by intro c a w t v h; cases t <;> exact h) (by kernel_rfl) rfl ?_
          clear hF
          intro a hF
          have hF := hF.boolv 48 (by kernel_rfl) hb37
          refine any_pure [6, 7, 8, 9, 10, 11, 12, 13, 14, 15, 16, 17, 18, 19, 20, 21, 22, 23, 24, 25, 26, 27, 28, 29, 30, 31, 32, 33, 34, 35, 36, 37] [10] (L' := [(10, .bool (false))]) (listed' := #[true, true, true, true, true, true, true, true, true, true, true, true, true, true, true, true, true, true, true, true, true, true, true, true, true, true, true, true, true, true, true, true, true, true, true, true, true, true]) (fuel := 0) hF ⟨_, (hS.selp [0, 3, 6] (by decide) (by kernel_rfl)).pick [0, 1, 2, 3, 4, 5] (by kernel_rfl)⟩ (by kernel_rfl) (by intro c a w t v h; cases t <;> exact h) (by kernel_rfl) rfl ?_
          clear hF
          intro a hF
          refine any_done (by kernel_rfl) ?_ _
          cases hv34
          exact ⟨_, hF.keep' [10] (by kernel_rfl), (hS.selp [] (by decide) (by kernel_rfl)).pick [] (by kernel_rfl), trivial⟩
      · refine any_go 0 (o := ⟨(some 43), (Go.Op.call (Go.Call.mk (Go.Callee.value (Go.Operand.func 29)) #[] #[])), 4, "law.go:94", #[], none⟩) hF rfl (by kernel_rfl) (by kernel_rfl) (listed' := #[true, false, false, false, false, false, false, false, false, false, false, false, false, false, false, false, false, false, false, false, false, false, false, false, false, false, false, false, false, false, false, false, false, false, false, false, false, false]) (by kernel_rfl) ?_
        refine wo_callP (args := #[]) (f := 29) hF hS (by kernel_rfl) (by kernel_rfl) (C_law08_awake N hS.fresh   ((hS.pick [] (by kernel_rfl)).ro) hx35) ?_
        clear hF hS hx35
        rintro _ κ w a ⟨rfl, hR, hN⟩ hF hS hO
        clear hR hN hO
        refine ⟨fun _ => ⟨_, (hS.selp [0, 3, 6] (by decide) (by kernel_rfl)).pick [0, 1, 2, 3, 4, 5] (by kernel_rfl)⟩, ?_⟩
        refine any_pure [1] [2, 3, 4, 5, 11, 13, 14, 44] (L' := [(2, .int .i64 (a7)), (3, .string (a8)), (4, .string (a9)), (5, .pointer (some ⟨b11, 0, none⟩)), (11, .pointer (some ⟨b18, 0, none⟩)), (13, .pointer (some ⟨b31, 0, none⟩)), (14, .int .i64 (x26.2)), (44, .bool (x35))]) (listed' := #[true, true, false, false, false, false, false, false, false, false, false, false, false, false, false, false, false, false, false, false, false, false, false, false, false, false, false, false, false, false, false, false, false, false, false, false, false, false]) (fuel := 36) hF ⟨_, (hS.selp [0, 3, 6] (by decide) (by kernel_rfl)).pick [0, 1, 2, 3, 4, 5] (by kernel_rfl)⟩ (by kernel_rfl) (by intro c a w t v h; cases t <;> exact h) (by kernel_rfl) rfl ?_
        clear hF
        intro a hF
        have hF := hF.boolv 44 (by kernel_rfl) hb36
        refine any_pure [2, 3, 4, 5, 6, 7, 8, 9, 10, 11, 12, 13, 14, 15, 16, 17, 18, 19, 20, 21, 22, 23, 24, 25, 26, 27, 28, 29, 30, 31, 32, 33, 34, 35, 36, 37] [10] (L' := [(10, .bool (false))]) (listed' := #[true, true, true, true, true, true, true, true, true, true, true, true, true, true, true, true, true, true, true, true, true, true, true, true, true, true, true, true, true, true, true, true, true, true, true, true, true, true]) (fuel := 0) hF ⟨_, (hS.selp [0, 3, 6] (by decide) (by kernel_rfl)).pick [0, 1, 2, 3, 4, 5] (by kernel_rfl)⟩ (by kernel_rfl) (by intro c a w t v h; cases t <;> exact h) (by kernel_rfl) rfl ?_
        clear hF
        intro a hF
        refine any_done (by kernel_rfl) ?_ _
        cases hv34
        exact ⟨_, hF.keep' [10] (by kernel_rfl), (hS.selp [] (by decide) (by kernel_rfl)).pick [] (by kernel_rfl), trivial⟩
    · clear hF hS hv34
      rintro a w ⟨κ, hF, hS, -⟩
      refine hK32 _ _ ?_
      clear hK32 K32
      refine wpIn_ret ?_
      cases H
      exact (ret_done hF hS (res1 Try.results7 (rv_tmp hF (by kernel_rfl))) ⟨rfl, (hS.pick [] (by kernel_rfl)).ro, hS.newC [] (by decide) (by kernel_rfl)⟩)
end Go.Cf
