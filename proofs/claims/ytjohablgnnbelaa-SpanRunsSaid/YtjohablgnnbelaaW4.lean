/- The walks: each function returns what its model says. Printed by a program of ours. -/
import Derived.Test.YtjohablgnnbelaaM4
import Derived.Test.YtjohablgnnbelaaW1
import Derived.Test.YtjohablgnnbelaaW2c
namespace Go.Cf
open Go Go.Proofs
set_option linter.unusedVariables false
set_option maxRecDepth 20000 in
set_option maxHeartbeats 1000000 in
theorem C_law08_awake (N : Nat) {κ0 : Gh} {w0 : World} (hfr : Fresh κ0 w0)   (hR : ∀ m ∈ ([] : List MP), m.p κ0 w0) {r : (Bool)} (H : M.law08_awake N  = some r) :
    Calls Try.prog 29 #[] w0 (Post [] κ0 w0 fun v κ w => v = .bool (r) ∧ (∀ m ∈ ([] : List MP), m.p κ w) ∧ NewC w0 κ w []) := by
  have hS := SS.start hfr hR
  clear hR
  refine enter (N := (21)) (L := []) Try.func29 rfl Try.ntmps29 (show 0 ≤ (21) by decide) rfl fun a hF => ?_
  unfold M.law08_awake at H
  refine wpIn_seq_k fun K1 hK1 => ?_
  refine wpIn_region_lit ?_
  refine wl_pure (L' := []) 1 [] hF (by kernel_rfl) ?_
  clear hF
  intro a hF
  refine wpListIn_nil ?_
  refine hK1 _ _ ?_
  clear hK1 K1
  refine wpIn_seq_k fun K2 hK2 => ?_
  refine wpIn_region_lit ?_
  refine bind_split H (fun x3 hx3 H => ?_)
  refine wl_cons rfl (wo_callP (args := #[.int .i64 (0)]) (f := 52) hF hS (by kernel_rfl) (by kernel_rfl) (C_span_Whole N hS.fresh 0  ((hS.pick [] (by kernel_rfl)).ro) hx3) ?_)
  clear hF hS hx3
  rintro _ κ w a ⟨p4, c5, p6, c7, rfl, hR, hN⟩ hF hS hO
  have hS := hS.adds hR
  have hS := hS.addC hO hN
  clear hR hN hO
  refine bind_split H (fun x8 hx8 H => ?_)
  refine wl_cons rfl (wo_callP (args := #[.agg (flat [(1, [.slice p4 (x3.Cuts).length c5]), (1, [.slice p6 (x3.Nodes).length c7])]).toArray, .int .i64 (2), .int .i64 (0), .string ((ByteArray.mk #[109]))]) (f := 42) hF hS (by kernel_rfl) (by kernel_rfl) (C_span_Split N hS.fresh (T_api_Map.mk x3.Cuts x3.Nodes) 2 0 (ByteArray.mk #[109]) p4 c5 p6 c7 ((hS.pick [0, 1] (by kernel_rfl)).ro) hx8) ?_)
  clear hF hS hx8
  rintro _ κ w a ⟨p9, c10, p11, c12, rfl, hR, hN⟩ hF hS hO
  have hS := hS.adds hR
  have hS := hS.addC hO hN
  clear hR hN hO
  refine wl_pure (L' := [(6, .agg (flat [(1, [.slice p9 (x8.1.Cuts).length c10]), (1, [.slice p11 (x8.1.Nodes).length c12])]).toArray), (7, .int .i64 (x8.2))]) 3 [6, 7] hF (by kernel_rfl) ?_
  clear hF
  intro a hF
  refine wl_cons rfl (wo_alloc hF hS (by kernel_rfl) (z := .agg (flat [(1, [.slice none 0 0]), (1, [.slice none 0 0])]).toArray) (s := [(1, [.slice none 0 0]), (1, [.slice none 0 0])]) rfl (by kernel_rfl) (sgV rfl (sgV rfl sgNil)).1 (by kernel_rfl) ?_)
  clear hF hS
  intro b13 a w hF hS
  refine wl_cons rfl (wo_stores hF hS (by kernel_rfl) 0 0 2 (v := .agg (flat [(1, [.slice p9 (x8.1.Cuts).length c10]), (1, [.slice p11 (x8.1.Nodes).length c12])]).toArray) (s' := [(1, [.slice p9 (x8.1.Cuts).length c10]), (1, [.slice p11 (x8.1.Nodes).length c12])]) (t := [(1, [.slice p9 (x8.1.Cuts).length c10]), (1, [.slice p11 (x8.1.Nodes).length c12])]) (C' := [.box b13 26 [(1, [.slice p9 (x8.1.Cuts).length c10]), (1, [.slice p11 (x8.1.Nodes).length c12])], .tok p9 9 1 (x8.1.Cuts).length c10, .tok p11 3 1 (x8.1.Nodes).length c12, .tok p4 9 1 (x3.Cuts).length c5, .tok p6 3 1 (x3.Nodes).length c7]) (n := 2) rfl rfl (by kernel_rfl) rfl (by kernel_rfl) (by kernel_rfl) (by kernel_rfl) (by kernel_rfl) (sgV rfl (sgV rfl sgNil)).1 (sgV rfl (sgV rfl sgNil)).2 (by kernel_rfl) (by kernel_rfl) (by kernel_rfl) ?_)
  clear hF hS
  intro a w hF hS
  refine wl_pure (L' := [(1, .pointer (some ⟨b13, 0, none⟩)), (2, .int .i64 (x8.2))]) 1 [1, 2] hF (by kernel_rfl) ?_
  clear hF
  intro a hF
  refine wpListIn_nil ?_
  refine hK2 _ _ ?_
  clear hK2 K2
  refine wpIn_seq_k fun K14 hK14 => ?_
  refine wpIn_region_lit ?_
  refine bind_split H (fun v16 hv16 H => ?_)
  refine wl_join (fun a w => ∃ κ : Gh, Fr (21) [] [(0, .bool (v16))] a ∧ SS [] κ0 w0 κ w [] [] ∧ True) ?_ ?_
  · clear H
    refine wl_pure (L' := [(1, .pointer (some ⟨b13, 0, none⟩)), (10, .bool ((x8.2 == 0)))]) 3 [1, 10] hF (by kernel_rfl) ?_
    clear hF
    intro a hF
    refine bif_split hv16 (fun hb hv16 => ?_) (fun hb hv16 => ?_)
    · have hF := hF.boolv 10 (by kernel_rfl) hb
      clear hb
      refine wl_pure (L' := [(1, .pointer (some ⟨b13, 0, none⟩)), (10, .bool (true)), (11, .pointer (some ⟨b13, 0, none⟩))]) 1 [1, 10, 11] hF (by kernel_rfl) ?_
      clear hF
      intro a hF
      refine wl_consg hF (by kernel_rfl) (wo_load hF hS (by kernel_rfl) 0 0 0 (v := .slice p9 (x8.1.Cuts).length c10) rfl rfl rfl rfl rfl (by kernel_rfl) (by kernel_rfl) ?_)
      clear hF
      intro a hF
      refine wl_pure (L' := [(1, .pointer (some ⟨b13, 0, none⟩)), (16, .bool ((((x8.1.Cuts).length : Int) == 1)))]) 4 [1, 16] hF (by kernel_rfl) ?_
      clear hF
      intro a hF
      refine bif_split hv16 (fun hb hv16 => ?_) (fun hb hv16 => ?_)
      · have hF := hF.boolv 16 (by kernel_rfl) hb
        clear hb
        refine wl_consg hF (by kernel_rfl) (wo_loads hF hS (by kernel_rfl) 0 0 2 (s' := [(1, [.slice p9 (x8.1.Cuts).length c10]), (1, [.slice p11 (x8.1.Nodes).length c12])]) (n := 2) rfl rfl rfl (by kernel_rfl) (by kernel_rfl) (by kernel_rfl) (by kernel_rfl) (by kernel_rfl) ?_)
        clear hF
        intro a hF
        refine bind_split hv16 (fun x17 hx17 hv16 => ?_)
        refine wl_consg hF (by kernel_rfl) (wo_callP (args := #[.agg (flat [(1, [.slice p9 (x8.1.Cuts).length c10]), (1, [.slice p11 (x8.1.Nodes).length c12])]).toArray, .string ((ByteArray.mk #[110]))]) (f := 36) hF hS (by kernel_rfl) (by kernel_rfl) (C_span_Find N hS.fresh (T_api_Map.mk x8.1.Cuts x8.1.Nodes) (ByteArray.mk #[110]) p9 c10 p11 c12 ((hS.pick [0, 1] (by kernel_rfl)).ro) hx17) ?_)
        clear hF hS hx17
        rintro _ κ w a ⟨rfl, hR, hN⟩ hF hS hO
        clear hR hN hO
        refine wl_pure (L' := [(0, .bool ((x17 == 1)))]) 3 [0] hF (by kernel_rfl) ?_
        clear hF
        intro a hF
        refine wpListIn_nil ?_
        cases hv16
        exact ⟨_, hF.keep' [0] (by kernel_rfl), (hS.selp [] (by decide) (by kernel_rfl)).pick [] (by kernel_rfl), trivial⟩
      · have hF := hF.boolv 16 (by kernel_rfl) hb
        clear hb
        refine wl_pure (L' := [(0, .bool (false))]) 5 [0] hF (by kernel_rfl) ?_
        clear hF
        intro a hF
        refine wpListIn_nil ?_
        cases hv16
        exact ⟨_, hF.keep' [0] (by kernel_rfl), (hS.selp [] (by decide) (by kernel_rfl)).pick [] (by kernel_rfl), trivial⟩
    · have hF := hF.boolv 10 (by kernel_rfl) hb
      clear hb
      refine wl_pure (L' := [(0, .bool (false))]) 11 [0] hF (by kernel_rfl) ?_
      clear hF
      intro a hF
      refine wpListIn_nil ?_
      cases hv16
      exact ⟨_, hF.keep' [0] (by kernel_rfl), (hS.selp [] (by decide) (by kernel_rfl)).pick [] (by kernel_rfl), trivial⟩
  · clear hF hS hv16
    rintro a w ⟨κ, hF, hS, -⟩
    refine hK14 _ _ ?_
    clear hK14 K14
    refine wpIn_ret ?_
    cases H
    exact (ret_done hF hS (res1 Try.results29 (rv_tmp hF (by kernel_rfl))) ⟨rfl, (hS.pick [] (by kernel_rfl)).ro, hS.newC [] (by decide) (by kernel_rfl)⟩)
set_option maxRecDepth 20000 in
set_option maxHeartbeats 1000000 in
theorem C_law08_SpanChecks (N : Nat) {κ0 : Gh} {w0 : World} (hfr : Fresh κ0 w0) (a1 : T_api_Map) (a6 : Int) (p2 : Option Addr) (c3 : Nat) (p4 : Option Addr) (c5 : Nat) (hR : ∀ m ∈ ([Ro.mp fStr.ty p2 c3 a1.Cuts, Ro.mp (fInt .i64).ty p4 c5 a1.Nodes] : List MP), m.p κ0 w0) {r : (Bool)} (H : M.law08_SpanChecks N a1 a6 = some r) :
    Calls Try.prog 4 #[.agg (flat [(1, [.slice p2 (a1.Cuts).length c3]), (1, [.slice p4 (a1.Nodes).length c5])]).toArray, .int .i64 (a6)] w0 (Post [] κ0 w0 fun v κ w => v = .bool (r) ∧ (∀ m ∈ ([] : List MP), m.p κ w) ∧ NewC w0 κ w []) := by
  have hS := SS.start hfr hR
  clear hR
  refine enter (N := (15)) (L := [(0, .agg (flat [(1, [.slice p2 (a1.Cuts).length c3]), (1, [.slice p4 (a1.Nodes).length c5])]).toArray), (1, .int .i64 (a6))]) Try.func4 rfl Try.ntmps4 (show 2 ≤ (15) by decide) rfl fun a hF => ?_
  unfold M.law08_SpanChecks at H
  refine wpIn_seq_k fun K7 hK7 => ?_
  refine wpIn_region_lit ?_
  refine wl_cons rfl (wo_box hF hS (by kernel_rfl) (v := .agg (flat [(1, [.slice p2 (a1.Cuts).length c3]), (1, [.slice p4 (a1.Nodes).length c5])]).toArray) (s := [(1, [.slice p2 (a1.Cuts).length c3]), (1, [.slice p4 (a1.Nodes).length c5])]) rfl (by kernel_rfl) (sgV rfl (sgV rfl sgNil)).1 (by kernel_rfl) ?_)
  clear hF hS
  intro b8 a w hF hS
  refine wl_pure (L' := [(1, .int .i64 (a6)), (2, .pointer (some ⟨b8, 0, none⟩))]) 1 [1, 2] hF (by kernel_rfl) ?_
  clear hF
  intro a hF
  refine wpListIn_nil ?_
  refine hK7 _ _ ?_
  clear hK7 K7
  refine wpIn_seq_k fun K9 hK9 => ?_
  refine bind_split H (fun v11 hv11 H => ?_)
  refine code_join (fun a w => ∃ κ : Gh, Fr (15) [] [(4, .bool (v11))] a ∧ SS [] κ0 w0 κ w [] [] ∧ True) ?_ ?_
  · clear H
    refine region_any (SSx [] κ0 w0 [.box b8 26 [(1, [.slice p2 (a1.Cuts).length c3]), (1, [.slice p4 (a1.Nodes).length c5])]] [Ro.mp fStr.ty p2 c3 a1.Cuts, Ro.mp (fInt .i64).ty p4 c5 a1.Nodes]) [] (by kernel_rfl) (n := 11) (by kernel_rfl) (l := #[false, false, false, false, false, false, false, false, false, false, false]) (by kernel_rfl) ?_
    have hS := hS.drew
    refine bind_split hv11 (fun x12 hx12 hv11 => ?_)
    refine bif_split hv11 (fun hb13 hv11 => ?_) (fun hb13 hv11 => ?_)
    · refine bind_split hv11 (fun x14 hx14 hv11 => ?_)
      refine bind_split hv11 (fun x15 hx15 hv11 => ?_)
      refine any_go 0 (o := ⟨(some 5), (Go.Op.call (Go.Call.mk (Go.Callee.value (Go.Operand.func 29)) #[] #[])), 4, "law.go:21", #[], none⟩) hF rfl (by kernel_rfl) (by kernel_rfl) (listed' := #[true, false, false, false, false, false, false, false, false, false, false]) (by kernel_rfl) ?_
      refine wo_callP (args := #[]) (f := 29) hF hS (by kernel_rfl) (by kernel_rfl) (C_law08_awake N hS.fresh   ((hS.pick [] (by kernel_rfl)).ro) hx12) ?_
      clear hF hS hx12
      rintro _ κ w a ⟨rfl, hR, hN⟩ hF hS hO
      clear hR hN hO
      refine ⟨fun _ => ⟨_, (hS.selp [0] (by decide) (by kernel_rfl)).pick [0, 1] (by kernel_rfl)⟩, ?_⟩
      refine any_pure [1] [1, 2, 6] (L' := [(1, .int .i64 (a6)), (2, .pointer (some ⟨b8, 0, none⟩)), (6, .bool (x12))]) (listed' := #[true, true, false, false, false, false, false, false, false, false, false]) (fuel := 9) hF ⟨_, (hS.selp [0] (by decide) (by kernel_rfl)).pick [0, 1] (by kernel_rfl)⟩ (by kernel_rfl) (by intro c a w t v h; cases t <;> exact h) (by kernel_rfl) rfl ?_
      clear hF
      intro a hF
      have hF := hF.boolv 6 (by kernel_rfl) hb13
      refine any_pure [3, 6] [2, 6, 8, 11] (L' := [(2, .pointer (some ⟨b8, 0, none⟩)), (6, .bool (true)), (8, .int .i64 (a6)), (11, .int .i64 (a6))]) (listed' := #[true, true, false, true, false, false, true, false, false, false, false]) (fuel := 7) hF ⟨_, (hS.selp [0] (by decide) (by kernel_rfl)).pick [0, 1] (by kernel_rfl)⟩ (by kernel_rfl) (by intro c a w t v h; cases t <;> exact h) (by kernel_rfl) rfl ?_
      clear hF
      intro a hF
      refine any_take 2 (some 7) hF ⟨_, (hS.selp [0] (by decide) (by kernel_rfl)).pick [0, 1] (by kernel_rfl)⟩ rfl (by kernel_rfl) (by kernel_rfl) (by intro c a w v h; exact h) (by kernel_rfl) (by kernel_rfl) (by kernel_rfl) rfl (val_loads 0 0 2 (s' := [(1, [.slice p2 (a1.Cuts).length c3]), (1, [.slice p4 (a1.Nodes).length c5])]) (n := 2) rfl rfl rfl (by kernel_rfl) (by kernel_rfl) (by kernel_rfl) (by kernel_rfl) (by kernel_rfl)) ?_
      clear hF
      intro a hF
      refine any_take 5 (some 10) hF ⟨_, (hS.selp [0] (by decide) (by kernel_rfl)).pick [0, 1] (by kernel_rfl)⟩ rfl (by kernel_rfl) (by kernel_rfl) (by intro c a w v h; exact h) (by kernel_rfl) (by kernel_rfl) (by kernel_rfl) rfl (val_loads 0 0 2 (s' := [(1, [.slice p2 (a1.Cuts).length c3]), (1, [.slice p4 (a1.Nodes).length c5])]) (n := 2) rfl rfl rfl (by kernel_rfl) (by kernel_rfl) (by kernel_rfl) (by kernel_rfl) (by kernel_rfl)) ?_
      clear hF
      intro a hF
      refine any_go 4 (o := ⟨(some 9), (Go.Op.call (Go.Call.mk (Go.Callee.value (Go.Operand.func 30)) #[(Go.Operand.tmp 7), (Go.Operand.tmp 8)] #[26, 3])), 31, "law.go:21", #[(Go.Edge.mk 2 Go.Ground.data), (Go.Edge.mk 3 Go.Ground.data), (Go.Edge.mk 1 Go.Ground.chain), (Go.Edge.mk 1 Go.Ground.guard)], (some (1, true))⟩) hF rfl (by kernel_rfl) (by kernel_rfl) (listed' := #[true, true, true, true, true, true, true, false, false, false, false]) (by kernel_rfl) ?_
      refine wo_callP (args := #[.agg (flat [(1, [.slice p2 (a1.Cuts).length c3]), (1, [.slice p4 (a1.Nodes).length c5])]).toArray, .int .i64 (a6)]) (f := 30) hF hS (by kernel_rfl) (by kernel_rfl) (C_span_Check N hS.fresh (T_api_Map.mk a1.Cuts a1.Nodes) a6 p2 c3 p4 c5 ((hS.pick [0, 1] (by kernel_rfl)).ro) hx14) ?_
      clear hF hS hx14
      rintro _ κ w a ⟨rfl, hR, hN⟩ hF hS hO
      clear hR hN hO
      refine ⟨fun _ => ⟨_, (hS.selp [0] (by decide) (by kernel_rfl)).pick [0, 1] (by kernel_rfl)⟩, ?_⟩
      refine any_go 7 (o := ⟨(some 12), (Go.Op.call (Go.Call.mk (Go.Callee.value (Go.Operand.func 31)) #[(Go.Operand.tmp 10), (Go.Operand.tmp 11)] #[26, 3])), 31, "law.go:21", #[(Go.Edge.mk 5 Go.Ground.data), (Go.Edge.mk 6 Go.Ground.data), (Go.Edge.mk 4 Go.Ground.chain), (Go.Edge.mk 1 Go.Ground.guard)], (some (1, true))⟩) hF rfl (by kernel_rfl) (by kernel_rfl) (listed' := #[true, true, true, true, true, true, true, true, false, false, false]) (by kernel_rfl) ?_
      refine wo_callP (args := #[.agg (flat [(1, [.slice p2 (a1.Cuts).length c3]), (1, [.slice p4 (a1.Nodes).length c5])]).toArray, .int .i64 (a6)]) (f := 31) hF hS (by kernel_rfl) (by kernel_rfl) (C_ref08_Check N hS.fresh (T_api_Map.mk a1.Cuts a1.Nodes) a6 p2 c3 p4 c5 ((hS.pick [0, 1] (by kernel_rfl)).ro) hx15) ?_
      clear hF hS hx15
      rintro _ κ w a ⟨rfl, hR, hN⟩ hF hS hO
      clear hR hN hO
      refine ⟨fun _ => ⟨_, (hS.selp [0] (by decide) (by kernel_rfl)).pick [0, 1] (by kernel_rfl)⟩, ?_⟩
      refine any_pure [8, 9, 10] [4] (L' := [(4, .bool ((x14 == x15)))]) (listed' := #[true, true, true, true, true, true, true, true, true, true, true]) (fuel := 0) hF ⟨_, (hS.selp [0] (by decide) (by kernel_rfl)).pick [0, 1] (by kernel_rfl)⟩ (by kernel_rfl) (by intro c a w t v h; cases t <;> exact h) (by kernel_rfl) rfl ?_
      clear hF
      intro a hF
      refine any_done (by kernel_rfl) ?_ _
      cases hv11
      exact ⟨_, hF.keep' [4] (by kernel_rfl), (hS.selp [] (by decide) (by kernel_rfl)).pick [] (by kernel_rfl), trivial⟩
    · refine any_go 0 (o := ⟨(some 5), (Go.Op.call (Go.Call.mk (Go.Callee.value (Go.Operand.func 29)) #[] #[])), 4, "law.go:21", #[], none⟩) hF rfl (by kernel_rfl) (by kernel_rfl) (listed' := #[true, false, false, false, false, false, false, false, false, false, false]) (by kernel_rfl) ?_
      refine wo_callP (args := #[]) (f := 29) hF hS (by kernel_rfl) (by kernel_rfl) (C_law08_awake N hS.fresh   ((hS.pick [] (by kernel_rfl)).ro) hx12) ?_
      clear hF hS hx12
      rintro _ κ w a ⟨rfl, hR, hN⟩ hF hS hO
      clear hR hN hO
      refine ⟨fun _ => ⟨_, (hS.selp [0] (by decide) (by kernel_rfl)).pick [0, 1] (by kernel_rfl)⟩, ?_⟩
      refine any_pure [1] [1, 2, 6] (L' := [(1, .int .i64 (a6)), (2, .pointer (some ⟨b8, 0, none⟩)), (6, .bool (x12))]) (listed' := #[true, true, false, false, false, false, false, false, false, false, false]) (fuel := 9) hF ⟨_, (hS.selp [0] (by decide) (by kernel_rfl)).pick [0, 1] (by kernel_rfl)⟩ (by kernel_rfl) (by intro c a w t v h; cases t <;> exact h) (by kernel_rfl) rfl ?_
      clear hF
      intro a hF
      have hF := hF.boolv 6 (by kernel_rfl) hb13
      refine any_pure [2, 3, 4, 5, 6, 7, 8, 9, 10] [4] (L' := [(4, .bool (false))]) (listed' := #[true, true, true, true, true, true, true, true, true, true, true]) (fuel := 0) hF ⟨_, (hS.selp [0] (by decide) (by kernel_rfl)).pick [0, 1] (by kernel_rfl)⟩ (by kernel_rfl) (by intro c a w t v h; cases t <;> exact h) (by kernel_rfl) rfl ?_
      clear hF
      intro a hF
      refine any_done (by kernel_rfl) ?_ _
      cases hv11
      exact ⟨_, hF.keep' [4] (by kernel_rfl), (hS.selp [] (by decide) (by kernel_rfl)).pick [] (by kernel_rfl), trivial⟩
  · clear hF hS hv11
    rintro a w ⟨κ, hF, hS, -⟩
    refine hK9 _ _ ?_
    clear hK9 K9
    refine wpIn_ret ?_
    cases H
    exact (ret_done hF hS (res1 Try.results4 (rv_tmp hF (by kernel_rfl))) ⟨rfl, (hS.pick [] (by kernel_rfl)).ro, hS.newC [] (by decide) (by kernel_rfl)⟩)
end Go.Cf
