/- The walks: each function returns what its model says. Printed by a program of ours. -/
import Derived.Test.YtjohablgnnbelaaM4p
import Derived.Test.YtjohablgnnbelaaW1
import Derived.Test.YtjohablgnnbelaaW2c
import Derived.Test.YtjohablgnnbelaaW4
namespace Go.Cf
open Go Go.Proofs
set_option linter.unusedVariables false
set_option maxRecDepth 20000 in
set_option maxHeartbeats 1000000 in
theorem C_law08_SpanParts (N : Nat) {κ0 : Gh} {w0 : World} (hfr : Fresh κ0 w0) (a1 : T_api_Map) (a6 : Int) (a7 : ByteArray) (p2 : Option Addr) (c3 : Nat) (p4 : Option Addr) (c5 : Nat) (hR : ∀ m ∈ ([Ro.mp fStr.ty p2 c3 a1.Cuts, Ro.mp (fInt .i64).ty p4 c5 a1.Nodes] : List MP), m.p κ0 w0) {r : (Bool)} (H : M.law08_SpanParts N a1 a6 a7 = some r) :
    Calls Try.prog 6 #[.agg (flat [(1, [.slice p2 (a1.Cuts).length c3]), (1, [.slice p4 (a1.Nodes).length c5])]).toArray, .int .i64 (a6), .string (a7)] w0 (Post [] κ0 w0 fun v κ w => v = .bool (r) ∧ (∀ m ∈ ([] : List MP), m.p κ w) ∧ NewC w0 κ w []) := by
  have hS := SS.start hfr hR
  clear hR
  refine enterM (N := (49)) (L := [(0, .agg (flat [(1, [.slice p2 (a1.Cuts).length c3]), (1, [.slice p4 (a1.Nodes).length c5])]).toArray), (1, .int .i64 (a6)), (2, .string (a7))]) Try.func6 rfl Try.ntmps6 (show 3 ≤ (49) by decide) rfl fun a hF => ?_
  unfold M.law08_SpanParts at H
  refine wpIn_seq_k fun K8 hK8 => ?_
  refine wpIn_region_lit ?_
  refine wl_cons rfl (wo_box hF hS (by kernel_rfl) (v := .agg (flat [(1, [.slice p2 (a1.Cuts).length c3]), (1, [.slice p4 (a1.Nodes).length c5])]).toArray) (s := [(1, [.slice p2 (a1.Cuts).length c3]), (1, [.slice p4 (a1.Nodes).length c5])]) rfl (by kernel_rfl) (sgV rfl (sgV rfl sgNil)).1 (by kernel_rfl) ?_)
  clear hF hS
  intro b9 a w hF hS
  refine wl_cons rfl (wo_box hF hS (by kernel_rfl) (v := .string (a7)) (s := [(1, [.string (a7)])]) rfl (by kernel_rfl) (sgV rfl sgNil).1 (by kernel_rfl) ?_)
  clear hF hS
  intro b10 a w hF hS
  refine wl_cons rfl (wo_alloc hF hS (by kernel_rfl) (z := .bool (false)) (s := [(1, [.bool (false)])]) rfl (by kernel_rfl) (sgV rfl sgNil).1 (by kernel_rfl) ?_)
  clear hF hS
  intro b11 a w hF hS
  refine wpListIn_nil ?_
  refine hK8 _ _ ?_
  clear hK8 K8
  refine wpIn_seq_k fun K12 hK12 => ?_
  refine wpIn_seq_k fun K13 hK13 => ?_
  refine wpIn_region_lit ?_
  refine bind_split H (fun x14 hx14 H => ?_)
  refine wl_cons rfl (wo_callP (args := #[]) (f := 29) hF hS (by kernel_rfl) (by kernel_rfl) (C_law08_awake N hS.fresh   ((hS.pick [] (by kernel_rfl)).ro) hx14) ?_)
  clear hF hS hx14
  rintro _ κ w a ⟨rfl, hR, hN⟩ hF hS hO
  clear hR hN hO
  refine wl_pure (L' := [(1, .int .i64 (a6)), (3, .pointer (some ⟨b9, 0, none⟩)), (5, .pointer (some ⟨b10, 0, none⟩)), (6, .pointer (some ⟨b11, 0, none⟩)), (12, .bool ((!x14)))]) 1 [1, 3, 5, 6, 12] hF (by kernel_rfl) ?_
  clear hF
  intro a hF
  refine wpListIn_nil ?_
  refine hK13 _ _ ?_
  clear hK13 K13
  refine bif_split H (fun hb H => ?_) (fun hb H => ?_)
  · refine cond_t hF (by kernel_rfl) hb ?_
    clear hb
    refine wpIn_seq_k fun K15 hK15 => ?_
    refine wpIn_region_lit ?_
    refine wl_cons rfl (wo_stores hF hS (by kernel_rfl) 0 0 1 (v := .bool (false)) (s' := [(1, [.bool (false)])]) (t := [(1, [.bool (false)])]) (C' := [.box b11 4 [(1, [.bool (false)])], .box b10 9 [(1, [.string (a7)])], .box b9 26 [(1, [.slice p2 (a1.Cuts).length c3]), (1, [.slice p4 (a1.Nodes).length c5])]]) (n := 1) rfl rfl (by kernel_rfl) rfl (by kernel_rfl) (by kernel_rfl) (by kernel_rfl) (by kernel_rfl) (sgV rfl sgNil).1 (sgV rfl sgNil).2 (by kernel_rfl) (by kernel_rfl) (by kernel_rfl) ?_)
    clear hF hS
    intro a w hF hS
    refine wpListIn_nil ?_
    refine hK15 _ _ ?_
    clear hK15 K15
    refine wpIn_ret ?_
    have hS' := hS
    cases H
    exact (ret_done0 hF hS (res1 Try.results6 (rv_cell hF hS' 0 0 0 rfl rfl rfl rfl (by kernel_rfl) (by kernel_rfl))) ⟨rfl, (hS.pick [] (by kernel_rfl)).ro, hS.newC [] (by decide) (by kernel_rfl)⟩)
  · refine cond_f hF (by kernel_rfl) hb ?_
    clear hb
    refine wpIn_skip ?_
    refine hK12 _ _ ?_
    refine wpIn_seq_k fun K16 hK16 => ?_
    refine wpIn_seq_k fun K17 hK17 => ?_
    refine wpIn_region_lit ?_
    refine wl_cons rfl (wo_loads hF hS (by kernel_rfl) 2 0 2 (s' := [(1, [.slice p2 (a1.Cuts).length c3]), (1, [.slice p4 (a1.Nodes).length c5])]) (n := 2) rfl rfl rfl (by kernel_rfl) (by kernel_rfl) (by kernel_rfl) (by kernel_rfl) (by kernel_rfl) ?_)
    clear hF
    intro a hF
    refine wl_pure (L' := [(3, .pointer (some ⟨b9, 0, none⟩)), (5, .pointer (some ⟨b10, 0, none⟩)), (6, .pointer (some ⟨b11, 0, none⟩)), (13, .agg (flat [(1, [.slice p2 (a1.Cuts).length c3]), (1, [.slice p4 (a1.Nodes).length c5])]).toArray), (14, .int .i64 (a6))]) 1 [3, 5, 6, 13, 14] hF (by kernel_rfl) ?_
    clear hF
    intro a hF
    refine bind_split H (fun x18 hx18 H => ?_)
    refine wl_cons rfl (wo_callP (args := #[.agg (flat [(1, [.slice p2 (a1.Cuts).length c3]), (1, [.slice p4 (a1.Nodes).length c5])]).toArray, .int .i64 (a6)]) (f := 30) hF hS (by kernel_rfl) (by kernel_rfl) (C_span_Check N hS.fresh (T_api_Map.mk a1.Cuts a1.Nodes) a6 p2 c3 p4 c5 ((hS.pick [0, 1] (by kernel_rfl)).ro) hx18) ?_)
    clear hF hS hx18
    rintro _ κ w a ⟨rfl, hR, hN⟩ hF hS hO
    clear hR hN hO
    refine wl_pure (L' := [(3, .pointer (some ⟨b9, 0, none⟩)), (5, .pointer (some ⟨b10, 0, none⟩)), (6, .pointer (some ⟨b11, 0, none⟩)), (16, .bool ((x18 != 0)))]) 1 [3, 5, 6, 16] hF (by kernel_rfl) ?_
    clear hF
    intro a hF
    refine wpListIn_nil ?_
    refine hK17 _ _ ?_
    clear hK17 K17
    refine bif_split H (fun hb H => ?_) (fun hb H => ?_)
    · refine cond_t hF (by kernel_rfl) hb ?_
      clear hb
      refine wpIn_seq_k fun K19 hK19 => ?_
      refine wpIn_region_lit ?_
      refine bind_split H (fun x20 hx20 H => ?_)
      refine wl_cons rfl (wo_callP (args := #[]) (f := 29) hF hS (by kernel_rfl) (by kernel_rfl) (C_law08_awake N hS.fresh   ((hS.pick [] (by kernel_rfl)).ro) hx20) ?_)
      clear hF hS hx20
      rintro _ κ w a ⟨rfl, hR, hN⟩ hF hS hO
      clear hR hN hO
      refine wl_cons rfl (wo_stores hF hS (by kernel_rfl) 0 0 1 (v := .bool (x20)) (s' := [(1, [.bool (x20)])]) (t := [(1, [.bool (x20)])]) (C' := [.box b11 4 [(1, [.bool (x20)])], .box b10 9 [(1, [.string (a7)])], .box b9 26 [(1, [.slice p2 (a1.Cuts).length c3]), (1, [.slice p4 (a1.Nodes).length c5])]]) (n := 1) rfl rfl (by kernel_rfl) rfl (by kernel_rfl) (by kernel_rfl) (by kernel_rfl) (by kernel_rfl) (sgV rfl sgNil).1 (sgV rfl sgNil).2 (by kernel_rfl) (by kernel_rfl) (by kernel_rfl) ?_)
      clear hF hS
      intro a w hF hS
      refine wpListIn_nil ?_
      refine hK19 _ _ ?_
      clear hK19 K19
      refine wpIn_ret ?_
      have hS' := hS
      cases H
      exact (ret_done0 hF hS (res1 Try.results6 (rv_cell hF hS' 0 0 0 rfl rfl rfl rfl (by kernel_rfl) (by kernel_rfl))) ⟨rfl, (hS.pick [] (by kernel_rfl)).ro, hS.newC [] (by decide) (by kernel_rfl)⟩)
    · refine cond_f hF (by kernel_rfl) hb ?_
      clear hb
      refine wpIn_skip ?_
      refine hK16 _ _ ?_
      refine wpIn_seq_k fun K21 hK21 => ?_
      refine wpIn_region_lit ?_
      refine wl_cons rfl (wo_alloc hF hS (by kernel_rfl) (z := .int .i64 (0)) (s := [(1, [.int .i64 (0)])]) rfl (by kernel_rfl) (sgV rfl sgNil).1 (by kernel_rfl) ?_)
      clear hF hS
      intro b22 a w hF hS
      refine wl_cons rfl (wo_alloc hF hS (by kernel_rfl) (z := .int .i64 (0)) (s := [(1, [.int .i64 (0)])]) rfl (by kernel_rfl) (sgV rfl sgNil).1 (by kernel_rfl) ?_)
      clear hF hS
      intro b23 a w hF hS
      refine wl_cons rfl (wo_stores hF hS (by kernel_rfl) 1 0 1 (v := .int .i64 (0)) (s' := [(1, [.int .i64 (0)])]) (t := [(1, [.int .i64 (0)])]) (C' := [.box b23 3 [(1, [.int .i64 (0)])], .box b22 3 [(1, [.int .i64 (0)])], .box b11 4 [(1, [.bool (false)])], .box b10 9 [(1, [.string (a7)])], .box b9 26 [(1, [.slice p2 (a1.Cuts).length c3]), (1, [.slice p4 (a1.Nodes).length c5])]]) (n := 1) rfl rfl (by kernel_rfl) rfl (by kernel_rfl) (by kernel_rfl) (by kernel_rfl) (by kernel_rfl) (sgV rfl sgNil).1 (sgV rfl sgNil).2 (by kernel_rfl) (by kernel_rfl) (by kernel_rfl) ?_)
      clear hF hS
      intro a w hF hS
      refine wl_cons rfl (wo_stores hF hS (by kernel_rfl) 0 0 1 (v := .int .i64 ((-1))) (s' := [(1, [.int .i64 ((-1))])]) (t := [(1, [.int .i64 ((-1))])]) (C' := [.box b23 3 [(1, [.int .i64 ((-1))])], .box b22 3 [(1, [.int .i64 (0)])], .box b11 4 [(1, [.bool (false)])], .box b10 9 [(1, [.string (a7)])], .box b9 26 [(1, [.slice p2 (a1.Cuts).length c3]), (1, [.slice p4 (a1.Nodes).length c5])]]) (n := 1) rfl rfl (by kernel_rfl) rfl (by kernel_rfl) (by kernel_rfl) (by kernel_rfl) (by kernel_rfl) (sgV rfl sgNil).1 (sgV rfl sgNil).2 (by kernel_rfl) (by kernel_rfl) (by kernel_rfl) ?_)
      clear hF hS
      intro a w hF hS
      refine wpListIn_nil ?_
      refine hK21 _ _ ?_
      clear hK21 K21
      refine wpIn_seq_k fun K24 hK24 => ?_
      refine wpIn_seq_k fun K25 hK25 => ?_
      refine wpIn_region_lit ?_
      refine wl_cons rfl (wo_loads hF hS (by kernel_rfl) 4 0 2 (s' := [(1, [.slice p2 (a1.Cuts).length c3]), (1, [.slice p4 (a1.Nodes).length c5])]) (n := 2) rfl rfl rfl (by kernel_rfl) (by kernel_rfl) (by kernel_rfl) (by kernel_rfl) (by kernel_rfl) ?_)
      clear hF
      intro a hF
      refine bind_split H (fun x26 hx26 H => ?_)
      refine wl_cons rfl (wo_callP (args := #[.agg (flat [(1, [.slice p2 (a1.Cuts).length c3]), (1, [.slice p4 (a1.Nodes).length c5])]).toArray]) (f := 35) hF hS (by kernel_rfl) (by kernel_rfl) (C_span_Shards N hS.fresh (T_api_Map.mk a1.Cuts a1.Nodes) p2 c3 p4 c5 ((hS.pick [0, 1] (by kernel_rfl)).ro) hx26) ?_)
      clear hF hS hx26
      rintro _ κ w a ⟨b27, rfl, hR, hN⟩ hF hS hO
      have hS := hS.addC hO hN
      clear hR hN hO
      refine wpListIn_nil ?_
      refine hK25 _ _ ?_
      clear hK25 K25
      refine wpIn_block ?_
      refine bind_split H (fun v92 hv92 H => ?_)
      have hS : SS [] κ0 w0 _ _ [.box b23 3 [(1, [.int .i64 ((-1))])], .box b22 3 [(1, [.int .i64 (0)])], .box b11 4 [(1, [.bool (false)])], .box b10 9 [(1, [.string (a7)])], .box b9 26 [(1, [.slice p2 (a1.Cuts).length c3]), (1, [.slice p4 (a1.Nodes).length c5])], .box b27 26 [(1, [.slice p2 (a1.Cuts).length c3]), (1, [.slice p4 (a1.Nodes).length c5])]] _ := hS.selp [1, 2, 3, 4, 5, 0] (by decide) (by kernel_rfl)
      refine wp_range' (C := [.box b23 3 [(1, [.int .i64 ((-1))])], .box b22 3 [(1, [.int .i64 (0)])], .box b11 4 [(1, [.bool (false)])], .box b10 9 [(1, [.string (a7)])], .box b9 26 [(1, [.slice p2 (a1.Cuts).length c3]), (1, [.slice p4 (a1.Nodes).length c5])]]) (Cap := [.box b27 26 [(1, [.slice p2 (a1.Cuts).length c3]), (1, [.slice p4 (a1.Nodes).length c5])]]) (R' := [Ro.mp fStr.ty p2 c3 a1.Cuts, Ro.mp (fInt .i64).ty p4 c5 a1.Nodes]) (caps := #[.pointer (some ⟨b27, 0, none⟩)]) (f := 80) [.ret] (fun l => #[.func (.yield l) #[] #[], .pointer (some ⟨b27, 0, none⟩)]) hF hS (by kernel_rfl) (fun _ _ => rfl) ((hS.pick [0, 1] (by kernel_rfl)).ro) (fun l => by kernel_rfl) ?_
      intro r l rc w hrc hS
      refine ⟨fun x => (fun (v82 : (Int × Int × Nat)) (x : XF) => x = mkX r l (lp rc [.ret] v82.2.2) [.box b23 3 [(1, [.int .i64 (v82.1)])], .box b22 3 [(1, [.int .i64 (v82.2.1)])], .box b11 4 [(1, [.bool (false)])], .box b10 9 [(1, [.string (a7)])], .box b9 26 [(1, [.slice p2 (a1.Cuts).length c3]), (1, [.slice p4 (a1.Nodes).length c5])]] [Ro.mp fStr.ty p2 c3 a1.Cuts, Ro.mp (fInt .i64).ty p4 c5 a1.Nodes]) v92 x, ?_, ?_⟩
      · have hS := (hS.rebase.add (m := MP.const ((fun (v82 : (Int × Int × Nat)) (x : XF) => x = mkX r l (lp rc [.ret] v82.2.2) [.box b23 3 [(1, [.int .i64 (v82.1)])], .box b22 3 [(1, [.int .i64 (v82.2.1)])], .box b11 4 [(1, [.bool (false)])], .box b10 9 [(1, [.string (a7)])], .box b9 26 [(1, [.slice p2 (a1.Cuts).length c3]), (1, [.slice p4 (a1.Nodes).length c5])]] [Ro.mp fStr.ty p2 c3 a1.Cuts, Ro.mp (fInt .i64).ty p4 c5 a1.Nodes]) ((-1), 0, 0) (mkX r l (lp rc [.ret] 0) [.box b23 3 [(1, [.int .i64 ((-1))])], .box b22 3 [(1, [.int .i64 (0)])], .box b11 4 [(1, [.bool (false)])], .box b10 9 [(1, [.string (a7)])], .box b9 26 [(1, [.slice p2 (a1.Cuts).length c3]), (1, [.slice p4 (a1.Nodes).length c5])]] [Ro.mp fStr.ty p2 c3 a1.Cuts, Ro.mp (fInt .i64).ty p4 c5 a1.Nodes]))) rfl).pick (R' := [Ro.mp fStr.ty p2 c3 a1.Cuts, Ro.mp (fInt .i64).ty p4 c5 a1.Nodes, MP.const ((fun (v82 : (Int × Int × Nat)) (x : XF) => x = mkX r l (lp rc [.ret] v82.2.2) [.box b23 3 [(1, [.int .i64 (v82.1)])], .box b22 3 [(1, [.int .i64 (v82.2.1)])], .box b11 4 [(1, [.bool (false)])], .box b10 9 [(1, [.string (a7)])], .box b9 26 [(1, [.slice p2 (a1.Cuts).length c3]), (1, [.slice p4 (a1.Nodes).length c5])]] [Ro.mp fStr.ty p2 c3 a1.Cuts, Ro.mp (fInt .i64).ty p4 c5 a1.Nodes]) ((-1), 0, 0) (mkX r l (lp rc [.ret] 0) [.box b23 3 [(1, [.int .i64 ((-1))])], .box b22 3 [(1, [.int .i64 (0)])], .box b11 4 [(1, [.bool (false)])], .box b10 9 [(1, [.string (a7)])], .box b9 26 [(1, [.slice p2 (a1.Cuts).length c3]), (1, [.slice p4 (a1.Nodes).length c5])]] [Ro.mp fStr.ty p2 c3 a1.Cuts, Ro.mp (fInt .i64).ty p4 c5 a1.Nodes]))]) [1, 2, 0] (by kernel_rfl)
        refine C_span_Shards_1 N (Y := (fun (v82 : (Int × Int × Nat)) (x : XF) => x = mkX r l (lp rc [.ret] v82.2.2) [.box b23 3 [(1, [.int .i64 (v82.1)])], .box b22 3 [(1, [.int .i64 (v82.2.1)])], .box b11 4 [(1, [.bool (false)])], .box b10 9 [(1, [.string (a7)])], .box b9 26 [(1, [.slice p2 (a1.Cuts).length c3]), (1, [.slice p4 (a1.Nodes).length c5])]] [Ro.mp fStr.ty p2 c3 a1.Cuts, Ro.mp (fInt .i64).ty p4 c5 a1.Nodes])) (B := (fun (v82 : (Int × Int × Nat)) x28 x29 => bif (v82.2.2 == 0) then (Option.bind (M.span_Within N a7 x29.Lo x29.Hi) fun x86 => (bif x86 then (Option.bind (M.span_Find N (T_api_Map.mk a1.Cuts a1.Nodes) a7) fun x90 => (bif (x28 != x90) then (some (((x29.Node, IntKind.i64.wrap (v82.2.1 + 1), 1)), false)) else (some (((x29.Node, IntKind.i64.wrap (v82.2.1 + 1), 0)), true)))) else (some (((v82.1, v82.2.1, 0)), true)))) else none)) (l := l) ?_ (T_api_Map.mk a1.Cuts a1.Nodes) p2 c3 p4 c5 hS hv92
        clear hS H hv92
        rintro v82 _ κ w x28 x29  s' c rfl hp hf hnd hlt hR H
        refine bif_split H (fun hn H => ?_) (fun _ H => by cases H)
        · refine round_at (L := [(3, .pointer (some ⟨b9, 0, none⟩)), (5, .pointer (some ⟨b10, 0, none⟩)), (6, .pointer (some ⟨b11, 0, none⟩)), (7, .pointer (some ⟨b22, 0, none⟩)), (8, .pointer (some ⟨b23, 0, none⟩)), (20, .int .i64 (x28)), (21, .agg (flat [(1, [.string (x29.Lo)]), (1, [.string (x29.Hi)]), (1, [.int .i64 (x29.Node)])]).toArray)]) hp hf hnd hlt hn hrc rfl [3, 5, 6, 7, 8, 20, 21] hF (by kernel_rfl) (by kernel_rfl) ?_
          clear hF hp hf hnd hlt hn
          intro a hF hS
          have hS := hS.adds hR
          clear hR
          skip
          refine wpIn_seq_k fun K83 hK83 => ?_
          refine wpIn_region_lit ?_
          refine wl_pure (L' := [(3, .pointer (some ⟨b9, 0, none⟩)), (5, .pointer (some ⟨b10, 0, none⟩)), (6, .pointer (some ⟨b11, 0, none⟩)), (7, .pointer (some ⟨b22, 0, none⟩)), (8, .pointer (some ⟨b23, 0, none⟩)), (9, .int .i64 (x28)), (21, .agg (flat [(1, [.string (x29.Lo)]), (1, [.string (x29.Hi)]), (1, [.int .i64 (x29.Node)])]).toArray)]) 1 [3, 5, 6, 7, 8, 9, 21] hF (by kernel_rfl) ?_
          clear hF
          intro a hF
          refine wpListIn_nil ?_
          refine hK83 _ _ ?_
          clear hK83 K83
          refine wpIn_region_lit ?_
          refine wl_cons rfl (wo_alloc hF hS (by kernel_rfl) (z := .agg (flat [(1, [.string (ByteArray.empty)]), (1, [.string (ByteArray.empty)]), (1, [.int .i64 (0)])]).toArray) (s := [(1, [.string (ByteArray.empty)]), (1, [.string (ByteArray.empty)]), (1, [.int .i64 (0)])]) rfl (by kernel_rfl) (sgV rfl (sgV rfl (sgV rfl sgNil))).1 (by kernel_rfl) ?_)
          clear hF hS
          intro b84 a w hF hS
          refine wl_cons rfl (wo_stores hF hS (by kernel_rfl) 0 0 3 (v := .agg (flat [(1, [.string (x29.Lo)]), (1, [.string (x29.Hi)]), (1, [.int .i64 (x29.Node)])]).toArray) (s' := [(1, [.string (x29.Lo)]), (1, [.string (x29.Hi)]), (1, [.int .i64 (x29.Node)])]) (t := [(1, [.string (x29.Lo)]), (1, [.string (x29.Hi)]), (1, [.int .i64 (x29.Node)])]) (C' := [.box b84 46 [(1, [.string (x29.Lo)]), (1, [.string (x29.Hi)]), (1, [.int .i64 (x29.Node)])], .box b23 3 [(1, [.int .i64 (v82.1)])], .box b22 3 [(1, [.int .i64 (v82.2.1)])], .box b11 4 [(1, [.bool (false)])], .box b10 9 [(1, [.string (a7)])], .box b9 26 [(1, [.slice p2 (a1.Cuts).length c3]), (1, [.slice p4 (a1.Nodes).length c5])]]) (n := 3) rfl rfl (by kernel_rfl) rfl (by kernel_rfl) (by kernel_rfl) (by kernel_rfl) (by kernel_rfl) (sgV rfl (sgV rfl (sgV rfl sgNil))).1 (sgV rfl (sgV rfl (sgV rfl sgNil))).2 (by kernel_rfl) (by kernel_rfl) (by kernel_rfl) ?_)
          clear hF hS
          intro a w hF hS
          refine wpListIn_nil ?_
          refine ⟨_, _, _, hS, fun wb hS => ?_⟩
          obtain ⟨κb, hκb⟩ : ∃ κb, κb = κ := ⟨_, rfl⟩
          subst hκb
          refine wpIn_block ?_
          refine wpIn_seq_k fun K85 hK85 => ?_
          refine wpIn_region_lit ?_
          refine wl_cons rfl (wo_load hF hS (by kernel_rfl) 4 0 0 (v := .string (a7)) rfl rfl rfl rfl rfl (by kernel_rfl) (by kernel_rfl) ?_)
          clear hF
          intro a hF
          refine wl_pure (L' := [(3, .pointer (some ⟨b9, 0, none⟩)), (5, .pointer (some ⟨b10, 0, none⟩)), (6, .pointer (some ⟨b11, 0, none⟩)), (7, .pointer (some ⟨b22, 0, none⟩)), (8, .pointer (some ⟨b23, 0, none⟩)), (9, .int .i64 (x28)), (10, .pointer (some ⟨b84, 0, none⟩)), (22, .string (a7)), (23, .pointer (some ⟨b84, 0, none⟩))]) 1 [3, 5, 6, 7, 8, 9, 10, 22, 23] hF (by kernel_rfl) ?_
          clear hF
          intro a hF
          refine wl_cons rfl (wo_load hF hS (by kernel_rfl) 0 0 0 (v := .string (x29.Lo)) rfl rfl rfl rfl rfl (by kernel_rfl) (by kernel_rfl) ?_)
          clear hF
          intro a hF
          refine wl_pure (L' := [(3, .pointer (some ⟨b9, 0, none⟩)), (5, .pointer (some ⟨b10, 0, none⟩)), (6, .pointer (some ⟨b11, 0, none⟩)), (7, .pointer (some ⟨b22, 0, none⟩)), (8, .pointer (some ⟨b23, 0, none⟩)), (9, .int .i64 (x28)), (10, .pointer (some ⟨b84, 0, none⟩)), (22, .string (a7)), (24, .string (x29.Lo)), (25, .pointer (some ⟨b84, 1, none⟩))]) 1 [3, 5, 6, 7, 8, 9, 10, 22, 24, 25] hF (by kernel_rfl) ?_
          clear hF
          intro a hF
          refine wl_cons rfl (wo_load hF hS (by kernel_rfl) 0 1 0 (v := .string (x29.Hi)) rfl rfl rfl rfl rfl (by kernel_rfl) (by kernel_rfl) ?_)
          clear hF
          intro a hF
          refine bind_split H (fun x86 hx86 H => ?_)
          refine wl_cons rfl (wo_callP (args := #[.string (a7), .string (x29.Lo), .string (x29.Hi)]) (f := 40) hF hS (by kernel_rfl) (by kernel_rfl) (C_span_Within N hS.fresh a7 x29.Lo x29.Hi  ((hS.pick [] (by kernel_rfl)).ro) hx86) ?_)
          clear hF hS hx86
          rintro _ κ w a ⟨rfl, hR, hN⟩ hF hS hO
          clear hR hN hO
          refine wpListIn_nil ?_
          refine hK85 _ _ ?_
          clear hK85 K85
          refine bif_split H (fun hb H => ?_) (fun hb H => ?_)
          · refine cond_t hF (by kernel_rfl) hb ?_
            clear hb
            refine wpIn_seq_k fun K87 hK87 => ?_
            refine wpIn_region_lit ?_
            refine wl_cons rfl (wo_load hF hS (by kernel_rfl) 2 0 0 (v := .int .i64 (v82.2.1)) rfl rfl rfl rfl rfl (by kernel_rfl) (by kernel_rfl) ?_)
            clear hF
            intro a hF
            refine wl_pure (L' := [(3, .pointer (some ⟨b9, 0, none⟩)), (5, .pointer (some ⟨b10, 0, none⟩)), (6, .pointer (some ⟨b11, 0, none⟩)), (7, .pointer (some ⟨b22, 0, none⟩)), (8, .pointer (some ⟨b23, 0, none⟩)), (9, .int .i64 (x28)), (10, .pointer (some ⟨b84, 0, none⟩)), (29, .int .i64 (IntKind.i64.wrap (v82.2.1 + 1)))]) 1 [3, 5, 6, 7, 8, 9, 10, 29] hF (by kernel_rfl) ?_
            clear hF
            intro a hF
            refine wl_cons rfl (wo_stores hF hS (by kernel_rfl) 2 0 1 (v := .int .i64 (IntKind.i64.wrap (v82.2.1 + 1))) (s' := [(1, [.int .i64 (IntKind.i64.wrap (v82.2.1 + 1))])]) (t := [(1, [.int .i64 (IntKind.i64.wrap (v82.2.1 + 1))])]) (C' := [.box b84 46 [(1, [.string (x29.Lo)]), (1, [.string (x29.Hi)]), (1, [.int .i64 (x29.Node)])], .box b23 3 [(1, [.int .i64 (v82.1)])], .box b22 3 [(1, [.int .i64 (IntKind.i64.wrap (v82.2.1 + 1))])], .box b11 4 [(1, [.bool (false)])], .box b10 9 [(1, [.string (a7)])], .box b9 26 [(1, [.slice p2 (a1.Cuts).length c3]), (1, [.slice p4 (a1.Nodes).length c5])]]) (n := 1) rfl rfl (by kernel_rfl) rfl (by kernel_rfl) (by kernel_rfl) (by kernel_rfl) (by kernel_rfl) (sgV rfl sgNil).1 (sgV rfl sgNil).2 (by kernel_rfl) (by kernel_rfl) (by kernel_rfl) ?_)
            clear hF hS
            intro a w hF hS
            refine wpListIn_nil ?_
            refine hK87 _ _ ?_
            clear hK87 K87
            refine wpIn_seq_k fun K88 hK88 => ?_
            refine wpIn_region_lit ?_
            refine wl_pure (L' := [(3, .pointer (some ⟨b9, 0, none⟩)), (5, .pointer (some ⟨b10, 0, none⟩)), (6, .pointer (some ⟨b11, 0, none⟩)), (7, .pointer (some ⟨b22, 0, none⟩)), (8, .pointer (some ⟨b23, 0, none⟩)), (9, .int .i64 (x28)), (30, .pointer (some ⟨b84, 2, none⟩))]) 1 [3, 5, 6, 7, 8, 9, 30] hF (by kernel_rfl) ?_
            clear hF
            intro a hF
            refine wl_cons rfl (wo_load hF hS (by kernel_rfl) 0 2 0 (v := .int .i64 (x29.Node)) rfl rfl rfl rfl rfl (by kernel_rfl) (by kernel_rfl) ?_)
            clear hF
            intro a hF
            refine wl_cons rfl (wo_stores hF hS (by kernel_rfl) 1 0 1 (v := .int .i64 (x29.Node)) (s' := [(1, [.int .i64 (x29.Node)])]) (t := [(1, [.int .i64 (x29.Node)])]) (C' := [.box b84 46 [(1, [.string (x29.Lo)]), (1, [.string (x29.Hi)]), (1, [.int .i64 (x29.Node)])], .box b23 3 [(1, [.int .i64 (x29.Node)])], .box b22 3 [(1, [.int .i64 (IntKind.i64.wrap (v82.2.1 + 1))])], .box b11 4 [(1, [.bool (false)])], .box b10 9 [(1, [.string (a7)])], .box b9 26 [(1, [.slice p2 (a1.Cuts).length c3]), (1, [.slice p4 (a1.Nodes).length c5])]]) (n := 1) rfl rfl (by kernel_rfl) rfl (by kernel_rfl) (by kernel_rfl) (by kernel_rfl) (by kernel_rfl) (sgV rfl sgNil).1 (sgV rfl sgNil).2 (by kernel_rfl) (by kernel_rfl) (by kernel_rfl) ?_)
            clear hF hS
            intro a w hF hS
            refine wpListIn_nil ?_
            refine hK88 _ _ ?_
            clear hK88 K88
            refine wpIn_seq_k fun K89 hK89 => ?_
            refine wpIn_region_lit ?_
            refine wl_pure (L' := [(3, .pointer (some ⟨b9, 0, none⟩)), (5, .pointer (some ⟨b10, 0, none⟩)), (6, .pointer (some ⟨b11, 0, none⟩)), (7, .pointer (some ⟨b22, 0, none⟩)), (8, .pointer (some ⟨b23, 0, none⟩)), (32, .int .i64 (x28))]) 1 [3, 5, 6, 7, 8, 32] hF (by kernel_rfl) ?_
            clear hF
            intro a hF
            refine wl_cons rfl (wo_loads hF hS (by kernel_rfl) 5 0 2 (s' := [(1, [.slice p2 (a1.Cuts).length c3]), (1, [.slice p4 (a1.Nodes).length c5])]) (n := 2) rfl rfl rfl (by kernel_rfl) (by kernel_rfl) (by kernel_rfl) (by kernel_rfl) (by kernel_rfl) ?_)
            clear hF
            intro a hF
            refine wl_cons rfl (wo_load hF hS (by kernel_rfl) 4 0 0 (v := .string (a7)) rfl rfl rfl rfl rfl (by kernel_rfl) (by kernel_rfl) ?_)
            clear hF
            intro a hF
            refine bind_split H (fun x90 hx90 H => ?_)
            refine wl_cons rfl (wo_callP (args := #[.agg (flat [(1, [.slice p2 (a1.Cuts).length c3]), (1, [.slice p4 (a1.Nodes).length c5])]).toArray, .string (a7)]) (f := 36) hF hS (by kernel_rfl) (by kernel_rfl) (C_span_Find N hS.fresh (T_api_Map.mk a1.Cuts a1.Nodes) a7 p2 c3 p4 c5 ((hS.pick [0, 1] (by kernel_rfl)).ro) hx90) ?_)
            clear hF hS hx90
            rintro _ κ w a ⟨rfl, hR, hN⟩ hF hS hO
            clear hR hN hO
            refine wl_pure (L' := [(3, .pointer (some ⟨b9, 0, none⟩)), (5, .pointer (some ⟨b10, 0, none⟩)), (6, .pointer (some ⟨b11, 0, none⟩)), (7, .pointer (some ⟨b22, 0, none⟩)), (8, .pointer (some ⟨b23, 0, none⟩)), (36, .bool ((x28 != x90)))]) 1 [3, 5, 6, 7, 8, 36] hF (by kernel_rfl) ?_
            clear hF
            intro a hF
            refine wpListIn_nil ?_
            refine hK89 _ _ ?_
            clear hK89 K89
            refine bif_split H (fun hb H => ?_) (fun hb H => ?_)
            · refine cond_t hF (by kernel_rfl) hb ?_
              clear hb
              refine wpIn_seq_k fun K91 hK91 => ?_
              refine wpIn_region_lit ?_
              refine wl_cons rfl (wo_stores hF hS (by kernel_rfl) 3 0 1 (v := .bool (false)) (s' := [(1, [.bool (false)])]) (t := [(1, [.bool (false)])]) (C' := [.box b84 46 [(1, [.string (x29.Lo)]), (1, [.string (x29.Hi)]), (1, [.int .i64 (x29.Node)])], .box b23 3 [(1, [.int .i64 (x29.Node)])], .box b22 3 [(1, [.int .i64 (IntKind.i64.wrap (v82.2.1 + 1))])], .box b11 4 [(1, [.bool (false)])], .box b10 9 [(1, [.string (a7)])], .box b9 26 [(1, [.slice p2 (a1.Cuts).length c3]), (1, [.slice p4 (a1.Nodes).length c5])]]) (n := 1) rfl rfl (by kernel_rfl) rfl (by kernel_rfl) (by kernel_rfl) (by kernel_rfl) (by kernel_rfl) (sgV rfl sgNil).1 (sgV rfl sgNil).2 (by kernel_rfl) (by kernel_rfl) (by kernel_rfl) ?_)
              clear hF hS
              intro a w hF hS
              refine wpListIn_nil ?_
              refine hK91 _ _ ?_
              clear hK91 K91
              refine wpIn_ret ?_
              cases H
              try dsimp only [Exit.inBlock, Exit.then]
              refine re_ret [.ret] 0 rfl (C := [.box b23 3 [(1, [.int .i64 (x29.Node)])], .box b22 3 [(1, [.int .i64 (IntKind.i64.wrap (v82.2.1 + 1))])], .box b11 4 [(1, [.bool (false)])], .box b10 9 [(1, [.string (a7)])], .box b9 26 [(1, [.slice p2 (a1.Cuts).length c3]), (1, [.slice p4 (a1.Nodes).length c5])]]) (R := [Ro.mp fStr.ty p2 c3 a1.Cuts, Ro.mp (fInt .i64).ty p4 c5 a1.Nodes]) ((hS.selp [1, 2, 3, 4, 5] (by decide) (by kernel_rfl)).pick [0, 1] (by kernel_rfl)) ?_
              exact rfl
            · refine cond_f hF (by kernel_rfl) hb ?_
              clear hb
              refine wpIn_skip ?_
              cases H
              try dsimp only [Exit.inBlock, Exit.then]
              refine re_normal [.ret] (C := [.box b23 3 [(1, [.int .i64 (x29.Node)])], .box b22 3 [(1, [.int .i64 (IntKind.i64.wrap (v82.2.1 + 1))])], .box b11 4 [(1, [.bool (false)])], .box b10 9 [(1, [.string (a7)])], .box b9 26 [(1, [.slice p2 (a1.Cuts).length c3]), (1, [.slice p4 (a1.Nodes).length c5])]]) (R := [Ro.mp fStr.ty p2 c3 a1.Cuts, Ro.mp (fInt .i64).ty p4 c5 a1.Nodes]) ((hS.selp [1, 2, 3, 4, 5] (by decide) (by kernel_rfl)).pick [0, 1] (by kernel_rfl)) ?_
              exact rfl
          · refine cond_f hF (by kernel_rfl) hb ?_
            clear hb
            refine wpIn_skip ?_
            cases H
            try dsimp only [Exit.inBlock, Exit.then]
            refine re_normal [.ret] (C := [.box b23 3 [(1, [.int .i64 (v82.1)])], .box b22 3 [(1, [.int .i64 (v82.2.1)])], .box b11 4 [(1, [.bool (false)])], .box b10 9 [(1, [.string (a7)])], .box b9 26 [(1, [.slice p2 (a1.Cuts).length c3]), (1, [.slice p4 (a1.Nodes).length c5])]]) (R := [Ro.mp fStr.ty p2 c3 a1.Cuts, Ro.mp (fInt .i64).ty p4 c5 a1.Nodes]) ((hS.selp [1, 2, 3, 4, 5] (by decide) (by kernel_rfl)).pick [0, 1] (by kernel_rfl)) ?_
            exact rfl
      · rintro _ rfl
        refine ⟨_, _, _, rfl, fun κ w a hF hS => ?_⟩
        clear hrc
        refine bif_split H (fun hb H => ?_) (fun hb H => ?_)
        · refine jumped0 hb ?_
          clear hb
          refine hK24 _ _ ?_
          refine wpIn_seq_k fun K93 hK93 => ?_
          refine bind_split H (fun v95 hv95 H => ?_)
          refine code_join (fun a w => ∃ κ : Gh, Fr (49) [mark r] [(6, .pointer (some ⟨b11, 0, none⟩))] a ∧ SS [] κ0 w0 κ w [.box b11 4 [(1, [.bool (v95)])], .ext (defX r)] [] ∧ True) ?_ ?_
          · clear H
            refine region_any (SSx [] κ0 w0 [.box b23 3 [(1, [.int .i64 (v92.1)])], .box b22 3 [(1, [.int .i64 (v92.2.1)])], .box b11 4 [(1, [.bool (false)])], .box b10 9 [(1, [.string (a7)])], .box b9 26 [(1, [.slice p2 (a1.Cuts).length c3]), (1, [.slice p4 (a1.Nodes).length c5])]] [Ro.mp fStr.ty p2 c3 a1.Cuts, Ro.mp (fInt .i64).ty p4 c5 a1.Nodes, Ro.mp fStr.ty p2 c3 a1.Cuts, Ro.mp (fInt .i64).ty p4 c5 a1.Nodes]) [12] (by kernel_rfl) (n := 13) (by kernel_rfl) (l := #[false, false, false, false, false, false, false, false, false, false, false, false, false]) (by kernel_rfl) ?_
            have hS := hS.drew
            refine bind_split hv95 (fun x96 hx96 hv95 => ?_)
            refine bif_split hv95 (fun hb97 hv95 => ?_) (fun hb97 hv95 => ?_)
            · refine bif_split hv95 (fun hb98 hv95 => ?_) (fun hb98 hv95 => ?_)
              · refine bind_split hv95 (fun x99 hx99 hv95 => ?_)
                refine any_go 0 (o := ⟨(some 37), (Go.Op.call (Go.Call.mk (Go.Callee.value (Go.Operand.func 29)) #[] #[])), 4, "law.go:84", #[], none⟩) hF rfl (by kernel_rfl) (by kernel_rfl) (listed' := #[true, false, false, false, false, false, false, false, false, false, false, false, false]) (by kernel_rfl) ?_
                refine wo_callP (args := #[]) (f := 29) hF hS (by kernel_rfl) (by kernel_rfl) (C_law08_awake N hS.fresh   ((hS.pick [] (by kernel_rfl)).ro) hx96) ?_
                clear hF hS hx96
                rintro _ κ w a ⟨rfl, hR, hN⟩ hF hS hO
                clear hR hN hO
                refine ⟨fun _ => ⟨_, (hS.selp [1, 2, 3, 4, 5] (by decide) (by kernel_rfl)).pick [0, 1, 0, 1] (by kernel_rfl)⟩, ?_⟩
                refine any_pure [1] [3, 5, 6, 7, 8, 38] (L' := [(3, .pointer (some ⟨b9, 0, none⟩)), (5, .pointer (some ⟨b10, 0, none⟩)), (6, .pointer (some ⟨b11, 0, none⟩)), (7, .pointer (some ⟨b22, 0, none⟩)), (8, .pointer (some ⟨b23, 0, none⟩)), (38, .bool (x96))]) (listed' := #[true, true, false, false, false, false, false, false, false, false, false, false, false]) (fuel := 11) hF ⟨_, (hS.selp [1, 2, 3, 4, 5] (by decide) (by kernel_rfl)).pick [0, 1, 0, 1] (by kernel_rfl)⟩ (by kernel_rfl) (by intro c a w t v h; cases t <;> exact h) (by kernel_rfl) rfl ?_
                clear hF
                intro a hF
                have hF := hF.boolv 38 (by kernel_rfl) hb97
                refine any_take 2 (some 39) hF ⟨_, (hS.selp [1, 2, 3, 4, 5] (by decide) (by kernel_rfl)).pick [0, 1, 0, 1] (by kernel_rfl)⟩ rfl (by kernel_rfl) (by kernel_rfl) (by intro c a w v h; exact h) (by kernel_rfl) (by kernel_rfl) (by kernel_rfl) rfl (val_load 1 0 0 (v := .int .i64 (v92.2.1)) rfl rfl rfl rfl rfl (by kernel_rfl) (by kernel_rfl)) ?_
                clear hF
                intro a hF
                refine any_pure [3, 4, 5] [3, 5, 6, 8, 42] (L' := [(3, .pointer (some ⟨b9, 0, none⟩)), (5, .pointer (some ⟨b10, 0, none⟩)), (6, .pointer (some ⟨b11, 0, none⟩)), (8, .pointer (some ⟨b23, 0, none⟩)), (42, .bool ((v92.2.1 == 1)))]) (listed' := #[true, true, true, true, true, true, false, false, false, false, false, false, false]) (fuel := 7) hF ⟨_, (hS.selp [1, 2, 3, 4, 5] (by decide) (by kernel_rfl)).pick [0, 1, 0, 1] (by kernel_rfl)⟩ (by kernel_rfl) (by intro c a w t v h; cases t <;> exact h) (by kernel_rfl) rfl ?_
                clear hF
                intro a hF
                have hF := hF.boolv 42 (by kernel_rfl) hb98
                refine any_take 6 (some 43) hF ⟨_, (hS.selp [1, 2, 3, 4, 5] (by decide) (by kernel_rfl)).pick [0, 1, 0, 1] (by kernel_rfl)⟩ rfl (by kernel_rfl) (by kernel_rfl) (by intro c a w v h; exact h) (by kernel_rfl) (by kernel_rfl) (by kernel_rfl) rfl (val_load 0 0 0 (v := .int .i64 (v92.1)) rfl rfl rfl rfl rfl (by kernel_rfl) (by kernel_rfl)) ?_
                clear hF
                intro a hF
                refine any_take 7 (some 44) hF ⟨_, (hS.selp [1, 2, 3, 4, 5] (by decide) (by kernel_rfl)).pick [0, 1, 0, 1] (by kernel_rfl)⟩ rfl (by kernel_rfl) (by kernel_rfl) (by intro c a w v h; exact h) (by kernel_rfl) (by kernel_rfl) (by kernel_rfl) rfl (val_loads 4 0 2 (s' := [(1, [.slice p2 (a1.Cuts).length c3]), (1, [.slice p4 (a1.Nodes).length c5])]) (n := 2) rfl rfl rfl (by kernel_rfl) (by kernel_rfl) (by kernel_rfl) (by kernel_rfl) (by kernel_rfl)) ?_
                clear hF
                intro a hF
                refine any_take 8 (some 45) hF ⟨_, (hS.selp [1, 2, 3, 4, 5] (by decide) (by kernel_rfl)).pick [0, 1, 0, 1] (by kernel_rfl)⟩ rfl (by kernel_rfl) (by kernel_rfl) (by intro c a w v h; exact h) (by kernel_rfl) (by kernel_rfl) (by kernel_rfl) rfl (val_load 3 0 0 (v := .string (a7)) rfl rfl rfl rfl rfl (by kernel_rfl) (by kernel_rfl)) ?_
                clear hF
                intro a hF
                refine any_go 9 (o := ⟨(some 46), (Go.Op.call (Go.Call.mk (Go.Callee.value (Go.Operand.func 38)) #[(Go.Operand.tmp 44), (Go.Operand.tmp 45)] #[26, 9])), 3, "law.go:84", #[(Go.Edge.mk 7 Go.Ground.data), (Go.Edge.mk 8 Go.Ground.data), (Go.Edge.mk 5 Go.Ground.chain), (Go.Edge.mk 5 Go.Ground.guard)], (some (5, true))⟩) hF rfl (by kernel_rfl) (by kernel_rfl) (listed' := #[true, true, true, true, true, true, true, true, true, true, false, false, false]) (by kernel_rfl) ?_
                refine wo_callP (args := #[.agg (flat [(1, [.slice p2 (a1.Cuts).length c3]), (1, [.slice p4 (a1.Nodes).length c5])]).toArray, .string (a7)]) (f := 38) hF hS (by kernel_rfl) (by kernel_rfl) (C_span_Owner N hS.fresh (T_api_Map.mk a1.Cuts a1.Nodes) a7 p2 c3 p4 c5 ((hS.pick [0, 1] (by kernel_rfl)).ro) hx99) ?_
                clear hF hS hx99
                rintro _ κ w a ⟨rfl, hR, hN⟩ hF hS hO
                clear hR hN hO
                refine ⟨fun _ => ⟨_, (hS.selp [1, 2, 3, 4, 5] (by decide) (by kernel_rfl)).pick [0, 1, 0, 1] (by kernel_rfl)⟩, ?_⟩
                refine any_pure [10, 11] [6, 48] (L' := [(6, .pointer (some ⟨b11, 0, none⟩)), (48, .bool ((v92.1 == x99)))]) (listed' := #[true, true, true, true, true, true, true, true, true, true, true, true, false]) (fuel := 1) hF ⟨_, (hS.selp [1, 2, 3, 4, 5] (by decide) (by kernel_rfl)).pick [0, 1, 0, 1] (by kernel_rfl)⟩ (by kernel_rfl) (by intro c a w t v h; cases t <;> exact h) (by kernel_rfl) rfl ?_
                clear hF
                intro a hF
                refine any_go 12 (o := ⟨none, (Go.Op.store 4 (Go.Operand.tmp 6) (Go.Operand.tmp 48)), 0, "law.go:84", #[(Go.Edge.mk 11 Go.Ground.data), (Go.Edge.mk 9 Go.Ground.chain), (Go.Edge.mk 0 Go.Ground.phase), (Go.Edge.mk 1 Go.Ground.phase), (Go.Edge.mk 2 Go.Ground.phase), (Go.Edge.mk 3 Go.Ground.phase), (Go.Edge.mk 4 Go.Ground.phase), (Go.Edge.mk 5 Go.Ground.phase), (Go.Edge.mk 6 Go.Ground.phase), (Go.Edge.mk 7 Go.Ground.phase), (Go.Edge.mk 8 Go.Ground.phase), (Go.Edge.mk 9 Go.Ground.phase), (Go.Edge.mk 10 Go.Ground.phase), (Go.Edge.mk 11 Go.Ground.phase)], none⟩) hF rfl (by kernel_rfl) (by kernel_rfl) (listed' := #[true, true, true, true, true, true, true, true, true, true, true, true, true]) (by kernel_rfl) ?_
                refine wo_stores hF hS (by kernel_rfl) 3 0 1 (v := .bool ((v92.1 == x99))) (s' := [(1, [.bool ((v92.1 == x99))])]) (t := [(1, [.bool ((v92.1 == x99))])]) (C' := [.ext (defX r), .box b23 3 [(1, [.int .i64 (v92.1)])], .box b22 3 [(1, [.int .i64 (v92.2.1)])], .box b11 4 [(1, [.bool ((v92.1 == x99))])], .box b10 9 [(1, [.string (a7)])], .box b9 26 [(1, [.slice p2 (a1.Cuts).length c3]), (1, [.slice p4 (a1.Nodes).length c5])]]) (n := 1) rfl rfl (by kernel_rfl) rfl (by kernel_rfl) (by kernel_rfl) (by kernel_rfl) (by kernel_rfl) (sgV rfl sgNil).1 (sgV rfl sgNil).2 (by kernel_rfl) (by kernel_rfl) (by kernel_rfl) ?_
                clear hF hS
                intro a w hF hS
                refine ⟨fun h => absurd (show false = true from h) Bool.false_ne_true, ?_⟩
                refine any_done (by kernel_rfl) ?_ _
                cases hv95
                exact ⟨_, hF.keep' [6] (by kernel_rfl), (hS.selp [3, 0] (by decide) (by kernel_rfl)).pick [] (by kernel_rfl), trivial⟩
              · refine any_go 0 (o := ⟨(some 37), (Go.Op.call (Go.Call.mk (Go.Callee.value (Go.Operand.func 29)) #[] #[])), 4, "law.go:84", #[], none⟩) hF rfl (by kernel_rfl) (by kernel_rfl) (listed' := #[true, false, false, false, false, false, false, false, false, false, false, false, false]) (by kernel_rfl) ?_
                refine wo_callP (args := #[]) (f := 29) hF hS (by kernel_rfl) (by kernel_rfl) (C_law08_awake N hS.fresh   ((hS.pick [] (by kernel_rfl)).ro) hx96) ?_
                clear hF hS hx96
                rintro _ κ w a ⟨rfl, hR, hN⟩ hF hS hO
                clear hR hN hO
                refine ⟨fun _ => ⟨_, (hS.selp [1, 2, 3, 4, 5] (by decide) (by kernel_rfl)).pick [0, 1, 0, 1] (by kernel_rfl)⟩, ?_⟩
                refine any_pure [1] [3, 5, 6, 7, 8, 38] (L' := [(3, .pointer (some ⟨b9, 0, none⟩)), (5, .pointer (some ⟨b10, 0, none⟩)), (6, .pointer (some ⟨b11, 0, none⟩)), (7, .pointer (some ⟨b22, 0, none⟩)), (8, .pointer (some ⟨b23, 0, none⟩)), (38, .bool (x96))]) (listed' := #[true, true, false, false, false, false, false, false, false, false, false, false, false]) (fuel := 11) hF ⟨_, (hS.selp [1, 2, 3, 4, 5] (by decide) (by kernel_rfl)).pick [0, 1, 0, 1] (by kernel_rfl)⟩ (by kernel_rfl) (by intro c a w t v h; cases t <;> exact h) (by kernel_rfl) rfl ?_
                clear hF
                intro a hF
                have hF := hF.boolv 38 (by kernel_rfl) hb97
                refine any_take 2 (some 39) hF ⟨_, (hS.selp [1, 2, 3, 4, 5] (by decide) (by kernel_rfl)).pick [0, 1, 0, 1] (by kernel_rfl)⟩ rfl (by kernel_rfl) (by kernel_rfl) (by intro c a w v h; exact h) (by kernel_rfl) (by kernel_rfl) (by kernel_rfl) rfl (val_load 1 0 0 (v := .int .i64 (v92.2.1)) rfl rfl rfl rfl rfl (by kernel_rfl) (by kernel_rfl)) ?_
                clear hF
                intro a hF
                refine any_pure [3, 4, 5] [3, 5, 6, 8, 42] (L' := [(3, .pointer (some ⟨b9, 0, none⟩)), (5, .pointer (some ⟨b10, 0, none⟩)), (6, .pointer (some ⟨b11, 0, none⟩)), (8, .pointer (some ⟨b23, 0, none⟩)), (42, .bool ((v92.2.1 == 1)))]) (listed' := #[true, true, true, true, true, true, false, false, false, false, false, false, false]) (fuel := 7) hF ⟨_, (hS.selp [1, 2, 3, 4, 5] (by decide) (by kernel_rfl)).pick [0, 1, 0, 1] (by kernel_rfl)⟩ (by kernel_rfl) (by intro c a w t v h; cases t <;> exact h) (by kernel_rfl) rfl ?_
                clear hF
                intro a hF
                have hF := hF.boolv 42 (by kernel_rfl) hb98
                refine any_pure [6, 7, 8, 9, 10, 11] [6, 48] (L' := [(6, .pointer (some ⟨b11, 0, none⟩)), (48, .bool (false))]) (listed' := #[true, true, true, true, true, true, true, true, true, true, true, true, false]) (fuel := 1) hF ⟨_, (hS.selp [1, 2, 3, 4, 5] (by decide) (by kernel_rfl)).pick [0, 1, 0, 1] (by kernel_rfl)⟩ (by kernel_rfl) (by intro c a w t v h; cases t <;> exact h) (by kernel_rfl) rfl ?_
                clear hF
                intro a hF
                refine any_go 12 (o := ⟨none, (Go.Op.store 4 (Go.Operand.tmp 6) (Go.Operand.tmp 48)), 0, "law.go:84", #[(Go.Edge.mk 11 Go.Ground.data), (Go.Edge.mk 9 Go.Ground.chain), (Go.Edge.mk 0 Go.Ground.phase), (Go.Edge.mk 1 Go.Ground.phase), (Go.Edge.mk 2 Go.Ground.phase), (Go.Edge.mk 3 Go.Ground.phase), (Go.Edge.mk 4 Go.Ground.phase), (Go.Edge.mk 5 Go.Ground.phase), (Go.Edge.mk 6 Go.Ground.phase), (Go.Edge.mk 7 Go.Ground.phase), (Go.Edge.mk 8 Go.Ground.phase), (Go.Edge.mk 9 Go.Ground.phase), (Go.Edge.mk 10 Go.Ground.phase), (Go.Edge.mk 11 Go.Ground.phase)], none⟩) hF rfl (by kernel_rfl) (by kernel_rfl) (listed' := #[true, true, true, true, true, true, true, true, true, true, true, true, true]) (by kernel_rfl) ?_
                refine wo_stores hF hS (by kernel_rfl) 3 0 1 (v := .bool (false)) (s' := [(1, [.bool (false)])]) (t := [(1, [.bool (false)])]) (C' := [.ext (defX r), .box b23 3 [(1, [.int .i64 (v92.1)])], .box b22 3 [(1, [.int .i64 (v92.2.1)])], .box b11 4 [(1, [.bool (false)])], .box b10 9 [(1, [.string (a7)])], .box b9 26 [(1, [.slice p2 (a1.Cuts).length c3]), (1, [.slice p4 (a1.Nodes).length c5])]]) (n := 1) rfl rfl (by kernel_rfl) rfl (by kernel_rfl) (by kernel_rfl) (by kernel_rfl) (by kernel_rfl) (sgV rfl sgNil).1 (sgV rfl sgNil).2 (by kernel_rfl) (by kernel_rfl) (by kernel_rfl) ?_
                clear hF hS
                intro a w hF hS
                refine ⟨fun h => absurd (show false = true from h) Bool.false_ne_true, ?_⟩
                refine any_done (by kernel_rfl) ?_ _
                cases hv95
                exact ⟨_, hF.keep' [6] (by kernel_rfl), (hS.selp [3, 0] (by decide) (by kernel_rfl)).pick [] (by kernel_rfl), trivial⟩
            · refine any_go 0 (o := ⟨(some 37), (Go.Op.call (Go.Call.mk (Go.Callee.value (Go.Operand.func 29)) #[] #[])), 4, "law.go:84", #[], none⟩) hF rfl (by kernel_rfl) (by kernel_rfl) (listed' := #[true, false, false, false, false, false, false, false, false, false, false, false, false]) (by kernel_rfl) ?_
              refine wo_callP (args := #[]) (f := 29) hF hS (by kernel_rfl) (by kernel_rfl) (C_law08_awake N hS.fresh   ((hS.pick [] (by kernel_rfl)).ro) hx96) ?_
              clear hF hS hx96
              rintro _ κ w a ⟨rfl, hR, hN⟩ hF hS hO
              clear hR hN hO
              refine ⟨fun _ => ⟨_, (hS.selp [1, 2, 3, 4, 5] (by decide) (by kernel_rfl)).pick [0, 1, 0, 1] (by kernel_rfl)⟩, ?_⟩
              refine any_pure [1] [3, 5, 6, 7, 8, 38] (L' := [(3, .pointer (some ⟨b9, 0, none⟩)), (5, .pointer (some ⟨b10, 0, none⟩)), (6, .pointer (some ⟨b11, 0, none⟩)), (7, .pointer (some ⟨b22, 0, none⟩)), (8, .pointer (some ⟨b23, 0, none⟩)), (38, .bool (x96))]) (listed' := #[true, true, false, false, false, false, false, false, false, false, false, false, false]) (fuel := 11) hF ⟨_, (hS.selp [1, 2, 3, 4, 5] (by decide) (by kernel_rfl)).pick [0, 1, 0, 1] (by kernel_rfl)⟩ (by kernel_rfl) (by intro c a w t v h; cases t <;> exact h) (by kernel_rfl) rfl ?_
              clear hF
              intro a hF
              have hF := hF.boolv 38 (by kernel_rfl) hb97
              refine any_pure [2, 3, 4, 5, 6, 7, 8, 9, 10, 11] [6, 48] (L' := [(6, .pointer (some ⟨b11, 0, none⟩)), (48, .bool (false))]) (listed' := #[true, true, true, true, true, true, true, true, true, true, true, true, false]) (fuel := 1) hF ⟨_, (hS.selp [1, 2, 3, 4, 5] (by decide) (by kernel_rfl)).pick [0, 1, 0, 1] (by kernel_rfl)⟩ (by kernel_rfl) (by intro c a w t v h; cases t <;> exact h) (by kernel_rfl) rfl ?_
              clear hF
              intro a hF
              refine any_go 12 (o := ⟨none, (Go.Op.store 4 (Go.Operand.tmp 6) (Go.Operand.tmp 48)), 0, "law.go:84", #[(Go.Edge.mk 11 Go.Ground.data), (Go.Edge.mk 9 Go.Ground.chain), (Go.Edge.mk 0 Go.Ground.phase), (Go.Edge.mk 1 Go.Ground.phase), (Go.Edge.mk 2 Go.Ground.phase), (Go.Edge.mk 3 Go.Ground.phase), (Go.Edge.mk 4 Go.Ground.phase), (Go.Edge.mk 5 Go.Ground.phase), (Go.Edge.mk 6 Go.Ground.phase), (Go.Edge.mk 7 Go.Ground.phase), (Go.Edge.mk 8 Go.Ground.phase), (Go.Edge.mk 9 Go.Ground.phase), (Go.Edge.mk 10 Go.Ground.phase), (Go.Edge.mk 11 Go.Ground.phase)], none⟩) hF rfl (by kernel_rfl) (by kernel_rfl) (listed' := #[true, true, true, true, true, true, true, true, true, true, true, true, true]) (by kernel_rfl) ?_
              refine wo_stores hF hS (by kernel_rfl) 3 0 1 (v := .bool (false)) (s' := [(1, [.bool (false)])]) (t := [(1, [.bool (false)])]) (C' := [.ext (defX r), .box b23 3 [(1, [.int .i64 (v92.1)])], .box b22 3 [(1, [.int .i64 (v92.2.1)])], .box b11 4 [(1, [.bool (false)])], .box b10 9 [(1, [.string (a7)])], .box b9 26 [(1, [.slice p2 (a1.Cuts).length c3]), (1, [.slice p4 (a1.Nodes).length c5])]]) (n := 1) rfl rfl (by kernel_rfl) rfl (by kernel_rfl) (by kernel_rfl) (by kernel_rfl) (by kernel_rfl) (sgV rfl sgNil).1 (sgV rfl sgNil).2 (by kernel_rfl) (by kernel_rfl) (by kernel_rfl) ?_
              clear hF hS
              intro a w hF hS
              refine ⟨fun h => absurd (show false = true from h) Bool.false_ne_true, ?_⟩
              refine any_done (by kernel_rfl) ?_ _
              cases hv95
              exact ⟨_, hF.keep' [6] (by kernel_rfl), (hS.selp [3, 0] (by decide) (by kernel_rfl)).pick [] (by kernel_rfl), trivial⟩
          · clear hF hS hv95
            rintro a w ⟨κ, hF, hS, -⟩
            refine hK93 _ _ ?_
            clear hK93 K93
            refine wpIn_ret ?_
            refine ret_doneM (C' := [.box b11 4 [(1, [.bool (v95)])]]) hF hS 1 rfl (by kernel_rfl) fun w hS => ?_
            cases H
            exact ⟨_, (res1 Try.results6 (rv_cell hF hS 0 0 0 rfl rfl rfl rfl (by kernel_rfl) (by kernel_rfl))), ⟨rfl, (hS.pick [] (by kernel_rfl)).ro, hS.newC [] (by decide) (by kernel_rfl)⟩⟩
        · clear hb
          refine bif_split H (fun hb H => ?_) (fun hb H => ?_)
          · refine jumpedS 0 hb rfl ?_
            clear hb
            refine wpIn_ret ?_
            refine ret_doneM (C' := [.box b23 3 [(1, [.int .i64 (v92.1)])], .box b22 3 [(1, [.int .i64 (v92.2.1)])], .box b11 4 [(1, [.bool (false)])], .box b10 9 [(1, [.string (a7)])], .box b9 26 [(1, [.slice p2 (a1.Cuts).length c3]), (1, [.slice p4 (a1.Nodes).length c5])]]) hF hS 0 rfl (by kernel_rfl) fun w hS => ?_
            cases H
            exact ⟨_, (res1 Try.results6 (rv_cell hF hS 2 0 0 rfl rfl rfl rfl (by kernel_rfl) (by kernel_rfl))), ⟨rfl, (hS.pick [] (by kernel_rfl)).ro, hS.newC [] (by decide) (by kernel_rfl)⟩⟩
          · clear hb
            cases H
end Go.Cf
