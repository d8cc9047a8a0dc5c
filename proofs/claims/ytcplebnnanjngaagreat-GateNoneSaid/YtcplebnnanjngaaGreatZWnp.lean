/- The walks: each function returns what its model says. Printed by a program of ours. -/
import Derived.Test.YtcplebnnanjngaaGreatZM1
namespace Go.Cf
open Go Go.Proofs
set_option linter.unusedVariables false
set_option maxRecDepth 20000 in
set_option maxHeartbeats 8000000 in
theorem C_api_Place (N : Nat) {κ0 : Gh} {w0 : World} (hfr : Fresh κ0 w0) (a1 : Int) (a2 : Int)  (hR : ∀ m ∈ ([] : List MP), m.p κ0 w0) {r : (Int)} (H : M.api_Place N a1 a2 = some r) :
    Calls Tryz.prog 45 #[vi a1, vi a2] w0 (Post [] κ0 w0 fun v κ w => v = vi r ∧ (∀ m ∈ ([] : List MP), m.p κ w) ∧ NewC w0 κ w []) := by
 have hS := SS.start hfr hR
 refine enter (N := (11)) (L := [(0, vi a1), (1, vi a2)]) Tryz.func45 rfl Tryz.ntmps45 (show 2 ≤ (11) by decide) rfl fun a hF => ?_
 unfold M.api_Place at H
 refine wpIn_seq_k fun K3 hK3 => ?_
 refine wpIn_region_lit ?_
 refine wp 1 [0, 1] hF fun a hF => ?_
 refine wpListIn_nil ?_
 refine hK3 _ _ ?_
 refine wpIn_seq_k fun K4 hK4 => ?_
 refine wpIn_region_lit ?_
 refine wp 7 [4] hF fun a hF => ?_
 refine wpListIn_nil ?_
 refine hK4 _ _ ?_
 refine wpIn_ret ?_
 cases H
 exact (ret_done hF hS (res1 Tryz.results45 (rvt hF)) ⟨rfl, (hS.pick [] (by kernel_rfl)).ro, hS.newC [] (by decide) (by kernel_rfl)⟩)
set_option maxRecDepth 20000 in
set_option maxHeartbeats 8000000 in
theorem C_span_Within (N : Nat) {κ0 : Gh} {w0 : World} (hfr : Fresh κ0 w0) (a1 : ByteArray) (a2 : ByteArray) (a3 : ByteArray)  (hR : ∀ m ∈ ([] : List MP), m.p κ0 w0) {r : (Bool)} (H : M.span_Within N a1 a2 a3 = some r) :
    Calls Tryz.prog 101 #[.string (a1), .string (a2), .string (a3)] w0 (Post [] κ0 w0 fun v κ w => v = vb r ∧ (∀ m ∈ ([] : List MP), m.p κ w) ∧ NewC w0 κ w []) := by
 have hS := SS.start hfr hR
 refine enter (N := (19)) (L := [(0, .string (a1)), (1, .string (a2)), (2, .string (a3))]) Tryz.func101 rfl Tryz.ntmps101 (show 3 ≤ (19) by decide) rfl fun a hF => ?_
 unfold M.span_Within at H
 refine wpIn_seq_k fun K4 hK4 => ?_
 refine wpIn_region_lit ?_
 refine wp 1 [0, 1, 2] hF fun a hF => ?_
 refine wpListIn_nil ?_
 refine hK4 _ _ ?_
 refine wpIn_seq_k fun K5 hK5 => ?_
 refine wpIn_region_lit ?_
 refine bind_split H (fun v7 hv7 H => ?_)
 refine wl_join (fun a w => ∃ κ : Gh, Fr (19) [] [(6, vb v7)] a ∧ SS [] κ0 w0 κ w [] [] ∧ True) ?_ ?_
 refine wp 4 [0, 2, 10] hF fun a hF => ?_
 refine bif_split hv7 (fun hb hv7 => ?_) (fun hb hv7 => ?_)
 have hF := hF.boolv 10 (by kernel_rfl) hb
 refine wp 3 [0, 2, 10, 13] hF fun a hF => ?_
 refine bif_split hv7 (fun hb hv7 => ?_) (fun hb hv7 => ?_)
 have hF := hF.boolv 13 (by kernel_rfl) hb
 refine wp 6 [6] hF fun a hF => ?_
 refine wpListIn_nil ?_
 cases hv7
 exact ⟨_, hF.kp [6], hS.sp [] [], trivial⟩
 have hF := hF.boolv 13 (by kernel_rfl) hb
 refine wp 6 [6] hF fun a hF => ?_
 refine wpListIn_nil ?_
 cases hv7
 exact ⟨_, hF.kp [6], hS.sp [] [], trivial⟩
 have hF := hF.boolv 10 (by kernel_rfl) hb
 refine wp 9 [6] hF fun a hF => ?_
 refine wpListIn_nil ?_
 cases hv7
 exact ⟨_, hF.kp [6], hS.sp [] [], trivial⟩
 rintro a w ⟨κ, hF, hS, -⟩
 refine hK5 _ _ ?_
 refine wpIn_ret ?_
 cases H
 exact (ret_done hF hS (res1 Tryz.results101 (rvt hF)) ⟨rfl, (hS.pick [] (by kernel_rfl)).ro, hS.newC [] (by decide) (by kernel_rfl)⟩)
set_option maxRecDepth 20000 in
set_option maxHeartbeats 8000000 in
theorem C_span_Whole (N : Nat) {κ0 : Gh} {w0 : World} (hfr : Fresh κ0 w0) (a1 : Int)  (hR : ∀ m ∈ ([] : List MP), m.p κ0 w0) {r : (T_api_Map)} (H : M.span_Whole N a1 = some r) :
    Calls Tryz.prog 25 #[vi a1] w0 (Post [] κ0 w0 fun v κ w => ∃ (p6 : Option Addr) (c7 : Nat) (p8 : Option Addr) (c9 : Nat), v = .agg (flat [sl p6 (r.Cuts).length c7, sl p8 (r.Nodes).length c9]).toArray ∧ (∀ m ∈ ([Ro.mp fStr.ty p6 c7 r.Cuts, Ro.mp (fInt .i64).ty p8 c9 r.Nodes] : List MP), m.p κ w) ∧ NewC w0 κ w [.tok p6 9 1 (r.Cuts).length c7, .tok p8 3 1 (r.Nodes).length c9]) := by
 have hS := SS.start hfr hR
 refine enter (N := (6)) (L := [(0, vi a1)]) Tryz.func25 rfl Tryz.ntmps25 (show 1 ≤ (6) by decide) rfl fun a hF => ?_
 unfold M.span_Whole at H
 refine wpIn_seq_k fun K2 hK2 => ?_
 refine wpIn_region_lit ?_
 refine wc (wal hF hS [sl none 0 0, sl none 0 0] (sgN 2 sgNil) fun b3 a w hF hS => ?_)
 refine wpListIn_nil ?_
 refine hK2 _ _ ?_
 refine wpIn_seq_k fun K4 hK4 => ?_
 refine wpIn_region_lit ?_
 refine wl_pure (L' := [(2, pt b3 0), (3, vi a1)]) 1 [2, 3] hF (by kernel_rfl) fun a hF => ?_
 refine wc (wo_buildN (t := (fInt .i64)) (z := vi 0) (l := [a1]) (vs := [(0, vi a1)]) (cells := #[vi a1]) (E := 3) hF hS (by kernel_rfl) rfl (by kernel_rfl) (by kernel_rfl) rfl (by kernel_rfl) (by kernel_rfl) (by kernel_rfl) (by kernel_rfl) (by kernel_rfl) fun p5 κ a w hF hS => ?_)
 refine wp 1 [2, 5] hF fun a hF => ?_
 refine wc (wst hF hS 1 0 2 [sl none 0 0, sl p5 ([a1]).length 1] (sgN 2 sgNil) fun a w hF hS => ?_)
 refine wpListIn_nil ?_
 refine hK4 _ _ ?_
 refine wpIn_ret ?_
 have hS' := hS
 have hS := hS.add (m := Ro.mp fStr.ty none 0 ([] : List ByteArray)) (Ro.nil fStr.ty _ _)
 have hS := hS.addNil 9 1
 cases H
 exact (ret_done hF hS (res1 Tryz.results25 (rvs hF hS' 1 0 2)) ⟨none, 0, p5, 1, rfl, (hS.pick [0, 1] (by kernel_rfl)).ro, hS.newC [0, 1] (by decide) (by kernel_rfl)⟩)
set_option maxRecDepth 20000 in
set_option maxHeartbeats 8000000 in
theorem C_span_Find (N : Nat) {κ0 : Gh} {w0 : World} (hfr : Fresh κ0 w0) (a1 : T_api_Map) (a6 : ByteArray) (p2 : Option Addr) (c3 : Nat) (p4 : Option Addr) (c5 : Nat) (hR : ∀ m ∈ ([Ro.mp fStr.ty p2 c3 a1.Cuts, Ro.mp (fInt .i64).ty p4 c5 a1.Nodes] : List MP), m.p κ0 w0) {r : (Int)} (H : M.span_Find N a1 a6 = some r) :
    Calls Tryz.prog 117 #[.agg (flat [sl p2 (a1.Cuts).length c3, sl p4 (a1.Nodes).length c5]).toArray, .string (a6)] w0 (Post [] κ0 w0 fun v κ w => v = vi r ∧ (∀ m ∈ ([] : List MP), m.p κ w) ∧ NewC w0 κ w []) := by
 have hS := SS.start hfr hR
 refine enter (N := (22)) (L := [(0, .agg (flat [sl p2 (a1.Cuts).length c3, sl p4 (a1.Nodes).length c5]).toArray), (1, .string (a6))]) Tryz.func117 rfl Tryz.ntmps117 (show 2 ≤ (22) by decide) rfl fun a hF => ?_
 unfold M.span_Find at H
 refine wpIn_seq_k fun K7 hK7 => ?_
 refine wpIn_region_lit ?_
 refine wc (wbx hF hS [sl p2 (a1.Cuts).length c3, sl p4 (a1.Nodes).length c5] (sgN 2 sgNil) fun b8 a w hF hS => ?_)
 refine wp 1 [1, 2] hF fun a hF => ?_
 refine wpListIn_nil ?_
 refine hK7 _ _ ?_
 refine wpIn_seq_k fun K9 hK9 => ?_
 refine wpIn_region_lit ?_
 refine wp 1 [1, 2, 5] hF fun a hF => ?_
 refine wpListIn_nil ?_
 refine hK9 _ _ ?_
 refine wpIn_seq_k fun K10 hK10 => ?_
 refine wpIn_seq_k fun K11 hK11 => ?_
 refine wpIn_region_lit ?_
 refine wp 1 [1, 5, 8] hF fun a hF => ?_
 refine wc (wld hF hS 0 0 0 fun a hF => ?_)
 refine wp 2 [1, 5, 9, 10, 11] hF fun a hF => ?_
 refine wpListIn_nil ?_
 refine hK11 _ _ ?_
 refine wpIn_block ?_
 refine loop_fuel (n := N) (fun n a w => ∃ (κ : Gh) (y62 y63 : Int), Fr (22) [] [(1, .string (a6)), (5, vi y62), (9, .slice p2 (a1.Cuts).length c3), (10, vi ((a1.Cuts).length : Int)), (11, vi y63)] a ∧ SS [] κ0 w0 κ w [] [Ro.mp fStr.ty p2 c3 a1.Cuts] ∧ M.span_Find_L1 N n a1 a6 y62 y63 = some r) ?_ ?_
 exact ⟨_, 0, 0, hF.kp [1, 5, 9, 10, 11], hS.sp [] [0], H⟩
 rintro n a w ⟨κ, y62, y63, hF, hS, H⟩
 rcases n with _ | fuel1
 simp [M.span_Find_L1] at H
 simp only [M.span_Find_L1] at H
 refine wpIn_seq_k fun K64 hK64 => ?_
 refine wpIn_region_lit ?_
 refine wl_pure (L' := [(1, .string (a6)), (5, vi y62), (9, .slice p2 (a1.Cuts).length c3), (10, vi ((a1.Cuts).length : Int)), (11, vi y63), (12, vb (decide (y63 < ((a1.Cuts).length : Int))))]) 1 [1, 5, 9, 10, 11, 12] hF (by kernel_rfl) fun a hF => ?_
 refine wpListIn_nil ?_
 refine hK64 _ _ ?_
 refine wpIn_seq_k fun K65 hK65 => ?_
 refine bif_split H (fun hb H => ?_) (fun hb H => ?_)
 refine cond_t hF (by kernel_rfl) hb ?_
 refine wpIn_skip ?_
 refine hK65 _ _ ?_
 refine seq_join (fun a w => ∃ (κ : Gh) (y66 : Int), Fr (22) [] [(1, .string (a6)), (5, vi y66), (9, .slice p2 (a1.Cuts).length c3), (10, vi ((a1.Cuts).length : Int)), (11, vi y63)] a ∧ SS [] κ0 w0 κ w [] [Ro.mp fStr.ty p2 c3 a1.Cuts] ∧ M.span_Find_k2 N (M.span_Find_L1 N fuel1) a1 a6 y63 y66 = some r) ?_ ?_
 refine wpIn_block ?_
 refine wpIn_seq_k fun K67 hK67 => ?_
 refine wpIn_region_lit ?_
 refine bind_split H (fun x68 hx68 H => ?_)
 refine wc (wo_index hF hS (by kernel_rfl) 0 (E := 9) (sz := 1) rfl rfl rfl (by kernel_rfl) rfl hx68 (by kernel_rfl) (by kernel_rfl) fun b69 f70 a hpx68 hF => ?_)
 refine wc (wo_loadRo (t := fStr) hF hS (by kernel_rfl) 0 0 (v := .string (x68)) rfl rfl hpx68 rfl hx68 (by kernel_rfl) (by kernel_rfl) (by kernel_rfl) fun a hF => ?_)
 refine wp 1 [1, 5, 7, 9, 10, 11] hF fun a hF => ?_
 refine wpListIn_nil ?_
 refine hK67 _ _ ?_
 refine wpIn_seq_k fun K71 hK71 => ?_
 refine wpIn_region_lit ?_
 refine wp 3 [1, 5, 9, 10, 11, 17] hF fun a hF => ?_
 refine wpListIn_nil ?_
 refine hK71 _ _ ?_
 refine bif_split H (fun hb H => ?_) (fun hb H => ?_)
 refine cond_t hF (by kernel_rfl) hb ?_
 refine wpIn_region_lit ?_
 refine wp 3 [1, 5, 9, 10, 11] hF fun a hF => ?_
 refine wpListIn_nil ?_
 exact ⟨_, IntKind.i64.wrap (y62 + 1), hF.kp [1, 5, 9, 10, 11], hS.sp [] [0], H⟩
 refine cond_f hF (by kernel_rfl) hb ?_
 refine wpIn_skip ?_
 exact ⟨_, y62, hF.kp [1, 5, 9, 10, 11], hS.sp [] [0], H⟩
 rintro a w ⟨κ, y66, hF, hS, H⟩
 unfold M.span_Find_k2 at H
 refine wpIn_region_lit ?_
 refine wp 2 [1, 5, 9, 10, 11] hF fun a hF => ?_
 refine wpListIn_nil ?_
 exact ⟨fuel1, Nat.lt_succ_self _, _, y66, IntKind.i64.wrap (y63 + 1), hF.kp [1, 5, 9, 10, 11], hS.sp [] [0], H⟩
 refine cond_f hF (by kernel_rfl) hb ?_
 refine wpIn_exit ?_
 refine hK10 _ _ ?_
 refine wpIn_seq_k fun K72 hK72 => ?_
 refine wpIn_region_lit ?_
 refine wp 2 [4] hF fun a hF => ?_
 refine wpListIn_nil ?_
 refine hK72 _ _ ?_
 refine wpIn_ret ?_
 cases H
 exact (ret_done hF hS (res1 Tryz.results117 (rvt hF)) ⟨rfl, (hS.pick [] (by kernel_rfl)).ro, hS.newC [] (by decide) (by kernel_rfl)⟩)
set_option maxRecDepth 20000 in
set_option maxHeartbeats 8000000 in
theorem C_span_Owner (N : Nat) {κ0 : Gh} {w0 : World} (hfr : Fresh κ0 w0) (a1 : T_api_Map) (a6 : ByteArray) (p2 : Option Addr) (c3 : Nat) (p4 : Option Addr) (c5 : Nat) (hR : ∀ m ∈ ([Ro.mp fStr.ty p2 c3 a1.Cuts, Ro.mp (fInt .i64).ty p4 c5 a1.Nodes] : List MP), m.p κ0 w0) {r : (Int)} (H : M.span_Owner N a1 a6 = some r) :
    Calls Tryz.prog 86 #[.agg (flat [sl p2 (a1.Cuts).length c3, sl p4 (a1.Nodes).length c5]).toArray, .string (a6)] w0 (Post [] κ0 w0 fun v κ w => v = vi r ∧ (∀ m ∈ ([] : List MP), m.p κ w) ∧ NewC w0 κ w []) := by
 have hS := SS.start hfr hR
 refine enter (N := (19)) (L := [(0, .agg (flat [sl p2 (a1.Cuts).length c3, sl p4 (a1.Nodes).length c5]).toArray), (1, .string (a6))]) Tryz.func86 rfl Tryz.ntmps86 (show 2 ≤ (19) by decide) rfl fun a hF => ?_
 unfold M.span_Owner at H
 refine wpIn_seq_k fun K7 hK7 => ?_
 refine wpIn_region_lit ?_
 refine wc (wbx hF hS [sl p2 (a1.Cuts).length c3, sl p4 (a1.Nodes).length c5] (sgN 2 sgNil) fun b8 a w hF hS => ?_)
 refine wp 1 [1, 2] hF fun a hF => ?_
 refine wpListIn_nil ?_
 refine hK7 _ _ ?_
 refine wpIn_seq_k fun K9 hK9 => ?_
 refine wpIn_seq_k fun K10 hK10 => ?_
 refine wpIn_region_lit ?_
 refine wc (wls hF hS 0 0 2 fun a hF => ?_)
 refine wp 1 [2, 6, 7] hF fun a hF => ?_
 refine bind_split H (fun x11 hx11 H => ?_)
 refine wc (wo_callP hF hS (by kernel_rfl) (by kernel_rfl) (C_span_Find N hS.fresh (T_api_Map.mk a1.Cuts a1.Nodes) a6 p2 c3 p4 c5 ((hS.pick [0, 1] (by kernel_rfl)).ro) hx11) ?_)
 rintro _ κ w a ⟨rfl, hR, hN⟩ hF hS hO
 refine wp 1 [2, 5] hF fun a hF => ?_
 refine wpListIn_nil ?_
 refine hK10 _ _ ?_
 refine wpIn_seq_k fun K12 hK12 => ?_
 refine wpIn_region_lit ?_
 refine wp 2 [2, 5, 9, 10] hF fun a hF => ?_
 refine wc (wld hF hS 0 1 0 fun a hF => ?_)
 refine wp 2 [2, 5, 13] hF fun a hF => ?_
 refine wpListIn_nil ?_
 refine hK12 _ _ ?_
 refine bif_split H (fun hb H => ?_) (fun hb H => ?_)
 refine cond_t hF (by kernel_rfl) hb ?_
 refine wpIn_seq_k fun K13 hK13 => ?_
 refine wpIn_region_lit ?_
 refine wp 1 [5, 14] hF fun a hF => ?_
 refine wc (wld hF hS 0 1 0 fun a hF => ?_)
 refine wl_pure (L' := [(15, .slice p4 (a1.Nodes).length c5), (16, vi x11)]) 1 [15, 16] hF (by kernel_rfl) fun a hF => ?_
 refine bind_split H (fun x14 hx14 H => ?_)
 refine wc (wo_index hF hS (by kernel_rfl) 1 (E := 3) (sz := 1) rfl rfl rfl (by kernel_rfl) rfl hx14 (by kernel_rfl) (by kernel_rfl) fun b15 f16 a hpx14 hF => ?_)
 refine wc (wo_loadRo (t := (fInt .i64)) hF hS (by kernel_rfl) 1 0 (v := vi x14) rfl rfl hpx14 rfl hx14 (by kernel_rfl) (by kernel_rfl) (by kernel_rfl) fun a hF => ?_)
 refine wp 1 [4] hF fun a hF => ?_
 refine wpListIn_nil ?_
 refine hK13 _ _ ?_
 refine wpIn_ret ?_
 cases H
 exact (ret_done hF hS (res1 Tryz.results86 (rvt hF)) ⟨rfl, (hS.pick [] (by kernel_rfl)).ro, hS.newC [] (by decide) (by kernel_rfl)⟩)
 refine cond_f hF (by kernel_rfl) hb ?_
 refine wpIn_skip ?_
 refine hK9 _ _ ?_
 refine wpIn_seq_k fun K17 hK17 => ?_
 refine wpIn_region_lit ?_
 refine wp 1 [4] hF fun a hF => ?_
 refine wpListIn_nil ?_
 refine hK17 _ _ ?_
 refine wpIn_ret ?_
 cases H
 exact (ret_done hF hS (res1 Tryz.results86 (rvt hF)) ⟨rfl, (hS.pick [] (by kernel_rfl)).ro, hS.newC [] (by decide) (by kernel_rfl)⟩)
end Go.Cf
