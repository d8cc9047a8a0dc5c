/- The walks: each function returns what its model says. Printed by a program of ours. -/
import Derived.Test.YtogjpknjolkjaaaZM1
namespace Go.Cf
open Go Go.Proofs
set_option linter.unusedVariables false
set_option maxRecDepth 20000 in
set_option maxHeartbeats 8000000 in
theorem C_api_Place (N : Nat) {κ0 : Gh} {w0 : World} (hfr : Fresh κ0 w0) (a1 : Int) (a2 : Int)  (hR : ∀ m ∈ ([] : List MP), m.p κ0 w0) {r : (Int)} (H : M.api_Place N a1 a2 = some r) :
    Calls Try.prog 109 #[vi a1, vi a2] w0 (Post [] κ0 w0 fun v κ w => v = vi r ∧ (∀ m ∈ ([] : List MP), m.p κ w) ∧ NewC w0 κ w []) := by
 have hS := SS.start hfr hR
 refine enter (N := (11)) (L := [(0, vi a1), (1, vi a2)]) Try.func109 rfl Try.ntmps109 (show 2 ≤ (11) by decide) rfl fun a hF => ?_
 unfold M.api_Place at H
 refine wpIn_seq_k fun K3 hK3 => ?_
 refine wpIn_region_lit ?_
 refine wp 1 [0, 1] hF fun a hF => ?_
 refine wpListIn_nil ?_
 refine hK3 _ _ ?_
 refine wpIn_seq_k fun K4 hK4 => ?_
 refine wpIn_region_lit ?_
 refine wp 7 [4] hF fun a hF => ?_
 refine wpListIn_nil ?_
 refine hK4 _ _ ?_
 refine wpIn_ret ?_
 cases H
 exact (ret_done hF hS (res1 Try.results109 (rvt hF)) ⟨rfl, (hS.pick [] (by kernel_rfl)).ro, hS.newC [] (by decide) (by kernel_rfl)⟩)
set_option maxRecDepth 20000 in
set_option maxHeartbeats 8000000 in
theorem C_span_Within (N : Nat) {κ0 : Gh} {w0 : World} (hfr : Fresh κ0 w0) (a1 : ByteArray) (a2 : ByteArray) (a3 : ByteArray)  (hR : ∀ m ∈ ([] : List MP), m.p κ0 w0) {r : (Bool)} (H : M.span_Within N a1 a2 a3 = some r) :
    Calls Try.prog 25 #[.string (a1), .string (a2), .string (a3)] w0 (Post [] κ0 w0 fun v κ w => v = vb r ∧ (∀ m ∈ ([] : List MP), m.p κ w) ∧ NewC w0 κ w []) := by
 have hS := SS.start hfr hR
 refine enter (N := (19)) (L := [(0, .string (a1)), (1, .string (a2)), (2, .string (a3))]) Try.func25 rfl Try.ntmps25 (show 3 ≤ (19) by decide) rfl fun a hF => ?_
 unfold M.span_Within at H
 refine wpIn_seq_k fun K4 hK4 => ?_
 refine wpIn_region_lit ?_
 refine wp 1 [0, 1, 2] hF fun a hF => ?_
 refine wpListIn_nil ?_
 refine hK4 _ _ ?_
 refine wpIn_seq_k fun K5 hK5 => ?_
 refine wpIn_region_lit ?_
 refine bind_split H (fun v7 hv7 H => ?_)
 refine wl_join (fun a w => ∃ κ : Gh, Fr (19) [] [(6, vb v7)] a ∧ SS [] κ0 w0 κ w [] [] ∧ True) ?_ ?_
 refine wp 4 [0, 2, 10] hF fun a hF => ?_
 refine bif_split hv7 (fun hb hv7 => ?_) (fun hb hv7 => ?_)
 have hF := hF.boolv 10 (by kernel_rfl) hb
 refine wp 3 [0, 2, 10, 13] hF fun a hF => ?_
 refine bif_split hv7 (fun hb hv7 => ?_) (fun hb hv7 => ?_)
 have hF := hF.boolv 13 (by kernel_rfl) hb
 refine wp 6 [6] hF fun a hF => ?_
 refine wpListIn_nil ?_
 cases hv7
 exact ⟨_, hF.kp [6], hS.sp [] [], trivial⟩
 have hF := hF.boolv 13 (by kernel_rfl) hb
 refine wp 6 [6] hF fun a hF => ?_
 refine wpListIn_nil ?_
 cases hv7
 exact ⟨_, hF.kp [6], hS.sp [] [], trivial⟩
 have hF := hF.boolv 10 (by kernel_rfl) hb
 refine wp 9 [6] hF fun a hF => ?_
 refine wpListIn_nil ?_
 cases hv7
 exact ⟨_, hF.kp [6], hS.sp [] [], trivial⟩
 rintro a w ⟨κ, hF, hS, -⟩
 refine hK5 _ _ ?_
 refine wpIn_ret ?_
 cases H
 exact (ret_done hF hS (res1 Try.results25 (rvt hF)) ⟨rfl, (hS.pick [] (by kernel_rfl)).ro, hS.newC [] (by decide) (by kernel_rfl)⟩)
set_option maxRecDepth 20000 in
set_option maxHeartbeats 8000000 in
theorem C_span_Whole (N : Nat) {κ0 : Gh} {w0 : World} (hfr : Fresh κ0 w0) (a1 : Int)  (hR : ∀ m ∈ ([] : List MP), m.p κ0 w0) {r : (T_api_Map)} (H : M.span_Whole N a1 = some r) :
    Calls Try.prog 78 #[vi a1] w0 (Post [] κ0 w0 fun v κ w => ∃ (p6 : Option Addr) (c7 : Nat) (p8 : Option Addr) (c9 : Nat), v = .agg (flat [sl p6 (r.Cuts).length c7, sl p8 (r.Nodes).length c9]).toArray ∧ (∀ m ∈ ([Ro.mp fStr.ty p6 c7 r.Cuts, Ro.mp (fInt .i64).ty p8 c9 r.Nodes] : List MP), m.p κ w) ∧ NewC w0 κ w [.tok p6 9 1 (r.Cuts).length c7, .tok p8 3 1 (r.Nodes).length c9]) := by
 have hS := SS.start hfr hR
 refine enter (N := (6)) (L := [(0, vi a1)]) Try.func78 rfl Try.ntmps78 (show 1 ≤ (6) by decide) rfl fun a hF => ?_
 unfold M.span_Whole at H
 refine wpIn_seq_k fun K2 hK2 => ?_
 refine wpIn_region_lit ?_
 refine wc (wal hF hS [sl none 0 0, sl none 0 0] (sgN 2 sgNil) fun b3 a w hF hS => ?_)
 refine wpListIn_nil ?_
 refine hK2 _ _ ?_
 refine wpIn_seq_k fun K4 hK4 => ?_
 refine wpIn_region_lit ?_
 refine wl_pure (L' := [(2, pt b3 0), (3, vi a1)]) 1 [2, 3] hF (by kernel_rfl) fun a hF => ?_
 refine wc (wo_buildN (t := (fInt .i64)) (z := vi 0) (l := [a1]) (vs := [(0, vi a1)]) (cells := #[vi a1]) (E := 3) hF hS (by kernel_rfl) rfl (by kernel_rfl) (by kernel_rfl) rfl (by kernel_rfl) (by kernel_rfl) (by kernel_rfl) (by kernel_rfl) (by kernel_rfl) fun p5 κ a w hF hS => ?_)
 refine wp 1 [2, 5] hF fun a hF => ?_
 refine wc (wst hF hS 1 0 2 [sl none 0 0, sl p5 ([a1]).length 1] (sgN 2 sgNil) fun a w hF hS => ?_)
 refine wpListIn_nil ?_
 refine hK4 _ _ ?_
 refine wpIn_ret ?_
 have hS' := hS
 have hS := hS.add (m := Ro.mp fStr.ty none 0 ([] : List ByteArray)) (Ro.nil fStr.ty _ _)
 have hS := hS.addNil 9 1
 cases H
 exact (ret_done hF hS (res1 Try.results78 (rvs hF hS' 1 0 2)) ⟨none, 0, p5, 1, rfl, (hS.pick [0, 1] (by kernel_rfl)).ro, hS.newC [0, 1] (by decide) (by kernel_rfl)⟩)
set_option maxRecDepth 20000 in
set_option maxHeartbeats 8000000 in
theorem C_span_Check (N : Nat) {κ0 : Gh} {w0 : World} (hfr : Fresh κ0 w0) (a1 : T_api_Map) (a6 : Int) (p2 : Option Addr) (c3 : Nat) (p4 : Option Addr) (c5 : Nat) (hR : ∀ m ∈ ([Ro.mp fStr.ty p2 c3 a1.Cuts, Ro.mp (fInt .i64).ty p4 c5 a1.Nodes] : List MP), m.p κ0 w0) {r : (Int)} (H : M.span_Check N a1 a6 = some r) :
    Calls Try.prog 15 #[.agg (flat [sl p2 (a1.Cuts).length c3, sl p4 (a1.Nodes).length c5]).toArray, vi a6] w0 (Post [] κ0 w0 fun v κ w => v = vi r ∧ (∀ m ∈ ([] : List MP), m.p κ w) ∧ NewC w0 κ w []) := by
 have hS := SS.start hfr hR
 refine enter (N := (70)) (L := [(0, .agg (flat [sl p2 (a1.Cuts).length c3, sl p4 (a1.Nodes).length c5]).toArray), (1, vi a6)]) Try.func15 rfl Try.ntmps15 (show 2 ≤ (70) by decide) rfl fun a hF => ?_
 unfold M.span_Check at H
 refine wpIn_seq_k fun K7 hK7 => ?_
 refine wpIn_region_lit ?_
 refine wc (wbx hF hS [sl p2 (a1.Cuts).length c3, sl p4 (a1.Nodes).length c5] (sgN 2 sgNil) fun b8 a w hF hS => ?_)
 refine wp 1 [1, 2] hF fun a hF => ?_
 refine wpListIn_nil ?_
 refine hK7 _ _ ?_
 refine wpIn_seq_k fun K9 hK9 => ?_
 refine wpIn_seq_k fun K10 hK10 => ?_
 refine wpIn_region_lit ?_
 refine bind_split H (fun v12 hv12 H => ?_)
 refine wl_join (fun a w => ∃ κ : Gh, Fr (70) [] [(1, vi a6), (2, pt b8 0), (14, vb v12)] a ∧ SS [] κ0 w0 κ w [.box b8 25 [sl p2 (a1.Cuts).length c3, sl p4 (a1.Nodes).length c5]] [Ro.mp fStr.ty p2 c3 a1.Cuts, Ro.mp (fInt .i64).ty p4 c5 a1.Nodes] ∧ True) ?_ ?_
 refine wp 3 [1, 2, 11] hF fun a hF => ?_
 refine bif_split hv12 (fun hb hv12 => ?_) (fun hb hv12 => ?_)
 have hF := hF.boolv 11 (by kernel_rfl) hb
 refine wp 3 [1, 2, 14] hF fun a hF => ?_
 refine wpListIn_nil ?_
 cases hv12
 exact ⟨_, hF.kp [1, 2, 14], hS.sp [0] [0, 1], trivial⟩
 have hF := hF.boolv 11 (by kernel_rfl) hb
 refine wp 3 [1, 2, 14] hF fun a hF => ?_
 refine wpListIn_nil ?_
 cases hv12
 exact ⟨_, hF.kp [1, 2, 14], hS.sp [0] [0, 1], trivial⟩
 rintro a w ⟨κ, hF, hS, -⟩
 refine hK10 _ _ ?_
 refine bif_split H (fun hb H => ?_) (fun hb H => ?_)
 refine cond_t hF (by kernel_rfl) hb ?_
 refine wpIn_seq_k fun K13 hK13 => ?_
 refine wpIn_region_lit ?_
 refine wp 1 [4] hF fun a hF => ?_
 refine wpListIn_nil ?_
 refine hK13 _ _ ?_
 refine wpIn_ret ?_
 cases H
 exact (ret_done hF hS (res1 Try.results15 (rvt hF)) ⟨rfl, (hS.pick [] (by kernel_rfl)).ro, hS.newC [] (by decide) (by kernel_rfl)⟩)
 refine cond_f hF (by kernel_rfl) hb ?_
 refine wpIn_skip ?_
 refine hK9 _ _ ?_
 refine wpIn_seq_k fun K14 hK14 => ?_
 refine wpIn_seq_k fun K15 hK15 => ?_
 refine wpIn_region_lit ?_
 refine wp 1 [1, 2, 15] hF fun a hF => ?_
 refine wc (wld hF hS 0 1 0 fun a hF => ?_)
 refine wp 2 [1, 2, 18] hF fun a hF => ?_
 refine wpListIn_nil ?_
 refine hK15 _ _ ?_
 refine bif_split H (fun hb H => ?_) (fun hb H => ?_)
 refine cond_t hF (by kernel_rfl) hb ?_
 refine wpIn_seq_k fun K16 hK16 => ?_
 refine wpIn_region_lit ?_
 refine wp 1 [4] hF fun a hF => ?_
 refine wpListIn_nil ?_
 refine hK16 _ _ ?_
 refine wpIn_ret ?_
 cases H
 exact (ret_done hF hS (res1 Try.results15 (rvt hF)) ⟨rfl, (hS.pick [] (by kernel_rfl)).ro, hS.newC [] (by decide) (by kernel_rfl)⟩)
 refine cond_f hF (by kernel_rfl) hb ?_
 refine wpIn_skip ?_
 refine hK14 _ _ ?_
 refine wpIn_seq_k fun K17 hK17 => ?_
 refine wpIn_seq_k fun K18 hK18 => ?_
 refine wpIn_region_lit ?_
 refine wp 1 [1, 2, 19] hF fun a hF => ?_
 refine wc (wld hF hS 0 1 0 fun a hF => ?_)
 refine wp 2 [1, 2, 21, 22] hF fun a hF => ?_
 refine wc (wld hF hS 0 0 0 fun a hF => ?_)
 refine wp 3 [1, 2, 26] hF fun a hF => ?_
 refine wpListIn_nil ?_
 refine hK18 _ _ ?_
 refine bif_split H (fun hb H => ?_) (fun hb H => ?_)
 refine cond_t hF (by kernel_rfl) hb ?_
 refine wpIn_seq_k fun K19 hK19 => ?_
 refine wpIn_region_lit ?_
 refine wp 1 [4] hF fun a hF => ?_
 refine wpListIn_nil ?_
 refine hK19 _ _ ?_
 refine wpIn_ret ?_
 cases H
 exact (ret_done hF hS (res1 Try.results15 (rvt hF)) ⟨rfl, (hS.pick [] (by kernel_rfl)).ro, hS.newC [] (by decide) (by kernel_rfl)⟩)
 refine cond_f hF (by kernel_rfl) hb ?_
 refine wpIn_skip ?_
 refine hK17 _ _ ?_
 refine wpIn_seq_k fun K20 hK20 => ?_
 refine wpIn_seq_k fun K21 hK21 => ?_
 refine wpIn_region_lit ?_
 refine wp 1 [1, 2, 27] hF fun a hF => ?_
 refine wc (wld hF hS 0 0 0 fun a hF => ?_)
 refine wp 2 [1, 2, 28, 29, 30] hF fun a hF => ?_
 refine wpListIn_nil ?_
 refine hK21 _ _ ?_
 refine wpIn_block ?_
 refine loop_fuel (n := N) (fun n a w => ∃ (κ : Gh) (y72 : Int), Fr (70) [] [(1, vi a6), (2, pt b8 0), (28, .slice p2 (a1.Cuts).length c3), (29, vi ((a1.Cuts).length : Int)), (30, vi y72)] a ∧ SS [] κ0 w0 κ w [.box b8 25 [sl p2 (a1.Cuts).length c3, sl p4 (a1.Nodes).length c5]] [Ro.mp fStr.ty p2 c3 a1.Cuts, Ro.mp (fInt .i64).ty p4 c5 a1.Nodes] ∧ M.span_Check_L1 N n a1 a6 y72 = some r) ?_ ?_
 exact ⟨_, 0, hF.kp [1, 2, 28, 29, 30], hS.sp [0] [0, 1], H⟩
 rintro n a w ⟨κ, y72, hF, hS, H⟩
 rcases n with _ | fuel1
 simp [M.span_Check_L1] at H
 simp only [M.span_Check_L1] at H
 refine wpIn_seq_k fun K73 hK73 => ?_
 refine wpIn_region_lit ?_
 refine wp 1 [1, 2, 28, 29, 30, 31] hF fun a hF => ?_
 refine wpListIn_nil ?_
 refine hK73 _ _ ?_
 refine wpIn_seq_k fun K74 hK74 => ?_
 refine bif_split H (fun hb H => ?_) (fun hb H => ?_)
 refine cond_t hF (by kernel_rfl) hb ?_
 refine wpIn_skip ?_
 refine hK74 _ _ ?_
 refine wpIn_seq_k fun K75 hK75 => ?_
 refine wpIn_block ?_
 refine wpIn_seq_k fun K76 hK76 => ?_
 refine wpIn_region_lit ?_
 refine wl_pure (L' := [(1, vi a6), (2, pt b8 0), (28, .slice p2 (a1.Cuts).length c3), (29, vi ((a1.Cuts).length : Int)), (30, vi y72), (32, vi y72)]) 1 [1, 2, 28, 29, 30, 32] hF (by kernel_rfl) fun a hF => ?_
 refine bind_split H (fun x77 hx77 H => ?_)
 refine wc (wo_index hF hS (by kernel_rfl) 0 (E := 9) (sz := 1) rfl rfl rfl (by kernel_rfl) rfl hx77 (by kernel_rfl) (by kernel_rfl) fun b78 f79 a hpx77 hF => ?_)
 refine wc (wo_loadRo (t := fStr) hF hS (by kernel_rfl) 0 0 (v := .string (x77)) rfl rfl hpx77 rfl hx77 (by kernel_rfl) (by kernel_rfl) (by kernel_rfl) fun a hF => ?_)
 refine wp 2 [1, 2, 5, 6, 28, 29, 30] hF fun a hF => ?_
 refine wpListIn_nil ?_
 refine hK76 _ _ ?_
 refine wpIn_seq_k fun K80 hK80 => ?_
 refine wpIn_seq_k fun K81 hK81 => ?_
 refine wpIn_region_lit ?_
 refine wp 3 [1, 2, 5, 6, 28, 29, 30, 37] hF fun a hF => ?_
 refine wpListIn_nil ?_
 refine hK81 _ _ ?_
 refine bif_split H (fun hb H => ?_) (fun hb H => ?_)
 refine cond_t hF (by kernel_rfl) hb ?_
 refine wpIn_seq_k fun K82 hK82 => ?_
 refine wpIn_region_lit ?_
 refine wp 1 [4] hF fun a hF => ?_
 refine wpListIn_nil ?_
 refine hK82 _ _ ?_
 refine wpIn_ret ?_
 cases H
 exact (ret_done hF hS (res1 Try.results15 (rvt hF)) ⟨rfl, (hS.pick [] (by kernel_rfl)).ro, hS.newC [] (by decide) (by kernel_rfl)⟩)
 refine cond_f hF (by kernel_rfl) hb ?_
 refine wpIn_skip ?_
 refine hK80 _ _ ?_
 refine wpIn_seq_k fun K83 hK83 => ?_
 refine wpIn_region_lit ?_
 refine bind_split H (fun v85 hv85 H => ?_)
 refine wl_join (fun a w => ∃ κ : Gh, Fr (70) [] [(1, vi a6), (2, pt b8 0), (28, .slice p2 (a1.Cuts).length c3), (29, vi ((a1.Cuts).length : Int)), (30, vi y72), (53, vb v85)] a ∧ SS [] κ0 w0 κ w [.box b8 25 [sl p2 (a1.Cuts).length c3, sl p4 (a1.Nodes).length c5]] [Ro.mp fStr.ty p2 c3 a1.Cuts, Ro.mp (fInt .i64).ty p4 c5 a1.Nodes] ∧ True) ?_ ?_
 refine wp 3 [1, 2, 5, 6, 28, 29, 30, 40] hF fun a hF => ?_
 refine bif_split hv85 (fun hb hv85 => ?_) (fun hb hv85 => ?_)
 have hF := hF.boolv 40 (by kernel_rfl) hb
 refine wp 13 [1, 2, 28, 29, 30, 53] hF fun a hF => ?_
 refine wpListIn_nil ?_
 cases hv85
 exact ⟨_, hF.kp [1, 2, 28, 29, 30, 53], hS.sp [0] [0, 1], trivial⟩
 have hF := hF.boolv 40 (by kernel_rfl) hb
 refine wp 3 [1, 2, 5, 6, 28, 29, 30, 40, 43] hF fun a hF => ?_
 refine bif_split hv85 (fun hb hv85 => ?_) (fun hb hv85 => ?_)
 have hF := hF.boolv 43 (by kernel_rfl) hb
 refine wp 1 [1, 2, 5, 6, 28, 29, 30, 40, 43, 44] hF fun a hF => ?_
 refine wcg hF (wld hF hS 0 0 0 fun a hF => ?_)
 refine wl_pure (L' := [(1, vi a6), (2, pt b8 0), (6, .string (x77)), (28, .slice p2 (a1.Cuts).length c3), (29, vi ((a1.Cuts).length : Int)), (30, vi y72), (40, vb false), (43, vb true), (45, .slice p2 (a1.Cuts).length c3), (47, vi (IntKind.i64.wrap (y72 - 1)))]) 2 [1, 2, 6, 28, 29, 30, 40, 43, 45, 47] hF (by kernel_rfl) fun a hF => ?_
 refine bind_split hv85 (fun x86 hx86 hv85 => ?_)
 refine wcg hF (wo_index hF hS (by kernel_rfl) 0 (E := 9) (sz := 1) rfl rfl rfl (by kernel_rfl) rfl hx86 (by kernel_rfl) (by kernel_rfl) fun b87 f88 a hpx86 hF => ?_)
 refine wcg hF (wo_loadRo (t := fStr) hF hS (by kernel_rfl) 0 0 (v := .string (x86)) rfl rfl hpx86 rfl hx86 (by kernel_rfl) (by kernel_rfl) (by kernel_rfl) fun a hF => ?_)
 refine wp 4 [1, 2, 28, 29, 30, 53] hF fun a hF => ?_
 refine wpListIn_nil ?_
 cases hv85
 exact ⟨_, hF.kp [1, 2, 28, 29, 30, 53], hS.sp [0] [0, 1], trivial⟩
 have hF := hF.boolv 43 (by kernel_rfl) hb
 refine wp 10 [1, 2, 28, 29, 30, 53] hF fun a hF => ?_
 refine wpListIn_nil ?_
 cases hv85
 exact ⟨_, hF.kp [1, 2, 28, 29, 30, 53], hS.sp [0] [0, 1], trivial⟩
 rintro a w ⟨κ, hF, hS, -⟩
 refine hK83 _ _ ?_
 refine bif_split H (fun hb H => ?_) (fun hb H => ?_)
 refine cond_t hF (by kernel_rfl) hb ?_
 refine wpIn_seq_k fun K89 hK89 => ?_
 refine wpIn_region_lit ?_
 refine wp 1 [4] hF fun a hF => ?_
 refine wpListIn_nil ?_
 refine hK89 _ _ ?_
 refine wpIn_ret ?_
 cases H
 exact (ret_done hF hS (res1 Try.results15 (rvt hF)) ⟨rfl, (hS.pick [] (by kernel_rfl)).ro, hS.newC [] (by decide) (by kernel_rfl)⟩)
 refine cond_f hF (by kernel_rfl) hb ?_
 refine wpIn_skip ?_
 refine hK75 _ _ ?_
 refine wpIn_region_lit ?_
 refine wp 2 [1, 2, 28, 29, 30] hF fun a hF => ?_
 refine wpListIn_nil ?_
 exact ⟨fuel1, Nat.lt_succ_self _, _, IntKind.i64.wrap (y72 + 1), hF.kp [1, 2, 28, 29, 30], hS.sp [0] [0, 1], H⟩
 refine cond_f hF (by kernel_rfl) hb ?_
 refine wpIn_exit ?_
 refine hK20 _ _ ?_
 refine wpIn_seq_k fun K90 hK90 => ?_
 refine wpIn_seq_k fun K91 hK91 => ?_
 refine wpIn_region_lit ?_
 refine wp 1 [1, 55] hF fun a hF => ?_
 refine wc (wld hF hS 0 1 0 fun a hF => ?_)
 refine wp 2 [1, 56, 57, 58] hF fun a hF => ?_
 refine wpListIn_nil ?_
 refine hK91 _ _ ?_
 refine wpIn_block ?_
 refine loop_fuel (n := N) (fun n a w => ∃ (κ : Gh) (y142 : Int), Fr (70) [] [(1, vi a6), (56, .slice p4 (a1.Nodes).length c5), (57, vi ((a1.Nodes).length : Int)), (58, vi y142)] a ∧ SS [] κ0 w0 κ w [] [Ro.mp (fInt .i64).ty p4 c5 a1.Nodes] ∧ M.span_Check_L2 N n a1 a6 y142 = some r) ?_ ?_
 exact ⟨_, 0, hF.kp [1, 56, 57, 58], hS.sp [] [1], H⟩
 rintro n a w ⟨κ, y142, hF, hS, H⟩
 rcases n with _ | fuel2
 simp [M.span_Check_L2] at H
 simp only [M.span_Check_L2] at H
 refine wpIn_seq_k fun K143 hK143 => ?_
 refine wpIn_region_lit ?_
 refine wl_pure (L' := [(1, vi a6), (56, .slice p4 (a1.Nodes).length c5), (57, vi ((a1.Nodes).length : Int)), (58, vi y142), (59, vb (decide (y142 < ((a1.Nodes).length : Int))))]) 1 [1, 56, 57, 58, 59] hF (by kernel_rfl) fun a hF => ?_
 refine wpListIn_nil ?_
 refine hK143 _ _ ?_
 refine wpIn_seq_k fun K144 hK144 => ?_
 refine bif_split H (fun hb H => ?_) (fun hb H => ?_)
 refine cond_t hF (by kernel_rfl) hb ?_
 refine wpIn_skip ?_
 refine hK144 _ _ ?_
 refine wpIn_seq_k fun K145 hK145 => ?_
 refine wpIn_block ?_
 refine wpIn_seq_k fun K146 hK146 => ?_
 refine wpIn_region_lit ?_
 refine bind_split H (fun x147 hx147 H => ?_)
 refine wc (wo_index hF hS (by kernel_rfl) 0 (E := 3) (sz := 1) rfl rfl rfl (by kernel_rfl) rfl hx147 (by kernel_rfl) (by kernel_rfl) fun b148 f149 a hpx147 hF => ?_)
 refine wc (wo_loadRo (t := (fInt .i64)) hF hS (by kernel_rfl) 0 0 (v := vi x147) rfl rfl hpx147 rfl hx147 (by kernel_rfl) (by kernel_rfl) (by kernel_rfl) fun a hF => ?_)
 refine wp 1 [1, 8, 56, 57, 58] hF fun a hF => ?_
 refine wpListIn_nil ?_
 refine hK146 _ _ ?_
 refine wpIn_seq_k fun K150 hK150 => ?_
 refine wpIn_region_lit ?_
 refine bind_split H (fun v152 hv152 H => ?_)
 refine wl_join (fun a w => ∃ κ : Gh, Fr (70) [] [(1, vi a6), (56, .slice p4 (a1.Nodes).length c5), (57, vi ((a1.Nodes).length : Int)), (58, vi y142), (68, vb v152)] a ∧ SS [] κ0 w0 κ w [] [Ro.mp (fInt .i64).ty p4 c5 a1.Nodes] ∧ True) ?_ ?_
 refine wp 3 [1, 8, 56, 57, 58, 64] hF fun a hF => ?_
 refine bif_split hv152 (fun hb hv152 => ?_) (fun hb hv152 => ?_)
 have hF := hF.boolv 64 (by kernel_rfl) hb
 refine wp 4 [1, 56, 57, 58, 68] hF fun a hF => ?_
 refine wpListIn_nil ?_
 cases hv152
 exact ⟨_, hF.kp [1, 56, 57, 58, 68], hS.sp [] [0], trivial⟩
 have hF := hF.boolv 64 (by kernel_rfl) hb
 refine wp 4 [1, 56, 57, 58, 68] hF fun a hF => ?_
 refine wpListIn_nil ?_
 cases hv152
 exact ⟨_, hF.kp [1, 56, 57, 58, 68], hS.sp [] [0], trivial⟩
 rintro a w ⟨κ, hF, hS, -⟩
 refine hK150 _ _ ?_
 refine bif_split H (fun hb H => ?_) (fun hb H => ?_)
 refine cond_t hF (by kernel_rfl) hb ?_
 refine wpIn_seq_k fun K153 hK153 => ?_
 refine wpIn_region_lit ?_
 refine wp 1 [4] hF fun a hF => ?_
 refine wpListIn_nil ?_
 refine hK153 _ _ ?_
 refine wpIn_ret ?_
 cases H
 exact (ret_done hF hS (res1 Try.results15 (rvt hF)) ⟨rfl, (hS.pick [] (by kernel_rfl)).ro, hS.newC [] (by decide) (by kernel_rfl)⟩)
 refine cond_f hF (by kernel_rfl) hb ?_
 refine wpIn_skip ?_
 refine hK145 _ _ ?_
 refine wpIn_region_lit ?_
 refine wp 2 [1, 56, 57, 58] hF fun a hF => ?_
 refine wpListIn_nil ?_
 exact ⟨fuel2, Nat.lt_succ_self _, _, IntKind.i64.wrap (y142 + 1), hF.kp [1, 56, 57, 58], hS.sp [] [0], H⟩
 refine cond_f hF (by kernel_rfl) hb ?_
 refine wpIn_exit ?_
 refine hK90 _ _ ?_
 refine wpIn_seq_k fun K154 hK154 => ?_
 refine wpIn_region_lit ?_
 refine wp 1 [4] hF fun a hF => ?_
 refine wpListIn_nil ?_
 refine hK154 _ _ ?_
 refine wpIn_ret ?_
 cases H
 exact (ret_done hF hS (res1 Try.results15 (rvt hF)) ⟨rfl, (hS.pick [] (by kernel_rfl)).ro, hS.newC [] (by decide) (by kernel_rfl)⟩)
end Go.Cf
