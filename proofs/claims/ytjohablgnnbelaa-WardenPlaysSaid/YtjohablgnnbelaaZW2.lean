/- The walks: each function returns what its model says. Printed by a program of ours. -/
import Derived.Test.YtjohablgnnbelaaZM1
import Derived.Test.YtjohablgnnbelaaZW1
namespace Go.Cf
open Go Go.Proofs
set_option linter.unusedVariables false
set_option maxRecDepth 20000 in
set_option maxHeartbeats 1000000 in
theorem C_ref08_Same (N : Nat) {κ0 : Gh} {w0 : World} (hfr : Fresh κ0 w0) (a1 : T_api_Map) (a6 : T_api_Map) (p2 : Option Addr) (c3 : Nat) (p4 : Option Addr) (c5 : Nat) (p7 : Option Addr) (c8 : Nat) (p9 : Option Addr) (c10 : Nat) (hR : ∀ m ∈ ([Ro.mp fStr.ty p2 c3 a1.Cuts, Ro.mp (fInt .i64).ty p4 c5 a1.Nodes, Ro.mp fStr.ty p7 c8 a6.Cuts, Ro.mp (fInt .i64).ty p9 c10 a6.Nodes] : List MP), m.p κ0 w0) {r : (Bool)} (H : M.ref08_Same N a1 a6 = some r) :
    Calls Try.prog 44 #[.agg (flat [sl p2 (a1.Cuts).length c3, sl p4 (a1.Nodes).length c5]).toArray, .agg (flat [sl p7 (a6.Cuts).length c8, sl p9 (a6.Nodes).length c10]).toArray] w0 (Post [] κ0 w0 fun v κ w => v = vb r ∧ (∀ m ∈ ([] : List MP), m.p κ w) ∧ NewC w0 κ w []) := by
 have hS := SS.start hfr hR
 refine enter (N := (59)) (L := [(0, .agg (flat [sl p2 (a1.Cuts).length c3, sl p4 (a1.Nodes).length c5]).toArray), (1, .agg (flat [sl p7 (a6.Cuts).length c8, sl p9 (a6.Nodes).length c10]).toArray)]) Try.func44 rfl Try.ntmps44 (show 2 ≤ (59) by decide) rfl fun a hF => ?_
 unfold M.ref08_Same at H
 refine wpIn_seq_k fun K11 hK11 => ?_
 refine wpIn_region_lit ?_
 refine wc (wbx hF hS [sl p2 (a1.Cuts).length c3, sl p4 (a1.Nodes).length c5] (sgN 2 sgNil) fun b12 a w hF hS => ?_)
 refine wc (wbx hF hS [sl p7 (a6.Cuts).length c8, sl p9 (a6.Nodes).length c10] (sgN 2 sgNil) fun b13 a w hF hS => ?_)
 refine wp 1 [2, 3] hF fun a hF => ?_
 refine wpListIn_nil ?_
 refine hK11 _ _ ?_
 refine wpIn_seq_k fun K14 hK14 => ?_
 refine wpIn_seq_k fun K15 hK15 => ?_
 refine wpIn_region_lit ?_
 refine bind_split H (fun v17 hv17 H => ?_)
 refine wl_join (fun a w => ∃ κ : Gh, Fr (59) [] [(2, pt b12 0), (3, pt b13 0), (22, vb v17)] a ∧ SS [] κ0 w0 κ w [.box b13 26 [sl p7 (a6.Cuts).length c8, sl p9 (a6.Nodes).length c10], .box b12 26 [sl p2 (a1.Cuts).length c3, sl p4 (a1.Nodes).length c5]] [Ro.mp fStr.ty p7 c8 a6.Cuts, Ro.mp (fInt .i64).ty p9 c10 a6.Nodes, Ro.mp fStr.ty p2 c3 a1.Cuts, Ro.mp (fInt .i64).ty p4 c5 a1.Nodes] ∧ True) ?_ ?_
 refine wp 1 [2, 3, 7] hF fun a hF => ?_
 refine wc (wld hF hS 1 0 0 fun a hF => ?_)
 refine wp 2 [2, 3, 9, 10] hF fun a hF => ?_
 refine wc (wld hF hS 0 0 0 fun a hF => ?_)
 refine wp 3 [2, 3, 14] hF fun a hF => ?_
 refine bif_split hv17 (fun hb hv17 => ?_) (fun hb hv17 => ?_)
 have hF := hF.boolv 14 (by kernel_rfl) hb
 refine wp 8 [2, 3, 22] hF fun a hF => ?_
 refine wpListIn_nil ?_
 cases hv17
 exact ⟨_, hF.kp [2, 3, 22], hS.sp [0, 1] [2, 3, 0, 1], trivial⟩
 have hF := hF.boolv 14 (by kernel_rfl) hb
 refine wp 1 [2, 3, 14, 15] hF fun a hF => ?_
 refine wcg hF (wld hF hS 1 1 0 fun a hF => ?_)
 refine wp 2 [2, 3, 14, 17, 18] hF fun a hF => ?_
 refine wcg hF (wld hF hS 0 1 0 fun a hF => ?_)
 refine wp 3 [2, 3, 22] hF fun a hF => ?_
 refine wpListIn_nil ?_
 cases hv17
 exact ⟨_, hF.kp [2, 3, 22], hS.sp [0, 1] [2, 3, 0, 1], trivial⟩
 rintro a w ⟨κ, hF, hS, -⟩
 refine hK15 _ _ ?_
 refine bif_split H (fun hb H => ?_) (fun hb H => ?_)
 refine cond_t hF (by kernel_rfl) hb ?_
 refine wpIn_seq_k fun K18 hK18 => ?_
 refine wpIn_region_lit ?_
 refine wp 1 [4] hF fun a hF => ?_
 refine wpListIn_nil ?_
 refine hK18 _ _ ?_
 refine wpIn_ret ?_
 cases H
 exact (ret_done hF hS (res1 Try.results44 (rvt hF)) ⟨rfl, (hS.pick [] (by kernel_rfl)).ro, hS.newC [] (by decide) (by kernel_rfl)⟩)
 refine cond_f hF (by kernel_rfl) hb ?_
 refine wpIn_skip ?_
 refine hK14 _ _ ?_
 refine wpIn_seq_k fun K19 hK19 => ?_
 refine wpIn_seq_k fun K20 hK20 => ?_
 refine wpIn_region_lit ?_
 refine wp 1 [2, 3, 5] hF fun a hF => ?_
 refine wpListIn_nil ?_
 refine hK20 _ _ ?_
 refine wpIn_block ?_
 refine loop_fuel (n := N) (fun n a w => ∃ (κ : Gh) (y71 : Int), Fr (59) [] [(2, pt b12 0), (3, pt b13 0), (5, vi y71)] a ∧ SS [] κ0 w0 κ w [.box b13 26 [sl p7 (a6.Cuts).length c8, sl p9 (a6.Nodes).length c10], .box b12 26 [sl p2 (a1.Cuts).length c3, sl p4 (a1.Nodes).length c5]] [Ro.mp fStr.ty p7 c8 a6.Cuts, Ro.mp (fInt .i64).ty p9 c10 a6.Nodes, Ro.mp fStr.ty p2 c3 a1.Cuts, Ro.mp (fInt .i64).ty p4 c5 a1.Nodes] ∧ M.ref08_Same_L1 N n a1 a6 y71 = some r) ?_ ?_
 exact ⟨_, 0, hF.kp [2, 3, 5], hS.sp [0, 1] (rg 4), H⟩
 rintro n a w ⟨κ, y71, hF, hS, H⟩
 rcases n with _ | fuel1
 simp [M.ref08_Same_L1] at H
 simp only [M.ref08_Same_L1] at H
 refine wpIn_seq_k fun K72 hK72 => ?_
 refine wpIn_seq_k fun K73 hK73 => ?_
 refine wpIn_region_lit ?_
 refine wp 2 [2, 3, 5, 23, 24] hF fun a hF => ?_
 refine wc (wld hF hS 1 0 0 fun a hF => ?_)
 refine wp 2 [2, 3, 5, 27] hF fun a hF => ?_
 refine wpListIn_nil ?_
 refine hK73 _ _ ?_
 refine bif_split H (fun hb H => ?_) (fun hb H => ?_)
 refine cond_t hF (by kernel_rfl) hb ?_
 refine wpIn_skip ?_
 refine hK72 _ _ ?_
 refine wpIn_seq_k fun K74 hK74 => ?_
 refine wpIn_block ?_
 refine wpIn_seq_k fun K75 hK75 => ?_
 refine rgS hS [] ?_
 have hS := hS.drew
 refine any_pure [0, 2, 5, 7] [2, 3, 5, 30, 32, 35, 37] (L' := [(2, pt b12 0), (3, pt b13 0), (5, vi y71), (30, pt b12 0), (32, vi y71), (35, pt b13 0), (37, vi y71)]) (listed' := (bitA 11 165)) (fuel := 7) hF (hS.sx [0, 1] (rg 4)) (by kernel_rfl) (by intro c a w t v h; cases t <;> exact h) (by kernel_rfl) rfl fun a hF => ?_
 refine atk 1 (some 31) hF (hS.sx [0, 1] (rg 4)) rfl (vld 1 0 0) fun a hF => ?_
 refine bind_split H (fun x76 hx76 H => ?_)
 obtain ⟨b77, f78, hpx76⟩ := hS.ptr 2 rfl hx76
 refine atk 3 (some 33) hF (hS.sx [0, 1] (rg 4)) rfl (fun w _ => val_index (E := 9) (sz := 1) rfl hpx76 rfl (by kernel_rfl) rfl hx76 (by kernel_rfl) (by kernel_rfl) w) fun a hF => ?_
 refine atk 4 (some 34) hF (hS.sx [0, 1] (rg 4)) rfl (val_loadRo (t := fStr) 2 0 (v := .string (x76)) rfl rfl hpx76 rfl hx76 (by kernel_rfl) (by kernel_rfl) (by kernel_rfl)) fun a hF => ?_
 refine atk 6 (some 36) hF (hS.sx [0, 1] (rg 4)) rfl (vld 0 0 0) fun a hF => ?_
 refine bind_split H (fun x79 hx79 H => ?_)
 obtain ⟨b80, f81, hpx79⟩ := hS.ptr 0 rfl hx79
 refine atk 8 (some 38) hF (hS.sx [0, 1] (rg 4)) rfl (fun w _ => val_index (E := 9) (sz := 1) rfl hpx79 rfl (by kernel_rfl) rfl hx79 (by kernel_rfl) (by kernel_rfl) w) fun a hF => ?_
 refine atk 9 (some 39) hF (hS.sx [0, 1] (rg 4)) rfl (val_loadRo (t := fStr) 0 0 (v := .string (x79)) rfl rfl hpx79 rfl hx79 (by kernel_rfl) (by kernel_rfl) (by kernel_rfl)) fun a hF => ?_
 refine anp [10] [2, 3, 5, 40] hF (hS.sx [0, 1] (rg 4)) fun a hF => ?_
 refine and_ ?_
 refine hK75 _ _ ?_
 refine bif_split H (fun hb H => ?_) (fun hb H => ?_)
 refine cond_t hF (by kernel_rfl) hb ?_
 refine wpIn_seq_k fun K82 hK82 => ?_
 refine wpIn_region_lit ?_
 refine wp 1 [4] hF fun a hF => ?_
 refine wpListIn_nil ?_
 refine hK82 _ _ ?_
 refine wpIn_ret ?_
 cases H
 exact (ret_done hF hS (res1 Try.results44 (rvt hF)) ⟨rfl, (hS.pick [] (by kernel_rfl)).ro, hS.newC [] (by decide) (by kernel_rfl)⟩)
 refine cond_f hF (by kernel_rfl) hb ?_
 refine wpIn_skip ?_
 refine hK74 _ _ ?_
 refine wpIn_region_lit ?_
 refine wp 3 [2, 3, 5] hF fun a hF => ?_
 refine wpListIn_nil ?_
 exact ⟨fuel1, Nat.lt_succ_self _, _, IntKind.i64.wrap (y71 + 1), hF.kp [2, 3, 5], hS.sp [0, 1] (rg 4), H⟩
 refine cond_f hF (by kernel_rfl) hb ?_
 refine wpIn_exit ?_
 refine hK19 _ _ ?_
 refine wpIn_seq_k fun K83 hK83 => ?_
 refine wpIn_seq_k fun K84 hK84 => ?_
 refine wpIn_region_lit ?_
 refine wp 1 [2, 3, 6] hF fun a hF => ?_
 refine wpListIn_nil ?_
 refine hK84 _ _ ?_
 refine wpIn_block ?_
 refine loop_fuel (n := N) (fun n a w => ∃ (κ : Gh) (y135 : Int), Fr (59) [] [(2, pt b12 0), (3, pt b13 0), (6, vi y135)] a ∧ SS [] κ0 w0 κ w [.box b13 26 [sl p7 (a6.Cuts).length c8, sl p9 (a6.Nodes).length c10], .box b12 26 [sl p2 (a1.Cuts).length c3, sl p4 (a1.Nodes).length c5]] [Ro.mp fStr.ty p7 c8 a6.Cuts, Ro.mp (fInt .i64).ty p9 c10 a6.Nodes, Ro.mp fStr.ty p2 c3 a1.Cuts, Ro.mp (fInt .i64).ty p4 c5 a1.Nodes] ∧ M.ref08_Same_L2 N n a1 a6 y135 = some r) ?_ ?_
 exact ⟨_, 0, hF.kp [2, 3, 6], hS.sp [0, 1] (rg 4), H⟩
 rintro n a w ⟨κ, y135, hF, hS, H⟩
 rcases n with _ | fuel2
 simp [M.ref08_Same_L2] at H
 simp only [M.ref08_Same_L2] at H
 refine wpIn_seq_k fun K136 hK136 => ?_
 refine wpIn_seq_k fun K137 hK137 => ?_
 refine wpIn_region_lit ?_
 refine wp 2 [2, 3, 6, 41, 42] hF fun a hF => ?_
 refine wc (wld hF hS 1 1 0 fun a hF => ?_)
 refine wp 2 [2, 3, 6, 45] hF fun a hF => ?_
 refine wpListIn_nil ?_
 refine hK137 _ _ ?_
 refine bif_split H (fun hb H => ?_) (fun hb H => ?_)
 refine cond_t hF (by kernel_rfl) hb ?_
 refine wpIn_skip ?_
 refine hK136 _ _ ?_
 refine wpIn_seq_k fun K138 hK138 => ?_
 refine wpIn_block ?_
 refine wpIn_seq_k fun K139 hK139 => ?_
 refine rgS hS [] ?_
 have hS := hS.drew
 refine any_pure [0, 2, 5, 7] [2, 3, 6, 48, 50, 53, 55] (L' := [(2, pt b12 0), (3, pt b13 0), (6, vi y135), (48, pt b12 1), (50, vi y135), (53, pt b13 1), (55, vi y135)]) (listed' := (bitA 11 165)) (fuel := 7) hF (hS.sx [0, 1] (rg 4)) (by kernel_rfl) (by intro c a w t v h; cases t <;> exact h) (by kernel_rfl) rfl fun a hF => ?_
 refine atk 1 (some 49) hF (hS.sx [0, 1] (rg 4)) rfl (vld 1 1 0) fun a hF => ?_
 refine bind_split H (fun x140 hx140 H => ?_)
 obtain ⟨b141, f142, hpx140⟩ := hS.ptr 3 rfl hx140
 refine atk 3 (some 51) hF (hS.sx [0, 1] (rg 4)) rfl (fun w _ => val_index (E := 3) (sz := 1) rfl hpx140 rfl (by kernel_rfl) rfl hx140 (by kernel_rfl) (by kernel_rfl) w) fun a hF => ?_
 refine atk 4 (some 52) hF (hS.sx [0, 1] (rg 4)) rfl (val_loadRo (t := (fInt .i64)) 3 0 (v := vi x140) rfl rfl hpx140 rfl hx140 (by kernel_rfl) (by kernel_rfl) (by kernel_rfl)) fun a hF => ?_
 refine atk 6 (some 54) hF (hS.sx [0, 1] (rg 4)) rfl (vld 0 1 0) fun a hF => ?_
 refine bind_split H (fun x143 hx143 H => ?_)
 obtain ⟨b144, f145, hpx143⟩ := hS.ptr 1 rfl hx143
 refine atk 8 (some 56) hF (hS.sx [0, 1] (rg 4)) rfl (fun w _ => val_index (E := 3) (sz := 1) rfl hpx143 rfl (by kernel_rfl) rfl hx143 (by kernel_rfl) (by kernel_rfl) w) fun a hF => ?_
 refine atk 9 (some 57) hF (hS.sx [0, 1] (rg 4)) rfl (val_loadRo (t := (fInt .i64)) 1 0 (v := vi x143) rfl rfl hpx143 rfl hx143 (by kernel_rfl) (by kernel_rfl) (by kernel_rfl)) fun a hF => ?_
 refine anp [10] [2, 3, 6, 58] hF (hS.sx [0, 1] (rg 4)) fun a hF => ?_
 refine and_ ?_
 refine hK139 _ _ ?_
 refine bif_split H (fun hb H => ?_) (fun hb H => ?_)
 refine cond_t hF (by kernel_rfl) hb ?_
 refine wpIn_seq_k fun K146 hK146 => ?_
 refine wpIn_region_lit ?_
 refine wp 1 [4] hF fun a hF => ?_
 refine wpListIn_nil ?_
 refine hK146 _ _ ?_
 refine wpIn_ret ?_
 cases H
 exact (ret_done hF hS (res1 Try.results44 (rvt hF)) ⟨rfl, (hS.pick [] (by kernel_rfl)).ro, hS.newC [] (by decide) (by kernel_rfl)⟩)
 refine cond_f hF (by kernel_rfl) hb ?_
 refine wpIn_skip ?_
 refine hK138 _ _ ?_
 refine wpIn_region_lit ?_
 refine wp 3 [2, 3, 6] hF fun a hF => ?_
 refine wpListIn_nil ?_
 exact ⟨fuel2, Nat.lt_succ_self _, _, IntKind.i64.wrap (y135 + 1), hF.kp [2, 3, 6], hS.sp [0, 1] (rg 4), H⟩
 refine cond_f hF (by kernel_rfl) hb ?_
 refine wpIn_exit ?_
 refine hK83 _ _ ?_
 refine wpIn_seq_k fun K147 hK147 => ?_
 refine wpIn_region_lit ?_
 refine wp 1 [4] hF fun a hF => ?_
 refine wpListIn_nil ?_
 refine hK147 _ _ ?_
 refine wpIn_ret ?_
 cases H
 exact (ret_done hF hS (res1 Try.results44 (rvt hF)) ⟨rfl, (hS.pick [] (by kernel_rfl)).ro, hS.newC [] (by decide) (by kernel_rfl)⟩)
set_option maxRecDepth 20000 in
set_option maxHeartbeats 1000000 in
theorem C_ref08_Ends (N : Nat) {κ0 : Gh} {w0 : World} (hfr : Fresh κ0 w0) (a1 : T_api_Map) (a6 : Int) (p2 : Option Addr) (c3 : Nat) (p4 : Option Addr) (c5 : Nat) (hR : ∀ m ∈ ([Ro.mp fStr.ty p2 c3 a1.Cuts, Ro.mp (fInt .i64).ty p4 c5 a1.Nodes] : List MP), m.p κ0 w0) {r : (ByteArray × ByteArray × Bool)} (H : M.ref08_Ends N a1 a6 = some r) :
    Calls Try.prog 34 #[.agg (flat [sl p2 (a1.Cuts).length c3, sl p4 (a1.Nodes).length c5]).toArray, vi a6] w0 (Post [] κ0 w0 fun v κ w => v = .tuple #[.string (r.1), .string (r.2.1), vb r.2.2] ∧ (∀ m ∈ ([] : List MP), m.p κ w) ∧ NewC w0 κ w []) := by
 have hS := SS.start hfr hR
 refine enter (N := (48)) (L := [(0, .agg (flat [sl p2 (a1.Cuts).length c3, sl p4 (a1.Nodes).length c5]).toArray), (1, vi a6)]) Try.func34 rfl Try.ntmps34 (show 2 ≤ (48) by decide) rfl fun a hF => ?_
 unfold M.ref08_Ends at H
 refine wpIn_seq_k fun K7 hK7 => ?_
 refine wpIn_region_lit ?_
 refine wc (wbx hF hS [sl p2 (a1.Cuts).length c3, sl p4 (a1.Nodes).length c5] (sgN 2 sgNil) fun b8 a w hF hS => ?_)
 refine wp 3 [1, 2] hF fun a hF => ?_
 refine wpListIn_nil ?_
 refine hK7 _ _ ?_
 refine wpIn_seq_k fun K9 hK9 => ?_
 refine wpIn_seq_k fun K10 hK10 => ?_
 refine wpIn_region_lit ?_
 refine bind_split H (fun v12 hv12 H => ?_)
 refine wl_join (fun a w => ∃ κ : Gh, Fr (48) [] [(1, vi a6), (2, pt b8 0), (27, vb v12)] a ∧ SS [] κ0 w0 κ w [.box b8 26 [sl p2 (a1.Cuts).length c3, sl p4 (a1.Nodes).length c5]] [Ro.mp fStr.ty p2 c3 a1.Cuts, Ro.mp (fInt .i64).ty p4 c5 a1.Nodes] ∧ True) ?_ ?_
 refine wp 1 [1, 2, 9] hF fun a hF => ?_
 refine wc (wld hF hS 0 1 0 fun a hF => ?_)
 refine wp 2 [1, 2, 11, 12] hF fun a hF => ?_
 refine wc (wld hF hS 0 0 0 fun a hF => ?_)
 refine wp 4 [1, 2, 17] hF fun a hF => ?_
 refine bif_split hv12 (fun hb hv12 => ?_) (fun hb hv12 => ?_)
 have hF := hF.boolv 17 (by kernel_rfl) hb
 refine wp 10 [1, 2, 27] hF fun a hF => ?_
 refine wpListIn_nil ?_
 cases hv12
 exact ⟨_, hF.kp [1, 2, 27], hS.sp [0] [0, 1], trivial⟩
 have hF := hF.boolv 17 (by kernel_rfl) hb
 refine wp 4 [1, 2, 21] hF fun a hF => ?_
 refine bif_split hv12 (fun hb hv12 => ?_) (fun hb hv12 => ?_)
 have hF := hF.boolv 21 (by kernel_rfl) hb
 refine wp 6 [1, 2, 27] hF fun a hF => ?_
 refine wpListIn_nil ?_
 cases hv12
 exact ⟨_, hF.kp [1, 2, 27], hS.sp [0] [0, 1], trivial⟩
 have hF := hF.boolv 21 (by kernel_rfl) hb
 refine wp 2 [1, 2, 21, 22, 23] hF fun a hF => ?_
 refine wcg hF (wld hF hS 0 1 0 fun a hF => ?_)
 refine wp 3 [1, 2, 27] hF fun a hF => ?_
 refine wpListIn_nil ?_
 cases hv12
 exact ⟨_, hF.kp [1, 2, 27], hS.sp [0] [0, 1], trivial⟩
 rintro a w ⟨κ, hF, hS, -⟩
 refine hK10 _ _ ?_
 refine bif_split H (fun hb H => ?_) (fun hb H => ?_)
 refine cond_t hF (by kernel_rfl) hb ?_
 refine wpIn_seq_k fun K13 hK13 => ?_
 refine wpIn_region_lit ?_
 refine wp 3 [4, 5, 6] hF fun a hF => ?_
 refine wpListIn_nil ?_
 refine hK13 _ _ ?_
 refine wpIn_ret ?_
 cases H
 exact (ret_done hF hS (res3 Try.results34 (rvt hF) (rvt hF) (rvt hF)) ⟨rfl, (hS.pick [] (by kernel_rfl)).ro, hS.newC [] (by decide) (by kernel_rfl)⟩)
 refine cond_f hF (by kernel_rfl) hb ?_
 refine wpIn_skip ?_
 refine hK9 _ _ ?_
 refine wpIn_seq_k fun K14 hK14 => ?_
 refine wpIn_region_lit ?_
 refine wp 2 [1, 2, 7, 8] hF fun a hF => ?_
 refine wpListIn_nil ?_
 refine hK14 _ _ ?_
 refine seq_join (fun a w => ∃ (κ : Gh) (y15 : ByteArray), Fr (48) [] [(1, vi a6), (2, pt b8 0), (7, .string (y15)), (8, .string ((ByteArray.mk #[])))] a ∧ SS [] κ0 w0 κ w [.box b8 26 [sl p2 (a1.Cuts).length c3, sl p4 (a1.Nodes).length c5]] [Ro.mp fStr.ty p2 c3 a1.Cuts, Ro.mp (fInt .i64).ty p4 c5 a1.Nodes] ∧ M.ref08_Ends_k1 N a1 a6 y15 = some r) ?_ ?_
 refine wpIn_seq_k fun K22 hK22 => ?_
 refine wpIn_region_lit ?_
 refine wp 2 [1, 2, 7, 8, 29] hF fun a hF => ?_
 refine wpListIn_nil ?_
 refine hK22 _ _ ?_
 refine bif_split H (fun hb H => ?_) (fun hb H => ?_)
 refine cond_t hF (by kernel_rfl) hb ?_
 refine wpIn_region_lit ?_
 refine wp 1 [1, 2, 8, 30] hF fun a hF => ?_
 refine wc (wld hF hS 0 0 0 fun a hF => ?_)
 refine wl_pure (L' := [(1, vi a6), (2, pt b8 0), (8, .string ((ByteArray.mk #[]))), (31, .slice p2 (a1.Cuts).length c3), (33, vi (IntKind.i64.wrap (a6 - 1)))]) 2 [1, 2, 8, 31, 33] hF (by kernel_rfl) fun a hF => ?_
 refine bind_split H (fun x23 hx23 H => ?_)
 refine wc (wo_index hF hS (by kernel_rfl) 0 (E := 9) (sz := 1) rfl rfl rfl (by kernel_rfl) rfl hx23 (by kernel_rfl) (by kernel_rfl) fun b24 f25 a hpx23 hF => ?_)
 refine wc (wo_loadRo (t := fStr) hF hS (by kernel_rfl) 0 0 (v := .string (x23)) rfl rfl hpx23 rfl hx23 (by kernel_rfl) (by kernel_rfl) (by kernel_rfl) fun a hF => ?_)
 refine wp 1 [1, 2, 7, 8] hF fun a hF => ?_
 refine wpListIn_nil ?_
 exact ⟨_, x23, hF.kp [1, 2, 7, 8], hS.sp [0] [0, 1], H⟩
 refine cond_f hF (by kernel_rfl) hb ?_
 refine wpIn_skip ?_
 exact ⟨_, (ByteArray.mk #[]), hF.kp [1, 2, 7, 8], hS.sp [0] [0, 1], H⟩
 rintro a w ⟨κ, y15, hF, hS, H⟩
 unfold M.ref08_Ends_k1 at H
 refine seq_join (fun a w => ∃ (κ : Gh) (y16 : ByteArray), Fr (48) [] [(7, .string (y15)), (8, .string (y16))] a ∧ SS [] κ0 w0 κ w [] [] ∧ M.ref08_Ends_k2 N y15 y16 = some r) ?_ ?_
 refine wpIn_seq_k fun K18 hK18 => ?_
 refine wpIn_region_lit ?_
 refine wp 2 [1, 2, 7, 8, 36, 37] hF fun a hF => ?_
 refine wc (wld hF hS 0 0 0 fun a hF => ?_)
 refine wp 2 [1, 2, 7, 8, 40] hF fun a hF => ?_
 refine wpListIn_nil ?_
 refine hK18 _ _ ?_
 refine bif_split H (fun hb H => ?_) (fun hb H => ?_)
 refine cond_t hF (by kernel_rfl) hb ?_
 refine wpIn_region_lit ?_
 refine wp 1 [1, 7, 41] hF fun a hF => ?_
 refine wc (wld hF hS 0 0 0 fun a hF => ?_)
 refine wl_pure (L' := [(7, .string (y15)), (42, .slice p2 (a1.Cuts).length c3), (43, vi a6)]) 1 [7, 42, 43] hF (by kernel_rfl) fun a hF => ?_
 refine bind_split H (fun x19 hx19 H => ?_)
 refine wc (wo_index hF hS (by kernel_rfl) 0 (E := 9) (sz := 1) rfl rfl rfl (by kernel_rfl) rfl hx19 (by kernel_rfl) (by kernel_rfl) fun b20 f21 a hpx19 hF => ?_)
 refine wc (wo_loadRo (t := fStr) hF hS (by kernel_rfl) 0 0 (v := .string (x19)) rfl rfl hpx19 rfl hx19 (by kernel_rfl) (by kernel_rfl) (by kernel_rfl) fun a hF => ?_)
 refine wp 1 [7, 8] hF fun a hF => ?_
 refine wpListIn_nil ?_
 exact ⟨_, x19, hF.kp [7, 8], hS.sp [] [], H⟩
 refine cond_f hF (by kernel_rfl) hb ?_
 refine wpIn_skip ?_
 exact ⟨_, (ByteArray.mk #[]), hF.kp [7, 8], hS.sp [] [], H⟩
 rintro a w ⟨κ, y16, hF, hS, H⟩
 unfold M.ref08_Ends_k2 at H
 refine wpIn_seq_k fun K17 hK17 => ?_
 refine wpIn_region_lit ?_
 refine wp 5 [4, 5, 6] hF fun a hF => ?_
 refine wpListIn_nil ?_
 refine hK17 _ _ ?_
 refine wpIn_ret ?_
 cases H
 exact (ret_done hF hS (res3 Try.results34 (rvt hF) (rvt hF) (rvt hF)) ⟨rfl, (hS.pick [] (by kernel_rfl)).ro, hS.newC [] (by decide) (by kernel_rfl)⟩)
set_option maxRecDepth 20000 in
set_option maxHeartbeats 1000000 in
theorem C_ref08_Copy (N : Nat) {κ0 : Gh} {w0 : World} (hfr : Fresh κ0 w0) (a1 : T_api_Map) (p2 : Option Addr) (c3 : Nat) (p4 : Option Addr) (c5 : Nat) (hR : ∀ m ∈ ([Ro.mp fStr.ty p2 c3 a1.Cuts, Ro.mp (fInt .i64).ty p4 c5 a1.Nodes] : List MP), m.p κ0 w0) {r : (T_api_Map)} (H : M.ref08_Copy N a1 = some r) :
    Calls Try.prog 49 #[.agg (flat [sl p2 (a1.Cuts).length c3, sl p4 (a1.Nodes).length c5]).toArray] w0 (Post [] κ0 w0 fun v κ w => ∃ (p25 : Option Addr) (c26 : Nat) (p27 : Option Addr) (c28 : Nat), v = .agg (flat [sl p25 (r.Cuts).length c26, sl p27 (r.Nodes).length c28]).toArray ∧ (∀ m ∈ ([Ro.mp fStr.ty p25 c26 r.Cuts, Ro.mp (fInt .i64).ty p27 c28 r.Nodes] : List MP), m.p κ w) ∧ NewC w0 κ w [.tok p25 9 1 (r.Cuts).length c26, .tok p27 3 1 (r.Nodes).length c28]) := by
 have hS := SS.start hfr hR
 refine enter (N := (12)) (L := [(0, .agg (flat [sl p2 (a1.Cuts).length c3, sl p4 (a1.Nodes).length c5]).toArray)]) Try.func49 rfl Try.ntmps49 (show 1 ≤ (12) by decide) rfl fun a hF => ?_
 unfold M.ref08_Copy at H
 refine wpIn_seq_k fun K6 hK6 => ?_
 refine wpIn_region_lit ?_
 refine wc (wbx hF hS [sl p2 (a1.Cuts).length c3, sl p4 (a1.Nodes).length c5] (sgN 2 sgNil) fun b7 a w hF hS => ?_)
 refine wc (wal hF hS [sl none 0 0, sl none 0 0] (sgN 2 sgNil) fun b8 a w hF hS => ?_)
 refine wpListIn_nil ?_
 refine hK6 _ _ ?_
 refine wpIn_seq_k fun K9 hK9 => ?_
 refine bind_split H (fun v16 hv16 H => ?_)
 refine code_join (fun a w => ∃ (κ : Gh) (p11 : Option Addr) (c12 : Nat) (p14 : Option Addr) (c15 : Nat), Fr (12) [] [(2, pt b8 0)] a ∧ SS [] κ0 w0 κ w [.box b8 26 [sl p11 (v16.1).length c12, sl p14 (v16.2).length c15], .tok p11 9 1 (v16.1).length c12, .tok p14 3 1 (v16.2).length c15] [Ro.mp fStr.ty p11 c12 v16.1, Ro.mp (fInt .i64).ty p14 c15 v16.2] ∧ True) ?_ ?_
 refine rgS hS [9] ?_
 have hS := hS.drew
 refine bind_split hv16 (fun x18 hx18 hv16 => ?_)
 refine bind_split hv16 (fun x22 hx22 hv16 => ?_)
 refine any_pure [1, 5] [2, 4, 8] (L' := [(2, pt b8 0), (4, pt b7 0), (8, pt b7 1)]) (listed' := (bitA 10 34)) (fuel := 8) hF (hS.sx [0, 1] [0, 1]) (by kernel_rfl) (by intro c a w t v h; cases t <;> exact h) (by kernel_rfl) rfl fun a hF => ?_
 refine atk 2 (some 5) hF (hS.sx [0, 1] [0, 1]) rfl (vld 1 0 0) fun a hF => ?_
 refine atk 6 (some 9) hF (hS.sx [0, 1] [0, 1]) rfl (vld 1 1 0) fun a hF => ?_
 refine ago2 0 4 hF rfl rfl ?_ ?_
 refine wo_build0 hF hS (by kernel_rfl) fStr.ty (E := 9) rfl (by kernel_rfl) (by kernel_rfl) fun p17 κ a w hF hS => ?_
 refine ⟨fun _ => (hS.sx [1, 2] [1, 2]), ?_⟩
 refine ago2 3 4 hF rfl rfl ?_ ?_
 refine wo_append (ty := fStr.ty) hF hS (by kernel_rfl) 0 0 1 rfl rfl rfl (by kernel_rfl) (by kernel_rfl) rfl rfl rfl hx18 (by kernel_rfl) (i := Try.t9) (z := .string (ByteArray.empty)) (by kernel_rfl) (by kernel_rfl) (by kernel_rfl) fun p19 c20 κ a w hF hS => ?_
 refine ⟨fun _ => (hS.sx [1, 2] [2, 3]), ?_⟩
 refine ago 4 hF rfl ?_
 refine wo_build0 hF hS (by kernel_rfl) (fInt .i64).ty (E := 3) rfl (by kernel_rfl) (by kernel_rfl) fun p21 κ a w hF hS => ?_
 refine ⟨fun _ => (hS.sx [2, 3] [3, 4]), ?_⟩
 refine ago 7 hF rfl ?_
 refine wo_append (ty := (fInt .i64).ty) hF hS (by kernel_rfl) 0 0 4 rfl rfl rfl (by kernel_rfl) (by kernel_rfl) rfl rfl rfl hx22 (by kernel_rfl) (i := Try.t3) (z := vi 0) (by kernel_rfl) (by kernel_rfl) (by kernel_rfl) fun p23 c24 κ a w hF hS => ?_
 refine ⟨fun _ => (hS.sx [2, 3] [4, 5]), ?_⟩
 refine anp [8] [2, 11] hF (hS.sx [2, 3] [4, 5]) fun a hF => ?_
 refine ago 9 hF rfl ?_
 refine wst hF hS 2 0 2 [sl p19 (x18).length c20, sl p23 (x22).length c24] (sgN 2 sgNil) fun a w hF hS => ?_
 refine ⟨notE, ?_⟩
 refine and_ ?_
 cases hv16
 exact ⟨_, p19, c20, p23, c24, hF.kp [2], hS.sp [2, 1, 0] [2, 0], trivial⟩
 refine wo_build0 hF hS (by kernel_rfl) (fInt .i64).ty (E := 3) rfl (by kernel_rfl) (by kernel_rfl) fun p21 κ a w hF hS => ?_
 refine ⟨fun _ => (hS.sx [2, 3] [2, 3]), ?_⟩
 refine ago 3 hF rfl ?_
 refine wo_append (ty := fStr.ty) hF hS (by kernel_rfl) 1 1 2 rfl rfl rfl (by kernel_rfl) (by kernel_rfl) rfl rfl rfl hx18 (by kernel_rfl) (i := Try.t9) (z := .string (ByteArray.empty)) (by kernel_rfl) (by kernel_rfl) (by kernel_rfl) fun p19 c20 κ a w hF hS => ?_
 refine ⟨fun _ => (hS.sx [2, 3] [3, 4]), ?_⟩
 refine ago 7 hF rfl ?_
 refine wo_append (ty := (fInt .i64).ty) hF hS (by kernel_rfl) 0 1 4 rfl rfl rfl (by kernel_rfl) (by kernel_rfl) rfl rfl rfl hx22 (by kernel_rfl) (i := Try.t3) (z := vi 0) (by kernel_rfl) (by kernel_rfl) (by kernel_rfl) fun p23 c24 κ a w hF hS => ?_
 refine ⟨fun _ => (hS.sx [2, 3] [4, 5]), ?_⟩
 refine anp [8] [2, 11] hF (hS.sx [2, 3] [4, 5]) fun a hF => ?_
 refine ago 9 hF rfl ?_
 refine wst hF hS 2 0 2 [sl p19 (x18).length c20, sl p23 (x22).length c24] (sgN 2 sgNil) fun a w hF hS => ?_
 refine ⟨notE, ?_⟩
 refine and_ ?_
 cases hv16
 exact ⟨_, p19, c20, p23, c24, hF.kp [2], hS.sp [2, 1, 0] [1, 0], trivial⟩
 refine wo_build0 hF hS (by kernel_rfl) (fInt .i64).ty (E := 3) rfl (by kernel_rfl) (by kernel_rfl) fun p21 κ a w hF hS => ?_
 refine ⟨fun _ => (hS.sx [1, 2] [1, 2]), ?_⟩
 refine ago 0 hF rfl ?_
 refine wo_build0 hF hS (by kernel_rfl) fStr.ty (E := 9) rfl (by kernel_rfl) (by kernel_rfl) fun p17 κ a w hF hS => ?_
 refine ⟨fun _ => (hS.sx [2, 3] [2, 3]), ?_⟩
 refine ago 3 hF rfl ?_
 refine wo_append (ty := fStr.ty) hF hS (by kernel_rfl) 0 0 2 rfl rfl rfl (by kernel_rfl) (by kernel_rfl) rfl rfl rfl hx18 (by kernel_rfl) (i := Try.t9) (z := .string (ByteArray.empty)) (by kernel_rfl) (by kernel_rfl) (by kernel_rfl) fun p19 c20 κ a w hF hS => ?_
 refine ⟨fun _ => (hS.sx [2, 3] [3, 4]), ?_⟩
 refine ago 7 hF rfl ?_
 refine wo_append (ty := (fInt .i64).ty) hF hS (by kernel_rfl) 1 2 4 rfl rfl rfl (by kernel_rfl) (by kernel_rfl) rfl rfl rfl hx22 (by kernel_rfl) (i := Try.t3) (z := vi 0) (by kernel_rfl) (by kernel_rfl) (by kernel_rfl) fun p23 c24 κ a w hF hS => ?_
 refine ⟨fun _ => (hS.sx [2, 3] [4, 5]), ?_⟩
 refine anp [8] [2, 11] hF (hS.sx [2, 3] [4, 5]) fun a hF => ?_
 refine ago 9 hF rfl ?_
 refine wst hF hS 2 0 2 [sl p19 (x18).length c20, sl p23 (x22).length c24] (sgN 2 sgNil) fun a w hF hS => ?_
 refine ⟨notE, ?_⟩
 refine and_ ?_
 cases hv16
 exact ⟨_, p19, c20, p23, c24, hF.kp [2], hS.sp [2, 0, 1] [1, 0], trivial⟩
 rintro a w ⟨κ, p11, c12, p14, c15, hF, hS, -⟩
 refine hK9 _ _ ?_
 refine wpIn_ret ?_
 have hS' := hS
 cases H
 exact (ret_done hF hS (res1 Try.results49 (rvs hF hS' 0 0 2)) ⟨p11, c12, p14, c15, rfl, (hS.pick [0, 1] (by kernel_rfl)).ro, hS.newC [1, 2] (by decide) (by kernel_rfl)⟩)
set_option maxRecDepth 20000 in
set_option maxHeartbeats 1000000 in
theorem C_span_Copy (N : Nat) {κ0 : Gh} {w0 : World} (hfr : Fresh κ0 w0) (a1 : T_api_Map) (p2 : Option Addr) (c3 : Nat) (p4 : Option Addr) (c5 : Nat) (hR : ∀ m ∈ ([Ro.mp fStr.ty p2 c3 a1.Cuts, Ro.mp (fInt .i64).ty p4 c5 a1.Nodes] : List MP), m.p κ0 w0) {r : (T_api_Map)} (H : M.span_Copy N a1 = some r) :
    Calls Try.prog 50 #[.agg (flat [sl p2 (a1.Cuts).length c3, sl p4 (a1.Nodes).length c5]).toArray] w0 (Post [] κ0 w0 fun v κ w => ∃ (p16 : Option Addr) (c17 : Nat) (p18 : Option Addr) (c19 : Nat), v = .agg (flat [sl p16 (r.Cuts).length c17, sl p18 (r.Nodes).length c19]).toArray ∧ (∀ m ∈ ([Ro.mp fStr.ty p16 c17 r.Cuts, Ro.mp (fInt .i64).ty p18 c19 r.Nodes] : List MP), m.p κ w) ∧ NewC w0 κ w [.tok p16 9 1 (r.Cuts).length c17, .tok p18 3 1 (r.Nodes).length c19]) := by
 have hS := SS.start hfr hR
 refine enter (N := (10)) (L := [(0, .agg (flat [sl p2 (a1.Cuts).length c3, sl p4 (a1.Nodes).length c5]).toArray)]) Try.func50 rfl Try.ntmps50 (show 1 ≤ (10) by decide) rfl fun a hF => ?_
 unfold M.span_Copy at H
 refine wpIn_seq_k fun K6 hK6 => ?_
 refine wpIn_region_lit ?_
 refine wc (wbx hF hS [sl p2 (a1.Cuts).length c3, sl p4 (a1.Nodes).length c5] (sgN 2 sgNil) fun b7 a w hF hS => ?_)
 refine wc (wal hF hS [sl none 0 0, sl none 0 0] (sgN 2 sgNil) fun b8 a w hF hS => ?_)
 refine wpListIn_nil ?_
 refine hK6 _ _ ?_
 refine wpIn_seq_k fun K9 hK9 => ?_
 refine rgS hS [7] ?_
 have hS := hS.drew
 refine bind_split H (fun x10 hx10 H => ?_)
 refine bind_split H (fun x13 hx13 H => ?_)
 refine any_pure [0, 3] [2, 3, 6] (L' := [(2, pt b8 0), (3, pt b7 0), (6, pt b7 1)]) (listed' := (bitA 8 9)) (fuel := 6) hF (hS.sx [0, 1] [0, 1]) (by kernel_rfl) (by intro c a w t v h; cases t <;> exact h) (by kernel_rfl) rfl fun a hF => ?_
 refine atk 1 (some 4) hF (hS.sx [0, 1] [0, 1]) rfl (vld 1 0 0) fun a hF => ?_
 refine atk 4 (some 7) hF (hS.sx [0, 1] [0, 1]) rfl (vld 1 1 0) fun a hF => ?_
 refine ago 2 hF rfl ?_
 have hS := hS.add (m := Ro.mp fStr.ty none 0 ([] : List ByteArray)) (Ro.nil fStr.ty _ _)
 have hS := hS.addNil 9 1
 refine wo_append (ty := fStr.ty) hF hS (by kernel_rfl) 0 0 1 rfl rfl rfl (by kernel_rfl) (by kernel_rfl) rfl rfl rfl hx10 (by kernel_rfl) (i := Try.t9) (z := .string (ByteArray.empty)) (by kernel_rfl) (by kernel_rfl) (by kernel_rfl) fun p11 c12 κ a w hF hS => ?_
 refine ⟨fun _ => (hS.sx [1, 2] [2, 3]), ?_⟩
 refine ago 5 hF rfl ?_
 have hS := hS.add (m := Ro.mp (fInt .i64).ty none 0 ([] : List Int)) (Ro.nil (fInt .i64).ty _ _)
 have hS := hS.addNil 3 1
 refine wo_append (ty := (fInt .i64).ty) hF hS (by kernel_rfl) 0 0 4 rfl rfl rfl (by kernel_rfl) (by kernel_rfl) rfl rfl rfl hx13 (by kernel_rfl) (i := Try.t3) (z := vi 0) (by kernel_rfl) (by kernel_rfl) (by kernel_rfl) fun p14 c15 κ a w hF hS => ?_
 refine ⟨fun _ => (hS.sx [2, 3] [4, 5]), ?_⟩
 refine anp [6] [2, 9] hF (hS.sx [2, 3] [4, 5]) fun a hF => ?_
 refine ago 7 hF rfl ?_
 refine wst hF hS 2 0 2 [sl p11 (x10).length c12, sl p14 (x13).length c15] (sgN 2 sgNil) fun a w hF hS => ?_
 refine ⟨notE, ?_⟩
 refine and_ ?_
 refine hK9 _ _ ?_
 refine wpIn_ret ?_
 have hS' := hS
 cases H
 exact (ret_done hF hS (res1 Try.results50 (rvs hF hS' 2 0 2)) ⟨p11, c12, p14, c15, rfl, (hS.pick [2, 0] (by kernel_rfl)).ro, hS.newC [1, 0] (by decide) (by kernel_rfl)⟩)
set_option maxRecDepth 20000 in
set_option maxHeartbeats 1000000 in
theorem C_ref08_Split (N : Nat) {κ0 : Gh} {w0 : World} (hfr : Fresh κ0 w0) (a1 : T_api_Map) (a6 : Int) (a7 : Int) (a8 : ByteArray) (p2 : Option Addr) (c3 : Nat) (p4 : Option Addr) (c5 : Nat) (hR : ∀ m ∈ ([Ro.mp fStr.ty p2 c3 a1.Cuts, Ro.mp (fInt .i64).ty p4 c5 a1.Nodes] : List MP), m.p κ0 w0) {r : (T_api_Map × Int)} (H : M.ref08_Split N a1 a6 a7 a8 = some r) :
    Calls Try.prog 46 #[.agg (flat [sl p2 (a1.Cuts).length c3, sl p4 (a1.Nodes).length c5]).toArray, vi a6, vi a7, .string (a8)] w0 (Post [] κ0 w0 fun v κ w => ∃ (p136 : Option Addr) (c137 : Nat) (p138 : Option Addr) (c139 : Nat), v = .tuple #[.agg (flat [sl p136 (r.1.Cuts).length c137, sl p138 (r.1.Nodes).length c139]).toArray, vi r.2] ∧ (∀ m ∈ ([Ro.mp fStr.ty p136 c137 r.1.Cuts, Ro.mp (fInt .i64).ty p138 c139 r.1.Nodes] : List MP), m.p κ w) ∧ NewC w0 κ w [.tok p136 9 1 (r.1.Cuts).length c137, .tok p138 3 1 (r.1.Nodes).length c139]) := by
 have hS := SS.start hfr hR
 refine enter (N := (107)) (L := [(0, .agg (flat [sl p2 (a1.Cuts).length c3, sl p4 (a1.Nodes).length c5]).toArray), (1, vi a6), (2, vi a7), (3, .string (a8))]) Try.func46 rfl Try.ntmps46 (show 4 ≤ (107) by decide) rfl fun a hF => ?_
 unfold M.ref08_Split at H
 refine wpIn_seq_k fun K9 hK9 => ?_
 refine wpIn_region_lit ?_
 refine wc (wbx hF hS [sl p2 (a1.Cuts).length c3, sl p4 (a1.Nodes).length c5] (sgN 2 sgNil) fun b10 a w hF hS => ?_)
 refine wc (wal hF hS [sl none 0 0, sl none 0 0] (sgN 2 sgNil) fun b11 a w hF hS => ?_)
 refine wp 1 [1, 2, 3, 4, 8] hF fun a hF => ?_
 refine wpListIn_nil ?_
 refine hK9 _ _ ?_
 refine wpIn_seq_k fun K12 hK12 => ?_
 refine wpIn_seq_k fun K13 hK13 => ?_
 refine wpIn_region_lit ?_
 refine wc (wls hF hS 1 0 2 fun a hF => ?_)
 refine wp 1 [2, 3, 4, 8, 16, 17] hF fun a hF => ?_
 refine bind_split H (fun x14 hx14 H => ?_)
 refine wc (wo_callP hF hS (by kernel_rfl) (by kernel_rfl) (C_ref08_Check N hS.fresh (T_api_Map.mk a1.Cuts a1.Nodes) a6 p2 c3 p4 c5 ((hS.pick [0, 1] (by kernel_rfl)).ro) hx14) ?_)
 rintro _ κ w a ⟨rfl, hR, hN⟩ hF hS hO
 refine wp 1 [2, 3, 4, 8, 10] hF fun a hF => ?_
 refine wpListIn_nil ?_
 refine hK13 _ _ ?_
 refine wpIn_seq_k fun K15 hK15 => ?_
 refine wpIn_region_lit ?_
 refine wp 2 [2, 3, 4, 8, 10, 20] hF fun a hF => ?_
 refine wpListIn_nil ?_
 refine hK15 _ _ ?_
 refine bif_split H (fun hb H => ?_) (fun hb H => ?_)
 refine cond_t hF (by kernel_rfl) hb ?_
 refine wpIn_seq_k fun K16 hK16 => ?_
 refine wpIn_region_lit ?_
 refine wp 2 [8, 21, 22] hF fun a hF => ?_
 refine wc (wst hF hS 0 0 2 [sl none 0 0, sl none 0 0] (sgN 2 sgNil) fun a w hF hS => ?_)
 refine wp 1 [8, 9] hF fun a hF => ?_
 refine wpListIn_nil ?_
 refine hK16 _ _ ?_
 refine wpIn_ret ?_
 have hS' := hS
 have hS := hS.add (m := Ro.mp fStr.ty none 0 ([] : List ByteArray)) (Ro.nil fStr.ty _ _)
 have hS := hS.add (m := Ro.mp (fInt .i64).ty none 0 ([] : List Int)) (Ro.nil (fInt .i64).ty _ _)
 have hS := hS.addNil 9 1
 have hS := hS.addNil 3 1
 cases H
 exact (ret_done hF hS (res2 Try.results46 (rvs hF hS' 0 0 2) (rvt hF)) ⟨none, 0, none, 0, rfl, (hS.pick [1, 0] (by kernel_rfl)).ro, hS.newC [1, 0] (by decide) (by kernel_rfl)⟩)
 refine cond_f hF (by kernel_rfl) hb ?_
 refine wpIn_skip ?_
 refine hK12 _ _ ?_
 refine wpIn_seq_k fun K17 hK17 => ?_
 refine wpIn_region_lit ?_
 refine wc (wls hF hS 1 0 2 fun a hF => ?_)
 refine wp 1 [2, 3, 4, 8, 24, 25] hF fun a hF => ?_
 refine bind_split H (fun x18 hx18 H => ?_)
 refine wc (wo_callP hF hS (by kernel_rfl) (by kernel_rfl) (C_ref08_Ends N hS.fresh (T_api_Map.mk a1.Cuts a1.Nodes) a7 p2 c3 p4 c5 ((hS.pick [0, 1] (by kernel_rfl)).ro) hx18) ?_)
 rintro _ κ w a ⟨rfl, hR, hN⟩ hF hS hO
 refine wp 7 [2, 3, 4, 8, 11, 12, 13] hF fun a hF => ?_
 refine wpListIn_nil ?_
 refine hK17 _ _ ?_
 refine wpIn_seq_k fun K19 hK19 => ?_
 refine wpIn_seq_k fun K20 hK20 => ?_
 refine wpIn_region_lit ?_
 refine wp 2 [2, 3, 4, 8, 11, 12, 31] hF fun a hF => ?_
 refine wpListIn_nil ?_
 refine hK20 _ _ ?_
 refine bif_split H (fun hb H => ?_) (fun hb H => ?_)
 refine cond_t hF (by kernel_rfl) hb ?_
 refine wpIn_seq_k fun K21 hK21 => ?_
 refine wpIn_region_lit ?_
 refine wp 1 [8, 32] hF fun a hF => ?_
 refine wc (wst hF hS 0 0 2 [sl none 0 0, sl none 0 0] (sgN 2 sgNil) fun a w hF hS => ?_)
 refine wp 1 [8, 9] hF fun a hF => ?_
 refine wpListIn_nil ?_
 refine hK21 _ _ ?_
 refine wpIn_ret ?_
 have hS' := hS
 have hS := hS.add (m := Ro.mp fStr.ty none 0 ([] : List ByteArray)) (Ro.nil fStr.ty _ _)
 have hS := hS.add (m := Ro.mp (fInt .i64).ty none 0 ([] : List Int)) (Ro.nil (fInt .i64).ty _ _)
 have hS := hS.addNil 9 1
 have hS := hS.addNil 3 1
 cases H
 exact (ret_done hF hS (res2 Try.results46 (rvs hF hS' 0 0 2) (rvt hF)) ⟨none, 0, none, 0, rfl, (hS.pick [1, 0] (by kernel_rfl)).ro, hS.newC [1, 0] (by decide) (by kernel_rfl)⟩)
 refine cond_f hF (by kernel_rfl) hb ?_
 refine wpIn_skip ?_
 refine hK19 _ _ ?_
 refine wpIn_seq_k fun K22 hK22 => ?_
 refine wpIn_seq_k fun K23 hK23 => ?_
 refine wpIn_region_lit ?_
 refine bind_split H (fun v25 hv25 H => ?_)
 refine wl_join (fun a w => ∃ κ : Gh, Fr (107) [] [(2, vi a7), (3, .string (a8)), (4, pt b10 0), (8, pt b11 0), (47, vb v25)] a ∧ SS [] κ0 w0 κ w [.box b11 26 [sl none 0 0, sl none 0 0], .box b10 26 [sl p2 (a1.Cuts).length c3, sl p4 (a1.Nodes).length c5]] [Ro.mp fStr.ty none 0 ([] : List ByteArray), Ro.mp (fInt .i64).ty none 0 ([] : List Int), Ro.mp fStr.ty p2 c3 a1.Cuts, Ro.mp (fInt .i64).ty p4 c5 a1.Nodes] ∧ True) ?_ ?_
 refine wp 4 [2, 3, 4, 8, 11, 12, 36] hF fun a hF => ?_
 refine bif_split hv25 (fun hb hv25 => ?_) (fun hb hv25 => ?_)
 have hF := hF.boolv 36 (by kernel_rfl) hb
 refine wp 11 [2, 3, 4, 8, 47] hF fun a hF => ?_
 refine wpListIn_nil ?_
 cases hv25
 have hS := hS.add (m := Ro.mp fStr.ty none 0 ([] : List ByteArray)) (Ro.nil fStr.ty _ _)
 have hS := hS.add (m := Ro.mp (fInt .i64).ty none 0 ([] : List Int)) (Ro.nil (fInt .i64).ty _ _)
 exact ⟨_, hF.kp [2, 3, 4, 8, 47], hS.sp [0, 1] [1, 0, 2, 3], trivial⟩
 have hF := hF.boolv 36 (by kernel_rfl) hb
 refine wp 3 [2, 3, 4, 8, 11, 36, 37, 38, 39] hF fun a hF => ?_
 refine bind_split hv25 (fun x26 hx26 hv25 => ?_)
 refine wcg hF (wo_callP hF hS (by kernel_rfl) (by kernel_rfl) (C_ref08_Within N hS.fresh a8 x18.1 x18.2.1  ((hS.pick [] (by kernel_rfl)).ro) hx26) ?_)
 rintro _ κ w a ⟨rfl, hR, hN⟩ hF hS hO
 refine wp 3 [2, 3, 4, 8, 11, 43] hF fun a hF => ?_
 refine bif_split hv25 (fun hb hv25 => ?_) (fun hb hv25 => ?_)
 have hF := hF.boolv 43 (by kernel_rfl) hb
 refine wp 4 [2, 3, 4, 8, 47] hF fun a hF => ?_
 refine wpListIn_nil ?_
 cases hv25
 have hS := hS.add (m := Ro.mp fStr.ty none 0 ([] : List ByteArray)) (Ro.nil fStr.ty _ _)
 have hS := hS.add (m := Ro.mp (fInt .i64).ty none 0 ([] : List Int)) (Ro.nil (fInt .i64).ty _ _)
 exact ⟨_, hF.kp [2, 3, 4, 8, 47], hS.sp [0, 1] [1, 0, 2, 3], trivial⟩
 have hF := hF.boolv 43 (by kernel_rfl) hb
 refine wp 4 [2, 3, 4, 8, 47] hF fun a hF => ?_
 refine wpListIn_nil ?_
 cases hv25
 have hS := hS.add (m := Ro.mp fStr.ty none 0 ([] : List ByteArray)) (Ro.nil fStr.ty _ _)
 have hS := hS.add (m := Ro.mp (fInt .i64).ty none 0 ([] : List Int)) (Ro.nil (fInt .i64).ty _ _)
 exact ⟨_, hF.kp [2, 3, 4, 8, 47], hS.sp [0, 1] [1, 0, 2, 3], trivial⟩
 rintro a w ⟨κ, hF, hS, -⟩
 refine hK23 _ _ ?_
 refine bif_split H (fun hb H => ?_) (fun hb H => ?_)
 refine cond_t hF (by kernel_rfl) hb ?_
 refine wpIn_seq_k fun K27 hK27 => ?_
 refine wpIn_region_lit ?_
 refine wp 1 [8, 48] hF fun a hF => ?_
 refine wc (wst hF hS 0 0 2 [sl none 0 0, sl none 0 0] (sgN 2 sgNil) fun a w hF hS => ?_)
 refine wp 1 [8, 9] hF fun a hF => ?_
 refine wpListIn_nil ?_
 refine hK27 _ _ ?_
 refine wpIn_ret ?_
 have hS' := hS
 have hS := hS.addNil 9 1
 have hS := hS.addNil 3 1
 cases H
 exact (ret_done hF hS (res2 Try.results46 (rvs hF hS' 0 0 2) (rvt hF)) ⟨none, 0, none, 0, rfl, (hS.pick [0, 1] (by kernel_rfl)).ro, hS.newC [1, 0] (by decide) (by kernel_rfl)⟩)
 refine cond_f hF (by kernel_rfl) hb ?_
 refine wpIn_skip ?_
 refine hK22 _ _ ?_
 refine wpIn_seq_k fun K28 hK28 => ?_
 refine wpIn_seq_k fun K29 hK29 => ?_
 refine wpIn_region_lit ?_
 refine wp 1 [2, 3, 4, 8, 49] hF fun a hF => ?_
 refine wc (wld hF hS 1 1 0 fun a hF => ?_)
 refine wp 2 [2, 3, 4, 8, 52] hF fun a hF => ?_
 refine wpListIn_nil ?_
 refine hK29 _ _ ?_
 refine bif_split H (fun hb H => ?_) (fun hb H => ?_)
 refine cond_t hF (by kernel_rfl) hb ?_
 refine wpIn_seq_k fun K30 hK30 => ?_
 refine wpIn_region_lit ?_
 refine wp 1 [8, 53] hF fun a hF => ?_
 refine wc (wst hF hS 0 0 2 [sl none 0 0, sl none 0 0] (sgN 2 sgNil) fun a w hF hS => ?_)
 refine wp 1 [8, 9] hF fun a hF => ?_
 refine wpListIn_nil ?_
 refine hK30 _ _ ?_
 refine wpIn_ret ?_
 have hS' := hS
 have hS := hS.addNil 9 1
 have hS := hS.addNil 3 1
 cases H
 exact (ret_done hF hS (res2 Try.results46 (rvs hF hS' 0 0 2) (rvt hF)) ⟨none, 0, none, 0, rfl, (hS.pick [0, 1] (by kernel_rfl)).ro, hS.newC [1, 0] (by decide) (by kernel_rfl)⟩)
 refine cond_f hF (by kernel_rfl) hb ?_
 refine wpIn_skip ?_
 refine hK28 _ _ ?_
 refine wpIn_seq_k fun K31 hK31 => ?_
 refine wpIn_region_lit ?_
 refine wp 1 [2, 3, 4, 8, 54] hF fun a hF => ?_
 refine wc (wal hF hS [sl none 0 0, sl none 0 0] (sgN 2 sgNil) fun b32 a w hF hS => ?_)
 refine wc (wst hF hS 0 0 2 [sl none 0 0, sl none 0 0] (sgN 2 sgNil) fun a w hF hS => ?_)
 refine wpListIn_nil ?_
 refine hK31 _ _ ?_
 refine wpIn_seq_k fun K33 hK33 => ?_
 refine wpIn_seq_k fun K34 hK34 => ?_
 refine wpIn_region_lit ?_
 refine wp 1 [2, 3, 4, 8, 14, 15] hF fun a hF => ?_
 refine wpListIn_nil ?_
 refine hK34 _ _ ?_
 refine wpIn_block ?_
 refine loop_fuel (n := N) (fun n a w => ∃ (κ : Gh) (y85 : List ByteArray) (p86 : Option Addr) (c87 : Nat) (y88 : List Int) (p89 : Option Addr) (c90 : Nat) (y91 : Int), Fr (107) [] [(2, vi a7), (3, .string (a8)), (4, pt b10 0), (8, pt b11 0), (14, pt b32 0), (15, vi y91)] a ∧ SS [] κ0 w0 κ w [.box b32 26 [sl p86 (y85).length c87, sl p89 (y88).length c90], .box b11 26 [sl none 0 0, sl none 0 0], .box b10 26 [sl p2 (a1.Cuts).length c3, sl p4 (a1.Nodes).length c5], .tok p86 9 1 (y85).length c87, .tok p89 3 1 (y88).length c90] [Ro.mp fStr.ty p86 c87 y85, Ro.mp (fInt .i64).ty p89 c90 y88, Ro.mp fStr.ty none 0 ([] : List ByteArray), Ro.mp (fInt .i64).ty none 0 ([] : List Int), Ro.mp fStr.ty p2 c3 a1.Cuts, Ro.mp (fInt .i64).ty p4 c5 a1.Nodes] ∧ M.ref08_Split_L1 N n a1 a7 a8 y85 y88 y91 = some r) ?_ ?_
 have hS := hS.addNil 9 1
 have hS := hS.addNil 3 1
 exact ⟨_, ([] : List ByteArray), none, 0, ([] : List Int), none, 0, 0, hF.kp [2, 3, 4, 8, 14, 15], hS.sp [2, 3, 4, 1, 0] [0, 1, 0, 1, 2, 3], H⟩
 rintro n a w ⟨κ, y85, p86, c87, y88, p89, c90, y91, hF, hS, H⟩
 rcases n with _ | fuel1
 simp [M.ref08_Split_L1] at H
 simp only [M.ref08_Split_L1] at H
 refine wpIn_seq_k fun K92 hK92 => ?_
 refine wpIn_seq_k fun K93 hK93 => ?_
 refine wpIn_region_lit ?_
 refine wp 2 [2, 3, 4, 8, 14, 15, 55, 56] hF fun a hF => ?_
 refine wc (wld hF hS 2 1 0 fun a hF => ?_)
 refine wp 2 [2, 3, 4, 8, 14, 15, 59] hF fun a hF => ?_
 refine wpListIn_nil ?_
 refine hK93 _ _ ?_
 refine bif_split H (fun hb H => ?_) (fun hb H => ?_)
 refine cond_t hF (by kernel_rfl) hb ?_
 refine wpIn_skip ?_
 refine hK92 _ _ ?_
 refine seq_join (fun a w => ∃ (κ : Gh) (y94 : List ByteArray) (p95 : Option Addr) (c96 : Nat) (y97 : List Int) (p98 : Option Addr) (c99 : Nat), Fr (107) [] [(2, vi a7), (3, .string (a8)), (4, pt b10 0), (8, pt b11 0), (14, pt b32 0), (15, vi y91)] a ∧ SS [] κ0 w0 κ w [.box b32 26 [sl p95 (y94).length c96, sl p98 (y97).length c99], .box b11 26 [sl none 0 0, sl none 0 0], .box b10 26 [sl p2 (a1.Cuts).length c3, sl p4 (a1.Nodes).length c5], .tok p95 9 1 (y94).length c96, .tok p98 3 1 (y97).length c99] [Ro.mp fStr.ty p95 c96 y94, Ro.mp (fInt .i64).ty p98 c99 y97, Ro.mp fStr.ty none 0 ([] : List ByteArray), Ro.mp (fInt .i64).ty none 0 ([] : List Int), Ro.mp fStr.ty p2 c3 a1.Cuts, Ro.mp (fInt .i64).ty p4 c5 a1.Nodes] ∧ M.ref08_Split_k2 N (M.ref08_Split_L1 N fuel1) a1 a7 a8 y91 y94 y97 = some r) ?_ ?_
 refine wpIn_block ?_
 refine wpIn_seq_k fun K100 hK100 => ?_
 refine rgS hS [10] ?_
 have hS := hS.drew
 refine bind_split H (fun x101 hx101 H => ?_)
 refine bind_split H (fun x105 hx105 H => ?_)
 refine any_pure [0, 2, 4] [2, 3, 4, 8, 14, 15, 62, 64, 66] (L' := [(2, vi a7), (3, .string (a8)), (4, pt b10 0), (8, pt b11 0), (14, pt b32 0), (15, vi y91), (62, pt b32 1), (64, pt b10 1), (66, vi y91)]) (listed' := (bitA 11 21)) (fuel := 8) hF (hS.sx [0, 1, 2] (rg 6)) (by kernel_rfl) (by intro c a w t v h; cases t <;> exact h) (by kernel_rfl) rfl fun a hF => ?_
 refine atk 1 (some 63) hF (hS.sx [0, 1, 2] (rg 6)) rfl (vld 0 1 0) fun a hF => ?_
 refine atk 3 (some 65) hF (hS.sx [0, 1, 2] (rg 6)) rfl (vld 2 1 0) fun a hF => ?_
 obtain ⟨b102, f103, hpx101⟩ := hS.ptr 5 rfl hx101
 refine atk 5 (some 67) hF (hS.sx [0, 1, 2] (rg 6)) rfl (fun w _ => val_index (E := 3) (sz := 1) rfl hpx101 rfl (by kernel_rfl) rfl hx101 (by kernel_rfl) (by kernel_rfl) w) fun a hF => ?_
 refine atk 6 (some 68) hF (hS.sx [0, 1, 2] (rg 6)) rfl (val_loadRo (t := (fInt .i64)) 5 0 (v := vi x101) rfl rfl hpx101 rfl hx101 (by kernel_rfl) (by kernel_rfl) (by kernel_rfl)) fun a hF => ?_
 refine ago 7 hF rfl ?_
 refine wo_buildN (t := (fInt .i64)) (z := vi 0) (l := [x101]) (vs := [(0, vi x101)]) (cells := #[vi x101]) (E := 3) hF hS (by kernel_rfl) rfl (by kernel_rfl) (by kernel_rfl) rfl (by kernel_rfl) (by kernel_rfl) (by kernel_rfl) (by kernel_rfl) (by kernel_rfl) fun p104 κ a w hF hS => ?_
 refine ⟨fun _ => (hS.sx [1, 2, 3] [1, 2, 3, 4, 5, 6]), ?_⟩
 refine ago 8 hF rfl ?_
 refine wo_append (ty := (fInt .i64).ty) hF hS (by kernel_rfl) 5 2 0 rfl rfl rfl (by kernel_rfl) (by kernel_rfl) rfl rfl rfl hx105 (by kernel_rfl) (i := Try.t3) (z := vi 0) (by kernel_rfl) (by kernel_rfl) (by kernel_rfl) fun p106 c107 κ a w hF hS => ?_
 refine ⟨fun _ => (hS.sx [1, 2, 3] [2, 3, 4, 5, 6, 7]), ?_⟩
 refine anp [9] [2, 3, 4, 8, 14, 15, 70, 71] hF (hS.sx [1, 2, 3] [2, 3, 4, 5, 6, 7]) fun a hF => ?_
 refine ago 10 hF rfl ?_
 refine wst hF hS 1 1 1 [sl p106 (x105).length c107] (sgN 1 sgNil) fun a w hF hS => ?_
 refine ⟨notE, ?_⟩
 refine and_ ?_
 refine hK100 _ _ ?_
 refine seq_join (fun a w => ∃ (κ : Gh) (y108 : List ByteArray) (p109 : Option Addr) (c110 : Nat) (y111 : List Int) (p112 : Option Addr) (c113 : Nat), Fr (107) [] [(2, vi a7), (3, .string (a8)), (4, pt b10 0), (8, pt b11 0), (14, pt b32 0), (15, vi y91)] a ∧ SS [] κ0 w0 κ w [.box b32 26 [sl p109 (y108).length c110, sl p112 (y111).length c113], .box b11 26 [sl none 0 0, sl none 0 0], .box b10 26 [sl p2 (a1.Cuts).length c3, sl p4 (a1.Nodes).length c5], .tok p109 9 1 (y108).length c110, .tok p112 3 1 (y111).length c113] [Ro.mp fStr.ty p109 c110 y108, Ro.mp (fInt .i64).ty p112 c113 y111, Ro.mp fStr.ty none 0 ([] : List ByteArray), Ro.mp (fInt .i64).ty none 0 ([] : List Int), Ro.mp fStr.ty p2 c3 a1.Cuts, Ro.mp (fInt .i64).ty p4 c5 a1.Nodes] ∧ M.ref08_Split_k3 N (M.ref08_Split_L1 N fuel1) a1 a7 a8 y91 y108 y111 = some r) ?_ ?_
 refine wpIn_seq_k fun K122 hK122 => ?_
 refine wpIn_region_lit ?_
 refine wp 3 [2, 3, 4, 8, 14, 15, 74] hF fun a hF => ?_
 refine wpListIn_nil ?_
 refine hK122 _ _ ?_
 refine bif_split H (fun hb H => ?_) (fun hb H => ?_)
 refine cond_t hF (by kernel_rfl) hb ?_
 refine wpIn_seq_k fun K123 hK123 => ?_
 refine rgS hS [10] ?_
 have hS := hS.drew
 refine bind_split H (fun x124 hx124 H => ?_)
 refine bind_split H (fun x128 hx128 H => ?_)
 refine any_pure [0, 2, 4] [2, 3, 4, 8, 14, 15, 75, 77, 79] (L' := [(2, vi a7), (3, .string (a8)), (4, pt b10 0), (8, pt b11 0), (14, pt b32 0), (15, vi y91), (75, pt b32 1), (77, pt b10 1), (79, vi y91)]) (listed' := (bitA 11 21)) (fuel := 8) hF (hS.sx [1, 2, 3] (rg 8)) (by kernel_rfl) (by intro c a w t v h; cases t <;> exact h) (by kernel_rfl) rfl fun a hF => ?_
 refine atk 1 (some 76) hF (hS.sx [1, 2, 3] (rg 8)) rfl (vld 0 1 0) fun a hF => ?_
 refine atk 3 (some 78) hF (hS.sx [1, 2, 3] (rg 8)) rfl (vld 2 1 0) fun a hF => ?_
 obtain ⟨b125, f126, hpx124⟩ := hS.ptr 7 rfl hx124
 refine atk 5 (some 80) hF (hS.sx [1, 2, 3] (rg 8)) rfl (fun w _ => val_index (E := 3) (sz := 1) rfl hpx124 rfl (by kernel_rfl) rfl hx124 (by kernel_rfl) (by kernel_rfl) w) fun a hF => ?_
 refine atk 6 (some 81) hF (hS.sx [1, 2, 3] (rg 8)) rfl (val_loadRo (t := (fInt .i64)) 7 0 (v := vi x124) rfl rfl hpx124 rfl hx124 (by kernel_rfl) (by kernel_rfl) (by kernel_rfl)) fun a hF => ?_
 refine ago 7 hF rfl ?_
 refine wo_buildN (t := (fInt .i64)) (z := vi 0) (l := [x124]) (vs := [(0, vi x124)]) (cells := #[vi x124]) (E := 3) hF hS (by kernel_rfl) rfl (by kernel_rfl) (by kernel_rfl) rfl (by kernel_rfl) (by kernel_rfl) (by kernel_rfl) (by kernel_rfl) (by kernel_rfl) fun p127 κ a w hF hS => ?_
 refine ⟨fun _ => (hS.sx [2, 3, 4] [1, 2, 3, 4, 5, 6, 7, 8]), ?_⟩
 refine ago 8 hF rfl ?_
 refine wo_append (ty := (fInt .i64).ty) hF hS (by kernel_rfl) 6 1 0 rfl rfl rfl (by kernel_rfl) (by kernel_rfl) rfl rfl rfl hx128 (by kernel_rfl) (i := Try.t3) (z := vi 0) (by kernel_rfl) (by kernel_rfl) (by kernel_rfl) fun p129 c130 κ a w hF hS => ?_
 refine ⟨fun _ => (hS.sx [2, 3, 4] [2, 3, 4, 5, 6, 7, 8, 9]), ?_⟩
 refine anp [9] [2, 3, 4, 8, 14, 15, 83, 84] hF (hS.sx [2, 3, 4] [2, 3, 4, 5, 6, 7, 8, 9]) fun a hF => ?_
 refine ago 10 hF rfl ?_
 refine wst hF hS 2 1 1 [sl p129 (x128).length c130] (sgN 1 sgNil) fun a w hF hS => ?_
 refine ⟨notE, ?_⟩
 refine and_ ?_
 refine hK123 _ _ ?_
 refine wpIn_region_lit ?_
 refine wp 1 [2, 3, 4, 8, 14, 15, 85] hF fun a hF => ?_
 refine wc (wld hF hS 2 0 0 fun a hF => ?_)
 refine wl_pure (L' := [(2, vi a7), (3, .string (a8)), (4, pt b10 0), (8, pt b11 0), (14, pt b32 0), (15, vi y91), (86, .slice p86 (y85).length c87), (87, .string (a8))]) 1 [2, 3, 4, 8, 14, 15, 86, 87] hF (by kernel_rfl) fun a hF => ?_
 refine wc (wo_buildN (t := fStr) (z := .string (ByteArray.empty)) (l := [a8]) (vs := [(0, .string (a8))]) (cells := #[.string (a8)]) (E := 9) hF hS (by kernel_rfl) rfl (by kernel_rfl) (by kernel_rfl) rfl (by kernel_rfl) (by kernel_rfl) (by kernel_rfl) (by kernel_rfl) (by kernel_rfl) fun p131 κ a w hF hS => ?_)
 refine bind_split H (fun x132 hx132 H => ?_)
 refine wc (wo_append (ty := fStr.ty) hF hS (by kernel_rfl) 6 5 0 rfl rfl rfl (by kernel_rfl) (by kernel_rfl) rfl rfl rfl hx132 (by kernel_rfl) (i := Try.t9) (z := .string (ByteArray.empty)) (by kernel_rfl) (by kernel_rfl) (by kernel_rfl) fun p133 c134 κ a w hF hS => ?_)
 refine wp 1 [2, 3, 4, 8, 14, 15, 89, 90] hF fun a hF => ?_
 refine wc (wst hF hS 3 0 1 [sl p133 (x132).length c134] (sgN 1 sgNil) fun a w hF hS => ?_)
 refine wpListIn_nil ?_
 exact ⟨_, x132, p133, c134, x128, p129, c130, hF.kp [2, 3, 4, 8, 14, 15], hS.sp [3, 4, 5, 6, 7] [0, 2, 8, 9, 10, 11], H⟩
 refine cond_f hF (by kernel_rfl) hb ?_
 refine wpIn_skip ?_
 exact ⟨_, y85, p86, c87, x105, p106, c107, hF.kp [2, 3, 4, 8, 14, 15], hS.sp [1, 2, 3, 4, 5] [2, 0, 4, 5, 6, 7], H⟩
 rintro a w ⟨κ, y108, p109, c110, y111, p112, c113, hF, hS, H⟩
 unfold M.ref08_Split_k3 at H
 refine wpIn_seq_k fun K114 hK114 => ?_
 refine wpIn_region_lit ?_
 refine wp 2 [2, 3, 4, 8, 14, 15, 91, 92] hF fun a hF => ?_
 refine wc (wld hF hS 2 0 0 fun a hF => ?_)
 refine wp 2 [2, 3, 4, 8, 14, 15, 95] hF fun a hF => ?_
 refine wpListIn_nil ?_
 refine hK114 _ _ ?_
 refine bif_split H (fun hb H => ?_) (fun hb H => ?_)
 refine cond_t hF (by kernel_rfl) hb ?_
 refine rgS hS [10] ?_
 have hS := hS.drew
 refine bind_split H (fun x115 hx115 H => ?_)
 refine bind_split H (fun x119 hx119 H => ?_)
 refine any_pure [0, 2, 4] [2, 3, 4, 8, 14, 15, 96, 98, 100] (L' := [(2, vi a7), (3, .string (a8)), (4, pt b10 0), (8, pt b11 0), (14, pt b32 0), (15, vi y91), (96, pt b32 0), (98, pt b10 0), (100, vi y91)]) (listed' := (bitA 11 21)) (fuel := 8) hF (hS.sx [0, 1, 2] (rg 6)) (by kernel_rfl) (by intro c a w t v h; cases t <;> exact h) (by kernel_rfl) rfl fun a hF => ?_
 refine atk 1 (some 97) hF (hS.sx [0, 1, 2] (rg 6)) rfl (vld 0 0 0) fun a hF => ?_
 refine atk 3 (some 99) hF (hS.sx [0, 1, 2] (rg 6)) rfl (vld 2 0 0) fun a hF => ?_
 obtain ⟨b116, f117, hpx115⟩ := hS.ptr 4 rfl hx115
 refine atk 5 (some 101) hF (hS.sx [0, 1, 2] (rg 6)) rfl (fun w _ => val_index (E := 9) (sz := 1) rfl hpx115 rfl (by kernel_rfl) rfl hx115 (by kernel_rfl) (by kernel_rfl) w) fun a hF => ?_
 refine atk 6 (some 102) hF (hS.sx [0, 1, 2] (rg 6)) rfl (val_loadRo (t := fStr) 4 0 (v := .string (x115)) rfl rfl hpx115 rfl hx115 (by kernel_rfl) (by kernel_rfl) (by kernel_rfl)) fun a hF => ?_
 refine ago 7 hF rfl ?_
 refine wo_buildN (t := fStr) (z := .string (ByteArray.empty)) (l := [x115]) (vs := [(0, .string (x115))]) (cells := #[.string (x115)]) (E := 9) hF hS (by kernel_rfl) rfl (by kernel_rfl) (by kernel_rfl) rfl (by kernel_rfl) (by kernel_rfl) (by kernel_rfl) (by kernel_rfl) (by kernel_rfl) fun p118 κ a w hF hS => ?_
 refine ⟨fun _ => (hS.sx [1, 2, 3] [1, 2, 3, 4, 5, 6]), ?_⟩
 refine ago 8 hF rfl ?_
 refine wo_append (ty := fStr.ty) hF hS (by kernel_rfl) 4 1 0 rfl rfl rfl (by kernel_rfl) (by kernel_rfl) rfl rfl rfl hx119 (by kernel_rfl) (i := Try.t9) (z := .string (ByteArray.empty)) (by kernel_rfl) (by kernel_rfl) (by kernel_rfl) fun p120 c121 κ a w hF hS => ?_
 refine ⟨fun _ => (hS.sx [1, 2, 3] [2, 3, 4, 5, 6, 7]), ?_⟩
 refine anp [9] [2, 3, 4, 8, 14, 15, 104, 105] hF (hS.sx [1, 2, 3] [2, 3, 4, 5, 6, 7]) fun a hF => ?_
 refine ago 10 hF rfl ?_
 refine wst hF hS 1 0 1 [sl p120 (x119).length c121] (sgN 1 sgNil) fun a w hF hS => ?_
 refine ⟨notE, ?_⟩
 refine and_ ?_
 exact ⟨_, x119, p120, c121, y111, p112, c113, hF.kp [2, 3, 4, 8, 14, 15], hS.sp [1, 2, 3, 4, 5] [0, 3, 4, 5, 6, 7], H⟩
 refine cond_f hF (by kernel_rfl) hb ?_
 refine wpIn_skip ?_
 exact ⟨_, y108, p109, c110, y111, p112, c113, hF.kp [2, 3, 4, 8, 14, 15], hS.sp (rg 5) (rg 6), H⟩
 rintro a w ⟨κ, y94, p95, c96, y97, p98, c99, hF, hS, H⟩
 unfold M.ref08_Split_k2 at H
 refine wpIn_region_lit ?_
 refine wp 3 [2, 3, 4, 8, 14, 15] hF fun a hF => ?_
 refine wpListIn_nil ?_
 exact ⟨fuel1, Nat.lt_succ_self _, _, y94, p95, c96, y97, p98, c99, IntKind.i64.wrap (y91 + 1), hF.kp [2, 3, 4, 8, 14, 15], hS.sp (rg 5) (rg 6), H⟩
 refine cond_f hF (by kernel_rfl) hb ?_
 refine wpIn_exit ?_
 refine hK33 _ _ ?_
 refine wpIn_seq_k fun K135 hK135 => ?_
 refine wpIn_region_lit ?_
 refine wc (wls hF hS 0 0 2 fun a hF => ?_)
 refine wc (wst hF hS 1 0 2 [sl p86 (y85).length c87, sl p89 (y88).length c90] (sgN 2 sgNil) fun a w hF hS => ?_)
 refine wp 1 [8, 9] hF fun a hF => ?_
 refine wpListIn_nil ?_
 refine hK135 _ _ ?_
 refine wpIn_ret ?_
 have hS' := hS
 cases H
 exact (ret_done hF hS (res2 Try.results46 (rvs hF hS' 1 0 2) (rvt hF)) ⟨p86, c87, p89, c90, rfl, (hS.pick [0, 1] (by kernel_rfl)).ro, hS.newC [3, 4] (by decide) (by kernel_rfl)⟩)
set_option maxRecDepth 20000 in
set_option maxHeartbeats 1000000 in
theorem C_ref08_Merge (N : Nat) {κ0 : Gh} {w0 : World} (hfr : Fresh κ0 w0) (a1 : T_api_Map) (a6 : Int) (a7 : Int) (p2 : Option Addr) (c3 : Nat) (p4 : Option Addr) (c5 : Nat) (hR : ∀ m ∈ ([Ro.mp fStr.ty p2 c3 a1.Cuts, Ro.mp (fInt .i64).ty p4 c5 a1.Nodes] : List MP), m.p κ0 w0) {r : (T_api_Map × Int)} (H : M.ref08_Merge N a1 a6 a7 = some r) :
    Calls Try.prog 47 #[.agg (flat [sl p2 (a1.Cuts).length c3, sl p4 (a1.Nodes).length c5]).toArray, vi a6, vi a7] w0 (Post [] κ0 w0 fun v κ w => ∃ (p121 : Option Addr) (c122 : Nat) (p123 : Option Addr) (c124 : Nat), v = .tuple #[.agg (flat [sl p121 (r.1.Cuts).length c122, sl p123 (r.1.Nodes).length c124]).toArray, vi r.2] ∧ (∀ m ∈ ([Ro.mp fStr.ty p121 c122 r.1.Cuts, Ro.mp (fInt .i64).ty p123 c124 r.1.Nodes] : List MP), m.p κ w) ∧ NewC w0 κ w [.tok p121 9 1 (r.1.Cuts).length c122, .tok p123 3 1 (r.1.Nodes).length c124]) := by
 have hS := SS.start hfr hR
 refine enter (N := (83)) (L := [(0, .agg (flat [sl p2 (a1.Cuts).length c3, sl p4 (a1.Nodes).length c5]).toArray), (1, vi a6), (2, vi a7)]) Try.func47 rfl Try.ntmps47 (show 3 ≤ (83) by decide) rfl fun a hF => ?_
 unfold M.ref08_Merge at H
 refine wpIn_seq_k fun K8 hK8 => ?_
 refine wpIn_region_lit ?_
 refine wc (wbx hF hS [sl p2 (a1.Cuts).length c3, sl p4 (a1.Nodes).length c5] (sgN 2 sgNil) fun b9 a w hF hS => ?_)
 refine wc (wal hF hS [sl none 0 0, sl none 0 0] (sgN 2 sgNil) fun b10 a w hF hS => ?_)
 refine wp 1 [1, 2, 3, 6] hF fun a hF => ?_
 refine wpListIn_nil ?_
 refine hK8 _ _ ?_
 refine wpIn_seq_k fun K11 hK11 => ?_
 refine wpIn_seq_k fun K12 hK12 => ?_
 refine wpIn_region_lit ?_
 refine wc (wls hF hS 1 0 2 fun a hF => ?_)
 refine wp 1 [2, 3, 6, 11, 12] hF fun a hF => ?_
 refine bind_split H (fun x13 hx13 H => ?_)
 refine wc (wo_callP hF hS (by kernel_rfl) (by kernel_rfl) (C_ref08_Check N hS.fresh (T_api_Map.mk a1.Cuts a1.Nodes) a6 p2 c3 p4 c5 ((hS.pick [0, 1] (by kernel_rfl)).ro) hx13) ?_)
 rintro _ κ w a ⟨rfl, hR, hN⟩ hF hS hO
 refine wp 1 [2, 3, 6, 8] hF fun a hF => ?_
 refine wpListIn_nil ?_
 refine hK12 _ _ ?_
 refine wpIn_seq_k fun K14 hK14 => ?_
 refine wpIn_region_lit ?_
 refine wp 2 [2, 3, 6, 8, 15] hF fun a hF => ?_
 refine wpListIn_nil ?_
 refine hK14 _ _ ?_
 refine bif_split H (fun hb H => ?_) (fun hb H => ?_)
 refine cond_t hF (by kernel_rfl) hb ?_
 refine wpIn_seq_k fun K15 hK15 => ?_
 refine wpIn_region_lit ?_
 refine wp 2 [6, 16, 17] hF fun a hF => ?_
 refine wc (wst hF hS 0 0 2 [sl none 0 0, sl none 0 0] (sgN 2 sgNil) fun a w hF hS => ?_)
 refine wp 1 [6, 7] hF fun a hF => ?_
 refine wpListIn_nil ?_
 refine hK15 _ _ ?_
 refine wpIn_ret ?_
 have hS' := hS
 have hS := hS.add (m := Ro.mp fStr.ty none 0 ([] : List ByteArray)) (Ro.nil fStr.ty _ _)
 have hS := hS.add (m := Ro.mp (fInt .i64).ty none 0 ([] : List Int)) (Ro.nil (fInt .i64).ty _ _)
 have hS := hS.addNil 9 1
 have hS := hS.addNil 3 1
 cases H
 exact (ret_done hF hS (res2 Try.results47 (rvs hF hS' 0 0 2) (rvt hF)) ⟨none, 0, none, 0, rfl, (hS.pick [1, 0] (by kernel_rfl)).ro, hS.newC [1, 0] (by decide) (by kernel_rfl)⟩)
 refine cond_f hF (by kernel_rfl) hb ?_
 refine wpIn_skip ?_
 refine hK11 _ _ ?_
 refine wpIn_seq_k fun K16 hK16 => ?_
 refine wpIn_seq_k fun K17 hK17 => ?_
 refine wpIn_region_lit ?_
 refine bind_split H (fun v19 hv19 H => ?_)
 refine wl_join (fun a w => ∃ κ : Gh, Fr (83) [] [(2, vi a7), (3, pt b9 0), (6, pt b10 0), (26, vb v19)] a ∧ SS [] κ0 w0 κ w [.box b10 26 [sl none 0 0, sl none 0 0], .box b9 26 [sl p2 (a1.Cuts).length c3, sl p4 (a1.Nodes).length c5]] [Ro.mp fStr.ty none 0 ([] : List ByteArray), Ro.mp (fInt .i64).ty none 0 ([] : List Int), Ro.mp fStr.ty p2 c3 a1.Cuts, Ro.mp (fInt .i64).ty p4 c5 a1.Nodes] ∧ True) ?_ ?_
 refine wp 3 [2, 3, 6, 20] hF fun a hF => ?_
 refine bif_split hv19 (fun hb hv19 => ?_) (fun hb hv19 => ?_)
 have hF := hF.boolv 20 (by kernel_rfl) hb
 refine wp 6 [2, 3, 6, 26] hF fun a hF => ?_
 refine wpListIn_nil ?_
 cases hv19
 have hS := hS.add (m := Ro.mp fStr.ty none 0 ([] : List ByteArray)) (Ro.nil fStr.ty _ _)
 have hS := hS.add (m := Ro.mp (fInt .i64).ty none 0 ([] : List Int)) (Ro.nil (fInt .i64).ty _ _)
 exact ⟨_, hF.kp [2, 3, 6, 26], hS.sp [0, 1] [1, 0, 2, 3], trivial⟩
 have hF := hF.boolv 20 (by kernel_rfl) hb
 refine wp 2 [2, 3, 6, 20, 21, 22] hF fun a hF => ?_
 refine wcg hF (wld hF hS 1 0 0 fun a hF => ?_)
 refine wp 3 [2, 3, 6, 26] hF fun a hF => ?_
 refine wpListIn_nil ?_
 cases hv19
 have hS := hS.add (m := Ro.mp fStr.ty none 0 ([] : List ByteArray)) (Ro.nil fStr.ty _ _)
 have hS := hS.add (m := Ro.mp (fInt .i64).ty none 0 ([] : List Int)) (Ro.nil (fInt .i64).ty _ _)
 exact ⟨_, hF.kp [2, 3, 6, 26], hS.sp [0, 1] [1, 0, 2, 3], trivial⟩
 rintro a w ⟨κ, hF, hS, -⟩
 refine hK17 _ _ ?_
 refine bif_split H (fun hb H => ?_) (fun hb H => ?_)
 refine cond_t hF (by kernel_rfl) hb ?_
 refine wpIn_seq_k fun K20 hK20 => ?_
 refine wpIn_region_lit ?_
 refine wp 1 [6, 27] hF fun a hF => ?_
 refine wc (wst hF hS 0 0 2 [sl none 0 0, sl none 0 0] (sgN 2 sgNil) fun a w hF hS => ?_)
 refine wp 1 [6, 7] hF fun a hF => ?_
 refine wpListIn_nil ?_
 refine hK20 _ _ ?_
 refine wpIn_ret ?_
 have hS' := hS
 have hS := hS.addNil 9 1
 have hS := hS.addNil 3 1
 cases H
 exact (ret_done hF hS (res2 Try.results47 (rvs hF hS' 0 0 2) (rvt hF)) ⟨none, 0, none, 0, rfl, (hS.pick [0, 1] (by kernel_rfl)).ro, hS.newC [1, 0] (by decide) (by kernel_rfl)⟩)
 refine cond_f hF (by kernel_rfl) hb ?_
 refine wpIn_skip ?_
 refine hK16 _ _ ?_
 refine wpIn_seq_k fun K21 hK21 => ?_
 refine wpIn_seq_k fun K22 hK22 => ?_
 refine rgS hS [] ?_
 have hS := hS.drew
 refine any_pure [0, 2, 5, 7, 8] [2, 3, 6, 28, 30, 33, 36] (L' := [(2, vi a7), (3, pt b9 0), (6, pt b10 0), (28, pt b9 1), (30, vi a7), (33, pt b9 1), (36, vi (IntKind.i64.wrap (a7 + 1)))]) (listed' := (bitA 12 421)) (fuel := 7) hF (hS.sx [0, 1] (rg 4)) (by kernel_rfl) (by intro c a w t v h; cases t <;> exact h) (by kernel_rfl) rfl fun a hF => ?_
 refine atk 1 (some 29) hF (hS.sx [0, 1] (rg 4)) rfl (vld 1 1 0) fun a hF => ?_
 refine bind_split H (fun x23 hx23 H => ?_)
 obtain ⟨b24, f25, hpx23⟩ := hS.ptr 3 rfl hx23
 refine atk 3 (some 31) hF (hS.sx [0, 1] (rg 4)) rfl (fun w _ => val_index (E := 3) (sz := 1) rfl hpx23 rfl (by kernel_rfl) rfl hx23 (by kernel_rfl) (by kernel_rfl) w) fun a hF => ?_
 refine atk 4 (some 32) hF (hS.sx [0, 1] (rg 4)) rfl (val_loadRo (t := (fInt .i64)) 3 0 (v := vi x23) rfl rfl hpx23 rfl hx23 (by kernel_rfl) (by kernel_rfl) (by kernel_rfl)) fun a hF => ?_
 refine atk 6 (some 34) hF (hS.sx [0, 1] (rg 4)) rfl (vld 1 1 0) fun a hF => ?_
 refine bind_split H (fun x26 hx26 H => ?_)
 obtain ⟨b27, f28, hpx26⟩ := hS.ptr 3 rfl hx26
 refine atk 9 (some 37) hF (hS.sx [0, 1] (rg 4)) rfl (fun w _ => val_index (E := 3) (sz := 1) rfl hpx26 rfl (by kernel_rfl) rfl hx26 (by kernel_rfl) (by kernel_rfl) w) fun a hF => ?_
 refine atk 10 (some 38) hF (hS.sx [0, 1] (rg 4)) rfl (val_loadRo (t := (fInt .i64)) 3 0 (v := vi x26) rfl rfl hpx26 rfl hx26 (by kernel_rfl) (by kernel_rfl) (by kernel_rfl)) fun a hF => ?_
 refine anp [11] [2, 3, 6, 39] hF (hS.sx [0, 1] (rg 4)) fun a hF => ?_
 refine and_ ?_
 refine hK22 _ _ ?_
 refine bif_split H (fun hb H => ?_) (fun hb H => ?_)
 refine cond_t hF (by kernel_rfl) hb ?_
 refine wpIn_seq_k fun K29 hK29 => ?_
 refine wpIn_region_lit ?_
 refine wp 1 [6, 40] hF fun a hF => ?_
 refine wc (wst hF hS 0 0 2 [sl none 0 0, sl none 0 0] (sgN 2 sgNil) fun a w hF hS => ?_)
 refine wp 1 [6, 7] hF fun a hF => ?_
 refine wpListIn_nil ?_
 refine hK29 _ _ ?_
 refine wpIn_ret ?_
 have hS' := hS
 have hS := hS.addNil 9 1
 have hS := hS.addNil 3 1
 cases H
 exact (ret_done hF hS (res2 Try.results47 (rvs hF hS' 0 0 2) (rvt hF)) ⟨none, 0, none, 0, rfl, (hS.pick [0, 1] (by kernel_rfl)).ro, hS.newC [1, 0] (by decide) (by kernel_rfl)⟩)
 refine cond_f hF (by kernel_rfl) hb ?_
 refine wpIn_skip ?_
 refine hK21 _ _ ?_
 refine wpIn_seq_k fun K30 hK30 => ?_
 refine wpIn_region_lit ?_
 refine wp 1 [2, 3, 6, 41] hF fun a hF => ?_
 refine wc (wal hF hS [sl none 0 0, sl none 0 0] (sgN 2 sgNil) fun b31 a w hF hS => ?_)
 refine wc (wst hF hS 0 0 2 [sl none 0 0, sl none 0 0] (sgN 2 sgNil) fun a w hF hS => ?_)
 refine wpListIn_nil ?_
 refine hK30 _ _ ?_
 refine wpIn_seq_k fun K32 hK32 => ?_
 refine wpIn_seq_k fun K33 hK33 => ?_
 refine wpIn_region_lit ?_
 refine wp 1 [2, 3, 6, 9, 10] hF fun a hF => ?_
 refine wpListIn_nil ?_
 refine hK33 _ _ ?_
 refine wpIn_block ?_
 refine loop_fuel (n := N) (fun n a w => ∃ (κ : Gh) (y84 : List ByteArray) (p85 : Option Addr) (c86 : Nat) (y87 : List Int) (p88 : Option Addr) (c89 : Nat) (y90 : Int), Fr (83) [] [(2, vi a7), (3, pt b9 0), (6, pt b10 0), (9, pt b31 0), (10, vi y90)] a ∧ SS [] κ0 w0 κ w [.box b31 26 [sl p85 (y84).length c86, sl p88 (y87).length c89], .box b10 26 [sl none 0 0, sl none 0 0], .box b9 26 [sl p2 (a1.Cuts).length c3, sl p4 (a1.Nodes).length c5], .tok p85 9 1 (y84).length c86, .tok p88 3 1 (y87).length c89] [Ro.mp fStr.ty p85 c86 y84, Ro.mp (fInt .i64).ty p88 c89 y87, Ro.mp fStr.ty none 0 ([] : List ByteArray), Ro.mp (fInt .i64).ty none 0 ([] : List Int), Ro.mp fStr.ty p2 c3 a1.Cuts, Ro.mp (fInt .i64).ty p4 c5 a1.Nodes] ∧ M.ref08_Merge_L1 N n a1 a7 y84 y87 y90 = some r) ?_ ?_
 have hS := hS.addNil 9 1
 have hS := hS.addNil 3 1
 exact ⟨_, ([] : List ByteArray), none, 0, ([] : List Int), none, 0, 0, hF.kp [2, 3, 6, 9, 10], hS.sp [2, 3, 4, 1, 0] [0, 1, 0, 1, 2, 3], H⟩
 rintro n a w ⟨κ, y84, p85, c86, y87, p88, c89, y90, hF, hS, H⟩
 rcases n with _ | fuel1
 simp [M.ref08_Merge_L1] at H
 simp only [M.ref08_Merge_L1] at H
 refine wpIn_seq_k fun K91 hK91 => ?_
 refine wpIn_seq_k fun K92 hK92 => ?_
 refine wpIn_region_lit ?_
 refine wp 2 [2, 3, 6, 9, 10, 42, 43] hF fun a hF => ?_
 refine wc (wld hF hS 2 1 0 fun a hF => ?_)
 refine wp 2 [2, 3, 6, 9, 10, 46] hF fun a hF => ?_
 refine wpListIn_nil ?_
 refine hK92 _ _ ?_
 refine bif_split H (fun hb H => ?_) (fun hb H => ?_)
 refine cond_t hF (by kernel_rfl) hb ?_
 refine wpIn_skip ?_
 refine hK91 _ _ ?_
 refine seq_join (fun a w => ∃ (κ : Gh) (y93 : List ByteArray) (p94 : Option Addr) (c95 : Nat) (y96 : List Int) (p97 : Option Addr) (c98 : Nat), Fr (83) [] [(2, vi a7), (3, pt b9 0), (6, pt b10 0), (9, pt b31 0), (10, vi y90)] a ∧ SS [] κ0 w0 κ w [.box b31 26 [sl p94 (y93).length c95, sl p97 (y96).length c98], .box b10 26 [sl none 0 0, sl none 0 0], .box b9 26 [sl p2 (a1.Cuts).length c3, sl p4 (a1.Nodes).length c5], .tok p94 9 1 (y93).length c95, .tok p97 3 1 (y96).length c98] [Ro.mp fStr.ty p94 c95 y93, Ro.mp (fInt .i64).ty p97 c98 y96, Ro.mp fStr.ty none 0 ([] : List ByteArray), Ro.mp (fInt .i64).ty none 0 ([] : List Int), Ro.mp fStr.ty p2 c3 a1.Cuts, Ro.mp (fInt .i64).ty p4 c5 a1.Nodes] ∧ M.ref08_Merge_k2 N (M.ref08_Merge_L1 N fuel1) a1 a7 y90 y93 y96 = some r) ?_ ?_
 refine wpIn_block ?_
 refine seq_join (fun a w => ∃ (κ : Gh) (y99 : List Int) (p100 : Option Addr) (c101 : Nat), Fr (83) [] [(2, vi a7), (3, pt b9 0), (6, pt b10 0), (9, pt b31 0), (10, vi y90)] a ∧ SS [] κ0 w0 κ w [.box b31 26 [sl p85 (y84).length c86, sl p100 (y99).length c101], .box b10 26 [sl none 0 0, sl none 0 0], .box b9 26 [sl p2 (a1.Cuts).length c3, sl p4 (a1.Nodes).length c5], .tok p100 3 1 (y99).length c101, .tok p85 9 1 (y84).length c86] [Ro.mp fStr.ty p85 c86 y84, Ro.mp (fInt .i64).ty p100 c101 y99, Ro.mp fStr.ty none 0 ([] : List ByteArray), Ro.mp (fInt .i64).ty none 0 ([] : List Int), Ro.mp fStr.ty p2 c3 a1.Cuts, Ro.mp (fInt .i64).ty p4 c5 a1.Nodes] ∧ M.ref08_Merge_k3 N (M.ref08_Merge_L1 N fuel1) a1 a7 y84 y90 y99 = some r) ?_ ?_
 refine wpIn_seq_k fun K112 hK112 => ?_
 refine wpIn_region_lit ?_
 refine wp 3 [2, 3, 6, 9, 10, 51] hF fun a hF => ?_
 refine wpListIn_nil ?_
 refine hK112 _ _ ?_
 refine bif_split H (fun hb H => ?_) (fun hb H => ?_)
 refine cond_t hF (by kernel_rfl) hb ?_
 refine rgS hS [10] ?_
 have hS := hS.drew
 refine bind_split H (fun x113 hx113 H => ?_)
 refine bind_split H (fun x117 hx117 H => ?_)
 refine any_pure [0, 2, 4] [2, 3, 6, 9, 10, 52, 54, 56] (L' := [(2, vi a7), (3, pt b9 0), (6, pt b10 0), (9, pt b31 0), (10, vi y90), (52, pt b31 1), (54, pt b9 1), (56, vi y90)]) (listed' := (bitA 11 21)) (fuel := 8) hF (hS.sx [0, 1, 2] (rg 6)) (by kernel_rfl) (by intro c a w t v h; cases t <;> exact h) (by kernel_rfl) rfl fun a hF => ?_
 refine atk 1 (some 53) hF (hS.sx [0, 1, 2] (rg 6)) rfl (vld 0 1 0) fun a hF => ?_
 refine atk 3 (some 55) hF (hS.sx [0, 1, 2] (rg 6)) rfl (vld 2 1 0) fun a hF => ?_
 obtain ⟨b114, f115, hpx113⟩ := hS.ptr 5 rfl hx113
 refine atk 5 (some 57) hF (hS.sx [0, 1, 2] (rg 6)) rfl (fun w _ => val_index (E := 3) (sz := 1) rfl hpx113 rfl (by kernel_rfl) rfl hx113 (by kernel_rfl) (by kernel_rfl) w) fun a hF => ?_
 refine atk 6 (some 58) hF (hS.sx [0, 1, 2] (rg 6)) rfl (val_loadRo (t := (fInt .i64)) 5 0 (v := vi x113) rfl rfl hpx113 rfl hx113 (by kernel_rfl) (by kernel_rfl) (by kernel_rfl)) fun a hF => ?_
 refine ago 7 hF rfl ?_
 refine wo_buildN (t := (fInt .i64)) (z := vi 0) (l := [x113]) (vs := [(0, vi x113)]) (cells := #[vi x113]) (E := 3) hF hS (by kernel_rfl) rfl (by kernel_rfl) (by kernel_rfl) rfl (by kernel_rfl) (by kernel_rfl) (by kernel_rfl) (by kernel_rfl) (by kernel_rfl) fun p116 κ a w hF hS => ?_
 refine ⟨fun _ => (hS.sx [1, 2, 3] [1, 2, 3, 4, 5, 6]), ?_⟩
 refine ago 8 hF rfl ?_
 refine wo_append (ty := (fInt .i64).ty) hF hS (by kernel_rfl) 5 2 0 rfl rfl rfl (by kernel_rfl) (by kernel_rfl) rfl rfl rfl hx117 (by kernel_rfl) (i := Try.t3) (z := vi 0) (by kernel_rfl) (by kernel_rfl) (by kernel_rfl) fun p118 c119 κ a w hF hS => ?_
 refine ⟨fun _ => (hS.sx [1, 2, 3] [2, 3, 4, 5, 6, 7]), ?_⟩
 refine anp [9] [2, 3, 6, 9, 10, 60, 61] hF (hS.sx [1, 2, 3] [2, 3, 4, 5, 6, 7]) fun a hF => ?_
 refine ago 10 hF rfl ?_
 refine wst hF hS 1 1 1 [sl p118 (x117).length c119] (sgN 1 sgNil) fun a w hF hS => ?_
 refine ⟨notE, ?_⟩
 refine and_ ?_
 exact ⟨_, x117, p118, c119, hF.kp [2, 3, 6, 9, 10], hS.sp [1, 2, 3, 5, 4] [2, 0, 4, 5, 6, 7], H⟩
 refine cond_f hF (by kernel_rfl) hb ?_
 refine wpIn_skip ?_
 exact ⟨_, y87, p88, c89, hF.kp [2, 3, 6, 9, 10], hS.sp [0, 1, 2, 4, 3] (rg 6), H⟩
 rintro a w ⟨κ, y99, p100, c101, hF, hS, H⟩
 unfold M.ref08_Merge_k3 at H
 refine wpIn_seq_k fun K102 hK102 => ?_
 refine wpIn_region_lit ?_
 refine bind_split H (fun v104 hv104 H => ?_)
 refine wl_join (fun a w => ∃ κ : Gh, Fr (83) [] [(2, vi a7), (3, pt b9 0), (6, pt b10 0), (9, pt b31 0), (10, vi y90), (71, vb v104)] a ∧ SS [] κ0 w0 κ w [.box b31 26 [sl p85 (y84).length c86, sl p100 (y99).length c101], .box b10 26 [sl none 0 0, sl none 0 0], .box b9 26 [sl p2 (a1.Cuts).length c3, sl p4 (a1.Nodes).length c5], .tok p100 3 1 (y99).length c101, .tok p85 9 1 (y84).length c86] [Ro.mp fStr.ty p85 c86 y84, Ro.mp (fInt .i64).ty p100 c101 y99, Ro.mp fStr.ty none 0 ([] : List ByteArray), Ro.mp (fInt .i64).ty none 0 ([] : List Int), Ro.mp fStr.ty p2 c3 a1.Cuts, Ro.mp (fInt .i64).ty p4 c5 a1.Nodes] ∧ True) ?_ ?_
 refine wp 2 [2, 3, 6, 9, 10, 62, 63] hF fun a hF => ?_
 refine wc (wld hF hS 2 0 0 fun a hF => ?_)
 refine wp 3 [2, 3, 6, 9, 10, 67] hF fun a hF => ?_
 refine bif_split hv104 (fun hb hv104 => ?_) (fun hb hv104 => ?_)
 have hF := hF.boolv 67 (by kernel_rfl) hb
 refine wp 4 [2, 3, 6, 9, 10, 71] hF fun a hF => ?_
 refine wpListIn_nil ?_
 cases hv104
 exact ⟨_, hF.kp [2, 3, 6, 9, 10, 71], hS.sp (rg 5) (rg 6), trivial⟩
 have hF := hF.boolv 67 (by kernel_rfl) hb
 refine wp 4 [2, 3, 6, 9, 10, 71] hF fun a hF => ?_
 refine wpListIn_nil ?_
 cases hv104
 exact ⟨_, hF.kp [2, 3, 6, 9, 10, 71], hS.sp (rg 5) (rg 6), trivial⟩
 rintro a w ⟨κ, hF, hS, -⟩
 refine hK102 _ _ ?_
 refine bif_split H (fun hb H => ?_) (fun hb H => ?_)
 refine cond_t hF (by kernel_rfl) hb ?_
 refine rgS hS [10] ?_
 have hS := hS.drew
 refine bind_split H (fun x105 hx105 H => ?_)
 refine bind_split H (fun x109 hx109 H => ?_)
 refine any_pure [0, 2, 4] [2, 3, 6, 9, 10, 72, 74, 76] (L' := [(2, vi a7), (3, pt b9 0), (6, pt b10 0), (9, pt b31 0), (10, vi y90), (72, pt b31 0), (74, pt b9 0), (76, vi y90)]) (listed' := (bitA 11 21)) (fuel := 8) hF (hS.sx [0, 1, 2] (rg 6)) (by kernel_rfl) (by intro c a w t v h; cases t <;> exact h) (by kernel_rfl) rfl fun a hF => ?_
 refine atk 1 (some 73) hF (hS.sx [0, 1, 2] (rg 6)) rfl (vld 0 0 0) fun a hF => ?_
 refine atk 3 (some 75) hF (hS.sx [0, 1, 2] (rg 6)) rfl (vld 2 0 0) fun a hF => ?_
 obtain ⟨b106, f107, hpx105⟩ := hS.ptr 4 rfl hx105
 refine atk 5 (some 77) hF (hS.sx [0, 1, 2] (rg 6)) rfl (fun w _ => val_index (E := 9) (sz := 1) rfl hpx105 rfl (by kernel_rfl) rfl hx105 (by kernel_rfl) (by kernel_rfl) w) fun a hF => ?_
 refine atk 6 (some 78) hF (hS.sx [0, 1, 2] (rg 6)) rfl (val_loadRo (t := fStr) 4 0 (v := .string (x105)) rfl rfl hpx105 rfl hx105 (by kernel_rfl) (by kernel_rfl) (by kernel_rfl)) fun a hF => ?_
 refine ago 7 hF rfl ?_
 refine wo_buildN (t := fStr) (z := .string (ByteArray.empty)) (l := [x105]) (vs := [(0, .string (x105))]) (cells := #[.string (x105)]) (E := 9) hF hS (by kernel_rfl) rfl (by kernel_rfl) (by kernel_rfl) rfl (by kernel_rfl) (by kernel_rfl) (by kernel_rfl) (by kernel_rfl) (by kernel_rfl) fun p108 κ a w hF hS => ?_
 refine ⟨fun _ => (hS.sx [1, 2, 3] [1, 2, 3, 4, 5, 6]), ?_⟩
 refine ago 8 hF rfl ?_
 refine wo_append (ty := fStr.ty) hF hS (by kernel_rfl) 5 1 0 rfl rfl rfl (by kernel_rfl) (by kernel_rfl) rfl rfl rfl hx109 (by kernel_rfl) (i := Try.t9) (z := .string (ByteArray.empty)) (by kernel_rfl) (by kernel_rfl) (by kernel_rfl) fun p110 c111 κ a w hF hS => ?_
 refine ⟨fun _ => (hS.sx [1, 2, 3] [2, 3, 4, 5, 6, 7]), ?_⟩
 refine anp [9] [2, 3, 6, 9, 10, 80, 81] hF (hS.sx [1, 2, 3] [2, 3, 4, 5, 6, 7]) fun a hF => ?_
 refine ago 10 hF rfl ?_
 refine wst hF hS 1 0 1 [sl p110 (x109).length c111] (sgN 1 sgNil) fun a w hF hS => ?_
 refine ⟨notE, ?_⟩
 refine and_ ?_
 exact ⟨_, x109, p110, c111, y99, p100, c101, hF.kp [2, 3, 6, 9, 10], hS.sp [1, 2, 3, 5, 4] [0, 3, 4, 5, 6, 7], H⟩
 refine cond_f hF (by kernel_rfl) hb ?_
 refine wpIn_skip ?_
 exact ⟨_, y84, p85, c86, y99, p100, c101, hF.kp [2, 3, 6, 9, 10], hS.sp [0, 1, 2, 4, 3] (rg 6), H⟩
 rintro a w ⟨κ, y93, p94, c95, y96, p97, c98, hF, hS, H⟩
 unfold M.ref08_Merge_k2 at H
 refine wpIn_region_lit ?_
 refine wp 3 [2, 3, 6, 9, 10] hF fun a hF => ?_
 refine wpListIn_nil ?_
 exact ⟨fuel1, Nat.lt_succ_self _, _, y93, p94, c95, y96, p97, c98, IntKind.i64.wrap (y90 + 1), hF.kp [2, 3, 6, 9, 10], hS.sp (rg 5) (rg 6), H⟩
 refine cond_f hF (by kernel_rfl) hb ?_
 refine wpIn_exit ?_
 refine hK32 _ _ ?_
 refine wpIn_seq_k fun K120 hK120 => ?_
 refine wpIn_region_lit ?_
 refine wc (wls hF hS 0 0 2 fun a hF => ?_)
 refine wc (wst hF hS 1 0 2 [sl p85 (y84).length c86, sl p88 (y87).length c89] (sgN 2 sgNil) fun a w hF hS => ?_)
 refine wp 1 [6, 7] hF fun a hF => ?_
 refine wpListIn_nil ?_
 refine hK120 _ _ ?_
 refine wpIn_ret ?_
 have hS' := hS
 cases H
 exact (ret_done hF hS (res2 Try.results47 (rvs hF hS' 1 0 2) (rvt hF)) ⟨p85, c86, p88, c89, rfl, (hS.pick [0, 1] (by kernel_rfl)).ro, hS.newC [3, 4] (by decide) (by kernel_rfl)⟩)
end Go.Cf
