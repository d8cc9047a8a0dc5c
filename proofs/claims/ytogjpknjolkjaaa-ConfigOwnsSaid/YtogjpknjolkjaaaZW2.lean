/- The walks: each function returns what its model says. Printed by a program of ours. -/
import Derived.Test.YtogjpknjolkjaaaZM1
import Derived.Test.YtogjpknjolkjaaaZW1
namespace Go.Cf
open Go Go.Proofs
set_option linter.unusedVariables false
set_option maxRecDepth 20000 in
set_option maxHeartbeats 8000000 in
theorem C_ref08_Same (N : Nat) {κ0 : Gh} {w0 : World} (hfr : Fresh κ0 w0) (a1 : T_api_Map) (a6 : T_api_Map) (p2 : Option Addr) (c3 : Nat) (p4 : Option Addr) (c5 : Nat) (p7 : Option Addr) (c8 : Nat) (p9 : Option Addr) (c10 : Nat) (hR : ∀ m ∈ ([Ro.mp fStr.ty p2 c3 a1.Cuts, Ro.mp (fInt .i64).ty p4 c5 a1.Nodes, Ro.mp fStr.ty p7 c8 a6.Cuts, Ro.mp (fInt .i64).ty p9 c10 a6.Nodes] : List MP), m.p κ0 w0) {r : (Bool)} (H : M.ref08_Same N a1 a6 = some r) :
    Calls Try.prog 33 #[.agg (flat [sl p2 (a1.Cuts).length c3, sl p4 (a1.Nodes).length c5]).toArray, .agg (flat [sl p7 (a6.Cuts).length c8, sl p9 (a6.Nodes).length c10]).toArray] w0 (Post [] κ0 w0 fun v κ w => v = vb r ∧ (∀ m ∈ ([] : List MP), m.p κ w) ∧ NewC w0 κ w []) := by
 have hS := SS.start hfr hR
 refine enter (N := (59)) (L := [(0, .agg (flat [sl p2 (a1.Cuts).length c3, sl p4 (a1.Nodes).length c5]).toArray), (1, .agg (flat [sl p7 (a6.Cuts).length c8, sl p9 (a6.Nodes).length c10]).toArray)]) Try.func33 rfl Try.ntmps33 (show 2 ≤ (59) by decide) rfl fun a hF => ?_
 unfold M.ref08_Same at H
 refine wpIn_seq_k fun K11 hK11 => ?_
 refine wpIn_region_lit ?_
 refine wc (wbx hF hS [sl p2 (a1.Cuts).length c3, sl p4 (a1.Nodes).length c5] (sgN 2 sgNil) fun b12 a w hF hS => ?_)
 refine wc (wbx hF hS [sl p7 (a6.Cuts).length c8, sl p9 (a6.Nodes).length c10] (sgN 2 sgNil) fun b13 a w hF hS => ?_)
 refine wp 1 [2, 3] hF fun a hF => ?_
 refine wpListIn_nil ?_
 refine hK11 _ _ ?_
 refine wpIn_seq_k fun K14 hK14 => ?_
 refine wpIn_seq_k fun K15 hK15 => ?_
 refine wpIn_region_lit ?_
 refine bind_split H (fun v17 hv17 H => ?_)
 refine wl_join (fun a w => ∃ κ : Gh, Fr (59) [] [(2, pt b12 0), (3, pt b13 0), (22, vb v17)] a ∧ SS [] κ0 w0 κ w [.box b13 25 [sl p7 (a6.Cuts).length c8, sl p9 (a6.Nodes).length c10], .box b12 25 [sl p2 (a1.Cuts).length c3, sl p4 (a1.Nodes).length c5]] [Ro.mp fStr.ty p7 c8 a6.Cuts, Ro.mp (fInt .i64).ty p9 c10 a6.Nodes, Ro.mp fStr.ty p2 c3 a1.Cuts, Ro.mp (fInt .i64).ty p4 c5 a1.Nodes] ∧ True) ?_ ?_
 refine wp 1 [2, 3, 7] hF fun a hF => ?_
 refine wc (wld hF hS 1 0 0 fun a hF => ?_)
 refine wp 2 [2, 3, 9, 10] hF fun a hF => ?_
 refine wc (wld hF hS 0 0 0 fun a hF => ?_)
 refine wp 3 [2, 3, 14] hF fun a hF => ?_
 refine bif_split hv17 (fun hb hv17 => ?_) (fun hb hv17 => ?_)
 have hF := hF.boolv 14 (by kernel_rfl) hb
 refine wp 8 [2, 3, 22] hF fun a hF => ?_
 refine wpListIn_nil ?_
 cases hv17
 exact ⟨_, hF.kp [2, 3, 22], hS.sp [0, 1] [2, 3, 0, 1], trivial⟩
 have hF := hF.boolv 14 (by kernel_rfl) hb
 refine wp 1 [2, 3, 14, 15] hF fun a hF => ?_
 refine wcg hF (wld hF hS 1 1 0 fun a hF => ?_)
 refine wp 2 [2, 3, 14, 17, 18] hF fun a hF => ?_
 refine wcg hF (wld hF hS 0 1 0 fun a hF => ?_)
 refine wp 3 [2, 3, 22] hF fun a hF => ?_
 refine wpListIn_nil ?_
 cases hv17
 exact ⟨_, hF.kp [2, 3, 22], hS.sp [0, 1] [2, 3, 0, 1], trivial⟩
 rintro a w ⟨κ, hF, hS, -⟩
 refine hK15 _ _ ?_
 refine bif_split H (fun hb H => ?_) (fun hb H => ?_)
 refine cond_t hF (by kernel_rfl) hb ?_
 refine wpIn_seq_k fun K18 hK18 => ?_
 refine wpIn_region_lit ?_
 refine wp 1 [4] hF fun a hF => ?_
 refine wpListIn_nil ?_
 refine hK18 _ _ ?_
 refine wpIn_ret ?_
 cases H
 exact (ret_done hF hS (res1 Try.results33 (rvt hF)) ⟨rfl, (hS.pick [] (by kernel_rfl)).ro, hS.newC [] (by decide) (by kernel_rfl)⟩)
 refine cond_f hF (by kernel_rfl) hb ?_
 refine wpIn_skip ?_
 refine hK14 _ _ ?_
 refine wpIn_seq_k fun K19 hK19 => ?_
 refine wpIn_seq_k fun K20 hK20 => ?_
 refine wpIn_region_lit ?_
 refine wp 1 [2, 3, 5] hF fun a hF => ?_
 refine wpListIn_nil ?_
 refine hK20 _ _ ?_
 refine wpIn_block ?_
 refine loop_fuel (n := N) (fun n a w => ∃ (κ : Gh) (y71 : Int), Fr (59) [] [(2, pt b12 0), (3, pt b13 0), (5, vi y71)] a ∧ SS [] κ0 w0 κ w [.box b13 25 [sl p7 (a6.Cuts).length c8, sl p9 (a6.Nodes).length c10], .box b12 25 [sl p2 (a1.Cuts).length c3, sl p4 (a1.Nodes).length c5]] [Ro.mp fStr.ty p7 c8 a6.Cuts, Ro.mp (fInt .i64).ty p9 c10 a6.Nodes, Ro.mp fStr.ty p2 c3 a1.Cuts, Ro.mp (fInt .i64).ty p4 c5 a1.Nodes] ∧ M.ref08_Same_L1 N n a1 a6 y71 = some r) ?_ ?_
 exact ⟨_, 0, hF.kp [2, 3, 5], hS.sp [0, 1] (rg 4), H⟩
 rintro n a w ⟨κ, y71, hF, hS, H⟩
 rcases n with _ | fuel1
 simp [M.ref08_Same_L1] at H
 simp only [M.ref08_Same_L1] at H
 refine wpIn_seq_k fun K72 hK72 => ?_
 refine wpIn_seq_k fun K73 hK73 => ?_
 refine wpIn_region_lit ?_
 refine wp 2 [2, 3, 5, 23, 24] hF fun a hF => ?_
 refine wc (wld hF hS 1 0 0 fun a hF => ?_)
 refine wp 2 [2, 3, 5, 27] hF fun a hF => ?_
 refine wpListIn_nil ?_
 refine hK73 _ _ ?_
 refine bif_split H (fun hb H => ?_) (fun hb H => ?_)
 refine cond_t hF (by kernel_rfl) hb ?_
 refine wpIn_skip ?_
 refine hK72 _ _ ?_
 refine wpIn_seq_k fun K74 hK74 => ?_
 refine wpIn_block ?_
 refine wpIn_seq_k fun K75 hK75 => ?_
 refine rgS hS [] ?_
 have hS := hS.drew
 refine any_pure [0, 2, 5, 7] [2, 3, 5, 30, 32, 35, 37] (L' := [(2, pt b12 0), (3, pt b13 0), (5, vi y71), (30, pt b12 0), (32, vi y71), (35, pt b13 0), (37, vi y71)]) (listed' := (bitA 11 165)) (fuel := 7) hF (hS.sx [0, 1] (rg 4)) (by kernel_rfl) (by intro c a w t v h; cases t <;> exact h) (by kernel_rfl) rfl fun a hF => ?_
 refine atk 1 (some 31) hF (hS.sx [0, 1] (rg 4)) rfl (vld 1 0 0) fun a hF => ?_
 refine bind_split H (fun x76 hx76 H => ?_)
 obtain ⟨b77, f78, hpx76⟩ := hS.ptr 2 rfl hx76
 refine atk 3 (some 33) hF (hS.sx [0, 1] (rg 4)) rfl (fun w _ => val_index (E := 9) (sz := 1) rfl hpx76 rfl (by kernel_rfl) rfl hx76 (by kernel_rfl) (by kernel_rfl) w) fun a hF => ?_
 refine atk 4 (some 34) hF (hS.sx [0, 1] (rg 4)) rfl (val_loadRo (t := fStr) 2 0 (v := .string (x76)) rfl rfl hpx76 rfl hx76 (by kernel_rfl) (by kernel_rfl) (by kernel_rfl)) fun a hF => ?_
 refine atk 6 (some 36) hF (hS.sx [0, 1] (rg 4)) rfl (vld 0 0 0) fun a hF => ?_
 refine bind_split H (fun x79 hx79 H => ?_)
 obtain ⟨b80, f81, hpx79⟩ := hS.ptr 0 rfl hx79
 refine atk 8 (some 38) hF (hS.sx [0, 1] (rg 4)) rfl (fun w _ => val_index (E := 9) (sz := 1) rfl hpx79 rfl (by kernel_rfl) rfl hx79 (by kernel_rfl) (by kernel_rfl) w) fun a hF => ?_
 refine atk 9 (some 39) hF (hS.sx [0, 1] (rg 4)) rfl (val_loadRo (t := fStr) 0 0 (v := .string (x79)) rfl rfl hpx79 rfl hx79 (by kernel_rfl) (by kernel_rfl) (by kernel_rfl)) fun a hF => ?_
 refine anp [10] [2, 3, 5, 40] hF (hS.sx [0, 1] (rg 4)) fun a hF => ?_
 refine and_ ?_
 refine hK75 _ _ ?_
 refine bif_split H (fun hb H => ?_) (fun hb H => ?_)
 refine cond_t hF (by kernel_rfl) hb ?_
 refine wpIn_seq_k fun K82 hK82 => ?_
 refine wpIn_region_lit ?_
 refine wp 1 [4] hF fun a hF => ?_
 refine wpListIn_nil ?_
 refine hK82 _ _ ?_
 refine wpIn_ret ?_
 cases H
 exact (ret_done hF hS (res1 Try.results33 (rvt hF)) ⟨rfl, (hS.pick [] (by kernel_rfl)).ro, hS.newC [] (by decide) (by kernel_rfl)⟩)
 refine cond_f hF (by kernel_rfl) hb ?_
 refine wpIn_skip ?_
 refine hK74 _ _ ?_
 refine wpIn_region_lit ?_
 refine wp 3 [2, 3, 5] hF fun a hF => ?_
 refine wpListIn_nil ?_
 exact ⟨fuel1, Nat.lt_succ_self _, _, IntKind.i64.wrap (y71 + 1), hF.kp [2, 3, 5], hS.sp [0, 1] (rg 4), H⟩
 refine cond_f hF (by kernel_rfl) hb ?_
 refine wpIn_exit ?_
 refine hK19 _ _ ?_
 refine wpIn_seq_k fun K83 hK83 => ?_
 refine wpIn_seq_k fun K84 hK84 => ?_
 refine wpIn_region_lit ?_
 refine wp 1 [2, 3, 6] hF fun a hF => ?_
 refine wpListIn_nil ?_
 refine hK84 _ _ ?_
 refine wpIn_block ?_
 refine loop_fuel (n := N) (fun n a w => ∃ (κ : Gh) (y135 : Int), Fr (59) [] [(2, pt b12 0), (3, pt b13 0), (6, vi y135)] a ∧ SS [] κ0 w0 κ w [.box b13 25 [sl p7 (a6.Cuts).length c8, sl p9 (a6.Nodes).length c10], .box b12 25 [sl p2 (a1.Cuts).length c3, sl p4 (a1.Nodes).length c5]] [Ro.mp fStr.ty p7 c8 a6.Cuts, Ro.mp (fInt .i64).ty p9 c10 a6.Nodes, Ro.mp fStr.ty p2 c3 a1.Cuts, Ro.mp (fInt .i64).ty p4 c5 a1.Nodes] ∧ M.ref08_Same_L2 N n a1 a6 y135 = some r) ?_ ?_
 exact ⟨_, 0, hF.kp [2, 3, 6], hS.sp [0, 1] (rg 4), H⟩
 rintro n a w ⟨κ, y135, hF, hS, H⟩
 rcases n with _ | fuel2
 simp [M.ref08_Same_L2] at H
 simp only [M.ref08_Same_L2] at H
 refine wpIn_seq_k fun K136 hK136 => ?_
 refine wpIn_seq_k fun K137 hK137 => ?_
 refine wpIn_region_lit ?_
 refine wp 2 [2, 3, 6, 41, 42] hF fun a hF => ?_
 refine wc (wld hF hS 1 1 0 fun a hF => ?_)
 refine wp 2 [2, 3, 6, 45] hF fun a hF => ?_
 refine wpListIn_nil ?_
 refine hK137 _ _ ?_
 refine bif_split H (fun hb H => ?_) (fun hb H => ?_)
 refine cond_t hF (by kernel_rfl) hb ?_
 refine wpIn_skip ?_
 refine hK136 _ _ ?_
 refine wpIn_seq_k fun K138 hK138 => ?_
 refine wpIn_block ?_
 refine wpIn_seq_k fun K139 hK139 => ?_
 refine rgS hS [] ?_
 have hS := hS.drew
 refine any_pure [0, 2, 5, 7] [2, 3, 6, 48, 50, 53, 55] (L' := [(2, pt b12 0), (3, pt b13 0), (6, vi y135), (48, pt b12 1), (50, vi y135), (53, pt b13 1), (55, vi y135)]) (listed' := (bitA 11 165)) (fuel := 7) hF (hS.sx [0, 1] (rg 4)) (by kernel_rfl) (by intro c a w t v h; cases t <;> exact h) (by kernel_rfl) rfl fun a hF => ?_
 refine atk 1 (some 49) hF (hS.sx [0, 1] (rg 4)) rfl (vld 1 1 0) fun a hF => ?_
 refine bind_split H (fun x140 hx140 H => ?_)
 obtain ⟨b141, f142, hpx140⟩ := hS.ptr 3 rfl hx140
 refine atk 3 (some 51) hF (hS.sx [0, 1] (rg 4)) rfl (fun w _ => val_index (E := 3) (sz := 1) rfl hpx140 rfl (by kernel_rfl) rfl hx140 (by kernel_rfl) (by kernel_rfl) w) fun a hF => ?_
 refine atk 4 (some 52) hF (hS.sx [0, 1] (rg 4)) rfl (val_loadRo (t := (fInt .i64)) 3 0 (v := vi x140) rfl rfl hpx140 rfl hx140 (by kernel_rfl) (by kernel_rfl) (by kernel_rfl)) fun a hF => ?_
 refine atk 6 (some 54) hF (hS.sx [0, 1] (rg 4)) rfl (vld 0 1 0) fun a hF => ?_
 refine bind_split H (fun x143 hx143 H => ?_)
 obtain ⟨b144, f145, hpx143⟩ := hS.ptr 1 rfl hx143
 refine atk 8 (some 56) hF (hS.sx [0, 1] (rg 4)) rfl (fun w _ => val_index (E := 3) (sz := 1) rfl hpx143 rfl (by kernel_rfl) rfl hx143 (by kernel_rfl) (by kernel_rfl) w) fun a hF => ?_
 refine atk 9 (some 57) hF (hS.sx [0, 1] (rg 4)) rfl (val_loadRo (t := (fInt .i64)) 1 0 (v := vi x143) rfl rfl hpx143 rfl hx143 (by kernel_rfl) (by kernel_rfl) (by kernel_rfl)) fun a hF => ?_
 refine anp [10] [2, 3, 6, 58] hF (hS.sx [0, 1] (rg 4)) fun a hF => ?_
 refine and_ ?_
 refine hK139 _ _ ?_
 refine bif_split H (fun hb H => ?_) (fun hb H => ?_)
 refine cond_t hF (by kernel_rfl) hb ?_
 refine wpIn_seq_k fun K146 hK146 => ?_
 refine wpIn_region_lit ?_
 refine wp 1 [4] hF fun a hF => ?_
 refine wpListIn_nil ?_
 refine hK146 _ _ ?_
 refine wpIn_ret ?_
 cases H
 exact (ret_done hF hS (res1 Try.results33 (rvt hF)) ⟨rfl, (hS.pick [] (by kernel_rfl)).ro, hS.newC [] (by decide) (by kernel_rfl)⟩)
 refine cond_f hF (by kernel_rfl) hb ?_
 refine wpIn_skip ?_
 refine hK138 _ _ ?_
 refine wpIn_region_lit ?_
 refine wp 3 [2, 3, 6] hF fun a hF => ?_
 refine wpListIn_nil ?_
 exact ⟨fuel2, Nat.lt_succ_self _, _, IntKind.i64.wrap (y135 + 1), hF.kp [2, 3, 6], hS.sp [0, 1] (rg 4), H⟩
 refine cond_f hF (by kernel_rfl) hb ?_
 refine wpIn_exit ?_
 refine hK83 _ _ ?_
 refine wpIn_seq_k fun K147 hK147 => ?_
 refine wpIn_region_lit ?_
 refine wp 1 [4] hF fun a hF => ?_
 refine wpListIn_nil ?_
 refine hK147 _ _ ?_
 refine wpIn_ret ?_
 cases H
 exact (ret_done hF hS (res1 Try.results33 (rvt hF)) ⟨rfl, (hS.pick [] (by kernel_rfl)).ro, hS.newC [] (by decide) (by kernel_rfl)⟩)
set_option maxRecDepth 20000 in
set_option maxHeartbeats 8000000 in
theorem C_span_Copy (N : Nat) {κ0 : Gh} {w0 : World} (hfr : Fresh κ0 w0) (a1 : T_api_Map) (p2 : Option Addr) (c3 : Nat) (p4 : Option Addr) (c5 : Nat) (hR : ∀ m ∈ ([Ro.mp fStr.ty p2 c3 a1.Cuts, Ro.mp (fInt .i64).ty p4 c5 a1.Nodes] : List MP), m.p κ0 w0) {r : (T_api_Map)} (H : M.span_Copy N a1 = some r) :
    Calls Try.prog 35 #[.agg (flat [sl p2 (a1.Cuts).length c3, sl p4 (a1.Nodes).length c5]).toArray] w0 (Post [] κ0 w0 fun v κ w => ∃ (p16 : Option Addr) (c17 : Nat) (p18 : Option Addr) (c19 : Nat), v = .agg (flat [sl p16 (r.Cuts).length c17, sl p18 (r.Nodes).length c19]).toArray ∧ (∀ m ∈ ([Ro.mp fStr.ty p16 c17 r.Cuts, Ro.mp (fInt .i64).ty p18 c19 r.Nodes] : List MP), m.p κ w) ∧ NewC w0 κ w [.tok p16 9 1 (r.Cuts).length c17, .tok p18 3 1 (r.Nodes).length c19]) := by
 have hS := SS.start hfr hR
 refine enter (N := (10)) (L := [(0, .agg (flat [sl p2 (a1.Cuts).length c3, sl p4 (a1.Nodes).length c5]).toArray)]) Try.func35 rfl Try.ntmps35 (show 1 ≤ (10) by decide) rfl fun a hF => ?_
 unfold M.span_Copy at H
 refine wpIn_seq_k fun K6 hK6 => ?_
 refine wpIn_region_lit ?_
 refine wc (wbx hF hS [sl p2 (a1.Cuts).length c3, sl p4 (a1.Nodes).length c5] (sgN 2 sgNil) fun b7 a w hF hS => ?_)
 refine wc (wal hF hS [sl none 0 0, sl none 0 0] (sgN 2 sgNil) fun b8 a w hF hS => ?_)
 refine wpListIn_nil ?_
 refine hK6 _ _ ?_
 refine wpIn_seq_k fun K9 hK9 => ?_
 refine rgS hS [7] ?_
 have hS := hS.drew
 refine bind_split H (fun x10 hx10 H => ?_)
 refine bind_split H (fun x13 hx13 H => ?_)
 refine any_pure [0, 3] [2, 3, 6] (L' := [(2, pt b8 0), (3, pt b7 0), (6, pt b7 1)]) (listed' := (bitA 8 9)) (fuel := 6) hF (hS.sx [0, 1] [0, 1]) (by kernel_rfl) (by intro c a w t v h; cases t <;> exact h) (by kernel_rfl) rfl fun a hF => ?_
 refine atk 1 (some 4) hF (hS.sx [0, 1] [0, 1]) rfl (vld 1 0 0) fun a hF => ?_
 refine atk 4 (some 7) hF (hS.sx [0, 1] [0, 1]) rfl (vld 1 1 0) fun a hF => ?_
 refine ago 2 hF rfl ?_
 have hS := hS.add (m := Ro.mp fStr.ty none 0 ([] : List ByteArray)) (Ro.nil fStr.ty _ _)
 have hS := hS.addNil 9 1
 refine wo_append (ty := fStr.ty) hF hS (by kernel_rfl) 0 0 1 rfl rfl rfl (by kernel_rfl) (by kernel_rfl) rfl rfl rfl hx10 (by kernel_rfl) (i := Try.t9) (z := .string (ByteArray.empty)) (by kernel_rfl) (by kernel_rfl) (by kernel_rfl) fun p11 c12 κ a w hF hS => ?_
 refine ⟨fun _ => (hS.sx [1, 2] [2, 3]), ?_⟩
 refine ago 5 hF rfl ?_
 have hS := hS.add (m := Ro.mp (fInt .i64).ty none 0 ([] : List Int)) (Ro.nil (fInt .i64).ty _ _)
 have hS := hS.addNil 3 1
 refine wo_append (ty := (fInt .i64).ty) hF hS (by kernel_rfl) 0 0 4 rfl rfl rfl (by kernel_rfl) (by kernel_rfl) rfl rfl rfl hx13 (by kernel_rfl) (i := Try.t3) (z := vi 0) (by kernel_rfl) (by kernel_rfl) (by kernel_rfl) fun p14 c15 κ a w hF hS => ?_
 refine ⟨fun _ => (hS.sx [2, 3] [4, 5]), ?_⟩
 refine anp [6] [2, 9] hF (hS.sx [2, 3] [4, 5]) fun a hF => ?_
 refine ago 7 hF rfl ?_
 refine wst hF hS 2 0 2 [sl p11 (x10).length c12, sl p14 (x13).length c15] (sgN 2 sgNil) fun a w hF hS => ?_
 refine ⟨notE, ?_⟩
 refine and_ ?_
 refine hK9 _ _ ?_
 refine wpIn_ret ?_
 have hS' := hS
 cases H
 exact (ret_done hF hS (res1 Try.results35 (rvs hF hS' 2 0 2)) ⟨p11, c12, p14, c15, rfl, (hS.pick [2, 0] (by kernel_rfl)).ro, hS.newC [1, 0] (by decide) (by kernel_rfl)⟩)
end Go.Cf
