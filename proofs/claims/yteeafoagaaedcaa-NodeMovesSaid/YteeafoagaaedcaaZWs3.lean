/- The walks: each function returns what its model says. Printed by a program of ours. -/
import Derived.Test.YteeafoagaaedcaaZM1
namespace Go.Cf
open Go Go.Proofs
set_option linter.unusedVariables false
set_option maxRecDepth 20000 in
set_option maxHeartbeats 8000000 in
theorem C_ref04_SameVers (N : Nat) {κ0 : Gh} {w0 : World} (hfr : Fresh κ0 w0) (a1 : (List T_api_Ver)) (a4 : (List T_api_Ver)) (p2 : Option Addr) (c3 : Nat) (p5 : Option Addr) (c6 : Nat) (hR : ∀ m ∈ ([Ro.mp f_api_Ver.ty p2 c3 a1, Ro.mp f_api_Ver.ty p5 c6 a4] : List MP), m.p κ0 w0) {r : (Bool)} (H : M.ref04_SameVers N a1 a4 = some r) :
    Calls Try.prog 39 #[.slice p2 (a1).length c3, .slice p5 (a4).length c6] w0 (Post [] κ0 w0 fun v κ w => v = vb r ∧ (∀ m ∈ ([] : List MP), m.p κ w) ∧ NewC w0 κ w []) := by
 have hS := SS.start hfr hR
 refine enter (N := (26)) (L := [(0, .slice p2 (a1).length c3), (1, .slice p5 (a4).length c6)]) Try.func39 rfl Try.ntmps39 (show 2 ≤ (26) by decide) rfl fun a hF => ?_
 unfold M.ref04_SameVers at H
 refine wpIn_seq_k fun K7 hK7 => ?_
 refine wpIn_region_lit ?_
 refine wp 1 [0, 1] hF fun a hF => ?_
 refine wpListIn_nil ?_
 refine hK7 _ _ ?_
 refine wpIn_seq_k fun K8 hK8 => ?_
 refine wpIn_seq_k fun K9 hK9 => ?_
 refine wpIn_region_lit ?_
 refine wp 5 [0, 1, 10] hF fun a hF => ?_
 refine wpListIn_nil ?_
 refine hK9 _ _ ?_
 refine bif_split H (fun hb H => ?_) (fun hb H => ?_)
 refine cond_t hF (by kernel_rfl) hb ?_
 refine wpIn_seq_k fun K10 hK10 => ?_
 refine wpIn_region_lit ?_
 refine wp 1 [4] hF fun a hF => ?_
 refine wpListIn_nil ?_
 refine hK10 _ _ ?_
 refine wpIn_ret ?_
 cases H
 exact (ret_done hF hS (res1 Try.results39 (rvt hF)) ⟨rfl, (hS.pick [] (by kernel_rfl)).ro, hS.newC [] (by decide) (by kernel_rfl)⟩)
 refine cond_f hF (by kernel_rfl) hb ?_
 refine wpIn_skip ?_
 refine hK8 _ _ ?_
 refine wpIn_seq_k fun K11 hK11 => ?_
 refine wpIn_seq_k fun K12 hK12 => ?_
 refine wpIn_region_lit ?_
 refine wp 1 [0, 1, 5] hF fun a hF => ?_
 refine wpListIn_nil ?_
 refine hK12 _ _ ?_
 refine wpIn_block ?_
 refine loop_fuel (n := N) (fun n a w => ∃ (κ : Gh) (y63 : Int), Fr (26) [] [(0, .slice p2 (a1).length c3), (1, .slice p5 (a4).length c6), (5, vi y63)] a ∧ SS [] κ0 w0 κ w [] [Ro.mp f_api_Ver.ty p2 c3 a1, Ro.mp f_api_Ver.ty p5 c6 a4] ∧ M.ref04_SameVers_L1 N n a1 a4 y63 = some r) ?_ ?_
 exact ⟨_, 0, hF.kp [0, 1, 5], hS.sp [] [0, 1], H⟩
 rintro n a w ⟨κ, y63, hF, hS, H⟩
 rcases n with _ | fuel1
 simp [M.ref04_SameVers_L1] at H
 simp only [M.ref04_SameVers_L1] at H
 refine wpIn_seq_k fun K64 hK64 => ?_
 refine wpIn_seq_k fun K65 hK65 => ?_
 refine wpIn_region_lit ?_
 refine wp 4 [0, 1, 5, 14] hF fun a hF => ?_
 refine wpListIn_nil ?_
 refine hK65 _ _ ?_
 refine bif_split H (fun hb H => ?_) (fun hb H => ?_)
 refine cond_t hF (by kernel_rfl) hb ?_
 refine wpIn_skip ?_
 refine hK64 _ _ ?_
 refine wpIn_seq_k fun K66 hK66 => ?_
 refine wpIn_block ?_
 refine wpIn_seq_k fun K67 hK67 => ?_
 refine rgS hS [] ?_
 have hS := hS.drew
 refine any_pure [0, 1, 4, 5] [0, 1, 5, 17, 18, 21, 22] (L' := [(0, .slice p2 (a1).length c3), (1, .slice p5 (a4).length c6), (5, vi y63), (17, .slice p2 (a1).length c3), (18, vi y63), (21, .slice p5 (a4).length c6), (22, vi y63)]) (listed' := (bitA 9 51)) (fuel := 5) hF (hS.sx [] [0, 1]) (by kernel_rfl) (by intro c a w t v h; cases t <;> exact h) (by kernel_rfl) rfl fun a hF => ?_
 refine bind_split H (fun x68 hx68 H => ?_)
 obtain ⟨b69, f70, hpx68⟩ := hS.ptr 0 rfl hx68
 refine atk 2 (some 19) hF (hS.sx [] [0, 1]) rfl (fun w _ => val_index (E := 37) (sz := 6) rfl hpx68 rfl (by kernel_rfl) rfl hx68 (by kernel_rfl) (by kernel_rfl) w) fun a hF => ?_
 refine atk 3 (some 20) hF (hS.sx [] [0, 1]) rfl (val_loadRoAgg (t := f_api_Ver) 0 rfl rfl hpx68 rfl hx68 (by kernel_rfl) (by kernel_rfl) (by kernel_rfl)) fun a hF => ?_
 refine bind_split H (fun x71 hx71 H => ?_)
 obtain ⟨b72, f73, hpx71⟩ := hS.ptr 1 rfl hx71
 refine atk 6 (some 23) hF (hS.sx [] [0, 1]) rfl (fun w _ => val_index (E := 37) (sz := 6) rfl hpx71 rfl (by kernel_rfl) rfl hx71 (by kernel_rfl) (by kernel_rfl) w) fun a hF => ?_
 refine atk 7 (some 24) hF (hS.sx [] [0, 1]) rfl (val_loadRoAgg (t := f_api_Ver) 1 rfl rfl hpx71 rfl hx71 (by kernel_rfl) (by kernel_rfl) (by kernel_rfl)) fun a hF => ?_
 refine atk 8 (some 25) hF (hS.sx [] [0, 1]) rfl (fun w _ => (val_eq (neg := true) (xs := (flat [sg x68.Key, sg x68.Val, sb x68.Gone, su x68.TS, si x68.DC, si x68.Tx])) (ys := (flat [sg x71.Key, sg x71.Val, sb x71.Gone, su x71.TS, si x71.DC, si x71.Tx])) (ks := [.str, .str, .bool, .int .u64, .int .i64, .int .i64]) 20 (by decide) rfl (by kernel_rfl) (by kernel_rfl) (by kernel_rfl) (by kernel_rfl) (by kernel_rfl) (by kernel_rfl) (by kernel_rfl)) w) fun a hF => ?_
 refine and_ ?_
 refine hK67 _ _ ?_
 refine bif_split H (fun hb H => ?_) (fun hb H => ?_)
 refine cond_t hF (by kernel_rfl) hb ?_
 refine wpIn_seq_k fun K74 hK74 => ?_
 refine wpIn_region_lit ?_
 refine wp 1 [4] hF fun a hF => ?_
 refine wpListIn_nil ?_
 refine hK74 _ _ ?_
 refine wpIn_ret ?_
 cases H
 exact (ret_done hF hS (res1 Try.results39 (rvt hF)) ⟨rfl, (hS.pick [] (by kernel_rfl)).ro, hS.newC [] (by decide) (by kernel_rfl)⟩)
 refine cond_f hF (by kernel_rfl) hb ?_
 refine wpIn_skip ?_
 refine hK66 _ _ ?_
 refine wpIn_region_lit ?_
 refine wp 3 [0, 1, 5] hF fun a hF => ?_
 refine wpListIn_nil ?_
 exact ⟨fuel1, Nat.lt_succ_self _, _, IntKind.i64.wrap (y63 + 1), hF.kp [0, 1, 5], hS.sp [] [0, 1], H⟩
 refine cond_f hF (by kernel_rfl) hb ?_
 refine wpIn_exit ?_
 refine hK11 _ _ ?_
 refine wpIn_seq_k fun K75 hK75 => ?_
 refine wpIn_region_lit ?_
 refine wp 1 [4] hF fun a hF => ?_
 refine wpListIn_nil ?_
 refine hK75 _ _ ?_
 refine wpIn_ret ?_
 cases H
 exact (ret_done hF hS (res1 Try.results39 (rvt hF)) ⟨rfl, (hS.pick [] (by kernel_rfl)).ro, hS.newC [] (by decide) (by kernel_rfl)⟩)
set_option maxRecDepth 20000 in
set_option maxHeartbeats 8000000 in
theorem C_ref04_Same (N : Nat) {κ0 : Gh} {w0 : World} (hfr : Fresh κ0 w0) (a1 : T_api_Msg) (a6 : T_api_Msg) (p2 : Option Addr) (c3 : Nat) (p4 : Option Addr) (c5 : Nat) (p7 : Option Addr) (c8 : Nat) (p9 : Option Addr) (c10 : Nat) (hR : ∀ m ∈ ([Ro.mp f_api_Ver.ty p2 c3 a1.Vers, Ro.mp (fInt .u64).ty p4 c5 a1.Vec, Ro.mp f_api_Ver.ty p7 c8 a6.Vers, Ro.mp (fInt .u64).ty p9 c10 a6.Vec] : List MP), m.p κ0 w0) {r : (Bool)} (H : M.ref04_Same N a1 a6 = some r) :
    Calls Try.prog 65 #[.agg (flat [si a1.Kind, su a1.Id, su a1.N, su a1.TS, sg a1.Lo, sg a1.Hi, sl p2 (a1.Vers).length c3, sl p4 (a1.Vec).length c5, si a1.Cmd.Kind, si a1.Cmd.DC, si a1.Cmd.Shard, si a1.Cmd.Node, si a1.Cmd.Mode, sg a1.Cmd.Key]).toArray, .agg (flat [si a6.Kind, su a6.Id, su a6.N, su a6.TS, sg a6.Lo, sg a6.Hi, sl p7 (a6.Vers).length c8, sl p9 (a6.Vec).length c10, si a6.Cmd.Kind, si a6.Cmd.DC, si a6.Cmd.Shard, si a6.Cmd.Node, si a6.Cmd.Mode, sg a6.Cmd.Key]).toArray] w0 (Post [] κ0 w0 fun v κ w => v = vb r ∧ (∀ m ∈ ([] : List MP), m.p κ w) ∧ NewC w0 κ w []) := by
 have hS := SS.start hfr hR
 refine enter (N := (85)) (L := [(0, .agg (flat [si a1.Kind, su a1.Id, su a1.N, su a1.TS, sg a1.Lo, sg a1.Hi, sl p2 (a1.Vers).length c3, sl p4 (a1.Vec).length c5, si a1.Cmd.Kind, si a1.Cmd.DC, si a1.Cmd.Shard, si a1.Cmd.Node, si a1.Cmd.Mode, sg a1.Cmd.Key]).toArray), (1, .agg (flat [si a6.Kind, su a6.Id, su a6.N, su a6.TS, sg a6.Lo, sg a6.Hi, sl p7 (a6.Vers).length c8, sl p9 (a6.Vec).length c10, si a6.Cmd.Kind, si a6.Cmd.DC, si a6.Cmd.Shard, si a6.Cmd.Node, si a6.Cmd.Mode, sg a6.Cmd.Key]).toArray)]) Try.func65 rfl Try.ntmps65 (show 2 ≤ (85) by decide) rfl fun a hF => ?_
 unfold M.ref04_Same at H
 refine wpIn_seq_k fun K11 hK11 => ?_
 refine wpIn_region_lit ?_
 refine wc (wbx hF hS [si a1.Kind, su a1.Id, su a1.N, su a1.TS, sg a1.Lo, sg a1.Hi, sl p2 (a1.Vers).length c3, sl p4 (a1.Vec).length c5, si a1.Cmd.Kind, si a1.Cmd.DC, si a1.Cmd.Shard, si a1.Cmd.Node, si a1.Cmd.Mode, sg a1.Cmd.Key] (sgN 14 sgNil) fun b12 a w hF hS => ?_)
 refine wc (wbx hF hS [si a6.Kind, su a6.Id, su a6.N, su a6.TS, sg a6.Lo, sg a6.Hi, sl p7 (a6.Vers).length c8, sl p9 (a6.Vec).length c10, si a6.Cmd.Kind, si a6.Cmd.DC, si a6.Cmd.Shard, si a6.Cmd.Node, si a6.Cmd.Mode, sg a6.Cmd.Key] (sgN 14 sgNil) fun b13 a w hF hS => ?_)
 refine wp 1 [2, 3] hF fun a hF => ?_
 refine wpListIn_nil ?_
 refine hK11 _ _ ?_
 refine wpIn_seq_k fun K14 hK14 => ?_
 refine wpIn_seq_k fun K15 hK15 => ?_
 refine wpIn_region_lit ?_
 refine bind_split H (fun v17 hv17 H => ?_)
 refine wl_join (fun a w => ∃ κ : Gh, Fr (85) [] [(2, pt b12 0), (3, pt b13 0), (61, vb v17)] a ∧ SS [] κ0 w0 κ w [.box b13 93 [si a6.Kind, su a6.Id, su a6.N, su a6.TS, sg a6.Lo, sg a6.Hi, sl p7 (a6.Vers).length c8, sl p9 (a6.Vec).length c10, si a6.Cmd.Kind, si a6.Cmd.DC, si a6.Cmd.Shard, si a6.Cmd.Node, si a6.Cmd.Mode, sg a6.Cmd.Key], .box b12 93 [si a1.Kind, su a1.Id, su a1.N, su a1.TS, sg a1.Lo, sg a1.Hi, sl p2 (a1.Vers).length c3, sl p4 (a1.Vec).length c5, si a1.Cmd.Kind, si a1.Cmd.DC, si a1.Cmd.Shard, si a1.Cmd.Node, si a1.Cmd.Mode, sg a1.Cmd.Key]] [Ro.mp f_api_Ver.ty p7 c8 a6.Vers, Ro.mp (fInt .u64).ty p9 c10 a6.Vec, Ro.mp f_api_Ver.ty p2 c3 a1.Vers, Ro.mp (fInt .u64).ty p4 c5 a1.Vec] ∧ True) ?_ ?_
 refine wp 1 [2, 3, 6] hF fun a hF => ?_
 refine wc (wld hF hS 1 0 0 fun a hF => ?_)
 refine wp 1 [2, 3, 7, 8] hF fun a hF => ?_
 refine wc (wld hF hS 0 0 0 fun a hF => ?_)
 refine wp 2 [2, 3, 11] hF fun a hF => ?_
 refine bif_split hv17 (fun hb hv17 => ?_) (fun hb hv17 => ?_)
 have hF := hF.boolv 11 (by kernel_rfl) hb
 refine wp 50 [2, 3, 61] hF fun a hF => ?_
 refine wpListIn_nil ?_
 cases hv17
 exact ⟨_, hF.kp [2, 3, 61], hS.sp [0, 1] [2, 3, 0, 1], trivial⟩
 have hF := hF.boolv 11 (by kernel_rfl) hb
 refine wp 1 [2, 3, 11, 12] hF fun a hF => ?_
 refine wcg hF (wld hF hS 1 1 0 fun a hF => ?_)
 refine wp 1 [2, 3, 11, 13, 14] hF fun a hF => ?_
 refine wcg hF (wld hF hS 0 1 0 fun a hF => ?_)
 refine wp 3 [2, 3, 18] hF fun a hF => ?_
 refine bif_split hv17 (fun hb hv17 => ?_) (fun hb hv17 => ?_)
 have hF := hF.boolv 18 (by kernel_rfl) hb
 refine wp 43 [2, 3, 61] hF fun a hF => ?_
 refine wpListIn_nil ?_
 cases hv17
 exact ⟨_, hF.kp [2, 3, 61], hS.sp [0, 1] [2, 3, 0, 1], trivial⟩
 have hF := hF.boolv 18 (by kernel_rfl) hb
 refine wp 1 [2, 3, 18, 19] hF fun a hF => ?_
 refine wcg hF (wld hF hS 1 2 0 fun a hF => ?_)
 refine wp 1 [2, 3, 18, 20, 21] hF fun a hF => ?_
 refine wcg hF (wld hF hS 0 2 0 fun a hF => ?_)
 refine wp 3 [2, 3, 25] hF fun a hF => ?_
 refine bif_split hv17 (fun hb hv17 => ?_) (fun hb hv17 => ?_)
 have hF := hF.boolv 25 (by kernel_rfl) hb
 refine wp 36 [2, 3, 61] hF fun a hF => ?_
 refine wpListIn_nil ?_
 cases hv17
 exact ⟨_, hF.kp [2, 3, 61], hS.sp [0, 1] [2, 3, 0, 1], trivial⟩
 have hF := hF.boolv 25 (by kernel_rfl) hb
 refine wp 1 [2, 3, 25, 26] hF fun a hF => ?_
 refine wcg hF (wld hF hS 1 3 0 fun a hF => ?_)
 refine wp 1 [2, 3, 25, 27, 28] hF fun a hF => ?_
 refine wcg hF (wld hF hS 0 3 0 fun a hF => ?_)
 refine wp 3 [2, 3, 32] hF fun a hF => ?_
 refine bif_split hv17 (fun hb hv17 => ?_) (fun hb hv17 => ?_)
 have hF := hF.boolv 32 (by kernel_rfl) hb
 refine wp 29 [2, 3, 61] hF fun a hF => ?_
 refine wpListIn_nil ?_
 cases hv17
 exact ⟨_, hF.kp [2, 3, 61], hS.sp [0, 1] [2, 3, 0, 1], trivial⟩
 have hF := hF.boolv 32 (by kernel_rfl) hb
 refine wp 1 [2, 3, 32, 33] hF fun a hF => ?_
 refine wcg hF (wld hF hS 1 4 0 fun a hF => ?_)
 refine wp 1 [2, 3, 32, 34, 35] hF fun a hF => ?_
 refine wcg hF (wld hF hS 0 4 0 fun a hF => ?_)
 refine wp 3 [2, 3, 39] hF fun a hF => ?_
 refine bif_split hv17 (fun hb hv17 => ?_) (fun hb hv17 => ?_)
 have hF := hF.boolv 39 (by kernel_rfl) hb
 refine wp 22 [2, 3, 61] hF fun a hF => ?_
 refine wpListIn_nil ?_
 cases hv17
 exact ⟨_, hF.kp [2, 3, 61], hS.sp [0, 1] [2, 3, 0, 1], trivial⟩
 have hF := hF.boolv 39 (by kernel_rfl) hb
 refine wp 1 [2, 3, 39, 40] hF fun a hF => ?_
 refine wcg hF (wld hF hS 1 5 0 fun a hF => ?_)
 refine wp 1 [2, 3, 39, 41, 42] hF fun a hF => ?_
 refine wcg hF (wld hF hS 0 5 0 fun a hF => ?_)
 refine wp 3 [2, 3, 46] hF fun a hF => ?_
 refine bif_split hv17 (fun hb hv17 => ?_) (fun hb hv17 => ?_)
 have hF := hF.boolv 46 (by kernel_rfl) hb
 refine wp 15 [2, 3, 61] hF fun a hF => ?_
 refine wpListIn_nil ?_
 cases hv17
 exact ⟨_, hF.kp [2, 3, 61], hS.sp [0, 1] [2, 3, 0, 1], trivial⟩
 have hF := hF.boolv 46 (by kernel_rfl) hb
 refine wp 1 [2, 3, 46, 47] hF fun a hF => ?_
 refine wcg hF (wls hF hS 1 8 6 fun a hF => ?_)
 refine wl_pure (L' := [(2, pt b12 0), (3, pt b13 0), (46, vb false), (48, .agg (flat [si a1.Cmd.Kind, si a1.Cmd.DC, si a1.Cmd.Shard, si a1.Cmd.Node, si a1.Cmd.Mode, sg a1.Cmd.Key]).toArray), (49, pt b13 8)]) 1 [2, 3, 46, 48, 49] hF (by kernel_rfl) fun a hF => ?_
 refine wcg hF (wls hF hS 0 8 6 fun a hF => ?_)
 refine wcg hF (wo_val hF (by kernel_rfl) (v := vb (!(cEq (flat [si a1.Cmd.Kind, si a1.Cmd.DC, si a1.Cmd.Shard, si a1.Cmd.Node, si a1.Cmd.Mode, sg a1.Cmd.Key]) (flat [si a6.Cmd.Kind, si a6.Cmd.DC, si a6.Cmd.Shard, si a6.Cmd.Node, si a6.Cmd.Mode, sg a6.Cmd.Key])))) ((val_eq (neg := true) (xs := (flat [si a1.Cmd.Kind, si a1.Cmd.DC, si a1.Cmd.Shard, si a1.Cmd.Node, si a1.Cmd.Mode, sg a1.Cmd.Key])) (ys := (flat [si a6.Cmd.Kind, si a6.Cmd.DC, si a6.Cmd.Shard, si a6.Cmd.Node, si a6.Cmd.Mode, sg a6.Cmd.Key])) (ks := [.int .i64, .int .i64, .int .i64, .int .i64, .int .i64, .str]) 20 (by decide) rfl (by kernel_rfl) (by kernel_rfl) (by kernel_rfl) (by kernel_rfl) (by kernel_rfl) (by kernel_rfl) (by kernel_rfl)) _) fun a hF => ?_)
 refine wp 2 [2, 3, 53] hF fun a hF => ?_
 refine bif_split hv17 (fun hb hv17 => ?_) (fun hb hv17 => ?_)
 have hF := hF.boolv 53 (by kernel_rfl) hb
 refine wp 8 [2, 3, 61] hF fun a hF => ?_
 refine wpListIn_nil ?_
 cases hv17
 exact ⟨_, hF.kp [2, 3, 61], hS.sp [0, 1] [2, 3, 0, 1], trivial⟩
 have hF := hF.boolv 53 (by kernel_rfl) hb
 refine wp 1 [2, 3, 53, 54] hF fun a hF => ?_
 refine wcg hF (wld hF hS 1 7 0 fun a hF => ?_)
 refine wp 2 [2, 3, 53, 56, 57] hF fun a hF => ?_
 refine wcg hF (wld hF hS 0 7 0 fun a hF => ?_)
 refine wp 3 [2, 3, 61] hF fun a hF => ?_
 refine wpListIn_nil ?_
 cases hv17
 exact ⟨_, hF.kp [2, 3, 61], hS.sp [0, 1] [2, 3, 0, 1], trivial⟩
 rintro a w ⟨κ, hF, hS, -⟩
 refine hK15 _ _ ?_
 refine bif_split H (fun hb H => ?_) (fun hb H => ?_)
 refine cond_t hF (by kernel_rfl) hb ?_
 refine wpIn_seq_k fun K18 hK18 => ?_
 refine wpIn_region_lit ?_
 refine wp 1 [4] hF fun a hF => ?_
 refine wpListIn_nil ?_
 refine hK18 _ _ ?_
 refine wpIn_ret ?_
 cases H
 exact (ret_done hF hS (res1 Try.results65 (rvt hF)) ⟨rfl, (hS.pick [] (by kernel_rfl)).ro, hS.newC [] (by decide) (by kernel_rfl)⟩)
 refine cond_f hF (by kernel_rfl) hb ?_
 refine wpIn_skip ?_
 refine hK14 _ _ ?_
 refine wpIn_seq_k fun K19 hK19 => ?_
 refine wpIn_seq_k fun K20 hK20 => ?_
 refine wpIn_region_lit ?_
 refine wp 1 [2, 3, 5] hF fun a hF => ?_
 refine wpListIn_nil ?_
 refine hK20 _ _ ?_
 refine wpIn_block ?_
 refine loop_fuel (n := N) (fun n a w => ∃ (κ : Gh) (y71 : Int), Fr (85) [] [(2, pt b12 0), (3, pt b13 0), (5, vi y71)] a ∧ SS [] κ0 w0 κ w [.box b13 93 [si a6.Kind, su a6.Id, su a6.N, su a6.TS, sg a6.Lo, sg a6.Hi, sl p7 (a6.Vers).length c8, sl p9 (a6.Vec).length c10, si a6.Cmd.Kind, si a6.Cmd.DC, si a6.Cmd.Shard, si a6.Cmd.Node, si a6.Cmd.Mode, sg a6.Cmd.Key], .box b12 93 [si a1.Kind, su a1.Id, su a1.N, su a1.TS, sg a1.Lo, sg a1.Hi, sl p2 (a1.Vers).length c3, sl p4 (a1.Vec).length c5, si a1.Cmd.Kind, si a1.Cmd.DC, si a1.Cmd.Shard, si a1.Cmd.Node, si a1.Cmd.Mode, sg a1.Cmd.Key]] [Ro.mp f_api_Ver.ty p7 c8 a6.Vers, Ro.mp (fInt .u64).ty p9 c10 a6.Vec, Ro.mp f_api_Ver.ty p2 c3 a1.Vers, Ro.mp (fInt .u64).ty p4 c5 a1.Vec] ∧ M.ref04_Same_L1 N n a1 a6 y71 = some r) ?_ ?_
 exact ⟨_, 0, hF.kp [2, 3, 5], hS.sp [0, 1] (rg 4), H⟩
 rintro n a w ⟨κ, y71, hF, hS, H⟩
 rcases n with _ | fuel1
 simp [M.ref04_Same_L1] at H
 simp only [M.ref04_Same_L1] at H
 refine wpIn_seq_k fun K72 hK72 => ?_
 refine wpIn_seq_k fun K73 hK73 => ?_
 refine wpIn_region_lit ?_
 refine wp 2 [2, 3, 5, 62, 63] hF fun a hF => ?_
 refine wc (wld hF hS 1 7 0 fun a hF => ?_)
 refine wp 2 [2, 3, 5, 66] hF fun a hF => ?_
 refine wpListIn_nil ?_
 refine hK73 _ _ ?_
 refine bif_split H (fun hb H => ?_) (fun hb H => ?_)
 refine cond_t hF (by kernel_rfl) hb ?_
 refine wpIn_skip ?_
 refine hK72 _ _ ?_
 refine wpIn_seq_k fun K74 hK74 => ?_
 refine wpIn_block ?_
 refine wpIn_seq_k fun K75 hK75 => ?_
 refine rgS hS [] ?_
 have hS := hS.drew
 refine any_pure [0, 2, 5, 7] [2, 3, 5, 69, 71, 74, 76] (L' := [(2, pt b12 0), (3, pt b13 0), (5, vi y71), (69, pt b12 7), (71, vi y71), (74, pt b13 7), (76, vi y71)]) (listed' := (bitA 11 165)) (fuel := 7) hF (hS.sx [0, 1] (rg 4)) (by kernel_rfl) (by intro c a w t v h; cases t <;> exact h) (by kernel_rfl) rfl fun a hF => ?_
 refine atk 1 (some 70) hF (hS.sx [0, 1] (rg 4)) rfl (vld 1 7 0) fun a hF => ?_
 refine bind_split H (fun x76 hx76 H => ?_)
 obtain ⟨b77, f78, hpx76⟩ := hS.ptr 3 rfl hx76
 refine atk 3 (some 72) hF (hS.sx [0, 1] (rg 4)) rfl (fun w _ => val_index (E := 25) (sz := 1) rfl hpx76 rfl (by kernel_rfl) rfl hx76 (by kernel_rfl) (by kernel_rfl) w) fun a hF => ?_
 refine atk 4 (some 73) hF (hS.sx [0, 1] (rg 4)) rfl (val_loadRo (t := (fInt .u64)) 3 0 (v := vu x76) rfl rfl hpx76 rfl hx76 (by kernel_rfl) (by kernel_rfl) (by kernel_rfl)) fun a hF => ?_
 refine atk 6 (some 75) hF (hS.sx [0, 1] (rg 4)) rfl (vld 0 7 0) fun a hF => ?_
 refine bind_split H (fun x79 hx79 H => ?_)
 obtain ⟨b80, f81, hpx79⟩ := hS.ptr 1 rfl hx79
 refine atk 8 (some 77) hF (hS.sx [0, 1] (rg 4)) rfl (fun w _ => val_index (E := 25) (sz := 1) rfl hpx79 rfl (by kernel_rfl) rfl hx79 (by kernel_rfl) (by kernel_rfl) w) fun a hF => ?_
 refine atk 9 (some 78) hF (hS.sx [0, 1] (rg 4)) rfl (val_loadRo (t := (fInt .u64)) 1 0 (v := vu x79) rfl rfl hpx79 rfl hx79 (by kernel_rfl) (by kernel_rfl) (by kernel_rfl)) fun a hF => ?_
 refine anp [10] [2, 3, 5, 79] hF (hS.sx [0, 1] (rg 4)) fun a hF => ?_
 refine and_ ?_
 refine hK75 _ _ ?_
 refine bif_split H (fun hb H => ?_) (fun hb H => ?_)
 refine cond_t hF (by kernel_rfl) hb ?_
 refine wpIn_seq_k fun K82 hK82 => ?_
 refine wpIn_region_lit ?_
 refine wp 1 [4] hF fun a hF => ?_
 refine wpListIn_nil ?_
 refine hK82 _ _ ?_
 refine wpIn_ret ?_
 cases H
 exact (ret_done hF hS (res1 Try.results65 (rvt hF)) ⟨rfl, (hS.pick [] (by kernel_rfl)).ro, hS.newC [] (by decide) (by kernel_rfl)⟩)
 refine cond_f hF (by kernel_rfl) hb ?_
 refine wpIn_skip ?_
 refine hK74 _ _ ?_
 refine wpIn_region_lit ?_
 refine wp 3 [2, 3, 5] hF fun a hF => ?_
 refine wpListIn_nil ?_
 exact ⟨fuel1, Nat.lt_succ_self _, _, IntKind.i64.wrap (y71 + 1), hF.kp [2, 3, 5], hS.sp [0, 1] (rg 4), H⟩
 refine cond_f hF (by kernel_rfl) hb ?_
 refine wpIn_exit ?_
 refine hK19 _ _ ?_
 refine wpIn_seq_k fun K83 hK83 => ?_
 refine wpIn_region_lit ?_
 refine wp 1 [3, 80] hF fun a hF => ?_
 refine wc (wld hF hS 1 6 0 fun a hF => ?_)
 refine wp 1 [81, 82] hF fun a hF => ?_
 refine wc (wld hF hS 0 6 0 fun a hF => ?_)
 refine bind_split H (fun x84 hx84 H => ?_)
 refine wc (wo_callP hF hS (by kernel_rfl) (by kernel_rfl) (C_ref04_SameVers N hS.fresh a1.Vers a6.Vers p2 c3 p7 c8 ((hS.pick [2, 0] (by kernel_rfl)).ro) hx84) ?_)
 rintro _ κ w a ⟨rfl, hR, hN⟩ hF hS hO
 refine wp 1 [4] hF fun a hF => ?_
 refine wpListIn_nil ?_
 refine hK83 _ _ ?_
 refine wpIn_ret ?_
 cases H
 exact (ret_done hF hS (res1 Try.results65 (rvt hF)) ⟨rfl, (hS.pick [] (by kernel_rfl)).ro, hS.newC [] (by decide) (by kernel_rfl)⟩)
end Go.Cf
