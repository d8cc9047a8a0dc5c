/- The walks: each function returns what its model says. Printed by a program of ours. -/
import Derived.Test.YteeafoagaaedcaaZMt3
import Derived.Test.YteeafoagaaedcaaZWt1
namespace Go.Cf
open Go Go.Proofs
set_option linter.unusedVariables false
set_option maxRecDepth 20000 in
set_option maxHeartbeats 8000000 in
theorem C_ref01_Of (N : Nat) {κ0 : Gh} {w0 : World} (hfr : Fresh κ0 w0) (a1 : T_api_Ver)  (hR : ∀ m ∈ ([] : List MP), m.p κ0 w0) {r : (T_api_Mark)} (H : M.ref01_Of N a1 = some r) :
    Calls Try.prog 91 #[.agg (flat [sg a1.Key, sg a1.Val, sb a1.Gone, su a1.TS, si a1.DC, si a1.Tx]).toArray] w0 (Post [] κ0 w0 fun v κ w => v = .agg (flat [su r.TS, si r.DC, si r.Tx]).toArray ∧ (∀ m ∈ ([] : List MP), m.p κ w) ∧ NewC w0 κ w []) := by
 have hS := SS.start hfr hR
 refine enter (N := (10)) (L := [(0, .agg (flat [sg a1.Key, sg a1.Val, sb a1.Gone, su a1.TS, si a1.DC, si a1.Tx]).toArray)]) Try.func91 rfl Try.ntmps91 (show 1 ≤ (10) by decide) rfl fun a hF => ?_
 unfold M.ref01_Of at H
 refine wpIn_seq_k fun K2 hK2 => ?_
 refine wpIn_region_lit ?_
 refine wc (wbx hF hS [sg a1.Key, sg a1.Val, sb a1.Gone, su a1.TS, si a1.DC, si a1.Tx] (sgN 6 sgNil) fun b3 a w hF hS => ?_)
 refine wc (wal hF hS [su 0, si 0, si 0] (sgN 3 sgNil) fun b4 a w hF hS => ?_)
 refine wpListIn_nil ?_
 refine hK2 _ _ ?_
 refine wpIn_seq_k fun K5 hK5 => ?_
 refine wpIn_region_lit ?_
 refine wp 1 [1, 2, 3] hF fun a hF => ?_
 refine wc (wld hF hS 1 3 0 fun a hF => ?_)
 refine wp 1 [1, 2, 4, 5] hF fun a hF => ?_
 refine wc (wld hF hS 1 4 0 fun a hF => ?_)
 refine wp 1 [2, 4, 6, 7] hF fun a hF => ?_
 refine wc (wld hF hS 1 5 0 fun a hF => ?_)
 refine wp 1 [2, 9] hF fun a hF => ?_
 refine wc (wst hF hS 0 0 3 [su a1.TS, si a1.DC, si a1.Tx] (sgN 3 sgNil) fun a w hF hS => ?_)
 refine wpListIn_nil ?_
 refine hK5 _ _ ?_
 refine wpIn_ret ?_
 have hS' := hS
 cases H
 exact (ret_done hF hS (res1 Try.results91 (rvs hF hS' 0 0 3)) ⟨rfl, (hS.pick [] (by kernel_rfl)).ro, hS.newC [] (by decide) (by kernel_rfl)⟩)
set_option maxRecDepth 20000 in
set_option maxHeartbeats 8000000 in
theorem C_ref01_Less (N : Nat) {κ0 : Gh} {w0 : World} (hfr : Fresh κ0 w0) (a1 : T_api_Mark) (a2 : T_api_Mark)  (hR : ∀ m ∈ ([] : List MP), m.p κ0 w0) {r : (Bool)} (H : M.ref01_Less N a1 a2 = some r) :
    Calls Try.prog 90 #[.agg (flat [su a1.TS, si a1.DC, si a1.Tx]).toArray, .agg (flat [su a2.TS, si a2.DC, si a2.Tx]).toArray] w0 (Post [] κ0 w0 fun v κ w => v = vb r ∧ (∀ m ∈ ([] : List MP), m.p κ w) ∧ NewC w0 κ w []) := by
 have hS := SS.start hfr hR
 refine enter (N := (30)) (L := [(0, .agg (flat [su a1.TS, si a1.DC, si a1.Tx]).toArray), (1, .agg (flat [su a2.TS, si a2.DC, si a2.Tx]).toArray)]) Try.func90 rfl Try.ntmps90 (show 2 ≤ (30) by decide) rfl fun a hF => ?_
 unfold M.ref01_Less at H
 refine wpIn_seq_k fun K3 hK3 => ?_
 refine wpIn_region_lit ?_
 refine wc (wbx hF hS [su a1.TS, si a1.DC, si a1.Tx] (sgN 3 sgNil) fun b4 a w hF hS => ?_)
 refine wc (wbx hF hS [su a2.TS, si a2.DC, si a2.Tx] (sgN 3 sgNil) fun b5 a w hF hS => ?_)
 refine wp 1 [2, 3] hF fun a hF => ?_
 refine wpListIn_nil ?_
 refine hK3 _ _ ?_
 refine wpIn_seq_k fun K6 hK6 => ?_
 refine wpIn_seq_k fun K7 hK7 => ?_
 refine wpIn_region_lit ?_
 refine wp 1 [2, 3, 5] hF fun a hF => ?_
 refine wc (wld hF hS 1 0 0 fun a hF => ?_)
 refine wp 1 [2, 3, 6, 7] hF fun a hF => ?_
 refine wc (wld hF hS 0 0 0 fun a hF => ?_)
 refine wp 1 [2, 3, 9] hF fun a hF => ?_
 refine wpListIn_nil ?_
 refine hK7 _ _ ?_
 refine bif_split H (fun hb H => ?_) (fun hb H => ?_)
 refine cond_t hF (by kernel_rfl) hb ?_
 refine wpIn_seq_k fun K8 hK8 => ?_
 refine wpIn_region_lit ?_
 refine wp 1 [3, 10] hF fun a hF => ?_
 refine wc (wld hF hS 1 0 0 fun a hF => ?_)
 refine wp 1 [11, 12] hF fun a hF => ?_
 refine wc (wld hF hS 0 0 0 fun a hF => ?_)
 refine wp 2 [4] hF fun a hF => ?_
 refine wpListIn_nil ?_
 refine hK8 _ _ ?_
 refine wpIn_ret ?_
 cases H
 exact (ret_done hF hS (res1 Try.results90 (rvt hF)) ⟨rfl, (hS.pick [] (by kernel_rfl)).ro, hS.newC [] (by decide) (by kernel_rfl)⟩)
 refine cond_f hF (by kernel_rfl) hb ?_
 refine wpIn_skip ?_
 refine hK6 _ _ ?_
 refine wpIn_seq_k fun K9 hK9 => ?_
 refine wpIn_seq_k fun K10 hK10 => ?_
 refine wpIn_region_lit ?_
 refine wp 1 [2, 3, 15] hF fun a hF => ?_
 refine wc (wld hF hS 1 1 0 fun a hF => ?_)
 refine wp 1 [2, 3, 16, 17] hF fun a hF => ?_
 refine wc (wld hF hS 0 1 0 fun a hF => ?_)
 refine wp 1 [2, 3, 19] hF fun a hF => ?_
 refine wpListIn_nil ?_
 refine hK10 _ _ ?_
 refine bif_split H (fun hb H => ?_) (fun hb H => ?_)
 refine cond_t hF (by kernel_rfl) hb ?_
 refine wpIn_seq_k fun K11 hK11 => ?_
 refine wpIn_region_lit ?_
 refine wp 1 [3, 20] hF fun a hF => ?_
 refine wc (wld hF hS 1 1 0 fun a hF => ?_)
 refine wp 1 [21, 22] hF fun a hF => ?_
 refine wc (wld hF hS 0 1 0 fun a hF => ?_)
 refine wp 2 [4] hF fun a hF => ?_
 refine wpListIn_nil ?_
 refine hK11 _ _ ?_
 refine wpIn_ret ?_
 cases H
 exact (ret_done hF hS (res1 Try.results90 (rvt hF)) ⟨rfl, (hS.pick [] (by kernel_rfl)).ro, hS.newC [] (by decide) (by kernel_rfl)⟩)
 refine cond_f hF (by kernel_rfl) hb ?_
 refine wpIn_skip ?_
 refine hK9 _ _ ?_
 refine wpIn_seq_k fun K12 hK12 => ?_
 refine wpIn_region_lit ?_
 refine wp 1 [3, 25] hF fun a hF => ?_
 refine wc (wld hF hS 1 2 0 fun a hF => ?_)
 refine wp 1 [26, 27] hF fun a hF => ?_
 refine wc (wld hF hS 0 2 0 fun a hF => ?_)
 refine wp 2 [4] hF fun a hF => ?_
 refine wpListIn_nil ?_
 refine hK12 _ _ ?_
 refine wpIn_ret ?_
 cases H
 exact (ret_done hF hS (res1 Try.results90 (rvt hF)) ⟨rfl, (hS.pick [] (by kernel_rfl)).ro, hS.newC [] (by decide) (by kernel_rfl)⟩)
set_option maxRecDepth 20000 in
set_option maxHeartbeats 8000000 in
theorem C_ref09_less (N : Nat) {κ0 : Gh} {w0 : World} (hfr : Fresh κ0 w0) (a1 : T_api_Ver) (a2 : T_api_Ver)  (hR : ∀ m ∈ ([] : List MP), m.p κ0 w0) {r : (Bool)} (H : M.ref09_less N a1 a2 = some r) :
    Calls Try.prog 117 #[.agg (flat [sg a1.Key, sg a1.Val, sb a1.Gone, su a1.TS, si a1.DC, si a1.Tx]).toArray, .agg (flat [sg a2.Key, sg a2.Val, sb a2.Gone, su a2.TS, si a2.DC, si a2.Tx]).toArray] w0 (Post [] κ0 w0 fun v κ w => v = vb r ∧ (∀ m ∈ ([] : List MP), m.p κ w) ∧ NewC w0 κ w []) := by
 have hS := SS.start hfr hR
 refine enter (N := (10)) (L := [(0, .agg (flat [sg a1.Key, sg a1.Val, sb a1.Gone, su a1.TS, si a1.DC, si a1.Tx]).toArray), (1, .agg (flat [sg a2.Key, sg a2.Val, sb a2.Gone, su a2.TS, si a2.DC, si a2.Tx]).toArray)]) Try.func117 rfl Try.ntmps117 (show 2 ≤ (10) by decide) rfl fun a hF => ?_
 unfold M.ref09_less at H
 refine wpIn_seq_k fun K3 hK3 => ?_
 refine wpIn_region_lit ?_
 refine wc (wbx hF hS [sg a1.Key, sg a1.Val, sb a1.Gone, su a1.TS, si a1.DC, si a1.Tx] (sgN 6 sgNil) fun b4 a w hF hS => ?_)
 refine wc (wbx hF hS [sg a2.Key, sg a2.Val, sb a2.Gone, su a2.TS, si a2.DC, si a2.Tx] (sgN 6 sgNil) fun b5 a w hF hS => ?_)
 refine wp 1 [2, 3] hF fun a hF => ?_
 refine wpListIn_nil ?_
 refine hK3 _ _ ?_
 refine wpIn_seq_k fun K6 hK6 => ?_
 refine rgS hS [] ?_
 have hS := hS.drew
 refine bind_split H (fun x7 hx7 H => ?_)
 refine bind_split H (fun x8 hx8 H => ?_)
 refine bind_split H (fun x9 hx9 H => ?_)
 refine atk 0 (some 5) hF (hS.sx [0, 1] []) rfl (vls 1 0 6) fun a hF => ?_
 refine atk 2 (some 7) hF (hS.sx [0, 1] []) rfl (vls 0 0 6) fun a hF => ?_
 refine ago 1 hF rfl ?_
 refine wo_callP hF hS (by kernel_rfl) (by kernel_rfl) (C_ref01_Of N hS.fresh (T_api_Ver.mk a1.Key a1.Val a1.Gone a1.TS a1.DC a1.Tx)  ((hS.pick [] (by kernel_rfl)).ro) hx7) ?_
 rintro _ κ w a ⟨rfl, hR, hN⟩ hF hS hO
 refine ⟨fun _ => (hS.sx [0, 1] []), ?_⟩
 refine ago 3 hF rfl ?_
 refine wo_callP hF hS (by kernel_rfl) (by kernel_rfl) (C_ref01_Of N hS.fresh (T_api_Ver.mk a2.Key a2.Val a2.Gone a2.TS a2.DC a2.Tx)  ((hS.pick [] (by kernel_rfl)).ro) hx8) ?_
 rintro _ κ w a ⟨rfl, hR, hN⟩ hF hS hO
 refine ⟨fun _ => (hS.sx [0, 1] []), ?_⟩
 refine ago 4 hF rfl ?_
 refine wo_callP hF hS (by kernel_rfl) (by kernel_rfl) (C_ref01_Less N hS.fresh (T_api_Mark.mk x7.TS x7.DC x7.Tx) (T_api_Mark.mk x8.TS x8.DC x8.Tx)  ((hS.pick [] (by kernel_rfl)).ro) hx9) ?_
 rintro _ κ w a ⟨rfl, hR, hN⟩ hF hS hO
 refine ⟨fun _ => (hS.sx [0, 1] []), ?_⟩
 refine anp [5] [4] hF (hS.sx [0, 1] []) fun a hF => ?_
 refine and_ ?_
 refine hK6 _ _ ?_
 refine wpIn_ret ?_
 cases H
 exact (ret_done hF hS (res1 Try.results117 (rvt hF)) ⟨rfl, (hS.pick [] (by kernel_rfl)).ro, hS.newC [] (by decide) (by kernel_rfl)⟩)
set_option maxRecDepth 20000 in
set_option maxHeartbeats 8000000 in
theorem C_ref09_Seen (N : Nat) {κ0 : Gh} {w0 : World} (hfr : Fresh κ0 w0) (a1 : (List T_api_Ver)) (a4 : Int) (p2 : Option Addr) (c3 : Nat) (hR : ∀ m ∈ ([Ro.mp f_api_Ver.ty p2 c3 a1] : List MP), m.p κ0 w0) {r : (Int)} (H : M.ref09_Seen N a1 a4 = some r) :
    Calls Try.prog 118 #[.slice p2 (a1).length c3, vu a4] w0 (Post [] κ0 w0 fun v κ w => v = vi r ∧ (∀ m ∈ ([] : List MP), m.p κ w) ∧ NewC w0 κ w []) := by
 have hS := SS.start hfr hR
 refine enter (N := (37)) (L := [(0, .slice p2 (a1).length c3), (1, vu a4)]) Try.func118 rfl Try.ntmps118 (show 2 ≤ (37) by decide) rfl fun a hF => ?_
 unfold M.ref09_Seen at H
 refine wpIn_seq_k fun K5 hK5 => ?_
 refine wpIn_region_lit ?_
 refine wp 1 [0, 1] hF fun a hF => ?_
 refine wpListIn_nil ?_
 refine hK5 _ _ ?_
 refine wpIn_seq_k fun K6 hK6 => ?_
 refine wpIn_region_lit ?_
 refine wp 1 [0, 1, 5] hF fun a hF => ?_
 refine wpListIn_nil ?_
 refine hK6 _ _ ?_
 refine wpIn_seq_k fun K7 hK7 => ?_
 refine wpIn_seq_k fun K8 hK8 => ?_
 refine wpIn_region_lit ?_
 refine wp 1 [0, 1, 5, 6] hF fun a hF => ?_
 refine wpListIn_nil ?_
 refine hK8 _ _ ?_
 refine wpIn_block ?_
 refine loop_fuel (n := N) (fun n a w => ∃ (κ : Gh) (y59 y60 : Int), Fr (37) [] [(0, .slice p2 (a1).length c3), (1, vu a4), (5, vi y59), (6, vi y60)] a ∧ SS [] κ0 w0 κ w [] [Ro.mp f_api_Ver.ty p2 c3 a1] ∧ M.ref09_Seen_L1 N n a1 a4 y59 y60 = some r) ?_ ?_
 exact ⟨_, (-1), 0, hF.kp [0, 1, 5, 6], hS.sp [] [0], H⟩
 rintro n a w ⟨κ, y59, y60, hF, hS, H⟩
 rcases n with _ | fuel1
 simp [M.ref09_Seen_L1] at H
 simp only [M.ref09_Seen_L1] at H
 refine wpIn_seq_k fun K61 hK61 => ?_
 refine wpIn_seq_k fun K62 hK62 => ?_
 refine wpIn_region_lit ?_
 refine wp 4 [0, 1, 5, 6, 10] hF fun a hF => ?_
 refine wpListIn_nil ?_
 refine hK62 _ _ ?_
 refine bif_split H (fun hb H => ?_) (fun hb H => ?_)
 refine cond_t hF (by kernel_rfl) hb ?_
 refine wpIn_skip ?_
 refine hK61 _ _ ?_
 refine seq_join (fun a w => ∃ (κ : Gh) (y63 : Int), Fr (37) [] [(0, .slice p2 (a1).length c3), (1, vu a4), (5, vi y63), (6, vi y60)] a ∧ SS [] κ0 w0 κ w [] [Ro.mp f_api_Ver.ty p2 c3 a1] ∧ M.ref09_Seen_k2 N (M.ref09_Seen_L1 N fuel1) a1 a4 y60 y63 = some r) ?_ ?_
 refine wpIn_block ?_
 refine wpIn_seq_k fun K64 hK64 => ?_
 refine bind_split H (fun v66 hv66 H => ?_)
 refine code_join (fun a w => ∃ κ : Gh, Fr (37) [] [(0, .slice p2 (a1).length c3), (1, vu a4), (5, vi y59), (6, vi y60), (34, vb v66)] a ∧ SS [] κ0 w0 κ w [] [Ro.mp f_api_Ver.ty p2 c3 a1] ∧ True) ?_ ?_
 refine rgS hS [] ?_
 have hS := hS.drew
 refine any_pure [0, 1, 5] [0, 1, 5, 6, 13, 14, 18] (L' := [(0, .slice p2 (a1).length c3), (1, vu a4), (5, vi y59), (6, vi y60), (13, .slice p2 (a1).length c3), (14, vi y60), (18, vu a4)]) (listed' := (bitA 22 35)) (fuel := 19) hF (hS.sx [] [0]) (by kernel_rfl) (by intro c a w t v h; cases t <;> exact h) (by kernel_rfl) rfl fun a hF => ?_
 refine bind_split hv66 (fun x67 hx67 hv66 => ?_)
 obtain ⟨b68, f69, hpx67⟩ := hS.ptr 0 rfl hx67
 refine atk 2 (some 15) hF (hS.sx [] [0]) rfl (fun w _ => val_index (E := 37) (sz := 6) rfl hpx67 rfl (by kernel_rfl) rfl hx67 (by kernel_rfl) (by kernel_rfl) w) fun a hF => ?_
 refine any_pure [3] [0, 1, 5, 6, 16, 18] (L' := [(0, .slice p2 (a1).length c3), (1, vu a4), (5, vi y59), (6, vi y60), (16, .pointer (some ⟨b68, (f69 + Int.toNat y60 * 6) + 3, none⟩)), (18, vu a4)]) (listed' := (bitA 22 47)) (fuel := 17) hF (hS.sx [] [0]) (by kernel_rfl) (by intro c a w t v h; cases t <;> exact h) (by kernel_rfl) rfl fun a hF => ?_
 refine atk 4 (some 17) hF (hS.sx [] [0]) rfl (val_loadRo (t := f_api_Ver) 0 3 (v := vu x67.TS) rfl rfl hpx67 rfl hx67 (by kernel_rfl) (by kernel_rfl) (by kernel_rfl)) fun a hF => ?_
 refine anp [6, 7] [0, 1, 5, 6, 20] hF (hS.sx [] [0]) fun a hF => ?_
 refine bif_split hv66 (fun hb hv66 => ?_) (fun hb hv66 => ?_)
 have hF := hF.boolv 20 (by kernel_rfl) hb
 refine anp [8, 9, 10] [0, 1, 5, 6, 20, 23] hF (hS.sx [] [0]) fun a hF => ?_
 refine bif_split hv66 (fun hb hv66 => ?_) (fun hb hv66 => ?_)
 have hF := hF.boolv 23 (by kernel_rfl) hb
 refine anp [11, 12, 13, 14, 15, 16, 17, 18, 19, 20, 21] [0, 1, 5, 6, 34] hF (hS.sx [] [0]) fun a hF => ?_
 refine and_ ?_
 cases hv66
 exact ⟨_, hF.kp [0, 1, 5, 6, 34], hS.sp [] [0], trivial⟩
 have hF := hF.boolv 23 (by kernel_rfl) hb
 refine any_pure [11, 12, 15, 16] [0, 1, 5, 6, 20, 23, 24, 25, 28, 29] (L' := [(0, .slice p2 (a1).length c3), (1, vu a4), (5, vi y59), (6, vi y60), (20, vb true), (23, vb false), (24, .slice p2 (a1).length c3), (25, vi y59), (28, .slice p2 (a1).length c3), (29, vi y60)]) (listed' := (bitA 22 106495)) (fuel := 7) hF (hS.sx [] [0]) (by kernel_rfl) (by intro c a w t v h; cases t <;> exact h) (by kernel_rfl) rfl fun a hF => ?_
 refine bind_split hv66 (fun x70 hx70 hv66 => ?_)
 obtain ⟨b71, f72, hpx70⟩ := hS.ptr 0 rfl hx70
 refine atk 13 (some 26) hF (hS.sx [] [0]) rfl (fun w _ => val_index (E := 37) (sz := 6) rfl hpx70 rfl (by kernel_rfl) rfl hx70 (by kernel_rfl) (by kernel_rfl) w) fun a hF => ?_
 refine atk 14 (some 27) hF (hS.sx [] [0]) rfl (val_loadRoAgg (t := f_api_Ver) 0 rfl rfl hpx70 rfl hx70 (by kernel_rfl) (by kernel_rfl) (by kernel_rfl)) fun a hF => ?_
 refine bind_split hv66 (fun x73 hx73 hv66 => ?_)
 obtain ⟨b74, f75, hpx73⟩ := hS.ptr 0 rfl hx73
 refine atk 17 (some 30) hF (hS.sx [] [0]) rfl (fun w _ => val_index (E := 37) (sz := 6) rfl hpx73 rfl (by kernel_rfl) rfl hx73 (by kernel_rfl) (by kernel_rfl) w) fun a hF => ?_
 refine atk 18 (some 31) hF (hS.sx [] [0]) rfl (val_loadRoAgg (t := f_api_Ver) 0 rfl rfl hpx73 rfl hx73 (by kernel_rfl) (by kernel_rfl) (by kernel_rfl)) fun a hF => ?_
 refine ago 19 hF rfl ?_
 refine bind_split hv66 (fun x76 hx76 hv66 => ?_)
 refine wo_callP hF hS (by kernel_rfl) (by kernel_rfl) (C_ref09_less N hS.fresh (T_api_Ver.mk x70.Key x70.Val x70.Gone x70.TS x70.DC x70.Tx) (T_api_Ver.mk x73.Key x73.Val x73.Gone x73.TS x73.DC x73.Tx)  ((hS.pick [] (by kernel_rfl)).ro) hx76) ?_
 rintro _ κ w a ⟨rfl, hR, hN⟩ hF hS hO
 refine ⟨fun _ => (hS.sx [] [0]), ?_⟩
 refine anp [20, 21] [0, 1, 5, 6, 34] hF (hS.sx [] [0]) fun a hF => ?_
 refine and_ ?_
 cases hv66
 exact ⟨_, hF.kp [0, 1, 5, 6, 34], hS.sp [] [0], trivial⟩
 have hF := hF.boolv 20 (by kernel_rfl) hb
 refine anp [8, 9, 10, 11, 12, 13, 14, 15, 16, 17, 18, 19, 20, 21] [0, 1, 5, 6, 34] hF (hS.sx [] [0]) fun a hF => ?_
 refine and_ ?_
 cases hv66
 exact ⟨_, hF.kp [0, 1, 5, 6, 34], hS.sp [] [0], trivial⟩
 rintro a w ⟨κ, hF, hS, -⟩
 refine hK64 _ _ ?_
 refine bif_split H (fun hb H => ?_) (fun hb H => ?_)
 refine cond_t hF (by kernel_rfl) hb ?_
 refine wpIn_region_lit ?_
 refine wp 2 [0, 1, 5, 6] hF fun a hF => ?_
 refine wpListIn_nil ?_
 exact ⟨_, y60, hF.kp [0, 1, 5, 6], hS.sp [] [0], H⟩
 refine cond_f hF (by kernel_rfl) hb ?_
 refine wpIn_skip ?_
 exact ⟨_, y59, hF.kp [0, 1, 5, 6], hS.sp [] [0], H⟩
 rintro a w ⟨κ, y63, hF, hS, H⟩
 unfold M.ref09_Seen_k2 at H
 refine wpIn_region_lit ?_
 refine wp 3 [0, 1, 5, 6] hF fun a hF => ?_
 refine wpListIn_nil ?_
 exact ⟨fuel1, Nat.lt_succ_self _, _, y63, IntKind.i64.wrap (y60 + 1), hF.kp [0, 1, 5, 6], hS.sp [] [0], H⟩
 refine cond_f hF (by kernel_rfl) hb ?_
 refine wpIn_exit ?_
 refine hK7 _ _ ?_
 refine wpIn_seq_k fun K77 hK77 => ?_
 refine wpIn_region_lit ?_
 refine wp 2 [4] hF fun a hF => ?_
 refine wpListIn_nil ?_
 refine hK77 _ _ ?_
 refine wpIn_ret ?_
 cases H
 exact (ret_done hF hS (res1 Try.results118 (rvt hF)) ⟨rfl, (hS.pick [] (by kernel_rfl)).ro, hS.newC [] (by decide) (by kernel_rfl)⟩)
set_option maxRecDepth 20000 in
set_option maxHeartbeats 8000000 in
theorem C_ref09_At (N : Nat) {κ0 : Gh} {w0 : World} (hfr : Fresh κ0 w0) (a1 : (List T_api_Ver)) (a4 : Int) (p2 : Option Addr) (c3 : Nat) (hR : ∀ m ∈ ([Ro.mp f_api_Ver.ty p2 c3 a1] : List MP), m.p κ0 w0) {r : (T_api_Ver × Bool)} (H : M.ref09_At N a1 a4 = some r) :
    Calls Try.prog 89 #[.slice p2 (a1).length c3, vu a4] w0 (Post [] κ0 w0 fun v κ w => v = .tuple #[.agg (flat [sg r.1.Key, sg r.1.Val, sb r.1.Gone, su r.1.TS, si r.1.DC, si r.1.Tx]).toArray, vb r.2] ∧ (∀ m ∈ ([] : List MP), m.p κ w) ∧ NewC w0 κ w []) := by
 have hS := SS.start hfr hR
 refine enter (N := (17)) (L := [(0, .slice p2 (a1).length c3), (1, vu a4)]) Try.func89 rfl Try.ntmps89 (show 2 ≤ (17) by decide) rfl fun a hF => ?_
 unfold M.ref09_At at H
 refine wpIn_seq_k fun K5 hK5 => ?_
 refine wpIn_region_lit ?_
 refine wc (wal hF hS [sg ByteArray.empty, sg ByteArray.empty, sb false, su 0, si 0, si 0] (sgN 6 sgNil) fun b6 a w hF hS => ?_)
 refine wp 1 [0, 1, 4] hF fun a hF => ?_
 refine wpListIn_nil ?_
 refine hK5 _ _ ?_
 refine wpIn_seq_k fun K7 hK7 => ?_
 refine wpIn_region_lit ?_
 refine wp 2 [0, 4, 7, 8] hF fun a hF => ?_
 refine bind_split H (fun x8 hx8 H => ?_)
 refine wc (wo_callP hF hS (by kernel_rfl) (by kernel_rfl) (C_ref09_Seen N hS.fresh a1 a4 p2 c3 ((hS.pick [0] (by kernel_rfl)).ro) hx8) ?_)
 rintro _ κ w a ⟨rfl, hR, hN⟩ hF hS hO
 refine wp 1 [0, 4, 6] hF fun a hF => ?_
 refine wpListIn_nil ?_
 refine hK7 _ _ ?_
 refine wpIn_seq_k fun K9 hK9 => ?_
 refine wpIn_seq_k fun K10 hK10 => ?_
 refine wpIn_region_lit ?_
 refine wp 2 [0, 4, 6, 11] hF fun a hF => ?_
 refine wpListIn_nil ?_
 refine hK10 _ _ ?_
 refine bif_split H (fun hb H => ?_) (fun hb H => ?_)
 refine cond_t hF (by kernel_rfl) hb ?_
 refine wpIn_seq_k fun K11 hK11 => ?_
 refine wpIn_region_lit ?_
 refine wp 1 [4, 12] hF fun a hF => ?_
 refine wc (wst hF hS 0 0 6 [sg ByteArray.empty, sg ByteArray.empty, sb false, su 0, si 0, si 0] (sgN 6 sgNil) fun a w hF hS => ?_)
 refine wp 1 [4, 5] hF fun a hF => ?_
 refine wpListIn_nil ?_
 refine hK11 _ _ ?_
 refine wpIn_ret ?_
 have hS' := hS
 cases H
 exact (ret_done hF hS (res2 Try.results89 (rvs hF hS' 0 0 6) (rvt hF)) ⟨rfl, (hS.pick [] (by kernel_rfl)).ro, hS.newC [] (by decide) (by kernel_rfl)⟩)
 refine cond_f hF (by kernel_rfl) hb ?_
 refine wpIn_skip ?_
 refine hK9 _ _ ?_
 refine wpIn_seq_k fun K12 hK12 => ?_
 refine wpIn_region_lit ?_
 refine wl_pure (L' := [(4, pt b6 0), (13, .slice p2 (a1).length c3), (14, vi x8)]) 2 [4, 13, 14] hF (by kernel_rfl) fun a hF => ?_
 refine bind_split H (fun x13 hx13 H => ?_)
 refine wc (wo_index hF hS (by kernel_rfl) 0 (E := 37) (sz := 6) rfl rfl rfl (by kernel_rfl) rfl hx13 (by kernel_rfl) (by kernel_rfl) fun b14 f15 a hpx13 hF => ?_)
 refine wc (wo_loadRoAgg (t := f_api_Ver) hF hS (by kernel_rfl) 0 rfl rfl hpx13 rfl hx13 (by kernel_rfl) (by kernel_rfl) (by kernel_rfl) fun a hF => ?_)
 refine wc (wst hF hS 0 0 6 [sg x13.Key, sg x13.Val, sb x13.Gone, su x13.TS, si x13.DC, si x13.Tx] (sgN 6 sgNil) fun a w hF hS => ?_)
 refine wp 1 [4, 5] hF fun a hF => ?_
 refine wpListIn_nil ?_
 refine hK12 _ _ ?_
 refine wpIn_ret ?_
 have hS' := hS
 cases H
 exact (ret_done hF hS (res2 Try.results89 (rvs hF hS' 0 0 6) (rvt hF)) ⟨rfl, (hS.pick [] (by kernel_rfl)).ro, hS.newC [] (by decide) (by kernel_rfl)⟩)
set_option maxRecDepth 20000 in
set_option maxHeartbeats 8000000 in
theorem C_ref09_Put (N : Nat) {κ0 : Gh} {w0 : World} (hfr : Fresh κ0 w0) (a1 : (List T_api_Ver)) (a4 : T_api_Ver) (p2 : Option Addr) (c3 : Nat) (hR : ∀ m ∈ ([Ro.mp f_api_Ver.ty p2 c3 a1] : List MP), m.p κ0 w0) {r : ((List T_api_Ver) × Int)} (H : M.ref09_Put N a1 a4 = some r) :
    Calls Try.prog 88 #[.slice p2 (a1).length c3, .agg (flat [sg a4.Key, sg a4.Val, sb a4.Gone, su a4.TS, si a4.DC, si a4.Tx]).toArray] w0 (Post [] κ0 w0 fun v κ w => ∃ (p175 : Option Addr) (c176 : Nat), v = .tuple #[.slice p175 (r.1).length c176, vi r.2] ∧ (∀ m ∈ ([Ro.mp f_api_Ver.ty p175 c176 r.1] : List MP), m.p κ w) ∧ NewC w0 κ w [.tok p175 37 6 (r.1).length c176]) := by
 have hS := SS.start hfr hR
 refine enter (N := (72)) (L := [(0, .slice p2 (a1).length c3), (1, .agg (flat [sg a4.Key, sg a4.Val, sb a4.Gone, su a4.TS, si a4.DC, si a4.Tx]).toArray)]) Try.func88 rfl Try.ntmps88 (show 2 ≤ (72) by decide) rfl fun a hF => ?_
 unfold M.ref09_Put at H
 refine wpIn_seq_k fun K5 hK5 => ?_
 refine wpIn_region_lit ?_
 refine wc (wbx hF hS [sg a4.Key, sg a4.Val, sb a4.Gone, su a4.TS, si a4.DC, si a4.Tx] (sgN 6 sgNil) fun b6 a w hF hS => ?_)
 refine wp 2 [0, 3] hF fun a hF => ?_
 refine wpListIn_nil ?_
 refine hK5 _ _ ?_
 refine wpIn_seq_k fun K7 hK7 => ?_
 refine wpIn_seq_k fun K8 hK8 => ?_
 refine wpIn_region_lit ?_
 refine wp 1 [0, 3, 6] hF fun a hF => ?_
 refine wpListIn_nil ?_
 refine hK8 _ _ ?_
 refine wpIn_block ?_
 refine loop_fuel (n := N) (fun n a w => ∃ (κ : Gh) (y59 : Int), Fr (72) [] [(0, .slice p2 (a1).length c3), (3, pt b6 0), (6, vi y59)] a ∧ SS [] κ0 w0 κ w [.box b6 37 [sg a4.Key, sg a4.Val, sb a4.Gone, su a4.TS, si a4.DC, si a4.Tx]] [Ro.mp f_api_Ver.ty p2 c3 a1] ∧ M.ref09_Put_L1 N n a1 a4 y59 = some r) ?_ ?_
 exact ⟨_, 0, hF.kp [0, 3, 6], hS.sp [0] [0], H⟩
 rintro n a w ⟨κ, y59, hF, hS, H⟩
 rcases n with _ | fuel1
 simp [M.ref09_Put_L1] at H
 simp only [M.ref09_Put_L1] at H
 refine wpIn_seq_k fun K60 hK60 => ?_
 refine wpIn_seq_k fun K61 hK61 => ?_
 refine wpIn_region_lit ?_
 refine wp 4 [0, 3, 6, 13] hF fun a hF => ?_
 refine wpListIn_nil ?_
 refine hK61 _ _ ?_
 refine bif_split H (fun hb H => ?_) (fun hb H => ?_)
 refine cond_t hF (by kernel_rfl) hb ?_
 refine wpIn_skip ?_
 refine hK60 _ _ ?_
 refine wpIn_seq_k fun K62 hK62 => ?_
 refine wpIn_block ?_
 refine wpIn_seq_k fun K63 hK63 => ?_
 refine bind_split H (fun v65 hv65 H => ?_)
 refine code_join (fun a w => ∃ κ : Gh, Fr (72) [] [(0, .slice p2 (a1).length c3), (3, pt b6 0), (6, vi y59), (31, vb v65)] a ∧ SS [] κ0 w0 κ w [.box b6 37 [sg a4.Key, sg a4.Val, sb a4.Gone, su a4.TS, si a4.DC, si a4.Tx]] [Ro.mp f_api_Ver.ty p2 c3 a1] ∧ True) ?_ ?_
 refine rgS hS [] ?_
 have hS := hS.drew
 refine bind_split hv65 (fun x66 hx66 hv65 => ?_)
 refine bind_split hv65 (fun x69 hx69 hv65 => ?_)
 refine bif_split hv65 (fun hb70 hv65 => ?_) (fun hb70 hv65 => ?_)
 refine bind_split hv65 (fun x71 hx71 hv65 => ?_)
 refine bind_split hv65 (fun x74 hx74 hv65 => ?_)
 refine any_pure [0, 1] [0, 3, 6, 16, 17] (L' := [(0, .slice p2 (a1).length c3), (3, pt b6 0), (6, vi y59), (16, .slice p2 (a1).length c3), (17, vi y59)]) (listed' := (bitA 16 3)) (fuel := 14) hF (hS.sx [0] [0]) (by kernel_rfl) (by intro c a w t v h; cases t <;> exact h) (by kernel_rfl) rfl fun a hF => ?_
 obtain ⟨b67, f68, hpx66⟩ := hS.ptr 0 rfl hx66
 refine atk 2 (some 18) hF (hS.sx [0] [0]) rfl (fun w _ => val_index (E := 37) (sz := 6) rfl hpx66 rfl (by kernel_rfl) rfl hx66 (by kernel_rfl) (by kernel_rfl) w) fun a hF => ?_
 refine atk 3 (some 19) hF (hS.sx [0] [0]) rfl (val_loadRoAgg (t := f_api_Ver) 0 rfl rfl hpx66 rfl hx66 (by kernel_rfl) (by kernel_rfl) (by kernel_rfl)) fun a hF => ?_
 refine atk 4 (some 20) hF (hS.sx [0] [0]) rfl (vls 0 0 6) fun a hF => ?_
 refine ago 5 hF rfl ?_
 refine wo_callP hF hS (by kernel_rfl) (by kernel_rfl) (C_ref09_less N hS.fresh (T_api_Ver.mk x66.Key x66.Val x66.Gone x66.TS x66.DC x66.Tx) (T_api_Ver.mk a4.Key a4.Val a4.Gone a4.TS a4.DC a4.Tx)  ((hS.pick [] (by kernel_rfl)).ro) hx69) ?_
 rintro _ κ w a ⟨rfl, hR, hN⟩ hF hS hO
 refine ⟨fun _ => (hS.sx [0] [0]), ?_⟩
 refine anp [6, 7] [0, 3, 6, 23] hF (hS.sx [0] [0]) fun a hF => ?_
 have hF := hF.boolv 23 (by kernel_rfl) hb70
 refine any_pure [9, 10] [0, 3, 6, 23, 25, 26] (L' := [(0, .slice p2 (a1).length c3), (3, pt b6 0), (6, vi y59), (23, vb true), (25, .slice p2 (a1).length c3), (26, vi y59)]) (listed' := (bitA 16 1791)) (fuel := 6) hF (hS.sx [0] [0]) (by kernel_rfl) (by intro c a w t v h; cases t <;> exact h) (by kernel_rfl) rfl fun a hF => ?_
 refine atk 8 (some 24) hF (hS.sx [0] [0]) rfl (vls 0 0 6) fun a hF => ?_
 obtain ⟨b72, f73, hpx71⟩ := hS.ptr 0 rfl hx71
 refine atk 11 (some 27) hF (hS.sx [0] [0]) rfl (fun w _ => val_index (E := 37) (sz := 6) rfl hpx71 rfl (by kernel_rfl) rfl hx71 (by kernel_rfl) (by kernel_rfl) w) fun a hF => ?_
 refine atk 12 (some 28) hF (hS.sx [0] [0]) rfl (val_loadRoAgg (t := f_api_Ver) 0 rfl rfl hpx71 rfl hx71 (by kernel_rfl) (by kernel_rfl) (by kernel_rfl)) fun a hF => ?_
 refine ago 13 hF rfl ?_
 refine wo_callP hF hS (by kernel_rfl) (by kernel_rfl) (C_ref09_less N hS.fresh (T_api_Ver.mk a4.Key a4.Val a4.Gone a4.TS a4.DC a4.Tx) (T_api_Ver.mk x71.Key x71.Val x71.Gone x71.TS x71.DC x71.Tx)  ((hS.pick [] (by kernel_rfl)).ro) hx74) ?_
 rintro _ κ w a ⟨rfl, hR, hN⟩ hF hS hO
 refine ⟨fun _ => (hS.sx [0] [0]), ?_⟩
 refine anp [14, 15] [0, 3, 6, 31] hF (hS.sx [0] [0]) fun a hF => ?_
 refine and_ ?_
 cases hv65
 exact ⟨_, hF.kp [0, 3, 6, 31], hS.sp [0] [0], trivial⟩
 refine any_pure [0, 1] [0, 3, 6, 16, 17] (L' := [(0, .slice p2 (a1).length c3), (3, pt b6 0), (6, vi y59), (16, .slice p2 (a1).length c3), (17, vi y59)]) (listed' := (bitA 16 3)) (fuel := 14) hF (hS.sx [0] [0]) (by kernel_rfl) (by intro c a w t v h; cases t <;> exact h) (by kernel_rfl) rfl fun a hF => ?_
 obtain ⟨b67, f68, hpx66⟩ := hS.ptr 0 rfl hx66
 refine atk 2 (some 18) hF (hS.sx [0] [0]) rfl (fun w _ => val_index (E := 37) (sz := 6) rfl hpx66 rfl (by kernel_rfl) rfl hx66 (by kernel_rfl) (by kernel_rfl) w) fun a hF => ?_
 refine atk 3 (some 19) hF (hS.sx [0] [0]) rfl (val_loadRoAgg (t := f_api_Ver) 0 rfl rfl hpx66 rfl hx66 (by kernel_rfl) (by kernel_rfl) (by kernel_rfl)) fun a hF => ?_
 refine atk 4 (some 20) hF (hS.sx [0] [0]) rfl (vls 0 0 6) fun a hF => ?_
 refine ago 5 hF rfl ?_
 refine wo_callP hF hS (by kernel_rfl) (by kernel_rfl) (C_ref09_less N hS.fresh (T_api_Ver.mk x66.Key x66.Val x66.Gone x66.TS x66.DC x66.Tx) (T_api_Ver.mk a4.Key a4.Val a4.Gone a4.TS a4.DC a4.Tx)  ((hS.pick [] (by kernel_rfl)).ro) hx69) ?_
 rintro _ κ w a ⟨rfl, hR, hN⟩ hF hS hO
 refine ⟨fun _ => (hS.sx [0] [0]), ?_⟩
 refine anp [6, 7] [0, 3, 6, 23] hF (hS.sx [0] [0]) fun a hF => ?_
 have hF := hF.boolv 23 (by kernel_rfl) hb70
 refine anp [8, 9, 10, 11, 12, 13, 14, 15] [0, 3, 6, 31] hF (hS.sx [0] [0]) fun a hF => ?_
 refine and_ ?_
 cases hv65
 exact ⟨_, hF.kp [0, 3, 6, 31], hS.sp [0] [0], trivial⟩
 rintro a w ⟨κ, hF, hS, -⟩
 refine hK63 _ _ ?_
 refine bif_split H (fun hb H => ?_) (fun hb H => ?_)
 refine cond_t hF (by kernel_rfl) hb ?_
 refine wpIn_seq_k fun K75 hK75 => ?_
 refine wpIn_seq_k fun K76 hK76 => ?_
 refine rgS hS [] ?_
 have hS := hS.drew
 refine any_pure [0, 1] [3, 32, 33] (L' := [(3, pt b6 0), (32, .slice p2 (a1).length c3), (33, vi y59)]) (listed' := #[true, true, false, false, false, false]) (fuel := 4) hF (hS.sx [0] [0]) (by kernel_rfl) (by intro c a w t v h; cases t <;> exact h) (by kernel_rfl) rfl fun a hF => ?_
 refine bind_split H (fun x77 hx77 H => ?_)
 obtain ⟨b78, f79, hpx77⟩ := hS.ptr 0 rfl hx77
 refine atk 2 (some 34) hF (hS.sx [0] [0]) rfl (fun w _ => val_index (E := 37) (sz := 6) rfl hpx77 rfl (by kernel_rfl) rfl hx77 (by kernel_rfl) (by kernel_rfl) w) fun a hF => ?_
 refine atk 3 (some 35) hF (hS.sx [0] [0]) rfl (val_loadRoAgg (t := f_api_Ver) 0 rfl rfl hpx77 rfl hx77 (by kernel_rfl) (by kernel_rfl) (by kernel_rfl)) fun a hF => ?_
 refine atk 4 (some 36) hF (hS.sx [0] [0]) rfl (vls 0 0 6) fun a hF => ?_
 refine atk 5 (some 37) hF (hS.sx [0] [0]) rfl (fun w _ => (val_eq (neg := false) (xs := (flat [sg x77.Key, sg x77.Val, sb x77.Gone, su x77.TS, si x77.DC, si x77.Tx])) (ys := (flat [sg a4.Key, sg a4.Val, sb a4.Gone, su a4.TS, si a4.DC, si a4.Tx])) (ks := [.str, .str, .bool, .int .u64, .int .i64, .int .i64]) 20 (by decide) rfl (by kernel_rfl) (by kernel_rfl) (by kernel_rfl) (by kernel_rfl) (by kernel_rfl) (by kernel_rfl) (by kernel_rfl)) w) fun a hF => ?_
 refine and_ ?_
 refine hK76 _ _ ?_
 refine bif_split H (fun hb H => ?_) (fun hb H => ?_)
 refine cond_t hF (by kernel_rfl) hb ?_
 refine wpIn_seq_k fun K80 hK80 => ?_
 refine wpIn_region_lit ?_
 refine wp 2 [4, 5] hF fun a hF => ?_
 refine wpListIn_nil ?_
 refine hK80 _ _ ?_
 refine wpIn_ret ?_
 have hS := hS.add (m := Ro.mp f_api_Ver.ty none 0 ([] : List T_api_Ver)) (Ro.nil f_api_Ver.ty _ _)
 have hS := hS.addNil 37 6
 cases H
 exact (ret_done hF hS (res2 Try.results88 (rvt hF) (rvt hF)) ⟨none, 0, rfl, (hS.pick [0] (by kernel_rfl)).ro, hS.newC [0] (by decide) (by kernel_rfl)⟩)
 refine cond_f hF (by kernel_rfl) hb ?_
 refine wpIn_skip ?_
 refine hK75 _ _ ?_
 refine wpIn_seq_k fun K81 hK81 => ?_
 refine wpIn_region_lit ?_
 refine wp 2 [4, 5] hF fun a hF => ?_
 refine wpListIn_nil ?_
 refine hK81 _ _ ?_
 refine wpIn_ret ?_
 have hS := hS.add (m := Ro.mp f_api_Ver.ty none 0 ([] : List T_api_Ver)) (Ro.nil f_api_Ver.ty _ _)
 have hS := hS.addNil 37 6
 cases H
 exact (ret_done hF hS (res2 Try.results88 (rvt hF) (rvt hF)) ⟨none, 0, rfl, (hS.pick [0] (by kernel_rfl)).ro, hS.newC [0] (by decide) (by kernel_rfl)⟩)
 refine cond_f hF (by kernel_rfl) hb ?_
 refine wpIn_skip ?_
 refine hK62 _ _ ?_
 refine wpIn_region_lit ?_
 refine wp 3 [0, 3, 6] hF fun a hF => ?_
 refine wpListIn_nil ?_
 exact ⟨fuel1, Nat.lt_succ_self _, _, IntKind.i64.wrap (y59 + 1), hF.kp [0, 3, 6], hS.sp [0] [0], H⟩
 refine cond_f hF (by kernel_rfl) hb ?_
 refine wpIn_exit ?_
 refine hK7 _ _ ?_
 refine wpIn_seq_k fun K82 hK82 => ?_
 refine wpIn_region_lit ?_
 refine wp 1 [0, 3, 7] hF fun a hF => ?_
 refine wpListIn_nil ?_
 refine hK82 _ _ ?_
 refine wpIn_seq_k fun K83 hK83 => ?_
 refine wpIn_region_lit ?_
 refine wp 1 [0, 3, 7, 8] hF fun a hF => ?_
 refine wpListIn_nil ?_
 refine hK83 _ _ ?_
 refine wpIn_seq_k fun K84 hK84 => ?_
 refine wpIn_seq_k fun K85 hK85 => ?_
 refine wpIn_region_lit ?_
 refine wp 1 [0, 3, 7, 8, 9] hF fun a hF => ?_
 refine wpListIn_nil ?_
 refine hK85 _ _ ?_
 refine wpIn_block ?_
 refine loop_fuel (n := N) (fun n a w => ∃ (κ : Gh) (y136 : List T_api_Ver) (p137 : Option Addr) (c138 : Nat) (y139 : Bool) (y140 : Int), Fr (72) [] [(0, .slice p2 (a1).length c3), (3, pt b6 0), (7, .slice p137 (y136).length c138), (8, vb y139), (9, vi y140)] a ∧ SS [] κ0 w0 κ w [.box b6 37 [sg a4.Key, sg a4.Val, sb a4.Gone, su a4.TS, si a4.DC, si a4.Tx], .tok p137 37 6 (y136).length c138] [Ro.mp f_api_Ver.ty p2 c3 a1, Ro.mp f_api_Ver.ty p137 c138 y136] ∧ M.ref09_Put_L2 N n a1 a4 y136 y139 y140 = some r) ?_ ?_
 have hS := hS.add (m := Ro.mp f_api_Ver.ty none 0 ([] : List T_api_Ver)) (Ro.nil f_api_Ver.ty _ _)
 have hS := hS.addNil 37 6
 exact ⟨_, ([] : List T_api_Ver), none, 0, false, 0, hF.kp [0, 3, 7, 8, 9], hS.sp [1, 0] [1, 0], H⟩
 rintro n a w ⟨κ, y136, p137, c138, y139, y140, hF, hS, H⟩
 rcases n with _ | fuel2
 simp [M.ref09_Put_L2] at H
 simp only [M.ref09_Put_L2] at H
 refine wpIn_seq_k fun K141 hK141 => ?_
 refine wpIn_seq_k fun K142 hK142 => ?_
 refine wpIn_region_lit ?_
 refine wp 4 [0, 3, 7, 8, 9, 41] hF fun a hF => ?_
 refine wpListIn_nil ?_
 refine hK142 _ _ ?_
 refine bif_split H (fun hb H => ?_) (fun hb H => ?_)
 refine cond_t hF (by kernel_rfl) hb ?_
 refine wpIn_skip ?_
 refine hK141 _ _ ?_
 refine wpIn_seq_k fun K143 hK143 => ?_
 refine wpIn_block ?_
 refine seq_join (fun a w => ∃ (κ : Gh) (y144 : List T_api_Ver) (p145 : Option Addr) (c146 : Nat) (y147 : Bool), Fr (72) [] [(0, .slice p2 (a1).length c3), (3, pt b6 0), (7, .slice p145 (y144).length c146), (8, vb y147), (9, vi y140)] a ∧ SS [] κ0 w0 κ w [.box b6 37 [sg a4.Key, sg a4.Val, sb a4.Gone, su a4.TS, si a4.DC, si a4.Tx], .tok p145 37 6 (y144).length c146] [Ro.mp f_api_Ver.ty p2 c3 a1, Ro.mp f_api_Ver.ty p145 c146 y144] ∧ M.ref09_Put_k3 N (M.ref09_Put_L2 N fuel2) a1 a4 y140 y144 y147 = some r) ?_ ?_
 refine wpIn_seq_k fun K155 hK155 => ?_
 refine bind_split H (fun v157 hv157 H => ?_)
 refine code_join (fun a w => ∃ κ : Gh, Fr (72) [] [(0, .slice p2 (a1).length c3), (3, pt b6 0), (7, .slice p137 (y136).length c138), (8, vb y139), (9, vi y140), (53, vb v157)] a ∧ SS [] κ0 w0 κ w [.box b6 37 [sg a4.Key, sg a4.Val, sb a4.Gone, su a4.TS, si a4.DC, si a4.Tx], .tok p137 37 6 (y136).length c138] [Ro.mp f_api_Ver.ty p2 c3 a1, Ro.mp f_api_Ver.ty p137 c138 y136] ∧ True) ?_ ?_
 refine rgS hS [] ?_
 have hS := hS.drew
 refine anp [0, 1, 2] [0, 3, 7, 8, 9, 46] hF (hS.sx [0] [0, 1]) fun a hF => ?_
 refine bif_split hv157 (fun hb hv157 => ?_) (fun hb hv157 => ?_)
 have hF := hF.boolv 46 (by kernel_rfl) hb
 refine any_pure [4, 5] [0, 3, 7, 8, 9, 46, 48, 49] (L' := [(0, .slice p2 (a1).length c3), (3, pt b6 0), (7, .slice p137 (y136).length c138), (8, vb y139), (9, vi y140), (46, vb true), (48, .slice p2 (a1).length c3), (49, vi y140)]) (listed' := (bitA 10 55)) (fuel := 5) hF (hS.sx [0] [0, 1]) (by kernel_rfl) (by intro c a w t v h; cases t <;> exact h) (by kernel_rfl) rfl fun a hF => ?_
 refine atk 3 (some 47) hF (hS.sx [0] [0, 1]) rfl (vls 0 0 6) fun a hF => ?_
 refine bind_split hv157 (fun x158 hx158 hv157 => ?_)
 obtain ⟨b159, f160, hpx158⟩ := hS.ptr 0 rfl hx158
 refine atk 6 (some 50) hF (hS.sx [0] [0, 1]) rfl (fun w _ => val_index (E := 37) (sz := 6) rfl hpx158 rfl (by kernel_rfl) rfl hx158 (by kernel_rfl) (by kernel_rfl) w) fun a hF => ?_
 refine atk 7 (some 51) hF (hS.sx [0] [0, 1]) rfl (val_loadRoAgg (t := f_api_Ver) 0 rfl rfl hpx158 rfl hx158 (by kernel_rfl) (by kernel_rfl) (by kernel_rfl)) fun a hF => ?_
 refine ago 8 hF rfl ?_
 refine bind_split hv157 (fun x161 hx161 hv157 => ?_)
 refine wo_callP hF hS (by kernel_rfl) (by kernel_rfl) (C_ref09_less N hS.fresh (T_api_Ver.mk a4.Key a4.Val a4.Gone a4.TS a4.DC a4.Tx) (T_api_Ver.mk x158.Key x158.Val x158.Gone x158.TS x158.DC x158.Tx)  ((hS.pick [] (by kernel_rfl)).ro) hx161) ?_
 rintro _ κ w a ⟨rfl, hR, hN⟩ hF hS hO
 refine ⟨fun _ => (hS.sx [0] [0, 1]), ?_⟩
 refine anp [9] [0, 3, 7, 8, 9, 53] hF (hS.sx [0] [0, 1]) fun a hF => ?_
 refine and_ ?_
 cases hv157
 exact ⟨_, hF.kp [0, 3, 7, 8, 9, 53], hS.sp [0, 1] [0, 1], trivial⟩
 have hF := hF.boolv 46 (by kernel_rfl) hb
 refine anp [3, 4, 5, 6, 7, 8, 9] [0, 3, 7, 8, 9, 53] hF (hS.sx [0] [0, 1]) fun a hF => ?_
 refine and_ ?_
 cases hv157
 exact ⟨_, hF.kp [0, 3, 7, 8, 9, 53], hS.sp [0, 1] [0, 1], trivial⟩
 rintro a w ⟨κ, hF, hS, -⟩
 refine hK155 _ _ ?_
 refine bif_split H (fun hb H => ?_) (fun hb H => ?_)
 refine cond_t hF (by kernel_rfl) hb ?_
 refine wpIn_region_lit ?_
 refine wl_pure (L' := [(0, .slice p2 (a1).length c3), (3, pt b6 0), (9, vi y140), (54, .slice p137 (y136).length c138)]) 1 [0, 3, 9, 54] hF (by kernel_rfl) fun a hF => ?_
 refine wc (wls hF hS 0 0 6 fun a hF => ?_)
 refine wc (wo_buildN (t := f_api_Ver) (z := .agg (flat [sg ByteArray.empty, sg ByteArray.empty, sb false, su 0, si 0, si 0]).toArray) (l := [(T_api_Ver.mk a4.Key a4.Val a4.Gone a4.TS a4.DC a4.Tx)]) (vs := [(0, .agg (flat [sg a4.Key, sg a4.Val, sb a4.Gone, su a4.TS, si a4.DC, si a4.Tx]).toArray)]) (cells := #[.string (a4.Key), .string (a4.Val), vb a4.Gone, vu a4.TS, vi a4.DC, vi a4.Tx]) (E := 37) hF hS (by kernel_rfl) rfl (by kernel_rfl) (by kernel_rfl) rfl (by kernel_rfl) (by kernel_rfl) (by kernel_rfl) (by kernel_rfl) (by kernel_rfl) fun p162 κ a w hF hS => ?_)
 refine bind_split H (fun x163 hx163 H => ?_)
 refine wc (wo_append (ty := f_api_Ver.ty) hF hS (by kernel_rfl) 2 2 0 rfl rfl rfl (by kernel_rfl) (by kernel_rfl) rfl rfl rfl hx163 (by kernel_rfl) (i := Try.t37) (z := .agg (flat [sg ByteArray.empty, sg ByteArray.empty, sb false, su 0, si 0, si 0]).toArray) (by kernel_rfl) (by kernel_rfl) (by kernel_rfl) fun p164 c165 κ a w hF hS => ?_)
 refine wp 2 [0, 3, 7, 8, 9] hF fun a hF => ?_
 refine wpListIn_nil ?_
 exact ⟨_, x163, p164, c165, true, hF.kp [0, 3, 7, 8, 9], hS.sp [1, 2] [2, 0], H⟩
 refine cond_f hF (by kernel_rfl) hb ?_
 refine wpIn_skip ?_
 exact ⟨_, y136, p137, c138, y139, hF.kp [0, 3, 7, 8, 9], hS.sp [0, 1] [0, 1], H⟩
 rintro a w ⟨κ, y144, p145, c146, y147, hF, hS, H⟩
 unfold M.ref09_Put_k3 at H
 refine wpIn_region_lit ?_
 refine wl_pure (L' := [(0, .slice p2 (a1).length c3), (3, pt b6 0), (8, vb y147), (9, vi y140), (58, .slice p145 (y144).length c146), (59, .slice p2 (a1).length c3), (60, vi y140)]) 3 [0, 3, 8, 9, 58, 59, 60] hF (by kernel_rfl) fun a hF => ?_
 refine bind_split H (fun x148 hx148 H => ?_)
 refine wc (wo_index hF hS (by kernel_rfl) 0 (E := 37) (sz := 6) rfl rfl rfl (by kernel_rfl) rfl hx148 (by kernel_rfl) (by kernel_rfl) fun b149 f150 a hpx148 hF => ?_)
 refine wc (wo_loadRoAgg (t := f_api_Ver) hF hS (by kernel_rfl) 0 rfl rfl hpx148 rfl hx148 (by kernel_rfl) (by kernel_rfl) (by kernel_rfl) fun a hF => ?_)
 refine wc (wo_buildN (t := f_api_Ver) (z := .agg (flat [sg ByteArray.empty, sg ByteArray.empty, sb false, su 0, si 0, si 0]).toArray) (l := [(T_api_Ver.mk x148.Key x148.Val x148.Gone x148.TS x148.DC x148.Tx)]) (vs := [(0, .agg (flat [sg x148.Key, sg x148.Val, sb x148.Gone, su x148.TS, si x148.DC, si x148.Tx]).toArray)]) (cells := #[.string (x148.Key), .string (x148.Val), vb x148.Gone, vu x148.TS, vi x148.DC, vi x148.Tx]) (E := 37) hF hS (by kernel_rfl) rfl (by kernel_rfl) (by kernel_rfl) rfl (by kernel_rfl) (by kernel_rfl) (by kernel_rfl) (by kernel_rfl) (by kernel_rfl) fun p151 κ a w hF hS => ?_)
 refine bind_split H (fun x152 hx152 H => ?_)
 refine wc (wo_append (ty := f_api_Ver.ty) hF hS (by kernel_rfl) 2 2 0 rfl rfl rfl (by kernel_rfl) (by kernel_rfl) rfl rfl rfl hx152 (by kernel_rfl) (i := Try.t37) (z := .agg (flat [sg ByteArray.empty, sg ByteArray.empty, sb false, su 0, si 0, si 0]).toArray) (by kernel_rfl) (by kernel_rfl) (by kernel_rfl) fun p153 c154 κ a w hF hS => ?_)
 refine wp 1 [0, 3, 7, 8, 9] hF fun a hF => ?_
 refine wpListIn_nil ?_
 refine hK143 _ _ ?_
 refine wpIn_region_lit ?_
 refine wp 3 [0, 3, 7, 8, 9] hF fun a hF => ?_
 refine wpListIn_nil ?_
 exact ⟨fuel2, Nat.lt_succ_self _, _, x152, p153, c154, y147, IntKind.i64.wrap (y140 + 1), hF.kp [0, 3, 7, 8, 9], hS.sp [1, 2] [2, 0], H⟩
 refine cond_f hF (by kernel_rfl) hb ?_
 refine wpIn_exit ?_
 refine hK84 _ _ ?_
 refine seq_join (fun a w => ∃ (κ : Gh) (y166 : List T_api_Ver) (p167 : Option Addr) (c168 : Nat), Fr (72) [] [(7, .slice p167 (y166).length c168)] a ∧ SS [] κ0 w0 κ w [.tok p167 37 6 (y166).length c168] [Ro.mp f_api_Ver.ty p167 c168 y166] ∧ M.ref09_Put_k4 N y166 = some r) ?_ ?_
 refine wpIn_seq_k fun K170 hK170 => ?_
 refine wpIn_region_lit ?_
 refine wp 2 [3, 7, 66] hF fun a hF => ?_
 refine wpListIn_nil ?_
 refine hK170 _ _ ?_
 refine bif_split H (fun hb H => ?_) (fun hb H => ?_)
 refine cond_t hF (by kernel_rfl) hb ?_
 refine wpIn_region_lit ?_
 refine wl_pure (L' := [(3, pt b6 0), (67, .slice p137 (y136).length c138)]) 1 [3, 67] hF (by kernel_rfl) fun a hF => ?_
 refine wc (wls hF hS 0 0 6 fun a hF => ?_)
 refine wc (wo_buildN (t := f_api_Ver) (z := .agg (flat [sg ByteArray.empty, sg ByteArray.empty, sb false, su 0, si 0, si 0]).toArray) (l := [(T_api_Ver.mk a4.Key a4.Val a4.Gone a4.TS a4.DC a4.Tx)]) (vs := [(0, .agg (flat [sg a4.Key, sg a4.Val, sb a4.Gone, su a4.TS, si a4.DC, si a4.Tx]).toArray)]) (cells := #[.string (a4.Key), .string (a4.Val), vb a4.Gone, vu a4.TS, vi a4.DC, vi a4.Tx]) (E := 37) hF hS (by kernel_rfl) rfl (by kernel_rfl) (by kernel_rfl) rfl (by kernel_rfl) (by kernel_rfl) (by kernel_rfl) (by kernel_rfl) (by kernel_rfl) fun p171 κ a w hF hS => ?_)
 refine bind_split H (fun x172 hx172 H => ?_)
 refine wc (wo_append (ty := f_api_Ver.ty) hF hS (by kernel_rfl) 2 2 0 rfl rfl rfl (by kernel_rfl) (by kernel_rfl) rfl rfl rfl hx172 (by kernel_rfl) (i := Try.t37) (z := .agg (flat [sg ByteArray.empty, sg ByteArray.empty, sb false, su 0, si 0, si 0]).toArray) (by kernel_rfl) (by kernel_rfl) (by kernel_rfl) fun p173 c174 κ a w hF hS => ?_)
 refine wp 1 [7] hF fun a hF => ?_
 refine wpListIn_nil ?_
 exact ⟨_, x172, p173, c174, hF.kp [7], hS.sp [2] [0], H⟩
 refine cond_f hF (by kernel_rfl) hb ?_
 refine wpIn_skip ?_
 exact ⟨_, y136, p137, c138, hF.kp [7], hS.sp [1] [1], H⟩
 rintro a w ⟨κ, y166, p167, c168, hF, hS, H⟩
 unfold M.ref09_Put_k4 at H
 refine wpIn_seq_k fun K169 hK169 => ?_
 refine wpIn_region_lit ?_
 refine wp 3 [4, 5] hF fun a hF => ?_
 refine wpListIn_nil ?_
 refine hK169 _ _ ?_
 refine wpIn_ret ?_
 cases H
 exact (ret_done hF hS (res2 Try.results88 (rvt hF) (rvt hF)) ⟨p167, c168, rfl, (hS.pick [0] (by kernel_rfl)).ro, hS.newC [0] (by decide) (by kernel_rfl)⟩)
set_option maxRecDepth 20000 in
set_option maxHeartbeats 8000000 in
theorem C_ref09_Trim (N : Nat) {κ0 : Gh} {w0 : World} (hfr : Fresh κ0 w0) (a1 : (List T_api_Ver)) (a4 : Int) (p2 : Option Addr) (c3 : Nat) (hR : ∀ m ∈ ([Ro.mp f_api_Ver.ty p2 c3 a1] : List MP), m.p κ0 w0) {r : ((List T_api_Ver) × Int)} (H : M.ref09_Trim N a1 a4 = some r) :
    Calls Try.prog 92 #[.slice p2 (a1).length c3, vu a4] w0 (Post [] κ0 w0 fun v κ w => ∃ (p88 : Option Addr) (c89 : Nat), v = .tuple #[.slice p88 (r.1).length c89, vi r.2] ∧ (∀ m ∈ ([Ro.mp f_api_Ver.ty p88 c89 r.1] : List MP), m.p κ w) ∧ NewC w0 κ w [.tok p88 37 6 (r.1).length c89]) := by
 have hS := SS.start hfr hR
 refine enter (N := (45)) (L := [(0, .slice p2 (a1).length c3), (1, vu a4)]) Try.func92 rfl Try.ntmps92 (show 2 ≤ (45) by decide) rfl fun a hF => ?_
 unfold M.ref09_Trim at H
 refine wpIn_seq_k fun K5 hK5 => ?_
 refine wpIn_region_lit ?_
 refine wp 2 [0, 1] hF fun a hF => ?_
 refine wpListIn_nil ?_
 refine hK5 _ _ ?_
 refine wpIn_seq_k fun K6 hK6 => ?_
 refine wpIn_region_lit ?_
 refine wp 2 [0, 9, 10] hF fun a hF => ?_
 refine bind_split H (fun x7 hx7 H => ?_)
 refine wc (wo_callP hF hS (by kernel_rfl) (by kernel_rfl) (C_ref09_Seen N hS.fresh a1 a4 p2 c3 ((hS.pick [0] (by kernel_rfl)).ro) hx7) ?_)
 rintro _ κ w a ⟨rfl, hR, hN⟩ hF hS hO
 refine wp 1 [0, 6] hF fun a hF => ?_
 refine wpListIn_nil ?_
 refine hK6 _ _ ?_
 refine wpIn_seq_k fun K8 hK8 => ?_
 refine wpIn_region_lit ?_
 refine wp 1 [0, 6, 7] hF fun a hF => ?_
 refine wpListIn_nil ?_
 refine hK8 _ _ ?_
 refine wpIn_seq_k fun K9 hK9 => ?_
 refine wpIn_seq_k fun K10 hK10 => ?_
 refine wpIn_region_lit ?_
 refine wp 1 [0, 6, 7, 8] hF fun a hF => ?_
 refine wpListIn_nil ?_
 refine hK10 _ _ ?_
 refine wpIn_block ?_
 refine loop_fuel (n := N) (fun n a w => ∃ (κ : Gh) (y61 : List T_api_Ver) (p62 : Option Addr) (c63 : Nat) (y64 : Int), Fr (45) [] [(0, .slice p2 (a1).length c3), (6, vi x7), (7, .slice p62 (y61).length c63), (8, vi y64)] a ∧ SS [] κ0 w0 κ w [.tok p62 37 6 (y61).length c63] [Ro.mp f_api_Ver.ty p2 c3 a1, Ro.mp f_api_Ver.ty p62 c63 y61] ∧ M.ref09_Trim_L1 N n a1 x7 y61 y64 = some r) ?_ ?_
 have hS := hS.add (m := Ro.mp f_api_Ver.ty none 0 ([] : List T_api_Ver)) (Ro.nil f_api_Ver.ty _ _)
 have hS := hS.addNil 37 6
 exact ⟨_, ([] : List T_api_Ver), none, 0, 0, hF.kp [0, 6, 7, 8], hS.sp [0] [1, 0], H⟩
 rintro n a w ⟨κ, y61, p62, c63, y64, hF, hS, H⟩
 rcases n with _ | fuel1
 simp [M.ref09_Trim_L1] at H
 simp only [M.ref09_Trim_L1] at H
 refine wpIn_seq_k fun K65 hK65 => ?_
 refine wpIn_seq_k fun K66 hK66 => ?_
 refine wpIn_region_lit ?_
 refine wp 4 [0, 6, 7, 8, 15] hF fun a hF => ?_
 refine wpListIn_nil ?_
 refine hK66 _ _ ?_
 refine bif_split H (fun hb H => ?_) (fun hb H => ?_)
 refine cond_t hF (by kernel_rfl) hb ?_
 refine wpIn_skip ?_
 refine hK65 _ _ ?_
 refine seq_join (fun a w => ∃ (κ : Gh) (y67 : List T_api_Ver) (p68 : Option Addr) (c69 : Nat), Fr (45) [] [(0, .slice p2 (a1).length c3), (6, vi x7), (7, .slice p68 (y67).length c69), (8, vi y64)] a ∧ SS [] κ0 w0 κ w [.tok p68 37 6 (y67).length c69] [Ro.mp f_api_Ver.ty p2 c3 a1, Ro.mp f_api_Ver.ty p68 c69 y67] ∧ M.ref09_Trim_k2 N (M.ref09_Trim_L1 N fuel1) a1 x7 y64 y67 = some r) ?_ ?_
 refine wpIn_block ?_
 refine wpIn_seq_k fun K70 hK70 => ?_
 refine bind_split H (fun v72 hv72 H => ?_)
 refine code_join (fun a w => ∃ κ : Gh, Fr (45) [] [(0, .slice p2 (a1).length c3), (6, vi x7), (7, .slice p62 (y61).length c63), (8, vi y64), (31, vb v72)] a ∧ SS [] κ0 w0 κ w [.tok p62 37 6 (y61).length c63] [Ro.mp f_api_Ver.ty p2 c3 a1, Ro.mp f_api_Ver.ty p62 c63 y61] ∧ True) ?_ ?_
 refine rgS hS [] ?_
 have hS := hS.drew
 refine anp [0, 1, 2] [0, 6, 7, 8, 20] hF (hS.sx [] [0, 1]) fun a hF => ?_
 refine bif_split hv72 (fun hb hv72 => ?_) (fun hb hv72 => ?_)
 have hF := hF.boolv 20 (by kernel_rfl) hb
 refine anp [3, 4, 5, 6, 7, 8, 9, 10, 11, 12, 13] [0, 6, 7, 8, 31] hF (hS.sx [] [0, 1]) fun a hF => ?_
 refine and_ ?_
 cases hv72
 exact ⟨_, hF.kp [0, 6, 7, 8, 31], hS.sp [0] [0, 1], trivial⟩
 have hF := hF.boolv 20 (by kernel_rfl) hb
 refine any_pure [3, 4, 7, 8] [0, 6, 7, 8, 20, 21, 22, 25, 26] (L' := [(0, .slice p2 (a1).length c3), (6, vi x7), (7, .slice p62 (y61).length c63), (8, vi y64), (20, vb false), (21, .slice p2 (a1).length c3), (22, vi y64), (25, .slice p2 (a1).length c3), (26, vi x7)]) (listed' := (bitA 14 415)) (fuel := 7) hF (hS.sx [] [0, 1]) (by kernel_rfl) (by intro c a w t v h; cases t <;> exact h) (by kernel_rfl) rfl fun a hF => ?_
 refine bind_split hv72 (fun x73 hx73 hv72 => ?_)
 obtain ⟨b74, f75, hpx73⟩ := hS.ptr 0 rfl hx73
 refine atk 5 (some 23) hF (hS.sx [] [0, 1]) rfl (fun w _ => val_index (E := 37) (sz := 6) rfl hpx73 rfl (by kernel_rfl) rfl hx73 (by kernel_rfl) (by kernel_rfl) w) fun a hF => ?_
 refine atk 6 (some 24) hF (hS.sx [] [0, 1]) rfl (val_loadRoAgg (t := f_api_Ver) 0 rfl rfl hpx73 rfl hx73 (by kernel_rfl) (by kernel_rfl) (by kernel_rfl)) fun a hF => ?_
 refine bind_split hv72 (fun x76 hx76 hv72 => ?_)
 obtain ⟨b77, f78, hpx76⟩ := hS.ptr 0 rfl hx76
 refine atk 9 (some 27) hF (hS.sx [] [0, 1]) rfl (fun w _ => val_index (E := 37) (sz := 6) rfl hpx76 rfl (by kernel_rfl) rfl hx76 (by kernel_rfl) (by kernel_rfl) w) fun a hF => ?_
 refine atk 10 (some 28) hF (hS.sx [] [0, 1]) rfl (val_loadRoAgg (t := f_api_Ver) 0 rfl rfl hpx76 rfl hx76 (by kernel_rfl) (by kernel_rfl) (by kernel_rfl)) fun a hF => ?_
 refine ago 11 hF rfl ?_
 refine bind_split hv72 (fun x79 hx79 hv72 => ?_)
 refine wo_callP hF hS (by kernel_rfl) (by kernel_rfl) (C_ref09_less N hS.fresh (T_api_Ver.mk x73.Key x73.Val x73.Gone x73.TS x73.DC x73.Tx) (T_api_Ver.mk x76.Key x76.Val x76.Gone x76.TS x76.DC x76.Tx)  ((hS.pick [] (by kernel_rfl)).ro) hx79) ?_
 rintro _ κ w a ⟨rfl, hR, hN⟩ hF hS hO
 refine ⟨fun _ => (hS.sx [] [0, 1]), ?_⟩
 refine anp [12, 13] [0, 6, 7, 8, 31] hF (hS.sx [] [0, 1]) fun a hF => ?_
 refine and_ ?_
 cases hv72
 exact ⟨_, hF.kp [0, 6, 7, 8, 31], hS.sp [0] [0, 1], trivial⟩
 rintro a w ⟨κ, hF, hS, -⟩
 refine hK70 _ _ ?_
 refine bif_split H (fun hb H => ?_) (fun hb H => ?_)
 refine cond_t hF (by kernel_rfl) hb ?_
 refine wpIn_region_lit ?_
 refine wl_pure (L' := [(0, .slice p2 (a1).length c3), (6, vi x7), (8, vi y64), (32, .slice p62 (y61).length c63), (33, .slice p2 (a1).length c3), (34, vi y64)]) 3 [0, 6, 8, 32, 33, 34] hF (by kernel_rfl) fun a hF => ?_
 refine bind_split H (fun x80 hx80 H => ?_)
 refine wc (wo_index hF hS (by kernel_rfl) 0 (E := 37) (sz := 6) rfl rfl rfl (by kernel_rfl) rfl hx80 (by kernel_rfl) (by kernel_rfl) fun b81 f82 a hpx80 hF => ?_)
 refine wc (wo_loadRoAgg (t := f_api_Ver) hF hS (by kernel_rfl) 0 rfl rfl hpx80 rfl hx80 (by kernel_rfl) (by kernel_rfl) (by kernel_rfl) fun a hF => ?_)
 refine wc (wo_buildN (t := f_api_Ver) (z := .agg (flat [sg ByteArray.empty, sg ByteArray.empty, sb false, su 0, si 0, si 0]).toArray) (l := [(T_api_Ver.mk x80.Key x80.Val x80.Gone x80.TS x80.DC x80.Tx)]) (vs := [(0, .agg (flat [sg x80.Key, sg x80.Val, sb x80.Gone, su x80.TS, si x80.DC, si x80.Tx]).toArray)]) (cells := #[.string (x80.Key), .string (x80.Val), vb x80.Gone, vu x80.TS, vi x80.DC, vi x80.Tx]) (E := 37) hF hS (by kernel_rfl) rfl (by kernel_rfl) (by kernel_rfl) rfl (by kernel_rfl) (by kernel_rfl) (by kernel_rfl) (by kernel_rfl) (by kernel_rfl) fun p83 κ a w hF hS => ?_)
 refine bind_split H (fun x84 hx84 H => ?_)
 refine wc (wo_append (ty := f_api_Ver.ty) hF hS (by kernel_rfl) 1 2 0 rfl rfl rfl (by kernel_rfl) (by kernel_rfl) rfl rfl rfl hx84 (by kernel_rfl) (i := Try.t37) (z := .agg (flat [sg ByteArray.empty, sg ByteArray.empty, sb false, su 0, si 0, si 0]).toArray) (by kernel_rfl) (by kernel_rfl) (by kernel_rfl) fun p85 c86 κ a w hF hS => ?_)
 refine wp 1 [0, 6, 7, 8] hF fun a hF => ?_
 refine wpListIn_nil ?_
 exact ⟨_, x84, p85, c86, hF.kp [0, 6, 7, 8], hS.sp [1] [2, 0], H⟩
 refine cond_f hF (by kernel_rfl) hb ?_
 refine wpIn_skip ?_
 exact ⟨_, y61, p62, c63, hF.kp [0, 6, 7, 8], hS.sp [0] [0, 1], H⟩
 rintro a w ⟨κ, y67, p68, c69, hF, hS, H⟩
 unfold M.ref09_Trim_k2 at H
 refine wpIn_region_lit ?_
 refine wp 3 [0, 6, 7, 8] hF fun a hF => ?_
 refine wpListIn_nil ?_
 exact ⟨fuel1, Nat.lt_succ_self _, _, y67, p68, c69, IntKind.i64.wrap (y64 + 1), hF.kp [0, 6, 7, 8], hS.sp [0] [0, 1], H⟩
 refine cond_f hF (by kernel_rfl) hb ?_
 refine wpIn_exit ?_
 refine hK9 _ _ ?_
 refine wpIn_seq_k fun K87 hK87 => ?_
 refine wpIn_region_lit ?_
 refine wp 8 [4, 5] hF fun a hF => ?_
 refine wpListIn_nil ?_
 refine hK87 _ _ ?_
 refine wpIn_ret ?_
 cases H
 exact (ret_done hF hS (res2 Try.results92 (rvt hF) (rvt hF)) ⟨p62, c63, rfl, (hS.pick [1] (by kernel_rfl)).ro, hS.newC [0] (by decide) (by kernel_rfl)⟩)
set_option maxRecDepth 20000 in
set_option maxHeartbeats 8000000 in
theorem C_ref10_Check (N : Nat) {κ0 : Gh} {w0 : World} (hfr : Fresh κ0 w0) (a1 : T_api_Ver)  (hR : ∀ m ∈ ([] : List MP), m.p κ0 w0) {r : (Int)} (H : M.ref10_Check N a1 = some r) :
    Calls Try.prog 54 #[.agg (flat [sg a1.Key, sg a1.Val, sb a1.Gone, su a1.TS, si a1.DC, si a1.Tx]).toArray] w0 (Post [] κ0 w0 fun v κ w => v = vi r ∧ (∀ m ∈ ([] : List MP), m.p κ w) ∧ NewC w0 κ w []) := by
 have hS := SS.start hfr hR
 refine enter (N := (45)) (L := [(0, .agg (flat [sg a1.Key, sg a1.Val, sb a1.Gone, su a1.TS, si a1.DC, si a1.Tx]).toArray)]) Try.func54 rfl Try.ntmps54 (show 1 ≤ (45) by decide) rfl fun a hF => ?_
 unfold M.ref10_Check at H
 refine wpIn_seq_k fun K2 hK2 => ?_
 refine wpIn_region_lit ?_
 refine wc (wbx hF hS [sg a1.Key, sg a1.Val, sb a1.Gone, su a1.TS, si a1.DC, si a1.Tx] (sgN 6 sgNil) fun b3 a w hF hS => ?_)
 refine wp 1 [1] hF fun a hF => ?_
 refine wpListIn_nil ?_
 refine hK2 _ _ ?_
 refine wpIn_seq_k fun K4 hK4 => ?_
 refine wpIn_seq_k fun K5 hK5 => ?_
 refine wpIn_region_lit ?_
 refine bind_split H (fun v7 hv7 H => ?_)
 refine wl_join (fun a w => ∃ κ : Gh, Fr (45) [] [(1, pt b3 0), (12, vb v7)] a ∧ SS [] κ0 w0 κ w [.box b3 37 [sg a1.Key, sg a1.Val, sb a1.Gone, su a1.TS, si a1.DC, si a1.Tx]] [] ∧ True) ?_ ?_
 refine wp 1 [1, 3] hF fun a hF => ?_
 refine wc (wld hF hS 0 0 0 fun a hF => ?_)
 refine wp 3 [1, 7] hF fun a hF => ?_
 refine bif_split hv7 (fun hb hv7 => ?_) (fun hb hv7 => ?_)
 have hF := hF.boolv 7 (by kernel_rfl) hb
 refine wp 5 [1, 12] hF fun a hF => ?_
 refine wpListIn_nil ?_
 cases hv7
 exact ⟨_, hF.kp [1, 12], hS.sp [0] [], trivial⟩
 have hF := hF.boolv 7 (by kernel_rfl) hb
 refine wp 1 [1, 7, 8] hF fun a hF => ?_
 refine wcg hF (wld hF hS 0 1 0 fun a hF => ?_)
 refine wp 3 [1, 12] hF fun a hF => ?_
 refine wpListIn_nil ?_
 cases hv7
 exact ⟨_, hF.kp [1, 12], hS.sp [0] [], trivial⟩
 rintro a w ⟨κ, hF, hS, -⟩
 refine hK5 _ _ ?_
 refine bif_split H (fun hb H => ?_) (fun hb H => ?_)
 refine cond_t hF (by kernel_rfl) hb ?_
 refine wpIn_seq_k fun K8 hK8 => ?_
 refine wpIn_region_lit ?_
 refine wp 1 [2] hF fun a hF => ?_
 refine wpListIn_nil ?_
 refine hK8 _ _ ?_
 refine wpIn_ret ?_
 cases H
 exact (ret_done hF hS (res1 Try.results54 (rvt hF)) ⟨rfl, (hS.pick [] (by kernel_rfl)).ro, hS.newC [] (by decide) (by kernel_rfl)⟩)
 refine cond_f hF (by kernel_rfl) hb ?_
 refine wpIn_skip ?_
 refine hK4 _ _ ?_
 refine wpIn_seq_k fun K9 hK9 => ?_
 refine wpIn_seq_k fun K10 hK10 => ?_
 refine wpIn_region_lit ?_
 refine bind_split H (fun v12 hv12 H => ?_)
 refine wl_join (fun a w => ∃ κ : Gh, Fr (45) [] [(44, vb v12)] a ∧ SS [] κ0 w0 κ w [] [] ∧ True) ?_ ?_
 refine wp 1 [1, 13] hF fun a hF => ?_
 refine wc (wld hF hS 0 0 0 fun a hF => ?_)
 refine wp 2 [1, 16] hF fun a hF => ?_
 refine bif_split hv12 (fun hb hv12 => ?_) (fun hb hv12 => ?_)
 have hF := hF.boolv 16 (by kernel_rfl) hb
 refine wp 28 [44] hF fun a hF => ?_
 refine wpListIn_nil ?_
 cases hv12
 exact ⟨_, hF.kp [44], hS.sp [] [], trivial⟩
 have hF := hF.boolv 16 (by kernel_rfl) hb
 refine wp 1 [1, 16, 17] hF fun a hF => ?_
 refine wcg hF (wld hF hS 0 2 0 fun a hF => ?_)
 refine wp 1 [1, 16, 19] hF fun a hF => ?_
 refine bif_split hv12 (fun hb hv12 => ?_) (fun hb hv12 => ?_)
 have hF := hF.boolv 19 (by kernel_rfl) hb
 refine wp 1 [1, 16, 19, 20] hF fun a hF => ?_
 refine wcg hF (wld hF hS 0 1 0 fun a hF => ?_)
 refine wp 4 [1, 25] hF fun a hF => ?_
 refine bif_split hv12 (fun hb hv12 => ?_) (fun hb hv12 => ?_)
 have hF := hF.boolv 25 (by kernel_rfl) hb
 refine wp 19 [44] hF fun a hF => ?_
 refine wpListIn_nil ?_
 cases hv12
 exact ⟨_, hF.kp [44], hS.sp [] [], trivial⟩
 have hF := hF.boolv 25 (by kernel_rfl) hb
 refine wp 1 [1, 25, 26] hF fun a hF => ?_
 refine wcg hF (wld hF hS 0 4 0 fun a hF => ?_)
 refine wp 3 [1, 30] hF fun a hF => ?_
 refine bif_split hv12 (fun hb hv12 => ?_) (fun hb hv12 => ?_)
 have hF := hF.boolv 30 (by kernel_rfl) hb
 refine wp 14 [44] hF fun a hF => ?_
 refine wpListIn_nil ?_
 cases hv12
 exact ⟨_, hF.kp [44], hS.sp [] [], trivial⟩
 have hF := hF.boolv 30 (by kernel_rfl) hb
 refine wp 1 [1, 30, 31] hF fun a hF => ?_
 refine wcg hF (wld hF hS 0 4 0 fun a hF => ?_)
 refine wp 3 [1, 35] hF fun a hF => ?_
 refine bif_split hv12 (fun hb hv12 => ?_) (fun hb hv12 => ?_)
 have hF := hF.boolv 35 (by kernel_rfl) hb
 refine wp 9 [44] hF fun a hF => ?_
 refine wpListIn_nil ?_
 cases hv12
 exact ⟨_, hF.kp [44], hS.sp [] [], trivial⟩
 have hF := hF.boolv 35 (by kernel_rfl) hb
 refine wp 1 [1, 35, 36] hF fun a hF => ?_
 refine wcg hF (wld hF hS 0 5 0 fun a hF => ?_)
 refine wp 3 [1, 40] hF fun a hF => ?_
 refine bif_split hv12 (fun hb hv12 => ?_) (fun hb hv12 => ?_)
 have hF := hF.boolv 40 (by kernel_rfl) hb
 refine wp 4 [44] hF fun a hF => ?_
 refine wpListIn_nil ?_
 cases hv12
 exact ⟨_, hF.kp [44], hS.sp [] [], trivial⟩
 have hF := hF.boolv 40 (by kernel_rfl) hb
 refine wp 1 [40, 41] hF fun a hF => ?_
 refine wcg hF (wld hF hS 0 5 0 fun a hF => ?_)
 refine wp 2 [44] hF fun a hF => ?_
 refine wpListIn_nil ?_
 cases hv12
 exact ⟨_, hF.kp [44], hS.sp [] [], trivial⟩
 have hF := hF.boolv 19 (by kernel_rfl) hb
 refine wp 7 [1, 25, 26] hF fun a hF => ?_
 refine wcg hF (wld hF hS 0 4 0 fun a hF => ?_)
 refine wp 3 [1, 30] hF fun a hF => ?_
 refine bif_split hv12 (fun hb hv12 => ?_) (fun hb hv12 => ?_)
 have hF := hF.boolv 30 (by kernel_rfl) hb
 refine wp 14 [44] hF fun a hF => ?_
 refine wpListIn_nil ?_
 cases hv12
 exact ⟨_, hF.kp [44], hS.sp [] [], trivial⟩
 have hF := hF.boolv 30 (by kernel_rfl) hb
 refine wp 1 [1, 30, 31] hF fun a hF => ?_
 refine wcg hF (wld hF hS 0 4 0 fun a hF => ?_)
 refine wp 3 [1, 35] hF fun a hF => ?_
 refine bif_split hv12 (fun hb hv12 => ?_) (fun hb hv12 => ?_)
 have hF := hF.boolv 35 (by kernel_rfl) hb
 refine wp 9 [44] hF fun a hF => ?_
 refine wpListIn_nil ?_
 cases hv12
 exact ⟨_, hF.kp [44], hS.sp [] [], trivial⟩
 have hF := hF.boolv 35 (by kernel_rfl) hb
 refine wp 1 [1, 35, 36] hF fun a hF => ?_
 refine wcg hF (wld hF hS 0 5 0 fun a hF => ?_)
 refine wp 3 [1, 40] hF fun a hF => ?_
 refine bif_split hv12 (fun hb hv12 => ?_) (fun hb hv12 => ?_)
 have hF := hF.boolv 40 (by kernel_rfl) hb
 refine wp 4 [44] hF fun a hF => ?_
 refine wpListIn_nil ?_
 cases hv12
 exact ⟨_, hF.kp [44], hS.sp [] [], trivial⟩
 have hF := hF.boolv 40 (by kernel_rfl) hb
 refine wp 1 [40, 41] hF fun a hF => ?_
 refine wcg hF (wld hF hS 0 5 0 fun a hF => ?_)
 refine wp 2 [44] hF fun a hF => ?_
 refine wpListIn_nil ?_
 cases hv12
 exact ⟨_, hF.kp [44], hS.sp [] [], trivial⟩
 rintro a w ⟨κ, hF, hS, -⟩
 refine hK10 _ _ ?_
 refine bif_split H (fun hb H => ?_) (fun hb H => ?_)
 refine cond_t hF (by kernel_rfl) hb ?_
 refine wpIn_seq_k fun K13 hK13 => ?_
 refine wpIn_region_lit ?_
 refine wp 1 [2] hF fun a hF => ?_
 refine wpListIn_nil ?_
 refine hK13 _ _ ?_
 refine wpIn_ret ?_
 cases H
 exact (ret_done hF hS (res1 Try.results54 (rvt hF)) ⟨rfl, (hS.pick [] (by kernel_rfl)).ro, hS.newC [] (by decide) (by kernel_rfl)⟩)
 refine cond_f hF (by kernel_rfl) hb ?_
 refine wpIn_skip ?_
 refine hK9 _ _ ?_
 refine wpIn_seq_k fun K14 hK14 => ?_
 refine wpIn_region_lit ?_
 refine wp 1 [2] hF fun a hF => ?_
 refine wpListIn_nil ?_
 refine hK14 _ _ ?_
 refine wpIn_ret ?_
 cases H
 exact (ret_done hF hS (res1 Try.results54 (rvt hF)) ⟨rfl, (hS.pick [] (by kernel_rfl)).ro, hS.newC [] (by decide) (by kernel_rfl)⟩)
set_option maxRecDepth 20000 in
set_option maxHeartbeats 8000000 in
theorem C_ref10_Store_Of (N : Nat) {Ms : List Nat} {κ0 : Gh} {w0 : World} (a1 : T_ref10_Store) (a5 : ByteArray) (p2 : Option Addr) (c3 : Nat) (b4 : Nat) (hB : SB Ms κ0 w0 [.box b4 82 [sl p2 (a1.Chains).length c3, su a1.Floor]] [Ro.mp t_ref10_Chain p2 c3 a1.Chains]) {r : ((List T_api_Ver))} (H : M.ref10_Store_Of N a1 a5 = some r) :
    Calls Try.prog 87 #[pt b4 0, .string (a5)] w0 (Post Ms κ0 w0 fun v κ w => ∃ (p76 : Option Addr) (c77 : Nat), v = .slice p76 (r).length c77 ∧ SS Ms κ0 w0 κ w [.box b4 82 [sl p2 (a1.Chains).length c3, su a1.Floor]] [Ro.mp f_api_Ver.ty p76 c77 r]) := by
 have hS := hB.hS
 have hfr := hS.fresh
 refine enter (N := (33)) (L := [(0, pt b4 0), (1, .string (a5))]) Try.func87 rfl Try.ntmps87 (show 2 ≤ (33) by decide) rfl fun a hF => ?_
 unfold M.ref10_Store_Of at H
 refine wpIn_seq_k fun K6 hK6 => ?_
 refine wpIn_region_lit ?_
 refine wp 1 [0, 1] hF fun a hF => ?_
 refine wpListIn_nil ?_
 refine hK6 _ _ ?_
 refine wpIn_seq_k fun K7 hK7 => ?_
 refine wpIn_seq_k fun K8 hK8 => ?_
 refine wpIn_region_lit ?_
 refine wp 1 [0, 1, 5] hF fun a hF => ?_
 refine wpListIn_nil ?_
 refine hK8 _ _ ?_
 refine wpIn_block ?_
 refine loop_fuel (n := N) (fun n a w => ∃ (κ : Gh) (y59 : Int), Fr (33) [] [(0, pt b4 0), (1, .string (a5)), (5, vi y59)] a ∧ SS Ms κ0 w0 κ w [.box b4 82 [sl p2 (a1.Chains).length c3, su a1.Floor]] [Ro.mp t_ref10_Chain p2 c3 a1.Chains] ∧ M.ref10_Store_Of_L1 N n a1 a5 y59 = some r) ?_ ?_
 exact ⟨_, 0, hF.kp [0, 1, 5], hS.sp [0] [0], H⟩
 rintro n a w ⟨κ, y59, hF, hS, H⟩
 rcases n with _ | fuel1
 simp [M.ref10_Store_Of_L1] at H
 simp only [M.ref10_Store_Of_L1] at H
 refine wpIn_seq_k fun K60 hK60 => ?_
 refine wpIn_seq_k fun K61 hK61 => ?_
 refine wpIn_region_lit ?_
 refine wp 4 [0, 1, 5, 6, 9] hF fun a hF => ?_
 refine wc (wld hF hS 0 0 0 fun a hF => ?_)
 refine wp 2 [0, 1, 5, 12] hF fun a hF => ?_
 refine wpListIn_nil ?_
 refine hK61 _ _ ?_
 refine bif_split H (fun hb H => ?_) (fun hb H => ?_)
 refine cond_t hF (by kernel_rfl) hb ?_
 refine wpIn_skip ?_
 refine hK60 _ _ ?_
 refine wpIn_seq_k fun K62 hK62 => ?_
 refine wpIn_block ?_
 refine wpIn_seq_k fun K63 hK63 => ?_
 refine wpIn_region_lit ?_
 refine wp 3 [0, 1, 5, 17] hF fun a hF => ?_
 refine wc (wld hF hS 0 0 0 fun a hF => ?_)
 refine wl_pure (L' := [(0, pt b4 0), (1, .string (a5)), (5, vi y59), (18, .slice p2 (a1.Chains).length c3), (19, vi y59)]) 1 [0, 1, 5, 18, 19] hF (by kernel_rfl) fun a hF => ?_
 refine bind_split H (fun x64 hx64 H => ?_)
 refine wc (wo_index hF hS (by kernel_rfl) 0 (E := 145) (sz := 2) rfl rfl rfl (by kernel_rfl) rfl hx64 (by kernel_rfl) (by kernel_rfl) fun b65 f66 a hpx64 hF => ?_)
 obtain ⟨_, ⟨⟨p67, c68⟩, rfl, hR⟩, hc⟩ := hS.elem 0 rfl hpx64 hx64
 have hS := (hS.adds hR).add hc
 refine wl_pure (L' := [(0, pt b4 0), (1, .string (a5)), (5, vi y59), (21, .pointer (some ⟨b65, (f66 + Int.toNat y59 * 2), none⟩))]) 1 [0, 1, 5, 21] hF (by kernel_rfl) fun a hF => ?_
 refine wc (wo_val hF (by kernel_rfl) (v := .string (x64.Key)) ((val_loadC 0 0 (s := [sg x64.Key, sl p67 (x64.Vers).length c68]) (v := .string (x64.Key)) rfl rfl rfl (show segGood [sg x64.Key, sl p67 (x64.Vers).length c68] from (sgN 2 sgNil)) (by kernel_rfl) (by kernel_rfl) (by kernel_rfl) w ⟨_, hS⟩)) fun a hF => ?_)
 refine wp 2 [0, 1, 5, 24] hF fun a hF => ?_
 refine wpListIn_nil ?_
 refine hK63 _ _ ?_
 refine bif_split H (fun hb H => ?_) (fun hb H => ?_)
 refine cond_t hF (by kernel_rfl) hb ?_
 refine wpIn_seq_k fun K69 hK69 => ?_
 refine wpIn_region_lit ?_
 refine wp 3 [5, 27] hF fun a hF => ?_
 refine wc (wld hF hS 0 0 0 fun a hF => ?_)
 refine wl_pure (L' := [(28, .slice p2 (a1.Chains).length c3), (29, vi y59)]) 1 [28, 29] hF (by kernel_rfl) fun a hF => ?_
 refine bind_split H (fun x70 hx70 H => ?_)
 refine wc (wo_index hF hS (by kernel_rfl) 2 (E := 145) (sz := 2) rfl rfl rfl (by kernel_rfl) rfl hx70 (by kernel_rfl) (by kernel_rfl) fun b71 f72 a hpx70 hF => ?_)
 obtain ⟨_, ⟨⟨p73, c74⟩, rfl, hR⟩, hc⟩ := hS.elem 2 rfl hpx70 hx70
 have hS := (hS.adds hR).add hc
 refine wl_pure (L' := [(31, .pointer (some ⟨b71, (f72 + Int.toNat y59 * 2) + 1, none⟩))]) 1 [31] hF (by kernel_rfl) fun a hF => ?_
 refine wc (wo_val hF (by kernel_rfl) (v := .slice p73 (x70.Vers).length c74) ((val_loadC 0 1 (s := [sg x70.Key, sl p73 (x70.Vers).length c74]) (v := .slice p73 (x70.Vers).length c74) rfl rfl rfl (show segGood [sg x70.Key, sl p73 (x70.Vers).length c74] from (sgN 2 sgNil)) (by kernel_rfl) (by kernel_rfl) (by kernel_rfl) w ⟨_, hS⟩)) fun a hF => ?_)
 refine wp 1 [4] hF fun a hF => ?_
 refine wpListIn_nil ?_
 refine hK69 _ _ ?_
 refine wpIn_ret ?_
 cases H
 exact ret_done hF hS (res1 Try.results87 (rvt hF)) ⟨p73, c74, rfl, hS.sp [0] [1]⟩
 refine cond_f hF (by kernel_rfl) hb ?_
 refine wpIn_skip ?_
 refine hK62 _ _ ?_
 refine wpIn_region_lit ?_
 refine wp 3 [0, 1, 5] hF fun a hF => ?_
 refine wpListIn_nil ?_
 exact ⟨fuel1, Nat.lt_succ_self _, _, IntKind.i64.wrap (y59 + 1), hF.kp [0, 1, 5], hS.sp [0] [2], H⟩
 refine cond_f hF (by kernel_rfl) hb ?_
 refine wpIn_exit ?_
 refine hK7 _ _ ?_
 refine wpIn_seq_k fun K75 hK75 => ?_
 refine wpIn_region_lit ?_
 refine wp 1 [4] hF fun a hF => ?_
 refine wpListIn_nil ?_
 refine hK75 _ _ ?_
 refine wpIn_ret ?_
 have hS := hS.add (m := Ro.mp f_api_Ver.ty none 0 ([] : List T_api_Ver)) (Ro.nil f_api_Ver.ty _ _)
 cases H
 exact ret_done hF hS (res1 Try.results87 (rvt hF)) ⟨none, 0, rfl, hS.sp [0] [0]⟩
set_option maxRecDepth 20000 in
set_option maxHeartbeats 8000000 in
theorem C_ref10_Store_set (N : Nat) {Ms : List Nat} {κ0 : Gh} {w0 : World} (a1 : T_ref10_Store) (a5 : ByteArray) (a6 : (List T_api_Ver)) (p2 : Option Addr) (c3 : Nat) (p7 : Option Addr) (c8 : Nat) (b4 : Nat) (hB : SB Ms κ0 w0 [.box b4 82 [sl p2 (a1.Chains).length c3, su a1.Floor], .tok p2 145 2 (a1.Chains).length c3] [Ro.mp t_ref10_Chain p2 c3 a1.Chains, Ro.mp f_api_Ver.ty p7 c8 a6]) {r : (T_ref10_Store)} (H : M.ref10_Store_set N a1 a5 a6 = some r) :
    Calls Try.prog 93 #[pt b4 0, .string (a5), .slice p7 (a6).length c8] w0 (Post Ms κ0 w0 fun v κ w => ∃ (p113 : Option Addr) (c114 : Nat), v = .tuple #[] ∧ SS Ms κ0 w0 κ w [.box b4 82 [sl p113 (r.Chains).length c114, su r.Floor], .tok p113 145 2 (r.Chains).length c114] [Ro.mp t_ref10_Chain p113 c114 r.Chains]) := by
 have hS := hB.hS
 have hfr := hS.fresh
 refine enter (N := (70)) (L := [(0, pt b4 0), (1, .string (a5)), (2, .slice p7 (a6).length c8)]) Try.func93 rfl Try.ntmps93 (show 3 ≤ (70) by decide) rfl fun a hF => ?_
 unfold M.ref10_Store_set at H
 refine wpIn_seq_k fun K9 hK9 => ?_
 refine wpIn_region_lit ?_
 refine wp 1 [0, 1, 2, 6] hF fun a hF => ?_
 refine wpListIn_nil ?_
 refine hK9 _ _ ?_
 refine wpIn_seq_k fun K10 hK10 => ?_
 refine wpIn_region_lit ?_
 refine wp 1 [0, 1, 2, 6, 7] hF fun a hF => ?_
 refine wpListIn_nil ?_
 refine hK10 _ _ ?_
 refine wpIn_seq_k fun K11 hK11 => ?_
 refine wpIn_seq_k fun K12 hK12 => ?_
 refine wpIn_region_lit ?_
 refine wp 1 [0, 1, 2, 6, 7, 8] hF fun a hF => ?_
 refine wpListIn_nil ?_
 refine hK12 _ _ ?_
 refine wpIn_block ?_
 refine loop_fuel (n := N) (fun n a w => ∃ (κ : Gh) (y63 : List T_ref10_Chain) (p64 : Option Addr) (c65 : Nat) (y66 : Bool) (y67 : Int), Fr (70) [] [(0, pt b4 0), (1, .string (a5)), (2, .slice p7 (a6).length c8), (6, .slice p64 (y63).length c65), (7, vb y66), (8, vi y67)] a ∧ SS Ms κ0 w0 κ w [.box b4 82 [sl p2 (a1.Chains).length c3, su a1.Floor], .tok p64 145 2 (y63).length c65, .tok p2 145 2 (a1.Chains).length c3] [Ro.mp f_api_Ver.ty p7 c8 a6, Ro.mp t_ref10_Chain p64 c65 y63, Ro.mp t_ref10_Chain p2 c3 a1.Chains] ∧ M.ref10_Store_set_L1 N n a1 a5 a6 y63 y66 y67 = some r) ?_ ?_
 have hS := hS.add (m := Ro.mp t_ref10_Chain none 0 ([] : List T_ref10_Chain)) (Ro.nil t_ref10_Chain _ _)
 have hS := hS.addNil 145 2
 exact ⟨_, ([] : List T_ref10_Chain), none, 0, false, 0, hF.kp [0, 1, 2, 6, 7, 8], hS.sp [1, 0, 2] [2, 0, 1], H⟩
 rintro n a w ⟨κ, y63, p64, c65, y66, y67, hF, hS, H⟩
 rcases n with _ | fuel1
 simp [M.ref10_Store_set_L1] at H
 simp only [M.ref10_Store_set_L1] at H
 refine wpIn_seq_k fun K68 hK68 => ?_
 refine wpIn_seq_k fun K69 hK69 => ?_
 refine wpIn_region_lit ?_
 refine wp 4 [0, 1, 2, 6, 7, 8, 9, 12] hF fun a hF => ?_
 refine wc (wld hF hS 0 0 0 fun a hF => ?_)
 refine wp 2 [0, 1, 2, 6, 7, 8, 15] hF fun a hF => ?_
 refine wpListIn_nil ?_
 refine hK69 _ _ ?_
 refine bif_split H (fun hb H => ?_) (fun hb H => ?_)
 refine cond_t hF (by kernel_rfl) hb ?_
 refine wpIn_skip ?_
 refine hK68 _ _ ?_
 refine seq_join (fun a w => ∃ (κ : Gh) (y70 : List T_ref10_Chain) (p71 : Option Addr) (c72 : Nat) (y73 : Bool), Fr (70) [] [(0, pt b4 0), (1, .string (a5)), (2, .slice p7 (a6).length c8), (6, .slice p71 (y70).length c72), (7, vb y73), (8, vi y67)] a ∧ SS Ms κ0 w0 κ w [.box b4 82 [sl p2 (a1.Chains).length c3, su a1.Floor], .tok p71 145 2 (y70).length c72, .tok p2 145 2 (a1.Chains).length c3] [Ro.mp f_api_Ver.ty p7 c8 a6, Ro.mp t_ref10_Chain p71 c72 y70, Ro.mp t_ref10_Chain p2 c3 a1.Chains] ∧ M.ref10_Store_set_k2 N (M.ref10_Store_set_L1 N fuel1) a1 a5 a6 y67 y70 y73 = some r) ?_ ?_
 refine wpIn_block ?_
 refine seq_join (fun a w => ∃ (κ : Gh) (y74 : List T_ref10_Chain) (p75 : Option Addr) (c76 : Nat) (y77 : Bool), Fr (70) [] [(0, pt b4 0), (1, .string (a5)), (2, .slice p7 (a6).length c8), (6, .slice p75 (y74).length c76), (7, vb y77), (8, vi y67)] a ∧ SS Ms κ0 w0 κ w [.box b4 82 [sl p2 (a1.Chains).length c3, su a1.Floor], .tok p75 145 2 (y74).length c76, .tok p2 145 2 (a1.Chains).length c3] [Ro.mp f_api_Ver.ty p7 c8 a6, Ro.mp t_ref10_Chain p75 c76 y74, Ro.mp t_ref10_Chain p2 c3 a1.Chains] ∧ M.ref10_Store_set_k3 N (M.ref10_Store_set_L1 N fuel1) a1 a5 a6 y67 y74 y77 = some r) ?_ ?_
 refine wpIn_seq_k fun K93 hK93 => ?_
 refine wpIn_region_lit ?_
 refine bind_split H (fun v95 hv95 H => ?_)
 refine wl_join (fun a w => ∃ κ : Gh, Fr (70) [] [(0, pt b4 0), (1, .string (a5)), (2, .slice p7 (a6).length c8), (6, .slice p64 (y63).length c65), (7, vb y66), (8, vi y67), (31, vb v95)] a ∧ SS Ms κ0 w0 κ w [.box b4 82 [sl p2 (a1.Chains).length c3, su a1.Floor], .tok p64 145 2 (y63).length c65, .tok p2 145 2 (a1.Chains).length c3] [Ro.mp f_api_Ver.ty p7 c8 a6, Ro.mp t_ref10_Chain p64 c65 y63, Ro.mp t_ref10_Chain p2 c3 a1.Chains] ∧ True) ?_ ?_
 refine wp 3 [0, 1, 2, 6, 7, 8, 20] hF fun a hF => ?_
 refine bif_split hv95 (fun hb hv95 => ?_) (fun hb hv95 => ?_)
 have hF := hF.boolv 20 (by kernel_rfl) hb
 refine wp 4 [0, 1, 2, 6, 7, 8, 20, 21, 24] hF fun a hF => ?_
 refine wcg hF (wld hF hS 0 0 0 fun a hF => ?_)
 refine wl_pure (L' := [(0, pt b4 0), (1, .string (a5)), (2, .slice p7 (a6).length c8), (6, .slice p64 (y63).length c65), (7, vb y66), (8, vi y67), (20, vb true), (21, .string (a5)), (25, .slice p2 (a1.Chains).length c3), (26, vi y67)]) 1 [0, 1, 2, 6, 7, 8, 20, 21, 25, 26] hF (by kernel_rfl) fun a hF => ?_
 refine bind_split hv95 (fun x96 hx96 hv95 => ?_)
 refine wcg hF (wo_index hF hS (by kernel_rfl) 2 (E := 145) (sz := 2) rfl rfl rfl (by kernel_rfl) rfl hx96 (by kernel_rfl) (by kernel_rfl) fun b97 f98 a hpx96 hF => ?_)
 obtain ⟨_, ⟨⟨p99, c100⟩, rfl, hR⟩, hc⟩ := hS.elem 2 rfl hpx96 hx96
 have hS := (hS.adds hR).add hc
 refine wl_pure (L' := [(0, pt b4 0), (1, .string (a5)), (2, .slice p7 (a6).length c8), (6, .slice p64 (y63).length c65), (7, vb y66), (8, vi y67), (20, vb true), (21, .string (a5)), (28, .pointer (some ⟨b97, (f98 + Int.toNat y67 * 2), none⟩))]) 1 [0, 1, 2, 6, 7, 8, 20, 21, 28] hF (by kernel_rfl) fun a hF => ?_
 refine wcg hF (wo_val hF (by kernel_rfl) (v := .string (x96.Key)) ((val_loadC 0 0 (s := [sg x96.Key, sl p99 (x96.Vers).length c100]) (v := .string (x96.Key)) rfl rfl rfl (show segGood [sg x96.Key, sl p99 (x96.Vers).length c100] from (sgN 2 sgNil)) (by kernel_rfl) (by kernel_rfl) (by kernel_rfl) w ⟨_, hS⟩)) fun a hF => ?_)
 refine wp 2 [0, 1, 2, 6, 7, 8, 31] hF fun a hF => ?_
 refine wpListIn_nil ?_
 cases hv95
 exact ⟨_, hF.kp [0, 1, 2, 6, 7, 8, 31], hS.sp [0, 1, 2] [2, 3, 4], trivial⟩
 have hF := hF.boolv 20 (by kernel_rfl) hb
 refine wp 11 [0, 1, 2, 6, 7, 8, 31] hF fun a hF => ?_
 refine wpListIn_nil ?_
 cases hv95
 exact ⟨_, hF.kp [0, 1, 2, 6, 7, 8, 31], hS.sp [0, 1, 2] [0, 1, 2], trivial⟩
 rintro a w ⟨κ, hF, hS, -⟩
 refine hK93 _ _ ?_
 refine bif_split H (fun hb H => ?_) (fun hb H => ?_)
 refine cond_t hF (by kernel_rfl) hb ?_
 refine wpIn_region_lit ?_
 refine wl_pure (L' := [(0, pt b4 0), (1, .string (a5)), (2, .slice p7 (a6).length c8), (8, vi y67), (32, .slice p64 (y63).length c65), (35, .agg (flat [sg a5, sl p7 (a6).length c8]).toArray)]) 4 [0, 1, 2, 8, 32, 35] hF (by kernel_rfl) fun a hF => ?_
 refine wc (wo_build1 (t := t_ref10_Chain) (y := (T_ref10_Chain.mk a5 a6)) (v := .agg (flat [sg a5, sl p7 (a6).length c8]).toArray) (z := .agg (flat [sg ByteArray.empty, sl none 0 0]).toArray) (cells := (flat [sg a5, sl p7 (a6).length c8]).toArray) (E := 145) hF hS (by kernel_rfl) rfl (by kernel_rfl) ⟨(p7, c8), rfl, (hS.pick [0] (by kernel_rfl)).ro⟩ (by kernel_rfl) (by kernel_rfl) (by kernel_rfl) (by kernel_rfl) (by kernel_rfl) fun p101 κ a w hF hS => ?_)
 refine bind_split H (fun x102 hx102 H => ?_)
 refine wc (wo_append (ty := t_ref10_Chain) hF hS (by kernel_rfl) 2 2 0 rfl rfl rfl (by kernel_rfl) (by kernel_rfl) rfl rfl rfl hx102 (by kernel_rfl) (i := Try.t145) (z := .agg (flat [sg ByteArray.empty, sl none 0 0]).toArray) (by kernel_rfl) (by kernel_rfl) (by kernel_rfl) fun p103 c104 κ a w hF hS => ?_)
 refine wp 2 [0, 1, 2, 6, 7, 8] hF fun a hF => ?_
 refine wpListIn_nil ?_
 exact ⟨_, x102, p103, c104, true, hF.kp [0, 1, 2, 6, 7, 8], hS.sp [1, 2, 3] [2, 0, 4], H⟩
 refine cond_f hF (by kernel_rfl) hb ?_
 refine wpIn_skip ?_
 exact ⟨_, y63, p64, c65, y66, hF.kp [0, 1, 2, 6, 7, 8], hS.sp [0, 1, 2] [0, 1, 2], H⟩
 rintro a w ⟨κ, y74, p75, c76, y77, hF, hS, H⟩
 unfold M.ref10_Store_set_k3 at H
 refine wpIn_seq_k fun K78 hK78 => ?_
 refine wpIn_region_lit ?_
 refine wp 3 [0, 1, 2, 6, 7, 8, 40] hF fun a hF => ?_
 refine wc (wld hF hS 0 0 0 fun a hF => ?_)
 refine wl_pure (L' := [(0, pt b4 0), (1, .string (a5)), (2, .slice p7 (a6).length c8), (6, .slice p75 (y74).length c76), (7, vb y77), (8, vi y67), (41, .slice p2 (a1.Chains).length c3), (42, vi y67)]) 1 [0, 1, 2, 6, 7, 8, 41, 42] hF (by kernel_rfl) fun a hF => ?_
 refine bind_split H (fun x79 hx79 H => ?_)
 refine wc (wo_index hF hS (by kernel_rfl) 2 (E := 145) (sz := 2) rfl rfl rfl (by kernel_rfl) rfl hx79 (by kernel_rfl) (by kernel_rfl) fun b80 f81 a hpx79 hF => ?_)
 obtain ⟨_, ⟨⟨p82, c83⟩, rfl, hR⟩, hc⟩ := hS.elem 2 rfl hpx79 hx79
 have hS := (hS.adds hR).add hc
 refine wl_pure (L' := [(0, pt b4 0), (1, .string (a5)), (2, .slice p7 (a6).length c8), (6, .slice p75 (y74).length c76), (7, vb y77), (8, vi y67), (44, .pointer (some ⟨b80, (f81 + Int.toNat y67 * 2), none⟩))]) 1 [0, 1, 2, 6, 7, 8, 44] hF (by kernel_rfl) fun a hF => ?_
 refine wc (wo_val hF (by kernel_rfl) (v := .string (x79.Key)) ((val_loadC 0 0 (s := [sg x79.Key, sl p82 (x79.Vers).length c83]) (v := .string (x79.Key)) rfl rfl rfl (show segGood [sg x79.Key, sl p82 (x79.Vers).length c83] from (sgN 2 sgNil)) (by kernel_rfl) (by kernel_rfl) (by kernel_rfl) w ⟨_, hS⟩)) fun a hF => ?_)
 refine wp 2 [0, 1, 2, 6, 7, 8, 47] hF fun a hF => ?_
 refine wpListIn_nil ?_
 refine hK78 _ _ ?_
 refine bif_split H (fun hb H => ?_) (fun hb H => ?_)
 refine cond_t hF (by kernel_rfl) hb ?_
 refine wpIn_region_lit ?_
 refine wp 4 [0, 1, 2, 7, 8, 48, 51] hF fun a hF => ?_
 refine wc (wld hF hS 0 0 0 fun a hF => ?_)
 refine wl_pure (L' := [(0, pt b4 0), (1, .string (a5)), (2, .slice p7 (a6).length c8), (7, vb y77), (8, vi y67), (48, .slice p75 (y74).length c76), (52, .slice p2 (a1.Chains).length c3), (53, vi y67)]) 1 [0, 1, 2, 7, 8, 48, 52, 53] hF (by kernel_rfl) fun a hF => ?_
 refine bind_split H (fun x84 hx84 H => ?_)
 refine wc (wo_index hF hS (by kernel_rfl) 4 (E := 145) (sz := 2) rfl rfl rfl (by kernel_rfl) rfl hx84 (by kernel_rfl) (by kernel_rfl) fun b85 f86 a hpx84 hF => ?_)
 obtain ⟨_, ⟨⟨p87, c88⟩, rfl, hR⟩, hc⟩ := hS.elem 4 rfl hpx84 hx84
 have hS := (hS.adds hR).add hc
 refine wc (wo_val hF (by kernel_rfl) (v := .agg (flat [sg x84.Key, sl p87 (x84.Vers).length c88]).toArray) ((val_loadCs 0 0 2 (s := [sg x84.Key, sl p87 (x84.Vers).length c88]) (s' := [sg x84.Key, sl p87 (x84.Vers).length c88]) (n := 2) rfl rfl rfl (show segGood [sg x84.Key, sl p87 (x84.Vers).length c88] from (sgN 2 sgNil)) (by kernel_rfl) (by kernel_rfl) (by kernel_rfl) (by kernel_rfl) (by kernel_rfl) w ⟨_, hS⟩)) fun a hF => ?_)
 refine wc (wo_build1 (t := t_ref10_Chain) (y := (T_ref10_Chain.mk x84.Key x84.Vers)) (v := .agg (flat [sg x84.Key, sl p87 (x84.Vers).length c88]).toArray) (z := .agg (flat [sg ByteArray.empty, sl none 0 0]).toArray) (cells := (flat [sg x84.Key, sl p87 (x84.Vers).length c88]).toArray) (E := 145) hF hS (by kernel_rfl) rfl (by kernel_rfl) ⟨(p87, c88), rfl, (hS.pick [1] (by kernel_rfl)).ro⟩ (by kernel_rfl) (by kernel_rfl) (by kernel_rfl) (by kernel_rfl) (by kernel_rfl) fun p89 κ a w hF hS => ?_)
 refine bind_split H (fun x90 hx90 H => ?_)
 refine wc (wo_append (ty := t_ref10_Chain) hF hS (by kernel_rfl) 2 6 0 rfl rfl rfl (by kernel_rfl) (by kernel_rfl) rfl rfl rfl hx90 (by kernel_rfl) (i := Try.t145) (z := .agg (flat [sg ByteArray.empty, sl none 0 0]).toArray) (by kernel_rfl) (by kernel_rfl) (by kernel_rfl) fun p91 c92 κ a w hF hS => ?_)
 refine wp 1 [0, 1, 2, 6, 7, 8] hF fun a hF => ?_
 refine wpListIn_nil ?_
 exact ⟨_, x90, p91, c92, y77, hF.kp [0, 1, 2, 6, 7, 8], hS.sp [1, 2, 3] [6, 0, 8], H⟩
 refine cond_f hF (by kernel_rfl) hb ?_
 refine wpIn_skip ?_
 exact ⟨_, y74, p75, c76, y77, hF.kp [0, 1, 2, 6, 7, 8], hS.sp [0, 1, 2] [2, 3, 4], H⟩
 rintro a w ⟨κ, y70, p71, c72, y73, hF, hS, H⟩
 unfold M.ref10_Store_set_k2 at H
 refine wpIn_region_lit ?_
 refine wp 3 [0, 1, 2, 6, 7, 8] hF fun a hF => ?_
 refine wpListIn_nil ?_
 exact ⟨fuel1, Nat.lt_succ_self _, _, y70, p71, c72, y73, IntKind.i64.wrap (y67 + 1), hF.kp [0, 1, 2, 6, 7, 8], hS.sp [0, 1, 2] [0, 1, 2], H⟩
 refine cond_f hF (by kernel_rfl) hb ?_
 refine wpIn_exit ?_
 refine hK11 _ _ ?_
 refine seq_join (fun a w => ∃ (κ : Gh) (y105 : List T_ref10_Chain) (p106 : Option Addr) (c107 : Nat), Fr (70) [] [(0, pt b4 0), (6, .slice p106 (y105).length c107)] a ∧ SS Ms κ0 w0 κ w [.box b4 82 [sl p2 (a1.Chains).length c3, su a1.Floor], .tok p106 145 2 (y105).length c107, .tok p2 145 2 (a1.Chains).length c3] [Ro.mp t_ref10_Chain p106 c107 y105, Ro.mp t_ref10_Chain p2 c3 a1.Chains] ∧ M.ref10_Store_set_k4 N a1 y105 = some r) ?_ ?_
 refine wpIn_seq_k fun K108 hK108 => ?_
 refine wpIn_region_lit ?_
 refine wp 2 [0, 1, 2, 6, 59] hF fun a hF => ?_
 refine wpListIn_nil ?_
 refine hK108 _ _ ?_
 refine bif_split H (fun hb H => ?_) (fun hb H => ?_)
 refine cond_t hF (by kernel_rfl) hb ?_
 refine wpIn_region_lit ?_
 refine wl_pure (L' := [(0, pt b4 0), (60, .slice p64 (y63).length c65), (63, .agg (flat [sg a5, sl p7 (a6).length c8]).toArray)]) 4 [0, 60, 63] hF (by kernel_rfl) fun a hF => ?_
 refine wc (wo_build1 (t := t_ref10_Chain) (y := (T_ref10_Chain.mk a5 a6)) (v := .agg (flat [sg a5, sl p7 (a6).length c8]).toArray) (z := .agg (flat [sg ByteArray.empty, sl none 0 0]).toArray) (cells := (flat [sg a5, sl p7 (a6).length c8]).toArray) (E := 145) hF hS (by kernel_rfl) rfl (by kernel_rfl) ⟨(p7, c8), rfl, (hS.pick [0] (by kernel_rfl)).ro⟩ (by kernel_rfl) (by kernel_rfl) (by kernel_rfl) (by kernel_rfl) (by kernel_rfl) fun p109 κ a w hF hS => ?_)
 refine bind_split H (fun x110 hx110 H => ?_)
 refine wc (wo_append (ty := t_ref10_Chain) hF hS (by kernel_rfl) 2 2 0 rfl rfl rfl (by kernel_rfl) (by kernel_rfl) rfl rfl rfl hx110 (by kernel_rfl) (i := Try.t145) (z := .agg (flat [sg ByteArray.empty, sl none 0 0]).toArray) (by kernel_rfl) (by kernel_rfl) (by kernel_rfl) fun p111 c112 κ a w hF hS => ?_)
 refine wp 1 [0, 6] hF fun a hF => ?_
 refine wpListIn_nil ?_
 exact ⟨_, x110, p111, c112, hF.kp [0, 6], hS.sp [1, 2, 3] [0, 4], H⟩
 refine cond_f hF (by kernel_rfl) hb ?_
 refine wpIn_skip ?_
 exact ⟨_, y63, p64, c65, hF.kp [0, 6], hS.sp [0, 1, 2] [1, 2], H⟩
 rintro a w ⟨κ, y105, p106, c107, hF, hS, H⟩
 unfold M.ref10_Store_set_k4 at H
 refine wpIn_region_lit ?_
 refine wp 4 [67, 69] hF fun a hF => ?_
 refine wc (wst hF hS 0 0 1 [sl p106 (y105).length c107] (sgN 1 sgNil) fun a w hF hS => ?_)
 refine wpListIn_nil ?_
 cases H
 exact ret_done hF hS (res0 Try.results93 ) ⟨p106, c107, rfl, hS.sp [0, 1] [0]⟩
set_option maxRecDepth 20000 in
set_option maxHeartbeats 8000000 in
theorem C_ref10_Store_Put (N : Nat) {Ms : List Nat} {κ0 : Gh} {w0 : World} (a1 : T_ref10_Store) (a5 : T_api_Ver) (p2 : Option Addr) (c3 : Nat) (b4 : Nat) (hB : SB Ms κ0 w0 [.box b4 82 [sl p2 (a1.Chains).length c3, su a1.Floor], .tok p2 145 2 (a1.Chains).length c3] [Ro.mp t_ref10_Chain p2 c3 a1.Chains]) {r : (Int × T_ref10_Store)} (H : M.ref10_Store_Put N a1 a5 = some r) :
    Calls Try.prog 52 #[pt b4 0, .agg (flat [sg a5.Key, sg a5.Val, sb a5.Gone, su a5.TS, si a5.DC, si a5.Tx]).toArray] w0 (Post Ms κ0 w0 fun v κ w => ∃ (p45 : Option Addr) (c46 : Nat), v = vi r.1 ∧ SS Ms κ0 w0 κ w [.box b4 82 [sl p45 (r.2.Chains).length c46, su r.2.Floor], .tok p45 145 2 (r.2.Chains).length c46] [Ro.mp t_ref10_Chain p45 c46 r.2.Chains]) := by
 have hS := hB.hS
 have hfr := hS.fresh
 refine enter (N := (60)) (L := [(0, pt b4 0), (1, .agg (flat [sg a5.Key, sg a5.Val, sb a5.Gone, su a5.TS, si a5.DC, si a5.Tx]).toArray)]) Try.func52 rfl Try.ntmps52 (show 2 ≤ (60) by decide) rfl fun a hF => ?_
 unfold M.ref10_Store_Put at H
 refine wpIn_seq_k fun K6 hK6 => ?_
 refine wpIn_region_lit ?_
 refine wc (wbx hF hS [sg a5.Key, sg a5.Val, sb a5.Gone, su a5.TS, si a5.DC, si a5.Tx] (sgN 6 sgNil) fun b7 a w hF hS => ?_)
 refine wp 1 [0, 3] hF fun a hF => ?_
 refine wpListIn_nil ?_
 refine hK6 _ _ ?_
 refine wpIn_seq_k fun K8 hK8 => ?_
 refine wpIn_seq_k fun K9 hK9 => ?_
 refine wpIn_region_lit ?_
 refine wc (wls hF hS 0 0 6 fun a hF => ?_)
 refine bind_split H (fun x10 hx10 H => ?_)
 refine wc (wo_callP hF hS (by kernel_rfl) (by kernel_rfl) (C_ref10_Check N hS.fresh (T_api_Ver.mk a5.Key a5.Val a5.Gone a5.TS a5.DC a5.Tx)  ((hS.pick [] (by kernel_rfl)).ro) hx10) ?_)
 rintro _ κ w a ⟨rfl, hR, hN⟩ hF hS hO
 refine wp 1 [0, 3, 5] hF fun a hF => ?_
 refine wpListIn_nil ?_
 refine hK9 _ _ ?_
 refine wpIn_seq_k fun K11 hK11 => ?_
 refine wpIn_region_lit ?_
 refine wp 2 [0, 3, 5, 14] hF fun a hF => ?_
 refine wpListIn_nil ?_
 refine hK11 _ _ ?_
 refine bif_split H (fun hb H => ?_) (fun hb H => ?_)
 refine cond_t hF (by kernel_rfl) hb ?_
 refine wpIn_seq_k fun K12 hK12 => ?_
 refine wpIn_region_lit ?_
 refine wp 2 [4] hF fun a hF => ?_
 refine wpListIn_nil ?_
 refine hK12 _ _ ?_
 refine wpIn_ret ?_
 cases H
 exact ret_done hF hS (res1 Try.results52 (rvt hF)) ⟨p2, c3, rfl, hS.sp [1, 2] [0]⟩
 refine cond_f hF (by kernel_rfl) hb ?_
 refine wpIn_skip ?_
 refine hK8 _ _ ?_
 refine wpIn_seq_k fun K13 hK13 => ?_
 refine wpIn_region_lit ?_
 refine wp 2 [0, 3, 16, 17] hF fun a hF => ?_
 refine wc (wld hF hS 0 0 0 fun a hF => ?_)
 refine bind_split H (fun x14 hx14 H => ?_)
 refine wc (wcS 1 [1, 0, 2] hF hS (fun hS => C_ref10_Store_Of N (T_ref10_Store.mk a1.Chains a1.Floor) a5.Key p2 c3 b4 ⟨rfl, hS.pick [0] (by kernel_rfl)⟩ hx14) ?_)
 rintro _ κ w a ⟨p15, c16, rfl, h2⟩ hF hB
 have hS := hB _ _ h2
 refine wp 1 [0, 3, 6] hF fun a hF => ?_
 refine wpListIn_nil ?_
 refine hK13 _ _ ?_
 refine wpIn_seq_k fun K17 hK17 => ?_
 refine wpIn_region_lit ?_
 refine wp 1 [0, 3, 6, 21] hF fun a hF => ?_
 refine wc (wls hF hS 1 0 6 fun a hF => ?_)
 refine bind_split H (fun x18 hx18 H => ?_)
 refine wc (wo_callP hF hS (by kernel_rfl) (by kernel_rfl) (C_ref09_Put N hS.fresh x14 (T_api_Ver.mk a5.Key a5.Val a5.Gone a5.TS a5.DC a5.Tx) p15 c16 ((hS.pick [0] (by kernel_rfl)).ro) hx18) ?_)
 rintro _ κ w a ⟨p19, c20, rfl, hR, hN⟩ hF hS hO
 have hS := hS.adds hR
 have hS := hS.addC hO hN
 refine wp 5 [0, 3, 6, 7, 8] hF fun a hF => ?_
 refine wpListIn_nil ?_
 refine hK17 _ _ ?_
 refine wpIn_seq_k fun K21 hK21 => ?_
 refine wpIn_seq_k fun K22 hK22 => ?_
 refine wpIn_region_lit ?_
 refine wp 2 [0, 3, 6, 7, 8, 27] hF fun a hF => ?_
 refine wpListIn_nil ?_
 refine hK22 _ _ ?_
 refine bif_split H (fun hb H => ?_) (fun hb H => ?_)
 refine cond_t hF (by kernel_rfl) hb ?_
 refine wpIn_seq_k fun K23 hK23 => ?_
 refine wpIn_region_lit ?_
 refine wp 2 [4] hF fun a hF => ?_
 refine wpListIn_nil ?_
 refine hK23 _ _ ?_
 refine wpIn_ret ?_
 cases H
 exact ret_done hF hS (res1 Try.results52 (rvt hF)) ⟨p2, c3, rfl, hS.sp [1, 3] [2]⟩
 refine cond_f hF (by kernel_rfl) hb ?_
 refine wpIn_skip ?_
 refine hK21 _ _ ?_
 refine wpIn_seq_k fun K24 hK24 => ?_
 refine wpIn_seq_k fun K25 hK25 => ?_
 refine wpIn_region_lit ?_
 refine wp 4 [0, 3, 7, 30, 33] hF fun a hF => ?_
 refine wc (wld hF hS 1 1 0 fun a hF => ?_)
 refine bind_split H (fun x26 hx26 H => ?_)
 refine wc (wo_callP hF hS (by kernel_rfl) (by kernel_rfl) (C_ref09_At N hS.fresh x14 a1.Floor p15 c16 ((hS.pick [1] (by kernel_rfl)).ro) hx26) ?_)
 rintro _ κ w a ⟨rfl, hR, hN⟩ hF hS hO
 refine wp 3 [0, 3, 7, 36, 37] hF fun a hF => ?_
 refine wc (wal hF hS [sg ByteArray.empty, sg ByteArray.empty, sb false, su 0, si 0, si 0] (sgN 6 sgNil) fun b27 a w hF hS => ?_)
 refine wc (wst hF hS 0 0 6 [sg x26.1.Key, sg x26.1.Val, sb x26.1.Gone, su x26.1.TS, si x26.1.DC, si x26.1.Tx] (sgN 6 sgNil) fun a w hF hS => ?_)
 refine wp 1 [0, 3, 7, 9, 10] hF fun a hF => ?_
 refine wpListIn_nil ?_
 refine hK25 _ _ ?_
 refine wpIn_seq_k fun K28 hK28 => ?_
 refine bind_split H (fun v30 hv30 H => ?_)
 refine code_join (fun a w => ∃ κ : Gh, Fr (60) [] [(0, pt b4 0), (3, pt b7 0), (7, .slice p19 (x18.1).length c20), (45, vb v30)] a ∧ SS Ms κ0 w0 κ w [.box b4 82 [sl p2 (a1.Chains).length c3, su a1.Floor], .box b7 37 [sg a5.Key, sg a5.Val, sb a5.Gone, su a5.TS, si a5.DC, si a5.Tx], .tok p19 37 6 (x18.1).length c20, .tok p2 145 2 (a1.Chains).length c3] [Ro.mp f_api_Ver.ty p19 c20 x18.1, Ro.mp t_ref10_Chain p2 c3 a1.Chains] ∧ True) ?_ ?_
 refine rgS hS [] ?_
 have hS := hS.drew
 refine bif_split hv30 (fun hb31 hv30 => ?_) (fun hb31 hv30 => ?_)
 refine bind_split hv30 (fun x32 hx32 hv30 => ?_)
 refine bind_split hv30 (fun x33 hx33 hv30 => ?_)
 refine bind_split hv30 (fun x34 hx34 hv30 => ?_)
 refine anp [0, 1] [0, 3, 7, 9, 39] hF (hS.sx [0, 2, 3] [0, 1, 2]) fun a hF => ?_
 have hF := hF.boolv 39 (by kernel_rfl) hb31
 refine atk 2 (some 40) hF (hS.sx [0, 2, 3] [0, 1, 2]) rfl (vls 2 0 6) fun a hF => ?_
 refine atk 4 (some 42) hF (hS.sx [0, 2, 3] [0, 1, 2]) rfl (vls 0 0 6) fun a hF => ?_
 refine ago 3 hF rfl ?_
 refine wo_callP hF hS (by kernel_rfl) (by kernel_rfl) (C_ref01_Of N hS.fresh (T_api_Ver.mk a5.Key a5.Val a5.Gone a5.TS a5.DC a5.Tx)  ((hS.pick [] (by kernel_rfl)).ro) hx32) ?_
 rintro _ κ w a ⟨rfl, hR, hN⟩ hF hS hO
 refine ⟨fun _ => (hS.sx [0, 2, 3] [0, 1, 2]), ?_⟩
 refine ago 5 hF rfl ?_
 refine wo_callP hF hS (by kernel_rfl) (by kernel_rfl) (C_ref01_Of N hS.fresh (T_api_Ver.mk x26.1.Key x26.1.Val x26.1.Gone x26.1.TS x26.1.DC x26.1.Tx)  ((hS.pick [] (by kernel_rfl)).ro) hx33) ?_
 rintro _ κ w a ⟨rfl, hR, hN⟩ hF hS hO
 refine ⟨fun _ => (hS.sx [0, 2, 3] [0, 1, 2]), ?_⟩
 refine ago 6 hF rfl ?_
 refine wo_callP hF hS (by kernel_rfl) (by kernel_rfl) (C_ref01_Less N hS.fresh (T_api_Mark.mk x32.TS x32.DC x32.Tx) (T_api_Mark.mk x33.TS x33.DC x33.Tx)  ((hS.pick [] (by kernel_rfl)).ro) hx34) ?_
 rintro _ κ w a ⟨rfl, hR, hN⟩ hF hS hO
 refine ⟨fun _ => (hS.sx [0, 2, 3] [0, 1, 2]), ?_⟩
 refine anp [7] [0, 3, 7, 45] hF (hS.sx [0, 2, 3] [0, 1, 2]) fun a hF => ?_
 refine and_ ?_
 cases hv30
 exact ⟨_, hF.kp [0, 3, 7, 45], hS.sp [2, 3, 1, 4] [0, 2], trivial⟩
 refine anp [0, 1] [0, 3, 7, 9, 39] hF (hS.sx [0, 2, 3] [0, 1, 2]) fun a hF => ?_
 have hF := hF.boolv 39 (by kernel_rfl) hb31
 refine anp [2, 3, 4, 5, 6, 7] [0, 3, 7, 45] hF (hS.sx [0, 2, 3] [0, 1, 2]) fun a hF => ?_
 refine and_ ?_
 cases hv30
 exact ⟨_, hF.kp [0, 3, 7, 45], hS.sp [2, 3, 1, 4] [0, 2], trivial⟩
 rintro a w ⟨κ, hF, hS, -⟩
 refine hK28 _ _ ?_
 refine bif_split H (fun hb H => ?_) (fun hb H => ?_)
 refine cond_t hF (by kernel_rfl) hb ?_
 refine wpIn_seq_k fun K35 hK35 => ?_
 refine wpIn_region_lit ?_
 refine wp 1 [4] hF fun a hF => ?_
 refine wpListIn_nil ?_
 refine hK35 _ _ ?_
 refine wpIn_ret ?_
 cases H
 exact ret_done hF hS (res1 Try.results52 (rvt hF)) ⟨p2, c3, rfl, hS.sp [0, 3] [1]⟩
 refine cond_f hF (by kernel_rfl) hb ?_
 refine wpIn_skip ?_
 refine hK24 _ _ ?_
 refine wpIn_seq_k fun K36 hK36 => ?_
 refine wpIn_region_lit ?_
 refine wp 4 [0, 3, 47, 50] hF fun a hF => ?_
 refine wc (wld hF hS 0 1 0 fun a hF => ?_)
 refine bind_split H (fun x37 hx37 H => ?_)
 refine wc (wo_callP hF hS (by kernel_rfl) (by kernel_rfl) (C_ref09_Trim N hS.fresh x18.1 a1.Floor p19 c20 ((hS.pick [0] (by kernel_rfl)).ro) hx37) ?_)
 rintro _ κ w a ⟨p38, c39, rfl, hR, hN⟩ hF hS hO
 have hS := hS.adds hR
 have hS := hS.addC hO hN
 refine wp 4 [0, 3, 7] hF fun a hF => ?_
 refine wpListIn_nil ?_
 refine hK36 _ _ ?_
 refine wpIn_seq_k fun K40 hK40 => ?_
 refine wpIn_region_lit ?_
 refine wp 2 [7, 55, 56] hF fun a hF => ?_
 refine wc (wld hF hS 2 0 0 fun a hF => ?_)
 refine wp 1 [55, 57, 58] hF fun a hF => ?_
 refine bind_split H (fun x41 hx41 H => ?_)
 refine wc (wcS 2 [1, 4, 0, 2, 3] hF hS (fun hS => C_ref10_Store_set N (T_ref10_Store.mk a1.Chains a1.Floor) a5.Key x37.1 p2 c3 p38 c39 b4 ⟨rfl, hS.pick [2, 0] (by kernel_rfl)⟩ hx41) ?_)
 rintro _ κ w a ⟨p42, c43, rfl, h2⟩ hF hB
 have hS := hB _ _ h2
 refine wpListIn_nil ?_
 refine hK40 _ _ ?_
 refine wpIn_seq_k fun K44 hK44 => ?_
 refine wpIn_region_lit ?_
 refine wp 1 [4] hF fun a hF => ?_
 refine wpListIn_nil ?_
 refine hK44 _ _ ?_
 refine wpIn_ret ?_
 cases H
 exact ret_done hF hS (res1 Try.results52 (rvt hF)) ⟨p42, c43, rfl, hS.sp [0, 1] [0]⟩
set_option maxRecDepth 20000 in
set_option maxHeartbeats 8000000 in
theorem C_ref10_Store_Load (N : Nat) {Ms : List Nat} {κ0 : Gh} {w0 : World} (a1 : T_ref10_Store) (a5 : (List T_api_Ver)) (p2 : Option Addr) (c3 : Nat) (p6 : Option Addr) (c7 : Nat) (b4 : Nat) (hB : SB Ms κ0 w0 [.box b4 82 [sl p2 (a1.Chains).length c3, su a1.Floor], .tok p2 145 2 (a1.Chains).length c3] [Ro.mp t_ref10_Chain p2 c3 a1.Chains, Ro.mp f_api_Ver.ty p6 c7 a5]) {r : (Int × T_ref10_Store)} (H : M.ref10_Store_Load N a1 a5 = some r) :
    Calls Try.prog 55 #[pt b4 0, .slice p6 (a5).length c7] w0 (Post Ms κ0 w0 fun v κ w => ∃ (p83 : Option Addr) (c84 : Nat), v = vi r.1 ∧ SS Ms κ0 w0 κ w [.box b4 82 [sl p83 (r.2.Chains).length c84, su r.2.Floor], .tok p83 145 2 (r.2.Chains).length c84] [Ro.mp t_ref10_Chain p83 c84 r.2.Chains]) := by
 have hS := hB.hS
 have hfr := hS.fresh
 refine enter (N := (23)) (L := [(0, pt b4 0), (1, .slice p6 (a5).length c7)]) Try.func55 rfl Try.ntmps55 (show 2 ≤ (23) by decide) rfl fun a hF => ?_
 unfold M.ref10_Store_Load at H
 refine wpIn_seq_k fun K8 hK8 => ?_
 refine wpIn_region_lit ?_
 refine wp 1 [0, 1] hF fun a hF => ?_
 refine wpListIn_nil ?_
 refine hK8 _ _ ?_
 refine wpIn_seq_k fun K9 hK9 => ?_
 refine wpIn_region_lit ?_
 refine wp 1 [0, 1, 5] hF fun a hF => ?_
 refine wpListIn_nil ?_
 refine hK9 _ _ ?_
 refine wpIn_seq_k fun K10 hK10 => ?_
 refine wpIn_seq_k fun K11 hK11 => ?_
 refine wpIn_region_lit ?_
 refine wp 1 [0, 1, 5, 6] hF fun a hF => ?_
 refine wpListIn_nil ?_
 refine hK11 _ _ ?_
 refine wpIn_block ?_
 refine loop_fuel (n := N) (fun n a w => ∃ (κ : Gh) (y62 : List T_ref10_Chain) (p63 : Option Addr) (c64 : Nat) (y65 y66 y67 : Int), Fr (23) [] [(0, pt b4 0), (1, .slice p6 (a5).length c7), (5, vi y66), (6, vi y67)] a ∧ SS Ms κ0 w0 κ w [.box b4 82 [sl p63 (y62).length c64, su y65], .tok p63 145 2 (y62).length c64] [Ro.mp f_api_Ver.ty p6 c7 a5, Ro.mp t_ref10_Chain p63 c64 y62] ∧ M.ref10_Store_Load_L1 N n a5 y62 y65 y66 y67 = some r) ?_ ?_
 exact ⟨_, a1.Chains, p2, c3, a1.Floor, 0, 0, hF.kp [0, 1, 5, 6], hS.sp [0, 1] [1, 0], H⟩
 rintro n a w ⟨κ, y62, p63, c64, y65, y66, y67, hF, hS, H⟩
 rcases n with _ | fuel1
 simp [M.ref10_Store_Load_L1] at H
 simp only [M.ref10_Store_Load_L1] at H
 refine wpIn_seq_k fun K68 hK68 => ?_
 refine wpIn_seq_k fun K69 hK69 => ?_
 refine wpIn_region_lit ?_
 refine wp 4 [0, 1, 5, 6, 10] hF fun a hF => ?_
 refine wpListIn_nil ?_
 refine hK69 _ _ ?_
 refine bif_split H (fun hb H => ?_) (fun hb H => ?_)
 refine cond_t hF (by kernel_rfl) hb ?_
 refine wpIn_skip ?_
 refine hK68 _ _ ?_
 refine seq_join (fun a w => ∃ (κ : Gh) (y70 : List T_ref10_Chain) (p71 : Option Addr) (c72 : Nat) (y73 y74 : Int), Fr (23) [] [(0, pt b4 0), (1, .slice p6 (a5).length c7), (5, vi y74), (6, vi y67)] a ∧ SS Ms κ0 w0 κ w [.box b4 82 [sl p71 (y70).length c72, su y73], .tok p71 145 2 (y70).length c72] [Ro.mp f_api_Ver.ty p6 c7 a5, Ro.mp t_ref10_Chain p71 c72 y70] ∧ M.ref10_Store_Load_k2 N (M.ref10_Store_Load_L1 N fuel1) a5 y67 y70 y73 y74 = some r) ?_ ?_
 refine wpIn_block ?_
 refine wpIn_seq_k fun K75 hK75 => ?_
 refine wpIn_region_lit ?_
 refine wl_pure (L' := [(0, pt b4 0), (1, .slice p6 (a5).length c7), (5, vi y66), (6, vi y67), (13, pt b4 0), (14, .slice p6 (a5).length c7), (15, vi y67)]) 3 [0, 1, 5, 6, 13, 14, 15] hF (by kernel_rfl) fun a hF => ?_
 refine bind_split H (fun x76 hx76 H => ?_)
 refine wc (wo_index hF hS (by kernel_rfl) 0 (E := 37) (sz := 6) rfl rfl rfl (by kernel_rfl) rfl hx76 (by kernel_rfl) (by kernel_rfl) fun b77 f78 a hpx76 hF => ?_)
 refine wc (wo_loadRoAgg (t := f_api_Ver) hF hS (by kernel_rfl) 0 rfl rfl hpx76 rfl hx76 (by kernel_rfl) (by kernel_rfl) (by kernel_rfl) fun a hF => ?_)
 refine bind_split H (fun x79 hx79 H => ?_)
 refine wc (wcS 2 [0, 1] hF hS (fun hS => C_ref10_Store_Put N (T_ref10_Store.mk y62 y65) (T_api_Ver.mk x76.Key x76.Val x76.Gone x76.TS x76.DC x76.Tx) p63 c64 b4 ⟨rfl, hS.pick [1] (by kernel_rfl)⟩ hx79) ?_)
 rintro _ κ w a ⟨p80, c81, rfl, h2⟩ hF hB
 have hS := hB _ _ h2
 refine wp 1 [0, 1, 5, 6, 19] hF fun a hF => ?_
 refine wpListIn_nil ?_
 refine hK75 _ _ ?_
 refine bif_split H (fun hb H => ?_) (fun hb H => ?_)
 refine cond_t hF (by kernel_rfl) hb ?_
 refine wpIn_region_lit ?_
 refine wp 3 [0, 1, 5, 6] hF fun a hF => ?_
 refine wpListIn_nil ?_
 exact ⟨_, x79.2.Chains, p80, c81, x79.2.Floor, IntKind.i64.wrap (y66 + 1), hF.kp [0, 1, 5, 6], hS.sp [0, 1] [1, 0], H⟩
 refine cond_f hF (by kernel_rfl) hb ?_
 refine wpIn_skip ?_
 exact ⟨_, x79.2.Chains, p80, c81, x79.2.Floor, y66, hF.kp [0, 1, 5, 6], hS.sp [0, 1] [1, 0], H⟩
 rintro a w ⟨κ, y70, p71, c72, y73, y74, hF, hS, H⟩
 unfold M.ref10_Store_Load_k2 at H
 refine wpIn_region_lit ?_
 refine wp 3 [0, 1, 5, 6] hF fun a hF => ?_
 refine wpListIn_nil ?_
 exact ⟨fuel1, Nat.lt_succ_self _, _, y70, p71, c72, y73, y74, IntKind.i64.wrap (y67 + 1), hF.kp [0, 1, 5, 6], hS.sp [0, 1] [0, 1], H⟩
 refine cond_f hF (by kernel_rfl) hb ?_
 refine wpIn_exit ?_
 refine hK10 _ _ ?_
 refine wpIn_seq_k fun K82 hK82 => ?_
 refine wpIn_region_lit ?_
 refine wp 2 [4] hF fun a hF => ?_
 refine wpListIn_nil ?_
 refine hK82 _ _ ?_
 refine wpIn_ret ?_
 cases H
 exact ret_done hF hS (res1 Try.results55 (rvt hF)) ⟨p63, c64, rfl, hS.sp [0, 1] [1]⟩
set_option maxRecDepth 20000 in
set_option maxHeartbeats 8000000 in
theorem C_ref10_Store_Get (N : Nat) {Ms : List Nat} {κ0 : Gh} {w0 : World} (a1 : T_ref10_Store) (a5 : ByteArray) (a6 : Int) (p2 : Option Addr) (c3 : Nat) (b4 : Nat) (hB : SB Ms κ0 w0 [.box b4 82 [sl p2 (a1.Chains).length c3, su a1.Floor]] [Ro.mp t_ref10_Chain p2 c3 a1.Chains]) {r : (T_api_Ver × Bool × Int)} (H : M.ref10_Store_Get N a1 a5 a6 = some r) :
    Calls Try.prog 56 #[pt b4 0, .string (a5), vu a6] w0 (Post Ms κ0 w0 fun v κ w => v = .tuple #[.agg (flat [sg r.1.Key, sg r.1.Val, sb r.1.Gone, su r.1.TS, si r.1.DC, si r.1.Tx]).toArray, vb r.2.1, vi r.2.2] ∧ SS Ms κ0 w0 κ w [.box b4 82 [sl p2 (a1.Chains).length c3, su a1.Floor]] []) := by
 have hS := hB.hS
 have hfr := hS.fresh
 refine enter (N := (28)) (L := [(0, pt b4 0), (1, .string (a5)), (2, vu a6)]) Try.func56 rfl Try.ntmps56 (show 3 ≤ (28) by decide) rfl fun a hF => ?_
 unfold M.ref10_Store_Get at H
 refine wpIn_seq_k fun K7 hK7 => ?_
 refine wpIn_region_lit ?_
 refine wc (wal hF hS [sg ByteArray.empty, sg ByteArray.empty, sb false, su 0, si 0, si 0] (sgN 6 sgNil) fun b8 a w hF hS => ?_)
 refine wp 2 [0, 1, 2, 6] hF fun a hF => ?_
 refine wpListIn_nil ?_
 refine hK7 _ _ ?_
 refine wpIn_seq_k fun K9 hK9 => ?_
 refine wpIn_seq_k fun K10 hK10 => ?_
 refine wpIn_region_lit ?_
 refine wp 4 [0, 1, 2, 6, 11, 14] hF fun a hF => ?_
 refine wc (wld hF hS 1 1 0 fun a hF => ?_)
 refine wp 1 [0, 1, 2, 6, 16] hF fun a hF => ?_
 refine wpListIn_nil ?_
 refine hK10 _ _ ?_
 refine bif_split H (fun hb H => ?_) (fun hb H => ?_)
 refine cond_t hF (by kernel_rfl) hb ?_
 refine wpIn_seq_k fun K11 hK11 => ?_
 refine wpIn_region_lit ?_
 refine wp 1 [6, 17] hF fun a hF => ?_
 refine wc (wst hF hS 0 0 6 [sg ByteArray.empty, sg ByteArray.empty, sb false, su 0, si 0, si 0] (sgN 6 sgNil) fun a w hF hS => ?_)
 refine wp 2 [6, 7, 8] hF fun a hF => ?_
 refine wpListIn_nil ?_
 refine hK11 _ _ ?_
 refine wpIn_ret ?_
 have hS' := hS
 cases H
 exact ret_done hF hS (res3 Try.results56 (rvs hF hS' 0 0 6) (rvt hF) (rvt hF)) ⟨rfl, hS.sp [1] []⟩
 refine cond_f hF (by kernel_rfl) hb ?_
 refine wpIn_skip ?_
 refine hK9 _ _ ?_
 refine wpIn_seq_k fun K12 hK12 => ?_
 refine wpIn_region_lit ?_
 refine wp 2 [2, 6, 19, 20] hF fun a hF => ?_
 refine bind_split H (fun x13 hx13 H => ?_)
 refine wc (wcS 1 [1, 0] hF hS (fun hS => C_ref10_Store_Of N (T_ref10_Store.mk a1.Chains a1.Floor) a5 p2 c3 b4 ⟨rfl, hS.pick [0] (by kernel_rfl)⟩ hx13) ?_)
 rintro _ κ w a ⟨p14, c15, rfl, h2⟩ hF hB
 have hS := hB _ _ h2
 refine wp 1 [6, 21, 22] hF fun a hF => ?_
 refine bind_split H (fun x16 hx16 H => ?_)
 refine wc (wo_callP hF hS (by kernel_rfl) (by kernel_rfl) (C_ref09_At N hS.fresh x13 a6 p14 c15 ((hS.pick [0] (by kernel_rfl)).ro) hx16) ?_)
 rintro _ κ w a ⟨rfl, hR, hN⟩ hF hS hO
 refine wp 3 [6, 24, 25] hF fun a hF => ?_
 refine wc (wal hF hS [sg ByteArray.empty, sg ByteArray.empty, sb false, su 0, si 0, si 0] (sgN 6 sgNil) fun b17 a w hF hS => ?_)
 refine wc (wst hF hS 0 0 6 [sg x16.1.Key, sg x16.1.Val, sb x16.1.Gone, su x16.1.TS, si x16.1.DC, si x16.1.Tx] (sgN 6 sgNil) fun a w hF hS => ?_)
 refine wp 1 [6, 9, 10] hF fun a hF => ?_
 refine wpListIn_nil ?_
 refine hK12 _ _ ?_
 refine wpIn_seq_k fun K18 hK18 => ?_
 refine wpIn_region_lit ?_
 refine wc (wls hF hS 0 0 6 fun a hF => ?_)
 refine wp 1 [6, 26, 27] hF fun a hF => ?_
 refine wc (wst hF hS 2 0 6 [sg x16.1.Key, sg x16.1.Val, sb x16.1.Gone, su x16.1.TS, si x16.1.DC, si x16.1.Tx] (sgN 6 sgNil) fun a w hF hS => ?_)
 refine wp 2 [6, 7, 8] hF fun a hF => ?_
 refine wpListIn_nil ?_
 refine hK18 _ _ ?_
 refine wpIn_ret ?_
 have hS' := hS
 cases H
 exact ret_done hF hS (res3 Try.results56 (rvs hF hS' 2 0 6) (rvt hF) (rvt hF)) ⟨rfl, hS.sp [1] []⟩
set_option maxRecDepth 20000 in
set_option maxHeartbeats 8000000 in
theorem C_ref10_Store_All (N : Nat) {Ms : List Nat} {κ0 : Gh} {w0 : World} (a1 : T_ref10_Store) (a5 : ByteArray) (a6 : ByteArray) (p2 : Option Addr) (c3 : Nat) (b4 : Nat) (hB : SB Ms κ0 w0 [.box b4 82 [sl p2 (a1.Chains).length c3, su a1.Floor]] [Ro.mp t_ref10_Chain p2 c3 a1.Chains]) {r : ((List T_api_Ver))} (H : M.ref10_Store_All N a1 a5 a6 = some r) :
    Calls Try.prog 59 #[pt b4 0, .string (a5), .string (a6)] w0 (Post Ms κ0 w0 fun v κ w => ∃ (p86 : Option Addr) (c87 : Nat), v = .slice p86 (r).length c87 ∧ SS Ms κ0 w0 κ w [.box b4 82 [sl p2 (a1.Chains).length c3, su a1.Floor], .tok p86 37 6 (r).length c87] [Ro.mp f_api_Ver.ty p86 c87 r]) := by
 have hS := hB.hS
 have hfr := hS.fresh
 refine enter (N := (40)) (L := [(0, pt b4 0), (1, .string (a5)), (2, .string (a6))]) Try.func59 rfl Try.ntmps59 (show 3 ≤ (40) by decide) rfl fun a hF => ?_
 unfold M.ref10_Store_All at H
 refine wpIn_seq_k fun K7 hK7 => ?_
 refine wpIn_region_lit ?_
 refine wp 1 [0, 1, 2] hF fun a hF => ?_
 refine wpListIn_nil ?_
 refine hK7 _ _ ?_
 refine wpIn_seq_k fun K8 hK8 => ?_
 refine wpIn_region_lit ?_
 refine wp 1 [0, 1, 2, 7] hF fun a hF => ?_
 refine wpListIn_nil ?_
 refine hK8 _ _ ?_
 refine wpIn_seq_k fun K9 hK9 => ?_
 refine wpIn_seq_k fun K10 hK10 => ?_
 refine wpIn_region_lit ?_
 refine wp 1 [0, 1, 2, 7, 8] hF fun a hF => ?_
 refine wpListIn_nil ?_
 refine hK10 _ _ ?_
 refine wpIn_block ?_
 refine loop_fuel (n := N) (fun n a w => ∃ (κ : Gh) (y61 : List T_api_Ver) (p62 : Option Addr) (c63 : Nat) (y64 : Int), Fr (40) [] [(0, pt b4 0), (1, .string (a5)), (2, .string (a6)), (7, .slice p62 (y61).length c63), (8, vi y64)] a ∧ SS Ms κ0 w0 κ w [.box b4 82 [sl p2 (a1.Chains).length c3, su a1.Floor], .tok p62 37 6 (y61).length c63] [Ro.mp f_api_Ver.ty p62 c63 y61, Ro.mp t_ref10_Chain p2 c3 a1.Chains] ∧ M.ref10_Store_All_L1 N n a1 a5 a6 y61 y64 = some r) ?_ ?_
 have hS := hS.add (m := Ro.mp f_api_Ver.ty none 0 ([] : List T_api_Ver)) (Ro.nil f_api_Ver.ty _ _)
 have hS := hS.addNil 37 6
 exact ⟨_, ([] : List T_api_Ver), none, 0, 0, hF.kp [0, 1, 2, 7, 8], hS.sp [1, 0] [0, 1], H⟩
 rintro n a w ⟨κ, y61, p62, c63, y64, hF, hS, H⟩
 rcases n with _ | fuel1
 simp [M.ref10_Store_All_L1] at H
 simp only [M.ref10_Store_All_L1] at H
 refine wpIn_seq_k fun K65 hK65 => ?_
 refine wpIn_seq_k fun K66 hK66 => ?_
 refine wpIn_region_lit ?_
 refine wp 4 [0, 1, 2, 7, 8, 9, 12] hF fun a hF => ?_
 refine wc (wld hF hS 0 0 0 fun a hF => ?_)
 refine wp 2 [0, 1, 2, 7, 8, 15] hF fun a hF => ?_
 refine wpListIn_nil ?_
 refine hK66 _ _ ?_
 refine bif_split H (fun hb H => ?_) (fun hb H => ?_)
 refine cond_t hF (by kernel_rfl) hb ?_
 refine wpIn_skip ?_
 refine hK65 _ _ ?_
 refine seq_join (fun a w => ∃ (κ : Gh) (y67 : List T_api_Ver) (p68 : Option Addr) (c69 : Nat), Fr (40) [] [(0, pt b4 0), (1, .string (a5)), (2, .string (a6)), (7, .slice p68 (y67).length c69), (8, vi y64)] a ∧ SS Ms κ0 w0 κ w [.box b4 82 [sl p2 (a1.Chains).length c3, su a1.Floor], .tok p68 37 6 (y67).length c69] [Ro.mp f_api_Ver.ty p68 c69 y67, Ro.mp t_ref10_Chain p2 c3 a1.Chains] ∧ M.ref10_Store_All_k2 N (M.ref10_Store_All_L1 N fuel1) a1 a5 a6 y64 y67 = some r) ?_ ?_
 refine wpIn_block ?_
 refine wpIn_seq_k fun K70 hK70 => ?_
 refine wpIn_region_lit ?_
 refine wp 3 [0, 1, 2, 7, 8, 20] hF fun a hF => ?_
 refine wc (wld hF hS 0 0 0 fun a hF => ?_)
 refine wl_pure (L' := [(0, pt b4 0), (1, .string (a5)), (2, .string (a6)), (7, .slice p62 (y61).length c63), (8, vi y64), (21, .slice p2 (a1.Chains).length c3), (22, vi y64)]) 1 [0, 1, 2, 7, 8, 21, 22] hF (by kernel_rfl) fun a hF => ?_
 refine bind_split H (fun x71 hx71 H => ?_)
 refine wc (wo_index hF hS (by kernel_rfl) 1 (E := 145) (sz := 2) rfl rfl rfl (by kernel_rfl) rfl hx71 (by kernel_rfl) (by kernel_rfl) fun b72 f73 a hpx71 hF => ?_)
 obtain ⟨_, ⟨⟨p74, c75⟩, rfl, hR⟩, hc⟩ := hS.elem 1 rfl hpx71 hx71
 have hS := (hS.adds hR).add hc
 refine wl_pure (L' := [(0, pt b4 0), (1, .string (a5)), (2, .string (a6)), (7, .slice p62 (y61).length c63), (8, vi y64), (24, .pointer (some ⟨b72, (f73 + Int.toNat y64 * 2), none⟩))]) 1 [0, 1, 2, 7, 8, 24] hF (by kernel_rfl) fun a hF => ?_
 refine wc (wo_val hF (by kernel_rfl) (v := .string (x71.Key)) ((val_loadC 0 0 (s := [sg x71.Key, sl p74 (x71.Vers).length c75]) (v := .string (x71.Key)) rfl rfl rfl (show segGood [sg x71.Key, sl p74 (x71.Vers).length c75] from (sgN 2 sgNil)) (by kernel_rfl) (by kernel_rfl) (by kernel_rfl) w ⟨_, hS⟩)) fun a hF => ?_)
 refine wp 2 [0, 1, 2, 7, 8, 25, 26, 27] hF fun a hF => ?_
 refine bind_split H (fun x76 hx76 H => ?_)
 refine wc (wo_callP hF hS (by kernel_rfl) (by kernel_rfl) (C_ref08_Within N hS.fresh x71.Key a5 a6  ((hS.pick [] (by kernel_rfl)).ro) hx76) ?_)
 rintro _ κ w a ⟨rfl, hR, hN⟩ hF hS hO
 refine wpListIn_nil ?_
 refine hK70 _ _ ?_
 refine bif_split H (fun hb H => ?_) (fun hb H => ?_)
 refine cond_t hF (by kernel_rfl) hb ?_
 refine wpIn_region_lit ?_
 refine wp 4 [0, 1, 2, 8, 29, 32] hF fun a hF => ?_
 refine wc (wld hF hS 0 0 0 fun a hF => ?_)
 refine wl_pure (L' := [(0, pt b4 0), (1, .string (a5)), (2, .string (a6)), (8, vi y64), (29, .slice p62 (y61).length c63), (33, .slice p2 (a1.Chains).length c3), (34, vi y64)]) 1 [0, 1, 2, 8, 29, 33, 34] hF (by kernel_rfl) fun a hF => ?_
 refine bind_split H (fun x77 hx77 H => ?_)
 refine wc (wo_index hF hS (by kernel_rfl) 3 (E := 145) (sz := 2) rfl rfl rfl (by kernel_rfl) rfl hx77 (by kernel_rfl) (by kernel_rfl) fun b78 f79 a hpx77 hF => ?_)
 obtain ⟨_, ⟨⟨p80, c81⟩, rfl, hR⟩, hc⟩ := hS.elem 3 rfl hpx77 hx77
 have hS := (hS.adds hR).add hc
 refine wl_pure (L' := [(0, pt b4 0), (1, .string (a5)), (2, .string (a6)), (8, vi y64), (29, .slice p62 (y61).length c63), (36, .pointer (some ⟨b78, (f79 + Int.toNat y64 * 2) + 1, none⟩))]) 1 [0, 1, 2, 8, 29, 36] hF (by kernel_rfl) fun a hF => ?_
 refine wc (wo_val hF (by kernel_rfl) (v := .slice p80 (x77.Vers).length c81) ((val_loadC 0 1 (s := [sg x77.Key, sl p80 (x77.Vers).length c81]) (v := .slice p80 (x77.Vers).length c81) rfl rfl rfl (show segGood [sg x77.Key, sl p80 (x77.Vers).length c81] from (sgN 2 sgNil)) (by kernel_rfl) (by kernel_rfl) (by kernel_rfl) w ⟨_, hS⟩)) fun a hF => ?_)
 refine bind_split H (fun x82 hx82 H => ?_)
 refine wc (wo_append (ty := f_api_Ver.ty) hF hS (by kernel_rfl) 1 4 1 rfl rfl rfl (by kernel_rfl) (by kernel_rfl) rfl rfl rfl hx82 (by kernel_rfl) (i := Try.t37) (z := .agg (flat [sg ByteArray.empty, sg ByteArray.empty, sb false, su 0, si 0, si 0]).toArray) (by kernel_rfl) (by kernel_rfl) (by kernel_rfl) fun p83 c84 κ a w hF hS => ?_)
 refine wp 1 [0, 1, 2, 7, 8] hF fun a hF => ?_
 refine wpListIn_nil ?_
 exact ⟨_, x82, p83, c84, hF.kp [0, 1, 2, 7, 8], hS.sp [0, 1] [0, 6], H⟩
 refine cond_f hF (by kernel_rfl) hb ?_
 refine wpIn_skip ?_
 exact ⟨_, y61, p62, c63, hF.kp [0, 1, 2, 7, 8], hS.sp [0, 1] [2, 3], H⟩
 rintro a w ⟨κ, y67, p68, c69, hF, hS, H⟩
 unfold M.ref10_Store_All_k2 at H
 refine wpIn_region_lit ?_
 refine wp 3 [0, 1, 2, 7, 8] hF fun a hF => ?_
 refine wpListIn_nil ?_
 exact ⟨fuel1, Nat.lt_succ_self _, _, y67, p68, c69, IntKind.i64.wrap (y64 + 1), hF.kp [0, 1, 2, 7, 8], hS.sp [0, 1] [0, 1], H⟩
 refine cond_f hF (by kernel_rfl) hb ?_
 refine wpIn_exit ?_
 refine hK9 _ _ ?_
 refine wpIn_seq_k fun K85 hK85 => ?_
 refine wpIn_region_lit ?_
 refine wp 2 [6] hF fun a hF => ?_
 refine wpListIn_nil ?_
 refine hK85 _ _ ?_
 refine wpIn_ret ?_
 cases H
 exact ret_done hF hS (res1 Try.results59 (rvt hF)) ⟨p62, c63, rfl, hS.sp [0, 1] [0]⟩
set_option maxRecDepth 20000 in
set_option maxHeartbeats 8000000 in
theorem C_ref10_Store_Drop (N : Nat) {Ms : List Nat} {κ0 : Gh} {w0 : World} (a1 : T_ref10_Store) (a5 : ByteArray) (a6 : ByteArray) (p2 : Option Addr) (c3 : Nat) (b4 : Nat) (hB : SB Ms κ0 w0 [.box b4 82 [sl p2 (a1.Chains).length c3, su a1.Floor], .tok p2 145 2 (a1.Chains).length c3] [Ro.mp t_ref10_Chain p2 c3 a1.Chains]) {r : (Int × T_ref10_Store)} (H : M.ref10_Store_Drop N a1 a5 a6 = some r) :
    Calls Try.prog 57 #[pt b4 0, .string (a5), .string (a6)] w0 (Post Ms κ0 w0 fun v κ w => ∃ (p92 : Option Addr) (c93 : Nat), v = vi r.1 ∧ SS Ms κ0 w0 κ w [.box b4 82 [sl p92 (r.2.Chains).length c93, su r.2.Floor], .tok p92 145 2 (r.2.Chains).length c93] [Ro.mp t_ref10_Chain p92 c93 r.2.Chains]) := by
 have hS := hB.hS
 have hfr := hS.fresh
 refine enter (N := (51)) (L := [(0, pt b4 0), (1, .string (a5)), (2, .string (a6))]) Try.func57 rfl Try.ntmps57 (show 3 ≤ (51) by decide) rfl fun a hF => ?_
 unfold M.ref10_Store_Drop at H
 refine wpIn_seq_k fun K7 hK7 => ?_
 refine wpIn_region_lit ?_
 refine wp 1 [0, 1, 2] hF fun a hF => ?_
 refine wpListIn_nil ?_
 refine hK7 _ _ ?_
 refine wpIn_seq_k fun K8 hK8 => ?_
 refine wpIn_region_lit ?_
 refine wp 3 [0, 1, 2, 10, 11, 12] hF fun a hF => ?_
 refine bind_split H (fun x9 hx9 H => ?_)
 refine wc (wcS 1 [0, 1] hF hS (fun hS => C_ref10_Store_All N (T_ref10_Store.mk a1.Chains a1.Floor) a5 a6 p2 c3 b4 ⟨rfl, hS.pick [0] (by kernel_rfl)⟩ hx9) ?_)
 rintro _ κ w a ⟨p10, c11, rfl, h2⟩ hF hB
 have hS := hB _ _ h2
 refine wp 2 [0, 1, 2, 7] hF fun a hF => ?_
 refine wpListIn_nil ?_
 refine hK8 _ _ ?_
 refine wpIn_seq_k fun K12 hK12 => ?_
 refine wpIn_region_lit ?_
 refine wp 1 [0, 1, 2, 7, 8] hF fun a hF => ?_
 refine wpListIn_nil ?_
 refine hK12 _ _ ?_
 refine wpIn_seq_k fun K13 hK13 => ?_
 refine wpIn_seq_k fun K14 hK14 => ?_
 refine wpIn_region_lit ?_
 refine wp 1 [0, 1, 2, 7, 8, 9] hF fun a hF => ?_
 refine wpListIn_nil ?_
 refine hK14 _ _ ?_
 refine wpIn_block ?_
 refine loop_fuel (n := N) (fun n a w => ∃ (κ : Gh) (y65 : List T_ref10_Chain) (p66 : Option Addr) (c67 : Nat) (y68 : Int), Fr (51) [] [(0, pt b4 0), (1, .string (a5)), (2, .string (a6)), (7, vi ((x9).length : Int)), (8, .slice p66 (y65).length c67), (9, vi y68)] a ∧ SS Ms κ0 w0 κ w [.box b4 82 [sl p2 (a1.Chains).length c3, su a1.Floor], .tok p66 145 2 (y65).length c67, .tok p2 145 2 (a1.Chains).length c3] [Ro.mp t_ref10_Chain p66 c67 y65, Ro.mp t_ref10_Chain p2 c3 a1.Chains] ∧ M.ref10_Store_Drop_L1 N n a1 a5 a6 x9 y65 y68 = some r) ?_ ?_
 have hS := hS.add (m := Ro.mp t_ref10_Chain none 0 ([] : List T_ref10_Chain)) (Ro.nil t_ref10_Chain _ _)
 have hS := hS.addNil 145 2
 exact ⟨_, ([] : List T_ref10_Chain), none, 0, 0, hF.kp [0, 1, 2, 7, 8, 9], hS.sp [1, 0, 3] [0, 2], H⟩
 rintro n a w ⟨κ, y65, p66, c67, y68, hF, hS, H⟩
 rcases n with _ | fuel1
 simp [M.ref10_Store_Drop_L1] at H
 simp only [M.ref10_Store_Drop_L1] at H
 refine wpIn_seq_k fun K69 hK69 => ?_
 refine wpIn_seq_k fun K70 hK70 => ?_
 refine wpIn_region_lit ?_
 refine wp 4 [0, 1, 2, 7, 8, 9, 15, 18] hF fun a hF => ?_
 refine wc (wld hF hS 0 0 0 fun a hF => ?_)
 refine wp 2 [0, 1, 2, 7, 8, 9, 21] hF fun a hF => ?_
 refine wpListIn_nil ?_
 refine hK70 _ _ ?_
 refine bif_split H (fun hb H => ?_) (fun hb H => ?_)
 refine cond_t hF (by kernel_rfl) hb ?_
 refine wpIn_skip ?_
 refine hK69 _ _ ?_
 refine seq_join (fun a w => ∃ (κ : Gh) (y71 : List T_ref10_Chain) (p72 : Option Addr) (c73 : Nat), Fr (51) [] [(0, pt b4 0), (1, .string (a5)), (2, .string (a6)), (7, vi ((x9).length : Int)), (8, .slice p72 (y71).length c73), (9, vi y68)] a ∧ SS Ms κ0 w0 κ w [.box b4 82 [sl p2 (a1.Chains).length c3, su a1.Floor], .tok p72 145 2 (y71).length c73, .tok p2 145 2 (a1.Chains).length c3] [Ro.mp t_ref10_Chain p72 c73 y71, Ro.mp t_ref10_Chain p2 c3 a1.Chains] ∧ M.ref10_Store_Drop_k2 N (M.ref10_Store_Drop_L1 N fuel1) a1 a5 a6 x9 y68 y71 = some r) ?_ ?_
 refine wpIn_block ?_
 refine wpIn_seq_k fun K74 hK74 => ?_
 refine wpIn_region_lit ?_
 refine wp 3 [0, 1, 2, 7, 8, 9, 26] hF fun a hF => ?_
 refine wc (wld hF hS 0 0 0 fun a hF => ?_)
 refine wl_pure (L' := [(0, pt b4 0), (1, .string (a5)), (2, .string (a6)), (7, vi ((x9).length : Int)), (8, .slice p66 (y65).length c67), (9, vi y68), (27, .slice p2 (a1.Chains).length c3), (28, vi y68)]) 1 [0, 1, 2, 7, 8, 9, 27, 28] hF (by kernel_rfl) fun a hF => ?_
 refine bind_split H (fun x75 hx75 H => ?_)
 refine wc (wo_index hF hS (by kernel_rfl) 1 (E := 145) (sz := 2) rfl rfl rfl (by kernel_rfl) rfl hx75 (by kernel_rfl) (by kernel_rfl) fun b76 f77 a hpx75 hF => ?_)
 obtain ⟨_, ⟨⟨p78, c79⟩, rfl, hR⟩, hc⟩ := hS.elem 1 rfl hpx75 hx75
 have hS := (hS.adds hR).add hc
 refine wl_pure (L' := [(0, pt b4 0), (1, .string (a5)), (2, .string (a6)), (7, vi ((x9).length : Int)), (8, .slice p66 (y65).length c67), (9, vi y68), (30, .pointer (some ⟨b76, (f77 + Int.toNat y68 * 2), none⟩))]) 1 [0, 1, 2, 7, 8, 9, 30] hF (by kernel_rfl) fun a hF => ?_
 refine wc (wo_val hF (by kernel_rfl) (v := .string (x75.Key)) ((val_loadC 0 0 (s := [sg x75.Key, sl p78 (x75.Vers).length c79]) (v := .string (x75.Key)) rfl rfl rfl (show segGood [sg x75.Key, sl p78 (x75.Vers).length c79] from (sgN 2 sgNil)) (by kernel_rfl) (by kernel_rfl) (by kernel_rfl) w ⟨_, hS⟩)) fun a hF => ?_)
 refine wp 2 [0, 1, 2, 7, 8, 9, 31, 32, 33] hF fun a hF => ?_
 refine bind_split H (fun x80 hx80 H => ?_)
 refine wc (wo_callP hF hS (by kernel_rfl) (by kernel_rfl) (C_ref08_Within N hS.fresh x75.Key a5 a6  ((hS.pick [] (by kernel_rfl)).ro) hx80) ?_)
 rintro _ κ w a ⟨rfl, hR, hN⟩ hF hS hO
 refine wp 1 [0, 1, 2, 7, 8, 9, 35] hF fun a hF => ?_
 refine wpListIn_nil ?_
 refine hK74 _ _ ?_
 refine bif_split H (fun hb H => ?_) (fun hb H => ?_)
 refine cond_t hF (by kernel_rfl) hb ?_
 refine wpIn_region_lit ?_
 refine wp 4 [0, 1, 2, 7, 9, 36, 39] hF fun a hF => ?_
 refine wc (wld hF hS 0 0 0 fun a hF => ?_)
 refine wl_pure (L' := [(0, pt b4 0), (1, .string (a5)), (2, .string (a6)), (7, vi ((x9).length : Int)), (9, vi y68), (36, .slice p66 (y65).length c67), (40, .slice p2 (a1.Chains).length c3), (41, vi y68)]) 1 [0, 1, 2, 7, 9, 36, 40, 41] hF (by kernel_rfl) fun a hF => ?_
 refine bind_split H (fun x81 hx81 H => ?_)
 refine wc (wo_index hF hS (by kernel_rfl) 3 (E := 145) (sz := 2) rfl rfl rfl (by kernel_rfl) rfl hx81 (by kernel_rfl) (by kernel_rfl) fun b82 f83 a hpx81 hF => ?_)
 obtain ⟨_, ⟨⟨p84, c85⟩, rfl, hR⟩, hc⟩ := hS.elem 3 rfl hpx81 hx81
 have hS := (hS.adds hR).add hc
 refine wc (wo_val hF (by kernel_rfl) (v := .agg (flat [sg x81.Key, sl p84 (x81.Vers).length c85]).toArray) ((val_loadCs 0 0 2 (s := [sg x81.Key, sl p84 (x81.Vers).length c85]) (s' := [sg x81.Key, sl p84 (x81.Vers).length c85]) (n := 2) rfl rfl rfl (show segGood [sg x81.Key, sl p84 (x81.Vers).length c85] from (sgN 2 sgNil)) (by kernel_rfl) (by kernel_rfl) (by kernel_rfl) (by kernel_rfl) (by kernel_rfl) w ⟨_, hS⟩)) fun a hF => ?_)
 refine wc (wo_build1 (t := t_ref10_Chain) (y := (T_ref10_Chain.mk x81.Key x81.Vers)) (v := .agg (flat [sg x81.Key, sl p84 (x81.Vers).length c85]).toArray) (z := .agg (flat [sg ByteArray.empty, sl none 0 0]).toArray) (cells := (flat [sg x81.Key, sl p84 (x81.Vers).length c85]).toArray) (E := 145) hF hS (by kernel_rfl) rfl (by kernel_rfl) ⟨(p84, c85), rfl, (hS.pick [1] (by kernel_rfl)).ro⟩ (by kernel_rfl) (by kernel_rfl) (by kernel_rfl) (by kernel_rfl) (by kernel_rfl) fun p86 κ a w hF hS => ?_)
 refine bind_split H (fun x87 hx87 H => ?_)
 refine wc (wo_append (ty := t_ref10_Chain) hF hS (by kernel_rfl) 2 5 0 rfl rfl rfl (by kernel_rfl) (by kernel_rfl) rfl rfl rfl hx87 (by kernel_rfl) (i := Try.t145) (z := .agg (flat [sg ByteArray.empty, sl none 0 0]).toArray) (by kernel_rfl) (by kernel_rfl) (by kernel_rfl) fun p88 c89 κ a w hF hS => ?_)
 refine wp 1 [0, 1, 2, 7, 8, 9] hF fun a hF => ?_
 refine wpListIn_nil ?_
 exact ⟨_, x87, p88, c89, hF.kp [0, 1, 2, 7, 8, 9], hS.sp [1, 2, 3] [0, 7], H⟩
 refine cond_f hF (by kernel_rfl) hb ?_
 refine wpIn_skip ?_
 exact ⟨_, y65, p66, c67, hF.kp [0, 1, 2, 7, 8, 9], hS.sp [0, 1, 2] [2, 3], H⟩
 rintro a w ⟨κ, y71, p72, c73, hF, hS, H⟩
 unfold M.ref10_Store_Drop_k2 at H
 refine wpIn_region_lit ?_
 refine wp 3 [0, 1, 2, 7, 8, 9] hF fun a hF => ?_
 refine wpListIn_nil ?_
 exact ⟨fuel1, Nat.lt_succ_self _, _, y71, p72, c73, IntKind.i64.wrap (y68 + 1), hF.kp [0, 1, 2, 7, 8, 9], hS.sp [0, 1, 2] [0, 1], H⟩
 refine cond_f hF (by kernel_rfl) hb ?_
 refine wpIn_exit ?_
 refine hK13 _ _ ?_
 refine wpIn_seq_k fun K90 hK90 => ?_
 refine wpIn_region_lit ?_
 refine wp 4 [7, 47, 49] hF fun a hF => ?_
 refine wc (wst hF hS 0 0 1 [sl p66 (y65).length c67] (sgN 1 sgNil) fun a w hF hS => ?_)
 refine wpListIn_nil ?_
 refine hK90 _ _ ?_
 refine wpIn_seq_k fun K91 hK91 => ?_
 refine wpIn_region_lit ?_
 refine wp 2 [6] hF fun a hF => ?_
 refine wpListIn_nil ?_
 refine hK91 _ _ ?_
 refine wpIn_ret ?_
 cases H
 exact ret_done hF hS (res1 Try.results57 (rvt hF)) ⟨p66, c67, rfl, hS.sp [0, 1] [0]⟩
set_option maxRecDepth 20000 in
set_option maxHeartbeats 8000000 in
theorem C_ref10_Store_Trim (N : Nat) {Ms : List Nat} {κ0 : Gh} {w0 : World} (a1 : T_ref10_Store) (a5 : Int) (p2 : Option Addr) (c3 : Nat) (b4 : Nat) (hB : SB Ms κ0 w0 [.box b4 82 [sl p2 (a1.Chains).length c3, su a1.Floor], .tok p2 145 2 (a1.Chains).length c3] [Ro.mp t_ref10_Chain p2 c3 a1.Chains]) {r : (Int × T_ref10_Store)} (H : M.ref10_Store_Trim N a1 a5 = some r) :
    Calls Try.prog 58 #[pt b4 0, vu a5] w0 (Post Ms κ0 w0 fun v κ w => ∃ (p92 : Option Addr) (c93 : Nat), v = vi r.1 ∧ SS Ms κ0 w0 κ w [.box b4 82 [sl p92 (r.2.Chains).length c93, su r.2.Floor], .tok p92 145 2 (r.2.Chains).length c93] [Ro.mp t_ref10_Chain p92 c93 r.2.Chains]) := by
 have hS := hB.hS
 have hfr := hS.fresh
 refine enter (N := (66)) (L := [(0, pt b4 0), (1, vu a5)]) Try.func58 rfl Try.ntmps58 (show 2 ≤ (66) by decide) rfl fun a hF => ?_
 unfold M.ref10_Store_Trim at H
 refine wpIn_seq_k fun K6 hK6 => ?_
 refine wpIn_region_lit ?_
 refine wp 1 [0, 1] hF fun a hF => ?_
 refine wpListIn_nil ?_
 refine hK6 _ _ ?_
 refine seq_join (fun a w => ∃ (κ : Gh) (y7 : Int), Fr (66) [] [(0, pt b4 0)] a ∧ SS Ms κ0 w0 κ w [.box b4 82 [sl p2 (a1.Chains).length c3, su y7], .tok p2 145 2 (a1.Chains).length c3] [Ro.mp t_ref10_Chain p2 c3 a1.Chains] ∧ M.ref10_Store_Trim_k1 N a1 y7 = some r) ?_ ?_
 refine wpIn_seq_k fun K91 hK91 => ?_
 refine wpIn_region_lit ?_
 refine wp 4 [0, 1, 10, 13] hF fun a hF => ?_
 refine wc (wld hF hS 0 1 0 fun a hF => ?_)
 refine wp 1 [0, 1, 15] hF fun a hF => ?_
 refine wpListIn_nil ?_
 refine hK91 _ _ ?_
 refine bif_split H (fun hb H => ?_) (fun hb H => ?_)
 refine cond_t hF (by kernel_rfl) hb ?_
 refine wpIn_region_lit ?_
 refine wp 4 [0, 17, 19] hF fun a hF => ?_
 refine wc (wst hF hS 0 1 1 [su a5] (sgN 1 sgNil) fun a w hF hS => ?_)
 refine wpListIn_nil ?_
 exact ⟨_, a5, hF.kp [0], hS.sp [0, 1] [0], H⟩
 refine cond_f hF (by kernel_rfl) hb ?_
 refine wpIn_skip ?_
 exact ⟨_, a1.Floor, hF.kp [0], hS.sp [0, 1] [0], H⟩
 rintro a w ⟨κ, y7, hF, hS, H⟩
 unfold M.ref10_Store_Trim_k1 at H
 refine wpIn_seq_k fun K8 hK8 => ?_
 refine wpIn_region_lit ?_
 refine wp 1 [0, 5] hF fun a hF => ?_
 refine wpListIn_nil ?_
 refine hK8 _ _ ?_
 refine wpIn_seq_k fun K9 hK9 => ?_
 refine wpIn_region_lit ?_
 refine wp 1 [0, 5, 6] hF fun a hF => ?_
 refine wpListIn_nil ?_
 refine hK9 _ _ ?_
 refine wpIn_seq_k fun K10 hK10 => ?_
 refine wpIn_seq_k fun K11 hK11 => ?_
 refine wpIn_region_lit ?_
 refine wp 1 [0, 5, 6, 7] hF fun a hF => ?_
 refine wpListIn_nil ?_
 refine hK11 _ _ ?_
 refine wpIn_block ?_
 refine loop_fuel (n := N) (fun n a w => ∃ (κ : Gh) (y62 : Int) (y63 : List T_ref10_Chain) (p64 : Option Addr) (c65 : Nat) (y66 : Int), Fr (66) [] [(0, pt b4 0), (5, vi y62), (6, .slice p64 (y63).length c65), (7, vi y66)] a ∧ SS Ms κ0 w0 κ w [.box b4 82 [sl p2 (a1.Chains).length c3, su y7], .tok p64 145 2 (y63).length c65, .tok p2 145 2 (a1.Chains).length c3] [Ro.mp t_ref10_Chain p64 c65 y63, Ro.mp t_ref10_Chain p2 c3 a1.Chains] ∧ M.ref10_Store_Trim_L2 N n a1 y7 y62 y63 y66 = some r) ?_ ?_
 have hS := hS.add (m := Ro.mp t_ref10_Chain none 0 ([] : List T_ref10_Chain)) (Ro.nil t_ref10_Chain _ _)
 have hS := hS.addNil 145 2
 exact ⟨_, 0, ([] : List T_ref10_Chain), none, 0, 0, hF.kp [0, 5, 6, 7], hS.sp [1, 0, 2] [0, 1], H⟩
 rintro n a w ⟨κ, y62, y63, p64, c65, y66, hF, hS, H⟩
 rcases n with _ | fuel2
 simp [M.ref10_Store_Trim_L2] at H
 simp only [M.ref10_Store_Trim_L2] at H
 refine wpIn_seq_k fun K67 hK67 => ?_
 refine wpIn_seq_k fun K68 hK68 => ?_
 refine wpIn_region_lit ?_
 refine wp 4 [0, 5, 6, 7, 20, 23] hF fun a hF => ?_
 refine wc (wld hF hS 0 0 0 fun a hF => ?_)
 refine wp 2 [0, 5, 6, 7, 26] hF fun a hF => ?_
 refine wpListIn_nil ?_
 refine hK68 _ _ ?_
 refine bif_split H (fun hb H => ?_) (fun hb H => ?_)
 refine cond_t hF (by kernel_rfl) hb ?_
 refine wpIn_skip ?_
 refine hK67 _ _ ?_
 refine wpIn_seq_k fun K69 hK69 => ?_
 refine wpIn_block ?_
 refine wpIn_seq_k fun K70 hK70 => ?_
 refine bind_split H (fun x71 hx71 H => ?_)
 obtain ⟨b72, f73, hpx71⟩ := hS.ptr 1 rfl hx71
 obtain ⟨_, ⟨⟨p74, c75⟩, rfl, hR⟩, hc⟩ := hS.elem 1 rfl hpx71 hx71
 have hS := (hS.adds hR).add hc
 refine rgS hS [] ?_
 have hS := hS.drew
 refine any_pure [0, 1, 2, 4, 8, 9, 10] [0, 5, 6, 7, 32, 34, 40] (L' := [(0, pt b4 0), (5, vi y62), (6, .slice p64 (y63).length c65), (7, vi y66), (32, pt b4 0), (34, vi y66), (40, pt b4 1)]) (listed' := (bitA 18 1815)) (fuel := 11) hF (hS.sx [0] (rg 4)) (by kernel_rfl) (by intro c a w t v h; cases t <;> exact h) (by kernel_rfl) rfl fun a hF => ?_
 refine atk 3 (some 33) hF (hS.sx [0] (rg 4)) rfl (vld 0 0 0) fun a hF => ?_
 refine atk 5 (some 35) hF (hS.sx [0] (rg 4)) rfl (fun w _ => val_index (E := 145) (sz := 2) rfl hpx71 rfl (by kernel_rfl) rfl hx71 (by kernel_rfl) (by kernel_rfl) w) fun a hF => ?_
 refine any_pure [6] [0, 5, 6, 7, 36, 40] (L' := [(0, pt b4 0), (5, vi y62), (6, .slice p64 (y63).length c65), (7, vi y66), (36, .pointer (some ⟨b72, (f73 + Int.toNat y66 * 2) + 1, none⟩)), (40, pt b4 1)]) (listed' := (bitA 18 1919)) (fuel := 8) hF (hS.sx [0] (rg 4)) (by kernel_rfl) (by intro c a w t v h; cases t <;> exact h) (by kernel_rfl) rfl fun a hF => ?_
 refine atk 7 (some 37) hF (hS.sx [0] (rg 4)) rfl (val_loadC 0 1 (s := [sg x71.Key, sl p74 (x71.Vers).length c75]) (v := .slice p74 (x71.Vers).length c75) rfl rfl rfl (show segGood [sg x71.Key, sl p74 (x71.Vers).length c75] from (sgN 2 sgNil)) (by kernel_rfl) (by kernel_rfl) (by kernel_rfl)) fun a hF => ?_
 refine atk 11 (some 41) hF (hS.sx [0] (rg 4)) rfl (vld 0 1 0) fun a hF => ?_
 refine ago 12 hF rfl ?_
 refine bind_split H (fun x76 hx76 H => ?_)
 refine wo_callP hF hS (by kernel_rfl) (by kernel_rfl) (C_ref09_Trim N hS.fresh x71.Vers y7 p74 c75 ((hS.pick [1] (by kernel_rfl)).ro) hx76) ?_
 rintro _ κ w a ⟨p77, c78, rfl, hR, hN⟩ hF hS hO
 have hS := hS.adds hR
 have hS := hS.addC hO hN
 refine ⟨fun _ => (hS.sx [1] [1, 2, 3, 4]), ?_⟩
 refine anp [13, 14, 15, 16, 17] [0, 5, 6, 7, 8, 9] hF (hS.sx [1] [1, 2, 3, 4]) fun a hF => ?_
 refine and_ ?_
 refine hK70 _ _ ?_
 refine wpIn_seq_k fun K79 hK79 => ?_
 refine wpIn_region_lit ?_
 refine wp 4 [0, 5, 6, 7, 8] hF fun a hF => ?_
 refine wpListIn_nil ?_
 refine hK79 _ _ ?_
 refine wpIn_region_lit ?_
 refine wp 4 [0, 5, 7, 8, 48, 51] hF fun a hF => ?_
 refine wc (wld hF hS 1 0 0 fun a hF => ?_)
 refine wl_pure (L' := [(0, pt b4 0), (5, vi (IntKind.i64.wrap (y62 + x76.2))), (7, vi y66), (8, .slice p77 (x76.1).length c78), (48, .slice p64 (y63).length c65), (52, .slice p2 (a1.Chains).length c3), (53, vi y66)]) 1 [0, 5, 7, 8, 48, 52, 53] hF (by kernel_rfl) fun a hF => ?_
 refine bind_split H (fun x80 hx80 H => ?_)
 refine wc (wo_index hF hS (by kernel_rfl) 4 (E := 145) (sz := 2) rfl rfl rfl (by kernel_rfl) rfl hx80 (by kernel_rfl) (by kernel_rfl) fun b81 f82 a hpx80 hF => ?_)
 obtain ⟨_, ⟨⟨p83, c84⟩, rfl, hR⟩, hc⟩ := hS.elem 4 rfl hpx80 hx80
 have hS := (hS.adds hR).add hc
 refine wl_pure (L' := [(0, pt b4 0), (5, vi (IntKind.i64.wrap (y62 + x76.2))), (7, vi y66), (8, .slice p77 (x76.1).length c78), (48, .slice p64 (y63).length c65), (55, .pointer (some ⟨b81, (f82 + Int.toNat y66 * 2), none⟩))]) 1 [0, 5, 7, 8, 48, 55] hF (by kernel_rfl) fun a hF => ?_
 refine wc (wo_val hF (by kernel_rfl) (v := .string (x80.Key)) ((val_loadC 0 0 (s := [sg x80.Key, sl p83 (x80.Vers).length c84]) (v := .string (x80.Key)) rfl rfl rfl (show segGood [sg x80.Key, sl p83 (x80.Vers).length c84] from (sgN 2 sgNil)) (by kernel_rfl) (by kernel_rfl) (by kernel_rfl) w ⟨_, hS⟩)) fun a hF => ?_)
 refine wl_pure (L' := [(0, pt b4 0), (5, vi (IntKind.i64.wrap (y62 + x76.2))), (7, vi y66), (48, .slice p64 (y63).length c65), (58, .agg (flat [sg x80.Key, sl p77 (x76.1).length c78]).toArray)]) 2 [0, 5, 7, 48, 58] hF (by kernel_rfl) fun a hF => ?_
 refine wc (wo_build1 (t := t_ref10_Chain) (y := (T_ref10_Chain.mk x80.Key x76.1)) (v := .agg (flat [sg x80.Key, sl p77 (x76.1).length c78]).toArray) (z := .agg (flat [sg ByteArray.empty, sl none 0 0]).toArray) (cells := (flat [sg x80.Key, sl p77 (x76.1).length c78]).toArray) (E := 145) hF hS (by kernel_rfl) rfl (by kernel_rfl) ⟨(p77, c78), rfl, (hS.pick [2] (by kernel_rfl)).ro⟩ (by kernel_rfl) (by kernel_rfl) (by kernel_rfl) (by kernel_rfl) (by kernel_rfl) fun p85 κ a w hF hS => ?_)
 refine bind_split H (fun x86 hx86 H => ?_)
 refine wc (wo_append (ty := t_ref10_Chain) hF hS (by kernel_rfl) 3 6 0 rfl rfl rfl (by kernel_rfl) (by kernel_rfl) rfl rfl rfl hx86 (by kernel_rfl) (i := Try.t145) (z := .agg (flat [sg ByteArray.empty, sl none 0 0]).toArray) (by kernel_rfl) (by kernel_rfl) (by kernel_rfl) fun p87 c88 κ a w hF hS => ?_)
 refine wp 1 [0, 5, 6, 7] hF fun a hF => ?_
 refine wpListIn_nil ?_
 refine hK69 _ _ ?_
 refine wpIn_region_lit ?_
 refine wp 3 [0, 5, 6, 7] hF fun a hF => ?_
 refine wpListIn_nil ?_
 exact ⟨fuel2, Nat.lt_succ_self _, _, IntKind.i64.wrap (y62 + x76.2), x86, p87, c88, IntKind.i64.wrap (y66 + 1), hF.kp [0, 5, 6, 7], hS.sp [2, 3, 4] [0, 8], H⟩
 refine cond_f hF (by kernel_rfl) hb ?_
 refine wpIn_exit ?_
 refine hK10 _ _ ?_
 refine wpIn_seq_k fun K89 hK89 => ?_
 refine wpIn_region_lit ?_
 refine wp 4 [5, 62, 64] hF fun a hF => ?_
 refine wc (wst hF hS 0 0 1 [sl p64 (y63).length c65] (sgN 1 sgNil) fun a w hF hS => ?_)
 refine wpListIn_nil ?_
 refine hK89 _ _ ?_
 refine wpIn_seq_k fun K90 hK90 => ?_
 refine wpIn_region_lit ?_
 refine wp 2 [4] hF fun a hF => ?_
 refine wpListIn_nil ?_
 refine hK90 _ _ ?_
 refine wpIn_ret ?_
 cases H
 exact ret_done hF hS (res1 Try.results58 (rvt hF)) ⟨p64, c65, rfl, hS.sp [0, 1] [0]⟩
end Go.Cf
