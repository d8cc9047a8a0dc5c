/- The walks: each function returns what its model says. Printed by a program of ours. -/
import Derived.Test.YteeafoagaaedcaaZMn1
import Derived.Test.YteeafoagaaedcaaZWt1
namespace Go.Cf
open Go Go.Proofs
set_option linter.unusedVariables false
set_option maxRecDepth 20000 in
set_option maxHeartbeats 8000000 in
theorem C_hlc_Recv (N : Nat) {κ0 : Gh} {w0 : World} (hfr : Fresh κ0 w0) (a1 : Int) (a2 : Int) (a3 : Int)  (hR : ∀ m ∈ ([] : List MP), m.p κ0 w0) {r : (Int × Int)} (H : M.hlc_Recv N a1 a2 a3 = some r) :
    Calls Try.prog 128 #[vu a1, vu a2, vi a3] w0 (Post [] κ0 w0 fun v κ w => v = .tuple #[vu r.1, vi r.2] ∧ (∀ m ∈ ([] : List MP), m.p κ w) ∧ NewC w0 κ w []) := by
 have hS := SS.start hfr hR
 refine enter (N := (15)) (L := [(0, vu a1), (1, vu a2), (2, vi a3)]) Try.func128 rfl Try.ntmps128 (show 3 ≤ (15) by decide) rfl fun a hF => ?_
 unfold M.hlc_Recv at H
 refine wpIn_seq_k fun K4 hK4 => ?_
 refine wpIn_region_lit ?_
 refine wp 2 [0, 1, 2] hF fun a hF => ?_
 refine wpListIn_nil ?_
 refine hK4 _ _ ?_
 refine wpIn_seq_k fun K5 hK5 => ?_
 refine wpIn_region_lit ?_
 refine wp 4 [10, 11] hF fun a hF => ?_
 refine bind_split H (fun x6 hx6 H => ?_)
 refine wc (wo_callP hF hS (by kernel_rfl) (by kernel_rfl) (C_hlc_after N hS.fresh (if a2 > a1 then a2 else a1) a3  ((hS.pick [] (by kernel_rfl)).ro) hx6) ?_)
 rintro _ κ w a ⟨rfl, hR, hN⟩ hF hS hO
 refine wp 4 [6, 7] hF fun a hF => ?_
 refine wpListIn_nil ?_
 refine hK5 _ _ ?_
 refine wpIn_ret ?_
 cases H
 exact (ret_done hF hS (res2 Try.results128 (rvt hF) (rvt hF)) ⟨rfl, (hS.pick [] (by kernel_rfl)).ro, hS.newC [] (by decide) (by kernel_rfl)⟩)
set_option maxRecDepth 20000 in
set_option maxHeartbeats 8000000 in
theorem C_hlc_Raise (N : Nat) {κ0 : Gh} {w0 : World} (hfr : Fresh κ0 w0) (a1 : Int) (a2 : Int)  (hR : ∀ m ∈ ([] : List MP), m.p κ0 w0) {r : (Int × Int)} (H : M.hlc_Raise N a1 a2 = some r) :
    Calls Try.prog 120 #[vu a1, vi a2] w0 (Post [] κ0 w0 fun v κ w => v = .tuple #[vu r.1, vi r.2] ∧ (∀ m ∈ ([] : List MP), m.p κ w) ∧ NewC w0 κ w []) := by
 have hS := SS.start hfr hR
 refine enter (N := (17)) (L := [(0, vu a1), (1, vi a2)]) Try.func120 rfl Try.ntmps120 (show 2 ≤ (17) by decide) rfl fun a hF => ?_
 unfold M.hlc_Raise at H
 refine wpIn_seq_k fun K3 hK3 => ?_
 refine wpIn_region_lit ?_
 refine wp 2 [0, 1] hF fun a hF => ?_
 refine wpListIn_nil ?_
 refine hK3 _ _ ?_
 refine wpIn_seq_k fun K4 hK4 => ?_
 refine wpIn_seq_k fun K5 hK5 => ?_
 refine wpIn_region_lit ?_
 refine bind_split H (fun v7 hv7 H => ?_)
 refine wl_join (fun a w => ∃ κ : Gh, Fr (17) [] [(0, vu a1), (1, vi a2), (11, vb v7)] a ∧ SS [] κ0 w0 κ w [] [] ∧ True) ?_ ?_
 refine wp 3 [0, 1, 8] hF fun a hF => ?_
 refine bif_split hv7 (fun hb hv7 => ?_) (fun hb hv7 => ?_)
 have hF := hF.boolv 8 (by kernel_rfl) hb
 refine wp 3 [0, 1, 11] hF fun a hF => ?_
 refine wpListIn_nil ?_
 cases hv7
 exact ⟨_, hF.kp [0, 1, 11], hS.sp [] [], trivial⟩
 have hF := hF.boolv 8 (by kernel_rfl) hb
 refine wp 3 [0, 1, 11] hF fun a hF => ?_
 refine wpListIn_nil ?_
 cases hv7
 exact ⟨_, hF.kp [0, 1, 11], hS.sp [] [], trivial⟩
 rintro a w ⟨κ, hF, hS, -⟩
 refine hK5 _ _ ?_
 refine bif_split H (fun hb H => ?_) (fun hb H => ?_)
 refine cond_t hF (by kernel_rfl) hb ?_
 refine wpIn_seq_k fun K8 hK8 => ?_
 refine wpIn_region_lit ?_
 refine wp 2 [4, 5] hF fun a hF => ?_
 refine wpListIn_nil ?_
 refine hK8 _ _ ?_
 refine wpIn_ret ?_
 cases H
 exact (ret_done hF hS (res2 Try.results120 (rvt hF) (rvt hF)) ⟨rfl, (hS.pick [] (by kernel_rfl)).ro, hS.newC [] (by decide) (by kernel_rfl)⟩)
 refine cond_f hF (by kernel_rfl) hb ?_
 refine wpIn_skip ?_
 refine hK4 _ _ ?_
 refine wpIn_seq_k fun K9 hK9 => ?_
 refine wpIn_region_lit ?_
 refine wp 7 [4, 5] hF fun a hF => ?_
 refine wpListIn_nil ?_
 refine hK9 _ _ ?_
 refine wpIn_ret ?_
 cases H
 exact (ret_done hF hS (res2 Try.results120 (rvt hF) (rvt hF)) ⟨rfl, (hS.pick [] (by kernel_rfl)).ro, hS.newC [] (by decide) (by kernel_rfl)⟩)
set_option maxRecDepth 20000 in
set_option maxHeartbeats 8000000 in
theorem C_part_New (N : Nat) {Ms : List Nat} {κ0 : Gh} {w0 : World}   (hB : SB Ms κ0 w0 [] []) {r : (T_part_Part)} (H : M.part_New N  = some r) :
    Calls Try.prog 95 #[] w0 (Post Ms κ0 w0 fun v κ w => ∃ (b5 : Nat) (p6 : Option Nat) (m7 : Array MapEntry) (c8 : Nat), v = pt b5 0 ∧ SS Ms κ0 w0 κ w [.box b5 174 [su r.clock, (1, [.map p6])], .ext (objX p6 (.map m7 c8))] [Map.mp (kInt .u64) false (fInt .u64).ty p6 m7 c8 r.open_]) := by
 have hS := hB.hS
 have hfr := hS.fresh
 refine enter (N := (4)) (L := []) Try.func95 rfl Try.ntmps95 (show 0 ≤ (4) by decide) rfl fun a hF => ?_
 unfold M.part_New at H
 refine wpIn_seq_k fun K1 hK1 => ?_
 refine wpIn_region_lit ?_
 refine wl_pure (L' := []) 1 [] hF (by kernel_rfl) fun a hF => ?_
 refine wpListIn_nil ?_
 refine hK1 _ _ ?_
 refine wpIn_seq_k fun K2 hK2 => ?_
 refine wpIn_region_lit ?_
 refine wc (wo_makeMap hF hS (by kernel_rfl) (kInt .u64) false (fInt .u64).ty rfl fun b3 a w hF hS => ?_)
 refine wp 1 [2] hF fun a hF => ?_
 refine wc (wbx hF hS [su 0, (1, [.map (some b3)])] (sgN 2 sgNil) fun b4 a w hF hS => ?_)
 refine wp 1 [0] hF fun a hF => ?_
 refine wpListIn_nil ?_
 refine hK2 _ _ ?_
 refine wpIn_ret ?_
 cases H
 exact ret_done hF hS (res1 Try.results95 (rvt hF)) ⟨b4, (some b3), #[], 0, rfl, hS.sp [0, 1] [0]⟩
set_option maxRecDepth 20000 in
set_option maxHeartbeats 8000000 in
theorem C_part_Part_Prepare (N : Nat) {Ms : List Nat} {κ0 : Gh} {w0 : World} (a1 : T_part_Part) (a6 : Int) (a7 : Int) (a8 : Int) (p2 : Option Nat) (m3 : Array MapEntry) (c4 : Nat) (b5 : Nat) (hB : SB Ms κ0 w0 [.box b5 174 [su a1.clock, (1, [.map p2])], .ext (objX p2 (.map m3 c4))] [Map.mp (kInt .u64) false (fInt .u64).ty p2 m3 c4 a1.open_]) {r : (Int × Int × T_part_Part)} (H : M.part_Part_Prepare N a1 a6 a7 a8 = some r) :
    Calls Try.prog 119 #[pt b5 0, vu a6, vu a7, vi a8] w0 (Post Ms κ0 w0 fun v κ w => ∃ (p32 : Option Nat) (m33 : Array MapEntry) (c34 : Nat), v = .tuple #[vu r.1, vi r.2.1] ∧ SS Ms κ0 w0 κ w [.box b5 174 [su r.2.2.clock, (1, [.map p32])], .ext (objX p32 (.map m33 c34))] [Map.mp (kInt .u64) false (fInt .u64).ty p32 m33 c34 r.2.2.open_]) := by
 have hS := hB.hS
 have hfr := hS.fresh
 refine enter (N := (52)) (L := [(0, pt b5 0), (1, vu a6), (2, vu a7), (3, vi a8)]) Try.func119 rfl Try.ntmps119 (show 4 ≤ (52) by decide) rfl fun a hF => ?_
 unfold M.part_Part_Prepare at H
 refine wpIn_seq_k fun K9 hK9 => ?_
 refine wpIn_region_lit ?_
 refine wp 2 (rg 4) hF fun a hF => ?_
 refine wpListIn_nil ?_
 refine hK9 _ _ ?_
 refine wpIn_seq_k fun K10 hK10 => ?_
 refine wpIn_seq_k fun K11 hK11 => ?_
 refine wpIn_region_lit ?_
 refine wp 2 [0, 1, 2, 3, 15] hF fun a hF => ?_
 refine wpListIn_nil ?_
 refine hK11 _ _ ?_
 refine cond_f hF (by kernel_rfl) rfl ?_
 refine wpIn_skip ?_
 refine hK10 _ _ ?_
 refine wpIn_seq_k fun K12 hK12 => ?_
 refine wpIn_seq_k fun K13 hK13 => ?_
 refine wpIn_region_lit ?_
 refine wp 3 [0, 1, 2, 3, 19] hF fun a hF => ?_
 refine wc (wld hF hS 0 1 0 fun a hF => ?_)
 refine wl_pure (L' := [(0, pt b5 0), (1, vu a6), (2, vu a7), (3, vi a8), (20, .map p2), (21, vu a6)]) 1 [0, 1, 2, 3, 20, 21] hF (by kernel_rfl) fun a hF => ?_
 refine bind_split H (fun x14 hx14 H => ?_)
 refine wc (wo_lookup (KT := 25) (E := 25) (kt := (kInt .u64)) (agg := false) (t := (fInt .u64).ty) hF hS (by kernel_rfl) 1 0 (k := a6) (zc := flat [su 0]) (zm := 0) rfl (by kernel_rfl) (by kernel_rfl) rfl rfl hx14 (by kernel_rfl) (by kernel_rfl) (by kernel_rfl) (fun _ _ => rfl) ?_)
 rintro _ a rfl hF
 refine wp 5 [0, 1, 2, 3, 11] hF fun a hF => ?_
 refine wpListIn_nil ?_
 refine hK13 _ _ ?_
 refine wpIn_seq_k fun K15 hK15 => ?_
 refine wpIn_region_lit ?_
 refine wp 1 [0, 1, 2, 3, 25] hF fun a hF => ?_
 refine wpListIn_nil ?_
 refine hK15 _ _ ?_
 refine bif_split H (fun hb H => ?_) (fun hb H => ?_)
 refine cond_t hF (by kernel_rfl) hb ?_
 refine wpIn_seq_k fun K16 hK16 => ?_
 refine wpIn_region_lit ?_
 refine wp 2 [8, 9] hF fun a hF => ?_
 refine wpListIn_nil ?_
 refine hK16 _ _ ?_
 refine wpIn_ret ?_
 cases H
 exact ret_done hF hS (res2 Try.results119 (rvt hF) (rvt hF)) ⟨p2, m3, c4, rfl, hS.sp [0, 1] [0]⟩
 refine cond_f hF (by kernel_rfl) hb ?_
 refine wpIn_skip ?_
 refine hK12 _ _ ?_
 refine wpIn_seq_k fun K17 hK17 => ?_
 refine wpIn_region_lit ?_
 refine wp 3 [0, 1, 2, 3, 29] hF fun a hF => ?_
 refine wc (wld hF hS 0 0 0 fun a hF => ?_)
 refine wp 2 [0, 1, 30, 31, 32] hF fun a hF => ?_
 refine bind_split H (fun x18 hx18 H => ?_)
 refine wc (wo_callP hF hS (by kernel_rfl) (by kernel_rfl) (C_hlc_Recv N hS.fresh a1.clock a7 a8  ((hS.pick [] (by kernel_rfl)).ro) hx18) ?_)
 rintro _ κ w a ⟨rfl, hR, hN⟩ hF hS hO
 refine wp 5 [0, 1, 12, 13] hF fun a hF => ?_
 refine wpListIn_nil ?_
 refine hK17 _ _ ?_
 refine wpIn_seq_k fun K19 hK19 => ?_
 refine wpIn_seq_k fun K20 hK20 => ?_
 refine wpIn_region_lit ?_
 refine wp 2 [0, 1, 12, 13, 37] hF fun a hF => ?_
 refine wpListIn_nil ?_
 refine hK20 _ _ ?_
 refine bif_split H (fun hb H => ?_) (fun hb H => ?_)
 refine cond_t hF (by kernel_rfl) hb ?_
 refine wpIn_seq_k fun K21 hK21 => ?_
 refine wpIn_region_lit ?_
 refine wp 3 [8, 9] hF fun a hF => ?_
 refine wpListIn_nil ?_
 refine hK21 _ _ ?_
 refine wpIn_ret ?_
 cases H
 exact ret_done hF hS (res2 Try.results119 (rvt hF) (rvt hF)) ⟨p2, m3, c4, rfl, hS.sp [0, 1] [0]⟩
 refine cond_f hF (by kernel_rfl) hb ?_
 refine wpIn_skip ?_
 refine hK19 _ _ ?_
 refine wpIn_seq_k fun K22 hK22 => ?_
 refine wpIn_region_lit ?_
 refine wp 4 [1, 12, 39, 42] hF fun a hF => ?_
 refine wc (wld hF hS 0 1 0 fun a hF => ?_)
 refine wl_pure (L' := [(12, vu x18.1), (43, .map p2), (44, vu a6), (45, vu x18.1), (46, vu x18.1), (48, pt b5 0)]) 5 [12, 43, 44, 45, 46, 48] hF (by kernel_rfl) fun a hF => ?_
 refine wc (wst hF hS 0 0 1 [su x18.1] (sgN 1 sgNil) fun a w hF hS => ?_)
 refine bind_split H (fun x23 hx23 H => ?_)
 refine bind_split H (fun x24 hx24 H => ?_)
 refine wc (wo_mapEntry (KT := 25) (E := 25) (kt := (kInt .u64)) (agg := false) (t := (fInt .u64).ty) hF hS (by kernel_rfl) 1 0 (k := a6) (zc := flat [su 0]) (zm := 0) rfl (by kernel_rfl) (by kernel_rfl) rfl rfl hx23 hx24 (by kernel_rfl) (by kernel_rfl) (by kernel_rfl) (fun _ _ => rfl) ?_)
 rintro m25 c26 _ c28 a w rfl hF hS
 refine wl_pure (L' := [(12, vu x18.1), (43, .map p2), (46, vu x18.1), (50, vi c28)]) 1 [12, 43, 46, 50] hF (by kernel_rfl) fun a hF => ?_
 refine bind_split H (fun x29 hx29 H => ?_)
 refine wc (wo_entryStore (kt := (kInt .u64)) (agg := false) (t := (fInt .u64).ty) hF hS (by kernel_rfl) 1 0 1 (k := a6) (v := x18.1) (cs := flat [su x18.1]) rfl (by kernel_rfl) (by kernel_rfl) (by kernel_rfl) rfl rfl rfl rfl hx29 fun m30 a w hF hS => ?_)
 refine wpListIn_nil ?_
 refine hK22 _ _ ?_
 refine wpIn_seq_k fun K31 hK31 => ?_
 refine wpIn_region_lit ?_
 refine wp 3 [8, 9] hF fun a hF => ?_
 refine wpListIn_nil ?_
 refine hK31 _ _ ?_
 refine wpIn_ret ?_
 cases H
 exact ret_done hF hS (res2 Try.results119 (rvt hF) (rvt hF)) ⟨p2, m30, c26, rfl, hS.sp [0, 1] [0]⟩
set_option maxRecDepth 20000 in
set_option maxHeartbeats 8000000 in
theorem C_part_Part_Commit (N : Nat) {Ms : List Nat} {κ0 : Gh} {w0 : World} (a1 : T_part_Part) (a6 : Int) (a7 : Int) (a8 : Int) (p2 : Option Nat) (m3 : Array MapEntry) (c4 : Nat) (b5 : Nat) (hB : SB Ms κ0 w0 [.box b5 174 [su a1.clock, (1, [.map p2])], .ext (objX p2 (.map m3 c4))] [Map.mp (kInt .u64) false (fInt .u64).ty p2 m3 c4 a1.open_]) {r : (Int × T_part_Part)} (H : M.part_Part_Commit N a1 a6 a7 a8 = some r) :
    Calls Try.prog 97 #[pt b5 0, vu a6, vu a7, vi a8] w0 (Post Ms κ0 w0 fun v κ w => ∃ (p28 : Option Nat) (m29 : Array MapEntry) (c30 : Nat), v = vi r.1 ∧ SS Ms κ0 w0 κ w [.box b5 174 [su r.2.clock, (1, [.map p28])], .ext (objX p28 (.map m29 c30))] [Map.mp (kInt .u64) false (fInt .u64).ty p28 m29 c30 r.2.open_]) := by
 have hS := hB.hS
 have hfr := hS.fresh
 refine enter (N := (54)) (L := [(0, pt b5 0), (1, vu a6), (2, vu a7), (3, vi a8)]) Try.func97 rfl Try.ntmps97 (show 4 ≤ (54) by decide) rfl fun a hF => ?_
 unfold M.part_Part_Commit at H
 refine wpIn_seq_k fun K9 hK9 => ?_
 refine wpIn_region_lit ?_
 refine wp 1 (rg 4) hF fun a hF => ?_
 refine wpListIn_nil ?_
 refine hK9 _ _ ?_
 refine wpIn_seq_k fun K10 hK10 => ?_
 refine wpIn_seq_k fun K11 hK11 => ?_
 refine wpIn_region_lit ?_
 refine bind_split H (fun v13 hv13 H => ?_)
 refine wl_join (fun a w => ∃ κ : Gh, Fr (54) [] [(0, pt b5 0), (1, vu a6), (2, vu a7), (3, vi a8), (20, vb v13)] a ∧ SS Ms κ0 w0 κ w [.box b5 174 [su a1.clock, (1, [.map p2])], .ext (objX p2 (.map m3 c4))] [Map.mp (kInt .u64) false (fInt .u64).ty p2 m3 c4 a1.open_] ∧ True) ?_ ?_
 refine wp 7 [0, 1, 2, 3, 17] hF fun a hF => ?_
 refine bif_split hv13 (fun hb hv13 => ?_) (fun hb hv13 => ?_)
 have hF := hF.boolv 17 (by kernel_rfl) hb
 refine wp 3 [0, 1, 2, 3, 20] hF fun a hF => ?_
 refine wpListIn_nil ?_
 cases hv13
 exact ⟨_, hF.kp [0, 1, 2, 3, 20], hS.sp [0, 1] [0], trivial⟩
 have hF := hF.boolv 17 (by kernel_rfl) hb
 refine wp 3 [0, 1, 2, 3, 20] hF fun a hF => ?_
 refine wpListIn_nil ?_
 cases hv13
 exact ⟨_, hF.kp [0, 1, 2, 3, 20], hS.sp [0, 1] [0], trivial⟩
 rintro a w ⟨κ, hF, hS, -⟩
 refine hK11 _ _ ?_
 refine bif_split H (fun hb H => ?_) (fun hb H => ?_)
 refine cond_t hF (by kernel_rfl) hb ?_
 refine wpIn_seq_k fun K14 hK14 => ?_
 refine wpIn_region_lit ?_
 refine wp 1 [8] hF fun a hF => ?_
 refine wpListIn_nil ?_
 refine hK14 _ _ ?_
 refine wpIn_ret ?_
 cases H
 exact ret_done hF hS (res1 Try.results97 (rvt hF)) ⟨p2, m3, c4, rfl, hS.sp [0, 1] [0]⟩
 refine cond_f hF (by kernel_rfl) hb ?_
 refine wpIn_skip ?_
 refine hK10 _ _ ?_
 refine wpIn_seq_k fun K15 hK15 => ?_
 refine wpIn_region_lit ?_
 refine wp 3 [0, 1, 2, 3, 24] hF fun a hF => ?_
 refine wc (wld hF hS 0 1 0 fun a hF => ?_)
 refine wl_pure (L' := [(0, pt b5 0), (1, vu a6), (2, vu a7), (3, vi a8), (25, .map p2), (26, vu a6)]) 1 [0, 1, 2, 3, 25, 26] hF (by kernel_rfl) fun a hF => ?_
 refine bind_split H (fun x16 hx16 H => ?_)
 refine wc (wo_lookup (KT := 25) (E := 25) (kt := (kInt .u64)) (agg := false) (t := (fInt .u64).ty) hF hS (by kernel_rfl) 1 0 (k := a6) (zc := flat [su 0]) (zm := 0) rfl (by kernel_rfl) (by kernel_rfl) rfl rfl hx16 (by kernel_rfl) (by kernel_rfl) (by kernel_rfl) (fun _ _ => rfl) ?_)
 rintro _ a rfl hF
 refine wp 5 [0, 1, 2, 3, 9, 10] hF fun a hF => ?_
 refine wpListIn_nil ?_
 refine hK15 _ _ ?_
 refine wpIn_seq_k fun K17 hK17 => ?_
 refine wpIn_seq_k fun K18 hK18 => ?_
 refine wpIn_region_lit ?_
 refine wp 2 [0, 1, 2, 3, 9, 31] hF fun a hF => ?_
 refine wpListIn_nil ?_
 refine hK18 _ _ ?_
 refine bif_split H (fun hb H => ?_) (fun hb H => ?_)
 refine cond_t hF (by kernel_rfl) hb ?_
 refine wpIn_seq_k fun K19 hK19 => ?_
 refine wpIn_region_lit ?_
 refine wp 1 [8] hF fun a hF => ?_
 refine wpListIn_nil ?_
 refine hK19 _ _ ?_
 refine wpIn_ret ?_
 cases H
 exact ret_done hF hS (res1 Try.results97 (rvt hF)) ⟨p2, m3, c4, rfl, hS.sp [0, 1] [0]⟩
 refine cond_f hF (by kernel_rfl) hb ?_
 refine wpIn_skip ?_
 refine hK17 _ _ ?_
 refine wpIn_seq_k fun K20 hK20 => ?_
 refine wpIn_seq_k fun K21 hK21 => ?_
 refine wpIn_region_lit ?_
 refine wp 3 [0, 1, 2, 3, 34] hF fun a hF => ?_
 refine wpListIn_nil ?_
 refine hK21 _ _ ?_
 refine bif_split H (fun hb H => ?_) (fun hb H => ?_)
 refine cond_t hF (by kernel_rfl) hb ?_
 refine wpIn_seq_k fun K22 hK22 => ?_
 refine wpIn_region_lit ?_
 refine wp 1 [8] hF fun a hF => ?_
 refine wpListIn_nil ?_
 refine hK22 _ _ ?_
 refine wpIn_ret ?_
 cases H
 exact ret_done hF hS (res1 Try.results97 (rvt hF)) ⟨p2, m3, c4, rfl, hS.sp [0, 1] [0]⟩
 refine cond_f hF (by kernel_rfl) hb ?_
 refine wpIn_skip ?_
 refine hK20 _ _ ?_
 refine wpIn_seq_k fun K23 hK23 => ?_
 refine wpIn_region_lit ?_
 refine wp 3 [0, 1, 2, 3, 37] hF fun a hF => ?_
 refine wc (wld hF hS 0 1 0 fun a hF => ?_)
 refine wl_pure (L' := [(0, pt b5 0), (2, vu a7), (3, vi a8), (38, .map p2), (39, vu a6)]) 1 [0, 2, 3, 38, 39] hF (by kernel_rfl) fun a hF => ?_
 refine wc (wo_delete (KT := 25) (E := 25) (kt := (kInt .u64)) (agg := false) (t := (fInt .u64).ty) hF hS (by kernel_rfl) 1 0 (k := a6) rfl (by kernel_rfl) (by kernel_rfl) rfl rfl (by kernel_rfl) (by kernel_rfl) fun m24 a w hsub hF hS => ?_)
 refine wpListIn_nil ?_
 refine hK23 _ _ ?_
 refine wpIn_seq_k fun K25 hK25 => ?_
 refine wpIn_region_lit ?_
 refine wp 4 [2, 3, 41, 44] hF fun a hF => ?_
 refine wc (wld hF hS 0 0 0 fun a hF => ?_)
 refine wp 3 [41, 47, 48] hF fun a hF => ?_
 refine bind_split H (fun x26 hx26 H => ?_)
 refine wc (wo_callP hF hS (by kernel_rfl) (by kernel_rfl) (C_hlc_Raise N hS.fresh (if a7 > a1.clock then a7 else a1.clock) a8  ((hS.pick [] (by kernel_rfl)).ro) hx26) ?_)
 rintro _ κ w a ⟨rfl, hR, hN⟩ hF hS hO
 refine wp 5 [50, 53] hF fun a hF => ?_
 refine wc (wst hF hS 0 0 1 [su x26.1] (sgN 1 sgNil) fun a w hF hS => ?_)
 refine wpListIn_nil ?_
 refine hK25 _ _ ?_
 refine wpIn_seq_k fun K27 hK27 => ?_
 refine wpIn_region_lit ?_
 refine wp 1 [8] hF fun a hF => ?_
 refine wpListIn_nil ?_
 refine hK27 _ _ ?_
 refine wpIn_ret ?_
 cases H
 exact ret_done hF hS (res1 Try.results97 (rvt hF)) ⟨p2, m24, c4, rfl, hS.sp [0, 1] [0]⟩
set_option maxRecDepth 20000 in
set_option maxHeartbeats 8000000 in
theorem C_part_Part_See (N : Nat) {Ms : List Nat} {κ0 : Gh} {w0 : World} (a1 : T_part_Part) (a6 : Int) (p2 : Option Nat) (m3 : Array MapEntry) (c4 : Nat) (b5 : Nat) (hB : SB Ms κ0 w0 [.box b5 174 [su a1.clock, (1, [.map p2])], .ext (objX p2 (.map m3 c4))] [Map.mp (kInt .u64) false (fInt .u64).ty p2 m3 c4 a1.open_]) {r : (T_part_Part)} (H : M.part_Part_See N a1 a6 = some r) :
    Calls Try.prog 101 #[pt b5 0, vu a6] w0 (Post Ms κ0 w0 fun v κ w => ∃ (p8 : Option Nat) (m9 : Array MapEntry) (c10 : Nat), v = .tuple #[] ∧ SS Ms κ0 w0 κ w [.box b5 174 [su r.clock, (1, [.map p8])], .ext (objX p8 (.map m9 c10))] [Map.mp (kInt .u64) false (fInt .u64).ty p8 m9 c10 r.open_]) := by
 have hS := hB.hS
 have hfr := hS.fresh
 refine enter (N := (15)) (L := [(0, pt b5 0), (1, vu a6)]) Try.func101 rfl Try.ntmps101 (show 2 ≤ (15) by decide) rfl fun a hF => ?_
 unfold M.part_Part_See at H
 refine wpIn_seq_k fun K7 hK7 => ?_
 refine wpIn_region_lit ?_
 refine wp 2 [0, 1, 5] hF fun a hF => ?_
 refine wpListIn_nil ?_
 refine hK7 _ _ ?_
 refine cond_t hF (by kernel_rfl) rfl ?_
 refine wpIn_region_lit ?_
 refine wp 4 [1, 6, 9] hF fun a hF => ?_
 refine wc (wld hF hS 0 0 0 fun a hF => ?_)
 refine wp 4 [12, 14] hF fun a hF => ?_
 refine wc (wst hF hS 0 0 1 [su (if a6 > a1.clock then a6 else a1.clock)] (sgN 1 sgNil) fun a w hF hS => ?_)
 refine wpListIn_nil ?_
 cases H
 exact ret_done hF hS (res0 Try.results101 ) ⟨p2, m3, c4, rfl, hS.sp [0, 1] [0]⟩
set_option maxRecDepth 20000 in
set_option maxHeartbeats 8000000 in
theorem C_part_Part_Clock (N : Nat) {Ms : List Nat} {κ0 : Gh} {w0 : World} (a1 : T_part_Part) (p2 : Option Nat) (m3 : Array MapEntry) (c4 : Nat) (b5 : Nat) (hB : SB Ms κ0 w0 [.box b5 174 [su a1.clock, (1, [.map p2])], .ext (objX p2 (.map m3 c4))] [Map.mp (kInt .u64) false (fInt .u64).ty p2 m3 c4 a1.open_]) {r : (Int)} (H : M.part_Part_Clock N a1 = some r) :
    Calls Try.prog 100 #[pt b5 0] w0 (Post Ms κ0 w0 fun v κ w => v = vu r ∧ SS Ms κ0 w0 κ w [.box b5 174 [su a1.clock, (1, [.map p2])], .ext (objX p2 (.map m3 c4))] []) := by
 have hS := hB.hS
 have hfr := hS.fresh
 refine enter (N := (9)) (L := [(0, pt b5 0)]) Try.func100 rfl Try.ntmps100 (show 1 ≤ (9) by decide) rfl fun a hF => ?_
 unfold M.part_Part_Clock at H
 refine wpIn_seq_k fun K6 hK6 => ?_
 refine wpIn_region_lit ?_
 refine wp 1 [0] hF fun a hF => ?_
 refine wpListIn_nil ?_
 refine hK6 _ _ ?_
 refine wpIn_seq_k fun K7 hK7 => ?_
 refine wpIn_seq_k fun K8 hK8 => ?_
 refine wpIn_region_lit ?_
 refine wp 2 [0, 4] hF fun a hF => ?_
 refine wpListIn_nil ?_
 refine hK8 _ _ ?_
 refine cond_f hF (by kernel_rfl) rfl ?_
 refine wpIn_skip ?_
 refine hK7 _ _ ?_
 refine wpIn_seq_k fun K9 hK9 => ?_
 refine wpIn_region_lit ?_
 refine wp 3 [7] hF fun a hF => ?_
 refine wc (wld hF hS 0 0 0 fun a hF => ?_)
 refine wp 1 [2] hF fun a hF => ?_
 refine wpListIn_nil ?_
 refine hK9 _ _ ?_
 refine wpIn_ret ?_
 cases H
 exact ret_done hF hS (res1 Try.results100 (rvt hF)) ⟨rfl, hS.sp [0, 1] []⟩
set_option maxRecDepth 20000 in
set_option maxHeartbeats 8000000 in
theorem C_part_Part_Open (N : Nat) {Ms : List Nat} {κ0 : Gh} {w0 : World} (a1 : T_part_Part) (p2 : Option Nat) (m3 : Array MapEntry) (c4 : Nat) (b5 : Nat) (hB : SB Ms κ0 w0 [.box b5 174 [su a1.clock, (1, [.map p2])], .ext (objX p2 (.map m3 c4))] [Map.mp (kInt .u64) false (fInt .u64).ty p2 m3 c4 a1.open_]) {r : (Int)} (H : M.part_Part_Open N a1 = some r) :
    Calls Try.prog 104 #[pt b5 0] w0 (Post Ms κ0 w0 fun v κ w => v = vi r ∧ SS Ms κ0 w0 κ w [.box b5 174 [su a1.clock, (1, [.map p2])], .ext (objX p2 (.map m3 c4))] []) := by
 have hS := hB.hS
 have hfr := hS.fresh
 refine enter (N := (10)) (L := [(0, pt b5 0)]) Try.func104 rfl Try.ntmps104 (show 1 ≤ (10) by decide) rfl fun a hF => ?_
 unfold M.part_Part_Open at H
 refine wpIn_seq_k fun K6 hK6 => ?_
 refine wpIn_region_lit ?_
 refine wp 1 [0] hF fun a hF => ?_
 refine wpListIn_nil ?_
 refine hK6 _ _ ?_
 refine wpIn_seq_k fun K7 hK7 => ?_
 refine wpIn_seq_k fun K8 hK8 => ?_
 refine wpIn_region_lit ?_
 refine wp 2 [0, 4] hF fun a hF => ?_
 refine wpListIn_nil ?_
 refine hK8 _ _ ?_
 refine cond_f hF (by kernel_rfl) rfl ?_
 refine wpIn_skip ?_
 refine hK7 _ _ ?_
 refine wpIn_seq_k fun K9 hK9 => ?_
 refine wpIn_region_lit ?_
 refine wl_pure (L' := [(7, pt b5 1)]) 3 [7] hF (by kernel_rfl) fun a hF => ?_
 refine wc (wld hF hS 0 1 0 fun a hF => ?_)
 refine wc (wo_lenMap (KT := 25) (E := 25) (kt := (kInt .u64)) (agg := false) (t := (fInt .u64).ty) hF hS (by kernel_rfl) 1 0 rfl (by kernel_rfl) rfl rfl (by kernel_rfl) fun a hF => ?_)
 refine wp 1 [2] hF fun a hF => ?_
 refine wpListIn_nil ?_
 refine hK9 _ _ ?_
 refine wpIn_ret ?_
 cases H
 exact ret_done hF hS (res1 Try.results104 (rvt hF)) ⟨rfl, hS.sp [0, 1] []⟩
end Go.Cf
