/- The walks: each function returns what its model says. Printed by a program of ours. -/
import Derived.Test.YteeafoagaaedcaaZMt3
import Derived.Test.YteeafoagaaedcaaZWt1
namespace Go.Cf
open Go Go.Proofs
set_option linter.unusedVariables false
set_option maxRecDepth 20000 in
set_option maxHeartbeats 8000000 in
theorem C_ref10_Check (N : Nat) {κ0 : Gh} {w0 : World} (hfr : Fresh κ0 w0) (a1 : T_api_Ver)  (hR : ∀ m ∈ ([] : List MP), m.p κ0 w0) {r : (Int)} (H : M.ref10_Check N a1 = some r) :
    Calls Try.prog 54 #[.agg (flat [sg a1.Key, sg a1.Val, sb a1.Gone, su a1.TS, si a1.DC, si a1.Tx]).toArray] w0 (Post [] κ0 w0 fun v κ w => v = vi r ∧ (∀ m ∈ ([] : List MP), m.p κ w) ∧ NewC w0 κ w []) := by
 have hS := SS.start hfr hR
 refine enter (N := (45)) (L := [(0, .agg (flat [sg a1.Key, sg a1.Val, sb a1.Gone, su a1.TS, si a1.DC, si a1.Tx]).toArray)]) Try.func54 rfl Try.ntmps54 (show 1 ≤ (45) by decide) rfl fun a hF => ?_
 unfold M.ref10_Check at H
 refine wpIn_seq_k fun K2 hK2 => ?_
 refine wpIn_region_lit ?_
 refine wc (wbx hF hS [sg a1.Key, sg a1.Val, sb a1.Gone, su a1.TS, si a1.DC, si a1.Tx] (sgN 6 sgNil) fun b3 a w hF hS => ?_)
 refine wp 1 [1] hF fun a hF => ?_
 refine wpListIn_nil ?_
 refine hK2 _ _ ?_
 refine wpIn_seq_k fun K4 hK4 => ?_
 refine wpIn_seq_k fun K5 hK5 => ?_
 refine wpIn_region_lit ?_
 refine bind_split H (fun v7 hv7 H => ?_)
 refine wl_join (fun a w => ∃ κ : Gh, Fr (45) [] [(1, pt b3 0), (12, vb v7)] a ∧ SS [] κ0 w0 κ w [.box b3 37 [sg a1.Key, sg a1.Val, sb a1.Gone, su a1.TS, si a1.DC, si a1.Tx]] [] ∧ True) ?_ ?_
 refine wp 1 [1, 3] hF fun a hF => ?_
 refine wc (wld hF hS 0 0 0 fun a hF => ?_)
 refine wp 3 [1, 7] hF fun a hF => ?_
 refine bif_split hv7 (fun hb hv7 => ?_) (fun hb hv7 => ?_)
 have hF := hF.boolv 7 (by kernel_rfl) hb
 refine wp 5 [1, 12] hF fun a hF => ?_
 refine wpListIn_nil ?_
 cases hv7
 exact ⟨_, hF.kp [1, 12], hS.sp [0] [], trivial⟩
 have hF := hF.boolv 7 (by kernel_rfl) hb
 refine wp 1 [1, 7, 8] hF fun a hF => ?_
 refine wcg hF (wld hF hS 0 1 0 fun a hF => ?_)
 refine wp 3 [1, 12] hF fun a hF => ?_
 refine wpListIn_nil ?_
 cases hv7
 exact ⟨_, hF.kp [1, 12], hS.sp [0] [], trivial⟩
 rintro a w ⟨κ, hF, hS, -⟩
 refine hK5 _ _ ?_
 refine bif_split H (fun hb H => ?_) (fun hb H => ?_)
 refine cond_t hF (by kernel_rfl) hb ?_
 refine wpIn_seq_k fun K8 hK8 => ?_
 refine wpIn_region_lit ?_
 refine wp 1 [2] hF fun a hF => ?_
 refine wpListIn_nil ?_
 refine hK8 _ _ ?_
 refine wpIn_ret ?_
 cases H
 exact (ret_done hF hS (res1 Try.results54 (rvt hF)) ⟨rfl, (hS.pick [] (by kernel_rfl)).ro, hS.newC [] (by decide) (by kernel_rfl)⟩)
 refine cond_f hF (by kernel_rfl) hb ?_
 refine wpIn_skip ?_
 refine hK4 _ _ ?_
 refine wpIn_seq_k fun K9 hK9 => ?_
 refine wpIn_seq_k fun K10 hK10 => ?_
 refine wpIn_region_lit ?_
 refine bind_split H (fun v12 hv12 H => ?_)
 refine wl_join (fun a w => ∃ κ : Gh, Fr (45) [] [(44, vb v12)] a ∧ SS [] κ0 w0 κ w [] [] ∧ True) ?_ ?_
 refine wp 1 [1, 13] hF fun a hF => ?_
 refine wc (wld hF hS 0 0 0 fun a hF => ?_)
 refine wp 2 [1, 16] hF fun a hF => ?_
 refine bif_split hv12 (fun hb hv12 => ?_) (fun hb hv12 => ?_)
 have hF := hF.boolv 16 (by kernel_rfl) hb
 refine wp 28 [44] hF fun a hF => ?_
 refine wpListIn_nil ?_
 cases hv12
 exact ⟨_, hF.kp [44], hS.sp [] [], trivial⟩
 have hF := hF.boolv 16 (by kernel_rfl) hb
 refine wp 1 [1, 16, 17] hF fun a hF => ?_
 refine wcg hF (wld hF hS 0 2 0 fun a hF => ?_)
 refine wp 1 [1, 16, 19] hF fun a hF => ?_
 refine bif_split hv12 (fun hb hv12 => ?_) (fun hb hv12 => ?_)
 have hF := hF.boolv 19 (by kernel_rfl) hb
 refine wp 1 [1, 16, 19, 20] hF fun a hF => ?_
 refine wcg hF (wld hF hS 0 1 0 fun a hF => ?_)
 refine wp 4 [1, 25] hF fun a hF => ?_
 refine bif_split hv12 (fun hb hv12 => ?_) (fun hb hv12 => ?_)
 have hF := hF.boolv 25 (by kernel_rfl) hb
 refine wp 19 [44] hF fun a hF => ?_
 refine wpListIn_nil ?_
 cases hv12
 exact ⟨_, hF.kp [44], hS.sp [] [], trivial⟩
 have hF := hF.boolv 25 (by kernel_rfl) hb
 refine wp 1 [1, 25, 26] hF fun a hF => ?_
 refine wcg hF (wld hF hS 0 4 0 fun a hF => ?_)
 refine wp 3 [1, 30] hF fun a hF => ?_
 refine bif_split hv12 (fun hb hv12 => ?_) (fun hb hv12 => ?_)
 have hF := hF.boolv 30 (by kernel_rfl) hb
 refine wp 14 [44] hF fun a hF => ?_
 refine wpListIn_nil ?_
 cases hv12
 exact ⟨_, hF.kp [44], hS.sp [] [], trivial⟩
 have hF := hF.boolv 30 (by kernel_rfl) hb
 refine wp 1 [1, 30, 31] hF fun a hF => ?_
 refine wcg hF (wld hF hS 0 4 0 fun a hF => ?_)
 refine wp 3 [1, 35] hF fun a hF => ?_
 refine bif_split hv12 (fun hb hv12 => ?_) (fun hb hv12 => ?_)
 have hF := hF.boolv 35 (by kernel_rfl) hb
 refine wp 9 [44] hF fun a hF => ?_
 refine wpListIn_nil ?_
 cases hv12
 exact ⟨_, hF.kp [44], hS.sp [] [], trivial⟩
 have hF := hF.boolv 35 (by kernel_rfl) hb
 refine wp 1 [1, 35, 36] hF fun a hF => ?_
 refine wcg hF (wld hF hS 0 5 0 fun a hF => ?_)
 refine wp 3 [1, 40] hF fun a hF => ?_
 refine bif_split hv12 (fun hb hv12 => ?_) (fun hb hv12 => ?_)
 have hF := hF.boolv 40 (by kernel_rfl) hb
 refine wp 4 [44] hF fun a hF => ?_
 refine wpListIn_nil ?_
 cases hv12
 exact ⟨_, hF.kp [44], hS.sp [] [], trivial⟩
 have hF := hF.boolv 40 (by kernel_rfl) hb
 refine wp 1 [40, 41] hF fun a hF => ?_
 refine wcg hF (wld hF hS 0 5 0 fun a hF => ?_)
 refine wp 2 [44] hF fun a hF => ?_
 refine wpListIn_nil ?_
 cases hv12
 exact ⟨_, hF.kp [44], hS.sp [] [], trivial⟩
 have hF := hF.boolv 19 (by kernel_rfl) hb
 refine wp 7 [1, 25, 26] hF fun a hF => ?_
 refine wcg hF (wld hF hS 0 4 0 fun a hF => ?_)
 refine wp 3 [1, 30] hF fun a hF => ?_
 refine bif_split hv12 (fun hb hv12 => ?_) (fun hb hv12 => ?_)
 have hF := hF.boolv 30 (by kernel_rfl) hb
 refine wp 14 [44] hF fun a hF => ?_
 refine wpListIn_nil ?_
 cases hv12
 exact ⟨_, hF.kp [44], hS.sp [] [], trivial⟩
 have hF := hF.boolv 30 (by kernel_rfl) hb
 refine wp 1 [1, 30, 31] hF fun a hF => ?_
 refine wcg hF (wld hF hS 0 4 0 fun a hF => ?_)
 refine wp 3 [1, 35] hF fun a hF => ?_
 refine bif_split hv12 (fun hb hv12 => ?_) (fun hb hv12 => ?_)
 have hF := hF.boolv 35 (by kernel_rfl) hb
 refine wp 9 [44] hF fun a hF => ?_
 refine wpListIn_nil ?_
 cases hv12
 exact ⟨_, hF.kp [44], hS.sp [] [], trivial⟩
 have hF := hF.boolv 35 (by kernel_rfl) hb
 refine wp 1 [1, 35, 36] hF fun a hF => ?_
 refine wcg hF (wld hF hS 0 5 0 fun a hF => ?_)
 refine wp 3 [1, 40] hF fun a hF => ?_
 refine bif_split hv12 (fun hb hv12 => ?_) (fun hb hv12 => ?_)
 have hF := hF.boolv 40 (by kernel_rfl) hb
 refine wp 4 [44] hF fun a hF => ?_
 refine wpListIn_nil ?_
 cases hv12
 exact ⟨_, hF.kp [44], hS.sp [] [], trivial⟩
 have hF := hF.boolv 40 (by kernel_rfl) hb
 refine wp 1 [40, 41] hF fun a hF => ?_
 refine wcg hF (wld hF hS 0 5 0 fun a hF => ?_)
 refine wp 2 [44] hF fun a hF => ?_
 refine wpListIn_nil ?_
 cases hv12
 exact ⟨_, hF.kp [44], hS.sp [] [], trivial⟩
 rintro a w ⟨κ, hF, hS, -⟩
 refine hK10 _ _ ?_
 refine bif_split H (fun hb H => ?_) (fun hb H => ?_)
 refine cond_t hF (by kernel_rfl) hb ?_
 refine wpIn_seq_k fun K13 hK13 => ?_
 refine wpIn_region_lit ?_
 refine wp 1 [2] hF fun a hF => ?_
 refine wpListIn_nil ?_
 refine hK13 _ _ ?_
 refine wpIn_ret ?_
 cases H
 exact (ret_done hF hS (res1 Try.results54 (rvt hF)) ⟨rfl, (hS.pick [] (by kernel_rfl)).ro, hS.newC [] (by decide) (by kernel_rfl)⟩)
 refine cond_f hF (by kernel_rfl) hb ?_
 refine wpIn_skip ?_
 refine hK9 _ _ ?_
 refine wpIn_seq_k fun K14 hK14 => ?_
 refine wpIn_region_lit ?_
 refine wp 1 [2] hF fun a hF => ?_
 refine wpListIn_nil ?_
 refine hK14 _ _ ?_
 refine wpIn_ret ?_
 cases H
 exact (ret_done hF hS (res1 Try.results54 (rvt hF)) ⟨rfl, (hS.pick [] (by kernel_rfl)).ro, hS.newC [] (by decide) (by kernel_rfl)⟩)
end Go.Cf
