/- The walks: each function returns what its model says. Printed by a program of ours. -/
import Derived.Test.YtogjpknjolkjaaaZM1
import Derived.Test.YtogjpknjolkjaaaZW1
import Derived.Test.YtogjpknjolkjaaaZW2c
namespace Go.Cf
open Go Go.Proofs
set_option linter.unusedVariables false
set_option maxRecDepth 20000 in
set_option maxHeartbeats 8000000 in
theorem C_law08_awake (N : Nat) {κ0 : Gh} {w0 : World} (hfr : Fresh κ0 w0)   (hR : ∀ m ∈ ([] : List MP), m.p κ0 w0) {r : (Bool)} (H : M.law08_awake N  = some r) :
    Calls Try.prog 14 #[] w0 (Post [] κ0 w0 fun v κ w => v = vb r ∧ (∀ m ∈ ([] : List MP), m.p κ w) ∧ NewC w0 κ w []) := by
 have hS := SS.start hfr hR
 refine enter (N := (21)) (L := []) Try.func14 rfl Try.ntmps14 (show 0 ≤ (21) by decide) rfl fun a hF => ?_
 unfold M.law08_awake at H
 refine wpIn_seq_k fun K1 hK1 => ?_
 refine wpIn_region_lit ?_
 refine wp 1 [] hF fun a hF => ?_
 refine wpListIn_nil ?_
 refine hK1 _ _ ?_
 refine wpIn_seq_k fun K2 hK2 => ?_
 refine wpIn_region_lit ?_
 refine bind_split H (fun x3 hx3 H => ?_)
 refine wc (wo_callP hF hS (by kernel_rfl) (by kernel_rfl) (C_span_Whole N hS.fresh 0  ((hS.pick [] (by kernel_rfl)).ro) hx3) ?_)
 rintro _ κ w a ⟨p4, c5, p6, c7, rfl, hR, hN⟩ hF hS hO
 have hS := hS.adds hR
 have hS := hS.addC hO hN
 refine bind_split H (fun x8 hx8 H => ?_)
 refine wc (wo_callP hF hS (by kernel_rfl) (by kernel_rfl) (C_span_Split N hS.fresh (T_api_Map.mk x3.Cuts x3.Nodes) 2 0 (ByteArray.mk #[109]) p4 c5 p6 c7 ((hS.pick [0, 1] (by kernel_rfl)).ro) hx8) ?_)
 rintro _ κ w a ⟨p9, c10, p11, c12, rfl, hR, hN⟩ hF hS hO
 have hS := hS.adds hR
 have hS := hS.addC hO hN
 refine wp 3 [6, 7] hF fun a hF => ?_
 refine wc (wal hF hS [sl none 0 0, sl none 0 0] (sgN 2 sgNil) fun b13 a w hF hS => ?_)
 refine wc (wst hF hS 0 0 2 [sl p9 (x8.1.Cuts).length c10, sl p11 (x8.1.Nodes).length c12] (sgN 2 sgNil) fun a w hF hS => ?_)
 refine wp 1 [1, 2] hF fun a hF => ?_
 refine wpListIn_nil ?_
 refine hK2 _ _ ?_
 refine wpIn_seq_k fun K14 hK14 => ?_
 refine wpIn_region_lit ?_
 refine bind_split H (fun v16 hv16 H => ?_)
 refine wl_join (fun a w => ∃ κ : Gh, Fr (21) [] [(0, vb v16)] a ∧ SS [] κ0 w0 κ w [] [] ∧ True) ?_ ?_
 refine wp 3 [1, 10] hF fun a hF => ?_
 refine bif_split hv16 (fun hb hv16 => ?_) (fun hb hv16 => ?_)
 have hF := hF.boolv 10 (by kernel_rfl) hb
 refine wp 1 [1, 10, 11] hF fun a hF => ?_
 refine wcg hF (wld hF hS 0 0 0 fun a hF => ?_)
 refine wp 4 [1, 16] hF fun a hF => ?_
 refine bif_split hv16 (fun hb hv16 => ?_) (fun hb hv16 => ?_)
 have hF := hF.boolv 16 (by kernel_rfl) hb
 refine wcg hF (wls hF hS 0 0 2 fun a hF => ?_)
 refine bind_split hv16 (fun x17 hx17 hv16 => ?_)
 refine wcg hF (wo_callP hF hS (by kernel_rfl) (by kernel_rfl) (C_span_Find N hS.fresh (T_api_Map.mk x8.1.Cuts x8.1.Nodes) (ByteArray.mk #[110]) p9 c10 p11 c12 ((hS.pick [0, 1] (by kernel_rfl)).ro) hx17) ?_)
 rintro _ κ w a ⟨rfl, hR, hN⟩ hF hS hO
 refine wp 3 [0] hF fun a hF => ?_
 refine wpListIn_nil ?_
 cases hv16
 exact ⟨_, hF.kp [0], hS.sp [] [], trivial⟩
 have hF := hF.boolv 16 (by kernel_rfl) hb
 refine wp 5 [0] hF fun a hF => ?_
 refine wpListIn_nil ?_
 cases hv16
 exact ⟨_, hF.kp [0], hS.sp [] [], trivial⟩
 have hF := hF.boolv 10 (by kernel_rfl) hb
 refine wp 11 [0] hF fun a hF => ?_
 refine wpListIn_nil ?_
 cases hv16
 exact ⟨_, hF.kp [0], hS.sp [] [], trivial⟩
 rintro a w ⟨κ, hF, hS, -⟩
 refine hK14 _ _ ?_
 refine wpIn_ret ?_
 cases H
 exact (ret_done hF hS (res1 Try.results14 (rvt hF)) ⟨rfl, (hS.pick [] (by kernel_rfl)).ro, hS.newC [] (by decide) (by kernel_rfl)⟩)
end Go.Cf
