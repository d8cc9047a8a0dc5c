/- The walks: each function returns what its model says. Printed by a program of ours. -/
import Derived.Test.YteeafoagaaedcaaZMt4
import Derived.Test.YteeafoagaaedcaaZWt1
import Derived.Test.YteeafoagaaedcaaZWt2
namespace Go.Cf
open Go Go.Proofs
set_option linter.unusedVariables false
set_option maxRecDepth 20000 in
set_option maxHeartbeats 8000000 in
theorem C_law10_awake (N : Nat) {κ0 : Gh} {w0 : World} (hfr : Fresh κ0 w0)   (hR : ∀ m ∈ ([] : List MP), m.p κ0 w0) {r : (Bool)} (H : M.law10_awake N  = some r) :
    Calls Try.prog 45 #[] w0 (Post [] κ0 w0 fun v κ w => v = vb r ∧ (∀ m ∈ ([] : List MP), m.p κ w) ∧ NewC w0 κ w []) := by
 have hS := SS.start hfr hR
 refine enter (N := (30)) (L := []) Try.func45 rfl Try.ntmps45 (show 0 ≤ (30) by decide) rfl fun a hF => ?_
 unfold M.law10_awake at H
 refine wpIn_seq_k fun K1 hK1 => ?_
 refine wpIn_region_lit ?_
 refine wp 1 [] hF fun a hF => ?_
 refine wpListIn_nil ?_
 refine hK1 _ _ ?_
 refine wpIn_seq_k fun K2 hK2 => ?_
 refine wpIn_region_lit ?_
 refine bind_split H (fun x3 hx3 H => ?_)
 refine wc (wcS 0 [] hF hS (fun hS => C_store_New N    ⟨rfl, hS.pick [] (by kernel_rfl)⟩ hx3) ?_)
 rintro _ κ w a ⟨b4, p5, m6, c7, rfl, h2⟩ hF hB
 have hS := hB _ _ h2
 refine wp 1 [1] hF fun a hF => ?_
 refine wpListIn_nil ?_
 refine hK2 _ _ ?_
 refine wpIn_seq_k fun K8 hK8 => ?_
 refine wpIn_seq_k fun K9 hK9 => ?_
 refine wpIn_region_lit ?_
 refine wp 5 [1, 8, 9, 10] hF fun a hF => ?_
 refine bind_split H (fun x10 hx10 H => ?_)
 refine wcg hF (wcS 2 [0, 1] hF hS (fun hS => C_store_Store_Put N (T_store_Store.mk x3.chains x3.floor) (T_api_Ver.mk (ByteArray.mk #[97]) ByteArray.empty false 3 0 0) p5 m6 c7 b4 ⟨rfl, hS.pick [0] (by kernel_rfl)⟩ hx10) ?_)
 rintro _ κ w a ⟨p11, m12, c13, rfl, h2⟩ hF hB
 have hS := (hB _ _ h2).cC (C' := [.box b4 130 [(1, [.map p11]), su x10.2.floor], .ext (objX p11 (.map m12 c13))])
 refine wp 2 [1, 13] hF fun a hF => ?_
 refine wpListIn_nil ?_
 refine hK9 _ _ ?_
 refine bif_split H (fun hb H => ?_) (fun hb H => ?_)
 refine cond_t hF (by kernel_rfl) hb ?_
 refine wpIn_seq_k fun K14 hK14 => ?_
 refine wpIn_region_lit ?_
 refine wp 1 [0] hF fun a hF => ?_
 refine wpListIn_nil ?_
 refine hK14 _ _ ?_
 refine wpIn_ret ?_
 cases H
 exact (ret_done hF hS (res1 Try.results45 (rvt hF)) ⟨rfl, (hS.pick [] (by kernel_rfl)).ro, hS.newC [] (by decide) (by kernel_rfl)⟩)
 refine cond_f hF (by kernel_rfl) hb ?_
 refine wpIn_skip ?_
 refine hK8 _ _ ?_
 refine wpIn_seq_k fun K15 hK15 => ?_
 refine wpIn_region_lit ?_
 refine wp 1 [15] hF fun a hF => ?_
 refine bind_split H (fun x16 hx16 H => ?_)
 refine wc (wcS 2 [0, 1] hF hS (fun hS => C_store_Store_Get N (T_store_Store.mk x10.2.chains x10.2.floor) (ByteArray.mk #[97]) 3 p11 m12 c13 b4 ⟨rfl, hS.pick [0] (by kernel_rfl)⟩ hx16) ?_)
 rintro _ κ w a ⟨rfl, h2⟩ hF hB
 have hS := hB _ _ h2
 refine wp 4 [17, 18, 19] hF fun a hF => ?_
 refine wc (wal hF hS [sg ByteArray.empty, sg ByteArray.empty, sb false, su 0, si 0, si 0] (sgN 6 sgNil) fun b17 a w hF hS => ?_)
 refine wc (wst hF hS 0 0 6 [sg x16.1.Key, sg x16.1.Val, sb x16.1.Gone, su x16.1.TS, si x16.1.DC, si x16.1.Tx] (sgN 6 sgNil) fun a w hF hS => ?_)
 refine wp 2 [2, 3, 4] hF fun a hF => ?_
 refine wpListIn_nil ?_
 refine hK15 _ _ ?_
 refine wpIn_seq_k fun K18 hK18 => ?_
 refine wpIn_region_lit ?_
 refine bind_split H (fun v20 hv20 H => ?_)
 refine wl_join (fun a w => ∃ κ : Gh, Fr (30) [] [(0, vb v20)] a ∧ SS [] κ0 w0 κ w [] [] ∧ True) ?_ ?_
 refine wp 2 [2, 4, 21] hF fun a hF => ?_
 refine bif_split hv20 (fun hb hv20 => ?_) (fun hb hv20 => ?_)
 have hF := hF.boolv 21 (by kernel_rfl) hb
 refine wp 4 [2, 25] hF fun a hF => ?_
 refine bif_split hv20 (fun hb hv20 => ?_) (fun hb hv20 => ?_)
 have hF := hF.boolv 25 (by kernel_rfl) hb
 refine wp 1 [25, 26] hF fun a hF => ?_
 refine wcg hF (wld hF hS 0 3 0 fun a hF => ?_)
 refine wp 3 [0] hF fun a hF => ?_
 refine wpListIn_nil ?_
 cases hv20
 exact ⟨_, hF.kp [0], hS.sp [] [], trivial⟩
 have hF := hF.boolv 25 (by kernel_rfl) hb
 refine wp 5 [0] hF fun a hF => ?_
 refine wpListIn_nil ?_
 cases hv20
 exact ⟨_, hF.kp [0], hS.sp [] [], trivial⟩
 have hF := hF.boolv 21 (by kernel_rfl) hb
 refine wp 9 [0] hF fun a hF => ?_
 refine wpListIn_nil ?_
 cases hv20
 exact ⟨_, hF.kp [0], hS.sp [] [], trivial⟩
 rintro a w ⟨κ, hF, hS, -⟩
 refine hK18 _ _ ?_
 refine wpIn_ret ?_
 cases H
 exact (ret_done hF hS (res1 Try.results45 (rvt hF)) ⟨rfl, (hS.pick [] (by kernel_rfl)).ro, hS.newC [] (by decide) (by kernel_rfl)⟩)
end Go.Cf
