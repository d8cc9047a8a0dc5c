/- The walks: each function returns what its model says. Printed by a program of ours. -/
import Derived.Test.YteeafoagaaedcaaZMtT
import Derived.Test.YteeafoagaaedcaaZWs3
import Derived.Test.YteeafoagaaedcaaZWt1
import Derived.Test.YteeafoagaaedcaaZWt2
import Derived.Test.YteeafoagaaedcaaZWt4
namespace Go.Cf
open Go Go.Proofs
set_option linter.unusedVariables false
set_option maxRecDepth 20000 in
set_option maxHeartbeats 8000000 in
theorem C_law10_StoreTwice (N : Nat) {κ0 : Gh} {w0 : World} (hfr : Fresh κ0 w0) (a1 : (List T_api_Ver)) (a4 : Int) (p2 : Option Addr) (c3 : Nat) (hR : ∀ m ∈ ([Ro.mp f_api_Ver.ty p2 c3 a1] : List MP), m.p κ0 w0) {r : (Bool)} (H : M.law10_StoreTwice N a1 a4 = some r) :
    Calls Try.prog 10 #[.slice p2 (a1).length c3, vu a4] w0 (Post [] κ0 w0 fun v κ w => v = vb r ∧ (∀ m ∈ ([] : List MP), m.p κ w) ∧ NewC w0 κ w []) := by
 have hS := SS.start hfr hR
 refine enter (N := (35)) (L := [(0, .slice p2 (a1).length c3), (1, vu a4)]) Try.func10 rfl Try.ntmps10 (show 2 ≤ (35) by decide) rfl fun a hF => ?_
 unfold M.law10_StoreTwice at H
 refine wpIn_seq_k fun K5 hK5 => ?_
 refine wpIn_region_lit ?_
 refine wp 1 [0, 1] hF fun a hF => ?_
 refine wpListIn_nil ?_
 refine hK5 _ _ ?_
 refine wpIn_seq_k fun K6 hK6 => ?_
 refine wpIn_region_lit ?_
 refine bind_split H (fun x7 hx7 H => ?_)
 refine wc (wcS 0 [] hF hS (fun hS => C_store_New N    ⟨rfl, hS.pick [] (by kernel_rfl)⟩ hx7) ?_)
 rintro _ κ w a ⟨b8, p9, m10, c11, rfl, h2⟩ hF hB
 have hS := hB _ _ h2
 refine wp 1 [0, 1, 5] hF fun a hF => ?_
 refine wpListIn_nil ?_
 refine hK6 _ _ ?_
 refine wpIn_seq_k fun K12 hK12 => ?_
 refine wpIn_seq_k fun K13 hK13 => ?_
 refine wpIn_region_lit ?_
 refine wp 2 [0, 1, 5, 10] hF fun a hF => ?_
 refine wpListIn_nil ?_
 refine hK13 _ _ ?_
 refine cond_f hF (by kernel_rfl) rfl ?_
 refine wpIn_skip ?_
 refine hK12 _ _ ?_
 refine wpIn_seq_k fun K14 hK14 => ?_
 refine wpIn_region_lit ?_
 refine wp 2 [0, 5, 11, 12] hF fun a hF => ?_
 refine bind_split H (fun x15 hx15 H => ?_)
 refine wc (wcS 2 [0, 1] hF hS (fun hS => C_store_Store_Trim N (T_store_Store.mk x7.chains x7.floor) a4 p9 m10 c11 b8 ⟨rfl, hS.pick [0] (by kernel_rfl)⟩ hx15) ?_)
 rintro _ κ w a ⟨p16, m17, c18, rfl, h2⟩ hF hB
 have hS := (hB _ _ h2).cC (C' := [.box b8 130 [(1, [.map p16]), su x15.2.floor], .ext (objX p16 (.map m17 c18))])
 refine wpListIn_nil ?_
 refine hK14 _ _ ?_
 refine wpIn_seq_k fun K19 hK19 => ?_
 refine wpIn_region_lit ?_
 refine wp 2 [0, 5, 14, 15] hF fun a hF => ?_
 refine bind_split H (fun x20 hx20 H => ?_)
 refine wc (wo_callP hF hS (by kernel_rfl) (by kernel_rfl) (C_law10_few N hS.fresh a1 40 p2 c3 ((hS.pick [2] (by kernel_rfl)).ro) hx20) ?_)
 rintro _ κ w a ⟨p21, c22, rfl, hR, hN⟩ hF hS hO
 have hS := hS.adds hR
 refine bind_split H (fun x23 hx23 H => ?_)
 refine wc (wcS 2 [0, 1] hF hS (fun hS => C_store_Store_Load N (T_store_Store.mk x15.2.chains x15.2.floor) x20 p16 m17 c18 p21 c22 b8 ⟨rfl, hS.pick [1, 0] (by kernel_rfl)⟩ hx23) ?_)
 rintro _ κ w a ⟨p24, m25, c26, rfl, h2⟩ hF hB
 have hS := hB _ _ h2
 refine wpListIn_nil ?_
 refine hK19 _ _ ?_
 refine wpIn_seq_k fun K27 hK27 => ?_
 refine wpIn_region_lit ?_
 refine wp 1 [0, 5, 18] hF fun a hF => ?_
 refine bind_split H (fun x28 hx28 H => ?_)
 refine wc (wcS 2 [0, 1] hF hS (fun hS => C_law10_All N (T_store_Store.mk x23.2.chains x23.2.floor) (ByteArray.mk #[]) (ByteArray.mk #[]) p24 m25 c26 b8 ⟨rfl, hS.pick [0] (by kernel_rfl)⟩ hx28) ?_)
 rintro _ κ w a ⟨p29, c30, rfl, h2⟩ hF hB
 have hS := (hB _ _ h2).cC (C' := [.box b8 130 [(1, [.map p24]), su x23.2.floor], .ext (objX p24 (.map m25 c26)), .tok p29 37 6 (x28).length c30])
 refine wp 1 [0, 5, 6] hF fun a hF => ?_
 refine wpListIn_nil ?_
 refine hK27 _ _ ?_
 refine wpIn_seq_k fun K31 hK31 => ?_
 refine wpIn_region_lit ?_
 refine wp 2 [5, 6, 20, 21] hF fun a hF => ?_
 refine bind_split H (fun x32 hx32 H => ?_)
 refine wc (wo_callP hF hS (by kernel_rfl) (by kernel_rfl) (C_law10_few N hS.fresh a1 40 p2 c3 ((hS.pick [5] (by kernel_rfl)).ro) hx32) ?_)
 rintro _ κ w a ⟨p33, c34, rfl, hR, hN⟩ hF hS hO
 have hS := hS.adds hR
 refine bind_split H (fun x35 hx35 H => ?_)
 refine wc (wcS 2 [0, 1, 2] hF hS (fun hS => C_store_Store_Load N (T_store_Store.mk x23.2.chains x23.2.floor) x32 p24 m25 c26 p33 c34 b8 ⟨rfl, hS.pick [2, 0] (by kernel_rfl)⟩ hx35) ?_)
 rintro _ κ w a ⟨p36, m37, c38, rfl, h2⟩ hF hB
 have hS := hB _ _ h2
 refine wp 1 [5, 6, 7] hF fun a hF => ?_
 refine wpListIn_nil ?_
 refine hK31 _ _ ?_
 refine wpIn_seq_k fun K39 hK39 => ?_
 refine wpIn_region_lit ?_
 refine bind_split H (fun v41 hv41 H => ?_)
 refine wl_join (fun a w => ∃ κ : Gh, Fr (35) [] [(4, vb v41)] a ∧ SS [] κ0 w0 κ w [] [] ∧ True) ?_ ?_
 refine bind_split hv41 (fun x42 hx42 hv41 => ?_)
 refine wc (wo_callP hF hS (by kernel_rfl) (by kernel_rfl) (C_law10_awake N hS.fresh   ((hS.pick [] (by kernel_rfl)).ro) hx42) ?_)
 rintro _ κ w a ⟨rfl, hR, hN⟩ hF hS hO
 refine wp 1 [5, 6, 7, 25] hF fun a hF => ?_
 refine bif_split hv41 (fun hb hv41 => ?_) (fun hb hv41 => ?_)
 have hF := hF.boolv 25 (by kernel_rfl) hb
 refine wp 4 [5, 6, 29] hF fun a hF => ?_
 refine bif_split hv41 (fun hb hv41 => ?_) (fun hb hv41 => ?_)
 have hF := hF.boolv 29 (by kernel_rfl) hb
 refine wp 1 [6, 29, 30] hF fun a hF => ?_
 refine bind_split hv41 (fun x43 hx43 hv41 => ?_)
 refine wcg hF (wcS 2 [0, 1, 2] hF hS (fun hS => C_law10_All N (T_store_Store.mk x35.2.chains x35.2.floor) (ByteArray.mk #[]) (ByteArray.mk #[]) p36 m37 c38 b8 ⟨rfl, hS.pick [0] (by kernel_rfl)⟩ hx43) ?_)
 rintro _ κ w a ⟨p44, c45, rfl, h2⟩ hF hB
 have hS := (hB _ _ h2).cC (C' := [.box b8 130 [(1, [.map p36]), su x35.2.floor], .ext (objX p36 (.map m37 c38)), .tok p44 37 6 (x43).length c45, .tok p29 37 6 (x28).length c30])
 refine wp 1 [29, 31, 32] hF fun a hF => ?_
 refine bind_split hv41 (fun x46 hx46 hv41 => ?_)
 refine wcg hF (wo_callP hF hS (by kernel_rfl) (by kernel_rfl) (C_ref04_SameVers N hS.fresh x43 x28 p44 c45 p29 c30 ((hS.pick [0, 3] (by kernel_rfl)).ro) hx46) ?_)
 rintro _ κ w a ⟨rfl, hR, hN⟩ hF hS hO
 refine wp 2 [4] hF fun a hF => ?_
 refine wpListIn_nil ?_
 cases hv41
 exact ⟨_, hF.kp [4], hS.sp [] [], trivial⟩
 have hF := hF.boolv 29 (by kernel_rfl) hb
 refine wp 6 [4] hF fun a hF => ?_
 refine wpListIn_nil ?_
 cases hv41
 exact ⟨_, hF.kp [4], hS.sp [] [], trivial⟩
 have hF := hF.boolv 25 (by kernel_rfl) hb
 refine wp 10 [4] hF fun a hF => ?_
 refine wpListIn_nil ?_
 cases hv41
 exact ⟨_, hF.kp [4], hS.sp [] [], trivial⟩
 rintro a w ⟨κ, hF, hS, -⟩
 refine hK39 _ _ ?_
 refine wpIn_ret ?_
 cases H
 exact (ret_done hF hS (res1 Try.results10 (rvt hF)) ⟨rfl, (hS.pick [] (by kernel_rfl)).ro, hS.newC [] (by decide) (by kernel_rfl)⟩)
end Go.Cf
