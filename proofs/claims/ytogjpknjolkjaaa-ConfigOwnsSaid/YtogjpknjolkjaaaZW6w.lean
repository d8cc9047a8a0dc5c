/- The walks: each function returns what its model says. Printed by a program of ours. -/
import Derived.Test.YtogjpknjolkjaaaZM1
namespace Go.Cf
open Go Go.Proofs
set_option linter.unusedVariables false
set_option maxRecDepth 20000 in
set_option maxHeartbeats 8000000 in
theorem C_law18_great (N : Nat) {κ0 : Gh} {w0 : World} (hfr : Fresh κ0 w0) (a1 : T_config_State) (cs2 : List Value) (hR : ∀ m ∈ ([ml a1.Members 4, Arr.mp t_api_Map cs2 4 a1.Maps, ml a1.Modes 21] : List MP), m.p κ0 w0) {r : (Bool)} (H : M.law18_great N a1 = some r) :
    Calls Try.prog 37 #[.agg (flat [si a1.Pool, si a1.Nodes, eb 4 a1.Members, (8, cs2), ei 21 a1.Modes]).toArray] w0 (Post [] κ0 w0 fun v κ w => v = vb r ∧ (∀ m ∈ ([] : List MP), m.p κ w) ∧ NewC w0 κ w []) := by
 have hS := SS.start hfr hR
 refine enter (N := (21)) (L := [(0, .agg (flat [si a1.Pool, si a1.Nodes, eb 4 a1.Members, (8, cs2), ei 21 a1.Modes]).toArray)]) Try.func37 rfl Try.ntmps37 (show 1 ≤ (21) by decide) rfl fun a hF => ?_
 unfold M.law18_great at H
 refine wpIn_seq_k fun K3 hK3 => ?_
 refine wpIn_region_lit ?_
 refine wc (wbx hF hS [si a1.Pool, si a1.Nodes, eb 4 a1.Members, (8, cs2), ei 21 a1.Modes] (sgN 2 (sgEnc (hS.get 0 rfl) (sgArr (hS.get 1 rfl) (sgEnc (hS.get 2 rfl) sgNil)))) fun b4 a w hF hS => ?_)
 refine wp 1 [1] hF fun a hF => ?_
 refine wpListIn_nil ?_
 refine hK3 _ _ ?_
 refine wpIn_seq_k fun K5 hK5 => ?_
 refine wpIn_seq_k fun K6 hK6 => ?_
 refine wpIn_region_lit ?_
 refine wp 1 [5] hF fun a hF => ?_
 refine wc (wls hF hS 0 3 1 fun a hF => ?_)
 refine wp 1 [6, 7] hF fun a hF => ?_
 refine wpListIn_nil ?_
 refine hK6 _ _ ?_
 refine wpIn_block ?_
 refine loop_fuel (n := N) (fun n a w => ∃ (κ : Gh) (y57 : Int), Fr (21) [] [(6, .agg (flat [(8, cs2)]).toArray), (7, vi y57)] a ∧ SS [] κ0 w0 κ w [] [Arr.mp t_api_Map cs2 4 a1.Maps] ∧ M.law18_great_L1 N n a1 y57 = some r) ?_ ?_
 exact ⟨_, 0, hF.kp [6, 7], hS.sp [] [1], H⟩
 rintro n a w ⟨κ, y57, hF, hS, H⟩
 rcases n with _ | fuel1
 simp [M.law18_great_L1] at H
 simp only [M.law18_great_L1] at H
 refine wpIn_seq_k fun K58 hK58 => ?_
 refine wpIn_region_lit ?_
 refine wl_pure (L' := [(6, .agg (flat [(8, cs2)]).toArray), (7, vi y57), (8, vb (decide (y57 < 4)))]) 1 [6, 7, 8] hF (by kernel_rfl) fun a hF => ?_
 refine wpListIn_nil ?_
 refine hK58 _ _ ?_
 refine wpIn_seq_k fun K59 hK59 => ?_
 refine bif_split H (fun hb H => ?_) (fun hb H => ?_)
 refine cond_t hF (by kernel_rfl) hb ?_
 refine wpIn_skip ?_
 refine hK59 _ _ ?_
 refine wpIn_seq_k fun K60 hK60 => ?_
 refine wpIn_block ?_
 refine wpIn_seq_k fun K61 hK61 => ?_
 refine wpIn_region_lit ?_
 refine bind_split H (fun x62 hx62 H => ?_)
 refine wc (wo_val hF (by kernel_rfl) (val_indexATy (t := t_api_Map) (E := 25) (n := 4) (m := 8) (cs := cs2) rfl (by kernel_rfl) rfl (idx_lt hx62 (hS.get 0 rfl : ArrP _ _ _ _ _ _).1) (by kernel_rfl) (by kernel_rfl) (by kernel_rfl) _) ?_)
 obtain ⟨⟨p63, c64, p65, c66⟩, hq, hR⟩ := (hS.get 0 rfl : ArrP _ _ _ _ _ _).2.2.2 _ _ (idx_some hx62).2.2
 rw [show (List.take _ (List.drop _ _)) = _ from hq]
 intro a hF
 have hS := hS.adds hR
 refine wc (wal hF hS [sl none 0 0, sl none 0 0] (sgN 2 sgNil) fun b67 a w hF hS => ?_)
 refine wc (wst hF hS 0 0 2 [sl p63 (x62.Cuts).length c64, sl p65 (x62.Nodes).length c66] (sgN 2 sgNil) fun a w hF hS => ?_)
 refine wpListIn_nil ?_
 refine hK61 _ _ ?_
 refine wpIn_seq_k fun K68 hK68 => ?_
 refine wpIn_region_lit ?_
 refine bind_split H (fun v70 hv70 H => ?_)
 refine wl_join (fun a w => ∃ κ : Gh, Fr (21) [] [(6, .agg (flat [(8, cs2)]).toArray), (7, vi y57), (19, vb v70)] a ∧ SS [] κ0 w0 κ w [] [Arr.mp t_api_Map cs2 4 a1.Maps] ∧ True) ?_ ?_
 refine wp 1 [4, 6, 7, 10] hF fun a hF => ?_
 refine wc (wld hF hS 0 0 0 fun a hF => ?_)
 refine wp 3 [4, 6, 7, 14] hF fun a hF => ?_
 refine bif_split hv70 (fun hb hv70 => ?_) (fun hb hv70 => ?_)
 have hF := hF.boolv 14 (by kernel_rfl) hb
 refine wp 5 [6, 7, 19] hF fun a hF => ?_
 refine wpListIn_nil ?_
 cases hv70
 exact ⟨_, hF.kp [6, 7, 19], hS.sp [] [2], trivial⟩
 have hF := hF.boolv 14 (by kernel_rfl) hb
 refine wp 1 [6, 7, 14, 15] hF fun a hF => ?_
 refine wcg hF (wld hF hS 0 1 0 fun a hF => ?_)
 refine wp 3 [6, 7, 19] hF fun a hF => ?_
 refine wpListIn_nil ?_
 cases hv70
 exact ⟨_, hF.kp [6, 7, 19], hS.sp [] [2], trivial⟩
 rintro a w ⟨κ, hF, hS, -⟩
 refine hK68 _ _ ?_
 refine bif_split H (fun hb H => ?_) (fun hb H => ?_)
 refine cond_t hF (by kernel_rfl) hb ?_
 refine wpIn_seq_k fun K71 hK71 => ?_
 refine wpIn_region_lit ?_
 refine wp 1 [2] hF fun a hF => ?_
 refine wpListIn_nil ?_
 refine hK71 _ _ ?_
 refine wpIn_ret ?_
 cases H
 exact (ret_done hF hS (res1 Try.results37 (rvt hF)) ⟨rfl, (hS.pick [] (by kernel_rfl)).ro, hS.newC [] (by decide) (by kernel_rfl)⟩)
 refine cond_f hF (by kernel_rfl) hb ?_
 refine wpIn_skip ?_
 refine hK60 _ _ ?_
 refine wpIn_region_lit ?_
 refine wp 2 [6, 7] hF fun a hF => ?_
 refine wpListIn_nil ?_
 exact ⟨fuel1, Nat.lt_succ_self _, _, IntKind.i64.wrap (y57 + 1), hF.kp [6, 7], hS.sp [] [0], H⟩
 refine cond_f hF (by kernel_rfl) hb ?_
 refine wpIn_exit ?_
 refine hK5 _ _ ?_
 refine wpIn_seq_k fun K72 hK72 => ?_
 refine wpIn_region_lit ?_
 refine wp 1 [2] hF fun a hF => ?_
 refine wpListIn_nil ?_
 refine hK72 _ _ ?_
 refine wpIn_ret ?_
 cases H
 exact (ret_done hF hS (res1 Try.results37 (rvt hF)) ⟨rfl, (hS.pick [] (by kernel_rfl)).ro, hS.newC [] (by decide) (by kernel_rfl)⟩)
end Go.Cf
