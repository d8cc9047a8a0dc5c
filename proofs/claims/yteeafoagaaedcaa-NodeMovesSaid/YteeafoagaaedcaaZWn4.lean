/- The walks: each function returns what its model says. Printed by a program of ours. -/
import Derived.Test.YteeafoagaaedcaaZMn4
import Derived.Test.YteeafoagaaedcaaZWt2
import Derived.Test.YteeafoagaaedcaaZMt1
import Derived.Test.YteeafoagaaedcaaZMt2
import Derived.Test.YteeafoagaaedcaaZWt1
import Derived.Test.YteeafoagaaedcaaZWn1
import Derived.Test.YteeafoagaaedcaaZWn2
import Derived.Test.YteeafoagaaedcaaZWn3
namespace Go.Cf
open Go Go.Proofs
set_option linter.unusedVariables false
set_option maxRecDepth 20000 in
set_option maxHeartbeats 8000000 in
theorem C_law20_awake (N : Nat) {κ0 : Gh} {w0 : World} (hfr : Fresh κ0 w0)   (hR : ∀ m ∈ ([] : List MP), m.p κ0 w0) {r : (Bool)} (H : M.law20_awake N  = some r) :
    Calls Try.prog 64 #[] w0 (Post [] κ0 w0 fun v κ w => v = vb r ∧ (∀ m ∈ ([] : List MP), m.p κ w) ∧ NewC w0 κ w []) := by
 have hS := SS.start hfr hR
 refine enter (N := (34)) (L := []) Try.func64 rfl Try.ntmps64 (show 0 ≤ (34) by decide) rfl fun a hF => ?_
 unfold M.law20_awake at H
 refine wpIn_seq_k fun K1 hK1 => ?_
 refine wpIn_region_lit ?_
 refine wp 1 [] hF fun a hF => ?_
 refine wpListIn_nil ?_
 refine hK1 _ _ ?_
 refine wpIn_seq_k fun K2 hK2 => ?_
 refine wpIn_region_lit ?_
 refine bind_split H (fun x3 hx3 H => ?_)
 refine wc (wcS 0 [] hF hS (fun hS => C_node_New N 0   ⟨rfl, hS.pick [] (by kernel_rfl)⟩ hx3) ?_)
 rintro _ κ w a ⟨b4, b5, p6, m7, c8, b9, p10, m11, c12, p13, m14, c15, p16, c17, p18, c19, rfl, h2⟩ hF hB
 have hS := hB _ _ h2
 refine wp 1 [1] hF fun a hF => ?_
 refine wpListIn_nil ?_
 refine hK2 _ _ ?_
 refine wpIn_seq_k fun K20 hK20 => ?_
 refine wpIn_seq_k fun K21 hK21 => ?_
 refine wpIn_region_lit ?_
 refine wp 2 [1, 6] hF fun a hF => ?_
 refine wpListIn_nil ?_
 refine hK21 _ _ ?_
 refine cond_f hF (by kernel_rfl) rfl ?_
 refine wpIn_skip ?_
 refine hK20 _ _ ?_
 refine wpIn_seq_k fun K22 hK22 => ?_
 refine wpIn_region_lit ?_
 refine wp 2 [1, 7, 8] hF fun a hF => ?_
 have hS := hS.add (m := Ro.mp f_api_Ver.ty none 0 ([] : List T_api_Ver)) (Ro.nil f_api_Ver.ty _ _)
 have hS := hS.add (m := Ro.mp (fInt .u64).ty none 0 ([] : List Int)) (Ro.nil (fInt .u64).ty _ _)
 refine bind_split H (fun x23 hx23 H => ?_)
 refine wc (wcS 8 [0, 6, 7, 1, 2, 3, 4, 5] hF hS (fun hS => C_node_Node_Take N (T_node_Node.mk x3.dc (T_store_Store.mk x3.store.chains x3.store.floor) (T_part_Part.mk x3.part.clock x3.part.open_) x3.writes x3.owned x3.modes) (T_api_Msg.mk 6 0 0 0 ByteArray.empty ByteArray.empty ([] : List T_api_Ver) ([] : List Int) (T_api_Cmd.mk 0 0 0 0 0 ByteArray.empty)) 0 b5 p6 m7 c8 b9 p10 m11 c12 p13 m14 c15 p16 c17 p18 c19 none 0 none 0 b4 ⟨rfl, hS.pick [2, 3, 4, 5, 6, 1, 0] (by kernel_rfl)⟩ hx23) ?_)
 rintro _ κ w a ⟨p24, c25, p26, c27, b28, p29, m30, c31, b32, p33, m34, c35, p36, m37, c38, p39, c40, p41, c42, rfl, h2⟩ hF hB
 have hS := (hB _ _ h2).cC (C' := [.box b4 151 [si x23.2.2.dc, (1, [pt b28 0]), (1, [pt b32 0]), (1, [.map p36]), sl p39 (x23.2.2.owned).length c40, sl p41 (x23.2.2.modes).length c42], .tok p39 157 3 (x23.2.2.owned).length c40, .tok p41 25 1 (x23.2.2.modes).length c42, .box b28 130 [(1, [.map p29]), su x23.2.2.store.floor], .ext (objX p29 (.map m30 c31)), .box b32 174 [su x23.2.2.part.clock, (1, [.map p33])], .ext (objX p33 (.map m34 c35)), .ext (objX p36 (.map m37 c38)), .tok p24 37 6 (x23.1.Vers).length c25, .tok p26 25 1 (x23.1.Vec).length c27])
 refine wpListIn_nil ?_
 refine hK22 _ _ ?_
 refine wpIn_seq_k fun K43 hK43 => ?_
 refine wpIn_region_lit ?_
 refine wl_pure (L' := [(11, pt b4 0), (12, .agg (flat [sg (ByteArray.mk #[97]), sg (ByteArray.mk #[120]), sb false, su 0, si 0, si 0]).toArray)]) 2 [11, 12] hF (by kernel_rfl) fun a hF => ?_
 refine wc (wo_buildN (t := f_api_Ver) (z := .agg (flat [sg ByteArray.empty, sg ByteArray.empty, sb false, su 0, si 0, si 0]).toArray) (l := [(T_api_Ver.mk (ByteArray.mk #[97]) (ByteArray.mk #[120]) false 0 0 0)]) (vs := [(0, .agg (flat [sg (ByteArray.mk #[97]), sg (ByteArray.mk #[120]), sb false, su 0, si 0, si 0]).toArray)]) (cells := #[.string ((ByteArray.mk #[97])), .string ((ByteArray.mk #[120])), vb false, vu 0, vi 0, vi 0]) (E := 37) hF hS (by kernel_rfl) rfl (by kernel_rfl) (by kernel_rfl) rfl (by kernel_rfl) (by kernel_rfl) (by kernel_rfl) (by kernel_rfl) (by kernel_rfl) fun p44 κ a w hF hS => ?_)
 refine wp 1 [11, 14] hF fun a hF => ?_
 refine bind_split H (fun x45 hx45 H => ?_)
 refine wc (wcS 8 [1, 2, 3, 4, 5, 6, 7, 8, 0, 9, 10] hF hS (fun hS => C_node_Node_Take N (T_node_Node.mk x23.2.2.dc (T_store_Store.mk x23.2.2.store.chains x23.2.2.store.floor) (T_part_Part.mk x23.2.2.part.clock x23.2.2.part.open_) x23.2.2.writes x23.2.2.owned x23.2.2.modes) (T_api_Msg.mk 1 7 0 5 ByteArray.empty ByteArray.empty [(T_api_Ver.mk (ByteArray.mk #[97]) (ByteArray.mk #[120]) false 0 0 0)] ([] : List Int) (T_api_Cmd.mk 0 0 0 0 0 ByteArray.empty)) 0 b28 p29 m30 c31 b32 p33 m34 c35 p36 m37 c38 p39 c40 p41 c42 p44 1 none 0 b4 ⟨rfl, hS.pick [3, 4, 5, 6, 7, 0, 8] (by kernel_rfl)⟩ hx45) ?_)
 rintro _ κ w a ⟨p46, c47, p48, c49, b50, p51, m52, c53, b54, p55, m56, c57, p58, m59, c60, p61, c62, p63, c64, rfl, h2⟩ hF hB
 have hS := hB _ _ h2
 refine wp 3 [16, 17] hF fun a hF => ?_
 refine wc (wal hF hS [si 0, su 0, su 0, su 0, sg ByteArray.empty, sg ByteArray.empty, sl none 0 0, sl none 0 0, si 0, si 0, si 0, si 0, si 0, sg ByteArray.empty] (sgN 14 sgNil) fun b65 a w hF hS => ?_)
 refine wc (wst hF hS 0 0 14 [si x45.1.Kind, su x45.1.Id, su x45.1.N, su x45.1.TS, sg x45.1.Lo, sg x45.1.Hi, sl p46 (x45.1.Vers).length c47, sl p48 (x45.1.Vec).length c49, si x45.1.Cmd.Kind, si x45.1.Cmd.DC, si x45.1.Cmd.Shard, si x45.1.Cmd.Node, si x45.1.Cmd.Mode, sg x45.1.Cmd.Key] (sgN 14 sgNil) fun a w hF hS => ?_)
 refine wp 1 [2, 3] hF fun a hF => ?_
 refine wpListIn_nil ?_
 refine hK43 _ _ ?_
 refine wpIn_seq_k fun K66 hK66 => ?_
 refine wpIn_region_lit ?_
 refine bind_split H (fun v68 hv68 H => ?_)
 refine wl_join (fun a w => ∃ κ : Gh, Fr (34) [] [(0, vb v68)] a ∧ SS [] κ0 w0 κ w [] [] ∧ True) ?_ ?_
 refine wp 2 [2, 19] hF fun a hF => ?_
 refine bif_split hv68 (fun hb hv68 => ?_) (fun hb hv68 => ?_)
 have hF := hF.boolv 19 (by kernel_rfl) hb
 refine wp 1 [2, 19, 20] hF fun a hF => ?_
 refine wcg hF (wld hF hS 0 0 0 fun a hF => ?_)
 refine wp 3 [2, 24] hF fun a hF => ?_
 refine bif_split hv68 (fun hb hv68 => ?_) (fun hb hv68 => ?_)
 have hF := hF.boolv 24 (by kernel_rfl) hb
 refine wp 1 [2, 24, 25] hF fun a hF => ?_
 refine wcg hF (wld hF hS 0 1 0 fun a hF => ?_)
 refine wp 3 [2, 29] hF fun a hF => ?_
 refine bif_split hv68 (fun hb hv68 => ?_) (fun hb hv68 => ?_)
 have hF := hF.boolv 29 (by kernel_rfl) hb
 refine wp 1 [29, 30] hF fun a hF => ?_
 refine wcg hF (wld hF hS 0 3 0 fun a hF => ?_)
 refine wp 3 [0] hF fun a hF => ?_
 refine wpListIn_nil ?_
 cases hv68
 exact ⟨_, hF.kp [0], hS.sp [] [], trivial⟩
 have hF := hF.boolv 29 (by kernel_rfl) hb
 refine wp 5 [0] hF fun a hF => ?_
 refine wpListIn_nil ?_
 cases hv68
 exact ⟨_, hF.kp [0], hS.sp [] [], trivial⟩
 have hF := hF.boolv 24 (by kernel_rfl) hb
 refine wp 10 [0] hF fun a hF => ?_
 refine wpListIn_nil ?_
 cases hv68
 exact ⟨_, hF.kp [0], hS.sp [] [], trivial⟩
 have hF := hF.boolv 19 (by kernel_rfl) hb
 refine wp 15 [0] hF fun a hF => ?_
 refine wpListIn_nil ?_
 cases hv68
 exact ⟨_, hF.kp [0], hS.sp [] [], trivial⟩
 rintro a w ⟨κ, hF, hS, -⟩
 refine hK66 _ _ ?_
 refine wpIn_ret ?_
 cases H
 exact (ret_done hF hS (res1 Try.results64 (rvt hF)) ⟨rfl, (hS.pick [] (by kernel_rfl)).ro, hS.newC [] (by decide) (by kernel_rfl)⟩)
end Go.Cf
