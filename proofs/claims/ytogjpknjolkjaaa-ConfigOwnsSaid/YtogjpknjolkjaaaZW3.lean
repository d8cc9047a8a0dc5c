/- The walks: each function returns what its model says. Printed by a program of ours. -/
import Derived.Test.YtogjpknjolkjaaaZM1
import Derived.Test.YtogjpknjolkjaaaZW1
import Derived.Test.YtogjpknjolkjaaaZW2
namespace Go.Cf
open Go Go.Proofs
set_option linter.unusedVariables false
set_option maxRecDepth 20000 in
set_option maxHeartbeats 8000000 in
theorem C_config_Start (N : Nat) {κ0 : Gh} {w0 : World} (hfr : Fresh κ0 w0) (a1 : Int) (a2 : Int) (a3 : Int)  (hR : ∀ m ∈ ([] : List MP), m.p κ0 w0) {r : (T_config_State × Int)} (H : M.config_Start N a1 a2 a3 = some r) :
    Calls Try.prog 80 #[vi a1, vi a2, vi a3] w0 (Post [] κ0 w0 fun v κ w => ∃ cs201 : List Value, v = .tuple #[.agg (flat [si r.1.Pool, si r.1.Nodes, eb 4 r.1.Members, (8, cs201), ei 21 r.1.Modes]).toArray, vi r.2] ∧ (∀ m ∈ ([ml r.1.Members 4, Arr.mp t_api_Map cs201 4 r.1.Maps, ml r.1.Modes 21] : List MP), m.p κ w) ∧ NewC w0 κ w []) := by
 have hS := SS.start hfr hR
 refine enter (N := (69)) (L := [(0, vi a1), (1, vi a2), (2, vi a3)]) Try.func80 rfl Try.ntmps80 (show 3 ≤ (69) by decide) rfl fun a hF => ?_
 unfold M.config_Start at H
 refine wpIn_seq_k fun K4 hK4 => ?_
 refine wpIn_region_lit ?_
 have hS := hS.add (m := ml (List.replicate 4 false) 4) (List.length_replicate)
 have hS := hS.add (m := Arr.mp t_api_Map ((List.replicate 4 (flat [sl none 0 0, sl none 0 0])).flatten) 4 (List.replicate 4 (T_api_Map.mk ([] : List ByteArray) ([] : List Int)))) (Arr.zero _ _ _ _ _ z_api_Map)
 have hS := hS.add (m := ml (List.replicate 21 0) 21) (List.length_replicate)
 refine wc (wal hF hS [si 0, si 0, eb 4 (List.replicate 4 false), (8, (List.replicate 4 (flat [sl none 0 0, sl none 0 0])).flatten), ei 21 (List.replicate 21 0)] (sgN 2 (sgEnc List.length_replicate (sgArr (hS.get 1 rfl) (sgEnc List.length_replicate sgNil)))) fun b5 a w hF hS => ?_)
 refine wp 1 [0, 1, 2, 6] hF fun a hF => ?_
 refine wpListIn_nil ?_
 refine hK4 _ _ ?_
 refine wpIn_seq_k fun K6 hK6 => ?_
 refine wpIn_seq_k fun K7 hK7 => ?_
 refine wpIn_region_lit ?_
 refine bind_split H (fun v9 hv9 H => ?_)
 refine wl_join (fun a w => ∃ κ : Gh, Fr (69) [] [(0, vi a1), (1, vi a2), (2, vi a3), (6, pt b5 0), (34, vb v9)] a ∧ SS [] κ0 w0 κ w [.box b5 56 [si 0, si 0, eb 4 (List.replicate 4 false), (8, (List.replicate 4 (flat [sl none 0 0, sl none 0 0])).flatten), ei 21 (List.replicate 21 0)]] [ml (List.replicate 4 false) 4, Arr.mp t_api_Map ((List.replicate 4 (flat [sl none 0 0, sl none 0 0])).flatten) 4 (List.replicate 4 (T_api_Map.mk ([] : List ByteArray) ([] : List Int))), ml (List.replicate 21 0) 21] ∧ True) ?_ ?_
 refine wp 3 [0, 1, 2, 6, 14] hF fun a hF => ?_
 refine bif_split hv9 (fun hb hv9 => ?_) (fun hb hv9 => ?_)
 have hF := hF.boolv 14 (by kernel_rfl) hb
 refine wp 20 [0, 1, 2, 6, 34] hF fun a hF => ?_
 refine wpListIn_nil ?_
 cases hv9
 exact ⟨_, hF.kp [0, 1, 2, 6, 34], hS.sp [0] [2, 1, 0], trivial⟩
 have hF := hF.boolv 14 (by kernel_rfl) hb
 refine wp 4 [0, 1, 2, 6, 18] hF fun a hF => ?_
 refine bif_split hv9 (fun hb hv9 => ?_) (fun hb hv9 => ?_)
 have hF := hF.boolv 18 (by kernel_rfl) hb
 refine wp 16 [0, 1, 2, 6, 34] hF fun a hF => ?_
 refine wpListIn_nil ?_
 cases hv9
 exact ⟨_, hF.kp [0, 1, 2, 6, 34], hS.sp [0] [2, 1, 0], trivial⟩
 have hF := hF.boolv 18 (by kernel_rfl) hb
 refine wp 4 [0, 1, 2, 6, 22] hF fun a hF => ?_
 refine bif_split hv9 (fun hb hv9 => ?_) (fun hb hv9 => ?_)
 have hF := hF.boolv 22 (by kernel_rfl) hb
 refine wp 12 [0, 1, 2, 6, 34] hF fun a hF => ?_
 refine wpListIn_nil ?_
 cases hv9
 exact ⟨_, hF.kp [0, 1, 2, 6, 34], hS.sp [0] [2, 1, 0], trivial⟩
 have hF := hF.boolv 22 (by kernel_rfl) hb
 refine wp 5 [0, 1, 2, 6, 27] hF fun a hF => ?_
 refine bif_split hv9 (fun hb hv9 => ?_) (fun hb hv9 => ?_)
 have hF := hF.boolv 27 (by kernel_rfl) hb
 refine wp 7 [0, 1, 2, 6, 34] hF fun a hF => ?_
 refine wpListIn_nil ?_
 cases hv9
 exact ⟨_, hF.kp [0, 1, 2, 6, 34], hS.sp [0] [2, 1, 0], trivial⟩
 have hF := hF.boolv 27 (by kernel_rfl) hb
 refine wp 4 [0, 1, 2, 6, 31] hF fun a hF => ?_
 refine bif_split hv9 (fun hb hv9 => ?_) (fun hb hv9 => ?_)
 have hF := hF.boolv 31 (by kernel_rfl) hb
 refine wp 3 [0, 1, 2, 6, 34] hF fun a hF => ?_
 refine wpListIn_nil ?_
 cases hv9
 exact ⟨_, hF.kp [0, 1, 2, 6, 34], hS.sp [0] [2, 1, 0], trivial⟩
 have hF := hF.boolv 31 (by kernel_rfl) hb
 refine wp 3 [0, 1, 2, 6, 34] hF fun a hF => ?_
 refine wpListIn_nil ?_
 cases hv9
 exact ⟨_, hF.kp [0, 1, 2, 6, 34], hS.sp [0] [2, 1, 0], trivial⟩
 rintro a w ⟨κ, hF, hS, -⟩
 refine hK7 _ _ ?_
 refine bif_split H (fun hb H => ?_) (fun hb H => ?_)
 refine cond_t hF (by kernel_rfl) hb ?_
 refine wpIn_seq_k fun K10 hK10 => ?_
 refine wpIn_region_lit ?_
 refine wp 1 [6, 35] hF fun a hF => ?_
 refine wc (wst hF hS 0 0 5 [si 0, si 0, eb 4 (List.replicate 4 false), (8, (List.replicate 4 (flat [sl none 0 0, sl none 0 0])).flatten), ei 21 (List.replicate 21 0)] (sgN 2 (sgEnc List.length_replicate (sgArr (hS.get 1 rfl) (sgEnc List.length_replicate sgNil)))) fun a w hF hS => ?_)
 refine wp 1 [6, 7] hF fun a hF => ?_
 refine wpListIn_nil ?_
 refine hK10 _ _ ?_
 refine wpIn_ret ?_
 have hS' := hS
 cases H
 exact (ret_done hF hS (res2 Try.results80 (rvs hF hS' 0 0 5) (rvt hF)) ⟨(List.replicate 4 (flat [sl none 0 0, sl none 0 0])).flatten, rfl, (hS.pick [0, 1, 2] (by kernel_rfl)).ro, hS.newC [] (by decide) (by kernel_rfl)⟩)
 refine cond_f hF (by kernel_rfl) hb ?_
 refine wpIn_skip ?_
 refine hK6 _ _ ?_
 refine wpIn_seq_k fun K11 hK11 => ?_
 refine wpIn_region_lit ?_
 refine wp 3 [1, 2, 6, 38] hF fun a hF => ?_
 refine wc (wal hF hS [si 0, si 0, eb 4 (List.replicate 4 false), (8, (List.replicate 4 (flat [sl none 0 0, sl none 0 0])).flatten), ei 21 (List.replicate 21 0)] (sgN 2 (sgEnc List.length_replicate (sgArr (hS.get 1 rfl) (sgEnc List.length_replicate sgNil)))) fun b12 a w hF hS => ?_)
 refine wc (wst hF hS 0 0 5 [si a1, si a3, eb 4 (List.replicate 4 false), (8, (List.replicate 4 (flat [sl none 0 0, sl none 0 0])).flatten), ei 21 (List.replicate 21 0)] (sgN 2 (sgEnc List.length_replicate (sgArr (hS.get 1 rfl) (sgEnc List.length_replicate sgNil)))) fun a w hF hS => ?_)
 refine wpListIn_nil ?_
 refine hK11 _ _ ?_
 refine wpIn_seq_k fun K13 hK13 => ?_
 refine wpIn_seq_k fun K14 hK14 => ?_
 refine wpIn_region_lit ?_
 refine wp 1 [1, 2, 6, 8, 39] hF fun a hF => ?_
 refine wpListIn_nil ?_
 refine hK14 _ _ ?_
 refine wpIn_block ?_
 refine loop_fuel (n := N) (fun n a w => ∃ (κ : Gh) (y65 : List Int) (y66 : Int), Fr (69) [] [(1, vi a2), (2, vi a3), (6, pt b5 0), (8, pt b12 0), (39, vi y66)] a ∧ SS [] κ0 w0 κ w [.box b12 56 [si a1, si a3, eb 4 (List.replicate 4 false), (8, (List.replicate 4 (flat [sl none 0 0, sl none 0 0])).flatten), ei 21 y65], .box b5 56 [si 0, si 0, eb 4 (List.replicate 4 false), (8, (List.replicate 4 (flat [sl none 0 0, sl none 0 0])).flatten), ei 21 (List.replicate 21 0)]] [ml (List.replicate 4 false) 4, Arr.mp t_api_Map ((List.replicate 4 (flat [sl none 0 0, sl none 0 0])).flatten) 4 (List.replicate 4 (T_api_Map.mk ([] : List ByteArray) ([] : List Int))), ml y65 21, ml (List.replicate 21 0) 21] ∧ M.config_Start_L1 N n a1 a2 a3 y65 y66 = some r) ?_ ?_
 exact ⟨_, (List.replicate 21 0), 0, hF.kp [1, 2, 6, 8, 39], hS.sp [0, 1] [0, 1, 2, 2], H⟩
 rintro n a w ⟨κ, y65, y66, hF, hS, H⟩
 rcases n with _ | fuel1
 simp [M.config_Start_L1] at H
 simp only [M.config_Start_L1] at H
 refine wpIn_seq_k fun K67 hK67 => ?_
 refine wpIn_region_lit ?_
 refine wp 1 [1, 2, 6, 8, 39, 40] hF fun a hF => ?_
 refine wpListIn_nil ?_
 refine hK67 _ _ ?_
 refine wpIn_seq_k fun K68 hK68 => ?_
 refine bif_split H (fun hb H => ?_) (fun hb H => ?_)
 refine cond_t hF (by kernel_rfl) hb ?_
 refine wpIn_skip ?_
 refine hK68 _ _ ?_
 refine wpIn_seq_k fun K69 hK69 => ?_
 refine wpIn_block ?_
 refine wpIn_seq_k fun K70 hK70 => ?_
 refine wpIn_region_lit ?_
 refine wp 2 [1, 2, 6, 8, 9, 39] hF fun a hF => ?_
 refine wpListIn_nil ?_
 refine hK70 _ _ ?_
 refine wpIn_region_lit ?_
 refine wl_pure (L' := [(1, vi a2), (2, vi a3), (6, pt b5 0), (8, pt b12 0), (39, vi y66), (42, vi y66), (43, pt b12 14)]) 2 [1, 2, 6, 8, 39, 42, 43] hF (by kernel_rfl) fun a hF => ?_
 refine bind_split H (fun x71 hx71 H => ?_)
 refine wc (wo_indexArr hF (by kernel_rfl) (E := 3) (sz := 1) (n := 21) rfl rfl (i := y66) rfl (idx_lt hx71 (hS.get 2 rfl)) (by kernel_rfl) (by kernel_rfl) fun a hF => ?_)
 refine wc (wo_storeA1 (t := (fInt .i64)) (y := 2) (v := vi 2) hF hS (by kernel_rfl) 0 4 (s' := [si a1, si a3, eb 4 (List.replicate 4 false), (8, (List.replicate 4 (flat [sl none 0 0, sl none 0 0])).flatten), ei 21 (List.set y65 (Int.toNat y66) 2)]) (C' := [.box b12 56 [si a1, si a3, eb 4 (List.replicate 4 false), (8, (List.replicate 4 (flat [sl none 0 0, sl none 0 0])).flatten), ei 21 (List.set y65 (Int.toNat y66) 2)], .box b5 56 [si 0, si 0, eb 4 (List.replicate 4 false), (8, (List.replicate 4 (flat [sl none 0 0, sl none 0 0])).flatten), ei 21 (List.replicate 21 0)]]) rfl rfl (by kernel_rfl) rfl rfl hx71 rfl rfl (by kernel_rfl) (by kernel_rfl) (by kernel_rfl) (by kernel_rfl) fun a w hF hS => ?_)
 have hS := hS.add (m := ml (List.set y65 (Int.toNat y66) 2) 21) (List.length_set.trans (hS.get 2 rfl))
 refine wpListIn_nil ?_
 refine hK69 _ _ ?_
 refine wpIn_region_lit ?_
 refine wp 2 [1, 2, 6, 8, 39] hF fun a hF => ?_
 refine wpListIn_nil ?_
 exact ⟨fuel1, Nat.lt_succ_self _, _, (List.set y65 (Int.toNat y66) 2), IntKind.i64.wrap (y66 + 1), hF.kp [1, 2, 6, 8, 39], hS.sp [0, 1] [1, 2, 0, 4], H⟩
 refine cond_f hF (by kernel_rfl) hb ?_
 refine wpIn_exit ?_
 refine hK13 _ _ ?_
 refine wpIn_seq_k fun K72 hK72 => ?_
 refine wpIn_seq_k fun K73 hK73 => ?_
 refine wpIn_region_lit ?_
 refine wp 2 [2, 6, 8, 46, 47] hF fun a hF => ?_
 refine wpListIn_nil ?_
 refine hK73 _ _ ?_
 refine wpIn_block ?_
 refine loop_fuel (n := N) (fun n a w => ∃ (κ : Gh) (y124 : List Bool) (y125 : List T_api_Map) (cs126 : List Value) (y127 : List Int) (y128 : Int), Fr (69) [] [(2, vi a3), (6, pt b5 0), (8, pt b12 0), (46, vi a2), (47, vi y128)] a ∧ SS [] κ0 w0 κ w [.box b12 56 [si a1, si a3, eb 4 y124, (8, cs126), ei 21 y127], .box b5 56 [si 0, si 0, eb 4 (List.replicate 4 false), (8, (List.replicate 4 (flat [sl none 0 0, sl none 0 0])).flatten), ei 21 (List.replicate 21 0)]] [ml y124 4, Arr.mp t_api_Map cs126 4 y125, ml y127 21, ml (List.replicate 4 false) 4, Arr.mp t_api_Map ((List.replicate 4 (flat [sl none 0 0, sl none 0 0])).flatten) 4 (List.replicate 4 (T_api_Map.mk ([] : List ByteArray) ([] : List Int))), ml (List.replicate 21 0) 21] ∧ M.config_Start_L2 N n a1 a2 a3 y124 y125 y127 y128 = some r) ?_ ?_
 exact ⟨_, (List.replicate 4 false), (List.replicate 4 (T_api_Map.mk ([] : List ByteArray) ([] : List Int))), (List.replicate 4 (flat [sl none 0 0, sl none 0 0])).flatten, y65, 0, hF.kp [2, 6, 8, 46, 47], hS.sp [0, 1] [0, 1, 2, 0, 1, 3], H⟩
 rintro n a w ⟨κ, y124, y125, cs126, y127, y128, hF, hS, H⟩
 rcases n with _ | fuel2
 simp [M.config_Start_L2] at H
 simp only [M.config_Start_L2] at H
 refine wpIn_seq_k fun K129 hK129 => ?_
 refine wpIn_region_lit ?_
 refine wp 1 [2, 6, 8, 46, 47, 48] hF fun a hF => ?_
 refine wpListIn_nil ?_
 refine hK129 _ _ ?_
 refine wpIn_seq_k fun K130 hK130 => ?_
 refine bif_split H (fun hb H => ?_) (fun hb H => ?_)
 refine cond_t hF (by kernel_rfl) hb ?_
 refine wpIn_skip ?_
 refine hK130 _ _ ?_
 refine wpIn_seq_k fun K131 hK131 => ?_
 refine wpIn_block ?_
 refine wpIn_seq_k fun K132 hK132 => ?_
 refine wpIn_region_lit ?_
 refine wp 2 [2, 6, 8, 10, 46, 47] hF fun a hF => ?_
 refine wpListIn_nil ?_
 refine hK132 _ _ ?_
 refine wpIn_seq_k fun K133 hK133 => ?_
 refine wpIn_region_lit ?_
 refine wl_pure (L' := [(2, vi a3), (6, pt b5 0), (8, pt b12 0), (10, vi y128), (46, vi a2), (47, vi y128), (50, vi y128), (51, pt b12 2)]) 2 [2, 6, 8, 10, 46, 47, 50, 51] hF (by kernel_rfl) fun a hF => ?_
 refine bind_split H (fun x134 hx134 H => ?_)
 refine wc (wo_indexArr hF (by kernel_rfl) (E := 4) (sz := 1) (n := 4) rfl rfl (i := y128) rfl (idx_lt hx134 (hS.get 0 rfl)) (by kernel_rfl) (by kernel_rfl) fun a hF => ?_)
 refine wc (wo_storeA1 (t := fBool) (y := true) (v := vb true) hF hS (by kernel_rfl) 0 2 (s' := [si a1, si a3, eb 4 (List.set y124 (Int.toNat y128) true), (8, cs126), ei 21 y127]) (C' := [.box b12 56 [si a1, si a3, eb 4 (List.set y124 (Int.toNat y128) true), (8, cs126), ei 21 y127], .box b5 56 [si 0, si 0, eb 4 (List.replicate 4 false), (8, (List.replicate 4 (flat [sl none 0 0, sl none 0 0])).flatten), ei 21 (List.replicate 21 0)]]) rfl rfl (by kernel_rfl) rfl rfl hx134 rfl rfl (by kernel_rfl) (by kernel_rfl) (by kernel_rfl) (by kernel_rfl) fun a w hF hS => ?_)
 have hS := hS.add (m := ml (List.set y124 (Int.toNat y128) true) 4) (List.length_set.trans (hS.get 0 rfl))
 refine wpListIn_nil ?_
 refine hK133 _ _ ?_
 refine wpIn_seq_k fun K135 hK135 => ?_
 refine wpIn_region_lit ?_
 refine wp 1 [2, 6, 8, 10, 46, 47, 53] hF fun a hF => ?_
 refine bind_split H (fun x136 hx136 H => ?_)
 refine wc (wo_callP hF hS (by kernel_rfl) (by kernel_rfl) (C_span_Whole N hS.fresh 0  ((hS.pick [] (by kernel_rfl)).ro) hx136) ?_)
 rintro _ κ w a ⟨p137, c138, p139, c140, rfl, hR, hN⟩ hF hS hO
 have hS := hS.adds hR
 have hS := hS.addC hO hN
 refine wl_pure (L' := [(2, vi a3), (6, pt b5 0), (8, pt b12 0), (10, vi y128), (46, vi a2), (47, vi y128), (53, vi y128), (54, .agg (flat [sl p137 (x136.Cuts).length c138, sl p139 (x136.Nodes).length c140]).toArray), (55, pt b12 6)]) 1 [2, 6, 8, 10, 46, 47, 53, 54, 55] hF (by kernel_rfl) fun a hF => ?_
 refine bind_split H (fun x141 hx141 H => ?_)
 refine wc (wo_indexArr hF (by kernel_rfl) (E := 25) (sz := 2) (n := 4) rfl rfl (i := y128) rfl (idx_lt hx141 ((hS.get 4 rfl : ArrP _ _ _ _ _ _).1)) (by kernel_rfl) (by kernel_rfl) fun a hF => ?_)
 refine wc (wo_storeATy (t := t_api_Map) (n := 4) (new := (flat [sl p137 (x136.Cuts).length c138, sl p139 (x136.Nodes).length c140])) (y := (T_api_Map.mk x136.Cuts x136.Nodes)) (v := .agg (flat [sl p137 (x136.Cuts).length c138, sl p139 (x136.Nodes).length c140]).toArray) hF hS (by kernel_rfl) 2 3 4 (s' := [si a1, si a3, eb 4 (List.set y124 (Int.toNat y128) true), (8, (splice cs126 (Int.toNat y128 * 2) (flat [sl p137 (x136.Cuts).length c138, sl p139 (x136.Nodes).length c140]))), ei 21 y127]) (C' := [.tok p137 9 1 (x136.Cuts).length c138, .tok p139 3 1 (x136.Nodes).length c140, .box b12 56 [si a1, si a3, eb 4 (List.set y124 (Int.toNat y128) true), (8, (splice cs126 (Int.toNat y128 * 2) (flat [sl p137 (x136.Cuts).length c138, sl p139 (x136.Nodes).length c140]))), ei 21 y127], .box b5 56 [si 0, si 0, eb 4 (List.replicate 4 false), (8, (List.replicate 4 (flat [sl none 0 0, sl none 0 0])).flatten), ei 21 (List.replicate 21 0)]]) rfl rfl (by kernel_rfl) (by kernel_rfl) rfl rfl rfl hx141 ⟨(p137, c138, p139, c140), rfl, (hS.pick [0, 1] (by kernel_rfl)).ro⟩ (by kernel_rfl) (by kernel_rfl) (by kernel_rfl) (by kernel_rfl) (by kernel_rfl) fun a w hF hS => ?_)
 refine wpListIn_nil ?_
 refine hK135 _ _ ?_
 refine wpIn_seq_k fun K142 hK142 => ?_
 refine wpIn_region_lit ?_
 refine wp 1 [2, 6, 8, 10, 11, 46, 47] hF fun a hF => ?_
 refine wpListIn_nil ?_
 refine hK142 _ _ ?_
 refine wpIn_block ?_
 refine loop_fuel (n := N) (fun n a w => ∃ (κ : Gh) (y193 : List Int) (y194 : Int), Fr (69) [] [(2, vi a3), (6, pt b5 0), (8, pt b12 0), (10, vi y128), (11, vi y194), (46, vi a2), (47, vi y128)] a ∧ SS [] κ0 w0 κ w [.box b12 56 [si a1, si a3, eb 4 (List.set y124 (Int.toNat y128) true), (8, (splice cs126 (Int.toNat y128 * 2) (flat [sl p137 (x136.Cuts).length c138, sl p139 (x136.Nodes).length c140]))), ei 21 y193], .box b5 56 [si 0, si 0, eb 4 (List.replicate 4 false), (8, (List.replicate 4 (flat [sl none 0 0, sl none 0 0])).flatten), ei 21 (List.replicate 21 0)]] [ml (List.set y124 (Int.toNat y128) true) 4, Arr.mp t_api_Map (splice cs126 (Int.toNat y128 * 2) (flat [sl p137 (x136.Cuts).length c138, sl p139 (x136.Nodes).length c140])) 4 (List.set y125 (Int.toNat y128) (T_api_Map.mk x136.Cuts x136.Nodes)), ml y193 21, ml (List.replicate 4 false) 4, Arr.mp t_api_Map ((List.replicate 4 (flat [sl none 0 0, sl none 0 0])).flatten) 4 (List.replicate 4 (T_api_Map.mk ([] : List ByteArray) ([] : List Int))), ml (List.replicate 21 0) 21] ∧ M.config_Start_L3 N (M.config_Start_L2 N fuel2) n a1 a2 a3 y124 y125 y128 x136 y193 y194 = some r) ?_ ?_
 exact ⟨_, y127, (-1), hF.kp [2, 6, 8, 10, 11, 46, 47], hS.sp [2, 3] [3, 0, 6, 7, 8, 9], H⟩
 rintro n a w ⟨κ, y193, y194, hF, hS, H⟩
 rcases n with _ | fuel3
 simp [M.config_Start_L3] at H
 simp only [M.config_Start_L3] at H
 refine wpIn_seq_k fun K195 hK195 => ?_
 refine wpIn_seq_k fun K196 hK196 => ?_
 refine wpIn_region_lit ?_
 refine wp 3 [2, 6, 8, 10, 11, 46, 47, 59] hF fun a hF => ?_
 refine wpListIn_nil ?_
 refine hK196 _ _ ?_
 refine bif_split H (fun hb H => ?_) (fun hb H => ?_)
 refine cond_t hF (by kernel_rfl) hb ?_
 refine wpIn_skip ?_
 refine hK195 _ _ ?_
 refine wpIn_seq_k fun K197 hK197 => ?_
 refine wpIn_block ?_
 refine wpIn_region_lit ?_
 refine wp 2 [2, 6, 8, 10, 11, 46, 47, 62, 63] hF fun a hF => ?_
 refine bind_split H (fun x198 hx198 H => ?_)
 refine wc (wo_callP hF hS (by kernel_rfl) (by kernel_rfl) (C_api_Place N hS.fresh y128 y194  ((hS.pick [] (by kernel_rfl)).ro) hx198) ?_)
 rintro _ κ w a ⟨rfl, hR, hN⟩ hF hS hO
 refine wl_pure (L' := [(2, vi a3), (6, pt b5 0), (8, pt b12 0), (10, vi y128), (11, vi y194), (46, vi a2), (47, vi y128), (64, vi x198), (65, pt b12 14)]) 1 [2, 6, 8, 10, 11, 46, 47, 64, 65] hF (by kernel_rfl) fun a hF => ?_
 refine bind_split H (fun x199 hx199 H => ?_)
 refine wc (wo_indexArr hF (by kernel_rfl) (E := 3) (sz := 1) (n := 21) rfl rfl (i := x198) rfl (idx_lt hx199 (hS.get 2 rfl)) (by kernel_rfl) (by kernel_rfl) fun a hF => ?_)
 refine wc (wo_storeA1 (t := (fInt .i64)) (y := 1) (v := vi 1) hF hS (by kernel_rfl) 0 4 (s' := [si a1, si a3, eb 4 (List.set y124 (Int.toNat y128) true), (8, (splice cs126 (Int.toNat y128 * 2) (flat [sl p137 (x136.Cuts).length c138, sl p139 (x136.Nodes).length c140]))), ei 21 (List.set y193 (Int.toNat x198) 1)]) (C' := [.box b12 56 [si a1, si a3, eb 4 (List.set y124 (Int.toNat y128) true), (8, (splice cs126 (Int.toNat y128 * 2) (flat [sl p137 (x136.Cuts).length c138, sl p139 (x136.Nodes).length c140]))), ei 21 (List.set y193 (Int.toNat x198) 1)], .box b5 56 [si 0, si 0, eb 4 (List.replicate 4 false), (8, (List.replicate 4 (flat [sl none 0 0, sl none 0 0])).flatten), ei 21 (List.replicate 21 0)]]) rfl rfl (by kernel_rfl) rfl rfl hx199 rfl rfl (by kernel_rfl) (by kernel_rfl) (by kernel_rfl) (by kernel_rfl) fun a w hF hS => ?_)
 have hS := hS.add (m := ml (List.set y193 (Int.toNat x198) 1) 21) (List.length_set.trans (hS.get 2 rfl))
 refine wpListIn_nil ?_
 refine hK197 _ _ ?_
 refine wpIn_region_lit ?_
 refine wp 3 [2, 6, 8, 10, 11, 46, 47] hF fun a hF => ?_
 refine wpListIn_nil ?_
 exact ⟨fuel3, Nat.lt_succ_self _, _, (List.set y193 (Int.toNat x198) 1), IntKind.i64.wrap (y194 + 1), hF.kp [2, 6, 8, 10, 11, 46, 47], hS.sp [0, 1] [1, 2, 0, 4, 5, 6], H⟩
 refine cond_f hF (by kernel_rfl) hb ?_
 refine wpIn_exit ?_
 refine hK131 _ _ ?_
 refine wpIn_region_lit ?_
 refine wp 2 [2, 6, 8, 46, 47] hF fun a hF => ?_
 refine wpListIn_nil ?_
 exact ⟨fuel2, Nat.lt_succ_self _, _, (List.set y124 (Int.toNat y128) true), (List.set y125 (Int.toNat y128) (T_api_Map.mk x136.Cuts x136.Nodes)), (splice cs126 (Int.toNat y128 * 2) (flat [sl p137 (x136.Cuts).length c138, sl p139 (x136.Nodes).length c140])), y193, IntKind.i64.wrap (y128 + 1), hF.kp [2, 6, 8, 46, 47], hS.sp [0, 1] (rg 6), H⟩
 refine cond_f hF (by kernel_rfl) hb ?_
 refine wpIn_exit ?_
 refine hK72 _ _ ?_
 refine wpIn_seq_k fun K200 hK200 => ?_
 refine wpIn_region_lit ?_
 refine wc (wls hF hS 0 0 5 fun a hF => ?_)
 refine wc (wst hF hS 1 0 5 [si a1, si a3, eb 4 y124, (8, cs126), ei 21 y127] (sgN 2 (sgEnc (hS.get 0 rfl) (sgArr (hS.get 1 rfl) (sgEnc (hS.get 2 rfl) sgNil)))) fun a w hF hS => ?_)
 refine wp 1 [6, 7] hF fun a hF => ?_
 refine wpListIn_nil ?_
 refine hK200 _ _ ?_
 refine wpIn_ret ?_
 have hS' := hS
 cases H
 exact (ret_done hF hS (res2 Try.results80 (rvs hF hS' 1 0 5) (rvt hF)) ⟨cs126, rfl, (hS.pick [0, 1, 2] (by kernel_rfl)).ro, hS.newC [] (by decide) (by kernel_rfl)⟩)
set_option maxRecDepth 20000 in
set_option maxHeartbeats 8000000 in
theorem C_config_Count (N : Nat) {κ0 : Gh} {w0 : World} (hfr : Fresh κ0 w0) (a1 : T_config_State) (cs2 : List Value) (hR : ∀ m ∈ ([ml a1.Members 4, Arr.mp t_api_Map cs2 4 a1.Maps, ml a1.Modes 21] : List MP), m.p κ0 w0) {r : (Int)} (H : M.config_Count N a1 = some r) :
    Calls Try.prog 47 #[.agg (flat [si a1.Pool, si a1.Nodes, eb 4 a1.Members, (8, cs2), ei 21 a1.Modes]).toArray] w0 (Post [] κ0 w0 fun v κ w => v = vi r ∧ (∀ m ∈ ([] : List MP), m.p κ w) ∧ NewC w0 κ w []) := by
 have hS := SS.start hfr hR
 refine enter (N := (16)) (L := [(0, .agg (flat [si a1.Pool, si a1.Nodes, eb 4 a1.Members, (8, cs2), ei 21 a1.Modes]).toArray)]) Try.func47 rfl Try.ntmps47 (show 1 ≤ (16) by decide) rfl fun a hF => ?_
 unfold M.config_Count at H
 refine wpIn_seq_k fun K3 hK3 => ?_
 refine wpIn_region_lit ?_
 refine wc (wbx hF hS [si a1.Pool, si a1.Nodes, eb 4 a1.Members, (8, cs2), ei 21 a1.Modes] (sgN 2 (sgEnc (hS.get 0 rfl) (sgArr (hS.get 1 rfl) (sgEnc (hS.get 2 rfl) sgNil)))) fun b4 a w hF hS => ?_)
 refine wp 1 [1] hF fun a hF => ?_
 refine wpListIn_nil ?_
 refine hK3 _ _ ?_
 refine wpIn_seq_k fun K5 hK5 => ?_
 refine wpIn_region_lit ?_
 refine wp 1 [1, 3] hF fun a hF => ?_
 refine wpListIn_nil ?_
 refine hK5 _ _ ?_
 refine wpIn_seq_k fun K6 hK6 => ?_
 refine wpIn_seq_k fun K7 hK7 => ?_
 refine wpIn_region_lit ?_
 refine wp 1 [3, 6] hF fun a hF => ?_
 refine wc (wls hF hS 0 2 1 fun a hF => ?_)
 refine wp 1 [3, 7, 8] hF fun a hF => ?_
 refine wpListIn_nil ?_
 refine hK7 _ _ ?_
 refine wpIn_block ?_
 refine loop_fuel (n := N) (fun n a w => ∃ (κ : Gh) (y58 y59 : Int), Fr (16) [] [(3, vi y58), (7, .agg (flat [eb 4 a1.Members]).toArray), (8, vi y59)] a ∧ SS [] κ0 w0 κ w [] [ml a1.Members 4] ∧ M.config_Count_L1 N n a1 y58 y59 = some r) ?_ ?_
 exact ⟨_, 0, 0, hF.kp [3, 7, 8], hS.sp [] [0], H⟩
 rintro n a w ⟨κ, y58, y59, hF, hS, H⟩
 rcases n with _ | fuel1
 simp [M.config_Count_L1] at H
 simp only [M.config_Count_L1] at H
 refine wpIn_seq_k fun K60 hK60 => ?_
 refine wpIn_region_lit ?_
 refine wl_pure (L' := [(3, vi y58), (7, .agg (flat [eb 4 a1.Members]).toArray), (8, vi y59), (9, vb (decide (y59 < 4)))]) 1 [3, 7, 8, 9] hF (by kernel_rfl) fun a hF => ?_
 refine wpListIn_nil ?_
 refine hK60 _ _ ?_
 refine wpIn_seq_k fun K61 hK61 => ?_
 refine bif_split H (fun hb H => ?_) (fun hb H => ?_)
 refine cond_t hF (by kernel_rfl) hb ?_
 refine wpIn_skip ?_
 refine hK61 _ _ ?_
 refine seq_join (fun a w => ∃ (κ : Gh) (y62 : Int), Fr (16) [] [(3, vi y62), (7, .agg (flat [eb 4 a1.Members]).toArray), (8, vi y59)] a ∧ SS [] κ0 w0 κ w [] [ml a1.Members 4] ∧ M.config_Count_k2 N (M.config_Count_L1 N fuel1) a1 y59 y62 = some r) ?_ ?_
 refine wpIn_block ?_
 refine wpIn_seq_k fun K63 hK63 => ?_
 refine wpIn_region_lit ?_
 refine bind_split H (fun x64 hx64 H => ?_)
 refine wc (wo_val hF (by kernel_rfl) (v := vb x64) (val_indexA1 (t := fBool) (E := 4) (n := 4) (m := 4) rfl (by kernel_rfl) rfl hx64 (hS.get 0 rfl) rfl rfl (by kernel_rfl) (by kernel_rfl) (by kernel_rfl) _) fun a hF => ?_)
 refine wp 1 [3, 5, 7, 8] hF fun a hF => ?_
 refine wpListIn_nil ?_
 refine hK63 _ _ ?_
 refine wpIn_seq_k fun K65 hK65 => ?_
 refine wpIn_region_lit ?_
 refine wp 1 [3, 7, 8, 11] hF fun a hF => ?_
 refine wpListIn_nil ?_
 refine hK65 _ _ ?_
 refine bif_split H (fun hb H => ?_) (fun hb H => ?_)
 refine cond_t hF (by kernel_rfl) hb ?_
 refine wpIn_region_lit ?_
 refine wp 3 [3, 7, 8] hF fun a hF => ?_
 refine wpListIn_nil ?_
 exact ⟨_, IntKind.i64.wrap (y58 + 1), hF.kp [3, 7, 8], hS.sp [] [0], H⟩
 refine cond_f hF (by kernel_rfl) hb ?_
 refine wpIn_skip ?_
 exact ⟨_, y58, hF.kp [3, 7, 8], hS.sp [] [0], H⟩
 rintro a w ⟨κ, y62, hF, hS, H⟩
 unfold M.config_Count_k2 at H
 refine wpIn_region_lit ?_
 refine wp 2 [3, 7, 8] hF fun a hF => ?_
 refine wpListIn_nil ?_
 exact ⟨fuel1, Nat.lt_succ_self _, _, y62, IntKind.i64.wrap (y59 + 1), hF.kp [3, 7, 8], hS.sp [] [0], H⟩
 refine cond_f hF (by kernel_rfl) hb ?_
 refine wpIn_exit ?_
 refine hK6 _ _ ?_
 refine wpIn_seq_k fun K66 hK66 => ?_
 refine wpIn_region_lit ?_
 refine wp 2 [2] hF fun a hF => ?_
 refine wpListIn_nil ?_
 refine hK66 _ _ ?_
 refine wpIn_ret ?_
 cases H
 exact (ret_done hF hS (res1 Try.results47 (rvt hF)) ⟨rfl, (hS.pick [] (by kernel_rfl)).ro, hS.newC [] (by decide) (by kernel_rfl)⟩)
set_option maxRecDepth 20000 in
set_option maxHeartbeats 8000000 in
theorem C_law18_Told (N : Nat) {κ0 : Gh} {w0 : World} (hfr : Fresh κ0 w0) (a1 : T_config_State) (cs2 : List Value) (hR : ∀ m ∈ ([ml a1.Members 4, Arr.mp t_api_Map cs2 4 a1.Maps, ml a1.Modes 21] : List MP), m.p κ0 w0) {r : (T_ref18_State)} (H : M.law18_Told N a1 = some r) :
    Calls Try.prog 39 #[.agg (flat [si a1.Pool, si a1.Nodes, eb 4 a1.Members, (8, cs2), ei 21 a1.Modes]).toArray] w0 (Post [] κ0 w0 fun v κ w => ∃ cs7 : List Value, v = .agg (flat [si r.Pool, si r.Nodes, eb 4 r.Members, (8, cs7), ei 21 r.Modes]).toArray ∧ (∀ m ∈ ([ml r.Members 4, Arr.mp t_api_Map cs7 4 r.Maps, ml r.Modes 21] : List MP), m.p κ w) ∧ NewC w0 κ w []) := by
 have hS := SS.start hfr hR
 refine enter (N := (14)) (L := [(0, .agg (flat [si a1.Pool, si a1.Nodes, eb 4 a1.Members, (8, cs2), ei 21 a1.Modes]).toArray)]) Try.func39 rfl Try.ntmps39 (show 1 ≤ (14) by decide) rfl fun a hF => ?_
 unfold M.law18_Told at H
 refine wpIn_seq_k fun K3 hK3 => ?_
 refine wpIn_region_lit ?_
 refine wc (wbx hF hS [si a1.Pool, si a1.Nodes, eb 4 a1.Members, (8, cs2), ei 21 a1.Modes] (sgN 2 (sgEnc (hS.get 0 rfl) (sgArr (hS.get 1 rfl) (sgEnc (hS.get 2 rfl) sgNil)))) fun b4 a w hF hS => ?_)
 have hS := hS.add (m := ml (List.replicate 4 false) 4) (List.length_replicate)
 have hS := hS.add (m := Arr.mp t_api_Map ((List.replicate 4 (flat [sl none 0 0, sl none 0 0])).flatten) 4 (List.replicate 4 (T_api_Map.mk ([] : List ByteArray) ([] : List Int)))) (Arr.zero _ _ _ _ _ z_api_Map)
 have hS := hS.add (m := ml (List.replicate 21 0) 21) (List.length_replicate)
 refine wc (wal hF hS [si 0, si 0, eb 4 (List.replicate 4 false), (8, (List.replicate 4 (flat [sl none 0 0, sl none 0 0])).flatten), ei 21 (List.replicate 21 0)] (sgN 2 (sgEnc List.length_replicate (sgArr (hS.get 1 rfl) (sgEnc List.length_replicate sgNil)))) fun b5 a w hF hS => ?_)
 refine wpListIn_nil ?_
 refine hK3 _ _ ?_
 refine wpIn_seq_k fun K6 hK6 => ?_
 refine wpIn_region_lit ?_
 refine wp 1 [1, 2, 3] hF fun a hF => ?_
 refine wc (wld hF hS 1 0 0 fun a hF => ?_)
 refine wp 1 [1, 2, 4, 5] hF fun a hF => ?_
 refine wc (wld hF hS 1 1 0 fun a hF => ?_)
 refine wp 1 [1, 2, 4, 6, 7] hF fun a hF => ?_
 refine wc (wls hF hS 1 2 1 fun a hF => ?_)
 refine wp 1 [1, 2, 4, 6, 8, 9] hF fun a hF => ?_
 refine wc (wls hF hS 1 3 1 fun a hF => ?_)
 refine wl_pure (L' := [(2, pt b5 0), (4, vi a1.Pool), (6, vi a1.Nodes), (8, .agg (flat [eb 4 a1.Members]).toArray), (10, .agg (flat [(8, cs2)]).toArray), (11, pt b4 14)]) 1 [2, 4, 6, 8, 10, 11] hF (by kernel_rfl) fun a hF => ?_
 refine wc (wls hF hS 1 4 1 fun a hF => ?_)
 refine wc (wo_val hF (by kernel_rfl) (v := .agg (flat [si a1.Pool, si a1.Nodes, eb 4 a1.Members, (8, cs2), ei 21 a1.Modes]).toArray) (val_build (rows := [[si 0], [si 0], [eb 4 (List.replicate 4 false)], [(8, (List.replicate 4 (flat [sl none 0 0, sl none 0 0])).flatten)], [ei 21 (List.replicate 21 0)]]) (vals := [(0, [si a1.Pool]), (1, [si a1.Nodes]), (2, [eb 4 a1.Members]), (3, [(8, cs2)]), (4, [ei 21 a1.Modes])]) (sizes := [1, 1, 4, 8, 21]) (s' := [si a1.Pool, si a1.Nodes, eb 4 a1.Members, (8, cs2), ei 21 a1.Modes]) rfl (by kernel_rfl) (by kernel_rfl) (by kernel_rfl) (by kernel_rfl) (by kernel_rfl) (sgN 2 (sgEnc (hS.get 3 rfl) (sgArr (hS.get 4 rfl) (sgEnc (hS.get 5 rfl) sgNil)))) (by kernel_rfl) (by kernel_rfl) _) fun a hF => ?_)
 refine wc (wst hF hS 0 0 5 [si a1.Pool, si a1.Nodes, eb 4 a1.Members, (8, cs2), ei 21 a1.Modes] (sgN 2 (sgEnc (hS.get 3 rfl) (sgArr (hS.get 4 rfl) (sgEnc (hS.get 5 rfl) sgNil)))) fun a w hF hS => ?_)
 refine wpListIn_nil ?_
 refine hK6 _ _ ?_
 refine wpIn_ret ?_
 have hS' := hS
 cases H
 exact (ret_done hF hS (res1 Try.results39 (rvs hF hS' 0 0 5)) ⟨cs2, rfl, (hS.pick [3, 4, 5] (by kernel_rfl)).ro, hS.newC [] (by decide) (by kernel_rfl)⟩)
set_option maxRecDepth 20000 in
set_option maxHeartbeats 8000000 in
theorem C_ref18_Same (N : Nat) {κ0 : Gh} {w0 : World} (hfr : Fresh κ0 w0) (a1 : T_ref18_State) (a3 : T_ref18_State) (cs2 : List Value) (cs4 : List Value) (hR : ∀ m ∈ ([ml a1.Members 4, Arr.mp t_api_Map cs2 4 a1.Maps, ml a1.Modes 21, ml a3.Members 4, Arr.mp t_api_Map cs4 4 a3.Maps, ml a3.Modes 21] : List MP), m.p κ0 w0) {r : (Bool)} (H : M.ref18_Same N a1 a3 = some r) :
    Calls Try.prog 83 #[.agg (flat [si a1.Pool, si a1.Nodes, eb 4 a1.Members, (8, cs2), ei 21 a1.Modes]).toArray, .agg (flat [si a3.Pool, si a3.Nodes, eb 4 a3.Members, (8, cs4), ei 21 a3.Modes]).toArray] w0 (Post [] κ0 w0 fun v κ w => v = vb r ∧ (∀ m ∈ ([] : List MP), m.p κ w) ∧ NewC w0 κ w []) := by
 have hS := SS.start hfr hR
 refine enter (N := (46)) (L := [(0, .agg (flat [si a1.Pool, si a1.Nodes, eb 4 a1.Members, (8, cs2), ei 21 a1.Modes]).toArray), (1, .agg (flat [si a3.Pool, si a3.Nodes, eb 4 a3.Members, (8, cs4), ei 21 a3.Modes]).toArray)]) Try.func83 rfl Try.ntmps83 (show 2 ≤ (46) by decide) rfl fun a hF => ?_
 unfold M.ref18_Same at H
 refine wpIn_seq_k fun K5 hK5 => ?_
 refine wpIn_region_lit ?_
 refine wc (wbx hF hS [si a1.Pool, si a1.Nodes, eb 4 a1.Members, (8, cs2), ei 21 a1.Modes] (sgN 2 (sgEnc (hS.get 0 rfl) (sgArr (hS.get 1 rfl) (sgEnc (hS.get 2 rfl) sgNil)))) fun b6 a w hF hS => ?_)
 refine wc (wbx hF hS [si a3.Pool, si a3.Nodes, eb 4 a3.Members, (8, cs4), ei 21 a3.Modes] (sgN 2 (sgEnc (hS.get 3 rfl) (sgArr (hS.get 4 rfl) (sgEnc (hS.get 5 rfl) sgNil)))) fun b7 a w hF hS => ?_)
 refine wp 1 [2, 3] hF fun a hF => ?_
 refine wpListIn_nil ?_
 refine hK5 _ _ ?_
 refine wpIn_seq_k fun K8 hK8 => ?_
 refine wpIn_seq_k fun K9 hK9 => ?_
 refine wpIn_region_lit ?_
 refine bind_split H (fun v11 hv11 H => ?_)
 refine wl_join (fun a w => ∃ κ : Gh, Fr (46) [] [(2, pt b6 0), (3, pt b7 0), (31, vb v11)] a ∧ SS [] κ0 w0 κ w [.box b7 60 [si a3.Pool, si a3.Nodes, eb 4 a3.Members, (8, cs4), ei 21 a3.Modes], .box b6 60 [si a1.Pool, si a1.Nodes, eb 4 a1.Members, (8, cs2), ei 21 a1.Modes]] [ml a3.Members 4, Arr.mp t_api_Map cs4 4 a3.Maps, ml a3.Modes 21, ml a1.Members 4, Arr.mp t_api_Map cs2 4 a1.Maps, ml a1.Modes 21] ∧ True) ?_ ?_
 refine wp 1 [2, 3, 6] hF fun a hF => ?_
 refine wc (wld hF hS 1 0 0 fun a hF => ?_)
 refine wp 1 [2, 3, 7, 8] hF fun a hF => ?_
 refine wc (wld hF hS 0 0 0 fun a hF => ?_)
 refine wp 2 [2, 3, 11] hF fun a hF => ?_
 refine bif_split hv11 (fun hb hv11 => ?_) (fun hb hv11 => ?_)
 have hF := hF.boolv 11 (by kernel_rfl) hb
 refine wp 20 [2, 3, 31] hF fun a hF => ?_
 refine wpListIn_nil ?_
 cases hv11
 exact ⟨_, hF.kp [2, 3, 31], hS.sp [0, 1] [3, 4, 5, 0, 1, 2], trivial⟩
 have hF := hF.boolv 11 (by kernel_rfl) hb
 refine wp 1 [2, 3, 11, 12] hF fun a hF => ?_
 refine wcg hF (wld hF hS 1 1 0 fun a hF => ?_)
 refine wp 1 [2, 3, 11, 13, 14] hF fun a hF => ?_
 refine wcg hF (wld hF hS 0 1 0 fun a hF => ?_)
 refine wp 3 [2, 3, 18] hF fun a hF => ?_
 refine bif_split hv11 (fun hb hv11 => ?_) (fun hb hv11 => ?_)
 have hF := hF.boolv 18 (by kernel_rfl) hb
 refine wp 13 [2, 3, 31] hF fun a hF => ?_
 refine wpListIn_nil ?_
 cases hv11
 exact ⟨_, hF.kp [2, 3, 31], hS.sp [0, 1] [3, 4, 5, 0, 1, 2], trivial⟩
 have hF := hF.boolv 18 (by kernel_rfl) hb
 refine wp 1 [2, 3, 18, 19] hF fun a hF => ?_
 refine wcg hF (wls hF hS 1 2 1 fun a hF => ?_)
 refine wl_pure (L' := [(2, pt b6 0), (3, pt b7 0), (18, vb false), (20, .agg (flat [eb 4 a1.Members]).toArray), (21, pt b7 2)]) 1 [2, 3, 18, 20, 21] hF (by kernel_rfl) fun a hF => ?_
 refine wcg hF (wls hF hS 0 2 1 fun a hF => ?_)
 refine wcg hF (wo_val hF (by kernel_rfl) (v := vb (!(cEq (flat [eb 4 a1.Members]) (flat [eb 4 a3.Members])))) ((val_eq (neg := true) (xs := (flat [eb 4 a1.Members])) (ys := (flat [eb 4 a3.Members])) (ks := [.bool, .bool, .bool, .bool]) 20 (by decide) rfl (by kernel_rfl) (by kernel_rfl) (by kernel_rfl) (by kernel_rfl) (typed_cons (typed_len (fun _ => rfl) (hS.get 0 rfl)) typed_nil) (typed_cons (typed_len (fun _ => rfl) (hS.get 3 rfl)) typed_nil) (by kernel_rfl)) _) fun a hF => ?_)
 refine wp 2 [2, 3, 25] hF fun a hF => ?_
 refine bif_split hv11 (fun hb hv11 => ?_) (fun hb hv11 => ?_)
 have hF := hF.boolv 25 (by kernel_rfl) hb
 refine wp 6 [2, 3, 31] hF fun a hF => ?_
 refine wpListIn_nil ?_
 cases hv11
 exact ⟨_, hF.kp [2, 3, 31], hS.sp [0, 1] [3, 4, 5, 0, 1, 2], trivial⟩
 have hF := hF.boolv 25 (by kernel_rfl) hb
 refine wp 1 [2, 3, 25, 26] hF fun a hF => ?_
 refine wcg hF (wls hF hS 1 4 1 fun a hF => ?_)
 refine wl_pure (L' := [(2, pt b6 0), (3, pt b7 0), (25, vb false), (27, .agg (flat [ei 21 a1.Modes]).toArray), (28, pt b7 14)]) 1 [2, 3, 25, 27, 28] hF (by kernel_rfl) fun a hF => ?_
 refine wcg hF (wls hF hS 0 4 1 fun a hF => ?_)
 refine wcg hF (wo_val hF (by kernel_rfl) (v := vb (!(cEq (flat [ei 21 a1.Modes]) (flat [ei 21 a3.Modes])))) ((val_eq (neg := true) (xs := (flat [ei 21 a1.Modes])) (ys := (flat [ei 21 a3.Modes])) (ks := [.int .i64, .int .i64, .int .i64, .int .i64, .int .i64, .int .i64, .int .i64, .int .i64, .int .i64, .int .i64, .int .i64, .int .i64, .int .i64, .int .i64, .int .i64, .int .i64, .int .i64, .int .i64, .int .i64, .int .i64, .int .i64]) 20 (by decide) rfl (by kernel_rfl) (by kernel_rfl) (by kernel_rfl) (by kernel_rfl) (typed_cons (typed_len (fun _ => rfl) (hS.get 2 rfl)) typed_nil) (typed_cons (typed_len (fun _ => rfl) (hS.get 5 rfl)) typed_nil) (by kernel_rfl)) _) fun a hF => ?_)
 refine wp 1 [2, 3, 31] hF fun a hF => ?_
 refine wpListIn_nil ?_
 cases hv11
 exact ⟨_, hF.kp [2, 3, 31], hS.sp [0, 1] [3, 4, 5, 0, 1, 2], trivial⟩
 rintro a w ⟨κ, hF, hS, -⟩
 refine hK9 _ _ ?_
 refine bif_split H (fun hb H => ?_) (fun hb H => ?_)
 refine cond_t hF (by kernel_rfl) hb ?_
 refine wpIn_seq_k fun K12 hK12 => ?_
 refine wpIn_region_lit ?_
 refine wp 1 [4] hF fun a hF => ?_
 refine wpListIn_nil ?_
 refine hK12 _ _ ?_
 refine wpIn_ret ?_
 cases H
 exact (ret_done hF hS (res1 Try.results83 (rvt hF)) ⟨rfl, (hS.pick [] (by kernel_rfl)).ro, hS.newC [] (by decide) (by kernel_rfl)⟩)
 refine cond_f hF (by kernel_rfl) hb ?_
 refine wpIn_skip ?_
 refine hK8 _ _ ?_
 refine wpIn_seq_k fun K13 hK13 => ?_
 refine wpIn_seq_k fun K14 hK14 => ?_
 refine wpIn_region_lit ?_
 refine wp 1 [2, 3, 5] hF fun a hF => ?_
 refine wpListIn_nil ?_
 refine hK14 _ _ ?_
 refine wpIn_block ?_
 refine loop_fuel (n := N) (fun n a w => ∃ (κ : Gh) (y65 : Int), Fr (46) [] [(2, pt b6 0), (3, pt b7 0), (5, vi y65)] a ∧ SS [] κ0 w0 κ w [.box b7 60 [si a3.Pool, si a3.Nodes, eb 4 a3.Members, (8, cs4), ei 21 a3.Modes], .box b6 60 [si a1.Pool, si a1.Nodes, eb 4 a1.Members, (8, cs2), ei 21 a1.Modes]] [ml a3.Members 4, Arr.mp t_api_Map cs4 4 a3.Maps, ml a3.Modes 21, ml a1.Members 4, Arr.mp t_api_Map cs2 4 a1.Maps, ml a1.Modes 21] ∧ M.ref18_Same_L1 N n a1 a3 y65 = some r) ?_ ?_
 exact ⟨_, 0, hF.kp [2, 3, 5], hS.sp [0, 1] (rg 6), H⟩
 rintro n a w ⟨κ, y65, hF, hS, H⟩
 rcases n with _ | fuel1
 simp [M.ref18_Same_L1] at H
 simp only [M.ref18_Same_L1] at H
 refine wpIn_seq_k fun K66 hK66 => ?_
 refine wpIn_seq_k fun K67 hK67 => ?_
 refine wpIn_region_lit ?_
 refine wp 2 [2, 3, 5, 33] hF fun a hF => ?_
 refine wpListIn_nil ?_
 refine hK67 _ _ ?_
 refine bif_split H (fun hb H => ?_) (fun hb H => ?_)
 refine cond_t hF (by kernel_rfl) hb ?_
 refine wpIn_skip ?_
 refine hK66 _ _ ?_
 refine wpIn_seq_k fun K68 hK68 => ?_
 refine wpIn_block ?_
 refine wpIn_seq_k fun K69 hK69 => ?_
 refine rgS hS [] ?_
 have hS := hS.drew
 refine any_pure [0, 1, 4, 5] [2, 3, 5, 36, 37, 40, 41] (L' := [(2, pt b6 0), (3, pt b7 0), (5, vi y65), (36, vi y65), (37, pt b6 6), (40, vi y65), (41, pt b7 6)]) (listed' := (bitA 10 51)) (fuel := 6) hF (hS.sx [0, 1] (rg 6)) (by kernel_rfl) (by intro c a w t v h; cases t <;> exact h) (by kernel_rfl) rfl fun a hF => ?_
 refine bind_split H (fun x70 hx70 H => ?_)
 refine atk 2 (some 38) hF (hS.sx [0, 1] (rg 6)) rfl (fun w _ => val_indexArr (E := 25) (sz := 2) (n := 4) rfl rfl (i := y65) rfl (idx_lt hx70 ((hS.get 4 rfl : ArrP _ _ _ _ _ _).1)) (by kernel_rfl) (by kernel_rfl) w) fun a hF => ?_
 obtain ⟨⟨p71, c72, p73, c74⟩, hqx70, hR⟩ := elemATy (hS.get 4 rfl) hx70
 have hS := hS.adds hR
 refine atk 3 (some 39) hF (hS.sx [0, 1] [2, 3, 4, 5, 6, 7]) rfl (val_loadATy (t := t_api_Map) (n := 4) 1 3 rfl rfl rfl rfl (idx_lt hx70 (hS.get 6 rfl : ArrP _ _ _ _ _ _).1) (by kernel_rfl) (by kernel_rfl) (by kernel_rfl) (by kernel_rfl) hqx70) fun a hF => ?_
 refine bind_split H (fun x75 hx75 H => ?_)
 refine atk 6 (some 42) hF (hS.sx [0, 1] [2, 3, 4, 5, 6, 7]) rfl (fun w _ => val_indexArr (E := 25) (sz := 2) (n := 4) rfl rfl (i := y65) rfl (idx_lt hx75 ((hS.get 3 rfl : ArrP _ _ _ _ _ _).1)) (by kernel_rfl) (by kernel_rfl) w) fun a hF => ?_
 obtain ⟨⟨p76, c77, p78, c79⟩, hqx75, hR⟩ := elemATy (hS.get 3 rfl) hx75
 have hS := hS.adds hR
 refine atk 7 (some 43) hF (hS.sx [0, 1] [4, 5, 6, 7, 8, 9]) rfl (val_loadATy (t := t_api_Map) (n := 4) 0 3 rfl rfl rfl rfl (idx_lt hx75 (hS.get 5 rfl : ArrP _ _ _ _ _ _).1) (by kernel_rfl) (by kernel_rfl) (by kernel_rfl) (by kernel_rfl) hqx75) fun a hF => ?_
 refine ago 8 hF rfl ?_
 refine bind_split H (fun x80 hx80 H => ?_)
 refine wo_callP hF hS (by kernel_rfl) (by kernel_rfl) (C_ref08_Same N hS.fresh (T_api_Map.mk x70.Cuts x70.Nodes) (T_api_Map.mk x75.Cuts x75.Nodes) p71 c72 p73 c74 p76 c77 p78 c79 ((hS.pick [2, 3, 0, 1] (by kernel_rfl)).ro) hx80) ?_
 rintro _ κ w a ⟨rfl, hR, hN⟩ hF hS hO
 refine ⟨fun _ => (hS.sx [0, 1] [4, 5, 6, 7, 8, 9]), ?_⟩
 refine anp [9] [2, 3, 5, 45] hF (hS.sx [0, 1] [4, 5, 6, 7, 8, 9]) fun a hF => ?_
 refine and_ ?_
 refine hK69 _ _ ?_
 refine bif_split H (fun hb H => ?_) (fun hb H => ?_)
 refine cond_t hF (by kernel_rfl) hb ?_
 refine wpIn_seq_k fun K81 hK81 => ?_
 refine wpIn_region_lit ?_
 refine wp 1 [4] hF fun a hF => ?_
 refine wpListIn_nil ?_
 refine hK81 _ _ ?_
 refine wpIn_ret ?_
 cases H
 exact (ret_done hF hS (res1 Try.results83 (rvt hF)) ⟨rfl, (hS.pick [] (by kernel_rfl)).ro, hS.newC [] (by decide) (by kernel_rfl)⟩)
 refine cond_f hF (by kernel_rfl) hb ?_
 refine wpIn_skip ?_
 refine hK68 _ _ ?_
 refine wpIn_region_lit ?_
 refine wp 3 [2, 3, 5] hF fun a hF => ?_
 refine wpListIn_nil ?_
 exact ⟨fuel1, Nat.lt_succ_self _, _, IntKind.i64.wrap (y65 + 1), hF.kp [2, 3, 5], hS.sp [0, 1] [4, 5, 6, 7, 8, 9], H⟩
 refine cond_f hF (by kernel_rfl) hb ?_
 refine wpIn_exit ?_
 refine hK13 _ _ ?_
 refine wpIn_seq_k fun K82 hK82 => ?_
 refine wpIn_region_lit ?_
 refine wp 1 [4] hF fun a hF => ?_
 refine wpListIn_nil ?_
 refine hK82 _ _ ?_
 refine wpIn_ret ?_
 cases H
 exact (ret_done hF hS (res1 Try.results83 (rvt hF)) ⟨rfl, (hS.pick [] (by kernel_rfl)).ro, hS.newC [] (by decide) (by kernel_rfl)⟩)
set_option maxRecDepth 20000 in
set_option maxHeartbeats 8000000 in
theorem C_law18_Same (N : Nat) {κ0 : Gh} {w0 : World} (hfr : Fresh κ0 w0) (a1 : T_config_State) (a3 : T_ref18_State) (cs2 : List Value) (cs4 : List Value) (hR : ∀ m ∈ ([ml a1.Members 4, Arr.mp t_api_Map cs2 4 a1.Maps, ml a1.Modes 21, ml a3.Members 4, Arr.mp t_api_Map cs4 4 a3.Maps, ml a3.Modes 21] : List MP), m.p κ0 w0) {r : (Bool)} (H : M.law18_Same N a1 a3 = some r) :
    Calls Try.prog 42 #[.agg (flat [si a1.Pool, si a1.Nodes, eb 4 a1.Members, (8, cs2), ei 21 a1.Modes]).toArray, .agg (flat [si a3.Pool, si a3.Nodes, eb 4 a3.Members, (8, cs4), ei 21 a3.Modes]).toArray] w0 (Post [] κ0 w0 fun v κ w => v = vb r ∧ (∀ m ∈ ([] : List MP), m.p κ w) ∧ NewC w0 κ w []) := by
 have hS := SS.start hfr hR
 refine enter (N := (9)) (L := [(0, .agg (flat [si a1.Pool, si a1.Nodes, eb 4 a1.Members, (8, cs2), ei 21 a1.Modes]).toArray), (1, .agg (flat [si a3.Pool, si a3.Nodes, eb 4 a3.Members, (8, cs4), ei 21 a3.Modes]).toArray)]) Try.func42 rfl Try.ntmps42 (show 2 ≤ (9) by decide) rfl fun a hF => ?_
 unfold M.law18_Same at H
 refine wpIn_seq_k fun K5 hK5 => ?_
 refine wpIn_region_lit ?_
 refine wc (wbx hF hS [si a1.Pool, si a1.Nodes, eb 4 a1.Members, (8, cs2), ei 21 a1.Modes] (sgN 2 (sgEnc (hS.get 0 rfl) (sgArr (hS.get 1 rfl) (sgEnc (hS.get 2 rfl) sgNil)))) fun b6 a w hF hS => ?_)
 refine wc (wbx hF hS [si a3.Pool, si a3.Nodes, eb 4 a3.Members, (8, cs4), ei 21 a3.Modes] (sgN 2 (sgEnc (hS.get 3 rfl) (sgArr (hS.get 4 rfl) (sgEnc (hS.get 5 rfl) sgNil)))) fun b7 a w hF hS => ?_)
 refine wp 1 [2, 3] hF fun a hF => ?_
 refine wpListIn_nil ?_
 refine hK5 _ _ ?_
 refine wpIn_seq_k fun K8 hK8 => ?_
 refine rgS hS [] ?_
 have hS := hS.drew
 refine bind_split H (fun x9 hx9 H => ?_)
 refine bind_split H (fun x11 hx11 H => ?_)
 refine atk 0 (some 5) hF (hS.sx [0, 1] (rg 6)) rfl (vls 1 0 5) fun a hF => ?_
 refine atk 2 (some 7) hF (hS.sx [0, 1] (rg 6)) rfl (vls 0 0 5) fun a hF => ?_
 refine ago 1 hF rfl ?_
 refine wo_callP hF hS (by kernel_rfl) (by kernel_rfl) (C_law18_Told N hS.fresh (T_config_State.mk a1.Pool a1.Nodes a1.Members a1.Maps a1.Modes) cs2 ((hS.pick [0, 1, 2] (by kernel_rfl)).ro) hx9) ?_
 rintro _ κ w a ⟨cs10, rfl, hR, hN⟩ hF hS hO
 have hS := hS.adds hR
 refine ⟨fun _ => (hS.sx [0, 1] [3, 4, 5, 6, 7, 8]), ?_⟩
 refine ago 3 hF rfl ?_
 refine wo_callP hF hS (by kernel_rfl) (by kernel_rfl) (C_ref18_Same N hS.fresh (T_ref18_State.mk x9.Pool x9.Nodes x9.Members x9.Maps x9.Modes) (T_ref18_State.mk a3.Pool a3.Nodes a3.Members a3.Maps a3.Modes) cs10 cs4 ((hS.pick [0, 1, 2, 6, 7, 8] (by kernel_rfl)).ro) hx11) ?_
 rintro _ κ w a ⟨rfl, hR, hN⟩ hF hS hO
 refine ⟨fun _ => (hS.sx [0, 1] [3, 4, 5, 6, 7, 8]), ?_⟩
 refine anp [4] [4] hF (hS.sx [0, 1] [3, 4, 5, 6, 7, 8]) fun a hF => ?_
 refine and_ ?_
 refine hK8 _ _ ?_
 refine wpIn_ret ?_
 cases H
 exact (ret_done hF hS (res1 Try.results42 (rvt hF)) ⟨rfl, (hS.pick [] (by kernel_rfl)).ro, hS.newC [] (by decide) (by kernel_rfl)⟩)
set_option maxRecDepth 20000 in
set_option maxHeartbeats 8000000 in
theorem C_law18_awake (N : Nat) {κ0 : Gh} {w0 : World} (hfr : Fresh κ0 w0)   (hR : ∀ m ∈ ([] : List MP), m.p κ0 w0) {r : (Bool)} (H : M.law18_awake N  = some r) :
    Calls Try.prog 38 #[] w0 (Post [] κ0 w0 fun v κ w => v = vb r ∧ (∀ m ∈ ([] : List MP), m.p κ w) ∧ NewC w0 κ w []) := by
 have hS := SS.start hfr hR
 refine enter (N := (25)) (L := []) Try.func38 rfl Try.ntmps38 (show 0 ≤ (25) by decide) rfl fun a hF => ?_
 unfold M.law18_awake at H
 refine wpIn_seq_k fun K1 hK1 => ?_
 refine wpIn_region_lit ?_
 refine wp 1 [] hF fun a hF => ?_
 refine wpListIn_nil ?_
 refine hK1 _ _ ?_
 refine wpIn_seq_k fun K2 hK2 => ?_
 refine wpIn_region_lit ?_
 refine bind_split H (fun x3 hx3 H => ?_)
 refine wc (wo_callP hF hS (by kernel_rfl) (by kernel_rfl) (C_config_Start N hS.fresh 2 1 2  ((hS.pick [] (by kernel_rfl)).ro) hx3) ?_)
 rintro _ κ w a ⟨cs4, rfl, hR, hN⟩ hF hS hO
 have hS := hS.adds hR
 refine wp 3 [5, 6] hF fun a hF => ?_
 have hS := hS.add (m := ml (List.replicate 4 false) 4) (List.length_replicate)
 have hS := hS.add (m := Arr.mp t_api_Map ((List.replicate 4 (flat [sl none 0 0, sl none 0 0])).flatten) 4 (List.replicate 4 (T_api_Map.mk ([] : List ByteArray) ([] : List Int)))) (Arr.zero _ _ _ _ _ z_api_Map)
 have hS := hS.add (m := ml (List.replicate 21 0) 21) (List.length_replicate)
 refine wc (wal hF hS [si 0, si 0, eb 4 (List.replicate 4 false), (8, (List.replicate 4 (flat [sl none 0 0, sl none 0 0])).flatten), ei 21 (List.replicate 21 0)] (sgN 2 (sgEnc List.length_replicate (sgArr (hS.get 1 rfl) (sgEnc List.length_replicate sgNil)))) fun b5 a w hF hS => ?_)
 refine wc (wst hF hS 0 0 5 [si x3.1.Pool, si x3.1.Nodes, eb 4 x3.1.Members, (8, cs4), ei 21 x3.1.Modes] (sgN 2 (sgEnc (hS.get 3 rfl) (sgArr (hS.get 4 rfl) (sgEnc (hS.get 5 rfl) sgNil)))) fun a w hF hS => ?_)
 refine wp 1 [1, 2] hF fun a hF => ?_
 refine wpListIn_nil ?_
 refine hK2 _ _ ?_
 refine wpIn_seq_k fun K6 hK6 => ?_
 refine wpIn_region_lit ?_
 refine bind_split H (fun v8 hv8 H => ?_)
 refine wl_join (fun a w => ∃ κ : Gh, Fr (25) [] [(0, vb v8)] a ∧ SS [] κ0 w0 κ w [] [] ∧ True) ?_ ?_
 refine wp 3 [1, 9] hF fun a hF => ?_
 refine bif_split hv8 (fun hb hv8 => ?_) (fun hb hv8 => ?_)
 have hF := hF.boolv 9 (by kernel_rfl) hb
 refine wp 1 [1, 9, 10] hF fun a hF => ?_
 refine wcg hF (wld hF hS 0 0 0 fun a hF => ?_)
 refine wp 3 [1, 14] hF fun a hF => ?_
 refine bif_split hv8 (fun hb hv8 => ?_) (fun hb hv8 => ?_)
 have hF := hF.boolv 14 (by kernel_rfl) hb
 refine wl_pure (L' := [(1, pt b5 0), (14, vb true), (15, pt b5 2)]) 1 [1, 14, 15] hF (by kernel_rfl) fun a hF => ?_
 refine bind_split hv8 (fun x9 hx9 hv8 => ?_)
 refine wcg hF (wo_indexArr hF (by kernel_rfl) (E := 4) (sz := 1) (n := 4) rfl rfl (i := 0) rfl (idx_lt hx9 (hS.get 3 rfl)) (by kernel_rfl) (by kernel_rfl) fun a hF => ?_)
 refine wcg hF (wo_loadA1 (t := fBool) hF hS (by kernel_rfl) 0 2 (v := vb x9) rfl rfl rfl rfl hx9 rfl rfl (by kernel_rfl) (by kernel_rfl) fun a hF => ?_)
 refine wp 2 [1, 19] hF fun a hF => ?_
 refine bif_split hv8 (fun hb hv8 => ?_) (fun hb hv8 => ?_)
 have hF := hF.boolv 19 (by kernel_rfl) hb
 refine wl_pure (L' := [(19, vb true), (20, pt b5 2)]) 1 [19, 20] hF (by kernel_rfl) fun a hF => ?_
 refine bind_split hv8 (fun x10 hx10 hv8 => ?_)
 refine wcg hF (wo_indexArr hF (by kernel_rfl) (E := 4) (sz := 1) (n := 4) rfl rfl (i := 1) rfl (idx_lt hx10 (hS.get 3 rfl)) (by kernel_rfl) (by kernel_rfl) fun a hF => ?_)
 refine wcg hF (wo_loadA1 (t := fBool) hF hS (by kernel_rfl) 0 2 (v := vb x10) rfl rfl rfl rfl hx10 rfl rfl (by kernel_rfl) (by kernel_rfl) fun a hF => ?_)
 refine wp 3 [0] hF fun a hF => ?_
 refine wpListIn_nil ?_
 cases hv8
 exact ⟨_, hF.kp [0], hS.sp [] [], trivial⟩
 have hF := hF.boolv 19 (by kernel_rfl) hb
 refine wp 6 [0] hF fun a hF => ?_
 refine wpListIn_nil ?_
 cases hv8
 exact ⟨_, hF.kp [0], hS.sp [] [], trivial⟩
 have hF := hF.boolv 14 (by kernel_rfl) hb
 refine wp 11 [0] hF fun a hF => ?_
 refine wpListIn_nil ?_
 cases hv8
 exact ⟨_, hF.kp [0], hS.sp [] [], trivial⟩
 have hF := hF.boolv 9 (by kernel_rfl) hb
 refine wp 16 [0] hF fun a hF => ?_
 refine wpListIn_nil ?_
 cases hv8
 exact ⟨_, hF.kp [0], hS.sp [] [], trivial⟩
 rintro a w ⟨κ, hF, hS, -⟩
 refine hK6 _ _ ?_
 refine wpIn_ret ?_
 cases H
 exact (ret_done hF hS (res1 Try.results38 (rvt hF)) ⟨rfl, (hS.pick [] (by kernel_rfl)).ro, hS.newC [] (by decide) (by kernel_rfl)⟩)
end Go.Cf
