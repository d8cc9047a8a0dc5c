/- The walks: each function returns what its model says. Printed by a program of ours. -/
import Derived.Test.YtogjpknjolkjaaaZM1
import Derived.Test.YtogjpknjolkjaaaZW1
import Derived.Test.YtogjpknjolkjaaaZW2
import Derived.Test.YtogjpknjolkjaaaZW2b
import Derived.Test.YtogjpknjolkjaaaZW2c
import Derived.Test.YtogjpknjolkjaaaZW4
namespace Go.Cf
open Go Go.Proofs
set_option linter.unusedVariables false
set_option maxRecDepth 20000 in
set_option maxHeartbeats 8000000 in
theorem C_law08_SpanOwns (N : Nat) {κ0 : Gh} {w0 : World} (hfr : Fresh κ0 w0) (a1 : T_api_Map) (a6 : Int) (a7 : Int) (a8 : Int) (a9 : ByteArray) (p2 : Option Addr) (c3 : Nat) (p4 : Option Addr) (c5 : Nat) (hR : ∀ m ∈ ([Ro.mp fStr.ty p2 c3 a1.Cuts, Ro.mp (fInt .i64).ty p4 c5 a1.Nodes] : List MP), m.p κ0 w0) {r : (Bool)} (H : M.law08_SpanOwns N a1 a6 a7 a8 a9 = some r) :
    Calls Try.prog 6 #[.agg (flat [sl p2 (a1.Cuts).length c3, sl p4 (a1.Nodes).length c5]).toArray, vi a6, vi a7, vi a8, .string (a9)] w0 (Post [] κ0 w0 fun v κ w => v = vb r ∧ (∀ m ∈ ([] : List MP), m.p κ w) ∧ NewC w0 κ w []) := by
 have hS := SS.start hfr hR
 have hR0 := hR
 refine enter (N := (105)) (L := [(0, .agg (flat [sl p2 (a1.Cuts).length c3, sl p4 (a1.Nodes).length c5]).toArray), (1, vi a6), (2, vi a7), (3, vi a8), (4, .string (a9))]) Try.func6 rfl Try.ntmps6 (show 5 ≤ (105) by decide) rfl fun a hF => ?_
 unfold M.law08_SpanOwns at H
 refine wpIn_seq_k fun K10 hK10 => ?_
 refine wpIn_region_lit ?_
 refine wc (wbx hF hS [sl p2 (a1.Cuts).length c3, sl p4 (a1.Nodes).length c5] (sgN 2 sgNil) fun b11 a w hF hS => ?_)
 refine wp 1 [1, 2, 3, 4, 5] hF fun a hF => ?_
 refine wpListIn_nil ?_
 refine hK10 _ _ ?_
 refine wpIn_seq_k fun K12 hK12 => ?_
 refine wpIn_seq_k fun K13 hK13 => ?_
 refine wpIn_region_lit ?_
 refine wc (wls hF hS 0 0 2 fun a hF => ?_)
 refine bind_split H (fun x14 hx14 H => ?_)
 refine wc (wo_callP hF hS (by kernel_rfl) (by kernel_rfl) (C_law08_great N hS.fresh (T_api_Map.mk a1.Cuts a1.Nodes) p2 c3 p4 c5 ((hS.pick [0, 1] (by kernel_rfl)).ro) hx14) ?_)
 rintro _ κ w a ⟨rfl, hR, hN⟩ hF hS hO
 refine wpListIn_nil ?_
 refine hK13 _ _ ?_
 refine bif_split H (fun hb H => ?_) (fun hb H => ?_)
 refine cond_t hF (by kernel_rfl) hb ?_
 refine wpIn_seq_k fun K15 hK15 => ?_
 refine wpIn_region_lit ?_
 refine bind_split H (fun x16 hx16 H => ?_)
 refine wc (wo_callP hF hS (by kernel_rfl) (by kernel_rfl) (C_law08_awake N hS.fresh   ((hS.pick [] (by kernel_rfl)).ro) hx16) ?_)
 rintro _ κ w a ⟨rfl, hR, hN⟩ hF hS hO
 refine wp 1 [10] hF fun a hF => ?_
 refine wpListIn_nil ?_
 refine hK15 _ _ ?_
 refine wpIn_ret ?_
 cases H
 exact (ret_done hF hS (res1 Try.results6 (rvt hF)) ⟨rfl, (hS.pick [] (by kernel_rfl)).ro, hS.newC [] (by decide) (by kernel_rfl)⟩)
 refine cond_f hF (by kernel_rfl) hb ?_
 refine wpIn_skip ?_
 refine hK12 _ _ ?_
 refine wpIn_seq_k fun K17 hK17 => ?_
 refine wpIn_region_lit ?_
 refine wc (wls hF hS 0 0 2 fun a hF => ?_)
 refine bind_split H (fun x18 hx18 H => ?_)
 refine wc (wo_callP hF hS (by kernel_rfl) (by kernel_rfl) (C_ref08_Copy N hS.fresh (T_api_Map.mk a1.Cuts a1.Nodes) p2 c3 p4 c5 ((hS.pick [0, 1] (by kernel_rfl)).ro) hx18) ?_)
 rintro _ κ w a ⟨p19, c20, p21, c22, rfl, hR, hN⟩ hF hS hO
 have hS := hS.adds hR
 have hS := hS.addC hO hN
 refine wc (wal hF hS [sl none 0 0, sl none 0 0] (sgN 2 sgNil) fun b23 a w hF hS => ?_)
 refine wc (wst hF hS 0 0 2 [sl p19 (x18.Cuts).length c20, sl p21 (x18.Nodes).length c22] (sgN 2 sgNil) fun a w hF hS => ?_)
 refine wpListIn_nil ?_
 refine hK17 _ _ ?_
 refine wpIn_seq_k fun K24 hK24 => ?_
 refine wpIn_region_lit ?_
 refine wc (wls hF hS 3 0 2 fun a hF => ?_)
 refine wp 3 [1, 2, 3, 5, 11, 29, 30, 31, 32] hF fun a hF => ?_
 refine bind_split H (fun x25 hx25 H => ?_)
 refine wc (wo_callP hF hS (by kernel_rfl) (by kernel_rfl) (C_span_Split N hS.fresh (T_api_Map.mk a1.Cuts a1.Nodes) a6 a7 a9 p2 c3 p4 c5 ((hS.pick [2, 3] (by kernel_rfl)).ro) hx25) ?_)
 rintro _ κ w a ⟨p26, c27, p28, c29, rfl, hR, hN⟩ hF hS hO
 have hS := hS.adds hR
 have hS := hS.addC hO hN
 refine wp 3 [1, 2, 3, 5, 11, 34, 35] hF fun a hF => ?_
 refine wc (wal hF hS [sl none 0 0, sl none 0 0] (sgN 2 sgNil) fun b30 a w hF hS => ?_)
 refine wc (wst hF hS 0 0 2 [sl p26 (x25.1.Cuts).length c27, sl p28 (x25.1.Nodes).length c29] (sgN 2 sgNil) fun a w hF hS => ?_)
 refine wp 1 [1, 2, 3, 5, 11, 12] hF fun a hF => ?_
 refine wpListIn_nil ?_
 refine hK24 _ _ ?_
 refine wpIn_seq_k fun K31 hK31 => ?_
 refine wpIn_region_lit ?_
 refine wc (wls hF hS 6 0 2 fun a hF => ?_)
 refine wp 2 [1, 2, 3, 5, 11, 12, 37, 38, 39] hF fun a hF => ?_
 refine bind_split H (fun x32 hx32 H => ?_)
 refine wc (wo_callP hF hS (by kernel_rfl) (by kernel_rfl) (C_span_Merge N hS.fresh (T_api_Map.mk a1.Cuts a1.Nodes) a6 a7 p2 c3 p4 c5 ((hS.pick [4, 5] (by kernel_rfl)).ro) hx32) ?_)
 rintro _ κ w a ⟨p33, c34, p35, c36, rfl, hR, hN⟩ hF hS hO
 have hS := hS.adds hR
 have hS := hS.addC hO hN
 refine wp 3 [1, 2, 3, 5, 11, 12, 41, 42] hF fun a hF => ?_
 refine wc (wal hF hS [sl none 0 0, sl none 0 0] (sgN 2 sgNil) fun b37 a w hF hS => ?_)
 refine wc (wst hF hS 0 0 2 [sl p33 (x32.1.Cuts).length c34, sl p35 (x32.1.Nodes).length c36] (sgN 2 sgNil) fun a w hF hS => ?_)
 refine wp 1 [1, 2, 3, 5, 11, 12, 14] hF fun a hF => ?_
 refine wpListIn_nil ?_
 refine hK31 _ _ ?_
 refine wpIn_seq_k fun K38 hK38 => ?_
 refine wpIn_region_lit ?_
 refine wc (wls hF hS 9 0 2 fun a hF => ?_)
 refine wp 3 [5, 11, 12, 14, 44, 45, 46, 47] hF fun a hF => ?_
 refine bind_split H (fun x39 hx39 H => ?_)
 refine wc (wo_callP hF hS (by kernel_rfl) (by kernel_rfl) (C_span_Move N hS.fresh (T_api_Map.mk a1.Cuts a1.Nodes) a6 a7 a8 p2 c3 p4 c5 ((hS.pick [6, 7] (by kernel_rfl)).ro) hx39) ?_)
 rintro _ κ w a ⟨p40, c41, p42, c43, rfl, hR, hN⟩ hF hS hO
 have hS := hS.adds hR
 have hS := hS.addC hO hN
 refine wp 3 [5, 11, 12, 14, 49, 50] hF fun a hF => ?_
 refine wc (wal hF hS [sl none 0 0, sl none 0 0] (sgN 2 sgNil) fun b44 a w hF hS => ?_)
 refine wc (wst hF hS 0 0 2 [sl p40 (x39.1.Cuts).length c41, sl p42 (x39.1.Nodes).length c43] (sgN 2 sgNil) fun a w hF hS => ?_)
 refine wp 1 [5, 11, 12, 14, 16] hF fun a hF => ?_
 refine wpListIn_nil ?_
 refine hK38 _ _ ?_
 refine wpIn_seq_k fun K45 hK45 => ?_
 refine wpIn_region_lit ?_
 refine wc (wls hF hS 12 0 2 fun a hF => ?_)
 refine bind_split H (fun x46 hx46 H => ?_)
 refine wc (wo_callP hF hS (by kernel_rfl) (by kernel_rfl) (C_span_Copy N hS.fresh (T_api_Map.mk a1.Cuts a1.Nodes) p2 c3 p4 c5 ((hS.pick [8, 9] (by kernel_rfl)).ro) hx46) ?_)
 rintro _ κ w a ⟨p47, c48, p49, c50, rfl, hR, hN⟩ hF hS hO
 have hS := hS.adds hR
 have hS := hS.addC hO hN
 refine wc (wal hF hS [sl none 0 0, sl none 0 0] (sgN 2 sgNil) fun b51 a w hF hS => ?_)
 refine wc (wst hF hS 0 0 2 [sl p47 (x46.Cuts).length c48, sl p49 (x46.Nodes).length c50] (sgN 2 sgNil) fun a w hF hS => ?_)
 refine wpListIn_nil ?_
 refine hK45 _ _ ?_
 refine wpIn_seq_k fun K52 hK52 => ?_
 refine wpIn_seq_k fun K53 hK53 => ?_
 refine wpIn_region_lit ?_
 refine wc (wls hF hS 0 0 2 fun a hF => ?_)
 refine wc (wls hF hS 15 0 2 fun a hF => ?_)
 refine bind_split H (fun x54 hx54 H => ?_)
 refine wc (wo_callP hF hS (by kernel_rfl) (by kernel_rfl) (C_ref08_Same N hS.fresh (T_api_Map.mk x46.Cuts x46.Nodes) (T_api_Map.mk a1.Cuts a1.Nodes) p47 c48 p49 c50 p2 c3 p4 c5 ((hS.pick [0, 1, 10, 11] (by kernel_rfl)).ro) hx54) ?_)
 rintro _ κ w a ⟨rfl, hR, hN⟩ hF hS hO
 refine wl_pure (L' := [(5, pt b11 0), (11, pt b23 0), (12, pt b30 0), (14, pt b37 0), (16, pt b44 0), (18, pt b51 0), (56, vb (!x54))]) 1 [5, 11, 12, 14, 16, 18, 56] hF (by kernel_rfl) fun a hF => ?_
 refine wpListIn_nil ?_
 refine hK53 _ _ ?_
 refine bif_split H (fun hb H => ?_) (fun hb H => ?_)
 refine cond_t hF (by kernel_rfl) hb ?_
 refine wpIn_seq_k fun K55 hK55 => ?_
 refine wpIn_region_lit ?_
 refine wp 1 [10] hF fun a hF => ?_
 refine wpListIn_nil ?_
 refine hK55 _ _ ?_
 refine wpIn_ret ?_
 cases H
 exact (ret_done hF hS (res1 Try.results6 (rvt hF)) ⟨rfl, (hS.pick [] (by kernel_rfl)).ro, hS.newC [] (by decide) (by kernel_rfl)⟩)
 refine cond_f hF (by kernel_rfl) hb ?_
 refine wpIn_skip ?_
 refine hK52 _ _ ?_
 refine wpIn_seq_k fun K56 hK56 => ?_
 refine wpIn_seq_k fun K57 hK57 => ?_
 refine wpIn_region_lit ?_
 refine wc (wls hF hS 9 0 2 fun a hF => ?_)
 refine wc (wls hF hS 6 0 2 fun a hF => ?_)
 refine wc (wls hF hS 3 0 2 fun a hF => ?_)
 refine wc (wls hF hS 0 0 2 fun a hF => ?_)
 refine wc (wo_buildB (s := [sl p26 (x25.1.Cuts).length c27, sl p28 (x25.1.Nodes).length c29, sl p33 (x32.1.Cuts).length c34, sl p35 (x32.1.Nodes).length c36, sl p40 (x39.1.Cuts).length c41, sl p42 (x39.1.Nodes).length c43, sl p47 (x46.Cuts).length c48, sl p49 (x46.Nodes).length c50]) (vs := [(0, .agg (flat [sl p26 (x25.1.Cuts).length c27, sl p28 (x25.1.Nodes).length c29]).toArray), (1, .agg (flat [sl p33 (x32.1.Cuts).length c34, sl p35 (x32.1.Nodes).length c36]).toArray), (2, .agg (flat [sl p40 (x39.1.Cuts).length c41, sl p42 (x39.1.Nodes).length c43]).toArray), (3, .agg (flat [sl p47 (x46.Cuts).length c48, sl p49 (x46.Nodes).length c50]).toArray)]) (z := .agg (flat [sl none 0 0, sl none 0 0]).toArray) (sz := 2) (E := 25) hF hS (by kernel_rfl) rfl (by kernel_rfl) (show segGood [sl p26 (x25.1.Cuts).length c27, sl p28 (x25.1.Nodes).length c29, sl p33 (x32.1.Cuts).length c34, sl p35 (x32.1.Nodes).length c36, sl p40 (x39.1.Cuts).length c41, sl p42 (x39.1.Nodes).length c43, sl p47 (x46.Cuts).length c48, sl p49 (x46.Nodes).length c50] from (sgN 8 sgNil)).1 (by kernel_rfl) (by kernel_rfl) (by kernel_rfl) (by kernel_rfl) (by kernel_rfl) fun b59 a w hF hS => ?_)
 refine wl_pure (L' := [(5, pt b11 0), (11, pt b23 0), (61, .slice (some ⟨b59, 0, none⟩) 4 4), (62, vi 4), (63, vi 0)]) 2 [5, 11, 61, 62, 63] hF (by kernel_rfl) fun a hF => ?_
 refine wpListIn_nil ?_
 refine hK57 _ _ ?_
 refine wpIn_block ?_
 refine loop_rounds 25 ?_
 refine round_go ?_
 refine wpIn_seq_k fun K60 hK60 => ?_
 refine wpIn_region_lit ?_
 refine wp 1 [5, 11, 61, 62, 63, 64] hF fun a hF => ?_
 refine wpListIn_nil ?_
 refine hK60 _ _ ?_
 refine wpIn_seq_k fun K61 hK61 => ?_
 refine cond_t hF (by kernel_rfl) rfl ?_
 refine wpIn_skip ?_
 refine hK61 _ _ ?_
 refine wpIn_seq_k fun K62 hK62 => ?_
 refine wpIn_block ?_
 refine wpIn_seq_k fun K63 hK63 => ?_
 refine wpIn_region_lit ?_
 refine wp 1 [5, 11, 61, 62, 63, 65] hF fun a hF => ?_
 refine wc (wls hF hS 0 0 2 fun a hF => ?_)
 refine wc (wal hF hS [sl none 0 0, sl none 0 0] (sgN 2 sgNil) fun b64 a w hF hS => ?_)
 refine wc (wst hF hS 0 0 2 [sl p26 (x25.1.Cuts).length c27, sl p28 (x25.1.Nodes).length c29] (sgN 2 sgNil) fun a w hF hS => ?_)
 refine wpListIn_nil ?_
 refine hK63 _ _ ?_
 refine wpIn_seq_k fun K65 hK65 => ?_
 refine wpIn_seq_k fun K66 hK66 => ?_
 refine wpIn_region_lit ?_
 refine wp 1 [5, 11, 20, 61, 62, 63, 67] hF fun a hF => ?_
 refine wc (wld hF hS 0 0 0 fun a hF => ?_)
 refine wp 2 [5, 11, 20, 61, 62, 63, 69, 70] hF fun a hF => ?_
 refine wpListIn_nil ?_
 refine hK66 _ _ ?_
 refine wpIn_block ?_
 refine loop_fuel (n := N) (fun n a w => ∃ (κ : Gh) (y117 : List ByteArray) (y118 : Int), Fr (105) [] [(5, pt b11 0), (11, pt b23 0), (20, pt b64 0), (61, .slice (some ⟨b59, 0, none⟩) 4 4), (62, vi 4), (63, vi 0), (69, vi ((x25.1.Cuts).length : Int)), (70, vi y118)] a ∧ SS [] κ0 w0 κ w [.box b64 25 [sl p26 (y117).length c27, sl p28 (x25.1.Nodes).length c29], .box b59 25 [sl p26 (y117).length c27, sl p28 (x25.1.Nodes).length c29, sl p33 (x32.1.Cuts).length c34, sl p35 (x32.1.Nodes).length c36, sl p40 (x39.1.Cuts).length c41, sl p42 (x39.1.Nodes).length c43, sl p47 (x46.Cuts).length c48, sl p49 (x46.Nodes).length c50], .box b23 25 [sl p19 (x18.Cuts).length c20, sl p21 (x18.Nodes).length c22], .box b11 25 [sl p2 (a1.Cuts).length c3, sl p4 (a1.Nodes).length c5], .tok p26 9 1 (y117).length c27, .tok p47 9 1 (x46.Cuts).length c48, .tok p49 3 1 (x46.Nodes).length c50, .tok p40 9 1 (x39.1.Cuts).length c41, .tok p42 3 1 (x39.1.Nodes).length c43, .tok p33 9 1 (x32.1.Cuts).length c34, .tok p35 3 1 (x32.1.Nodes).length c36, .tok p28 3 1 (x25.1.Nodes).length c29, .tok p19 9 1 (x18.Cuts).length c20, .tok p21 3 1 (x18.Nodes).length c22] [Ro.mp fStr.ty p26 c27 y117, Ro.mp (fInt .i64).ty p28 c29 x25.1.Nodes, Ro.mp fStr.ty p33 c34 x32.1.Cuts, Ro.mp (fInt .i64).ty p35 c36 x32.1.Nodes, Ro.mp fStr.ty p40 c41 x39.1.Cuts, Ro.mp (fInt .i64).ty p42 c43 x39.1.Nodes, Ro.mp fStr.ty p47 c48 x46.Cuts, Ro.mp (fInt .i64).ty p49 c50 x46.Nodes, Ro.mp fStr.ty p19 c20 x18.Cuts, Ro.mp (fInt .i64).ty p21 c22 x18.Nodes, Ro.mp fStr.ty p2 c3 a1.Cuts, Ro.mp (fInt .i64).ty p4 c5 a1.Nodes] ∧ M.law08_SpanOwns_L1 N n a1 x18 x25 x32 x39 x46 y117 y118 = some r) ?_ ?_
 exact ⟨_, x25.1.Cuts, 0, hF.kp [5, 11, 20, 61, 62, 63, 69, 70], hS.sp [0, 1, 14, 17, 12, 3, 4, 6, 7, 9, 10, 13, 15, 16] [6, 7, 4, 5, 2, 3, 0, 1, 8, 9, 10, 11], H⟩
 rintro n a w ⟨κ, y117, y118, hF, hS, H⟩
 rcases n with _ | fuel1
 simp [M.law08_SpanOwns_L1] at H
 simp only [M.law08_SpanOwns_L1] at H
 refine wpIn_seq_k fun K119 hK119 => ?_
 refine wpIn_region_lit ?_
 refine wp 1 [5, 11, 20, 61, 62, 63, 69, 70, 71] hF fun a hF => ?_
 refine wpListIn_nil ?_
 refine hK119 _ _ ?_
 refine wpIn_seq_k fun K120 hK120 => ?_
 refine bif_split H (fun hb H => ?_) (fun hb H => ?_)
 refine cond_t hF (by kernel_rfl) hb ?_
 refine wpIn_skip ?_
 refine hK120 _ _ ?_
 refine wpIn_seq_k fun K121 hK121 => ?_
 refine wpIn_block ?_
 refine wpIn_seq_k fun K122 hK122 => ?_
 refine wpIn_region_lit ?_
 refine wp 2 [5, 11, 20, 21, 61, 62, 63, 69, 70] hF fun a hF => ?_
 refine wpListIn_nil ?_
 refine hK122 _ _ ?_
 refine rgS hS [10] ?_
 have hS := hS.drew
 refine any_pure [0, 2, 3, 5] [5, 11, 20, 61, 62, 63, 69, 70, 73, 75, 76, 78] (L' := [(5, pt b11 0), (11, pt b23 0), (20, pt b64 0), (61, .slice (some ⟨b59, 0, none⟩) 4 4), (62, vi 4), (63, vi 0), (69, vi ((x25.1.Cuts).length : Int)), (70, vi y118), (73, pt b64 0), (75, vi y118), (76, pt b64 0), (78, vi y118)]) (listed' := (bitA 11 45)) (fuel := 7) hF (hS.sx (rg 4) (rg 12)) (by kernel_rfl) (by intro c a w t v h; cases t <;> exact h) (by kernel_rfl) rfl fun a hF => ?_
 refine atk 1 (some 74) hF (hS.sx (rg 4) (rg 12)) rfl (vld 0 0 0) fun a hF => ?_
 refine atk 4 (some 77) hF (hS.sx (rg 4) (rg 12)) rfl (vld 0 0 0) fun a hF => ?_
 refine bind_split H (fun x123 hx123 H => ?_)
 obtain ⟨b124, f125, hpx123⟩ := hS.ptr 0 rfl hx123
 refine atk 6 (some 79) hF (hS.sx (rg 4) (rg 12)) rfl (fun w _ => val_index (E := 9) (sz := 1) rfl hpx123 rfl (by kernel_rfl) rfl hx123 (by kernel_rfl) (by kernel_rfl) w) fun a hF => ?_
 refine atk 7 (some 80) hF (hS.sx (rg 4) (rg 12)) rfl (val_loadRo (t := fStr) 0 0 (v := .string (x123)) rfl rfl hpx123 rfl hx123 (by kernel_rfl) (by kernel_rfl) (by kernel_rfl)) fun a hF => ?_
 refine ago 8 hF rfl ?_
 refine bind_split H (fun x126 hx126 H => ?_)
 refine wo_callP hF hS (by kernel_rfl) (by kernel_rfl) (C_law08_other N hS.fresh x123  ((hS.pick [] (by kernel_rfl)).ro) hx126) ?_
 rintro _ κ w a ⟨rfl, hR, hN⟩ hF hS hO
 refine ⟨fun _ => (hS.sx (rg 4) (rg 12)), ?_⟩
 refine bind_split H (fun x127 hx127 H => ?_)
 obtain ⟨b128, f129, hpx127⟩ := hS.ptr 0 rfl hx127
 refine atk 9 (some 82) hF (hS.sx (rg 4) (rg 12)) rfl (fun w _ => val_index (E := 9) (sz := 1) rfl hpx127 rfl (by kernel_rfl) rfl hx127 (by kernel_rfl) (by kernel_rfl) w) fun a hF => ?_
 refine ago 10 hF rfl ?_
 refine wo_storeTok (t := fStr) (y := x127) (z := x126) (v := .string (x126)) (vs := (flat [sg x126])) (sz := 1) hF hS hfr hR0 (by kernel_rfl) 4 0 0 rfl rfl (by kernel_rfl) rfl rfl rfl hpx127 hx127 rfl (by kernel_rfl) (by kernel_rfl) rfl (show segGood [sg x126] from (sgN 1 sgNil)).2 rfl (by decide) (fun _ _ h => by cases h) rfl [0, 1] [1, 2, 3, 4, 5, 6, 7, 8, 9] (Ra := [Ro.mp fStr.ty p2 c3 a1.Cuts, Ro.mp (fInt .i64).ty p4 c5 a1.Nodes]) (Rb := [Ro.mp (fInt .i64).ty p28 c29 x25.1.Nodes, Ro.mp fStr.ty p33 c34 x32.1.Cuts, Ro.mp (fInt .i64).ty p35 c36 x32.1.Nodes, Ro.mp fStr.ty p40 c41 x39.1.Cuts, Ro.mp (fInt .i64).ty p42 c43 x39.1.Nodes, Ro.mp fStr.ty p47 c48 x46.Cuts, Ro.mp (fInt .i64).ty p49 c50 x46.Nodes, Ro.mp fStr.ty p19 c20 x18.Cuts, Ro.mp (fInt .i64).ty p21 c22 x18.Nodes]) rfl rfl (by intro m hm; simp only [List.mem_cons, List.not_mem_nil, or_false] at hm; rcases hm with rfl | rfl | rfl | rfl | rfl | rfl | rfl | rfl | rfl <;> first | exact apart_ro (hS.tokApart 4 11 hpx127 rfl rfl (by decide)) | exact apart_ro (hS.tokApart 4 9 hpx127 rfl rfl (by decide)) | exact apart_ro (hS.tokApart 4 10 hpx127 rfl rfl (by decide)) | exact apart_ro (hS.tokApart 4 7 hpx127 rfl rfl (by decide)) | exact apart_ro (hS.tokApart 4 8 hpx127 rfl rfl (by decide)) | exact apart_ro (hS.tokApart 4 5 hpx127 rfl rfl (by decide)) | exact apart_ro (hS.tokApart 4 6 hpx127 rfl rfl (by decide)) | exact apart_ro (hS.tokApart 4 12 hpx127 rfl rfl (by decide)) | exact apart_ro (hS.tokApart 4 13 hpx127 rfl rfl (by decide))) (Cf := (fun nn => [.box b64 25 [sl p26 nn c27, sl p28 (x25.1.Nodes).length c29], .box b59 25 [sl p26 nn c27, sl p28 (x25.1.Nodes).length c29, sl p33 (x32.1.Cuts).length c34, sl p35 (x32.1.Nodes).length c36, sl p40 (x39.1.Cuts).length c41, sl p42 (x39.1.Nodes).length c43, sl p47 (x46.Cuts).length c48, sl p49 (x46.Nodes).length c50], .box b23 25 [sl p19 (x18.Cuts).length c20, sl p21 (x18.Nodes).length c22], .box b11 25 [sl p2 (a1.Cuts).length c3, sl p4 (a1.Nodes).length c5], .tok p26 9 1 nn c27, .tok p47 9 1 (x46.Cuts).length c48, .tok p49 3 1 (x46.Nodes).length c50, .tok p40 9 1 (x39.1.Cuts).length c41, .tok p42 3 1 (x39.1.Nodes).length c43, .tok p33 9 1 (x32.1.Cuts).length c34, .tok p35 3 1 (x32.1.Nodes).length c36, .tok p28 3 1 (x25.1.Nodes).length c29, .tok p19 9 1 (x18.Cuts).length c20, .tok p21 3 1 (x18.Nodes).length c22])) (Lf := (fun nn => [(5, pt b11 0), (11, pt b23 0), (20, pt b64 0), (61, .slice (some ⟨b59, 0, none⟩) 4 4), (62, vi 4), (63, vi 0), (69, vi ((x25.1.Cuts).length : Int)), (70, vi y118), (73, pt b64 0), (74, .slice p26 nn c27), (75, vi y118), (76, pt b64 0), (77, .slice p26 nn c27), (78, vi y118), (79, .pointer (some ⟨b124, (f125 + Int.toNat y118 * 1), none⟩)), (80, .string (x123)), (81, .string (x126)), (82, .pointer (some ⟨b128, (f129 + Int.toNat y118 * 1), none⟩))])) [5, 11, 20, 61, 62, 63, 69, 70, 73, 74, 75, 76, 77, 78, 79, 80, 81, 82] rfl (by kernel_rfl) fun a w hF hS => ?_
 refine ⟨notE, ?_⟩
 refine and_ ?_
 refine hK121 _ _ ?_
 refine wpIn_region_lit ?_
 refine wp 2 [5, 11, 20, 61, 62, 63, 69, 70] hF fun a hF => ?_
 refine wpListIn_nil ?_
 exact ⟨fuel1, Nat.lt_succ_self _, _, (List.set y117 (Int.toNat y118) x126), IntKind.i64.wrap (y118 + 1), hF.kp [5, 11, 20, 61, 62, 63, 69, 70], hS.sp (rg 14) [0, 3, 4, 5, 6, 7, 8, 9, 10, 11, 1, 2], H⟩
 refine cond_f hF (by kernel_rfl) hb ?_
 refine wpIn_exit ?_
 refine hK65 _ _ ?_
 refine wpIn_seq_k fun K130 hK130 => ?_
 refine wpIn_region_lit ?_
 refine wp 1 [5, 11, 20, 61, 62, 63, 84] hF fun a hF => ?_
 refine wc (wld hF hS 0 1 0 fun a hF => ?_)
 refine wp 2 [5, 11, 20, 61, 62, 63, 86, 87] hF fun a hF => ?_
 refine wpListIn_nil ?_
 refine hK130 _ _ ?_
 refine wpIn_block ?_
 refine loop_fuel (n := N) (fun n a w => ∃ (κ : Gh) (y181 : List Int) (y182 : Int), Fr (105) [] [(5, pt b11 0), (11, pt b23 0), (20, pt b64 0), (61, .slice (some ⟨b59, 0, none⟩) 4 4), (62, vi 4), (63, vi 0), (86, vi ((x25.1.Nodes).length : Int)), (87, vi y182)] a ∧ SS [] κ0 w0 κ w [.box b64 25 [sl p26 (y117).length c27, sl p28 (y181).length c29], .box b59 25 [sl p26 (y117).length c27, sl p28 (y181).length c29, sl p33 (x32.1.Cuts).length c34, sl p35 (x32.1.Nodes).length c36, sl p40 (x39.1.Cuts).length c41, sl p42 (x39.1.Nodes).length c43, sl p47 (x46.Cuts).length c48, sl p49 (x46.Nodes).length c50], .box b23 25 [sl p19 (x18.Cuts).length c20, sl p21 (x18.Nodes).length c22], .box b11 25 [sl p2 (a1.Cuts).length c3, sl p4 (a1.Nodes).length c5], .tok p28 3 1 (y181).length c29, .tok p26 9 1 (y117).length c27, .tok p47 9 1 (x46.Cuts).length c48, .tok p49 3 1 (x46.Nodes).length c50, .tok p40 9 1 (x39.1.Cuts).length c41, .tok p42 3 1 (x39.1.Nodes).length c43, .tok p33 9 1 (x32.1.Cuts).length c34, .tok p35 3 1 (x32.1.Nodes).length c36, .tok p19 9 1 (x18.Cuts).length c20, .tok p21 3 1 (x18.Nodes).length c22] [Ro.mp fStr.ty p26 c27 y117, Ro.mp (fInt .i64).ty p28 c29 y181, Ro.mp fStr.ty p33 c34 x32.1.Cuts, Ro.mp (fInt .i64).ty p35 c36 x32.1.Nodes, Ro.mp fStr.ty p40 c41 x39.1.Cuts, Ro.mp (fInt .i64).ty p42 c43 x39.1.Nodes, Ro.mp fStr.ty p47 c48 x46.Cuts, Ro.mp (fInt .i64).ty p49 c50 x46.Nodes, Ro.mp fStr.ty p19 c20 x18.Cuts, Ro.mp (fInt .i64).ty p21 c22 x18.Nodes, Ro.mp fStr.ty p2 c3 a1.Cuts, Ro.mp (fInt .i64).ty p4 c5 a1.Nodes] ∧ M.law08_SpanOwns_L2 N n a1 x18 x25 x32 x39 x46 y117 y181 y182 = some r) ?_ ?_
 exact ⟨_, x25.1.Nodes, 0, hF.kp [5, 11, 20, 61, 62, 63, 86, 87], hS.sp [0, 1, 2, 3, 11, 4, 5, 6, 7, 8, 9, 10, 12, 13] (rg 12), H⟩
 rintro n a w ⟨κ, y181, y182, hF, hS, H⟩
 rcases n with _ | fuel2
 simp [M.law08_SpanOwns_L2] at H
 simp only [M.law08_SpanOwns_L2] at H
 refine wpIn_seq_k fun K183 hK183 => ?_
 refine wpIn_region_lit ?_
 refine wp 1 [5, 11, 20, 61, 62, 63, 86, 87, 88] hF fun a hF => ?_
 refine wpListIn_nil ?_
 refine hK183 _ _ ?_
 refine wpIn_seq_k fun K184 hK184 => ?_
 refine bif_split H (fun hb H => ?_) (fun hb H => ?_)
 refine cond_t hF (by kernel_rfl) hb ?_
 refine wpIn_skip ?_
 refine hK184 _ _ ?_
 refine wpIn_seq_k fun K185 hK185 => ?_
 refine wpIn_block ?_
 refine wpIn_seq_k fun K186 hK186 => ?_
 refine wpIn_region_lit ?_
 refine wp 2 [5, 11, 20, 22, 61, 62, 63, 86, 87] hF fun a hF => ?_
 refine wpListIn_nil ?_
 refine hK186 _ _ ?_
 refine wpIn_region_lit ?_
 refine wp 1 [5, 11, 20, 22, 61, 62, 63, 86, 87, 90] hF fun a hF => ?_
 refine wc (wld hF hS 0 1 0 fun a hF => ?_)
 refine wl_pure (L' := [(5, pt b11 0), (11, pt b23 0), (20, pt b64 0), (61, .slice (some ⟨b59, 0, none⟩) 4 4), (62, vi 4), (63, vi 0), (86, vi ((x25.1.Nodes).length : Int)), (87, vi y182), (91, .slice p28 (y181).length c29), (92, vi y182)]) 1 [5, 11, 20, 61, 62, 63, 86, 87, 91, 92] hF (by kernel_rfl) fun a hF => ?_
 refine bind_split H (fun x187 hx187 H => ?_)
 refine wc (wo_index hF hS (by kernel_rfl) 1 (E := 3) (sz := 1) rfl rfl rfl (by kernel_rfl) rfl hx187 (by kernel_rfl) (by kernel_rfl) fun b188 f189 a hpx187 hF => ?_)
 refine wc (wo_loadRo (t := (fInt .i64)) hF hS (by kernel_rfl) 1 0 (v := vi x187) rfl rfl hpx187 rfl hx187 (by kernel_rfl) (by kernel_rfl) (by kernel_rfl) fun a hF => ?_)
 refine wl_pure (L' := [(5, pt b11 0), (11, pt b23 0), (20, pt b64 0), (61, .slice (some ⟨b59, 0, none⟩) 4 4), (62, vi 4), (63, vi 0), (86, vi ((x25.1.Nodes).length : Int)), (87, vi y182), (91, .slice p28 (y181).length c29), (92, vi y182), (95, vi (IntKind.i64.wrap (x187 + 1)))]) 1 [5, 11, 20, 61, 62, 63, 86, 87, 91, 92, 95] hF (by kernel_rfl) fun a hF => ?_
 refine bind_split H (fun x190 hx190 H => ?_)
 refine wc (wo_index hF hS (by kernel_rfl) 1 (E := 3) (sz := 1) rfl rfl rfl (by kernel_rfl) rfl hx190 (by kernel_rfl) (by kernel_rfl) fun b191 f192 a hpx190 hF => ?_)
 refine wc (wo_storeTok (t := (fInt .i64)) (y := x190) (z := IntKind.i64.wrap (x187 + 1)) (v := vi (IntKind.i64.wrap (x187 + 1))) (vs := (flat [si (IntKind.i64.wrap (x187 + 1))])) (sz := 1) hF hS hfr hR0 (by kernel_rfl) 4 1 0 rfl rfl (by kernel_rfl) rfl rfl rfl hpx190 hx190 rfl (by kernel_rfl) (by kernel_rfl) rfl (show segGood [si (IntKind.i64.wrap (x187 + 1))] from (sgN 1 sgNil)).2 rfl (by decide) (fun _ _ h => by cases h) rfl [0, 1] [0, 2, 3, 4, 5, 6, 7, 8, 9] (Ra := [Ro.mp fStr.ty p2 c3 a1.Cuts, Ro.mp (fInt .i64).ty p4 c5 a1.Nodes]) (Rb := [Ro.mp fStr.ty p26 c27 y117, Ro.mp fStr.ty p33 c34 x32.1.Cuts, Ro.mp (fInt .i64).ty p35 c36 x32.1.Nodes, Ro.mp fStr.ty p40 c41 x39.1.Cuts, Ro.mp (fInt .i64).ty p42 c43 x39.1.Nodes, Ro.mp fStr.ty p47 c48 x46.Cuts, Ro.mp (fInt .i64).ty p49 c50 x46.Nodes, Ro.mp fStr.ty p19 c20 x18.Cuts, Ro.mp (fInt .i64).ty p21 c22 x18.Nodes]) rfl rfl (by intro m hm; simp only [List.mem_cons, List.not_mem_nil, or_false] at hm; rcases hm with rfl | rfl | rfl | rfl | rfl | rfl | rfl | rfl | rfl <;> first | exact apart_ro (hS.tokApart 4 5 hpx190 rfl rfl (by decide)) | exact apart_ro (hS.tokApart 4 10 hpx190 rfl rfl (by decide)) | exact apart_ro (hS.tokApart 4 11 hpx190 rfl rfl (by decide)) | exact apart_ro (hS.tokApart 4 8 hpx190 rfl rfl (by decide)) | exact apart_ro (hS.tokApart 4 9 hpx190 rfl rfl (by decide)) | exact apart_ro (hS.tokApart 4 6 hpx190 rfl rfl (by decide)) | exact apart_ro (hS.tokApart 4 7 hpx190 rfl rfl (by decide)) | exact apart_ro (hS.tokApart 4 12 hpx190 rfl rfl (by decide)) | exact apart_ro (hS.tokApart 4 13 hpx190 rfl rfl (by decide))) (Cf := (fun nn => [.box b64 25 [sl p26 (y117).length c27, sl p28 nn c29], .box b59 25 [sl p26 (y117).length c27, sl p28 nn c29, sl p33 (x32.1.Cuts).length c34, sl p35 (x32.1.Nodes).length c36, sl p40 (x39.1.Cuts).length c41, sl p42 (x39.1.Nodes).length c43, sl p47 (x46.Cuts).length c48, sl p49 (x46.Nodes).length c50], .box b23 25 [sl p19 (x18.Cuts).length c20, sl p21 (x18.Nodes).length c22], .box b11 25 [sl p2 (a1.Cuts).length c3, sl p4 (a1.Nodes).length c5], .tok p28 3 1 nn c29, .tok p26 9 1 (y117).length c27, .tok p47 9 1 (x46.Cuts).length c48, .tok p49 3 1 (x46.Nodes).length c50, .tok p40 9 1 (x39.1.Cuts).length c41, .tok p42 3 1 (x39.1.Nodes).length c43, .tok p33 9 1 (x32.1.Cuts).length c34, .tok p35 3 1 (x32.1.Nodes).length c36, .tok p19 9 1 (x18.Cuts).length c20, .tok p21 3 1 (x18.Nodes).length c22])) (Lf := (fun nn => [(5, pt b11 0), (11, pt b23 0), (20, pt b64 0), (61, .slice (some ⟨b59, 0, none⟩) 4 4), (62, vi 4), (63, vi 0), (86, vi ((x25.1.Nodes).length : Int)), (87, vi y182), (91, .slice p28 nn c29), (92, vi y182), (95, vi (IntKind.i64.wrap (x187 + 1))), (96, .pointer (some ⟨b191, (f192 + Int.toNat y182 * 1), none⟩))])) [5, 11, 20, 61, 62, 63, 86, 87, 91, 92, 95, 96] rfl (by kernel_rfl) fun a w hF hS => ?_)
 refine wpListIn_nil ?_
 refine hK185 _ _ ?_
 refine wpIn_region_lit ?_
 refine wp 2 [5, 11, 20, 61, 62, 63, 86, 87] hF fun a hF => ?_
 refine wpListIn_nil ?_
 exact ⟨fuel2, Nat.lt_succ_self _, _, (List.set y181 (Int.toNat y182) (IntKind.i64.wrap (x187 + 1))), IntKind.i64.wrap (y182 + 1), hF.kp [5, 11, 20, 61, 62, 63, 86, 87], hS.sp (rg 14) [3, 0, 4, 5, 6, 7, 8, 9, 10, 11, 1, 2], H⟩
 refine cond_f hF (by kernel_rfl) hb ?_
 refine wpIn_exit ?_
 refine hK62 _ _ ?_
 refine wpIn_region_lit ?_
 refine wl_pure (L' := [(5, pt b11 0), (11, pt b23 0), (61, .slice (some ⟨b59, 0, none⟩) 4 4), (62, vi 4), (63, vi 1)]) 2 [5, 11, 61, 62, 63] hF (by kernel_rfl) fun a hF => ?_
 refine wpListIn_nil ?_
 refine round_go ?_
 refine wpIn_seq_k fun K193 hK193 => ?_
 refine wpIn_region_lit ?_
 refine wp 1 [5, 11, 61, 62, 63, 64] hF fun a hF => ?_
 refine wpListIn_nil ?_
 refine hK193 _ _ ?_
 refine wpIn_seq_k fun K194 hK194 => ?_
 refine cond_t hF (by kernel_rfl) rfl ?_
 refine wpIn_skip ?_
 refine hK194 _ _ ?_
 refine wpIn_seq_k fun K195 hK195 => ?_
 refine wpIn_block ?_
 refine wpIn_seq_k fun K196 hK196 => ?_
 refine wpIn_region_lit ?_
 refine wp 1 [5, 11, 61, 62, 63, 65] hF fun a hF => ?_
 refine wc (wls hF hS 1 2 2 fun a hF => ?_)
 refine wc (wal hF hS [sl none 0 0, sl none 0 0] (sgN 2 sgNil) fun b197 a w hF hS => ?_)
 refine wc (wst hF hS 0 0 2 [sl p33 (x32.1.Cuts).length c34, sl p35 (x32.1.Nodes).length c36] (sgN 2 sgNil) fun a w hF hS => ?_)
 refine wpListIn_nil ?_
 refine hK196 _ _ ?_
 refine wpIn_seq_k fun K198 hK198 => ?_
 refine wpIn_seq_k fun K199 hK199 => ?_
 refine wpIn_region_lit ?_
 refine wp 1 [5, 11, 20, 61, 62, 63, 67] hF fun a hF => ?_
 refine wc (wld hF hS 0 0 0 fun a hF => ?_)
 refine wp 2 [5, 11, 20, 61, 62, 63, 69, 70] hF fun a hF => ?_
 refine wpListIn_nil ?_
 refine hK199 _ _ ?_
 refine wpIn_block ?_
 refine loop_fuel (n := N) (fun n a w => ∃ (κ : Gh) (y250 : List ByteArray) (y251 : Int), Fr (105) [] [(5, pt b11 0), (11, pt b23 0), (20, pt b197 0), (61, .slice (some ⟨b59, 0, none⟩) 4 4), (62, vi 4), (63, vi 1), (69, vi ((x32.1.Cuts).length : Int)), (70, vi y251)] a ∧ SS [] κ0 w0 κ w [.box b197 25 [sl p33 (y250).length c34, sl p35 (x32.1.Nodes).length c36], .box b59 25 [sl p26 (y117).length c27, sl p28 (y181).length c29, sl p33 (y250).length c34, sl p35 (x32.1.Nodes).length c36, sl p40 (x39.1.Cuts).length c41, sl p42 (x39.1.Nodes).length c43, sl p47 (x46.Cuts).length c48, sl p49 (x46.Nodes).length c50], .box b23 25 [sl p19 (x18.Cuts).length c20, sl p21 (x18.Nodes).length c22], .box b11 25 [sl p2 (a1.Cuts).length c3, sl p4 (a1.Nodes).length c5], .tok p33 9 1 (y250).length c34, .tok p28 3 1 (y181).length c29, .tok p26 9 1 (y117).length c27, .tok p47 9 1 (x46.Cuts).length c48, .tok p49 3 1 (x46.Nodes).length c50, .tok p40 9 1 (x39.1.Cuts).length c41, .tok p42 3 1 (x39.1.Nodes).length c43, .tok p35 3 1 (x32.1.Nodes).length c36, .tok p19 9 1 (x18.Cuts).length c20, .tok p21 3 1 (x18.Nodes).length c22] [Ro.mp fStr.ty p33 c34 y250, Ro.mp (fInt .i64).ty p35 c36 x32.1.Nodes, Ro.mp fStr.ty p26 c27 y117, Ro.mp (fInt .i64).ty p28 c29 y181, Ro.mp fStr.ty p40 c41 x39.1.Cuts, Ro.mp (fInt .i64).ty p42 c43 x39.1.Nodes, Ro.mp fStr.ty p47 c48 x46.Cuts, Ro.mp (fInt .i64).ty p49 c50 x46.Nodes, Ro.mp fStr.ty p19 c20 x18.Cuts, Ro.mp (fInt .i64).ty p21 c22 x18.Nodes, Ro.mp fStr.ty p2 c3 a1.Cuts, Ro.mp (fInt .i64).ty p4 c5 a1.Nodes] ∧ M.law08_SpanOwns_L3 N n a1 x18 x32 x39 x46 y117 y181 y250 y251 = some r) ?_ ?_
 exact ⟨_, x32.1.Cuts, 0, hF.kp [5, 11, 20, 61, 62, 63, 69, 70], hS.sp [0, 2, 3, 4, 11, 5, 6, 7, 8, 9, 10, 12, 13, 14] [2, 3, 0, 1, 4, 5, 6, 7, 8, 9, 10, 11], H⟩
 rintro n a w ⟨κ, y250, y251, hF, hS, H⟩
 rcases n with _ | fuel3
 simp [M.law08_SpanOwns_L3] at H
 simp only [M.law08_SpanOwns_L3] at H
 refine wpIn_seq_k fun K252 hK252 => ?_
 refine wpIn_region_lit ?_
 refine wp 1 [5, 11, 20, 61, 62, 63, 69, 70, 71] hF fun a hF => ?_
 refine wpListIn_nil ?_
 refine hK252 _ _ ?_
 refine wpIn_seq_k fun K253 hK253 => ?_
 refine bif_split H (fun hb H => ?_) (fun hb H => ?_)
 refine cond_t hF (by kernel_rfl) hb ?_
 refine wpIn_skip ?_
 refine hK253 _ _ ?_
 refine wpIn_seq_k fun K254 hK254 => ?_
 refine wpIn_block ?_
 refine wpIn_seq_k fun K255 hK255 => ?_
 refine wpIn_region_lit ?_
 refine wp 2 [5, 11, 20, 21, 61, 62, 63, 69, 70] hF fun a hF => ?_
 refine wpListIn_nil ?_
 refine hK255 _ _ ?_
 refine rgS hS [10] ?_
 have hS := hS.drew
 refine any_pure [0, 2, 3, 5] [5, 11, 20, 61, 62, 63, 69, 70, 73, 75, 76, 78] (L' := [(5, pt b11 0), (11, pt b23 0), (20, pt b197 0), (61, .slice (some ⟨b59, 0, none⟩) 4 4), (62, vi 4), (63, vi 1), (69, vi ((x32.1.Cuts).length : Int)), (70, vi y251), (73, pt b197 0), (75, vi y251), (76, pt b197 0), (78, vi y251)]) (listed' := (bitA 11 45)) (fuel := 7) hF (hS.sx (rg 4) (rg 12)) (by kernel_rfl) (by intro c a w t v h; cases t <;> exact h) (by kernel_rfl) rfl fun a hF => ?_
 refine atk 1 (some 74) hF (hS.sx (rg 4) (rg 12)) rfl (vld 0 0 0) fun a hF => ?_
 refine atk 4 (some 77) hF (hS.sx (rg 4) (rg 12)) rfl (vld 0 0 0) fun a hF => ?_
 refine bind_split H (fun x256 hx256 H => ?_)
 obtain ⟨b257, f258, hpx256⟩ := hS.ptr 0 rfl hx256
 refine atk 6 (some 79) hF (hS.sx (rg 4) (rg 12)) rfl (fun w _ => val_index (E := 9) (sz := 1) rfl hpx256 rfl (by kernel_rfl) rfl hx256 (by kernel_rfl) (by kernel_rfl) w) fun a hF => ?_
 refine atk 7 (some 80) hF (hS.sx (rg 4) (rg 12)) rfl (val_loadRo (t := fStr) 0 0 (v := .string (x256)) rfl rfl hpx256 rfl hx256 (by kernel_rfl) (by kernel_rfl) (by kernel_rfl)) fun a hF => ?_
 refine ago 8 hF rfl ?_
 refine bind_split H (fun x259 hx259 H => ?_)
 refine wo_callP hF hS (by kernel_rfl) (by kernel_rfl) (C_law08_other N hS.fresh x256  ((hS.pick [] (by kernel_rfl)).ro) hx259) ?_
 rintro _ κ w a ⟨rfl, hR, hN⟩ hF hS hO
 refine ⟨fun _ => (hS.sx (rg 4) (rg 12)), ?_⟩
 refine bind_split H (fun x260 hx260 H => ?_)
 obtain ⟨b261, f262, hpx260⟩ := hS.ptr 0 rfl hx260
 refine atk 9 (some 82) hF (hS.sx (rg 4) (rg 12)) rfl (fun w _ => val_index (E := 9) (sz := 1) rfl hpx260 rfl (by kernel_rfl) rfl hx260 (by kernel_rfl) (by kernel_rfl) w) fun a hF => ?_
 refine ago 10 hF rfl ?_
 refine wo_storeTok (t := fStr) (y := x260) (z := x259) (v := .string (x259)) (vs := (flat [sg x259])) (sz := 1) hF hS hfr hR0 (by kernel_rfl) 4 0 0 rfl rfl (by kernel_rfl) rfl rfl rfl hpx260 hx260 rfl (by kernel_rfl) (by kernel_rfl) rfl (show segGood [sg x259] from (sgN 1 sgNil)).2 rfl (by decide) (fun _ _ h => by cases h) rfl [0, 1] [1, 2, 3, 4, 5, 6, 7, 8, 9] (Ra := [Ro.mp fStr.ty p2 c3 a1.Cuts, Ro.mp (fInt .i64).ty p4 c5 a1.Nodes]) (Rb := [Ro.mp (fInt .i64).ty p35 c36 x32.1.Nodes, Ro.mp fStr.ty p26 c27 y117, Ro.mp (fInt .i64).ty p28 c29 y181, Ro.mp fStr.ty p40 c41 x39.1.Cuts, Ro.mp (fInt .i64).ty p42 c43 x39.1.Nodes, Ro.mp fStr.ty p47 c48 x46.Cuts, Ro.mp (fInt .i64).ty p49 c50 x46.Nodes, Ro.mp fStr.ty p19 c20 x18.Cuts, Ro.mp (fInt .i64).ty p21 c22 x18.Nodes]) rfl rfl (by intro m hm; simp only [List.mem_cons, List.not_mem_nil, or_false] at hm; rcases hm with rfl | rfl | rfl | rfl | rfl | rfl | rfl | rfl | rfl <;> first | exact apart_ro (hS.tokApart 4 11 hpx260 rfl rfl (by decide)) | exact apart_ro (hS.tokApart 4 6 hpx260 rfl rfl (by decide)) | exact apart_ro (hS.tokApart 4 5 hpx260 rfl rfl (by decide)) | exact apart_ro (hS.tokApart 4 9 hpx260 rfl rfl (by decide)) | exact apart_ro (hS.tokApart 4 10 hpx260 rfl rfl (by decide)) | exact apart_ro (hS.tokApart 4 7 hpx260 rfl rfl (by decide)) | exact apart_ro (hS.tokApart 4 8 hpx260 rfl rfl (by decide)) | exact apart_ro (hS.tokApart 4 12 hpx260 rfl rfl (by decide)) | exact apart_ro (hS.tokApart 4 13 hpx260 rfl rfl (by decide))) (Cf := (fun nn => [.box b197 25 [sl p33 nn c34, sl p35 (x32.1.Nodes).length c36], .box b59 25 [sl p26 (y117).length c27, sl p28 (y181).length c29, sl p33 nn c34, sl p35 (x32.1.Nodes).length c36, sl p40 (x39.1.Cuts).length c41, sl p42 (x39.1.Nodes).length c43, sl p47 (x46.Cuts).length c48, sl p49 (x46.Nodes).length c50], .box b23 25 [sl p19 (x18.Cuts).length c20, sl p21 (x18.Nodes).length c22], .box b11 25 [sl p2 (a1.Cuts).length c3, sl p4 (a1.Nodes).length c5], .tok p33 9 1 nn c34, .tok p28 3 1 (y181).length c29, .tok p26 9 1 (y117).length c27, .tok p47 9 1 (x46.Cuts).length c48, .tok p49 3 1 (x46.Nodes).length c50, .tok p40 9 1 (x39.1.Cuts).length c41, .tok p42 3 1 (x39.1.Nodes).length c43, .tok p35 3 1 (x32.1.Nodes).length c36, .tok p19 9 1 (x18.Cuts).length c20, .tok p21 3 1 (x18.Nodes).length c22])) (Lf := (fun nn => [(5, pt b11 0), (11, pt b23 0), (20, pt b197 0), (61, .slice (some ⟨b59, 0, none⟩) 4 4), (62, vi 4), (63, vi 1), (69, vi ((x32.1.Cuts).length : Int)), (70, vi y251), (73, pt b197 0), (74, .slice p33 nn c34), (75, vi y251), (76, pt b197 0), (77, .slice p33 nn c34), (78, vi y251), (79, .pointer (some ⟨b257, (f258 + Int.toNat y251 * 1), none⟩)), (80, .string (x256)), (81, .string (x259)), (82, .pointer (some ⟨b261, (f262 + Int.toNat y251 * 1), none⟩))])) [5, 11, 20, 61, 62, 63, 69, 70, 73, 74, 75, 76, 77, 78, 79, 80, 81, 82] rfl (by kernel_rfl) fun a w hF hS => ?_
 refine ⟨notE, ?_⟩
 refine and_ ?_
 refine hK254 _ _ ?_
 refine wpIn_region_lit ?_
 refine wp 2 [5, 11, 20, 61, 62, 63, 69, 70] hF fun a hF => ?_
 refine wpListIn_nil ?_
 exact ⟨fuel3, Nat.lt_succ_self _, _, (List.set y250 (Int.toNat y251) x259), IntKind.i64.wrap (y251 + 1), hF.kp [5, 11, 20, 61, 62, 63, 69, 70], hS.sp (rg 14) [0, 3, 4, 5, 6, 7, 8, 9, 10, 11, 1, 2], H⟩
 refine cond_f hF (by kernel_rfl) hb ?_
 refine wpIn_exit ?_
 refine hK198 _ _ ?_
 refine wpIn_seq_k fun K263 hK263 => ?_
 refine wpIn_region_lit ?_
 refine wp 1 [5, 11, 20, 61, 62, 63, 84] hF fun a hF => ?_
 refine wc (wld hF hS 0 1 0 fun a hF => ?_)
 refine wp 2 [5, 11, 20, 61, 62, 63, 86, 87] hF fun a hF => ?_
 refine wpListIn_nil ?_
 refine hK263 _ _ ?_
 refine wpIn_block ?_
 refine loop_fuel (n := N) (fun n a w => ∃ (κ : Gh) (y314 : List Int) (y315 : Int), Fr (105) [] [(5, pt b11 0), (11, pt b23 0), (20, pt b197 0), (61, .slice (some ⟨b59, 0, none⟩) 4 4), (62, vi 4), (63, vi 1), (86, vi ((x32.1.Nodes).length : Int)), (87, vi y315)] a ∧ SS [] κ0 w0 κ w [.box b197 25 [sl p33 (y250).length c34, sl p35 (y314).length c36], .box b59 25 [sl p26 (y117).length c27, sl p28 (y181).length c29, sl p33 (y250).length c34, sl p35 (y314).length c36, sl p40 (x39.1.Cuts).length c41, sl p42 (x39.1.Nodes).length c43, sl p47 (x46.Cuts).length c48, sl p49 (x46.Nodes).length c50], .box b23 25 [sl p19 (x18.Cuts).length c20, sl p21 (x18.Nodes).length c22], .box b11 25 [sl p2 (a1.Cuts).length c3, sl p4 (a1.Nodes).length c5], .tok p35 3 1 (y314).length c36, .tok p33 9 1 (y250).length c34, .tok p28 3 1 (y181).length c29, .tok p26 9 1 (y117).length c27, .tok p47 9 1 (x46.Cuts).length c48, .tok p49 3 1 (x46.Nodes).length c50, .tok p40 9 1 (x39.1.Cuts).length c41, .tok p42 3 1 (x39.1.Nodes).length c43, .tok p19 9 1 (x18.Cuts).length c20, .tok p21 3 1 (x18.Nodes).length c22] [Ro.mp fStr.ty p33 c34 y250, Ro.mp (fInt .i64).ty p35 c36 y314, Ro.mp fStr.ty p26 c27 y117, Ro.mp (fInt .i64).ty p28 c29 y181, Ro.mp fStr.ty p40 c41 x39.1.Cuts, Ro.mp (fInt .i64).ty p42 c43 x39.1.Nodes, Ro.mp fStr.ty p47 c48 x46.Cuts, Ro.mp (fInt .i64).ty p49 c50 x46.Nodes, Ro.mp fStr.ty p19 c20 x18.Cuts, Ro.mp (fInt .i64).ty p21 c22 x18.Nodes, Ro.mp fStr.ty p2 c3 a1.Cuts, Ro.mp (fInt .i64).ty p4 c5 a1.Nodes] ∧ M.law08_SpanOwns_L4 N n a1 x18 x32 x39 x46 y117 y181 y250 y314 y315 = some r) ?_ ?_
 exact ⟨_, x32.1.Nodes, 0, hF.kp [5, 11, 20, 61, 62, 63, 86, 87], hS.sp [0, 1, 2, 3, 11, 4, 5, 6, 7, 8, 9, 10, 12, 13] (rg 12), H⟩
 rintro n a w ⟨κ, y314, y315, hF, hS, H⟩
 rcases n with _ | fuel4
 simp [M.law08_SpanOwns_L4] at H
 simp only [M.law08_SpanOwns_L4] at H
 refine wpIn_seq_k fun K316 hK316 => ?_
 refine wpIn_region_lit ?_
 refine wp 1 [5, 11, 20, 61, 62, 63, 86, 87, 88] hF fun a hF => ?_
 refine wpListIn_nil ?_
 refine hK316 _ _ ?_
 refine wpIn_seq_k fun K317 hK317 => ?_
 refine bif_split H (fun hb H => ?_) (fun hb H => ?_)
 refine cond_t hF (by kernel_rfl) hb ?_
 refine wpIn_skip ?_
 refine hK317 _ _ ?_
 refine wpIn_seq_k fun K318 hK318 => ?_
 refine wpIn_block ?_
 refine wpIn_seq_k fun K319 hK319 => ?_
 refine wpIn_region_lit ?_
 refine wp 2 [5, 11, 20, 22, 61, 62, 63, 86, 87] hF fun a hF => ?_
 refine wpListIn_nil ?_
 refine hK319 _ _ ?_
 refine wpIn_region_lit ?_
 refine wp 1 [5, 11, 20, 22, 61, 62, 63, 86, 87, 90] hF fun a hF => ?_
 refine wc (wld hF hS 0 1 0 fun a hF => ?_)
 refine wl_pure (L' := [(5, pt b11 0), (11, pt b23 0), (20, pt b197 0), (61, .slice (some ⟨b59, 0, none⟩) 4 4), (62, vi 4), (63, vi 1), (86, vi ((x32.1.Nodes).length : Int)), (87, vi y315), (91, .slice p35 (y314).length c36), (92, vi y315)]) 1 [5, 11, 20, 61, 62, 63, 86, 87, 91, 92] hF (by kernel_rfl) fun a hF => ?_
 refine bind_split H (fun x320 hx320 H => ?_)
 refine wc (wo_index hF hS (by kernel_rfl) 1 (E := 3) (sz := 1) rfl rfl rfl (by kernel_rfl) rfl hx320 (by kernel_rfl) (by kernel_rfl) fun b321 f322 a hpx320 hF => ?_)
 refine wc (wo_loadRo (t := (fInt .i64)) hF hS (by kernel_rfl) 1 0 (v := vi x320) rfl rfl hpx320 rfl hx320 (by kernel_rfl) (by kernel_rfl) (by kernel_rfl) fun a hF => ?_)
 refine wl_pure (L' := [(5, pt b11 0), (11, pt b23 0), (20, pt b197 0), (61, .slice (some ⟨b59, 0, none⟩) 4 4), (62, vi 4), (63, vi 1), (86, vi ((x32.1.Nodes).length : Int)), (87, vi y315), (91, .slice p35 (y314).length c36), (92, vi y315), (95, vi (IntKind.i64.wrap (x320 + 1)))]) 1 [5, 11, 20, 61, 62, 63, 86, 87, 91, 92, 95] hF (by kernel_rfl) fun a hF => ?_
 refine bind_split H (fun x323 hx323 H => ?_)
 refine wc (wo_index hF hS (by kernel_rfl) 1 (E := 3) (sz := 1) rfl rfl rfl (by kernel_rfl) rfl hx323 (by kernel_rfl) (by kernel_rfl) fun b324 f325 a hpx323 hF => ?_)
 refine wc (wo_storeTok (t := (fInt .i64)) (y := x323) (z := IntKind.i64.wrap (x320 + 1)) (v := vi (IntKind.i64.wrap (x320 + 1))) (vs := (flat [si (IntKind.i64.wrap (x320 + 1))])) (sz := 1) hF hS hfr hR0 (by kernel_rfl) 4 1 0 rfl rfl (by kernel_rfl) rfl rfl rfl hpx323 hx323 rfl (by kernel_rfl) (by kernel_rfl) rfl (show segGood [si (IntKind.i64.wrap (x320 + 1))] from (sgN 1 sgNil)).2 rfl (by decide) (fun _ _ h => by cases h) rfl [0, 1] [0, 2, 3, 4, 5, 6, 7, 8, 9] (Ra := [Ro.mp fStr.ty p2 c3 a1.Cuts, Ro.mp (fInt .i64).ty p4 c5 a1.Nodes]) (Rb := [Ro.mp fStr.ty p33 c34 y250, Ro.mp fStr.ty p26 c27 y117, Ro.mp (fInt .i64).ty p28 c29 y181, Ro.mp fStr.ty p40 c41 x39.1.Cuts, Ro.mp (fInt .i64).ty p42 c43 x39.1.Nodes, Ro.mp fStr.ty p47 c48 x46.Cuts, Ro.mp (fInt .i64).ty p49 c50 x46.Nodes, Ro.mp fStr.ty p19 c20 x18.Cuts, Ro.mp (fInt .i64).ty p21 c22 x18.Nodes]) rfl rfl (by intro m hm; simp only [List.mem_cons, List.not_mem_nil, or_false] at hm; rcases hm with rfl | rfl | rfl | rfl | rfl | rfl | rfl | rfl | rfl <;> first | exact apart_ro (hS.tokApart 4 5 hpx323 rfl rfl (by decide)) | exact apart_ro (hS.tokApart 4 7 hpx323 rfl rfl (by decide)) | exact apart_ro (hS.tokApart 4 6 hpx323 rfl rfl (by decide)) | exact apart_ro (hS.tokApart 4 10 hpx323 rfl rfl (by decide)) | exact apart_ro (hS.tokApart 4 11 hpx323 rfl rfl (by decide)) | exact apart_ro (hS.tokApart 4 8 hpx323 rfl rfl (by decide)) | exact apart_ro (hS.tokApart 4 9 hpx323 rfl rfl (by decide)) | exact apart_ro (hS.tokApart 4 12 hpx323 rfl rfl (by decide)) | exact apart_ro (hS.tokApart 4 13 hpx323 rfl rfl (by decide))) (Cf := (fun nn => [.box b197 25 [sl p33 (y250).length c34, sl p35 nn c36], .box b59 25 [sl p26 (y117).length c27, sl p28 (y181).length c29, sl p33 (y250).length c34, sl p35 nn c36, sl p40 (x39.1.Cuts).length c41, sl p42 (x39.1.Nodes).length c43, sl p47 (x46.Cuts).length c48, sl p49 (x46.Nodes).length c50], .box b23 25 [sl p19 (x18.Cuts).length c20, sl p21 (x18.Nodes).length c22], .box b11 25 [sl p2 (a1.Cuts).length c3, sl p4 (a1.Nodes).length c5], .tok p35 3 1 nn c36, .tok p33 9 1 (y250).length c34, .tok p28 3 1 (y181).length c29, .tok p26 9 1 (y117).length c27, .tok p47 9 1 (x46.Cuts).length c48, .tok p49 3 1 (x46.Nodes).length c50, .tok p40 9 1 (x39.1.Cuts).length c41, .tok p42 3 1 (x39.1.Nodes).length c43, .tok p19 9 1 (x18.Cuts).length c20, .tok p21 3 1 (x18.Nodes).length c22])) (Lf := (fun nn => [(5, pt b11 0), (11, pt b23 0), (20, pt b197 0), (61, .slice (some ⟨b59, 0, none⟩) 4 4), (62, vi 4), (63, vi 1), (86, vi ((x32.1.Nodes).length : Int)), (87, vi y315), (91, .slice p35 nn c36), (92, vi y315), (95, vi (IntKind.i64.wrap (x320 + 1))), (96, .pointer (some ⟨b324, (f325 + Int.toNat y315 * 1), none⟩))])) [5, 11, 20, 61, 62, 63, 86, 87, 91, 92, 95, 96] rfl (by kernel_rfl) fun a w hF hS => ?_)
 refine wpListIn_nil ?_
 refine hK318 _ _ ?_
 refine wpIn_region_lit ?_
 refine wp 2 [5, 11, 20, 61, 62, 63, 86, 87] hF fun a hF => ?_
 refine wpListIn_nil ?_
 exact ⟨fuel4, Nat.lt_succ_self _, _, (List.set y314 (Int.toNat y315) (IntKind.i64.wrap (x320 + 1))), IntKind.i64.wrap (y315 + 1), hF.kp [5, 11, 20, 61, 62, 63, 86, 87], hS.sp (rg 14) [3, 0, 4, 5, 6, 7, 8, 9, 10, 11, 1, 2], H⟩
 refine cond_f hF (by kernel_rfl) hb ?_
 refine wpIn_exit ?_
 refine hK195 _ _ ?_
 refine wpIn_region_lit ?_
 refine wl_pure (L' := [(5, pt b11 0), (11, pt b23 0), (61, .slice (some ⟨b59, 0, none⟩) 4 4), (62, vi 4), (63, vi 2)]) 2 [5, 11, 61, 62, 63] hF (by kernel_rfl) fun a hF => ?_
 refine wpListIn_nil ?_
 refine round_go ?_
 refine wpIn_seq_k fun K326 hK326 => ?_
 refine wpIn_region_lit ?_
 refine wp 1 [5, 11, 61, 62, 63, 64] hF fun a hF => ?_
 refine wpListIn_nil ?_
 refine hK326 _ _ ?_
 refine wpIn_seq_k fun K327 hK327 => ?_
 refine cond_t hF (by kernel_rfl) rfl ?_
 refine wpIn_skip ?_
 refine hK327 _ _ ?_
 refine wpIn_seq_k fun K328 hK328 => ?_
 refine wpIn_block ?_
 refine wpIn_seq_k fun K329 hK329 => ?_
 refine wpIn_region_lit ?_
 refine wp 1 [5, 11, 61, 62, 63, 65] hF fun a hF => ?_
 refine wc (wls hF hS 1 4 2 fun a hF => ?_)
 refine wc (wal hF hS [sl none 0 0, sl none 0 0] (sgN 2 sgNil) fun b330 a w hF hS => ?_)
 refine wc (wst hF hS 0 0 2 [sl p40 (x39.1.Cuts).length c41, sl p42 (x39.1.Nodes).length c43] (sgN 2 sgNil) fun a w hF hS => ?_)
 refine wpListIn_nil ?_
 refine hK329 _ _ ?_
 refine wpIn_seq_k fun K331 hK331 => ?_
 refine wpIn_seq_k fun K332 hK332 => ?_
 refine wpIn_region_lit ?_
 refine wp 1 [5, 11, 20, 61, 62, 63, 67] hF fun a hF => ?_
 refine wc (wld hF hS 0 0 0 fun a hF => ?_)
 refine wp 2 [5, 11, 20, 61, 62, 63, 69, 70] hF fun a hF => ?_
 refine wpListIn_nil ?_
 refine hK332 _ _ ?_
 refine wpIn_block ?_
 refine loop_fuel (n := N) (fun n a w => ∃ (κ : Gh) (y383 : List ByteArray) (y384 : Int), Fr (105) [] [(5, pt b11 0), (11, pt b23 0), (20, pt b330 0), (61, .slice (some ⟨b59, 0, none⟩) 4 4), (62, vi 4), (63, vi 2), (69, vi ((x39.1.Cuts).length : Int)), (70, vi y384)] a ∧ SS [] κ0 w0 κ w [.box b330 25 [sl p40 (y383).length c41, sl p42 (x39.1.Nodes).length c43], .box b59 25 [sl p26 (y117).length c27, sl p28 (y181).length c29, sl p33 (y250).length c34, sl p35 (y314).length c36, sl p40 (y383).length c41, sl p42 (x39.1.Nodes).length c43, sl p47 (x46.Cuts).length c48, sl p49 (x46.Nodes).length c50], .box b23 25 [sl p19 (x18.Cuts).length c20, sl p21 (x18.Nodes).length c22], .box b11 25 [sl p2 (a1.Cuts).length c3, sl p4 (a1.Nodes).length c5], .tok p40 9 1 (y383).length c41, .tok p35 3 1 (y314).length c36, .tok p33 9 1 (y250).length c34, .tok p28 3 1 (y181).length c29, .tok p26 9 1 (y117).length c27, .tok p47 9 1 (x46.Cuts).length c48, .tok p49 3 1 (x46.Nodes).length c50, .tok p42 3 1 (x39.1.Nodes).length c43, .tok p19 9 1 (x18.Cuts).length c20, .tok p21 3 1 (x18.Nodes).length c22] [Ro.mp fStr.ty p40 c41 y383, Ro.mp (fInt .i64).ty p42 c43 x39.1.Nodes, Ro.mp fStr.ty p26 c27 y117, Ro.mp (fInt .i64).ty p28 c29 y181, Ro.mp fStr.ty p33 c34 y250, Ro.mp (fInt .i64).ty p35 c36 y314, Ro.mp fStr.ty p47 c48 x46.Cuts, Ro.mp (fInt .i64).ty p49 c50 x46.Nodes, Ro.mp fStr.ty p19 c20 x18.Cuts, Ro.mp (fInt .i64).ty p21 c22 x18.Nodes, Ro.mp fStr.ty p2 c3 a1.Cuts, Ro.mp (fInt .i64).ty p4 c5 a1.Nodes] ∧ M.law08_SpanOwns_L5 N n a1 x18 x39 x46 y117 y181 y250 y314 y383 y384 = some r) ?_ ?_
 exact ⟨_, x39.1.Cuts, 0, hF.kp [5, 11, 20, 61, 62, 63, 69, 70], hS.sp [0, 2, 3, 4, 11, 5, 6, 7, 8, 9, 10, 12, 13, 14] [4, 5, 2, 3, 0, 1, 6, 7, 8, 9, 10, 11], H⟩
 rintro n a w ⟨κ, y383, y384, hF, hS, H⟩
 rcases n with _ | fuel5
 simp [M.law08_SpanOwns_L5] at H
 simp only [M.law08_SpanOwns_L5] at H
 refine wpIn_seq_k fun K385 hK385 => ?_
 refine wpIn_region_lit ?_
 refine wp 1 [5, 11, 20, 61, 62, 63, 69, 70, 71] hF fun a hF => ?_
 refine wpListIn_nil ?_
 refine hK385 _ _ ?_
 refine wpIn_seq_k fun K386 hK386 => ?_
 refine bif_split H (fun hb H => ?_) (fun hb H => ?_)
 refine cond_t hF (by kernel_rfl) hb ?_
 refine wpIn_skip ?_
 refine hK386 _ _ ?_
 refine wpIn_seq_k fun K387 hK387 => ?_
 refine wpIn_block ?_
 refine wpIn_seq_k fun K388 hK388 => ?_
 refine wpIn_region_lit ?_
 refine wp 2 [5, 11, 20, 21, 61, 62, 63, 69, 70] hF fun a hF => ?_
 refine wpListIn_nil ?_
 refine hK388 _ _ ?_
 refine rgS hS [10] ?_
 have hS := hS.drew
 refine any_pure [0, 2, 3, 5] [5, 11, 20, 61, 62, 63, 69, 70, 73, 75, 76, 78] (L' := [(5, pt b11 0), (11, pt b23 0), (20, pt b330 0), (61, .slice (some ⟨b59, 0, none⟩) 4 4), (62, vi 4), (63, vi 2), (69, vi ((x39.1.Cuts).length : Int)), (70, vi y384), (73, pt b330 0), (75, vi y384), (76, pt b330 0), (78, vi y384)]) (listed' := (bitA 11 45)) (fuel := 7) hF (hS.sx (rg 4) (rg 12)) (by kernel_rfl) (by intro c a w t v h; cases t <;> exact h) (by kernel_rfl) rfl fun a hF => ?_
 refine atk 1 (some 74) hF (hS.sx (rg 4) (rg 12)) rfl (vld 0 0 0) fun a hF => ?_
 refine atk 4 (some 77) hF (hS.sx (rg 4) (rg 12)) rfl (vld 0 0 0) fun a hF => ?_
 refine bind_split H (fun x389 hx389 H => ?_)
 obtain ⟨b390, f391, hpx389⟩ := hS.ptr 0 rfl hx389
 refine atk 6 (some 79) hF (hS.sx (rg 4) (rg 12)) rfl (fun w _ => val_index (E := 9) (sz := 1) rfl hpx389 rfl (by kernel_rfl) rfl hx389 (by kernel_rfl) (by kernel_rfl) w) fun a hF => ?_
 refine atk 7 (some 80) hF (hS.sx (rg 4) (rg 12)) rfl (val_loadRo (t := fStr) 0 0 (v := .string (x389)) rfl rfl hpx389 rfl hx389 (by kernel_rfl) (by kernel_rfl) (by kernel_rfl)) fun a hF => ?_
 refine ago 8 hF rfl ?_
 refine bind_split H (fun x392 hx392 H => ?_)
 refine wo_callP hF hS (by kernel_rfl) (by kernel_rfl) (C_law08_other N hS.fresh x389  ((hS.pick [] (by kernel_rfl)).ro) hx392) ?_
 rintro _ κ w a ⟨rfl, hR, hN⟩ hF hS hO
 refine ⟨fun _ => (hS.sx (rg 4) (rg 12)), ?_⟩
 refine bind_split H (fun x393 hx393 H => ?_)
 obtain ⟨b394, f395, hpx393⟩ := hS.ptr 0 rfl hx393
 refine atk 9 (some 82) hF (hS.sx (rg 4) (rg 12)) rfl (fun w _ => val_index (E := 9) (sz := 1) rfl hpx393 rfl (by kernel_rfl) rfl hx393 (by kernel_rfl) (by kernel_rfl) w) fun a hF => ?_
 refine ago 10 hF rfl ?_
 refine wo_storeTok (t := fStr) (y := x393) (z := x392) (v := .string (x392)) (vs := (flat [sg x392])) (sz := 1) hF hS hfr hR0 (by kernel_rfl) 4 0 0 rfl rfl (by kernel_rfl) rfl rfl rfl hpx393 hx393 rfl (by kernel_rfl) (by kernel_rfl) rfl (show segGood [sg x392] from (sgN 1 sgNil)).2 rfl (by decide) (fun _ _ h => by cases h) rfl [0, 1] [1, 2, 3, 4, 5, 6, 7, 8, 9] (Ra := [Ro.mp fStr.ty p2 c3 a1.Cuts, Ro.mp (fInt .i64).ty p4 c5 a1.Nodes]) (Rb := [Ro.mp (fInt .i64).ty p42 c43 x39.1.Nodes, Ro.mp fStr.ty p26 c27 y117, Ro.mp (fInt .i64).ty p28 c29 y181, Ro.mp fStr.ty p33 c34 y250, Ro.mp (fInt .i64).ty p35 c36 y314, Ro.mp fStr.ty p47 c48 x46.Cuts, Ro.mp (fInt .i64).ty p49 c50 x46.Nodes, Ro.mp fStr.ty p19 c20 x18.Cuts, Ro.mp (fInt .i64).ty p21 c22 x18.Nodes]) rfl rfl (by intro m hm; simp only [List.mem_cons, List.not_mem_nil, or_false] at hm; rcases hm with rfl | rfl | rfl | rfl | rfl | rfl | rfl | rfl | rfl <;> first | exact apart_ro (hS.tokApart 4 11 hpx393 rfl rfl (by decide)) | exact apart_ro (hS.tokApart 4 8 hpx393 rfl rfl (by decide)) | exact apart_ro (hS.tokApart 4 7 hpx393 rfl rfl (by decide)) | exact apart_ro (hS.tokApart 4 6 hpx393 rfl rfl (by decide)) | exact apart_ro (hS.tokApart 4 5 hpx393 rfl rfl (by decide)) | exact apart_ro (hS.tokApart 4 9 hpx393 rfl rfl (by decide)) | exact apart_ro (hS.tokApart 4 10 hpx393 rfl rfl (by decide)) | exact apart_ro (hS.tokApart 4 12 hpx393 rfl rfl (by decide)) | exact apart_ro (hS.tokApart 4 13 hpx393 rfl rfl (by decide))) (Cf := (fun nn => [.box b330 25 [sl p40 nn c41, sl p42 (x39.1.Nodes).length c43], .box b59 25 [sl p26 (y117).length c27, sl p28 (y181).length c29, sl p33 (y250).length c34, sl p35 (y314).length c36, sl p40 nn c41, sl p42 (x39.1.Nodes).length c43, sl p47 (x46.Cuts).length c48, sl p49 (x46.Nodes).length c50], .box b23 25 [sl p19 (x18.Cuts).length c20, sl p21 (x18.Nodes).length c22], .box b11 25 [sl p2 (a1.Cuts).length c3, sl p4 (a1.Nodes).length c5], .tok p40 9 1 nn c41, .tok p35 3 1 (y314).length c36, .tok p33 9 1 (y250).length c34, .tok p28 3 1 (y181).length c29, .tok p26 9 1 (y117).length c27, .tok p47 9 1 (x46.Cuts).length c48, .tok p49 3 1 (x46.Nodes).length c50, .tok p42 3 1 (x39.1.Nodes).length c43, .tok p19 9 1 (x18.Cuts).length c20, .tok p21 3 1 (x18.Nodes).length c22])) (Lf := (fun nn => [(5, pt b11 0), (11, pt b23 0), (20, pt b330 0), (61, .slice (some ⟨b59, 0, none⟩) 4 4), (62, vi 4), (63, vi 2), (69, vi ((x39.1.Cuts).length : Int)), (70, vi y384), (73, pt b330 0), (74, .slice p40 nn c41), (75, vi y384), (76, pt b330 0), (77, .slice p40 nn c41), (78, vi y384), (79, .pointer (some ⟨b390, (f391 + Int.toNat y384 * 1), none⟩)), (80, .string (x389)), (81, .string (x392)), (82, .pointer (some ⟨b394, (f395 + Int.toNat y384 * 1), none⟩))])) [5, 11, 20, 61, 62, 63, 69, 70, 73, 74, 75, 76, 77, 78, 79, 80, 81, 82] rfl (by kernel_rfl) fun a w hF hS => ?_
 refine ⟨notE, ?_⟩
 refine and_ ?_
 refine hK387 _ _ ?_
 refine wpIn_region_lit ?_
 refine wp 2 [5, 11, 20, 61, 62, 63, 69, 70] hF fun a hF => ?_
 refine wpListIn_nil ?_
 exact ⟨fuel5, Nat.lt_succ_self _, _, (List.set y383 (Int.toNat y384) x392), IntKind.i64.wrap (y384 + 1), hF.kp [5, 11, 20, 61, 62, 63, 69, 70], hS.sp (rg 14) [0, 3, 4, 5, 6, 7, 8, 9, 10, 11, 1, 2], H⟩
 refine cond_f hF (by kernel_rfl) hb ?_
 refine wpIn_exit ?_
 refine hK331 _ _ ?_
 refine wpIn_seq_k fun K396 hK396 => ?_
 refine wpIn_region_lit ?_
 refine wp 1 [5, 11, 20, 61, 62, 63, 84] hF fun a hF => ?_
 refine wc (wld hF hS 0 1 0 fun a hF => ?_)
 refine wp 2 [5, 11, 20, 61, 62, 63, 86, 87] hF fun a hF => ?_
 refine wpListIn_nil ?_
 refine hK396 _ _ ?_
 refine wpIn_block ?_
 refine loop_fuel (n := N) (fun n a w => ∃ (κ : Gh) (y447 : List Int) (y448 : Int), Fr (105) [] [(5, pt b11 0), (11, pt b23 0), (20, pt b330 0), (61, .slice (some ⟨b59, 0, none⟩) 4 4), (62, vi 4), (63, vi 2), (86, vi ((x39.1.Nodes).length : Int)), (87, vi y448)] a ∧ SS [] κ0 w0 κ w [.box b330 25 [sl p40 (y383).length c41, sl p42 (y447).length c43], .box b59 25 [sl p26 (y117).length c27, sl p28 (y181).length c29, sl p33 (y250).length c34, sl p35 (y314).length c36, sl p40 (y383).length c41, sl p42 (y447).length c43, sl p47 (x46.Cuts).length c48, sl p49 (x46.Nodes).length c50], .box b23 25 [sl p19 (x18.Cuts).length c20, sl p21 (x18.Nodes).length c22], .box b11 25 [sl p2 (a1.Cuts).length c3, sl p4 (a1.Nodes).length c5], .tok p42 3 1 (y447).length c43, .tok p40 9 1 (y383).length c41, .tok p35 3 1 (y314).length c36, .tok p33 9 1 (y250).length c34, .tok p28 3 1 (y181).length c29, .tok p26 9 1 (y117).length c27, .tok p47 9 1 (x46.Cuts).length c48, .tok p49 3 1 (x46.Nodes).length c50, .tok p19 9 1 (x18.Cuts).length c20, .tok p21 3 1 (x18.Nodes).length c22] [Ro.mp fStr.ty p40 c41 y383, Ro.mp (fInt .i64).ty p42 c43 y447, Ro.mp fStr.ty p26 c27 y117, Ro.mp (fInt .i64).ty p28 c29 y181, Ro.mp fStr.ty p33 c34 y250, Ro.mp (fInt .i64).ty p35 c36 y314, Ro.mp fStr.ty p47 c48 x46.Cuts, Ro.mp (fInt .i64).ty p49 c50 x46.Nodes, Ro.mp fStr.ty p19 c20 x18.Cuts, Ro.mp (fInt .i64).ty p21 c22 x18.Nodes, Ro.mp fStr.ty p2 c3 a1.Cuts, Ro.mp (fInt .i64).ty p4 c5 a1.Nodes] ∧ M.law08_SpanOwns_L6 N n a1 x18 x39 x46 y117 y181 y250 y314 y383 y447 y448 = some r) ?_ ?_
 exact ⟨_, x39.1.Nodes, 0, hF.kp [5, 11, 20, 61, 62, 63, 86, 87], hS.sp [0, 1, 2, 3, 11, 4, 5, 6, 7, 8, 9, 10, 12, 13] (rg 12), H⟩
 rintro n a w ⟨κ, y447, y448, hF, hS, H⟩
 rcases n with _ | fuel6
 simp [M.law08_SpanOwns_L6] at H
 simp only [M.law08_SpanOwns_L6] at H
 refine wpIn_seq_k fun K449 hK449 => ?_
 refine wpIn_region_lit ?_
 refine wp 1 [5, 11, 20, 61, 62, 63, 86, 87, 88] hF fun a hF => ?_
 refine wpListIn_nil ?_
 refine hK449 _ _ ?_
 refine wpIn_seq_k fun K450 hK450 => ?_
 refine bif_split H (fun hb H => ?_) (fun hb H => ?_)
 refine cond_t hF (by kernel_rfl) hb ?_
 refine wpIn_skip ?_
 refine hK450 _ _ ?_
 refine wpIn_seq_k fun K451 hK451 => ?_
 refine wpIn_block ?_
 refine wpIn_seq_k fun K452 hK452 => ?_
 refine wpIn_region_lit ?_
 refine wp 2 [5, 11, 20, 22, 61, 62, 63, 86, 87] hF fun a hF => ?_
 refine wpListIn_nil ?_
 refine hK452 _ _ ?_
 refine wpIn_region_lit ?_
 refine wp 1 [5, 11, 20, 22, 61, 62, 63, 86, 87, 90] hF fun a hF => ?_
 refine wc (wld hF hS 0 1 0 fun a hF => ?_)
 refine wl_pure (L' := [(5, pt b11 0), (11, pt b23 0), (20, pt b330 0), (61, .slice (some ⟨b59, 0, none⟩) 4 4), (62, vi 4), (63, vi 2), (86, vi ((x39.1.Nodes).length : Int)), (87, vi y448), (91, .slice p42 (y447).length c43), (92, vi y448)]) 1 [5, 11, 20, 61, 62, 63, 86, 87, 91, 92] hF (by kernel_rfl) fun a hF => ?_
 refine bind_split H (fun x453 hx453 H => ?_)
 refine wc (wo_index hF hS (by kernel_rfl) 1 (E := 3) (sz := 1) rfl rfl rfl (by kernel_rfl) rfl hx453 (by kernel_rfl) (by kernel_rfl) fun b454 f455 a hpx453 hF => ?_)
 refine wc (wo_loadRo (t := (fInt .i64)) hF hS (by kernel_rfl) 1 0 (v := vi x453) rfl rfl hpx453 rfl hx453 (by kernel_rfl) (by kernel_rfl) (by kernel_rfl) fun a hF => ?_)
 refine wl_pure (L' := [(5, pt b11 0), (11, pt b23 0), (20, pt b330 0), (61, .slice (some ⟨b59, 0, none⟩) 4 4), (62, vi 4), (63, vi 2), (86, vi ((x39.1.Nodes).length : Int)), (87, vi y448), (91, .slice p42 (y447).length c43), (92, vi y448), (95, vi (IntKind.i64.wrap (x453 + 1)))]) 1 [5, 11, 20, 61, 62, 63, 86, 87, 91, 92, 95] hF (by kernel_rfl) fun a hF => ?_
 refine bind_split H (fun x456 hx456 H => ?_)
 refine wc (wo_index hF hS (by kernel_rfl) 1 (E := 3) (sz := 1) rfl rfl rfl (by kernel_rfl) rfl hx456 (by kernel_rfl) (by kernel_rfl) fun b457 f458 a hpx456 hF => ?_)
 refine wc (wo_storeTok (t := (fInt .i64)) (y := x456) (z := IntKind.i64.wrap (x453 + 1)) (v := vi (IntKind.i64.wrap (x453 + 1))) (vs := (flat [si (IntKind.i64.wrap (x453 + 1))])) (sz := 1) hF hS hfr hR0 (by kernel_rfl) 4 1 0 rfl rfl (by kernel_rfl) rfl rfl rfl hpx456 hx456 rfl (by kernel_rfl) (by kernel_rfl) rfl (show segGood [si (IntKind.i64.wrap (x453 + 1))] from (sgN 1 sgNil)).2 rfl (by decide) (fun _ _ h => by cases h) rfl [0, 1] [0, 2, 3, 4, 5, 6, 7, 8, 9] (Ra := [Ro.mp fStr.ty p2 c3 a1.Cuts, Ro.mp (fInt .i64).ty p4 c5 a1.Nodes]) (Rb := [Ro.mp fStr.ty p40 c41 y383, Ro.mp fStr.ty p26 c27 y117, Ro.mp (fInt .i64).ty p28 c29 y181, Ro.mp fStr.ty p33 c34 y250, Ro.mp (fInt .i64).ty p35 c36 y314, Ro.mp fStr.ty p47 c48 x46.Cuts, Ro.mp (fInt .i64).ty p49 c50 x46.Nodes, Ro.mp fStr.ty p19 c20 x18.Cuts, Ro.mp (fInt .i64).ty p21 c22 x18.Nodes]) rfl rfl (by intro m hm; simp only [List.mem_cons, List.not_mem_nil, or_false] at hm; rcases hm with rfl | rfl | rfl | rfl | rfl | rfl | rfl | rfl | rfl <;> first | exact apart_ro (hS.tokApart 4 5 hpx456 rfl rfl (by decide)) | exact apart_ro (hS.tokApart 4 9 hpx456 rfl rfl (by decide)) | exact apart_ro (hS.tokApart 4 8 hpx456 rfl rfl (by decide)) | exact apart_ro (hS.tokApart 4 7 hpx456 rfl rfl (by decide)) | exact apart_ro (hS.tokApart 4 6 hpx456 rfl rfl (by decide)) | exact apart_ro (hS.tokApart 4 10 hpx456 rfl rfl (by decide)) | exact apart_ro (hS.tokApart 4 11 hpx456 rfl rfl (by decide)) | exact apart_ro (hS.tokApart 4 12 hpx456 rfl rfl (by decide)) | exact apart_ro (hS.tokApart 4 13 hpx456 rfl rfl (by decide))) (Cf := (fun nn => [.box b330 25 [sl p40 (y383).length c41, sl p42 nn c43], .box b59 25 [sl p26 (y117).length c27, sl p28 (y181).length c29, sl p33 (y250).length c34, sl p35 (y314).length c36, sl p40 (y383).length c41, sl p42 nn c43, sl p47 (x46.Cuts).length c48, sl p49 (x46.Nodes).length c50], .box b23 25 [sl p19 (x18.Cuts).length c20, sl p21 (x18.Nodes).length c22], .box b11 25 [sl p2 (a1.Cuts).length c3, sl p4 (a1.Nodes).length c5], .tok p42 3 1 nn c43, .tok p40 9 1 (y383).length c41, .tok p35 3 1 (y314).length c36, .tok p33 9 1 (y250).length c34, .tok p28 3 1 (y181).length c29, .tok p26 9 1 (y117).length c27, .tok p47 9 1 (x46.Cuts).length c48, .tok p49 3 1 (x46.Nodes).length c50, .tok p19 9 1 (x18.Cuts).length c20, .tok p21 3 1 (x18.Nodes).length c22])) (Lf := (fun nn => [(5, pt b11 0), (11, pt b23 0), (20, pt b330 0), (61, .slice (some ⟨b59, 0, none⟩) 4 4), (62, vi 4), (63, vi 2), (86, vi ((x39.1.Nodes).length : Int)), (87, vi y448), (91, .slice p42 nn c43), (92, vi y448), (95, vi (IntKind.i64.wrap (x453 + 1))), (96, .pointer (some ⟨b457, (f458 + Int.toNat y448 * 1), none⟩))])) [5, 11, 20, 61, 62, 63, 86, 87, 91, 92, 95, 96] rfl (by kernel_rfl) fun a w hF hS => ?_)
 refine wpListIn_nil ?_
 refine hK451 _ _ ?_
 refine wpIn_region_lit ?_
 refine wp 2 [5, 11, 20, 61, 62, 63, 86, 87] hF fun a hF => ?_
 refine wpListIn_nil ?_
 exact ⟨fuel6, Nat.lt_succ_self _, _, (List.set y447 (Int.toNat y448) (IntKind.i64.wrap (x453 + 1))), IntKind.i64.wrap (y448 + 1), hF.kp [5, 11, 20, 61, 62, 63, 86, 87], hS.sp (rg 14) [3, 0, 4, 5, 6, 7, 8, 9, 10, 11, 1, 2], H⟩
 refine cond_f hF (by kernel_rfl) hb ?_
 refine wpIn_exit ?_
 refine hK328 _ _ ?_
 refine wpIn_region_lit ?_
 refine wl_pure (L' := [(5, pt b11 0), (11, pt b23 0), (61, .slice (some ⟨b59, 0, none⟩) 4 4), (62, vi 4), (63, vi 3)]) 2 [5, 11, 61, 62, 63] hF (by kernel_rfl) fun a hF => ?_
 refine wpListIn_nil ?_
 refine round_go ?_
 refine wpIn_seq_k fun K459 hK459 => ?_
 refine wpIn_region_lit ?_
 refine wp 1 [5, 11, 61, 62, 63, 64] hF fun a hF => ?_
 refine wpListIn_nil ?_
 refine hK459 _ _ ?_
 refine wpIn_seq_k fun K460 hK460 => ?_
 refine cond_t hF (by kernel_rfl) rfl ?_
 refine wpIn_skip ?_
 refine hK460 _ _ ?_
 refine wpIn_seq_k fun K461 hK461 => ?_
 refine wpIn_block ?_
 refine wpIn_seq_k fun K462 hK462 => ?_
 refine wpIn_region_lit ?_
 refine wp 1 [5, 11, 61, 62, 63, 65] hF fun a hF => ?_
 refine wc (wls hF hS 1 6 2 fun a hF => ?_)
 refine wc (wal hF hS [sl none 0 0, sl none 0 0] (sgN 2 sgNil) fun b463 a w hF hS => ?_)
 refine wc (wst hF hS 0 0 2 [sl p47 (x46.Cuts).length c48, sl p49 (x46.Nodes).length c50] (sgN 2 sgNil) fun a w hF hS => ?_)
 refine wpListIn_nil ?_
 refine hK462 _ _ ?_
 refine wpIn_seq_k fun K464 hK464 => ?_
 refine wpIn_seq_k fun K465 hK465 => ?_
 refine wpIn_region_lit ?_
 refine wp 1 [5, 11, 20, 61, 62, 63, 67] hF fun a hF => ?_
 refine wc (wld hF hS 0 0 0 fun a hF => ?_)
 refine wp 2 [5, 11, 20, 61, 62, 63, 69, 70] hF fun a hF => ?_
 refine wpListIn_nil ?_
 refine hK465 _ _ ?_
 refine wpIn_block ?_
 refine loop_fuel (n := N) (fun n a w => ∃ (κ : Gh) (y516 : List ByteArray) (y517 : Int), Fr (105) [] [(5, pt b11 0), (11, pt b23 0), (20, pt b463 0), (61, .slice (some ⟨b59, 0, none⟩) 4 4), (62, vi 4), (63, vi 3), (69, vi ((x46.Cuts).length : Int)), (70, vi y517)] a ∧ SS [] κ0 w0 κ w [.box b463 25 [sl p47 (y516).length c48, sl p49 (x46.Nodes).length c50], .box b59 25 [sl p26 (y117).length c27, sl p28 (y181).length c29, sl p33 (y250).length c34, sl p35 (y314).length c36, sl p40 (y383).length c41, sl p42 (y447).length c43, sl p47 (y516).length c48, sl p49 (x46.Nodes).length c50], .box b23 25 [sl p19 (x18.Cuts).length c20, sl p21 (x18.Nodes).length c22], .box b11 25 [sl p2 (a1.Cuts).length c3, sl p4 (a1.Nodes).length c5], .tok p47 9 1 (y516).length c48, .tok p42 3 1 (y447).length c43, .tok p40 9 1 (y383).length c41, .tok p35 3 1 (y314).length c36, .tok p33 9 1 (y250).length c34, .tok p28 3 1 (y181).length c29, .tok p26 9 1 (y117).length c27, .tok p49 3 1 (x46.Nodes).length c50, .tok p19 9 1 (x18.Cuts).length c20, .tok p21 3 1 (x18.Nodes).length c22] [Ro.mp fStr.ty p47 c48 y516, Ro.mp (fInt .i64).ty p49 c50 x46.Nodes, Ro.mp fStr.ty p26 c27 y117, Ro.mp (fInt .i64).ty p28 c29 y181, Ro.mp fStr.ty p33 c34 y250, Ro.mp (fInt .i64).ty p35 c36 y314, Ro.mp fStr.ty p40 c41 y383, Ro.mp (fInt .i64).ty p42 c43 y447, Ro.mp fStr.ty p19 c20 x18.Cuts, Ro.mp (fInt .i64).ty p21 c22 x18.Nodes, Ro.mp fStr.ty p2 c3 a1.Cuts, Ro.mp (fInt .i64).ty p4 c5 a1.Nodes] ∧ M.law08_SpanOwns_L7 N n a1 x18 x46 y117 y181 y250 y314 y383 y447 y516 y517 = some r) ?_ ?_
 exact ⟨_, x46.Cuts, 0, hF.kp [5, 11, 20, 61, 62, 63, 69, 70], hS.sp [0, 2, 3, 4, 11, 5, 6, 7, 8, 9, 10, 12, 13, 14] [6, 7, 2, 3, 4, 5, 0, 1, 8, 9, 10, 11], H⟩
 rintro n a w ⟨κ, y516, y517, hF, hS, H⟩
 rcases n with _ | fuel7
 simp [M.law08_SpanOwns_L7] at H
 simp only [M.law08_SpanOwns_L7] at H
 refine wpIn_seq_k fun K518 hK518 => ?_
 refine wpIn_region_lit ?_
 refine wp 1 [5, 11, 20, 61, 62, 63, 69, 70, 71] hF fun a hF => ?_
 refine wpListIn_nil ?_
 refine hK518 _ _ ?_
 refine wpIn_seq_k fun K519 hK519 => ?_
 refine bif_split H (fun hb H => ?_) (fun hb H => ?_)
 refine cond_t hF (by kernel_rfl) hb ?_
 refine wpIn_skip ?_
 refine hK519 _ _ ?_
 refine wpIn_seq_k fun K520 hK520 => ?_
 refine wpIn_block ?_
 refine wpIn_seq_k fun K521 hK521 => ?_
 refine wpIn_region_lit ?_
 refine wp 2 [5, 11, 20, 21, 61, 62, 63, 69, 70] hF fun a hF => ?_
 refine wpListIn_nil ?_
 refine hK521 _ _ ?_
 refine rgS hS [10] ?_
 have hS := hS.drew
 refine any_pure [0, 2, 3, 5] [5, 11, 20, 61, 62, 63, 69, 70, 73, 75, 76, 78] (L' := [(5, pt b11 0), (11, pt b23 0), (20, pt b463 0), (61, .slice (some ⟨b59, 0, none⟩) 4 4), (62, vi 4), (63, vi 3), (69, vi ((x46.Cuts).length : Int)), (70, vi y517), (73, pt b463 0), (75, vi y517), (76, pt b463 0), (78, vi y517)]) (listed' := (bitA 11 45)) (fuel := 7) hF (hS.sx (rg 4) (rg 12)) (by kernel_rfl) (by intro c a w t v h; cases t <;> exact h) (by kernel_rfl) rfl fun a hF => ?_
 refine atk 1 (some 74) hF (hS.sx (rg 4) (rg 12)) rfl (vld 0 0 0) fun a hF => ?_
 refine atk 4 (some 77) hF (hS.sx (rg 4) (rg 12)) rfl (vld 0 0 0) fun a hF => ?_
 refine bind_split H (fun x522 hx522 H => ?_)
 obtain ⟨b523, f524, hpx522⟩ := hS.ptr 0 rfl hx522
 refine atk 6 (some 79) hF (hS.sx (rg 4) (rg 12)) rfl (fun w _ => val_index (E := 9) (sz := 1) rfl hpx522 rfl (by kernel_rfl) rfl hx522 (by kernel_rfl) (by kernel_rfl) w) fun a hF => ?_
 refine atk 7 (some 80) hF (hS.sx (rg 4) (rg 12)) rfl (val_loadRo (t := fStr) 0 0 (v := .string (x522)) rfl rfl hpx522 rfl hx522 (by kernel_rfl) (by kernel_rfl) (by kernel_rfl)) fun a hF => ?_
 refine ago 8 hF rfl ?_
 refine bind_split H (fun x525 hx525 H => ?_)
 refine wo_callP hF hS (by kernel_rfl) (by kernel_rfl) (C_law08_other N hS.fresh x522  ((hS.pick [] (by kernel_rfl)).ro) hx525) ?_
 rintro _ κ w a ⟨rfl, hR, hN⟩ hF hS hO
 refine ⟨fun _ => (hS.sx (rg 4) (rg 12)), ?_⟩
 refine bind_split H (fun x526 hx526 H => ?_)
 obtain ⟨b527, f528, hpx526⟩ := hS.ptr 0 rfl hx526
 refine atk 9 (some 82) hF (hS.sx (rg 4) (rg 12)) rfl (fun w _ => val_index (E := 9) (sz := 1) rfl hpx526 rfl (by kernel_rfl) rfl hx526 (by kernel_rfl) (by kernel_rfl) w) fun a hF => ?_
 refine ago 10 hF rfl ?_
 refine wo_storeTok (t := fStr) (y := x526) (z := x525) (v := .string (x525)) (vs := (flat [sg x525])) (sz := 1) hF hS hfr hR0 (by kernel_rfl) 4 0 0 rfl rfl (by kernel_rfl) rfl rfl rfl hpx526 hx526 rfl (by kernel_rfl) (by kernel_rfl) rfl (show segGood [sg x525] from (sgN 1 sgNil)).2 rfl (by decide) (fun _ _ h => by cases h) rfl [0, 1] [1, 2, 3, 4, 5, 6, 7, 8, 9] (Ra := [Ro.mp fStr.ty p2 c3 a1.Cuts, Ro.mp (fInt .i64).ty p4 c5 a1.Nodes]) (Rb := [Ro.mp (fInt .i64).ty p49 c50 x46.Nodes, Ro.mp fStr.ty p26 c27 y117, Ro.mp (fInt .i64).ty p28 c29 y181, Ro.mp fStr.ty p33 c34 y250, Ro.mp (fInt .i64).ty p35 c36 y314, Ro.mp fStr.ty p40 c41 y383, Ro.mp (fInt .i64).ty p42 c43 y447, Ro.mp fStr.ty p19 c20 x18.Cuts, Ro.mp (fInt .i64).ty p21 c22 x18.Nodes]) rfl rfl (by intro m hm; simp only [List.mem_cons, List.not_mem_nil, or_false] at hm; rcases hm with rfl | rfl | rfl | rfl | rfl | rfl | rfl | rfl | rfl <;> first | exact apart_ro (hS.tokApart 4 11 hpx526 rfl rfl (by decide)) | exact apart_ro (hS.tokApart 4 10 hpx526 rfl rfl (by decide)) | exact apart_ro (hS.tokApart 4 9 hpx526 rfl rfl (by decide)) | exact apart_ro (hS.tokApart 4 8 hpx526 rfl rfl (by decide)) | exact apart_ro (hS.tokApart 4 7 hpx526 rfl rfl (by decide)) | exact apart_ro (hS.tokApart 4 6 hpx526 rfl rfl (by decide)) | exact apart_ro (hS.tokApart 4 5 hpx526 rfl rfl (by decide)) | exact apart_ro (hS.tokApart 4 12 hpx526 rfl rfl (by decide)) | exact apart_ro (hS.tokApart 4 13 hpx526 rfl rfl (by decide))) (Cf := (fun nn => [.box b463 25 [sl p47 nn c48, sl p49 (x46.Nodes).length c50], .box b59 25 [sl p26 (y117).length c27, sl p28 (y181).length c29, sl p33 (y250).length c34, sl p35 (y314).length c36, sl p40 (y383).length c41, sl p42 (y447).length c43, sl p47 nn c48, sl p49 (x46.Nodes).length c50], .box b23 25 [sl p19 (x18.Cuts).length c20, sl p21 (x18.Nodes).length c22], .box b11 25 [sl p2 (a1.Cuts).length c3, sl p4 (a1.Nodes).length c5], .tok p47 9 1 nn c48, .tok p42 3 1 (y447).length c43, .tok p40 9 1 (y383).length c41, .tok p35 3 1 (y314).length c36, .tok p33 9 1 (y250).length c34, .tok p28 3 1 (y181).length c29, .tok p26 9 1 (y117).length c27, .tok p49 3 1 (x46.Nodes).length c50, .tok p19 9 1 (x18.Cuts).length c20, .tok p21 3 1 (x18.Nodes).length c22])) (Lf := (fun nn => [(5, pt b11 0), (11, pt b23 0), (20, pt b463 0), (61, .slice (some ⟨b59, 0, none⟩) 4 4), (62, vi 4), (63, vi 3), (69, vi ((x46.Cuts).length : Int)), (70, vi y517), (73, pt b463 0), (74, .slice p47 nn c48), (75, vi y517), (76, pt b463 0), (77, .slice p47 nn c48), (78, vi y517), (79, .pointer (some ⟨b523, (f524 + Int.toNat y517 * 1), none⟩)), (80, .string (x522)), (81, .string (x525)), (82, .pointer (some ⟨b527, (f528 + Int.toNat y517 * 1), none⟩))])) [5, 11, 20, 61, 62, 63, 69, 70, 73, 74, 75, 76, 77, 78, 79, 80, 81, 82] rfl (by kernel_rfl) fun a w hF hS => ?_
 refine ⟨notE, ?_⟩
 refine and_ ?_
 refine hK520 _ _ ?_
 refine wpIn_region_lit ?_
 refine wp 2 [5, 11, 20, 61, 62, 63, 69, 70] hF fun a hF => ?_
 refine wpListIn_nil ?_
 exact ⟨fuel7, Nat.lt_succ_self _, _, (List.set y516 (Int.toNat y517) x525), IntKind.i64.wrap (y517 + 1), hF.kp [5, 11, 20, 61, 62, 63, 69, 70], hS.sp (rg 14) [0, 3, 4, 5, 6, 7, 8, 9, 10, 11, 1, 2], H⟩
 refine cond_f hF (by kernel_rfl) hb ?_
 refine wpIn_exit ?_
 refine hK464 _ _ ?_
 refine wpIn_seq_k fun K529 hK529 => ?_
 refine wpIn_region_lit ?_
 refine wp 1 [5, 11, 20, 61, 62, 63, 84] hF fun a hF => ?_
 refine wc (wld hF hS 0 1 0 fun a hF => ?_)
 refine wp 2 [5, 11, 20, 61, 62, 63, 86, 87] hF fun a hF => ?_
 refine wpListIn_nil ?_
 refine hK529 _ _ ?_
 refine wpIn_block ?_
 refine loop_fuel (n := N) (fun n a w => ∃ (κ : Gh) (y580 : List Int) (y581 : Int), Fr (105) [] [(5, pt b11 0), (11, pt b23 0), (20, pt b463 0), (61, .slice (some ⟨b59, 0, none⟩) 4 4), (62, vi 4), (63, vi 3), (86, vi ((x46.Nodes).length : Int)), (87, vi y581)] a ∧ SS [] κ0 w0 κ w [.box b463 25 [sl p47 (y516).length c48, sl p49 (y580).length c50], .box b59 25 [sl p26 (y117).length c27, sl p28 (y181).length c29, sl p33 (y250).length c34, sl p35 (y314).length c36, sl p40 (y383).length c41, sl p42 (y447).length c43, sl p47 (y516).length c48, sl p49 (y580).length c50], .box b23 25 [sl p19 (x18.Cuts).length c20, sl p21 (x18.Nodes).length c22], .box b11 25 [sl p2 (a1.Cuts).length c3, sl p4 (a1.Nodes).length c5], .tok p49 3 1 (y580).length c50, .tok p47 9 1 (y516).length c48, .tok p42 3 1 (y447).length c43, .tok p40 9 1 (y383).length c41, .tok p35 3 1 (y314).length c36, .tok p33 9 1 (y250).length c34, .tok p28 3 1 (y181).length c29, .tok p26 9 1 (y117).length c27, .tok p19 9 1 (x18.Cuts).length c20, .tok p21 3 1 (x18.Nodes).length c22] [Ro.mp fStr.ty p47 c48 y516, Ro.mp (fInt .i64).ty p49 c50 y580, Ro.mp fStr.ty p26 c27 y117, Ro.mp (fInt .i64).ty p28 c29 y181, Ro.mp fStr.ty p33 c34 y250, Ro.mp (fInt .i64).ty p35 c36 y314, Ro.mp fStr.ty p40 c41 y383, Ro.mp (fInt .i64).ty p42 c43 y447, Ro.mp fStr.ty p19 c20 x18.Cuts, Ro.mp (fInt .i64).ty p21 c22 x18.Nodes, Ro.mp fStr.ty p2 c3 a1.Cuts, Ro.mp (fInt .i64).ty p4 c5 a1.Nodes] ∧ M.law08_SpanOwns_L8 N n a1 x18 x46 y117 y181 y250 y314 y383 y447 y516 y580 y581 = some r) ?_ ?_
 exact ⟨_, x46.Nodes, 0, hF.kp [5, 11, 20, 61, 62, 63, 86, 87], hS.sp [0, 1, 2, 3, 11, 4, 5, 6, 7, 8, 9, 10, 12, 13] (rg 12), H⟩
 rintro n a w ⟨κ, y580, y581, hF, hS, H⟩
 rcases n with _ | fuel8
 simp [M.law08_SpanOwns_L8] at H
 simp only [M.law08_SpanOwns_L8] at H
 refine wpIn_seq_k fun K582 hK582 => ?_
 refine wpIn_region_lit ?_
 refine wp 1 [5, 11, 20, 61, 62, 63, 86, 87, 88] hF fun a hF => ?_
 refine wpListIn_nil ?_
 refine hK582 _ _ ?_
 refine wpIn_seq_k fun K583 hK583 => ?_
 refine bif_split H (fun hb H => ?_) (fun hb H => ?_)
 refine cond_t hF (by kernel_rfl) hb ?_
 refine wpIn_skip ?_
 refine hK583 _ _ ?_
 refine wpIn_seq_k fun K584 hK584 => ?_
 refine wpIn_block ?_
 refine wpIn_seq_k fun K585 hK585 => ?_
 refine wpIn_region_lit ?_
 refine wp 2 [5, 11, 20, 22, 61, 62, 63, 86, 87] hF fun a hF => ?_
 refine wpListIn_nil ?_
 refine hK585 _ _ ?_
 refine wpIn_region_lit ?_
 refine wp 1 [5, 11, 20, 22, 61, 62, 63, 86, 87, 90] hF fun a hF => ?_
 refine wc (wld hF hS 0 1 0 fun a hF => ?_)
 refine wl_pure (L' := [(5, pt b11 0), (11, pt b23 0), (20, pt b463 0), (61, .slice (some ⟨b59, 0, none⟩) 4 4), (62, vi 4), (63, vi 3), (86, vi ((x46.Nodes).length : Int)), (87, vi y581), (91, .slice p49 (y580).length c50), (92, vi y581)]) 1 [5, 11, 20, 61, 62, 63, 86, 87, 91, 92] hF (by kernel_rfl) fun a hF => ?_
 refine bind_split H (fun x586 hx586 H => ?_)
 refine wc (wo_index hF hS (by kernel_rfl) 1 (E := 3) (sz := 1) rfl rfl rfl (by kernel_rfl) rfl hx586 (by kernel_rfl) (by kernel_rfl) fun b587 f588 a hpx586 hF => ?_)
 refine wc (wo_loadRo (t := (fInt .i64)) hF hS (by kernel_rfl) 1 0 (v := vi x586) rfl rfl hpx586 rfl hx586 (by kernel_rfl) (by kernel_rfl) (by kernel_rfl) fun a hF => ?_)
 refine wl_pure (L' := [(5, pt b11 0), (11, pt b23 0), (20, pt b463 0), (61, .slice (some ⟨b59, 0, none⟩) 4 4), (62, vi 4), (63, vi 3), (86, vi ((x46.Nodes).length : Int)), (87, vi y581), (91, .slice p49 (y580).length c50), (92, vi y581), (95, vi (IntKind.i64.wrap (x586 + 1)))]) 1 [5, 11, 20, 61, 62, 63, 86, 87, 91, 92, 95] hF (by kernel_rfl) fun a hF => ?_
 refine bind_split H (fun x589 hx589 H => ?_)
 refine wc (wo_index hF hS (by kernel_rfl) 1 (E := 3) (sz := 1) rfl rfl rfl (by kernel_rfl) rfl hx589 (by kernel_rfl) (by kernel_rfl) fun b590 f591 a hpx589 hF => ?_)
 refine wc (wo_storeTok (t := (fInt .i64)) (y := x589) (z := IntKind.i64.wrap (x586 + 1)) (v := vi (IntKind.i64.wrap (x586 + 1))) (vs := (flat [si (IntKind.i64.wrap (x586 + 1))])) (sz := 1) hF hS hfr hR0 (by kernel_rfl) 4 1 0 rfl rfl (by kernel_rfl) rfl rfl rfl hpx589 hx589 rfl (by kernel_rfl) (by kernel_rfl) rfl (show segGood [si (IntKind.i64.wrap (x586 + 1))] from (sgN 1 sgNil)).2 rfl (by decide) (fun _ _ h => by cases h) rfl [0, 1] [0, 2, 3, 4, 5, 6, 7, 8, 9] (Ra := [Ro.mp fStr.ty p2 c3 a1.Cuts, Ro.mp (fInt .i64).ty p4 c5 a1.Nodes]) (Rb := [Ro.mp fStr.ty p47 c48 y516, Ro.mp fStr.ty p26 c27 y117, Ro.mp (fInt .i64).ty p28 c29 y181, Ro.mp fStr.ty p33 c34 y250, Ro.mp (fInt .i64).ty p35 c36 y314, Ro.mp fStr.ty p40 c41 y383, Ro.mp (fInt .i64).ty p42 c43 y447, Ro.mp fStr.ty p19 c20 x18.Cuts, Ro.mp (fInt .i64).ty p21 c22 x18.Nodes]) rfl rfl (by intro m hm; simp only [List.mem_cons, List.not_mem_nil, or_false] at hm; rcases hm with rfl | rfl | rfl | rfl | rfl | rfl | rfl | rfl | rfl <;> first | exact apart_ro (hS.tokApart 4 5 hpx589 rfl rfl (by decide)) | exact apart_ro (hS.tokApart 4 11 hpx589 rfl rfl (by decide)) | exact apart_ro (hS.tokApart 4 10 hpx589 rfl rfl (by decide)) | exact apart_ro (hS.tokApart 4 9 hpx589 rfl rfl (by decide)) | exact apart_ro (hS.tokApart 4 8 hpx589 rfl rfl (by decide)) | exact apart_ro (hS.tokApart 4 7 hpx589 rfl rfl (by decide)) | exact apart_ro (hS.tokApart 4 6 hpx589 rfl rfl (by decide)) | exact apart_ro (hS.tokApart 4 12 hpx589 rfl rfl (by decide)) | exact apart_ro (hS.tokApart 4 13 hpx589 rfl rfl (by decide))) (Cf := (fun nn => [.box b463 25 [sl p47 (y516).length c48, sl p49 nn c50], .box b59 25 [sl p26 (y117).length c27, sl p28 (y181).length c29, sl p33 (y250).length c34, sl p35 (y314).length c36, sl p40 (y383).length c41, sl p42 (y447).length c43, sl p47 (y516).length c48, sl p49 nn c50], .box b23 25 [sl p19 (x18.Cuts).length c20, sl p21 (x18.Nodes).length c22], .box b11 25 [sl p2 (a1.Cuts).length c3, sl p4 (a1.Nodes).length c5], .tok p49 3 1 nn c50, .tok p47 9 1 (y516).length c48, .tok p42 3 1 (y447).length c43, .tok p40 9 1 (y383).length c41, .tok p35 3 1 (y314).length c36, .tok p33 9 1 (y250).length c34, .tok p28 3 1 (y181).length c29, .tok p26 9 1 (y117).length c27, .tok p19 9 1 (x18.Cuts).length c20, .tok p21 3 1 (x18.Nodes).length c22])) (Lf := (fun nn => [(5, pt b11 0), (11, pt b23 0), (20, pt b463 0), (61, .slice (some ⟨b59, 0, none⟩) 4 4), (62, vi 4), (63, vi 3), (86, vi ((x46.Nodes).length : Int)), (87, vi y581), (91, .slice p49 nn c50), (92, vi y581), (95, vi (IntKind.i64.wrap (x586 + 1))), (96, .pointer (some ⟨b590, (f591 + Int.toNat y581 * 1), none⟩))])) [5, 11, 20, 61, 62, 63, 86, 87, 91, 92, 95, 96] rfl (by kernel_rfl) fun a w hF hS => ?_)
 refine wpListIn_nil ?_
 refine hK584 _ _ ?_
 refine wpIn_region_lit ?_
 refine wp 2 [5, 11, 20, 61, 62, 63, 86, 87] hF fun a hF => ?_
 refine wpListIn_nil ?_
 exact ⟨fuel8, Nat.lt_succ_self _, _, (List.set y580 (Int.toNat y581) (IntKind.i64.wrap (x586 + 1))), IntKind.i64.wrap (y581 + 1), hF.kp [5, 11, 20, 61, 62, 63, 86, 87], hS.sp (rg 14) [3, 0, 4, 5, 6, 7, 8, 9, 10, 11, 1, 2], H⟩
 refine cond_f hF (by kernel_rfl) hb ?_
 refine wpIn_exit ?_
 refine hK461 _ _ ?_
 refine wpIn_region_lit ?_
 refine wl_pure (L' := [(5, pt b11 0), (11, pt b23 0), (61, .slice (some ⟨b59, 0, none⟩) 4 4), (62, vi 4), (63, vi 4)]) 2 [5, 11, 61, 62, 63] hF (by kernel_rfl) fun a hF => ?_
 refine wpListIn_nil ?_
 refine round_go ?_
 refine wpIn_seq_k fun K592 hK592 => ?_
 refine wpIn_region_lit ?_
 refine wp 1 [5, 11, 61, 62, 63, 64] hF fun a hF => ?_
 refine wpListIn_nil ?_
 refine hK592 _ _ ?_
 refine wpIn_seq_k fun K593 hK593 => ?_
 refine cond_f hF (by kernel_rfl) rfl ?_
 refine wpIn_exit ?_
 refine hK56 _ _ ?_
 refine wpIn_seq_k fun K594 hK594 => ?_
 refine wpIn_region_lit ?_
 refine bind_split H (fun v596 hv596 H => ?_)
 refine wl_join (fun a w => ∃ κ : Gh, Fr (105) [] [(10, vb v596)] a ∧ SS [] κ0 w0 κ w [] [] ∧ True) ?_ ?_
 refine bind_split hv596 (fun x597 hx597 hv596 => ?_)
 refine wc (wo_callP hF hS (by kernel_rfl) (by kernel_rfl) (C_law08_awake N hS.fresh   ((hS.pick [] (by kernel_rfl)).ro) hx597) ?_)
 rintro _ κ w a ⟨rfl, hR, hN⟩ hF hS hO
 refine wp 1 [5, 11, 100] hF fun a hF => ?_
 refine bif_split hv596 (fun hb hv596 => ?_) (fun hb hv596 => ?_)
 have hF := hF.boolv 100 (by kernel_rfl) hb
 refine wcg hF (wls hF hS 3 0 2 fun a hF => ?_)
 refine wcg hF (wls hF hS 2 0 2 fun a hF => ?_)
 refine bind_split hv596 (fun x598 hx598 hv596 => ?_)
 refine wcg hF (wo_callP hF hS (by kernel_rfl) (by kernel_rfl) (C_ref08_Same N hS.fresh (T_api_Map.mk a1.Cuts a1.Nodes) (T_api_Map.mk x18.Cuts x18.Nodes) p2 c3 p4 c5 p19 c20 p21 c22 ((hS.pick [10, 11, 8, 9] (by kernel_rfl)).ro) hx598) ?_)
 rintro _ κ w a ⟨rfl, hR, hN⟩ hF hS hO
 refine wp 2 [10] hF fun a hF => ?_
 refine wpListIn_nil ?_
 cases hv596
 exact ⟨_, hF.kp [10], hS.sp [] [], trivial⟩
 have hF := hF.boolv 100 (by kernel_rfl) hb
 refine wp 5 [10] hF fun a hF => ?_
 refine wpListIn_nil ?_
 cases hv596
 exact ⟨_, hF.kp [10], hS.sp [] [], trivial⟩
 rintro a w ⟨κ, hF, hS, -⟩
 refine hK594 _ _ ?_
 refine wpIn_ret ?_
 cases H
 exact (ret_done hF hS (res1 Try.results6 (rvt hF)) ⟨rfl, (hS.pick [] (by kernel_rfl)).ro, hS.newC [] (by decide) (by kernel_rfl)⟩)
end Go.Cf
