/- The walks: each function returns what its model says. Printed by a program of ours. -/
import Derived.Test.YteeafoagaaedcaaZMtS
import Derived.Test.YteeafoagaaedcaaZWt1
import Derived.Test.YteeafoagaaedcaaZWt2
import Derived.Test.YteeafoagaaedcaaZWt4
namespace Go.Cf
open Go Go.Proofs
set_option linter.unusedVariables false
set_option maxRecDepth 20000 in
set_option maxHeartbeats 8000000 in
theorem C_law10_StoreSpans (N : Nat) {κ0 : Gh} {w0 : World} (hfr : Fresh κ0 w0) (a1 : (List T_api_Ver)) (a4 : ByteArray) (a5 : ByteArray) (a6 : Int) (p2 : Option Addr) (c3 : Nat) (hR : ∀ m ∈ ([Ro.mp f_api_Ver.ty p2 c3 a1] : List MP), m.p κ0 w0) {r : (Bool)} (H : M.law10_StoreSpans N a1 a4 a5 a6 = some r) :
    Calls Try.prog 8 #[.slice p2 (a1).length c3, .string (a4), .string (a5), vi a6] w0 (Post [] κ0 w0 fun v κ w => v = vb r ∧ (∀ m ∈ ([] : List MP), m.p κ w) ∧ NewC w0 κ w []) := by
 have hS := SS.start hfr hR
 refine enterM (N := (104)) (L := [(0, .slice p2 (a1).length c3), (1, .string (a4)), (2, .string (a5)), (3, vi a6)]) Try.func8 rfl Try.ntmps8 (show 4 ≤ (104) by decide) rfl fun a hF => ?_
 unfold M.law10_StoreSpans at H
 refine wpIn_seq_k fun K7 hK7 => ?_
 refine wpIn_region_lit ?_
 refine wc (wbx hF hS [si a6] (sgN 1 sgNil) fun b8 a w hF hS => ?_)
 refine wc (wal hF hS [sb false] (sgN 1 sgNil) fun b9 a w hF hS => ?_)
 refine wpListIn_nil ?_
 refine hK7 _ _ ?_
 refine wpIn_seq_k fun K10 hK10 => ?_
 refine wpIn_region_lit ?_
 refine bind_split H (fun x11 hx11 H => ?_)
 refine wc (wcS 0 [0, 1] hF hS (fun hS => C_store_New N    ⟨rfl, hS.pick [] (by kernel_rfl)⟩ hx11) ?_)
 rintro _ κ w a ⟨b12, p13, m14, c15, rfl, h2⟩ hF hB
 have hS := hB _ _ h2
 refine wp 1 [0, 1, 2, 7, 8, 9] hF fun a hF => ?_
 refine wpListIn_nil ?_
 refine hK10 _ _ ?_
 refine wpIn_seq_k fun K16 hK16 => ?_
 refine wpIn_seq_k fun K17 hK17 => ?_
 refine wpIn_region_lit ?_
 refine wp 2 [0, 1, 2, 7, 8, 9, 17] hF fun a hF => ?_
 refine wpListIn_nil ?_
 refine hK17 _ _ ?_
 refine cond_f hF (by kernel_rfl) rfl ?_
 refine wpIn_skip ?_
 refine hK16 _ _ ?_
 refine wpIn_seq_k fun K18 hK18 => ?_
 refine wpIn_region_lit ?_
 refine wp 2 [1, 2, 7, 8, 9, 18, 19] hF fun a hF => ?_
 refine bind_split H (fun x19 hx19 H => ?_)
 refine wc (wo_callP hF hS (by kernel_rfl) (by kernel_rfl) (C_law10_few N hS.fresh a1 40 p2 c3 ((hS.pick [1] (by kernel_rfl)).ro) hx19) ?_)
 rintro _ κ w a ⟨p20, c21, rfl, hR, hN⟩ hF hS hO
 have hS := hS.adds hR
 refine bind_split H (fun x22 hx22 H => ?_)
 refine wc (wcS 2 (rg 4) hF hS (fun hS => C_store_Store_Load N (T_store_Store.mk x11.chains x11.floor) x19 p13 m14 c15 p20 c21 b12 ⟨rfl, hS.pick [1, 0] (by kernel_rfl)⟩ hx22) ?_)
 rintro _ κ w a ⟨p23, m24, c25, rfl, h2⟩ hF hB
 have hS := (hB _ _ h2).cC (C' := [.box b12 130 [(1, [.map p23]), su x22.2.floor], .ext (objX p23 (.map m24 c25)), .box b9 4 [sb false], .box b8 3 [si a6]])
 refine wpListIn_nil ?_
 refine hK18 _ _ ?_
 refine wpIn_seq_k fun K26 hK26 => ?_
 refine wpIn_region_lit ?_
 refine wp 3 [1, 2, 7, 8, 9, 22, 23, 24] hF fun a hF => ?_
 refine bind_split H (fun x27 hx27 H => ?_)
 refine wc (wcS 2 (rg 4) hF hS (fun hS => C_law10_All N (T_store_Store.mk x22.2.chains x22.2.floor) a4 a5 p23 m24 c25 b12 ⟨rfl, hS.pick [0] (by kernel_rfl)⟩ hx27) ?_)
 rintro _ κ w a ⟨p28, c29, rfl, h2⟩ hF hB
 have hS := hB _ _ h2
 refine wc (wal hF hS [sl none 0 0] (sgN 1 sgNil) fun b30 a w hF hS => ?_)
 refine wc (wst hF hS 0 0 1 [sl p28 (x27).length c29] (sgN 1 sgNil) fun a w hF hS => ?_)
 refine wpListIn_nil ?_
 refine hK26 _ _ ?_
 refine wpIn_seq_k fun K31 hK31 => ?_
 refine wpIn_seq_k fun K32 hK32 => ?_
 refine wpIn_region_lit ?_
 refine wc (wld hF hS 0 0 0 fun a hF => ?_)
 refine wp 2 [1, 2, 7, 8, 9, 10, 26, 27, 28] hF fun a hF => ?_
 refine wpListIn_nil ?_
 refine hK32 _ _ ?_
 refine wpIn_block ?_
 refine loop_fuel (n := N) (fun n a w => ∃ (κ : Gh) (y83 : Int), Fr (104) [] [(1, .string (a4)), (2, .string (a5)), (7, pt b8 0), (8, pt b9 0), (9, pt b12 0), (10, pt b30 0), (26, .slice p28 (x27).length c29), (27, vi ((x27).length : Int)), (28, vi y83)] a ∧ SS [] κ0 w0 κ w [.box b30 39 [sl p28 (x27).length c29], .box b12 130 [(1, [.map p23]), su x22.2.floor], .box b9 4 [sb false], .box b8 3 [si a6], .tok p28 37 6 (x27).length c29, .ext (objX p23 (.map m24 c25))] [Map.mp kStr false (tSl f_api_Ver.ty) p23 m24 c25 x22.2.chains, Ro.mp f_api_Ver.ty p28 c29 x27] ∧ M.law10_StoreSpans_L1 N n a4 a5 a6 x22 x27 y83 = some r) ?_ ?_
 exact ⟨_, 0, hF.kp [1, 2, 7, 8, 9, 10, 26, 27, 28], hS.sp [0, 1, 4, 5, 3, 2] [1, 0], H⟩
 rintro n a w ⟨κ, y83, hF, hS, H⟩
 rcases n with _ | fuel1
 simp [M.law10_StoreSpans_L1] at H
 simp only [M.law10_StoreSpans_L1] at H
 refine wpIn_seq_k fun K84 hK84 => ?_
 refine wpIn_region_lit ?_
 refine wp 1 [1, 2, 7, 8, 9, 10, 26, 27, 28, 29] hF fun a hF => ?_
 refine wpListIn_nil ?_
 refine hK84 _ _ ?_
 refine wpIn_seq_k fun K85 hK85 => ?_
 refine bif_split H (fun hb H => ?_) (fun hb H => ?_)
 refine cond_t hF (by kernel_rfl) hb ?_
 refine wpIn_skip ?_
 refine hK85 _ _ ?_
 refine wpIn_seq_k fun K86 hK86 => ?_
 refine wpIn_block ?_
 refine wpIn_seq_k fun K87 hK87 => ?_
 refine wpIn_region_lit ?_
 refine wl_pure (L' := [(1, .string (a4)), (2, .string (a5)), (7, pt b8 0), (8, pt b9 0), (9, pt b12 0), (10, pt b30 0), (26, .slice p28 (x27).length c29), (27, vi ((x27).length : Int)), (28, vi y83), (30, vi y83)]) 1 [1, 2, 7, 8, 9, 10, 26, 27, 28, 30] hF (by kernel_rfl) fun a hF => ?_
 refine bind_split H (fun x88 hx88 H => ?_)
 refine wc (wo_index hF hS (by kernel_rfl) 1 (E := 37) (sz := 6) rfl rfl rfl (by kernel_rfl) rfl hx88 (by kernel_rfl) (by kernel_rfl) fun b89 f90 a hpx88 hF => ?_)
 refine wc (wo_loadRoAgg (t := f_api_Ver) hF hS (by kernel_rfl) 1 rfl rfl hpx88 rfl hx88 (by kernel_rfl) (by kernel_rfl) (by kernel_rfl) fun a hF => ?_)
 refine wc (wal hF hS [sg ByteArray.empty, sg ByteArray.empty, sb false, su 0, si 0, si 0] (sgN 6 sgNil) fun b91 a w hF hS => ?_)
 refine wp 1 [1, 2, 7, 8, 9, 10, 11, 12, 26, 27, 28, 32] hF fun a hF => ?_
 refine wc (wst hF hS 0 0 6 [sg x88.Key, sg x88.Val, sb x88.Gone, su x88.TS, si x88.DC, si x88.Tx] (sgN 6 sgNil) fun a w hF hS => ?_)
 refine wpListIn_nil ?_
 refine hK87 _ _ ?_
 refine wpIn_seq_k fun K92 hK92 => ?_
 refine bind_split H (fun v94 hv94 H => ?_)
 refine code_join (fun a w => ∃ κ : Gh, Fr (104) [] [(1, .string (a4)), (2, .string (a5)), (7, pt b8 0), (8, pt b9 0), (9, pt b12 0), (10, pt b30 0), (26, .slice p28 (x27).length c29), (27, vi ((x27).length : Int)), (28, vi y83), (61, vb v94)] a ∧ SS [] κ0 w0 κ w [.box b30 39 [sl p28 (x27).length c29], .box b12 130 [(1, [.map p23]), su x22.2.floor], .box b9 4 [sb false], .box b8 3 [si a6], .tok p28 37 6 (x27).length c29, .ext (objX p23 (.map m24 c25))] [Map.mp kStr false (tSl f_api_Ver.ty) p23 m24 c25 x22.2.chains, Ro.mp f_api_Ver.ty p28 c29 x27] ∧ True) ?_ ?_
 refine rgS hS [] ?_
 have hS := hS.drew
 refine anp [0, 2] [1, 2, 7, 8, 9, 10, 11, 12, 26, 27, 28, 33, 35] hF (hS.sx [0, 1, 2, 3, 4, 6] [0, 1]) fun a hF => ?_
 refine atk 1 (some 34) hF (hS.sx [0, 1, 2, 3, 4, 6] [0, 1]) rfl (vld 0 0 0) fun a hF => ?_
 refine anp [3, 4] [1, 2, 7, 8, 9, 10, 11, 12, 26, 27, 28, 37] hF (hS.sx [0, 1, 2, 3, 4, 6] [0, 1]) fun a hF => ?_
 refine bif_split hv94 (fun hb hv94 => ?_) (fun hb hv94 => ?_)
 have hF := hF.boolv 37 (by kernel_rfl) hb
 refine anp [5, 6, 7, 8, 9, 10, 11, 12, 13, 14, 15, 16, 17, 18, 19, 20, 21, 22, 23, 24, 25, 26, 27, 28] [1, 2, 7, 8, 9, 10, 26, 27, 28, 61] hF (hS.sx [0, 1, 2, 3, 4, 6] [0, 1]) fun a hF => ?_
 refine and_ ?_
 cases hv94
 exact ⟨_, hF.kp [1, 2, 7, 8, 9, 10, 26, 27, 28, 61], hS.sp [1, 2, 3, 4, 5, 6] [0, 1], trivial⟩
 have hF := hF.boolv 37 (by kernel_rfl) hb
 refine anp [5, 6, 7] [1, 2, 7, 8, 9, 10, 11, 12, 26, 27, 28, 37, 40] hF (hS.sx [0, 1, 2, 3, 4, 6] [0, 1]) fun a hF => ?_
 refine bif_split hv94 (fun hb hv94 => ?_) (fun hb hv94 => ?_)
 have hF := hF.boolv 40 (by kernel_rfl) hb
 refine anp [8, 10] [1, 2, 7, 8, 9, 10, 11, 12, 26, 27, 28, 37, 40, 41, 43] hF (hS.sx [0, 1, 2, 3, 4, 6] [0, 1]) fun a hF => ?_
 refine atk 9 (some 42) hF (hS.sx [0, 1, 2, 3, 4, 6] [0, 1]) rfl (vld 0 0 0) fun a hF => ?_
 refine anp [11, 12, 13, 14] [1, 2, 7, 8, 9, 10, 11, 12, 26, 27, 28, 47] hF (hS.sx [0, 1, 2, 3, 4, 6] [0, 1]) fun a hF => ?_
 refine bif_split hv94 (fun hb hv94 => ?_) (fun hb hv94 => ?_)
 have hF := hF.boolv 47 (by kernel_rfl) hb
 refine anp [15, 16, 17, 18, 19, 20, 21, 22, 23, 24, 25, 26, 27, 28] [1, 2, 7, 8, 9, 10, 26, 27, 28, 61] hF (hS.sx [0, 1, 2, 3, 4, 6] [0, 1]) fun a hF => ?_
 refine and_ ?_
 cases hv94
 exact ⟨_, hF.kp [1, 2, 7, 8, 9, 10, 26, 27, 28, 61], hS.sp [1, 2, 3, 4, 5, 6] [0, 1], trivial⟩
 have hF := hF.boolv 47 (by kernel_rfl) hb
 refine anp [15, 16, 17] [1, 2, 7, 8, 9, 10, 11, 12, 26, 27, 28, 47, 50] hF (hS.sx [0, 1, 2, 3, 4, 6] [0, 1]) fun a hF => ?_
 refine bif_split hv94 (fun hb hv94 => ?_) (fun hb hv94 => ?_)
 have hF := hF.boolv 50 (by kernel_rfl) hb
 refine any_pure [19, 20, 24] [1, 2, 7, 8, 9, 10, 26, 27, 28, 47, 50, 53, 57] (L' := [(1, .string (a4)), (2, .string (a5)), (7, pt b8 0), (8, pt b9 0), (9, pt b12 0), (10, pt b30 0), (26, .slice p28 (x27).length c29), (27, vi ((x27).length : Int)), (28, vi y83), (47, vb false), (50, vb true), (53, vi (IntKind.i64.wrap (y83 - 1))), (57, pt b91 0)]) (listed' := (bitA 29 18612223)) (fuel := 8) hF (hS.sx [0, 1, 2, 3, 4, 6] [0, 1]) (by kernel_rfl) (by intro c a w t v h; cases t <;> exact h) (by kernel_rfl) rfl fun a hF => ?_
 refine atk 18 (some 51) hF (hS.sx [0, 1, 2, 3, 4, 6] [0, 1]) rfl (vld 1 0 0) fun a hF => ?_
 refine bind_split hv94 (fun x95 hx95 hv94 => ?_)
 obtain ⟨b96, f97, hpx95⟩ := hS.ptr 1 rfl hx95
 refine atk 21 (some 54) hF (hS.sx [0, 1, 2, 3, 4, 6] [0, 1]) rfl (fun w _ => val_index (E := 37) (sz := 6) rfl hpx95 rfl (by kernel_rfl) rfl hx95 (by kernel_rfl) (by kernel_rfl) w) fun a hF => ?_
 refine any_pure [22] [1, 2, 7, 8, 9, 10, 26, 27, 28, 47, 50, 55, 57] (L' := [(1, .string (a4)), (2, .string (a5)), (7, pt b8 0), (8, pt b9 0), (9, pt b12 0), (10, pt b30 0), (26, .slice p28 (x27).length c29), (27, vi ((x27).length : Int)), (28, vi y83), (47, vb false), (50, vb true), (55, .pointer (some ⟨b96, (f97 + Int.toNat (IntKind.i64.wrap (y83 - 1)) * 6), none⟩)), (57, pt b91 0)]) (listed' := (bitA 29 25165823)) (fuel := 5) hF (hS.sx [0, 1, 2, 3, 4, 6] [0, 1]) (by kernel_rfl) (by intro c a w t v h; cases t <;> exact h) (by kernel_rfl) rfl fun a hF => ?_
 refine atk 23 (some 56) hF (hS.sx [0, 1, 2, 3, 4, 6] [0, 1]) rfl (val_loadRo (t := f_api_Ver) 1 0 (v := .string (x95.Key)) rfl rfl hpx95 rfl hx95 (by kernel_rfl) (by kernel_rfl) (by kernel_rfl)) fun a hF => ?_
 refine atk 25 (some 58) hF (hS.sx [0, 1, 2, 3, 4, 6] [0, 1]) rfl (vld 0 0 0) fun a hF => ?_
 refine anp [26, 27, 28] [1, 2, 7, 8, 9, 10, 26, 27, 28, 61] hF (hS.sx [0, 1, 2, 3, 4, 6] [0, 1]) fun a hF => ?_
 refine and_ ?_
 cases hv94
 exact ⟨_, hF.kp [1, 2, 7, 8, 9, 10, 26, 27, 28, 61], hS.sp [1, 2, 3, 4, 5, 6] [0, 1], trivial⟩
 have hF := hF.boolv 50 (by kernel_rfl) hb
 refine anp [18, 19, 20, 21, 22, 23, 24, 25, 26, 27, 28] [1, 2, 7, 8, 9, 10, 26, 27, 28, 61] hF (hS.sx [0, 1, 2, 3, 4, 6] [0, 1]) fun a hF => ?_
 refine and_ ?_
 cases hv94
 exact ⟨_, hF.kp [1, 2, 7, 8, 9, 10, 26, 27, 28, 61], hS.sp [1, 2, 3, 4, 5, 6] [0, 1], trivial⟩
 have hF := hF.boolv 40 (by kernel_rfl) hb
 refine anp [8, 9, 10, 11, 12, 13, 14, 15, 16, 17] [1, 2, 7, 8, 9, 10, 11, 12, 26, 27, 28, 47, 50] hF (hS.sx [0, 1, 2, 3, 4, 6] [0, 1]) fun a hF => ?_
 refine bif_split hv94 (fun hb hv94 => ?_) (fun hb hv94 => ?_)
 have hF := hF.boolv 50 (by kernel_rfl) hb
 refine any_pure [19, 20, 24] [1, 2, 7, 8, 9, 10, 26, 27, 28, 47, 50, 53, 57] (L' := [(1, .string (a4)), (2, .string (a5)), (7, pt b8 0), (8, pt b9 0), (9, pt b12 0), (10, pt b30 0), (26, .slice p28 (x27).length c29), (27, vi ((x27).length : Int)), (28, vi y83), (47, vb false), (50, vb true), (53, vi (IntKind.i64.wrap (y83 - 1))), (57, pt b91 0)]) (listed' := (bitA 29 18612223)) (fuel := 8) hF (hS.sx [0, 1, 2, 3, 4, 6] [0, 1]) (by kernel_rfl) (by intro c a w t v h; cases t <;> exact h) (by kernel_rfl) rfl fun a hF => ?_
 refine atk 18 (some 51) hF (hS.sx [0, 1, 2, 3, 4, 6] [0, 1]) rfl (vld 1 0 0) fun a hF => ?_
 refine bind_split hv94 (fun x98 hx98 hv94 => ?_)
 obtain ⟨b99, f100, hpx98⟩ := hS.ptr 1 rfl hx98
 refine atk 21 (some 54) hF (hS.sx [0, 1, 2, 3, 4, 6] [0, 1]) rfl (fun w _ => val_index (E := 37) (sz := 6) rfl hpx98 rfl (by kernel_rfl) rfl hx98 (by kernel_rfl) (by kernel_rfl) w) fun a hF => ?_
 refine any_pure [22] [1, 2, 7, 8, 9, 10, 26, 27, 28, 47, 50, 55, 57] (L' := [(1, .string (a4)), (2, .string (a5)), (7, pt b8 0), (8, pt b9 0), (9, pt b12 0), (10, pt b30 0), (26, .slice p28 (x27).length c29), (27, vi ((x27).length : Int)), (28, vi y83), (47, vb false), (50, vb true), (55, .pointer (some ⟨b99, (f100 + Int.toNat (IntKind.i64.wrap (y83 - 1)) * 6), none⟩)), (57, pt b91 0)]) (listed' := (bitA 29 25165823)) (fuel := 5) hF (hS.sx [0, 1, 2, 3, 4, 6] [0, 1]) (by kernel_rfl) (by intro c a w t v h; cases t <;> exact h) (by kernel_rfl) rfl fun a hF => ?_
 refine atk 23 (some 56) hF (hS.sx [0, 1, 2, 3, 4, 6] [0, 1]) rfl (val_loadRo (t := f_api_Ver) 1 0 (v := .string (x98.Key)) rfl rfl hpx98 rfl hx98 (by kernel_rfl) (by kernel_rfl) (by kernel_rfl)) fun a hF => ?_
 refine atk 25 (some 58) hF (hS.sx [0, 1, 2, 3, 4, 6] [0, 1]) rfl (vld 0 0 0) fun a hF => ?_
 refine anp [26, 27, 28] [1, 2, 7, 8, 9, 10, 26, 27, 28, 61] hF (hS.sx [0, 1, 2, 3, 4, 6] [0, 1]) fun a hF => ?_
 refine and_ ?_
 cases hv94
 exact ⟨_, hF.kp [1, 2, 7, 8, 9, 10, 26, 27, 28, 61], hS.sp [1, 2, 3, 4, 5, 6] [0, 1], trivial⟩
 have hF := hF.boolv 50 (by kernel_rfl) hb
 refine anp [18, 19, 20, 21, 22, 23, 24, 25, 26, 27, 28] [1, 2, 7, 8, 9, 10, 26, 27, 28, 61] hF (hS.sx [0, 1, 2, 3, 4, 6] [0, 1]) fun a hF => ?_
 refine and_ ?_
 cases hv94
 exact ⟨_, hF.kp [1, 2, 7, 8, 9, 10, 26, 27, 28, 61], hS.sp [1, 2, 3, 4, 5, 6] [0, 1], trivial⟩
 rintro a w ⟨κ, hF, hS, -⟩
 refine hK92 _ _ ?_
 refine bif_split H (fun hb H => ?_) (fun hb H => ?_)
 refine cond_t hF (by kernel_rfl) hb ?_
 refine wpIn_seq_k fun K101 hK101 => ?_
 refine wpIn_region_lit ?_
 refine wc (wst hF hS 2 0 1 [sb false] (sgN 1 sgNil) fun a w hF hS => ?_)
 refine wpListIn_nil ?_
 refine hK101 _ _ ?_
 refine wpIn_ret ?_
 have hS' := hS
 cases H
 exact (ret_done0 hF hS (res1 Try.results8 (rvc hF hS' 2 0 0)) ⟨rfl, (hS.pick [] (by kernel_rfl)).ro, hS.newC [] (by decide) (by kernel_rfl)⟩)
 refine cond_f hF (by kernel_rfl) hb ?_
 refine wpIn_skip ?_
 refine hK86 _ _ ?_
 refine wpIn_region_lit ?_
 refine wp 2 [1, 2, 7, 8, 9, 10, 26, 27, 28] hF fun a hF => ?_
 refine wpListIn_nil ?_
 exact ⟨fuel1, Nat.lt_succ_self _, _, IntKind.i64.wrap (y83 + 1), hF.kp [1, 2, 7, 8, 9, 10, 26, 27, 28], hS.sp (rg 6) [0, 1], H⟩
 refine cond_f hF (by kernel_rfl) hb ?_
 refine wpIn_exit ?_
 refine hK31 _ _ ?_
 refine wpIn_seq_k fun K102 hK102 => ?_
 refine wpIn_region_lit ?_
 refine wc (wal hF hS [si 0] (sgN 1 sgNil) fun b103 a w hF hS => ?_)
 refine wc (wst hF hS 0 0 1 [si 0] (sgN 1 sgNil) fun a w hF hS => ?_)
 refine wpListIn_nil ?_
 refine hK102 _ _ ?_
 refine seq_join (fun a w => ∃ (κ : Gh) (y104 : Int) (b105 : Nat), Fr (104) [mark b105] [(7, pt b8 0), (8, pt b9 0), (9, pt b12 0), (10, pt b30 0), (13, pt b103 0)] a ∧ SS [] κ0 w0 κ w [.box b103 3 [si y104], .box b30 39 [sl p28 (x27).length c29], .box b9 4 [sb false], .box b8 3 [si a6], .box b12 130 [(1, [.map p23]), su x22.2.floor], .tok p28 37 6 (x27).length c29, .ext (objX p23 (.map m24 c25)), .ext (defX b105)] [Map.mp kStr false (tSl f_api_Ver.ty) p23 m24 c25 x22.2.chains, Ro.mp f_api_Ver.ty p28 c29 x27] ∧ M.law10_StoreSpans_k2 N a6 x22 x27 y104 = some r) ?_ ?_
 refine wpIn_seq_k fun K115 hK115 => ?_
 refine wpIn_region_lit ?_
 refine wl_pure (L' := [(7, pt b8 0), (8, pt b9 0), (9, pt b12 0), (10, pt b30 0), (13, pt b103 0), (63, pt b12 0), (64, .string (a4)), (65, .string (a5))]) 3 [7, 8, 9, 10, 13, 63, 64, 65] hF (by kernel_rfl) fun a hF => ?_
 refine bind_split H (fun x116 hx116 H => ?_)
 refine wc (wcS 2 [2, 6, 0, 1, 3, 4, 5] hF hS (fun hS => C_store_Store_All N (T_store_Store.mk x22.2.chains x22.2.floor) a4 a5 p23 m24 c25 b12 ⟨rfl, hS.pick [0] (by kernel_rfl)⟩ hx116) ?_)
 rintro _ κ w a ⟨b117, b118, b119, rfl, h2⟩ hF hB
 have hS := hB _ _ h2
 refine wpListIn_nil ?_
 refine hK115 _ _ ?_
 refine wpIn_block ?_
 refine bind_split H (fun v185 hv185 H => ?_)
 have hS : SS [] κ0 w0 _ _ [.box b103 3 [si 0], .box b30 39 [sl p28 (x27).length c29], .box b9 4 [sb false], .box b8 3 [si a6], .tok p28 37 6 (x27).length c29, .box b117 55 [(1, [pt b12 0])], .box b118 9 [sg a4], .box b119 9 [sg a5], .box b12 130 [(1, [.map p23]), su x22.2.floor], .ext (objX p23 (.map m24 c25))] _ := hS.selp [5, 6, 7, 8, 9, 2, 3, 4, 0, 1] (by decide) (by kernel_rfl)
 refine wp_rangeC' (C := [.box b103 3 [si 0], .box b30 39 [sl p28 (x27).length c29], .box b9 4 [sb false], .box b8 3 [si a6], .tok p28 37 6 (x27).length c29]) (Cap := [.box b117 55 [(1, [pt b12 0])], .box b118 9 [sg a4], .box b119 9 [sg a5], .box b12 130 [(1, [.map p23]), su x22.2.floor], .ext (objX p23 (.map m24 c25))]) (Cap2 := [.box b117 55 [(1, [pt b12 0])], .box b118 9 [sg a4], .box b119 9 [sg a5], .box b12 130 [(1, [.map p23]), su x22.2.floor], .ext (objX p23 (.map m24 c25))]) (Rc := [Map.mp kStr false (tSl f_api_Ver.ty) p23 m24 c25 x22.2.chains]) (R' := [Map.mp kStr false (tSl f_api_Ver.ty) p23 m24 c25 x22.2.chains, Ro.mp f_api_Ver.ty p28 c29 x27]) (caps := #[pt b117 0, pt b118 0, pt b119 0]) (f := 79) [.exit 2, .ret] (fun l => #[.func (.yield l) #[] #[], pt b117 0, pt b118 0, pt b119 0]) hF hS (by kernel_rfl) (fun _ _ => rfl) ((hS.pick [0, 1] (by kernel_rfl)).ro) (fun l => by kernel_rfl) fun b120 l rc w hrc hS => ?_
 refine ⟨fun x => (fun (v173 : (Int × Nat)) (x : XF) => x = mkX b120 l (lp rc [.exit 2, .ret] v173.2) [.box b103 3 [si v173.1], .box b30 39 [sl p28 (x27).length c29], .box b9 4 [sb false], .box b8 3 [si a6], .tok p28 37 6 (x27).length c29] [Map.mp kStr false (tSl f_api_Ver.ty) p23 m24 c25 x22.2.chains, Ro.mp f_api_Ver.ty p28 c29 x27]) v185 x, ?_, ?_⟩
 have hS := (hS.rebase.add (m := MP.const ((fun (v173 : (Int × Nat)) (x : XF) => x = mkX b120 l (lp rc [.exit 2, .ret] v173.2) [.box b103 3 [si v173.1], .box b30 39 [sl p28 (x27).length c29], .box b9 4 [sb false], .box b8 3 [si a6], .tok p28 37 6 (x27).length c29] [Map.mp kStr false (tSl f_api_Ver.ty) p23 m24 c25 x22.2.chains, Ro.mp f_api_Ver.ty p28 c29 x27]) (0, 0) (mkX b120 l (lp rc [.exit 2, .ret] 0) [.box b103 3 [si 0], .box b30 39 [sl p28 (x27).length c29], .box b9 4 [sb false], .box b8 3 [si a6], .tok p28 37 6 (x27).length c29] [Map.mp kStr false (tSl f_api_Ver.ty) p23 m24 c25 x22.2.chains, Ro.mp f_api_Ver.ty p28 c29 x27]))) rfl).pick (R' := [Map.mp kStr false (tSl f_api_Ver.ty) p23 m24 c25 x22.2.chains, MP.const ((fun (v173 : (Int × Nat)) (x : XF) => x = mkX b120 l (lp rc [.exit 2, .ret] v173.2) [.box b103 3 [si v173.1], .box b30 39 [sl p28 (x27).length c29], .box b9 4 [sb false], .box b8 3 [si a6], .tok p28 37 6 (x27).length c29] [Map.mp kStr false (tSl f_api_Ver.ty) p23 m24 c25 x22.2.chains, Ro.mp f_api_Ver.ty p28 c29 x27]) (0, 0) (mkX b120 l (lp rc [.exit 2, .ret] 0) [.box b103 3 [si 0], .box b30 39 [sl p28 (x27).length c29], .box b9 4 [sb false], .box b8 3 [si a6], .tok p28 37 6 (x27).length c29] [Map.mp kStr false (tSl f_api_Ver.ty) p23 m24 c25 x22.2.chains, Ro.mp f_api_Ver.ty p28 c29 x27]))]) [1, 0] (by kernel_rfl)
 refine C_store_Store_All_1 N (Y := (fun (v173 : (Int × Nat)) (x : XF) => x = mkX b120 l (lp rc [.exit 2, .ret] v173.2) [.box b103 3 [si v173.1], .box b30 39 [sl p28 (x27).length c29], .box b9 4 [sb false], .box b8 3 [si a6], .tok p28 37 6 (x27).length c29] [Map.mp kStr false (tSl f_api_Ver.ty) p23 m24 c25 x22.2.chains, Ro.mp f_api_Ver.ty p28 c29 x27])) (B := (fun (v173 : (Int × Nat)) x121 => bif (v173.2 == 0) then (bif (v173.1 == a6) then (some (((v173.1, 1)), false)) else (Option.bind (bif decide (v173.1 ≥ ((x27).length : Int)) then (some true) else (Option.bind (idx x27 v173.1) fun x181 => (some (!(cEq (flat [sg x121.Key, sg x121.Val, sb x121.Gone, su x121.TS, si x121.DC, si x121.Tx]) (flat [sg x181.Key, sg x181.Val, sb x181.Gone, su x181.TS, si x181.DC, si x181.Tx])))))) fun v180 => (bif v180 then (some (((v173.1, 2)), false)) else (some (((IntKind.i64.wrap (v173.1 + 1), 0)), true))))) else none)) (l := l) ?_ (T_store_Store.mk x22.2.chains x22.2.floor) a4 a5 b12 p23 m24 c25 hS hv185
 rintro v173 _ κ w x121  s' c rfl hp hf hnd hlt hR H
 refine bif_split H (fun hn H => ?_) (fun _ H => by cases H)
 refine round_at (L := [(7, pt b8 0), (8, pt b9 0), (9, pt b12 0), (10, pt b30 0), (13, pt b103 0), (67, .agg (flat [sg x121.Key, sg x121.Val, sb x121.Gone, su x121.TS, si x121.DC, si x121.Tx]).toArray)]) hp hf hnd hlt hn hrc rfl [7, 8, 9, 10, 13, 67] hF (by kernel_rfl) (by kernel_rfl) fun a hF hS => ?_
 have hS := hS.adds hR
 skip
 refine wpIn_region_lit ?_
 refine wc (wal hF hS [sg ByteArray.empty, sg ByteArray.empty, sb false, su 0, si 0, si 0] (sgN 6 sgNil) fun b174 a w hF hS => ?_)
 refine wc (wst hF hS 0 0 6 [sg x121.Key, sg x121.Val, sb x121.Gone, su x121.TS, si x121.DC, si x121.Tx] (sgN 6 sgNil) fun a w hF hS => ?_)
 refine wpListIn_nil ?_
 refine ⟨_, _, _, hS, fun wb hS => ?_⟩
 obtain ⟨κb, hκb⟩ : ∃ κb, κb = κ := ⟨_, rfl⟩
 subst hκb
 refine wpIn_block ?_
 refine wpIn_seq_k fun K175 hK175 => ?_
 refine wpIn_seq_k fun K176 hK176 => ?_
 refine wpIn_region_lit ?_
 refine wc (wld hF hS 1 0 0 fun a hF => ?_)
 refine wc (wld hF hS 4 0 0 fun a hF => ?_)
 refine wl_pure (L' := [(7, pt b8 0), (8, pt b9 0), (9, pt b12 0), (10, pt b30 0), (13, pt b103 0), (14, pt b174 0), (70, vb (v173.1 == a6))]) 1 [7, 8, 9, 10, 13, 14, 70] hF (by kernel_rfl) fun a hF => ?_
 refine wpListIn_nil ?_
 refine hK176 _ _ ?_
 refine bif_split H (fun hb H => ?_) (fun hb H => ?_)
 refine cond_t hF (by kernel_rfl) hb ?_
 refine wpIn_exit ?_
 cases H
 try dsimp only [Exit.inBlock, Exit.then]
 repeat rw [if_neg (by decide)]
 refine re_exit [.exit 2, .ret] 0 rfl (C := [.box b103 3 [si v173.1], .box b30 39 [sl p28 (x27).length c29], .box b9 4 [sb false], .box b8 3 [si a6], .tok p28 37 6 (x27).length c29]) (R := [Map.mp kStr false (tSl f_api_Ver.ty) p23 m24 c25 x22.2.chains, Ro.mp f_api_Ver.ty p28 c29 x27]) (hS.sp [1, 2, 3, 4, 5] [0, 1]) ?_
 exact rfl
 refine cond_f hF (by kernel_rfl) hb ?_
 refine wpIn_skip ?_
 refine hK175 _ _ ?_
 refine wpIn_seq_k fun K177 hK177 => ?_
 refine wpIn_seq_k fun K178 hK178 => ?_
 refine bind_split H (fun v180 hv180 H => ?_)
 refine code_join (fun a w => ∃ κ : Gh, Fr (104) [] [(7, pt b8 0), (8, pt b9 0), (9, pt b12 0), (10, pt b30 0), (13, pt b103 0), (82, vb v180)] a ∧ SS (blksOf [.box b174 37 [sg x121.Key, sg x121.Val, sb x121.Gone, su x121.TS, si x121.DC, si x121.Tx], .box b103 3 [si v173.1], .box b30 39 [sl p28 (x27).length c29], .box b9 4 [sb false], .box b8 3 [si a6], .tok p28 37 6 (x27).length c29]) κb wb κ w [.box b103 3 [si v173.1], .box b30 39 [sl p28 (x27).length c29], .box b9 4 [sb false], .box b8 3 [si a6], .tok p28 37 6 (x27).length c29] [Map.mp kStr false (tSl f_api_Ver.ty) p23 m24 c25 x22.2.chains, Ro.mp f_api_Ver.ty p28 c29 x27] ∧ True) ?_ ?_
 refine rgS hS [] ?_
 have hS := hS.drew
 refine atk 0 (some 71) hF (hS.sx (rg 5) [0, 1]) rfl (vld 1 0 0) fun a hF => ?_
 refine atk 1 (some 72) hF (hS.sx (rg 5) [0, 1]) rfl (vld 2 0 0) fun a hF => ?_
 refine any_pure [2, 3, 4] [7, 8, 9, 10, 13, 14, 75] (L' := [(7, pt b8 0), (8, pt b9 0), (9, pt b12 0), (10, pt b30 0), (13, pt b103 0), (14, pt b174 0), (75, vb (decide (v173.1 ≥ ((x27).length : Int))))]) (listed' := (bitA 12 31)) (fuel := 7) hF (hS.sx (rg 5) [0, 1]) (by kernel_rfl) (by intro c a w t v h; cases t <;> exact h) (by kernel_rfl) rfl fun a hF => ?_
 refine bif_split hv180 (fun hb hv180 => ?_) (fun hb hv180 => ?_)
 have hF := hF.boolv 75 (by kernel_rfl) hb
 refine anp [5, 6, 7, 8, 9, 10, 11] [7, 8, 9, 10, 13, 82] hF (hS.sx (rg 5) [0, 1]) fun a hF => ?_
 refine and_ ?_
 cases hv180
 exact ⟨_, hF.kp [7, 8, 9, 10, 13, 82], hS.sp [1, 2, 3, 4, 5] [0, 1], trivial⟩
 have hF := hF.boolv 75 (by kernel_rfl) hb
 refine atk 5 (some 76) hF (hS.sx (rg 5) [0, 1]) rfl (vls 0 0 6) fun a hF => ?_
 refine atk 6 (some 77) hF (hS.sx (rg 5) [0, 1]) rfl (vld 2 0 0) fun a hF => ?_
 refine atk 7 (some 78) hF (hS.sx (rg 5) [0, 1]) rfl (vld 1 0 0) fun a hF => ?_
 refine bind_split hv180 (fun x181 hx181 hv180 => ?_)
 obtain ⟨b182, f183, hpx181⟩ := hS.ptr 1 rfl hx181
 refine atk 8 (some 79) hF (hS.sx (rg 5) [0, 1]) rfl (fun w _ => val_index (E := 37) (sz := 6) rfl hpx181 rfl (by kernel_rfl) rfl hx181 (by kernel_rfl) (by kernel_rfl) w) fun a hF => ?_
 refine atk 9 (some 80) hF (hS.sx (rg 5) [0, 1]) rfl (val_loadRoAgg (t := f_api_Ver) 1 rfl rfl hpx181 rfl hx181 (by kernel_rfl) (by kernel_rfl) (by kernel_rfl)) fun a hF => ?_
 refine atk 10 (some 81) hF (hS.sx (rg 5) [0, 1]) rfl (fun w _ => (val_eq (neg := true) (xs := (flat [sg x121.Key, sg x121.Val, sb x121.Gone, su x121.TS, si x121.DC, si x121.Tx])) (ys := (flat [sg x181.Key, sg x181.Val, sb x181.Gone, su x181.TS, si x181.DC, si x181.Tx])) (ks := [.str, .str, .bool, .int .u64, .int .i64, .int .i64]) 20 (by decide) rfl (by kernel_rfl) (by kernel_rfl) (by kernel_rfl) (by kernel_rfl) (by kernel_rfl) (by kernel_rfl) (by kernel_rfl)) w) fun a hF => ?_
 refine anp [11] [7, 8, 9, 10, 13, 82] hF (hS.sx (rg 5) [0, 1]) fun a hF => ?_
 refine and_ ?_
 cases hv180
 exact ⟨_, hF.kp [7, 8, 9, 10, 13, 82], hS.sp [1, 2, 3, 4, 5] [0, 1], trivial⟩
 rintro a w ⟨κ, hF, hS, -⟩
 refine hK178 _ _ ?_
 refine bif_split H (fun hb H => ?_) (fun hb H => ?_)
 refine cond_t hF (by kernel_rfl) hb ?_
 refine wpIn_seq_k fun K184 hK184 => ?_
 refine wpIn_region_lit ?_
 refine wc (wst hF hS 2 0 1 [sb false] (sgN 1 sgNil) fun a w hF hS => ?_)
 refine wpListIn_nil ?_
 refine hK184 _ _ ?_
 refine wpIn_ret ?_
 cases H
 try dsimp only [Exit.inBlock, Exit.then]
 repeat rw [if_neg (by decide)]
 refine re_ret [.exit 2, .ret] 1 rfl (C := [.box b103 3 [si v173.1], .box b30 39 [sl p28 (x27).length c29], .box b9 4 [sb false], .box b8 3 [si a6], .tok p28 37 6 (x27).length c29]) (R := [Map.mp kStr false (tSl f_api_Ver.ty) p23 m24 c25 x22.2.chains, Ro.mp f_api_Ver.ty p28 c29 x27]) (hS.sp (rg 5) [0, 1]) ?_
 exact rfl
 refine cond_f hF (by kernel_rfl) hb ?_
 refine wpIn_skip ?_
 refine hK177 _ _ ?_
 refine wpIn_region_lit ?_
 refine wc (wld hF hS 0 0 0 fun a hF => ?_)
 refine wl_pure (L' := [(7, pt b8 0), (8, pt b9 0), (9, pt b12 0), (10, pt b30 0), (13, pt b103 0), (84, vi (IntKind.i64.wrap (v173.1 + 1)))]) 1 [7, 8, 9, 10, 13, 84] hF (by kernel_rfl) fun a hF => ?_
 refine wc (wst hF hS 0 0 1 [si (IntKind.i64.wrap (v173.1 + 1))] (sgN 1 sgNil) fun a w hF hS => ?_)
 refine wpListIn_nil ?_
 cases H
 try dsimp only [Exit.inBlock, Exit.then]
 repeat rw [if_neg (by decide)]
 refine re_normal [.exit 2, .ret] (C := [.box b103 3 [si (IntKind.i64.wrap (v173.1 + 1))], .box b30 39 [sl p28 (x27).length c29], .box b9 4 [sb false], .box b8 3 [si a6], .tok p28 37 6 (x27).length c29]) (R := [Map.mp kStr false (tSl f_api_Ver.ty) p23 m24 c25 x22.2.chains, Ro.mp f_api_Ver.ty p28 c29 x27]) (hS.sp (rg 5) [0, 1]) ?_
 exact rfl
 rintro _ rfl
 refine ⟨_, _, _, rfl, fun κ w a hF hS => ?_⟩
 refine bif_split H (fun hb H => ?_) (fun hb H => ?_)
 refine jumped0 hb ?_
 exact ⟨_, v185.1, b120, hF.kp [7, 8, 9, 10, 13], hS.sp [1, 2, 3, 4, 9, 5, 10, 0] [0, 1], H⟩
 refine bif_split H (fun hb H => ?_) (fun hb H => ?_)
 refine jumpedS 0 hb rfl ?_
 refine wpIn_exit ?_
 exact ⟨_, v185.1, b120, hF.kp [7, 8, 9, 10, 13], hS.sp [1, 2, 3, 4, 9, 5, 10, 0] [0, 1], H⟩
 refine bif_split H (fun hb H => ?_) (fun hb H => ?_)
 refine jumpedS 1 hb rfl ?_
 refine wpIn_ret ?_
 refine ret_doneM (C' := [.box b103 3 [si v185.1], .box b30 39 [sl p28 (x27).length c29], .box b9 4 [sb false], .box b8 3 [si a6], .tok p28 37 6 (x27).length c29, .box b117 55 [(1, [pt b12 0])], .box b118 9 [sg a4], .box b119 9 [sg a5], .box b12 130 [(1, [.map p23]), su x22.2.floor], .ext (objX p23 (.map m24 c25))]) hF hS 0 rfl (by kernel_rfl) fun w hS => ?_
 cases H
 exact ⟨_, (res1 Try.results8 (rvc hF hS 2 0 0)), ⟨rfl, (hS.pick [] (by kernel_rfl)).ro, hS.newC [] (by decide) (by kernel_rfl)⟩⟩
 cases H
 rintro a w ⟨κ, y104, b105, hF, hS, H⟩
 unfold M.law10_StoreSpans_k2 at H
 refine wpIn_seq_k fun K106 hK106 => ?_
 refine bind_split H (fun v108 hv108 H => ?_)
 refine code_join (fun a w => ∃ κ : Gh, Fr (104) [mark b105] [(8, pt b9 0)] a ∧ SS [] κ0 w0 κ w [.box b9 4 [sb v108], .ext (defX b105)] [] ∧ True) ?_ ?_
 refine rgX hS [0, 1, 3, 4, 6, 7] ?_
 have hS := hS.drew
 refine bind_split hv108 (fun x109 hx109 hv108 => ?_)
 refine bif_split hv108 (fun hb110 hv108 => ?_) (fun hb110 hv108 => ?_)
 refine bif_split hv108 (fun hb111 hv108 => ?_) (fun hb111 hv108 => ?_)
 refine bind_split hv108 (fun x112 hx112 hv108 => ?_)
 refine ago 0 hF rfl ?_
 refine wo_callP hF hS (by kernel_rfl) (by kernel_rfl) (C_law10_awake N hS.fresh   ((hS.pick [] (by kernel_rfl)).ro) hx109) ?_
 rintro _ κ w a ⟨rfl, hR, hN⟩ hF hS hO
 refine ⟨fun _ => (hS.sx [0, 1, 3, 4, 6, 7] [0, 1]), ?_⟩
 refine anp [1] [7, 8, 9, 10, 13, 86] hF (hS.sx [0, 1, 3, 4, 6, 7] [0, 1]) fun a hF => ?_
 have hF := hF.boolv 86 (by kernel_rfl) hb110
 refine atk 2 (some 87) hF (hS.sx [0, 1, 3, 4, 6, 7] [0, 1]) rfl (vld 0 0 0) fun a hF => ?_
 refine atk 3 (some 88) hF (hS.sx [0, 1, 3, 4, 6, 7] [0, 1]) rfl (vld 2 0 0) fun a hF => ?_
 refine anp [4, 5] [8, 9, 10, 13, 86, 90] hF (hS.sx [0, 1, 3, 4, 6, 7] [0, 1]) fun a hF => ?_
 have hF := hF.boolv 90 (by kernel_rfl) hb111
 refine anp [6, 7, 8, 9, 10, 11, 12, 15] [8, 10, 97, 100] hF (hS.sx [0, 1, 3, 4, 6, 7] [0, 1]) fun a hF => ?_
 refine atk 13 (some 98) hF (hS.sx [0, 1, 3, 4, 6, 7] [0, 1]) rfl (vld 1 0 0) fun a hF => ?_
 refine anp [14] [8, 97, 99, 100] hF (hS.sx [0, 1, 3, 4, 6, 7] [0, 1]) fun a hF => ?_
 refine ago 16 hF rfl ?_
 refine wcS 2 [4, 6, 0, 1, 2, 3, 5, 7] hF hS (fun hS => C_store_Store_Len N (T_store_Store.mk x22.2.chains x22.2.floor) p23 m24 c25 b12 ⟨rfl, hS.pick [0] (by kernel_rfl)⟩ hx112) ?_
 rintro _ κ w a ⟨rfl, h2⟩ hF hB
 have hS := hB _ _ h2
 refine ⟨fun _ => (hS.sx [2, 3, 5, 0, 1, 7] [0, 1]), ?_⟩
 refine anp [17, 18] [8, 103] hF (hS.sx [2, 3, 5, 0, 1, 7] [0, 1]) fun a hF => ?_
 refine ago 19 hF rfl ?_
 refine wst hF hS 4 0 1 [sb (decide (((x27).length : Int) ≤ x112))] (sgN 1 sgNil) fun a w hF hS => ?_
 refine ⟨fun _ => (hS.sx [2, 3, 5, 0, 1, 7] [0, 1]), ?_⟩
 refine and_ ?_
 cases hv108
 exact ⟨_, hF.kp [8], hS.sp [4, 7] [], trivial⟩
 refine bif_split hv108 (fun hb113 hv108 => ?_) (fun hb113 hv108 => ?_)
 refine bind_split hv108 (fun x114 hx114 hv108 => ?_)
 refine ago 0 hF rfl ?_
 refine wo_callP hF hS (by kernel_rfl) (by kernel_rfl) (C_law10_awake N hS.fresh   ((hS.pick [] (by kernel_rfl)).ro) hx109) ?_
 rintro _ κ w a ⟨rfl, hR, hN⟩ hF hS hO
 refine ⟨fun _ => (hS.sx [0, 1, 3, 4, 6, 7] [0, 1]), ?_⟩
 refine anp [1] [7, 8, 9, 10, 13, 86] hF (hS.sx [0, 1, 3, 4, 6, 7] [0, 1]) fun a hF => ?_
 have hF := hF.boolv 86 (by kernel_rfl) hb110
 refine atk 2 (some 87) hF (hS.sx [0, 1, 3, 4, 6, 7] [0, 1]) rfl (vld 0 0 0) fun a hF => ?_
 refine atk 3 (some 88) hF (hS.sx [0, 1, 3, 4, 6, 7] [0, 1]) rfl (vld 2 0 0) fun a hF => ?_
 refine anp [4, 5] [8, 9, 10, 13, 86, 90] hF (hS.sx [0, 1, 3, 4, 6, 7] [0, 1]) fun a hF => ?_
 have hF := hF.boolv 90 (by kernel_rfl) hb111
 refine atk 6 (some 91) hF (hS.sx [0, 1, 3, 4, 6, 7] [0, 1]) rfl (vld 0 0 0) fun a hF => ?_
 refine atk 7 (some 92) hF (hS.sx [0, 1, 3, 4, 6, 7] [0, 1]) rfl (vld 1 0 0) fun a hF => ?_
 refine anp [8, 9, 10, 11, 12] [8, 9, 10, 97] hF (hS.sx [0, 1, 3, 4, 6, 7] [0, 1]) fun a hF => ?_
 have hF := hF.boolv 97 (by kernel_rfl) hb113
 refine anp [15] [8, 10, 97, 100] hF (hS.sx [0, 1, 3, 4, 6, 7] [0, 1]) fun a hF => ?_
 refine atk 13 (some 98) hF (hS.sx [0, 1, 3, 4, 6, 7] [0, 1]) rfl (vld 1 0 0) fun a hF => ?_
 refine anp [14] [8, 97, 99, 100] hF (hS.sx [0, 1, 3, 4, 6, 7] [0, 1]) fun a hF => ?_
 refine ago 16 hF rfl ?_
 refine wcS 2 [4, 6, 0, 1, 2, 3, 5, 7] hF hS (fun hS => C_store_Store_Len N (T_store_Store.mk x22.2.chains x22.2.floor) p23 m24 c25 b12 ⟨rfl, hS.pick [0] (by kernel_rfl)⟩ hx114) ?_
 rintro _ κ w a ⟨rfl, h2⟩ hF hB
 have hS := hB _ _ h2
 refine ⟨fun _ => (hS.sx [2, 3, 5, 0, 1, 7] [0, 1]), ?_⟩
 refine anp [17, 18] [8, 103] hF (hS.sx [2, 3, 5, 0, 1, 7] [0, 1]) fun a hF => ?_
 refine ago 19 hF rfl ?_
 refine wst hF hS 4 0 1 [sb (decide (((x27).length : Int) ≤ x114))] (sgN 1 sgNil) fun a w hF hS => ?_
 refine ⟨fun _ => (hS.sx [2, 3, 5, 0, 1, 7] [0, 1]), ?_⟩
 refine and_ ?_
 cases hv108
 exact ⟨_, hF.kp [8], hS.sp [4, 7] [], trivial⟩
 refine ago 0 hF rfl ?_
 refine wo_callP hF hS (by kernel_rfl) (by kernel_rfl) (C_law10_awake N hS.fresh   ((hS.pick [] (by kernel_rfl)).ro) hx109) ?_
 rintro _ κ w a ⟨rfl, hR, hN⟩ hF hS hO
 refine ⟨fun _ => (hS.sx [0, 1, 3, 4, 6, 7] [0, 1]), ?_⟩
 refine anp [1] [7, 8, 9, 10, 13, 86] hF (hS.sx [0, 1, 3, 4, 6, 7] [0, 1]) fun a hF => ?_
 have hF := hF.boolv 86 (by kernel_rfl) hb110
 refine atk 2 (some 87) hF (hS.sx [0, 1, 3, 4, 6, 7] [0, 1]) rfl (vld 0 0 0) fun a hF => ?_
 refine atk 3 (some 88) hF (hS.sx [0, 1, 3, 4, 6, 7] [0, 1]) rfl (vld 2 0 0) fun a hF => ?_
 refine anp [4, 5] [8, 9, 10, 13, 86, 90] hF (hS.sx [0, 1, 3, 4, 6, 7] [0, 1]) fun a hF => ?_
 have hF := hF.boolv 90 (by kernel_rfl) hb111
 refine atk 6 (some 91) hF (hS.sx [0, 1, 3, 4, 6, 7] [0, 1]) rfl (vld 0 0 0) fun a hF => ?_
 refine atk 7 (some 92) hF (hS.sx [0, 1, 3, 4, 6, 7] [0, 1]) rfl (vld 1 0 0) fun a hF => ?_
 refine anp [8, 9, 10, 11, 12] [8, 9, 10, 97] hF (hS.sx [0, 1, 3, 4, 6, 7] [0, 1]) fun a hF => ?_
 have hF := hF.boolv 97 (by kernel_rfl) hb113
 refine anp [13, 14, 15, 16, 17, 18] [8, 103] hF (hS.sx [0, 1, 3, 4, 6, 7] [0, 1]) fun a hF => ?_
 refine ago 19 hF rfl ?_
 refine wst hF hS 2 0 1 [sb false] (sgN 1 sgNil) fun a w hF hS => ?_
 refine ⟨fun _ => (hS.sx [0, 1, 3, 4, 6, 7] [0, 1]), ?_⟩
 refine and_ ?_
 cases hv108
 exact ⟨_, hF.kp [8], hS.sp [2, 7] [], trivial⟩
 refine ago 0 hF rfl ?_
 refine wo_callP hF hS (by kernel_rfl) (by kernel_rfl) (C_law10_awake N hS.fresh   ((hS.pick [] (by kernel_rfl)).ro) hx109) ?_
 rintro _ κ w a ⟨rfl, hR, hN⟩ hF hS hO
 refine ⟨fun _ => (hS.sx [0, 1, 3, 4, 6, 7] [0, 1]), ?_⟩
 refine anp [1] [7, 8, 9, 10, 13, 86] hF (hS.sx [0, 1, 3, 4, 6, 7] [0, 1]) fun a hF => ?_
 have hF := hF.boolv 86 (by kernel_rfl) hb110
 refine anp [2, 3, 4, 5, 6, 7, 8, 9, 10, 11, 12, 13, 14, 15, 16, 17, 18] [8, 103] hF (hS.sx [0, 1, 3, 4, 6, 7] [0, 1]) fun a hF => ?_
 refine ago 19 hF rfl ?_
 refine wst hF hS 2 0 1 [sb false] (sgN 1 sgNil) fun a w hF hS => ?_
 refine ⟨fun _ => (hS.sx [0, 1, 3, 4, 6, 7] [0, 1]), ?_⟩
 refine and_ ?_
 cases hv108
 exact ⟨_, hF.kp [8], hS.sp [2, 7] [], trivial⟩
 rintro a w ⟨κ, hF, hS, -⟩
 refine hK106 _ _ ?_
 refine wpIn_ret ?_
 refine ret_doneM (C' := [.box b9 4 [sb v108]]) hF hS 1 rfl (by kernel_rfl) fun w hS => ?_
 cases H
 exact ⟨_, (res1 Try.results8 (rvc hF hS 0 0 0)), ⟨rfl, (hS.pick [] (by kernel_rfl)).ro, hS.newC [] (by decide) (by kernel_rfl)⟩⟩
end Go.Cf
