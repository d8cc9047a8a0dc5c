/- The walks: each function returns what its model says. Printed by a program of ours. -/
import Derived.Test.YteeafoagaaedcaaZMtO
import Derived.Test.YteeafoagaaedcaaZWs3
import Derived.Test.YteeafoagaaedcaaZWt1
import Derived.Test.YteeafoagaaedcaaZWt2
import Derived.Test.YteeafoagaaedcaaZWt4
namespace Go.Cf
open Go Go.Proofs
set_option linter.unusedVariables false
set_option maxRecDepth 20000 in
set_option maxHeartbeats 8000000 in
theorem C_law10_StoreOrder (N : Nat) {κ0 : Gh} {w0 : World} (hfr : Fresh κ0 w0) (a1 : (List T_api_Ver)) (a4 : (List (List Int))) (a7 : (List Int)) (a10 : ByteArray) (a11 : Int) (p2 : Option Addr) (c3 : Nat) (p5 : Option Addr) (c6 : Nat) (p8 : Option Addr) (c9 : Nat) (hR : ∀ m ∈ ([Ro.mp f_api_Ver.ty p2 c3 a1, Ro.mp tA68 p5 c6 a4, Ro.mp (fInt .u64).ty p8 c9 a7] : List MP), m.p κ0 w0) {r : (Bool)} (H : M.law10_StoreOrder N a1 a4 a7 a10 a11 = some r) :
    Calls Try.prog 9 #[.slice p2 (a1).length c3, .slice p5 (a4).length c6, .slice p8 (a7).length c9, .string (a10), vu a11] w0 (Post [] κ0 w0 fun v κ w => v = vb r ∧ (∀ m ∈ ([] : List MP), m.p κ w) ∧ NewC w0 κ w []) := by
 have hS := SS.start hfr hR
 refine enter (N := (169)) (L := [(0, .slice p2 (a1).length c3), (1, .slice p5 (a4).length c6), (2, .slice p8 (a7).length c9), (3, .string (a10)), (4, vu a11)]) Try.func9 rfl Try.ntmps9 (show 5 ≤ (169) by decide) rfl fun a hF => ?_
 unfold M.law10_StoreOrder at H
 refine wpIn_seq_k fun K12 hK12 => ?_
 refine wpIn_region_lit ?_
 refine wp 1 (rg 5) hF fun a hF => ?_
 refine wpListIn_nil ?_
 refine hK12 _ _ ?_
 refine wpIn_seq_k fun K13 hK13 => ?_
 refine wpIn_region_lit ?_
 refine wp 1 [1, 2, 3, 4, 29] hF fun a hF => ?_
 refine bind_split H (fun x14 hx14 H => ?_)
 refine wc (wo_callP hF hS (by kernel_rfl) (by kernel_rfl) (C_law10_few N hS.fresh a1 30 p2 c3 ((hS.pick [0] (by kernel_rfl)).ro) hx14) ?_)
 rintro _ κ w a ⟨p15, c16, rfl, hR, hN⟩ hF hS hO
 have hS := hS.adds hR
 refine bind_split H (fun x17 hx17 H => ?_)
 refine wc (wo_callP hF hS (by kernel_rfl) (by kernel_rfl) (C_law10_once N hS.fresh x14 p15 c16 ((hS.pick [0] (by kernel_rfl)).ro) hx17) ?_)
 rintro _ κ w a ⟨p18, c19, rfl, hR, hN⟩ hF hS hO
 have hS := hS.adds hR
 have hS := hS.addC hO hN
 refine wp 1 (rg 5) hF fun a hF => ?_
 refine wpListIn_nil ?_
 refine hK13 _ _ ?_
 refine wpIn_seq_k fun K20 hK20 => ?_
 refine wpIn_region_lit ?_
 refine bind_split H (fun x21 hx21 H => ?_)
 refine wc (wcS 0 [0] hF hS (fun hS => C_store_New N    ⟨rfl, hS.pick [] (by kernel_rfl)⟩ hx21) ?_)
 rintro _ κ w a ⟨b22, p23, m24, c25, rfl, h2⟩ hF hB
 have hS := hB _ _ h2
 refine bind_split H (fun x26 hx26 H => ?_)
 refine wc (wcS 0 [0, 1, 2] hF hS (fun hS => C_store_New N    ⟨rfl, hS.pick [] (by kernel_rfl)⟩ hx26) ?_)
 rintro _ κ w a ⟨b27, p28, m29, c30, rfl, h2⟩ hF hB
 have hS := (hB _ _ h2).cC (C' := [.box b27 130 [(1, [.map p28]), su x26.floor], .ext (objX p28 (.map m29 c30)), .box b22 130 [(1, [.map p23]), su x21.floor], .ext (objX p23 (.map m24 c25)), .tok p18 37 6 (x17).length c19])
 refine wp 2 [0, 1, 2, 3, 4, 11, 12] hF fun a hF => ?_
 refine wpListIn_nil ?_
 refine hK20 _ _ ?_
 refine wpIn_seq_k fun K31 hK31 => ?_
 refine wpIn_seq_k fun K32 hK32 => ?_
 refine wpIn_region_lit ?_
 refine wp 6 [0, 1, 2, 3, 4, 11, 12, 39] hF fun a hF => ?_
 refine wpListIn_nil ?_
 refine hK32 _ _ ?_
 refine cond_f hF (by kernel_rfl) rfl ?_
 refine wpIn_skip ?_
 refine hK31 _ _ ?_
 refine wpIn_seq_k fun K33 hK33 => ?_
 refine wpIn_region_lit ?_
 refine wp 1 [0, 1, 2, 3, 4, 11, 12, 13] hF fun a hF => ?_
 refine wpListIn_nil ?_
 refine hK33 _ _ ?_
 refine wpIn_seq_k fun K34 hK34 => ?_
 refine wpIn_seq_k fun K35 hK35 => ?_
 refine wpIn_region_lit ?_
 refine wp 3 [0, 1, 2, 3, 4, 11, 12, 13, 40, 41, 42] hF fun a hF => ?_
 refine wpListIn_nil ?_
 refine hK35 _ _ ?_
 refine wpIn_block ?_
 refine loop_fuel (n := N) (fun n a w => ∃ (κ : Gh) (y86 y87 : Int), Fr (169) [] [(0, .slice p18 (x17).length c19), (1, .slice p5 (a4).length c6), (2, .slice p8 (a7).length c9), (3, .string (a10)), (4, vu a11), (11, pt b22 0), (12, pt b27 0), (13, vu y86), (40, .slice p8 (a7).length c9), (41, vi ((a7).length : Int)), (42, vi y87)] a ∧ SS [] κ0 w0 κ w [.box b27 130 [(1, [.map p28]), su x26.floor], .box b22 130 [(1, [.map p23]), su x21.floor], .tok p18 37 6 (x17).length c19, .ext (objX p28 (.map m29 c30)), .ext (objX p23 (.map m24 c25))] [Ro.mp f_api_Ver.ty p18 c19 x17, Ro.mp tA68 p5 c6 a4, Ro.mp (fInt .u64).ty p8 c9 a7, Map.mp kStr false (tSl f_api_Ver.ty) p23 m24 c25 x21.chains, Map.mp kStr false (tSl f_api_Ver.ty) p28 m29 c30 x26.chains] ∧ M.law10_StoreOrder_L1 N n a4 a7 a10 a11 x17 x21 x26 y86 y87 = some r) ?_ ?_
 exact ⟨_, 0, 0, hF.kp [0, 1, 2, 3, 4, 11, 12, 13, 40, 41, 42], hS.sp [0, 2, 4, 1, 3] [2, 5, 6, 1, 0], H⟩
 rintro n a w ⟨κ, y86, y87, hF, hS, H⟩
 rcases n with _ | fuel1
 simp [M.law10_StoreOrder_L1] at H
 simp only [M.law10_StoreOrder_L1] at H
 refine wpIn_seq_k fun K88 hK88 => ?_
 refine wpIn_region_lit ?_
 refine wl_pure (L' := [(0, .slice p18 (x17).length c19), (1, .slice p5 (a4).length c6), (2, .slice p8 (a7).length c9), (3, .string (a10)), (4, vu a11), (11, pt b22 0), (12, pt b27 0), (13, vu y86), (40, .slice p8 (a7).length c9), (41, vi ((a7).length : Int)), (42, vi y87), (43, vb (decide (y87 < ((a7).length : Int))))]) 1 [0, 1, 2, 3, 4, 11, 12, 13, 40, 41, 42, 43] hF (by kernel_rfl) fun a hF => ?_
 refine wpListIn_nil ?_
 refine hK88 _ _ ?_
 refine wpIn_seq_k fun K89 hK89 => ?_
 refine bif_split H (fun hb H => ?_) (fun hb H => ?_)
 refine cond_t hF (by kernel_rfl) hb ?_
 refine wpIn_skip ?_
 refine hK89 _ _ ?_
 refine wpIn_seq_k fun K90 hK90 => ?_
 refine wpIn_block ?_
 refine wpIn_seq_k fun K91 hK91 => ?_
 refine wpIn_region_lit ?_
 refine bind_split H (fun x92 hx92 H => ?_)
 refine wc (wo_index hF hS (by kernel_rfl) 2 (E := 25) (sz := 1) rfl rfl rfl (by kernel_rfl) rfl hx92 (by kernel_rfl) (by kernel_rfl) fun b93 f94 a hpx92 hF => ?_)
 refine wc (wo_loadRo (t := (fInt .u64)) hF hS (by kernel_rfl) 2 0 (v := vu x92) rfl rfl hpx92 rfl hx92 (by kernel_rfl) (by kernel_rfl) (by kernel_rfl) fun a hF => ?_)
 refine wp 1 [0, 1, 2, 3, 4, 11, 12, 13, 15, 40, 41, 42] hF fun a hF => ?_
 refine wpListIn_nil ?_
 refine hK91 _ _ ?_
 refine wpIn_region_lit ?_
 refine wp 4 [0, 1, 2, 3, 4, 11, 12, 13, 40, 41, 42] hF fun a hF => ?_
 refine wpListIn_nil ?_
 refine hK90 _ _ ?_
 refine wpIn_region_lit ?_
 refine wp 2 [0, 1, 2, 3, 4, 11, 12, 13, 40, 41, 42] hF fun a hF => ?_
 refine wpListIn_nil ?_
 exact ⟨fuel1, Nat.lt_succ_self _, _, (if x92 > y86 then x92 else y86), IntKind.i64.wrap (y87 + 1), hF.kp [0, 1, 2, 3, 4, 11, 12, 13, 40, 41, 42], hS.sp (rg 5) (rg 5), H⟩
 refine cond_f hF (by kernel_rfl) hb ?_
 refine wpIn_exit ?_
 refine hK34 _ _ ?_
 refine wpIn_seq_k fun K95 hK95 => ?_
 refine wpIn_region_lit ?_
 refine snap hS fun κ97 w97 hR97 hf97 hw97 he97 hS => ?_
 refine wc (wo_build0F hF hS (by kernel_rfl) f_api_Ver.ty (E := 37) rfl (by kernel_rfl) (by kernel_rfl) fun p96 κ a w hn97 hF hS => ?_)
 have hS := hS.add (m := MP.old p96 w97) (fun a h => Nat.le_trans (Nat.le_of_eq he97) (hn97 a h))
 refine wl_pure (L' := [(0, .slice p18 (x17).length c19), (1, .slice p5 (a4).length c6), (2, .slice p8 (a7).length c9), (3, .string (a10)), (4, vu a11), (11, pt b22 0), (12, pt b27 0), (13, vu y86), (50, .slice p96 (([] : List T_api_Ver)).length 0), (51, .slice p18 (x17).length c19)]) 1 [0, 1, 2, 3, 4, 11, 12, 13, 50, 51] hF (by kernel_rfl) fun a hF => ?_
 refine bind_split H (fun x98 hx98 H => ?_)
 refine wc (wo_appendF (ty := f_api_Ver.ty) hF hS (by kernel_rfl) 0 1 3 2 0 rfl rfl rfl (by kernel_rfl) (by kernel_rfl) rfl rfl rfl rfl rfl hx98 (by kernel_rfl) (i := Try.t37) (z := .agg (flat [sg ByteArray.empty, sg ByteArray.empty, sb false, su 0, si 0, si 0]).toArray) (by kernel_rfl) (by kernel_rfl) (by kernel_rfl) fun p99 c100 κ a w hF hS => ?_)
 refine wp 1 [0, 1, 2, 3, 4, 11, 12, 13, 16] hF fun a hF => ?_
 refine wpListIn_nil ?_
 refine hK95 _ _ ?_
 refine wpIn_seq_k fun K101 hK101 => ?_
 refine wpIn_seq_k fun K102 hK102 => ?_
 refine wpIn_region_lit ?_
 refine wp 3 [0, 2, 3, 4, 11, 12, 13, 16, 53, 54, 55] hF fun a hF => ?_
 refine wpListIn_nil ?_
 refine hK102 _ _ ?_
 refine wpIn_block ?_
 refine loop_fuel (n := N) (fun n a w => ∃ (κ : Gh) (y153 : List T_api_Ver) (y154 : Int), Fr (169) [] [(0, .slice p18 (x17).length c19), (2, .slice p8 (a7).length c9), (3, .string (a10)), (4, vu a11), (11, pt b22 0), (12, pt b27 0), (13, vu y86), (16, .slice p99 (y153).length c100), (53, .slice p5 (a4).length c6), (54, vi ((a4).length : Int)), (55, vi y154)] a ∧ SS [] κ0 w0 κ w [.box b27 130 [(1, [.map p28]), su x26.floor], .box b22 130 [(1, [.map p23]), su x21.floor], .tok p99 37 6 (y153).length c100, .tok p18 37 6 (x17).length c19, .ext (objX p28 (.map m29 c30)), .ext (objX p23 (.map m24 c25))] [Ro.mp f_api_Ver.ty p18 c19 x17, Ro.mp (fInt .u64).ty p8 c9 a7, Map.mp kStr false (tSl f_api_Ver.ty) p23 m24 c25 x21.chains, Map.mp kStr false (tSl f_api_Ver.ty) p28 m29 c30 x26.chains, Ro.mp f_api_Ver.ty p99 c100 y153, Ro.mp tA68 p5 c6 a4, MP.since κ97 w97, MP.old p99 w97] ∧ M.law10_StoreOrder_L2 N n a4 a7 a10 a11 x17 x21 x26 y86 y153 y154 = some r) ?_ ?_
 exact ⟨_, x98, 0, hF.kp [0, 2, 3, 4, 11, 12, 13, 16, 53, 54, 55], hS.sp [1, 2, 0, 3, 4, 5] [5, 7, 8, 9, 0, 6, 4, 1], H⟩
 rintro n a w ⟨κ, y153, y154, hF, hS, H⟩
 rcases n with _ | fuel2
 simp [M.law10_StoreOrder_L2] at H
 simp only [M.law10_StoreOrder_L2] at H
 refine wpIn_seq_k fun K155 hK155 => ?_
 refine wpIn_region_lit ?_
 refine wl_pure (L' := [(0, .slice p18 (x17).length c19), (2, .slice p8 (a7).length c9), (3, .string (a10)), (4, vu a11), (11, pt b22 0), (12, pt b27 0), (13, vu y86), (16, .slice p99 (y153).length c100), (53, .slice p5 (a4).length c6), (54, vi ((a4).length : Int)), (55, vi y154), (56, vb (decide (y154 < ((a4).length : Int))))]) 1 [0, 2, 3, 4, 11, 12, 13, 16, 53, 54, 55, 56] hF (by kernel_rfl) fun a hF => ?_
 refine wpListIn_nil ?_
 refine hK155 _ _ ?_
 refine wpIn_seq_k fun K156 hK156 => ?_
 refine bif_split H (fun hb H => ?_) (fun hb H => ?_)
 refine cond_t hF (by kernel_rfl) hb ?_
 refine wpIn_skip ?_
 refine hK156 _ _ ?_
 refine seq_join (fun a w => ∃ (κ : Gh) (y157 : List T_api_Ver), Fr (169) [] [(0, .slice p18 (x17).length c19), (2, .slice p8 (a7).length c9), (3, .string (a10)), (4, vu a11), (11, pt b22 0), (12, pt b27 0), (13, vu y86), (16, .slice p99 (y157).length c100), (53, .slice p5 (a4).length c6), (54, vi ((a4).length : Int)), (55, vi y154)] a ∧ SS [] κ0 w0 κ w [.box b27 130 [(1, [.map p28]), su x26.floor], .box b22 130 [(1, [.map p23]), su x21.floor], .tok p99 37 6 (y157).length c100, .tok p18 37 6 (x17).length c19, .ext (objX p28 (.map m29 c30)), .ext (objX p23 (.map m24 c25))] [Ro.mp f_api_Ver.ty p18 c19 x17, Ro.mp (fInt .u64).ty p8 c9 a7, Map.mp kStr false (tSl f_api_Ver.ty) p23 m24 c25 x21.chains, Map.mp kStr false (tSl f_api_Ver.ty) p28 m29 c30 x26.chains, Ro.mp f_api_Ver.ty p99 c100 y157, Ro.mp tA68 p5 c6 a4, MP.since κ97 w97, MP.old p99 w97] ∧ M.law10_StoreOrder_k3 N (M.law10_StoreOrder_L2 N fuel2) a4 a7 a10 a11 x17 x21 x26 y86 y154 y157 = some r) ?_ ?_
 refine wpIn_block ?_
 refine wpIn_seq_k fun K158 hK158 => ?_
 refine wpIn_region_lit ?_
 refine bind_split H (fun x159 hx159 H => ?_)
 refine wc (wo_index hF hS (by kernel_rfl) 5 (E := 68) (sz := 2) rfl rfl rfl (by kernel_rfl) rfl hx159 (by kernel_rfl) (by kernel_rfl) fun b160 f161 a hpx159 hF => ?_)
 obtain ⟨_, ⟨_, rfl, hR⟩, hc⟩ := hS.elem 5 rfl hpx159 hx159
 have hS := (hS.adds hR).add hc
 refine wc (wo_val hF (by kernel_rfl) (v := .agg (flat [ei 2 x159]).toArray) ((val_loadCs 0 0 1 (s := [ei 2 x159]) (s' := [ei 2 x159]) (n := 2) rfl rfl rfl (show segGood [ei 2 x159] from (sgEnc (hS.get 1 rfl) sgNil)) (by kernel_rfl) (by kernel_rfl) (by kernel_rfl) (by kernel_rfl) (by kernel_rfl) w ⟨_, hS⟩)) fun a hF => ?_)
 have hS := hS.add (m := ml (List.replicate 2 0) 2) (List.length_replicate)
 refine wc (wal hF hS [ei 2 (List.replicate 2 0)] (sgEnc List.length_replicate sgNil) fun b162 a w hF hS => ?_)
 refine wc (wst hF hS 0 0 1 [ei 2 x159] (sgEnc (hS.get 2 rfl) sgNil) fun a w hF hS => ?_)
 refine wpListIn_nil ?_
 refine hK158 _ _ ?_
 refine wpIn_seq_k fun K163 hK163 => ?_
 refine wpIn_region_lit ?_
 refine wp 3 [0, 2, 3, 4, 11, 12, 13, 16, 18, 53, 54, 55, 61] hF fun a hF => ?_
 refine wpListIn_nil ?_
 refine hK163 _ _ ?_
 refine bif_split H (fun hb H => ?_) (fun hb H => ?_)
 refine cond_t hF (by kernel_rfl) hb ?_
 refine wpIn_seq_k fun K164 hK164 => ?_
 refine rgS hS [] ?_
 have hS := hS.drew
 refine any_pure [3, 4, 5, 11, 12, 13] [0, 2, 3, 4, 11, 12, 13, 16, 18, 53, 54, 55, 67, 75] (L' := [(0, .slice p18 (x17).length c19), (2, .slice p8 (a7).length c9), (3, .string (a10)), (4, vu a11), (11, pt b22 0), (12, pt b27 0), (13, vu y86), (16, .slice p99 (y153).length c100), (18, pt b162 0), (53, .slice p5 (a4).length c6), (54, vi ((a4).length : Int)), (55, vi y154), (67, vu (IntKind.u64.wrap ((y153).length : Int))), (75, vu (IntKind.u64.wrap ((y153).length : Int)))]) (listed' := (bitA 18 14392)) (fuel := 12) hF (hS.sx [0, 1, 2, 5, 6] (rg 11)) (by kernel_rfl) (by intro c a w t v h; cases t <;> exact h) (by kernel_rfl) rfl fun a hF => ?_
 refine bind_split H (fun x165 hx165 H => ?_)
 refine atk 0 (some 62) hF (hS.sx [0, 1, 2, 5, 6] (rg 11)) rfl (fun w _ => val_indexArr (E := 3) (sz := 1) (n := 2) rfl rfl (i := 0) rfl (idx_lt hx165 (hS.get 2 rfl)) (by kernel_rfl) (by kernel_rfl) w) fun a hF => ?_
 refine atk 1 (some 63) hF (hS.sx [0, 1, 2, 5, 6] (rg 11)) rfl (val_loadA1 (t := (fInt .i64)) 0 0 (v := vi x165) rfl rfl rfl rfl hx165 rfl rfl (by kernel_rfl) (by kernel_rfl)) fun a hF => ?_
 refine any_pure [2] [0, 2, 3, 4, 11, 12, 13, 16, 18, 53, 54, 55, 64, 67, 75] (L' := [(0, .slice p18 (x17).length c19), (2, .slice p8 (a7).length c9), (3, .string (a10)), (4, vu a11), (11, pt b22 0), (12, pt b27 0), (13, vu y86), (16, .slice p99 (y153).length c100), (18, pt b162 0), (53, .slice p5 (a4).length c6), (54, vi ((a4).length : Int)), (55, vi y154), (64, vu (IntKind.u64.wrap x165)), (67, vu (IntKind.u64.wrap ((y153).length : Int))), (75, vu (IntKind.u64.wrap ((y153).length : Int)))]) (listed' := (bitA 18 14399)) (fuel := 9) hF (hS.sx [0, 1, 2, 5, 6] (rg 11)) (by kernel_rfl) (by intro c a w t v h; cases t <;> exact h) (by kernel_rfl) rfl fun a hF => ?_
 refine bind_split H (fun x166 hx166 H => ?_)
 refine atk 6 (some 68) hF (hS.sx [0, 1, 2, 5, 6] (rg 11)) rfl (fun w _ => (val_rem rfl rfl rfl hx166) w) fun a hF => ?_
 refine any_pure [7, 16] [0, 2, 3, 4, 11, 12, 13, 16, 18, 19, 53, 54, 55, 75] (L' := [(0, .slice p18 (x17).length c19), (2, .slice p8 (a7).length c9), (3, .string (a10)), (4, vu a11), (11, pt b22 0), (12, pt b27 0), (13, vu y86), (16, .slice p99 (y153).length c100), (18, pt b162 0), (19, vi (IntKind.i64.wrap x166)), (53, .slice p5 (a4).length c6), (54, vi ((a4).length : Int)), (55, vi y154), (75, vu (IntKind.u64.wrap ((y153).length : Int)))]) (listed' := (bitA 18 80127)) (fuel := 6) hF (hS.sx [0, 1, 2, 5, 6] (rg 11)) (by kernel_rfl) (by intro c a w t v h; cases t <;> exact h) (by kernel_rfl) rfl fun a hF => ?_
 refine bind_split H (fun x167 hx167 H => ?_)
 refine atk 8 (some 70) hF (hS.sx [0, 1, 2, 5, 6] (rg 11)) rfl (fun w _ => val_indexArr (E := 3) (sz := 1) (n := 2) rfl rfl (i := 1) rfl (idx_lt hx167 (hS.get 2 rfl)) (by kernel_rfl) (by kernel_rfl) w) fun a hF => ?_
 refine atk 9 (some 71) hF (hS.sx [0, 1, 2, 5, 6] (rg 11)) rfl (val_loadA1 (t := (fInt .i64)) 0 0 (v := vi x167) rfl rfl rfl rfl hx167 rfl rfl (by kernel_rfl) (by kernel_rfl)) fun a hF => ?_
 refine any_pure [10] [0, 2, 3, 4, 11, 12, 13, 16, 19, 53, 54, 55, 72, 75] (L' := [(0, .slice p18 (x17).length c19), (2, .slice p8 (a7).length c9), (3, .string (a10)), (4, vu a11), (11, pt b22 0), (12, pt b27 0), (13, vu y86), (16, .slice p99 (y153).length c100), (19, vi (IntKind.i64.wrap x166)), (53, .slice p5 (a4).length c6), (54, vi ((a4).length : Int)), (55, vi y154), (72, vu (IntKind.u64.wrap x167)), (75, vu (IntKind.u64.wrap ((y153).length : Int)))]) (listed' := (bitA 18 81919)) (fuel := 3) hF (hS.sx [0, 1, 2, 5, 6] (rg 11)) (by kernel_rfl) (by intro c a w t v h; cases t <;> exact h) (by kernel_rfl) rfl fun a hF => ?_
 refine bind_split H (fun x168 hx168 H => ?_)
 refine atk 14 (some 76) hF (hS.sx [0, 1, 2, 5, 6] (rg 11)) rfl (fun w _ => (val_rem rfl rfl rfl hx168) w) fun a hF => ?_
 refine anp [15, 17] [0, 2, 3, 4, 11, 12, 13, 16, 19, 20, 53, 54, 55] hF (hS.sx [0, 1, 2, 5, 6] (rg 11)) fun a hF => ?_
 refine and_ ?_
 refine hK164 _ _ ?_
 refine bind_split H (fun v170 hv170 H => ?_)
 refine code_join (fun a w => ∃ κ : Gh, Fr (169) [] [(0, .slice p18 (x17).length c19), (2, .slice p8 (a7).length c9), (3, .string (a10)), (4, vu a11), (11, pt b22 0), (12, pt b27 0), (13, vu y86), (16, .slice p99 (v170).length c100), (53, .slice p5 (a4).length c6), (54, vi ((a4).length : Int)), (55, vi y154)] a ∧ SS [] κ0 w0 κ w [.box b27 130 [(1, [.map p28]), su x26.floor], .box b22 130 [(1, [.map p23]), su x21.floor], .tok p99 37 6 (v170).length c100, .tok p18 37 6 (x17).length c19, .ext (objX p28 (.map m29 c30)), .ext (objX p23 (.map m24 c25))] [Ro.mp f_api_Ver.ty p18 c19 x17, Ro.mp (fInt .u64).ty p8 c9 a7, Map.mp kStr false (tSl f_api_Ver.ty) p23 m24 c25 x21.chains, Map.mp kStr false (tSl f_api_Ver.ty) p28 m29 c30 x26.chains, Ro.mp f_api_Ver.ty p99 c100 v170, Ro.mp tA68 p5 c6 a4, MP.since κ97 w97, MP.old p99 w97] ∧ True) ?_ ?_
 refine rgS hS [13, 15] ?_
 have hS := hS.drew
 refine any_pure [0, 1, 4, 5, 8, 9] [0, 2, 3, 4, 11, 12, 13, 16, 20, 53, 54, 55, 78, 79, 82, 83, 86, 87] (L' := [(0, .slice p18 (x17).length c19), (2, .slice p8 (a7).length c9), (3, .string (a10)), (4, vu a11), (11, pt b22 0), (12, pt b27 0), (13, vu y86), (16, .slice p99 (y153).length c100), (20, vi (IntKind.i64.wrap x168)), (53, .slice p5 (a4).length c6), (54, vi ((a4).length : Int)), (55, vi y154), (78, .slice p99 (y153).length c100), (79, vi (IntKind.i64.wrap x166)), (82, .slice p99 (y153).length c100), (83, vi (IntKind.i64.wrap x168)), (86, .slice p99 (y153).length c100), (87, vi (IntKind.i64.wrap x166))]) (listed' := (bitA 16 819)) (fuel := 10) hF (hS.sx [0, 1, 2, 5, 6] (rg 11)) (by kernel_rfl) (by intro c a w t v h; cases t <;> exact h) (by kernel_rfl) rfl fun a hF => ?_
 refine bind_split hv170 (fun x171 hx171 hv170 => ?_)
 obtain ⟨b172, f173, hpx171⟩ := hS.ptr 7 rfl hx171
 refine atk 6 (some 84) hF (hS.sx [0, 1, 2, 5, 6] (rg 11)) rfl (fun w _ => val_index (E := 37) (sz := 6) rfl hpx171 rfl (by kernel_rfl) rfl hx171 (by kernel_rfl) (by kernel_rfl) w) fun a hF => ?_
 refine atk 7 (some 85) hF (hS.sx [0, 1, 2, 5, 6] (rg 11)) rfl (val_loadRoAgg (t := f_api_Ver) 7 rfl rfl hpx171 rfl hx171 (by kernel_rfl) (by kernel_rfl) (by kernel_rfl)) fun a hF => ?_
 refine bind_split hv170 (fun x174 hx174 hv170 => ?_)
 obtain ⟨b175, f176, hpx174⟩ := hS.ptr 7 rfl hx174
 refine atk 10 (some 88) hF (hS.sx [0, 1, 2, 5, 6] (rg 11)) rfl (fun w _ => val_index (E := 37) (sz := 6) rfl hpx174 rfl (by kernel_rfl) rfl hx174 (by kernel_rfl) (by kernel_rfl) w) fun a hF => ?_
 refine atk 11 (some 89) hF (hS.sx [0, 1, 2, 5, 6] (rg 11)) rfl (val_loadRoAgg (t := f_api_Ver) 7 rfl rfl hpx174 rfl hx174 (by kernel_rfl) (by kernel_rfl) (by kernel_rfl)) fun a hF => ?_
 refine bind_split hv170 (fun x177 hx177 hv170 => ?_)
 obtain ⟨b178, f179, hpx177⟩ := hS.ptr 7 rfl hx177
 refine atk 12 (some 90) hF (hS.sx [0, 1, 2, 5, 6] (rg 11)) rfl (fun w _ => val_index (E := 37) (sz := 6) rfl hpx177 rfl (by kernel_rfl) rfl hx177 (by kernel_rfl) (by kernel_rfl) w) fun a hF => ?_
 refine agn [2, 3, 13] ⟨op_go 2 hF rfl ?_, op_go 3 hF rfl ?_, op_go 13 hF rfl ?_, trivial⟩
 refine wo_pure (v := .slice p99 (y153).length c100) hF (by kernel_rfl) (by kernel_rfl) fun a hF => ?_
 refine ⟨fun _ => (hS.sx [0, 1, 2, 5, 6] (rg 11)), ?_⟩
 refine ago2 3 13 hF rfl rfl ?_ ?_
 refine wo_pure (v := vi (IntKind.i64.wrap x168)) hF (by kernel_rfl) (by kernel_rfl) fun a hF => ?_
 refine ⟨fun _ => (hS.sx [0, 1, 2, 5, 6] (rg 11)), ?_⟩
 refine ago 13 hF rfl ?_
 refine wo_storeTokS (t := f_api_Ver) (y := x177) (z := (T_api_Ver.mk x171.Key x171.Val x171.Gone x171.TS x171.DC x171.Tx)) (v := .agg (flat [sg x171.Key, sg x171.Val, sb x171.Gone, su x171.TS, si x171.DC, si x171.Tx]).toArray) (vs := (flat [sg x171.Key, sg x171.Val, sb x171.Gone, su x171.TS, si x171.DC, si x171.Tx])) (sz := 6) hF hS hfr hf97 hw97 hR97 (by kernel_rfl) 3 7 9 10 0 rfl rfl (by kernel_rfl) rfl rfl rfl hpx177 hx177 rfl (by kernel_rfl) (by kernel_rfl) rfl (show segGood [sg x171.Key, sg x171.Val, sb x171.Gone, su x171.TS, si x171.DC, si x171.Tx] from (sgN 6 sgNil)).2 rfl (by decide) rfl rfl (nfC nfB (nfC nfB (nfC nfB (nfC nfT (nfC nfT (nfC nfO (nfC nfO nfN))))))) [0, 2, 3, 4, 1] [0, 2, 10] (Ra := [Ro.mp f_api_Ver.ty p18 c19 x17, Ro.mp (fInt .u64).ty p8 c9 a7, Map.mp kStr false (tSl f_api_Ver.ty) p23 m24 c25 x21.chains, Map.mp kStr false (tSl f_api_Ver.ty) p28 m29 c30 x26.chains, Ro.mp tA68 p5 c6 a4]) (Rb := [ml (List.replicate 2 0) 2, ml x159 2, MP.old p99 w97]) rfl rfl (by intro m hm; simp only [List.mem_cons, List.not_mem_nil, or_false] at hm; rcases hm with rfl | rfl | rfl <;> first | exact apart_const _ _ | exact apart_const _ _ | exact apart_const _ _) (Cf := (fun nn => [.box b162 68 [ei 2 x159], .box b27 130 [(1, [.map p28]), su x26.floor], .box b22 130 [(1, [.map p23]), su x21.floor], .tok p99 37 6 nn c100, .tok p18 37 6 (x17).length c19, .ext (objX p28 (.map m29 c30)), .ext (objX p23 (.map m24 c25))])) (Lf := (fun nn => [(0, .slice p18 (x17).length c19), (2, .slice p8 (a7).length c9), (3, .string (a10)), (4, vu a11), (11, pt b22 0), (12, pt b27 0), (13, vu y86), (16, .slice p99 nn c100), (20, vi (IntKind.i64.wrap x168)), (53, .slice p5 (a4).length c6), (54, vi ((a4).length : Int)), (55, vi y154), (78, .slice p99 nn c100), (79, vi (IntKind.i64.wrap x166)), (80, .slice p99 nn c100), (81, vi (IntKind.i64.wrap x168)), (82, .slice p99 nn c100), (83, vi (IntKind.i64.wrap x168)), (84, .pointer (some ⟨b172, (f173 + Int.toNat (IntKind.i64.wrap x168) * 6), none⟩)), (85, .agg (flat [sg x171.Key, sg x171.Val, sb x171.Gone, su x171.TS, si x171.DC, si x171.Tx]).toArray), (86, .slice p99 nn c100), (87, vi (IntKind.i64.wrap x166)), (88, .pointer (some ⟨b175, (f176 + Int.toNat (IntKind.i64.wrap x166) * 6), none⟩)), (89, .agg (flat [sg x174.Key, sg x174.Val, sb x174.Gone, su x174.TS, si x174.DC, si x174.Tx]).toArray), (90, .pointer (some ⟨b178, (f179 + Int.toNat (IntKind.i64.wrap x166) * 6), none⟩))])) [0, 2, 3, 4, 11, 12, 13, 16, 20, 53, 54, 55, 78, 79, 80, 81, 82, 83, 84, 85, 86, 87, 88, 89, 90] rfl (by kernel_rfl) fun a w hF hS => ?_
 refine ⟨notE, ?_⟩
 refine ago 14 hF rfl ?_
 refine bind_split hv170 (fun x180 hx180 hv170 => ?_)
 refine wo_index hF hS (by kernel_rfl) 0 (E := 37) (sz := 6) rfl rfl rfl (by kernel_rfl) rfl hx180 (by kernel_rfl) (by kernel_rfl) fun b181 f182 a hpx180 hF => ?_
 refine ⟨notE, ?_⟩
 refine ago 15 hF rfl ?_
 refine wo_storeTokS (t := f_api_Ver) (y := x180) (z := (T_api_Ver.mk x174.Key x174.Val x174.Gone x174.TS x174.DC x174.Tx)) (v := .agg (flat [sg x174.Key, sg x174.Val, sb x174.Gone, su x174.TS, si x174.DC, si x174.Tx]).toArray) (vs := (flat [sg x174.Key, sg x174.Val, sb x174.Gone, su x174.TS, si x174.DC, si x174.Tx])) (sz := 6) hF hS hfr hf97 hw97 hR97 (by kernel_rfl) 3 0 1 9 0 rfl rfl (by kernel_rfl) rfl rfl rfl hpx180 hx180 rfl (by kernel_rfl) (by kernel_rfl) rfl (show segGood [sg x174.Key, sg x174.Val, sb x174.Gone, su x174.TS, si x174.DC, si x174.Tx] from (sgN 6 sgNil)).2 rfl (by decide) rfl rfl (nfC nfB (nfC nfB (nfC nfB (nfC nfT (nfC nfT (nfC nfO (nfC nfO nfN))))))) [0, 2, 3, 4, 1] [7, 8, 9] (Ra := [Ro.mp f_api_Ver.ty p18 c19 x17, Ro.mp (fInt .u64).ty p8 c9 a7, Map.mp kStr false (tSl f_api_Ver.ty) p23 m24 c25 x21.chains, Map.mp kStr false (tSl f_api_Ver.ty) p28 m29 c30 x26.chains, Ro.mp tA68 p5 c6 a4]) (Rb := [ml (List.replicate 2 0) 2, ml x159 2, MP.old p99 w97]) rfl rfl (by intro m hm; simp only [List.mem_cons, List.not_mem_nil, or_false] at hm; rcases hm with rfl | rfl | rfl <;> first | exact apart_const _ _ | exact apart_const _ _ | exact apart_const _ _) (Cf := (fun nn => [.box b162 68 [ei 2 x159], .box b27 130 [(1, [.map p28]), su x26.floor], .box b22 130 [(1, [.map p23]), su x21.floor], .tok p99 37 6 nn c100, .tok p18 37 6 (x17).length c19, .ext (objX p28 (.map m29 c30)), .ext (objX p23 (.map m24 c25))])) (Lf := (fun nn => [(0, .slice p18 (x17).length c19), (2, .slice p8 (a7).length c9), (3, .string (a10)), (4, vu a11), (11, pt b22 0), (12, pt b27 0), (13, vu y86), (16, .slice p99 nn c100), (20, vi (IntKind.i64.wrap x168)), (53, .slice p5 (a4).length c6), (54, vi ((a4).length : Int)), (55, vi y154), (78, .slice p99 nn c100), (79, vi (IntKind.i64.wrap x166)), (80, .slice p99 nn c100), (81, vi (IntKind.i64.wrap x168)), (82, .slice p99 nn c100), (83, vi (IntKind.i64.wrap x168)), (84, .pointer (some ⟨b172, (f173 + Int.toNat (IntKind.i64.wrap x168) * 6), none⟩)), (85, .agg (flat [sg x171.Key, sg x171.Val, sb x171.Gone, su x171.TS, si x171.DC, si x171.Tx]).toArray), (86, .slice p99 nn c100), (87, vi (IntKind.i64.wrap x166)), (88, .pointer (some ⟨b175, (f176 + Int.toNat (IntKind.i64.wrap x166) * 6), none⟩)), (89, .agg (flat [sg x174.Key, sg x174.Val, sb x174.Gone, su x174.TS, si x174.DC, si x174.Tx]).toArray), (90, .pointer (some ⟨b178, (f179 + Int.toNat (IntKind.i64.wrap x166) * 6), none⟩)), (91, .pointer (some ⟨b181, (f182 + Int.toNat (IntKind.i64.wrap x168) * 6), none⟩))])) [0, 2, 3, 4, 11, 12, 13, 16, 20, 53, 54, 55, 78, 79, 80, 81, 82, 83, 84, 85, 86, 87, 88, 89, 90, 91] rfl (by kernel_rfl) fun a w hF hS => ?_
 refine ⟨notE, ?_⟩
 refine and_ ?_
 cases hv170
 exact ⟨_, hF.kp [0, 2, 3, 4, 11, 12, 13, 16, 53, 54, 55], hS.sp [1, 2, 3, 4, 5, 6] [2, 3, 4, 5, 0, 6, 1, 9], trivial⟩
 refine wo_storeTokS (t := f_api_Ver) (y := x177) (z := (T_api_Ver.mk x171.Key x171.Val x171.Gone x171.TS x171.DC x171.Tx)) (v := .agg (flat [sg x171.Key, sg x171.Val, sb x171.Gone, su x171.TS, si x171.DC, si x171.Tx]).toArray) (vs := (flat [sg x171.Key, sg x171.Val, sb x171.Gone, su x171.TS, si x171.DC, si x171.Tx])) (sz := 6) hF hS hfr hf97 hw97 hR97 (by kernel_rfl) 3 7 9 10 0 rfl rfl (by kernel_rfl) rfl rfl rfl hpx177 hx177 rfl (by kernel_rfl) (by kernel_rfl) rfl (show segGood [sg x171.Key, sg x171.Val, sb x171.Gone, su x171.TS, si x171.DC, si x171.Tx] from (sgN 6 sgNil)).2 rfl (by decide) rfl rfl (nfC nfB (nfC nfB (nfC nfB (nfC nfT (nfC nfT (nfC nfO (nfC nfO nfN))))))) [0, 2, 3, 4, 1] [0, 2, 10] (Ra := [Ro.mp f_api_Ver.ty p18 c19 x17, Ro.mp (fInt .u64).ty p8 c9 a7, Map.mp kStr false (tSl f_api_Ver.ty) p23 m24 c25 x21.chains, Map.mp kStr false (tSl f_api_Ver.ty) p28 m29 c30 x26.chains, Ro.mp tA68 p5 c6 a4]) (Rb := [ml (List.replicate 2 0) 2, ml x159 2, MP.old p99 w97]) rfl rfl (by intro m hm; simp only [List.mem_cons, List.not_mem_nil, or_false] at hm; rcases hm with rfl | rfl | rfl <;> first | exact apart_const _ _ | exact apart_const _ _ | exact apart_const _ _) (Cf := (fun nn => [.box b162 68 [ei 2 x159], .box b27 130 [(1, [.map p28]), su x26.floor], .box b22 130 [(1, [.map p23]), su x21.floor], .tok p99 37 6 nn c100, .tok p18 37 6 (x17).length c19, .ext (objX p28 (.map m29 c30)), .ext (objX p23 (.map m24 c25))])) (Lf := (fun nn => [(0, .slice p18 (x17).length c19), (2, .slice p8 (a7).length c9), (3, .string (a10)), (4, vu a11), (11, pt b22 0), (12, pt b27 0), (13, vu y86), (16, .slice p99 nn c100), (20, vi (IntKind.i64.wrap x168)), (53, .slice p5 (a4).length c6), (54, vi ((a4).length : Int)), (55, vi y154), (78, .slice p99 nn c100), (79, vi (IntKind.i64.wrap x166)), (80, .slice p99 nn c100), (82, .slice p99 nn c100), (83, vi (IntKind.i64.wrap x168)), (84, .pointer (some ⟨b172, (f173 + Int.toNat (IntKind.i64.wrap x168) * 6), none⟩)), (85, .agg (flat [sg x171.Key, sg x171.Val, sb x171.Gone, su x171.TS, si x171.DC, si x171.Tx]).toArray), (86, .slice p99 nn c100), (87, vi (IntKind.i64.wrap x166)), (88, .pointer (some ⟨b175, (f176 + Int.toNat (IntKind.i64.wrap x166) * 6), none⟩)), (89, .agg (flat [sg x174.Key, sg x174.Val, sb x174.Gone, su x174.TS, si x174.DC, si x174.Tx]).toArray), (90, .pointer (some ⟨b178, (f179 + Int.toNat (IntKind.i64.wrap x166) * 6), none⟩))])) [0, 2, 3, 4, 11, 12, 13, 16, 20, 53, 54, 55, 78, 79, 80, 82, 83, 84, 85, 86, 87, 88, 89, 90] rfl (by kernel_rfl) fun a w hF hS => ?_
 refine ⟨notE, ?_⟩
 refine ago 3 hF rfl ?_
 refine wo_pure (v := vi (IntKind.i64.wrap x168)) hF (by kernel_rfl) (by kernel_rfl) fun a hF => ?_
 refine ⟨notE, ?_⟩
 refine ago 14 hF rfl ?_
 refine bind_split hv170 (fun x180 hx180 hv170 => ?_)
 refine wo_index hF hS (by kernel_rfl) 0 (E := 37) (sz := 6) rfl rfl rfl (by kernel_rfl) rfl hx180 (by kernel_rfl) (by kernel_rfl) fun b181 f182 a hpx180 hF => ?_
 refine ⟨notE, ?_⟩
 refine ago 15 hF rfl ?_
 refine wo_storeTokS (t := f_api_Ver) (y := x180) (z := (T_api_Ver.mk x174.Key x174.Val x174.Gone x174.TS x174.DC x174.Tx)) (v := .agg (flat [sg x174.Key, sg x174.Val, sb x174.Gone, su x174.TS, si x174.DC, si x174.Tx]).toArray) (vs := (flat [sg x174.Key, sg x174.Val, sb x174.Gone, su x174.TS, si x174.DC, si x174.Tx])) (sz := 6) hF hS hfr hf97 hw97 hR97 (by kernel_rfl) 3 0 1 9 0 rfl rfl (by kernel_rfl) rfl rfl rfl hpx180 hx180 rfl (by kernel_rfl) (by kernel_rfl) rfl (show segGood [sg x174.Key, sg x174.Val, sb x174.Gone, su x174.TS, si x174.DC, si x174.Tx] from (sgN 6 sgNil)).2 rfl (by decide) rfl rfl (nfC nfB (nfC nfB (nfC nfB (nfC nfT (nfC nfT (nfC nfO (nfC nfO nfN))))))) [0, 2, 3, 4, 1] [7, 8, 9] (Ra := [Ro.mp f_api_Ver.ty p18 c19 x17, Ro.mp (fInt .u64).ty p8 c9 a7, Map.mp kStr false (tSl f_api_Ver.ty) p23 m24 c25 x21.chains, Map.mp kStr false (tSl f_api_Ver.ty) p28 m29 c30 x26.chains, Ro.mp tA68 p5 c6 a4]) (Rb := [ml (List.replicate 2 0) 2, ml x159 2, MP.old p99 w97]) rfl rfl (by intro m hm; simp only [List.mem_cons, List.not_mem_nil, or_false] at hm; rcases hm with rfl | rfl | rfl <;> first | exact apart_const _ _ | exact apart_const _ _ | exact apart_const _ _) (Cf := (fun nn => [.box b162 68 [ei 2 x159], .box b27 130 [(1, [.map p28]), su x26.floor], .box b22 130 [(1, [.map p23]), su x21.floor], .tok p99 37 6 nn c100, .tok p18 37 6 (x17).length c19, .ext (objX p28 (.map m29 c30)), .ext (objX p23 (.map m24 c25))])) (Lf := (fun nn => [(0, .slice p18 (x17).length c19), (2, .slice p8 (a7).length c9), (3, .string (a10)), (4, vu a11), (11, pt b22 0), (12, pt b27 0), (13, vu y86), (16, .slice p99 nn c100), (20, vi (IntKind.i64.wrap x168)), (53, .slice p5 (a4).length c6), (54, vi ((a4).length : Int)), (55, vi y154), (78, .slice p99 nn c100), (79, vi (IntKind.i64.wrap x166)), (80, .slice p99 nn c100), (81, vi (IntKind.i64.wrap x168)), (82, .slice p99 nn c100), (83, vi (IntKind.i64.wrap x168)), (84, .pointer (some ⟨b172, (f173 + Int.toNat (IntKind.i64.wrap x168) * 6), none⟩)), (85, .agg (flat [sg x171.Key, sg x171.Val, sb x171.Gone, su x171.TS, si x171.DC, si x171.Tx]).toArray), (86, .slice p99 nn c100), (87, vi (IntKind.i64.wrap x166)), (88, .pointer (some ⟨b175, (f176 + Int.toNat (IntKind.i64.wrap x166) * 6), none⟩)), (89, .agg (flat [sg x174.Key, sg x174.Val, sb x174.Gone, su x174.TS, si x174.DC, si x174.Tx]).toArray), (90, .pointer (some ⟨b178, (f179 + Int.toNat (IntKind.i64.wrap x166) * 6), none⟩)), (91, .pointer (some ⟨b181, (f182 + Int.toNat (IntKind.i64.wrap x168) * 6), none⟩))])) [0, 2, 3, 4, 11, 12, 13, 16, 20, 53, 54, 55, 78, 79, 80, 81, 82, 83, 84, 85, 86, 87, 88, 89, 90, 91] rfl (by kernel_rfl) fun a w hF hS => ?_
 refine ⟨notE, ?_⟩
 refine and_ ?_
 cases hv170
 exact ⟨_, hF.kp [0, 2, 3, 4, 11, 12, 13, 16, 53, 54, 55], hS.sp [1, 2, 3, 4, 5, 6] [2, 3, 4, 5, 0, 6, 1, 9], trivial⟩
 refine wo_pure (v := vi (IntKind.i64.wrap x168)) hF (by kernel_rfl) (by kernel_rfl) fun a hF => ?_
 refine ⟨fun _ => (hS.sx [0, 1, 2, 5, 6] (rg 11)), ?_⟩
 refine ago2 2 13 hF rfl rfl ?_ ?_
 refine wo_pure (v := .slice p99 (y153).length c100) hF (by kernel_rfl) (by kernel_rfl) fun a hF => ?_
 refine ⟨fun _ => (hS.sx [0, 1, 2, 5, 6] (rg 11)), ?_⟩
 refine ago 13 hF rfl ?_
 refine wo_storeTokS (t := f_api_Ver) (y := x177) (z := (T_api_Ver.mk x171.Key x171.Val x171.Gone x171.TS x171.DC x171.Tx)) (v := .agg (flat [sg x171.Key, sg x171.Val, sb x171.Gone, su x171.TS, si x171.DC, si x171.Tx]).toArray) (vs := (flat [sg x171.Key, sg x171.Val, sb x171.Gone, su x171.TS, si x171.DC, si x171.Tx])) (sz := 6) hF hS hfr hf97 hw97 hR97 (by kernel_rfl) 3 7 9 10 0 rfl rfl (by kernel_rfl) rfl rfl rfl hpx177 hx177 rfl (by kernel_rfl) (by kernel_rfl) rfl (show segGood [sg x171.Key, sg x171.Val, sb x171.Gone, su x171.TS, si x171.DC, si x171.Tx] from (sgN 6 sgNil)).2 rfl (by decide) rfl rfl (nfC nfB (nfC nfB (nfC nfB (nfC nfT (nfC nfT (nfC nfO (nfC nfO nfN))))))) [0, 2, 3, 4, 1] [0, 2, 10] (Ra := [Ro.mp f_api_Ver.ty p18 c19 x17, Ro.mp (fInt .u64).ty p8 c9 a7, Map.mp kStr false (tSl f_api_Ver.ty) p23 m24 c25 x21.chains, Map.mp kStr false (tSl f_api_Ver.ty) p28 m29 c30 x26.chains, Ro.mp tA68 p5 c6 a4]) (Rb := [ml (List.replicate 2 0) 2, ml x159 2, MP.old p99 w97]) rfl rfl (by intro m hm; simp only [List.mem_cons, List.not_mem_nil, or_false] at hm; rcases hm with rfl | rfl | rfl <;> first | exact apart_const _ _ | exact apart_const _ _ | exact apart_const _ _) (Cf := (fun nn => [.box b162 68 [ei 2 x159], .box b27 130 [(1, [.map p28]), su x26.floor], .box b22 130 [(1, [.map p23]), su x21.floor], .tok p99 37 6 nn c100, .tok p18 37 6 (x17).length c19, .ext (objX p28 (.map m29 c30)), .ext (objX p23 (.map m24 c25))])) (Lf := (fun nn => [(0, .slice p18 (x17).length c19), (2, .slice p8 (a7).length c9), (3, .string (a10)), (4, vu a11), (11, pt b22 0), (12, pt b27 0), (13, vu y86), (16, .slice p99 nn c100), (20, vi (IntKind.i64.wrap x168)), (53, .slice p5 (a4).length c6), (54, vi ((a4).length : Int)), (55, vi y154), (78, .slice p99 nn c100), (79, vi (IntKind.i64.wrap x166)), (80, .slice p99 nn c100), (81, vi (IntKind.i64.wrap x168)), (82, .slice p99 nn c100), (83, vi (IntKind.i64.wrap x168)), (84, .pointer (some ⟨b172, (f173 + Int.toNat (IntKind.i64.wrap x168) * 6), none⟩)), (85, .agg (flat [sg x171.Key, sg x171.Val, sb x171.Gone, su x171.TS, si x171.DC, si x171.Tx]).toArray), (86, .slice p99 nn c100), (87, vi (IntKind.i64.wrap x166)), (88, .pointer (some ⟨b175, (f176 + Int.toNat (IntKind.i64.wrap x166) * 6), none⟩)), (89, .agg (flat [sg x174.Key, sg x174.Val, sb x174.Gone, su x174.TS, si x174.DC, si x174.Tx]).toArray), (90, .pointer (some ⟨b178, (f179 + Int.toNat (IntKind.i64.wrap x166) * 6), none⟩))])) [0, 2, 3, 4, 11, 12, 13, 16, 20, 53, 54, 55, 78, 79, 80, 81, 82, 83, 84, 85, 86, 87, 88, 89, 90] rfl (by kernel_rfl) fun a w hF hS => ?_
 refine ⟨notE, ?_⟩
 refine ago 14 hF rfl ?_
 refine bind_split hv170 (fun x180 hx180 hv170 => ?_)
 refine wo_index hF hS (by kernel_rfl) 0 (E := 37) (sz := 6) rfl rfl rfl (by kernel_rfl) rfl hx180 (by kernel_rfl) (by kernel_rfl) fun b181 f182 a hpx180 hF => ?_
 refine ⟨notE, ?_⟩
 refine ago 15 hF rfl ?_
 refine wo_storeTokS (t := f_api_Ver) (y := x180) (z := (T_api_Ver.mk x174.Key x174.Val x174.Gone x174.TS x174.DC x174.Tx)) (v := .agg (flat [sg x174.Key, sg x174.Val, sb x174.Gone, su x174.TS, si x174.DC, si x174.Tx]).toArray) (vs := (flat [sg x174.Key, sg x174.Val, sb x174.Gone, su x174.TS, si x174.DC, si x174.Tx])) (sz := 6) hF hS hfr hf97 hw97 hR97 (by kernel_rfl) 3 0 1 9 0 rfl rfl (by kernel_rfl) rfl rfl rfl hpx180 hx180 rfl (by kernel_rfl) (by kernel_rfl) rfl (show segGood [sg x174.Key, sg x174.Val, sb x174.Gone, su x174.TS, si x174.DC, si x174.Tx] from (sgN 6 sgNil)).2 rfl (by decide) rfl rfl (nfC nfB (nfC nfB (nfC nfB (nfC nfT (nfC nfT (nfC nfO (nfC nfO nfN))))))) [0, 2, 3, 4, 1] [7, 8, 9] (Ra := [Ro.mp f_api_Ver.ty p18 c19 x17, Ro.mp (fInt .u64).ty p8 c9 a7, Map.mp kStr false (tSl f_api_Ver.ty) p23 m24 c25 x21.chains, Map.mp kStr false (tSl f_api_Ver.ty) p28 m29 c30 x26.chains, Ro.mp tA68 p5 c6 a4]) (Rb := [ml (List.replicate 2 0) 2, ml x159 2, MP.old p99 w97]) rfl rfl (by intro m hm; simp only [List.mem_cons, List.not_mem_nil, or_false] at hm; rcases hm with rfl | rfl | rfl <;> first | exact apart_const _ _ | exact apart_const _ _ | exact apart_const _ _) (Cf := (fun nn => [.box b162 68 [ei 2 x159], .box b27 130 [(1, [.map p28]), su x26.floor], .box b22 130 [(1, [.map p23]), su x21.floor], .tok p99 37 6 nn c100, .tok p18 37 6 (x17).length c19, .ext (objX p28 (.map m29 c30)), .ext (objX p23 (.map m24 c25))])) (Lf := (fun nn => [(0, .slice p18 (x17).length c19), (2, .slice p8 (a7).length c9), (3, .string (a10)), (4, vu a11), (11, pt b22 0), (12, pt b27 0), (13, vu y86), (16, .slice p99 nn c100), (20, vi (IntKind.i64.wrap x168)), (53, .slice p5 (a4).length c6), (54, vi ((a4).length : Int)), (55, vi y154), (78, .slice p99 nn c100), (79, vi (IntKind.i64.wrap x166)), (80, .slice p99 nn c100), (81, vi (IntKind.i64.wrap x168)), (82, .slice p99 nn c100), (83, vi (IntKind.i64.wrap x168)), (84, .pointer (some ⟨b172, (f173 + Int.toNat (IntKind.i64.wrap x168) * 6), none⟩)), (85, .agg (flat [sg x171.Key, sg x171.Val, sb x171.Gone, su x171.TS, si x171.DC, si x171.Tx]).toArray), (86, .slice p99 nn c100), (87, vi (IntKind.i64.wrap x166)), (88, .pointer (some ⟨b175, (f176 + Int.toNat (IntKind.i64.wrap x166) * 6), none⟩)), (89, .agg (flat [sg x174.Key, sg x174.Val, sb x174.Gone, su x174.TS, si x174.DC, si x174.Tx]).toArray), (90, .pointer (some ⟨b178, (f179 + Int.toNat (IntKind.i64.wrap x166) * 6), none⟩)), (91, .pointer (some ⟨b181, (f182 + Int.toNat (IntKind.i64.wrap x168) * 6), none⟩))])) [0, 2, 3, 4, 11, 12, 13, 16, 20, 53, 54, 55, 78, 79, 80, 81, 82, 83, 84, 85, 86, 87, 88, 89, 90, 91] rfl (by kernel_rfl) fun a w hF hS => ?_
 refine ⟨notE, ?_⟩
 refine and_ ?_
 cases hv170
 exact ⟨_, hF.kp [0, 2, 3, 4, 11, 12, 13, 16, 53, 54, 55], hS.sp [1, 2, 3, 4, 5, 6] [2, 3, 4, 5, 0, 6, 1, 9], trivial⟩
 refine wo_storeTokS (t := f_api_Ver) (y := x177) (z := (T_api_Ver.mk x171.Key x171.Val x171.Gone x171.TS x171.DC x171.Tx)) (v := .agg (flat [sg x171.Key, sg x171.Val, sb x171.Gone, su x171.TS, si x171.DC, si x171.Tx]).toArray) (vs := (flat [sg x171.Key, sg x171.Val, sb x171.Gone, su x171.TS, si x171.DC, si x171.Tx])) (sz := 6) hF hS hfr hf97 hw97 hR97 (by kernel_rfl) 3 7 9 10 0 rfl rfl (by kernel_rfl) rfl rfl rfl hpx177 hx177 rfl (by kernel_rfl) (by kernel_rfl) rfl (show segGood [sg x171.Key, sg x171.Val, sb x171.Gone, su x171.TS, si x171.DC, si x171.Tx] from (sgN 6 sgNil)).2 rfl (by decide) rfl rfl (nfC nfB (nfC nfB (nfC nfB (nfC nfT (nfC nfT (nfC nfO (nfC nfO nfN))))))) [0, 2, 3, 4, 1] [0, 2, 10] (Ra := [Ro.mp f_api_Ver.ty p18 c19 x17, Ro.mp (fInt .u64).ty p8 c9 a7, Map.mp kStr false (tSl f_api_Ver.ty) p23 m24 c25 x21.chains, Map.mp kStr false (tSl f_api_Ver.ty) p28 m29 c30 x26.chains, Ro.mp tA68 p5 c6 a4]) (Rb := [ml (List.replicate 2 0) 2, ml x159 2, MP.old p99 w97]) rfl rfl (by intro m hm; simp only [List.mem_cons, List.not_mem_nil, or_false] at hm; rcases hm with rfl | rfl | rfl <;> first | exact apart_const _ _ | exact apart_const _ _ | exact apart_const _ _) (Cf := (fun nn => [.box b162 68 [ei 2 x159], .box b27 130 [(1, [.map p28]), su x26.floor], .box b22 130 [(1, [.map p23]), su x21.floor], .tok p99 37 6 nn c100, .tok p18 37 6 (x17).length c19, .ext (objX p28 (.map m29 c30)), .ext (objX p23 (.map m24 c25))])) (Lf := (fun nn => [(0, .slice p18 (x17).length c19), (2, .slice p8 (a7).length c9), (3, .string (a10)), (4, vu a11), (11, pt b22 0), (12, pt b27 0), (13, vu y86), (16, .slice p99 nn c100), (20, vi (IntKind.i64.wrap x168)), (53, .slice p5 (a4).length c6), (54, vi ((a4).length : Int)), (55, vi y154), (78, .slice p99 nn c100), (79, vi (IntKind.i64.wrap x166)), (81, vi (IntKind.i64.wrap x168)), (82, .slice p99 nn c100), (83, vi (IntKind.i64.wrap x168)), (84, .pointer (some ⟨b172, (f173 + Int.toNat (IntKind.i64.wrap x168) * 6), none⟩)), (85, .agg (flat [sg x171.Key, sg x171.Val, sb x171.Gone, su x171.TS, si x171.DC, si x171.Tx]).toArray), (86, .slice p99 nn c100), (87, vi (IntKind.i64.wrap x166)), (88, .pointer (some ⟨b175, (f176 + Int.toNat (IntKind.i64.wrap x166) * 6), none⟩)), (89, .agg (flat [sg x174.Key, sg x174.Val, sb x174.Gone, su x174.TS, si x174.DC, si x174.Tx]).toArray), (90, .pointer (some ⟨b178, (f179 + Int.toNat (IntKind.i64.wrap x166) * 6), none⟩))])) [0, 2, 3, 4, 11, 12, 13, 16, 20, 53, 54, 55, 78, 79, 81, 82, 83, 84, 85, 86, 87, 88, 89, 90] rfl (by kernel_rfl) fun a w hF hS => ?_
 refine ⟨notE, ?_⟩
 refine ago 2 hF rfl ?_
 refine wo_pure (v := .slice p99 ((List.set y153 (Int.toNat (IntKind.i64.wrap x166)) (T_api_Ver.mk x171.Key x171.Val x171.Gone x171.TS x171.DC x171.Tx))).length c100) hF (by kernel_rfl) (by kernel_rfl) fun a hF => ?_
 refine ⟨notE, ?_⟩
 refine ago 14 hF rfl ?_
 refine bind_split hv170 (fun x180 hx180 hv170 => ?_)
 refine wo_index hF hS (by kernel_rfl) 0 (E := 37) (sz := 6) rfl rfl rfl (by kernel_rfl) rfl hx180 (by kernel_rfl) (by kernel_rfl) fun b181 f182 a hpx180 hF => ?_
 refine ⟨notE, ?_⟩
 refine ago 15 hF rfl ?_
 refine wo_storeTokS (t := f_api_Ver) (y := x180) (z := (T_api_Ver.mk x174.Key x174.Val x174.Gone x174.TS x174.DC x174.Tx)) (v := .agg (flat [sg x174.Key, sg x174.Val, sb x174.Gone, su x174.TS, si x174.DC, si x174.Tx]).toArray) (vs := (flat [sg x174.Key, sg x174.Val, sb x174.Gone, su x174.TS, si x174.DC, si x174.Tx])) (sz := 6) hF hS hfr hf97 hw97 hR97 (by kernel_rfl) 3 0 1 9 0 rfl rfl (by kernel_rfl) rfl rfl rfl hpx180 hx180 rfl (by kernel_rfl) (by kernel_rfl) rfl (show segGood [sg x174.Key, sg x174.Val, sb x174.Gone, su x174.TS, si x174.DC, si x174.Tx] from (sgN 6 sgNil)).2 rfl (by decide) rfl rfl (nfC nfB (nfC nfB (nfC nfB (nfC nfT (nfC nfT (nfC nfO (nfC nfO nfN))))))) [0, 2, 3, 4, 1] [7, 8, 9] (Ra := [Ro.mp f_api_Ver.ty p18 c19 x17, Ro.mp (fInt .u64).ty p8 c9 a7, Map.mp kStr false (tSl f_api_Ver.ty) p23 m24 c25 x21.chains, Map.mp kStr false (tSl f_api_Ver.ty) p28 m29 c30 x26.chains, Ro.mp tA68 p5 c6 a4]) (Rb := [ml (List.replicate 2 0) 2, ml x159 2, MP.old p99 w97]) rfl rfl (by intro m hm; simp only [List.mem_cons, List.not_mem_nil, or_false] at hm; rcases hm with rfl | rfl | rfl <;> first | exact apart_const _ _ | exact apart_const _ _ | exact apart_const _ _) (Cf := (fun nn => [.box b162 68 [ei 2 x159], .box b27 130 [(1, [.map p28]), su x26.floor], .box b22 130 [(1, [.map p23]), su x21.floor], .tok p99 37 6 nn c100, .tok p18 37 6 (x17).length c19, .ext (objX p28 (.map m29 c30)), .ext (objX p23 (.map m24 c25))])) (Lf := (fun nn => [(0, .slice p18 (x17).length c19), (2, .slice p8 (a7).length c9), (3, .string (a10)), (4, vu a11), (11, pt b22 0), (12, pt b27 0), (13, vu y86), (16, .slice p99 nn c100), (20, vi (IntKind.i64.wrap x168)), (53, .slice p5 (a4).length c6), (54, vi ((a4).length : Int)), (55, vi y154), (78, .slice p99 nn c100), (79, vi (IntKind.i64.wrap x166)), (80, .slice p99 nn c100), (81, vi (IntKind.i64.wrap x168)), (82, .slice p99 nn c100), (83, vi (IntKind.i64.wrap x168)), (84, .pointer (some ⟨b172, (f173 + Int.toNat (IntKind.i64.wrap x168) * 6), none⟩)), (85, .agg (flat [sg x171.Key, sg x171.Val, sb x171.Gone, su x171.TS, si x171.DC, si x171.Tx]).toArray), (86, .slice p99 nn c100), (87, vi (IntKind.i64.wrap x166)), (88, .pointer (some ⟨b175, (f176 + Int.toNat (IntKind.i64.wrap x166) * 6), none⟩)), (89, .agg (flat [sg x174.Key, sg x174.Val, sb x174.Gone, su x174.TS, si x174.DC, si x174.Tx]).toArray), (90, .pointer (some ⟨b178, (f179 + Int.toNat (IntKind.i64.wrap x166) * 6), none⟩)), (91, .pointer (some ⟨b181, (f182 + Int.toNat (IntKind.i64.wrap x168) * 6), none⟩))])) [0, 2, 3, 4, 11, 12, 13, 16, 20, 53, 54, 55, 78, 79, 80, 81, 82, 83, 84, 85, 86, 87, 88, 89, 90, 91] rfl (by kernel_rfl) fun a w hF hS => ?_
 refine ⟨notE, ?_⟩
 refine and_ ?_
 cases hv170
 exact ⟨_, hF.kp [0, 2, 3, 4, 11, 12, 13, 16, 53, 54, 55], hS.sp [1, 2, 3, 4, 5, 6] [2, 3, 4, 5, 0, 6, 1, 9], trivial⟩
 refine wo_storeTokS (t := f_api_Ver) (y := x177) (z := (T_api_Ver.mk x171.Key x171.Val x171.Gone x171.TS x171.DC x171.Tx)) (v := .agg (flat [sg x171.Key, sg x171.Val, sb x171.Gone, su x171.TS, si x171.DC, si x171.Tx]).toArray) (vs := (flat [sg x171.Key, sg x171.Val, sb x171.Gone, su x171.TS, si x171.DC, si x171.Tx])) (sz := 6) hF hS hfr hf97 hw97 hR97 (by kernel_rfl) 3 7 9 10 0 rfl rfl (by kernel_rfl) rfl rfl rfl hpx177 hx177 rfl (by kernel_rfl) (by kernel_rfl) rfl (show segGood [sg x171.Key, sg x171.Val, sb x171.Gone, su x171.TS, si x171.DC, si x171.Tx] from (sgN 6 sgNil)).2 rfl (by decide) rfl rfl (nfC nfB (nfC nfB (nfC nfB (nfC nfT (nfC nfT (nfC nfO (nfC nfO nfN))))))) [0, 2, 3, 4, 1] [0, 2, 10] (Ra := [Ro.mp f_api_Ver.ty p18 c19 x17, Ro.mp (fInt .u64).ty p8 c9 a7, Map.mp kStr false (tSl f_api_Ver.ty) p23 m24 c25 x21.chains, Map.mp kStr false (tSl f_api_Ver.ty) p28 m29 c30 x26.chains, Ro.mp tA68 p5 c6 a4]) (Rb := [ml (List.replicate 2 0) 2, ml x159 2, MP.old p99 w97]) rfl rfl (by intro m hm; simp only [List.mem_cons, List.not_mem_nil, or_false] at hm; rcases hm with rfl | rfl | rfl <;> first | exact apart_const _ _ | exact apart_const _ _ | exact apart_const _ _) (Cf := (fun nn => [.box b162 68 [ei 2 x159], .box b27 130 [(1, [.map p28]), su x26.floor], .box b22 130 [(1, [.map p23]), su x21.floor], .tok p99 37 6 nn c100, .tok p18 37 6 (x17).length c19, .ext (objX p28 (.map m29 c30)), .ext (objX p23 (.map m24 c25))])) (Lf := (fun nn => [(0, .slice p18 (x17).length c19), (2, .slice p8 (a7).length c9), (3, .string (a10)), (4, vu a11), (11, pt b22 0), (12, pt b27 0), (13, vu y86), (16, .slice p99 nn c100), (20, vi (IntKind.i64.wrap x168)), (53, .slice p5 (a4).length c6), (54, vi ((a4).length : Int)), (55, vi y154), (78, .slice p99 nn c100), (79, vi (IntKind.i64.wrap x166)), (82, .slice p99 nn c100), (83, vi (IntKind.i64.wrap x168)), (84, .pointer (some ⟨b172, (f173 + Int.toNat (IntKind.i64.wrap x168) * 6), none⟩)), (85, .agg (flat [sg x171.Key, sg x171.Val, sb x171.Gone, su x171.TS, si x171.DC, si x171.Tx]).toArray), (86, .slice p99 nn c100), (87, vi (IntKind.i64.wrap x166)), (88, .pointer (some ⟨b175, (f176 + Int.toNat (IntKind.i64.wrap x166) * 6), none⟩)), (89, .agg (flat [sg x174.Key, sg x174.Val, sb x174.Gone, su x174.TS, si x174.DC, si x174.Tx]).toArray), (90, .pointer (some ⟨b178, (f179 + Int.toNat (IntKind.i64.wrap x166) * 6), none⟩))])) [0, 2, 3, 4, 11, 12, 13, 16, 20, 53, 54, 55, 78, 79, 82, 83, 84, 85, 86, 87, 88, 89, 90] rfl (by kernel_rfl) fun a w hF hS => ?_
 refine ⟨notE, ?_⟩
 refine ago2 2 3 hF rfl rfl ?_ ?_
 refine wo_pure (v := .slice p99 ((List.set y153 (Int.toNat (IntKind.i64.wrap x166)) (T_api_Ver.mk x171.Key x171.Val x171.Gone x171.TS x171.DC x171.Tx))).length c100) hF (by kernel_rfl) (by kernel_rfl) fun a hF => ?_
 refine ⟨notE, ?_⟩
 refine ago 3 hF rfl ?_
 refine wo_pure (v := vi (IntKind.i64.wrap x168)) hF (by kernel_rfl) (by kernel_rfl) fun a hF => ?_
 refine ⟨notE, ?_⟩
 refine ago 14 hF rfl ?_
 refine bind_split hv170 (fun x180 hx180 hv170 => ?_)
 refine wo_index hF hS (by kernel_rfl) 0 (E := 37) (sz := 6) rfl rfl rfl (by kernel_rfl) rfl hx180 (by kernel_rfl) (by kernel_rfl) fun b181 f182 a hpx180 hF => ?_
 refine ⟨notE, ?_⟩
 refine ago 15 hF rfl ?_
 refine wo_storeTokS (t := f_api_Ver) (y := x180) (z := (T_api_Ver.mk x174.Key x174.Val x174.Gone x174.TS x174.DC x174.Tx)) (v := .agg (flat [sg x174.Key, sg x174.Val, sb x174.Gone, su x174.TS, si x174.DC, si x174.Tx]).toArray) (vs := (flat [sg x174.Key, sg x174.Val, sb x174.Gone, su x174.TS, si x174.DC, si x174.Tx])) (sz := 6) hF hS hfr hf97 hw97 hR97 (by kernel_rfl) 3 0 1 9 0 rfl rfl (by kernel_rfl) rfl rfl rfl hpx180 hx180 rfl (by kernel_rfl) (by kernel_rfl) rfl (show segGood [sg x174.Key, sg x174.Val, sb x174.Gone, su x174.TS, si x174.DC, si x174.Tx] from (sgN 6 sgNil)).2 rfl (by decide) rfl rfl (nfC nfB (nfC nfB (nfC nfB (nfC nfT (nfC nfT (nfC nfO (nfC nfO nfN))))))) [0, 2, 3, 4, 1] [7, 8, 9] (Ra := [Ro.mp f_api_Ver.ty p18 c19 x17, Ro.mp (fInt .u64).ty p8 c9 a7, Map.mp kStr false (tSl f_api_Ver.ty) p23 m24 c25 x21.chains, Map.mp kStr false (tSl f_api_Ver.ty) p28 m29 c30 x26.chains, Ro.mp tA68 p5 c6 a4]) (Rb := [ml (List.replicate 2 0) 2, ml x159 2, MP.old p99 w97]) rfl rfl (by intro m hm; simp only [List.mem_cons, List.not_mem_nil, or_false] at hm; rcases hm with rfl | rfl | rfl <;> first | exact apart_const _ _ | exact apart_const _ _ | exact apart_const _ _) (Cf := (fun nn => [.box b162 68 [ei 2 x159], .box b27 130 [(1, [.map p28]), su x26.floor], .box b22 130 [(1, [.map p23]), su x21.floor], .tok p99 37 6 nn c100, .tok p18 37 6 (x17).length c19, .ext (objX p28 (.map m29 c30)), .ext (objX p23 (.map m24 c25))])) (Lf := (fun nn => [(0, .slice p18 (x17).length c19), (2, .slice p8 (a7).length c9), (3, .string (a10)), (4, vu a11), (11, pt b22 0), (12, pt b27 0), (13, vu y86), (16, .slice p99 nn c100), (20, vi (IntKind.i64.wrap x168)), (53, .slice p5 (a4).length c6), (54, vi ((a4).length : Int)), (55, vi y154), (78, .slice p99 nn c100), (79, vi (IntKind.i64.wrap x166)), (80, .slice p99 nn c100), (81, vi (IntKind.i64.wrap x168)), (82, .slice p99 nn c100), (83, vi (IntKind.i64.wrap x168)), (84, .pointer (some ⟨b172, (f173 + Int.toNat (IntKind.i64.wrap x168) * 6), none⟩)), (85, .agg (flat [sg x171.Key, sg x171.Val, sb x171.Gone, su x171.TS, si x171.DC, si x171.Tx]).toArray), (86, .slice p99 nn c100), (87, vi (IntKind.i64.wrap x166)), (88, .pointer (some ⟨b175, (f176 + Int.toNat (IntKind.i64.wrap x166) * 6), none⟩)), (89, .agg (flat [sg x174.Key, sg x174.Val, sb x174.Gone, su x174.TS, si x174.DC, si x174.Tx]).toArray), (90, .pointer (some ⟨b178, (f179 + Int.toNat (IntKind.i64.wrap x166) * 6), none⟩)), (91, .pointer (some ⟨b181, (f182 + Int.toNat (IntKind.i64.wrap x168) * 6), none⟩))])) [0, 2, 3, 4, 11, 12, 13, 16, 20, 53, 54, 55, 78, 79, 80, 81, 82, 83, 84, 85, 86, 87, 88, 89, 90, 91] rfl (by kernel_rfl) fun a w hF hS => ?_
 refine ⟨notE, ?_⟩
 refine and_ ?_
 cases hv170
 exact ⟨_, hF.kp [0, 2, 3, 4, 11, 12, 13, 16, 53, 54, 55], hS.sp [1, 2, 3, 4, 5, 6] [2, 3, 4, 5, 0, 6, 1, 9], trivial⟩
 refine wo_pure (v := vi (IntKind.i64.wrap x168)) hF (by kernel_rfl) (by kernel_rfl) fun a hF => ?_
 refine ⟨notE, ?_⟩
 refine ago 2 hF rfl ?_
 refine wo_pure (v := .slice p99 ((List.set y153 (Int.toNat (IntKind.i64.wrap x166)) (T_api_Ver.mk x171.Key x171.Val x171.Gone x171.TS x171.DC x171.Tx))).length c100) hF (by kernel_rfl) (by kernel_rfl) fun a hF => ?_
 refine ⟨notE, ?_⟩
 refine ago 14 hF rfl ?_
 refine bind_split hv170 (fun x180 hx180 hv170 => ?_)
 refine wo_index hF hS (by kernel_rfl) 0 (E := 37) (sz := 6) rfl rfl rfl (by kernel_rfl) rfl hx180 (by kernel_rfl) (by kernel_rfl) fun b181 f182 a hpx180 hF => ?_
 refine ⟨notE, ?_⟩
 refine ago 15 hF rfl ?_
 refine wo_storeTokS (t := f_api_Ver) (y := x180) (z := (T_api_Ver.mk x174.Key x174.Val x174.Gone x174.TS x174.DC x174.Tx)) (v := .agg (flat [sg x174.Key, sg x174.Val, sb x174.Gone, su x174.TS, si x174.DC, si x174.Tx]).toArray) (vs := (flat [sg x174.Key, sg x174.Val, sb x174.Gone, su x174.TS, si x174.DC, si x174.Tx])) (sz := 6) hF hS hfr hf97 hw97 hR97 (by kernel_rfl) 3 0 1 9 0 rfl rfl (by kernel_rfl) rfl rfl rfl hpx180 hx180 rfl (by kernel_rfl) (by kernel_rfl) rfl (show segGood [sg x174.Key, sg x174.Val, sb x174.Gone, su x174.TS, si x174.DC, si x174.Tx] from (sgN 6 sgNil)).2 rfl (by decide) rfl rfl (nfC nfB (nfC nfB (nfC nfB (nfC nfT (nfC nfT (nfC nfO (nfC nfO nfN))))))) [0, 2, 3, 4, 1] [7, 8, 9] (Ra := [Ro.mp f_api_Ver.ty p18 c19 x17, Ro.mp (fInt .u64).ty p8 c9 a7, Map.mp kStr false (tSl f_api_Ver.ty) p23 m24 c25 x21.chains, Map.mp kStr false (tSl f_api_Ver.ty) p28 m29 c30 x26.chains, Ro.mp tA68 p5 c6 a4]) (Rb := [ml (List.replicate 2 0) 2, ml x159 2, MP.old p99 w97]) rfl rfl (by intro m hm; simp only [List.mem_cons, List.not_mem_nil, or_false] at hm; rcases hm with rfl | rfl | rfl <;> first | exact apart_const _ _ | exact apart_const _ _ | exact apart_const _ _) (Cf := (fun nn => [.box b162 68 [ei 2 x159], .box b27 130 [(1, [.map p28]), su x26.floor], .box b22 130 [(1, [.map p23]), su x21.floor], .tok p99 37 6 nn c100, .tok p18 37 6 (x17).length c19, .ext (objX p28 (.map m29 c30)), .ext (objX p23 (.map m24 c25))])) (Lf := (fun nn => [(0, .slice p18 (x17).length c19), (2, .slice p8 (a7).length c9), (3, .string (a10)), (4, vu a11), (11, pt b22 0), (12, pt b27 0), (13, vu y86), (16, .slice p99 nn c100), (20, vi (IntKind.i64.wrap x168)), (53, .slice p5 (a4).length c6), (54, vi ((a4).length : Int)), (55, vi y154), (78, .slice p99 nn c100), (79, vi (IntKind.i64.wrap x166)), (80, .slice p99 nn c100), (81, vi (IntKind.i64.wrap x168)), (82, .slice p99 nn c100), (83, vi (IntKind.i64.wrap x168)), (84, .pointer (some ⟨b172, (f173 + Int.toNat (IntKind.i64.wrap x168) * 6), none⟩)), (85, .agg (flat [sg x171.Key, sg x171.Val, sb x171.Gone, su x171.TS, si x171.DC, si x171.Tx]).toArray), (86, .slice p99 nn c100), (87, vi (IntKind.i64.wrap x166)), (88, .pointer (some ⟨b175, (f176 + Int.toNat (IntKind.i64.wrap x166) * 6), none⟩)), (89, .agg (flat [sg x174.Key, sg x174.Val, sb x174.Gone, su x174.TS, si x174.DC, si x174.Tx]).toArray), (90, .pointer (some ⟨b178, (f179 + Int.toNat (IntKind.i64.wrap x166) * 6), none⟩)), (91, .pointer (some ⟨b181, (f182 + Int.toNat (IntKind.i64.wrap x168) * 6), none⟩))])) [0, 2, 3, 4, 11, 12, 13, 16, 20, 53, 54, 55, 78, 79, 80, 81, 82, 83, 84, 85, 86, 87, 88, 89, 90, 91] rfl (by kernel_rfl) fun a w hF hS => ?_
 refine ⟨notE, ?_⟩
 refine and_ ?_
 cases hv170
 exact ⟨_, hF.kp [0, 2, 3, 4, 11, 12, 13, 16, 53, 54, 55], hS.sp [1, 2, 3, 4, 5, 6] [2, 3, 4, 5, 0, 6, 1, 9], trivial⟩
 rintro a w ⟨κ, hF, hS, -⟩
 exact ⟨_, v170, hF.kp [0, 2, 3, 4, 11, 12, 13, 16, 53, 54, 55], hS.sp (rg 6) (rg 8), H⟩
 refine cond_f hF (by kernel_rfl) hb ?_
 refine wpIn_skip ?_
 exact ⟨_, y153, hF.kp [0, 2, 3, 4, 11, 12, 13, 16, 53, 54, 55], hS.sp [1, 2, 3, 4, 5, 6] [3, 4, 5, 6, 7, 8, 9, 10], H⟩
 rintro a w ⟨κ, y157, hF, hS, H⟩
 unfold M.law10_StoreOrder_k3 at H
 refine wpIn_region_lit ?_
 refine wp 2 [0, 2, 3, 4, 11, 12, 13, 16, 53, 54, 55] hF fun a hF => ?_
 refine wpListIn_nil ?_
 exact ⟨fuel2, Nat.lt_succ_self _, _, y157, IntKind.i64.wrap (y154 + 1), hF.kp [0, 2, 3, 4, 11, 12, 13, 16, 53, 54, 55], hS.sp (rg 6) (rg 8), H⟩
 refine cond_f hF (by kernel_rfl) hb ?_
 refine wpIn_exit ?_
 refine hK101 _ _ ?_
 refine wpIn_seq_k fun K183 hK183 => ?_
 refine wpIn_region_lit ?_
 refine wp 2 [2, 3, 4, 11, 12, 13, 16, 93, 94] hF fun a hF => ?_
 refine bind_split H (fun x184 hx184 H => ?_)
 refine wc (wcS 2 [1, 5, 0, 2, 3, 4] hF hS (fun hS => C_store_Store_Load N (T_store_Store.mk x21.chains x21.floor) x17 p23 m24 c25 p18 c19 b22 ⟨rfl, hS.pick [2, 0] (by kernel_rfl)⟩ hx184) ?_)
 rintro _ κ w a ⟨p185, m186, c187, rfl, h2⟩ hF hB
 have hS := hB _ _ h2
 refine wpListIn_nil ?_
 refine hK183 _ _ ?_
 refine wpIn_seq_k fun K188 hK188 => ?_
 refine wpIn_region_lit ?_
 refine wp 2 [2, 3, 4, 11, 12, 13, 16, 96, 97] hF fun a hF => ?_
 refine bind_split H (fun x189 hx189 H => ?_)
 refine wc (wcS 2 (rg 6) hF hS (fun hS => C_store_Store_Trim N (T_store_Store.mk x184.2.chains x184.2.floor) y86 p185 m186 c187 b22 ⟨rfl, hS.pick [0] (by kernel_rfl)⟩ hx189) ?_)
 rintro _ κ w a ⟨p190, m191, c192, rfl, h2⟩ hF hB
 have hS := (hB _ _ h2).cC (C' := [.box b22 130 [(1, [.map p190]), su x189.2.floor], .ext (objX p190 (.map m191 c192)), .box b27 130 [(1, [.map p28]), su x26.floor], .tok p99 37 6 (y153).length c100, .tok p18 37 6 (x17).length c19, .ext (objX p28 (.map m29 c30))])
 refine wpListIn_nil ?_
 refine hK188 _ _ ?_
 refine wpIn_seq_k fun K193 hK193 => ?_
 refine wpIn_seq_k fun K194 hK194 => ?_
 refine wpIn_region_lit ?_
 refine wp 3 [2, 3, 4, 11, 12, 13, 99, 100, 101] hF fun a hF => ?_
 refine wpListIn_nil ?_
 refine hK194 _ _ ?_
 refine wpIn_block ?_
 refine loop_fuel (n := N) (fun n a w => ∃ (κ : Gh) (p245 : Option Nat) (m246 : Array MapEntry) (c247 : Nat) (y248 : Mp ByteArray (List T_api_Ver)) (y249 y250 : Int), Fr (169) [] [(2, .slice p8 (a7).length c9), (3, .string (a10)), (4, vu a11), (11, pt b22 0), (12, pt b27 0), (13, vu y86), (99, .slice p99 (y153).length c100), (100, vi ((y153).length : Int)), (101, vi y250)] a ∧ SS [] κ0 w0 κ w [.box b22 130 [(1, [.map p190]), su x189.2.floor], .box b27 130 [(1, [.map p245]), su y249], .tok p99 37 6 (y153).length c100, .ext (objX p190 (.map m191 c192)), .ext (objX p245 (.map m246 c247))] [Ro.mp (fInt .u64).ty p8 c9 a7, Map.mp kStr false (tSl f_api_Ver.ty) p190 m191 c192 x189.2.chains, Map.mp kStr false (tSl f_api_Ver.ty) p245 m246 c247 y248, Ro.mp f_api_Ver.ty p99 c100 y153, MP.since κ97 w97, MP.old p99 w97] ∧ M.law10_StoreOrder_L4 N n a7 a10 a11 y86 y153 x189 y248 y249 y250 = some r) ?_ ?_
 exact ⟨_, p28, m29, c30, x26.chains, x26.floor, 0, hF.kp [2, 3, 4, 11, 12, 13, 99, 100, 101], hS.sp [0, 2, 3, 1, 5] [3, 0, 5, 6, 8, 9], H⟩
 rintro n a w ⟨κ, p245, m246, c247, y248, y249, y250, hF, hS, H⟩
 rcases n with _ | fuel4
 simp [M.law10_StoreOrder_L4] at H
 simp only [M.law10_StoreOrder_L4] at H
 refine wpIn_seq_k fun K251 hK251 => ?_
 refine wpIn_region_lit ?_
 refine wp 1 [2, 3, 4, 11, 12, 13, 99, 100, 101, 102] hF fun a hF => ?_
 refine wpListIn_nil ?_
 refine hK251 _ _ ?_
 refine wpIn_seq_k fun K252 hK252 => ?_
 refine bif_split H (fun hb H => ?_) (fun hb H => ?_)
 refine cond_t hF (by kernel_rfl) hb ?_
 refine wpIn_skip ?_
 refine hK252 _ _ ?_
 refine wpIn_seq_k fun K253 hK253 => ?_
 refine wpIn_block ?_
 refine wpIn_seq_k fun K254 hK254 => ?_
 refine wpIn_region_lit ?_
 refine wl_pure (L' := [(2, .slice p8 (a7).length c9), (3, .string (a10)), (4, vu a11), (11, pt b22 0), (12, pt b27 0), (13, vu y86), (99, .slice p99 (y153).length c100), (100, vi ((y153).length : Int)), (101, vi y250), (103, vi y250)]) 1 [2, 3, 4, 11, 12, 13, 99, 100, 101, 103] hF (by kernel_rfl) fun a hF => ?_
 refine bind_split H (fun x255 hx255 H => ?_)
 refine wc (wo_index hF hS (by kernel_rfl) 3 (E := 37) (sz := 6) rfl rfl rfl (by kernel_rfl) rfl hx255 (by kernel_rfl) (by kernel_rfl) fun b256 f257 a hpx255 hF => ?_)
 refine wc (wo_loadRoAgg (t := f_api_Ver) hF hS (by kernel_rfl) 3 rfl rfl hpx255 rfl hx255 (by kernel_rfl) (by kernel_rfl) (by kernel_rfl) fun a hF => ?_)
 refine wc (wal hF hS [sg ByteArray.empty, sg ByteArray.empty, sb false, su 0, si 0, si 0] (sgN 6 sgNil) fun b258 a w hF hS => ?_)
 refine wp 1 [2, 3, 4, 11, 12, 13, 21, 22, 99, 100, 101, 105] hF fun a hF => ?_
 refine wc (wst hF hS 0 0 6 [sg x255.Key, sg x255.Val, sb x255.Gone, su x255.TS, si x255.DC, si x255.Tx] (sgN 6 sgNil) fun a w hF hS => ?_)
 refine wpListIn_nil ?_
 refine hK254 _ _ ?_
 refine seq_join (fun a w => ∃ (κ : Gh) (p259 : Option Nat) (m260 : Array MapEntry) (c261 : Nat) (y262 : Mp ByteArray (List T_api_Ver)) (y263 : Int), Fr (169) [] [(2, .slice p8 (a7).length c9), (3, .string (a10)), (4, vu a11), (11, pt b22 0), (12, pt b27 0), (13, vu y86), (22, pt b258 0), (99, .slice p99 (y153).length c100), (100, vi ((y153).length : Int)), (101, vi y250)] a ∧ SS [] κ0 w0 κ w [.box b27 130 [(1, [.map p259]), su y263], .box b258 37 [sg x255.Key, sg x255.Val, sb x255.Gone, su x255.TS, si x255.DC, si x255.Tx], .box b22 130 [(1, [.map p190]), su x189.2.floor], .tok p99 37 6 (y153).length c100, .ext (objX p259 (.map m260 c261)), .ext (objX p190 (.map m191 c192))] [Ro.mp (fInt .u64).ty p8 c9 a7, Map.mp kStr false (tSl f_api_Ver.ty) p190 m191 c192 x189.2.chains, Map.mp kStr false (tSl f_api_Ver.ty) p259 m260 c261 y262, Ro.mp f_api_Ver.ty p99 c100 y153, MP.since κ97 w97, MP.old p99 w97] ∧ M.law10_StoreOrder_k5 N (M.law10_StoreOrder_L4 N fuel4) a7 a10 a11 y86 y153 x189 y250 x255 y262 y263 = some r) ?_ ?_
 refine wpIn_seq_k fun K268 hK268 => ?_
 refine wpIn_region_lit ?_
 refine wp 4 [2, 3, 4, 11, 12, 13, 21, 22, 99, 100, 101, 109] hF fun a hF => ?_
 refine wpListIn_nil ?_
 refine hK268 _ _ ?_
 refine bif_split H (fun hb H => ?_) (fun hb H => ?_)
 refine cond_t hF (by kernel_rfl) hb ?_
 refine wpIn_region_lit ?_
 refine wl_pure (L' := [(2, .slice p8 (a7).length c9), (3, .string (a10)), (4, vu a11), (11, pt b22 0), (12, pt b27 0), (13, vu y86), (22, pt b258 0), (99, .slice p99 (y153).length c100), (100, vi ((y153).length : Int)), (101, vi y250), (110, pt b27 0), (111, .slice p8 (a7).length c9), (112, vi y250)]) 3 [2, 3, 4, 11, 12, 13, 22, 99, 100, 101, 110, 111, 112] hF (by kernel_rfl) fun a hF => ?_
 refine bind_split H (fun x269 hx269 H => ?_)
 refine wc (wo_index hF hS (by kernel_rfl) 0 (E := 25) (sz := 1) rfl rfl rfl (by kernel_rfl) rfl hx269 (by kernel_rfl) (by kernel_rfl) fun b270 f271 a hpx269 hF => ?_)
 refine wc (wo_loadRo (t := (fInt .u64)) hF hS (by kernel_rfl) 0 0 (v := vu x269) rfl rfl hpx269 rfl hx269 (by kernel_rfl) (by kernel_rfl) (by kernel_rfl) fun a hF => ?_)
 refine bind_split H (fun x272 hx272 H => ?_)
 refine wc (wcS 2 [2, 5, 0, 1, 3, 4] hF hS (fun hS => C_store_Store_Trim N (T_store_Store.mk y248 y249) x269 p245 m246 c247 b27 ⟨rfl, hS.pick [2] (by kernel_rfl)⟩ hx272) ?_)
 rintro _ κ w a ⟨p273, m274, c275, rfl, h2⟩ hF hB
 have hS := hB _ _ h2
 refine wpListIn_nil ?_
 exact ⟨_, p273, m274, c275, x272.2.chains, x272.2.floor, hF.kp [2, 3, 4, 11, 12, 13, 22, 99, 100, 101], hS.sp [0, 2, 3, 4, 1, 5] [1, 2, 0, 4, 5, 6], H⟩
 refine cond_f hF (by kernel_rfl) hb ?_
 refine wpIn_skip ?_
 exact ⟨_, p245, m246, c247, y248, y249, hF.kp [2, 3, 4, 11, 12, 13, 22, 99, 100, 101], hS.sp [2, 0, 1, 3, 5, 4] (rg 6), H⟩
 rintro a w ⟨κ, p259, m260, c261, y262, y263, hF, hS, H⟩
 unfold M.law10_StoreOrder_k5 at H
 refine wpIn_region_lit ?_
 refine wp 1 [2, 3, 4, 11, 12, 13, 22, 99, 100, 101, 116] hF fun a hF => ?_
 refine wc (wls hF hS 1 0 6 fun a hF => ?_)
 refine bind_split H (fun x264 hx264 H => ?_)
 refine wc (wcS 2 [0, 4, 1, 2, 3, 5] hF hS (fun hS => C_store_Store_Put N (T_store_Store.mk y262 y263) (T_api_Ver.mk x255.Key x255.Val x255.Gone x255.TS x255.DC x255.Tx) p259 m260 c261 b27 ⟨rfl, hS.pick [2] (by kernel_rfl)⟩ hx264) ?_)
 rintro _ κ w a ⟨p265, m266, c267, rfl, h2⟩ hF hB
 have hS := hB _ _ h2
 refine wpListIn_nil ?_
 refine hK253 _ _ ?_
 refine wpIn_region_lit ?_
 refine wp 2 [2, 3, 4, 11, 12, 13, 99, 100, 101] hF fun a hF => ?_
 refine wpListIn_nil ?_
 exact ⟨fuel4, Nat.lt_succ_self _, _, p265, m266, c267, x264.2.chains, x264.2.floor, IntKind.i64.wrap (y250 + 1), hF.kp [2, 3, 4, 11, 12, 13, 99, 100, 101], hS.sp [3, 0, 4, 5, 1] [1, 2, 0, 4, 5, 6], H⟩
 refine cond_f hF (by kernel_rfl) hb ?_
 refine wpIn_exit ?_
 refine hK193 _ _ ?_
 refine wpIn_seq_k fun K276 hK276 => ?_
 refine wpIn_region_lit ?_
 refine wp 2 [3, 4, 11, 12, 13, 120, 121] hF fun a hF => ?_
 refine bind_split H (fun x277 hx277 H => ?_)
 refine wc (wcS 2 [1, 4, 0, 2, 3] hF hS (fun hS => C_store_Store_Trim N (T_store_Store.mk y248 y249) y86 p245 m246 c247 b27 ⟨rfl, hS.pick [2] (by kernel_rfl)⟩ hx277) ?_)
 rintro _ κ w a ⟨p278, m279, c280, rfl, h2⟩ hF hB
 have hS := hB _ _ h2
 refine wpListIn_nil ?_
 refine hK276 _ _ ?_
 refine wpIn_seq_k fun K281 hK281 => ?_
 refine wpIn_region_lit ?_
 refine wp 5 [3, 4, 11, 12, 13, 124, 125, 128] hF fun a hF => ?_
 refine bind_split H (fun x282 hx282 H => ?_)
 refine wc (wcS 2 [2, 4, 0, 1, 3] hF hS (fun hS => C_store_Store_Get N (T_store_Store.mk x189.2.chains x189.2.floor) a10 (if y86 > a11 then y86 else a11) p190 m191 c192 b22 ⟨rfl, hS.pick [2] (by kernel_rfl)⟩ hx282) ?_)
 rintro _ κ w a ⟨rfl, h2⟩ hF hB
 have hS := (hB _ _ h2).cC (C' := [.box b22 130 [(1, [.map p190]), su x189.2.floor], .ext (objX p190 (.map m191 c192)), .box b27 130 [(1, [.map p278]), su x277.2.floor], .ext (objX p278 (.map m279 c280)), .tok p99 37 6 (y153).length c100])
 refine wp 4 [3, 4, 11, 12, 13, 130, 131, 132] hF fun a hF => ?_
 refine wc (wal hF hS [sg ByteArray.empty, sg ByteArray.empty, sb false, su 0, si 0, si 0] (sgN 6 sgNil) fun b283 a w hF hS => ?_)
 refine wc (wst hF hS 0 0 6 [sg x282.1.Key, sg x282.1.Val, sb x282.1.Gone, su x282.1.TS, si x282.1.DC, si x282.1.Tx] (sgN 6 sgNil) fun a w hF hS => ?_)
 refine wp 2 [3, 4, 11, 12, 13, 23, 24, 25] hF fun a hF => ?_
 refine wpListIn_nil ?_
 refine hK281 _ _ ?_
 refine wpIn_seq_k fun K284 hK284 => ?_
 refine wpIn_region_lit ?_
 refine wp 5 [11, 12, 23, 24, 25, 134, 135, 138] hF fun a hF => ?_
 refine bind_split H (fun x285 hx285 H => ?_)
 refine wc (wcS 2 [3, 4, 0, 1, 2, 5] hF hS (fun hS => C_store_Store_Get N (T_store_Store.mk x277.2.chains x277.2.floor) a10 (if y86 > a11 then y86 else a11) p278 m279 c280 b27 ⟨rfl, hS.pick [0] (by kernel_rfl)⟩ hx285) ?_)
 rintro _ κ w a ⟨rfl, h2⟩ hF hB
 have hS := hB _ _ h2
 refine wp 4 [11, 12, 23, 24, 25, 140, 141, 142] hF fun a hF => ?_
 refine wc (wal hF hS [sg ByteArray.empty, sg ByteArray.empty, sb false, su 0, si 0, si 0] (sgN 6 sgNil) fun b286 a w hF hS => ?_)
 refine wc (wst hF hS 0 0 6 [sg x285.1.Key, sg x285.1.Val, sb x285.1.Gone, su x285.1.TS, si x285.1.DC, si x285.1.Tx] (sgN 6 sgNil) fun a w hF hS => ?_)
 refine wp 2 [11, 12, 23, 24, 25, 26, 27, 28] hF fun a hF => ?_
 refine wpListIn_nil ?_
 refine hK284 _ _ ?_
 refine wpIn_seq_k fun K287 hK287 => ?_
 refine wpIn_region_lit ?_
 refine bind_split H (fun v289 hv289 H => ?_)
 refine wl_join (fun a w => ∃ κ : Gh, Fr (169) [] [(10, vb v289)] a ∧ SS [] κ0 w0 κ w [] [] ∧ True) ?_ ?_
 refine bind_split hv289 (fun x290 hx290 hv289 => ?_)
 refine wc (wo_callP hF hS (by kernel_rfl) (by kernel_rfl) (C_law10_awake N hS.fresh   ((hS.pick [] (by kernel_rfl)).ro) hx290) ?_)
 rintro _ κ w a ⟨rfl, hR, hN⟩ hF hS hO
 refine wp 1 [11, 12, 23, 24, 25, 26, 27, 28, 144] hF fun a hF => ?_
 refine bif_split hv289 (fun hb hv289 => ?_) (fun hb hv289 => ?_)
 have hF := hF.boolv 144 (by kernel_rfl) hb
 refine wp 4 [11, 12, 23, 24, 26, 27, 28, 148] hF fun a hF => ?_
 refine bif_split hv289 (fun hb hv289 => ?_) (fun hb hv289 => ?_)
 have hF := hF.boolv 148 (by kernel_rfl) hb
 refine wp 4 [11, 12, 23, 24, 26, 27, 152] hF fun a hF => ?_
 refine bif_split hv289 (fun hb hv289 => ?_) (fun hb hv289 => ?_)
 have hF := hF.boolv 152 (by kernel_rfl) hb
 refine wl_pure (L' := [(11, pt b22 0), (12, pt b27 0), (23, pt b283 0), (26, pt b286 0), (157, vb (x282.2.1 == x285.2.1))]) 5 [11, 12, 23, 26, 157] hF (by kernel_rfl) fun a hF => ?_
 refine bif_split hv289 (fun hb hv289 => ?_) (fun hb hv289 => ?_)
 have hF := hF.boolv 157 (by kernel_rfl) hb
 refine wcg hF (wls hF hS 3 0 6 fun a hF => ?_)
 refine wcg hF (wls hF hS 0 0 6 fun a hF => ?_)
 refine wcg hF (wo_val hF (by kernel_rfl) (v := vb (cEq (flat [sg x282.1.Key, sg x282.1.Val, sb x282.1.Gone, su x282.1.TS, si x282.1.DC, si x282.1.Tx]) (flat [sg x285.1.Key, sg x285.1.Val, sb x285.1.Gone, su x285.1.TS, si x285.1.DC, si x285.1.Tx]))) ((val_eq (neg := false) (xs := (flat [sg x282.1.Key, sg x282.1.Val, sb x282.1.Gone, su x282.1.TS, si x282.1.DC, si x282.1.Tx])) (ys := (flat [sg x285.1.Key, sg x285.1.Val, sb x285.1.Gone, su x285.1.TS, si x285.1.DC, si x285.1.Tx])) (ks := [.str, .str, .bool, .int .u64, .int .i64, .int .i64]) 20 (by decide) rfl (by kernel_rfl) (by kernel_rfl) (by kernel_rfl) (by kernel_rfl) (by kernel_rfl) (by kernel_rfl) (by kernel_rfl)) _) fun a hF => ?_)
 refine wp 2 [11, 12, 162] hF fun a hF => ?_
 refine bif_split hv289 (fun hb hv289 => ?_) (fun hb hv289 => ?_)
 have hF := hF.boolv 162 (by kernel_rfl) hb
 refine wp 1 [12, 162, 163] hF fun a hF => ?_
 refine bind_split hv289 (fun x291 hx291 hv289 => ?_)
 refine wcg hF (wcS 2 [4, 5, 0, 1, 2, 3, 6] hF hS (fun hS => C_law10_All N (T_store_Store.mk x189.2.chains x189.2.floor) (ByteArray.mk #[]) (ByteArray.mk #[]) p190 m191 c192 b22 ⟨rfl, hS.pick [2] (by kernel_rfl)⟩ hx291) ?_)
 rintro _ κ w a ⟨p292, c293, rfl, h2⟩ hF hB
 have hS := (hB _ _ h2).cC (C' := [.box b22 130 [(1, [.map p190]), su x189.2.floor], .ext (objX p190 (.map m191 c192)), .tok p292 37 6 (x291).length c293, .box b286 37 [sg x285.1.Key, sg x285.1.Val, sb x285.1.Gone, su x285.1.TS, si x285.1.DC, si x285.1.Tx], .box b27 130 [(1, [.map p278]), su x277.2.floor], .ext (objX p278 (.map m279 c280)), .box b283 37 [sg x282.1.Key, sg x282.1.Val, sb x282.1.Gone, su x282.1.TS, si x282.1.DC, si x282.1.Tx], .tok p99 37 6 (y153).length c100])
 refine wp 1 [162, 164, 165] hF fun a hF => ?_
 refine bind_split hv289 (fun x294 hx294 hv289 => ?_)
 refine wcg hF (wcS 2 [4, 5, 0, 1, 2, 3, 6, 7] hF hS (fun hS => C_law10_All N (T_store_Store.mk x277.2.chains x277.2.floor) (ByteArray.mk #[]) (ByteArray.mk #[]) p278 m279 c280 b27 ⟨rfl, hS.pick [1] (by kernel_rfl)⟩ hx294) ?_)
 rintro _ κ w a ⟨p295, c296, rfl, h2⟩ hF hB
 have hS := hB _ _ h2
 refine bind_split hv289 (fun x297 hx297 hv289 => ?_)
 refine wcg hF (wo_callP hF hS (by kernel_rfl) (by kernel_rfl) (C_ref04_SameVers N hS.fresh x291 x294 p292 c293 p295 c296 ((hS.pick [1, 0] (by kernel_rfl)).ro) hx297) ?_)
 rintro _ κ w a ⟨rfl, hR, hN⟩ hF hS hO
 refine wp 2 [10] hF fun a hF => ?_
 refine wpListIn_nil ?_
 cases hv289
 exact ⟨_, hF.kp [10], hS.sp [] [], trivial⟩
 have hF := hF.boolv 162 (by kernel_rfl) hb
 refine wp 7 [10] hF fun a hF => ?_
 refine wpListIn_nil ?_
 cases hv289
 exact ⟨_, hF.kp [10], hS.sp [] [], trivial⟩
 have hF := hF.boolv 157 (by kernel_rfl) hb
 refine wp 12 [10] hF fun a hF => ?_
 refine wpListIn_nil ?_
 cases hv289
 exact ⟨_, hF.kp [10], hS.sp [] [], trivial⟩
 have hF := hF.boolv 152 (by kernel_rfl) hb
 refine wp 17 [10] hF fun a hF => ?_
 refine wpListIn_nil ?_
 cases hv289
 exact ⟨_, hF.kp [10], hS.sp [] [], trivial⟩
 have hF := hF.boolv 148 (by kernel_rfl) hb
 refine wp 21 [10] hF fun a hF => ?_
 refine wpListIn_nil ?_
 cases hv289
 exact ⟨_, hF.kp [10], hS.sp [] [], trivial⟩
 have hF := hF.boolv 144 (by kernel_rfl) hb
 refine wp 25 [10] hF fun a hF => ?_
 refine wpListIn_nil ?_
 cases hv289
 exact ⟨_, hF.kp [10], hS.sp [] [], trivial⟩
 rintro a w ⟨κ, hF, hS, -⟩
 refine hK287 _ _ ?_
 refine wpIn_ret ?_
 cases H
 exact (ret_done hF hS (res1 Try.results9 (rvt hF)) ⟨rfl, (hS.pick [] (by kernel_rfl)).ro, hS.newC [] (by decide) (by kernel_rfl)⟩)
end Go.Cf
