/- The walks: each function returns what its model says. Printed by a program of ours. -/
import Derived.Test.YteeafoagaaedcaaZM1
import Derived.Test.YteeafoagaaedcaaZWs1
import Derived.Test.YteeafoagaaedcaaZWs2
namespace Go.Cf
open Go Go.Proofs
set_option linter.unusedVariables false
set_option maxRecDepth 20000 in
set_option maxHeartbeats 1000000 in
theorem C_law15_SessionRises (N : Nat) {κ0 : Gh} {w0 : World} (hfr : Fresh κ0 w0) (a1 : (List T_law15_Op)) (p2 : Option Addr) (c3 : Nat) (hR : ∀ m ∈ ([Ro.mp f_law15_Op.ty p2 c3 a1] : List MP), m.p κ0 w0) {r : (Bool)} (H : M.law15_SessionRises N a1 = some r) :
    Calls Try.prog 4 #[.slice p2 (a1).length c3] w0 (Post [] κ0 w0 fun v κ w => v = vb r ∧ (∀ m ∈ ([] : List MP), m.p κ w) ∧ NewC w0 κ w []) := by
 have hS := SS.start hfr hR
 refine enter (N := (84)) (L := [(0, .slice p2 (a1).length c3)]) Try.func4 rfl Try.ntmps4 (show 1 ≤ (84) by decide) rfl fun a hF => ?_
 unfold M.law15_SessionRises at H
 refine wpIn_seq_k fun K4 hK4 => ?_
 refine wpIn_region_lit ?_
 refine wp 1 [0] hF fun a hF => ?_
 refine wpListIn_nil ?_
 refine hK4 _ _ ?_
 refine wpIn_seq_k fun K5 hK5 => ?_
 refine wpIn_region_lit ?_
 refine bind_split H (fun x6 hx6 H => ?_)
 refine wc (wcS 0 [] hF hS (fun hS => C_session_New N    ⟨rfl, hS.pick [] (by kernel_rfl)⟩ hx6) ?_)
 rintro _ κ w a ⟨b7, p8, m9, c10, p11, m12, c13, rfl, h2⟩ hF hB
 have hS := hB _ _ h2
 refine wp 1 [0, 3] hF fun a hF => ?_
 refine wpListIn_nil ?_
 refine hK5 _ _ ?_
 refine wpIn_seq_k fun K14 hK14 => ?_
 refine wpIn_seq_k fun K15 hK15 => ?_
 refine wpIn_region_lit ?_
 refine wp 2 [0, 3, 10] hF fun a hF => ?_
 refine wpListIn_nil ?_
 refine hK15 _ _ ?_
 refine cond_f hF (by kernel_rfl) rfl ?_
 refine wpIn_skip ?_
 refine hK14 _ _ ?_
 refine wpIn_seq_k fun K16 hK16 => ?_
 refine wpIn_seq_k fun K17 hK17 => ?_
 refine wpIn_region_lit ?_
 refine wp 1 [0, 3, 4] hF fun a hF => ?_
 refine wpListIn_nil ?_
 refine hK17 _ _ ?_
 refine wpIn_block ?_
 refine loop_fuel (n := N) (fun n a w => ∃ (κ : Gh) (y68 y69 : Int) (y70 : Bool) (p71 : Option Nat) (m72 : Array MapEntry) (c73 : Nat) (y74 : Mp ByteArray T_api_Ver) (p75 : Option Nat) (m76 : Array MapEntry) (c77 : Nat) (y78 : Mp ByteArray T_api_Ver) (y79 : Int), Fr (84) [] [(0, .slice p2 (a1).length c3), (3, pt b7 0), (4, vi y79)] a ∧ SS [] κ0 w0 κ w [.box b7 121 [su y68, su y69, sb y70, (1, [.map p71]), (1, [.map p75])], .ext (objX p71 (.map m72 c73)), .ext (objX p75 (.map m76 c77))] [Ro.mp f_law15_Op.ty p2 c3 a1, Map.mp kStr true f_api_Ver.ty p71 m72 c73 y74, Map.mp kStr true f_api_Ver.ty p75 m76 c77 y78] ∧ M.law15_SessionRises_L1 N n a1 y68 y69 y70 y74 y78 y79 = some r) ?_ ?_
 exact ⟨_, x6.snap, x6.dep, x6.open_, p8, m9, c10, x6.writes, p11, m12, c13, x6.cache, 0, hF.kp [0, 3, 4], hS.sp [0, 1, 2] [2, 0, 1], H⟩
 rintro n a w ⟨κ, y68, y69, y70, p71, m72, c73, y74, p75, m76, c77, y78, y79, hF, hS, H⟩
 rcases n with _ | fuel1
 simp [M.law15_SessionRises_L1] at H
 simp only [M.law15_SessionRises_L1] at H
 refine wpIn_seq_k fun K80 hK80 => ?_
 refine wpIn_seq_k fun K81 hK81 => ?_
 refine wpIn_region_lit ?_
 refine bind_split H (fun v83 hv83 H => ?_)
 refine wl_join (fun a w => ∃ κ : Gh, Fr (84) [] [(0, .slice p2 (a1).length c3), (3, pt b7 0), (4, vi y79), (18, vb v83)] a ∧ SS [] κ0 w0 κ w [.box b7 121 [su y68, su y69, sb y70, (1, [.map p71]), (1, [.map p75])], .ext (objX p71 (.map m72 c73)), .ext (objX p75 (.map m76 c77))] [Ro.mp f_law15_Op.ty p2 c3 a1, Map.mp kStr true f_api_Ver.ty p71 m72 c73 y74, Map.mp kStr true f_api_Ver.ty p75 m76 c77 y78] ∧ True) ?_ ?_
 refine wp 5 [0, 3, 4, 15] hF fun a hF => ?_
 refine bif_split hv83 (fun hb hv83 => ?_) (fun hb hv83 => ?_)
 have hF := hF.boolv 15 (by kernel_rfl) hb
 refine wp 3 [0, 3, 4, 18] hF fun a hF => ?_
 refine wpListIn_nil ?_
 cases hv83
 exact ⟨_, hF.kp [0, 3, 4, 18], hS.sp [0, 1, 2] [0, 1, 2], trivial⟩
 have hF := hF.boolv 15 (by kernel_rfl) hb
 refine wp 3 [0, 3, 4, 18] hF fun a hF => ?_
 refine wpListIn_nil ?_
 cases hv83
 exact ⟨_, hF.kp [0, 3, 4, 18], hS.sp [0, 1, 2] [0, 1, 2], trivial⟩
 rintro a w ⟨κ, hF, hS, -⟩
 refine hK81 _ _ ?_
 refine bif_split H (fun hb H => ?_) (fun hb H => ?_)
 refine cond_t hF (by kernel_rfl) hb ?_
 refine wpIn_skip ?_
 refine hK80 _ _ ?_
 refine wpIn_seq_k fun K84 hK84 => ?_
 refine wpIn_block ?_
 refine wpIn_seq_k fun K85 hK85 => ?_
 refine wpIn_region_lit ?_
 refine wp 1 [0, 3, 4, 21] hF fun a hF => ?_
 refine bind_split H (fun x86 hx86 H => ?_)
 refine wc (wcS 3 [0, 1, 2] hF hS (fun hS => C_session_Session_Snap N (T_session_Session.mk y68 y69 y70 y74 y78) p71 m72 c73 p75 m76 c77 b7 ⟨rfl, hS.pick [1, 2] (by kernel_rfl)⟩ hx86) ?_)
 rintro _ κ w a ⟨rfl, h2⟩ hF hB
 have hS := hB _ _ h2
 refine wp 1 [0, 3, 4, 22, 23] hF fun a hF => ?_
 refine bind_split H (fun x87 hx87 H => ?_)
 refine wc (wcS 3 [0, 1, 2] hF hS (fun hS => C_session_Session_Low N (T_session_Session.mk y68 y69 y70 y74 y78) p71 m72 c73 p75 m76 c77 b7 ⟨rfl, hS.pick [1, 2] (by kernel_rfl)⟩ hx87) ?_)
 rintro _ κ w a ⟨rfl, h2⟩ hF hB
 have hS := hB _ _ h2
 refine wp 2 [0, 3, 4, 5, 6] hF fun a hF => ?_
 refine wpListIn_nil ?_
 refine hK85 _ _ ?_
 refine wpIn_seq_k fun K88 hK88 => ?_
 refine wpIn_region_lit ?_
 refine wl_pure (L' := [(0, .slice p2 (a1).length c3), (3, pt b7 0), (4, vi y79), (5, vu x86), (6, vu x87), (25, pt b7 0), (26, .slice p2 (a1).length c3), (27, vi y79)]) 3 [0, 3, 4, 5, 6, 25, 26, 27] hF (by kernel_rfl) fun a hF => ?_
 refine bind_split H (fun x89 hx89 H => ?_)
 refine wc (wo_index hF hS (by kernel_rfl) 0 (E := 34) (sz := 8) rfl rfl rfl (by kernel_rfl) rfl hx89 (by kernel_rfl) (by kernel_rfl) fun b90 f91 a hpx89 hF => ?_)
 refine wc (wo_loadRoAgg (t := f_law15_Op) hF hS (by kernel_rfl) 0 rfl rfl hpx89 rfl hx89 (by kernel_rfl) (by kernel_rfl) (by kernel_rfl) fun a hF => ?_)
 refine bind_split H (fun x92 hx92 H => ?_)
 refine wc (wcS 3 [0, 1, 2] hF hS (fun hS => C_law15_do N (T_session_Session.mk y68 y69 y70 y74 y78) (T_law15_Op.mk x89.Kind x89.Key x89.Val x89.Gone x89.T (T_api_Mark.mk x89.Mark.TS x89.Mark.DC x89.Mark.Tx)) p71 m72 c73 p75 m76 c77 b7 ⟨rfl, hS.pick [1, 2] (by kernel_rfl)⟩ hx92) ?_)
 rintro _ κ w a ⟨p93, m94, c95, p96, m97, c98, rfl, h2⟩ hF hB
 have hS := hB _ _ h2
 refine wp 1 [0, 3, 4, 5, 6, 7] hF fun a hF => ?_
 refine wpListIn_nil ?_
 refine hK88 _ _ ?_
 refine wpIn_seq_k fun K99 hK99 => ?_
 refine wpIn_seq_k fun K100 hK100 => ?_
 refine wpIn_region_lit ?_
 refine bind_split H (fun v102 hv102 H => ?_)
 refine wl_join (fun a w => ∃ κ : Gh, Fr (84) [] [(0, .slice p2 (a1).length c3), (3, pt b7 0), (4, vi y79), (6, vu x87), (7, vi x92.1), (47, vb v102)] a ∧ SS [] κ0 w0 κ w [.box b7 121 [su x92.2.snap, su x92.2.dep, sb x92.2.open_, (1, [.map p93]), (1, [.map p96])], .ext (objX p93 (.map m94 c95)), .ext (objX p96 (.map m97 c98))] [Ro.mp f_law15_Op.ty p2 c3 a1, Map.mp kStr true f_api_Ver.ty p93 m94 c95 x92.2.writes, Map.mp kStr true f_api_Ver.ty p96 m97 c98 x92.2.cache] ∧ True) ?_ ?_
 refine wp 1 [0, 3, 4, 5, 6, 7, 31] hF fun a hF => ?_
 refine bind_split hv102 (fun x103 hx103 hv102 => ?_)
 refine wc (wcS 3 [0, 1, 2] hF hS (fun hS => C_session_Session_Snap N (T_session_Session.mk x92.2.snap x92.2.dep x92.2.open_ x92.2.writes x92.2.cache) p93 m94 c95 p96 m97 c98 b7 ⟨rfl, hS.pick [0, 1] (by kernel_rfl)⟩ hx103) ?_)
 rintro _ κ w a ⟨rfl, h2⟩ hF hB
 have hS := hB _ _ h2
 refine wp 3 [0, 3, 4, 6, 7, 35] hF fun a hF => ?_
 refine bif_split hv102 (fun hb hv102 => ?_) (fun hb hv102 => ?_)
 have hF := hF.boolv 35 (by kernel_rfl) hb
 refine wp 12 [0, 3, 4, 6, 7, 47] hF fun a hF => ?_
 refine wpListIn_nil ?_
 cases hv102
 exact ⟨_, hF.kp [0, 3, 4, 6, 7, 47], hS.sp [0, 1, 2] [2, 0, 1], trivial⟩
 have hF := hF.boolv 35 (by kernel_rfl) hb
 refine wp 1 [0, 3, 4, 6, 7, 35, 36] hF fun a hF => ?_
 refine bind_split hv102 (fun x104 hx104 hv102 => ?_)
 refine wcg hF (wcS 3 [0, 1, 2] hF hS (fun hS => C_session_Session_Low N (T_session_Session.mk x92.2.snap x92.2.dep x92.2.open_ x92.2.writes x92.2.cache) p93 m94 c95 p96 m97 c98 b7 ⟨rfl, hS.pick [0, 1] (by kernel_rfl)⟩ hx104) ?_)
 rintro _ κ w a ⟨rfl, h2⟩ hF hB
 have hS := hB _ _ h2
 refine wp 4 [0, 3, 4, 6, 7, 41] hF fun a hF => ?_
 refine bif_split hv102 (fun hb hv102 => ?_) (fun hb hv102 => ?_)
 have hF := hF.boolv 41 (by kernel_rfl) hb
 refine wp 6 [0, 3, 4, 6, 7, 47] hF fun a hF => ?_
 refine wpListIn_nil ?_
 cases hv102
 exact ⟨_, hF.kp [0, 3, 4, 6, 7, 47], hS.sp [0, 1, 2] [2, 0, 1], trivial⟩
 have hF := hF.boolv 41 (by kernel_rfl) hb
 refine wp 1 [0, 3, 4, 6, 7, 41, 42] hF fun a hF => ?_
 refine bind_split hv102 (fun x105 hx105 hv102 => ?_)
 refine wcg hF (wcS 3 [0, 1, 2] hF hS (fun hS => C_session_Session_Low N (T_session_Session.mk x92.2.snap x92.2.dep x92.2.open_ x92.2.writes x92.2.cache) p93 m94 c95 p96 m97 c98 b7 ⟨rfl, hS.pick [0, 1] (by kernel_rfl)⟩ hx105) ?_)
 rintro _ κ w a ⟨rfl, h2⟩ hF hB
 have hS := hB _ _ h2
 refine wp 1 [0, 3, 4, 6, 7, 41, 43, 44] hF fun a hF => ?_
 refine bind_split hv102 (fun x106 hx106 hv102 => ?_)
 refine wcg hF (wcS 3 [0, 1, 2] hF hS (fun hS => C_session_Session_Snap N (T_session_Session.mk x92.2.snap x92.2.dep x92.2.open_ x92.2.writes x92.2.cache) p93 m94 c95 p96 m97 c98 b7 ⟨rfl, hS.pick [0, 1] (by kernel_rfl)⟩ hx106) ?_)
 rintro _ κ w a ⟨rfl, h2⟩ hF hB
 have hS := hB _ _ h2
 refine wp 2 [0, 3, 4, 6, 7, 47] hF fun a hF => ?_
 refine wpListIn_nil ?_
 cases hv102
 exact ⟨_, hF.kp [0, 3, 4, 6, 7, 47], hS.sp [0, 1, 2] [2, 0, 1], trivial⟩
 rintro a w ⟨κ, hF, hS, -⟩
 refine hK100 _ _ ?_
 refine bif_split H (fun hb H => ?_) (fun hb H => ?_)
 refine cond_t hF (by kernel_rfl) hb ?_
 refine wpIn_seq_k fun K107 hK107 => ?_
 refine wpIn_region_lit ?_
 refine wp 1 [2] hF fun a hF => ?_
 refine wpListIn_nil ?_
 refine hK107 _ _ ?_
 refine wpIn_ret ?_
 cases H
 exact (ret_done hF hS (res1 Try.results4 (rvt hF)) ⟨rfl, (hS.pick [] (by kernel_rfl)).ro, hS.newC [] (by decide) (by kernel_rfl)⟩)
 refine cond_f hF (by kernel_rfl) hb ?_
 refine wpIn_skip ?_
 refine hK99 _ _ ?_
 refine wpIn_seq_k fun K108 hK108 => ?_
 refine bind_split H (fun v110 hv110 H => ?_)
 refine code_join (fun a w => ∃ κ : Gh, Fr (84) [] [(0, .slice p2 (a1).length c3), (3, pt b7 0), (4, vi y79), (82, vb v110)] a ∧ SS [] κ0 w0 κ w [.box b7 121 [su x92.2.snap, su x92.2.dep, sb x92.2.open_, (1, [.map p93]), (1, [.map p96])], .ext (objX p93 (.map m94 c95)), .ext (objX p96 (.map m97 c98))] [Ro.mp f_law15_Op.ty p2 c3 a1, Map.mp kStr true f_api_Ver.ty p93 m94 c95 x92.2.writes, Map.mp kStr true f_api_Ver.ty p96 m97 c98 x92.2.cache] ∧ True) ?_ ?_
 refine rgS hS [] ?_
 have hS := hS.drew
 refine bind_split hv110 (fun x111 hx111 hv110 => ?_)
 refine bif_split hv110 (fun hb114 hv110 => ?_) (fun hb114 hv110 => ?_)
 refine bif_split hv110 (fun hb115 hv110 => ?_) (fun hb115 hv110 => ?_)
 refine bind_split hv110 (fun x116 hx116 hv110 => ?_)
 refine bif_split hv110 (fun hb119 hv110 => ?_) (fun hb119 hv110 => ?_)
 refine any_pure [0, 1] [0, 3, 4, 6, 7, 48, 49] (L' := [(0, .slice p2 (a1).length c3), (3, pt b7 0), (4, vi y79), (6, vu x87), (7, vi x92.1), (48, .slice p2 (a1).length c3), (49, vi y79)]) (listed' := (bitA 35 3)) (fuel := 33) hF (hS.sx [0, 1, 2] [0, 1, 2]) (by kernel_rfl) (by intro c a w t v h; cases t <;> exact h) (by kernel_rfl) rfl fun a hF => ?_
 obtain ⟨b112, f113, hpx111⟩ := hS.ptr 0 rfl hx111
 refine atk 2 (some 50) hF (hS.sx [0, 1, 2] [0, 1, 2]) rfl (fun w _ => val_index (E := 34) (sz := 8) rfl hpx111 rfl (by kernel_rfl) rfl hx111 (by kernel_rfl) (by kernel_rfl) w) fun a hF => ?_
 refine any_pure [3] [0, 3, 4, 6, 7, 51] (L' := [(0, .slice p2 (a1).length c3), (3, pt b7 0), (4, vi y79), (6, vu x87), (7, vi x92.1), (51, .pointer (some ⟨b112, (f113 + Int.toNat y79 * 8), none⟩))]) (listed' := (bitA 35 15)) (fuel := 31) hF (hS.sx [0, 1, 2] [0, 1, 2]) (by kernel_rfl) (by intro c a w t v h; cases t <;> exact h) (by kernel_rfl) rfl fun a hF => ?_
 refine atk 4 (some 52) hF (hS.sx [0, 1, 2] [0, 1, 2]) rfl (val_loadRo (t := f_law15_Op) 0 0 (v := vi x111.Kind) rfl rfl hpx111 rfl hx111 (by kernel_rfl) (by kernel_rfl) (by kernel_rfl)) fun a hF => ?_
 refine anp [5, 6] [0, 3, 4, 6, 7, 54] hF (hS.sx [0, 1, 2] [0, 1, 2]) fun a hF => ?_
 have hF := hF.boolv 54 (by kernel_rfl) hb114
 refine anp [7, 8, 9, 10] [0, 3, 4, 6, 58] hF (hS.sx [0, 1, 2] [0, 1, 2]) fun a hF => ?_
 have hF := hF.boolv 58 (by kernel_rfl) hb115
 refine any_pure [11, 12, 17] [0, 3, 4, 58, 59, 60, 65] (L' := [(0, .slice p2 (a1).length c3), (3, pt b7 0), (4, vi y79), (58, vb true), (59, .slice p2 (a1).length c3), (60, vi y79), (65, vu x87)]) (listed' := (bitA 35 139263)) (fuel := 21) hF (hS.sx [0, 1, 2] [0, 1, 2]) (by kernel_rfl) (by intro c a w t v h; cases t <;> exact h) (by kernel_rfl) rfl fun a hF => ?_
 obtain ⟨b117, f118, hpx116⟩ := hS.ptr 0 rfl hx116
 refine atk 13 (some 61) hF (hS.sx [0, 1, 2] [0, 1, 2]) rfl (fun w _ => val_index (E := 34) (sz := 8) rfl hpx116 rfl (by kernel_rfl) rfl hx116 (by kernel_rfl) (by kernel_rfl) w) fun a hF => ?_
 refine any_pure [14, 15] [0, 3, 4, 58, 63, 65] (L' := [(0, .slice p2 (a1).length c3), (3, pt b7 0), (4, vi y79), (58, vb true), (63, .pointer (some ⟨b117, (f118 + Int.toNat y79 * 8) + 5, none⟩)), (65, vu x87)]) (listed' := (bitA 35 196607)) (fuel := 18) hF (hS.sx [0, 1, 2] [0, 1, 2]) (by kernel_rfl) (by intro c a w t v h; cases t <;> exact h) (by kernel_rfl) rfl fun a hF => ?_
 refine atk 16 (some 64) hF (hS.sx [0, 1, 2] [0, 1, 2]) rfl (val_loadRo (t := f_law15_Op) 0 5 (v := vu x116.Mark.TS) rfl rfl hpx116 rfl hx116 (by kernel_rfl) (by kernel_rfl) (by kernel_rfl)) fun a hF => ?_
 refine anp [18, 19] [0, 3, 4, 58, 67] hF (hS.sx [0, 1, 2] [0, 1, 2]) fun a hF => ?_
 have hF := hF.boolv 67 (by kernel_rfl) hb119
 refine anp [20, 21, 22, 23, 24, 25, 26, 27, 28, 29, 30, 31, 32, 33, 34] [0, 3, 4, 82] hF (hS.sx [0, 1, 2] [0, 1, 2]) fun a hF => ?_
 refine and_ ?_
 cases hv110
 exact ⟨_, hF.kp [0, 3, 4, 82], hS.sp [0, 1, 2] [0, 1, 2], trivial⟩
 refine bind_split hv110 (fun x120 hx120 hv110 => ?_)
 refine bind_split hv110 (fun x121 hx121 hv110 => ?_)
 refine bif_split hv110 (fun hb124 hv110 => ?_) (fun hb124 hv110 => ?_)
 refine any_pure [0, 1] [0, 3, 4, 6, 7, 48, 49] (L' := [(0, .slice p2 (a1).length c3), (3, pt b7 0), (4, vi y79), (6, vu x87), (7, vi x92.1), (48, .slice p2 (a1).length c3), (49, vi y79)]) (listed' := (bitA 35 3)) (fuel := 33) hF (hS.sx [0, 1, 2] [0, 1, 2]) (by kernel_rfl) (by intro c a w t v h; cases t <;> exact h) (by kernel_rfl) rfl fun a hF => ?_
 obtain ⟨b112, f113, hpx111⟩ := hS.ptr 0 rfl hx111
 refine atk 2 (some 50) hF (hS.sx [0, 1, 2] [0, 1, 2]) rfl (fun w _ => val_index (E := 34) (sz := 8) rfl hpx111 rfl (by kernel_rfl) rfl hx111 (by kernel_rfl) (by kernel_rfl) w) fun a hF => ?_
 refine any_pure [3] [0, 3, 4, 6, 7, 51] (L' := [(0, .slice p2 (a1).length c3), (3, pt b7 0), (4, vi y79), (6, vu x87), (7, vi x92.1), (51, .pointer (some ⟨b112, (f113 + Int.toNat y79 * 8), none⟩))]) (listed' := (bitA 35 15)) (fuel := 31) hF (hS.sx [0, 1, 2] [0, 1, 2]) (by kernel_rfl) (by intro c a w t v h; cases t <;> exact h) (by kernel_rfl) rfl fun a hF => ?_
 refine atk 4 (some 52) hF (hS.sx [0, 1, 2] [0, 1, 2]) rfl (val_loadRo (t := f_law15_Op) 0 0 (v := vi x111.Kind) rfl rfl hpx111 rfl hx111 (by kernel_rfl) (by kernel_rfl) (by kernel_rfl)) fun a hF => ?_
 refine anp [5, 6] [0, 3, 4, 6, 7, 54] hF (hS.sx [0, 1, 2] [0, 1, 2]) fun a hF => ?_
 have hF := hF.boolv 54 (by kernel_rfl) hb114
 refine anp [7, 8, 9, 10] [0, 3, 4, 6, 58] hF (hS.sx [0, 1, 2] [0, 1, 2]) fun a hF => ?_
 have hF := hF.boolv 58 (by kernel_rfl) hb115
 refine any_pure [11, 12, 17] [0, 3, 4, 58, 59, 60, 65] (L' := [(0, .slice p2 (a1).length c3), (3, pt b7 0), (4, vi y79), (58, vb true), (59, .slice p2 (a1).length c3), (60, vi y79), (65, vu x87)]) (listed' := (bitA 35 139263)) (fuel := 21) hF (hS.sx [0, 1, 2] [0, 1, 2]) (by kernel_rfl) (by intro c a w t v h; cases t <;> exact h) (by kernel_rfl) rfl fun a hF => ?_
 obtain ⟨b117, f118, hpx116⟩ := hS.ptr 0 rfl hx116
 refine atk 13 (some 61) hF (hS.sx [0, 1, 2] [0, 1, 2]) rfl (fun w _ => val_index (E := 34) (sz := 8) rfl hpx116 rfl (by kernel_rfl) rfl hx116 (by kernel_rfl) (by kernel_rfl) w) fun a hF => ?_
 refine any_pure [14, 15] [0, 3, 4, 58, 63, 65] (L' := [(0, .slice p2 (a1).length c3), (3, pt b7 0), (4, vi y79), (58, vb true), (63, .pointer (some ⟨b117, (f118 + Int.toNat y79 * 8) + 5, none⟩)), (65, vu x87)]) (listed' := (bitA 35 196607)) (fuel := 18) hF (hS.sx [0, 1, 2] [0, 1, 2]) (by kernel_rfl) (by intro c a w t v h; cases t <;> exact h) (by kernel_rfl) rfl fun a hF => ?_
 refine atk 16 (some 64) hF (hS.sx [0, 1, 2] [0, 1, 2]) rfl (val_loadRo (t := f_law15_Op) 0 5 (v := vu x116.Mark.TS) rfl rfl hpx116 rfl hx116 (by kernel_rfl) (by kernel_rfl) (by kernel_rfl)) fun a hF => ?_
 refine anp [18, 19] [0, 3, 4, 58, 67] hF (hS.sx [0, 1, 2] [0, 1, 2]) fun a hF => ?_
 have hF := hF.boolv 67 (by kernel_rfl) hb119
 refine any_pure [20, 22, 23] [0, 3, 4, 58, 67, 68, 70, 71] (L' := [(0, .slice p2 (a1).length c3), (3, pt b7 0), (4, vi y79), (58, vb true), (67, vb false), (68, pt b7 0), (70, .slice p2 (a1).length c3), (71, vi y79)]) (listed' := (bitA 35 14680063)) (fuel := 12) hF (hS.sx [0, 1, 2] [0, 1, 2]) (by kernel_rfl) (by intro c a w t v h; cases t <;> exact h) (by kernel_rfl) rfl fun a hF => ?_
 obtain ⟨b122, f123, hpx121⟩ := hS.ptr 0 rfl hx121
 refine atk 24 (some 72) hF (hS.sx [0, 1, 2] [0, 1, 2]) rfl (fun w _ => val_index (E := 34) (sz := 8) rfl hpx121 rfl (by kernel_rfl) rfl hx121 (by kernel_rfl) (by kernel_rfl) w) fun a hF => ?_
 refine any_pure [25, 26] [0, 3, 4, 58, 67, 68, 74] (L' := [(0, .slice p2 (a1).length c3), (3, pt b7 0), (4, vi y79), (58, vb true), (67, vb false), (68, pt b7 0), (74, .pointer (some ⟨b122, (f123 + Int.toNat y79 * 8) + 5, none⟩))]) (listed' := (bitA 35 132120575)) (fuel := 9) hF (hS.sx [0, 1, 2] [0, 1, 2]) (by kernel_rfl) (by intro c a w t v h; cases t <;> exact h) (by kernel_rfl) rfl fun a hF => ?_
 refine atk 27 (some 75) hF (hS.sx [0, 1, 2] [0, 1, 2]) rfl (val_loadRo (t := f_law15_Op) 0 5 (v := vu x121.Mark.TS) rfl rfl hpx121 rfl hx121 (by kernel_rfl) (by kernel_rfl) (by kernel_rfl)) fun a hF => ?_
 refine ago 21 hF rfl ?_
 refine wcS 3 [0, 1, 2] hF hS (fun hS => C_session_Session_Low N (T_session_Session.mk x92.2.snap x92.2.dep x92.2.open_ x92.2.writes x92.2.cache) p93 m94 c95 p96 m97 c98 b7 ⟨rfl, hS.pick [1, 2] (by kernel_rfl)⟩ hx120) ?_
 rintro _ κ w a ⟨rfl, h2⟩ hF hB
 have hS := hB _ _ h2
 refine ⟨fun _ => (hS.sx [0, 1, 2] [0, 1, 2]), ?_⟩
 refine anp [28, 29, 30] [0, 3, 4, 58, 78] hF (hS.sx [0, 1, 2] [0, 1, 2]) fun a hF => ?_
 have hF := hF.boolv 78 (by kernel_rfl) hb124
 refine anp [31, 32, 33, 34] [0, 3, 4, 82] hF (hS.sx [0, 1, 2] [0, 1, 2]) fun a hF => ?_
 refine and_ ?_
 cases hv110
 exact ⟨_, hF.kp [0, 3, 4, 82], hS.sp [0, 1, 2] [0, 1, 2], trivial⟩
 refine bind_split hv110 (fun x125 hx125 hv110 => ?_)
 refine any_pure [0, 1] [0, 3, 4, 6, 7, 48, 49] (L' := [(0, .slice p2 (a1).length c3), (3, pt b7 0), (4, vi y79), (6, vu x87), (7, vi x92.1), (48, .slice p2 (a1).length c3), (49, vi y79)]) (listed' := (bitA 35 3)) (fuel := 33) hF (hS.sx [0, 1, 2] [0, 1, 2]) (by kernel_rfl) (by intro c a w t v h; cases t <;> exact h) (by kernel_rfl) rfl fun a hF => ?_
 obtain ⟨b112, f113, hpx111⟩ := hS.ptr 0 rfl hx111
 refine atk 2 (some 50) hF (hS.sx [0, 1, 2] [0, 1, 2]) rfl (fun w _ => val_index (E := 34) (sz := 8) rfl hpx111 rfl (by kernel_rfl) rfl hx111 (by kernel_rfl) (by kernel_rfl) w) fun a hF => ?_
 refine any_pure [3] [0, 3, 4, 6, 7, 51] (L' := [(0, .slice p2 (a1).length c3), (3, pt b7 0), (4, vi y79), (6, vu x87), (7, vi x92.1), (51, .pointer (some ⟨b112, (f113 + Int.toNat y79 * 8), none⟩))]) (listed' := (bitA 35 15)) (fuel := 31) hF (hS.sx [0, 1, 2] [0, 1, 2]) (by kernel_rfl) (by intro c a w t v h; cases t <;> exact h) (by kernel_rfl) rfl fun a hF => ?_
 refine atk 4 (some 52) hF (hS.sx [0, 1, 2] [0, 1, 2]) rfl (val_loadRo (t := f_law15_Op) 0 0 (v := vi x111.Kind) rfl rfl hpx111 rfl hx111 (by kernel_rfl) (by kernel_rfl) (by kernel_rfl)) fun a hF => ?_
 refine anp [5, 6] [0, 3, 4, 6, 7, 54] hF (hS.sx [0, 1, 2] [0, 1, 2]) fun a hF => ?_
 have hF := hF.boolv 54 (by kernel_rfl) hb114
 refine anp [7, 8, 9, 10] [0, 3, 4, 6, 58] hF (hS.sx [0, 1, 2] [0, 1, 2]) fun a hF => ?_
 have hF := hF.boolv 58 (by kernel_rfl) hb115
 refine any_pure [11, 12, 17] [0, 3, 4, 58, 59, 60, 65] (L' := [(0, .slice p2 (a1).length c3), (3, pt b7 0), (4, vi y79), (58, vb true), (59, .slice p2 (a1).length c3), (60, vi y79), (65, vu x87)]) (listed' := (bitA 35 139263)) (fuel := 21) hF (hS.sx [0, 1, 2] [0, 1, 2]) (by kernel_rfl) (by intro c a w t v h; cases t <;> exact h) (by kernel_rfl) rfl fun a hF => ?_
 obtain ⟨b117, f118, hpx116⟩ := hS.ptr 0 rfl hx116
 refine atk 13 (some 61) hF (hS.sx [0, 1, 2] [0, 1, 2]) rfl (fun w _ => val_index (E := 34) (sz := 8) rfl hpx116 rfl (by kernel_rfl) rfl hx116 (by kernel_rfl) (by kernel_rfl) w) fun a hF => ?_
 refine any_pure [14, 15] [0, 3, 4, 58, 63, 65] (L' := [(0, .slice p2 (a1).length c3), (3, pt b7 0), (4, vi y79), (58, vb true), (63, .pointer (some ⟨b117, (f118 + Int.toNat y79 * 8) + 5, none⟩)), (65, vu x87)]) (listed' := (bitA 35 196607)) (fuel := 18) hF (hS.sx [0, 1, 2] [0, 1, 2]) (by kernel_rfl) (by intro c a w t v h; cases t <;> exact h) (by kernel_rfl) rfl fun a hF => ?_
 refine atk 16 (some 64) hF (hS.sx [0, 1, 2] [0, 1, 2]) rfl (val_loadRo (t := f_law15_Op) 0 5 (v := vu x116.Mark.TS) rfl rfl hpx116 rfl hx116 (by kernel_rfl) (by kernel_rfl) (by kernel_rfl)) fun a hF => ?_
 refine anp [18, 19] [0, 3, 4, 58, 67] hF (hS.sx [0, 1, 2] [0, 1, 2]) fun a hF => ?_
 have hF := hF.boolv 67 (by kernel_rfl) hb119
 refine any_pure [20, 22, 23] [0, 3, 4, 58, 67, 68, 70, 71] (L' := [(0, .slice p2 (a1).length c3), (3, pt b7 0), (4, vi y79), (58, vb true), (67, vb false), (68, pt b7 0), (70, .slice p2 (a1).length c3), (71, vi y79)]) (listed' := (bitA 35 14680063)) (fuel := 12) hF (hS.sx [0, 1, 2] [0, 1, 2]) (by kernel_rfl) (by intro c a w t v h; cases t <;> exact h) (by kernel_rfl) rfl fun a hF => ?_
 obtain ⟨b122, f123, hpx121⟩ := hS.ptr 0 rfl hx121
 refine atk 24 (some 72) hF (hS.sx [0, 1, 2] [0, 1, 2]) rfl (fun w _ => val_index (E := 34) (sz := 8) rfl hpx121 rfl (by kernel_rfl) rfl hx121 (by kernel_rfl) (by kernel_rfl) w) fun a hF => ?_
 refine any_pure [25, 26] [0, 3, 4, 58, 67, 68, 74] (L' := [(0, .slice p2 (a1).length c3), (3, pt b7 0), (4, vi y79), (58, vb true), (67, vb false), (68, pt b7 0), (74, .pointer (some ⟨b122, (f123 + Int.toNat y79 * 8) + 5, none⟩))]) (listed' := (bitA 35 132120575)) (fuel := 9) hF (hS.sx [0, 1, 2] [0, 1, 2]) (by kernel_rfl) (by intro c a w t v h; cases t <;> exact h) (by kernel_rfl) rfl fun a hF => ?_
 refine atk 27 (some 75) hF (hS.sx [0, 1, 2] [0, 1, 2]) rfl (val_loadRo (t := f_law15_Op) 0 5 (v := vu x121.Mark.TS) rfl rfl hpx121 rfl hx121 (by kernel_rfl) (by kernel_rfl) (by kernel_rfl)) fun a hF => ?_
 refine ago 21 hF rfl ?_
 refine wcS 3 [0, 1, 2] hF hS (fun hS => C_session_Session_Low N (T_session_Session.mk x92.2.snap x92.2.dep x92.2.open_ x92.2.writes x92.2.cache) p93 m94 c95 p96 m97 c98 b7 ⟨rfl, hS.pick [1, 2] (by kernel_rfl)⟩ hx120) ?_
 rintro _ κ w a ⟨rfl, h2⟩ hF hB
 have hS := hB _ _ h2
 refine ⟨fun _ => (hS.sx [0, 1, 2] [0, 1, 2]), ?_⟩
 refine anp [28, 29, 30] [0, 3, 4, 58, 78] hF (hS.sx [0, 1, 2] [0, 1, 2]) fun a hF => ?_
 have hF := hF.boolv 78 (by kernel_rfl) hb124
 refine anp [31] [0, 3, 4, 58, 78, 79] hF (hS.sx [0, 1, 2] [0, 1, 2]) fun a hF => ?_
 refine ago 32 hF rfl ?_
 refine wcS 3 [0, 1, 2] hF hS (fun hS => C_session_Session_Open N (T_session_Session.mk x92.2.snap x92.2.dep x92.2.open_ x92.2.writes x92.2.cache) p93 m94 c95 p96 m97 c98 b7 ⟨rfl, hS.pick [1, 2] (by kernel_rfl)⟩ hx125) ?_
 rintro _ κ w a ⟨rfl, h2⟩ hF hB
 have hS := hB _ _ h2
 refine ⟨fun _ => (hS.sx [0, 1, 2] [0, 1, 2]), ?_⟩
 refine anp [33, 34] [0, 3, 4, 82] hF (hS.sx [0, 1, 2] [0, 1, 2]) fun a hF => ?_
 refine and_ ?_
 cases hv110
 exact ⟨_, hF.kp [0, 3, 4, 82], hS.sp [0, 1, 2] [0, 1, 2], trivial⟩
 refine any_pure [0, 1] [0, 3, 4, 6, 7, 48, 49] (L' := [(0, .slice p2 (a1).length c3), (3, pt b7 0), (4, vi y79), (6, vu x87), (7, vi x92.1), (48, .slice p2 (a1).length c3), (49, vi y79)]) (listed' := (bitA 35 3)) (fuel := 33) hF (hS.sx [0, 1, 2] [0, 1, 2]) (by kernel_rfl) (by intro c a w t v h; cases t <;> exact h) (by kernel_rfl) rfl fun a hF => ?_
 obtain ⟨b112, f113, hpx111⟩ := hS.ptr 0 rfl hx111
 refine atk 2 (some 50) hF (hS.sx [0, 1, 2] [0, 1, 2]) rfl (fun w _ => val_index (E := 34) (sz := 8) rfl hpx111 rfl (by kernel_rfl) rfl hx111 (by kernel_rfl) (by kernel_rfl) w) fun a hF => ?_
 refine any_pure [3] [0, 3, 4, 6, 7, 51] (L' := [(0, .slice p2 (a1).length c3), (3, pt b7 0), (4, vi y79), (6, vu x87), (7, vi x92.1), (51, .pointer (some ⟨b112, (f113 + Int.toNat y79 * 8), none⟩))]) (listed' := (bitA 35 15)) (fuel := 31) hF (hS.sx [0, 1, 2] [0, 1, 2]) (by kernel_rfl) (by intro c a w t v h; cases t <;> exact h) (by kernel_rfl) rfl fun a hF => ?_
 refine atk 4 (some 52) hF (hS.sx [0, 1, 2] [0, 1, 2]) rfl (val_loadRo (t := f_law15_Op) 0 0 (v := vi x111.Kind) rfl rfl hpx111 rfl hx111 (by kernel_rfl) (by kernel_rfl) (by kernel_rfl)) fun a hF => ?_
 refine anp [5, 6] [0, 3, 4, 6, 7, 54] hF (hS.sx [0, 1, 2] [0, 1, 2]) fun a hF => ?_
 have hF := hF.boolv 54 (by kernel_rfl) hb114
 refine anp [7, 8, 9, 10] [0, 3, 4, 6, 58] hF (hS.sx [0, 1, 2] [0, 1, 2]) fun a hF => ?_
 have hF := hF.boolv 58 (by kernel_rfl) hb115
 refine anp [11, 12, 13, 14, 15, 16, 17, 18, 19, 20, 21, 22, 23, 24, 25, 26, 27, 28, 29, 30, 31, 32, 33, 34] [0, 3, 4, 82] hF (hS.sx [0, 1, 2] [0, 1, 2]) fun a hF => ?_
 refine and_ ?_
 cases hv110
 exact ⟨_, hF.kp [0, 3, 4, 82], hS.sp [0, 1, 2] [0, 1, 2], trivial⟩
 refine any_pure [0, 1] [0, 3, 4, 6, 7, 48, 49] (L' := [(0, .slice p2 (a1).length c3), (3, pt b7 0), (4, vi y79), (6, vu x87), (7, vi x92.1), (48, .slice p2 (a1).length c3), (49, vi y79)]) (listed' := (bitA 35 3)) (fuel := 33) hF (hS.sx [0, 1, 2] [0, 1, 2]) (by kernel_rfl) (by intro c a w t v h; cases t <;> exact h) (by kernel_rfl) rfl fun a hF => ?_
 obtain ⟨b112, f113, hpx111⟩ := hS.ptr 0 rfl hx111
 refine atk 2 (some 50) hF (hS.sx [0, 1, 2] [0, 1, 2]) rfl (fun w _ => val_index (E := 34) (sz := 8) rfl hpx111 rfl (by kernel_rfl) rfl hx111 (by kernel_rfl) (by kernel_rfl) w) fun a hF => ?_
 refine any_pure [3] [0, 3, 4, 6, 7, 51] (L' := [(0, .slice p2 (a1).length c3), (3, pt b7 0), (4, vi y79), (6, vu x87), (7, vi x92.1), (51, .pointer (some ⟨b112, (f113 + Int.toNat y79 * 8), none⟩))]) (listed' := (bitA 35 15)) (fuel := 31) hF (hS.sx [0, 1, 2] [0, 1, 2]) (by kernel_rfl) (by intro c a w t v h; cases t <;> exact h) (by kernel_rfl) rfl fun a hF => ?_
 refine atk 4 (some 52) hF (hS.sx [0, 1, 2] [0, 1, 2]) rfl (val_loadRo (t := f_law15_Op) 0 0 (v := vi x111.Kind) rfl rfl hpx111 rfl hx111 (by kernel_rfl) (by kernel_rfl) (by kernel_rfl)) fun a hF => ?_
 refine anp [5, 6] [0, 3, 4, 6, 7, 54] hF (hS.sx [0, 1, 2] [0, 1, 2]) fun a hF => ?_
 have hF := hF.boolv 54 (by kernel_rfl) hb114
 refine anp [7, 8, 9, 10, 11, 12, 13, 14, 15, 16, 17, 18, 19, 20, 21, 22, 23, 24, 25, 26, 27, 28, 29, 30, 31, 32, 33, 34] [0, 3, 4, 82] hF (hS.sx [0, 1, 2] [0, 1, 2]) fun a hF => ?_
 refine and_ ?_
 cases hv110
 exact ⟨_, hF.kp [0, 3, 4, 82], hS.sp [0, 1, 2] [0, 1, 2], trivial⟩
 rintro a w ⟨κ, hF, hS, -⟩
 refine hK108 _ _ ?_
 refine bif_split H (fun hb H => ?_) (fun hb H => ?_)
 refine cond_t hF (by kernel_rfl) hb ?_
 refine wpIn_seq_k fun K126 hK126 => ?_
 refine wpIn_region_lit ?_
 refine wp 1 [2] hF fun a hF => ?_
 refine wpListIn_nil ?_
 refine hK126 _ _ ?_
 refine wpIn_ret ?_
 cases H
 exact (ret_done hF hS (res1 Try.results4 (rvt hF)) ⟨rfl, (hS.pick [] (by kernel_rfl)).ro, hS.newC [] (by decide) (by kernel_rfl)⟩)
 refine cond_f hF (by kernel_rfl) hb ?_
 refine wpIn_skip ?_
 refine hK84 _ _ ?_
 refine wpIn_region_lit ?_
 refine wp 3 [0, 3, 4] hF fun a hF => ?_
 refine wpListIn_nil ?_
 exact ⟨fuel1, Nat.lt_succ_self _, _, x92.2.snap, x92.2.dep, x92.2.open_, p93, m94, c95, x92.2.writes, p96, m97, c98, x92.2.cache, IntKind.i64.wrap (y79 + 1), hF.kp [0, 3, 4], hS.sp [0, 1, 2] [0, 1, 2], H⟩
 refine cond_f hF (by kernel_rfl) hb ?_
 refine wpIn_exit ?_
 refine hK16 _ _ ?_
 refine wpIn_seq_k fun K127 hK127 => ?_
 refine wpIn_region_lit ?_
 refine bind_split H (fun x128 hx128 H => ?_)
 refine wc (wo_callP hF hS (by kernel_rfl) (by kernel_rfl) (C_law15_awake N hS.fresh   ((hS.pick [] (by kernel_rfl)).ro) hx128) ?_)
 rintro _ κ w a ⟨rfl, hR, hN⟩ hF hS hO
 refine wp 1 [2] hF fun a hF => ?_
 refine wpListIn_nil ?_
 refine hK127 _ _ ?_
 refine wpIn_ret ?_
 cases H
 exact (ret_done hF hS (res1 Try.results4 (rvt hF)) ⟨rfl, (hS.pick [] (by kernel_rfl)).ro, hS.newC [] (by decide) (by kernel_rfl)⟩)
end Go.Cf
