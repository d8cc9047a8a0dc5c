/- The walks: each function returns what its model says. Printed by a program of ours. -/
import Derived.Test.YteeafoagaaedcaaZM1
import Derived.Test.YteeafoagaaedcaaZWs1
import Derived.Test.YteeafoagaaedcaaZWs2
namespace Go.Cf
open Go Go.Proofs
set_option linter.unusedVariables false
set_option maxRecDepth 20000 in
set_option maxHeartbeats 1000000 in
theorem C_law15_SessionOwn (N : Nat) {κ0 : Gh} {w0 : World} (hfr : Fresh κ0 w0) (a1 : (List T_law15_Op)) (a4 : ByteArray) (p2 : Option Addr) (c3 : Nat) (hR : ∀ m ∈ ([Ro.mp f_law15_Op.ty p2 c3 a1] : List MP), m.p κ0 w0) {r : (Bool)} (H : M.law15_SessionOwn N a1 a4 = some r) :
    Calls Try.prog 6 #[.slice p2 (a1).length c3, .string (a4)] w0 (Post [] κ0 w0 fun v κ w => v = vb r ∧ (∀ m ∈ ([] : List MP), m.p κ w) ∧ NewC w0 κ w []) := by
 have hS := SS.start hfr hR
 refine enter (N := (112)) (L := [(0, .slice p2 (a1).length c3), (1, .string (a4))]) Try.func6 rfl Try.ntmps6 (show 2 ≤ (112) by decide) rfl fun a hF => ?_
 unfold M.law15_SessionOwn at H
 refine wpIn_seq_k fun K5 hK5 => ?_
 refine wpIn_region_lit ?_
 refine wp 1 [0, 1] hF fun a hF => ?_
 refine wpListIn_nil ?_
 refine hK5 _ _ ?_
 refine wpIn_seq_k fun K6 hK6 => ?_
 refine wpIn_region_lit ?_
 refine bind_split H (fun x7 hx7 H => ?_)
 refine wc (wcS 0 [] hF hS (fun hS => C_session_New N    ⟨rfl, hS.pick [] (by kernel_rfl)⟩ hx7) ?_)
 rintro _ κ w a ⟨b8, p9, m10, c11, p12, m13, c14, rfl, h2⟩ hF hB
 have hS := hB _ _ h2
 refine wp 1 [0, 1, 5] hF fun a hF => ?_
 refine wpListIn_nil ?_
 refine hK6 _ _ ?_
 refine wpIn_seq_k fun K15 hK15 => ?_
 refine wpIn_seq_k fun K16 hK16 => ?_
 refine wpIn_region_lit ?_
 refine wp 2 [0, 1, 5, 17] hF fun a hF => ?_
 refine wpListIn_nil ?_
 refine hK16 _ _ ?_
 refine cond_f hF (by kernel_rfl) rfl ?_
 refine wpIn_skip ?_
 refine hK15 _ _ ?_
 refine wpIn_seq_k fun K17 hK17 => ?_
 refine wpIn_region_lit ?_
 refine wc (wal hF hS [sg ByteArray.empty, sg ByteArray.empty, sb false, su 0, si 0, si 0] (sgN 6 sgNil) fun b18 a w hF hS => ?_)
 refine wc (wal hF hS [sg ByteArray.empty, sg ByteArray.empty, sb false, su 0, si 0, si 0] (sgN 6 sgNil) fun b19 a w hF hS => ?_)
 refine wpListIn_nil ?_
 refine hK17 _ _ ?_
 refine wpIn_seq_k fun K20 hK20 => ?_
 refine wpIn_region_lit ?_
 refine wp 2 [0, 1, 5, 6, 7, 8, 9] hF fun a hF => ?_
 refine wpListIn_nil ?_
 refine hK20 _ _ ?_
 refine wpIn_seq_k fun K21 hK21 => ?_
 refine wpIn_seq_k fun K22 hK22 => ?_
 refine wpIn_region_lit ?_
 refine wp 1 [0, 1, 5, 6, 7, 8, 9, 10] hF fun a hF => ?_
 refine wpListIn_nil ?_
 refine hK22 _ _ ?_
 refine wpIn_block ?_
 refine loop_fuel (n := N) (fun n a w => ∃ (κ : Gh) (y123 y124 : ByteArray) (y125 : Bool) (y126 y127 y128 : Int) (y129 y130 : ByteArray) (y131 : Bool) (y132 y133 : Int) (y134 : Bool) (p135 : Option Nat) (m136 : Array MapEntry) (c137 : Nat) (y138 : Mp ByteArray T_api_Ver) (p139 : Option Nat) (m140 : Array MapEntry) (c141 : Nat) (y142 : Mp ByteArray T_api_Ver) (y143 y144 : Bool) (y145 : Int), Fr (112) [] [(0, .slice p2 (a1).length c3), (1, .string (a4)), (5, pt b8 0), (6, pt b18 0), (7, pt b19 0), (8, vb y143), (9, vb y144), (10, vi y145)] a ∧ SS [] κ0 w0 κ w [.box b19 37 [sg y123, sg y124, sb y125, su y126, si y127, si y128], .box b18 37 [sg y129, sg y130, sb y131, su 0, si 0, si 0], .box b8 121 [su y132, su y133, sb y134, (1, [.map p135]), (1, [.map p139])], .ext (objX p135 (.map m136 c137)), .ext (objX p139 (.map m140 c141))] [Ro.mp f_law15_Op.ty p2 c3 a1, Map.mp kStr true f_api_Ver.ty p135 m136 c137 y138, Map.mp kStr true f_api_Ver.ty p139 m140 c141 y142] ∧ M.law15_SessionOwn_L1 N n a1 a4 y123 y124 y125 y126 y127 y128 y129 y130 y131 y132 y133 y134 y138 y142 y143 y144 y145 = some r) ?_ ?_
 exact ⟨_, ByteArray.empty, ByteArray.empty, false, 0, 0, 0, ByteArray.empty, ByteArray.empty, false, x7.snap, x7.dep, x7.open_, p9, m10, c11, x7.writes, p12, m13, c14, x7.cache, false, false, 0, hF.kp [0, 1, 5, 6, 7, 8, 9, 10], hS.sp (rg 5) [2, 0, 1], H⟩
 rintro n a w ⟨κ, y123, y124, y125, y126, y127, y128, y129, y130, y131, y132, y133, y134, p135, m136, c137, y138, p139, m140, c141, y142, y143, y144, y145, hF, hS, H⟩
 rcases n with _ | fuel1
 simp [M.law15_SessionOwn_L1] at H
 simp only [M.law15_SessionOwn_L1] at H
 refine wpIn_seq_k fun K146 hK146 => ?_
 refine wpIn_seq_k fun K147 hK147 => ?_
 refine wpIn_region_lit ?_
 refine bind_split H (fun v149 hv149 H => ?_)
 refine wl_join (fun a w => ∃ κ : Gh, Fr (112) [] [(0, .slice p2 (a1).length c3), (1, .string (a4)), (5, pt b8 0), (6, pt b18 0), (7, pt b19 0), (8, vb y143), (9, vb y144), (10, vi y145), (25, vb v149)] a ∧ SS [] κ0 w0 κ w [.box b19 37 [sg y123, sg y124, sb y125, su y126, si y127, si y128], .box b18 37 [sg y129, sg y130, sb y131, su 0, si 0, si 0], .box b8 121 [su y132, su y133, sb y134, (1, [.map p135]), (1, [.map p139])], .ext (objX p135 (.map m136 c137)), .ext (objX p139 (.map m140 c141))] [Ro.mp f_law15_Op.ty p2 c3 a1, Map.mp kStr true f_api_Ver.ty p135 m136 c137 y138, Map.mp kStr true f_api_Ver.ty p139 m140 c141 y142] ∧ True) ?_ ?_
 refine wp 5 [0, 1, 5, 6, 7, 8, 9, 10, 22] hF fun a hF => ?_
 refine bif_split hv149 (fun hb hv149 => ?_) (fun hb hv149 => ?_)
 have hF := hF.boolv 22 (by kernel_rfl) hb
 refine wp 3 [0, 1, 5, 6, 7, 8, 9, 10, 25] hF fun a hF => ?_
 refine wpListIn_nil ?_
 cases hv149
 exact ⟨_, hF.kp [0, 1, 5, 6, 7, 8, 9, 10, 25], hS.sp (rg 5) [0, 1, 2], trivial⟩
 have hF := hF.boolv 22 (by kernel_rfl) hb
 refine wp 3 [0, 1, 5, 6, 7, 8, 9, 10, 25] hF fun a hF => ?_
 refine wpListIn_nil ?_
 cases hv149
 exact ⟨_, hF.kp [0, 1, 5, 6, 7, 8, 9, 10, 25], hS.sp (rg 5) [0, 1, 2], trivial⟩
 rintro a w ⟨κ, hF, hS, -⟩
 refine hK147 _ _ ?_
 refine bif_split H (fun hb H => ?_) (fun hb H => ?_)
 refine cond_t hF (by kernel_rfl) hb ?_
 refine wpIn_skip ?_
 refine hK146 _ _ ?_
 refine seq_join (fun a w => ∃ (κ : Gh) (y150 y151 : Int) (y152 : Bool) (p153 : Option Nat) (m154 : Array MapEntry) (c155 : Nat) (y156 : Mp ByteArray T_api_Ver) (p157 : Option Nat) (m158 : Array MapEntry) (c159 : Nat) (y160 : Mp ByteArray T_api_Ver) (y161 y162 : ByteArray) (y163 : Bool) (y164 y165 y166 : Int) (y167 y168 : ByteArray) (y169 y170 y171 : Bool), Fr (112) [] [(0, .slice p2 (a1).length c3), (1, .string (a4)), (5, pt b8 0), (6, pt b18 0), (7, pt b19 0), (8, vb y170), (9, vb y171), (10, vi y145)] a ∧ SS [] κ0 w0 κ w [.box b8 121 [su y150, su y151, sb y152, (1, [.map p153]), (1, [.map p157])], .box b19 37 [sg y161, sg y162, sb y163, su y164, si y165, si y166], .box b18 37 [sg y167, sg y168, sb y169, su 0, si 0, si 0], .ext (objX p153 (.map m154 c155)), .ext (objX p157 (.map m158 c159))] [Ro.mp f_law15_Op.ty p2 c3 a1, Map.mp kStr true f_api_Ver.ty p153 m154 c155 y156, Map.mp kStr true f_api_Ver.ty p157 m158 c159 y160] ∧ M.law15_SessionOwn_k2 N (M.law15_SessionOwn_L1 N fuel1) a1 a4 y145 y150 y151 y152 y156 y160 y161 y162 y163 y164 y165 y166 y167 y168 y169 y170 y171 = some r) ?_ ?_
 refine wpIn_block ?_
 refine wpIn_seq_k fun K172 hK172 => ?_
 refine wpIn_region_lit ?_
 refine wl_pure (L' := [(0, .slice p2 (a1).length c3), (1, .string (a4)), (5, pt b8 0), (6, pt b18 0), (7, pt b19 0), (8, vb y143), (9, vb y144), (10, vi y145), (28, .slice p2 (a1).length c3), (29, vi y145)]) 2 [0, 1, 5, 6, 7, 8, 9, 10, 28, 29] hF (by kernel_rfl) fun a hF => ?_
 refine bind_split H (fun x173 hx173 H => ?_)
 refine wc (wo_index hF hS (by kernel_rfl) 0 (E := 34) (sz := 8) rfl rfl rfl (by kernel_rfl) rfl hx173 (by kernel_rfl) (by kernel_rfl) fun b174 f175 a hpx173 hF => ?_)
 refine wc (wo_loadRoAgg (t := f_law15_Op) hF hS (by kernel_rfl) 0 rfl rfl hpx173 rfl hx173 (by kernel_rfl) (by kernel_rfl) (by kernel_rfl) fun a hF => ?_)
 refine wc (wal hF hS [si 0, sg ByteArray.empty, sg ByteArray.empty, sb false, su 0, su 0, si 0, si 0] (sgN 8 sgNil) fun b176 a w hF hS => ?_)
 refine wc (wst hF hS 0 0 8 [si x173.Kind, sg x173.Key, sg x173.Val, sb x173.Gone, su x173.T, su x173.Mark.TS, si x173.Mark.DC, si x173.Mark.Tx] (sgN 8 sgNil) fun a w hF hS => ?_)
 refine wpListIn_nil ?_
 refine hK172 _ _ ?_
 refine wpIn_seq_k fun K177 hK177 => ?_
 refine wpIn_region_lit ?_
 refine wp 1 [0, 1, 5, 6, 7, 8, 9, 10, 11, 32] hF fun a hF => ?_
 refine wc (wls hF hS 0 0 8 fun a hF => ?_)
 refine bind_split H (fun x178 hx178 H => ?_)
 refine wc (wcS 3 [3, 4, 5, 0, 1, 2] hF hS (fun hS => C_law15_do N (T_session_Session.mk y132 y133 y134 y138 y142) (T_law15_Op.mk x173.Kind x173.Key x173.Val x173.Gone x173.T (T_api_Mark.mk x173.Mark.TS x173.Mark.DC x173.Mark.Tx)) p135 m136 c137 p139 m140 c141 b8 ⟨rfl, hS.pick [1, 2] (by kernel_rfl)⟩ hx178) ?_)
 rintro _ κ w a ⟨p179, m180, c181, p182, m183, c184, rfl, h2⟩ hF hB
 have hS := hB _ _ h2
 refine wp 1 [0, 1, 5, 6, 7, 8, 9, 10, 11, 12] hF fun a hF => ?_
 refine wpListIn_nil ?_
 refine hK177 _ _ ?_
 refine seq_join (fun a w => ∃ (κ : Gh) (y185 y186 : ByteArray) (y187 : Bool) (y188 y189 y190 : Int) (y191 y192 : ByteArray) (y193 y194 y195 : Bool), Fr (112) [] [(0, .slice p2 (a1).length c3), (1, .string (a4)), (5, pt b8 0), (6, pt b18 0), (7, pt b19 0), (8, vb y194), (9, vb y195), (10, vi y145)] a ∧ SS [] κ0 w0 κ w [.box b8 121 [su x178.2.snap, su x178.2.dep, sb x178.2.open_, (1, [.map p179]), (1, [.map p182])], .box b19 37 [sg y185, sg y186, sb y187, su y188, si y189, si y190], .box b18 37 [sg y191, sg y192, sb y193, su 0, si 0, si 0], .ext (objX p179 (.map m180 c181)), .ext (objX p182 (.map m183 c184))] [Ro.mp f_law15_Op.ty p2 c3 a1, Map.mp kStr true f_api_Ver.ty p179 m180 c181 x178.2.writes, Map.mp kStr true f_api_Ver.ty p182 m183 c184 x178.2.cache] ∧ M.law15_SessionOwn_k3 N (M.law15_SessionOwn_L1 N fuel1) a1 a4 y145 x178 y185 y186 y187 y188 y189 y190 y191 y192 y193 y194 y195 = some r) ?_ ?_
 refine wpIn_seq_k fun K218 hK218 => ?_
 refine wpIn_region_lit ?_
 refine wp 2 [0, 1, 5, 6, 7, 8, 9, 10, 11, 36] hF fun a hF => ?_
 refine wpListIn_nil ?_
 refine hK218 _ _ ?_
 refine bif_split H (fun hb H => ?_) (fun hb H => ?_)
 refine cond_t hF (by kernel_rfl) hb ?_
 refine wpIn_seq_k fun K219 hK219 => ?_
 refine wpIn_region_lit ?_
 refine wp 1 [0, 1, 5, 6, 7, 8, 9, 10, 11, 37] hF fun a hF => ?_
 refine wc (wld hF hS 3 0 0 fun a hF => ?_)
 refine wpListIn_nil ?_
 refine hK219 _ _ ?_
 refine wpIn_block ?_
 refine wpIn_seq_k fun K220 hK220 => ?_
 refine wpIn_region_lit ?_
 refine wp 2 [0, 1, 5, 6, 7, 8, 9, 10, 11, 38, 39] hF fun a hF => ?_
 refine wpListIn_nil ?_
 refine hK220 _ _ ?_
 refine bif_split H (fun hb H => ?_) (fun hb H => ?_)
 refine cond_t hF (by kernel_rfl) hb ?_
 refine wpIn_region_lit ?_
 refine wp 1 [0, 1, 5, 6, 7, 8, 9, 10] hF fun a hF => ?_
 refine wpListIn_nil ?_
 exact ⟨_, y123, y124, y125, y126, y127, y128, y129, y130, y131, false, y144, hF.kp [0, 1, 5, 6, 7, 8, 9, 10], hS.sp [0, 4, 5, 1, 2] [2, 0, 1], H⟩
 refine cond_f hF (by kernel_rfl) hb ?_
 refine wpIn_seq_k fun K221 hK221 => ?_
 refine wpIn_region_lit ?_
 refine wp 2 [0, 1, 5, 6, 7, 8, 9, 10, 11, 38, 41] hF fun a hF => ?_
 refine wpListIn_nil ?_
 refine hK221 _ _ ?_
 refine bif_split H (fun hb H => ?_) (fun hb H => ?_)
 refine cond_t hF (by kernel_rfl) hb ?_
 refine wpIn_seq_k fun K222 hK222 => ?_
 refine wpIn_region_lit ?_
 refine wp 1 [0, 1, 5, 6, 7, 8, 9, 10, 11, 43] hF fun a hF => ?_
 refine wc (wld hF hS 3 1 0 fun a hF => ?_)
 refine wp 2 [0, 1, 5, 6, 7, 8, 9, 10, 11, 46] hF fun a hF => ?_
 refine wpListIn_nil ?_
 refine hK222 _ _ ?_
 refine bif_split H (fun hb H => ?_) (fun hb H => ?_)
 refine cond_t hF (by kernel_rfl) hb ?_
 refine wpIn_region_lit ?_
 refine wp 2 [0, 1, 5, 6, 7, 9, 10, 11, 47, 48] hF fun a hF => ?_
 refine wc (wld hF hS 3 2 0 fun a hF => ?_)
 refine wp 1 [0, 1, 5, 6, 7, 9, 10, 47, 49, 50] hF fun a hF => ?_
 refine wc (wld hF hS 3 3 0 fun a hF => ?_)
 refine wp 1 [0, 1, 5, 6, 7, 9, 10, 52] hF fun a hF => ?_
 refine wc (wst hF hS 5 0 6 [sg a4, sg x173.Val, sb x173.Gone, su 0, si 0, si 0] (sgN 6 sgNil) fun a w hF hS => ?_)
 refine wp 1 [0, 1, 5, 6, 7, 8, 9, 10] hF fun a hF => ?_
 refine wpListIn_nil ?_
 exact ⟨_, y123, y124, y125, y126, y127, y128, a4, x173.Val, x173.Gone, true, y144, hF.kp [0, 1, 5, 6, 7, 8, 9, 10], hS.sp [0, 4, 5, 1, 2] [2, 0, 1], H⟩
 refine cond_f hF (by kernel_rfl) hb ?_
 refine wpIn_skip ?_
 exact ⟨_, y123, y124, y125, y126, y127, y128, y129, y130, y131, y143, y144, hF.kp [0, 1, 5, 6, 7, 8, 9, 10], hS.sp [0, 4, 5, 1, 2] [2, 0, 1], H⟩
 refine cond_f hF (by kernel_rfl) hb ?_
 refine wpIn_seq_k fun K223 hK223 => ?_
 refine wpIn_region_lit ?_
 refine wp 2 [0, 1, 5, 6, 7, 8, 9, 10, 11, 38, 53] hF fun a hF => ?_
 refine wpListIn_nil ?_
 refine hK223 _ _ ?_
 refine bif_split H (fun hb H => ?_) (fun hb H => ?_)
 refine cond_t hF (by kernel_rfl) hb ?_
 refine wpIn_seq_k fun K224 hK224 => ?_
 refine wpIn_region_lit ?_
 refine wp 1 [0, 1, 5, 6, 7, 8, 9, 10, 11, 55] hF fun a hF => ?_
 refine wpListIn_nil ?_
 refine hK224 _ _ ?_
 refine bif_split H (fun hb H => ?_) (fun hb H => ?_)
 refine cond_t hF (by kernel_rfl) hb ?_
 refine wpIn_seq_k fun K225 hK225 => ?_
 refine wpIn_region_lit ?_
 refine wc (wls hF hS 5 0 6 fun a hF => ?_)
 refine wc (wst hF hS 4 0 6 [sg y129, sg y130, sb y131, su 0, si 0, si 0] (sgN 6 sgNil) fun a w hF hS => ?_)
 refine wl_pure (L' := [(0, .slice p2 (a1).length c3), (1, .string (a4)), (5, pt b8 0), (6, pt b18 0), (7, pt b19 0), (8, vb false), (9, vb true), (10, vi y145), (11, pt b176 0)]) 2 [0, 1, 5, 6, 7, 8, 9, 10, 11] hF (by kernel_rfl) fun a hF => ?_
 refine wpListIn_nil ?_
 refine hK225 _ _ ?_
 refine rgX hS [0, 1, 2, 3, 5] ?_
 have hS := hS.drew
 refine anp [0, 1, 3, 4, 6, 7] [0, 1, 5, 6, 7, 8, 9, 10, 58, 61, 64] hF (hS.sx [0, 1, 2, 3, 5] (rg 5)) fun a hF => ?_
 refine atk 2 (some 59) hF (hS.sx [0, 1, 2, 3, 5] (rg 5)) rfl (vld 3 5 0) fun a hF => ?_
 refine anp [9] [0, 1, 5, 6, 7, 8, 9, 10, 59, 61, 64, 66] hF (hS.sx [0, 1, 2, 3, 5] (rg 5)) fun a hF => ?_
 refine atk 5 (some 62) hF (hS.sx [0, 1, 2, 3, 5] (rg 5)) rfl (vld 3 6 0) fun a hF => ?_
 refine atk 8 (some 65) hF (hS.sx [0, 1, 2, 3, 5] (rg 5)) rfl (vld 3 7 0) fun a hF => ?_
 refine ago 10 hF rfl ?_
 refine wst hF hS 4 3 1 [su x173.Mark.TS] (sgN 1 sgNil) fun a w hF hS => ?_
 refine ⟨fun _ => (hS.sx [0, 1, 2, 3, 5] (rg 5)), ?_⟩
 refine anp [11] [0, 1, 5, 6, 7, 8, 9, 10, 62, 65, 67] hF (hS.sx [0, 1, 2, 3, 5] (rg 5)) fun a hF => ?_
 refine ago 12 hF rfl ?_
 refine wst hF hS 4 4 1 [si x173.Mark.DC] (sgN 1 sgNil) fun a w hF hS => ?_
 refine ⟨fun _ => (hS.sx [0, 1, 2, 3, 5] (rg 5)), ?_⟩
 refine anp [13] [0, 1, 5, 6, 7, 8, 9, 10, 65, 68] hF (hS.sx [0, 1, 2, 3, 5] (rg 5)) fun a hF => ?_
 refine ago 14 hF rfl ?_
 refine wst hF hS 4 5 1 [si x173.Mark.Tx] (sgN 1 sgNil) fun a w hF hS => ?_
 refine ⟨fun _ => (hS.sx [0, 1, 2, 3, 5] (rg 5)), ?_⟩
 refine and_ ?_
 exact ⟨_, y129, y130, y131, x173.Mark.TS, x173.Mark.DC, x173.Mark.Tx, y129, y130, y131, false, true, hF.kp [0, 1, 5, 6, 7, 8, 9, 10], hS.sp [0, 4, 5, 1, 2] [2, 0, 1], H⟩
 refine cond_f hF (by kernel_rfl) hb ?_
 refine wpIn_skip ?_
 exact ⟨_, y123, y124, y125, y126, y127, y128, y129, y130, y131, y143, y144, hF.kp [0, 1, 5, 6, 7, 8, 9, 10], hS.sp [0, 4, 5, 1, 2] [2, 0, 1], H⟩
 refine cond_f hF (by kernel_rfl) hb ?_
 refine wpIn_seq_k fun K226 hK226 => ?_
 refine wpIn_region_lit ?_
 refine wp 2 [0, 1, 5, 6, 7, 8, 9, 10, 69] hF fun a hF => ?_
 refine wpListIn_nil ?_
 refine hK226 _ _ ?_
 refine bif_split H (fun hb H => ?_) (fun hb H => ?_)
 refine cond_t hF (by kernel_rfl) hb ?_
 refine wpIn_region_lit ?_
 refine wp 1 [0, 1, 5, 6, 7, 8, 9, 10] hF fun a hF => ?_
 refine wpListIn_nil ?_
 exact ⟨_, y123, y124, y125, y126, y127, y128, y129, y130, y131, false, y144, hF.kp [0, 1, 5, 6, 7, 8, 9, 10], hS.sp [0, 4, 5, 1, 2] [2, 0, 1], H⟩
 refine cond_f hF (by kernel_rfl) hb ?_
 refine wpIn_skip ?_
 exact ⟨_, y123, y124, y125, y126, y127, y128, y129, y130, y131, y143, y144, hF.kp [0, 1, 5, 6, 7, 8, 9, 10], hS.sp [0, 4, 5, 1, 2] [2, 0, 1], H⟩
 refine cond_f hF (by kernel_rfl) hb ?_
 refine wpIn_skip ?_
 exact ⟨_, y123, y124, y125, y126, y127, y128, y129, y130, y131, y143, y144, hF.kp [0, 1, 5, 6, 7, 8, 9, 10], hS.sp [0, 4, 5, 1, 2] [2, 0, 1], H⟩
 rintro a w ⟨κ, y185, y186, y187, y188, y189, y190, y191, y192, y193, y194, y195, hF, hS, H⟩
 unfold M.law15_SessionOwn_k3 at H
 refine wpIn_seq_k fun K196 hK196 => ?_
 refine wpIn_region_lit ?_
 refine wp 2 [0, 1, 5, 6, 7, 8, 9, 10, 72, 73] hF fun a hF => ?_
 refine bind_split H (fun x197 hx197 H => ?_)
 refine wc (wcS 3 [0, 3, 4, 1, 2] hF hS (fun hS => C_session_Session_Look N (T_session_Session.mk x178.2.snap x178.2.dep x178.2.open_ x178.2.writes x178.2.cache) a4 p179 m180 c181 p182 m183 c184 b8 ⟨rfl, hS.pick [1, 2] (by kernel_rfl)⟩ hx197) ?_)
 rintro _ κ w a ⟨rfl, h2⟩ hF hB
 have hS := hB _ _ h2
 refine wp 3 [0, 1, 5, 6, 7, 8, 9, 10, 75, 76] hF fun a hF => ?_
 refine wc (wal hF hS [sg ByteArray.empty, sg ByteArray.empty, sb false, su 0, si 0, si 0] (sgN 6 sgNil) fun b198 a w hF hS => ?_)
 refine wc (wst hF hS 0 0 6 [sg x197.1.Key, sg x197.1.Val, sb x197.1.Gone, su x197.1.TS, si x197.1.DC, si x197.1.Tx] (sgN 6 sgNil) fun a w hF hS => ?_)
 refine wp 1 [0, 1, 5, 6, 7, 8, 9, 10, 13, 14] hF fun a hF => ?_
 refine wpListIn_nil ?_
 refine hK196 _ _ ?_
 refine wpIn_block ?_
 refine wpIn_seq_k fun K199 hK199 => ?_
 refine wpIn_region_lit ?_
 refine wp 1 [0, 1, 5, 6, 7, 8, 9, 10, 13, 14, 78] hF fun a hF => ?_
 refine bind_split H (fun x200 hx200 H => ?_)
 refine wc (wcS 3 [1, 2, 3, 0, 4, 5] hF hS (fun hS => C_session_Session_Open N (T_session_Session.mk x178.2.snap x178.2.dep x178.2.open_ x178.2.writes x178.2.cache) p179 m180 c181 p182 m183 c184 b8 ⟨rfl, hS.pick [1, 2] (by kernel_rfl)⟩ hx200) ?_)
 rintro _ κ w a ⟨rfl, h2⟩ hF hB
 have hS := hB _ _ h2
 refine wp 2 [0, 1, 5, 6, 7, 8, 9, 10, 13, 14, 77] hF fun a hF => ?_
 refine wpListIn_nil ?_
 refine hK199 _ _ ?_
 refine bif_split H (fun hb H => ?_) (fun hb H => ?_)
 refine cond_t hF (by kernel_rfl) hb ?_
 refine wpIn_seq_k fun K201 hK201 => ?_
 refine wpIn_region_lit ?_
 refine wp 2 [0, 1, 5, 6, 7, 8, 9, 10, 82] hF fun a hF => ?_
 refine wpListIn_nil ?_
 refine hK201 _ _ ?_
 refine bif_split H (fun hb H => ?_) (fun hb H => ?_)
 refine cond_t hF (by kernel_rfl) hb ?_
 refine wpIn_seq_k fun K202 hK202 => ?_
 refine wpIn_region_lit ?_
 refine wp 1 [4] hF fun a hF => ?_
 refine wpListIn_nil ?_
 refine hK202 _ _ ?_
 refine wpIn_ret ?_
 cases H
 exact (ret_done hF hS (res1 Try.results6 (rvt hF)) ⟨rfl, (hS.pick [] (by kernel_rfl)).ro, hS.newC [] (by decide) (by kernel_rfl)⟩)
 refine cond_f hF (by kernel_rfl) hb ?_
 refine wpIn_skip ?_
 exact ⟨_, x178.2.snap, x178.2.dep, x178.2.open_, p179, m180, c181, x178.2.writes, p182, m183, c184, x178.2.cache, y185, y186, y187, y188, y189, y190, y191, y192, y193, y194, y195, hF.kp [0, 1, 5, 6, 7, 8, 9, 10], hS.sp [0, 4, 5, 1, 2] [0, 1, 2], H⟩
 refine cond_f hF (by kernel_rfl) hb ?_
 refine wpIn_seq_k fun K203 hK203 => ?_
 refine wpIn_region_lit ?_
 refine wp 2 [0, 1, 5, 6, 7, 8, 9, 10, 13, 14, 83] hF fun a hF => ?_
 refine wpListIn_nil ?_
 refine hK203 _ _ ?_
 refine bif_split H (fun hb H => ?_) (fun hb H => ?_)
 refine cond_t hF (by kernel_rfl) hb ?_
 refine wpIn_seq_k fun K204 hK204 => ?_
 refine wpIn_region_lit ?_
 refine bind_split H (fun v206 hv206 H => ?_)
 refine wl_join (fun a w => ∃ κ : Gh, Fr (112) [] [(0, .slice p2 (a1).length c3), (1, .string (a4)), (5, pt b8 0), (6, pt b18 0), (7, pt b19 0), (8, vb y194), (9, vb y195), (10, vi y145), (91, vb v206)] a ∧ SS [] κ0 w0 κ w [.box b8 121 [su x178.2.snap, su x178.2.dep, sb x178.2.open_, (1, [.map p179]), (1, [.map p182])], .box b19 37 [sg y185, sg y186, sb y187, su y188, si y189, si y190], .box b18 37 [sg y191, sg y192, sb y193, su 0, si 0, si 0], .ext (objX p179 (.map m180 c181)), .ext (objX p182 (.map m183 c184))] [Ro.mp f_law15_Op.ty p2 c3 a1, Map.mp kStr true f_api_Ver.ty p179 m180 c181 x178.2.writes, Map.mp kStr true f_api_Ver.ty p182 m183 c184 x178.2.cache] ∧ True) ?_ ?_
 refine wl_pure (L' := [(0, .slice p2 (a1).length c3), (1, .string (a4)), (5, pt b8 0), (6, pt b18 0), (7, pt b19 0), (8, vb y194), (9, vb y195), (10, vi y145), (13, pt b198 0), (87, vb (x197.2 != 1))]) 3 [0, 1, 5, 6, 7, 8, 9, 10, 13, 87] hF (by kernel_rfl) fun a hF => ?_
 refine bif_split hv206 (fun hb hv206 => ?_) (fun hb hv206 => ?_)
 have hF := hF.boolv 87 (by kernel_rfl) hb
 refine wp 4 [0, 1, 5, 6, 7, 8, 9, 10, 91] hF fun a hF => ?_
 refine wpListIn_nil ?_
 cases hv206
 exact ⟨_, hF.kp [0, 1, 5, 6, 7, 8, 9, 10, 91], hS.sp [0, 4, 5, 1, 2] [0, 1, 2], trivial⟩
 have hF := hF.boolv 87 (by kernel_rfl) hb
 refine wcg hF (wls hF hS 3 0 6 fun a hF => ?_)
 refine wcg hF (wls hF hS 5 0 6 fun a hF => ?_)
 refine wcg hF (wo_val hF (by kernel_rfl) (v := vb (!(cEq (flat [sg x197.1.Key, sg x197.1.Val, sb x197.1.Gone, su x197.1.TS, si x197.1.DC, si x197.1.Tx]) (flat [sg y191, sg y192, sb y193, su 0, si 0, si 0])))) ((val_eq (neg := true) (xs := (flat [sg x197.1.Key, sg x197.1.Val, sb x197.1.Gone, su x197.1.TS, si x197.1.DC, si x197.1.Tx])) (ys := (flat [sg y191, sg y192, sb y193, su 0, si 0, si 0])) (ks := [.str, .str, .bool, .int .u64, .int .i64, .int .i64]) 20 (by decide) rfl (by kernel_rfl) (by kernel_rfl) (by kernel_rfl) (by kernel_rfl) (by kernel_rfl) (by kernel_rfl) (by kernel_rfl)) _) fun a hF => ?_)
 refine wp 1 [0, 1, 5, 6, 7, 8, 9, 10, 91] hF fun a hF => ?_
 refine wpListIn_nil ?_
 cases hv206
 exact ⟨_, hF.kp [0, 1, 5, 6, 7, 8, 9, 10, 91], hS.sp [0, 4, 5, 1, 2] [0, 1, 2], trivial⟩
 rintro a w ⟨κ, hF, hS, -⟩
 refine hK204 _ _ ?_
 refine bif_split H (fun hb H => ?_) (fun hb H => ?_)
 refine cond_t hF (by kernel_rfl) hb ?_
 refine wpIn_seq_k fun K207 hK207 => ?_
 refine wpIn_region_lit ?_
 refine wp 1 [4] hF fun a hF => ?_
 refine wpListIn_nil ?_
 refine hK207 _ _ ?_
 refine wpIn_ret ?_
 cases H
 exact (ret_done hF hS (res1 Try.results6 (rvt hF)) ⟨rfl, (hS.pick [] (by kernel_rfl)).ro, hS.newC [] (by decide) (by kernel_rfl)⟩)
 refine cond_f hF (by kernel_rfl) hb ?_
 refine wpIn_skip ?_
 exact ⟨_, x178.2.snap, x178.2.dep, x178.2.open_, p179, m180, c181, x178.2.writes, p182, m183, c184, x178.2.cache, y185, y186, y187, y188, y189, y190, y191, y192, y193, y194, y195, hF.kp [0, 1, 5, 6, 7, 8, 9, 10], hS.sp (rg 5) [0, 1, 2], H⟩
 refine cond_f hF (by kernel_rfl) hb ?_
 refine wpIn_seq_k fun K208 hK208 => ?_
 refine bind_split H (fun v210 hv210 H => ?_)
 refine code_join (fun a w => ∃ κ : Gh, Fr (112) [] [(0, .slice p2 (a1).length c3), (1, .string (a4)), (5, pt b8 0), (6, pt b18 0), (7, pt b19 0), (8, vb y194), (9, vb y195), (10, vi y145), (13, pt b198 0), (14, vi x197.2), (92, vb v210)] a ∧ SS [] κ0 w0 κ w [.box b8 121 [su x178.2.snap, su x178.2.dep, sb x178.2.open_, (1, [.map p179]), (1, [.map p182])], .box b198 37 [sg x197.1.Key, sg x197.1.Val, sb x197.1.Gone, su x197.1.TS, si x197.1.DC, si x197.1.Tx], .box b19 37 [sg y185, sg y186, sb y187, su y188, si y189, si y190], .box b18 37 [sg y191, sg y192, sb y193, su 0, si 0, si 0], .ext (objX p179 (.map m180 c181)), .ext (objX p182 (.map m183 c184))] [Ro.mp f_law15_Op.ty p2 c3 a1, Map.mp kStr true f_api_Ver.ty p179 m180 c181 x178.2.writes, Map.mp kStr true f_api_Ver.ty p182 m183 c184 x178.2.cache] ∧ True) ?_ ?_
 refine rgS hS [] ?_
 have hS := hS.drew
 refine anp [0, 1] [0, 1, 5, 6, 7, 8, 9, 10, 13, 14, 94] hF (hS.sx (rg 6) [0, 1, 2]) fun a hF => ?_
 refine bif_split hv210 (fun hb hv210 => ?_) (fun hb hv210 => ?_)
 have hF := hF.boolv 94 (by kernel_rfl) hb
 refine anp [2, 4] [0, 1, 5, 6, 7, 8, 9, 10, 13, 14, 94, 95, 97] hF (hS.sx (rg 6) [0, 1, 2]) fun a hF => ?_
 refine atk 3 (some 96) hF (hS.sx (rg 6) [0, 1, 2]) rfl (vld 4 3 0) fun a hF => ?_
 refine ago 5 hF rfl ?_
 refine bind_split hv210 (fun x211 hx211 hv210 => ?_)
 refine wcS 3 (rg 6) hF hS (fun hS => C_session_Session_Snap N (T_session_Session.mk x178.2.snap x178.2.dep x178.2.open_ x178.2.writes x178.2.cache) p179 m180 c181 p182 m183 c184 b8 ⟨rfl, hS.pick [1, 2] (by kernel_rfl)⟩ hx211) ?_
 rintro _ κ w a ⟨rfl, h2⟩ hF hB
 have hS := hB _ _ h2
 refine ⟨fun _ => (hS.sx (rg 6) [0, 1, 2]), ?_⟩
 refine anp [6, 7, 8] [0, 1, 5, 6, 7, 8, 9, 10, 13, 14, 92] hF (hS.sx (rg 6) [0, 1, 2]) fun a hF => ?_
 refine and_ ?_
 cases hv210
 exact ⟨_, hF.kp [0, 1, 5, 6, 7, 8, 9, 10, 13, 14, 92], hS.sp [0, 3, 4, 5, 1, 2] [0, 1, 2], trivial⟩
 have hF := hF.boolv 94 (by kernel_rfl) hb
 refine anp [2, 3, 4, 5, 6, 7, 8] [0, 1, 5, 6, 7, 8, 9, 10, 13, 14, 92] hF (hS.sx (rg 6) [0, 1, 2]) fun a hF => ?_
 refine and_ ?_
 cases hv210
 exact ⟨_, hF.kp [0, 1, 5, 6, 7, 8, 9, 10, 13, 14, 92], hS.sp [0, 3, 4, 5, 1, 2] [0, 1, 2], trivial⟩
 rintro a w ⟨κ, hF, hS, -⟩
 refine hK208 _ _ ?_
 refine bif_split H (fun hb H => ?_) (fun hb H => ?_)
 refine cond_t hF (by kernel_rfl) hb ?_
 refine wpIn_seq_k fun K212 hK212 => ?_
 refine wpIn_region_lit ?_
 refine bind_split H (fun v214 hv214 H => ?_)
 refine wl_join (fun a w => ∃ κ : Gh, Fr (112) [] [(0, .slice p2 (a1).length c3), (1, .string (a4)), (5, pt b8 0), (6, pt b18 0), (7, pt b19 0), (8, vb y194), (9, vb y195), (10, vi y145), (107, vb v214)] a ∧ SS [] κ0 w0 κ w [.box b8 121 [su x178.2.snap, su x178.2.dep, sb x178.2.open_, (1, [.map p179]), (1, [.map p182])], .box b19 37 [sg y185, sg y186, sb y187, su y188, si y189, si y190], .box b18 37 [sg y191, sg y192, sb y193, su 0, si 0, si 0], .ext (objX p179 (.map m180 c181)), .ext (objX p182 (.map m183 c184))] [Ro.mp f_law15_Op.ty p2 c3 a1, Map.mp kStr true f_api_Ver.ty p179 m180 c181 x178.2.writes, Map.mp kStr true f_api_Ver.ty p182 m183 c184 x178.2.cache] ∧ True) ?_ ?_
 refine wl_pure (L' := [(0, .slice p2 (a1).length c3), (1, .string (a4)), (5, pt b8 0), (6, pt b18 0), (7, pt b19 0), (8, vb y194), (9, vb y195), (10, vi y145), (13, pt b198 0), (103, vb (x197.2 != 2))]) 3 [0, 1, 5, 6, 7, 8, 9, 10, 13, 103] hF (by kernel_rfl) fun a hF => ?_
 refine bif_split hv214 (fun hb hv214 => ?_) (fun hb hv214 => ?_)
 have hF := hF.boolv 103 (by kernel_rfl) hb
 refine wp 4 [0, 1, 5, 6, 7, 8, 9, 10, 107] hF fun a hF => ?_
 refine wpListIn_nil ?_
 cases hv214
 exact ⟨_, hF.kp [0, 1, 5, 6, 7, 8, 9, 10, 107], hS.sp [0, 2, 3, 4, 5] [0, 1, 2], trivial⟩
 have hF := hF.boolv 103 (by kernel_rfl) hb
 refine wcg hF (wls hF hS 1 0 6 fun a hF => ?_)
 refine wcg hF (wls hF hS 2 0 6 fun a hF => ?_)
 refine wcg hF (wo_val hF (by kernel_rfl) (v := vb (!(cEq (flat [sg x197.1.Key, sg x197.1.Val, sb x197.1.Gone, su x197.1.TS, si x197.1.DC, si x197.1.Tx]) (flat [sg y185, sg y186, sb y187, su y188, si y189, si y190])))) ((val_eq (neg := true) (xs := (flat [sg x197.1.Key, sg x197.1.Val, sb x197.1.Gone, su x197.1.TS, si x197.1.DC, si x197.1.Tx])) (ys := (flat [sg y185, sg y186, sb y187, su y188, si y189, si y190])) (ks := [.str, .str, .bool, .int .u64, .int .i64, .int .i64]) 20 (by decide) rfl (by kernel_rfl) (by kernel_rfl) (by kernel_rfl) (by kernel_rfl) (by kernel_rfl) (by kernel_rfl) (by kernel_rfl)) _) fun a hF => ?_)
 refine wp 1 [0, 1, 5, 6, 7, 8, 9, 10, 107] hF fun a hF => ?_
 refine wpListIn_nil ?_
 cases hv214
 exact ⟨_, hF.kp [0, 1, 5, 6, 7, 8, 9, 10, 107], hS.sp [0, 2, 3, 4, 5] [0, 1, 2], trivial⟩
 rintro a w ⟨κ, hF, hS, -⟩
 refine hK212 _ _ ?_
 refine bif_split H (fun hb H => ?_) (fun hb H => ?_)
 refine cond_t hF (by kernel_rfl) hb ?_
 refine wpIn_seq_k fun K215 hK215 => ?_
 refine wpIn_region_lit ?_
 refine wp 1 [4] hF fun a hF => ?_
 refine wpListIn_nil ?_
 refine hK215 _ _ ?_
 refine wpIn_ret ?_
 cases H
 exact (ret_done hF hS (res1 Try.results6 (rvt hF)) ⟨rfl, (hS.pick [] (by kernel_rfl)).ro, hS.newC [] (by decide) (by kernel_rfl)⟩)
 refine cond_f hF (by kernel_rfl) hb ?_
 refine wpIn_skip ?_
 exact ⟨_, x178.2.snap, x178.2.dep, x178.2.open_, p179, m180, c181, x178.2.writes, p182, m183, c184, x178.2.cache, y185, y186, y187, y188, y189, y190, y191, y192, y193, y194, y195, hF.kp [0, 1, 5, 6, 7, 8, 9, 10], hS.sp (rg 5) [0, 1, 2], H⟩
 refine cond_f hF (by kernel_rfl) hb ?_
 refine wpIn_seq_k fun K216 hK216 => ?_
 refine wpIn_region_lit ?_
 refine wp 3 [0, 1, 5, 6, 7, 8, 9, 10, 108] hF fun a hF => ?_
 refine wpListIn_nil ?_
 refine hK216 _ _ ?_
 refine bif_split H (fun hb H => ?_) (fun hb H => ?_)
 refine cond_t hF (by kernel_rfl) hb ?_
 refine wpIn_seq_k fun K217 hK217 => ?_
 refine wpIn_region_lit ?_
 refine wp 1 [4] hF fun a hF => ?_
 refine wpListIn_nil ?_
 refine hK217 _ _ ?_
 refine wpIn_ret ?_
 cases H
 exact (ret_done hF hS (res1 Try.results6 (rvt hF)) ⟨rfl, (hS.pick [] (by kernel_rfl)).ro, hS.newC [] (by decide) (by kernel_rfl)⟩)
 refine cond_f hF (by kernel_rfl) hb ?_
 refine wpIn_skip ?_
 exact ⟨_, x178.2.snap, x178.2.dep, x178.2.open_, p179, m180, c181, x178.2.writes, p182, m183, c184, x178.2.cache, y185, y186, y187, y188, y189, y190, y191, y192, y193, y194, y195, hF.kp [0, 1, 5, 6, 7, 8, 9, 10], hS.sp [0, 2, 3, 4, 5] [0, 1, 2], H⟩
 rintro a w ⟨κ, y150, y151, y152, p153, m154, c155, y156, p157, m158, c159, y160, y161, y162, y163, y164, y165, y166, y167, y168, y169, y170, y171, hF, hS, H⟩
 unfold M.law15_SessionOwn_k2 at H
 refine wpIn_region_lit ?_
 refine wp 3 [0, 1, 5, 6, 7, 8, 9, 10] hF fun a hF => ?_
 refine wpListIn_nil ?_
 exact ⟨fuel1, Nat.lt_succ_self _, _, y161, y162, y163, y164, y165, y166, y167, y168, y169, y150, y151, y152, p153, m154, c155, y156, p157, m158, c159, y160, y170, y171, IntKind.i64.wrap (y145 + 1), hF.kp [0, 1, 5, 6, 7, 8, 9, 10], hS.sp [1, 2, 0, 3, 4] [0, 1, 2], H⟩
 refine cond_f hF (by kernel_rfl) hb ?_
 refine wpIn_exit ?_
 refine hK21 _ _ ?_
 refine wpIn_seq_k fun K227 hK227 => ?_
 refine wpIn_region_lit ?_
 refine bind_split H (fun x228 hx228 H => ?_)
 refine wc (wo_callP hF hS (by kernel_rfl) (by kernel_rfl) (C_law15_awake N hS.fresh   ((hS.pick [] (by kernel_rfl)).ro) hx228) ?_)
 rintro _ κ w a ⟨rfl, hR, hN⟩ hF hS hO
 refine wp 1 [4] hF fun a hF => ?_
 refine wpListIn_nil ?_
 refine hK227 _ _ ?_
 refine wpIn_ret ?_
 cases H
 exact (ret_done hF hS (res1 Try.results6 (rvt hF)) ⟨rfl, (hS.pick [] (by kernel_rfl)).ro, hS.newC [] (by decide) (by kernel_rfl)⟩)
end Go.Cf
