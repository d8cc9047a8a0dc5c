/- The walks: each function returns what its model says. Printed by a program of ours. -/
import Derived.Test.YteeafoagaaedcaaZM1
import Derived.Test.YteeafoagaaedcaaZWs1
import Derived.Test.YteeafoagaaedcaaZWs2
namespace Go.Cf
open Go Go.Proofs
set_option linter.unusedVariables false
set_option maxRecDepth 20000 in
set_option maxHeartbeats 1000000 in
theorem C_law15_SessionLast (N : Nat) {κ0 : Gh} {w0 : World} (hfr : Fresh κ0 w0) (a1 : (List T_law15_Op)) (p2 : Option Addr) (c3 : Nat) (hR : ∀ m ∈ ([Ro.mp f_law15_Op.ty p2 c3 a1] : List MP), m.p κ0 w0) {r : (Bool)} (H : M.law15_SessionLast N a1 = some r) :
    Calls Try.prog 3 #[.slice p2 (a1).length c3] w0 (Post [] κ0 w0 fun v κ w => v = vb r ∧ (∀ m ∈ ([] : List MP), m.p κ w) ∧ NewC w0 κ w []) := by
 have hS := SS.start hfr hR
 refine enter (N := (150)) (L := [(0, .slice p2 (a1).length c3)]) Try.func3 rfl Try.ntmps3 (show 1 ≤ (150) by decide) rfl fun a hF => ?_
 unfold M.law15_SessionLast at H
 refine wpIn_seq_k fun K4 hK4 => ?_
 refine wpIn_region_lit ?_
 refine wp 1 [0] hF fun a hF => ?_
 refine wpListIn_nil ?_
 refine hK4 _ _ ?_
 refine wpIn_seq_k fun K5 hK5 => ?_
 refine wpIn_region_lit ?_
 refine bind_split H (fun x6 hx6 H => ?_)
 refine wc (wcS 0 [] hF hS (fun hS => C_session_New N    ⟨rfl, hS.pick [] (by kernel_rfl)⟩ hx6) ?_)
 rintro _ κ w a ⟨b7, p8, m9, c10, p11, m12, c13, rfl, h2⟩ hF hB
 have hS := hB _ _ h2
 refine wp 1 [0, 3] hF fun a hF => ?_
 refine wpListIn_nil ?_
 refine hK5 _ _ ?_
 refine wpIn_seq_k fun K14 hK14 => ?_
 refine wpIn_seq_k fun K15 hK15 => ?_
 refine wpIn_region_lit ?_
 refine wp 2 [0, 3, 19] hF fun a hF => ?_
 refine wpListIn_nil ?_
 refine hK15 _ _ ?_
 refine cond_f hF (by kernel_rfl) rfl ?_
 refine wpIn_skip ?_
 refine hK14 _ _ ?_
 refine wpIn_seq_k fun K16 hK16 => ?_
 refine wpIn_seq_k fun K17 hK17 => ?_
 refine wpIn_region_lit ?_
 refine wp 1 [0, 3, 21] hF fun a hF => ?_
 refine bind_split H (fun x18 hx18 H => ?_)
 refine wc (wcS 3 [0, 1, 2] hF hS (fun hS => C_session_Session_Begin N (T_session_Session.mk x6.snap x6.dep x6.open_ x6.writes x6.cache) 0 p8 m9 c10 p11 m12 c13 b7 ⟨rfl, hS.pick [0, 1] (by kernel_rfl)⟩ hx18) ?_)
 rintro _ κ w a ⟨p19, m20, c21, p22, m23, c24, rfl, h2⟩ hF hB
 have hS := hB _ _ h2
 refine wp 5 [0, 3, 5] hF fun a hF => ?_
 refine wpListIn_nil ?_
 refine hK17 _ _ ?_
 refine wpIn_seq_k fun K25 hK25 => ?_
 refine wpIn_region_lit ?_
 refine wp 2 [0, 3, 26] hF fun a hF => ?_
 refine wpListIn_nil ?_
 refine hK25 _ _ ?_
 refine bif_split H (fun hb H => ?_) (fun hb H => ?_)
 refine cond_t hF (by kernel_rfl) hb ?_
 refine wpIn_seq_k fun K26 hK26 => ?_
 refine wpIn_region_lit ?_
 refine wp 1 [2] hF fun a hF => ?_
 refine wpListIn_nil ?_
 refine hK26 _ _ ?_
 refine wpIn_ret ?_
 cases H
 exact (ret_done hF hS (res1 Try.results3 (rvt hF)) ⟨rfl, (hS.pick [] (by kernel_rfl)).ro, hS.newC [] (by decide) (by kernel_rfl)⟩)
 refine cond_f hF (by kernel_rfl) hb ?_
 refine wpIn_skip ?_
 refine hK16 _ _ ?_
 refine wpIn_seq_k fun K27 hK27 => ?_
 refine wpIn_region_lit ?_
 refine wl_pure (L' := [(0, .slice p2 (a1).length c3), (3, pt b7 0), (6, .slice none 0 0)]) 1 [0, 3, 6] hF (by kernel_rfl) fun a hF => ?_
 refine wpListIn_nil ?_
 refine hK27 _ _ ?_
 refine wpIn_seq_k fun K28 hK28 => ?_
 refine wpIn_region_lit ?_
 refine wc (wo_makeMap hF hS (by kernel_rfl) kStr true f_api_Ver.ty rfl fun b29 a w hF hS => ?_)
 refine wp 1 [0, 3, 6, 7] hF fun a hF => ?_
 refine wpListIn_nil ?_
 refine hK28 _ _ ?_
 refine wpIn_seq_k fun K30 hK30 => ?_
 refine wpIn_seq_k fun K31 hK31 => ?_
 refine wpIn_region_lit ?_
 refine wp 1 [0, 3, 6, 7, 8] hF fun a hF => ?_
 refine wpListIn_nil ?_
 refine hK31 _ _ ?_
 refine wpIn_block ?_
 refine loop_fuel (n := N) (fun n a w => ∃ (κ : Gh) (y82 y83 : Int) (y84 : Bool) (p85 : Option Nat) (m86 : Array MapEntry) (c87 : Nat) (y88 : Mp ByteArray T_api_Ver) (p89 : Option Nat) (m90 : Array MapEntry) (c91 : Nat) (y92 : Mp ByteArray T_api_Ver) (y93 : List ByteArray) (p94 : Option Addr) (c95 : Nat) (m96 : Array MapEntry) (c97 : Nat) (y98 : Mp ByteArray T_api_Ver) (y99 : Int), Fr (150) [] [(0, .slice p2 (a1).length c3), (3, pt b7 0), (6, .slice p94 (y93).length c95), (7, .map (some b29)), (8, vi y99)] a ∧ SS [] κ0 w0 κ w [.box b7 121 [su y82, su y83, sb y84, (1, [.map p85]), (1, [.map p89])], .tok p94 9 1 (y93).length c95, .ext (objX p85 (.map m86 c87)), .ext (objX p89 (.map m90 c91)), .ext (objX (some b29) (.map m96 c97))] [Ro.mp f_law15_Op.ty p2 c3 a1, Map.mp kStr true f_api_Ver.ty p85 m86 c87 y88, Map.mp kStr true f_api_Ver.ty p89 m90 c91 y92, Ro.mp fStr.ty p94 c95 y93, Map.mp kStr true f_api_Ver.ty (some b29) m96 c97 y98] ∧ M.law15_SessionLast_L1 N n a1 y82 y83 y84 y88 y92 y93 y98 y99 = some r) ?_ ?_
 have hS := hS.add (m := Ro.mp fStr.ty none 0 ([] : List ByteArray)) (Ro.nil fStr.ty _ _)
 have hS := hS.addNil 9 1
 exact ⟨_, x18.2.2.snap, x18.2.2.dep, x18.2.2.open_, p19, m20, c21, x18.2.2.writes, p22, m23, c24, x18.2.2.cache, ([] : List ByteArray), none, 0, #[], 0, (some []), 0, hF.kp [0, 3, 6, 7, 8], hS.sp [2, 0, 3, 4, 1] [6, 2, 3, 0, 1], H⟩
 rintro n a w ⟨κ, y82, y83, y84, p85, m86, c87, y88, p89, m90, c91, y92, y93, p94, c95, m96, c97, y98, y99, hF, hS, H⟩
 rcases n with _ | fuel1
 simp [M.law15_SessionLast_L1] at H
 simp only [M.law15_SessionLast_L1] at H
 refine wpIn_seq_k fun K100 hK100 => ?_
 refine wpIn_seq_k fun K101 hK101 => ?_
 refine wpIn_region_lit ?_
 refine bind_split H (fun v103 hv103 H => ?_)
 refine wl_join (fun a w => ∃ κ : Gh, Fr (150) [] [(0, .slice p2 (a1).length c3), (3, pt b7 0), (6, .slice p94 (y93).length c95), (7, .map (some b29)), (8, vi y99), (35, vb v103)] a ∧ SS [] κ0 w0 κ w [.box b7 121 [su y82, su y83, sb y84, (1, [.map p85]), (1, [.map p89])], .tok p94 9 1 (y93).length c95, .ext (objX p85 (.map m86 c87)), .ext (objX p89 (.map m90 c91)), .ext (objX (some b29) (.map m96 c97))] [Ro.mp f_law15_Op.ty p2 c3 a1, Map.mp kStr true f_api_Ver.ty p85 m86 c87 y88, Map.mp kStr true f_api_Ver.ty p89 m90 c91 y92, Ro.mp fStr.ty p94 c95 y93, Map.mp kStr true f_api_Ver.ty (some b29) m96 c97 y98] ∧ True) ?_ ?_
 refine wp 5 [0, 3, 6, 7, 8, 32] hF fun a hF => ?_
 refine bif_split hv103 (fun hb hv103 => ?_) (fun hb hv103 => ?_)
 have hF := hF.boolv 32 (by kernel_rfl) hb
 refine wp 3 [0, 3, 6, 7, 8, 35] hF fun a hF => ?_
 refine wpListIn_nil ?_
 cases hv103
 exact ⟨_, hF.kp [0, 3, 6, 7, 8, 35], hS.sp (rg 5) (rg 5), trivial⟩
 have hF := hF.boolv 32 (by kernel_rfl) hb
 refine wp 3 [0, 3, 6, 7, 8, 35] hF fun a hF => ?_
 refine wpListIn_nil ?_
 cases hv103
 exact ⟨_, hF.kp [0, 3, 6, 7, 8, 35], hS.sp (rg 5) (rg 5), trivial⟩
 rintro a w ⟨κ, hF, hS, -⟩
 refine hK101 _ _ ?_
 refine bif_split H (fun hb H => ?_) (fun hb H => ?_)
 refine cond_t hF (by kernel_rfl) hb ?_
 refine wpIn_skip ?_
 refine hK100 _ _ ?_
 refine seq_join (fun a w => ∃ (κ : Gh) (y104 y105 : Int) (y106 : Bool) (p107 : Option Nat) (m108 : Array MapEntry) (c109 : Nat) (y110 : Mp ByteArray T_api_Ver) (p111 : Option Nat) (m112 : Array MapEntry) (c113 : Nat) (y114 : Mp ByteArray T_api_Ver) (y115 : List ByteArray) (p116 : Option Addr) (c117 : Nat) (m118 : Array MapEntry) (c119 : Nat) (y120 : Mp ByteArray T_api_Ver), Fr (150) [] [(0, .slice p2 (a1).length c3), (3, pt b7 0), (6, .slice p116 (y115).length c117), (7, .map (some b29)), (8, vi y99)] a ∧ SS [] κ0 w0 κ w [.box b7 121 [su y104, su y105, sb y106, (1, [.map p107]), (1, [.map p111])], .tok p116 9 1 (y115).length c117, .ext (objX p107 (.map m108 c109)), .ext (objX p111 (.map m112 c113)), .ext (objX (some b29) (.map m118 c119))] [Ro.mp f_law15_Op.ty p2 c3 a1, Map.mp kStr true f_api_Ver.ty p107 m108 c109 y110, Map.mp kStr true f_api_Ver.ty p111 m112 c113 y114, Ro.mp fStr.ty p116 c117 y115, Map.mp kStr true f_api_Ver.ty (some b29) m118 c119 y120] ∧ M.law15_SessionLast_k2 N (M.law15_SessionLast_L1 N fuel1) a1 y99 y104 y105 y106 y110 y114 y115 y120 = some r) ?_ ?_
 refine wpIn_block ?_
 refine wpIn_seq_k fun K121 hK121 => ?_
 refine wpIn_region_lit ?_
 refine wl_pure (L' := [(0, .slice p2 (a1).length c3), (3, pt b7 0), (6, .slice p94 (y93).length c95), (7, .map (some b29)), (8, vi y99), (38, .slice p2 (a1).length c3), (39, vi y99)]) 2 [0, 3, 6, 7, 8, 38, 39] hF (by kernel_rfl) fun a hF => ?_
 refine bind_split H (fun x122 hx122 H => ?_)
 refine wc (wo_index hF hS (by kernel_rfl) 0 (E := 34) (sz := 8) rfl rfl rfl (by kernel_rfl) rfl hx122 (by kernel_rfl) (by kernel_rfl) fun b123 f124 a hpx122 hF => ?_)
 refine wc (wo_loadRoAgg (t := f_law15_Op) hF hS (by kernel_rfl) 0 rfl rfl hpx122 rfl hx122 (by kernel_rfl) (by kernel_rfl) (by kernel_rfl) fun a hF => ?_)
 refine wc (wal hF hS [si 0, sg ByteArray.empty, sg ByteArray.empty, sb false, su 0, su 0, si 0, si 0] (sgN 8 sgNil) fun b125 a w hF hS => ?_)
 refine wc (wst hF hS 0 0 8 [si x122.Kind, sg x122.Key, sg x122.Val, sb x122.Gone, su x122.T, su x122.Mark.TS, si x122.Mark.DC, si x122.Mark.Tx] (sgN 8 sgNil) fun a w hF hS => ?_)
 refine wpListIn_nil ?_
 refine hK121 _ _ ?_
 refine wpIn_seq_k fun K126 hK126 => ?_
 refine wpIn_region_lit ?_
 refine wp 2 [0, 3, 6, 7, 8, 9, 42, 43] hF fun a hF => ?_
 refine wc (wld hF hS 0 1 0 fun a hF => ?_)
 refine wp 1 [0, 3, 6, 7, 8, 9, 42, 44, 45] hF fun a hF => ?_
 refine wc (wld hF hS 0 2 0 fun a hF => ?_)
 refine wp 1 [0, 3, 6, 7, 8, 9, 42, 44, 46, 47] hF fun a hF => ?_
 refine wc (wld hF hS 0 3 0 fun a hF => ?_)
 refine bind_split H (fun x127 hx127 H => ?_)
 refine wc (wcS 3 [1, 3, 4, 0, 2, 5] hF hS (fun hS => C_session_Session_Write N (T_session_Session.mk y82 y83 y84 y88 y92) x122.Key x122.Val x122.Gone p85 m86 c87 p89 m90 c91 b7 ⟨rfl, hS.pick [1, 2] (by kernel_rfl)⟩ hx127) ?_)
 rintro _ κ w a ⟨p128, m129, c130, p131, m132, c133, rfl, h2⟩ hF hB
 have hS := hB _ _ h2
 refine wp 1 [0, 3, 6, 7, 8, 9, 10] hF fun a hF => ?_
 refine wpListIn_nil ?_
 refine hK126 _ _ ?_
 refine wpIn_seq_k fun K134 hK134 => ?_
 refine wpIn_region_lit ?_
 refine wl_pure (L' := [(0, .slice p2 (a1).length c3), (3, pt b7 0), (6, .slice p94 (y93).length c95), (7, .map (some b29)), (8, vi y99), (9, pt b125 0), (10, vi x127.1), (51, .map (some b29)), (52, pt b125 1)]) 2 [0, 3, 6, 7, 8, 9, 10, 51, 52] hF (by kernel_rfl) fun a hF => ?_
 refine wc (wld hF hS 3 1 0 fun a hF => ?_)
 refine bind_split H (fun x135 hx135 H => ?_)
 refine wc (wo_lookup (KT := 9) (E := 37) (kt := kStr) (agg := true) (t := f_api_Ver.ty) hF hS (by kernel_rfl) 5 6 (k := x122.Key) (zc := flat [sg ByteArray.empty, sg ByteArray.empty, sb false, su 0, si 0, si 0]) (zm := (T_api_Ver.mk ByteArray.empty ByteArray.empty false 0 0 0)) rfl (by kernel_rfl) (by kernel_rfl) rfl rfl hx135 (by kernel_rfl) (by kernel_rfl) (by kernel_rfl) (fun _ _ => rfl) ?_)
 rintro _ a rfl hF
 refine wp 3 [0, 3, 6, 7, 8, 9, 10, 55, 56] hF fun a hF => ?_
 refine wc (wal hF hS [sg ByteArray.empty, sg ByteArray.empty, sb false, su 0, si 0, si 0] (sgN 6 sgNil) fun b136 a w hF hS => ?_)
 refine wc (wst hF hS 0 0 6 [sg x135.1.Key, sg x135.1.Val, sb x135.1.Gone, su x135.1.TS, si x135.1.DC, si x135.1.Tx] (sgN 6 sgNil) fun a w hF hS => ?_)
 refine wp 1 [0, 3, 6, 7, 8, 9, 10, 12] hF fun a hF => ?_
 refine wpListIn_nil ?_
 refine hK134 _ _ ?_
 refine wpIn_seq_k fun K137 hK137 => ?_
 refine wpIn_region_lit ?_
 refine wp 1 [0, 3, 6, 7, 8, 9, 10, 12, 13] hF fun a hF => ?_
 refine wpListIn_nil ?_
 refine hK137 _ _ ?_
 refine seq_join (fun a w => ∃ (κ : Gh) (y138 : Int), Fr (150) [] [(0, .slice p2 (a1).length c3), (3, pt b7 0), (6, .slice p94 (y93).length c95), (7, .map (some b29)), (8, vi y99), (9, pt b125 0), (10, vi x127.1), (12, vb x135.2), (13, vi y138)] a ∧ SS [] κ0 w0 κ w [.box b7 121 [su x127.2.snap, su x127.2.dep, sb x127.2.open_, (1, [.map p128]), (1, [.map p131])], .box b125 34 [si x122.Kind, sg x122.Key, sg x122.Val, sb x122.Gone, su x122.T, su x122.Mark.TS, si x122.Mark.DC, si x122.Mark.Tx], .tok p94 9 1 (y93).length c95, .ext (objX p128 (.map m129 c130)), .ext (objX p131 (.map m132 c133)), .ext (objX (some b29) (.map m96 c97))] [Ro.mp f_law15_Op.ty p2 c3 a1, Map.mp kStr true f_api_Ver.ty p128 m129 c130 x127.2.writes, Map.mp kStr true f_api_Ver.ty p131 m132 c133 x127.2.cache, Ro.mp fStr.ty p94 c95 y93, Map.mp kStr true f_api_Ver.ty (some b29) m96 c97 y98] ∧ M.law15_SessionLast_k3 N (M.law15_SessionLast_L1 N fuel1) a1 y93 y98 y99 x122 x127 x135 y138 = some r) ?_ ?_
 refine wpIn_block ?_
 refine wpIn_seq_k fun K154 hK154 => ?_
 refine wpIn_region_lit ?_
 refine bind_split H (fun v156 hv156 H => ?_)
 refine wl_join (fun a w => ∃ κ : Gh, Fr (150) [] [(0, .slice p2 (a1).length c3), (3, pt b7 0), (6, .slice p94 (y93).length c95), (7, .map (some b29)), (8, vi y99), (9, pt b125 0), (10, vi x127.1), (12, vb x135.2), (13, vi 0), (57, vb v156)] a ∧ SS [] κ0 w0 κ w [.box b7 121 [su x127.2.snap, su x127.2.dep, sb x127.2.open_, (1, [.map p128]), (1, [.map p131])], .box b125 34 [si x122.Kind, sg x122.Key, sg x122.Val, sb x122.Gone, su x122.T, su x122.Mark.TS, si x122.Mark.DC, si x122.Mark.Tx], .tok p94 9 1 (y93).length c95, .ext (objX p128 (.map m129 c130)), .ext (objX p131 (.map m132 c133)), .ext (objX (some b29) (.map m96 c97))] [Ro.mp f_law15_Op.ty p2 c3 a1, Map.mp kStr true f_api_Ver.ty p128 m129 c130 x127.2.writes, Map.mp kStr true f_api_Ver.ty p131 m132 c133 x127.2.cache, Ro.mp fStr.ty p94 c95 y93, Map.mp kStr true f_api_Ver.ty (some b29) m96 c97 y98] ∧ True) ?_ ?_
 refine wp 1 [0, 3, 6, 7, 8, 9, 10, 12, 13, 58] hF fun a hF => ?_
 refine wc (wld hF hS 4 1 0 fun a hF => ?_)
 refine wp 3 [0, 3, 6, 7, 8, 9, 10, 12, 13, 62] hF fun a hF => ?_
 refine bif_split hv156 (fun hb hv156 => ?_) (fun hb hv156 => ?_)
 have hF := hF.boolv 62 (by kernel_rfl) hb
 refine wp 6 [0, 3, 6, 7, 8, 9, 10, 12, 13, 57] hF fun a hF => ?_
 refine wpListIn_nil ?_
 cases hv156
 exact ⟨_, hF.kp [0, 3, 6, 7, 8, 9, 10, 12, 13, 57], hS.sp [1, 4, 5, 2, 3, 6] [2, 0, 1, 5, 6], trivial⟩
 have hF := hF.boolv 62 (by kernel_rfl) hb
 refine wp 1 [0, 3, 6, 7, 8, 9, 10, 12, 13, 62, 63] hF fun a hF => ?_
 refine wcg hF (wld hF hS 4 2 0 fun a hF => ?_)
 refine wp 4 [0, 3, 6, 7, 8, 9, 10, 12, 13, 57] hF fun a hF => ?_
 refine wpListIn_nil ?_
 cases hv156
 exact ⟨_, hF.kp [0, 3, 6, 7, 8, 9, 10, 12, 13, 57], hS.sp [1, 4, 5, 2, 3, 6] [2, 0, 1, 5, 6], trivial⟩
 rintro a w ⟨κ, hF, hS, -⟩
 refine hK154 _ _ ?_
 refine bif_split H (fun hb H => ?_) (fun hb H => ?_)
 refine cond_t hF (by kernel_rfl) hb ?_
 refine wpIn_region_lit ?_
 refine wp 1 [0, 3, 6, 7, 8, 9, 10, 12, 13] hF fun a hF => ?_
 refine wpListIn_nil ?_
 exact ⟨_, 6, hF.kp [0, 3, 6, 7, 8, 9, 10, 12, 13], hS.sp (rg 6) (rg 5), H⟩
 refine cond_f hF (by kernel_rfl) hb ?_
 refine wpIn_seq_k fun K157 hK157 => ?_
 refine wpIn_region_lit ?_
 refine bind_split H (fun v159 hv159 H => ?_)
 refine wl_join (fun a w => ∃ κ : Gh, Fr (150) [] [(0, .slice p2 (a1).length c3), (3, pt b7 0), (6, .slice p94 (y93).length c95), (7, .map (some b29)), (8, vi y99), (9, pt b125 0), (10, vi x127.1), (12, vb x135.2), (13, vi 0), (68, vb v159)] a ∧ SS [] κ0 w0 κ w [.box b7 121 [su x127.2.snap, su x127.2.dep, sb x127.2.open_, (1, [.map p128]), (1, [.map p131])], .box b125 34 [si x122.Kind, sg x122.Key, sg x122.Val, sb x122.Gone, su x122.T, su x122.Mark.TS, si x122.Mark.DC, si x122.Mark.Tx], .tok p94 9 1 (y93).length c95, .ext (objX p128 (.map m129 c130)), .ext (objX p131 (.map m132 c133)), .ext (objX (some b29) (.map m96 c97))] [Ro.mp f_law15_Op.ty p2 c3 a1, Map.mp kStr true f_api_Ver.ty p128 m129 c130 x127.2.writes, Map.mp kStr true f_api_Ver.ty p131 m132 c133 x127.2.cache, Ro.mp fStr.ty p94 c95 y93, Map.mp kStr true f_api_Ver.ty (some b29) m96 c97 y98] ∧ True) ?_ ?_
 refine wp 1 [0, 3, 6, 7, 8, 9, 10, 12, 13, 69] hF fun a hF => ?_
 refine wc (wld hF hS 1 1 0 fun a hF => ?_)
 refine wp 2 [0, 3, 6, 7, 8, 9, 10, 12, 13, 72] hF fun a hF => ?_
 refine bif_split hv159 (fun hb hv159 => ?_) (fun hb hv159 => ?_)
 have hF := hF.boolv 72 (by kernel_rfl) hb
 refine wp 9 [0, 3, 6, 7, 8, 9, 10, 12, 13, 68] hF fun a hF => ?_
 refine wpListIn_nil ?_
 cases hv159
 exact ⟨_, hF.kp [0, 3, 6, 7, 8, 9, 10, 12, 13, 68], hS.sp (rg 6) (rg 5), trivial⟩
 have hF := hF.boolv 72 (by kernel_rfl) hb
 refine wp 1 [0, 3, 6, 7, 8, 9, 10, 12, 13, 72, 73] hF fun a hF => ?_
 refine wcg hF (wld hF hS 1 3 0 fun a hF => ?_)
 refine wp 1 [0, 3, 6, 7, 8, 9, 10, 12, 13, 72, 75] hF fun a hF => ?_
 refine bif_split hv159 (fun hb hv159 => ?_) (fun hb hv159 => ?_)
 have hF := hF.boolv 75 (by kernel_rfl) hb
 refine wp 1 [0, 3, 6, 7, 8, 9, 10, 12, 13, 72, 75, 76] hF fun a hF => ?_
 refine wcg hF (wld hF hS 1 2 0 fun a hF => ?_)
 refine wp 4 [0, 3, 6, 7, 8, 9, 10, 12, 13, 68] hF fun a hF => ?_
 refine wpListIn_nil ?_
 cases hv159
 exact ⟨_, hF.kp [0, 3, 6, 7, 8, 9, 10, 12, 13, 68], hS.sp (rg 6) (rg 5), trivial⟩
 have hF := hF.boolv 75 (by kernel_rfl) hb
 refine wp 6 [0, 3, 6, 7, 8, 9, 10, 12, 13, 68] hF fun a hF => ?_
 refine wpListIn_nil ?_
 cases hv159
 exact ⟨_, hF.kp [0, 3, 6, 7, 8, 9, 10, 12, 13, 68], hS.sp (rg 6) (rg 5), trivial⟩
 rintro a w ⟨κ, hF, hS, -⟩
 refine hK157 _ _ ?_
 refine bif_split H (fun hb H => ?_) (fun hb H => ?_)
 refine cond_t hF (by kernel_rfl) hb ?_
 refine wpIn_region_lit ?_
 refine wp 1 [0, 3, 6, 7, 8, 9, 10, 12, 13] hF fun a hF => ?_
 refine wpListIn_nil ?_
 exact ⟨_, 1, hF.kp [0, 3, 6, 7, 8, 9, 10, 12, 13], hS.sp (rg 6) (rg 5), H⟩
 refine cond_f hF (by kernel_rfl) hb ?_
 refine wpIn_seq_k fun K160 hK160 => ?_
 refine wpIn_region_lit ?_
 refine bind_split H (fun v162 hv162 H => ?_)
 refine wl_join (fun a w => ∃ κ : Gh, Fr (150) [] [(0, .slice p2 (a1).length c3), (3, pt b7 0), (6, .slice p94 (y93).length c95), (7, .map (some b29)), (8, vi y99), (9, pt b125 0), (10, vi x127.1), (12, vb x135.2), (13, vi 0), (81, vb v162)] a ∧ SS [] κ0 w0 κ w [.box b7 121 [su x127.2.snap, su x127.2.dep, sb x127.2.open_, (1, [.map p128]), (1, [.map p131])], .box b125 34 [si x122.Kind, sg x122.Key, sg x122.Val, sb x122.Gone, su x122.T, su x122.Mark.TS, si x122.Mark.DC, si x122.Mark.Tx], .tok p94 9 1 (y93).length c95, .ext (objX p128 (.map m129 c130)), .ext (objX p131 (.map m132 c133)), .ext (objX (some b29) (.map m96 c97))] [Ro.mp f_law15_Op.ty p2 c3 a1, Map.mp kStr true f_api_Ver.ty p128 m129 c130 x127.2.writes, Map.mp kStr true f_api_Ver.ty p131 m132 c133 x127.2.cache, Ro.mp fStr.ty p94 c95 y93, Map.mp kStr true f_api_Ver.ty (some b29) m96 c97 y98] ∧ True) ?_ ?_
 refine wp 3 [0, 3, 6, 7, 8, 9, 10, 12, 13, 84] hF fun a hF => ?_
 refine bif_split hv162 (fun hb hv162 => ?_) (fun hb hv162 => ?_)
 have hF := hF.boolv 84 (by kernel_rfl) hb
 refine wp 5 [0, 3, 6, 7, 8, 9, 10, 12, 13, 81] hF fun a hF => ?_
 refine wpListIn_nil ?_
 cases hv162
 exact ⟨_, hF.kp [0, 3, 6, 7, 8, 9, 10, 12, 13, 81], hS.sp (rg 6) (rg 5), trivial⟩
 have hF := hF.boolv 84 (by kernel_rfl) hb
 refine wp 5 [0, 3, 6, 7, 8, 9, 10, 12, 13, 81] hF fun a hF => ?_
 refine wpListIn_nil ?_
 cases hv162
 exact ⟨_, hF.kp [0, 3, 6, 7, 8, 9, 10, 12, 13, 81], hS.sp (rg 6) (rg 5), trivial⟩
 rintro a w ⟨κ, hF, hS, -⟩
 refine hK160 _ _ ?_
 refine bif_split H (fun hb H => ?_) (fun hb H => ?_)
 refine cond_t hF (by kernel_rfl) hb ?_
 refine wpIn_region_lit ?_
 refine wp 1 [0, 3, 6, 7, 8, 9, 10, 12, 13] hF fun a hF => ?_
 refine wpListIn_nil ?_
 exact ⟨_, 9, hF.kp [0, 3, 6, 7, 8, 9, 10, 12, 13], hS.sp (rg 6) (rg 5), H⟩
 refine cond_f hF (by kernel_rfl) hb ?_
 refine wpIn_skip ?_
 exact ⟨_, 0, hF.kp [0, 3, 6, 7, 8, 9, 10, 12, 13], hS.sp (rg 6) (rg 5), H⟩
 rintro a w ⟨κ, y138, hF, hS, H⟩
 unfold M.law15_SessionLast_k3 at H
 refine wpIn_seq_k fun K139 hK139 => ?_
 refine wpIn_seq_k fun K140 hK140 => ?_
 refine wpIn_region_lit ?_
 refine wp 3 [0, 3, 6, 7, 8, 9, 10, 12, 91] hF fun a hF => ?_
 refine wpListIn_nil ?_
 refine hK140 _ _ ?_
 refine bif_split H (fun hb H => ?_) (fun hb H => ?_)
 refine cond_t hF (by kernel_rfl) hb ?_
 refine wpIn_seq_k fun K141 hK141 => ?_
 refine wpIn_region_lit ?_
 refine wp 1 [2] hF fun a hF => ?_
 refine wpListIn_nil ?_
 refine hK141 _ _ ?_
 refine wpIn_ret ?_
 cases H
 exact (ret_done hF hS (res1 Try.results3 (rvt hF)) ⟨rfl, (hS.pick [] (by kernel_rfl)).ro, hS.newC [] (by decide) (by kernel_rfl)⟩)
 refine cond_f hF (by kernel_rfl) hb ?_
 refine wpIn_skip ?_
 refine hK139 _ _ ?_
 refine wpIn_seq_k fun K142 hK142 => ?_
 refine wpIn_region_lit ?_
 refine wp 2 [0, 3, 6, 7, 8, 9, 12, 93] hF fun a hF => ?_
 refine wpListIn_nil ?_
 refine hK142 _ _ ?_
 refine bif_split H (fun hb H => ?_) (fun hb H => ?_)
 refine cond_t hF (by kernel_rfl) hb ?_
 refine seq_join (fun a w => ∃ (κ : Gh) (y143 : List ByteArray) (p144 : Option Addr) (c145 : Nat), Fr (150) [] [(0, .slice p2 (a1).length c3), (3, pt b7 0), (6, .slice p144 (y143).length c145), (7, .map (some b29)), (8, vi y99), (9, pt b125 0)] a ∧ SS [] κ0 w0 κ w [.box b7 121 [su x127.2.snap, su x127.2.dep, sb x127.2.open_, (1, [.map p128]), (1, [.map p131])], .box b125 34 [si x122.Kind, sg x122.Key, sg x122.Val, sb x122.Gone, su x122.T, su x122.Mark.TS, si x122.Mark.DC, si x122.Mark.Tx], .tok p144 9 1 (y143).length c145, .ext (objX p128 (.map m129 c130)), .ext (objX p131 (.map m132 c133)), .ext (objX (some b29) (.map m96 c97))] [Ro.mp f_law15_Op.ty p2 c3 a1, Map.mp kStr true f_api_Ver.ty p128 m129 c130 x127.2.writes, Map.mp kStr true f_api_Ver.ty p131 m132 c133 x127.2.cache, Ro.mp fStr.ty p144 c145 y143, Map.mp kStr true f_api_Ver.ty (some b29) m96 c97 y98] ∧ M.law15_SessionLast_k4 N (M.law15_SessionLast_L1 N fuel1) a1 y98 y99 x122 x127 y143 = some r) ?_ ?_
 refine wpIn_seq_k fun K149 hK149 => ?_
 refine wpIn_region_lit ?_
 refine wp 2 [0, 3, 6, 7, 8, 9, 95] hF fun a hF => ?_
 refine wpListIn_nil ?_
 refine hK149 _ _ ?_
 refine bif_split H (fun hb H => ?_) (fun hb H => ?_)
 refine cond_t hF (by kernel_rfl) hb ?_
 refine wpIn_region_lit ?_
 refine wl_pure (L' := [(0, .slice p2 (a1).length c3), (3, pt b7 0), (7, .map (some b29)), (8, vi y99), (9, pt b125 0), (96, .slice p94 (y93).length c95), (97, pt b125 1)]) 2 [0, 3, 7, 8, 9, 96, 97] hF (by kernel_rfl) fun a hF => ?_
 refine wc (wld hF hS 1 1 0 fun a hF => ?_)
 refine wc (wo_buildN (t := fStr) (z := .string (ByteArray.empty)) (l := [x122.Key]) (vs := [(0, .string (x122.Key))]) (cells := #[.string (x122.Key)]) (E := 9) hF hS (by kernel_rfl) rfl (by kernel_rfl) (by kernel_rfl) rfl (by kernel_rfl) (by kernel_rfl) (by kernel_rfl) (by kernel_rfl) (by kernel_rfl) fun p150 κ a w hF hS => ?_)
 refine bind_split H (fun x151 hx151 H => ?_)
 refine wc (wo_append (ty := fStr.ty) hF hS (by kernel_rfl) 3 4 0 rfl rfl rfl (by kernel_rfl) (by kernel_rfl) rfl rfl rfl hx151 (by kernel_rfl) (i := Try.t9) (z := .string (ByteArray.empty)) (by kernel_rfl) (by kernel_rfl) (by kernel_rfl) fun p152 c153 κ a w hF hS => ?_)
 refine wp 1 [0, 3, 6, 7, 8, 9] hF fun a hF => ?_
 refine wpListIn_nil ?_
 exact ⟨_, x151, p152, c153, hF.kp [0, 3, 6, 7, 8, 9], hS.sp [1, 2, 3, 4, 5, 6] [2, 3, 4, 0, 6], H⟩
 refine cond_f hF (by kernel_rfl) hb ?_
 refine wpIn_skip ?_
 exact ⟨_, y93, p94, c95, hF.kp [0, 3, 6, 7, 8, 9], hS.sp (rg 6) (rg 5), H⟩
 rintro a w ⟨κ, y143, p144, c145, hF, hS, H⟩
 unfold M.law15_SessionLast_k4 at H
 refine wpIn_region_lit ?_
 refine wp 2 [0, 3, 6, 7, 8, 9, 101, 102] hF fun a hF => ?_
 refine wc (wld hF hS 1 1 0 fun a hF => ?_)
 refine wp 1 [0, 3, 6, 7, 8, 9, 101, 103, 104] hF fun a hF => ?_
 refine wc (wld hF hS 1 1 0 fun a hF => ?_)
 refine wp 1 [0, 3, 6, 7, 8, 9, 101, 103, 105, 106] hF fun a hF => ?_
 refine wc (wld hF hS 1 2 0 fun a hF => ?_)
 refine wp 1 [0, 3, 6, 7, 8, 101, 103, 105, 107, 108] hF fun a hF => ?_
 refine wc (wld hF hS 1 3 0 fun a hF => ?_)
 refine wl_pure (L' := [(0, .slice p2 (a1).length c3), (3, pt b7 0), (6, .slice p144 (y143).length c145), (7, .map (some b29)), (8, vi y99), (101, .map (some b29)), (103, .string (x122.Key)), (110, .agg (flat [sg x122.Key, sg x122.Val, sb x122.Gone, su 0, si 0, si 0]).toArray)]) 1 [0, 3, 6, 7, 8, 101, 103, 110] hF (by kernel_rfl) fun a hF => ?_
 refine bind_split H (fun x146 hx146 H => ?_)
 refine wc (wo_mapUpdate (KT := 9) (E := 37) (kt := kStr) (agg := true) (t := f_api_Ver.ty) hF hS (by kernel_rfl) 5 4 (k := x122.Key) (v := (T_api_Ver.mk x122.Key x122.Val x122.Gone 0 0 0)) (cs := flat [sg x122.Key, sg x122.Val, sb x122.Gone, su 0, si 0, si 0]) rfl (by kernel_rfl) (by kernel_rfl) (by kernel_rfl) rfl rfl rfl hx146 (by kernel_rfl) (by kernel_rfl) fun m147 c148 a w hF hS => ?_)
 refine wpListIn_nil ?_
 exact ⟨_, x127.2.snap, x127.2.dep, x127.2.open_, p128, m129, c130, x127.2.writes, p131, m132, c133, x127.2.cache, y143, p144, c145, m147, c148, x146, hF.kp [0, 3, 6, 7, 8], hS.sp [0, 2, 3, 4, 5] [1, 2, 3, 4, 0], H⟩
 refine cond_f hF (by kernel_rfl) hb ?_
 refine wpIn_skip ?_
 exact ⟨_, x127.2.snap, x127.2.dep, x127.2.open_, p128, m129, c130, x127.2.writes, p131, m132, c133, x127.2.cache, y93, p94, c95, m96, c97, y98, hF.kp [0, 3, 6, 7, 8], hS.sp [0, 2, 3, 4, 5] (rg 5), H⟩
 rintro a w ⟨κ, y104, y105, y106, p107, m108, c109, y110, p111, m112, c113, y114, y115, p116, c117, m118, c119, y120, hF, hS, H⟩
 unfold M.law15_SessionLast_k2 at H
 refine wpIn_region_lit ?_
 refine wp 3 [0, 3, 6, 7, 8] hF fun a hF => ?_
 refine wpListIn_nil ?_
 exact ⟨fuel1, Nat.lt_succ_self _, _, y104, y105, y106, p107, m108, c109, y110, p111, m112, c113, y114, y115, p116, c117, m118, c119, y120, IntKind.i64.wrap (y99 + 1), hF.kp [0, 3, 6, 7, 8], hS.sp (rg 5) (rg 5), H⟩
 refine cond_f hF (by kernel_rfl) hb ?_
 refine wpIn_exit ?_
 refine hK30 _ _ ?_
 refine wpIn_seq_k fun K163 hK163 => ?_
 refine wpIn_region_lit ?_
 refine wp 1 [6, 7, 111] hF fun a hF => ?_
 refine bind_split H (fun x164 hx164 H => ?_)
 refine wc (wcS 3 [0, 2, 3, 1, 4] hF hS (fun hS => C_session_Session_Writes N (T_session_Session.mk y82 y83 y84 y88 y92) p85 m86 c87 p89 m90 c91 b7 ⟨rfl, hS.pick [1, 2] (by kernel_rfl)⟩ hx164) ?_)
 rintro _ κ w a ⟨p165, c166, rfl, h2⟩ hF hB
 have hS := hB _ _ h2
 refine wp 1 [6, 7, 14] hF fun a hF => ?_
 refine wpListIn_nil ?_
 refine hK163 _ _ ?_
 refine wpIn_seq_k fun K167 hK167 => ?_
 refine wpIn_seq_k fun K168 hK168 => ?_
 refine wpIn_region_lit ?_
 refine wp 3 [6, 7, 14, 113, 114, 115] hF fun a hF => ?_
 refine wpListIn_nil ?_
 refine hK168 _ _ ?_
 refine wpIn_block ?_
 refine loop_fuel (n := N) (fun n a w => ∃ (κ : Gh) (y219 : Int), Fr (150) [] [(6, .slice p94 (y93).length c95), (7, .map (some b29)), (14, .slice p165 (x164).length c166), (113, .slice p165 (x164).length c166), (114, vi ((x164).length : Int)), (115, vi y219)] a ∧ SS [] κ0 w0 κ w [.tok p165 37 6 (x164).length c166, .tok p94 9 1 (y93).length c95, .ext (objX (some b29) (.map m96 c97))] [Ro.mp fStr.ty p94 c95 y93, Map.mp kStr true f_api_Ver.ty (some b29) m96 c97 y98, Ro.mp f_api_Ver.ty p165 c166 x164] ∧ M.law15_SessionLast_L5 N n y93 y98 x164 y219 = some r) ?_ ?_
 exact ⟨_, 0, hF.kp [6, 7, 14, 113, 114, 115], hS.sp [3, 4, 5] [4, 5, 0], H⟩
 rintro n a w ⟨κ, y219, hF, hS, H⟩
 rcases n with _ | fuel5
 simp [M.law15_SessionLast_L5] at H
 simp only [M.law15_SessionLast_L5] at H
 refine wpIn_seq_k fun K220 hK220 => ?_
 refine wpIn_region_lit ?_
 refine wp 1 [6, 7, 14, 113, 114, 115, 116] hF fun a hF => ?_
 refine wpListIn_nil ?_
 refine hK220 _ _ ?_
 refine wpIn_seq_k fun K221 hK221 => ?_
 refine bif_split H (fun hb H => ?_) (fun hb H => ?_)
 refine cond_t hF (by kernel_rfl) hb ?_
 refine wpIn_skip ?_
 refine hK221 _ _ ?_
 refine wpIn_seq_k fun K222 hK222 => ?_
 refine wpIn_block ?_
 refine wpIn_seq_k fun K223 hK223 => ?_
 refine wpIn_region_lit ?_
 refine wl_pure (L' := [(6, .slice p94 (y93).length c95), (7, .map (some b29)), (14, .slice p165 (x164).length c166), (113, .slice p165 (x164).length c166), (114, vi ((x164).length : Int)), (115, vi y219), (117, vi y219)]) 1 [6, 7, 14, 113, 114, 115, 117] hF (by kernel_rfl) fun a hF => ?_
 refine bind_split H (fun x224 hx224 H => ?_)
 refine wc (wo_index hF hS (by kernel_rfl) 2 (E := 37) (sz := 6) rfl rfl rfl (by kernel_rfl) rfl hx224 (by kernel_rfl) (by kernel_rfl) fun b225 f226 a hpx224 hF => ?_)
 refine wc (wo_loadRoAgg (t := f_api_Ver) hF hS (by kernel_rfl) 2 rfl rfl hpx224 rfl hx224 (by kernel_rfl) (by kernel_rfl) (by kernel_rfl) fun a hF => ?_)
 refine wc (wal hF hS [sg ByteArray.empty, sg ByteArray.empty, sb false, su 0, si 0, si 0] (sgN 6 sgNil) fun b227 a w hF hS => ?_)
 refine wp 1 [6, 7, 14, 15, 16, 113, 114, 115, 119] hF fun a hF => ?_
 refine wc (wst hF hS 0 0 6 [sg x224.Key, sg x224.Val, sb x224.Gone, su x224.TS, si x224.DC, si x224.Tx] (sgN 6 sgNil) fun a w hF hS => ?_)
 refine wpListIn_nil ?_
 refine hK223 _ _ ?_
 refine wpIn_seq_k fun K228 hK228 => ?_
 refine bind_split H (fun v230 hv230 H => ?_)
 refine code_join (fun a w => ∃ κ : Gh, Fr (150) [] [(6, .slice p94 (y93).length c95), (7, .map (some b29)), (14, .slice p165 (x164).length c166), (113, .slice p165 (x164).length c166), (114, vi ((x164).length : Int)), (115, vi y219), (140, vb v230)] a ∧ SS [] κ0 w0 κ w [.tok p165 37 6 (x164).length c166, .tok p94 9 1 (y93).length c95, .ext (objX (some b29) (.map m96 c97))] [Ro.mp fStr.ty p94 c95 y93, Map.mp kStr true f_api_Ver.ty (some b29) m96 c97 y98, Ro.mp f_api_Ver.ty p165 c166 x164] ∧ True) ?_ ?_
 refine rgS hS [] ?_
 have hS := hS.drew
 refine any_pure [1, 2] [6, 7, 14, 15, 16, 113, 114, 115, 121, 122] (L' := [(6, .slice p94 (y93).length c95), (7, .map (some b29)), (14, .slice p165 (x164).length c166), (15, vi y219), (16, pt b227 0), (113, .slice p165 (x164).length c166), (114, vi ((x164).length : Int)), (115, vi y219), (121, .map (some b29)), (122, pt b227 0)]) (listed' := (bitA 21 6)) (fuel := 19) hF (hS.sx [0, 3] [0, 1, 2]) (by kernel_rfl) (by intro c a w t v h; cases t <;> exact h) (by kernel_rfl) rfl fun a hF => ?_
 refine atk 0 (some 120) hF (hS.sx [0, 3] [0, 1, 2]) rfl (vls 0 0 6) fun a hF => ?_
 refine atk 3 (some 123) hF (hS.sx [0, 3] [0, 1, 2]) rfl (vld 0 0 0) fun a hF => ?_
 refine bind_split hv230 (fun x231 hx231 hv230 => ?_)
 obtain ⟨_, rfl, hvx231⟩ := lookup_val (P := Try.prog) (KT := 9) (E := 37) (kt := kStr) (agg := true) (t := f_api_Ver.ty) (L := [(6, .slice p94 (y93).length c95), (7, .map (some b29)), (14, .slice p165 (x164).length c166), (15, vi y219), (16, pt b227 0), (113, .slice p165 (x164).length c166), (114, vi ((x164).length : Int)), (115, vi y219), (120, .agg (flat [sg x224.Key, sg x224.Val, sb x224.Gone, su x224.TS, si x224.DC, si x224.Tx]).toArray), (121, .map (some b29)), (122, pt b227 0), (123, .string (x224.Key))]) (o := ⟨(some 124), (Go.Op.lookup 30 (Go.Operand.tmp 121) (Go.Operand.tmp 123) false), 37, "law.go:187", #[(Go.Edge.mk 1 Go.Ground.data), (Go.Edge.mk 3 Go.Ground.data)], none⟩) hS 1 (k := x224.Key) (zc := flat [sg ByteArray.empty, sg ByteArray.empty, sb false, su 0, si 0, si 0]) (zm := (T_api_Ver.mk ByteArray.empty ByteArray.empty false 0 0 0)) rfl (by kernel_rfl) (by kernel_rfl) rfl hx231 (by kernel_rfl) (by kernel_rfl) (by kernel_rfl) (fun _ _ => rfl)
 refine atk 4 (some 124) hF (hS.sx [0, 3] [0, 1, 2]) rfl (fun w hw => hvx231 1 rfl w hw) fun a hF => ?_
 refine atk 5 (some 125) hF (hS.sx [0, 3] [0, 1, 2]) rfl (fun w _ => (val_eq (neg := true) (xs := (flat [sg x224.Key, sg x224.Val, sb x224.Gone, su x224.TS, si x224.DC, si x224.Tx])) (ys := (flat [sg x231.1.Key, sg x231.1.Val, sb x231.1.Gone, su x231.1.TS, si x231.1.DC, si x231.1.Tx])) (ks := [.str, .str, .bool, .int .u64, .int .i64, .int .i64]) 20 (by decide) rfl (by kernel_rfl) (by kernel_rfl) (by kernel_rfl) (by kernel_rfl) (by kernel_rfl) (by kernel_rfl) (by kernel_rfl)) w) fun a hF => ?_
 refine anp [6] [6, 7, 14, 15, 16, 113, 114, 115, 126] hF (hS.sx [0, 3] [0, 1, 2]) fun a hF => ?_
 refine bif_split hv230 (fun hb hv230 => ?_) (fun hb hv230 => ?_)
 have hF := hF.boolv 126 (by kernel_rfl) hb
 refine anp [7, 8, 9, 10, 11, 12, 13, 14, 15, 16, 17, 18, 19, 20] [6, 7, 14, 113, 114, 115, 140] hF (hS.sx [0, 3] [0, 1, 2]) fun a hF => ?_
 refine and_ ?_
 cases hv230
 exact ⟨_, hF.kp [6, 7, 14, 113, 114, 115, 140], hS.sp [1, 2, 3] [0, 1, 2], trivial⟩
 have hF := hF.boolv 126 (by kernel_rfl) hb
 refine anp [7, 8, 9] [6, 7, 14, 15, 16, 113, 114, 115, 126, 129] hF (hS.sx [0, 3] [0, 1, 2]) fun a hF => ?_
 refine bif_split hv230 (fun hb hv230 => ?_) (fun hb hv230 => ?_)
 have hF := hF.boolv 129 (by kernel_rfl) hb
 refine any_pure [10, 11, 12, 16] [6, 7, 14, 113, 114, 115, 126, 129, 130, 132, 136] (L' := [(6, .slice p94 (y93).length c95), (7, .map (some b29)), (14, .slice p165 (x164).length c166), (113, .slice p165 (x164).length c166), (114, vi ((x164).length : Int)), (115, vi y219), (126, vb false), (129, vb true), (130, .slice p165 (x164).length c166), (132, vi (IntKind.i64.wrap (y219 - 1))), (136, pt b227 0)]) (listed' := (bitA 21 73727)) (fuel := 7) hF (hS.sx [0, 3] [0, 1, 2]) (by kernel_rfl) (by intro c a w t v h; cases t <;> exact h) (by kernel_rfl) rfl fun a hF => ?_
 refine bind_split hv230 (fun x232 hx232 hv230 => ?_)
 obtain ⟨b233, f234, hpx232⟩ := hS.ptr 2 rfl hx232
 refine atk 13 (some 133) hF (hS.sx [0, 3] [0, 1, 2]) rfl (fun w _ => val_index (E := 37) (sz := 6) rfl hpx232 rfl (by kernel_rfl) rfl hx232 (by kernel_rfl) (by kernel_rfl) w) fun a hF => ?_
 refine any_pure [14] [6, 7, 14, 113, 114, 115, 126, 129, 134, 136] (L' := [(6, .slice p94 (y93).length c95), (7, .map (some b29)), (14, .slice p165 (x164).length c166), (113, .slice p165 (x164).length c166), (114, vi ((x164).length : Int)), (115, vi y219), (126, vb false), (129, vb true), (134, .pointer (some ⟨b233, (f234 + Int.toNat (IntKind.i64.wrap (y219 - 1)) * 6), none⟩)), (136, pt b227 0)]) (listed' := (bitA 21 98303)) (fuel := 5) hF (hS.sx [0, 3] [0, 1, 2]) (by kernel_rfl) (by intro c a w t v h; cases t <;> exact h) (by kernel_rfl) rfl fun a hF => ?_
 refine atk 15 (some 135) hF (hS.sx [0, 3] [0, 1, 2]) rfl (val_loadRo (t := f_api_Ver) 2 0 (v := .string (x232.Key)) rfl rfl hpx232 rfl hx232 (by kernel_rfl) (by kernel_rfl) (by kernel_rfl)) fun a hF => ?_
 refine atk 17 (some 137) hF (hS.sx [0, 3] [0, 1, 2]) rfl (vld 0 0 0) fun a hF => ?_
 refine anp [18, 19, 20] [6, 7, 14, 113, 114, 115, 140] hF (hS.sx [0, 3] [0, 1, 2]) fun a hF => ?_
 refine and_ ?_
 cases hv230
 exact ⟨_, hF.kp [6, 7, 14, 113, 114, 115, 140], hS.sp [1, 2, 3] [0, 1, 2], trivial⟩
 have hF := hF.boolv 129 (by kernel_rfl) hb
 refine anp [10, 11, 12, 13, 14, 15, 16, 17, 18, 19, 20] [6, 7, 14, 113, 114, 115, 140] hF (hS.sx [0, 3] [0, 1, 2]) fun a hF => ?_
 refine and_ ?_
 cases hv230
 exact ⟨_, hF.kp [6, 7, 14, 113, 114, 115, 140], hS.sp [1, 2, 3] [0, 1, 2], trivial⟩
 rintro a w ⟨κ, hF, hS, -⟩
 refine hK228 _ _ ?_
 refine bif_split H (fun hb H => ?_) (fun hb H => ?_)
 refine cond_t hF (by kernel_rfl) hb ?_
 refine wpIn_seq_k fun K235 hK235 => ?_
 refine wpIn_region_lit ?_
 refine wp 1 [2] hF fun a hF => ?_
 refine wpListIn_nil ?_
 refine hK235 _ _ ?_
 refine wpIn_ret ?_
 cases H
 exact (ret_done hF hS (res1 Try.results3 (rvt hF)) ⟨rfl, (hS.pick [] (by kernel_rfl)).ro, hS.newC [] (by decide) (by kernel_rfl)⟩)
 refine cond_f hF (by kernel_rfl) hb ?_
 refine wpIn_skip ?_
 refine hK222 _ _ ?_
 refine wpIn_region_lit ?_
 refine wp 2 [6, 7, 14, 113, 114, 115] hF fun a hF => ?_
 refine wpListIn_nil ?_
 exact ⟨fuel5, Nat.lt_succ_self _, _, IntKind.i64.wrap (y219 + 1), hF.kp [6, 7, 14, 113, 114, 115], hS.sp [0, 1, 2] [0, 1, 2], H⟩
 refine cond_f hF (by kernel_rfl) hb ?_
 refine wpIn_exit ?_
 refine hK167 _ _ ?_
 refine wpIn_seq_k fun K236 hK236 => ?_
 refine wpIn_region_lit ?_
 refine bind_split H (fun v238 hv238 H => ?_)
 refine wl_join (fun a w => ∃ κ : Gh, Fr (150) [] [(2, vb v238)] a ∧ SS [] κ0 w0 κ w [] [] ∧ True) ?_ ?_
 refine bind_split hv238 (fun x239 hx239 hv238 => ?_)
 refine wc (wo_callP hF hS (by kernel_rfl) (by kernel_rfl) (C_law15_awake N hS.fresh   ((hS.pick [] (by kernel_rfl)).ro) hx239) ?_)
 rintro _ κ w a ⟨rfl, hR, hN⟩ hF hS hO
 refine wp 1 [6, 14, 143] hF fun a hF => ?_
 refine bif_split hv238 (fun hb hv238 => ?_) (fun hb hv238 => ?_)
 have hF := hF.boolv 143 (by kernel_rfl) hb
 refine wp 7 [2] hF fun a hF => ?_
 refine wpListIn_nil ?_
 cases hv238
 exact ⟨_, hF.kp [2], hS.sp [] [], trivial⟩
 have hF := hF.boolv 143 (by kernel_rfl) hb
 refine wp 7 [2] hF fun a hF => ?_
 refine wpListIn_nil ?_
 cases hv238
 exact ⟨_, hF.kp [2], hS.sp [] [], trivial⟩
 rintro a w ⟨κ, hF, hS, -⟩
 refine hK236 _ _ ?_
 refine wpIn_ret ?_
 cases H
 exact (ret_done hF hS (res1 Try.results3 (rvt hF)) ⟨rfl, (hS.pick [] (by kernel_rfl)).ro, hS.newC [] (by decide) (by kernel_rfl)⟩)
end Go.Cf
