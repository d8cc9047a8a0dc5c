/- The walks: each function returns what its model says. Printed by a program of ours. -/
import Derived.Test.YteeafoagaaedcaaZM1
import Derived.Test.YteeafoagaaedcaaZWs1
import Derived.Test.YteeafoagaaedcaaZWs2
import Derived.Test.YteeafoagaaedcaaZWs3
namespace Go.Cf
open Go Go.Proofs
set_option linter.unusedVariables false
set_option maxRecDepth 20000 in
set_option maxHeartbeats 1000000 in
theorem C_law15_SessionPlays (N : Nat) {κ0 : Gh} {w0 : World} (hfr : Fresh κ0 w0) (a1 : (List T_law15_Op)) (p2 : Option Addr) (c3 : Nat) (hR : ∀ m ∈ ([Ro.mp f_law15_Op.ty p2 c3 a1] : List MP), m.p κ0 w0) {r : (Bool)} (H : M.law15_SessionPlays N a1 = some r) :
    Calls Try.prog 5 #[.slice p2 (a1).length c3] w0 (Post [] κ0 w0 fun v κ w => v = vb r ∧ (∀ m ∈ ([] : List MP), m.p κ w) ∧ NewC w0 κ w []) := by
 have hS := SS.start hfr hR
 refine enter (N := (155)) (L := [(0, .slice p2 (a1).length c3)]) Try.func5 rfl Try.ntmps5 (show 1 ≤ (155) by decide) rfl fun a hF => ?_
 unfold M.law15_SessionPlays at H
 refine wpIn_seq_k fun K4 hK4 => ?_
 refine wpIn_region_lit ?_
 refine wp 1 [0] hF fun a hF => ?_
 refine wpListIn_nil ?_
 refine hK4 _ _ ?_
 refine wpIn_seq_k fun K5 hK5 => ?_
 refine wpIn_region_lit ?_
 refine bind_split H (fun x6 hx6 H => ?_)
 refine wc (wcS 0 [] hF hS (fun hS => C_session_New N    ⟨rfl, hS.pick [] (by kernel_rfl)⟩ hx6) ?_)
 rintro _ κ w a ⟨b7, p8, m9, c10, p11, m12, c13, rfl, h2⟩ hF hB
 have hS := hB _ _ h2
 refine wp 1 [0, 15, 16] hF fun a hF => ?_
 refine wc (wbx hF hS [su 0, su 0, sb false, sl none 0 0, sl none 0 0] (sgN 5 sgNil) fun b14 a w hF hS => ?_)
 refine wp 2 [0, 3, 4] hF fun a hF => ?_
 refine wpListIn_nil ?_
 refine hK5 _ _ ?_
 refine wpIn_seq_k fun K15 hK15 => ?_
 refine wpIn_seq_k fun K16 hK16 => ?_
 refine wpIn_region_lit ?_
 refine wp 2 [0, 3, 4, 19] hF fun a hF => ?_
 refine wpListIn_nil ?_
 refine hK16 _ _ ?_
 refine cond_f hF (by kernel_rfl) rfl ?_
 refine wpIn_skip ?_
 refine hK15 _ _ ?_
 refine wpIn_seq_k fun K17 hK17 => ?_
 refine wpIn_seq_k fun K18 hK18 => ?_
 refine wpIn_region_lit ?_
 refine wp 1 [0, 3, 4, 5] hF fun a hF => ?_
 refine wpListIn_nil ?_
 refine hK18 _ _ ?_
 refine wpIn_block ?_
 refine loop_fuel (n := N) (fun n a w => ∃ (κ : Gh) (y69 y70 : Int) (y71 : Bool) (y72 : List T_api_Ver) (p73 : Option Addr) (c74 : Nat) (y75 : List T_api_Ver) (p76 : Option Addr) (c77 : Nat) (y78 y79 : Int) (y80 : Bool) (p81 : Option Nat) (m82 : Array MapEntry) (c83 : Nat) (y84 : Mp ByteArray T_api_Ver) (p85 : Option Nat) (m86 : Array MapEntry) (c87 : Nat) (y88 : Mp ByteArray T_api_Ver) (y89 : Int), Fr (155) [] [(0, .slice p2 (a1).length c3), (3, pt b7 0), (4, pt b14 0), (5, vi y89)] a ∧ SS [] κ0 w0 κ w [.box b14 47 [su y69, su y70, sb y71, sl p73 (y72).length c74, sl p76 (y75).length c77], .box b7 121 [su y78, su y79, sb y80, (1, [.map p81]), (1, [.map p85])], .tok p73 37 6 (y72).length c74, .tok p76 37 6 (y75).length c77, .ext (objX p81 (.map m82 c83)), .ext (objX p85 (.map m86 c87))] [Ro.mp f_law15_Op.ty p2 c3 a1, Map.mp kStr true f_api_Ver.ty p81 m82 c83 y84, Map.mp kStr true f_api_Ver.ty p85 m86 c87 y88, Ro.mp f_api_Ver.ty p73 c74 y72, Ro.mp f_api_Ver.ty p76 c77 y75] ∧ M.law15_SessionPlays_L1 N n a1 y69 y70 y71 y72 y75 y78 y79 y80 y84 y88 y89 = some r) ?_ ?_
 have hS := hS.add (m := Ro.mp f_api_Ver.ty none 0 ([] : List T_api_Ver)) (Ro.nil f_api_Ver.ty _ _)
 have hS := hS.addNil 37 6
 have hS := hS.addNil 37 6
 exact ⟨_, 0, 0, false, ([] : List T_api_Ver), none, 0, ([] : List T_api_Ver), none, 0, x6.snap, x6.dep, x6.open_, p8, m9, c10, x6.writes, p11, m12, c13, x6.cache, 0, hF.kp [0, 3, 4, 5], hS.sp [2, 3, 0, 1, 4, 5] [3, 1, 2, 0, 0], H⟩
 rintro n a w ⟨κ, y69, y70, y71, y72, p73, c74, y75, p76, c77, y78, y79, y80, p81, m82, c83, y84, p85, m86, c87, y88, y89, hF, hS, H⟩
 rcases n with _ | fuel1
 simp [M.law15_SessionPlays_L1] at H
 simp only [M.law15_SessionPlays_L1] at H
 refine wpIn_seq_k fun K90 hK90 => ?_
 refine wpIn_seq_k fun K91 hK91 => ?_
 refine wpIn_region_lit ?_
 refine bind_split H (fun v93 hv93 H => ?_)
 refine wl_join (fun a w => ∃ κ : Gh, Fr (155) [] [(0, .slice p2 (a1).length c3), (3, pt b7 0), (4, pt b14 0), (5, vi y89), (27, vb v93)] a ∧ SS [] κ0 w0 κ w [.box b14 47 [su y69, su y70, sb y71, sl p73 (y72).length c74, sl p76 (y75).length c77], .box b7 121 [su y78, su y79, sb y80, (1, [.map p81]), (1, [.map p85])], .tok p73 37 6 (y72).length c74, .tok p76 37 6 (y75).length c77, .ext (objX p81 (.map m82 c83)), .ext (objX p85 (.map m86 c87))] [Ro.mp f_law15_Op.ty p2 c3 a1, Map.mp kStr true f_api_Ver.ty p81 m82 c83 y84, Map.mp kStr true f_api_Ver.ty p85 m86 c87 y88, Ro.mp f_api_Ver.ty p73 c74 y72, Ro.mp f_api_Ver.ty p76 c77 y75] ∧ True) ?_ ?_
 refine wp 5 [0, 3, 4, 5, 24] hF fun a hF => ?_
 refine bif_split hv93 (fun hb hv93 => ?_) (fun hb hv93 => ?_)
 have hF := hF.boolv 24 (by kernel_rfl) hb
 refine wp 3 [0, 3, 4, 5, 27] hF fun a hF => ?_
 refine wpListIn_nil ?_
 cases hv93
 exact ⟨_, hF.kp [0, 3, 4, 5, 27], hS.sp (rg 6) (rg 5), trivial⟩
 have hF := hF.boolv 24 (by kernel_rfl) hb
 refine wp 3 [0, 3, 4, 5, 27] hF fun a hF => ?_
 refine wpListIn_nil ?_
 cases hv93
 exact ⟨_, hF.kp [0, 3, 4, 5, 27], hS.sp (rg 6) (rg 5), trivial⟩
 rintro a w ⟨κ, hF, hS, -⟩
 refine hK91 _ _ ?_
 refine bif_split H (fun hb H => ?_) (fun hb H => ?_)
 refine cond_t hF (by kernel_rfl) hb ?_
 refine wpIn_skip ?_
 refine hK90 _ _ ?_
 refine wpIn_seq_k fun K94 hK94 => ?_
 refine wpIn_block ?_
 refine wpIn_seq_k fun K95 hK95 => ?_
 refine wpIn_region_lit ?_
 refine wl_pure (L' := [(0, .slice p2 (a1).length c3), (3, pt b7 0), (4, pt b14 0), (5, vi y89), (30, .slice p2 (a1).length c3), (31, vi y89)]) 2 [0, 3, 4, 5, 30, 31] hF (by kernel_rfl) fun a hF => ?_
 refine bind_split H (fun x96 hx96 H => ?_)
 refine wc (wo_index hF hS (by kernel_rfl) 0 (E := 34) (sz := 8) rfl rfl rfl (by kernel_rfl) rfl hx96 (by kernel_rfl) (by kernel_rfl) fun b97 f98 a hpx96 hF => ?_)
 refine wc (wo_loadRoAgg (t := f_law15_Op) hF hS (by kernel_rfl) 0 rfl rfl hpx96 rfl hx96 (by kernel_rfl) (by kernel_rfl) (by kernel_rfl) fun a hF => ?_)
 refine wc (wal hF hS [si 0, sg ByteArray.empty, sg ByteArray.empty, sb false, su 0, su 0, si 0, si 0] (sgN 8 sgNil) fun b99 a w hF hS => ?_)
 refine wc (wst hF hS 0 0 8 [si x96.Kind, sg x96.Key, sg x96.Val, sb x96.Gone, su x96.T, su x96.Mark.TS, si x96.Mark.DC, si x96.Mark.Tx] (sgN 8 sgNil) fun a w hF hS => ?_)
 refine wpListIn_nil ?_
 refine hK95 _ _ ?_
 refine seq_join (fun a w => ∃ (κ : Gh) (y100 y101 : Int) (y102 : Bool) (y103 : List T_api_Ver) (p104 : Option Addr) (c105 : Nat) (y106 : List T_api_Ver) (p107 : Option Addr) (c108 : Nat) (y109 y110 : Int) (y111 : Bool) (p112 : Option Nat) (m113 : Array MapEntry) (c114 : Nat) (y115 : Mp ByteArray T_api_Ver) (p116 : Option Nat) (m117 : Array MapEntry) (c118 : Nat) (y119 : Mp ByteArray T_api_Ver), Fr (155) [] [(0, .slice p2 (a1).length c3), (3, pt b7 0), (4, pt b14 0), (5, vi y89), (6, pt b99 0)] a ∧ SS [] κ0 w0 κ w [.box b14 47 [su y100, su y101, sb y102, sl p104 (y103).length c105, sl p107 (y106).length c108], .box b7 121 [su y109, su y110, sb y111, (1, [.map p112]), (1, [.map p116])], .box b99 34 [si x96.Kind, sg x96.Key, sg x96.Val, sb x96.Gone, su x96.T, su x96.Mark.TS, si x96.Mark.DC, si x96.Mark.Tx], .tok p104 37 6 (y103).length c105, .tok p107 37 6 (y106).length c108, .ext (objX p112 (.map m113 c114)), .ext (objX p116 (.map m117 c118))] [Ro.mp f_law15_Op.ty p2 c3 a1, Map.mp kStr true f_api_Ver.ty p112 m113 c114 y115, Map.mp kStr true f_api_Ver.ty p116 m117 c118 y119, Ro.mp f_api_Ver.ty p104 c105 y103, Ro.mp f_api_Ver.ty p107 c108 y106] ∧ M.law15_SessionPlays_k2 N (M.law15_SessionPlays_L1 N fuel1) a1 y89 x96 y100 y101 y102 y103 y106 y109 y110 y111 y115 y119 = some r) ?_ ?_
 refine wpIn_seq_k fun K143 hK143 => ?_
 refine wpIn_region_lit ?_
 refine wp 1 [0, 3, 4, 5, 6, 34] hF fun a hF => ?_
 refine wc (wld hF hS 0 0 0 fun a hF => ?_)
 refine wpListIn_nil ?_
 refine hK143 _ _ ?_
 refine wpIn_block ?_
 refine wpIn_seq_k fun K144 hK144 => ?_
 refine wpIn_region_lit ?_
 refine wp 2 [0, 3, 4, 5, 6, 35, 36] hF fun a hF => ?_
 refine wpListIn_nil ?_
 refine hK144 _ _ ?_
 refine bif_split H (fun hb H => ?_) (fun hb H => ?_)
 refine cond_t hF (by kernel_rfl) hb ?_
 refine wpIn_seq_k fun K145 hK145 => ?_
 refine wpIn_region_lit ?_
 refine wp 2 [0, 3, 4, 5, 6, 39, 40] hF fun a hF => ?_
 refine wc (wld hF hS 0 4 0 fun a hF => ?_)
 refine bind_split H (fun x146 hx146 H => ?_)
 refine wc (wcS 3 [2, 5, 6, 0, 1, 3, 4] hF hS (fun hS => C_session_Session_Begin N (T_session_Session.mk y78 y79 y80 y84 y88) x96.T p81 m82 c83 p85 m86 c87 b7 ⟨rfl, hS.pick [1, 2] (by kernel_rfl)⟩ hx146) ?_)
 rintro _ κ w a ⟨p147, m148, c149, p150, m151, c152, rfl, h2⟩ hF hB
 have hS := hB _ _ h2
 refine wp 5 [0, 3, 4, 5, 6, 7, 8] hF fun a hF => ?_
 refine wpListIn_nil ?_
 refine hK145 _ _ ?_
 refine wpIn_seq_k fun K153 hK153 => ?_
 refine wpIn_region_lit ?_
 refine wp 2 [0, 3, 4, 5, 6, 7, 8, 46, 47] hF fun a hF => ?_
 refine wc (wld hF hS 3 4 0 fun a hF => ?_)
 refine bind_split H (fun x154 hx154 H => ?_)
 refine wc (wcS 3 [4, 5, 6, 0, 1, 2, 3] hF hS (fun hS => C_ref15_Session_Begin N (T_ref15_Session.mk y69 y70 y71 y72 y75) x96.T p73 c74 p76 c77 b14 ⟨rfl, hS.pick [5, 6] (by kernel_rfl)⟩ hx154) ?_)
 rintro _ κ w a ⟨p155, c156, p157, c158, rfl, h2⟩ hF hB
 have hS := hB _ _ h2
 refine wp 5 [0, 3, 4, 5, 6, 7, 8, 9, 10] hF fun a hF => ?_
 refine wpListIn_nil ?_
 refine hK153 _ _ ?_
 refine wpIn_seq_k fun K159 hK159 => ?_
 refine wpIn_region_lit ?_
 refine bind_split H (fun v161 hv161 H => ?_)
 refine wl_join (fun a w => ∃ κ : Gh, Fr (155) [] [(0, .slice p2 (a1).length c3), (3, pt b7 0), (4, pt b14 0), (5, vi y89), (6, pt b99 0), (59, vb v161)] a ∧ SS [] κ0 w0 κ w [.box b14 47 [su x154.2.2.Snap, su x154.2.2.Dep, sb x154.2.2.Opened, sl p155 (x154.2.2.Writes).length c156, sl p157 (x154.2.2.Cache).length c158], .box b7 121 [su x146.2.2.snap, su x146.2.2.dep, sb x146.2.2.open_, (1, [.map p147]), (1, [.map p150])], .box b99 34 [si x96.Kind, sg x96.Key, sg x96.Val, sb x96.Gone, su x96.T, su x96.Mark.TS, si x96.Mark.DC, si x96.Mark.Tx], .tok p155 37 6 (x154.2.2.Writes).length c156, .tok p157 37 6 (x154.2.2.Cache).length c158, .ext (objX p147 (.map m148 c149)), .ext (objX p150 (.map m151 c152))] [Ro.mp f_law15_Op.ty p2 c3 a1, Map.mp kStr true f_api_Ver.ty p147 m148 c149 x146.2.2.writes, Map.mp kStr true f_api_Ver.ty p150 m151 c152 x146.2.2.cache, Ro.mp f_api_Ver.ty p155 c156 x154.2.2.Writes, Ro.mp f_api_Ver.ty p157 c158 x154.2.2.Cache] ∧ True) ?_ ?_
 refine wp 4 [0, 3, 4, 5, 6, 8, 10, 55] hF fun a hF => ?_
 refine bif_split hv161 (fun hb hv161 => ?_) (fun hb hv161 => ?_)
 have hF := hF.boolv 55 (by kernel_rfl) hb
 refine wp 4 [0, 3, 4, 5, 6, 59] hF fun a hF => ?_
 refine wpListIn_nil ?_
 cases hv161
 exact ⟨_, hF.kp [0, 3, 4, 5, 6, 59], hS.sp [0, 3, 6, 1, 2, 4, 5] [4, 2, 3, 0, 1], trivial⟩
 have hF := hF.boolv 55 (by kernel_rfl) hb
 refine wp 4 [0, 3, 4, 5, 6, 59] hF fun a hF => ?_
 refine wpListIn_nil ?_
 cases hv161
 exact ⟨_, hF.kp [0, 3, 4, 5, 6, 59], hS.sp [0, 3, 6, 1, 2, 4, 5] [4, 2, 3, 0, 1], trivial⟩
 rintro a w ⟨κ, hF, hS, -⟩
 refine hK159 _ _ ?_
 refine bif_split H (fun hb H => ?_) (fun hb H => ?_)
 refine cond_t hF (by kernel_rfl) hb ?_
 refine wpIn_seq_k fun K162 hK162 => ?_
 refine wpIn_region_lit ?_
 refine wp 1 [2] hF fun a hF => ?_
 refine wpListIn_nil ?_
 refine hK162 _ _ ?_
 refine wpIn_ret ?_
 cases H
 exact (ret_done hF hS (res1 Try.results5 (rvt hF)) ⟨rfl, (hS.pick [] (by kernel_rfl)).ro, hS.newC [] (by decide) (by kernel_rfl)⟩)
 refine cond_f hF (by kernel_rfl) hb ?_
 refine wpIn_skip ?_
 exact ⟨_, x154.2.2.Snap, x154.2.2.Dep, x154.2.2.Opened, x154.2.2.Writes, p155, c156, x154.2.2.Cache, p157, c158, x146.2.2.snap, x146.2.2.dep, x146.2.2.open_, p147, m148, c149, x146.2.2.writes, p150, m151, c152, x146.2.2.cache, hF.kp [0, 3, 4, 5, 6], hS.sp (rg 7) (rg 5), H⟩
 refine cond_f hF (by kernel_rfl) hb ?_
 refine wpIn_seq_k fun K163 hK163 => ?_
 refine wpIn_region_lit ?_
 refine wl_pure (L' := [(0, .slice p2 (a1).length c3), (3, pt b7 0), (4, pt b14 0), (5, vi y89), (6, pt b99 0), (35, vi x96.Kind), (60, vb (x96.Kind == 1))]) 2 [0, 3, 4, 5, 6, 35, 60] hF (by kernel_rfl) fun a hF => ?_
 refine wpListIn_nil ?_
 refine hK163 _ _ ?_
 refine bif_split H (fun hb H => ?_) (fun hb H => ?_)
 refine cond_t hF (by kernel_rfl) hb ?_
 refine wpIn_seq_k fun K164 hK164 => ?_
 refine rgX hS [0] ?_
 have hS := hS.drew
 refine anp [0, 1, 3, 5, 8, 9, 11, 13] [0, 3, 4, 5, 6, 62, 63, 65, 67, 70, 71, 73, 75] hF (hS.sx [0] (rg 5)) fun a hF => ?_
 refine atk 2 (some 64) hF (hS.sx [0] (rg 5)) rfl (vld 0 1 0) fun a hF => ?_
 refine atk 4 (some 66) hF (hS.sx [0] (rg 5)) rfl (vld 0 2 0) fun a hF => ?_
 refine atk 6 (some 68) hF (hS.sx [0] (rg 5)) rfl (vld 0 3 0) fun a hF => ?_
 refine atk 10 (some 72) hF (hS.sx [0] (rg 5)) rfl (vld 0 1 0) fun a hF => ?_
 refine atk 12 (some 74) hF (hS.sx [0] (rg 5)) rfl (vld 0 2 0) fun a hF => ?_
 refine atk 14 (some 76) hF (hS.sx [0] (rg 5)) rfl (vld 0 3 0) fun a hF => ?_
 refine ago 7 hF rfl ?_
 refine bind_split H (fun x165 hx165 H => ?_)
 refine wcS 3 [2, 5, 6, 0, 1, 3, 4] hF hS (fun hS => C_session_Session_Write N (T_session_Session.mk y78 y79 y80 y84 y88) x96.Key x96.Val x96.Gone p81 m82 c83 p85 m86 c87 b7 ⟨rfl, hS.pick [1, 2] (by kernel_rfl)⟩ hx165) ?_
 rintro _ κ w a ⟨p166, m167, c168, p169, m170, c171, rfl, h2⟩ hF hB
 have hS := hB _ _ h2
 refine ⟨fun _ => (hS.sx [3] [2, 3, 4, 5, 6]), ?_⟩
 refine ago 15 hF rfl ?_
 refine bind_split H (fun x172 hx172 H => ?_)
 refine wcS 3 [4, 5, 6, 0, 1, 2, 3] hF hS (fun hS => C_ref15_Session_Write N (T_ref15_Session.mk y69 y70 y71 y72 y75) x96.Key x96.Val x96.Gone p73 c74 p76 c77 b14 ⟨rfl, hS.pick [5, 6] (by kernel_rfl)⟩ hx172) ?_
 rintro _ κ w a ⟨p173, c174, p175, c176, rfl, h2⟩ hF hB
 have hS := hB _ _ h2
 refine ⟨fun _ => (hS.sx [6] [4, 5, 6, 7, 8]), ?_⟩
 refine anp [16] [0, 3, 4, 5, 6, 78] hF (hS.sx [6] [4, 5, 6, 7, 8]) fun a hF => ?_
 refine and_ ?_
 refine hK164 _ _ ?_
 refine bif_split H (fun hb H => ?_) (fun hb H => ?_)
 refine cond_t hF (by kernel_rfl) hb ?_
 refine wpIn_seq_k fun K177 hK177 => ?_
 refine wpIn_region_lit ?_
 refine wp 1 [2] hF fun a hF => ?_
 refine wpListIn_nil ?_
 refine hK177 _ _ ?_
 refine wpIn_ret ?_
 cases H
 exact (ret_done hF hS (res1 Try.results5 (rvt hF)) ⟨rfl, (hS.pick [] (by kernel_rfl)).ro, hS.newC [] (by decide) (by kernel_rfl)⟩)
 refine cond_f hF (by kernel_rfl) hb ?_
 refine wpIn_skip ?_
 exact ⟨_, x172.2.Snap, x172.2.Dep, x172.2.Opened, x172.2.Writes, p173, c174, x172.2.Cache, p175, c176, x165.2.snap, x165.2.dep, x165.2.open_, p166, m167, c168, x165.2.writes, p169, m170, c171, x165.2.cache, hF.kp [0, 3, 4, 5, 6], hS.sp [0, 3, 6, 1, 2, 4, 5] [4, 2, 3, 0, 1], H⟩
 refine cond_f hF (by kernel_rfl) hb ?_
 refine wpIn_seq_k fun K178 hK178 => ?_
 refine wpIn_region_lit ?_
 refine wl_pure (L' := [(0, .slice p2 (a1).length c3), (3, pt b7 0), (4, pt b14 0), (5, vi y89), (6, pt b99 0), (35, vi x96.Kind), (79, vb (x96.Kind == 2))]) 2 [0, 3, 4, 5, 6, 35, 79] hF (by kernel_rfl) fun a hF => ?_
 refine wpListIn_nil ?_
 refine hK178 _ _ ?_
 refine bif_split H (fun hb H => ?_) (fun hb H => ?_)
 refine cond_t hF (by kernel_rfl) hb ?_
 refine wpIn_seq_k fun K179 hK179 => ?_
 refine rgX hS [0] ?_
 have hS := hS.drew
 refine anp [0, 1, 4, 5] [0, 3, 4, 5, 6, 81, 82, 85, 86] hF (hS.sx [0] (rg 5)) fun a hF => ?_
 refine atk 2 (some 83) hF (hS.sx [0] (rg 5)) rfl (vls 0 5 3) fun a hF => ?_
 refine atk 6 (some 87) hF (hS.sx [0] (rg 5)) rfl (vls 0 5 3) fun a hF => ?_
 refine ago 3 hF rfl ?_
 refine bind_split H (fun x180 hx180 H => ?_)
 refine wcS 3 [2, 5, 6, 0, 1, 3, 4] hF hS (fun hS => C_session_Session_Commit N (T_session_Session.mk y78 y79 y80 y84 y88) (T_api_Mark.mk x96.Mark.TS x96.Mark.DC x96.Mark.Tx) p81 m82 c83 p85 m86 c87 b7 ⟨rfl, hS.pick [1, 2] (by kernel_rfl)⟩ hx180) ?_
 rintro _ κ w a ⟨p181, m182, c183, p184, m185, c186, rfl, h2⟩ hF hB
 have hS := hB _ _ h2
 refine ⟨fun _ => (hS.sx [3] [2, 3, 4, 5, 6]), ?_⟩
 refine ago 7 hF rfl ?_
 refine bind_split H (fun x187 hx187 H => ?_)
 refine wcS 3 [4, 5, 6, 0, 1, 2, 3] hF hS (fun hS => C_ref15_Session_Commit N (T_ref15_Session.mk y69 y70 y71 y72 y75) (T_api_Mark.mk x96.Mark.TS x96.Mark.DC x96.Mark.Tx) p73 c74 p76 c77 b14 ⟨rfl, hS.pick [5, 6] (by kernel_rfl)⟩ hx187) ?_
 rintro _ κ w a ⟨p188, c189, p190, c191, rfl, h2⟩ hF hB
 have hS := hB _ _ h2
 refine ⟨fun _ => (hS.sx [6] [4, 5, 6, 7, 8]), ?_⟩
 refine anp [8] [0, 3, 4, 5, 6, 89] hF (hS.sx [6] [4, 5, 6, 7, 8]) fun a hF => ?_
 refine and_ ?_
 refine hK179 _ _ ?_
 refine bif_split H (fun hb H => ?_) (fun hb H => ?_)
 refine cond_t hF (by kernel_rfl) hb ?_
 refine wpIn_seq_k fun K192 hK192 => ?_
 refine wpIn_region_lit ?_
 refine wp 1 [2] hF fun a hF => ?_
 refine wpListIn_nil ?_
 refine hK192 _ _ ?_
 refine wpIn_ret ?_
 cases H
 exact (ret_done hF hS (res1 Try.results5 (rvt hF)) ⟨rfl, (hS.pick [] (by kernel_rfl)).ro, hS.newC [] (by decide) (by kernel_rfl)⟩)
 refine cond_f hF (by kernel_rfl) hb ?_
 refine wpIn_skip ?_
 exact ⟨_, x187.2.Snap, x187.2.Dep, x187.2.Opened, x187.2.Writes, p188, c189, x187.2.Cache, p190, c191, x180.2.snap, x180.2.dep, x180.2.open_, p181, m182, c183, x180.2.writes, p184, m185, c186, x180.2.cache, hF.kp [0, 3, 4, 5, 6], hS.sp [0, 3, 6, 1, 2, 4, 5] [4, 2, 3, 0, 1], H⟩
 refine cond_f hF (by kernel_rfl) hb ?_
 refine wpIn_seq_k fun K193 hK193 => ?_
 refine wpIn_region_lit ?_
 refine wp 2 [0, 3, 4, 5, 6, 90] hF fun a hF => ?_
 refine wpListIn_nil ?_
 refine hK193 _ _ ?_
 refine bif_split H (fun hb H => ?_) (fun hb H => ?_)
 refine cond_t hF (by kernel_rfl) hb ?_
 refine wpIn_seq_k fun K194 hK194 => ?_
 refine wpIn_region_lit ?_
 refine wp 1 [0, 3, 4, 5, 6, 92] hF fun a hF => ?_
 refine bind_split H (fun x195 hx195 H => ?_)
 refine wc (wcS 3 [2, 5, 6, 0, 1, 3, 4] hF hS (fun hS => C_session_Session_Close N (T_session_Session.mk y78 y79 y80 y84 y88) p81 m82 c83 p85 m86 c87 b7 ⟨rfl, hS.pick [1, 2] (by kernel_rfl)⟩ hx195) ?_)
 rintro _ κ w a ⟨p196, m197, c198, p199, m200, c201, rfl, h2⟩ hF hB
 have hS := hB _ _ h2
 refine wp 1 [0, 3, 4, 5, 6, 93, 94] hF fun a hF => ?_
 refine bind_split H (fun x202 hx202 H => ?_)
 refine wc (wcS 3 [4, 5, 6, 0, 1, 2, 3] hF hS (fun hS => C_ref15_Session_Close N (T_ref15_Session.mk y69 y70 y71 y72 y75) p73 c74 p76 c77 b14 ⟨rfl, hS.pick [5, 6] (by kernel_rfl)⟩ hx202) ?_)
 rintro _ κ w a ⟨p203, c204, p205, c206, rfl, h2⟩ hF hB
 have hS := hB _ _ h2
 refine wp 1 [0, 3, 4, 5, 6, 96] hF fun a hF => ?_
 refine wpListIn_nil ?_
 refine hK194 _ _ ?_
 refine bif_split H (fun hb H => ?_) (fun hb H => ?_)
 refine cond_t hF (by kernel_rfl) hb ?_
 refine wpIn_seq_k fun K207 hK207 => ?_
 refine wpIn_region_lit ?_
 refine wp 1 [2] hF fun a hF => ?_
 refine wpListIn_nil ?_
 refine hK207 _ _ ?_
 refine wpIn_ret ?_
 cases H
 exact (ret_done hF hS (res1 Try.results5 (rvt hF)) ⟨rfl, (hS.pick [] (by kernel_rfl)).ro, hS.newC [] (by decide) (by kernel_rfl)⟩)
 refine cond_f hF (by kernel_rfl) hb ?_
 refine wpIn_skip ?_
 exact ⟨_, x202.2.Snap, x202.2.Dep, x202.2.Opened, x202.2.Writes, p203, c204, x202.2.Cache, p205, c206, x195.2.snap, x195.2.dep, x195.2.open_, p196, m197, c198, x195.2.writes, p199, m200, c201, x195.2.cache, hF.kp [0, 3, 4, 5, 6], hS.sp [0, 3, 6, 1, 2, 4, 5] [4, 2, 3, 0, 1], H⟩
 refine cond_f hF (by kernel_rfl) hb ?_
 refine wpIn_skip ?_
 exact ⟨_, y69, y70, y71, y72, p73, c74, y75, p76, c77, y78, y79, y80, p81, m82, c83, y84, p85, m86, c87, y88, hF.kp [0, 3, 4, 5, 6], hS.sp [1, 2, 0, 3, 4, 5, 6] (rg 5), H⟩
 rintro a w ⟨κ, y100, y101, y102, y103, p104, c105, y106, p107, c108, y109, y110, y111, p112, m113, c114, y115, p116, m117, c118, y119, hF, hS, H⟩
 unfold M.law15_SessionPlays_k2 at H
 refine wpIn_seq_k fun K120 hK120 => ?_
 refine wpIn_region_lit ?_
 refine wp 2 [0, 3, 4, 5, 6, 98, 99] hF fun a hF => ?_
 refine wc (wld hF hS 2 1 0 fun a hF => ?_)
 refine bind_split H (fun x121 hx121 H => ?_)
 refine wc (wcS 3 [1, 5, 6, 0, 2, 3, 4] hF hS (fun hS => C_session_Session_Look N (T_session_Session.mk y109 y110 y111 y115 y119) x96.Key p112 m113 c114 p116 m117 c118 b7 ⟨rfl, hS.pick [1, 2] (by kernel_rfl)⟩ hx121) ?_)
 rintro _ κ w a ⟨rfl, h2⟩ hF hB
 have hS := hB _ _ h2
 refine wp 3 [0, 3, 4, 5, 6, 102, 103] hF fun a hF => ?_
 refine wc (wal hF hS [sg ByteArray.empty, sg ByteArray.empty, sb false, su 0, si 0, si 0] (sgN 6 sgNil) fun b122 a w hF hS => ?_)
 refine wc (wst hF hS 0 0 6 [sg x121.1.Key, sg x121.1.Val, sb x121.1.Gone, su x121.1.TS, si x121.1.DC, si x121.1.Tx] (sgN 6 sgNil) fun a w hF hS => ?_)
 refine wp 1 [0, 3, 4, 5, 6, 11, 12] hF fun a hF => ?_
 refine wpListIn_nil ?_
 refine hK120 _ _ ?_
 refine wpIn_seq_k fun K123 hK123 => ?_
 refine wpIn_region_lit ?_
 refine wp 2 [0, 3, 4, 5, 11, 12, 105, 106] hF fun a hF => ?_
 refine wc (wld hF hS 5 1 0 fun a hF => ?_)
 refine bind_split H (fun x124 hx124 H => ?_)
 refine wc (wcS 1 [4, 0, 1, 2, 3, 5, 6, 7] hF hS (fun hS => C_ref15_Session_Look N (T_ref15_Session.mk y100 y101 y102 y103 y106) x96.Key p104 c105 p107 c108 b14 ⟨rfl, hS.pick [3, 4] (by kernel_rfl)⟩ hx124) ?_)
 rintro _ κ w a ⟨rfl, h2⟩ hF hB
 have hS := hB _ _ h2
 refine wp 3 [0, 3, 4, 5, 11, 12, 109, 110] hF fun a hF => ?_
 refine wc (wal hF hS [sg ByteArray.empty, sg ByteArray.empty, sb false, su 0, si 0, si 0] (sgN 6 sgNil) fun b125 a w hF hS => ?_)
 refine wc (wst hF hS 0 0 6 [sg x124.1.Key, sg x124.1.Val, sb x124.1.Gone, su x124.1.TS, si x124.1.DC, si x124.1.Tx] (sgN 6 sgNil) fun a w hF hS => ?_)
 refine wl_pure (L' := [(0, .slice p2 (a1).length c3), (3, pt b7 0), (4, pt b14 0), (5, vi y89), (11, pt b122 0), (12, vi x121.2), (13, pt b125 0), (14, vi x124.2)]) 1 [0, 3, 4, 5, 11, 12, 13, 14] hF (by kernel_rfl) fun a hF => ?_
 refine wpListIn_nil ?_
 refine hK123 _ _ ?_
 refine wpIn_seq_k fun K126 hK126 => ?_
 refine bind_split H (fun v128 hv128 H => ?_)
 refine code_join (fun a w => ∃ κ : Gh, Fr (155) [] [(0, .slice p2 (a1).length c3), (3, pt b7 0), (4, pt b14 0), (5, vi y89), (153, vb v128)] a ∧ SS [] κ0 w0 κ w [.box b14 47 [su y100, su y101, sb y102, sl p104 (y103).length c105, sl p107 (y106).length c108], .box b7 121 [su y109, su y110, sb y111, (1, [.map p112]), (1, [.map p116])], .tok p104 37 6 (y103).length c105, .tok p107 37 6 (y106).length c108, .ext (objX p112 (.map m113 c114)), .ext (objX p116 (.map m117 c118))] [Ro.mp f_law15_Op.ty p2 c3 a1, Map.mp kStr true f_api_Ver.ty p112 m113 c114 y115, Map.mp kStr true f_api_Ver.ty p116 m117 c118 y119, Ro.mp f_api_Ver.ty p104 c105 y103, Ro.mp f_api_Ver.ty p107 c108 y106] ∧ True) ?_ ?_
 refine rgS hS [] ?_
 have hS := hS.drew
 refine bif_split hv128 (fun hb129 hv128 => ?_) (fun hb129 hv128 => ?_)
 refine atk 0 (some 111) hF (hS.sx (rg 7) (rg 5)) rfl (vls 2 0 6) fun a hF => ?_
 refine atk 1 (some 112) hF (hS.sx (rg 7) (rg 5)) rfl (vls 0 0 6) fun a hF => ?_
 refine atk 2 (some 113) hF (hS.sx (rg 7) (rg 5)) rfl (fun w _ => (val_eq (neg := true) (xs := (flat [sg x121.1.Key, sg x121.1.Val, sb x121.1.Gone, su x121.1.TS, si x121.1.DC, si x121.1.Tx])) (ys := (flat [sg x124.1.Key, sg x124.1.Val, sb x124.1.Gone, su x124.1.TS, si x124.1.DC, si x124.1.Tx])) (ks := [.str, .str, .bool, .int .u64, .int .i64, .int .i64]) 20 (by decide) rfl (by kernel_rfl) (by kernel_rfl) (by kernel_rfl) (by kernel_rfl) (by kernel_rfl) (by kernel_rfl) (by kernel_rfl)) w) fun a hF => ?_
 refine Cf.any_pure [3] [0, 3, 4, 5, 12, 14, 114] (L' := [(0, .slice p2 (a1).length c3), (3, pt b7 0), (4, pt b14 0), (5, vi y89), (12, vi x121.2), (14, vi x124.2), (114, vb (!(cEq (flat [sg x121.1.Key, sg x121.1.Val, sb x121.1.Gone, su x121.1.TS, si x121.1.DC, si x121.1.Tx]) (flat [sg x124.1.Key, sg x124.1.Val, sb x124.1.Gone, su x124.1.TS, si x124.1.DC, si x124.1.Tx]))))]) (listed' := (bitA 43 15)) (fuel := 39) hF (hS.sx (rg 7) (rg 5)) (by kernel_rfl) (by intro c a w t v h; cases t <;> exact h) (by kernel_rfl) rfl fun a hF => ?_
 have hF := hF.boolv 114 (by kernel_rfl) hb129
 refine Cf.any_pure [4, 5, 6, 7, 8, 9, 10, 11, 12, 13, 14, 15, 16, 17, 18, 19, 20, 21, 22, 23, 24, 25, 26, 27, 28, 29, 30, 31, 32, 33, 34, 35, 36, 37, 38, 39, 40, 41, 42] [0, 3, 4, 5, 153] (L' := [(0, .slice p2 (a1).length c3), (3, pt b7 0), (4, pt b14 0), (5, vi y89), (153, vb true)]) (listed' := (bitA 43 8796093022207)) (fuel := 0) hF (hS.sx (rg 7) (rg 5)) (by kernel_rfl) (by intro c a w t v h; cases t <;> exact h) (by kernel_rfl) rfl fun a hF => ?_
 refine and_ ?_
 cases hv128
 exact ⟨_, hF.kp [0, 3, 4, 5, 153], hS.sp [1, 3, 7, 8, 4, 5] (rg 5), trivial⟩
 refine bif_split hv128 (fun hb130 hv128 => ?_) (fun hb130 hv128 => ?_)
 refine atk 0 (some 111) hF (hS.sx (rg 7) (rg 5)) rfl (vls 2 0 6) fun a hF => ?_
 refine atk 1 (some 112) hF (hS.sx (rg 7) (rg 5)) rfl (vls 0 0 6) fun a hF => ?_
 refine atk 2 (some 113) hF (hS.sx (rg 7) (rg 5)) rfl (fun w _ => (val_eq (neg := true) (xs := (flat [sg x121.1.Key, sg x121.1.Val, sb x121.1.Gone, su x121.1.TS, si x121.1.DC, si x121.1.Tx])) (ys := (flat [sg x124.1.Key, sg x124.1.Val, sb x124.1.Gone, su x124.1.TS, si x124.1.DC, si x124.1.Tx])) (ks := [.str, .str, .bool, .int .u64, .int .i64, .int .i64]) 20 (by decide) rfl (by kernel_rfl) (by kernel_rfl) (by kernel_rfl) (by kernel_rfl) (by kernel_rfl) (by kernel_rfl) (by kernel_rfl)) w) fun a hF => ?_
 refine Cf.any_pure [3] [0, 3, 4, 5, 12, 14, 114] (L' := [(0, .slice p2 (a1).length c3), (3, pt b7 0), (4, pt b14 0), (5, vi y89), (12, vi x121.2), (14, vi x124.2), (114, vb (!(cEq (flat [sg x121.1.Key, sg x121.1.Val, sb x121.1.Gone, su x121.1.TS, si x121.1.DC, si x121.1.Tx]) (flat [sg x124.1.Key, sg x124.1.Val, sb x124.1.Gone, su x124.1.TS, si x124.1.DC, si x124.1.Tx]))))]) (listed' := (bitA 43 15)) (fuel := 39) hF (hS.sx (rg 7) (rg 5)) (by kernel_rfl) (by intro c a w t v h; cases t <;> exact h) (by kernel_rfl) rfl fun a hF => ?_
 have hF := hF.boolv 114 (by kernel_rfl) hb129
 refine Cf.any_pure [4, 5, 6, 7, 8] [0, 3, 4, 5, 119] (L' := [(0, .slice p2 (a1).length c3), (3, pt b7 0), (4, pt b14 0), (5, vi y89), (119, vb (x121.2 != x124.2))]) (listed' := (bitA 43 511)) (fuel := 34) hF (hS.sx (rg 7) (rg 5)) (by kernel_rfl) (by intro c a w t v h; cases t <;> exact h) (by kernel_rfl) rfl fun a hF => ?_
 have hF := hF.boolv 119 (by kernel_rfl) hb130
 refine Cf.any_pure [9, 10, 11, 12, 13, 14, 15, 16, 17, 18, 19, 20, 21, 22, 23, 24, 25, 26, 27, 28, 29, 30, 31, 32, 33, 34, 35, 36, 37, 38, 39, 40, 41, 42] [0, 3, 4, 5, 153] (L' := [(0, .slice p2 (a1).length c3), (3, pt b7 0), (4, pt b14 0), (5, vi y89), (153, vb true)]) (listed' := (bitA 43 8796093022207)) (fuel := 0) hF (hS.sx (rg 7) (rg 5)) (by kernel_rfl) (by intro c a w t v h; cases t <;> exact h) (by kernel_rfl) rfl fun a hF => ?_
 refine and_ ?_
 cases hv128
 exact ⟨_, hF.kp [0, 3, 4, 5, 153], hS.sp [1, 3, 7, 8, 4, 5] (rg 5), trivial⟩
 refine bind_split hv128 (fun x131 hx131 hv128 => ?_)
 refine bif_split hv128 (fun hb132 hv128 => ?_) (fun hb132 hv128 => ?_)
 refine atk 0 (some 111) hF (hS.sx (rg 7) (rg 5)) rfl (vls 2 0 6) fun a hF => ?_
 refine atk 1 (some 112) hF (hS.sx (rg 7) (rg 5)) rfl (vls 0 0 6) fun a hF => ?_
 refine atk 2 (some 113) hF (hS.sx (rg 7) (rg 5)) rfl (fun w _ => (val_eq (neg := true) (xs := (flat [sg x121.1.Key, sg x121.1.Val, sb x121.1.Gone, su x121.1.TS, si x121.1.DC, si x121.1.Tx])) (ys := (flat [sg x124.1.Key, sg x124.1.Val, sb x124.1.Gone, su x124.1.TS, si x124.1.DC, si x124.1.Tx])) (ks := [.str, .str, .bool, .int .u64, .int .i64, .int .i64]) 20 (by decide) rfl (by kernel_rfl) (by kernel_rfl) (by kernel_rfl) (by kernel_rfl) (by kernel_rfl) (by kernel_rfl) (by kernel_rfl)) w) fun a hF => ?_
 refine Cf.any_pure [3] [0, 3, 4, 5, 12, 14, 114] (L' := [(0, .slice p2 (a1).length c3), (3, pt b7 0), (4, pt b14 0), (5, vi y89), (12, vi x121.2), (14, vi x124.2), (114, vb (!(cEq (flat [sg x121.1.Key, sg x121.1.Val, sb x121.1.Gone, su x121.1.TS, si x121.1.DC, si x121.1.Tx]) (flat [sg x124.1.Key, sg x124.1.Val, sb x124.1.Gone, su x124.1.TS, si x124.1.DC, si x124.1.Tx]))))]) (listed' := (bitA 43 15)) (fuel := 39) hF (hS.sx (rg 7) (rg 5)) (by kernel_rfl) (by intro c a w t v h; cases t <;> exact h) (by kernel_rfl) rfl fun a hF => ?_
 have hF := hF.boolv 114 (by kernel_rfl) hb129
 refine Cf.any_pure [4, 5, 6, 7, 8] [0, 3, 4, 5, 119] (L' := [(0, .slice p2 (a1).length c3), (3, pt b7 0), (4, pt b14 0), (5, vi y89), (119, vb (x121.2 != x124.2))]) (listed' := (bitA 43 511)) (fuel := 34) hF (hS.sx (rg 7) (rg 5)) (by kernel_rfl) (by intro c a w t v h; cases t <;> exact h) (by kernel_rfl) rfl fun a hF => ?_
 have hF := hF.boolv 119 (by kernel_rfl) hb130
 refine Cf.any_pure [9, 11, 12, 13] [0, 3, 4, 5, 119, 120, 124] (L' := [(0, .slice p2 (a1).length c3), (3, pt b7 0), (4, pt b14 0), (5, vi y89), (119, vb false), (120, pt b7 0), (124, pt b14 2)]) (listed' := (bitA 43 15359)) (fuel := 30) hF (hS.sx (rg 7) (rg 5)) (by kernel_rfl) (by intro c a w t v h; cases t <;> exact h) (by kernel_rfl) rfl fun a hF => ?_
 refine atk 14 (some 125) hF (hS.sx (rg 7) (rg 5)) rfl (vld 1 2 0) fun a hF => ?_
 refine Cf.any_go 10 hF rfl (by kernel_rfl) (by kernel_rfl) (listed' := (bitA 43 32767)) (by kernel_rfl) ?_
 refine wcS 3 [3, 4, 5, 0, 1, 2, 6, 7, 8] hF hS (fun hS => C_session_Session_Open N (T_session_Session.mk y109 y110 y111 y115 y119) p112 m113 c114 p116 m117 c118 b7 ⟨rfl, hS.pick [1, 2] (by kernel_rfl)⟩ hx131) ?_
 rintro _ κ w a ⟨rfl, h2⟩ hF hB
 have hS := hB _ _ h2
 refine ⟨fun _ => (hS.sx [3, 4, 5, 0, 1, 2, 6] (rg 5)), ?_⟩
 refine Cf.any_pure [15, 16, 17] [0, 3, 4, 5, 128] (L' := [(0, .slice p2 (a1).length c3), (3, pt b7 0), (4, pt b14 0), (5, vi y89), (128, vb (!(x131 == y102)))]) (listed' := (bitA 43 262143)) (fuel := 25) hF (hS.sx [3, 4, 5, 0, 1, 2, 6] (rg 5)) (by kernel_rfl) (by intro c a w t v h; cases t <;> exact h) (by kernel_rfl) rfl fun a hF => ?_
 have hF := hF.boolv 128 (by kernel_rfl) hb132
 refine Cf.any_pure [18, 19, 20, 21, 22, 23, 24, 25, 26, 27, 28, 29, 30, 31, 32, 33, 34, 35, 36, 37, 38, 39, 40, 41, 42] [0, 3, 4, 5, 153] (L' := [(0, .slice p2 (a1).length c3), (3, pt b7 0), (4, pt b14 0), (5, vi y89), (153, vb true)]) (listed' := (bitA 43 8796093022207)) (fuel := 0) hF (hS.sx [3, 4, 5, 0, 1, 2, 6] (rg 5)) (by kernel_rfl) (by intro c a w t v h; cases t <;> exact h) (by kernel_rfl) rfl fun a hF => ?_
 refine and_ ?_
 cases hv128
 exact ⟨_, hF.kp [0, 3, 4, 5, 153], hS.sp [4, 0, 7, 8, 1, 2] (rg 5), trivial⟩
 refine bind_split hv128 (fun x133 hx133 hv128 => ?_)
 refine bif_split hv128 (fun hb134 hv128 => ?_) (fun hb134 hv128 => ?_)
 refine atk 0 (some 111) hF (hS.sx (rg 7) (rg 5)) rfl (vls 2 0 6) fun a hF => ?_
 refine atk 1 (some 112) hF (hS.sx (rg 7) (rg 5)) rfl (vls 0 0 6) fun a hF => ?_
 refine atk 2 (some 113) hF (hS.sx (rg 7) (rg 5)) rfl (fun w _ => (val_eq (neg := true) (xs := (flat [sg x121.1.Key, sg x121.1.Val, sb x121.1.Gone, su x121.1.TS, si x121.1.DC, si x121.1.Tx])) (ys := (flat [sg x124.1.Key, sg x124.1.Val, sb x124.1.Gone, su x124.1.TS, si x124.1.DC, si x124.1.Tx])) (ks := [.str, .str, .bool, .int .u64, .int .i64, .int .i64]) 20 (by decide) rfl (by kernel_rfl) (by kernel_rfl) (by kernel_rfl) (by kernel_rfl) (by kernel_rfl) (by kernel_rfl) (by kernel_rfl)) w) fun a hF => ?_
 refine Cf.any_pure [3] [0, 3, 4, 5, 12, 14, 114] (L' := [(0, .slice p2 (a1).length c3), (3, pt b7 0), (4, pt b14 0), (5, vi y89), (12, vi x121.2), (14, vi x124.2), (114, vb (!(cEq (flat [sg x121.1.Key, sg x121.1.Val, sb x121.1.Gone, su x121.1.TS, si x121.1.DC, si x121.1.Tx]) (flat [sg x124.1.Key, sg x124.1.Val, sb x124.1.Gone, su x124.1.TS, si x124.1.DC, si x124.1.Tx]))))]) (listed' := (bitA 43 15)) (fuel := 39) hF (hS.sx (rg 7) (rg 5)) (by kernel_rfl) (by intro c a w t v h; cases t <;> exact h) (by kernel_rfl) rfl fun a hF => ?_
 have hF := hF.boolv 114 (by kernel_rfl) hb129
 refine Cf.any_pure [4, 5, 6, 7, 8] [0, 3, 4, 5, 119] (L' := [(0, .slice p2 (a1).length c3), (3, pt b7 0), (4, pt b14 0), (5, vi y89), (119, vb (x121.2 != x124.2))]) (listed' := (bitA 43 511)) (fuel := 34) hF (hS.sx (rg 7) (rg 5)) (by kernel_rfl) (by intro c a w t v h; cases t <;> exact h) (by kernel_rfl) rfl fun a hF => ?_
 have hF := hF.boolv 119 (by kernel_rfl) hb130
 refine Cf.any_pure [9, 11, 12, 13] [0, 3, 4, 5, 119, 120, 124] (L' := [(0, .slice p2 (a1).length c3), (3, pt b7 0), (4, pt b14 0), (5, vi y89), (119, vb false), (120, pt b7 0), (124, pt b14 2)]) (listed' := (bitA 43 15359)) (fuel := 30) hF (hS.sx (rg 7) (rg 5)) (by kernel_rfl) (by intro c a w t v h; cases t <;> exact h) (by kernel_rfl) rfl fun a hF => ?_
 refine atk 14 (some 125) hF (hS.sx (rg 7) (rg 5)) rfl (vld 1 2 0) fun a hF => ?_
 refine Cf.any_go 10 hF rfl (by kernel_rfl) (by kernel_rfl) (listed' := (bitA 43 32767)) (by kernel_rfl) ?_
 refine wcS 3 [3, 4, 5, 0, 1, 2, 6, 7, 8] hF hS (fun hS => C_session_Session_Open N (T_session_Session.mk y109 y110 y111 y115 y119) p112 m113 c114 p116 m117 c118 b7 ⟨rfl, hS.pick [1, 2] (by kernel_rfl)⟩ hx131) ?_
 rintro _ κ w a ⟨rfl, h2⟩ hF hB
 have hS := hB _ _ h2
 refine ⟨fun _ => (hS.sx [3, 4, 5, 0, 1, 2, 6] (rg 5)), ?_⟩
 refine Cf.any_pure [15, 16, 17] [0, 3, 4, 5, 128] (L' := [(0, .slice p2 (a1).length c3), (3, pt b7 0), (4, pt b14 0), (5, vi y89), (128, vb (!(x131 == y102)))]) (listed' := (bitA 43 262143)) (fuel := 25) hF (hS.sx [3, 4, 5, 0, 1, 2, 6] (rg 5)) (by kernel_rfl) (by intro c a w t v h; cases t <;> exact h) (by kernel_rfl) rfl fun a hF => ?_
 have hF := hF.boolv 128 (by kernel_rfl) hb132
 refine Cf.any_pure [18, 20, 21, 22] [0, 3, 4, 5, 128, 129, 133] (L' := [(0, .slice p2 (a1).length c3), (3, pt b7 0), (4, pt b14 0), (5, vi y89), (128, vb false), (129, pt b7 0), (133, pt b14 0)]) (listed' := (bitA 43 7864319)) (fuel := 21) hF (hS.sx [3, 4, 5, 0, 1, 2, 6] (rg 5)) (by kernel_rfl) (by intro c a w t v h; cases t <;> exact h) (by kernel_rfl) rfl fun a hF => ?_
 refine atk 23 (some 134) hF (hS.sx [3, 4, 5, 0, 1, 2, 6] (rg 5)) rfl (vld 1 0 0) fun a hF => ?_
 refine Cf.any_go 19 hF rfl (by kernel_rfl) (by kernel_rfl) (listed' := (bitA 43 16777215)) (by kernel_rfl) ?_
 refine wcS 3 (rg 9) hF hS (fun hS => C_session_Session_Snap N (T_session_Session.mk y109 y110 y111 y115 y119) p112 m113 c114 p116 m117 c118 b7 ⟨rfl, hS.pick [1, 2] (by kernel_rfl)⟩ hx133) ?_
 rintro _ κ w a ⟨rfl, h2⟩ hF hB
 have hS := hB _ _ h2
 refine ⟨fun _ => (hS.sx [3, 4, 5, 0, 1, 2, 6] (rg 5)), ?_⟩
 refine Cf.any_pure [24, 25, 26] [0, 3, 4, 5, 137] (L' := [(0, .slice p2 (a1).length c3), (3, pt b7 0), (4, pt b14 0), (5, vi y89), (137, vb (x133 != y100))]) (listed' := (bitA 43 134217727)) (fuel := 16) hF (hS.sx [3, 4, 5, 0, 1, 2, 6] (rg 5)) (by kernel_rfl) (by intro c a w t v h; cases t <;> exact h) (by kernel_rfl) rfl fun a hF => ?_
 have hF := hF.boolv 137 (by kernel_rfl) hb134
 refine Cf.any_pure [27, 28, 29, 30, 31, 32, 33, 34, 35, 36, 37, 38, 39, 40, 41, 42] [0, 3, 4, 5, 153] (L' := [(0, .slice p2 (a1).length c3), (3, pt b7 0), (4, pt b14 0), (5, vi y89), (153, vb true)]) (listed' := (bitA 43 8796093022207)) (fuel := 0) hF (hS.sx [3, 4, 5, 0, 1, 2, 6] (rg 5)) (by kernel_rfl) (by intro c a w t v h; cases t <;> exact h) (by kernel_rfl) rfl fun a hF => ?_
 refine and_ ?_
 cases hv128
 exact ⟨_, hF.kp [0, 3, 4, 5, 153], hS.sp [4, 0, 7, 8, 1, 2] (rg 5), trivial⟩
 refine bind_split hv128 (fun x135 hx135 hv128 => ?_)
 refine bind_split hv128 (fun x136 hx136 hv128 => ?_)
 refine bif_split hv128 (fun hb137 hv128 => ?_) (fun hb137 hv128 => ?_)
 refine atk 0 (some 111) hF (hS.sx (rg 7) (rg 5)) rfl (vls 2 0 6) fun a hF => ?_
 refine atk 1 (some 112) hF (hS.sx (rg 7) (rg 5)) rfl (vls 0 0 6) fun a hF => ?_
 refine atk 2 (some 113) hF (hS.sx (rg 7) (rg 5)) rfl (fun w _ => (val_eq (neg := true) (xs := (flat [sg x121.1.Key, sg x121.1.Val, sb x121.1.Gone, su x121.1.TS, si x121.1.DC, si x121.1.Tx])) (ys := (flat [sg x124.1.Key, sg x124.1.Val, sb x124.1.Gone, su x124.1.TS, si x124.1.DC, si x124.1.Tx])) (ks := [.str, .str, .bool, .int .u64, .int .i64, .int .i64]) 20 (by decide) rfl (by kernel_rfl) (by kernel_rfl) (by kernel_rfl) (by kernel_rfl) (by kernel_rfl) (by kernel_rfl) (by kernel_rfl)) w) fun a hF => ?_
 refine Cf.any_pure [3] [0, 3, 4, 5, 12, 14, 114] (L' := [(0, .slice p2 (a1).length c3), (3, pt b7 0), (4, pt b14 0), (5, vi y89), (12, vi x121.2), (14, vi x124.2), (114, vb (!(cEq (flat [sg x121.1.Key, sg x121.1.Val, sb x121.1.Gone, su x121.1.TS, si x121.1.DC, si x121.1.Tx]) (flat [sg x124.1.Key, sg x124.1.Val, sb x124.1.Gone, su x124.1.TS, si x124.1.DC, si x124.1.Tx]))))]) (listed' := (bitA 43 15)) (fuel := 39) hF (hS.sx (rg 7) (rg 5)) (by kernel_rfl) (by intro c a w t v h; cases t <;> exact h) (by kernel_rfl) rfl fun a hF => ?_
 have hF := hF.boolv 114 (by kernel_rfl) hb129
 refine Cf.any_pure [4, 5, 6, 7, 8] [0, 3, 4, 5, 119] (L' := [(0, .slice p2 (a1).length c3), (3, pt b7 0), (4, pt b14 0), (5, vi y89), (119, vb (x121.2 != x124.2))]) (listed' := (bitA 43 511)) (fuel := 34) hF (hS.sx (rg 7) (rg 5)) (by kernel_rfl) (by intro c a w t v h; cases t <;> exact h) (by kernel_rfl) rfl fun a hF => ?_
 have hF := hF.boolv 119 (by kernel_rfl) hb130
 refine Cf.any_pure [9, 11, 12, 13] [0, 3, 4, 5, 119, 120, 124] (L' := [(0, .slice p2 (a1).length c3), (3, pt b7 0), (4, pt b14 0), (5, vi y89), (119, vb false), (120, pt b7 0), (124, pt b14 2)]) (listed' := (bitA 43 15359)) (fuel := 30) hF (hS.sx (rg 7) (rg 5)) (by kernel_rfl) (by intro c a w t v h; cases t <;> exact h) (by kernel_rfl) rfl fun a hF => ?_
 refine atk 14 (some 125) hF (hS.sx (rg 7) (rg 5)) rfl (vld 1 2 0) fun a hF => ?_
 refine Cf.any_go 10 hF rfl (by kernel_rfl) (by kernel_rfl) (listed' := (bitA 43 32767)) (by kernel_rfl) ?_
 refine wcS 3 [3, 4, 5, 0, 1, 2, 6, 7, 8] hF hS (fun hS => C_session_Session_Open N (T_session_Session.mk y109 y110 y111 y115 y119) p112 m113 c114 p116 m117 c118 b7 ⟨rfl, hS.pick [1, 2] (by kernel_rfl)⟩ hx131) ?_
 rintro _ κ w a ⟨rfl, h2⟩ hF hB
 have hS := hB _ _ h2
 refine ⟨fun _ => (hS.sx [3, 4, 5, 0, 1, 2, 6] (rg 5)), ?_⟩
 refine Cf.any_pure [15, 16, 17] [0, 3, 4, 5, 128] (L' := [(0, .slice p2 (a1).length c3), (3, pt b7 0), (4, pt b14 0), (5, vi y89), (128, vb (!(x131 == y102)))]) (listed' := (bitA 43 262143)) (fuel := 25) hF (hS.sx [3, 4, 5, 0, 1, 2, 6] (rg 5)) (by kernel_rfl) (by intro c a w t v h; cases t <;> exact h) (by kernel_rfl) rfl fun a hF => ?_
 have hF := hF.boolv 128 (by kernel_rfl) hb132
 refine Cf.any_pure [18, 20, 21, 22] [0, 3, 4, 5, 128, 129, 133] (L' := [(0, .slice p2 (a1).length c3), (3, pt b7 0), (4, pt b14 0), (5, vi y89), (128, vb false), (129, pt b7 0), (133, pt b14 0)]) (listed' := (bitA 43 7864319)) (fuel := 21) hF (hS.sx [3, 4, 5, 0, 1, 2, 6] (rg 5)) (by kernel_rfl) (by intro c a w t v h; cases t <;> exact h) (by kernel_rfl) rfl fun a hF => ?_
 refine atk 23 (some 134) hF (hS.sx [3, 4, 5, 0, 1, 2, 6] (rg 5)) rfl (vld 1 0 0) fun a hF => ?_
 refine Cf.any_go 19 hF rfl (by kernel_rfl) (by kernel_rfl) (listed' := (bitA 43 16777215)) (by kernel_rfl) ?_
 refine wcS 3 (rg 9) hF hS (fun hS => C_session_Session_Snap N (T_session_Session.mk y109 y110 y111 y115 y119) p112 m113 c114 p116 m117 c118 b7 ⟨rfl, hS.pick [1, 2] (by kernel_rfl)⟩ hx133) ?_
 rintro _ κ w a ⟨rfl, h2⟩ hF hB
 have hS := hB _ _ h2
 refine ⟨fun _ => (hS.sx [3, 4, 5, 0, 1, 2, 6] (rg 5)), ?_⟩
 refine Cf.any_pure [24, 25, 26] [0, 3, 4, 5, 137] (L' := [(0, .slice p2 (a1).length c3), (3, pt b7 0), (4, pt b14 0), (5, vi y89), (137, vb (x133 != y100))]) (listed' := (bitA 43 134217727)) (fuel := 16) hF (hS.sx [3, 4, 5, 0, 1, 2, 6] (rg 5)) (by kernel_rfl) (by intro c a w t v h; cases t <;> exact h) (by kernel_rfl) rfl fun a hF => ?_
 have hF := hF.boolv 137 (by kernel_rfl) hb134
 refine Cf.any_pure [27, 29] [0, 3, 4, 5, 137, 138, 140] (L' := [(0, .slice p2 (a1).length c3), (3, pt b7 0), (4, pt b14 0), (5, vi y89), (137, vb false), (138, pt b7 0), (140, pt b14 0)]) (listed' := (bitA 43 805306367)) (fuel := 14) hF (hS.sx [3, 4, 5, 0, 1, 2, 6] (rg 5)) (by kernel_rfl) (by intro c a w t v h; cases t <;> exact h) (by kernel_rfl) rfl fun a hF => ?_
 refine Cf.any_go 28 hF rfl (by kernel_rfl) (by kernel_rfl) (listed' := (bitA 43 1073741823)) (by kernel_rfl) ?_
 refine wcS 3 (rg 9) hF hS (fun hS => C_session_Session_Low N (T_session_Session.mk y109 y110 y111 y115 y119) p112 m113 c114 p116 m117 c118 b7 ⟨rfl, hS.pick [1, 2] (by kernel_rfl)⟩ hx135) ?_
 rintro _ κ w a ⟨rfl, h2⟩ hF hB
 have hS := hB _ _ h2
 refine ⟨fun _ => (hS.sx [3, 4, 5, 0, 1, 2, 6] (rg 5)), ?_⟩
 refine Cf.any_go 30 hF rfl (by kernel_rfl) (by kernel_rfl) (listed' := (bitA 43 2147483647)) (by kernel_rfl) ?_
 refine wcS 1 [4, 0, 1, 2, 3, 5, 6, 7, 8] hF hS (fun hS => C_ref15_Session_Low N (T_ref15_Session.mk y100 y101 y102 y103 y106) p104 c105 p107 c108 b14 ⟨rfl, hS.pick [3, 4] (by kernel_rfl)⟩ hx136) ?_
 rintro _ κ w a ⟨rfl, h2⟩ hF hB
 have hS := hB _ _ h2
 refine ⟨fun _ => (hS.sx [4, 0, 5, 1, 2, 3, 6] (rg 5)), ?_⟩
 refine Cf.any_pure [31, 32, 33] [0, 3, 4, 5, 144] (L' := [(0, .slice p2 (a1).length c3), (3, pt b7 0), (4, pt b14 0), (5, vi y89), (144, vb (x135 != x136))]) (listed' := (bitA 43 17179869183)) (fuel := 9) hF (hS.sx [4, 0, 5, 1, 2, 3, 6] (rg 5)) (by kernel_rfl) (by intro c a w t v h; cases t <;> exact h) (by kernel_rfl) rfl fun a hF => ?_
 have hF := hF.boolv 144 (by kernel_rfl) hb137
 refine Cf.any_pure [34, 35, 36, 37, 38, 39, 40, 41, 42] [0, 3, 4, 5, 153] (L' := [(0, .slice p2 (a1).length c3), (3, pt b7 0), (4, pt b14 0), (5, vi y89), (153, vb true)]) (listed' := (bitA 43 8796093022207)) (fuel := 0) hF (hS.sx [4, 0, 5, 1, 2, 3, 6] (rg 5)) (by kernel_rfl) (by intro c a w t v h; cases t <;> exact h) (by kernel_rfl) rfl fun a hF => ?_
 refine and_ ?_
 cases hv128
 exact ⟨_, hF.kp [0, 3, 4, 5, 153], hS.sp [0, 1, 7, 8, 2, 3] (rg 5), trivial⟩
 refine bind_split hv128 (fun x138 hx138 hv128 => ?_)
 refine bind_split hv128 (fun x141 hx141 hv128 => ?_)
 refine atk 0 (some 111) hF (hS.sx (rg 7) (rg 5)) rfl (vls 2 0 6) fun a hF => ?_
 refine atk 1 (some 112) hF (hS.sx (rg 7) (rg 5)) rfl (vls 0 0 6) fun a hF => ?_
 refine atk 2 (some 113) hF (hS.sx (rg 7) (rg 5)) rfl (fun w _ => (val_eq (neg := true) (xs := (flat [sg x121.1.Key, sg x121.1.Val, sb x121.1.Gone, su x121.1.TS, si x121.1.DC, si x121.1.Tx])) (ys := (flat [sg x124.1.Key, sg x124.1.Val, sb x124.1.Gone, su x124.1.TS, si x124.1.DC, si x124.1.Tx])) (ks := [.str, .str, .bool, .int .u64, .int .i64, .int .i64]) 20 (by decide) rfl (by kernel_rfl) (by kernel_rfl) (by kernel_rfl) (by kernel_rfl) (by kernel_rfl) (by kernel_rfl) (by kernel_rfl)) w) fun a hF => ?_
 refine Cf.any_pure [3] [0, 3, 4, 5, 12, 14, 114] (L' := [(0, .slice p2 (a1).length c3), (3, pt b7 0), (4, pt b14 0), (5, vi y89), (12, vi x121.2), (14, vi x124.2), (114, vb (!(cEq (flat [sg x121.1.Key, sg x121.1.Val, sb x121.1.Gone, su x121.1.TS, si x121.1.DC, si x121.1.Tx]) (flat [sg x124.1.Key, sg x124.1.Val, sb x124.1.Gone, su x124.1.TS, si x124.1.DC, si x124.1.Tx]))))]) (listed' := (bitA 43 15)) (fuel := 39) hF (hS.sx (rg 7) (rg 5)) (by kernel_rfl) (by intro c a w t v h; cases t <;> exact h) (by kernel_rfl) rfl fun a hF => ?_
 have hF := hF.boolv 114 (by kernel_rfl) hb129
 refine Cf.any_pure [4, 5, 6, 7, 8] [0, 3, 4, 5, 119] (L' := [(0, .slice p2 (a1).length c3), (3, pt b7 0), (4, pt b14 0), (5, vi y89), (119, vb (x121.2 != x124.2))]) (listed' := (bitA 43 511)) (fuel := 34) hF (hS.sx (rg 7) (rg 5)) (by kernel_rfl) (by intro c a w t v h; cases t <;> exact h) (by kernel_rfl) rfl fun a hF => ?_
 have hF := hF.boolv 119 (by kernel_rfl) hb130
 refine Cf.any_pure [9, 11, 12, 13] [0, 3, 4, 5, 119, 120, 124] (L' := [(0, .slice p2 (a1).length c3), (3, pt b7 0), (4, pt b14 0), (5, vi y89), (119, vb false), (120, pt b7 0), (124, pt b14 2)]) (listed' := (bitA 43 15359)) (fuel := 30) hF (hS.sx (rg 7) (rg 5)) (by kernel_rfl) (by intro c a w t v h; cases t <;> exact h) (by kernel_rfl) rfl fun a hF => ?_
 refine atk 14 (some 125) hF (hS.sx (rg 7) (rg 5)) rfl (vld 1 2 0) fun a hF => ?_
 refine Cf.any_go 10 hF rfl (by kernel_rfl) (by kernel_rfl) (listed' := (bitA 43 32767)) (by kernel_rfl) ?_
 refine wcS 3 [3, 4, 5, 0, 1, 2, 6, 7, 8] hF hS (fun hS => C_session_Session_Open N (T_session_Session.mk y109 y110 y111 y115 y119) p112 m113 c114 p116 m117 c118 b7 ⟨rfl, hS.pick [1, 2] (by kernel_rfl)⟩ hx131) ?_
 rintro _ κ w a ⟨rfl, h2⟩ hF hB
 have hS := hB _ _ h2
 refine ⟨fun _ => (hS.sx [3, 4, 5, 0, 1, 2, 6] (rg 5)), ?_⟩
 refine Cf.any_pure [15, 16, 17] [0, 3, 4, 5, 128] (L' := [(0, .slice p2 (a1).length c3), (3, pt b7 0), (4, pt b14 0), (5, vi y89), (128, vb (!(x131 == y102)))]) (listed' := (bitA 43 262143)) (fuel := 25) hF (hS.sx [3, 4, 5, 0, 1, 2, 6] (rg 5)) (by kernel_rfl) (by intro c a w t v h; cases t <;> exact h) (by kernel_rfl) rfl fun a hF => ?_
 have hF := hF.boolv 128 (by kernel_rfl) hb132
 refine Cf.any_pure [18, 20, 21, 22] [0, 3, 4, 5, 128, 129, 133] (L' := [(0, .slice p2 (a1).length c3), (3, pt b7 0), (4, pt b14 0), (5, vi y89), (128, vb false), (129, pt b7 0), (133, pt b14 0)]) (listed' := (bitA 43 7864319)) (fuel := 21) hF (hS.sx [3, 4, 5, 0, 1, 2, 6] (rg 5)) (by kernel_rfl) (by intro c a w t v h; cases t <;> exact h) (by kernel_rfl) rfl fun a hF => ?_
 refine atk 23 (some 134) hF (hS.sx [3, 4, 5, 0, 1, 2, 6] (rg 5)) rfl (vld 1 0 0) fun a hF => ?_
 refine Cf.any_go 19 hF rfl (by kernel_rfl) (by kernel_rfl) (listed' := (bitA 43 16777215)) (by kernel_rfl) ?_
 refine wcS 3 (rg 9) hF hS (fun hS => C_session_Session_Snap N (T_session_Session.mk y109 y110 y111 y115 y119) p112 m113 c114 p116 m117 c118 b7 ⟨rfl, hS.pick [1, 2] (by kernel_rfl)⟩ hx133) ?_
 rintro _ κ w a ⟨rfl, h2⟩ hF hB
 have hS := hB _ _ h2
 refine ⟨fun _ => (hS.sx [3, 4, 5, 0, 1, 2, 6] (rg 5)), ?_⟩
 refine Cf.any_pure [24, 25, 26] [0, 3, 4, 5, 137] (L' := [(0, .slice p2 (a1).length c3), (3, pt b7 0), (4, pt b14 0), (5, vi y89), (137, vb (x133 != y100))]) (listed' := (bitA 43 134217727)) (fuel := 16) hF (hS.sx [3, 4, 5, 0, 1, 2, 6] (rg 5)) (by kernel_rfl) (by intro c a w t v h; cases t <;> exact h) (by kernel_rfl) rfl fun a hF => ?_
 have hF := hF.boolv 137 (by kernel_rfl) hb134
 refine Cf.any_pure [27, 29] [0, 3, 4, 5, 137, 138, 140] (L' := [(0, .slice p2 (a1).length c3), (3, pt b7 0), (4, pt b14 0), (5, vi y89), (137, vb false), (138, pt b7 0), (140, pt b14 0)]) (listed' := (bitA 43 805306367)) (fuel := 14) hF (hS.sx [3, 4, 5, 0, 1, 2, 6] (rg 5)) (by kernel_rfl) (by intro c a w t v h; cases t <;> exact h) (by kernel_rfl) rfl fun a hF => ?_
 refine Cf.any_go 28 hF rfl (by kernel_rfl) (by kernel_rfl) (listed' := (bitA 43 1073741823)) (by kernel_rfl) ?_
 refine wcS 3 (rg 9) hF hS (fun hS => C_session_Session_Low N (T_session_Session.mk y109 y110 y111 y115 y119) p112 m113 c114 p116 m117 c118 b7 ⟨rfl, hS.pick [1, 2] (by kernel_rfl)⟩ hx135) ?_
 rintro _ κ w a ⟨rfl, h2⟩ hF hB
 have hS := hB _ _ h2
 refine ⟨fun _ => (hS.sx [3, 4, 5, 0, 1, 2, 6] (rg 5)), ?_⟩
 refine Cf.any_go 30 hF rfl (by kernel_rfl) (by kernel_rfl) (listed' := (bitA 43 2147483647)) (by kernel_rfl) ?_
 refine wcS 1 [4, 0, 1, 2, 3, 5, 6, 7, 8] hF hS (fun hS => C_ref15_Session_Low N (T_ref15_Session.mk y100 y101 y102 y103 y106) p104 c105 p107 c108 b14 ⟨rfl, hS.pick [3, 4] (by kernel_rfl)⟩ hx136) ?_
 rintro _ κ w a ⟨rfl, h2⟩ hF hB
 have hS := hB _ _ h2
 refine ⟨fun _ => (hS.sx [4, 0, 5, 1, 2, 3, 6] (rg 5)), ?_⟩
 refine Cf.any_pure [31, 32, 33] [0, 3, 4, 5, 144] (L' := [(0, .slice p2 (a1).length c3), (3, pt b7 0), (4, pt b14 0), (5, vi y89), (144, vb (x135 != x136))]) (listed' := (bitA 43 17179869183)) (fuel := 9) hF (hS.sx [4, 0, 5, 1, 2, 3, 6] (rg 5)) (by kernel_rfl) (by intro c a w t v h; cases t <;> exact h) (by kernel_rfl) rfl fun a hF => ?_
 have hF := hF.boolv 144 (by kernel_rfl) hb137
 refine Cf.any_pure [34, 36, 37, 38] [0, 3, 4, 5, 144, 145, 149] (L' := [(0, .slice p2 (a1).length c3), (3, pt b7 0), (4, pt b14 0), (5, vi y89), (144, vb false), (145, pt b7 0), (149, pt b14 3)]) (listed' := (bitA 43 515396075519)) (fuel := 5) hF (hS.sx [4, 0, 5, 1, 2, 3, 6] (rg 5)) (by kernel_rfl) (by intro c a w t v h; cases t <;> exact h) (by kernel_rfl) rfl fun a hF => ?_
 refine atk 39 (some 150) hF (hS.sx [4, 0, 5, 1, 2, 3, 6] (rg 5)) rfl (vld 1 3 0) fun a hF => ?_
 refine Cf.any_go 35 hF rfl (by kernel_rfl) (by kernel_rfl) (listed' := (bitA 43 1099511627775)) (by kernel_rfl) ?_
 refine wcS 3 [1, 2, 3, 0, 4, 5, 6, 7, 8] hF hS (fun hS => C_session_Session_Writes N (T_session_Session.mk y109 y110 y111 y115 y119) p112 m113 c114 p116 m117 c118 b7 ⟨rfl, hS.pick [1, 2] (by kernel_rfl)⟩ hx138) ?_
 rintro _ κ w a ⟨p139, c140, rfl, h2⟩ hF hB
 have hS := hB _ _ h2
 refine ⟨fun _ => (hS.sx [5, 4, 6, 0, 1, 2, 7] [1, 2, 3, 4, 5]), ?_⟩
 refine Cf.any_go 40 hF rfl (by kernel_rfl) (by kernel_rfl) (listed' := (bitA 43 2199023255551)) (by kernel_rfl) ?_
 refine wo_callP hF hS (by kernel_rfl) (by kernel_rfl) (C_ref04_SameVers N hS.fresh x138 y103 p139 c140 p104 c105 ((hS.pick [0, 4] (by kernel_rfl)).ro) hx141) ?_
 rintro _ κ w a ⟨rfl, hR, hN⟩ hF hS hO
 refine ⟨fun _ => (hS.sx [5, 4, 6, 0, 1, 2, 7] [1, 2, 3, 4, 5]), ?_⟩
 refine Cf.any_pure [41, 42] [0, 3, 4, 5, 153] (L' := [(0, .slice p2 (a1).length c3), (3, pt b7 0), (4, pt b14 0), (5, vi y89), (153, vb (!x141))]) (listed' := (bitA 43 8796093022207)) (fuel := 0) hF (hS.sx [5, 4, 6, 0, 1, 2, 7] [1, 2, 3, 4, 5]) (by kernel_rfl) (by intro c a w t v h; cases t <;> exact h) (by kernel_rfl) rfl fun a hF => ?_
 refine and_ ?_
 cases hv128
 exact ⟨_, hF.kp [0, 3, 4, 5, 153], hS.sp [4, 0, 8, 9, 1, 2] [1, 2, 3, 4, 5], trivial⟩
 rintro a w ⟨κ, hF, hS, -⟩
 refine hK126 _ _ ?_
 refine bif_split H (fun hb H => ?_) (fun hb H => ?_)
 refine cond_t hF (by kernel_rfl) hb ?_
 refine wpIn_seq_k fun K142 hK142 => ?_
 refine wpIn_region_lit ?_
 refine wp 1 [2] hF fun a hF => ?_
 refine wpListIn_nil ?_
 refine hK142 _ _ ?_
 refine wpIn_ret ?_
 cases H
 exact (ret_done hF hS (res1 Try.results5 (rvt hF)) ⟨rfl, (hS.pick [] (by kernel_rfl)).ro, hS.newC [] (by decide) (by kernel_rfl)⟩)
 refine cond_f hF (by kernel_rfl) hb ?_
 refine wpIn_skip ?_
 refine hK94 _ _ ?_
 refine wpIn_region_lit ?_
 refine wp 3 [0, 3, 4, 5] hF fun a hF => ?_
 refine wpListIn_nil ?_
 exact ⟨fuel1, Nat.lt_succ_self _, _, y100, y101, y102, y103, p104, c105, y106, p107, c108, y109, y110, y111, p112, m113, c114, y115, p116, m117, c118, y119, IntKind.i64.wrap (y89 + 1), hF.kp [0, 3, 4, 5], hS.sp (rg 6) (rg 5), H⟩
 refine cond_f hF (by kernel_rfl) hb ?_
 refine wpIn_exit ?_
 refine hK17 _ _ ?_
 refine wpIn_seq_k fun K208 hK208 => ?_
 refine wpIn_region_lit ?_
 refine bind_split H (fun x209 hx209 H => ?_)
 refine wc (wo_callP hF hS (by kernel_rfl) (by kernel_rfl) (C_law15_awake N hS.fresh   ((hS.pick [] (by kernel_rfl)).ro) hx209) ?_)
 rintro _ κ w a ⟨rfl, hR, hN⟩ hF hS hO
 refine wp 1 [2] hF fun a hF => ?_
 refine wpListIn_nil ?_
 refine hK208 _ _ ?_
 refine wpIn_ret ?_
 cases H
 exact (ret_done hF hS (res1 Try.results5 (rvt hF)) ⟨rfl, (hS.pick [] (by kernel_rfl)).ro, hS.newC [] (by decide) (by kernel_rfl)⟩)
end Go.Cf
