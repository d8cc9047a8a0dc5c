/- The walks: each function returns what its model says. Printed by a program of ours. -/
import Derived.Test.YteeafoagaaedcaaZM1
namespace Go.Cf
open Go Go.Proofs
set_option linter.unusedVariables false
set_option maxRecDepth 20000 in
set_option maxHeartbeats 1000000 in
theorem C_session_Session_Snap (N : Nat) {Ms : List Nat} {κ0 : Gh} {w0 : World} (a1 : T_session_Session) (p2 : Option Nat) (m3 : Array MapEntry) (c4 : Nat) (p5 : Option Nat) (m6 : Array MapEntry) (c7 : Nat) (b8 : Nat) (hB : SB Ms κ0 w0 [.box b8 121 [su a1.snap, su a1.dep, sb a1.open_, (1, [.map p2]), (1, [.map p5])], .ext (objX p2 (.map m3 c4)), .ext (objX p5 (.map m6 c7))] [Map.mp kStr true f_api_Ver.ty p2 m3 c4 a1.writes, Map.mp kStr true f_api_Ver.ty p5 m6 c7 a1.cache]) {r : (Int)} (H : M.session_Session_Snap N a1 = some r) :
    Calls Try.prog 26 #[pt b8 0] w0 (Post Ms κ0 w0 fun v κ w => v = vu r ∧ SS Ms κ0 w0 κ w [.box b8 121 [su a1.snap, su a1.dep, sb a1.open_, (1, [.map p2]), (1, [.map p5])], .ext (objX p2 (.map m3 c4)), .ext (objX p5 (.map m6 c7))] []) := by
 have hS := hB.hS
 have hfr := hS.fresh
 refine enter (N := (9)) (L := [(0, pt b8 0)]) Try.func26 rfl Try.ntmps26 (show 1 ≤ (9) by decide) rfl fun a hF => ?_
 unfold M.session_Session_Snap at H
 refine wpIn_seq_k fun K9 hK9 => ?_
 refine wpIn_region_lit ?_
 refine wp 1 [0] hF fun a hF => ?_
 refine wpListIn_nil ?_
 refine hK9 _ _ ?_
 refine wpIn_seq_k fun K10 hK10 => ?_
 refine wpIn_seq_k fun K11 hK11 => ?_
 refine wpIn_region_lit ?_
 refine wp 2 [0, 4] hF fun a hF => ?_
 refine wpListIn_nil ?_
 refine hK11 _ _ ?_
 refine cond_f hF (by kernel_rfl) rfl ?_
 refine wpIn_skip ?_
 refine hK10 _ _ ?_
 refine wpIn_seq_k fun K12 hK12 => ?_
 refine wpIn_region_lit ?_
 refine wp 3 [7] hF fun a hF => ?_
 refine wc (wld hF hS 0 0 0 fun a hF => ?_)
 refine wp 1 [2] hF fun a hF => ?_
 refine wpListIn_nil ?_
 refine hK12 _ _ ?_
 refine wpIn_ret ?_
 cases H
 exact ret_done hF hS (res1 Try.results26 (rvt hF)) ⟨rfl, hS.sp [0, 1, 2] []⟩
set_option maxRecDepth 20000 in
set_option maxHeartbeats 1000000 in
theorem C_session_Session_Low (N : Nat) {Ms : List Nat} {κ0 : Gh} {w0 : World} (a1 : T_session_Session) (p2 : Option Nat) (m3 : Array MapEntry) (c4 : Nat) (p5 : Option Nat) (m6 : Array MapEntry) (c7 : Nat) (b8 : Nat) (hB : SB Ms κ0 w0 [.box b8 121 [su a1.snap, su a1.dep, sb a1.open_, (1, [.map p2]), (1, [.map p5])], .ext (objX p2 (.map m3 c4)), .ext (objX p5 (.map m6 c7))] [Map.mp kStr true f_api_Ver.ty p2 m3 c4 a1.writes, Map.mp kStr true f_api_Ver.ty p5 m6 c7 a1.cache]) {r : (Int)} (H : M.session_Session_Low N a1 = some r) :
    Calls Try.prog 27 #[pt b8 0] w0 (Post Ms κ0 w0 fun v κ w => v = vu r ∧ SS Ms κ0 w0 κ w [.box b8 121 [su a1.snap, su a1.dep, sb a1.open_, (1, [.map p2]), (1, [.map p5])], .ext (objX p2 (.map m3 c4)), .ext (objX p5 (.map m6 c7))] []) := by
 have hS := hB.hS
 have hfr := hS.fresh
 refine enter (N := (14)) (L := [(0, pt b8 0)]) Try.func27 rfl Try.ntmps27 (show 1 ≤ (14) by decide) rfl fun a hF => ?_
 unfold M.session_Session_Low at H
 refine wpIn_seq_k fun K9 hK9 => ?_
 refine wpIn_region_lit ?_
 refine wp 1 [0] hF fun a hF => ?_
 refine wpListIn_nil ?_
 refine hK9 _ _ ?_
 refine wpIn_seq_k fun K10 hK10 => ?_
 refine wpIn_seq_k fun K11 hK11 => ?_
 refine wpIn_region_lit ?_
 refine wp 2 [0, 4] hF fun a hF => ?_
 refine wpListIn_nil ?_
 refine hK11 _ _ ?_
 refine cond_f hF (by kernel_rfl) rfl ?_
 refine wpIn_skip ?_
 refine hK10 _ _ ?_
 refine wpIn_seq_k fun K12 hK12 => ?_
 refine rgS hS [] ?_
 have hS := hS.drew
 refine anp [0, 1, 2, 4, 5, 6] [7, 11] hF (hS.sx [0, 1, 2] [0, 1]) fun a hF => ?_
 refine atk 3 (some 8) hF (hS.sx [0, 1, 2] [0, 1]) rfl (vld 0 0 0) fun a hF => ?_
 refine atk 7 (some 12) hF (hS.sx [0, 1, 2] [0, 1]) rfl (vld 0 1 0) fun a hF => ?_
 refine anp [8, 9] [2] hF (hS.sx [0, 1, 2] [0, 1]) fun a hF => ?_
 refine and_ ?_
 refine hK12 _ _ ?_
 refine wpIn_ret ?_
 cases H
 exact ret_done hF hS (res1 Try.results27 (rvt hF)) ⟨rfl, hS.sp [0, 1, 2] []⟩
set_option maxRecDepth 20000 in
set_option maxHeartbeats 1000000 in
theorem C_session_Session_Open (N : Nat) {Ms : List Nat} {κ0 : Gh} {w0 : World} (a1 : T_session_Session) (p2 : Option Nat) (m3 : Array MapEntry) (c4 : Nat) (p5 : Option Nat) (m6 : Array MapEntry) (c7 : Nat) (b8 : Nat) (hB : SB Ms κ0 w0 [.box b8 121 [su a1.snap, su a1.dep, sb a1.open_, (1, [.map p2]), (1, [.map p5])], .ext (objX p2 (.map m3 c4)), .ext (objX p5 (.map m6 c7))] [Map.mp kStr true f_api_Ver.ty p2 m3 c4 a1.writes, Map.mp kStr true f_api_Ver.ty p5 m6 c7 a1.cache]) {r : (Bool)} (H : M.session_Session_Open N a1 = some r) :
    Calls Try.prog 29 #[pt b8 0] w0 (Post Ms κ0 w0 fun v κ w => v = vb r ∧ SS Ms κ0 w0 κ w [.box b8 121 [su a1.snap, su a1.dep, sb a1.open_, (1, [.map p2]), (1, [.map p5])], .ext (objX p2 (.map m3 c4)), .ext (objX p5 (.map m6 c7))] []) := by
 have hS := hB.hS
 have hfr := hS.fresh
 refine enter (N := (11)) (L := [(0, pt b8 0)]) Try.func29 rfl Try.ntmps29 (show 1 ≤ (11) by decide) rfl fun a hF => ?_
 unfold M.session_Session_Open at H
 refine wpIn_seq_k fun K9 hK9 => ?_
 refine wpIn_region_lit ?_
 refine wp 1 [0] hF fun a hF => ?_
 refine wpListIn_nil ?_
 refine hK9 _ _ ?_
 refine wpIn_seq_k fun K10 hK10 => ?_
 refine wpIn_region_lit ?_
 refine wp 6 [5, 8] hF fun a hF => ?_
 refine wcg hF (wld hF hS 0 2 0 fun a hF => ?_)
 refine wp 2 [2] hF fun a hF => ?_
 refine wpListIn_nil ?_
 refine hK10 _ _ ?_
 refine wpIn_ret ?_
 cases H
 exact ret_done hF hS (res1 Try.results29 (rvt hF)) ⟨rfl, hS.sp [0, 1, 2] []⟩
set_option maxRecDepth 20000 in
set_option maxHeartbeats 1000000 in
theorem C_session_New (N : Nat) {Ms : List Nat} {κ0 : Gh} {w0 : World}   (hB : SB Ms κ0 w0 [] []) {r : (T_session_Session)} (H : M.session_New N  = some r) :
    Calls Try.prog 21 #[] w0 (Post Ms κ0 w0 fun v κ w => ∃ (b5 : Nat) (p6 : Option Nat) (m7 : Array MapEntry) (c8 : Nat) (p9 : Option Nat) (m10 : Array MapEntry) (c11 : Nat), v = pt b5 0 ∧ SS Ms κ0 w0 κ w [.box b5 121 [su r.snap, su r.dep, sb r.open_, (1, [.map p6]), (1, [.map p9])], .ext (objX p6 (.map m7 c8)), .ext (objX p9 (.map m10 c11))] [Map.mp kStr true f_api_Ver.ty p6 m7 c8 r.writes, Map.mp kStr true f_api_Ver.ty p9 m10 c11 r.cache]) := by
 have hS := hB.hS
 have hfr := hS.fresh
 refine enter (N := (4)) (L := []) Try.func21 rfl Try.ntmps21 (show 0 ≤ (4) by decide) rfl fun a hF => ?_
 unfold M.session_New at H
 refine wpIn_seq_k fun K1 hK1 => ?_
 refine wpIn_region_lit ?_
 refine wl_pure (L' := []) 1 [] hF (by kernel_rfl) fun a hF => ?_
 refine wpListIn_nil ?_
 refine hK1 _ _ ?_
 refine wpIn_seq_k fun K2 hK2 => ?_
 refine wpIn_region_lit ?_
 refine wc (wo_makeMap hF hS (by kernel_rfl) kStr true f_api_Ver.ty rfl fun b3 a w hF hS => ?_)
 refine wp 1 [2] hF fun a hF => ?_
 have hS := hS.add (m := Map.mp kStr true f_api_Ver.ty none (#[]) 0 none) ⟨rfl, rfl⟩
 refine wc (wbx hF hS [su 0, su 0, sb false, (1, [.map none]), (1, [.map (some b3)])] (sgN 5 sgNil) fun b4 a w hF hS => ?_)
 refine wp 1 [0] hF fun a hF => ?_
 refine wpListIn_nil ?_
 refine hK2 _ _ ?_
 refine wpIn_ret ?_
 have hS := hS.addNone (.map (#[]) 0)
 cases H
 exact ret_done hF hS (res1 Try.results21 (rvt hF)) ⟨b4, none, #[], 0, (some b3), #[], 0, rfl, hS.sp [1, 0, 2] [0, 1]⟩
set_option maxRecDepth 20000 in
set_option maxHeartbeats 1000000 in
theorem C_session_Session_Close (N : Nat) {Ms : List Nat} {κ0 : Gh} {w0 : World} (a1 : T_session_Session) (p2 : Option Nat) (m3 : Array MapEntry) (c4 : Nat) (p5 : Option Nat) (m6 : Array MapEntry) (c7 : Nat) (b8 : Nat) (hB : SB Ms κ0 w0 [.box b8 121 [su a1.snap, su a1.dep, sb a1.open_, (1, [.map p2]), (1, [.map p5])], .ext (objX p2 (.map m3 c4)), .ext (objX p5 (.map m6 c7))] [Map.mp kStr true f_api_Ver.ty p2 m3 c4 a1.writes, Map.mp kStr true f_api_Ver.ty p5 m6 c7 a1.cache]) {r : (Int × T_session_Session)} (H : M.session_Session_Close N a1 = some r) :
    Calls Try.prog 34 #[pt b8 0] w0 (Post Ms κ0 w0 fun v κ w => ∃ (p17 : Option Nat) (m18 : Array MapEntry) (c19 : Nat) (p20 : Option Nat) (m21 : Array MapEntry) (c22 : Nat), v = vi r.1 ∧ SS Ms κ0 w0 κ w [.box b8 121 [su r.2.snap, su r.2.dep, sb r.2.open_, (1, [.map p17]), (1, [.map p20])], .ext (objX p17 (.map m18 c19)), .ext (objX p20 (.map m21 c22))] [Map.mp kStr true f_api_Ver.ty p17 m18 c19 r.2.writes, Map.mp kStr true f_api_Ver.ty p20 m21 c22 r.2.cache]) := by
 have hS := hB.hS
 have hfr := hS.fresh
 refine enter (N := (16)) (L := [(0, pt b8 0)]) Try.func34 rfl Try.ntmps34 (show 1 ≤ (16) by decide) rfl fun a hF => ?_
 unfold M.session_Session_Close at H
 refine wpIn_seq_k fun K9 hK9 => ?_
 refine wpIn_region_lit ?_
 refine wp 1 [0] hF fun a hF => ?_
 refine wpListIn_nil ?_
 refine hK9 _ _ ?_
 refine wpIn_seq_k fun K10 hK10 => ?_
 refine wpIn_seq_k fun K11 hK11 => ?_
 refine wpIn_region_lit ?_
 refine wp 2 [0, 4] hF fun a hF => ?_
 refine wpListIn_nil ?_
 refine hK11 _ _ ?_
 refine cond_f hF (by kernel_rfl) rfl ?_
 refine wpIn_skip ?_
 refine hK10 _ _ ?_
 refine wpIn_seq_k fun K12 hK12 => ?_
 refine wpIn_seq_k fun K13 hK13 => ?_
 refine wpIn_region_lit ?_
 refine wp 3 [0, 7] hF fun a hF => ?_
 refine wc (wld hF hS 0 2 0 fun a hF => ?_)
 refine wp 1 [0, 9] hF fun a hF => ?_
 refine wpListIn_nil ?_
 refine hK13 _ _ ?_
 refine bif_split H (fun hb H => ?_) (fun hb H => ?_)
 refine cond_t hF (by kernel_rfl) hb ?_
 refine wpIn_seq_k fun K14 hK14 => ?_
 refine wpIn_region_lit ?_
 refine wp 1 [2] hF fun a hF => ?_
 refine wpListIn_nil ?_
 refine hK14 _ _ ?_
 refine wpIn_ret ?_
 cases H
 exact ret_done hF hS (res1 Try.results34 (rvt hF)) ⟨p2, m3, c4, p5, m6, c7, rfl, hS.sp [0, 1, 2] [0, 1]⟩
 refine cond_f hF (by kernel_rfl) hb ?_
 refine wpIn_skip ?_
 refine hK12 _ _ ?_
 refine wpIn_seq_k fun K15 hK15 => ?_
 refine wpIn_region_lit ?_
 refine wp 4 [11, 13] hF fun a hF => ?_
 refine wc (wst hF hS 0 2 1 [sb false] (sgN 1 sgNil) fun a w hF hS => ?_)
 refine wp 2 [15] hF fun a hF => ?_
 have hS := hS.add (m := Map.mp kStr true f_api_Ver.ty none (#[]) 0 none) ⟨rfl, rfl⟩
 refine wc (wst hF hS 0 3 1 [(1, [.map none])] (sgN 1 sgNil) fun a w hF hS => ?_)
 refine wpListIn_nil ?_
 refine hK15 _ _ ?_
 refine wpIn_seq_k fun K16 hK16 => ?_
 refine wpIn_region_lit ?_
 refine wp 1 [2] hF fun a hF => ?_
 refine wpListIn_nil ?_
 refine hK16 _ _ ?_
 refine wpIn_ret ?_
 have hS := hS.addNone (.map (#[]) 0)
 cases H
 exact ret_done hF hS (res1 Try.results34 (rvt hF)) ⟨none, #[], 0, p5, m6, c7, rfl, hS.sp [1, 0, 3] [0, 2]⟩
set_option maxRecDepth 20000 in
set_option maxHeartbeats 1000000 in
theorem C_session_Session_Begin (N : Nat) {Ms : List Nat} {κ0 : Gh} {w0 : World} (a1 : T_session_Session) (a9 : Int) (p2 : Option Nat) (m3 : Array MapEntry) (c4 : Nat) (p5 : Option Nat) (m6 : Array MapEntry) (c7 : Nat) (b8 : Nat) (hB : SB Ms κ0 w0 [.box b8 121 [su a1.snap, su a1.dep, sb a1.open_, (1, [.map p2]), (1, [.map p5])], .ext (objX p2 (.map m3 c4)), .ext (objX p5 (.map m6 c7))] [Map.mp kStr true f_api_Ver.ty p2 m3 c4 a1.writes, Map.mp kStr true f_api_Ver.ty p5 m6 c7 a1.cache]) {r : (Int × Int × T_session_Session)} (H : M.session_Session_Begin N a1 a9 = some r) :
    Calls Try.prog 22 #[pt b8 0, vu a9] w0 (Post Ms κ0 w0 fun v κ w => ∃ (p87 : Option Nat) (m88 : Array MapEntry) (c89 : Nat) (p90 : Option Nat) (m91 : Array MapEntry) (c92 : Nat), v = .tuple #[vu r.1, vi r.2.1] ∧ SS Ms κ0 w0 κ w [.box b8 121 [su r.2.2.snap, su r.2.2.dep, sb r.2.2.open_, (1, [.map p87]), (1, [.map p90])], .ext (objX p87 (.map m88 c89)), .ext (objX p90 (.map m91 c92))] [Map.mp kStr true f_api_Ver.ty p87 m88 c89 r.2.2.writes, Map.mp kStr true f_api_Ver.ty p90 m91 c92 r.2.2.cache]) := by
 have hS := hB.hS
 have hfr := hS.fresh
 refine enter (N := (56)) (L := [(0, pt b8 0), (1, vu a9)]) Try.func22 rfl Try.ntmps22 (show 2 ≤ (56) by decide) rfl fun a hF => ?_
 unfold M.session_Session_Begin at H
 refine wpIn_seq_k fun K10 hK10 => ?_
 refine wpIn_region_lit ?_
 refine wp 2 [0, 1] hF fun a hF => ?_
 refine wpListIn_nil ?_
 refine hK10 _ _ ?_
 refine wpIn_seq_k fun K11 hK11 => ?_
 refine wpIn_seq_k fun K12 hK12 => ?_
 refine wpIn_region_lit ?_
 refine wp 2 [0, 1, 9] hF fun a hF => ?_
 refine wpListIn_nil ?_
 refine hK12 _ _ ?_
 refine cond_f hF (by kernel_rfl) rfl ?_
 refine wpIn_skip ?_
 refine hK11 _ _ ?_
 refine wpIn_seq_k fun K13 hK13 => ?_
 refine wpIn_seq_k fun K14 hK14 => ?_
 refine wpIn_region_lit ?_
 refine wp 3 [0, 1, 12] hF fun a hF => ?_
 refine wc (wld hF hS 0 2 0 fun a hF => ?_)
 refine wpListIn_nil ?_
 refine hK14 _ _ ?_
 refine bif_split H (fun hb H => ?_) (fun hb H => ?_)
 refine cond_t hF (by kernel_rfl) hb ?_
 refine wpIn_seq_k fun K15 hK15 => ?_
 refine wpIn_region_lit ?_
 refine wp 2 [4, 5] hF fun a hF => ?_
 refine wpListIn_nil ?_
 refine hK15 _ _ ?_
 refine wpIn_ret ?_
 cases H
 exact ret_done hF hS (res2 Try.results22 (rvt hF) (rvt hF)) ⟨p2, m3, c4, p5, m6, c7, rfl, hS.sp [0, 1, 2] [0, 1]⟩
 refine cond_f hF (by kernel_rfl) hb ?_
 refine wpIn_skip ?_
 refine hK13 _ _ ?_
 refine wpIn_seq_k fun K16 hK16 => ?_
 refine wpIn_region_lit ?_
 refine wl_pure (L' := [(0, pt b8 0), (1, vu a9), (14, pt b8 0), (15, pt b8 0)]) 2 [0, 1, 14, 15] hF (by kernel_rfl) fun a hF => ?_
 refine wc (wo_makeMap hF hS (by kernel_rfl) kStr true f_api_Ver.ty rfl fun b17 a w hF hS => ?_)
 refine wp 2 [0, 1, 15, 16, 18] hF fun a hF => ?_
 refine wc (wst hF hS 1 2 1 [sb true] (sgN 1 sgNil) fun a w hF hS => ?_)
 refine wp 2 [0, 1, 16, 20] hF fun a hF => ?_
 refine wc (wst hF hS 1 3 1 [(1, [.map (some b17)])] (sgN 1 sgNil) fun a w hF hS => ?_)
 refine wpListIn_nil ?_
 refine hK16 _ _ ?_
 refine wpIn_seq_k fun K18 hK18 => ?_
 refine wpIn_region_lit ?_
 refine wp 4 [0, 1, 21, 24] hF fun a hF => ?_
 refine wc (wld hF hS 1 0 0 fun a hF => ?_)
 refine wp 4 [0, 27, 29] hF fun a hF => ?_
 refine wc (wst hF hS 1 0 1 [su (if a9 > a1.snap then a9 else a1.snap)] (sgN 1 sgNil) fun a w hF hS => ?_)
 refine wpListIn_nil ?_
 refine hK18 _ _ ?_
 refine wpIn_seq_k fun K19 hK19 => ?_
 refine wpIn_seq_k fun K20 hK20 => ?_
 refine wpIn_region_lit ?_
 refine wl_pure (L' := [(0, pt b8 0), (32, pt b8 4)]) 3 [0, 32] hF (by kernel_rfl) fun a hF => ?_
 refine wc (wld hF hS 1 4 0 fun a hF => ?_)
 refine wc (wo_range (KT := 9) (E := 37) (kt := kStr) (agg := true) (t := f_api_Ver.ty) hF hS (by kernel_rfl) 3 2 rfl (by kernel_rfl) rfl rfl (by kernel_rfl) fun b21 a w hF hS => ?_)
 refine wpListIn_nil ?_
 refine hK20 _ _ ?_
 refine wpIn_block ?_
 refine loop_fuel (n := N) (fun n a w => ∃ (κ : Gh) (m72 : Array MapEntry) (y73 : Mp ByteArray T_api_Ver) (m74 : Array Nat) (y75 : List ByteArray), Fr (56) [] [(0, pt b8 0), (34, pt b21 0)] a ∧ SS Ms κ0 w0 κ w [.box b8 121 [su (if a9 > a1.snap then a9 else a1.snap), su a1.dep, sb true, (1, [.map (some b17)]), (1, [.map p5])], .ext (objX (some b17) (.map (#[]) 0)), .ext (objX p5 (.map m72 c7)), .ext (objX (some b21) (itO p5 c7 m74))] [Map.mp kStr true f_api_Ver.ty (some b17) (#[]) 0 (some []), Map.mp kStr true f_api_Ver.ty p5 m72 c7 y73, It.mp kStr m72 m74 y75] ∧ M.session_Session_Begin_L1 N n a1 a9 y73 y75 = some r) ?_ ?_
 exact ⟨_, m6, a1.cache, #[], (mKeys a1.cache), hF.kp [0, 34], hS.sp [2, 1, 4, 0] [1, 3, 0], H⟩
 rintro n a w ⟨κ, m72, y73, m74, y75, hF, hS, H⟩
 rcases n with _ | fuel1
 simp [M.session_Session_Begin_L1] at H
 simp only [M.session_Session_Begin_L1] at H
 refine wpIn_seq_k fun K76 hK76 => ?_
 refine wpIn_region_lit ?_
 refine wc (wo_next (kt := kStr) (agg := true) (t := f_api_Ver.ty) hF hS (by kernel_rfl) 2 3 1 2 rfl (by kernel_rfl) rfl rfl rfl rfl H ?_ ?_)
 intro H a hF
 refine wp 1 [0, 34, 36] hF fun a hF => ?_
 refine wpListIn_nil ?_
 refine hK76 _ _ ?_
 refine wpIn_seq_k fun K80 hK80 => ?_
 refine cond_f hF (by kernel_rfl) rfl ?_
 refine wpIn_exit ?_
 refine hK19 _ _ ?_
 refine wpIn_seq_k fun K81 hK81 => ?_
 refine wpIn_region_lit ?_
 refine wp 3 [54] hF fun a hF => ?_
 refine wc (wld hF hS 0 0 0 fun a hF => ?_)
 refine wp 2 [4, 5] hF fun a hF => ?_
 refine wpListIn_nil ?_
 refine hK81 _ _ ?_
 refine wpIn_ret ?_
 cases H
 exact ret_done hF hS (res2 Try.results22 (rvt hF) (rvt hF)) ⟨(some b17), #[], 0, p5, m72, c7, rfl, hS.sp [0, 1, 2] [0, 1]⟩
 intro x77 cs78 m79 a w H hF hS
 refine wl_pure (L' := [(0, pt b8 0), (34, pt b21 0), (36, vb true)]) 1 [0, 34, 36] hF (by kernel_rfl) fun a hF => ?_
 refine wpListIn_nil ?_
 refine hK76 _ _ ?_
 refine wpIn_seq_k fun K82 hK82 => ?_
 refine cond_t hF (by kernel_rfl) rfl ?_
 refine wpIn_skip ?_
 refine hK82 _ _ ?_
 refine wpIn_block ?_
 refine wpIn_seq_k fun K83 hK83 => ?_
 refine wpIn_region_lit ?_
 refine wc (wo_entry (kt := kStr) (agg := true) (t := f_api_Ver.ty) hF hS (by kernel_rfl) 2 3 3 0 rfl (by kernel_rfl) rfl rfl rfl rfl ?_)
 rintro _ a rfl hF
 refine wp 2 [0, 34, 38, 39] hF fun a hF => ?_
 refine wc (wal hF hS [sg ByteArray.empty, sg ByteArray.empty, sb false, su 0, si 0, si 0] (sgN 6 sgNil) fun b84 a w hF hS => ?_)
 refine wp 1 [0, 6, 7, 34, 39] hF fun a hF => ?_
 refine wc (wst hF hS 0 0 6 [sg x77.2.Key, sg x77.2.Val, sb x77.2.Gone, su x77.2.TS, si x77.2.DC, si x77.2.Tx] (sgN 6 sgNil) fun a w hF hS => ?_)
 refine wpListIn_nil ?_
 refine hK83 _ _ ?_
 refine wpIn_seq_k fun K85 hK85 => ?_
 refine rgS hS [] ?_
 have hS := hS.drew
 refine anp [0, 2, 3, 4] [0, 6, 34, 40, 44] hF (hS.sx (rg 5) (rg 5)) fun a hF => ?_
 refine atk 1 (some 41) hF (hS.sx (rg 5) (rg 5)) rfl (vld 0 3 0) fun a hF => ?_
 refine atk 5 (some 45) hF (hS.sx (rg 5) (rg 5)) rfl (vld 1 0 0) fun a hF => ?_
 refine anp [6] [0, 6, 34, 46] hF (hS.sx (rg 5) (rg 5)) fun a hF => ?_
 refine and_ ?_
 refine hK85 _ _ ?_
 refine bif_split H (fun hb H => ?_) (fun hb H => ?_)
 refine cond_t hF (by kernel_rfl) hb ?_
 refine wpIn_region_lit ?_
 refine wp 3 [0, 6, 34, 49] hF fun a hF => ?_
 refine wc (wld hF hS 1 4 0 fun a hF => ?_)
 refine wl_pure (L' := [(0, pt b8 0), (34, pt b21 0), (50, .map p5), (51, .string (x77.1))]) 1 [0, 34, 50, 51] hF (by kernel_rfl) fun a hF => ?_
 refine wc (wo_delete (KT := 9) (E := 37) (kt := kStr) (agg := true) (t := f_api_Ver.ty) hF hS (by kernel_rfl) 3 3 (k := x77.1) rfl (by kernel_rfl) (by kernel_rfl) rfl rfl (by kernel_rfl) (by kernel_rfl) fun m86 a w hsub hF hS => ?_)
 have hS := hS.add (m := It.mp kStr m86 m79 (kRem y75 x77.1)) (ItOk.sub (hS.get 2 rfl) hsub)
 refine wpListIn_nil ?_
 exact ⟨fuel1, Nat.lt_succ_self _, _, m86, (mDel y73 x77.1), m79, (kRem y75 x77.1), hF.kp [0, 34], hS.sp [1, 2, 3, 4] [4, 1, 0], H⟩
 refine cond_f hF (by kernel_rfl) hb ?_
 refine wpIn_skip ?_
 exact ⟨fuel1, Nat.lt_succ_self _, _, m72, y73, m79, (kRem y75 x77.1), hF.kp [0, 34], hS.sp [1, 2, 3, 4] [2, 3, 1], H⟩
set_option maxRecDepth 20000 in
set_option maxHeartbeats 1000000 in
theorem C_session_Session_Write (N : Nat) {Ms : List Nat} {κ0 : Gh} {w0 : World} (a1 : T_session_Session) (a9 : ByteArray) (a10 : ByteArray) (a11 : Bool) (p2 : Option Nat) (m3 : Array MapEntry) (c4 : Nat) (p5 : Option Nat) (m6 : Array MapEntry) (c7 : Nat) (b8 : Nat) (hB : SB Ms κ0 w0 [.box b8 121 [su a1.snap, su a1.dep, sb a1.open_, (1, [.map p2]), (1, [.map p5])], .ext (objX p2 (.map m3 c4)), .ext (objX p5 (.map m6 c7))] [Map.mp kStr true f_api_Ver.ty p2 m3 c4 a1.writes, Map.mp kStr true f_api_Ver.ty p5 m6 c7 a1.cache]) {r : (Int × T_session_Session)} (H : M.session_Session_Write N a1 a9 a10 a11 = some r) :
    Calls Try.prog 23 #[pt b8 0, .string (a9), .string (a10), vb a11] w0 (Post Ms κ0 w0 fun v κ w => ∃ (p41 : Option Nat) (m42 : Array MapEntry) (c43 : Nat) (p44 : Option Nat) (m45 : Array MapEntry) (c46 : Nat), v = vi r.1 ∧ SS Ms κ0 w0 κ w [.box b8 121 [su r.2.snap, su r.2.dep, sb r.2.open_, (1, [.map p41]), (1, [.map p44])], .ext (objX p41 (.map m42 c43)), .ext (objX p44 (.map m45 c46))] [Map.mp kStr true f_api_Ver.ty p41 m42 c43 r.2.writes, Map.mp kStr true f_api_Ver.ty p44 m45 c46 r.2.cache]) := by
 have hS := hB.hS
 have hfr := hS.fresh
 refine enter (N := (63)) (L := [(0, pt b8 0), (1, .string (a9)), (2, .string (a10)), (3, vb a11)]) Try.func23 rfl Try.ntmps23 (show 4 ≤ (63) by decide) rfl fun a hF => ?_
 unfold M.session_Session_Write at H
 refine wpIn_seq_k fun K12 hK12 => ?_
 refine wpIn_region_lit ?_
 refine wp 1 (rg 4) hF fun a hF => ?_
 refine wpListIn_nil ?_
 refine hK12 _ _ ?_
 refine wpIn_seq_k fun K13 hK13 => ?_
 refine wpIn_seq_k fun K14 hK14 => ?_
 refine wpIn_region_lit ?_
 refine wp 2 [0, 1, 2, 3, 12] hF fun a hF => ?_
 refine wpListIn_nil ?_
 refine hK14 _ _ ?_
 refine cond_f hF (by kernel_rfl) rfl ?_
 refine wpIn_skip ?_
 refine hK13 _ _ ?_
 refine wpIn_seq_k fun K15 hK15 => ?_
 refine wpIn_seq_k fun K16 hK16 => ?_
 refine wpIn_region_lit ?_
 refine wp 3 [0, 1, 2, 3, 15] hF fun a hF => ?_
 refine wc (wld hF hS 0 2 0 fun a hF => ?_)
 refine wp 1 [0, 1, 2, 3, 17] hF fun a hF => ?_
 refine wpListIn_nil ?_
 refine hK16 _ _ ?_
 refine bif_split H (fun hb H => ?_) (fun hb H => ?_)
 refine cond_t hF (by kernel_rfl) hb ?_
 refine wpIn_seq_k fun K17 hK17 => ?_
 refine wpIn_region_lit ?_
 refine wp 1 [8] hF fun a hF => ?_
 refine wpListIn_nil ?_
 refine hK17 _ _ ?_
 refine wpIn_ret ?_
 cases H
 exact ret_done hF hS (res1 Try.results23 (rvt hF)) ⟨p2, m3, c4, p5, m6, c7, rfl, hS.sp [0, 1, 2] [0, 1]⟩
 refine cond_f hF (by kernel_rfl) hb ?_
 refine wpIn_skip ?_
 refine hK15 _ _ ?_
 refine wpIn_seq_k fun K18 hK18 => ?_
 refine wpIn_seq_k fun K19 hK19 => ?_
 refine wpIn_region_lit ?_
 refine bind_split H (fun v21 hv21 H => ?_)
 refine wl_join (fun a w => ∃ κ : Gh, Fr (63) [] [(0, pt b8 0), (1, .string (a9)), (2, .string (a10)), (3, vb a11), (25, vb v21)] a ∧ SS Ms κ0 w0 κ w [.box b8 121 [su a1.snap, su a1.dep, sb a1.open_, (1, [.map p2]), (1, [.map p5])], .ext (objX p2 (.map m3 c4)), .ext (objX p5 (.map m6 c7))] [Map.mp kStr true f_api_Ver.ty p2 m3 c4 a1.writes, Map.mp kStr true f_api_Ver.ty p5 m6 c7 a1.cache] ∧ True) ?_ ?_
 refine wp 4 [0, 1, 2, 3, 21] hF fun a hF => ?_
 refine bif_split hv21 (fun hb hv21 => ?_) (fun hb hv21 => ?_)
 have hF := hF.boolv 21 (by kernel_rfl) hb
 refine wp 4 [0, 1, 2, 3, 25] hF fun a hF => ?_
 refine wpListIn_nil ?_
 cases hv21
 exact ⟨_, hF.kp [0, 1, 2, 3, 25], hS.sp [0, 1, 2] [0, 1], trivial⟩
 have hF := hF.boolv 21 (by kernel_rfl) hb
 refine wp 4 [0, 1, 2, 3, 25] hF fun a hF => ?_
 refine wpListIn_nil ?_
 cases hv21
 exact ⟨_, hF.kp [0, 1, 2, 3, 25], hS.sp [0, 1, 2] [0, 1], trivial⟩
 rintro a w ⟨κ, hF, hS, -⟩
 refine hK19 _ _ ?_
 refine bif_split H (fun hb H => ?_) (fun hb H => ?_)
 refine cond_t hF (by kernel_rfl) hb ?_
 refine wpIn_seq_k fun K22 hK22 => ?_
 refine wpIn_region_lit ?_
 refine wp 1 [8] hF fun a hF => ?_
 refine wpListIn_nil ?_
 refine hK22 _ _ ?_
 refine wpIn_ret ?_
 cases H
 exact ret_done hF hS (res1 Try.results23 (rvt hF)) ⟨p2, m3, c4, p5, m6, c7, rfl, hS.sp [0, 1, 2] [0, 1]⟩
 refine cond_f hF (by kernel_rfl) hb ?_
 refine wpIn_skip ?_
 refine hK18 _ _ ?_
 refine wpIn_seq_k fun K23 hK23 => ?_
 refine wpIn_seq_k fun K24 hK24 => ?_
 refine wpIn_region_lit ?_
 refine bind_split H (fun v26 hv26 H => ?_)
 refine wl_join (fun a w => ∃ κ : Gh, Fr (63) [] [(0, pt b8 0), (1, .string (a9)), (2, .string (a10)), (3, vb a11), (34, vb v26)] a ∧ SS Ms κ0 w0 κ w [.box b8 121 [su a1.snap, su a1.dep, sb a1.open_, (1, [.map p2]), (1, [.map p5])], .ext (objX p2 (.map m3 c4)), .ext (objX p5 (.map m6 c7))] [Map.mp kStr true f_api_Ver.ty p2 m3 c4 a1.writes, Map.mp kStr true f_api_Ver.ty p5 m6 c7 a1.cache] ∧ True) ?_ ?_
 refine wp 3 [0, 1, 2, 3, 28] hF fun a hF => ?_
 refine bif_split hv26 (fun hb hv26 => ?_) (fun hb hv26 => ?_)
 have hF := hF.boolv 28 (by kernel_rfl) hb
 refine wp 6 [0, 1, 2, 3, 34] hF fun a hF => ?_
 refine wpListIn_nil ?_
 cases hv26
 exact ⟨_, hF.kp [0, 1, 2, 3, 34], hS.sp [0, 1, 2] [0, 1], trivial⟩
 have hF := hF.boolv 28 (by kernel_rfl) hb
 refine wp 2 [0, 1, 2, 3, 28, 30] hF fun a hF => ?_
 refine bif_split hv26 (fun hb hv26 => ?_) (fun hb hv26 => ?_)
 have hF := hF.boolv 30 (by kernel_rfl) hb
 refine wp 4 [0, 1, 2, 3, 34] hF fun a hF => ?_
 refine wpListIn_nil ?_
 cases hv26
 exact ⟨_, hF.kp [0, 1, 2, 3, 34], hS.sp [0, 1, 2] [0, 1], trivial⟩
 have hF := hF.boolv 30 (by kernel_rfl) hb
 refine wp 4 [0, 1, 2, 3, 34] hF fun a hF => ?_
 refine wpListIn_nil ?_
 cases hv26
 exact ⟨_, hF.kp [0, 1, 2, 3, 34], hS.sp [0, 1, 2] [0, 1], trivial⟩
 rintro a w ⟨κ, hF, hS, -⟩
 refine hK24 _ _ ?_
 refine bif_split H (fun hb H => ?_) (fun hb H => ?_)
 refine cond_t hF (by kernel_rfl) hb ?_
 refine wpIn_seq_k fun K27 hK27 => ?_
 refine wpIn_region_lit ?_
 refine wp 1 [8] hF fun a hF => ?_
 refine wpListIn_nil ?_
 refine hK27 _ _ ?_
 refine wpIn_ret ?_
 cases H
 exact ret_done hF hS (res1 Try.results23 (rvt hF)) ⟨p2, m3, c4, p5, m6, c7, rfl, hS.sp [0, 1, 2] [0, 1]⟩
 refine cond_f hF (by kernel_rfl) hb ?_
 refine wpIn_skip ?_
 refine hK23 _ _ ?_
 refine wpIn_seq_k fun K28 hK28 => ?_
 refine wpIn_seq_k fun K29 hK29 => ?_
 refine wpIn_region_lit ?_
 refine wp 3 [0, 1, 2, 3, 38] hF fun a hF => ?_
 refine wc (wld hF hS 0 3 0 fun a hF => ?_)
 refine wl_pure (L' := [(0, pt b8 0), (1, .string (a9)), (2, .string (a10)), (3, vb a11), (39, .map p2), (40, .string (a9))]) 1 [0, 1, 2, 3, 39, 40] hF (by kernel_rfl) fun a hF => ?_
 refine bind_split H (fun x30 hx30 H => ?_)
 refine wc (wo_lookup (KT := 9) (E := 37) (kt := kStr) (agg := true) (t := f_api_Ver.ty) hF hS (by kernel_rfl) 1 0 (k := a9) (zc := flat [sg ByteArray.empty, sg ByteArray.empty, sb false, su 0, si 0, si 0]) (zm := (T_api_Ver.mk ByteArray.empty ByteArray.empty false 0 0 0)) rfl (by kernel_rfl) (by kernel_rfl) rfl rfl hx30 (by kernel_rfl) (by kernel_rfl) (by kernel_rfl) (fun _ _ => rfl) ?_)
 rintro _ a rfl hF
 refine wp 3 [0, 1, 2, 3, 42, 43] hF fun a hF => ?_
 refine wc (wal hF hS [sg ByteArray.empty, sg ByteArray.empty, sb false, su 0, si 0, si 0] (sgN 6 sgNil) fun b31 a w hF hS => ?_)
 refine wc (wst hF hS 0 0 6 [sg x30.1.Key, sg x30.1.Val, sb x30.1.Gone, su x30.1.TS, si x30.1.DC, si x30.1.Tx] (sgN 6 sgNil) fun a w hF hS => ?_)
 refine wp 1 [0, 1, 2, 3, 10] hF fun a hF => ?_
 refine wpListIn_nil ?_
 refine hK29 _ _ ?_
 refine wpIn_seq_k fun K32 hK32 => ?_
 refine wpIn_region_lit ?_
 refine bind_split H (fun v34 hv34 H => ?_)
 refine wl_join (fun a w => ∃ κ : Gh, Fr (63) [] [(0, pt b8 0), (1, .string (a9)), (2, .string (a10)), (3, vb a11), (53, vb v34)] a ∧ SS Ms κ0 w0 κ w [.box b8 121 [su a1.snap, su a1.dep, sb a1.open_, (1, [.map p2]), (1, [.map p5])], .ext (objX p2 (.map m3 c4)), .ext (objX p5 (.map m6 c7))] [Map.mp kStr true f_api_Ver.ty p2 m3 c4 a1.writes, Map.mp kStr true f_api_Ver.ty p5 m6 c7 a1.cache] ∧ True) ?_ ?_
 refine wp 3 [0, 1, 2, 3, 46] hF fun a hF => ?_
 refine bif_split hv34 (fun hb hv34 => ?_) (fun hb hv34 => ?_)
 have hF := hF.boolv 46 (by kernel_rfl) hb
 refine wl_pure (L' := [(0, pt b8 0), (1, .string (a9)), (2, .string (a10)), (3, vb a11), (46, vb true), (49, pt b8 3)]) 3 [0, 1, 2, 3, 46, 49] hF (by kernel_rfl) fun a hF => ?_
 refine wcg hF (wld hF hS 1 3 0 fun a hF => ?_)
 refine wcg hF (wo_lenMap (KT := 9) (E := 37) (kt := kStr) (agg := true) (t := f_api_Ver.ty) hF hS (by kernel_rfl) 2 0 rfl (by kernel_rfl) rfl rfl (by kernel_rfl) fun a hF => ?_)
 refine wp 2 [0, 1, 2, 3, 53] hF fun a hF => ?_
 refine wpListIn_nil ?_
 cases hv34
 exact ⟨_, hF.kp [0, 1, 2, 3, 53], hS.sp [1, 2, 3] [0, 1], trivial⟩
 have hF := hF.boolv 46 (by kernel_rfl) hb
 refine wp 7 [0, 1, 2, 3, 53] hF fun a hF => ?_
 refine wpListIn_nil ?_
 cases hv34
 exact ⟨_, hF.kp [0, 1, 2, 3, 53], hS.sp [1, 2, 3] [0, 1], trivial⟩
 rintro a w ⟨κ, hF, hS, -⟩
 refine hK32 _ _ ?_
 refine bif_split H (fun hb H => ?_) (fun hb H => ?_)
 refine cond_t hF (by kernel_rfl) hb ?_
 refine wpIn_seq_k fun K35 hK35 => ?_
 refine wpIn_region_lit ?_
 refine wp 1 [8] hF fun a hF => ?_
 refine wpListIn_nil ?_
 refine hK35 _ _ ?_
 refine wpIn_ret ?_
 cases H
 exact ret_done hF hS (res1 Try.results23 (rvt hF)) ⟨p2, m3, c4, p5, m6, c7, rfl, hS.sp [0, 1, 2] [0, 1]⟩
 refine cond_f hF (by kernel_rfl) hb ?_
 refine wpIn_skip ?_
 refine hK28 _ _ ?_
 refine wpIn_seq_k fun K36 hK36 => ?_
 refine wpIn_region_lit ?_
 refine wp 3 [1, 2, 3, 56] hF fun a hF => ?_
 refine wc (wld hF hS 0 3 0 fun a hF => ?_)
 refine wl_pure (L' := [(57, .map p2), (58, .string (a9)), (62, .agg (flat [sg a9, sg a10, sb a11, su 0, si 0, si 0]).toArray)]) 5 [57, 58, 62] hF (by kernel_rfl) fun a hF => ?_
 refine bind_split H (fun x37 hx37 H => ?_)
 refine wc (wo_mapUpdate (KT := 9) (E := 37) (kt := kStr) (agg := true) (t := f_api_Ver.ty) hF hS (by kernel_rfl) 1 0 (k := a9) (v := (T_api_Ver.mk a9 a10 a11 0 0 0)) (cs := flat [sg a9, sg a10, sb a11, su 0, si 0, si 0]) rfl (by kernel_rfl) (by kernel_rfl) (by kernel_rfl) rfl rfl rfl hx37 (by kernel_rfl) (by kernel_rfl) fun m38 c39 a w hF hS => ?_)
 refine wpListIn_nil ?_
 refine hK36 _ _ ?_
 refine wpIn_seq_k fun K40 hK40 => ?_
 refine wpIn_region_lit ?_
 refine wp 1 [8] hF fun a hF => ?_
 refine wpListIn_nil ?_
 refine hK40 _ _ ?_
 refine wpIn_ret ?_
 cases H
 exact ret_done hF hS (res1 Try.results23 (rvt hF)) ⟨p2, m38, c39, p5, m6, c7, rfl, hS.sp [0, 1, 2] [0, 2]⟩
set_option maxRecDepth 20000 in
set_option maxHeartbeats 1000000 in
theorem C_session_Session_Look (N : Nat) {Ms : List Nat} {κ0 : Gh} {w0 : World} (a1 : T_session_Session) (a9 : ByteArray) (p2 : Option Nat) (m3 : Array MapEntry) (c4 : Nat) (p5 : Option Nat) (m6 : Array MapEntry) (c7 : Nat) (b8 : Nat) (hB : SB Ms κ0 w0 [.box b8 121 [su a1.snap, su a1.dep, sb a1.open_, (1, [.map p2]), (1, [.map p5])], .ext (objX p2 (.map m3 c4)), .ext (objX p5 (.map m6 c7))] [Map.mp kStr true f_api_Ver.ty p2 m3 c4 a1.writes, Map.mp kStr true f_api_Ver.ty p5 m6 c7 a1.cache]) {r : (T_api_Ver × Int)} (H : M.session_Session_Look N a1 a9 = some r) :
    Calls Try.prog 36 #[pt b8 0, .string (a9)] w0 (Post Ms κ0 w0 fun v κ w => v = .tuple #[.agg (flat [sg r.1.Key, sg r.1.Val, sb r.1.Gone, su r.1.TS, si r.1.DC, si r.1.Tx]).toArray, vi r.2] ∧ SS Ms κ0 w0 κ w [.box b8 121 [su a1.snap, su a1.dep, sb a1.open_, (1, [.map p2]), (1, [.map p5])], .ext (objX p2 (.map m3 c4)), .ext (objX p5 (.map m6 c7))] []) := by
 have hS := hB.hS
 have hfr := hS.fresh
 refine enter (N := (43)) (L := [(0, pt b8 0), (1, .string (a9))]) Try.func36 rfl Try.ntmps36 (show 2 ≤ (43) by decide) rfl fun a hF => ?_
 unfold M.session_Session_Look at H
 refine wpIn_seq_k fun K10 hK10 => ?_
 refine wpIn_region_lit ?_
 refine wc (wal hF hS [sg ByteArray.empty, sg ByteArray.empty, sb false, su 0, si 0, si 0] (sgN 6 sgNil) fun b11 a w hF hS => ?_)
 refine wp 1 [0, 1, 4] hF fun a hF => ?_
 refine wpListIn_nil ?_
 refine hK10 _ _ ?_
 refine wpIn_seq_k fun K12 hK12 => ?_
 refine wpIn_seq_k fun K13 hK13 => ?_
 refine wpIn_region_lit ?_
 refine wp 6 [0, 1, 4, 12, 15] hF fun a hF => ?_
 refine wcg hF (wld hF hS 1 2 0 fun a hF => ?_)
 refine wp 2 [0, 1, 4, 18] hF fun a hF => ?_
 refine wpListIn_nil ?_
 refine hK13 _ _ ?_
 refine bif_split H (fun hb H => ?_) (fun hb H => ?_)
 refine cond_t hF (by kernel_rfl) hb ?_
 refine wpIn_seq_k fun K14 hK14 => ?_
 refine wpIn_region_lit ?_
 refine wp 1 [4, 19] hF fun a hF => ?_
 refine wc (wst hF hS 0 0 6 [sg ByteArray.empty, sg ByteArray.empty, sb false, su 0, si 0, si 0] (sgN 6 sgNil) fun a w hF hS => ?_)
 refine wp 1 [4, 5] hF fun a hF => ?_
 refine wpListIn_nil ?_
 refine hK14 _ _ ?_
 refine wpIn_ret ?_
 have hS' := hS
 cases H
 exact ret_done hF hS (res2 Try.results36 (rvs hF hS' 0 0 6) (rvt hF)) ⟨rfl, hS.sp [1, 2, 3] []⟩
 refine cond_f hF (by kernel_rfl) hb ?_
 refine wpIn_skip ?_
 refine hK12 _ _ ?_
 refine wpIn_seq_k fun K15 hK15 => ?_
 refine wpIn_seq_k fun K16 hK16 => ?_
 refine wpIn_region_lit ?_
 refine wp 3 [0, 1, 4, 23] hF fun a hF => ?_
 refine wc (wld hF hS 1 3 0 fun a hF => ?_)
 refine wl_pure (L' := [(0, pt b8 0), (1, .string (a9)), (4, pt b11 0), (24, .map p2), (25, .string (a9))]) 1 [0, 1, 4, 24, 25] hF (by kernel_rfl) fun a hF => ?_
 refine bind_split H (fun x17 hx17 H => ?_)
 refine wc (wo_lookup (KT := 9) (E := 37) (kt := kStr) (agg := true) (t := f_api_Ver.ty) hF hS (by kernel_rfl) 2 0 (k := a9) (zc := flat [sg ByteArray.empty, sg ByteArray.empty, sb false, su 0, si 0, si 0]) (zm := (T_api_Ver.mk ByteArray.empty ByteArray.empty false 0 0 0)) rfl (by kernel_rfl) (by kernel_rfl) rfl rfl hx17 (by kernel_rfl) (by kernel_rfl) (by kernel_rfl) (fun _ _ => rfl) ?_)
 rintro _ a rfl hF
 refine wp 3 [0, 1, 4, 27, 28] hF fun a hF => ?_
 refine wc (wal hF hS [sg ByteArray.empty, sg ByteArray.empty, sb false, su 0, si 0, si 0] (sgN 6 sgNil) fun b18 a w hF hS => ?_)
 refine wc (wst hF hS 0 0 6 [sg x17.1.Key, sg x17.1.Val, sb x17.1.Gone, su x17.1.TS, si x17.1.DC, si x17.1.Tx] (sgN 6 sgNil) fun a w hF hS => ?_)
 refine wp 1 [0, 1, 4, 6, 7] hF fun a hF => ?_
 refine wpListIn_nil ?_
 refine hK16 _ _ ?_
 refine wpIn_seq_k fun K19 hK19 => ?_
 refine wpIn_region_lit ?_
 refine wp 1 [0, 1, 4, 6, 29] hF fun a hF => ?_
 refine wpListIn_nil ?_
 refine hK19 _ _ ?_
 refine bif_split H (fun hb H => ?_) (fun hb H => ?_)
 refine cond_t hF (by kernel_rfl) hb ?_
 refine wpIn_seq_k fun K20 hK20 => ?_
 refine wpIn_region_lit ?_
 refine wc (wls hF hS 0 0 6 fun a hF => ?_)
 refine wc (wst hF hS 1 0 6 [sg x17.1.Key, sg x17.1.Val, sb x17.1.Gone, su x17.1.TS, si x17.1.DC, si x17.1.Tx] (sgN 6 sgNil) fun a w hF hS => ?_)
 refine wp 1 [4, 5] hF fun a hF => ?_
 refine wpListIn_nil ?_
 refine hK20 _ _ ?_
 refine wpIn_ret ?_
 have hS' := hS
 cases H
 exact ret_done hF hS (res2 Try.results36 (rvs hF hS' 1 0 6) (rvt hF)) ⟨rfl, hS.sp [2, 3, 4] []⟩
 refine cond_f hF (by kernel_rfl) hb ?_
 refine wpIn_skip ?_
 refine hK15 _ _ ?_
 refine wpIn_seq_k fun K21 hK21 => ?_
 refine wpIn_seq_k fun K22 hK22 => ?_
 refine wpIn_region_lit ?_
 refine wp 3 [1, 4, 34] hF fun a hF => ?_
 refine wc (wld hF hS 2 4 0 fun a hF => ?_)
 refine wl_pure (L' := [(4, pt b11 0), (35, .map p5), (36, .string (a9))]) 1 [4, 35, 36] hF (by kernel_rfl) fun a hF => ?_
 refine bind_split H (fun x23 hx23 H => ?_)
 refine wc (wo_lookup (KT := 9) (E := 37) (kt := kStr) (agg := true) (t := f_api_Ver.ty) hF hS (by kernel_rfl) 4 1 (k := a9) (zc := flat [sg ByteArray.empty, sg ByteArray.empty, sb false, su 0, si 0, si 0]) (zm := (T_api_Ver.mk ByteArray.empty ByteArray.empty false 0 0 0)) rfl (by kernel_rfl) (by kernel_rfl) rfl rfl hx23 (by kernel_rfl) (by kernel_rfl) (by kernel_rfl) (fun _ _ => rfl) ?_)
 rintro _ a rfl hF
 refine wp 3 [4, 38, 39] hF fun a hF => ?_
 refine wc (wal hF hS [sg ByteArray.empty, sg ByteArray.empty, sb false, su 0, si 0, si 0] (sgN 6 sgNil) fun b24 a w hF hS => ?_)
 refine wc (wst hF hS 0 0 6 [sg x23.1.Key, sg x23.1.Val, sb x23.1.Gone, su x23.1.TS, si x23.1.DC, si x23.1.Tx] (sgN 6 sgNil) fun a w hF hS => ?_)
 refine wp 1 [4, 8, 9] hF fun a hF => ?_
 refine wpListIn_nil ?_
 refine hK22 _ _ ?_
 refine wpIn_seq_k fun K25 hK25 => ?_
 refine wpIn_region_lit ?_
 refine wp 1 [4, 8, 40] hF fun a hF => ?_
 refine wpListIn_nil ?_
 refine hK25 _ _ ?_
 refine bif_split H (fun hb H => ?_) (fun hb H => ?_)
 refine cond_t hF (by kernel_rfl) hb ?_
 refine wpIn_seq_k fun K26 hK26 => ?_
 refine wpIn_region_lit ?_
 refine wc (wls hF hS 0 0 6 fun a hF => ?_)
 refine wc (wst hF hS 2 0 6 [sg x23.1.Key, sg x23.1.Val, sb x23.1.Gone, su x23.1.TS, si x23.1.DC, si x23.1.Tx] (sgN 6 sgNil) fun a w hF hS => ?_)
 refine wp 1 [4, 5] hF fun a hF => ?_
 refine wpListIn_nil ?_
 refine hK26 _ _ ?_
 refine wpIn_ret ?_
 have hS' := hS
 cases H
 exact ret_done hF hS (res2 Try.results36 (rvs hF hS' 2 0 6) (rvt hF)) ⟨rfl, hS.sp [3, 4, 5] []⟩
 refine cond_f hF (by kernel_rfl) hb ?_
 refine wpIn_skip ?_
 refine hK21 _ _ ?_
 refine wpIn_seq_k fun K27 hK27 => ?_
 refine wpIn_region_lit ?_
 refine wp 1 [4, 42] hF fun a hF => ?_
 refine wc (wst hF hS 2 0 6 [sg ByteArray.empty, sg ByteArray.empty, sb false, su 0, si 0, si 0] (sgN 6 sgNil) fun a w hF hS => ?_)
 refine wp 1 [4, 5] hF fun a hF => ?_
 refine wpListIn_nil ?_
 refine hK27 _ _ ?_
 refine wpIn_ret ?_
 have hS' := hS
 cases H
 exact ret_done hF hS (res2 Try.results36 (rvs hF hS' 2 0 6) (rvt hF)) ⟨rfl, hS.sp [3, 4, 5] []⟩
set_option maxRecDepth 20000 in
set_option maxHeartbeats 1000000 in
theorem C_session_Session_Commit (N : Nat) {Ms : List Nat} {κ0 : Gh} {w0 : World} (a1 : T_session_Session) (a9 : T_api_Mark) (p2 : Option Nat) (m3 : Array MapEntry) (c4 : Nat) (p5 : Option Nat) (m6 : Array MapEntry) (c7 : Nat) (b8 : Nat) (hB : SB Ms κ0 w0 [.box b8 121 [su a1.snap, su a1.dep, sb a1.open_, (1, [.map p2]), (1, [.map p5])], .ext (objX p2 (.map m3 c4)), .ext (objX p5 (.map m6 c7))] [Map.mp kStr true f_api_Ver.ty p2 m3 c4 a1.writes, Map.mp kStr true f_api_Ver.ty p5 m6 c7 a1.cache]) {r : (Int × T_session_Session)} (H : M.session_Session_Commit N a1 a9 = some r) :
    Calls Try.prog 32 #[pt b8 0, .agg (flat [su a9.TS, si a9.DC, si a9.Tx]).toArray] w0 (Post Ms κ0 w0 fun v κ w => ∃ (p94 : Option Nat) (m95 : Array MapEntry) (c96 : Nat) (p97 : Option Nat) (m98 : Array MapEntry) (c99 : Nat), v = vi r.1 ∧ SS Ms κ0 w0 κ w [.box b8 121 [su r.2.snap, su r.2.dep, sb r.2.open_, (1, [.map p94]), (1, [.map p97])], .ext (objX p94 (.map m95 c96)), .ext (objX p97 (.map m98 c99))] [Map.mp kStr true f_api_Ver.ty p94 m95 c96 r.2.writes, Map.mp kStr true f_api_Ver.ty p97 m98 c99 r.2.cache]) := by
 have hS := hB.hS
 have hfr := hS.fresh
 refine enter (N := (55)) (L := [(0, pt b8 0), (1, .agg (flat [su a9.TS, si a9.DC, si a9.Tx]).toArray)]) Try.func32 rfl Try.ntmps32 (show 2 ≤ (55) by decide) rfl fun a hF => ?_
 unfold M.session_Session_Commit at H
 refine wpIn_seq_k fun K10 hK10 => ?_
 refine wpIn_region_lit ?_
 refine wc (wbx hF hS [su a9.TS, si a9.DC, si a9.Tx] (sgN 3 sgNil) fun b11 a w hF hS => ?_)
 refine wp 1 [0, 3] hF fun a hF => ?_
 refine wpListIn_nil ?_
 refine hK10 _ _ ?_
 refine wpIn_seq_k fun K12 hK12 => ?_
 refine wpIn_seq_k fun K13 hK13 => ?_
 refine wpIn_region_lit ?_
 refine wp 2 [0, 3, 8] hF fun a hF => ?_
 refine wpListIn_nil ?_
 refine hK13 _ _ ?_
 refine cond_f hF (by kernel_rfl) rfl ?_
 refine wpIn_skip ?_
 refine hK12 _ _ ?_
 refine wpIn_seq_k fun K14 hK14 => ?_
 refine wpIn_seq_k fun K15 hK15 => ?_
 refine wpIn_region_lit ?_
 refine wp 3 [0, 3, 11] hF fun a hF => ?_
 refine wc (wld hF hS 1 2 0 fun a hF => ?_)
 refine wp 1 [0, 3, 13] hF fun a hF => ?_
 refine wpListIn_nil ?_
 refine hK15 _ _ ?_
 refine bif_split H (fun hb H => ?_) (fun hb H => ?_)
 refine cond_t hF (by kernel_rfl) hb ?_
 refine wpIn_seq_k fun K16 hK16 => ?_
 refine wpIn_region_lit ?_
 refine wp 1 [4] hF fun a hF => ?_
 refine wpListIn_nil ?_
 refine hK16 _ _ ?_
 refine wpIn_ret ?_
 cases H
 exact ret_done hF hS (res1 Try.results32 (rvt hF)) ⟨p2, m3, c4, p5, m6, c7, rfl, hS.sp [1, 2, 3] [0, 1]⟩
 refine cond_f hF (by kernel_rfl) hb ?_
 refine wpIn_skip ?_
 refine hK14 _ _ ?_
 refine wpIn_seq_k fun K17 hK17 => ?_
 refine wpIn_seq_k fun K18 hK18 => ?_
 refine rgS hS [] ?_
 have hS := hS.drew
 refine anp [0, 2] [0, 3, 14, 16] hF (hS.sx (rg 4) [0, 1]) fun a hF => ?_
 refine atk 1 (some 15) hF (hS.sx (rg 4) [0, 1]) rfl (vld 0 0 0) fun a hF => ?_
 refine ago 3 hF rfl ?_
 refine bind_split H (fun x19 hx19 H => ?_)
 refine wcS 3 [1, 2, 3, 0] hF hS (fun hS => C_session_Session_Low N (T_session_Session.mk a1.snap a1.dep a1.open_ a1.writes a1.cache) p2 m3 c4 p5 m6 c7 b8 ⟨rfl, hS.pick [0, 1] (by kernel_rfl)⟩ hx19) ?_
 rintro _ κ w a ⟨rfl, h2⟩ hF hB
 have hS := hB _ _ h2
 refine ⟨fun _ => (hS.sx [3, 0, 1, 2] [0, 1]), ?_⟩
 refine anp [4] [0, 3, 18] hF (hS.sx [3, 0, 1, 2] [0, 1]) fun a hF => ?_
 refine and_ ?_
 refine hK18 _ _ ?_
 refine bif_split H (fun hb H => ?_) (fun hb H => ?_)
 refine cond_t hF (by kernel_rfl) hb ?_
 refine wpIn_seq_k fun K20 hK20 => ?_
 refine wpIn_region_lit ?_
 refine wp 1 [4] hF fun a hF => ?_
 refine wpListIn_nil ?_
 refine hK20 _ _ ?_
 refine wpIn_ret ?_
 cases H
 exact ret_done hF hS (res1 Try.results32 (rvt hF)) ⟨p2, m3, c4, p5, m6, c7, rfl, hS.sp [0, 1, 2] [0, 1]⟩
 refine cond_f hF (by kernel_rfl) hb ?_
 refine wpIn_skip ?_
 refine hK17 _ _ ?_
 refine wpIn_seq_k fun K21 hK21 => ?_
 refine wpIn_seq_k fun K22 hK22 => ?_
 refine wpIn_region_lit ?_
 refine wl_pure (L' := [(0, pt b8 0), (3, pt b11 0), (21, pt b8 3)]) 3 [0, 3, 21] hF (by kernel_rfl) fun a hF => ?_
 refine wc (wld hF hS 0 3 0 fun a hF => ?_)
 refine wc (wo_range (KT := 9) (E := 37) (kt := kStr) (agg := true) (t := f_api_Ver.ty) hF hS (by kernel_rfl) 1 0 rfl (by kernel_rfl) rfl rfl (by kernel_rfl) fun b23 a w hF hS => ?_)
 refine wpListIn_nil ?_
 refine hK22 _ _ ?_
 refine wpIn_block ?_
 refine loop_fuel (n := N) (fun n a w => ∃ (κ : Gh) (m74 : Array MapEntry) (c75 : Nat) (y76 : Mp ByteArray T_api_Ver) (m77 : Array Nat) (y78 : List ByteArray), Fr (55) [] [(0, pt b8 0), (3, pt b11 0), (23, pt b23 0)] a ∧ SS Ms κ0 w0 κ w [.box b8 121 [su a1.snap, su a1.dep, sb a1.open_, (1, [.map p2]), (1, [.map p5])], .box b11 32 [su a9.TS, si a9.DC, si a9.Tx], .ext (objX p2 (.map m3 c4)), .ext (objX p5 (.map m74 c75)), .ext (objX (some b23) (itO p2 c4 m77))] [Map.mp kStr true f_api_Ver.ty p2 m3 c4 a1.writes, Map.mp kStr true f_api_Ver.ty p5 m74 c75 y76, It.mp kStr m3 m77 y78] ∧ M.session_Session_Commit_L1 N n a1 a9 y76 y78 = some r) ?_ ?_
 exact ⟨_, m6, c7, a1.cache, #[], (mKeys a1.writes), hF.kp [0, 3, 23], hS.sp [1, 4, 2, 3, 0] [1, 2, 0], H⟩
 rintro n a w ⟨κ, m74, c75, y76, m77, y78, hF, hS, H⟩
 rcases n with _ | fuel1
 simp [M.session_Session_Commit_L1] at H
 simp only [M.session_Session_Commit_L1] at H
 refine wpIn_seq_k fun K79 hK79 => ?_
 refine wpIn_region_lit ?_
 refine wc (wo_next (kt := kStr) (agg := true) (t := f_api_Ver.ty) hF hS (by kernel_rfl) 2 4 0 2 rfl (by kernel_rfl) rfl rfl rfl rfl H ?_ ?_)
 intro H a hF
 refine wp 1 [0, 3, 23, 25] hF fun a hF => ?_
 refine wpListIn_nil ?_
 refine hK79 _ _ ?_
 refine wpIn_seq_k fun K83 hK83 => ?_
 refine cond_f hF (by kernel_rfl) rfl ?_
 refine wpIn_exit ?_
 refine hK21 _ _ ?_
 refine wpIn_seq_k fun K84 hK84 => ?_
 refine wpIn_region_lit ?_
 refine wp 2 [0, 44, 45] hF fun a hF => ?_
 refine wc (wld hF hS 1 0 0 fun a hF => ?_)
 refine wp 2 [0, 46, 48] hF fun a hF => ?_
 refine wc (wst hF hS 0 1 1 [su a9.TS] (sgN 1 sgNil) fun a w hF hS => ?_)
 refine wpListIn_nil ?_
 refine hK84 _ _ ?_
 refine wpIn_seq_k fun K85 hK85 => ?_
 refine wpIn_region_lit ?_
 refine wp 4 [50, 52] hF fun a hF => ?_
 refine wc (wst hF hS 0 2 1 [sb false] (sgN 1 sgNil) fun a w hF hS => ?_)
 refine wp 2 [54] hF fun a hF => ?_
 have hS := hS.add (m := Map.mp kStr true f_api_Ver.ty none (#[]) 0 none) ⟨rfl, rfl⟩
 refine wc (wst hF hS 0 3 1 [(1, [.map none])] (sgN 1 sgNil) fun a w hF hS => ?_)
 refine wpListIn_nil ?_
 refine hK85 _ _ ?_
 refine wpIn_seq_k fun K86 hK86 => ?_
 refine wpIn_region_lit ?_
 refine wp 1 [4] hF fun a hF => ?_
 refine wpListIn_nil ?_
 refine hK86 _ _ ?_
 refine wpIn_ret ?_
 have hS := hS.addNone (.map (#[]) 0)
 cases H
 exact ret_done hF hS (res1 Try.results32 (rvt hF)) ⟨none, #[], 0, p5, m74, c75, rfl, hS.sp [1, 0, 4] [0, 2]⟩
 intro x80 cs81 m82 a w H hF hS
 refine wl_pure (L' := [(0, pt b8 0), (3, pt b11 0), (23, pt b23 0), (25, vb true)]) 1 [0, 3, 23, 25] hF (by kernel_rfl) fun a hF => ?_
 refine wpListIn_nil ?_
 refine hK79 _ _ ?_
 refine wpIn_seq_k fun K87 hK87 => ?_
 refine cond_t hF (by kernel_rfl) rfl ?_
 refine wpIn_skip ?_
 refine hK87 _ _ ?_
 refine wpIn_block ?_
 refine wpIn_seq_k fun K88 hK88 => ?_
 refine wpIn_region_lit ?_
 refine wc (wo_entry (kt := kStr) (agg := true) (t := f_api_Ver.ty) hF hS (by kernel_rfl) 2 4 2 0 rfl (by kernel_rfl) rfl rfl rfl rfl ?_)
 rintro _ a rfl hF
 refine wp 2 [0, 3, 23, 27, 28] hF fun a hF => ?_
 refine wc (wal hF hS [sg ByteArray.empty, sg ByteArray.empty, sb false, su 0, si 0, si 0] (sgN 6 sgNil) fun b89 a w hF hS => ?_)
 refine wl_pure (L' := [(0, pt b8 0), (3, pt b11 0), (5, .string (x80.1)), (6, pt b89 0), (23, pt b23 0), (28, .agg (flat [sg x80.2.Key, sg x80.2.Val, sb x80.2.Gone, su x80.2.TS, si x80.2.DC, si x80.2.Tx]).toArray)]) 1 [0, 3, 5, 6, 23, 28] hF (by kernel_rfl) fun a hF => ?_
 refine wc (wst hF hS 0 0 6 [sg x80.2.Key, sg x80.2.Val, sb x80.2.Gone, su x80.2.TS, si x80.2.DC, si x80.2.Tx] (sgN 6 sgNil) fun a w hF hS => ?_)
 refine wpListIn_nil ?_
 refine hK88 _ _ ?_
 refine wpIn_seq_k fun K90 hK90 => ?_
 refine rgX hS [1, 2, 3, 4, 5] ?_
 have hS := hS.drew
 refine anp [0, 2, 4] [0, 3, 5, 6, 23, 29, 31, 33] hF (hS.sx [1, 2, 3, 4, 5] (rg 5)) fun a hF => ?_
 refine atk 1 (some 30) hF (hS.sx [1, 2, 3, 4, 5] (rg 5)) rfl (vld 1 0 0) fun a hF => ?_
 refine anp [6] [0, 3, 5, 6, 23, 30, 31, 33, 35] hF (hS.sx [1, 2, 3, 4, 5] (rg 5)) fun a hF => ?_
 refine atk 3 (some 32) hF (hS.sx [1, 2, 3, 4, 5] (rg 5)) rfl (vld 1 1 0) fun a hF => ?_
 refine atk 5 (some 34) hF (hS.sx [1, 2, 3, 4, 5] (rg 5)) rfl (vld 1 2 0) fun a hF => ?_
 refine ago 7 hF rfl ?_
 refine wst hF hS 0 3 1 [su a9.TS] (sgN 1 sgNil) fun a w hF hS => ?_
 refine ⟨fun _ => (hS.sx [1, 2, 3, 4, 5] (rg 5)), ?_⟩
 refine anp [8] [0, 3, 5, 6, 23, 32, 34, 36] hF (hS.sx [1, 2, 3, 4, 5] (rg 5)) fun a hF => ?_
 refine ago 9 hF rfl ?_
 refine wst hF hS 0 4 1 [si a9.DC] (sgN 1 sgNil) fun a w hF hS => ?_
 refine ⟨fun _ => (hS.sx [1, 2, 3, 4, 5] (rg 5)), ?_⟩
 refine any_pure [10] [0, 3, 5, 6, 23, 34, 37] (L' := [(0, pt b8 0), (3, pt b11 0), (5, .string (x80.1)), (6, pt b89 0), (23, pt b23 0), (34, vi a9.Tx), (37, pt b89 5)]) (listed' := (bitA 12 2047)) (fuel := 1) hF (hS.sx [1, 2, 3, 4, 5] (rg 5)) (by kernel_rfl) (by intro c a w t v h; cases t <;> exact h) (by kernel_rfl) rfl fun a hF => ?_
 refine ago 11 hF rfl ?_
 refine wst hF hS 0 5 1 [si a9.Tx] (sgN 1 sgNil) fun a w hF hS => ?_
 refine ⟨fun _ => (hS.sx [1, 2, 3, 4, 5] (rg 5)), ?_⟩
 refine and_ ?_
 refine hK90 _ _ ?_
 refine rgX hS [0, 1, 2, 3, 5] ?_
 have hS := hS.drew
 refine any_pure [0, 1, 2, 4] [0, 3, 6, 23, 40, 42] (L' := [(0, pt b8 0), (3, pt b11 0), (6, pt b89 0), (23, pt b23 0), (40, pt b8 4), (42, .string (x80.1))]) (listed' := (bitA 7 23)) (fuel := 3) hF (hS.sx [0, 1, 2, 3, 5] (rg 5)) (by kernel_rfl) (by intro c a w t v h; cases t <;> exact h) (by kernel_rfl) rfl fun a hF => ?_
 refine atk 3 (some 41) hF (hS.sx [0, 1, 2, 3, 5] (rg 5)) rfl (vld 1 4 0) fun a hF => ?_
 refine atk 5 (some 43) hF (hS.sx [0, 1, 2, 3, 5] (rg 5)) rfl (vls 0 0 6) fun a hF => ?_
 refine ago 6 hF rfl ?_
 refine bind_split H (fun x91 hx91 H => ?_)
 refine wo_mapUpdate (KT := 9) (E := 37) (kt := kStr) (agg := true) (t := f_api_Ver.ty) hF hS (by kernel_rfl) 4 3 (k := x80.1) (v := (T_api_Ver.mk x80.2.Key x80.2.Val x80.2.Gone a9.TS a9.DC a9.Tx)) (cs := flat [sg x80.2.Key, sg x80.2.Val, sb x80.2.Gone, su a9.TS, si a9.DC, si a9.Tx]) rfl (by kernel_rfl) (by kernel_rfl) (by kernel_rfl) rfl rfl rfl hx91 (by kernel_rfl) (by kernel_rfl) fun m92 c93 a w hF hS => ?_
 refine ⟨fun _ => (hS.sx [0, 1, 2, 3, 5] [1, 2, 3, 4, 5]), ?_⟩
 refine and_ ?_
 exact ⟨fuel1, Nat.lt_succ_self _, _, m92, c93, x91, m82, (kRem y78 x80.1), hF.kp [0, 3, 23], hS.sp [1, 2, 3, 4, 5] [3, 0, 2], H⟩
end Go.Cf
