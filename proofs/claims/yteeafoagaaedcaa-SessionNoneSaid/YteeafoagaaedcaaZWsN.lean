/- The walks: each function returns what its model says. Printed by a program of ours. -/
import Derived.Test.YteeafoagaaedcaaZM1
import Derived.Test.YteeafoagaaedcaaZWs2
namespace Go.Cf
open Go Go.Proofs
set_option linter.unusedVariables false
set_option maxRecDepth 20000 in
set_option maxHeartbeats 1000000 in
theorem C_session_Session_Begin_nil0 (N : Nat) {Ms : List Nat} {κ0 : Gh} {w0 : World} (a1 : Int)  (hB : SB Ms κ0 w0 [] []) {r : (Int × Int)} (H : M.session_Session_Begin_nil0 N a1 = some r) :
    Calls Try.prog 22 #[.pointer none, vu a1] w0 (Post Ms κ0 w0 fun v κ w => v = .tuple #[vu r.1, vi r.2] ∧ SS Ms κ0 w0 κ w [] []) := by
 have hS := hB.hS
 have hfr := hS.fresh
 refine enter (N := (56)) (L := [(0, .pointer none), (1, vu a1)]) Try.func22 rfl Try.ntmps22 (show 2 ≤ (56) by decide) rfl fun a hF => ?_
 unfold M.session_Session_Begin_nil0 at H
 refine wpIn_seq_k fun K2 hK2 => ?_
 refine wpIn_region_lit ?_
 refine wp 2 [0, 1] hF fun a hF => ?_
 refine wpListIn_nil ?_
 refine hK2 _ _ ?_
 refine wpIn_seq_k fun K3 hK3 => ?_
 refine wpIn_seq_k fun K4 hK4 => ?_
 refine wpIn_region_lit ?_
 refine wp 2 [0, 1, 9] hF fun a hF => ?_
 refine wpListIn_nil ?_
 refine hK4 _ _ ?_
 refine cond_t hF (by kernel_rfl) rfl ?_
 refine wpIn_seq_k fun K5 hK5 => ?_
 refine wpIn_region_lit ?_
 refine wp 2 [4, 5] hF fun a hF => ?_
 refine wpListIn_nil ?_
 refine hK5 _ _ ?_
 refine wpIn_ret ?_
 cases H
 exact ret_done hF hS (res2 Try.results22 (rvt hF) (rvt hF)) ⟨rfl, hS.sp [] []⟩
set_option maxRecDepth 20000 in
set_option maxHeartbeats 1000000 in
theorem C_session_Session_Look_nil0 (N : Nat) {Ms : List Nat} {κ0 : Gh} {w0 : World} (a1 : ByteArray)  (hB : SB Ms κ0 w0 [] []) {r : (T_api_Ver × Int)} (H : M.session_Session_Look_nil0 N a1 = some r) :
    Calls Try.prog 36 #[.pointer none, .string (a1)] w0 (Post Ms κ0 w0 fun v κ w => v = .tuple #[.agg (flat [sg r.1.Key, sg r.1.Val, sb r.1.Gone, su r.1.TS, si r.1.DC, si r.1.Tx]).toArray, vi r.2] ∧ SS Ms κ0 w0 κ w [] []) := by
 have hS := hB.hS
 have hfr := hS.fresh
 refine enter (N := (43)) (L := [(0, .pointer none), (1, .string (a1))]) Try.func36 rfl Try.ntmps36 (show 2 ≤ (43) by decide) rfl fun a hF => ?_
 unfold M.session_Session_Look_nil0 at H
 refine wpIn_seq_k fun K2 hK2 => ?_
 refine wpIn_region_lit ?_
 refine wc (wal hF hS [sg ByteArray.empty, sg ByteArray.empty, sb false, su 0, si 0, si 0] (sgN 6 sgNil) fun b3 a w hF hS => ?_)
 refine wp 1 [0, 1, 4] hF fun a hF => ?_
 refine wpListIn_nil ?_
 refine hK2 _ _ ?_
 refine wpIn_seq_k fun K4 hK4 => ?_
 refine wpIn_seq_k fun K5 hK5 => ?_
 refine wpIn_region_lit ?_
 refine wp 9 [0, 1, 4, 18] hF fun a hF => ?_
 refine wpListIn_nil ?_
 refine hK5 _ _ ?_
 refine cond_t hF (by kernel_rfl) rfl ?_
 refine wpIn_seq_k fun K6 hK6 => ?_
 refine wpIn_region_lit ?_
 refine wp 1 [4, 19] hF fun a hF => ?_
 refine wc (wst hF hS 0 0 6 [sg ByteArray.empty, sg ByteArray.empty, sb false, su 0, si 0, si 0] (sgN 6 sgNil) fun a w hF hS => ?_)
 refine wp 1 [4, 5] hF fun a hF => ?_
 refine wpListIn_nil ?_
 refine hK6 _ _ ?_
 refine wpIn_ret ?_
 have hS' := hS
 cases H
 exact ret_done hF hS (res2 Try.results36 (rvs hF hS' 0 0 6) (rvt hF)) ⟨rfl, hS.sp [] []⟩
set_option maxRecDepth 20000 in
set_option maxHeartbeats 1000000 in
theorem C_session_Session_Write_nil0 (N : Nat) {Ms : List Nat} {κ0 : Gh} {w0 : World} (a1 : ByteArray) (a2 : ByteArray) (a3 : Bool)  (hB : SB Ms κ0 w0 [] []) {r : (Int)} (H : M.session_Session_Write_nil0 N a1 a2 a3 = some r) :
    Calls Try.prog 23 #[.pointer none, .string (a1), .string (a2), vb a3] w0 (Post Ms κ0 w0 fun v κ w => v = vi r ∧ SS Ms κ0 w0 κ w [] []) := by
 have hS := hB.hS
 have hfr := hS.fresh
 refine enter (N := (63)) (L := [(0, .pointer none), (1, .string (a1)), (2, .string (a2)), (3, vb a3)]) Try.func23 rfl Try.ntmps23 (show 4 ≤ (63) by decide) rfl fun a hF => ?_
 unfold M.session_Session_Write_nil0 at H
 refine wpIn_seq_k fun K4 hK4 => ?_
 refine wpIn_region_lit ?_
 refine wp 1 (rg 4) hF fun a hF => ?_
 refine wpListIn_nil ?_
 refine hK4 _ _ ?_
 refine wpIn_seq_k fun K5 hK5 => ?_
 refine wpIn_seq_k fun K6 hK6 => ?_
 refine wpIn_region_lit ?_
 refine wp 2 [0, 1, 2, 3, 12] hF fun a hF => ?_
 refine wpListIn_nil ?_
 refine hK6 _ _ ?_
 refine cond_t hF (by kernel_rfl) rfl ?_
 refine wpIn_seq_k fun K7 hK7 => ?_
 refine wpIn_region_lit ?_
 refine wp 1 [8] hF fun a hF => ?_
 refine wpListIn_nil ?_
 refine hK7 _ _ ?_
 refine wpIn_ret ?_
 cases H
 exact ret_done hF hS (res1 Try.results23 (rvt hF)) ⟨rfl, hS.sp [] []⟩
set_option maxRecDepth 20000 in
set_option maxHeartbeats 1000000 in
theorem C_session_Session_Commit_nil0 (N : Nat) {Ms : List Nat} {κ0 : Gh} {w0 : World} (a1 : T_api_Mark)  (hB : SB Ms κ0 w0 [] []) {r : (Int)} (H : M.session_Session_Commit_nil0 N a1 = some r) :
    Calls Try.prog 32 #[.pointer none, .agg (flat [su a1.TS, si a1.DC, si a1.Tx]).toArray] w0 (Post Ms κ0 w0 fun v κ w => v = vi r ∧ SS Ms κ0 w0 κ w [] []) := by
 have hS := hB.hS
 have hfr := hS.fresh
 refine enter (N := (55)) (L := [(0, .pointer none), (1, .agg (flat [su a1.TS, si a1.DC, si a1.Tx]).toArray)]) Try.func32 rfl Try.ntmps32 (show 2 ≤ (55) by decide) rfl fun a hF => ?_
 unfold M.session_Session_Commit_nil0 at H
 refine wpIn_seq_k fun K2 hK2 => ?_
 refine wpIn_region_lit ?_
 refine wc (wbx hF hS [su a1.TS, si a1.DC, si a1.Tx] (sgN 3 sgNil) fun b3 a w hF hS => ?_)
 refine wp 1 [0, 3] hF fun a hF => ?_
 refine wpListIn_nil ?_
 refine hK2 _ _ ?_
 refine wpIn_seq_k fun K4 hK4 => ?_
 refine wpIn_seq_k fun K5 hK5 => ?_
 refine wpIn_region_lit ?_
 refine wp 2 [0, 3, 8] hF fun a hF => ?_
 refine wpListIn_nil ?_
 refine hK5 _ _ ?_
 refine cond_t hF (by kernel_rfl) rfl ?_
 refine wpIn_seq_k fun K6 hK6 => ?_
 refine wpIn_region_lit ?_
 refine wp 1 [4] hF fun a hF => ?_
 refine wpListIn_nil ?_
 refine hK6 _ _ ?_
 refine wpIn_ret ?_
 cases H
 exact ret_done hF hS (res1 Try.results32 (rvt hF)) ⟨rfl, hS.sp [] []⟩
set_option maxRecDepth 20000 in
set_option maxHeartbeats 1000000 in
theorem C_session_Session_Close_nil0 (N : Nat) {Ms : List Nat} {κ0 : Gh} {w0 : World}   (hB : SB Ms κ0 w0 [] []) {r : (Int)} (H : M.session_Session_Close_nil0 N  = some r) :
    Calls Try.prog 34 #[.pointer none] w0 (Post Ms κ0 w0 fun v κ w => v = vi r ∧ SS Ms κ0 w0 κ w [] []) := by
 have hS := hB.hS
 have hfr := hS.fresh
 refine enter (N := (16)) (L := [(0, .pointer none)]) Try.func34 rfl Try.ntmps34 (show 1 ≤ (16) by decide) rfl fun a hF => ?_
 unfold M.session_Session_Close_nil0 at H
 refine wpIn_seq_k fun K1 hK1 => ?_
 refine wpIn_region_lit ?_
 refine wp 1 [0] hF fun a hF => ?_
 refine wpListIn_nil ?_
 refine hK1 _ _ ?_
 refine wpIn_seq_k fun K2 hK2 => ?_
 refine wpIn_seq_k fun K3 hK3 => ?_
 refine wpIn_region_lit ?_
 refine wp 2 [0, 4] hF fun a hF => ?_
 refine wpListIn_nil ?_
 refine hK3 _ _ ?_
 refine cond_t hF (by kernel_rfl) rfl ?_
 refine wpIn_seq_k fun K4 hK4 => ?_
 refine wpIn_region_lit ?_
 refine wp 1 [2] hF fun a hF => ?_
 refine wpListIn_nil ?_
 refine hK4 _ _ ?_
 refine wpIn_ret ?_
 cases H
 exact ret_done hF hS (res1 Try.results34 (rvt hF)) ⟨rfl, hS.sp [] []⟩
set_option maxRecDepth 20000 in
set_option maxHeartbeats 1000000 in
theorem C_session_Session_Open_nil0 (N : Nat) {Ms : List Nat} {κ0 : Gh} {w0 : World}   (hB : SB Ms κ0 w0 [] []) {r : (Bool)} (H : M.session_Session_Open_nil0 N  = some r) :
    Calls Try.prog 29 #[.pointer none] w0 (Post Ms κ0 w0 fun v κ w => v = vb r ∧ SS Ms κ0 w0 κ w [] []) := by
 have hS := hB.hS
 have hfr := hS.fresh
 refine enter (N := (11)) (L := [(0, .pointer none)]) Try.func29 rfl Try.ntmps29 (show 1 ≤ (11) by decide) rfl fun a hF => ?_
 unfold M.session_Session_Open_nil0 at H
 refine wpIn_seq_k fun K1 hK1 => ?_
 refine wpIn_region_lit ?_
 refine wp 1 [0] hF fun a hF => ?_
 refine wpListIn_nil ?_
 refine hK1 _ _ ?_
 refine wpIn_seq_k fun K2 hK2 => ?_
 refine wpIn_region_lit ?_
 refine wp 9 [2] hF fun a hF => ?_
 refine wpListIn_nil ?_
 refine hK2 _ _ ?_
 refine wpIn_ret ?_
 cases H
 exact ret_done hF hS (res1 Try.results29 (rvt hF)) ⟨rfl, hS.sp [] []⟩
set_option maxRecDepth 20000 in
set_option maxHeartbeats 1000000 in
theorem C_session_Session_Snap_nil0 (N : Nat) {Ms : List Nat} {κ0 : Gh} {w0 : World}   (hB : SB Ms κ0 w0 [] []) {r : (Int)} (H : M.session_Session_Snap_nil0 N  = some r) :
    Calls Try.prog 26 #[.pointer none] w0 (Post Ms κ0 w0 fun v κ w => v = vu r ∧ SS Ms κ0 w0 κ w [] []) := by
 have hS := hB.hS
 have hfr := hS.fresh
 refine enter (N := (9)) (L := [(0, .pointer none)]) Try.func26 rfl Try.ntmps26 (show 1 ≤ (9) by decide) rfl fun a hF => ?_
 unfold M.session_Session_Snap_nil0 at H
 refine wpIn_seq_k fun K1 hK1 => ?_
 refine wpIn_region_lit ?_
 refine wp 1 [0] hF fun a hF => ?_
 refine wpListIn_nil ?_
 refine hK1 _ _ ?_
 refine wpIn_seq_k fun K2 hK2 => ?_
 refine wpIn_seq_k fun K3 hK3 => ?_
 refine wpIn_region_lit ?_
 refine wp 2 [0, 4] hF fun a hF => ?_
 refine wpListIn_nil ?_
 refine hK3 _ _ ?_
 refine cond_t hF (by kernel_rfl) rfl ?_
 refine wpIn_seq_k fun K4 hK4 => ?_
 refine wpIn_region_lit ?_
 refine wp 1 [2] hF fun a hF => ?_
 refine wpListIn_nil ?_
 refine hK4 _ _ ?_
 refine wpIn_ret ?_
 cases H
 exact ret_done hF hS (res1 Try.results26 (rvt hF)) ⟨rfl, hS.sp [] []⟩
set_option maxRecDepth 20000 in
set_option maxHeartbeats 1000000 in
theorem C_session_Session_Low_nil0 (N : Nat) {Ms : List Nat} {κ0 : Gh} {w0 : World}   (hB : SB Ms κ0 w0 [] []) {r : (Int)} (H : M.session_Session_Low_nil0 N  = some r) :
    Calls Try.prog 27 #[.pointer none] w0 (Post Ms κ0 w0 fun v κ w => v = vu r ∧ SS Ms κ0 w0 κ w [] []) := by
 have hS := hB.hS
 have hfr := hS.fresh
 refine enter (N := (14)) (L := [(0, .pointer none)]) Try.func27 rfl Try.ntmps27 (show 1 ≤ (14) by decide) rfl fun a hF => ?_
 unfold M.session_Session_Low_nil0 at H
 refine wpIn_seq_k fun K1 hK1 => ?_
 refine wpIn_region_lit ?_
 refine wp 1 [0] hF fun a hF => ?_
 refine wpListIn_nil ?_
 refine hK1 _ _ ?_
 refine wpIn_seq_k fun K2 hK2 => ?_
 refine wpIn_seq_k fun K3 hK3 => ?_
 refine wpIn_region_lit ?_
 refine wp 2 [0, 4] hF fun a hF => ?_
 refine wpListIn_nil ?_
 refine hK3 _ _ ?_
 refine cond_t hF (by kernel_rfl) rfl ?_
 refine wpIn_seq_k fun K4 hK4 => ?_
 refine wpIn_region_lit ?_
 refine wp 1 [2] hF fun a hF => ?_
 refine wpListIn_nil ?_
 refine hK4 _ _ ?_
 refine wpIn_ret ?_
 cases H
 exact ret_done hF hS (res1 Try.results27 (rvt hF)) ⟨rfl, hS.sp [] []⟩
set_option maxRecDepth 20000 in
set_option maxHeartbeats 1000000 in
theorem C_session_Session_Writes_nil0 (N : Nat) {Ms : List Nat} {κ0 : Gh} {w0 : World}   (hB : SB Ms κ0 w0 [] []) {r : ((List T_api_Ver))} (H : M.session_Session_Writes_nil0 N  = some r) :
    Calls Try.prog 24 #[.pointer none] w0 (Post Ms κ0 w0 fun v κ w => ∃ (p5 : Option Addr) (c6 : Nat), v = .slice p5 (r).length c6 ∧ SS Ms κ0 w0 κ w [.tok p5 37 6 (r).length c6] [Ro.mp f_api_Ver.ty p5 c6 r]) := by
 have hS := hB.hS
 have hfr := hS.fresh
 refine enter (N := (37)) (L := [(0, .pointer none)]) Try.func24 rfl Try.ntmps24 (show 1 ≤ (37) by decide) rfl fun a hF => ?_
 unfold M.session_Session_Writes_nil0 at H
 refine wpIn_seq_k fun K1 hK1 => ?_
 refine wpIn_region_lit ?_
 refine wp 1 [0] hF fun a hF => ?_
 refine wpListIn_nil ?_
 refine hK1 _ _ ?_
 refine wpIn_seq_k fun K2 hK2 => ?_
 refine wpIn_seq_k fun K3 hK3 => ?_
 refine wpIn_region_lit ?_
 refine wp 9 [0, 14] hF fun a hF => ?_
 refine wpListIn_nil ?_
 refine hK3 _ _ ?_
 refine cond_t hF (by kernel_rfl) rfl ?_
 refine wpIn_seq_k fun K4 hK4 => ?_
 refine wpIn_region_lit ?_
 refine wp 1 [2] hF fun a hF => ?_
 refine wpListIn_nil ?_
 refine hK4 _ _ ?_
 refine wpIn_ret ?_
 have hS := hS.add (m := Ro.mp f_api_Ver.ty none 0 ([] : List T_api_Ver)) (Ro.nil f_api_Ver.ty _ _)
 have hS := hS.addNil 37 6
 cases H
 exact ret_done hF hS (res1 Try.results24 (rvt hF)) ⟨none, 0, rfl, hS.sp [0] [0]⟩
set_option maxRecDepth 20000 in
set_option maxHeartbeats 1000000 in
theorem C_law15_SessionNone (N : Nat) {κ0 : Gh} {w0 : World} (hfr : Fresh κ0 w0) (a1 : T_law15_Op)  (hR : ∀ m ∈ ([] : List MP), m.p κ0 w0) {r : (Bool)} (H : M.law15_SessionNone N a1 = some r) :
    Calls Try.prog 7 #[.agg (flat [si a1.Kind, sg a1.Key, sg a1.Val, sb a1.Gone, su a1.T, su a1.Mark.TS, si a1.Mark.DC, si a1.Mark.Tx]).toArray] w0 (Post [] κ0 w0 fun v κ w => v = vb r ∧ (∀ m ∈ ([] : List MP), m.p κ w) ∧ NewC w0 κ w []) := by
 have hS := SS.start hfr hR
 refine enter (N := (84)) (L := [(0, .agg (flat [si a1.Kind, sg a1.Key, sg a1.Val, sb a1.Gone, su a1.T, su a1.Mark.TS, si a1.Mark.DC, si a1.Mark.Tx]).toArray)]) Try.func7 rfl Try.ntmps7 (show 1 ≤ (84) by decide) rfl fun a hF => ?_
 unfold M.law15_SessionNone at H
 refine wpIn_seq_k fun K2 hK2 => ?_
 refine wpIn_region_lit ?_
 refine wc (wbx hF hS [si a1.Kind, sg a1.Key, sg a1.Val, sb a1.Gone, su a1.T, su a1.Mark.TS, si a1.Mark.DC, si a1.Mark.Tx] (sgN 8 sgNil) fun b3 a w hF hS => ?_)
 refine wp 1 [1] hF fun a hF => ?_
 refine wpListIn_nil ?_
 refine hK2 _ _ ?_
 refine wpIn_seq_k fun K4 hK4 => ?_
 refine wpIn_region_lit ?_
 refine wp 1 [1, 3] hF fun a hF => ?_
 refine wpListIn_nil ?_
 refine hK4 _ _ ?_
 refine wpIn_seq_k fun K5 hK5 => ?_
 refine wpIn_region_lit ?_
 refine wp 2 [1, 3, 9, 10] hF fun a hF => ?_
 refine wc (wld hF hS 0 4 0 fun a hF => ?_)
 refine bind_split H (fun x6 hx6 H => ?_)
 refine wc (wcS 0 [0] hF hS (fun hS => C_session_Session_Begin_nil0 N a1.T   ⟨rfl, hS.pick [] (by kernel_rfl)⟩ hx6) ?_)
 rintro _ κ w a ⟨rfl, h2⟩ hF hB
 have hS := hB _ _ h2
 refine wp 5 [1, 3, 4, 5] hF fun a hF => ?_
 refine wpListIn_nil ?_
 refine hK5 _ _ ?_
 refine wpIn_seq_k fun K7 hK7 => ?_
 refine wpIn_region_lit ?_
 refine wp 2 [1, 3, 4, 5, 16, 17] hF fun a hF => ?_
 refine wc (wld hF hS 0 1 0 fun a hF => ?_)
 refine bind_split H (fun x8 hx8 H => ?_)
 refine wc (wcS 0 [0] hF hS (fun hS => C_session_Session_Look_nil0 N a1.Key   ⟨rfl, hS.pick [] (by kernel_rfl)⟩ hx8) ?_)
 rintro _ κ w a ⟨rfl, h2⟩ hF hB
 have hS := hB _ _ h2
 refine wp 3 [1, 3, 4, 5, 20, 21] hF fun a hF => ?_
 refine wc (wal hF hS [sg ByteArray.empty, sg ByteArray.empty, sb false, su 0, si 0, si 0] (sgN 6 sgNil) fun b9 a w hF hS => ?_)
 refine wc (wst hF hS 0 0 6 [sg x8.1.Key, sg x8.1.Val, sb x8.1.Gone, su x8.1.TS, si x8.1.DC, si x8.1.Tx] (sgN 6 sgNil) fun a w hF hS => ?_)
 refine wp 1 [1, 3, 4, 5, 6, 7] hF fun a hF => ?_
 refine wpListIn_nil ?_
 refine hK7 _ _ ?_
 refine wpIn_seq_k fun K10 hK10 => ?_
 refine wpIn_region_lit ?_
 refine bind_split H (fun v12 hv12 H => ?_)
 refine wl_join (fun a w => ∃ κ : Gh, Fr (84) [] [(2, vb v12)] a ∧ SS [] κ0 w0 κ w [] [] ∧ True) ?_ ?_
 refine bind_split hv12 (fun x13 hx13 hv12 => ?_)
 refine wc (wo_callP hF hS (by kernel_rfl) (by kernel_rfl) (C_law15_awake N hS.fresh   ((hS.pick [] (by kernel_rfl)).ro) hx13) ?_)
 rintro _ κ w a ⟨rfl, hR, hN⟩ hF hS hO
 refine wp 1 [1, 3, 4, 5, 6, 7, 23] hF fun a hF => ?_
 refine bif_split hv12 (fun hb hv12 => ?_) (fun hb hv12 => ?_)
 have hF := hF.boolv 23 (by kernel_rfl) hb
 refine wp 4 [1, 3, 5, 6, 7, 27] hF fun a hF => ?_
 refine bif_split hv12 (fun hb hv12 => ?_) (fun hb hv12 => ?_)
 have hF := hF.boolv 27 (by kernel_rfl) hb
 refine wp 4 [1, 3, 6, 7, 31] hF fun a hF => ?_
 refine bif_split hv12 (fun hb hv12 => ?_) (fun hb hv12 => ?_)
 have hF := hF.boolv 31 (by kernel_rfl) hb
 refine wp 2 [1, 3, 6, 7, 31, 32, 33] hF fun a hF => ?_
 refine wcg hF (wld hF hS 1 1 0 fun a hF => ?_)
 refine wp 1 [1, 3, 6, 7, 31, 32, 34, 35] hF fun a hF => ?_
 refine wcg hF (wld hF hS 1 2 0 fun a hF => ?_)
 refine wp 1 [1, 3, 6, 7, 31, 32, 34, 36, 37] hF fun a hF => ?_
 refine wcg hF (wld hF hS 1 3 0 fun a hF => ?_)
 refine bind_split hv12 (fun x14 hx14 hv12 => ?_)
 refine wcg hF (wcS 0 [0, 1] hF hS (fun hS => C_session_Session_Write_nil0 N a1.Key a1.Val a1.Gone   ⟨rfl, hS.pick [] (by kernel_rfl)⟩ hx14) ?_)
 rintro _ κ w a ⟨rfl, h2⟩ hF hB
 have hS := hB _ _ h2
 refine wp 3 [1, 3, 6, 7, 42] hF fun a hF => ?_
 refine bif_split hv12 (fun hb hv12 => ?_) (fun hb hv12 => ?_)
 have hF := hF.boolv 42 (by kernel_rfl) hb
 refine wp 2 [3, 6, 7, 42, 43, 44] hF fun a hF => ?_
 refine wcg hF (wls hF hS 1 5 3 fun a hF => ?_)
 refine bind_split hv12 (fun x15 hx15 hv12 => ?_)
 refine wcg hF (wcS 0 [0, 1] hF hS (fun hS => C_session_Session_Commit_nil0 N (T_api_Mark.mk a1.Mark.TS a1.Mark.DC a1.Mark.Tx)   ⟨rfl, hS.pick [] (by kernel_rfl)⟩ hx15) ?_)
 rintro _ κ w a ⟨rfl, h2⟩ hF hB
 have hS := hB _ _ h2
 refine wp 3 [3, 6, 7, 49] hF fun a hF => ?_
 refine bif_split hv12 (fun hb hv12 => ?_) (fun hb hv12 => ?_)
 have hF := hF.boolv 49 (by kernel_rfl) hb
 refine wp 1 [3, 6, 7, 49, 50] hF fun a hF => ?_
 refine bind_split hv12 (fun x16 hx16 hv12 => ?_)
 refine wcg hF (wcS 0 [0, 1] hF hS (fun hS => C_session_Session_Close_nil0 N    ⟨rfl, hS.pick [] (by kernel_rfl)⟩ hx16) ?_)
 rintro _ κ w a ⟨rfl, h2⟩ hF hB
 have hS := hB _ _ h2
 refine wp 3 [3, 6, 7, 54] hF fun a hF => ?_
 refine bif_split hv12 (fun hb hv12 => ?_) (fun hb hv12 => ?_)
 have hF := hF.boolv 54 (by kernel_rfl) hb
 refine wcg hF (wls hF hS 0 0 6 fun a hF => ?_)
 refine wl_pure (L' := [(3, .pointer none), (7, vi x8.2), (54, vb true), (55, .agg (flat [sg x8.1.Key, sg x8.1.Val, sb x8.1.Gone, su x8.1.TS, si x8.1.DC, si x8.1.Tx]).toArray), (56, .agg (flat [sg ByteArray.empty, sg ByteArray.empty, sb false, su 0, si 0, si 0]).toArray)]) 1 [3, 7, 54, 55, 56] hF (by kernel_rfl) fun a hF => ?_
 refine wcg hF (wo_val hF (by kernel_rfl) (v := vb (cEq (flat [sg x8.1.Key, sg x8.1.Val, sb x8.1.Gone, su x8.1.TS, si x8.1.DC, si x8.1.Tx]) (flat [sg ByteArray.empty, sg ByteArray.empty, sb false, su 0, si 0, si 0]))) ((val_eq (neg := false) (xs := (flat [sg x8.1.Key, sg x8.1.Val, sb x8.1.Gone, su x8.1.TS, si x8.1.DC, si x8.1.Tx])) (ys := (flat [sg ByteArray.empty, sg ByteArray.empty, sb false, su 0, si 0, si 0])) (ks := [.str, .str, .bool, .int .u64, .int .i64, .int .i64]) 20 (by decide) rfl (by kernel_rfl) (by kernel_rfl) (by kernel_rfl) (by kernel_rfl) (by kernel_rfl) (by kernel_rfl) (by kernel_rfl)) _) fun a hF => ?_)
 refine wp 2 [3, 7, 59] hF fun a hF => ?_
 refine bif_split hv12 (fun hb hv12 => ?_) (fun hb hv12 => ?_)
 have hF := hF.boolv 59 (by kernel_rfl) hb
 refine wp 4 [3, 63] hF fun a hF => ?_
 refine bif_split hv12 (fun hb hv12 => ?_) (fun hb hv12 => ?_)
 have hF := hF.boolv 63 (by kernel_rfl) hb
 refine wp 1 [3, 63, 64] hF fun a hF => ?_
 refine bind_split hv12 (fun x17 hx17 hv12 => ?_)
 refine wcg hF (wcS 0 [0, 1] hF hS (fun hS => C_session_Session_Open_nil0 N    ⟨rfl, hS.pick [] (by kernel_rfl)⟩ hx17) ?_)
 rintro _ κ w a ⟨rfl, h2⟩ hF hB
 have hS := hB _ _ h2
 refine wp 3 [3, 68] hF fun a hF => ?_
 refine bif_split hv12 (fun hb hv12 => ?_) (fun hb hv12 => ?_)
 have hF := hF.boolv 68 (by kernel_rfl) hb
 refine wp 1 [3, 68, 69] hF fun a hF => ?_
 refine bind_split hv12 (fun x18 hx18 hv12 => ?_)
 refine wcg hF (wcS 0 [0, 1] hF hS (fun hS => C_session_Session_Snap_nil0 N    ⟨rfl, hS.pick [] (by kernel_rfl)⟩ hx18) ?_)
 rintro _ κ w a ⟨rfl, h2⟩ hF hB
 have hS := hB _ _ h2
 refine wp 3 [3, 73] hF fun a hF => ?_
 refine bif_split hv12 (fun hb hv12 => ?_) (fun hb hv12 => ?_)
 have hF := hF.boolv 73 (by kernel_rfl) hb
 refine wp 1 [3, 73, 74] hF fun a hF => ?_
 refine bind_split hv12 (fun x19 hx19 hv12 => ?_)
 refine wcg hF (wcS 0 [0, 1] hF hS (fun hS => C_session_Session_Low_nil0 N    ⟨rfl, hS.pick [] (by kernel_rfl)⟩ hx19) ?_)
 rintro _ κ w a ⟨rfl, h2⟩ hF hB
 have hS := hB _ _ h2
 refine wp 3 [3, 78] hF fun a hF => ?_
 refine bif_split hv12 (fun hb hv12 => ?_) (fun hb hv12 => ?_)
 have hF := hF.boolv 78 (by kernel_rfl) hb
 refine wp 1 [78, 79] hF fun a hF => ?_
 refine bind_split hv12 (fun x20 hx20 hv12 => ?_)
 refine wcg hF (wcS 0 [0, 1] hF hS (fun hS => C_session_Session_Writes_nil0 N    ⟨rfl, hS.pick [] (by kernel_rfl)⟩ hx20) ?_)
 rintro _ κ w a ⟨p21, c22, rfl, h2⟩ hF hB
 have hS := hB _ _ h2
 refine wp 4 [2] hF fun a hF => ?_
 refine wpListIn_nil ?_
 cases hv12
 exact ⟨_, hF.kp [2], hS.sp [] [], trivial⟩
 have hF := hF.boolv 78 (by kernel_rfl) hb
 refine wp 6 [2] hF fun a hF => ?_
 refine wpListIn_nil ?_
 cases hv12
 exact ⟨_, hF.kp [2], hS.sp [] [], trivial⟩
 have hF := hF.boolv 73 (by kernel_rfl) hb
 refine wp 11 [2] hF fun a hF => ?_
 refine wpListIn_nil ?_
 cases hv12
 exact ⟨_, hF.kp [2], hS.sp [] [], trivial⟩
 have hF := hF.boolv 68 (by kernel_rfl) hb
 refine wp 16 [2] hF fun a hF => ?_
 refine wpListIn_nil ?_
 cases hv12
 exact ⟨_, hF.kp [2], hS.sp [] [], trivial⟩
 have hF := hF.boolv 63 (by kernel_rfl) hb
 refine wp 21 [2] hF fun a hF => ?_
 refine wpListIn_nil ?_
 cases hv12
 exact ⟨_, hF.kp [2], hS.sp [] [], trivial⟩
 have hF := hF.boolv 59 (by kernel_rfl) hb
 refine wp 25 [2] hF fun a hF => ?_
 refine wpListIn_nil ?_
 cases hv12
 exact ⟨_, hF.kp [2], hS.sp [] [], trivial⟩
 have hF := hF.boolv 54 (by kernel_rfl) hb
 refine wp 30 [2] hF fun a hF => ?_
 refine wpListIn_nil ?_
 cases hv12
 exact ⟨_, hF.kp [2], hS.sp [] [], trivial⟩
 have hF := hF.boolv 49 (by kernel_rfl) hb
 refine wp 35 [2] hF fun a hF => ?_
 refine wpListIn_nil ?_
 cases hv12
 exact ⟨_, hF.kp [2], hS.sp [] [], trivial⟩
 have hF := hF.boolv 42 (by kernel_rfl) hb
 refine wp 42 [2] hF fun a hF => ?_
 refine wpListIn_nil ?_
 cases hv12
 exact ⟨_, hF.kp [2], hS.sp [] [], trivial⟩
 have hF := hF.boolv 31 (by kernel_rfl) hb
 refine wp 53 [2] hF fun a hF => ?_
 refine wpListIn_nil ?_
 cases hv12
 exact ⟨_, hF.kp [2], hS.sp [] [], trivial⟩
 have hF := hF.boolv 27 (by kernel_rfl) hb
 refine wp 57 [2] hF fun a hF => ?_
 refine wpListIn_nil ?_
 cases hv12
 exact ⟨_, hF.kp [2], hS.sp [] [], trivial⟩
 have hF := hF.boolv 23 (by kernel_rfl) hb
 refine wp 61 [2] hF fun a hF => ?_
 refine wpListIn_nil ?_
 cases hv12
 exact ⟨_, hF.kp [2], hS.sp [] [], trivial⟩
 rintro a w ⟨κ, hF, hS, -⟩
 refine hK10 _ _ ?_
 refine wpIn_ret ?_
 cases H
 exact (ret_done hF hS (res1 Try.results7 (rvt hF)) ⟨rfl, (hS.pick [] (by kernel_rfl)).ro, hS.newC [] (by decide) (by kernel_rfl)⟩)
end Go.Cf
