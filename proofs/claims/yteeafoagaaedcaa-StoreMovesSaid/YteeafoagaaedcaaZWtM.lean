/- The walks: each function returns what its model says. Printed by a program of ours. -/
import Derived.Test.YteeafoagaaedcaaZMtM
import Derived.Test.YteeafoagaaedcaaZWt1
import Derived.Test.YteeafoagaaedcaaZWt2
import Derived.Test.YteeafoagaaedcaaZWt4
namespace Go.Cf
open Go Go.Proofs
set_option linter.unusedVariables false
set_option maxRecDepth 20000 in
set_option maxHeartbeats 8000000 in
theorem C_law10_StoreMoves (N : Nat) {κ0 : Gh} {w0 : World} (hfr : Fresh κ0 w0) (a1 : (List T_api_Ver)) (a4 : Int) (a5 : ByteArray) (a6 : ByteArray) (a7 : ByteArray) (a8 : Int) (p2 : Option Addr) (c3 : Nat) (hR : ∀ m ∈ ([Ro.mp f_api_Ver.ty p2 c3 a1] : List MP), m.p κ0 w0) {r : (Bool)} (H : M.law10_StoreMoves N a1 a4 a5 a6 a7 a8 = some r) :
    Calls Try.prog 11 #[.slice p2 (a1).length c3, vu a4, .string (a5), .string (a6), .string (a7), vu a8] w0 (Post [] κ0 w0 fun v κ w => v = vb r ∧ (∀ m ∈ ([] : List MP), m.p κ w) ∧ NewC w0 κ w []) := by
 have hS := SS.start hfr hR
 refine enter (N := (121)) (L := [(0, .slice p2 (a1).length c3), (1, vu a4), (2, .string (a5)), (3, .string (a6)), (4, .string (a7)), (5, vu a8)]) Try.func11 rfl Try.ntmps11 (show 6 ≤ (121) by decide) rfl fun a hF => ?_
 unfold M.law10_StoreMoves at H
 refine wpIn_seq_k fun K9 hK9 => ?_
 refine wpIn_region_lit ?_
 refine wp 1 (rg 6) hF fun a hF => ?_
 refine wpListIn_nil ?_
 refine hK9 _ _ ?_
 refine wpIn_seq_k fun K10 hK10 => ?_
 refine wpIn_region_lit ?_
 refine bind_split H (fun x11 hx11 H => ?_)
 refine wc (wcS 0 [] hF hS (fun hS => C_store_New N    ⟨rfl, hS.pick [] (by kernel_rfl)⟩ hx11) ?_)
 rintro _ κ w a ⟨b12, p13, m14, c15, rfl, h2⟩ hF hB
 have hS := hB _ _ h2
 refine bind_split H (fun x16 hx16 H => ?_)
 refine wc (wcS 0 [0, 1] hF hS (fun hS => C_store_New N    ⟨rfl, hS.pick [] (by kernel_rfl)⟩ hx16) ?_)
 rintro _ κ w a ⟨b17, p18, m19, c20, rfl, h2⟩ hF hB
 have hS := (hB _ _ h2).cC (C' := [.box b17 130 [(1, [.map p18]), su x16.floor], .ext (objX p18 (.map m19 c20)), .box b12 130 [(1, [.map p13]), su x11.floor], .ext (objX p13 (.map m14 c15))])
 refine wp 2 [0, 1, 2, 3, 4, 5, 13, 14] hF fun a hF => ?_
 refine wpListIn_nil ?_
 refine hK10 _ _ ?_
 refine wpIn_seq_k fun K21 hK21 => ?_
 refine wpIn_seq_k fun K22 hK22 => ?_
 refine wpIn_region_lit ?_
 refine wp 6 [0, 1, 2, 3, 4, 5, 13, 14, 30] hF fun a hF => ?_
 refine wpListIn_nil ?_
 refine hK22 _ _ ?_
 refine cond_f hF (by kernel_rfl) rfl ?_
 refine wpIn_skip ?_
 refine hK21 _ _ ?_
 refine wpIn_seq_k fun K23 hK23 => ?_
 refine wpIn_region_lit ?_
 refine wp 2 [1, 2, 3, 4, 5, 13, 14, 31, 32] hF fun a hF => ?_
 refine bind_split H (fun x24 hx24 H => ?_)
 refine wc (wo_callP hF hS (by kernel_rfl) (by kernel_rfl) (C_law10_few N hS.fresh a1 40 p2 c3 ((hS.pick [2] (by kernel_rfl)).ro) hx24) ?_)
 rintro _ κ w a ⟨p25, c26, rfl, hR, hN⟩ hF hS hO
 have hS := hS.adds hR
 refine bind_split H (fun x27 hx27 H => ?_)
 refine wc (wcS 2 [2, 3, 0, 1] hF hS (fun hS => C_store_Store_Load N (T_store_Store.mk x11.chains x11.floor) x24 p13 m14 c15 p25 c26 b12 ⟨rfl, hS.pick [2, 0] (by kernel_rfl)⟩ hx27) ?_)
 rintro _ κ w a ⟨p28, m29, c30, rfl, h2⟩ hF hB
 have hS := hB _ _ h2
 refine wpListIn_nil ?_
 refine hK23 _ _ ?_
 refine wpIn_seq_k fun K31 hK31 => ?_
 refine wpIn_region_lit ?_
 refine wp 2 [1, 2, 3, 4, 5, 13, 14, 35, 36] hF fun a hF => ?_
 refine bind_split H (fun x32 hx32 H => ?_)
 refine wc (wcS 2 (rg 4) hF hS (fun hS => C_store_Store_Trim N (T_store_Store.mk x27.2.chains x27.2.floor) a4 p28 m29 c30 b12 ⟨rfl, hS.pick [0] (by kernel_rfl)⟩ hx32) ?_)
 rintro _ κ w a ⟨p33, m34, c35, rfl, h2⟩ hF hB
 have hS := (hB _ _ h2).cC (C' := [.box b12 130 [(1, [.map p33]), su x32.2.floor], .ext (objX p33 (.map m34 c35)), .box b17 130 [(1, [.map p18]), su x16.floor], .ext (objX p18 (.map m19 c20))])
 refine wpListIn_nil ?_
 refine hK31 _ _ ?_
 refine wpIn_seq_k fun K36 hK36 => ?_
 refine wpIn_region_lit ?_
 refine wp 2 [2, 3, 4, 5, 13, 14, 38, 39] hF fun a hF => ?_
 refine bind_split H (fun x37 hx37 H => ?_)
 refine wc (wcS 2 [2, 3, 0, 1] hF hS (fun hS => C_store_Store_Trim N (T_store_Store.mk x16.chains x16.floor) a4 p18 m19 c20 b17 ⟨rfl, hS.pick [3] (by kernel_rfl)⟩ hx37) ?_)
 rintro _ κ w a ⟨p38, m39, c40, rfl, h2⟩ hF hB
 have hS := hB _ _ h2
 refine wpListIn_nil ?_
 refine hK36 _ _ ?_
 refine wpIn_seq_k fun K41 hK41 => ?_
 refine wpIn_region_lit ?_
 refine wp 3 [2, 3, 4, 5, 13, 14, 42, 43, 44] hF fun a hF => ?_
 refine bind_split H (fun x42 hx42 H => ?_)
 refine wc (wcS 2 [2, 3, 0, 1] hF hS (fun hS => C_store_Store_Get N (T_store_Store.mk x32.2.chains x32.2.floor) a7 a8 p33 m34 c35 b12 ⟨rfl, hS.pick [1] (by kernel_rfl)⟩ hx42) ?_)
 rintro _ κ w a ⟨rfl, h2⟩ hF hB
 have hS := (hB _ _ h2).cC (C' := [.box b12 130 [(1, [.map p33]), su x32.2.floor], .ext (objX p33 (.map m34 c35)), .box b17 130 [(1, [.map p38]), su x37.2.floor], .ext (objX p38 (.map m39 c40))])
 refine wp 4 [2, 3, 4, 5, 13, 14, 46, 47, 48] hF fun a hF => ?_
 refine wc (wal hF hS [sg ByteArray.empty, sg ByteArray.empty, sb false, su 0, si 0, si 0] (sgN 6 sgNil) fun b43 a w hF hS => ?_)
 refine wc (wst hF hS 0 0 6 [sg x42.1.Key, sg x42.1.Val, sb x42.1.Gone, su x42.1.TS, si x42.1.DC, si x42.1.Tx] (sgN 6 sgNil) fun a w hF hS => ?_)
 refine wp 2 [2, 3, 4, 5, 13, 14, 15, 16, 17] hF fun a hF => ?_
 refine wpListIn_nil ?_
 refine hK41 _ _ ?_
 refine wpIn_seq_k fun K44 hK44 => ?_
 refine wpIn_region_lit ?_
 refine wp 3 [2, 3, 4, 5, 13, 14, 15, 16, 17, 49, 50, 51] hF fun a hF => ?_
 refine bind_split H (fun x45 hx45 H => ?_)
 refine wc (wcS 2 [1, 2, 0, 3, 4] hF hS (fun hS => C_law10_All N (T_store_Store.mk x32.2.chains x32.2.floor) a5 a6 p33 m34 c35 b12 ⟨rfl, hS.pick [1] (by kernel_rfl)⟩ hx45) ?_)
 rintro _ κ w a ⟨p46, c47, rfl, h2⟩ hF hB
 have hS := hB _ _ h2
 refine wp 1 [2, 3, 4, 5, 13, 14, 15, 16, 17, 18] hF fun a hF => ?_
 refine wpListIn_nil ?_
 refine hK44 _ _ ?_
 refine wpIn_seq_k fun K48 hK48 => ?_
 refine wpIn_region_lit ?_
 refine wp 1 [2, 3, 4, 5, 13, 14, 15, 16, 17, 18, 53] hF fun a hF => ?_
 refine bind_split H (fun x49 hx49 H => ?_)
 refine wc (wcS 2 (rg 6) hF hS (fun hS => C_store_Store_Len N (T_store_Store.mk x32.2.chains x32.2.floor) p33 m34 c35 b12 ⟨rfl, hS.pick [2] (by kernel_rfl)⟩ hx49) ?_)
 rintro _ κ w a ⟨rfl, h2⟩ hF hB
 have hS := (hB _ _ h2).cC (C' := [.box b12 130 [(1, [.map p33]), su x32.2.floor], .ext (objX p33 (.map m34 c35)), .tok p46 37 6 (x45).length c47, .box b43 37 [sg x42.1.Key, sg x42.1.Val, sb x42.1.Gone, su x42.1.TS, si x42.1.DC, si x42.1.Tx], .box b17 130 [(1, [.map p38]), su x37.2.floor], .ext (objX p38 (.map m39 c40))])
 refine wp 1 [2, 3, 4, 5, 13, 14, 15, 16, 17, 18, 19] hF fun a hF => ?_
 refine wpListIn_nil ?_
 refine hK48 _ _ ?_
 refine wpIn_seq_k fun K50 hK50 => ?_
 refine wpIn_seq_k fun K51 hK51 => ?_
 refine wpIn_region_lit ?_
 refine bind_split H (fun v63 hv63 H => ?_)
 refine wl_join (fun a w => ∃ (κ : Gh) (p52 : Option Nat) (m53 : Array MapEntry) (c54 : Nat) (p57 : Option Nat) (m58 : Array MapEntry) (c59 : Nat), Fr (121) [] [(4, .string (a7)), (5, vu a8), (13, pt b12 0), (14, pt b17 0), (15, pt b43 0), (16, vb x42.2.1), (17, vi x42.2.2), (86, vb v63.2.2.2.2)] a ∧ SS [] κ0 w0 κ w [.box b17 130 [(1, [.map p52]), su v63.2.1], .box b12 130 [(1, [.map p57]), su v63.2.2.2.1], .box b43 37 [sg x42.1.Key, sg x42.1.Val, sb x42.1.Gone, su x42.1.TS, si x42.1.DC, si x42.1.Tx], .ext (objX p52 (.map m53 c54)), .ext (objX p57 (.map m58 c59))] [Map.mp kStr false (tSl f_api_Ver.ty) p57 m58 c59 v63.2.2.1, Map.mp kStr false (tSl f_api_Ver.ty) p52 m53 c54 v63.1] ∧ True) ?_ ?_
 refine wp 2 [2, 3, 4, 5, 13, 14, 15, 16, 17, 18, 19, 55, 56] hF fun a hF => ?_
 refine bind_split hv63 (fun x64 hx64 hv63 => ?_)
 refine wc (wcS 2 [4, 5, 0, 1, 2, 3] hF hS (fun hS => C_store_Store_Load N (T_store_Store.mk x37.2.chains x37.2.floor) x45 p38 m39 c40 p46 c47 b17 ⟨rfl, hS.pick [1, 0] (by kernel_rfl)⟩ hx64) ?_)
 rintro _ κ w a ⟨p65, m66, c67, rfl, h2⟩ hF hB
 have hS := hB _ _ h2
 refine wp 4 [2, 3, 4, 5, 13, 14, 15, 16, 17, 18, 19, 61] hF fun a hF => ?_
 refine bif_split hv63 (fun hb hv63 => ?_) (fun hb hv63 => ?_)
 have hF := hF.boolv 61 (by kernel_rfl) hb
 refine wp 25 [4, 5, 13, 14, 15, 16, 17, 86] hF fun a hF => ?_
 refine wpListIn_nil ?_
 cases hv63
 exact ⟨_, p65, m66, c67, p33, m34, c35, hF.kp [4, 5, 13, 14, 15, 16, 17, 86], hS.sp [0, 2, 5, 1, 3] [3, 0], trivial⟩
 have hF := hF.boolv 61 (by kernel_rfl) hb
 refine wp 3 [2, 3, 4, 5, 13, 14, 15, 16, 17, 18, 19, 61, 62, 63, 64] hF fun a hF => ?_
 refine bind_split hv63 (fun x68 hx68 hv63 => ?_)
 refine wcg hF (wcS 2 [2, 3, 0, 1, 4, 5] hF hS (fun hS => C_store_Store_Drop N (T_store_Store.mk x32.2.chains x32.2.floor) a5 a6 p33 m34 c35 b12 ⟨rfl, hS.pick [3] (by kernel_rfl)⟩ hx68) ?_)
 rintro _ κ w a ⟨p69, m70, c71, rfl, h2⟩ hF hB
 have hS := (hB _ _ h2).cC (C' := [.box b12 130 [(1, [.map p69]), su x68.2.floor], .ext (objX p69 (.map m70 c71)), .box b17 130 [(1, [.map p65]), su x64.2.floor], .ext (objX p65 (.map m66 c67)), .tok p46 37 6 (x45).length c47, .box b43 37 [sg x42.1.Key, sg x42.1.Val, sb x42.1.Gone, su x42.1.TS, si x42.1.DC, si x42.1.Tx]])
 refine wp 5 [2, 3, 4, 5, 13, 14, 15, 16, 17, 19, 70] hF fun a hF => ?_
 refine bif_split hv63 (fun hb hv63 => ?_) (fun hb hv63 => ?_)
 have hF := hF.boolv 70 (by kernel_rfl) hb
 refine wp 16 [4, 5, 13, 14, 15, 16, 17, 86] hF fun a hF => ?_
 refine wpListIn_nil ?_
 cases hv63
 exact ⟨_, p65, m66, c67, p69, m70, c71, hF.kp [4, 5, 13, 14, 15, 16, 17, 86], hS.sp [2, 0, 5, 3, 1] [0, 1], trivial⟩
 have hF := hF.boolv 70 (by kernel_rfl) hb
 refine wp 1 [2, 3, 4, 5, 13, 14, 15, 16, 17, 19, 70, 71] hF fun a hF => ?_
 refine bind_split hv63 (fun x72 hx72 hv63 => ?_)
 refine wcg hF (wcS 2 (rg 6) hF hS (fun hS => C_store_Store_Len N (T_store_Store.mk x68.2.chains x68.2.floor) p69 m70 c71 b12 ⟨rfl, hS.pick [0] (by kernel_rfl)⟩ hx72) ?_)
 rintro _ κ w a ⟨rfl, h2⟩ hF hB
 have hS := hB _ _ h2
 refine wp 1 [2, 3, 4, 5, 13, 14, 15, 16, 17, 19, 70, 72, 73] hF fun a hF => ?_
 refine bind_split hv63 (fun x73 hx73 hv63 => ?_)
 refine wcg hF (wcS 2 [2, 3, 0, 1, 4, 5] hF hS (fun hS => C_store_Store_Len N (T_store_Store.mk x64.2.chains x64.2.floor) p65 m66 c67 b17 ⟨rfl, hS.pick [1] (by kernel_rfl)⟩ hx73) ?_)
 rintro _ κ w a ⟨rfl, h2⟩ hF hB
 have hS := (hB _ _ h2).cC (C' := [.box b17 130 [(1, [.map p65]), su x64.2.floor], .ext (objX p65 (.map m66 c67)), .box b12 130 [(1, [.map p69]), su x68.2.floor], .ext (objX p69 (.map m70 c71)), .tok p46 37 6 (x45).length c47, .box b43 37 [sg x42.1.Key, sg x42.1.Val, sb x42.1.Gone, su x42.1.TS, si x42.1.DC, si x42.1.Tx]])
 refine wp 5 [2, 3, 4, 5, 13, 14, 15, 16, 17, 79] hF fun a hF => ?_
 refine bif_split hv63 (fun hb hv63 => ?_) (fun hb hv63 => ?_)
 have hF := hF.boolv 79 (by kernel_rfl) hb
 refine wp 7 [4, 5, 13, 14, 15, 16, 17, 86] hF fun a hF => ?_
 refine wpListIn_nil ?_
 cases hv63
 exact ⟨_, p65, m66, c67, p69, m70, c71, hF.kp [4, 5, 13, 14, 15, 16, 17, 86], hS.sp [0, 2, 5, 1, 3] [0, 1], trivial⟩
 have hF := hF.boolv 79 (by kernel_rfl) hb
 refine wp 3 [4, 5, 13, 14, 15, 16, 17, 79, 80, 81, 82] hF fun a hF => ?_
 refine bind_split hv63 (fun x74 hx74 hv63 => ?_)
 refine wcg hF (wcS 2 [2, 3, 0, 1, 4, 5] hF hS (fun hS => C_law10_All N (T_store_Store.mk x68.2.chains x68.2.floor) a5 a6 p69 m70 c71 b12 ⟨rfl, hS.pick [0] (by kernel_rfl)⟩ hx74) ?_)
 rintro _ κ w a ⟨p75, c76, rfl, h2⟩ hF hB
 have hS := hB _ _ h2
 refine wp 3 [4, 5, 13, 14, 15, 16, 17, 86] hF fun a hF => ?_
 refine wpListIn_nil ?_
 cases hv63
 exact ⟨_, p65, m66, c67, p69, m70, c71, hF.kp [4, 5, 13, 14, 15, 16, 17, 86], hS.sp [3, 0, 6, 4, 1] [1, 2], trivial⟩
 rintro a w ⟨κ, p52, m53, c54, p57, m58, c59, hF, hS, -⟩
 refine hK51 _ _ ?_
 refine bif_split H (fun hb H => ?_) (fun hb H => ?_)
 refine cond_t hF (by kernel_rfl) hb ?_
 refine wpIn_seq_k fun K77 hK77 => ?_
 refine wpIn_region_lit ?_
 refine wp 1 [12] hF fun a hF => ?_
 refine wpListIn_nil ?_
 refine hK77 _ _ ?_
 refine wpIn_ret ?_
 cases H
 exact (ret_done hF hS (res1 Try.results11 (rvt hF)) ⟨rfl, (hS.pick [] (by kernel_rfl)).ro, hS.newC [] (by decide) (by kernel_rfl)⟩)
 refine cond_f hF (by kernel_rfl) hb ?_
 refine wpIn_skip ?_
 refine hK50 _ _ ?_
 refine wpIn_seq_k fun K78 hK78 => ?_
 refine wpIn_region_lit ?_
 refine wp 3 [4, 5, 13, 15, 16, 17, 88, 89, 90] hF fun a hF => ?_
 refine bind_split H (fun x79 hx79 H => ?_)
 refine wc (wcS 2 [0, 3, 1, 2, 4] hF hS (fun hS => C_store_Store_Get N (T_store_Store.mk v63.1 v63.2.1) a7 a8 p52 m53 c54 b17 ⟨rfl, hS.pick [1] (by kernel_rfl)⟩ hx79) ?_)
 rintro _ κ w a ⟨rfl, h2⟩ hF hB
 have hS := hB _ _ h2
 refine wp 4 [4, 5, 13, 15, 16, 17, 92, 93, 94] hF fun a hF => ?_
 refine wc (wal hF hS [sg ByteArray.empty, sg ByteArray.empty, sb false, su 0, si 0, si 0] (sgN 6 sgNil) fun b80 a w hF hS => ?_)
 refine wc (wst hF hS 0 0 6 [sg x79.1.Key, sg x79.1.Val, sb x79.1.Gone, su x79.1.TS, si x79.1.DC, si x79.1.Tx] (sgN 6 sgNil) fun a w hF hS => ?_)
 refine wp 2 [4, 5, 13, 15, 16, 17, 20, 21, 22] hF fun a hF => ?_
 refine wpListIn_nil ?_
 refine hK78 _ _ ?_
 refine seq_join (fun a w => ∃ (κ : Gh) (y81 y82 : ByteArray) (y83 : Bool) (y84 y85 y86 : Int) (y87 : Bool) (y88 : Int), Fr (121) [] [(15, pt b43 0), (16, vb x42.2.1), (17, vi x42.2.2), (20, pt b80 0), (21, vb y87), (22, vi y88)] a ∧ SS [] κ0 w0 κ w [.box b80 37 [sg y81, sg y82, sb y83, su y84, si y85, si y86], .box b43 37 [sg x42.1.Key, sg x42.1.Val, sb x42.1.Gone, su x42.1.TS, si x42.1.DC, si x42.1.Tx]] [] ∧ M.law10_StoreMoves_k1 N x42 y81 y82 y83 y84 y85 y86 y87 y88 = some r) ?_ ?_
 refine wpIn_seq_k fun K93 hK93 => ?_
 refine wpIn_region_lit ?_
 refine wp 2 [4, 5, 13, 15, 16, 17, 20, 21, 22, 96] hF fun a hF => ?_
 refine wpListIn_nil ?_
 refine hK93 _ _ ?_
 refine bif_split H (fun hb H => ?_) (fun hb H => ?_)
 refine cond_t hF (by kernel_rfl) hb ?_
 refine wpIn_region_lit ?_
 refine wp 3 [15, 16, 17, 20, 98, 99, 100] hF fun a hF => ?_
 refine bind_split H (fun x94 hx94 H => ?_)
 refine wc (wcS 2 [3, 5, 0, 1, 2, 4] hF hS (fun hS => C_store_Store_Get N (T_store_Store.mk v63.2.2.1 v63.2.2.2.1) a7 a8 p57 m58 c59 b12 ⟨rfl, hS.pick [0] (by kernel_rfl)⟩ hx94) ?_)
 rintro _ κ w a ⟨rfl, h2⟩ hF hB
 have hS := (hB _ _ h2).cC (C' := [.box b12 130 [(1, [.map p57]), su v63.2.2.2.1], .ext (objX p57 (.map m58 c59)), .box b80 37 [sg x79.1.Key, sg x79.1.Val, sb x79.1.Gone, su x79.1.TS, si x79.1.DC, si x79.1.Tx], .box b17 130 [(1, [.map p52]), su v63.2.1], .ext (objX p52 (.map m53 c54)), .box b43 37 [sg x42.1.Key, sg x42.1.Val, sb x42.1.Gone, su x42.1.TS, si x42.1.DC, si x42.1.Tx]])
 refine wp 4 [15, 16, 17, 20, 102, 103, 104] hF fun a hF => ?_
 refine wc (wst hF hS 2 0 6 [sg x94.1.Key, sg x94.1.Val, sb x94.1.Gone, su x94.1.TS, si x94.1.DC, si x94.1.Tx] (sgN 6 sgNil) fun a w hF hS => ?_)
 refine wp 2 [15, 16, 17, 20, 21, 22] hF fun a hF => ?_
 refine wpListIn_nil ?_
 exact ⟨_, x94.1.Key, x94.1.Val, x94.1.Gone, x94.1.TS, x94.1.DC, x94.1.Tx, x94.2.1, x94.2.2, hF.kp [15, 16, 17, 20, 21, 22], hS.sp [2, 5] [], H⟩
 refine cond_f hF (by kernel_rfl) hb ?_
 refine wpIn_skip ?_
 exact ⟨_, x79.1.Key, x79.1.Val, x79.1.Gone, x79.1.TS, x79.1.DC, x79.1.Tx, x79.2.1, x79.2.2, hF.kp [15, 16, 17, 20, 21, 22], hS.sp [0, 4] [], H⟩
 rintro a w ⟨κ, y81, y82, y83, y84, y85, y86, y87, y88, hF, hS, H⟩
 unfold M.law10_StoreMoves_k1 at H
 refine wpIn_seq_k fun K89 hK89 => ?_
 refine wpIn_region_lit ?_
 refine bind_split H (fun v91 hv91 H => ?_)
 refine wl_join (fun a w => ∃ κ : Gh, Fr (121) [] [(12, vb v91)] a ∧ SS [] κ0 w0 κ w [] [] ∧ True) ?_ ?_
 refine bind_split hv91 (fun x92 hx92 hv91 => ?_)
 refine wc (wo_callP hF hS (by kernel_rfl) (by kernel_rfl) (C_law10_awake N hS.fresh   ((hS.pick [] (by kernel_rfl)).ro) hx92) ?_)
 rintro _ κ w a ⟨rfl, hR, hN⟩ hF hS hO
 refine wp 1 [15, 16, 17, 20, 21, 22, 106] hF fun a hF => ?_
 refine bif_split hv91 (fun hb hv91 => ?_) (fun hb hv91 => ?_)
 have hF := hF.boolv 106 (by kernel_rfl) hb
 refine wp 5 [15, 16, 20, 21, 111] hF fun a hF => ?_
 refine bif_split hv91 (fun hb hv91 => ?_) (fun hb hv91 => ?_)
 have hF := hF.boolv 111 (by kernel_rfl) hb
 refine wl_pure (L' := [(15, pt b43 0), (20, pt b80 0), (116, vb (x42.2.1 == y87))]) 5 [15, 20, 116] hF (by kernel_rfl) fun a hF => ?_
 refine bif_split hv91 (fun hb hv91 => ?_) (fun hb hv91 => ?_)
 have hF := hF.boolv 116 (by kernel_rfl) hb
 refine wcg hF (wls hF hS 0 0 6 fun a hF => ?_)
 refine wcg hF (wls hF hS 1 0 6 fun a hF => ?_)
 refine wcg hF (wo_val hF (by kernel_rfl) (v := vb (cEq (flat [sg y81, sg y82, sb y83, su y84, si y85, si y86]) (flat [sg x42.1.Key, sg x42.1.Val, sb x42.1.Gone, su x42.1.TS, si x42.1.DC, si x42.1.Tx]))) ((val_eq (neg := false) (xs := (flat [sg y81, sg y82, sb y83, su y84, si y85, si y86])) (ys := (flat [sg x42.1.Key, sg x42.1.Val, sb x42.1.Gone, su x42.1.TS, si x42.1.DC, si x42.1.Tx])) (ks := [.str, .str, .bool, .int .u64, .int .i64, .int .i64]) 20 (by decide) rfl (by kernel_rfl) (by kernel_rfl) (by kernel_rfl) (by kernel_rfl) (by kernel_rfl) (by kernel_rfl) (by kernel_rfl)) _) fun a hF => ?_)
 refine wp 2 [12] hF fun a hF => ?_
 refine wpListIn_nil ?_
 cases hv91
 exact ⟨_, hF.kp [12], hS.sp [] [], trivial⟩
 have hF := hF.boolv 116 (by kernel_rfl) hb
 refine wp 5 [12] hF fun a hF => ?_
 refine wpListIn_nil ?_
 cases hv91
 exact ⟨_, hF.kp [12], hS.sp [] [], trivial⟩
 have hF := hF.boolv 111 (by kernel_rfl) hb
 refine wp 10 [12] hF fun a hF => ?_
 refine wpListIn_nil ?_
 cases hv91
 exact ⟨_, hF.kp [12], hS.sp [] [], trivial⟩
 have hF := hF.boolv 106 (by kernel_rfl) hb
 refine wp 15 [12] hF fun a hF => ?_
 refine wpListIn_nil ?_
 cases hv91
 exact ⟨_, hF.kp [12], hS.sp [] [], trivial⟩
 rintro a w ⟨κ, hF, hS, -⟩
 refine hK89 _ _ ?_
 refine wpIn_ret ?_
 cases H
 exact (ret_done hF hS (res1 Try.results11 (rvt hF)) ⟨rfl, (hS.pick [] (by kernel_rfl)).ro, hS.newC [] (by decide) (by kernel_rfl)⟩)
end Go.Cf
