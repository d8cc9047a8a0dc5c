/- The walks: each function returns what its model says. Printed by a program of ours. -/
import Derived.Test.YteeafoagaaedcaaZMn4
import Derived.Test.YteeafoagaaedcaaZWt2
import Derived.Test.YteeafoagaaedcaaZMt1
import Derived.Test.YteeafoagaaedcaaZMt2
import Derived.Test.YteeafoagaaedcaaZWt1
import Derived.Test.YteeafoagaaedcaaZWn1
import Derived.Test.YteeafoagaaedcaaZWn2
import Derived.Test.YteeafoagaaedcaaZWn3
namespace Go.Cf
open Go Go.Proofs
set_option linter.unusedVariables false
set_option maxRecDepth 20000 in
set_option maxHeartbeats 8000000 in
theorem C_node_Node_Versions (N : Nat) {Ms : List Nat} {κ0 : Gh} {w0 : World} (a1 : T_node_Node) (a18 : ByteArray) (a19 : ByteArray) (b2 : Nat) (p3 : Option Nat) (m4 : Array MapEntry) (c5 : Nat) (b6 : Nat) (p7 : Option Nat) (m8 : Array MapEntry) (c9 : Nat) (p10 : Option Nat) (m11 : Array MapEntry) (c12 : Nat) (p13 : Option Addr) (c14 : Nat) (p15 : Option Addr) (c16 : Nat) (b17 : Nat) (hB : SB Ms κ0 w0 [.box b17 151 [si a1.dc, (1, [pt b2 0]), (1, [pt b6 0]), (1, [.map p10]), sl p13 (a1.owned).length c14, sl p15 (a1.modes).length c16], .box b2 130 [(1, [.map p3]), su a1.store.floor], .ext (objX p3 (.map m4 c5)), .box b6 174 [su a1.part.clock, (1, [.map p7])], .ext (objX p7 (.map m8 c9)), .ext (objX p10 (.map m11 c12))] [Map.mp kStr false (tSl f_api_Ver.ty) p3 m4 c5 a1.store.chains, Map.mp (kInt .u64) false (fInt .u64).ty p7 m8 c9 a1.part.open_, Map.mp (kInt .u64) false (tSl f_api_Ver.ty) p10 m11 c12 a1.writes, Ro.mp f_span_Shard.ty p13 c14 a1.owned, Ro.mp (fInt .u64).ty p15 c16 a1.modes]) {r : (Unit)} (H : M.node_Node_Versions N a1 a18 a19 = some r) :
    Calls Try.prog 103 #[pt b17 0, .string (a18), .string (a19)] w0 (Post Ms κ0 w0 fun v κ w => ∃ (b28 b29 b30 : Nat), v = .func (.func 79) #[] #[pt b28 0, pt b29 0, pt b30 0] ∧ SS Ms κ0 w0 κ w [.box b17 151 [si a1.dc, (1, [pt b2 0]), (1, [pt b6 0]), (1, [.map p10]), sl p13 (a1.owned).length c14, sl p15 (a1.modes).length c16], .box b2 130 [(1, [.map p3]), su a1.store.floor], .ext (objX p3 (.map m4 c5)), .box b6 174 [su a1.part.clock, (1, [.map p7])], .ext (objX p7 (.map m8 c9)), .ext (objX p10 (.map m11 c12)), .box b28 55 [(1, [pt b2 0])], .box b29 9 [sg a18], .box b30 9 [sg a19]] []) := by
 have hS := hB.hS
 have hfr := hS.fresh
 refine enter (N := (19)) (L := [(0, pt b17 0), (1, .string (a18)), (2, .string (a19))]) Try.func103 rfl Try.ntmps103 (show 3 ≤ (19) by decide) rfl fun a hF => ?_
 unfold M.node_Node_Versions at H
 refine wpIn_seq_k fun K20 hK20 => ?_
 refine wpIn_region_lit ?_
 refine wp 1 [0, 1, 2] hF fun a hF => ?_
 refine wpListIn_nil ?_
 refine hK20 _ _ ?_
 refine wpIn_seq_k fun K21 hK21 => ?_
 refine wpIn_seq_k fun K22 hK22 => ?_
 refine wpIn_region_lit ?_
 refine wp 2 [0, 1, 2, 8] hF fun a hF => ?_
 refine wpListIn_nil ?_
 refine hK22 _ _ ?_
 refine cond_f hF (by kernel_rfl) rfl ?_
 refine wpIn_skip ?_
 refine hK21 _ _ ?_
 refine wpIn_seq_k fun K23 hK23 => ?_
 refine wpIn_region_lit ?_
 refine wp 3 [1, 2, 14] hF fun a hF => ?_
 refine wc (wld hF hS 0 1 0 fun a hF => ?_)
 refine wp 2 [15, 16, 17] hF fun a hF => ?_
 refine bind_split H (fun x24 hx24 H => ?_)
 refine wc (wcS 2 [1, 2, 0, 3, 4, 5] hF hS (fun hS => C_store_Store_All N (T_store_Store.mk a1.store.chains a1.store.floor) a18 a19 p3 m4 c5 b2 ⟨rfl, hS.pick [0] (by kernel_rfl)⟩ hx24) ?_)
 rintro _ κ w a ⟨b25, b26, b27, rfl, h2⟩ hF hB
 have hS := hB _ _ h2
 refine wp 1 [6] hF fun a hF => ?_
 refine wpListIn_nil ?_
 refine hK23 _ _ ?_
 refine wpIn_ret ?_
 cases H
 exact ret_done hF hS (res1 Try.results103 (rvt hF)) ⟨b25, b26, b27, rfl, hS.sp [5, 0, 1, 6, 7, 8, 2, 3, 4] []⟩
set_option maxRecDepth 20000 in
set_option maxHeartbeats 8000000 in
theorem C_node_Node_Open (N : Nat) {Ms : List Nat} {κ0 : Gh} {w0 : World} (a1 : T_node_Node) (b2 : Nat) (p3 : Option Nat) (m4 : Array MapEntry) (c5 : Nat) (b6 : Nat) (p7 : Option Nat) (m8 : Array MapEntry) (c9 : Nat) (p10 : Option Nat) (m11 : Array MapEntry) (c12 : Nat) (p13 : Option Addr) (c14 : Nat) (p15 : Option Addr) (c16 : Nat) (b17 : Nat) (hB : SB Ms κ0 w0 [.box b17 151 [si a1.dc, (1, [pt b2 0]), (1, [pt b6 0]), (1, [.map p10]), sl p13 (a1.owned).length c14, sl p15 (a1.modes).length c16], .box b2 130 [(1, [.map p3]), su a1.store.floor], .ext (objX p3 (.map m4 c5)), .box b6 174 [su a1.part.clock, (1, [.map p7])], .ext (objX p7 (.map m8 c9)), .ext (objX p10 (.map m11 c12))] [Map.mp kStr false (tSl f_api_Ver.ty) p3 m4 c5 a1.store.chains, Map.mp (kInt .u64) false (fInt .u64).ty p7 m8 c9 a1.part.open_, Map.mp (kInt .u64) false (tSl f_api_Ver.ty) p10 m11 c12 a1.writes, Ro.mp f_span_Shard.ty p13 c14 a1.owned, Ro.mp (fInt .u64).ty p15 c16 a1.modes]) {r : (Int)} (H : M.node_Node_Open N a1 = some r) :
    Calls Try.prog 69 #[pt b17 0] w0 (Post Ms κ0 w0 fun v κ w => v = vi r ∧ SS Ms κ0 w0 κ w [.box b17 151 [si a1.dc, (1, [pt b2 0]), (1, [pt b6 0]), (1, [.map p10]), sl p13 (a1.owned).length c14, sl p15 (a1.modes).length c16], .box b2 130 [(1, [.map p3]), su a1.store.floor], .ext (objX p3 (.map m4 c5)), .box b6 174 [su a1.part.clock, (1, [.map p7])], .ext (objX p7 (.map m8 c9)), .ext (objX p10 (.map m11 c12))] []) := by
 have hS := hB.hS
 have hfr := hS.fresh
 refine enter (N := (10)) (L := [(0, pt b17 0)]) Try.func69 rfl Try.ntmps69 (show 1 ≤ (10) by decide) rfl fun a hF => ?_
 unfold M.node_Node_Open at H
 refine wpIn_seq_k fun K18 hK18 => ?_
 refine wpIn_region_lit ?_
 refine wp 1 [0] hF fun a hF => ?_
 refine wpListIn_nil ?_
 refine hK18 _ _ ?_
 refine wpIn_seq_k fun K19 hK19 => ?_
 refine wpIn_seq_k fun K20 hK20 => ?_
 refine wpIn_region_lit ?_
 refine wp 2 [0, 4] hF fun a hF => ?_
 refine wpListIn_nil ?_
 refine hK20 _ _ ?_
 refine cond_f hF (by kernel_rfl) rfl ?_
 refine wpIn_skip ?_
 refine hK19 _ _ ?_
 refine wpIn_seq_k fun K21 hK21 => ?_
 refine wpIn_region_lit ?_
 refine wp 3 [7] hF fun a hF => ?_
 refine wc (wld hF hS 0 2 0 fun a hF => ?_)
 refine bind_split H (fun x22 hx22 H => ?_)
 refine wc (wcS 2 [3, 4, 0, 1, 2, 5] hF hS (fun hS => C_part_Part_Open N (T_part_Part.mk a1.part.clock a1.part.open_) p7 m8 c9 b6 ⟨rfl, hS.pick [1] (by kernel_rfl)⟩ hx22) ?_)
 rintro _ κ w a ⟨rfl, h2⟩ hF hB
 have hS := hB _ _ h2
 refine wp 1 [2] hF fun a hF => ?_
 refine wpListIn_nil ?_
 refine hK21 _ _ ?_
 refine wpIn_ret ?_
 cases H
 exact ret_done hF hS (res1 Try.results69 (rvt hF)) ⟨rfl, hS.sp [2, 3, 4, 0, 1, 5] []⟩
set_option maxRecDepth 20000 in
set_option maxHeartbeats 8000000 in
theorem C_law20_awake (N : Nat) {κ0 : Gh} {w0 : World} (hfr : Fresh κ0 w0)   (hR : ∀ m ∈ ([] : List MP), m.p κ0 w0) {r : (Bool)} (H : M.law20_awake N  = some r) :
    Calls Try.prog 64 #[] w0 (Post [] κ0 w0 fun v κ w => v = vb r ∧ (∀ m ∈ ([] : List MP), m.p κ w) ∧ NewC w0 κ w []) := by
 have hS := SS.start hfr hR
 refine enter (N := (34)) (L := []) Try.func64 rfl Try.ntmps64 (show 0 ≤ (34) by decide) rfl fun a hF => ?_
 unfold M.law20_awake at H
 refine wpIn_seq_k fun K1 hK1 => ?_
 refine wpIn_region_lit ?_
 refine wp 1 [] hF fun a hF => ?_
 refine wpListIn_nil ?_
 refine hK1 _ _ ?_
 refine wpIn_seq_k fun K2 hK2 => ?_
 refine wpIn_region_lit ?_
 refine bind_split H (fun x3 hx3 H => ?_)
 refine wc (wcS 0 [] hF hS (fun hS => C_node_New N 0   ⟨rfl, hS.pick [] (by kernel_rfl)⟩ hx3) ?_)
 rintro _ κ w a ⟨b4, b5, p6, m7, c8, b9, p10, m11, c12, p13, m14, c15, p16, c17, p18, c19, rfl, h2⟩ hF hB
 have hS := hB _ _ h2
 refine wp 1 [1] hF fun a hF => ?_
 refine wpListIn_nil ?_
 refine hK2 _ _ ?_
 refine wpIn_seq_k fun K20 hK20 => ?_
 refine wpIn_seq_k fun K21 hK21 => ?_
 refine wpIn_region_lit ?_
 refine wp 2 [1, 6] hF fun a hF => ?_
 refine wpListIn_nil ?_
 refine hK21 _ _ ?_
 refine cond_f hF (by kernel_rfl) rfl ?_
 refine wpIn_skip ?_
 refine hK20 _ _ ?_
 refine wpIn_seq_k fun K22 hK22 => ?_
 refine wpIn_region_lit ?_
 refine wp 2 [1, 7, 8] hF fun a hF => ?_
 have hS := hS.add (m := Ro.mp f_api_Ver.ty none 0 ([] : List T_api_Ver)) (Ro.nil f_api_Ver.ty _ _)
 have hS := hS.add (m := Ro.mp (fInt .u64).ty none 0 ([] : List Int)) (Ro.nil (fInt .u64).ty _ _)
 refine bind_split H (fun x23 hx23 H => ?_)
 refine wc (wcS 8 [0, 6, 7, 1, 2, 3, 4, 5] hF hS (fun hS => C_node_Node_Take N (T_node_Node.mk x3.dc (T_store_Store.mk x3.store.chains x3.store.floor) (T_part_Part.mk x3.part.clock x3.part.open_) x3.writes x3.owned x3.modes) (T_api_Msg.mk 6 0 0 0 ByteArray.empty ByteArray.empty ([] : List T_api_Ver) ([] : List Int) (T_api_Cmd.mk 0 0 0 0 0 ByteArray.empty)) 0 b5 p6 m7 c8 b9 p10 m11 c12 p13 m14 c15 p16 c17 p18 c19 none 0 none 0 b4 ⟨rfl, hS.pick [2, 3, 4, 5, 6, 1, 0] (by kernel_rfl)⟩ hx23) ?_)
 rintro _ κ w a ⟨p24, c25, p26, c27, b28, p29, m30, c31, b32, p33, m34, c35, p36, m37, c38, p39, c40, p41, c42, rfl, h2⟩ hF hB
 have hS := (hB _ _ h2).cC (C' := [.box b4 151 [si x23.2.2.dc, (1, [pt b28 0]), (1, [pt b32 0]), (1, [.map p36]), sl p39 (x23.2.2.owned).length c40, sl p41 (x23.2.2.modes).length c42], .tok p39 157 3 (x23.2.2.owned).length c40, .tok p41 25 1 (x23.2.2.modes).length c42, .box b28 130 [(1, [.map p29]), su x23.2.2.store.floor], .ext (objX p29 (.map m30 c31)), .box b32 174 [su x23.2.2.part.clock, (1, [.map p33])], .ext (objX p33 (.map m34 c35)), .ext (objX p36 (.map m37 c38)), .tok p24 37 6 (x23.1.Vers).length c25, .tok p26 25 1 (x23.1.Vec).length c27])
 refine wpListIn_nil ?_
 refine hK22 _ _ ?_
 refine wpIn_seq_k fun K43 hK43 => ?_
 refine wpIn_region_lit ?_
 refine wl_pure (L' := [(11, pt b4 0), (12, .agg (flat [sg (ByteArray.mk #[97]), sg (ByteArray.mk #[120]), sb false, su 0, si 0, si 0]).toArray)]) 2 [11, 12] hF (by kernel_rfl) fun a hF => ?_
 refine wc (wo_buildN (t := f_api_Ver) (z := .agg (flat [sg ByteArray.empty, sg ByteArray.empty, sb false, su 0, si 0, si 0]).toArray) (l := [(T_api_Ver.mk (ByteArray.mk #[97]) (ByteArray.mk #[120]) false 0 0 0)]) (vs := [(0, .agg (flat [sg (ByteArray.mk #[97]), sg (ByteArray.mk #[120]), sb false, su 0, si 0, si 0]).toArray)]) (cells := #[.string ((ByteArray.mk #[97])), .string ((ByteArray.mk #[120])), vb false, vu 0, vi 0, vi 0]) (E := 37) hF hS (by kernel_rfl) rfl (by kernel_rfl) (by kernel_rfl) rfl (by kernel_rfl) (by kernel_rfl) (by kernel_rfl) (by kernel_rfl) (by kernel_rfl) fun p44 κ a w hF hS => ?_)
 refine wp 1 [11, 14] hF fun a hF => ?_
 refine bind_split H (fun x45 hx45 H => ?_)
 refine wc (wcS 8 [1, 2, 3, 4, 5, 6, 7, 8, 0, 9, 10] hF hS (fun hS => C_node_Node_Take N (T_node_Node.mk x23.2.2.dc (T_store_Store.mk x23.2.2.store.chains x23.2.2.store.floor) (T_part_Part.mk x23.2.2.part.clock x23.2.2.part.open_) x23.2.2.writes x23.2.2.owned x23.2.2.modes) (T_api_Msg.mk 1 7 0 5 ByteArray.empty ByteArray.empty [(T_api_Ver.mk (ByteArray.mk #[97]) (ByteArray.mk #[120]) false 0 0 0)] ([] : List Int) (T_api_Cmd.mk 0 0 0 0 0 ByteArray.empty)) 0 b28 p29 m30 c31 b32 p33 m34 c35 p36 m37 c38 p39 c40 p41 c42 p44 1 none 0 b4 ⟨rfl, hS.pick [3, 4, 5, 6, 7, 0, 8] (by kernel_rfl)⟩ hx45) ?_)
 rintro _ κ w a ⟨p46, c47, p48, c49, b50, p51, m52, c53, b54, p55, m56, c57, p58, m59, c60, p61, c62, p63, c64, rfl, h2⟩ hF hB
 have hS := hB _ _ h2
 refine wp 3 [16, 17] hF fun a hF => ?_
 refine wc (wal hF hS [si 0, su 0, su 0, su 0, sg ByteArray.empty, sg ByteArray.empty, sl none 0 0, sl none 0 0, si 0, si 0, si 0, si 0, si 0, sg ByteArray.empty] (sgN 14 sgNil) fun b65 a w hF hS => ?_)
 refine wc (wst hF hS 0 0 14 [si x45.1.Kind, su x45.1.Id, su x45.1.N, su x45.1.TS, sg x45.1.Lo, sg x45.1.Hi, sl p46 (x45.1.Vers).length c47, sl p48 (x45.1.Vec).length c49, si x45.1.Cmd.Kind, si x45.1.Cmd.DC, si x45.1.Cmd.Shard, si x45.1.Cmd.Node, si x45.1.Cmd.Mode, sg x45.1.Cmd.Key] (sgN 14 sgNil) fun a w hF hS => ?_)
 refine wp 1 [2, 3] hF fun a hF => ?_
 refine wpListIn_nil ?_
 refine hK43 _ _ ?_
 refine wpIn_seq_k fun K66 hK66 => ?_
 refine wpIn_region_lit ?_
 refine bind_split H (fun v68 hv68 H => ?_)
 refine wl_join (fun a w => ∃ κ : Gh, Fr (34) [] [(0, vb v68)] a ∧ SS [] κ0 w0 κ w [] [] ∧ True) ?_ ?_
 refine wp 2 [2, 19] hF fun a hF => ?_
 refine bif_split hv68 (fun hb hv68 => ?_) (fun hb hv68 => ?_)
 have hF := hF.boolv 19 (by kernel_rfl) hb
 refine wp 1 [2, 19, 20] hF fun a hF => ?_
 refine wcg hF (wld hF hS 0 0 0 fun a hF => ?_)
 refine wp 3 [2, 24] hF fun a hF => ?_
 refine bif_split hv68 (fun hb hv68 => ?_) (fun hb hv68 => ?_)
 have hF := hF.boolv 24 (by kernel_rfl) hb
 refine wp 1 [2, 24, 25] hF fun a hF => ?_
 refine wcg hF (wld hF hS 0 1 0 fun a hF => ?_)
 refine wp 3 [2, 29] hF fun a hF => ?_
 refine bif_split hv68 (fun hb hv68 => ?_) (fun hb hv68 => ?_)
 have hF := hF.boolv 29 (by kernel_rfl) hb
 refine wp 1 [29, 30] hF fun a hF => ?_
 refine wcg hF (wld hF hS 0 3 0 fun a hF => ?_)
 refine wp 3 [0] hF fun a hF => ?_
 refine wpListIn_nil ?_
 cases hv68
 exact ⟨_, hF.kp [0], hS.sp [] [], trivial⟩
 have hF := hF.boolv 29 (by kernel_rfl) hb
 refine wp 5 [0] hF fun a hF => ?_
 refine wpListIn_nil ?_
 cases hv68
 exact ⟨_, hF.kp [0], hS.sp [] [], trivial⟩
 have hF := hF.boolv 24 (by kernel_rfl) hb
 refine wp 10 [0] hF fun a hF => ?_
 refine wpListIn_nil ?_
 cases hv68
 exact ⟨_, hF.kp [0], hS.sp [] [], trivial⟩
 have hF := hF.boolv 19 (by kernel_rfl) hb
 refine wp 15 [0] hF fun a hF => ?_
 refine wpListIn_nil ?_
 cases hv68
 exact ⟨_, hF.kp [0], hS.sp [] [], trivial⟩
 rintro a w ⟨κ, hF, hS, -⟩
 refine hK66 _ _ ?_
 refine wpIn_ret ?_
 cases H
 exact (ret_done hF hS (res1 Try.results64 (rvt hF)) ⟨rfl, (hS.pick [] (by kernel_rfl)).ro, hS.newC [] (by decide) (by kernel_rfl)⟩)
set_option maxRecDepth 20000 in
set_option maxHeartbeats 8000000 in
theorem C_law20_Few (N : Nat) {κ0 : Gh} {w0 : World} (hfr : Fresh κ0 w0) (a1 : T_api_Msg) (p2 : Option Addr) (c3 : Nat) (p4 : Option Addr) (c5 : Nat) (hR : ∀ m ∈ ([Ro.mp f_api_Ver.ty p2 c3 a1.Vers, Ro.mp (fInt .u64).ty p4 c5 a1.Vec] : List MP), m.p κ0 w0) {r : (T_api_Msg)} (H : M.law20_Few N a1 = some r) :
    Calls Try.prog 68 #[.agg (flat [si a1.Kind, su a1.Id, su a1.N, su a1.TS, sg a1.Lo, sg a1.Hi, sl p2 (a1.Vers).length c3, sl p4 (a1.Vec).length c5, si a1.Cmd.Kind, si a1.Cmd.DC, si a1.Cmd.Shard, si a1.Cmd.Node, si a1.Cmd.Mode, sg a1.Cmd.Key]).toArray] w0 (Post [] κ0 w0 fun v κ w => ∃ (p18 : Option Addr) (c19 : Nat) (p20 : Option Addr) (c21 : Nat), v = .agg (flat [si r.Kind, su r.Id, su r.N, su r.TS, sg r.Lo, sg r.Hi, sl p18 (r.Vers).length c19, sl p20 (r.Vec).length c21, si r.Cmd.Kind, si r.Cmd.DC, si r.Cmd.Shard, si r.Cmd.Node, si r.Cmd.Mode, sg r.Cmd.Key]).toArray ∧ (∀ m ∈ ([Ro.mp f_api_Ver.ty p18 c19 r.Vers, Ro.mp (fInt .u64).ty p20 c21 r.Vec] : List MP), m.p κ w) ∧ NewC w0 κ w []) := by
 have hS := SS.start hfr hR
 refine enter (N := (20)) (L := [(0, .agg (flat [si a1.Kind, su a1.Id, su a1.N, su a1.TS, sg a1.Lo, sg a1.Hi, sl p2 (a1.Vers).length c3, sl p4 (a1.Vec).length c5, si a1.Cmd.Kind, si a1.Cmd.DC, si a1.Cmd.Shard, si a1.Cmd.Node, si a1.Cmd.Mode, sg a1.Cmd.Key]).toArray)]) Try.func68 rfl Try.ntmps68 (show 1 ≤ (20) by decide) rfl fun a hF => ?_
 unfold M.law20_Few at H
 refine wpIn_seq_k fun K6 hK6 => ?_
 refine wpIn_region_lit ?_
 refine wc (wbx hF hS [si a1.Kind, su a1.Id, su a1.N, su a1.TS, sg a1.Lo, sg a1.Hi, sl p2 (a1.Vers).length c3, sl p4 (a1.Vec).length c5, si a1.Cmd.Kind, si a1.Cmd.DC, si a1.Cmd.Shard, si a1.Cmd.Node, si a1.Cmd.Mode, sg a1.Cmd.Key] (sgN 14 sgNil) fun b7 a w hF hS => ?_)
 refine wc (wal hF hS [si 0, su 0, su 0, su 0, sg ByteArray.empty, sg ByteArray.empty, sl none 0 0, sl none 0 0, si 0, si 0, si 0, si 0, si 0, sg ByteArray.empty] (sgN 14 sgNil) fun b8 a w hF hS => ?_)
 refine wpListIn_nil ?_
 refine hK6 _ _ ?_
 refine wpIn_seq_k fun K9 hK9 => ?_
 refine wpIn_region_lit ?_
 refine wp 1 [1, 2, 3] hF fun a hF => ?_
 refine wc (wld hF hS 1 6 0 fun a hF => ?_)
 refine wp 1 [1, 2, 4, 5] hF fun a hF => ?_
 refine wc (wld hF hS 1 6 0 fun a hF => ?_)
 refine wl_pure (L' := [(1, pt b7 0), (2, pt b8 0), (4, .slice p2 (a1.Vers).length c3), (8, vi (if 12 < ((a1.Vers).length : Int) then 12 else ((a1.Vers).length : Int)))]) 2 [1, 2, 4, 8] hF (by kernel_rfl) fun a hF => ?_
 refine bind_split H (fun x10 hx10 H => ?_)
 refine wc (wo_slice hF hS (by kernel_rfl) 0 (E := 37) (lo := 0) (hi := (if 12 < ((a1.Vers).length : Int) then 12 else ((a1.Vers).length : Int))) rfl rfl rfl (by kernel_rfl) rfl ⟨_, rfl⟩ hx10 (by kernel_rfl) (by kernel_rfl) fun p11 c12 a hF hS => ?_)
 refine wp 1 [1, 2, 9, 10] hF fun a hF => ?_
 refine wc (wst hF hS 1 6 1 [sl p11 (x10).length c12] (sgN 1 sgNil) fun a w hF hS => ?_)
 refine wpListIn_nil ?_
 refine hK9 _ _ ?_
 refine wpIn_seq_k fun K13 hK13 => ?_
 refine wpIn_region_lit ?_
 refine wp 1 [1, 2, 11] hF fun a hF => ?_
 refine wc (wld hF hS 1 7 0 fun a hF => ?_)
 refine wp 1 [1, 2, 12, 13] hF fun a hF => ?_
 refine wc (wld hF hS 1 7 0 fun a hF => ?_)
 refine wl_pure (L' := [(1, pt b7 0), (2, pt b8 0), (12, .slice p4 (a1.Vec).length c5), (16, vi (if 40 < ((a1.Vec).length : Int) then 40 else ((a1.Vec).length : Int)))]) 2 [1, 2, 12, 16] hF (by kernel_rfl) fun a hF => ?_
 refine bind_split H (fun x14 hx14 H => ?_)
 refine wc (wo_slice hF hS (by kernel_rfl) 2 (E := 25) (lo := 0) (hi := (if 40 < ((a1.Vec).length : Int) then 40 else ((a1.Vec).length : Int))) rfl rfl rfl (by kernel_rfl) rfl ⟨_, rfl⟩ hx14 (by kernel_rfl) (by kernel_rfl) fun p15 c16 a hF hS => ?_)
 refine wp 1 [1, 2, 17, 18] hF fun a hF => ?_
 refine wc (wst hF hS 1 7 1 [sl p15 (x14).length c16] (sgN 1 sgNil) fun a w hF hS => ?_)
 refine wpListIn_nil ?_
 refine hK13 _ _ ?_
 refine wpIn_seq_k fun K17 hK17 => ?_
 refine wpIn_region_lit ?_
 refine wc (wls hF hS 1 0 14 fun a hF => ?_)
 refine wc (wst hF hS 0 0 14 [si a1.Kind, su a1.Id, su a1.N, su a1.TS, sg a1.Lo, sg a1.Hi, sl p11 (x10).length c12, sl p15 (x14).length c16, si a1.Cmd.Kind, si a1.Cmd.DC, si a1.Cmd.Shard, si a1.Cmd.Node, si a1.Cmd.Mode, sg a1.Cmd.Key] (sgN 14 sgNil) fun a w hF hS => ?_)
 refine wpListIn_nil ?_
 refine hK17 _ _ ?_
 refine wpIn_ret ?_
 have hS' := hS
 cases H
 exact (ret_done hF hS (res1 Try.results68 (rvs hF hS' 0 0 14)) ⟨p11, c12, p15, c16, rfl, (hS.pick [1, 0] (by kernel_rfl)).ro, hS.newC [] (by decide) (by kernel_rfl)⟩)
set_option maxRecDepth 20000 in
set_option maxHeartbeats 8000000 in
theorem C_law20_all (N : Nat) {Ms : List Nat} {κ0 : Gh} {w0 : World} (a1 : T_node_Node) (a18 : ByteArray) (a19 : ByteArray) (b2 : Nat) (p3 : Option Nat) (m4 : Array MapEntry) (c5 : Nat) (b6 : Nat) (p7 : Option Nat) (m8 : Array MapEntry) (c9 : Nat) (p10 : Option Nat) (m11 : Array MapEntry) (c12 : Nat) (p13 : Option Addr) (c14 : Nat) (p15 : Option Addr) (c16 : Nat) (b17 : Nat) (hB : SB Ms κ0 w0 [.box b17 151 [si a1.dc, (1, [pt b2 0]), (1, [pt b6 0]), (1, [.map p10]), sl p13 (a1.owned).length c14, sl p15 (a1.modes).length c16], .box b2 130 [(1, [.map p3]), su a1.store.floor], .ext (objX p3 (.map m4 c5)), .box b6 174 [su a1.part.clock, (1, [.map p7])], .ext (objX p7 (.map m8 c9)), .ext (objX p10 (.map m11 c12))] [Map.mp kStr false (tSl f_api_Ver.ty) p3 m4 c5 a1.store.chains, Map.mp (kInt .u64) false (fInt .u64).ty p7 m8 c9 a1.part.open_, Map.mp (kInt .u64) false (tSl f_api_Ver.ty) p10 m11 c12 a1.writes, Ro.mp f_span_Shard.ty p13 c14 a1.owned, Ro.mp (fInt .u64).ty p15 c16 a1.modes]) {r : ((List T_api_Ver))} (H : M.law20_all N a1 a18 a19 = some r) :
    Calls Try.prog 66 #[pt b17 0, .string (a18), .string (a19)] w0 (Post Ms κ0 w0 fun v κ w => ∃ (p92 : Option Addr) (c93 : Nat), v = .slice p92 (r).length c93 ∧ SS Ms κ0 w0 κ w [.box b17 151 [si a1.dc, (1, [pt b2 0]), (1, [pt b6 0]), (1, [.map p10]), sl p13 (a1.owned).length c14, sl p15 (a1.modes).length c16], .box b2 130 [(1, [.map p3]), su a1.store.floor], .ext (objX p3 (.map m4 c5)), .box b6 174 [su a1.part.clock, (1, [.map p7])], .ext (objX p7 (.map m8 c9)), .ext (objX p10 (.map m11 c12)), .tok p92 37 6 (r).length c93] [Ro.mp f_api_Ver.ty p92 c93 r]) := by
 have hS := hB.hS
 have hfr := hS.fresh
 refine enterM (N := (19)) (L := [(0, pt b17 0), (1, .string (a18)), (2, .string (a19))]) Try.func66 rfl Try.ntmps66 (show 3 ≤ (19) by decide) rfl fun a hF => ?_
 unfold M.law20_all at H
 refine wpIn_seq_k fun K20 hK20 => ?_
 refine wpIn_region_lit ?_
 refine wp 1 [0, 1, 2] hF fun a hF => ?_
 refine wpListIn_nil ?_
 refine hK20 _ _ ?_
 refine wpIn_seq_k fun K21 hK21 => ?_
 refine wpIn_region_lit ?_
 refine wc (wal hF hS [sl none 0 0] (sgN 1 sgNil) fun b22 a w hF hS => ?_)
 refine wpListIn_nil ?_
 refine hK21 _ _ ?_
 refine wpIn_seq_k fun K23 hK23 => ?_
 refine wpIn_seq_k fun K24 hK24 => ?_
 refine wpIn_region_lit ?_
 refine wl_pure (L' := [(7, pt b22 0), (9, pt b17 0), (10, .string (a18)), (11, .string (a19))]) 3 [7, 9, 10, 11] hF (by kernel_rfl) fun a hF => ?_
 refine bind_split H (fun x25 hx25 H => ?_)
 refine wc (wcS 6 [1, 2, 3, 4, 5, 6, 0] hF hS (fun hS => C_node_Node_Versions N (T_node_Node.mk a1.dc (T_store_Store.mk a1.store.chains a1.store.floor) (T_part_Part.mk a1.part.clock a1.part.open_) a1.writes a1.owned a1.modes) a18 a19 b2 p3 m4 c5 b6 p7 m8 c9 p10 m11 c12 p13 c14 p15 c16 b17 ⟨rfl, hS.pick (rg 5) (by kernel_rfl)⟩ hx25) ?_)
 rintro _ κ w a ⟨b26, b27, b28, rfl, h2⟩ hF hB
 have hS := hB _ _ h2
 refine wpListIn_nil ?_
 refine hK24 _ _ ?_
 refine wpIn_block ?_
 refine bind_split H (fun v90 hv90 H => ?_)
 have hS := hS.add (m := Ro.mp f_api_Ver.ty none 0 ([] : List T_api_Ver)) (Ro.nil f_api_Ver.ty _ _)
 have hS := hS.addNil 37 6
 have hS : SS Ms κ0 w0 _ _ [.box b17 151 [si a1.dc, (1, [pt b2 0]), (1, [pt b6 0]), (1, [.map p10]), sl p13 (a1.owned).length c14, sl p15 (a1.modes).length c16], .box b6 174 [su a1.part.clock, (1, [.map p7])], .box b22 39 [sl none 0 0], .tok none 37 6 0 0, .ext (objX p7 (.map m8 c9)), .ext (objX p10 (.map m11 c12)), .box b26 55 [(1, [pt b2 0])], .box b27 9 [sg a18], .box b28 9 [sg a19], .box b2 130 [(1, [.map p3]), su a1.store.floor], .ext (objX p3 (.map m4 c5))] _ := hS.selp [1, 4, 10, 0, 5, 6, 7, 8, 9, 2, 3] (by decide) (by kernel_rfl)
 refine wp_rangeC' (C := [.box b17 151 [si a1.dc, (1, [pt b2 0]), (1, [pt b6 0]), (1, [.map p10]), sl p13 (a1.owned).length c14, sl p15 (a1.modes).length c16], .box b6 174 [su a1.part.clock, (1, [.map p7])], .box b22 39 [sl none 0 0], .tok none 37 6 0 0, .ext (objX p7 (.map m8 c9)), .ext (objX p10 (.map m11 c12))]) (Cap := [.box b26 55 [(1, [pt b2 0])], .box b27 9 [sg a18], .box b28 9 [sg a19], .box b2 130 [(1, [.map p3]), su a1.store.floor], .ext (objX p3 (.map m4 c5))]) (Cap2 := [.box b26 55 [(1, [pt b2 0])], .box b27 9 [sg a18], .box b28 9 [sg a19], .box b2 130 [(1, [.map p3]), su a1.store.floor], .ext (objX p3 (.map m4 c5))]) (Rc := [Map.mp kStr false (tSl f_api_Ver.ty) p3 m4 c5 a1.store.chains]) (R' := [Map.mp kStr false (tSl f_api_Ver.ty) p3 m4 c5 a1.store.chains, Map.mp (kInt .u64) false (fInt .u64).ty p7 m8 c9 a1.part.open_, Map.mp (kInt .u64) false (tSl f_api_Ver.ty) p10 m11 c12 a1.writes, Ro.mp f_span_Shard.ty p13 c14 a1.owned, Ro.mp (fInt .u64).ty p15 c16 a1.modes, Ro.mp f_api_Ver.ty none 0 ([] : List T_api_Ver)]) (caps := #[pt b26 0, pt b27 0, pt b28 0]) (f := 79) [] (fun l => #[.func (.yield l) #[] #[], pt b26 0, pt b27 0, pt b28 0]) hF hS (by kernel_rfl) (fun _ _ => rfl) ((hS.pick [1, 2, 3, 4, 5, 0] (by kernel_rfl)).ro) (fun l => by kernel_rfl) fun b29 l rc w hrc hS => ?_
 refine ⟨fun x => (fun (v84 : ((List T_api_Ver) × Nat)) (x : XF) => ∃ (p82 : Option Addr) (c83 : Nat), x = mkX b29 l (lp rc [] v84.2) [.box b17 151 [si a1.dc, (1, [pt b2 0]), (1, [pt b6 0]), (1, [.map p10]), sl p13 (a1.owned).length c14, sl p15 (a1.modes).length c16], .box b6 174 [su a1.part.clock, (1, [.map p7])], .box b22 39 [sl p82 (v84.1).length c83], .tok p82 37 6 (v84.1).length c83, .ext (objX p7 (.map m8 c9)), .ext (objX p10 (.map m11 c12))] [Map.mp kStr false (tSl f_api_Ver.ty) p3 m4 c5 a1.store.chains, Map.mp (kInt .u64) false (fInt .u64).ty p7 m8 c9 a1.part.open_, Map.mp (kInt .u64) false (tSl f_api_Ver.ty) p10 m11 c12 a1.writes, Ro.mp f_span_Shard.ty p13 c14 a1.owned, Ro.mp (fInt .u64).ty p15 c16 a1.modes, Ro.mp f_api_Ver.ty p82 c83 v84.1]) v90 x, ?_, ?_⟩
 have hS := (hS.rebase.add (m := MP.const ((fun (v84 : ((List T_api_Ver) × Nat)) (x : XF) => ∃ (p82 : Option Addr) (c83 : Nat), x = mkX b29 l (lp rc [] v84.2) [.box b17 151 [si a1.dc, (1, [pt b2 0]), (1, [pt b6 0]), (1, [.map p10]), sl p13 (a1.owned).length c14, sl p15 (a1.modes).length c16], .box b6 174 [su a1.part.clock, (1, [.map p7])], .box b22 39 [sl p82 (v84.1).length c83], .tok p82 37 6 (v84.1).length c83, .ext (objX p7 (.map m8 c9)), .ext (objX p10 (.map m11 c12))] [Map.mp kStr false (tSl f_api_Ver.ty) p3 m4 c5 a1.store.chains, Map.mp (kInt .u64) false (fInt .u64).ty p7 m8 c9 a1.part.open_, Map.mp (kInt .u64) false (tSl f_api_Ver.ty) p10 m11 c12 a1.writes, Ro.mp f_span_Shard.ty p13 c14 a1.owned, Ro.mp (fInt .u64).ty p15 c16 a1.modes, Ro.mp f_api_Ver.ty p82 c83 v84.1]) (([] : List T_api_Ver), 0) (mkX b29 l (lp rc [] 0) [.box b17 151 [si a1.dc, (1, [pt b2 0]), (1, [pt b6 0]), (1, [.map p10]), sl p13 (a1.owned).length c14, sl p15 (a1.modes).length c16], .box b6 174 [su a1.part.clock, (1, [.map p7])], .box b22 39 [sl none 0 0], .tok none 37 6 0 0, .ext (objX p7 (.map m8 c9)), .ext (objX p10 (.map m11 c12))] [Map.mp kStr false (tSl f_api_Ver.ty) p3 m4 c5 a1.store.chains, Map.mp (kInt .u64) false (fInt .u64).ty p7 m8 c9 a1.part.open_, Map.mp (kInt .u64) false (tSl f_api_Ver.ty) p10 m11 c12 a1.writes, Ro.mp f_span_Shard.ty p13 c14 a1.owned, Ro.mp (fInt .u64).ty p15 c16 a1.modes, Ro.mp f_api_Ver.ty none 0 ([] : List T_api_Ver)]))) ⟨none, 0, rfl⟩).pick (R' := [Map.mp kStr false (tSl f_api_Ver.ty) p3 m4 c5 a1.store.chains, MP.const ((fun (v84 : ((List T_api_Ver) × Nat)) (x : XF) => ∃ (p82 : Option Addr) (c83 : Nat), x = mkX b29 l (lp rc [] v84.2) [.box b17 151 [si a1.dc, (1, [pt b2 0]), (1, [pt b6 0]), (1, [.map p10]), sl p13 (a1.owned).length c14, sl p15 (a1.modes).length c16], .box b6 174 [su a1.part.clock, (1, [.map p7])], .box b22 39 [sl p82 (v84.1).length c83], .tok p82 37 6 (v84.1).length c83, .ext (objX p7 (.map m8 c9)), .ext (objX p10 (.map m11 c12))] [Map.mp kStr false (tSl f_api_Ver.ty) p3 m4 c5 a1.store.chains, Map.mp (kInt .u64) false (fInt .u64).ty p7 m8 c9 a1.part.open_, Map.mp (kInt .u64) false (tSl f_api_Ver.ty) p10 m11 c12 a1.writes, Ro.mp f_span_Shard.ty p13 c14 a1.owned, Ro.mp (fInt .u64).ty p15 c16 a1.modes, Ro.mp f_api_Ver.ty p82 c83 v84.1]) (([] : List T_api_Ver), 0) (mkX b29 l (lp rc [] 0) [.box b17 151 [si a1.dc, (1, [pt b2 0]), (1, [pt b6 0]), (1, [.map p10]), sl p13 (a1.owned).length c14, sl p15 (a1.modes).length c16], .box b6 174 [su a1.part.clock, (1, [.map p7])], .box b22 39 [sl none 0 0], .tok none 37 6 0 0, .ext (objX p7 (.map m8 c9)), .ext (objX p10 (.map m11 c12))] [Map.mp kStr false (tSl f_api_Ver.ty) p3 m4 c5 a1.store.chains, Map.mp (kInt .u64) false (fInt .u64).ty p7 m8 c9 a1.part.open_, Map.mp (kInt .u64) false (tSl f_api_Ver.ty) p10 m11 c12 a1.writes, Ro.mp f_span_Shard.ty p13 c14 a1.owned, Ro.mp (fInt .u64).ty p15 c16 a1.modes, Ro.mp f_api_Ver.ty none 0 ([] : List T_api_Ver)]))]) [2, 0] (by kernel_rfl)
 refine C_store_Store_All_1 N (Y := (fun (v84 : ((List T_api_Ver) × Nat)) (x : XF) => ∃ (p82 : Option Addr) (c83 : Nat), x = mkX b29 l (lp rc [] v84.2) [.box b17 151 [si a1.dc, (1, [pt b2 0]), (1, [pt b6 0]), (1, [.map p10]), sl p13 (a1.owned).length c14, sl p15 (a1.modes).length c16], .box b6 174 [su a1.part.clock, (1, [.map p7])], .box b22 39 [sl p82 (v84.1).length c83], .tok p82 37 6 (v84.1).length c83, .ext (objX p7 (.map m8 c9)), .ext (objX p10 (.map m11 c12))] [Map.mp kStr false (tSl f_api_Ver.ty) p3 m4 c5 a1.store.chains, Map.mp (kInt .u64) false (fInt .u64).ty p7 m8 c9 a1.part.open_, Map.mp (kInt .u64) false (tSl f_api_Ver.ty) p10 m11 c12 a1.writes, Ro.mp f_span_Shard.ty p13 c14 a1.owned, Ro.mp (fInt .u64).ty p15 c16 a1.modes, Ro.mp f_api_Ver.ty p82 c83 v84.1])) (B := (fun (v84 : ((List T_api_Ver) × Nat)) x30 => bif (v84.2 == 0) then (Option.bind (apd v84.1 [(T_api_Ver.mk x30.Key x30.Val x30.Gone x30.TS x30.DC x30.Tx)]) fun x87 => (some (((x87, 0)), true))) else none)) (l := l) ?_ (T_store_Store.mk a1.store.chains a1.store.floor) a18 a19 b2 p3 m4 c5 hS hv90
 rintro v84 _ κ w x30  s' c ⟨p82, c83, rfl⟩ hp hf hnd hlt hR H
 refine bif_split H (fun hn H => ?_) (fun _ H => by cases H)
 refine round_at (L := [(7, pt b22 0), (13, .agg (flat [sg x30.Key, sg x30.Val, sb x30.Gone, su x30.TS, si x30.DC, si x30.Tx]).toArray)]) hp hf hnd hlt hn hrc rfl [7, 13] hF (by kernel_rfl) (by kernel_rfl) fun a hF hS => ?_
 have hS := hS.adds hR
 skip
 refine wpIn_region_lit ?_
 refine wc (wal hF hS [sg ByteArray.empty, sg ByteArray.empty, sb false, su 0, si 0, si 0] (sgN 6 sgNil) fun b85 a w hF hS => ?_)
 refine wc (wst hF hS 0 0 6 [sg x30.Key, sg x30.Val, sb x30.Gone, su x30.TS, si x30.DC, si x30.Tx] (sgN 6 sgNil) fun a w hF hS => ?_)
 refine wpListIn_nil ?_
 refine ⟨_, _, _, hS, fun wb hS => ?_⟩
 obtain ⟨κb, hκb⟩ : ∃ κb, κb = κ := ⟨_, rfl⟩
 subst hκb
 refine wpIn_block ?_
 refine wpIn_region_lit ?_
 refine wc (wld hF hS 3 0 0 fun a hF => ?_)
 refine wc (wls hF hS 0 0 6 fun a hF => ?_)
 refine wc (wo_buildN (t := f_api_Ver) (z := .agg (flat [sg ByteArray.empty, sg ByteArray.empty, sb false, su 0, si 0, si 0]).toArray) (l := [(T_api_Ver.mk x30.Key x30.Val x30.Gone x30.TS x30.DC x30.Tx)]) (vs := [(0, .agg (flat [sg x30.Key, sg x30.Val, sb x30.Gone, su x30.TS, si x30.DC, si x30.Tx]).toArray)]) (cells := #[.string (x30.Key), .string (x30.Val), vb x30.Gone, vu x30.TS, vi x30.DC, vi x30.Tx]) (E := 37) hF hS (by kernel_rfl) rfl (by kernel_rfl) (by kernel_rfl) rfl (by kernel_rfl) (by kernel_rfl) (by kernel_rfl) (by kernel_rfl) (by kernel_rfl) fun p86 κ a w hF hS => ?_)
 refine bind_split H (fun x87 hx87 H => ?_)
 refine wc (wo_append (ty := f_api_Ver.ty) hF hS (by kernel_rfl) 5 6 0 rfl rfl rfl (by kernel_rfl) (by kernel_rfl) rfl rfl rfl hx87 (by kernel_rfl) (i := Try.t37) (z := .agg (flat [sg ByteArray.empty, sg ByteArray.empty, sb false, su 0, si 0, si 0]).toArray) (by kernel_rfl) (by kernel_rfl) (by kernel_rfl) fun p88 c89 κ a w hF hS => ?_)
 refine wc (wst hF hS 4 0 1 [sl p88 (x87).length c89] (sgN 1 sgNil) fun a w hF hS => ?_)
 refine wpListIn_nil ?_
 cases H
 try dsimp only [Exit.inBlock, Exit.then]
 repeat rw [if_neg (by decide)]
 refine re_normal [] (C := [.box b17 151 [si a1.dc, (1, [pt b2 0]), (1, [pt b6 0]), (1, [.map p10]), sl p13 (a1.owned).length c14, sl p15 (a1.modes).length c16], .box b6 174 [su a1.part.clock, (1, [.map p7])], .box b22 39 [sl p88 (x87).length c89], .tok p88 37 6 (x87).length c89, .ext (objX p7 (.map m8 c9)), .ext (objX p10 (.map m11 c12))]) (R := [Map.mp kStr false (tSl f_api_Ver.ty) p3 m4 c5 a1.store.chains, Map.mp (kInt .u64) false (fInt .u64).ty p7 m8 c9 a1.part.open_, Map.mp (kInt .u64) false (tSl f_api_Ver.ty) p10 m11 c12 a1.writes, Ro.mp f_span_Shard.ty p13 c14 a1.owned, Ro.mp (fInt .u64).ty p15 c16 a1.modes, Ro.mp f_api_Ver.ty p88 c89 x87]) (hS.sp [2, 3, 4, 5, 6, 7] [2, 3, 4, 5, 6, 0]) ?_
 exact ⟨p88, c89, rfl⟩
 rintro _ ⟨p82, c83, rfl⟩
 refine ⟨_, _, _, rfl, fun κ w a hF hS => ?_⟩
 refine bif_split H (fun hb H => ?_) (fun hb H => ?_)
 refine jumped0 hb ?_
 refine hK23 _ _ ?_
 refine wpIn_seq_k fun K91 hK91 => ?_
 refine wpIn_region_lit ?_
 refine wc (wld hF hS 3 0 0 fun a hF => ?_)
 refine wl_pure (L' := [(6, .slice p82 (v90.1).length c83)]) 1 [6] hF (by kernel_rfl) fun a hF => ?_
 refine wpListIn_nil ?_
 refine hK91 _ _ ?_
 refine wpIn_ret ?_
 refine ret_doneM (C' := [.box b17 151 [si a1.dc, (1, [pt b2 0]), (1, [pt b6 0]), (1, [.map p10]), sl p13 (a1.owned).length c14, sl p15 (a1.modes).length c16], .box b6 174 [su a1.part.clock, (1, [.map p7])], .box b22 39 [sl p82 (v90.1).length c83], .tok p82 37 6 (v90.1).length c83, .ext (objX p7 (.map m8 c9)), .ext (objX p10 (.map m11 c12)), .box b26 55 [(1, [pt b2 0])], .box b27 9 [sg a18], .box b28 9 [sg a19], .box b2 130 [(1, [.map p3]), su a1.store.floor], .ext (objX p3 (.map m4 c5))]) hF hS 0 rfl (by kernel_rfl) fun w hS => ?_
 cases H
 exact ⟨_, (res1 Try.results66 (rvt hF)), ⟨p82, c83, rfl, hS.sp [0, 9, 10, 1, 4, 5, 3] [5]⟩⟩
 cases H
end Go.Cf
