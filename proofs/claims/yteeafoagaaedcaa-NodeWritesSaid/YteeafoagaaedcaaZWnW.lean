/- The walks: each function returns what its model says. Printed by a program of ours. -/
import Derived.Test.YteeafoagaaedcaaZMnW
import Derived.Test.YteeafoagaaedcaaZWt3
import Derived.Test.YteeafoagaaedcaaZWn2
import Derived.Test.YteeafoagaaedcaaZWn3
import Derived.Test.YteeafoagaaedcaaZWn4
namespace Go.Cf
open Go Go.Proofs
set_option linter.unusedVariables false
set_option maxRecDepth 20000 in
set_option maxHeartbeats 8000000 in
theorem C_law20_NodeWrites (N : Nat) {κ0 : Gh} {w0 : World} (hfr : Fresh κ0 w0) (a1 : Int) (a2 : Int) (a3 : Int) (a4 : T_api_Ver) (a5 : Int)  (hR : ∀ m ∈ ([] : List MP), m.p κ0 w0) {r : (Bool)} (H : M.law20_NodeWrites N a1 a2 a3 a4 a5 = some r) :
    Calls Try.prog 15 #[vu a1, vu a2, vi a3, .agg (flat [sg a4.Key, sg a4.Val, sb a4.Gone, su a4.TS, si a4.DC, si a4.Tx]).toArray, vu a5] w0 (Post [] κ0 w0 fun v κ w => v = vb r ∧ (∀ m ∈ ([] : List MP), m.p κ w) ∧ NewC w0 κ w []) := by
 have hS := SS.start hfr hR
 refine enter (N := (156)) (L := [(0, vu a1), (1, vu a2), (2, vi a3), (3, .agg (flat [sg a4.Key, sg a4.Val, sb a4.Gone, su a4.TS, si a4.DC, si a4.Tx]).toArray), (4, vu a5)]) Try.func15 rfl Try.ntmps15 (show 5 ≤ (156) by decide) rfl fun a hF => ?_
 unfold M.law20_NodeWrites at H
 refine wpIn_seq_k fun K6 hK6 => ?_
 refine wpIn_region_lit ?_
 refine wc (wbx hF hS [sg a4.Key, sg a4.Val, sb a4.Gone, su a4.TS, si a4.DC, si a4.Tx] (sgN 6 sgNil) fun b7 a w hF hS => ?_)
 refine wp 1 [0, 1, 2, 4, 8] hF fun a hF => ?_
 refine wpListIn_nil ?_
 refine hK6 _ _ ?_
 refine wpIn_seq_k fun K8 hK8 => ?_
 refine wpIn_region_lit ?_
 refine bind_split H (fun x9 hx9 H => ?_)
 refine wc (wcS 0 [0] hF hS (fun hS => C_node_New N 2   ⟨rfl, hS.pick [] (by kernel_rfl)⟩ hx9) ?_)
 rintro _ κ w a ⟨b10, b11, p12, m13, c14, b15, p16, m17, c18, p19, m20, c21, p22, c23, p24, c25, rfl, h2⟩ hF hB
 have hS := hB _ _ h2
 refine wp 1 [0, 1, 2, 4, 8, 11] hF fun a hF => ?_
 refine wpListIn_nil ?_
 refine hK8 _ _ ?_
 refine wpIn_seq_k fun K26 hK26 => ?_
 refine wpIn_seq_k fun K27 hK27 => ?_
 refine wpIn_region_lit ?_
 refine wp 2 [0, 1, 2, 4, 8, 11, 23] hF fun a hF => ?_
 refine wpListIn_nil ?_
 refine hK27 _ _ ?_
 refine cond_f hF (by kernel_rfl) rfl ?_
 refine wpIn_skip ?_
 refine hK26 _ _ ?_
 refine wpIn_seq_k fun K28 hK28 => ?_
 refine wpIn_region_lit ?_
 refine wp 2 [0, 1, 2, 4, 8, 11, 24, 25] hF fun a hF => ?_
 have hS := hS.add (m := Ro.mp f_api_Ver.ty none 0 ([] : List T_api_Ver)) (Ro.nil f_api_Ver.ty _ _)
 have hS := hS.add (m := Ro.mp (fInt .u64).ty none 0 ([] : List Int)) (Ro.nil (fInt .u64).ty _ _)
 refine bind_split H (fun x29 hx29 H => ?_)
 refine wc (wcS 8 [0, 6, 7, 1, 2, 3, 4, 5, 8] hF hS (fun hS => C_node_Node_Take N (T_node_Node.mk x9.dc (T_store_Store.mk x9.store.chains x9.store.floor) (T_part_Part.mk x9.part.clock x9.part.open_) x9.writes x9.owned x9.modes) (T_api_Msg.mk 6 0 0 0 ByteArray.empty ByteArray.empty ([] : List T_api_Ver) ([] : List Int) (T_api_Cmd.mk 0 0 0 0 0 ByteArray.empty)) 0 b11 p12 m13 c14 b15 p16 m17 c18 p19 m20 c21 p22 c23 p24 c25 none 0 none 0 b10 ⟨rfl, hS.pick [2, 3, 4, 5, 6, 1, 0] (by kernel_rfl)⟩ hx29) ?_)
 rintro _ κ w a ⟨p30, c31, p32, c33, b34, p35, m36, c37, b38, p39, m40, c41, p42, m43, c44, p45, c46, p47, c48, rfl, h2⟩ hF hB
 have hS := (hB _ _ h2).cC (C' := [.box b10 151 [si x29.2.2.dc, (1, [pt b34 0]), (1, [pt b38 0]), (1, [.map p42]), sl p45 (x29.2.2.owned).length c46, sl p47 (x29.2.2.modes).length c48], .tok p45 157 3 (x29.2.2.owned).length c46, .tok p47 25 1 (x29.2.2.modes).length c48, .box b34 130 [(1, [.map p35]), su x29.2.2.store.floor], .ext (objX p35 (.map m36 c37)), .box b38 174 [su x29.2.2.part.clock, (1, [.map p39])], .ext (objX p39 (.map m40 c41)), .ext (objX p42 (.map m43 c44)), .tok p30 37 6 (x29.1.Vers).length c31, .tok p32 25 1 (x29.1.Vec).length c33, .box b7 37 [sg a4.Key, sg a4.Val, sb a4.Gone, su a4.TS, si a4.DC, si a4.Tx]])
 refine wpListIn_nil ?_
 refine hK28 _ _ ?_
 refine wpIn_seq_k fun K49 hK49 => ?_
 refine wpIn_region_lit ?_
 refine wl_pure (L' := [(0, vu a1), (1, vu a2), (2, vi a3), (4, vu a5), (8, pt b7 0), (11, pt b10 0), (28, pt b10 0), (29, vu a1), (30, vu a2)]) 3 [0, 1, 2, 4, 8, 11, 28, 29, 30] hF (by kernel_rfl) fun a hF => ?_
 refine wc (wls hF hS 10 0 6 fun a hF => ?_)
 refine wc (wo_buildN (t := f_api_Ver) (z := .agg (flat [sg ByteArray.empty, sg ByteArray.empty, sb false, su 0, si 0, si 0]).toArray) (l := [(T_api_Ver.mk a4.Key a4.Val a4.Gone a4.TS a4.DC a4.Tx)]) (vs := [(0, .agg (flat [sg a4.Key, sg a4.Val, sb a4.Gone, su a4.TS, si a4.DC, si a4.Tx]).toArray)]) (cells := #[.string (a4.Key), .string (a4.Val), vb a4.Gone, vu a4.TS, vi a4.DC, vi a4.Tx]) (E := 37) hF hS (by kernel_rfl) rfl (by kernel_rfl) (by kernel_rfl) rfl (by kernel_rfl) (by kernel_rfl) (by kernel_rfl) (by kernel_rfl) (by kernel_rfl) fun p50 κ a w hF hS => ?_)
 refine wp 2 [0, 1, 2, 4, 8, 11, 28, 33, 34] hF fun a hF => ?_
 refine bind_split H (fun x51 hx51 H => ?_)
 refine wc (wcS 8 [1, 2, 3, 4, 5, 6, 7, 8, 0, 9, 10, 11] hF hS (fun hS => C_node_Node_Take N (T_node_Node.mk x29.2.2.dc (T_store_Store.mk x29.2.2.store.chains x29.2.2.store.floor) (T_part_Part.mk x29.2.2.part.clock x29.2.2.part.open_) x29.2.2.writes x29.2.2.owned x29.2.2.modes) (T_api_Msg.mk 1 a1 0 a2 ByteArray.empty ByteArray.empty [(T_api_Ver.mk a4.Key a4.Val a4.Gone a4.TS a4.DC a4.Tx)] ([] : List Int) (T_api_Cmd.mk 0 0 0 0 0 ByteArray.empty)) a3 b34 p35 m36 c37 b38 p39 m40 c41 p42 m43 c44 p45 c46 p47 c48 p50 1 none 0 b10 ⟨rfl, hS.pick [3, 4, 5, 6, 7, 0, 8] (by kernel_rfl)⟩ hx51) ?_)
 rintro _ κ w a ⟨p52, c53, p54, c55, b56, p57, m58, c59, b60, p61, m62, c63, p64, m65, c66, p67, c68, p69, c70, rfl, h2⟩ hF hB
 have hS := hB _ _ h2
 refine wp 3 [0, 1, 2, 4, 8, 11, 36, 37] hF fun a hF => ?_
 refine wc (wal hF hS [si 0, su 0, su 0, su 0, sg ByteArray.empty, sg ByteArray.empty, sl none 0 0, sl none 0 0, si 0, si 0, si 0, si 0, si 0, sg ByteArray.empty] (sgN 14 sgNil) fun b71 a w hF hS => ?_)
 refine wc (wst hF hS 0 0 14 [si x51.1.Kind, su x51.1.Id, su x51.1.N, su x51.1.TS, sg x51.1.Lo, sg x51.1.Hi, sl p52 (x51.1.Vers).length c53, sl p54 (x51.1.Vec).length c55, si x51.1.Cmd.Kind, si x51.1.Cmd.DC, si x51.1.Cmd.Shard, si x51.1.Cmd.Node, si x51.1.Cmd.Mode, sg x51.1.Cmd.Key] (sgN 14 sgNil) fun a w hF hS => ?_)
 refine wp 1 [0, 1, 2, 4, 8, 11, 12, 13] hF fun a hF => ?_
 refine wpListIn_nil ?_
 refine hK49 _ _ ?_
 refine wpIn_seq_k fun K72 hK72 => ?_
 refine wpIn_seq_k fun K73 hK73 => ?_
 refine wpIn_region_lit ?_
 refine wp 2 [0, 1, 2, 4, 8, 11, 12, 39] hF fun a hF => ?_
 refine wpListIn_nil ?_
 refine hK73 _ _ ?_
 refine bif_split H (fun hb H => ?_) (fun hb H => ?_)
 refine cond_t hF (by kernel_rfl) hb ?_
 refine wpIn_seq_k fun K74 hK74 => ?_
 refine wpIn_region_lit ?_
 refine bind_split H (fun v76 hv76 H => ?_)
 refine wl_join (fun a w => ∃ κ : Gh, Fr (156) [] [(10, vb v76)] a ∧ SS [] κ0 w0 κ w [] [] ∧ True) ?_ ?_
 refine bind_split hv76 (fun x77 hx77 hv76 => ?_)
 refine wc (wo_callP hF hS (by kernel_rfl) (by kernel_rfl) (C_law20_awake N hS.fresh   ((hS.pick [] (by kernel_rfl)).ro) hx77) ?_)
 rintro _ κ w a ⟨rfl, hR, hN⟩ hF hS hO
 refine wp 1 [0, 1, 2, 8, 41] hF fun a hF => ?_
 refine bif_split hv76 (fun hb hv76 => ?_) (fun hb hv76 => ?_)
 have hF := hF.boolv 41 (by kernel_rfl) hb
 refine wcg hF (wls hF hS 14 0 6 fun a hF => ?_)
 refine bind_split hv76 (fun x78 hx78 hv76 => ?_)
 refine wcg hF (wo_callP hF hS (by kernel_rfl) (by kernel_rfl) (C_ref10_Check N hS.fresh (T_api_Ver.mk a4.Key a4.Val a4.Gone a4.TS a4.DC a4.Tx)  ((hS.pick [] (by kernel_rfl)).ro) hx78) ?_)
 rintro _ κ w a ⟨rfl, hR, hN⟩ hF hS hO
 refine wp 2 [0, 1, 2, 41, 45] hF fun a hF => ?_
 refine bif_split hv76 (fun hb hv76 => ?_) (fun hb hv76 => ?_)
 have hF := hF.boolv 45 (by kernel_rfl) hb
 refine wp 17 [10] hF fun a hF => ?_
 refine wpListIn_nil ?_
 cases hv76
 exact ⟨_, hF.kp [10], hS.sp [] [], trivial⟩
 have hF := hF.boolv 45 (by kernel_rfl) hb
 refine wp 4 [1, 2, 41, 49] hF fun a hF => ?_
 refine bif_split hv76 (fun hb hv76 => ?_) (fun hb hv76 => ?_)
 have hF := hF.boolv 49 (by kernel_rfl) hb
 refine wp 13 [10] hF fun a hF => ?_
 refine wpListIn_nil ?_
 cases hv76
 exact ⟨_, hF.kp [10], hS.sp [] [], trivial⟩
 have hF := hF.boolv 49 (by kernel_rfl) hb
 refine wp 4 [1, 2, 41, 53] hF fun a hF => ?_
 refine bif_split hv76 (fun hb hv76 => ?_) (fun hb hv76 => ?_)
 have hF := hF.boolv 53 (by kernel_rfl) hb
 refine wp 9 [10] hF fun a hF => ?_
 refine wpListIn_nil ?_
 cases hv76
 exact ⟨_, hF.kp [10], hS.sp [] [], trivial⟩
 have hF := hF.boolv 53 (by kernel_rfl) hb
 refine wp 4 [1, 41, 57] hF fun a hF => ?_
 refine bif_split hv76 (fun hb hv76 => ?_) (fun hb hv76 => ?_)
 have hF := hF.boolv 57 (by kernel_rfl) hb
 refine wp 5 [10] hF fun a hF => ?_
 refine wpListIn_nil ?_
 cases hv76
 exact ⟨_, hF.kp [10], hS.sp [] [], trivial⟩
 have hF := hF.boolv 57 (by kernel_rfl) hb
 refine wp 5 [10] hF fun a hF => ?_
 refine wpListIn_nil ?_
 cases hv76
 exact ⟨_, hF.kp [10], hS.sp [] [], trivial⟩
 have hF := hF.boolv 41 (by kernel_rfl) hb
 refine wp 21 [10] hF fun a hF => ?_
 refine wpListIn_nil ?_
 cases hv76
 exact ⟨_, hF.kp [10], hS.sp [] [], trivial⟩
 rintro a w ⟨κ, hF, hS, -⟩
 refine hK74 _ _ ?_
 refine wpIn_ret ?_
 cases H
 exact (ret_done hF hS (res1 Try.results15 (rvt hF)) ⟨rfl, (hS.pick [] (by kernel_rfl)).ro, hS.newC [] (by decide) (by kernel_rfl)⟩)
 refine cond_f hF (by kernel_rfl) hb ?_
 refine wpIn_skip ?_
 refine hK72 _ _ ?_
 refine wpIn_seq_k fun K79 hK79 => ?_
 refine wpIn_region_lit ?_
 refine wp 1 [0, 2, 4, 8, 11, 62] hF fun a hF => ?_
 refine wc (wld hF hS 0 3 0 fun a hF => ?_)
 refine wp 3 [0, 2, 8, 11, 14] hF fun a hF => ?_
 refine wpListIn_nil ?_
 refine hK79 _ _ ?_
 refine wpIn_seq_k fun K80 hK80 => ?_
 refine wpIn_seq_k fun K81 hK81 => ?_
 refine wpIn_region_lit ?_
 refine wp 5 [0, 2, 8, 11, 14, 67, 70, 71] hF fun a hF => ?_
 refine bind_split H (fun x82 hx82 H => ?_)
 refine wc (wcS 8 [1, 2, 3, 4, 5, 6, 7, 8, 0, 9, 10, 11, 12, 13, 14] hF hS (fun hS => C_node_Node_Take N (T_node_Node.mk x51.2.2.dc (T_store_Store.mk x51.2.2.store.chains x51.2.2.store.floor) (T_part_Part.mk x51.2.2.part.clock x51.2.2.part.open_) x51.2.2.writes x51.2.2.owned x51.2.2.modes) (T_api_Msg.mk 2 a1 0 (if a5 > x51.1.TS then a5 else x51.1.TS) ByteArray.empty ByteArray.empty ([] : List T_api_Ver) ([] : List Int) (T_api_Cmd.mk 0 0 0 0 0 ByteArray.empty)) a3 b56 p57 m58 c59 b60 p61 m62 c63 p64 m65 c66 p67 c68 p69 c70 none 0 none 0 b10 ⟨rfl, hS.pick [2, 3, 4, 5, 6, 16, 15] (by kernel_rfl)⟩ hx82) ?_)
 rintro _ κ w a ⟨p83, c84, p85, c86, b87, p88, m89, c90, b91, p92, m93, c94, p95, m96, c97, p98, c99, p100, c101, rfl, h2⟩ hF hB
 have hS := (hB _ _ h2).cC (C' := [.box b10 151 [si x82.2.2.dc, (1, [pt b87 0]), (1, [pt b91 0]), (1, [.map p95]), sl p98 (x82.2.2.owned).length c99, sl p100 (x82.2.2.modes).length c101], .tok p98 157 3 (x82.2.2.owned).length c99, .tok p100 25 1 (x82.2.2.modes).length c101, .box b87 130 [(1, [.map p88]), su x82.2.2.store.floor], .ext (objX p88 (.map m89 c90)), .box b91 174 [su x82.2.2.part.clock, (1, [.map p92])], .ext (objX p92 (.map m93 c94)), .ext (objX p95 (.map m96 c97)), .tok p83 37 6 (x82.1.Vers).length c84, .tok p85 25 1 (x82.1.Vec).length c86, .box b71 93 [si x51.1.Kind, su x51.1.Id, su x51.1.N, su x51.1.TS, sg x51.1.Lo, sg x51.1.Hi, sl p52 (x51.1.Vers).length c53, sl p54 (x51.1.Vec).length c55, si x51.1.Cmd.Kind, si x51.1.Cmd.DC, si x51.1.Cmd.Shard, si x51.1.Cmd.Node, si x51.1.Cmd.Mode, sg x51.1.Cmd.Key], .tok p52 37 6 (x51.1.Vers).length c53, .tok p54 25 1 (x51.1.Vec).length c55, .tok p50 37 6 ([(T_api_Ver.mk a4.Key a4.Val a4.Gone a4.TS a4.DC a4.Tx)]).length 1, .tok p30 37 6 (x29.1.Vers).length c31, .tok p32 25 1 (x29.1.Vec).length c33, .box b7 37 [sg a4.Key, sg a4.Val, sb a4.Gone, su a4.TS, si a4.DC, si a4.Tx]])
 refine wp 3 [0, 2, 8, 11, 14, 73, 74] hF fun a hF => ?_
 refine wc (wal hF hS [si 0, su 0, su 0, su 0, sg ByteArray.empty, sg ByteArray.empty, sl none 0 0, sl none 0 0, si 0, si 0, si 0, si 0, si 0, sg ByteArray.empty] (sgN 14 sgNil) fun b102 a w hF hS => ?_)
 refine wc (wst hF hS 0 0 14 [si x82.1.Kind, su x82.1.Id, su x82.1.N, su x82.1.TS, sg x82.1.Lo, sg x82.1.Hi, sl p83 (x82.1.Vers).length c84, sl p85 (x82.1.Vec).length c86, si x82.1.Cmd.Kind, si x82.1.Cmd.DC, si x82.1.Cmd.Shard, si x82.1.Cmd.Node, si x82.1.Cmd.Mode, sg x82.1.Cmd.Key] (sgN 14 sgNil) fun a w hF hS => ?_)
 refine wp 1 [0, 2, 8, 11, 14, 15, 16] hF fun a hF => ?_
 refine wpListIn_nil ?_
 refine hK81 _ _ ?_
 refine wpIn_seq_k fun K103 hK103 => ?_
 refine wpIn_region_lit ?_
 refine bind_split H (fun v105 hv105 H => ?_)
 refine wl_join (fun a w => ∃ κ : Gh, Fr (156) [] [(0, vu a1), (2, vi a3), (8, pt b7 0), (11, pt b10 0), (14, vu (if a5 > x51.1.TS then a5 else x51.1.TS)), (87, vb v105)] a ∧ SS [] κ0 w0 κ w [.box b10 151 [si x82.2.2.dc, (1, [pt b87 0]), (1, [pt b91 0]), (1, [.map p95]), sl p98 (x82.2.2.owned).length c99, sl p100 (x82.2.2.modes).length c101], .box b87 130 [(1, [.map p88]), su x82.2.2.store.floor], .box b91 174 [su x82.2.2.part.clock, (1, [.map p92])], .box b7 37 [sg a4.Key, sg a4.Val, sb a4.Gone, su a4.TS, si a4.DC, si a4.Tx], .tok p98 157 3 (x82.2.2.owned).length c99, .tok p100 25 1 (x82.2.2.modes).length c101, .ext (objX p88 (.map m89 c90)), .ext (objX p92 (.map m93 c94)), .ext (objX p95 (.map m96 c97))] [Map.mp kStr false (tSl f_api_Ver.ty) p88 m89 c90 x82.2.2.store.chains, Map.mp (kInt .u64) false (fInt .u64).ty p92 m93 c94 x82.2.2.part.open_, Map.mp (kInt .u64) false (tSl f_api_Ver.ty) p95 m96 c97 x82.2.2.writes, Ro.mp f_span_Shard.ty p98 c99 x82.2.2.owned, Ro.mp (fInt .u64).ty p100 c101 x82.2.2.modes] ∧ True) ?_ ?_
 refine wp 3 [0, 2, 8, 11, 14, 15, 77] hF fun a hF => ?_
 refine bif_split hv105 (fun hb hv105 => ?_) (fun hb hv105 => ?_)
 have hF := hF.boolv 77 (by kernel_rfl) hb
 refine wp 10 [0, 2, 8, 11, 14, 87] hF fun a hF => ?_
 refine wpListIn_nil ?_
 cases hv105
 exact ⟨_, hF.kp [0, 2, 8, 11, 14, 87], hS.sp [1, 4, 6, 17, 2, 3, 5, 7, 8] [2, 3, 4, 5, 6], trivial⟩
 have hF := hF.boolv 77 (by kernel_rfl) hb
 refine wp 1 [0, 2, 8, 11, 14, 15, 77, 78] hF fun a hF => ?_
 refine wcg hF (wld hF hS 0 0 0 fun a hF => ?_)
 refine wp 3 [0, 2, 8, 11, 14, 15, 82] hF fun a hF => ?_
 refine bif_split hv105 (fun hb hv105 => ?_) (fun hb hv105 => ?_)
 have hF := hF.boolv 82 (by kernel_rfl) hb
 refine wp 5 [0, 2, 8, 11, 14, 87] hF fun a hF => ?_
 refine wpListIn_nil ?_
 cases hv105
 exact ⟨_, hF.kp [0, 2, 8, 11, 14, 87], hS.sp [1, 4, 6, 17, 2, 3, 5, 7, 8] [2, 3, 4, 5, 6], trivial⟩
 have hF := hF.boolv 82 (by kernel_rfl) hb
 refine wp 1 [0, 2, 8, 11, 14, 82, 83] hF fun a hF => ?_
 refine wcg hF (wld hF hS 0 1 0 fun a hF => ?_)
 refine wp 3 [0, 2, 8, 11, 14, 87] hF fun a hF => ?_
 refine wpListIn_nil ?_
 cases hv105
 exact ⟨_, hF.kp [0, 2, 8, 11, 14, 87], hS.sp [1, 4, 6, 17, 2, 3, 5, 7, 8] [2, 3, 4, 5, 6], trivial⟩
 rintro a w ⟨κ, hF, hS, -⟩
 refine hK103 _ _ ?_
 refine bif_split H (fun hb H => ?_) (fun hb H => ?_)
 refine cond_t hF (by kernel_rfl) hb ?_
 refine wpIn_seq_k fun K106 hK106 => ?_
 refine wpIn_region_lit ?_
 refine wp 1 [10] hF fun a hF => ?_
 refine wpListIn_nil ?_
 refine hK106 _ _ ?_
 refine wpIn_ret ?_
 cases H
 exact (ret_done hF hS (res1 Try.results15 (rvt hF)) ⟨rfl, (hS.pick [] (by kernel_rfl)).ro, hS.newC [] (by decide) (by kernel_rfl)⟩)
 refine cond_f hF (by kernel_rfl) hb ?_
 refine wpIn_skip ?_
 refine hK80 _ _ ?_
 refine wpIn_seq_k fun K107 hK107 => ?_
 refine wpIn_region_lit ?_
 refine wp 2 [0, 2, 8, 11, 14, 89, 90] hF fun a hF => ?_
 refine wc (wld hF hS 3 0 0 fun a hF => ?_)
 refine wp 3 [0, 2, 8, 11, 14, 89, 93, 94] hF fun a hF => ?_
 have hS := hS.add (m := Ro.mp f_api_Ver.ty none 0 ([] : List T_api_Ver)) (Ro.nil f_api_Ver.ty _ _)
 have hS := hS.add (m := Ro.mp (fInt .u64).ty none 0 ([] : List Int)) (Ro.nil (fInt .u64).ty _ _)
 refine bind_split H (fun x108 hx108 H => ?_)
 refine wc (wcS 8 [0, 4, 5, 1, 6, 2, 7, 8, 3] hF hS (fun hS => C_node_Node_Take N (T_node_Node.mk x82.2.2.dc (T_store_Store.mk x82.2.2.store.chains x82.2.2.store.floor) (T_part_Part.mk x82.2.2.part.clock x82.2.2.part.open_) x82.2.2.writes x82.2.2.owned x82.2.2.modes) (T_api_Msg.mk 3 0 0 (if a5 > x51.1.TS then a5 else x51.1.TS) a4.Key ByteArray.empty ([] : List T_api_Ver) ([] : List Int) (T_api_Cmd.mk 0 0 0 0 0 ByteArray.empty)) a3 b87 p88 m89 c90 b91 p92 m93 c94 p95 m96 c97 p98 c99 p100 c101 none 0 none 0 b10 ⟨rfl, hS.pick [2, 3, 4, 5, 6, 1, 0] (by kernel_rfl)⟩ hx108) ?_)
 rintro _ κ w a ⟨p109, c110, p111, c112, b113, p114, m115, c116, b117, p118, m119, c120, p121, m122, c123, p124, c125, p126, c127, rfl, h2⟩ hF hB
 have hS := hB _ _ h2
 refine wp 3 [0, 2, 8, 11, 14, 96, 97] hF fun a hF => ?_
 refine wc (wal hF hS [si 0, su 0, su 0, su 0, sg ByteArray.empty, sg ByteArray.empty, sl none 0 0, sl none 0 0, si 0, si 0, si 0, si 0, si 0, sg ByteArray.empty] (sgN 14 sgNil) fun b128 a w hF hS => ?_)
 refine wc (wst hF hS 0 0 14 [si x108.1.Kind, su x108.1.Id, su x108.1.N, su x108.1.TS, sg x108.1.Lo, sg x108.1.Hi, sl p109 (x108.1.Vers).length c110, sl p111 (x108.1.Vec).length c112, si x108.1.Cmd.Kind, si x108.1.Cmd.DC, si x108.1.Cmd.Shard, si x108.1.Cmd.Node, si x108.1.Cmd.Mode, sg x108.1.Cmd.Key] (sgN 14 sgNil) fun a w hF hS => ?_)
 refine wp 1 [0, 2, 8, 11, 13, 14, 17] hF fun a hF => ?_
 refine wpListIn_nil ?_
 refine hK107 _ _ ?_
 refine wpIn_seq_k fun K129 hK129 => ?_
 refine wpIn_region_lit ?_
 refine wp 2 [0, 2, 8, 13, 14, 17, 99, 100] hF fun a hF => ?_
 refine wc (wld hF hS 11 0 0 fun a hF => ?_)
 refine wp 4 [0, 8, 13, 14, 17, 99, 104, 105] hF fun a hF => ?_
 refine bind_split H (fun x130 hx130 H => ?_)
 refine wc (wcS 8 [1, 2, 3, 4, 5, 6, 7, 8, 0, 9, 10, 11] hF hS (fun hS => C_node_Node_Take N (T_node_Node.mk x108.2.2.dc (T_store_Store.mk x108.2.2.store.chains x108.2.2.store.floor) (T_part_Part.mk x108.2.2.part.clock x108.2.2.part.open_) x108.2.2.writes x108.2.2.owned x108.2.2.modes) (T_api_Msg.mk 3 0 0 (IntKind.u64.wrap ((if a5 > x51.1.TS then a5 else x51.1.TS) - 1)) a4.Key ByteArray.empty ([] : List T_api_Ver) ([] : List Int) (T_api_Cmd.mk 0 0 0 0 0 ByteArray.empty)) a3 b113 p114 m115 c116 b117 p118 m119 c120 p121 m122 c123 p124 c125 p126 c127 none 0 none 0 b10 ⟨rfl, hS.pick [2, 3, 4, 5, 6, 8, 7] (by kernel_rfl)⟩ hx130) ?_)
 rintro _ κ w a ⟨p131, c132, p133, c134, b135, p136, m137, c138, b139, p140, m141, c142, p143, m144, c145, p146, c147, p148, c149, rfl, h2⟩ hF hB
 have hS := (hB _ _ h2).cC (C' := [.box b10 151 [si x130.2.2.dc, (1, [pt b135 0]), (1, [pt b139 0]), (1, [.map p143]), sl p146 (x130.2.2.owned).length c147, sl p148 (x130.2.2.modes).length c149], .tok p146 157 3 (x130.2.2.owned).length c147, .tok p148 25 1 (x130.2.2.modes).length c149, .box b135 130 [(1, [.map p136]), su x130.2.2.store.floor], .ext (objX p136 (.map m137 c138)), .box b139 174 [su x130.2.2.part.clock, (1, [.map p140])], .ext (objX p140 (.map m141 c142)), .ext (objX p143 (.map m144 c145)), .tok p131 37 6 (x130.1.Vers).length c132, .tok p133 25 1 (x130.1.Vec).length c134, .box b128 93 [si x108.1.Kind, su x108.1.Id, su x108.1.N, su x108.1.TS, sg x108.1.Lo, sg x108.1.Hi, sl p109 (x108.1.Vers).length c110, sl p111 (x108.1.Vec).length c112, si x108.1.Cmd.Kind, si x108.1.Cmd.DC, si x108.1.Cmd.Shard, si x108.1.Cmd.Node, si x108.1.Cmd.Mode, sg x108.1.Cmd.Key], .tok p109 37 6 (x108.1.Vers).length c110, .tok p111 25 1 (x108.1.Vec).length c112, .box b7 37 [sg a4.Key, sg a4.Val, sb a4.Gone, su a4.TS, si a4.DC, si a4.Tx]])
 refine wp 3 [0, 8, 13, 14, 17, 107, 108] hF fun a hF => ?_
 refine wc (wal hF hS [si 0, su 0, su 0, su 0, sg ByteArray.empty, sg ByteArray.empty, sl none 0 0, sl none 0 0, si 0, si 0, si 0, si 0, si 0, sg ByteArray.empty] (sgN 14 sgNil) fun b150 a w hF hS => ?_)
 refine wc (wst hF hS 0 0 14 [si x130.1.Kind, su x130.1.Id, su x130.1.N, su x130.1.TS, sg x130.1.Lo, sg x130.1.Hi, sl p131 (x130.1.Vers).length c132, sl p133 (x130.1.Vec).length c134, si x130.1.Cmd.Kind, si x130.1.Cmd.DC, si x130.1.Cmd.Shard, si x130.1.Cmd.Node, si x130.1.Cmd.Mode, sg x130.1.Cmd.Key] (sgN 14 sgNil) fun a w hF hS => ?_)
 refine wp 1 [0, 8, 13, 14, 17, 18, 19] hF fun a hF => ?_
 refine wpListIn_nil ?_
 refine hK129 _ _ ?_
 refine wpIn_seq_k fun K151 hK151 => ?_
 refine wpIn_region_lit ?_
 refine wp 1 [0, 8, 13, 14, 17, 18, 19, 109] hF fun a hF => ?_
 refine wc (wld hF hS 14 0 0 fun a hF => ?_)
 refine wp 1 [0, 8, 13, 14, 17, 18, 19, 110, 111] hF fun a hF => ?_
 refine wc (wld hF hS 14 1 0 fun a hF => ?_)
 refine wp 1 [0, 13, 14, 17, 18, 19, 110, 112, 113] hF fun a hF => ?_
 refine wc (wld hF hS 14 2 0 fun a hF => ?_)
 refine wp 4 [13, 17, 18, 19, 118] hF fun a hF => ?_
 refine wc (wal hF hS [sg ByteArray.empty, sg ByteArray.empty, sb false, su 0, si 0, si 0] (sgN 6 sgNil) fun b152 a w hF hS => ?_)
 refine wc (wst hF hS 0 0 6 [sg a4.Key, sg a4.Val, sb a4.Gone, su (if a5 > x51.1.TS then a5 else x51.1.TS), si 2, si (IntKind.i64.wrap a1)] (sgN 6 sgNil) fun a w hF hS => ?_)
 refine wpListIn_nil ?_
 refine hK151 _ _ ?_
 refine wpIn_seq_k fun K153 hK153 => ?_
 refine bind_split H (fun v155 hv155 H => ?_)
 refine code_join (fun a w => ∃ κ : Gh, Fr (156) [] [(10, vb v155)] a ∧ SS [] κ0 w0 κ w [] [] ∧ True) ?_ ?_
 refine rgS hS [] ?_
 have hS := hS.drew
 refine ago 0 hF rfl ?_
 refine bind_split hv155 (fun x156 hx156 hv155 => ?_)
 refine wo_callP hF hS (by kernel_rfl) (by kernel_rfl) (C_law20_awake N hS.fresh   ((hS.pick [] (by kernel_rfl)).ro) hx156) ?_
 rintro _ κ w a ⟨rfl, hR, hN⟩ hF hS hO
 refine ⟨fun _ => (hS.sx [0, 1, 2, 5, 6, 7, 8, 9, 12, 15] (rg 21)), ?_⟩
 refine anp [1] [13, 17, 18, 19, 20, 120] hF (hS.sx [0, 1, 2, 5, 6, 7, 8, 9, 12, 15] (rg 21)) fun a hF => ?_
 refine bif_split hv155 (fun hb hv155 => ?_) (fun hb hv155 => ?_)
 have hF := hF.boolv 120 (by kernel_rfl) hb
 refine anp [2, 3, 4] [17, 18, 19, 20, 123] hF (hS.sx [0, 1, 2, 5, 6, 7, 8, 9, 12, 15] (rg 21)) fun a hF => ?_
 refine bif_split hv155 (fun hb hv155 => ?_) (fun hb hv155 => ?_)
 have hF := hF.boolv 123 (by kernel_rfl) hb
 refine anp [5, 6, 7] [17, 18, 20, 126] hF (hS.sx [0, 1, 2, 5, 6, 7, 8, 9, 12, 15] (rg 21)) fun a hF => ?_
 refine bif_split hv155 (fun hb hv155 => ?_) (fun hb hv155 => ?_)
 have hF := hF.boolv 126 (by kernel_rfl) hb
 refine anp [8] [17, 18, 20, 126, 127] hF (hS.sx [0, 1, 2, 5, 6, 7, 8, 9, 12, 15] (rg 21)) fun a hF => ?_
 refine atk 9 (some 128) hF (hS.sx [0, 1, 2, 5, 6, 7, 8, 9, 12, 15] (rg 21)) rfl (vld 8 2 0) fun a hF => ?_
 refine anp [10, 11, 12] [17, 18, 20, 131] hF (hS.sx [0, 1, 2, 5, 6, 7, 8, 9, 12, 15] (rg 21)) fun a hF => ?_
 refine bif_split hv155 (fun hb hv155 => ?_) (fun hb hv155 => ?_)
 have hF := hF.boolv 131 (by kernel_rfl) hb
 refine anp [13] [17, 18, 20, 131, 132] hF (hS.sx [0, 1, 2, 5, 6, 7, 8, 9, 12, 15] (rg 21)) fun a hF => ?_
 refine atk 14 (some 133) hF (hS.sx [0, 1, 2, 5, 6, 7, 8, 9, 12, 15] (rg 21)) rfl (vld 8 6 0) fun a hF => ?_
 refine anp [15, 16, 17, 18] [17, 18, 20, 137] hF (hS.sx [0, 1, 2, 5, 6, 7, 8, 9, 12, 15] (rg 21)) fun a hF => ?_
 refine bif_split hv155 (fun hb hv155 => ?_) (fun hb hv155 => ?_)
 have hF := hF.boolv 137 (by kernel_rfl) hb
 refine any_pure [19] [18, 20, 137, 138] (L' := [(18, pt b150 0), (20, pt b152 0), (137, vb true), (138, pt b128 6)]) (listed' := (bitA 38 1048575)) (fuel := 18) hF (hS.sx [0, 1, 2, 5, 6, 7, 8, 9, 12, 15] (rg 21)) (by kernel_rfl) (by intro c a w t v h; cases t <;> exact h) (by kernel_rfl) rfl fun a hF => ?_
 refine atk 20 (some 139) hF (hS.sx [0, 1, 2, 5, 6, 7, 8, 9, 12, 15] (rg 21)) rfl (vld 8 6 0) fun a hF => ?_
 refine bind_split hv155 (fun x157 hx157 hv155 => ?_)
 obtain ⟨b158, f159, hpx157⟩ := hS.ptr 7 rfl hx157
 refine atk 21 (some 140) hF (hS.sx [0, 1, 2, 5, 6, 7, 8, 9, 12, 15] (rg 21)) rfl (fun w _ => val_index (E := 37) (sz := 6) rfl hpx157 rfl (by kernel_rfl) rfl hx157 (by kernel_rfl) (by kernel_rfl) w) fun a hF => ?_
 refine atk 22 (some 141) hF (hS.sx [0, 1, 2, 5, 6, 7, 8, 9, 12, 15] (rg 21)) rfl (val_loadRoAgg (t := f_api_Ver) 7 rfl rfl hpx157 rfl hx157 (by kernel_rfl) (by kernel_rfl) (by kernel_rfl)) fun a hF => ?_
 refine atk 23 (some 142) hF (hS.sx [0, 1, 2, 5, 6, 7, 8, 9, 12, 15] (rg 21)) rfl (vls 0 0 6) fun a hF => ?_
 refine atk 24 (some 143) hF (hS.sx [0, 1, 2, 5, 6, 7, 8, 9, 12, 15] (rg 21)) rfl (fun w _ => (val_eq (neg := false) (xs := (flat [sg x157.Key, sg x157.Val, sb x157.Gone, su x157.TS, si x157.DC, si x157.Tx])) (ys := (flat [sg a4.Key, sg a4.Val, sb a4.Gone, su (if a5 > x51.1.TS then a5 else x51.1.TS), si 2, si (IntKind.i64.wrap a1)])) (ks := [.str, .str, .bool, .int .u64, .int .i64, .int .i64]) 20 (by decide) rfl (by kernel_rfl) (by kernel_rfl) (by kernel_rfl) (by kernel_rfl) (by kernel_rfl) (by kernel_rfl) (by kernel_rfl)) w) fun a hF => ?_
 refine anp [25, 26] [18, 145] hF (hS.sx [0, 1, 2, 5, 6, 7, 8, 9, 12, 15] (rg 21)) fun a hF => ?_
 refine bif_split hv155 (fun hb hv155 => ?_) (fun hb hv155 => ?_)
 have hF := hF.boolv 145 (by kernel_rfl) hb
 refine anp [27] [18, 145, 146] hF (hS.sx [0, 1, 2, 5, 6, 7, 8, 9, 12, 15] (rg 21)) fun a hF => ?_
 refine atk 28 (some 147) hF (hS.sx [0, 1, 2, 5, 6, 7, 8, 9, 12, 15] (rg 21)) rfl (vld 1 2 0) fun a hF => ?_
 refine anp [29, 30, 31] [18, 150] hF (hS.sx [0, 1, 2, 5, 6, 7, 8, 9, 12, 15] (rg 21)) fun a hF => ?_
 refine bif_split hv155 (fun hb hv155 => ?_) (fun hb hv155 => ?_)
 have hF := hF.boolv 150 (by kernel_rfl) hb
 refine anp [32] [150, 151] hF (hS.sx [0, 1, 2, 5, 6, 7, 8, 9, 12, 15] (rg 21)) fun a hF => ?_
 refine atk 33 (some 152) hF (hS.sx [0, 1, 2, 5, 6, 7, 8, 9, 12, 15] (rg 21)) rfl (vld 1 6 0) fun a hF => ?_
 refine anp [34, 35, 36, 37] [10] hF (hS.sx [0, 1, 2, 5, 6, 7, 8, 9, 12, 15] (rg 21)) fun a hF => ?_
 refine and_ ?_
 cases hv155
 exact ⟨_, hF.kp [10], hS.sp [] [], trivial⟩
 have hF := hF.boolv 150 (by kernel_rfl) hb
 refine anp [32, 33, 34, 35, 36, 37] [10] hF (hS.sx [0, 1, 2, 5, 6, 7, 8, 9, 12, 15] (rg 21)) fun a hF => ?_
 refine and_ ?_
 cases hv155
 exact ⟨_, hF.kp [10], hS.sp [] [], trivial⟩
 have hF := hF.boolv 145 (by kernel_rfl) hb
 refine anp [27, 28, 29, 30, 31, 32, 33, 34, 35, 36, 37] [10] hF (hS.sx [0, 1, 2, 5, 6, 7, 8, 9, 12, 15] (rg 21)) fun a hF => ?_
 refine and_ ?_
 cases hv155
 exact ⟨_, hF.kp [10], hS.sp [] [], trivial⟩
 have hF := hF.boolv 137 (by kernel_rfl) hb
 refine anp [19, 20, 21, 22, 23, 24, 25, 26, 27, 28, 29, 30, 31, 32, 33, 34, 35, 36, 37] [10] hF (hS.sx [0, 1, 2, 5, 6, 7, 8, 9, 12, 15] (rg 21)) fun a hF => ?_
 refine and_ ?_
 cases hv155
 exact ⟨_, hF.kp [10], hS.sp [] [], trivial⟩
 have hF := hF.boolv 131 (by kernel_rfl) hb
 refine anp [13, 14, 15, 16, 17, 18, 19, 20, 21, 22, 23, 24, 25, 26, 27, 28, 29, 30, 31, 32, 33, 34, 35, 36, 37] [10] hF (hS.sx [0, 1, 2, 5, 6, 7, 8, 9, 12, 15] (rg 21)) fun a hF => ?_
 refine and_ ?_
 cases hv155
 exact ⟨_, hF.kp [10], hS.sp [] [], trivial⟩
 have hF := hF.boolv 126 (by kernel_rfl) hb
 refine anp [8, 9, 10, 11, 12, 13, 14, 15, 16, 17, 18, 19, 20, 21, 22, 23, 24, 25, 26, 27, 28, 29, 30, 31, 32, 33, 34, 35, 36, 37] [10] hF (hS.sx [0, 1, 2, 5, 6, 7, 8, 9, 12, 15] (rg 21)) fun a hF => ?_
 refine and_ ?_
 cases hv155
 exact ⟨_, hF.kp [10], hS.sp [] [], trivial⟩
 have hF := hF.boolv 123 (by kernel_rfl) hb
 refine anp [5, 6, 7, 8, 9, 10, 11, 12, 13, 14, 15, 16, 17, 18, 19, 20, 21, 22, 23, 24, 25, 26, 27, 28, 29, 30, 31, 32, 33, 34, 35, 36, 37] [10] hF (hS.sx [0, 1, 2, 5, 6, 7, 8, 9, 12, 15] (rg 21)) fun a hF => ?_
 refine and_ ?_
 cases hv155
 exact ⟨_, hF.kp [10], hS.sp [] [], trivial⟩
 have hF := hF.boolv 120 (by kernel_rfl) hb
 refine anp [2, 3, 4, 5, 6, 7, 8, 9, 10, 11, 12, 13, 14, 15, 16, 17, 18, 19, 20, 21, 22, 23, 24, 25, 26, 27, 28, 29, 30, 31, 32, 33, 34, 35, 36, 37] [10] hF (hS.sx [0, 1, 2, 5, 6, 7, 8, 9, 12, 15] (rg 21)) fun a hF => ?_
 refine and_ ?_
 cases hv155
 exact ⟨_, hF.kp [10], hS.sp [] [], trivial⟩
 rintro a w ⟨κ, hF, hS, -⟩
 refine hK153 _ _ ?_
 refine wpIn_ret ?_
 cases H
 exact (ret_done hF hS (res1 Try.results15 (rvt hF)) ⟨rfl, (hS.pick [] (by kernel_rfl)).ro, hS.newC [] (by decide) (by kernel_rfl)⟩)
end Go.Cf
