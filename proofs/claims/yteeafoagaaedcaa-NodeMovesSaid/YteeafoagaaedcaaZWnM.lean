/- The walks: each function returns what its model says. Printed by a program of ours. -/
import Derived.Test.YteeafoagaaedcaaZMnM
import Derived.Test.YteeafoagaaedcaaZWs3
import Derived.Test.YteeafoagaaedcaaZWn2
import Derived.Test.YteeafoagaaedcaaZWn3
import Derived.Test.YteeafoagaaedcaaZWn4
namespace Go.Cf
open Go Go.Proofs
set_option linter.unusedVariables false
set_option maxRecDepth 20000 in
set_option maxHeartbeats 8000000 in
theorem C_law20_NodeMoves (N : Nat) {κ0 : Gh} {w0 : World} (hfr : Fresh κ0 w0) (a1 : (List T_api_Ver)) (a4 : Int) (a5 : ByteArray) (a6 : ByteArray) (a7 : ByteArray) (a8 : Int) (p2 : Option Addr) (c3 : Nat) (hR : ∀ m ∈ ([Ro.mp f_api_Ver.ty p2 c3 a1] : List MP), m.p κ0 w0) {r : (Bool)} (H : M.law20_NodeMoves N a1 a4 a5 a6 a7 a8 = some r) :
    Calls Try.prog 14 #[.slice p2 (a1).length c3, vu a4, .string (a5), .string (a6), .string (a7), vu a8] w0 (Post [] κ0 w0 fun v κ w => v = vb r ∧ (∀ m ∈ ([] : List MP), m.p κ w) ∧ NewC w0 κ w []) := by
 have hS := SS.start hfr hR
 refine enter (N := (143)) (L := [(0, .slice p2 (a1).length c3), (1, vu a4), (2, .string (a5)), (3, .string (a6)), (4, .string (a7)), (5, vu a8)]) Try.func14 rfl Try.ntmps14 (show 6 ≤ (143) by decide) rfl fun a hF => ?_
 unfold M.law20_NodeMoves at H
 refine wpIn_seq_k fun K9 hK9 => ?_
 refine wpIn_region_lit ?_
 refine wp 1 (rg 6) hF fun a hF => ?_
 refine wpListIn_nil ?_
 refine hK9 _ _ ?_
 refine wpIn_seq_k fun K10 hK10 => ?_
 refine wpIn_region_lit ?_
 refine bind_split H (fun x11 hx11 H => ?_)
 refine wc (wcS 0 [] hF hS (fun hS => C_node_New N 0   ⟨rfl, hS.pick [] (by kernel_rfl)⟩ hx11) ?_)
 rintro _ κ w a ⟨b12, b13, p14, m15, c16, b17, p18, m19, c20, p21, m22, c23, p24, c25, p26, c27, rfl, h2⟩ hF hB
 have hS := hB _ _ h2
 refine bind_split H (fun x28 hx28 H => ?_)
 refine wc (wcS 0 (rg 8) hF hS (fun hS => C_node_New N 0   ⟨rfl, hS.pick [] (by kernel_rfl)⟩ hx28) ?_)
 rintro _ κ w a ⟨b29, b30, p31, m32, c33, b34, p35, m36, c37, p38, m39, c40, p41, c42, p43, c44, rfl, h2⟩ hF hB
 have hS := (hB _ _ h2).cC (C' := [.box b29 151 [si x28.dc, (1, [pt b30 0]), (1, [pt b34 0]), (1, [.map p38]), sl p41 (x28.owned).length c42, sl p43 (x28.modes).length c44], .box b30 130 [(1, [.map p31]), su x28.store.floor], .ext (objX p31 (.map m32 c33)), .box b34 174 [su x28.part.clock, (1, [.map p35])], .ext (objX p35 (.map m36 c37)), .ext (objX p38 (.map m39 c40)), .tok p41 157 3 (x28.owned).length c42, .tok p43 25 1 (x28.modes).length c44, .box b12 151 [si x11.dc, (1, [pt b13 0]), (1, [pt b17 0]), (1, [.map p21]), sl p24 (x11.owned).length c25, sl p26 (x11.modes).length c27], .box b13 130 [(1, [.map p14]), su x11.store.floor], .ext (objX p14 (.map m15 c16)), .box b17 174 [su x11.part.clock, (1, [.map p18])], .ext (objX p18 (.map m19 c20)), .ext (objX p21 (.map m22 c23)), .tok p24 157 3 (x11.owned).length c25, .tok p26 25 1 (x11.modes).length c27])
 refine wp 2 [0, 1, 2, 3, 4, 5, 13, 14] hF fun a hF => ?_
 refine wpListIn_nil ?_
 refine hK10 _ _ ?_
 refine wpIn_seq_k fun K45 hK45 => ?_
 refine wpIn_seq_k fun K46 hK46 => ?_
 refine wpIn_region_lit ?_
 refine wp 6 [0, 1, 2, 3, 4, 5, 13, 14, 33] hF fun a hF => ?_
 refine wpListIn_nil ?_
 refine hK46 _ _ ?_
 refine cond_f hF (by kernel_rfl) rfl ?_
 refine wpIn_skip ?_
 refine hK45 _ _ ?_
 refine wpIn_seq_k fun K47 hK47 => ?_
 refine wpIn_region_lit ?_
 refine wl_pure (L' := [(1, vu a4), (2, .string (a5)), (3, .string (a6)), (4, .string (a7)), (5, vu a8), (13, pt b12 0), (14, pt b29 0), (34, pt b12 0), (35, .slice p2 (a1).length c3), (38, vi (if 40 < ((a1).length : Int) then 40 else ((a1).length : Int)))]) 5 [1, 2, 3, 4, 5, 13, 14, 34, 35, 38] hF (by kernel_rfl) fun a hF => ?_
 refine bind_split H (fun x48 hx48 H => ?_)
 refine wc (wo_slice hF hS (by kernel_rfl) 10 (E := 37) (lo := 0) (hi := (if 40 < ((a1).length : Int) then 40 else ((a1).length : Int))) rfl rfl rfl (by kernel_rfl) rfl ⟨_, rfl⟩ hx48 (by kernel_rfl) (by kernel_rfl) fun p49 c50 a hF hS => ?_)
 refine wp 2 [2, 3, 4, 5, 13, 14, 34, 41] hF fun a hF => ?_
 have hS := hS.add (m := Ro.mp (fInt .u64).ty none 0 ([] : List Int)) (Ro.nil (fInt .u64).ty _ _)
 refine bind_split H (fun x51 hx51 H => ?_)
 refine wc (wcS 8 [8, 14, 15, 9, 10, 11, 12, 13, 0, 1, 2, 3, 4, 5, 6, 7] hF hS (fun hS => C_node_Node_Take N (T_node_Node.mk x11.dc (T_store_Store.mk x11.store.chains x11.store.floor) (T_part_Part.mk x11.part.clock x11.part.open_) x11.writes x11.owned x11.modes) (T_api_Msg.mk 6 a4 0 0 ByteArray.empty ByteArray.empty x48 ([] : List Int) (T_api_Cmd.mk 0 0 0 0 0 ByteArray.empty)) 0 b13 p14 m15 c16 b17 p18 m19 c20 p21 m22 c23 p24 c25 p26 c27 p49 c50 none 0 b12 ⟨rfl, hS.pick [7, 8, 9, 10, 11, 1, 0] (by kernel_rfl)⟩ hx51) ?_)
 rintro _ κ w a ⟨p52, c53, p54, c55, b56, p57, m58, c59, b60, p61, m62, c63, p64, m65, c66, p67, c68, p69, c70, rfl, h2⟩ hF hB
 have hS := hB _ _ h2
 refine wpListIn_nil ?_
 refine hK47 _ _ ?_
 refine wpIn_seq_k fun K71 hK71 => ?_
 refine wpIn_region_lit ?_
 refine wp 3 [2, 3, 4, 13, 14, 45] hF fun a hF => ?_
 refine wc (wal hF hS [si 0, su 0, su 0, su 0, sg ByteArray.empty, sg ByteArray.empty, sl none 0 0, sl none 0 0, si 0, si 0, si 0, si 0, si 0, sg ByteArray.empty] (sgN 14 sgNil) fun b72 a w hF hS => ?_)
 refine wc (wst hF hS 0 0 14 [si 3, su 3, su 0, su a8, sg a7, sg ByteArray.empty, sl none 0 0, sl none 0 0, si 0, si 0, si 0, si 0, si 0, sg ByteArray.empty] (sgN 14 sgNil) fun a w hF hS => ?_)
 refine wpListIn_nil ?_
 refine hK71 _ _ ?_
 refine wpIn_seq_k fun K73 hK73 => ?_
 refine wpIn_region_lit ?_
 refine wp 1 [2, 3, 4, 13, 14, 15, 47] hF fun a hF => ?_
 refine wc (wls hF hS 0 0 14 fun a hF => ?_)
 have hS := hS.add (m := Ro.mp f_api_Ver.ty none 0 ([] : List T_api_Ver)) (Ro.nil f_api_Ver.ty _ _)
 refine bind_split H (fun x74 hx74 H => ?_)
 refine wc (wcS 8 [1, 2, 3, 4, 5, 6, 7, 8, 0, 9, 10, 11, 12, 13, 14, 15, 16, 17, 18] hF hS (fun hS => C_node_Node_Take N (T_node_Node.mk x51.2.2.dc (T_store_Store.mk x51.2.2.store.chains x51.2.2.store.floor) (T_part_Part.mk x51.2.2.part.clock x51.2.2.part.open_) x51.2.2.writes x51.2.2.owned x51.2.2.modes) (T_api_Msg.mk 3 3 0 a8 a7 ByteArray.empty ([] : List T_api_Ver) ([] : List Int) (T_api_Cmd.mk 0 0 0 0 0 ByteArray.empty)) 0 b56 p57 m58 c59 b60 p61 m62 c63 p64 m65 c66 p67 c68 p69 c70 none 0 none 0 b12 ⟨rfl, hS.pick [3, 4, 5, 6, 7, 0, 8] (by kernel_rfl)⟩ hx74) ?_)
 rintro _ κ w a ⟨p75, c76, p77, c78, b79, p80, m81, c82, b83, p84, m85, c86, p87, m88, c89, p90, c91, p92, c93, rfl, h2⟩ hF hB
 have hS := (hB _ _ h2).cC (C' := [.box b12 151 [si x74.2.2.dc, (1, [pt b79 0]), (1, [pt b83 0]), (1, [.map p87]), sl p90 (x74.2.2.owned).length c91, sl p92 (x74.2.2.modes).length c93], .tok p90 157 3 (x74.2.2.owned).length c91, .tok p92 25 1 (x74.2.2.modes).length c93, .box b79 130 [(1, [.map p80]), su x74.2.2.store.floor], .ext (objX p80 (.map m81 c82)), .box b83 174 [su x74.2.2.part.clock, (1, [.map p84])], .ext (objX p84 (.map m85 c86)), .ext (objX p87 (.map m88 c89)), .tok p75 37 6 (x74.1.Vers).length c76, .tok p77 25 1 (x74.1.Vec).length c78, .box b72 93 [si 3, su 3, su 0, su a8, sg a7, sg ByteArray.empty, sl none 0 0, sl none 0 0, si 0, si 0, si 0, si 0, si 0, sg ByteArray.empty], .tok p52 37 6 (x51.1.Vers).length c53, .tok p54 25 1 (x51.1.Vec).length c55, .box b29 151 [si x28.dc, (1, [pt b30 0]), (1, [pt b34 0]), (1, [.map p38]), sl p41 (x28.owned).length c42, sl p43 (x28.modes).length c44], .box b30 130 [(1, [.map p31]), su x28.store.floor], .ext (objX p31 (.map m32 c33)), .box b34 174 [su x28.part.clock, (1, [.map p35])], .ext (objX p35 (.map m36 c37)), .ext (objX p38 (.map m39 c40)), .tok p41 157 3 (x28.owned).length c42, .tok p43 25 1 (x28.modes).length c44])
 refine wp 3 [2, 3, 4, 13, 14, 15, 50, 51] hF fun a hF => ?_
 refine wc (wal hF hS [si 0, su 0, su 0, su 0, sg ByteArray.empty, sg ByteArray.empty, sl none 0 0, sl none 0 0, si 0, si 0, si 0, si 0, si 0, sg ByteArray.empty] (sgN 14 sgNil) fun b94 a w hF hS => ?_)
 refine wc (wst hF hS 0 0 14 [si x74.1.Kind, su x74.1.Id, su x74.1.N, su x74.1.TS, sg x74.1.Lo, sg x74.1.Hi, sl p75 (x74.1.Vers).length c76, sl p77 (x74.1.Vec).length c78, si x74.1.Cmd.Kind, si x74.1.Cmd.DC, si x74.1.Cmd.Shard, si x74.1.Cmd.Node, si x74.1.Cmd.Mode, sg x74.1.Cmd.Key] (sgN 14 sgNil) fun a w hF hS => ?_)
 refine wp 1 [2, 3, 4, 13, 14, 15, 16, 17] hF fun a hF => ?_
 refine wpListIn_nil ?_
 refine hK73 _ _ ?_
 refine wpIn_seq_k fun K95 hK95 => ?_
 refine wpIn_region_lit ?_
 refine wp 4 [2, 3, 4, 13, 14, 15, 16, 17, 53, 56] hF fun a hF => ?_
 refine bind_split H (fun x96 hx96 H => ?_)
 refine wc (wcS 8 [1, 2, 3, 4, 5, 6, 7, 8, 0, 9, 10, 11, 12, 13, 14, 15, 16, 17, 18, 19, 20, 21] hF hS (fun hS => C_node_Node_Take N (T_node_Node.mk x74.2.2.dc (T_store_Store.mk x74.2.2.store.chains x74.2.2.store.floor) (T_part_Part.mk x74.2.2.part.clock x74.2.2.part.open_) x74.2.2.writes x74.2.2.owned x74.2.2.modes) (T_api_Msg.mk 5 0 1 0 a5 a6 ([] : List T_api_Ver) ([] : List Int) (T_api_Cmd.mk 0 0 0 0 0 ByteArray.empty)) 0 b79 p80 m81 c82 b83 p84 m85 c86 p87 m88 c89 p90 c91 p92 c93 none 0 none 0 b12 ⟨rfl, hS.pick [2, 3, 4, 5, 6, 7, 15] (by kernel_rfl)⟩ hx96) ?_)
 rintro _ κ w a ⟨p97, c98, p99, c100, b101, p102, m103, c104, b105, p106, m107, c108, p109, m110, c111, p112, c113, p114, c115, rfl, h2⟩ hF hB
 have hS := hB _ _ h2
 refine wp 3 [2, 3, 4, 13, 14, 15, 16, 17, 58, 59] hF fun a hF => ?_
 refine wc (wal hF hS [si 0, su 0, su 0, su 0, sg ByteArray.empty, sg ByteArray.empty, sl none 0 0, sl none 0 0, si 0, si 0, si 0, si 0, si 0, sg ByteArray.empty] (sgN 14 sgNil) fun b116 a w hF hS => ?_)
 refine wc (wst hF hS 0 0 14 [si x96.1.Kind, su x96.1.Id, su x96.1.N, su x96.1.TS, sg x96.1.Lo, sg x96.1.Hi, sl p97 (x96.1.Vers).length c98, sl p99 (x96.1.Vec).length c100, si x96.1.Cmd.Kind, si x96.1.Cmd.DC, si x96.1.Cmd.Shard, si x96.1.Cmd.Node, si x96.1.Cmd.Mode, sg x96.1.Cmd.Key] (sgN 14 sgNil) fun a w hF hS => ?_)
 refine wp 1 [2, 3, 4, 13, 14, 15, 16, 17, 18, 19] hF fun a hF => ?_
 refine wpListIn_nil ?_
 refine hK95 _ _ ?_
 refine wpIn_seq_k fun K117 hK117 => ?_
 refine wpIn_seq_k fun K118 hK118 => ?_
 refine wpIn_region_lit ?_
 refine bind_split H (fun v120 hv120 H => ?_)
 refine wl_join (fun a w => ∃ κ : Gh, Fr (143) [] [(2, .string (a5)), (3, .string (a6)), (4, .string (a7)), (13, pt b12 0), (14, pt b29 0), (15, pt b72 0), (16, pt b94 0), (18, pt b116 0), (82, vb v120)] a ∧ SS [] κ0 w0 κ w [.box b116 93 [si x96.1.Kind, su x96.1.Id, su x96.1.N, su x96.1.TS, sg x96.1.Lo, sg x96.1.Hi, sl p97 (x96.1.Vers).length c98, sl p99 (x96.1.Vec).length c100, si x96.1.Cmd.Kind, si x96.1.Cmd.DC, si x96.1.Cmd.Shard, si x96.1.Cmd.Node, si x96.1.Cmd.Mode, sg x96.1.Cmd.Key], .box b12 151 [si x96.2.2.dc, (1, [pt b101 0]), (1, [pt b105 0]), (1, [.map p109]), sl p112 (x96.2.2.owned).length c113, sl p114 (x96.2.2.modes).length c115], .box b101 130 [(1, [.map p102]), su x96.2.2.store.floor], .box b105 174 [su x96.2.2.part.clock, (1, [.map p106])], .box b94 93 [si x74.1.Kind, su x74.1.Id, su x74.1.N, su x74.1.TS, sg x74.1.Lo, sg x74.1.Hi, sl p75 (x74.1.Vers).length c76, sl p77 (x74.1.Vec).length c78, si x74.1.Cmd.Kind, si x74.1.Cmd.DC, si x74.1.Cmd.Shard, si x74.1.Cmd.Node, si x74.1.Cmd.Mode, sg x74.1.Cmd.Key], .box b72 93 [si 3, su 3, su 0, su a8, sg a7, sg ByteArray.empty, sl none 0 0, sl none 0 0, si 0, si 0, si 0, si 0, si 0, sg ByteArray.empty], .box b29 151 [si x28.dc, (1, [pt b30 0]), (1, [pt b34 0]), (1, [.map p38]), sl p41 (x28.owned).length c42, sl p43 (x28.modes).length c44], .box b30 130 [(1, [.map p31]), su x28.store.floor], .box b34 174 [su x28.part.clock, (1, [.map p35])], .tok p112 157 3 (x96.2.2.owned).length c113, .tok p114 25 1 (x96.2.2.modes).length c115, .tok p97 37 6 (x96.1.Vers).length c98, .tok p99 25 1 (x96.1.Vec).length c100, .tok p75 37 6 (x74.1.Vers).length c76, .tok p77 25 1 (x74.1.Vec).length c78, .tok p41 157 3 (x28.owned).length c42, .tok p43 25 1 (x28.modes).length c44, .ext (objX p102 (.map m103 c104)), .ext (objX p106 (.map m107 c108)), .ext (objX p109 (.map m110 c111)), .ext (objX p31 (.map m32 c33)), .ext (objX p35 (.map m36 c37)), .ext (objX p38 (.map m39 c40))] [Map.mp kStr false (tSl f_api_Ver.ty) p102 m103 c104 x96.2.2.store.chains, Map.mp (kInt .u64) false (fInt .u64).ty p106 m107 c108 x96.2.2.part.open_, Map.mp (kInt .u64) false (tSl f_api_Ver.ty) p109 m110 c111 x96.2.2.writes, Ro.mp f_span_Shard.ty p112 c113 x96.2.2.owned, Ro.mp (fInt .u64).ty p114 c115 x96.2.2.modes, Map.mp kStr false (tSl f_api_Ver.ty) p31 m32 c33 x28.store.chains, Map.mp (kInt .u64) false (fInt .u64).ty p35 m36 c37 x28.part.open_, Map.mp (kInt .u64) false (tSl f_api_Ver.ty) p38 m39 c40 x28.writes, Ro.mp f_span_Shard.ty p41 c42 x28.owned, Ro.mp (fInt .u64).ty p43 c44 x28.modes, Ro.mp f_api_Ver.ty p97 c98 x96.1.Vers, Ro.mp (fInt .u64).ty p99 c100 x96.1.Vec, Ro.mp f_api_Ver.ty p75 c76 x74.1.Vers, Ro.mp (fInt .u64).ty p77 c78 x74.1.Vec, Ro.mp f_api_Ver.ty none 0 ([] : List T_api_Ver), Ro.mp (fInt .u64).ty none 0 ([] : List Int)] ∧ True) ?_ ?_
 refine wp 3 [2, 3, 4, 13, 14, 15, 16, 18, 19, 62] hF fun a hF => ?_
 refine bif_split hv120 (fun hb hv120 => ?_) (fun hb hv120 => ?_)
 have hF := hF.boolv 62 (by kernel_rfl) hb
 refine wp 20 [2, 3, 4, 13, 14, 15, 16, 18, 82] hF fun a hF => ?_
 refine wpListIn_nil ?_
 cases hv120
 exact ⟨_, hF.kp [2, 3, 4, 13, 14, 15, 16, 18, 82], hS.sp [0, 1, 4, 6, 11, 14, 17, 18, 20, 2, 3, 9, 10, 12, 13, 23, 24, 5, 7, 8, 19, 21, 22] [2, 3, 4, 5, 6, 24, 25, 26, 27, 28, 0, 1, 7, 8, 14, 22], trivial⟩
 have hF := hF.boolv 62 (by kernel_rfl) hb
 refine wp 4 [2, 3, 4, 13, 14, 15, 16, 18, 66] hF fun a hF => ?_
 refine bif_split hv120 (fun hb hv120 => ?_) (fun hb hv120 => ?_)
 have hF := hF.boolv 66 (by kernel_rfl) hb
 refine wp 16 [2, 3, 4, 13, 14, 15, 16, 18, 82] hF fun a hF => ?_
 refine wpListIn_nil ?_
 cases hv120
 exact ⟨_, hF.kp [2, 3, 4, 13, 14, 15, 16, 18, 82], hS.sp [0, 1, 4, 6, 11, 14, 17, 18, 20, 2, 3, 9, 10, 12, 13, 23, 24, 5, 7, 8, 19, 21, 22] [2, 3, 4, 5, 6, 24, 25, 26, 27, 28, 0, 1, 7, 8, 14, 22], trivial⟩
 have hF := hF.boolv 66 (by kernel_rfl) hb
 refine wp 1 [2, 3, 4, 13, 14, 15, 16, 18, 66, 67] hF fun a hF => ?_
 refine wcg hF (wld hF hS 0 0 0 fun a hF => ?_)
 refine wp 3 [2, 3, 4, 13, 14, 15, 16, 18, 71] hF fun a hF => ?_
 refine bif_split hv120 (fun hb hv120 => ?_) (fun hb hv120 => ?_)
 have hF := hF.boolv 71 (by kernel_rfl) hb
 refine wp 11 [2, 3, 4, 13, 14, 15, 16, 18, 82] hF fun a hF => ?_
 refine wpListIn_nil ?_
 cases hv120
 exact ⟨_, hF.kp [2, 3, 4, 13, 14, 15, 16, 18, 82], hS.sp [0, 1, 4, 6, 11, 14, 17, 18, 20, 2, 3, 9, 10, 12, 13, 23, 24, 5, 7, 8, 19, 21, 22] [2, 3, 4, 5, 6, 24, 25, 26, 27, 28, 0, 1, 7, 8, 14, 22], trivial⟩
 have hF := hF.boolv 71 (by kernel_rfl) hb
 refine wp 1 [2, 3, 4, 13, 14, 15, 16, 18, 71, 72] hF fun a hF => ?_
 refine wcg hF (wld hF hS 0 4 0 fun a hF => ?_)
 refine wp 4 [2, 3, 4, 13, 14, 15, 16, 18, 77] hF fun a hF => ?_
 refine bif_split hv120 (fun hb hv120 => ?_) (fun hb hv120 => ?_)
 have hF := hF.boolv 77 (by kernel_rfl) hb
 refine wp 5 [2, 3, 4, 13, 14, 15, 16, 18, 82] hF fun a hF => ?_
 refine wpListIn_nil ?_
 cases hv120
 exact ⟨_, hF.kp [2, 3, 4, 13, 14, 15, 16, 18, 82], hS.sp [0, 1, 4, 6, 11, 14, 17, 18, 20, 2, 3, 9, 10, 12, 13, 23, 24, 5, 7, 8, 19, 21, 22] [2, 3, 4, 5, 6, 24, 25, 26, 27, 28, 0, 1, 7, 8, 14, 22], trivial⟩
 have hF := hF.boolv 77 (by kernel_rfl) hb
 refine wp 1 [2, 3, 4, 13, 14, 15, 16, 18, 77, 78] hF fun a hF => ?_
 refine wcg hF (wld hF hS 0 5 0 fun a hF => ?_)
 refine wp 3 [2, 3, 4, 13, 14, 15, 16, 18, 82] hF fun a hF => ?_
 refine wpListIn_nil ?_
 cases hv120
 exact ⟨_, hF.kp [2, 3, 4, 13, 14, 15, 16, 18, 82], hS.sp [0, 1, 4, 6, 11, 14, 17, 18, 20, 2, 3, 9, 10, 12, 13, 23, 24, 5, 7, 8, 19, 21, 22] [2, 3, 4, 5, 6, 24, 25, 26, 27, 28, 0, 1, 7, 8, 14, 22], trivial⟩
 rintro a w ⟨κ, hF, hS, -⟩
 refine hK118 _ _ ?_
 refine bif_split H (fun hb H => ?_) (fun hb H => ?_)
 refine cond_t hF (by kernel_rfl) hb ?_
 refine wpIn_seq_k fun K121 hK121 => ?_
 refine wpIn_region_lit ?_
 refine wp 1 [12] hF fun a hF => ?_
 refine wpListIn_nil ?_
 refine hK121 _ _ ?_
 refine wpIn_ret ?_
 cases H
 exact (ret_done hF hS (res1 Try.results14 (rvt hF)) ⟨rfl, (hS.pick [] (by kernel_rfl)).ro, hS.newC [] (by decide) (by kernel_rfl)⟩)
 refine cond_f hF (by kernel_rfl) hb ?_
 refine wpIn_skip ?_
 refine hK117 _ _ ?_
 refine wpIn_seq_k fun K122 hK122 => ?_
 refine wpIn_region_lit ?_
 refine wp 4 [4, 13, 14, 15, 16, 18, 84, 85, 86, 87] hF fun a hF => ?_
 refine wc (wld hF hS 0 6 0 fun a hF => ?_)
 refine wp 1 [4, 13, 14, 15, 16, 18, 84, 85, 86, 88, 89] hF fun a hF => ?_
 refine wc (wld hF hS 0 3 0 fun a hF => ?_)
 refine wp 1 [4, 13, 14, 15, 16, 84, 85, 86, 88, 90, 91] hF fun a hF => ?_
 refine wc (wld hF hS 0 1 0 fun a hF => ?_)
 refine wp 1 [4, 13, 14, 15, 16, 84, 93] hF fun a hF => ?_
 refine bind_split H (fun x123 hx123 H => ?_)
 refine wc (wcS 8 [6, 15, 16, 7, 20, 8, 21, 22, 0, 1, 2, 3, 4, 5, 9, 10, 11, 12, 13, 14, 17, 18, 19] hF hS (fun hS => C_node_Node_Take N (T_node_Node.mk x28.dc (T_store_Store.mk x28.store.chains x28.store.floor) (T_part_Part.mk x28.part.clock x28.part.open_) x28.writes x28.owned x28.modes) (T_api_Msg.mk 6 x96.1.Id 0 x96.1.TS a5 a6 x96.1.Vers ([] : List Int) (T_api_Cmd.mk 0 0 0 0 0 ByteArray.empty)) 0 b30 p31 m32 c33 b34 p35 m36 c37 p38 m39 c40 p41 c42 p43 c44 p97 c98 none 0 b29 ⟨rfl, hS.pick [5, 6, 7, 8, 9, 10, 15] (by kernel_rfl)⟩ hx123) ?_)
 rintro _ κ w a ⟨p124, c125, p126, c127, b128, p129, m130, c131, b132, p133, m134, c135, p136, m137, c138, p139, c140, p141, c142, rfl, h2⟩ hF hB
 have hS := hB _ _ h2
 refine wp 3 [4, 13, 14, 15, 16, 95, 96] hF fun a hF => ?_
 refine wc (wal hF hS [si 0, su 0, su 0, su 0, sg ByteArray.empty, sg ByteArray.empty, sl none 0 0, sl none 0 0, si 0, si 0, si 0, si 0, si 0, sg ByteArray.empty] (sgN 14 sgNil) fun b143 a w hF hS => ?_)
 refine wc (wst hF hS 0 0 14 [si x123.1.Kind, su x123.1.Id, su x123.1.N, su x123.1.TS, sg x123.1.Lo, sg x123.1.Hi, sl p124 (x123.1.Vers).length c125, sl p126 (x123.1.Vec).length c127, si x123.1.Cmd.Kind, si x123.1.Cmd.DC, si x123.1.Cmd.Shard, si x123.1.Cmd.Node, si x123.1.Cmd.Mode, sg x123.1.Cmd.Key] (sgN 14 sgNil) fun a w hF hS => ?_)
 refine wp 1 [4, 13, 14, 15, 16, 20, 21] hF fun a hF => ?_
 refine wpListIn_nil ?_
 refine hK122 _ _ ?_
 refine wpIn_seq_k fun K144 hK144 => ?_
 refine wpIn_seq_k fun K145 hK145 => ?_
 refine wpIn_region_lit ?_
 refine bind_split H (fun v147 hv147 H => ?_)
 refine wl_join (fun a w => ∃ κ : Gh, Fr (143) [] [(4, .string (a7)), (13, pt b12 0), (14, pt b29 0), (15, pt b72 0), (16, pt b94 0), (112, vb v147)] a ∧ SS [] κ0 w0 κ w [.box b29 151 [si x123.2.2.dc, (1, [pt b128 0]), (1, [pt b132 0]), (1, [.map p136]), sl p139 (x123.2.2.owned).length c140, sl p141 (x123.2.2.modes).length c142], .box b128 130 [(1, [.map p129]), su x123.2.2.store.floor], .box b132 174 [su x123.2.2.part.clock, (1, [.map p133])], .box b12 151 [si x96.2.2.dc, (1, [pt b101 0]), (1, [pt b105 0]), (1, [.map p109]), sl p112 (x96.2.2.owned).length c113, sl p114 (x96.2.2.modes).length c115], .box b101 130 [(1, [.map p102]), su x96.2.2.store.floor], .box b105 174 [su x96.2.2.part.clock, (1, [.map p106])], .box b94 93 [si x74.1.Kind, su x74.1.Id, su x74.1.N, su x74.1.TS, sg x74.1.Lo, sg x74.1.Hi, sl p75 (x74.1.Vers).length c76, sl p77 (x74.1.Vec).length c78, si x74.1.Cmd.Kind, si x74.1.Cmd.DC, si x74.1.Cmd.Shard, si x74.1.Cmd.Node, si x74.1.Cmd.Mode, sg x74.1.Cmd.Key], .box b72 93 [si 3, su 3, su 0, su a8, sg a7, sg ByteArray.empty, sl none 0 0, sl none 0 0, si 0, si 0, si 0, si 0, si 0, sg ByteArray.empty], .tok p139 157 3 (x123.2.2.owned).length c140, .tok p141 25 1 (x123.2.2.modes).length c142, .tok p112 157 3 (x96.2.2.owned).length c113, .tok p114 25 1 (x96.2.2.modes).length c115, .tok p75 37 6 (x74.1.Vers).length c76, .tok p77 25 1 (x74.1.Vec).length c78, .ext (objX p129 (.map m130 c131)), .ext (objX p133 (.map m134 c135)), .ext (objX p136 (.map m137 c138)), .ext (objX p102 (.map m103 c104)), .ext (objX p106 (.map m107 c108)), .ext (objX p109 (.map m110 c111))] [Map.mp kStr false (tSl f_api_Ver.ty) p102 m103 c104 x96.2.2.store.chains, Map.mp (kInt .u64) false (fInt .u64).ty p106 m107 c108 x96.2.2.part.open_, Map.mp (kInt .u64) false (tSl f_api_Ver.ty) p109 m110 c111 x96.2.2.writes, Ro.mp f_span_Shard.ty p112 c113 x96.2.2.owned, Ro.mp (fInt .u64).ty p114 c115 x96.2.2.modes, Map.mp kStr false (tSl f_api_Ver.ty) p129 m130 c131 x123.2.2.store.chains, Map.mp (kInt .u64) false (fInt .u64).ty p133 m134 c135 x123.2.2.part.open_, Map.mp (kInt .u64) false (tSl f_api_Ver.ty) p136 m137 c138 x123.2.2.writes, Ro.mp f_span_Shard.ty p139 c140 x123.2.2.owned, Ro.mp (fInt .u64).ty p141 c142 x123.2.2.modes, Ro.mp f_api_Ver.ty p75 c76 x74.1.Vers, Ro.mp (fInt .u64).ty p77 c78 x74.1.Vec, Ro.mp f_api_Ver.ty none 0 ([] : List T_api_Ver), Ro.mp (fInt .u64).ty none 0 ([] : List Int)] ∧ True) ?_ ?_
 refine wp 3 [4, 13, 14, 15, 16, 20, 99] hF fun a hF => ?_
 refine bif_split hv147 (fun hb hv147 => ?_) (fun hb hv147 => ?_)
 have hF := hF.boolv 99 (by kernel_rfl) hb
 refine wp 13 [4, 13, 14, 15, 16, 112] hF fun a hF => ?_
 refine wpListIn_nil ?_
 cases hv147
 exact ⟨_, hF.kp [4, 13, 14, 15, 16, 112], hS.sp [1, 4, 6, 12, 13, 14, 15, 16, 2, 3, 17, 18, 21, 22, 5, 7, 8, 23, 24, 25] [7, 8, 9, 10, 11, 2, 3, 4, 5, 6, 19, 20, 21, 22], trivial⟩
 have hF := hF.boolv 99 (by kernel_rfl) hb
 refine wp 1 [4, 13, 14, 15, 16, 99, 100] hF fun a hF => ?_
 refine wcg hF (wld hF hS 0 0 0 fun a hF => ?_)
 refine wp 3 [4, 13, 14, 15, 16, 104] hF fun a hF => ?_
 refine bif_split hv147 (fun hb hv147 => ?_) (fun hb hv147 => ?_)
 have hF := hF.boolv 104 (by kernel_rfl) hb
 refine wp 8 [4, 13, 14, 15, 16, 112] hF fun a hF => ?_
 refine wpListIn_nil ?_
 cases hv147
 exact ⟨_, hF.kp [4, 13, 14, 15, 16, 112], hS.sp [1, 4, 6, 12, 13, 14, 15, 16, 2, 3, 17, 18, 21, 22, 5, 7, 8, 23, 24, 25] [7, 8, 9, 10, 11, 2, 3, 4, 5, 6, 19, 20, 21, 22], trivial⟩
 have hF := hF.boolv 104 (by kernel_rfl) hb
 refine wp 2 [4, 13, 14, 15, 16, 104, 105, 106] hF fun a hF => ?_
 refine bind_split hv147 (fun x148 hx148 hv147 => ?_)
 refine wcg hF (wcS 6 [12, 13, 23, 14, 24, 25, 0, 1, 2, 3, 4, 5, 6, 7, 8, 9, 10, 11, 15, 16, 17, 18, 19, 20, 21, 22] hF hS (fun hS => C_node_Node_Owns N (T_node_Node.mk x96.2.2.dc (T_store_Store.mk x96.2.2.store.chains x96.2.2.store.floor) (T_part_Part.mk x96.2.2.part.clock x96.2.2.part.open_) x96.2.2.writes x96.2.2.owned x96.2.2.modes) a7 b101 p102 m103 c104 b105 p106 m107 c108 p109 m110 c111 p112 c113 p114 c115 b12 ⟨rfl, hS.pick [7, 8, 9, 10, 11] (by kernel_rfl)⟩ hx148) ?_)
 rintro _ κ w a ⟨rfl, h2⟩ hF hB
 have hS := (hB _ _ h2).cC (C' := [.box b12 151 [si x96.2.2.dc, (1, [pt b101 0]), (1, [pt b105 0]), (1, [.map p109]), sl p112 (x96.2.2.owned).length c113, sl p114 (x96.2.2.modes).length c115], .box b101 130 [(1, [.map p102]), su x96.2.2.store.floor], .ext (objX p102 (.map m103 c104)), .box b105 174 [su x96.2.2.part.clock, (1, [.map p106])], .ext (objX p106 (.map m107 c108)), .ext (objX p109 (.map m110 c111)), .box b143 93 [si x123.1.Kind, su x123.1.Id, su x123.1.N, su x123.1.TS, sg x123.1.Lo, sg x123.1.Hi, sl p124 (x123.1.Vers).length c125, sl p126 (x123.1.Vec).length c127, si x123.1.Cmd.Kind, si x123.1.Cmd.DC, si x123.1.Cmd.Shard, si x123.1.Cmd.Node, si x123.1.Cmd.Mode, sg x123.1.Cmd.Key], .box b29 151 [si x123.2.2.dc, (1, [pt b128 0]), (1, [pt b132 0]), (1, [.map p136]), sl p139 (x123.2.2.owned).length c140, sl p141 (x123.2.2.modes).length c142], .tok p139 157 3 (x123.2.2.owned).length c140, .tok p141 25 1 (x123.2.2.modes).length c142, .box b128 130 [(1, [.map p129]), su x123.2.2.store.floor], .ext (objX p129 (.map m130 c131)), .box b132 174 [su x123.2.2.part.clock, (1, [.map p133])], .ext (objX p133 (.map m134 c135)), .ext (objX p136 (.map m137 c138)), .tok p124 37 6 (x123.1.Vers).length c125, .tok p126 25 1 (x123.1.Vec).length c127, .box b116 93 [si x96.1.Kind, su x96.1.Id, su x96.1.N, su x96.1.TS, sg x96.1.Lo, sg x96.1.Hi, sl p97 (x96.1.Vers).length c98, sl p99 (x96.1.Vec).length c100, si x96.1.Cmd.Kind, si x96.1.Cmd.DC, si x96.1.Cmd.Shard, si x96.1.Cmd.Node, si x96.1.Cmd.Mode, sg x96.1.Cmd.Key], .box b94 93 [si x74.1.Kind, su x74.1.Id, su x74.1.N, su x74.1.TS, sg x74.1.Lo, sg x74.1.Hi, sl p75 (x74.1.Vers).length c76, sl p77 (x74.1.Vec).length c78, si x74.1.Cmd.Kind, si x74.1.Cmd.DC, si x74.1.Cmd.Shard, si x74.1.Cmd.Node, si x74.1.Cmd.Mode, sg x74.1.Cmd.Key], .box b72 93 [si 3, su 3, su 0, su a8, sg a7, sg ByteArray.empty, sl none 0 0, sl none 0 0, si 0, si 0, si 0, si 0, si 0, sg ByteArray.empty], .tok p112 157 3 (x96.2.2.owned).length c113, .tok p114 25 1 (x96.2.2.modes).length c115, .tok p97 37 6 (x96.1.Vers).length c98, .tok p99 25 1 (x96.1.Vec).length c100, .tok p75 37 6 (x74.1.Vers).length c76, .tok p77 25 1 (x74.1.Vec).length c78])
 refine wp 2 [4, 13, 14, 15, 16, 104, 107, 108, 109] hF fun a hF => ?_
 refine bind_split hv147 (fun x149 hx149 hv147 => ?_)
 refine wcg hF (wcS 6 [7, 10, 11, 12, 13, 14, 0, 1, 2, 3, 4, 5, 6, 8, 9, 15, 16, 17, 18, 19, 20, 21, 22, 23, 24, 25] hF hS (fun hS => C_node_Node_Owns N (T_node_Node.mk x123.2.2.dc (T_store_Store.mk x123.2.2.store.chains x123.2.2.store.floor) (T_part_Part.mk x123.2.2.part.clock x123.2.2.part.open_) x123.2.2.writes x123.2.2.owned x123.2.2.modes) a7 b128 p129 m130 c131 b132 p133 m134 c135 p136 m137 c138 p139 c140 p141 c142 b29 ⟨rfl, hS.pick [2, 3, 4, 5, 6] (by kernel_rfl)⟩ hx149) ?_)
 rintro _ κ w a ⟨rfl, h2⟩ hF hB
 have hS := hB _ _ h2
 refine wp 2 [4, 13, 14, 15, 16, 112] hF fun a hF => ?_
 refine wpListIn_nil ?_
 cases hv147
 exact ⟨_, hF.kp [4, 13, 14, 15, 16, 112], hS.sp [0, 1, 3, 6, 7, 9, 18, 19, 13, 14, 20, 21, 24, 25, 2, 4, 5, 8, 10, 11] [7, 8, 9, 10, 11, 2, 3, 4, 5, 6, 19, 20, 21, 22], trivial⟩
 rintro a w ⟨κ, hF, hS, -⟩
 refine hK145 _ _ ?_
 refine bif_split H (fun hb H => ?_) (fun hb H => ?_)
 refine cond_t hF (by kernel_rfl) hb ?_
 refine wpIn_seq_k fun K150 hK150 => ?_
 refine wpIn_region_lit ?_
 refine wp 1 [12] hF fun a hF => ?_
 refine wpListIn_nil ?_
 refine hK150 _ _ ?_
 refine wpIn_ret ?_
 cases H
 exact (ret_done hF hS (res1 Try.results14 (rvt hF)) ⟨rfl, (hS.pick [] (by kernel_rfl)).ro, hS.newC [] (by decide) (by kernel_rfl)⟩)
 refine cond_f hF (by kernel_rfl) hb ?_
 refine wpIn_skip ?_
 refine hK144 _ _ ?_
 refine wpIn_seq_k fun K151 hK151 => ?_
 refine wpIn_region_lit ?_
 refine wp 1 [4, 14, 15, 16, 114] hF fun a hF => ?_
 refine wc (wls hF hS 7 0 14 fun a hF => ?_)
 refine bind_split H (fun x152 hx152 H => ?_)
 refine wc (wcS 8 [3, 10, 11, 4, 17, 5, 18, 19, 0, 1, 2, 6, 7, 8, 9, 12, 13, 14, 15, 16] hF hS (fun hS => C_node_Node_Take N (T_node_Node.mk x96.2.2.dc (T_store_Store.mk x96.2.2.store.chains x96.2.2.store.floor) (T_part_Part.mk x96.2.2.part.clock x96.2.2.part.open_) x96.2.2.writes x96.2.2.owned x96.2.2.modes) (T_api_Msg.mk 3 3 0 a8 a7 ByteArray.empty ([] : List T_api_Ver) ([] : List Int) (T_api_Cmd.mk 0 0 0 0 0 ByteArray.empty)) 0 b101 p102 m103 c104 b105 p106 m107 c108 p109 m110 c111 p112 c113 p114 c115 none 0 none 0 b12 ⟨rfl, hS.pick [0, 1, 2, 3, 4, 12, 13] (by kernel_rfl)⟩ hx152) ?_)
 rintro _ κ w a ⟨p153, c154, p155, c156, b157, p158, m159, c160, b161, p162, m163, c164, p165, m166, c167, p168, c169, p170, c171, rfl, h2⟩ hF hB
 have hS := hB _ _ h2
 refine wp 3 [4, 14, 15, 16, 117, 118] hF fun a hF => ?_
 refine wc (wal hF hS [si 0, su 0, su 0, su 0, sg ByteArray.empty, sg ByteArray.empty, sl none 0 0, sl none 0 0, si 0, si 0, si 0, si 0, si 0, sg ByteArray.empty] (sgN 14 sgNil) fun b172 a w hF hS => ?_)
 refine wc (wst hF hS 0 0 14 [si x152.1.Kind, su x152.1.Id, su x152.1.N, su x152.1.TS, sg x152.1.Lo, sg x152.1.Hi, sl p153 (x152.1.Vers).length c154, sl p155 (x152.1.Vec).length c156, si x152.1.Cmd.Kind, si x152.1.Cmd.DC, si x152.1.Cmd.Shard, si x152.1.Cmd.Node, si x152.1.Cmd.Mode, sg x152.1.Cmd.Key] (sgN 14 sgNil) fun a w hF hS => ?_)
 refine wp 1 [4, 14, 15, 16, 22, 23] hF fun a hF => ?_
 refine wpListIn_nil ?_
 refine hK151 _ _ ?_
 refine wpIn_seq_k fun K173 hK173 => ?_
 refine wpIn_region_lit ?_
 refine wp 1 [4, 14, 15, 16, 22, 23, 120] hF fun a hF => ?_
 refine wc (wls hF hS 15 0 14 fun a hF => ?_)
 refine bind_split H (fun x174 hx174 H => ?_)
 refine wc (wcS 8 [11, 16, 17, 12, 20, 13, 21, 22, 0, 1, 2, 3, 4, 5, 6, 7, 8, 9, 10, 14, 15, 18, 19] hF hS (fun hS => C_node_Node_Take N (T_node_Node.mk x123.2.2.dc (T_store_Store.mk x123.2.2.store.chains x123.2.2.store.floor) (T_part_Part.mk x123.2.2.part.clock x123.2.2.part.open_) x123.2.2.writes x123.2.2.owned x123.2.2.modes) (T_api_Msg.mk 3 3 0 a8 a7 ByteArray.empty ([] : List T_api_Ver) ([] : List Int) (T_api_Cmd.mk 0 0 0 0 0 ByteArray.empty)) 0 b128 p129 m130 c131 b132 p133 m134 c135 p136 m137 c138 p139 c140 p141 c142 none 0 none 0 b29 ⟨rfl, hS.pick [12, 13, 14, 15, 16, 19, 20] (by kernel_rfl)⟩ hx174) ?_)
 rintro _ κ w a ⟨p175, c176, p177, c178, b179, p180, m181, c182, b183, p184, m185, c186, p187, m188, c189, p190, c191, p192, c193, rfl, h2⟩ hF hB
 have hS := (hB _ _ h2).cC (C' := [.box b29 151 [si x174.2.2.dc, (1, [pt b179 0]), (1, [pt b183 0]), (1, [.map p187]), sl p190 (x174.2.2.owned).length c191, sl p192 (x174.2.2.modes).length c193], .tok p190 157 3 (x174.2.2.owned).length c191, .tok p192 25 1 (x174.2.2.modes).length c193, .box b179 130 [(1, [.map p180]), su x174.2.2.store.floor], .ext (objX p180 (.map m181 c182)), .box b183 174 [su x174.2.2.part.clock, (1, [.map p184])], .ext (objX p184 (.map m185 c186)), .ext (objX p187 (.map m188 c189)), .tok p175 37 6 (x174.1.Vers).length c176, .tok p177 25 1 (x174.1.Vec).length c178, .box b172 93 [si x152.1.Kind, su x152.1.Id, su x152.1.N, su x152.1.TS, sg x152.1.Lo, sg x152.1.Hi, sl p153 (x152.1.Vers).length c154, sl p155 (x152.1.Vec).length c156, si x152.1.Cmd.Kind, si x152.1.Cmd.DC, si x152.1.Cmd.Shard, si x152.1.Cmd.Node, si x152.1.Cmd.Mode, sg x152.1.Cmd.Key], .box b12 151 [si x152.2.2.dc, (1, [pt b157 0]), (1, [pt b161 0]), (1, [.map p165]), sl p168 (x152.2.2.owned).length c169, sl p170 (x152.2.2.modes).length c171], .tok p168 157 3 (x152.2.2.owned).length c169, .tok p170 25 1 (x152.2.2.modes).length c171, .box b157 130 [(1, [.map p158]), su x152.2.2.store.floor], .ext (objX p158 (.map m159 c160)), .box b161 174 [su x152.2.2.part.clock, (1, [.map p162])], .ext (objX p162 (.map m163 c164)), .ext (objX p165 (.map m166 c167)), .tok p153 37 6 (x152.1.Vers).length c154, .tok p155 25 1 (x152.1.Vec).length c156, .box b94 93 [si x74.1.Kind, su x74.1.Id, su x74.1.N, su x74.1.TS, sg x74.1.Lo, sg x74.1.Hi, sl p75 (x74.1.Vers).length c76, sl p77 (x74.1.Vec).length c78, si x74.1.Cmd.Kind, si x74.1.Cmd.DC, si x74.1.Cmd.Shard, si x74.1.Cmd.Node, si x74.1.Cmd.Mode, sg x74.1.Cmd.Key], .box b72 93 [si 3, su 3, su 0, su a8, sg a7, sg ByteArray.empty, sl none 0 0, sl none 0 0, si 0, si 0, si 0, si 0, si 0, sg ByteArray.empty], .tok p75 37 6 (x74.1.Vers).length c76, .tok p77 25 1 (x74.1.Vec).length c78])
 refine wp 3 [4, 14, 16, 22, 23, 123, 124] hF fun a hF => ?_
 refine wc (wal hF hS [si 0, su 0, su 0, su 0, sg ByteArray.empty, sg ByteArray.empty, sl none 0 0, sl none 0 0, si 0, si 0, si 0, si 0, si 0, sg ByteArray.empty] (sgN 14 sgNil) fun b194 a w hF hS => ?_)
 refine wc (wst hF hS 0 0 14 [si x174.1.Kind, su x174.1.Id, su x174.1.N, su x174.1.TS, sg x174.1.Lo, sg x174.1.Hi, sl p175 (x174.1.Vers).length c176, sl p177 (x174.1.Vec).length c178, si x174.1.Cmd.Kind, si x174.1.Cmd.DC, si x174.1.Cmd.Shard, si x174.1.Cmd.Node, si x174.1.Cmd.Mode, sg x174.1.Cmd.Key] (sgN 14 sgNil) fun a w hF hS => ?_)
 refine wp 1 [4, 14, 16, 22, 23, 24, 25] hF fun a hF => ?_
 refine wpListIn_nil ?_
 refine hK173 _ _ ?_
 refine wpIn_seq_k fun K195 hK195 => ?_
 refine wpIn_seq_k fun K196 hK196 => ?_
 refine wpIn_region_lit ?_
 refine wp 3 [4, 14, 16, 22, 24, 25, 127] hF fun a hF => ?_
 refine wpListIn_nil ?_
 refine hK196 _ _ ?_
 refine bif_split H (fun hb H => ?_) (fun hb H => ?_)
 refine cond_t hF (by kernel_rfl) hb ?_
 refine wpIn_seq_k fun K197 hK197 => ?_
 refine wpIn_region_lit ?_
 refine wp 1 [12] hF fun a hF => ?_
 refine wpListIn_nil ?_
 refine hK197 _ _ ?_
 refine wpIn_ret ?_
 cases H
 exact (ret_done hF hS (res1 Try.results14 (rvt hF)) ⟨rfl, (hS.pick [] (by kernel_rfl)).ro, hS.newC [] (by decide) (by kernel_rfl)⟩)
 refine cond_f hF (by kernel_rfl) hb ?_
 refine wpIn_skip ?_
 refine hK195 _ _ ?_
 refine seq_join (fun a w => ∃ (κ : Gh) (y198 y199 y200 y201 : Int) (y202 y203 : ByteArray) (y204 : List T_api_Ver) (p205 : Option Addr) (c206 : Nat) (y207 : List Int) (p208 : Option Addr) (c209 : Nat) (y210 y211 y212 y213 y214 : Int) (y215 : ByteArray), Fr (143) [] [(4, .string (a7)), (14, pt b29 0), (16, pt b94 0), (22, pt b172 0), (25, vb x174.2.1)] a ∧ SS [] κ0 w0 κ w [.box b29 151 [si x174.2.2.dc, (1, [pt b179 0]), (1, [pt b183 0]), (1, [.map p187]), sl p190 (x174.2.2.owned).length c191, sl p192 (x174.2.2.modes).length c193], .box b179 130 [(1, [.map p180]), su x174.2.2.store.floor], .box b183 174 [su x174.2.2.part.clock, (1, [.map p184])], .box b172 93 [si y198, su y199, su y200, su y201, sg y202, sg y203, sl p205 (y204).length c206, sl p208 (y207).length c209, si y210, si y211, si y212, si y213, si y214, sg y215], .box b94 93 [si x74.1.Kind, su x74.1.Id, su x74.1.N, su x74.1.TS, sg x74.1.Lo, sg x74.1.Hi, sl p75 (x74.1.Vers).length c76, sl p77 (x74.1.Vec).length c78, si x74.1.Cmd.Kind, si x74.1.Cmd.DC, si x74.1.Cmd.Shard, si x74.1.Cmd.Node, si x74.1.Cmd.Mode, sg x74.1.Cmd.Key], .tok p205 37 6 (y204).length c206, .tok p208 25 1 (y207).length c209, .tok p190 157 3 (x174.2.2.owned).length c191, .tok p192 25 1 (x174.2.2.modes).length c193, .tok p75 37 6 (x74.1.Vers).length c76, .tok p77 25 1 (x74.1.Vec).length c78, .ext (objX p180 (.map m181 c182)), .ext (objX p184 (.map m185 c186)), .ext (objX p187 (.map m188 c189))] [Map.mp kStr false (tSl f_api_Ver.ty) p180 m181 c182 x174.2.2.store.chains, Map.mp (kInt .u64) false (fInt .u64).ty p184 m185 c186 x174.2.2.part.open_, Map.mp (kInt .u64) false (tSl f_api_Ver.ty) p187 m188 c189 x174.2.2.writes, Ro.mp f_span_Shard.ty p190 c191 x174.2.2.owned, Ro.mp (fInt .u64).ty p192 c193 x174.2.2.modes, Ro.mp f_api_Ver.ty p205 c206 y204, Ro.mp (fInt .u64).ty p208 c209 y207, Ro.mp f_api_Ver.ty p75 c76 x74.1.Vers, Ro.mp (fInt .u64).ty p77 c78 x74.1.Vec] ∧ M.law20_NodeMoves_k1 N a7 x74 x174 y198 y199 y200 y201 y202 y203 y204 y207 y210 y211 y212 y213 y214 y215 = some r) ?_ ?_
 refine wpIn_seq_k fun K222 hK222 => ?_
 refine wpIn_region_lit ?_
 refine wp 1 [4, 14, 16, 22, 24, 25, 128] hF fun a hF => ?_
 refine wpListIn_nil ?_
 refine hK222 _ _ ?_
 refine bif_split H (fun hb H => ?_) (fun hb H => ?_)
 refine cond_t hF (by kernel_rfl) hb ?_
 refine wpIn_region_lit ?_
 refine wc (wls hF hS 0 0 14 fun a hF => ?_)
 refine wc (wst hF hS 11 0 14 [si x174.1.Kind, su x174.1.Id, su x174.1.N, su x174.1.TS, sg x174.1.Lo, sg x174.1.Hi, sl p175 (x174.1.Vers).length c176, sl p177 (x174.1.Vec).length c178, si x174.1.Cmd.Kind, si x174.1.Cmd.DC, si x174.1.Cmd.Shard, si x174.1.Cmd.Node, si x174.1.Cmd.Mode, sg x174.1.Cmd.Key] (sgN 14 sgNil) fun a w hF hS => ?_)
 refine wpListIn_nil ?_
 exact ⟨_, x174.1.Kind, x174.1.Id, x174.1.N, x174.1.TS, x174.1.Lo, x174.1.Hi, x174.1.Vers, p175, c176, x174.1.Vec, p177, c178, x174.1.Cmd.Kind, x174.1.Cmd.DC, x174.1.Cmd.Shard, x174.1.Cmd.Node, x174.1.Cmd.Mode, x174.1.Cmd.Key, hF.kp [4, 14, 16, 22, 25], hS.sp [1, 4, 6, 11, 22, 9, 10, 2, 3, 24, 25, 5, 7, 8] [2, 3, 4, 5, 6, 0, 1, 24, 25], H⟩
 refine cond_f hF (by kernel_rfl) hb ?_
 refine wpIn_skip ?_
 exact ⟨_, x152.1.Kind, x152.1.Id, x152.1.N, x152.1.TS, x152.1.Lo, x152.1.Hi, x152.1.Vers, p153, c154, x152.1.Vec, p155, c156, x152.1.Cmd.Kind, x152.1.Cmd.DC, x152.1.Cmd.Shard, x152.1.Cmd.Node, x152.1.Cmd.Mode, x152.1.Cmd.Key, hF.kp [4, 14, 16, 22, 25], hS.sp [1, 4, 6, 11, 22, 20, 21, 2, 3, 24, 25, 5, 7, 8] [2, 3, 4, 5, 6, 7, 8, 24, 25], H⟩
 rintro a w ⟨κ, y198, y199, y200, y201, y202, y203, y204, p205, c206, y207, p208, c209, y210, y211, y212, y213, y214, y215, hF, hS, H⟩
 unfold M.law20_NodeMoves_k1 at H
 refine wpIn_seq_k fun K216 hK216 => ?_
 refine wpIn_region_lit ?_
 refine bind_split H (fun v218 hv218 H => ?_)
 refine wl_join (fun a w => ∃ κ : Gh, Fr (143) [] [(12, vb v218)] a ∧ SS [] κ0 w0 κ w [] [] ∧ True) ?_ ?_
 refine bind_split hv218 (fun x219 hx219 hv218 => ?_)
 refine wc (wo_callP hF hS (by kernel_rfl) (by kernel_rfl) (C_law20_awake N hS.fresh   ((hS.pick [] (by kernel_rfl)).ro) hx219) ?_)
 rintro _ κ w a ⟨rfl, hR, hN⟩ hF hS hO
 refine wp 1 [4, 14, 16, 22, 25, 131] hF fun a hF => ?_
 refine bif_split hv218 (fun hb hv218 => ?_) (fun hb hv218 => ?_)
 have hF := hF.boolv 131 (by kernel_rfl) hb
 refine wp 3 [16, 22, 131, 132, 133, 134] hF fun a hF => ?_
 refine bind_split hv218 (fun x220 hx220 hv218 => ?_)
 refine wcg hF (wcS 6 [0, 1, 11, 2, 12, 13, 3, 4, 5, 6, 7, 8, 9, 10] hF hS (fun hS => C_node_Node_Owns N (T_node_Node.mk x174.2.2.dc (T_store_Store.mk x174.2.2.store.chains x174.2.2.store.floor) (T_part_Part.mk x174.2.2.part.clock x174.2.2.part.open_) x174.2.2.writes x174.2.2.owned x174.2.2.modes) a7 b179 p180 m181 c182 b183 p184 m185 c186 p187 m188 c189 p190 c191 p192 c193 b29 ⟨rfl, hS.pick (rg 5) (by kernel_rfl)⟩ hx220) ?_)
 rintro _ κ w a ⟨rfl, h2⟩ hF hB
 have hS := hB _ _ h2
 refine wp 3 [16, 22, 138] hF fun a hF => ?_
 refine bif_split hv218 (fun hb hv218 => ?_) (fun hb hv218 => ?_)
 have hF := hF.boolv 138 (by kernel_rfl) hb
 refine wcg hF (wls hF hS 6 0 14 fun a hF => ?_)
 refine wcg hF (wls hF hS 7 0 14 fun a hF => ?_)
 refine bind_split hv218 (fun x221 hx221 hv218 => ?_)
 refine wcg hF (wo_callP hF hS (by kernel_rfl) (by kernel_rfl) (C_ref04_Same N hS.fresh (T_api_Msg.mk y198 y199 y200 y201 y202 y203 y204 y207 (T_api_Cmd.mk y210 y211 y212 y213 y214 y215)) (T_api_Msg.mk x74.1.Kind x74.1.Id x74.1.N x74.1.TS x74.1.Lo x74.1.Hi x74.1.Vers x74.1.Vec (T_api_Cmd.mk x74.1.Cmd.Kind x74.1.Cmd.DC x74.1.Cmd.Shard x74.1.Cmd.Node x74.1.Cmd.Mode x74.1.Cmd.Key)) p205 c206 p208 c209 p75 c76 p77 c78 ((hS.pick [5, 6, 7, 8] (by kernel_rfl)).ro) hx221) ?_)
 rintro _ κ w a ⟨rfl, hR, hN⟩ hF hS hO
 refine wp 2 [12] hF fun a hF => ?_
 refine wpListIn_nil ?_
 cases hv218
 exact ⟨_, hF.kp [12], hS.sp [] [], trivial⟩
 have hF := hF.boolv 138 (by kernel_rfl) hb
 refine wp 5 [12] hF fun a hF => ?_
 refine wpListIn_nil ?_
 cases hv218
 exact ⟨_, hF.kp [12], hS.sp [] [], trivial⟩
 have hF := hF.boolv 131 (by kernel_rfl) hb
 refine wp 12 [12] hF fun a hF => ?_
 refine wpListIn_nil ?_
 cases hv218
 exact ⟨_, hF.kp [12], hS.sp [] [], trivial⟩
 rintro a w ⟨κ, hF, hS, -⟩
 refine hK216 _ _ ?_
 refine wpIn_ret ?_
 cases H
 exact (ret_done hF hS (res1 Try.results14 (rvt hF)) ⟨rfl, (hS.pick [] (by kernel_rfl)).ro, hS.newC [] (by decide) (by kernel_rfl)⟩)
end Go.Cf
