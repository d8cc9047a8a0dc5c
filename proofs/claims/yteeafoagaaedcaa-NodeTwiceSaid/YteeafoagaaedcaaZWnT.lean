/- The walks: each function returns what its model says. Printed by a program of ours. -/
import Derived.Test.YteeafoagaaedcaaZMnT
import Derived.Test.YteeafoagaaedcaaZWs3
import Derived.Test.YteeafoagaaedcaaZWn2
import Derived.Test.YteeafoagaaedcaaZWn3
import Derived.Test.YteeafoagaaedcaaZWn4
namespace Go.Cf
open Go Go.Proofs
set_option linter.unusedVariables false
set_option maxRecDepth 20000 in
set_option maxHeartbeats 8000000 in
theorem C_law20_NodeTwice (N : Nat) {κ0 : Gh} {w0 : World} (hfr : Fresh κ0 w0) (a1 : Int) (a2 : (List T_law20_Op)) (a5 : T_law20_Op) (a10 : ByteArray) (p3 : Option Addr) (c4 : Nat) (p6 : Option Addr) (c7 : Nat) (p8 : Option Addr) (c9 : Nat) (hR : ∀ m ∈ ([Ro.mp t_law20_Op p3 c4 a2, Ro.mp f_api_Ver.ty p6 c7 a5.Msg.Vers, Ro.mp (fInt .u64).ty p8 c9 a5.Msg.Vec] : List MP), m.p κ0 w0) {r : (Bool)} (H : M.law20_NodeTwice N a1 a2 a5 a10 = some r) :
    Calls Try.prog 17 #[vi a1, .slice p3 (a2).length c4, .agg (flat [si a5.Msg.Kind, su a5.Msg.Id, su a5.Msg.N, su a5.Msg.TS, sg a5.Msg.Lo, sg a5.Msg.Hi, sl p6 (a5.Msg.Vers).length c7, sl p8 (a5.Msg.Vec).length c9, si a5.Msg.Cmd.Kind, si a5.Msg.Cmd.DC, si a5.Msg.Cmd.Shard, si a5.Msg.Cmd.Node, si a5.Msg.Cmd.Mode, sg a5.Msg.Cmd.Key, si a5.Ms]).toArray, .string (a10)] w0 (Post [] κ0 w0 fun v κ w => v = vb r ∧ (∀ m ∈ ([] : List MP), m.p κ w) ∧ NewC w0 κ w []) := by
 have hS := SS.start hfr hR
 refine enter (N := (82)) (L := [(0, vi a1), (1, .slice p3 (a2).length c4), (2, .agg (flat [si a5.Msg.Kind, su a5.Msg.Id, su a5.Msg.N, su a5.Msg.TS, sg a5.Msg.Lo, sg a5.Msg.Hi, sl p6 (a5.Msg.Vers).length c7, sl p8 (a5.Msg.Vec).length c9, si a5.Msg.Cmd.Kind, si a5.Msg.Cmd.DC, si a5.Msg.Cmd.Shard, si a5.Msg.Cmd.Node, si a5.Msg.Cmd.Mode, sg a5.Msg.Cmd.Key, si a5.Ms]).toArray), (3, .string (a10))]) Try.func17 rfl Try.ntmps17 (show 4 ≤ (82) by decide) rfl fun a hF => ?_
 unfold M.law20_NodeTwice at H
 refine wpIn_seq_k fun K11 hK11 => ?_
 refine wpIn_region_lit ?_
 refine wc (wbx hF hS [si a5.Msg.Kind, su a5.Msg.Id, su a5.Msg.N, su a5.Msg.TS, sg a5.Msg.Lo, sg a5.Msg.Hi, sl p6 (a5.Msg.Vers).length c7, sl p8 (a5.Msg.Vec).length c9, si a5.Msg.Cmd.Kind, si a5.Msg.Cmd.DC, si a5.Msg.Cmd.Shard, si a5.Msg.Cmd.Node, si a5.Msg.Cmd.Mode, sg a5.Msg.Cmd.Key, si a5.Ms] (sgN 15 sgNil) fun b12 a w hF hS => ?_)
 refine wp 1 [0, 1, 3, 6] hF fun a hF => ?_
 refine wpListIn_nil ?_
 refine hK11 _ _ ?_
 refine wpIn_seq_k fun K13 hK13 => ?_
 refine wpIn_region_lit ?_
 refine wp 1 [1, 3, 6, 15] hF fun a hF => ?_
 refine bind_split H (fun x14 hx14 H => ?_)
 refine wc (wcS 0 [0] hF hS (fun hS => C_node_New N a1   ⟨rfl, hS.pick [] (by kernel_rfl)⟩ hx14) ?_)
 rintro _ κ w a ⟨b15, b16, p17, m18, c19, b20, p21, m22, c23, p24, m25, c26, p27, c28, p29, c30, rfl, h2⟩ hF hB
 have hS := hB _ _ h2
 refine wp 1 [1, 3, 6, 9] hF fun a hF => ?_
 refine wpListIn_nil ?_
 refine hK13 _ _ ?_
 refine wpIn_seq_k fun K31 hK31 => ?_
 refine wpIn_seq_k fun K32 hK32 => ?_
 refine wpIn_region_lit ?_
 refine wp 2 [1, 3, 6, 9, 18] hF fun a hF => ?_
 refine wpListIn_nil ?_
 refine hK32 _ _ ?_
 refine cond_f hF (by kernel_rfl) rfl ?_
 refine wpIn_skip ?_
 refine hK31 _ _ ?_
 refine wpIn_seq_k fun K33 hK33 => ?_
 refine wpIn_seq_k fun K34 hK34 => ?_
 refine wpIn_region_lit ?_
 refine wp 1 [1, 3, 6, 9, 10] hF fun a hF => ?_
 refine wpListIn_nil ?_
 refine hK34 _ _ ?_
 refine wpIn_block ?_
 refine loop_fuel (n := N) (fun n a w => ∃ (κ : Gh) (y85 : Int) (b86 : Nat) (p87 : Option Nat) (m88 : Array MapEntry) (c89 : Nat) (y90 : Mp ByteArray (List T_api_Ver)) (y91 : Int) (b92 : Nat) (y93 : Int) (p94 : Option Nat) (m95 : Array MapEntry) (c96 : Nat) (y97 : Mp Int Int) (p98 : Option Nat) (m99 : Array MapEntry) (c100 : Nat) (y101 : Mp Int (List T_api_Ver)) (y102 : List T_span_Shard) (p103 : Option Addr) (c104 : Nat) (y105 : List Int) (p106 : Option Addr) (c107 : Nat) (y108 : Int), Fr (82) [] [(1, .slice p3 (a2).length c4), (3, .string (a10)), (6, pt b12 0), (9, pt b15 0), (10, vi y108)] a ∧ SS [] κ0 w0 κ w [.box b15 151 [si y85, (1, [pt b86 0]), (1, [pt b92 0]), (1, [.map p98]), sl p103 (y102).length c104, sl p106 (y105).length c107], .box b12 104 [si a5.Msg.Kind, su a5.Msg.Id, su a5.Msg.N, su a5.Msg.TS, sg a5.Msg.Lo, sg a5.Msg.Hi, sl p6 (a5.Msg.Vers).length c7, sl p8 (a5.Msg.Vec).length c9, si a5.Msg.Cmd.Kind, si a5.Msg.Cmd.DC, si a5.Msg.Cmd.Shard, si a5.Msg.Cmd.Node, si a5.Msg.Cmd.Mode, sg a5.Msg.Cmd.Key, si a5.Ms], .box b86 130 [(1, [.map p87]), su y91], .box b92 174 [su y93, (1, [.map p94])], .tok p103 157 3 (y102).length c104, .tok p106 25 1 (y105).length c107, .ext (objX p87 (.map m88 c89)), .ext (objX p94 (.map m95 c96)), .ext (objX p98 (.map m99 c100))] [Ro.mp t_law20_Op p3 c4 a2, Map.mp kStr false (tSl f_api_Ver.ty) p87 m88 c89 y90, Map.mp (kInt .u64) false (fInt .u64).ty p94 m95 c96 y97, Map.mp (kInt .u64) false (tSl f_api_Ver.ty) p98 m99 c100 y101, Ro.mp f_span_Shard.ty p103 c104 y102, Ro.mp (fInt .u64).ty p106 c107 y105, Ro.mp f_api_Ver.ty p6 c7 a5.Msg.Vers, Ro.mp (fInt .u64).ty p8 c9 a5.Msg.Vec] ∧ M.law20_NodeTwice_L1 N n a2 a5 a10 y85 y90 y91 y93 y97 y101 y102 y105 y108 = some r) ?_ ?_
 exact ⟨_, x14.dc, b16, p17, m18, c19, x14.store.chains, x14.store.floor, b20, x14.part.clock, p21, m22, c23, x14.part.open_, p24, m25, c26, x14.writes, x14.owned, p27, c28, x14.modes, p29, c30, 0, hF.kp [1, 3, 6, 9, 10], hS.sp [0, 8, 1, 3, 6, 7, 2, 4, 5] [5, 0, 1, 2, 3, 4, 6, 7], H⟩
 rintro n a w ⟨κ, y85, b86, p87, m88, c89, y90, y91, b92, y93, p94, m95, c96, y97, p98, m99, c100, y101, y102, p103, c104, y105, p106, c107, y108, hF, hS, H⟩
 rcases n with _ | fuel1
 simp [M.law20_NodeTwice_L1] at H
 simp only [M.law20_NodeTwice_L1] at H
 refine wpIn_seq_k fun K109 hK109 => ?_
 refine wpIn_seq_k fun K110 hK110 => ?_
 refine wpIn_region_lit ?_
 refine bind_split H (fun v112 hv112 H => ?_)
 refine wl_join (fun a w => ∃ κ : Gh, Fr (82) [] [(1, .slice p3 (a2).length c4), (3, .string (a10)), (6, pt b12 0), (9, pt b15 0), (10, vi y108), (26, vb v112)] a ∧ SS [] κ0 w0 κ w [.box b15 151 [si y85, (1, [pt b86 0]), (1, [pt b92 0]), (1, [.map p98]), sl p103 (y102).length c104, sl p106 (y105).length c107], .box b12 104 [si a5.Msg.Kind, su a5.Msg.Id, su a5.Msg.N, su a5.Msg.TS, sg a5.Msg.Lo, sg a5.Msg.Hi, sl p6 (a5.Msg.Vers).length c7, sl p8 (a5.Msg.Vec).length c9, si a5.Msg.Cmd.Kind, si a5.Msg.Cmd.DC, si a5.Msg.Cmd.Shard, si a5.Msg.Cmd.Node, si a5.Msg.Cmd.Mode, sg a5.Msg.Cmd.Key, si a5.Ms], .box b86 130 [(1, [.map p87]), su y91], .box b92 174 [su y93, (1, [.map p94])], .tok p103 157 3 (y102).length c104, .tok p106 25 1 (y105).length c107, .ext (objX p87 (.map m88 c89)), .ext (objX p94 (.map m95 c96)), .ext (objX p98 (.map m99 c100))] [Ro.mp t_law20_Op p3 c4 a2, Map.mp kStr false (tSl f_api_Ver.ty) p87 m88 c89 y90, Map.mp (kInt .u64) false (fInt .u64).ty p94 m95 c96 y97, Map.mp (kInt .u64) false (tSl f_api_Ver.ty) p98 m99 c100 y101, Ro.mp f_span_Shard.ty p103 c104 y102, Ro.mp (fInt .u64).ty p106 c107 y105, Ro.mp f_api_Ver.ty p6 c7 a5.Msg.Vers, Ro.mp (fInt .u64).ty p8 c9 a5.Msg.Vec] ∧ True) ?_ ?_
 refine wp 5 [1, 3, 6, 9, 10, 23] hF fun a hF => ?_
 refine bif_split hv112 (fun hb hv112 => ?_) (fun hb hv112 => ?_)
 have hF := hF.boolv 23 (by kernel_rfl) hb
 refine wp 3 [1, 3, 6, 9, 10, 26] hF fun a hF => ?_
 refine wpListIn_nil ?_
 cases hv112
 exact ⟨_, hF.kp [1, 3, 6, 9, 10, 26], hS.sp (rg 9) (rg 8), trivial⟩
 have hF := hF.boolv 23 (by kernel_rfl) hb
 refine wp 3 [1, 3, 6, 9, 10, 26] hF fun a hF => ?_
 refine wpListIn_nil ?_
 cases hv112
 exact ⟨_, hF.kp [1, 3, 6, 9, 10, 26], hS.sp (rg 9) (rg 8), trivial⟩
 rintro a w ⟨κ, hF, hS, -⟩
 refine hK110 _ _ ?_
 refine bif_split H (fun hb H => ?_) (fun hb H => ?_)
 refine cond_t hF (by kernel_rfl) hb ?_
 refine wpIn_skip ?_
 refine hK109 _ _ ?_
 refine wpIn_seq_k fun K113 hK113 => ?_
 refine wpIn_block ?_
 refine bind_split H (fun x114 hx114 H => ?_)
 obtain ⟨b115, f116, hpx114⟩ := hS.ptr 0 rfl hx114
 obtain ⟨_, ⟨⟨p117, c118, p119, c120⟩, rfl, hR⟩, hc⟩ := hS.elem 0 rfl hpx114 hx114
 have hS := (hS.adds hR).add hc
 refine rga (fun _ => True) [] ?_
 have hS := hS.drew
 refine any_pure [0, 1, 2, 7, 8] [1, 3, 6, 9, 10, 29, 30, 31, 36, 37] (L' := [(1, .slice p3 (a2).length c4), (3, .string (a10)), (6, pt b12 0), (9, pt b15 0), (10, vi y108), (29, pt b15 0), (30, .slice p3 (a2).length c4), (31, vi y108), (36, .slice p3 (a2).length c4), (37, vi y108)]) (listed' := (bitA 13 391)) (fuel := 8) hF trivial (by kernel_rfl) (by intro c a w t v h; cases t <;> exact h) (by kernel_rfl) rfl fun a hF => ?_
 refine any_weakS hS [12] ?_
 refine atk 3 (some 32) hF (hS.sx [0, 1, 2, 3, 6, 7, 8] (rg 11)) rfl (fun w _ => val_index (E := 104) (sz := 15) rfl hpx114 rfl (by kernel_rfl) rfl hx114 (by kernel_rfl) (by kernel_rfl) w) fun a hF => ?_
 refine any_pure [4] [1, 3, 6, 9, 10, 29, 33, 36, 37] (L' := [(1, .slice p3 (a2).length c4), (3, .string (a10)), (6, pt b12 0), (9, pt b15 0), (10, vi y108), (29, pt b15 0), (33, .pointer (some ⟨b115, (f116 + Int.toNat y108 * 15), none⟩)), (36, .slice p3 (a2).length c4), (37, vi y108)]) (listed' := (bitA 13 415)) (fuel := 6) hF (hS.sx [0, 1, 2, 3, 6, 7, 8] (rg 11)) (by kernel_rfl) (by intro c a w t v h; cases t <;> exact h) (by kernel_rfl) rfl fun a hF => ?_
 refine atk 5 (some 34) hF (hS.sx [0, 1, 2, 3, 6, 7, 8] (rg 11)) rfl (val_loadCs 0 0 14 (s := [si x114.Msg.Kind, su x114.Msg.Id, su x114.Msg.N, su x114.Msg.TS, sg x114.Msg.Lo, sg x114.Msg.Hi, sl p117 (x114.Msg.Vers).length c118, sl p119 (x114.Msg.Vec).length c120, si x114.Msg.Cmd.Kind, si x114.Msg.Cmd.DC, si x114.Msg.Cmd.Shard, si x114.Msg.Cmd.Node, si x114.Msg.Cmd.Mode, sg x114.Msg.Cmd.Key, si x114.Ms]) (s' := [si x114.Msg.Kind, su x114.Msg.Id, su x114.Msg.N, su x114.Msg.TS, sg x114.Msg.Lo, sg x114.Msg.Hi, sl p117 (x114.Msg.Vers).length c118, sl p119 (x114.Msg.Vec).length c120, si x114.Msg.Cmd.Kind, si x114.Msg.Cmd.DC, si x114.Msg.Cmd.Shard, si x114.Msg.Cmd.Node, si x114.Msg.Cmd.Mode, sg x114.Msg.Cmd.Key]) (n := 14) rfl rfl rfl (show segGood [si x114.Msg.Kind, su x114.Msg.Id, su x114.Msg.N, su x114.Msg.TS, sg x114.Msg.Lo, sg x114.Msg.Hi, sl p117 (x114.Msg.Vers).length c118, sl p119 (x114.Msg.Vec).length c120, si x114.Msg.Cmd.Kind, si x114.Msg.Cmd.DC, si x114.Msg.Cmd.Shard, si x114.Msg.Cmd.Node, si x114.Msg.Cmd.Mode, sg x114.Msg.Cmd.Key, si x114.Ms] from (sgN 15 sgNil)) (by kernel_rfl) (by kernel_rfl) (by kernel_rfl) (by kernel_rfl) (by kernel_rfl)) fun a hF => ?_
 refine atk 9 (some 38) hF (hS.sx [0, 1, 2, 3, 6, 7, 8] (rg 11)) rfl (fun w _ => val_index (E := 104) (sz := 15) rfl hpx114 rfl (by kernel_rfl) rfl hx114 (by kernel_rfl) (by kernel_rfl) w) fun a hF => ?_
 refine any_pure [10] [1, 3, 6, 9, 10, 29, 34, 39] (L' := [(1, .slice p3 (a2).length c4), (3, .string (a10)), (6, pt b12 0), (9, pt b15 0), (10, vi y108), (29, pt b15 0), (34, .agg (flat [si x114.Msg.Kind, su x114.Msg.Id, su x114.Msg.N, su x114.Msg.TS, sg x114.Msg.Lo, sg x114.Msg.Hi, sl p117 (x114.Msg.Vers).length c118, sl p119 (x114.Msg.Vec).length c120, si x114.Msg.Cmd.Kind, si x114.Msg.Cmd.DC, si x114.Msg.Cmd.Shard, si x114.Msg.Cmd.Node, si x114.Msg.Cmd.Mode, sg x114.Msg.Cmd.Key]).toArray), (39, .pointer (some ⟨b115, (f116 + Int.toNat y108 * 15) + 14, none⟩))]) (listed' := (bitA 13 1983)) (fuel := 3) hF (hS.sx [0, 1, 2, 3, 6, 7, 8] (rg 11)) (by kernel_rfl) (by intro c a w t v h; cases t <;> exact h) (by kernel_rfl) rfl fun a hF => ?_
 refine atk 11 (some 40) hF (hS.sx [0, 1, 2, 3, 6, 7, 8] (rg 11)) rfl (val_loadC 0 14 (s := [si x114.Msg.Kind, su x114.Msg.Id, su x114.Msg.N, su x114.Msg.TS, sg x114.Msg.Lo, sg x114.Msg.Hi, sl p117 (x114.Msg.Vers).length c118, sl p119 (x114.Msg.Vec).length c120, si x114.Msg.Cmd.Kind, si x114.Msg.Cmd.DC, si x114.Msg.Cmd.Shard, si x114.Msg.Cmd.Node, si x114.Msg.Cmd.Mode, sg x114.Msg.Cmd.Key, si x114.Ms]) (v := vi x114.Ms) rfl rfl rfl (show segGood [si x114.Msg.Kind, su x114.Msg.Id, su x114.Msg.N, su x114.Msg.TS, sg x114.Msg.Lo, sg x114.Msg.Hi, sl p117 (x114.Msg.Vers).length c118, sl p119 (x114.Msg.Vec).length c120, si x114.Msg.Cmd.Kind, si x114.Msg.Cmd.DC, si x114.Msg.Cmd.Shard, si x114.Msg.Cmd.Node, si x114.Msg.Cmd.Mode, sg x114.Msg.Cmd.Key, si x114.Ms] from (sgN 15 sgNil)) (by kernel_rfl) (by kernel_rfl) (by kernel_rfl)) fun a hF => ?_
 refine ago 6 hF rfl ?_
 refine bind_split H (fun x121 hx121 H => ?_)
 refine wo_callP hF hS (by kernel_rfl) (by kernel_rfl) (C_law20_Few N hS.fresh (T_api_Msg.mk x114.Msg.Kind x114.Msg.Id x114.Msg.N x114.Msg.TS x114.Msg.Lo x114.Msg.Hi x114.Msg.Vers x114.Msg.Vec (T_api_Cmd.mk x114.Msg.Cmd.Kind x114.Msg.Cmd.DC x114.Msg.Cmd.Shard x114.Msg.Cmd.Node x114.Msg.Cmd.Mode x114.Msg.Cmd.Key)) p117 c118 p119 c120 ((hS.pick [1, 2] (by kernel_rfl)).ro) hx121) ?_
 rintro _ κ w a ⟨p122, c123, p124, c125, rfl, hR, hN⟩ hF hS hO
 have hS := hS.adds hR
 refine ⟨fun _ => (hS.sx [0, 1, 2, 3, 6, 7, 8] [2, 3, 4, 5, 6, 7, 8, 9, 10, 11, 12]), ?_⟩
 refine ago 12 hF rfl ?_
 refine bind_split H (fun x126 hx126 H => ?_)
 refine wcS 8 [0, 4, 5, 2, 6, 3, 7, 8, 1] hF hS (fun hS => C_node_Node_Take N (T_node_Node.mk y85 (T_store_Store.mk y90 y91) (T_part_Part.mk y93 y97) y101 y102 y105) (T_api_Msg.mk x121.Kind x121.Id x121.N x121.TS x121.Lo x121.Hi x121.Vers x121.Vec (T_api_Cmd.mk x121.Cmd.Kind x121.Cmd.DC x121.Cmd.Shard x121.Cmd.Node x121.Cmd.Mode x121.Cmd.Key)) x114.Ms b86 p87 m88 c89 b92 p94 m95 c96 p98 m99 c100 p103 c104 p106 c107 p122 c123 p124 c125 b15 ⟨rfl, hS.pick [6, 7, 8, 9, 10, 0, 1] (by kernel_rfl)⟩ hx126) ?_
 rintro _ κ w a ⟨p127, c128, p129, c130, b131, p132, m133, c134, b135, p136, m137, c138, p139, m140, c141, p142, c143, p144, c145, rfl, h2⟩ hF hB
 have hS := hB _ _ h2
 refine ⟨notE, ?_⟩
 refine and_ ?_
 refine hK113 _ _ ?_
 refine wpIn_region_lit ?_
 refine wp 3 [1, 3, 6, 9, 10] hF fun a hF => ?_
 refine wpListIn_nil ?_
 exact ⟨fuel1, Nat.lt_succ_self _, _, x126.2.2.dc, b131, p132, m133, c134, x126.2.2.store.chains, x126.2.2.store.floor, b135, x126.2.2.part.clock, p136, m137, c138, x126.2.2.part.open_, p139, m140, c141, x126.2.2.writes, x126.2.2.owned, p142, c143, x126.2.2.modes, p144, c145, IntKind.i64.wrap (y108 + 1), hF.kp [1, 3, 6, 9, 10], hS.sp [0, 10, 3, 5, 1, 2, 4, 6, 7] [12, 2, 3, 4, 5, 6, 18, 19], H⟩
 refine cond_f hF (by kernel_rfl) hb ?_
 refine wpIn_exit ?_
 refine hK33 _ _ ?_
 refine wpIn_seq_k fun K146 hK146 => ?_
 refine wpIn_region_lit ?_
 refine wp 1 [3, 6, 9, 42] hF fun a hF => ?_
 refine wc (wls hF hS 1 0 14 fun a hF => ?_)
 refine bind_split H (fun x147 hx147 H => ?_)
 refine wc (wo_callP hF hS (by kernel_rfl) (by kernel_rfl) (C_law20_Few N hS.fresh (T_api_Msg.mk a5.Msg.Kind a5.Msg.Id a5.Msg.N a5.Msg.TS a5.Msg.Lo a5.Msg.Hi a5.Msg.Vers a5.Msg.Vec (T_api_Cmd.mk a5.Msg.Cmd.Kind a5.Msg.Cmd.DC a5.Msg.Cmd.Shard a5.Msg.Cmd.Node a5.Msg.Cmd.Mode a5.Msg.Cmd.Key)) p6 c7 p8 c9 ((hS.pick [6, 7] (by kernel_rfl)).ro) hx147) ?_)
 rintro _ κ w a ⟨p148, c149, p150, c151, rfl, hR, hN⟩ hF hS hO
 have hS := hS.adds hR
 refine wc (wal hF hS [si 0, su 0, su 0, su 0, sg ByteArray.empty, sg ByteArray.empty, sl none 0 0, sl none 0 0, si 0, si 0, si 0, si 0, si 0, sg ByteArray.empty] (sgN 14 sgNil) fun b152 a w hF hS => ?_)
 refine wc (wst hF hS 0 0 14 [si x147.Kind, su x147.Id, su x147.N, su x147.TS, sg x147.Lo, sg x147.Hi, sl p148 (x147.Vers).length c149, sl p150 (x147.Vec).length c151, si x147.Cmd.Kind, si x147.Cmd.DC, si x147.Cmd.Shard, si x147.Cmd.Node, si x147.Cmd.Mode, sg x147.Cmd.Key] (sgN 14 sgNil) fun a w hF hS => ?_)
 refine wpListIn_nil ?_
 refine hK146 _ _ ?_
 refine wpIn_seq_k fun K153 hK153 => ?_
 refine wpIn_region_lit ?_
 refine wp 1 [3, 6, 9, 11, 45] hF fun a hF => ?_
 refine wc (wls hF hS 0 0 14 fun a hF => ?_)
 refine wp 1 [3, 6, 9, 11, 45, 46, 47] hF fun a hF => ?_
 refine wc (wld hF hS 2 14 0 fun a hF => ?_)
 refine bind_split H (fun x154 hx154 H => ?_)
 refine wc (wcS 8 [1, 5, 6, 3, 7, 4, 8, 9, 0, 2] hF hS (fun hS => C_node_Node_Take N (T_node_Node.mk y85 (T_store_Store.mk y90 y91) (T_part_Part.mk y93 y97) y101 y102 y105) (T_api_Msg.mk x147.Kind x147.Id x147.N x147.TS x147.Lo x147.Hi x147.Vers x147.Vec (T_api_Cmd.mk x147.Cmd.Kind x147.Cmd.DC x147.Cmd.Shard x147.Cmd.Node x147.Cmd.Mode x147.Cmd.Key)) a5.Ms b86 p87 m88 c89 b92 p94 m95 c96 p98 m99 c100 p103 c104 p106 c107 p148 c149 p150 c151 b15 ⟨rfl, hS.pick [3, 4, 5, 6, 7, 0, 1] (by kernel_rfl)⟩ hx154) ?_)
 rintro _ κ w a ⟨p155, c156, p157, c158, b159, p160, m161, c162, b163, p164, m165, c166, p167, m168, c169, p170, c171, p172, c173, rfl, h2⟩ hF hB
 have hS := hB _ _ h2
 refine wpListIn_nil ?_
 refine hK153 _ _ ?_
 refine wpIn_seq_k fun K174 hK174 => ?_
 refine wpIn_region_lit ?_
 refine wp 1 [3, 6, 9, 11, 50] hF fun a hF => ?_
 refine bind_split H (fun x175 hx175 H => ?_)
 refine wc (wcS 6 [0, 3, 4, 5, 6, 7, 1, 2, 8, 9, 10, 11] hF hS (fun hS => C_law20_all N (T_node_Node.mk x154.2.2.dc (T_store_Store.mk x154.2.2.store.chains x154.2.2.store.floor) (T_part_Part.mk x154.2.2.part.clock x154.2.2.part.open_) x154.2.2.writes x154.2.2.owned x154.2.2.modes) (ByteArray.mk #[]) (ByteArray.mk #[]) b159 p160 m161 c162 b163 p164 m165 c166 p167 m168 c169 p170 c171 p172 c173 b15 ⟨rfl, hS.pick [2, 3, 4, 5, 6] (by kernel_rfl)⟩ hx175) ?_)
 rintro _ κ w a ⟨p176, c177, rfl, h2⟩ hF hB
 have hS := (hB _ _ h2).cC (C' := [.box b15 151 [si x154.2.2.dc, (1, [pt b159 0]), (1, [pt b163 0]), (1, [.map p167]), sl p170 (x154.2.2.owned).length c171, sl p172 (x154.2.2.modes).length c173], .box b159 130 [(1, [.map p160]), su x154.2.2.store.floor], .ext (objX p160 (.map m161 c162)), .box b163 174 [su x154.2.2.part.clock, (1, [.map p164])], .ext (objX p164 (.map m165 c166)), .ext (objX p167 (.map m168 c169)), .tok p176 37 6 (x175).length c177, .tok p170 157 3 (x154.2.2.owned).length c171, .tok p172 25 1 (x154.2.2.modes).length c173, .tok p155 37 6 (x154.1.Vers).length c156, .tok p157 25 1 (x154.1.Vec).length c158, .box b152 93 [si x147.Kind, su x147.Id, su x147.N, su x147.TS, sg x147.Lo, sg x147.Hi, sl p148 (x147.Vers).length c149, sl p150 (x147.Vec).length c151, si x147.Cmd.Kind, si x147.Cmd.DC, si x147.Cmd.Shard, si x147.Cmd.Node, si x147.Cmd.Mode, sg x147.Cmd.Key], .box b12 104 [si a5.Msg.Kind, su a5.Msg.Id, su a5.Msg.N, su a5.Msg.TS, sg a5.Msg.Lo, sg a5.Msg.Hi, sl p6 (a5.Msg.Vers).length c7, sl p8 (a5.Msg.Vec).length c9, si a5.Msg.Cmd.Kind, si a5.Msg.Cmd.DC, si a5.Msg.Cmd.Shard, si a5.Msg.Cmd.Node, si a5.Msg.Cmd.Mode, sg a5.Msg.Cmd.Key, si a5.Ms]])
 refine wp 2 [3, 6, 9, 11, 51, 52, 53] hF fun a hF => ?_
 refine bind_split H (fun x178 hx178 H => ?_)
 refine wc (wcS 6 (rg 13) hF hS (fun hS => C_node_Node_Owns N (T_node_Node.mk x154.2.2.dc (T_store_Store.mk x154.2.2.store.chains x154.2.2.store.floor) (T_part_Part.mk x154.2.2.part.clock x154.2.2.part.open_) x154.2.2.writes x154.2.2.owned x154.2.2.modes) a10 b159 p160 m161 c162 b163 p164 m165 c166 p167 m168 c169 p170 c171 p172 c173 b15 ⟨rfl, hS.pick [3, 4, 5, 6, 7] (by kernel_rfl)⟩ hx178) ?_)
 rintro _ κ w a ⟨rfl, h2⟩ hF hB
 have hS := hB _ _ h2
 refine wp 1 [3, 6, 9, 11, 51, 54, 55] hF fun a hF => ?_
 refine bind_split H (fun x179 hx179 H => ?_)
 refine wc (wcS 6 (rg 13) hF hS (fun hS => C_node_Node_Open N (T_node_Node.mk x154.2.2.dc (T_store_Store.mk x154.2.2.store.chains x154.2.2.store.floor) (T_part_Part.mk x154.2.2.part.clock x154.2.2.part.open_) x154.2.2.writes x154.2.2.owned x154.2.2.modes) b159 p160 m161 c162 b163 p164 m165 c166 p167 m168 c169 p170 c171 p172 c173 b15 ⟨rfl, hS.pick [3, 4, 5, 6, 7] (by kernel_rfl)⟩ hx179) ?_)
 rintro _ κ w a ⟨rfl, h2⟩ hF hB
 have hS := (hB _ _ h2).cC (C' := [.box b15 151 [si x154.2.2.dc, (1, [pt b159 0]), (1, [pt b163 0]), (1, [.map p167]), sl p170 (x154.2.2.owned).length c171, sl p172 (x154.2.2.modes).length c173], .box b159 130 [(1, [.map p160]), su x154.2.2.store.floor], .ext (objX p160 (.map m161 c162)), .box b163 174 [su x154.2.2.part.clock, (1, [.map p164])], .ext (objX p164 (.map m165 c166)), .ext (objX p167 (.map m168 c169)), .tok p176 37 6 (x175).length c177, .tok p170 157 3 (x154.2.2.owned).length c171, .tok p172 25 1 (x154.2.2.modes).length c173, .tok p155 37 6 (x154.1.Vers).length c156, .tok p157 25 1 (x154.1.Vec).length c158, .box b152 93 [si x147.Kind, su x147.Id, su x147.N, su x147.TS, sg x147.Lo, sg x147.Hi, sl p148 (x147.Vers).length c149, sl p150 (x147.Vec).length c151, si x147.Cmd.Kind, si x147.Cmd.DC, si x147.Cmd.Shard, si x147.Cmd.Node, si x147.Cmd.Mode, sg x147.Cmd.Key], .box b12 104 [si a5.Msg.Kind, su a5.Msg.Id, su a5.Msg.N, su a5.Msg.TS, sg a5.Msg.Lo, sg a5.Msg.Hi, sl p6 (a5.Msg.Vers).length c7, sl p8 (a5.Msg.Vec).length c9, si a5.Msg.Cmd.Kind, si a5.Msg.Cmd.DC, si a5.Msg.Cmd.Shard, si a5.Msg.Cmd.Node, si a5.Msg.Cmd.Mode, sg a5.Msg.Cmd.Key, si a5.Ms]])
 refine wp 3 [3, 6, 9, 11, 12, 13, 14] hF fun a hF => ?_
 refine wpListIn_nil ?_
 refine hK174 _ _ ?_
 refine wpIn_seq_k fun K180 hK180 => ?_
 refine wpIn_region_lit ?_
 refine wp 1 [3, 6, 9, 11, 12, 13, 14, 57] hF fun a hF => ?_
 refine wc (wls hF hS 11 0 14 fun a hF => ?_)
 refine wp 1 [3, 9, 12, 13, 14, 57, 58, 59] hF fun a hF => ?_
 refine wc (wld hF hS 12 14 0 fun a hF => ?_)
 refine bind_split H (fun x181 hx181 H => ?_)
 refine wc (wcS 8 [0, 7, 8, 1, 2, 3, 4, 5, 6, 9, 10, 11, 12] hF hS (fun hS => C_node_Node_Take N (T_node_Node.mk x154.2.2.dc (T_store_Store.mk x154.2.2.store.chains x154.2.2.store.floor) (T_part_Part.mk x154.2.2.part.clock x154.2.2.part.open_) x154.2.2.writes x154.2.2.owned x154.2.2.modes) (T_api_Msg.mk x147.Kind x147.Id x147.N x147.TS x147.Lo x147.Hi x147.Vers x147.Vec (T_api_Cmd.mk x147.Cmd.Kind x147.Cmd.DC x147.Cmd.Shard x147.Cmd.Node x147.Cmd.Mode x147.Cmd.Key)) a5.Ms b159 p160 m161 c162 b163 p164 m165 c166 p167 m168 c169 p170 c171 p172 c173 p148 c149 p150 c151 b15 ⟨rfl, hS.pick [3, 4, 5, 6, 7, 8, 9] (by kernel_rfl)⟩ hx181) ?_)
 rintro _ κ w a ⟨p182, c183, p184, c185, b186, p187, m188, c189, b190, p191, m192, c193, p194, m195, c196, p197, c198, p199, c200, rfl, h2⟩ hF hB
 have hS := hB _ _ h2
 refine wpListIn_nil ?_
 refine hK180 _ _ ?_
 refine wpIn_seq_k fun K201 hK201 => ?_
 refine wpIn_region_lit ?_
 refine bind_split H (fun v203 hv203 H => ?_)
 refine wl_join (fun a w => ∃ κ : Gh, Fr (82) [] [(8, vb v203)] a ∧ SS [] κ0 w0 κ w [] [] ∧ True) ?_ ?_
 refine bind_split hv203 (fun x204 hx204 hv203 => ?_)
 refine wc (wo_callP hF hS (by kernel_rfl) (by kernel_rfl) (C_law20_awake N hS.fresh   ((hS.pick [] (by kernel_rfl)).ro) hx204) ?_)
 rintro _ κ w a ⟨rfl, hR, hN⟩ hF hS hO
 refine wp 1 [3, 9, 12, 13, 14, 63] hF fun a hF => ?_
 refine bif_split hv203 (fun hb hv203 => ?_) (fun hb hv203 => ?_)
 have hF := hF.boolv 63 (by kernel_rfl) hb
 refine wp 1 [3, 9, 12, 13, 14, 63, 64] hF fun a hF => ?_
 refine bind_split hv203 (fun x205 hx205 hv203 => ?_)
 refine wcg hF (wcS 6 [0, 3, 4, 5, 6, 7, 1, 2, 8, 9, 10, 11, 12, 13, 14] hF hS (fun hS => C_law20_all N (T_node_Node.mk x181.2.2.dc (T_store_Store.mk x181.2.2.store.chains x181.2.2.store.floor) (T_part_Part.mk x181.2.2.part.clock x181.2.2.part.open_) x181.2.2.writes x181.2.2.owned x181.2.2.modes) (ByteArray.mk #[]) (ByteArray.mk #[]) b186 p187 m188 c189 b190 p191 m192 c193 p194 m195 c196 p197 c198 p199 c200 b15 ⟨rfl, hS.pick [2, 3, 4, 5, 6] (by kernel_rfl)⟩ hx205) ?_)
 rintro _ κ w a ⟨p206, c207, rfl, h2⟩ hF hB
 have hS := (hB _ _ h2).cC (C' := [.box b15 151 [si x181.2.2.dc, (1, [pt b186 0]), (1, [pt b190 0]), (1, [.map p194]), sl p197 (x181.2.2.owned).length c198, sl p199 (x181.2.2.modes).length c200], .box b186 130 [(1, [.map p187]), su x181.2.2.store.floor], .ext (objX p187 (.map m188 c189)), .box b190 174 [su x181.2.2.part.clock, (1, [.map p191])], .ext (objX p191 (.map m192 c193)), .ext (objX p194 (.map m195 c196)), .tok p206 37 6 (x205).length c207, .tok p197 157 3 (x181.2.2.owned).length c198, .tok p199 25 1 (x181.2.2.modes).length c200, .tok p182 37 6 (x181.1.Vers).length c183, .tok p184 25 1 (x181.1.Vec).length c185, .tok p176 37 6 (x175).length c177, .tok p155 37 6 (x154.1.Vers).length c156, .tok p157 25 1 (x154.1.Vec).length c158, .box b152 93 [si x147.Kind, su x147.Id, su x147.N, su x147.TS, sg x147.Lo, sg x147.Hi, sl p148 (x147.Vers).length c149, sl p150 (x147.Vec).length c151, si x147.Cmd.Kind, si x147.Cmd.DC, si x147.Cmd.Shard, si x147.Cmd.Node, si x147.Cmd.Mode, sg x147.Cmd.Key], .box b12 104 [si a5.Msg.Kind, su a5.Msg.Id, su a5.Msg.N, su a5.Msg.TS, sg a5.Msg.Lo, sg a5.Msg.Hi, sl p6 (a5.Msg.Vers).length c7, sl p8 (a5.Msg.Vec).length c9, si a5.Msg.Cmd.Kind, si a5.Msg.Cmd.DC, si a5.Msg.Cmd.Shard, si a5.Msg.Cmd.Node, si a5.Msg.Cmd.Mode, sg a5.Msg.Cmd.Key, si a5.Ms]])
 refine wp 1 [3, 9, 13, 14, 63, 65, 66] hF fun a hF => ?_
 refine bind_split hv203 (fun x208 hx208 hv203 => ?_)
 refine wcg hF (wo_callP hF hS (by kernel_rfl) (by kernel_rfl) (C_ref04_SameVers N hS.fresh x205 x175 p206 c207 p176 c177 ((hS.pick [0, 8] (by kernel_rfl)).ro) hx208) ?_)
 rintro _ κ w a ⟨rfl, hR, hN⟩ hF hS hO
 refine wp 2 [3, 9, 13, 14, 69] hF fun a hF => ?_
 refine bif_split hv203 (fun hb hv203 => ?_) (fun hb hv203 => ?_)
 have hF := hF.boolv 69 (by kernel_rfl) hb
 refine wp 2 [9, 13, 14, 69, 70, 71] hF fun a hF => ?_
 refine bind_split hv203 (fun x209 hx209 hv203 => ?_)
 refine wcg hF (wcS 6 (rg 16) hF hS (fun hS => C_node_Node_Owns N (T_node_Node.mk x181.2.2.dc (T_store_Store.mk x181.2.2.store.chains x181.2.2.store.floor) (T_part_Part.mk x181.2.2.part.clock x181.2.2.part.open_) x181.2.2.writes x181.2.2.owned x181.2.2.modes) a10 b186 p187 m188 c189 b190 p191 m192 c193 p194 m195 c196 p197 c198 p199 c200 b15 ⟨rfl, hS.pick [3, 4, 5, 6, 7] (by kernel_rfl)⟩ hx209) ?_)
 rintro _ κ w a ⟨rfl, h2⟩ hF hB
 have hS := hB _ _ h2
 refine wp 4 [9, 14, 76] hF fun a hF => ?_
 refine bif_split hv203 (fun hb hv203 => ?_) (fun hb hv203 => ?_)
 have hF := hF.boolv 76 (by kernel_rfl) hb
 refine wp 1 [14, 76, 77] hF fun a hF => ?_
 refine bind_split hv203 (fun x210 hx210 hv203 => ?_)
 refine wcg hF (wcS 6 (rg 16) hF hS (fun hS => C_node_Node_Open N (T_node_Node.mk x181.2.2.dc (T_store_Store.mk x181.2.2.store.chains x181.2.2.store.floor) (T_part_Part.mk x181.2.2.part.clock x181.2.2.part.open_) x181.2.2.writes x181.2.2.owned x181.2.2.modes) b186 p187 m188 c189 b190 p191 m192 c193 p194 m195 c196 p197 c198 p199 c200 b15 ⟨rfl, hS.pick [3, 4, 5, 6, 7] (by kernel_rfl)⟩ hx210) ?_)
 rintro _ κ w a ⟨rfl, h2⟩ hF hB
 have hS := (hB _ _ h2).cC (C' := [.box b15 151 [si x181.2.2.dc, (1, [pt b186 0]), (1, [pt b190 0]), (1, [.map p194]), sl p197 (x181.2.2.owned).length c198, sl p199 (x181.2.2.modes).length c200], .box b186 130 [(1, [.map p187]), su x181.2.2.store.floor], .ext (objX p187 (.map m188 c189)), .box b190 174 [su x181.2.2.part.clock, (1, [.map p191])], .ext (objX p191 (.map m192 c193)), .ext (objX p194 (.map m195 c196)), .tok p206 37 6 (x205).length c207, .tok p197 157 3 (x181.2.2.owned).length c198, .tok p199 25 1 (x181.2.2.modes).length c200, .tok p182 37 6 (x181.1.Vers).length c183, .tok p184 25 1 (x181.1.Vec).length c185, .tok p176 37 6 (x175).length c177, .tok p155 37 6 (x154.1.Vers).length c156, .tok p157 25 1 (x154.1.Vec).length c158, .box b152 93 [si x147.Kind, su x147.Id, su x147.N, su x147.TS, sg x147.Lo, sg x147.Hi, sl p148 (x147.Vers).length c149, sl p150 (x147.Vec).length c151, si x147.Cmd.Kind, si x147.Cmd.DC, si x147.Cmd.Shard, si x147.Cmd.Node, si x147.Cmd.Mode, sg x147.Cmd.Key], .box b12 104 [si a5.Msg.Kind, su a5.Msg.Id, su a5.Msg.N, su a5.Msg.TS, sg a5.Msg.Lo, sg a5.Msg.Hi, sl p6 (a5.Msg.Vers).length c7, sl p8 (a5.Msg.Vec).length c9, si a5.Msg.Cmd.Kind, si a5.Msg.Cmd.DC, si a5.Msg.Cmd.Shard, si a5.Msg.Cmd.Node, si a5.Msg.Cmd.Mode, sg a5.Msg.Cmd.Key, si a5.Ms]])
 refine wp 4 [8] hF fun a hF => ?_
 refine wpListIn_nil ?_
 cases hv203
 exact ⟨_, hF.kp [8], hS.sp [] [], trivial⟩
 have hF := hF.boolv 76 (by kernel_rfl) hb
 refine wp 6 [8] hF fun a hF => ?_
 refine wpListIn_nil ?_
 cases hv203
 exact ⟨_, hF.kp [8], hS.sp [] [], trivial⟩
 have hF := hF.boolv 69 (by kernel_rfl) hb
 refine wp 13 [8] hF fun a hF => ?_
 refine wpListIn_nil ?_
 cases hv203
 exact ⟨_, hF.kp [8], hS.sp [] [], trivial⟩
 have hF := hF.boolv 63 (by kernel_rfl) hb
 refine wp 19 [8] hF fun a hF => ?_
 refine wpListIn_nil ?_
 cases hv203
 exact ⟨_, hF.kp [8], hS.sp [] [], trivial⟩
 rintro a w ⟨κ, hF, hS, -⟩
 refine hK201 _ _ ?_
 refine wpIn_ret ?_
 cases H
 exact (ret_done hF hS (res1 Try.results17 (rvt hF)) ⟨rfl, (hS.pick [] (by kernel_rfl)).ro, hS.newC [] (by decide) (by kernel_rfl)⟩)
end Go.Cf
