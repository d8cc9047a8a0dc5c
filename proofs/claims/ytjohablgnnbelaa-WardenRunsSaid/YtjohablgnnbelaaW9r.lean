/- The walks: each function returns what its model says. Printed by a program of ours. -/
import Derived.Test.YtjohablgnnbelaaM9r
import Derived.Test.YtjohablgnnbelaaW3
import Derived.Test.YtjohablgnnbelaaW6r
import Derived.Test.YtjohablgnnbelaaW8
import Derived.Test.YtjohablgnnbelaaW8a
namespace Go.Cf
open Go Go.Proofs
set_option linter.unusedVariables false
set_option maxRecDepth 20000 in
set_option maxHeartbeats 1000000 in
theorem C_law19_WardenRuns (N : Nat) {κ0 : Gh} {w0 : World} (hfr : Fresh κ0 w0) (a1 : Int) (a2 : Int) (a3 : Int) (a4 : (List T_law19_Op)) (p5 : Option Addr) (c6 : Nat) (hR : ∀ m ∈ ([Ro.mp t_law19_Op p5 c6 a4] : List MP), m.p κ0 w0) {r : (Bool)} (H : M.law19_WardenRuns N a1 a2 a3 a4 = some r) :
    Calls Try.prog 18 #[.int .i64 (a1), .int .i64 (a2), .int .i64 (a3), .slice p5 (a4).length c6] w0 (Post [] κ0 w0 fun v κ w => v = .bool (r) ∧ (∀ m ∈ ([] : List MP), m.p κ w) ∧ NewC w0 κ w []) := by
 have hS := SS.start hfr hR
 refine enter (N := (147)) (L := [(0, .int .i64 (a1)), (1, .int .i64 (a2)), (2, .int .i64 (a3)), (3, .slice p5 (a4).length c6)]) Try.func18 rfl Try.ntmps18 (show 4 ≤ (147) by decide) rfl fun a hF => ?_
 unfold M.law19_WardenRuns at H
 refine wpIn_seq_k fun K7 hK7 => ?_
 refine wpIn_region_lit ?_
 refine wp 1 [0, 1, 2, 3] hF fun a hF => ?_
 refine wpListIn_nil ?_
 refine hK7 _ _ ?_
 refine wpIn_seq_k fun K8 hK8 => ?_
 refine wpIn_region_lit ?_
 refine wp 3 [3, 25, 26, 27] hF fun a hF => ?_
 refine bind_split H (fun x9 hx9 H => ?_)
 refine wc (wo_callP hF hS (by kernel_rfl) (by kernel_rfl) (C_config_Start N hS.fresh a1 a2 a3  ((hS.pick [] (by kernel_rfl)).ro) hx9) ?_)
 rintro _ κ w a ⟨cs10, rfl, hR, hN⟩ hF hS hO
 have hS := hS.adds hR
 refine wp 3 [3, 29, 30] hF fun a hF => ?_
 have hS := hS.add (m := MP.const (List.length (List.replicate 4 false) = 4)) (List.length_replicate)
 have hS := hS.add (m := Arr.mp t_api_Map ((List.replicate 4 (flat [(1, [.slice none 0 0]), (1, [.slice none 0 0])])).flatten) 4 (List.replicate 4 (T_api_Map.mk ([] : List ByteArray) ([] : List Int)))) (Arr.zero _ _ _ _ _ z_api_Map)
 have hS := hS.add (m := MP.const (List.length (List.replicate 21 0) = 21)) (List.length_replicate)
 refine wc (wal hF hS [si 0, si 0, (4, (encs fBool (List.replicate 4 false))), (8, (List.replicate 4 (flat [(1, [.slice none 0 0]), (1, [.slice none 0 0])])).flatten), (21, (encs (fInt .i64) (List.replicate 21 0)))] (sgN 2 (sgEnc List.length_replicate (sgArr (hS.get 1 rfl) (sgEnc List.length_replicate sgNil)))) fun b11 a w hF hS => ?_)
 refine wc (wst hF hS 0 0 5 [si x9.1.Pool, si x9.1.Nodes, (4, (encs fBool x9.1.Members)), (8, cs10), (21, (encs (fInt .i64) x9.1.Modes))] (sgN 2 (sgEnc (hS.get 3 rfl) (sgArr (hS.get 4 rfl) (sgEnc (hS.get 5 rfl) sgNil)))) fun a w hF hS => ?_)
 refine wp 1 [3, 9, 10] hF fun a hF => ?_
 refine wpListIn_nil ?_
 refine hK8 _ _ ?_
 refine wpIn_seq_k fun K12 hK12 => ?_
 refine wpIn_seq_k fun K13 hK13 => ?_
 refine wpIn_region_lit ?_
 refine wl_pure (L' := [(3, .slice p5 (a4).length c6), (9, pt b11 0), (32, .bool ((x9.2 != 0)))]) 2 [3, 9, 32] hF (by kernel_rfl) fun a hF => ?_
 refine wpListIn_nil ?_
 refine hK13 _ _ ?_
 refine bif_split H (fun hb H => ?_) (fun hb H => ?_)
 refine cond_t hF (by kernel_rfl) hb ?_
 refine wpIn_seq_k fun K14 hK14 => ?_
 refine wpIn_region_lit ?_
 refine bind_split H (fun x15 hx15 H => ?_)
 refine wc (wo_callP hF hS (by kernel_rfl) (by kernel_rfl) (C_law19_awake N hS.fresh   ((hS.pick [] (by kernel_rfl)).ro) hx15) ?_)
 rintro _ κ w a ⟨rfl, hR, hN⟩ hF hS hO
 refine wp 1 [8] hF fun a hF => ?_
 refine wpListIn_nil ?_
 refine hK14 _ _ ?_
 refine wpIn_ret ?_
 cases H
 exact (ret_done hF hS (res1 Try.results18 (rvt hF)) ⟨rfl, (hS.pick [] (by kernel_rfl)).ro, hS.newC [] (by decide) (by kernel_rfl)⟩)
 refine cond_f hF (by kernel_rfl) hb ?_
 refine wpIn_skip ?_
 refine hK12 _ _ ?_
 refine wpIn_seq_k fun K16 hK16 => ?_
 refine wpIn_region_lit ?_
 refine wc (wls hF hS 0 0 5 fun a hF => ?_)
 refine bind_split H (fun x17 hx17 H => ?_)
 refine wc (wo_callS (Cin := []) (Cr := [.box b11 30 [si x9.1.Pool, si x9.1.Nodes, (4, (encs fBool x9.1.Members)), (8, cs10), (21, (encs (fInt .i64) x9.1.Modes))]]) (args := #[.agg (flat [si x9.1.Pool, si x9.1.Nodes, (4, (encs fBool x9.1.Members)), (8, cs10), (21, (encs (fInt .i64) x9.1.Modes))]).toArray]) (f := 64) hF (hS.selp [0] (by decide) (by kernel_rfl)) (by kernel_rfl) (by kernel_rfl) (fun hS => C_warden_New N (T_config_State.mk x9.1.Pool x9.1.Nodes x9.1.Members x9.1.Maps x9.1.Modes) cs10  rfl (hS.pick [3, 4, 5] (by kernel_rfl)) hx17) ?_)
 rintro _ κ w a ⟨b18, cs19, cs20, p21, c22, p23, c24, rfl, h2⟩ hF hB
 have hS := hB _ _ h2
 refine wp 1 [3, 9, 11] hF fun a hF => ?_
 refine wpListIn_nil ?_
 refine hK16 _ _ ?_
 refine wpIn_seq_k fun K25 hK25 => ?_
 refine wpIn_seq_k fun K26 hK26 => ?_
 refine wpIn_region_lit ?_
 refine wp 2 [3, 9, 11, 37] hF fun a hF => ?_
 refine wpListIn_nil ?_
 refine hK26 _ _ ?_
 refine cond_f hF (by kernel_rfl) rfl ?_
 refine wpIn_skip ?_
 refine hK25 _ _ ?_
 refine wpIn_seq_k fun K27 hK27 => ?_
 refine wpIn_region_lit ?_
 refine wp 1 [3, 9, 11, 12] hF fun a hF => ?_
 refine wpListIn_nil ?_
 refine hK27 _ _ ?_
 refine wpIn_seq_k fun K28 hK28 => ?_
 refine wpIn_seq_k fun K29 hK29 => ?_
 refine wpIn_region_lit ?_
 refine wp 1 [3, 9, 11, 12, 13] hF fun a hF => ?_
 refine wpListIn_nil ?_
 refine hK29 _ _ ?_
 refine wpIn_block ?_
 refine loop_fuel (n := N) (fun n a w => ∃ κ : Gh, ∃ y80 : Int, ∃ y81 : Int, ∃ y82 : (List Bool), ∃ y83 : (List T_api_Map), ∃ cs84 : List Value, ∃ y85 : (List Int), ∃ y86 : Int, ∃ y87 : Int, ∃ y88 : (List Bool), ∃ y89 : (List T_api_Map), ∃ cs90 : List Value, ∃ y91 : (List Int), ∃ y92 : (List T_api_Cmd), ∃ p93 : Option Addr, ∃ c94 : Nat, ∃ y95 : Int, ∃ y96 : Int, ∃ y97 : Int, ∃ y98 : (List Bool), ∃ y99 : Int, ∃ y100 : Bool, ∃ y101 : (List T_api_Mail), ∃ p102 : Option Addr, ∃ c103 : Nat, ∃ y104 : (List T_api_Cmd), ∃ p105 : Option Addr, ∃ c106 : Nat, ∃ y107 : Int, Fr (147) [] [(3, .slice p5 (a4).length c6), (9, pt b11 0), (11, pt b18 0), (12, .slice p105 (y104).length c106), (13, .int .i64 (y107))] a ∧ SS [] κ0 w0 κ w [.box b18 120 [si y80, si y81, (4, (encs fBool y82)), (8, cs84), (21, (encs (fInt .i64) y85)), si y86, si y87, (4, (encs fBool y88)), (8, cs90), (21, (encs (fInt .i64) y91)), (1, [.slice p93 (y92).length c94]), si y95, si y96, si y97, (4, (encs fBool y98)), (1, [.int .u64 (y99)]), sb y100, (1, [.slice p102 (y101).length c103])], .box b11 30 [si x9.1.Pool, si x9.1.Nodes, (4, (encs fBool x9.1.Members)), (8, cs10), (21, (encs (fInt .i64) x9.1.Modes))], .tok p93 72 6 (y92).length c94, .tok p102 106 15 (y101).length c103, .tok p105 72 6 (y104).length c106] [Ro.mp t_law19_Op p5 c6 a4, Ro.mp f_api_Cmd.ty p105 c106 y104, MP.const (List.length y82 = 4), Arr.mp t_api_Map cs84 4 y83, MP.const (List.length y85 = 21), MP.const (List.length y88 = 4), Arr.mp t_api_Map cs90 4 y89, MP.const (List.length y91 = 21), Ro.mp f_api_Cmd.ty p93 c94 y92, MP.const (List.length y98 = 4), Ro.mp t_api_Mail p102 c103 y101, MP.const (List.length x9.1.Members = 4), Arr.mp t_api_Map cs10 4 x9.1.Maps, MP.const (List.length x9.1.Modes = 21)] ∧ M.law19_WardenRuns_L1 N n a4 x9 y80 y81 y82 y83 y85 y86 y87 y88 y89 y91 y92 y95 y96 y97 y98 y99 y100 y101 y104 y107 = some r) ?_ ?_
 have hS := hS.add (m := Ro.mp f_api_Cmd.ty none 0 ([] : List T_api_Cmd)) (Ro.nil f_api_Cmd.ty _ _)
 have hS := hS.addNil 72 6
 exact ⟨_, x17.now.Pool, x17.now.Nodes, x17.now.Members, x17.now.Maps, cs19, x17.now.Modes, x17.tail.Pool, x17.tail.Nodes, x17.tail.Members, x17.tail.Maps, cs20, x17.tail.Modes, x17.queue, p21, c22, x17.done, x17.epoch, x17.step_, x17.wait, x17.mark_, x17.ready, x17.out, p23, c24, ([] : List T_api_Cmd), none, 0, 0, hF.kp [3, 9, 11, 12, 13], hS.sp [1, 4, 2, 3, 0] [16, 0, 1, 2, 3, 4, 5, 6, 7, 8, 9, 13, 14, 15], H⟩
 rintro n a w ⟨κ, y80, y81, y82, y83, cs84, y85, y86, y87, y88, y89, cs90, y91, y92, p93, c94, y95, y96, y97, y98, y99, y100, y101, p102, c103, y104, p105, c106, y107, hF, hS, H⟩
 rcases n with _ | fuel1
 simp [M.law19_WardenRuns_L1] at H
 simp only [M.law19_WardenRuns_L1] at H
 refine wpIn_seq_k fun K108 hK108 => ?_
 refine wpIn_seq_k fun K109 hK109 => ?_
 refine wpIn_region_lit ?_
 refine bind_split H (fun v111 hv111 H => ?_)
 refine wl_join (fun a w => ∃ κ : Gh, Fr (147) [] [(3, .slice p5 (a4).length c6), (9, pt b11 0), (11, pt b18 0), (12, .slice p105 (y104).length c106), (13, .int .i64 (y107)), (45, .bool (v111))] a ∧ SS [] κ0 w0 κ w [.box b18 120 [si y80, si y81, (4, (encs fBool y82)), (8, cs84), (21, (encs (fInt .i64) y85)), si y86, si y87, (4, (encs fBool y88)), (8, cs90), (21, (encs (fInt .i64) y91)), (1, [.slice p93 (y92).length c94]), si y95, si y96, si y97, (4, (encs fBool y98)), (1, [.int .u64 (y99)]), sb y100, (1, [.slice p102 (y101).length c103])], .box b11 30 [si x9.1.Pool, si x9.1.Nodes, (4, (encs fBool x9.1.Members)), (8, cs10), (21, (encs (fInt .i64) x9.1.Modes))], .tok p93 72 6 (y92).length c94, .tok p102 106 15 (y101).length c103, .tok p105 72 6 (y104).length c106] [Ro.mp t_law19_Op p5 c6 a4, Ro.mp f_api_Cmd.ty p105 c106 y104, MP.const (List.length y82 = 4), Arr.mp t_api_Map cs84 4 y83, MP.const (List.length y85 = 21), MP.const (List.length y88 = 4), Arr.mp t_api_Map cs90 4 y89, MP.const (List.length y91 = 21), Ro.mp f_api_Cmd.ty p93 c94 y92, MP.const (List.length y98 = 4), Ro.mp t_api_Mail p102 c103 y101, MP.const (List.length x9.1.Members = 4), Arr.mp t_api_Map cs10 4 x9.1.Maps, MP.const (List.length x9.1.Modes = 21)] ∧ True) ?_ ?_
 refine wp 5 [3, 9, 11, 12, 13, 42] hF fun a hF => ?_
 refine bif_split hv111 (fun hb hv111 => ?_) (fun hb hv111 => ?_)
 have hF := hF.boolv 42 (by kernel_rfl) hb
 refine wp 3 [3, 9, 11, 12, 13, 45] hF fun a hF => ?_
 refine wpListIn_nil ?_
 cases hv111
 exact ⟨_, hF.kp [3, 9, 11, 12, 13, 45], hS.sp [0, 1, 2, 3, 4] [0, 1, 2, 3, 4, 5, 6, 7, 8, 9, 10, 11, 12, 13], trivial⟩
 have hF := hF.boolv 42 (by kernel_rfl) hb
 refine wp 3 [3, 9, 11, 12, 13, 45] hF fun a hF => ?_
 refine wpListIn_nil ?_
 cases hv111
 exact ⟨_, hF.kp [3, 9, 11, 12, 13, 45], hS.sp [0, 1, 2, 3, 4] [0, 1, 2, 3, 4, 5, 6, 7, 8, 9, 10, 11, 12, 13], trivial⟩
 rintro a w ⟨κ, hF, hS, -⟩
 refine hK109 _ _ ?_
 refine bif_split H (fun hb H => ?_) (fun hb H => ?_)
 refine cond_t hF (by kernel_rfl) hb ?_
 refine wpIn_skip ?_
 refine hK108 _ _ ?_
 refine wpIn_seq_k fun K112 hK112 => ?_
 refine wpIn_block ?_
 refine wpIn_seq_k fun K113 hK113 => ?_
 refine wpIn_region_lit ?_
 refine wl_pure (L' := [(3, .slice p5 (a4).length c6), (9, pt b11 0), (11, pt b18 0), (12, .slice p105 (y104).length c106), (13, .int .i64 (y107)), (48, .slice p5 (a4).length c6), (49, .int .i64 (y107))]) 2 [3, 9, 11, 12, 13, 48, 49] hF (by kernel_rfl) fun a hF => ?_
 refine bind_split H (fun x114 hx114 H => ?_)
 refine wc (wo_index hF hS (by kernel_rfl) 0 (E := 98) (sz := 22) rfl rfl rfl (by kernel_rfl) rfl hx114 (by kernel_rfl) (by kernel_rfl) fun b115 f116 a hpx114 hF => ?_)
 obtain ⟨_, ⟨⟨p117, c118, p119, c120⟩, rfl, hR⟩, hc⟩ := hS.elem 0 rfl hpx114 hx114
 have hS := (hS.adds hR).add hc
 refine wc (wo_val hF (by kernel_rfl) (v := .agg (flat [sb x114.Ask, si x114.Cmd.Kind, si x114.Cmd.DC, si x114.Cmd.Shard, si x114.Cmd.Node, si x114.Cmd.Mode, sg x114.Cmd.Key, si x114.DC, si x114.Msg.Kind, (1, [.int .u64 (x114.Msg.Id)]), (1, [.int .u64 (x114.Msg.N)]), (1, [.int .u64 (x114.Msg.TS)]), sg x114.Msg.Lo, sg x114.Msg.Hi, (1, [.slice p117 (x114.Msg.Vers).length c118]), (1, [.slice p119 (x114.Msg.Vec).length c120]), si x114.Msg.Cmd.Kind, si x114.Msg.Cmd.DC, si x114.Msg.Cmd.Shard, si x114.Msg.Cmd.Node, si x114.Msg.Cmd.Mode, sg x114.Msg.Cmd.Key]).toArray) ((val_loadCs 0 0 22 (s := [sb x114.Ask, si x114.Cmd.Kind, si x114.Cmd.DC, si x114.Cmd.Shard, si x114.Cmd.Node, si x114.Cmd.Mode, sg x114.Cmd.Key, si x114.DC, si x114.Msg.Kind, (1, [.int .u64 (x114.Msg.Id)]), (1, [.int .u64 (x114.Msg.N)]), (1, [.int .u64 (x114.Msg.TS)]), sg x114.Msg.Lo, sg x114.Msg.Hi, (1, [.slice p117 (x114.Msg.Vers).length c118]), (1, [.slice p119 (x114.Msg.Vec).length c120]), si x114.Msg.Cmd.Kind, si x114.Msg.Cmd.DC, si x114.Msg.Cmd.Shard, si x114.Msg.Cmd.Node, si x114.Msg.Cmd.Mode, sg x114.Msg.Cmd.Key]) (s' := [sb x114.Ask, si x114.Cmd.Kind, si x114.Cmd.DC, si x114.Cmd.Shard, si x114.Cmd.Node, si x114.Cmd.Mode, sg x114.Cmd.Key, si x114.DC, si x114.Msg.Kind, (1, [.int .u64 (x114.Msg.Id)]), (1, [.int .u64 (x114.Msg.N)]), (1, [.int .u64 (x114.Msg.TS)]), sg x114.Msg.Lo, sg x114.Msg.Hi, (1, [.slice p117 (x114.Msg.Vers).length c118]), (1, [.slice p119 (x114.Msg.Vec).length c120]), si x114.Msg.Cmd.Kind, si x114.Msg.Cmd.DC, si x114.Msg.Cmd.Shard, si x114.Msg.Cmd.Node, si x114.Msg.Cmd.Mode, sg x114.Msg.Cmd.Key]) (n := 22) rfl rfl rfl (show segGood [sb x114.Ask, si x114.Cmd.Kind, si x114.Cmd.DC, si x114.Cmd.Shard, si x114.Cmd.Node, si x114.Cmd.Mode, sg x114.Cmd.Key, si x114.DC, si x114.Msg.Kind, (1, [.int .u64 (x114.Msg.Id)]), (1, [.int .u64 (x114.Msg.N)]), (1, [.int .u64 (x114.Msg.TS)]), sg x114.Msg.Lo, sg x114.Msg.Hi, (1, [.slice p117 (x114.Msg.Vers).length c118]), (1, [.slice p119 (x114.Msg.Vec).length c120]), si x114.Msg.Cmd.Kind, si x114.Msg.Cmd.DC, si x114.Msg.Cmd.Shard, si x114.Msg.Cmd.Node, si x114.Msg.Cmd.Mode, sg x114.Msg.Cmd.Key] from (sgN 22 sgNil)) (by kernel_rfl) (by kernel_rfl) (by kernel_rfl) (by kernel_rfl) (by kernel_rfl) w ⟨_, hS⟩)) fun a hF => ?_)
 refine wc (wal hF hS [sb false, si 0, si 0, si 0, si 0, si 0, sg ByteArray.empty, si 0, si 0, (1, [.int .u64 (0)]), (1, [.int .u64 (0)]), (1, [.int .u64 (0)]), sg ByteArray.empty, sg ByteArray.empty, (1, [.slice none 0 0]), (1, [.slice none 0 0]), si 0, si 0, si 0, si 0, si 0, sg ByteArray.empty] (sgN 22 sgNil) fun b121 a w hF hS => ?_)
 refine wc (wst hF hS 0 0 22 [sb x114.Ask, si x114.Cmd.Kind, si x114.Cmd.DC, si x114.Cmd.Shard, si x114.Cmd.Node, si x114.Cmd.Mode, sg x114.Cmd.Key, si x114.DC, si x114.Msg.Kind, (1, [.int .u64 (x114.Msg.Id)]), (1, [.int .u64 (x114.Msg.N)]), (1, [.int .u64 (x114.Msg.TS)]), sg x114.Msg.Lo, sg x114.Msg.Hi, (1, [.slice p117 (x114.Msg.Vers).length c118]), (1, [.slice p119 (x114.Msg.Vec).length c120]), si x114.Msg.Cmd.Kind, si x114.Msg.Cmd.DC, si x114.Msg.Cmd.Shard, si x114.Msg.Cmd.Node, si x114.Msg.Cmd.Mode, sg x114.Msg.Cmd.Key] (sgN 22 sgNil) fun a w hF hS => ?_)
 refine wpListIn_nil ?_
 refine hK113 _ _ ?_
 refine seq_join (fun a w => ∃ κ : Gh, ∃ y122 : Int, ∃ y123 : Int, ∃ y124 : (List Bool), ∃ y125 : (List T_api_Map), ∃ cs126 : List Value, ∃ y127 : (List Int), ∃ y128 : Int, ∃ y129 : Int, ∃ y130 : (List Bool), ∃ y131 : (List T_api_Map), ∃ cs132 : List Value, ∃ y133 : (List Int), ∃ y134 : (List T_api_Cmd), ∃ p135 : Option Addr, ∃ c136 : Nat, ∃ y137 : Int, ∃ y138 : Int, ∃ y139 : Int, ∃ y140 : (List Bool), ∃ y141 : Int, ∃ y142 : Bool, ∃ y143 : (List T_api_Mail), ∃ p144 : Option Addr, ∃ c145 : Nat, ∃ y146 : (List T_api_Cmd), ∃ p147 : Option Addr, ∃ c148 : Nat, Fr (147) [] [(3, .slice p5 (a4).length c6), (9, pt b11 0), (11, pt b18 0), (12, .slice p147 (y146).length c148), (13, .int .i64 (y107))] a ∧ SS [] κ0 w0 κ w [.box b18 120 [si y122, si y123, (4, (encs fBool y124)), (8, cs126), (21, (encs (fInt .i64) y127)), si y128, si y129, (4, (encs fBool y130)), (8, cs132), (21, (encs (fInt .i64) y133)), (1, [.slice p135 (y134).length c136]), si y137, si y138, si y139, (4, (encs fBool y140)), (1, [.int .u64 (y141)]), sb y142, (1, [.slice p144 (y143).length c145])], .box b11 30 [si x9.1.Pool, si x9.1.Nodes, (4, (encs fBool x9.1.Members)), (8, cs10), (21, (encs (fInt .i64) x9.1.Modes))], .tok p135 72 6 (y134).length c136, .tok p144 106 15 (y143).length c145, .tok p147 72 6 (y146).length c148] [Ro.mp t_law19_Op p5 c6 a4, Ro.mp f_api_Cmd.ty p147 c148 y146, MP.const (List.length y124 = 4), Arr.mp t_api_Map cs126 4 y125, MP.const (List.length y127 = 21), MP.const (List.length y130 = 4), Arr.mp t_api_Map cs132 4 y131, MP.const (List.length y133 = 21), Ro.mp f_api_Cmd.ty p135 c136 y134, MP.const (List.length y140 = 4), Ro.mp t_api_Mail p144 c145 y143, MP.const (List.length x9.1.Members = 4), Arr.mp t_api_Map cs10 4 x9.1.Maps, MP.const (List.length x9.1.Modes = 21)] ∧ M.law19_WardenRuns_k2 N (M.law19_WardenRuns_L1 N fuel1) a4 x9 y107 y122 y123 y124 y125 y127 y128 y129 y130 y131 y133 y134 y137 y138 y139 y140 y141 y142 y143 y146 = some r) ?_ ?_
 refine wpIn_seq_k fun K250 hK250 => ?_
 refine wpIn_region_lit ?_
 refine wp 1 [3, 9, 11, 12, 13, 14, 52] hF fun a hF => ?_
 refine wc (wld hF hS 0 0 0 fun a hF => ?_)
 refine wpListIn_nil ?_
 refine hK250 _ _ ?_
 refine bif_split H (fun hb H => ?_) (fun hb H => ?_)
 refine cond_t hF (by kernel_rfl) hb ?_
 refine wpIn_seq_k fun K251 hK251 => ?_
 refine wpIn_region_lit ?_
 refine wl_pure (L' := [(3, .slice p5 (a4).length c6), (9, pt b11 0), (11, pt b18 0), (12, .slice p105 (y104).length c106), (13, .int .i64 (y107)), (14, pt b121 0), (54, pt b18 0)]) 1 [3, 9, 11, 12, 13, 14, 54] hF (by kernel_rfl) fun a hF => ?_
 refine bind_split H (fun x252 hx252 H => ?_)
 refine wc (wo_callS (Cin := [.box b18 120 [si y80, si y81, (4, (encs fBool y82)), (8, cs84), (21, (encs (fInt .i64) y85)), si y86, si y87, (4, (encs fBool y88)), (8, cs90), (21, (encs (fInt .i64) y91)), (1, [.slice p93 (y92).length c94]), si y95, si y96, si y97, (4, (encs fBool y98)), (1, [.int .u64 (y99)]), sb y100, (1, [.slice p102 (y101).length c103])]]) (Cr := [.box b121 98 [sb x114.Ask, si x114.Cmd.Kind, si x114.Cmd.DC, si x114.Cmd.Shard, si x114.Cmd.Node, si x114.Cmd.Mode, sg x114.Cmd.Key, si x114.DC, si x114.Msg.Kind, (1, [.int .u64 (x114.Msg.Id)]), (1, [.int .u64 (x114.Msg.N)]), (1, [.int .u64 (x114.Msg.TS)]), sg x114.Msg.Lo, sg x114.Msg.Hi, (1, [.slice p117 (x114.Msg.Vers).length c118]), (1, [.slice p119 (x114.Msg.Vec).length c120]), si x114.Msg.Cmd.Kind, si x114.Msg.Cmd.DC, si x114.Msg.Cmd.Shard, si x114.Msg.Cmd.Node, si x114.Msg.Cmd.Mode, sg x114.Msg.Cmd.Key], .box b11 30 [si x9.1.Pool, si x9.1.Nodes, (4, (encs fBool x9.1.Members)), (8, cs10), (21, (encs (fInt .i64) x9.1.Modes))], .tok p93 72 6 (y92).length c94, .tok p102 106 15 (y101).length c103, .tok p105 72 6 (y104).length c106]) (args := #[pt b18 0]) (f := 70) hF (hS.selp [1, 0, 2, 3, 4, 5] (by decide) (by kernel_rfl)) (by kernel_rfl) (by kernel_rfl) (fun hS => C_warden_Warden_Tail N (T_warden_Warden.mk (T_config_State.mk y80 y81 y82 y83 y85) (T_config_State.mk y86 y87 y88 y89 y91) y92 y95 y96 y97 y98 y99 y100 y101) cs84 cs90 p93 c94 p102 c103 b18 rfl (hS.pick [5, 6, 7, 8, 9, 10, 11, 12, 13] (by kernel_rfl)) hx252) ?_)
 rintro _ κ w a ⟨cs253, rfl, h2⟩ hF hB
 have hS := hB _ _ h2
 refine wl_pure (L' := [(3, .slice p5 (a4).length c6), (9, pt b11 0), (11, pt b18 0), (12, .slice p105 (y104).length c106), (13, .int .i64 (y107)), (14, pt b121 0), (55, .agg (flat [si x252.Pool, si x252.Nodes, (4, (encs fBool x252.Members)), (8, cs253), (21, (encs (fInt .i64) x252.Modes))]).toArray), (56, pt b18 0)]) 1 [3, 9, 11, 12, 13, 14, 55, 56] hF (by kernel_rfl) fun a hF => ?_
 refine bind_split H (fun x254 hx254 H => ?_)
 refine wc (wo_callS (Cin := [.box b18 120 [si y80, si y81, (4, (encs fBool y82)), (8, cs84), (21, (encs (fInt .i64) y85)), si y86, si y87, (4, (encs fBool y88)), (8, cs90), (21, (encs (fInt .i64) y91)), (1, [.slice p93 (y92).length c94]), si y95, si y96, si y97, (4, (encs fBool y98)), (1, [.int .u64 (y99)]), sb y100, (1, [.slice p102 (y101).length c103])]]) (Cr := [.box b121 98 [sb x114.Ask, si x114.Cmd.Kind, si x114.Cmd.DC, si x114.Cmd.Shard, si x114.Cmd.Node, si x114.Cmd.Mode, sg x114.Cmd.Key, si x114.DC, si x114.Msg.Kind, (1, [.int .u64 (x114.Msg.Id)]), (1, [.int .u64 (x114.Msg.N)]), (1, [.int .u64 (x114.Msg.TS)]), sg x114.Msg.Lo, sg x114.Msg.Hi, (1, [.slice p117 (x114.Msg.Vers).length c118]), (1, [.slice p119 (x114.Msg.Vec).length c120]), si x114.Msg.Cmd.Kind, si x114.Msg.Cmd.DC, si x114.Msg.Cmd.Shard, si x114.Msg.Cmd.Node, si x114.Msg.Cmd.Mode, sg x114.Msg.Cmd.Key], .box b11 30 [si x9.1.Pool, si x9.1.Nodes, (4, (encs fBool x9.1.Members)), (8, cs10), (21, (encs (fInt .i64) x9.1.Modes))], .tok p93 72 6 (y92).length c94, .tok p102 106 15 (y101).length c103, .tok p105 72 6 (y104).length c106]) (args := #[pt b18 0]) (f := 66) hF (hS.selp [0, 1, 2, 3, 4, 5] (by decide) (by kernel_rfl)) (by kernel_rfl) (by kernel_rfl) (fun hS => C_warden_Warden_Pending N (T_warden_Warden.mk (T_config_State.mk y80 y81 y82 y83 y85) (T_config_State.mk y86 y87 y88 y89 y91) y92 y95 y96 y97 y98 y99 y100 y101) cs84 cs90 p93 c94 p102 c103 b18 rfl (hS.pick [8, 9, 10, 11, 12, 13, 14, 15, 16] (by kernel_rfl)) hx254) ?_)
 rintro _ κ w a ⟨rfl, h2⟩ hF hB
 have hS := hB _ _ h2
 have hS := hS.add (m := MP.const (List.length (List.replicate 4 false) = 4)) (List.length_replicate)
 have hS := hS.add (m := Arr.mp t_api_Map ((List.replicate 4 (flat [(1, [.slice none 0 0]), (1, [.slice none 0 0])])).flatten) 4 (List.replicate 4 (T_api_Map.mk ([] : List ByteArray) ([] : List Int)))) (Arr.zero _ _ _ _ _ z_api_Map)
 have hS := hS.add (m := MP.const (List.length (List.replicate 21 0) = 21)) (List.length_replicate)
 refine wc (wal hF hS [si 0, si 0, (4, (encs fBool (List.replicate 4 false))), (8, (List.replicate 4 (flat [(1, [.slice none 0 0]), (1, [.slice none 0 0])])).flatten), (21, (encs (fInt .i64) (List.replicate 21 0)))] (sgN 2 (sgEnc List.length_replicate (sgArr (hS.get 1 rfl) (sgEnc List.length_replicate sgNil)))) fun b255 a w hF hS => ?_)
 refine wc (wst hF hS 0 0 5 [si x252.Pool, si x252.Nodes, (4, (encs fBool x252.Members)), (8, cs253), (21, (encs (fInt .i64) x252.Modes))] (sgN 2 (sgEnc (hS.get 3 rfl) (sgArr (hS.get 4 rfl) (sgEnc (hS.get 5 rfl) sgNil)))) fun a w hF hS => ?_)
 refine wp 1 [3, 9, 11, 12, 13, 14, 15, 16] hF fun a hF => ?_
 refine wpListIn_nil ?_
 refine hK251 _ _ ?_
 refine wpIn_seq_k fun K256 hK256 => ?_
 refine wpIn_region_lit ?_
 refine wl_pure (L' := [(3, .slice p5 (a4).length c6), (9, pt b11 0), (11, pt b18 0), (12, .slice p105 (y104).length c106), (13, .int .i64 (y107)), (14, pt b121 0), (15, pt b255 0), (16, .int .i64 (x254)), (59, pt b18 0), (60, pt b121 1)]) 2 [3, 9, 11, 12, 13, 14, 15, 16, 59, 60] hF (by kernel_rfl) fun a hF => ?_
 refine wc (wls hF hS 2 1 6 fun a hF => ?_)
 refine bind_split H (fun x257 hx257 H => ?_)
 refine wc (wo_callS (Cin := [.box b18 120 [si y80, si y81, (4, (encs fBool y82)), (8, cs84), (21, (encs (fInt .i64) y85)), si y86, si y87, (4, (encs fBool y88)), (8, cs90), (21, (encs (fInt .i64) y91)), (1, [.slice p93 (y92).length c94]), si y95, si y96, si y97, (4, (encs fBool y98)), (1, [.int .u64 (y99)]), sb y100, (1, [.slice p102 (y101).length c103])], .tok p93 72 6 (y92).length c94, .tok p102 106 15 (y101).length c103]) (Cr := [.box b255 30 [si x252.Pool, si x252.Nodes, (4, (encs fBool x252.Members)), (8, cs253), (21, (encs (fInt .i64) x252.Modes))], .box b121 98 [sb x114.Ask, si x114.Cmd.Kind, si x114.Cmd.DC, si x114.Cmd.Shard, si x114.Cmd.Node, si x114.Cmd.Mode, sg x114.Cmd.Key, si x114.DC, si x114.Msg.Kind, (1, [.int .u64 (x114.Msg.Id)]), (1, [.int .u64 (x114.Msg.N)]), (1, [.int .u64 (x114.Msg.TS)]), sg x114.Msg.Lo, sg x114.Msg.Hi, (1, [.slice p117 (x114.Msg.Vers).length c118]), (1, [.slice p119 (x114.Msg.Vec).length c120]), si x114.Msg.Cmd.Kind, si x114.Msg.Cmd.DC, si x114.Msg.Cmd.Shard, si x114.Msg.Cmd.Node, si x114.Msg.Cmd.Mode, sg x114.Msg.Cmd.Key], .box b11 30 [si x9.1.Pool, si x9.1.Nodes, (4, (encs fBool x9.1.Members)), (8, cs10), (21, (encs (fInt .i64) x9.1.Modes))], .tok p105 72 6 (y104).length c106]) (args := #[pt b18 0, .agg (flat [si x114.Cmd.Kind, si x114.Cmd.DC, si x114.Cmd.Shard, si x114.Cmd.Node, si x114.Cmd.Mode, sg x114.Cmd.Key]).toArray]) (f := 65) hF (hS.selp [1, 4, 5, 0, 2, 3, 6] (by decide) (by kernel_rfl)) (by kernel_rfl) (by kernel_rfl) (fun hS => C_warden_Warden_Ask N (T_warden_Warden.mk (T_config_State.mk y80 y81 y82 y83 y85) (T_config_State.mk y86 y87 y88 y89 y91) y92 y95 y96 y97 y98 y99 y100 y101) (T_api_Cmd.mk x114.Cmd.Kind x114.Cmd.DC x114.Cmd.Shard x114.Cmd.Node x114.Cmd.Mode x114.Cmd.Key) cs84 cs90 p93 c94 p102 c103 b18 rfl (hS.pick [11, 12, 13, 14, 15, 16, 17, 18, 19] (by kernel_rfl)) hx257) ?_)
 rintro _ κ w a ⟨cs258, cs259, p260, c261, p262, c263, rfl, h2⟩ hF hB
 have hS := hB _ _ h2
 refine wp 5 [3, 9, 11, 12, 13, 14, 15, 16, 17, 18] hF fun a hF => ?_
 refine wpListIn_nil ?_
 refine hK256 _ _ ?_
 refine wpIn_seq_k fun K264 hK264 => ?_
 refine wpIn_region_lit ?_
 refine wp 2 [3, 9, 11, 12, 13, 14, 15, 16, 17, 66] hF fun a hF => ?_
 refine wpListIn_nil ?_
 refine hK264 _ _ ?_
 refine bif_split H (fun hb H => ?_) (fun hb H => ?_)
 refine cond_t hF (by kernel_rfl) hb ?_
 refine wpIn_seq_k fun K265 hK265 => ?_
 refine bind_split H (fun v267 hv267 H => ?_)
 refine code_join (fun a w => ∃ κ : Gh, Fr (147) [] [(3, .slice p5 (a4).length c6), (9, pt b11 0), (11, pt b18 0), (12, .slice p105 (y104).length c106), (13, .int .i64 (y107)), (82, .bool (v267))] a ∧ SS [] κ0 w0 κ w [.box b18 120 [si x257.2.2.now.Pool, si x257.2.2.now.Nodes, (4, (encs fBool x257.2.2.now.Members)), (8, cs258), (21, (encs (fInt .i64) x257.2.2.now.Modes)), si x257.2.2.tail.Pool, si x257.2.2.tail.Nodes, (4, (encs fBool x257.2.2.tail.Members)), (8, cs259), (21, (encs (fInt .i64) x257.2.2.tail.Modes)), (1, [.slice p260 (x257.2.2.queue).length c261]), si x257.2.2.done, si x257.2.2.epoch, si x257.2.2.step_, (4, (encs fBool x257.2.2.wait)), (1, [.int .u64 (x257.2.2.mark_)]), sb x257.2.2.ready, (1, [.slice p262 (x257.2.2.out).length c263])], .box b11 30 [si x9.1.Pool, si x9.1.Nodes, (4, (encs fBool x9.1.Members)), (8, cs10), (21, (encs (fInt .i64) x9.1.Modes))], .tok p260 72 6 (x257.2.2.queue).length c261, .tok p262 106 15 (x257.2.2.out).length c263, .tok p105 72 6 (y104).length c106] [Ro.mp t_law19_Op p5 c6 a4, Ro.mp f_api_Cmd.ty p105 c106 y104, MP.const (List.length x257.2.2.now.Members = 4), Arr.mp t_api_Map cs258 4 x257.2.2.now.Maps, MP.const (List.length x257.2.2.now.Modes = 21), MP.const (List.length x257.2.2.tail.Members = 4), Arr.mp t_api_Map cs259 4 x257.2.2.tail.Maps, MP.const (List.length x257.2.2.tail.Modes = 21), Ro.mp f_api_Cmd.ty p260 c261 x257.2.2.queue, MP.const (List.length x257.2.2.wait = 4), Ro.mp t_api_Mail p262 c263 x257.2.2.out, MP.const (List.length x9.1.Members = 4), Arr.mp t_api_Map cs10 4 x9.1.Maps, MP.const (List.length x9.1.Modes = 21)] ∧ True) ?_ ?_
 refine rga (SSx [] κ0 w0 [.box b18 120 [si x257.2.2.now.Pool, si x257.2.2.now.Nodes, (4, (encs fBool x257.2.2.now.Members)), (8, cs258), (21, (encs (fInt .i64) x257.2.2.now.Modes)), si x257.2.2.tail.Pool, si x257.2.2.tail.Nodes, (4, (encs fBool x257.2.2.tail.Members)), (8, cs259), (21, (encs (fInt .i64) x257.2.2.tail.Modes)), (1, [.slice p260 (x257.2.2.queue).length c261]), si x257.2.2.done, si x257.2.2.epoch, si x257.2.2.step_, (4, (encs fBool x257.2.2.wait)), (1, [.int .u64 (x257.2.2.mark_)]), sb x257.2.2.ready, (1, [.slice p262 (x257.2.2.out).length c263])], .box b255 30 [si x252.Pool, si x252.Nodes, (4, (encs fBool x252.Members)), (8, cs253), (21, (encs (fInt .i64) x252.Modes))], .box b121 98 [sb x114.Ask, si x114.Cmd.Kind, si x114.Cmd.DC, si x114.Cmd.Shard, si x114.Cmd.Node, si x114.Cmd.Mode, sg x114.Cmd.Key, si x114.DC, si x114.Msg.Kind, (1, [.int .u64 (x114.Msg.Id)]), (1, [.int .u64 (x114.Msg.N)]), (1, [.int .u64 (x114.Msg.TS)]), sg x114.Msg.Lo, sg x114.Msg.Hi, (1, [.slice p117 (x114.Msg.Vers).length c118]), (1, [.slice p119 (x114.Msg.Vec).length c120]), si x114.Msg.Cmd.Kind, si x114.Msg.Cmd.DC, si x114.Msg.Cmd.Shard, si x114.Msg.Cmd.Node, si x114.Msg.Cmd.Mode, sg x114.Msg.Cmd.Key], .box b11 30 [si x9.1.Pool, si x9.1.Nodes, (4, (encs fBool x9.1.Members)), (8, cs10), (21, (encs (fInt .i64) x9.1.Modes))]] [MP.const (List.length x257.2.2.now.Members = 4), Arr.mp t_api_Map cs258 4 x257.2.2.now.Maps, MP.const (List.length x257.2.2.now.Modes = 21), MP.const (List.length x257.2.2.tail.Members = 4), Arr.mp t_api_Map cs259 4 x257.2.2.tail.Maps, MP.const (List.length x257.2.2.tail.Modes = 21), Ro.mp f_api_Cmd.ty p260 c261 x257.2.2.queue, MP.const (List.length x257.2.2.wait = 4), Ro.mp t_api_Mail p262 c263 x257.2.2.out, MP.const (List.length (List.replicate 21 0) = 21), Arr.mp t_api_Map ((List.replicate 4 (flat [(1, [.slice none 0 0]), (1, [.slice none 0 0])])).flatten) 4 (List.replicate 4 (T_api_Map.mk ([] : List ByteArray) ([] : List Int))), MP.const (List.length (List.replicate 4 false) = 4), MP.const (List.length x252.Members = 4), Arr.mp t_api_Map cs253 4 x252.Maps, MP.const (List.length x252.Modes = 21), MP.cells b115 (f116 + Int.toNat y107 * 22) (flat [sb x114.Ask, si x114.Cmd.Kind, si x114.Cmd.DC, si x114.Cmd.Shard, si x114.Cmd.Node, si x114.Cmd.Mode, sg x114.Cmd.Key, si x114.DC, si x114.Msg.Kind, (1, [.int .u64 (x114.Msg.Id)]), (1, [.int .u64 (x114.Msg.N)]), (1, [.int .u64 (x114.Msg.TS)]), sg x114.Msg.Lo, sg x114.Msg.Hi, (1, [.slice p117 (x114.Msg.Vers).length c118]), (1, [.slice p119 (x114.Msg.Vec).length c120]), si x114.Msg.Cmd.Kind, si x114.Msg.Cmd.DC, si x114.Msg.Cmd.Shard, si x114.Msg.Cmd.Node, si x114.Msg.Cmd.Mode, sg x114.Msg.Cmd.Key]), Ro.mp f_api_Ver.ty p117 c118 x114.Msg.Vers, Ro.mp (fInt .u64).ty p119 c120 x114.Msg.Vec, Ro.mp t_law19_Op p5 c6 a4, Ro.mp f_api_Cmd.ty p105 c106 y104, MP.const (List.length y82 = 4), Arr.mp t_api_Map cs84 4 y83, MP.const (List.length y85 = 21), MP.const (List.length y88 = 4), Arr.mp t_api_Map cs90 4 y89, MP.const (List.length y91 = 21), Ro.mp f_api_Cmd.ty p93 c94 y92, MP.const (List.length y98 = 4), Ro.mp t_api_Mail p102 c103 y101, MP.const (List.length x9.1.Members = 4), Arr.mp t_api_Map cs10 4 x9.1.Maps, MP.const (List.length x9.1.Modes = 21)]) [] ?_
 have hS := hS.drew
 refine bind_split hv267 (fun x268 hx268 hv267 => ?_)
 refine bind_split hv267 (fun x270 hx270 hv267 => ?_)
 refine bind_split hv267 (fun x272 hx272 hv267 => ?_)
 refine bif_split hv267 (fun hb273 hv267 => ?_) (fun hb273 hv267 => ?_)
 refine any_pure [0] [3, 9, 11, 12, 13, 15, 16, 17, 67] (L' := [(3, .slice p5 (a4).length c6), (9, pt b11 0), (11, pt b18 0), (12, .slice p105 (y104).length c106), (13, .int .i64 (y107)), (15, pt b255 0), (16, .int .i64 (x254)), (17, .int .i64 (x257.1)), (67, pt b18 0)]) (listed' := #[true, false, false, false, false, false, false, false, false, false, false, false, false, false, false, false]) (fuel := 15) hF (hS.sx [0, 3, 4, 5] [0, 1, 2, 3, 4, 5, 6, 7, 8, 9, 10, 11, 12, 13, 14, 15, 16, 17, 18, 19, 20, 21, 22, 23, 24, 25, 26, 27, 28, 29, 30, 31]) (by kernel_rfl) (by intro c a w t v h; cases t <;> exact h) (by kernel_rfl) rfl fun a hF => ?_
 refine atk 2 (some 69) hF (hS.sx [0, 3, 4, 5] [0, 1, 2, 3, 4, 5, 6, 7, 8, 9, 10, 11, 12, 13, 14, 15, 16, 17, 18, 19, 20, 21, 22, 23, 24, 25, 26, 27, 28, 29, 30, 31]) rfl (vls 1 0 5) fun a hF => ?_
 refine ago 1 hF rfl ?_
 refine wo_callS (Cin := [.box b18 120 [si x257.2.2.now.Pool, si x257.2.2.now.Nodes, (4, (encs fBool x257.2.2.now.Members)), (8, cs258), (21, (encs (fInt .i64) x257.2.2.now.Modes)), si x257.2.2.tail.Pool, si x257.2.2.tail.Nodes, (4, (encs fBool x257.2.2.tail.Members)), (8, cs259), (21, (encs (fInt .i64) x257.2.2.tail.Modes)), (1, [.slice p260 (x257.2.2.queue).length c261]), si x257.2.2.done, si x257.2.2.epoch, si x257.2.2.step_, (4, (encs fBool x257.2.2.wait)), (1, [.int .u64 (x257.2.2.mark_)]), sb x257.2.2.ready, (1, [.slice p262 (x257.2.2.out).length c263])]]) (Cr := [.tok p260 72 6 (x257.2.2.queue).length c261, .tok p262 106 15 (x257.2.2.out).length c263, .box b255 30 [si x252.Pool, si x252.Nodes, (4, (encs fBool x252.Members)), (8, cs253), (21, (encs (fInt .i64) x252.Modes))], .box b121 98 [sb x114.Ask, si x114.Cmd.Kind, si x114.Cmd.DC, si x114.Cmd.Shard, si x114.Cmd.Node, si x114.Cmd.Mode, sg x114.Cmd.Key, si x114.DC, si x114.Msg.Kind, (1, [.int .u64 (x114.Msg.Id)]), (1, [.int .u64 (x114.Msg.N)]), (1, [.int .u64 (x114.Msg.TS)]), sg x114.Msg.Lo, sg x114.Msg.Hi, (1, [.slice p117 (x114.Msg.Vers).length c118]), (1, [.slice p119 (x114.Msg.Vec).length c120]), si x114.Msg.Cmd.Kind, si x114.Msg.Cmd.DC, si x114.Msg.Cmd.Shard, si x114.Msg.Cmd.Node, si x114.Msg.Cmd.Mode, sg x114.Msg.Cmd.Key], .box b11 30 [si x9.1.Pool, si x9.1.Nodes, (4, (encs fBool x9.1.Members)), (8, cs10), (21, (encs (fInt .i64) x9.1.Modes))], .tok p105 72 6 (y104).length c106]) (args := #[pt b18 0]) (f := 70) hF (hS.selp [0, 1, 2, 3, 4, 5, 6] (by decide) (by kernel_rfl)) (by kernel_rfl) (by kernel_rfl) (fun hS => C_warden_Warden_Tail N (T_warden_Warden.mk (T_config_State.mk x257.2.2.now.Pool x257.2.2.now.Nodes x257.2.2.now.Members x257.2.2.now.Maps x257.2.2.now.Modes) (T_config_State.mk x257.2.2.tail.Pool x257.2.2.tail.Nodes x257.2.2.tail.Members x257.2.2.tail.Maps x257.2.2.tail.Modes) x257.2.2.queue x257.2.2.done x257.2.2.epoch x257.2.2.step_ x257.2.2.wait x257.2.2.mark_ x257.2.2.ready x257.2.2.out) cs258 cs259 p260 c261 p262 c263 b18 rfl (hS.pick [0, 1, 2, 3, 4, 5, 6, 7, 8] (by kernel_rfl)) hx268) ?_
 rintro _ κ w a ⟨cs269, rfl, h2⟩ hF hB
 have hS := hB _ _ h2
 refine ⟨fun _ => (hS.sx [0, 3, 4, 5] [3, 4, 5, 6, 7, 8, 9, 10, 11, 12, 13, 14, 15, 16, 17, 18, 19, 20, 21, 22, 23, 24, 25, 26, 27, 28, 29, 30, 31, 32, 33, 34]), ?_⟩
 refine ago 3 hF rfl ?_
 refine wo_callP hF hS (by kernel_rfl) (by kernel_rfl) (C_law18_Told N hS.fresh (T_config_State.mk x252.Pool x252.Nodes x252.Members x252.Maps x252.Modes) cs253 ((hS.pick [15, 16, 17] (by kernel_rfl)).ro) hx270) ?_
 rintro _ κ w a ⟨cs271, rfl, hR, hN⟩ hF hS hO
 have hS := hS.adds hR
 refine ⟨fun _ => (hS.sx [0, 3, 4, 5] [6, 7, 8, 9, 10, 11, 12, 13, 14, 15, 16, 17, 18, 19, 20, 21, 22, 23, 24, 25, 26, 27, 28, 29, 30, 31, 32, 33, 34, 35, 36, 37]), ?_⟩
 refine ago 4 hF rfl ?_
 refine wo_callP hF hS (by kernel_rfl) (by kernel_rfl) (C_law18_Same N hS.fresh (T_config_State.mk x268.Pool x268.Nodes x268.Members x268.Maps x268.Modes) (T_ref18_State.mk x270.Pool x270.Nodes x270.Members x270.Maps x270.Modes) cs269 cs271 ((hS.pick [3, 4, 5, 0, 1, 2] (by kernel_rfl)).ro) hx272) ?_
 rintro _ κ w a ⟨rfl, hR, hN⟩ hF hS hO
 refine ⟨fun _ => (hS.sx [0, 3, 4, 5] [6, 7, 8, 9, 10, 11, 12, 13, 14, 15, 16, 17, 18, 19, 20, 21, 22, 23, 24, 25, 26, 27, 28, 29, 30, 31, 32, 33, 34, 35, 36, 37]), ?_⟩
 refine anp [5, 6] [3, 9, 11, 12, 13, 16, 17, 73] hF (hS.sx [0, 3, 4, 5] [6, 7, 8, 9, 10, 11, 12, 13, 14, 15, 16, 17, 18, 19, 20, 21, 22, 23, 24, 25, 26, 27, 28, 29, 30, 31, 32, 33, 34, 35, 36, 37]) fun a hF => ?_
 have hF := hF.boolv 73 (by kernel_rfl) hb273
 refine anp [7, 8, 9, 10, 11, 12, 13, 14, 15] [3, 9, 11, 12, 13, 82] hF (hS.sx [0, 3, 4, 5] [6, 7, 8, 9, 10, 11, 12, 13, 14, 15, 16, 17, 18, 19, 20, 21, 22, 23, 24, 25, 26, 27, 28, 29, 30, 31, 32, 33, 34, 35, 36, 37]) fun a hF => ?_
 refine and_ ?_
 cases hv267
 exact ⟨_, hF.kp [3, 9, 11, 12, 13, 82], hS.sp [0, 5, 1, 2, 6] [24, 25, 6, 7, 8, 9, 10, 11, 12, 13, 14, 35, 36, 37], trivial⟩
 refine bind_split hv267 (fun x274 hx274 hv267 => ?_)
 refine bif_split hv267 (fun hb275 hv267 => ?_) (fun hb275 hv267 => ?_)
 refine any_pure [0] [3, 9, 11, 12, 13, 15, 16, 17, 67] (L' := [(3, .slice p5 (a4).length c6), (9, pt b11 0), (11, pt b18 0), (12, .slice p105 (y104).length c106), (13, .int .i64 (y107)), (15, pt b255 0), (16, .int .i64 (x254)), (17, .int .i64 (x257.1)), (67, pt b18 0)]) (listed' := #[true, false, false, false, false, false, false, false, false, false, false, false, false, false, false, false]) (fuel := 15) hF (hS.sx [0, 3, 4, 5] [0, 1, 2, 3, 4, 5, 6, 7, 8, 9, 10, 11, 12, 13, 14, 15, 16, 17, 18, 19, 20, 21, 22, 23, 24, 25, 26, 27, 28, 29, 30, 31]) (by kernel_rfl) (by intro c a w t v h; cases t <;> exact h) (by kernel_rfl) rfl fun a hF => ?_
 refine atk 2 (some 69) hF (hS.sx [0, 3, 4, 5] [0, 1, 2, 3, 4, 5, 6, 7, 8, 9, 10, 11, 12, 13, 14, 15, 16, 17, 18, 19, 20, 21, 22, 23, 24, 25, 26, 27, 28, 29, 30, 31]) rfl (vls 1 0 5) fun a hF => ?_
 refine ago 1 hF rfl ?_
 refine wo_callS (Cin := [.box b18 120 [si x257.2.2.now.Pool, si x257.2.2.now.Nodes, (4, (encs fBool x257.2.2.now.Members)), (8, cs258), (21, (encs (fInt .i64) x257.2.2.now.Modes)), si x257.2.2.tail.Pool, si x257.2.2.tail.Nodes, (4, (encs fBool x257.2.2.tail.Members)), (8, cs259), (21, (encs (fInt .i64) x257.2.2.tail.Modes)), (1, [.slice p260 (x257.2.2.queue).length c261]), si x257.2.2.done, si x257.2.2.epoch, si x257.2.2.step_, (4, (encs fBool x257.2.2.wait)), (1, [.int .u64 (x257.2.2.mark_)]), sb x257.2.2.ready, (1, [.slice p262 (x257.2.2.out).length c263])]]) (Cr := [.tok p260 72 6 (x257.2.2.queue).length c261, .tok p262 106 15 (x257.2.2.out).length c263, .box b255 30 [si x252.Pool, si x252.Nodes, (4, (encs fBool x252.Members)), (8, cs253), (21, (encs (fInt .i64) x252.Modes))], .box b121 98 [sb x114.Ask, si x114.Cmd.Kind, si x114.Cmd.DC, si x114.Cmd.Shard, si x114.Cmd.Node, si x114.Cmd.Mode, sg x114.Cmd.Key, si x114.DC, si x114.Msg.Kind, (1, [.int .u64 (x114.Msg.Id)]), (1, [.int .u64 (x114.Msg.N)]), (1, [.int .u64 (x114.Msg.TS)]), sg x114.Msg.Lo, sg x114.Msg.Hi, (1, [.slice p117 (x114.Msg.Vers).length c118]), (1, [.slice p119 (x114.Msg.Vec).length c120]), si x114.Msg.Cmd.Kind, si x114.Msg.Cmd.DC, si x114.Msg.Cmd.Shard, si x114.Msg.Cmd.Node, si x114.Msg.Cmd.Mode, sg x114.Msg.Cmd.Key], .box b11 30 [si x9.1.Pool, si x9.1.Nodes, (4, (encs fBool x9.1.Members)), (8, cs10), (21, (encs (fInt .i64) x9.1.Modes))], .tok p105 72 6 (y104).length c106]) (args := #[pt b18 0]) (f := 70) hF (hS.selp [0, 1, 2, 3, 4, 5, 6] (by decide) (by kernel_rfl)) (by kernel_rfl) (by kernel_rfl) (fun hS => C_warden_Warden_Tail N (T_warden_Warden.mk (T_config_State.mk x257.2.2.now.Pool x257.2.2.now.Nodes x257.2.2.now.Members x257.2.2.now.Maps x257.2.2.now.Modes) (T_config_State.mk x257.2.2.tail.Pool x257.2.2.tail.Nodes x257.2.2.tail.Members x257.2.2.tail.Maps x257.2.2.tail.Modes) x257.2.2.queue x257.2.2.done x257.2.2.epoch x257.2.2.step_ x257.2.2.wait x257.2.2.mark_ x257.2.2.ready x257.2.2.out) cs258 cs259 p260 c261 p262 c263 b18 rfl (hS.pick [0, 1, 2, 3, 4, 5, 6, 7, 8] (by kernel_rfl)) hx268) ?_
 rintro _ κ w a ⟨cs269, rfl, h2⟩ hF hB
 have hS := hB _ _ h2
 refine ⟨fun _ => (hS.sx [0, 3, 4, 5] [3, 4, 5, 6, 7, 8, 9, 10, 11, 12, 13, 14, 15, 16, 17, 18, 19, 20, 21, 22, 23, 24, 25, 26, 27, 28, 29, 30, 31, 32, 33, 34]), ?_⟩
 refine ago 3 hF rfl ?_
 refine wo_callP hF hS (by kernel_rfl) (by kernel_rfl) (C_law18_Told N hS.fresh (T_config_State.mk x252.Pool x252.Nodes x252.Members x252.Maps x252.Modes) cs253 ((hS.pick [15, 16, 17] (by kernel_rfl)).ro) hx270) ?_
 rintro _ κ w a ⟨cs271, rfl, hR, hN⟩ hF hS hO
 have hS := hS.adds hR
 refine ⟨fun _ => (hS.sx [0, 3, 4, 5] [6, 7, 8, 9, 10, 11, 12, 13, 14, 15, 16, 17, 18, 19, 20, 21, 22, 23, 24, 25, 26, 27, 28, 29, 30, 31, 32, 33, 34, 35, 36, 37]), ?_⟩
 refine ago 4 hF rfl ?_
 refine wo_callP hF hS (by kernel_rfl) (by kernel_rfl) (C_law18_Same N hS.fresh (T_config_State.mk x268.Pool x268.Nodes x268.Members x268.Maps x268.Modes) (T_ref18_State.mk x270.Pool x270.Nodes x270.Members x270.Maps x270.Modes) cs269 cs271 ((hS.pick [3, 4, 5, 0, 1, 2] (by kernel_rfl)).ro) hx272) ?_
 rintro _ κ w a ⟨rfl, hR, hN⟩ hF hS hO
 refine ⟨fun _ => (hS.sx [0, 3, 4, 5] [6, 7, 8, 9, 10, 11, 12, 13, 14, 15, 16, 17, 18, 19, 20, 21, 22, 23, 24, 25, 26, 27, 28, 29, 30, 31, 32, 33, 34, 35, 36, 37]), ?_⟩
 refine anp [5, 6] [3, 9, 11, 12, 13, 16, 17, 73] hF (hS.sx [0, 3, 4, 5] [6, 7, 8, 9, 10, 11, 12, 13, 14, 15, 16, 17, 18, 19, 20, 21, 22, 23, 24, 25, 26, 27, 28, 29, 30, 31, 32, 33, 34, 35, 36, 37]) fun a hF => ?_
 have hF := hF.boolv 73 (by kernel_rfl) hb273
 refine any_pure [7, 9] [3, 9, 11, 12, 13, 17, 73, 74, 76] (L' := [(3, .slice p5 (a4).length c6), (9, pt b11 0), (11, pt b18 0), (12, .slice p105 (y104).length c106), (13, .int .i64 (y107)), (17, .int .i64 (x257.1)), (73, .bool (false)), (74, pt b18 0), (76, .int .i64 (x254))]) (listed' := #[true, true, true, true, true, true, true, true, false, true, false, false, false, false, false, false]) (fuel := 7) hF (hS.sx [0, 3, 4, 5] [6, 7, 8, 9, 10, 11, 12, 13, 14, 15, 16, 17, 18, 19, 20, 21, 22, 23, 24, 25, 26, 27, 28, 29, 30, 31, 32, 33, 34, 35, 36, 37]) (by kernel_rfl) (by intro c a w t v h; cases t <;> exact h) (by kernel_rfl) rfl fun a hF => ?_
 refine ago 8 hF rfl ?_
 refine wo_callS (Cin := [.box b18 120 [si x257.2.2.now.Pool, si x257.2.2.now.Nodes, (4, (encs fBool x257.2.2.now.Members)), (8, cs258), (21, (encs (fInt .i64) x257.2.2.now.Modes)), si x257.2.2.tail.Pool, si x257.2.2.tail.Nodes, (4, (encs fBool x257.2.2.tail.Members)), (8, cs259), (21, (encs (fInt .i64) x257.2.2.tail.Modes)), (1, [.slice p260 (x257.2.2.queue).length c261]), si x257.2.2.done, si x257.2.2.epoch, si x257.2.2.step_, (4, (encs fBool x257.2.2.wait)), (1, [.int .u64 (x257.2.2.mark_)]), sb x257.2.2.ready, (1, [.slice p262 (x257.2.2.out).length c263])]]) (Cr := [.tok p260 72 6 (x257.2.2.queue).length c261, .tok p262 106 15 (x257.2.2.out).length c263, .box b255 30 [si x252.Pool, si x252.Nodes, (4, (encs fBool x252.Members)), (8, cs253), (21, (encs (fInt .i64) x252.Modes))], .box b121 98 [sb x114.Ask, si x114.Cmd.Kind, si x114.Cmd.DC, si x114.Cmd.Shard, si x114.Cmd.Node, si x114.Cmd.Mode, sg x114.Cmd.Key, si x114.DC, si x114.Msg.Kind, (1, [.int .u64 (x114.Msg.Id)]), (1, [.int .u64 (x114.Msg.N)]), (1, [.int .u64 (x114.Msg.TS)]), sg x114.Msg.Lo, sg x114.Msg.Hi, (1, [.slice p117 (x114.Msg.Vers).length c118]), (1, [.slice p119 (x114.Msg.Vec).length c120]), si x114.Msg.Cmd.Kind, si x114.Msg.Cmd.DC, si x114.Msg.Cmd.Shard, si x114.Msg.Cmd.Node, si x114.Msg.Cmd.Mode, sg x114.Msg.Cmd.Key], .box b11 30 [si x9.1.Pool, si x9.1.Nodes, (4, (encs fBool x9.1.Members)), (8, cs10), (21, (encs (fInt .i64) x9.1.Modes))], .tok p105 72 6 (y104).length c106]) (args := #[pt b18 0]) (f := 66) hF (hS.selp [0, 1, 2, 3, 4, 5, 6] (by decide) (by kernel_rfl)) (by kernel_rfl) (by kernel_rfl) (fun hS => C_warden_Warden_Pending N (T_warden_Warden.mk (T_config_State.mk x257.2.2.now.Pool x257.2.2.now.Nodes x257.2.2.now.Members x257.2.2.now.Maps x257.2.2.now.Modes) (T_config_State.mk x257.2.2.tail.Pool x257.2.2.tail.Nodes x257.2.2.tail.Members x257.2.2.tail.Maps x257.2.2.tail.Modes) x257.2.2.queue x257.2.2.done x257.2.2.epoch x257.2.2.step_ x257.2.2.wait x257.2.2.mark_ x257.2.2.ready x257.2.2.out) cs258 cs259 p260 c261 p262 c263 b18 rfl (hS.pick [6, 7, 8, 9, 10, 11, 12, 13, 14] (by kernel_rfl)) hx274) ?_
 rintro _ κ w a ⟨rfl, h2⟩ hF hB
 have hS := hB _ _ h2
 refine ⟨fun _ => (hS.sx [0, 3, 4, 5] [6, 7, 8, 9, 10, 11, 12, 13, 14, 15, 16, 17, 18, 19, 20, 21, 22, 23, 24, 25, 26, 27, 28, 29, 30, 31, 32, 33, 34, 35, 36, 37]), ?_⟩
 refine anp [10, 11, 12] [3, 9, 11, 12, 13, 17, 79] hF (hS.sx [0, 3, 4, 5] [6, 7, 8, 9, 10, 11, 12, 13, 14, 15, 16, 17, 18, 19, 20, 21, 22, 23, 24, 25, 26, 27, 28, 29, 30, 31, 32, 33, 34, 35, 36, 37]) fun a hF => ?_
 have hF := hF.boolv 79 (by kernel_rfl) hb275
 refine anp [13, 14, 15] [3, 9, 11, 12, 13, 82] hF (hS.sx [0, 3, 4, 5] [6, 7, 8, 9, 10, 11, 12, 13, 14, 15, 16, 17, 18, 19, 20, 21, 22, 23, 24, 25, 26, 27, 28, 29, 30, 31, 32, 33, 34, 35, 36, 37]) fun a hF => ?_
 refine and_ ?_
 cases hv267
 exact ⟨_, hF.kp [3, 9, 11, 12, 13, 82], hS.sp [0, 5, 1, 2, 6] [24, 25, 6, 7, 8, 9, 10, 11, 12, 13, 14, 35, 36, 37], trivial⟩
 refine any_pure [0] [3, 9, 11, 12, 13, 15, 16, 17, 67] (L' := [(3, .slice p5 (a4).length c6), (9, pt b11 0), (11, pt b18 0), (12, .slice p105 (y104).length c106), (13, .int .i64 (y107)), (15, pt b255 0), (16, .int .i64 (x254)), (17, .int .i64 (x257.1)), (67, pt b18 0)]) (listed' := #[true, false, false, false, false, false, false, false, false, false, false, false, false, false, false, false]) (fuel := 15) hF (hS.sx [0, 3, 4, 5] [0, 1, 2, 3, 4, 5, 6, 7, 8, 9, 10, 11, 12, 13, 14, 15, 16, 17, 18, 19, 20, 21, 22, 23, 24, 25, 26, 27, 28, 29, 30, 31]) (by kernel_rfl) (by intro c a w t v h; cases t <;> exact h) (by kernel_rfl) rfl fun a hF => ?_
 refine atk 2 (some 69) hF (hS.sx [0, 3, 4, 5] [0, 1, 2, 3, 4, 5, 6, 7, 8, 9, 10, 11, 12, 13, 14, 15, 16, 17, 18, 19, 20, 21, 22, 23, 24, 25, 26, 27, 28, 29, 30, 31]) rfl (vls 1 0 5) fun a hF => ?_
 refine ago 1 hF rfl ?_
 refine wo_callS (Cin := [.box b18 120 [si x257.2.2.now.Pool, si x257.2.2.now.Nodes, (4, (encs fBool x257.2.2.now.Members)), (8, cs258), (21, (encs (fInt .i64) x257.2.2.now.Modes)), si x257.2.2.tail.Pool, si x257.2.2.tail.Nodes, (4, (encs fBool x257.2.2.tail.Members)), (8, cs259), (21, (encs (fInt .i64) x257.2.2.tail.Modes)), (1, [.slice p260 (x257.2.2.queue).length c261]), si x257.2.2.done, si x257.2.2.epoch, si x257.2.2.step_, (4, (encs fBool x257.2.2.wait)), (1, [.int .u64 (x257.2.2.mark_)]), sb x257.2.2.ready, (1, [.slice p262 (x257.2.2.out).length c263])]]) (Cr := [.tok p260 72 6 (x257.2.2.queue).length c261, .tok p262 106 15 (x257.2.2.out).length c263, .box b255 30 [si x252.Pool, si x252.Nodes, (4, (encs fBool x252.Members)), (8, cs253), (21, (encs (fInt .i64) x252.Modes))], .box b121 98 [sb x114.Ask, si x114.Cmd.Kind, si x114.Cmd.DC, si x114.Cmd.Shard, si x114.Cmd.Node, si x114.Cmd.Mode, sg x114.Cmd.Key, si x114.DC, si x114.Msg.Kind, (1, [.int .u64 (x114.Msg.Id)]), (1, [.int .u64 (x114.Msg.N)]), (1, [.int .u64 (x114.Msg.TS)]), sg x114.Msg.Lo, sg x114.Msg.Hi, (1, [.slice p117 (x114.Msg.Vers).length c118]), (1, [.slice p119 (x114.Msg.Vec).length c120]), si x114.Msg.Cmd.Kind, si x114.Msg.Cmd.DC, si x114.Msg.Cmd.Shard, si x114.Msg.Cmd.Node, si x114.Msg.Cmd.Mode, sg x114.Msg.Cmd.Key], .box b11 30 [si x9.1.Pool, si x9.1.Nodes, (4, (encs fBool x9.1.Members)), (8, cs10), (21, (encs (fInt .i64) x9.1.Modes))], .tok p105 72 6 (y104).length c106]) (args := #[pt b18 0]) (f := 70) hF (hS.selp [0, 1, 2, 3, 4, 5, 6] (by decide) (by kernel_rfl)) (by kernel_rfl) (by kernel_rfl) (fun hS => C_warden_Warden_Tail N (T_warden_Warden.mk (T_config_State.mk x257.2.2.now.Pool x257.2.2.now.Nodes x257.2.2.now.Members x257.2.2.now.Maps x257.2.2.now.Modes) (T_config_State.mk x257.2.2.tail.Pool x257.2.2.tail.Nodes x257.2.2.tail.Members x257.2.2.tail.Maps x257.2.2.tail.Modes) x257.2.2.queue x257.2.2.done x257.2.2.epoch x257.2.2.step_ x257.2.2.wait x257.2.2.mark_ x257.2.2.ready x257.2.2.out) cs258 cs259 p260 c261 p262 c263 b18 rfl (hS.pick [0, 1, 2, 3, 4, 5, 6, 7, 8] (by kernel_rfl)) hx268) ?_
 rintro _ κ w a ⟨cs269, rfl, h2⟩ hF hB
 have hS := hB _ _ h2
 refine ⟨fun _ => (hS.sx [0, 3, 4, 5] [3, 4, 5, 6, 7, 8, 9, 10, 11, 12, 13, 14, 15, 16, 17, 18, 19, 20, 21, 22, 23, 24, 25, 26, 27, 28, 29, 30, 31, 32, 33, 34]), ?_⟩
 refine ago 3 hF rfl ?_
 refine wo_callP hF hS (by kernel_rfl) (by kernel_rfl) (C_law18_Told N hS.fresh (T_config_State.mk x252.Pool x252.Nodes x252.Members x252.Maps x252.Modes) cs253 ((hS.pick [15, 16, 17] (by kernel_rfl)).ro) hx270) ?_
 rintro _ κ w a ⟨cs271, rfl, hR, hN⟩ hF hS hO
 have hS := hS.adds hR
 refine ⟨fun _ => (hS.sx [0, 3, 4, 5] [6, 7, 8, 9, 10, 11, 12, 13, 14, 15, 16, 17, 18, 19, 20, 21, 22, 23, 24, 25, 26, 27, 28, 29, 30, 31, 32, 33, 34, 35, 36, 37]), ?_⟩
 refine ago 4 hF rfl ?_
 refine wo_callP hF hS (by kernel_rfl) (by kernel_rfl) (C_law18_Same N hS.fresh (T_config_State.mk x268.Pool x268.Nodes x268.Members x268.Maps x268.Modes) (T_ref18_State.mk x270.Pool x270.Nodes x270.Members x270.Maps x270.Modes) cs269 cs271 ((hS.pick [3, 4, 5, 0, 1, 2] (by kernel_rfl)).ro) hx272) ?_
 rintro _ κ w a ⟨rfl, hR, hN⟩ hF hS hO
 refine ⟨fun _ => (hS.sx [0, 3, 4, 5] [6, 7, 8, 9, 10, 11, 12, 13, 14, 15, 16, 17, 18, 19, 20, 21, 22, 23, 24, 25, 26, 27, 28, 29, 30, 31, 32, 33, 34, 35, 36, 37]), ?_⟩
 refine anp [5, 6] [3, 9, 11, 12, 13, 16, 17, 73] hF (hS.sx [0, 3, 4, 5] [6, 7, 8, 9, 10, 11, 12, 13, 14, 15, 16, 17, 18, 19, 20, 21, 22, 23, 24, 25, 26, 27, 28, 29, 30, 31, 32, 33, 34, 35, 36, 37]) fun a hF => ?_
 have hF := hF.boolv 73 (by kernel_rfl) hb273
 refine any_pure [7, 9] [3, 9, 11, 12, 13, 17, 73, 74, 76] (L' := [(3, .slice p5 (a4).length c6), (9, pt b11 0), (11, pt b18 0), (12, .slice p105 (y104).length c106), (13, .int .i64 (y107)), (17, .int .i64 (x257.1)), (73, .bool (false)), (74, pt b18 0), (76, .int .i64 (x254))]) (listed' := #[true, true, true, true, true, true, true, true, false, true, false, false, false, false, false, false]) (fuel := 7) hF (hS.sx [0, 3, 4, 5] [6, 7, 8, 9, 10, 11, 12, 13, 14, 15, 16, 17, 18, 19, 20, 21, 22, 23, 24, 25, 26, 27, 28, 29, 30, 31, 32, 33, 34, 35, 36, 37]) (by kernel_rfl) (by intro c a w t v h; cases t <;> exact h) (by kernel_rfl) rfl fun a hF => ?_
 refine ago 8 hF rfl ?_
 refine wo_callS (Cin := [.box b18 120 [si x257.2.2.now.Pool, si x257.2.2.now.Nodes, (4, (encs fBool x257.2.2.now.Members)), (8, cs258), (21, (encs (fInt .i64) x257.2.2.now.Modes)), si x257.2.2.tail.Pool, si x257.2.2.tail.Nodes, (4, (encs fBool x257.2.2.tail.Members)), (8, cs259), (21, (encs (fInt .i64) x257.2.2.tail.Modes)), (1, [.slice p260 (x257.2.2.queue).length c261]), si x257.2.2.done, si x257.2.2.epoch, si x257.2.2.step_, (4, (encs fBool x257.2.2.wait)), (1, [.int .u64 (x257.2.2.mark_)]), sb x257.2.2.ready, (1, [.slice p262 (x257.2.2.out).length c263])]]) (Cr := [.tok p260 72 6 (x257.2.2.queue).length c261, .tok p262 106 15 (x257.2.2.out).length c263, .box b255 30 [si x252.Pool, si x252.Nodes, (4, (encs fBool x252.Members)), (8, cs253), (21, (encs (fInt .i64) x252.Modes))], .box b121 98 [sb x114.Ask, si x114.Cmd.Kind, si x114.Cmd.DC, si x114.Cmd.Shard, si x114.Cmd.Node, si x114.Cmd.Mode, sg x114.Cmd.Key, si x114.DC, si x114.Msg.Kind, (1, [.int .u64 (x114.Msg.Id)]), (1, [.int .u64 (x114.Msg.N)]), (1, [.int .u64 (x114.Msg.TS)]), sg x114.Msg.Lo, sg x114.Msg.Hi, (1, [.slice p117 (x114.Msg.Vers).length c118]), (1, [.slice p119 (x114.Msg.Vec).length c120]), si x114.Msg.Cmd.Kind, si x114.Msg.Cmd.DC, si x114.Msg.Cmd.Shard, si x114.Msg.Cmd.Node, si x114.Msg.Cmd.Mode, sg x114.Msg.Cmd.Key], .box b11 30 [si x9.1.Pool, si x9.1.Nodes, (4, (encs fBool x9.1.Members)), (8, cs10), (21, (encs (fInt .i64) x9.1.Modes))], .tok p105 72 6 (y104).length c106]) (args := #[pt b18 0]) (f := 66) hF (hS.selp [0, 1, 2, 3, 4, 5, 6] (by decide) (by kernel_rfl)) (by kernel_rfl) (by kernel_rfl) (fun hS => C_warden_Warden_Pending N (T_warden_Warden.mk (T_config_State.mk x257.2.2.now.Pool x257.2.2.now.Nodes x257.2.2.now.Members x257.2.2.now.Maps x257.2.2.now.Modes) (T_config_State.mk x257.2.2.tail.Pool x257.2.2.tail.Nodes x257.2.2.tail.Members x257.2.2.tail.Maps x257.2.2.tail.Modes) x257.2.2.queue x257.2.2.done x257.2.2.epoch x257.2.2.step_ x257.2.2.wait x257.2.2.mark_ x257.2.2.ready x257.2.2.out) cs258 cs259 p260 c261 p262 c263 b18 rfl (hS.pick [6, 7, 8, 9, 10, 11, 12, 13, 14] (by kernel_rfl)) hx274) ?_
 rintro _ κ w a ⟨rfl, h2⟩ hF hB
 have hS := hB _ _ h2
 refine ⟨fun _ => (hS.sx [0, 3, 4, 5] [6, 7, 8, 9, 10, 11, 12, 13, 14, 15, 16, 17, 18, 19, 20, 21, 22, 23, 24, 25, 26, 27, 28, 29, 30, 31, 32, 33, 34, 35, 36, 37]), ?_⟩
 refine anp [10, 11, 12] [3, 9, 11, 12, 13, 17, 79] hF (hS.sx [0, 3, 4, 5] [6, 7, 8, 9, 10, 11, 12, 13, 14, 15, 16, 17, 18, 19, 20, 21, 22, 23, 24, 25, 26, 27, 28, 29, 30, 31, 32, 33, 34, 35, 36, 37]) fun a hF => ?_
 have hF := hF.boolv 79 (by kernel_rfl) hb275
 refine anp [13, 14, 15] [3, 9, 11, 12, 13, 82] hF (hS.sx [0, 3, 4, 5] [6, 7, 8, 9, 10, 11, 12, 13, 14, 15, 16, 17, 18, 19, 20, 21, 22, 23, 24, 25, 26, 27, 28, 29, 30, 31, 32, 33, 34, 35, 36, 37]) fun a hF => ?_
 refine and_ ?_
 cases hv267
 exact ⟨_, hF.kp [3, 9, 11, 12, 13, 82], hS.sp [0, 5, 1, 2, 6] [24, 25, 6, 7, 8, 9, 10, 11, 12, 13, 14, 35, 36, 37], trivial⟩
 rintro a w ⟨κ, hF, hS, -⟩
 refine hK265 _ _ ?_
 refine bif_split H (fun hb H => ?_) (fun hb H => ?_)
 refine cond_t hF (by kernel_rfl) hb ?_
 refine wpIn_seq_k fun K276 hK276 => ?_
 refine wpIn_region_lit ?_
 refine wp 1 [8] hF fun a hF => ?_
 refine wpListIn_nil ?_
 refine hK276 _ _ ?_
 refine wpIn_ret ?_
 cases H
 exact (ret_done hF hS (res1 Try.results18 (rvt hF)) ⟨rfl, (hS.pick [] (by kernel_rfl)).ro, hS.newC [] (by decide) (by kernel_rfl)⟩)
 refine cond_f hF (by kernel_rfl) hb ?_
 refine wpIn_skip ?_
 exact ⟨_, x257.2.2.now.Pool, x257.2.2.now.Nodes, x257.2.2.now.Members, x257.2.2.now.Maps, cs258, x257.2.2.now.Modes, x257.2.2.tail.Pool, x257.2.2.tail.Nodes, x257.2.2.tail.Members, x257.2.2.tail.Maps, cs259, x257.2.2.tail.Modes, x257.2.2.queue, p260, c261, x257.2.2.done, x257.2.2.epoch, x257.2.2.step_, x257.2.2.wait, x257.2.2.mark_, x257.2.2.ready, x257.2.2.out, p262, c263, y104, p105, c106, hF.kp [3, 9, 11, 12, 13], hS.sp [0, 1, 2, 3, 4] [0, 1, 2, 3, 4, 5, 6, 7, 8, 9, 10, 11, 12, 13], H⟩
 refine cond_f hF (by kernel_rfl) hb ?_
 refine wpIn_seq_k fun K277 hK277 => ?_
 refine wpIn_seq_k fun K278 hK278 => ?_
 refine wpIn_region_lit ?_
 refine wp 4 [3, 9, 11, 12, 13, 14, 86] hF fun a hF => ?_
 refine wpListIn_nil ?_
 refine hK278 _ _ ?_
 refine bif_split H (fun hb H => ?_) (fun hb H => ?_)
 refine cond_t hF (by kernel_rfl) hb ?_
 refine wpIn_seq_k fun K279 hK279 => ?_
 refine wpIn_region_lit ?_
 refine wp 1 [8] hF fun a hF => ?_
 refine wpListIn_nil ?_
 refine hK279 _ _ ?_
 refine wpIn_ret ?_
 cases H
 exact (ret_done hF hS (res1 Try.results18 (rvt hF)) ⟨rfl, (hS.pick [] (by kernel_rfl)).ro, hS.newC [] (by decide) (by kernel_rfl)⟩)
 refine cond_f hF (by kernel_rfl) hb ?_
 refine wpIn_skip ?_
 refine hK277 _ _ ?_
 refine wpIn_region_lit ?_
 refine wl_pure (L' := [(3, .slice p5 (a4).length c6), (9, pt b11 0), (11, pt b18 0), (13, .int .i64 (y107)), (87, .slice p105 (y104).length c106), (88, pt b121 1)]) 2 [3, 9, 11, 13, 87, 88] hF (by kernel_rfl) fun a hF => ?_
 refine wc (wls hF hS 4 1 6 fun a hF => ?_)
 refine wc (wo_buildN (t := f_api_Cmd) (z := .agg (flat [si 0, si 0, si 0, si 0, si 0, sg ByteArray.empty]).toArray) (l := [(T_api_Cmd.mk x114.Cmd.Kind x114.Cmd.DC x114.Cmd.Shard x114.Cmd.Node x114.Cmd.Mode x114.Cmd.Key)]) (vs := [(0, .agg (flat [si x114.Cmd.Kind, si x114.Cmd.DC, si x114.Cmd.Shard, si x114.Cmd.Node, si x114.Cmd.Mode, sg x114.Cmd.Key]).toArray)]) (cells := #[.int .i64 (x114.Cmd.Kind), .int .i64 (x114.Cmd.DC), .int .i64 (x114.Cmd.Shard), .int .i64 (x114.Cmd.Node), .int .i64 (x114.Cmd.Mode), .string (x114.Cmd.Key)]) (E := 72) hF hS (by kernel_rfl) rfl (by kernel_rfl) (by kernel_rfl) rfl (by kernel_rfl) (by kernel_rfl) (by kernel_rfl) (by kernel_rfl) (by kernel_rfl) fun p280 κ a w hF hS => ?_)
 refine bind_split H (fun x281 hx281 H => ?_)
 refine wc (wo_append (ty := f_api_Cmd.ty) hF hS (by kernel_rfl) 7 20 0 rfl rfl rfl (by kernel_rfl) (by kernel_rfl) rfl rfl rfl hx281 (by kernel_rfl) (i := Try.t72) (z := .agg (flat [si 0, si 0, si 0, si 0, si 0, sg ByteArray.empty]).toArray) (by kernel_rfl) (by kernel_rfl) (by kernel_rfl) fun p282 c283 κ a w hF hS => ?_)
 refine wp 1 [3, 9, 11, 12, 13] hF fun a hF => ?_
 refine wpListIn_nil ?_
 exact ⟨_, x257.2.2.now.Pool, x257.2.2.now.Nodes, x257.2.2.now.Members, x257.2.2.now.Maps, cs258, x257.2.2.now.Modes, x257.2.2.tail.Pool, x257.2.2.tail.Nodes, x257.2.2.tail.Members, x257.2.2.tail.Maps, cs259, x257.2.2.tail.Modes, x257.2.2.queue, p260, c261, x257.2.2.done, x257.2.2.epoch, x257.2.2.step_, x257.2.2.wait, x257.2.2.mark_, x257.2.2.ready, x257.2.2.out, p262, c263, x281, p282, c283, hF.kp [3, 9, 11, 12, 13], hS.sp [1, 6, 2, 3, 7] [20, 0, 2, 3, 4, 5, 6, 7, 8, 9, 10, 31, 32, 33], H⟩
 refine cond_f hF (by kernel_rfl) hb ?_
 refine wpIn_region_lit ?_
 refine wp 2 [3, 9, 11, 12, 13, 14, 92, 93] hF fun a hF => ?_
 refine wc (wld hF hS 0 7 0 fun a hF => ?_)
 refine wl_pure (L' := [(3, .slice p5 (a4).length c6), (9, pt b11 0), (11, pt b18 0), (12, .slice p105 (y104).length c106), (13, .int .i64 (y107)), (92, pt b18 0), (94, .int .i64 (x114.DC)), (95, pt b121 8)]) 1 [3, 9, 11, 12, 13, 92, 94, 95] hF (by kernel_rfl) fun a hF => ?_
 refine wc (wls hF hS 0 8 14 fun a hF => ?_)
 refine bind_split H (fun x284 hx284 H => ?_)
 refine wc (wo_callS (Cin := [.box b18 120 [si y80, si y81, (4, (encs fBool y82)), (8, cs84), (21, (encs (fInt .i64) y85)), si y86, si y87, (4, (encs fBool y88)), (8, cs90), (21, (encs (fInt .i64) y91)), (1, [.slice p93 (y92).length c94]), si y95, si y96, si y97, (4, (encs fBool y98)), (1, [.int .u64 (y99)]), sb y100, (1, [.slice p102 (y101).length c103])], .tok p93 72 6 (y92).length c94, .tok p102 106 15 (y101).length c103]) (Cr := [.box b121 98 [sb x114.Ask, si x114.Cmd.Kind, si x114.Cmd.DC, si x114.Cmd.Shard, si x114.Cmd.Node, si x114.Cmd.Mode, sg x114.Cmd.Key, si x114.DC, si x114.Msg.Kind, (1, [.int .u64 (x114.Msg.Id)]), (1, [.int .u64 (x114.Msg.N)]), (1, [.int .u64 (x114.Msg.TS)]), sg x114.Msg.Lo, sg x114.Msg.Hi, (1, [.slice p117 (x114.Msg.Vers).length c118]), (1, [.slice p119 (x114.Msg.Vec).length c120]), si x114.Msg.Cmd.Kind, si x114.Msg.Cmd.DC, si x114.Msg.Cmd.Shard, si x114.Msg.Cmd.Node, si x114.Msg.Cmd.Mode, sg x114.Msg.Cmd.Key], .box b11 30 [si x9.1.Pool, si x9.1.Nodes, (4, (encs fBool x9.1.Members)), (8, cs10), (21, (encs (fInt .i64) x9.1.Modes))], .tok p105 72 6 (y104).length c106]) (args := #[pt b18 0, .int .i64 (x114.DC), .agg (flat [si x114.Msg.Kind, (1, [.int .u64 (x114.Msg.Id)]), (1, [.int .u64 (x114.Msg.N)]), (1, [.int .u64 (x114.Msg.TS)]), sg x114.Msg.Lo, sg x114.Msg.Hi, (1, [.slice p117 (x114.Msg.Vers).length c118]), (1, [.slice p119 (x114.Msg.Vec).length c120]), si x114.Msg.Cmd.Kind, si x114.Msg.Cmd.DC, si x114.Msg.Cmd.Shard, si x114.Msg.Cmd.Node, si x114.Msg.Cmd.Mode, sg x114.Msg.Cmd.Key]).toArray]) (f := 68) hF (hS.selp [1, 3, 4, 0, 2, 5] (by decide) (by kernel_rfl)) (by kernel_rfl) (by kernel_rfl) (fun hS => C_warden_Warden_Take N (T_warden_Warden.mk (T_config_State.mk y80 y81 y82 y83 y85) (T_config_State.mk y86 y87 y88 y89 y91) y92 y95 y96 y97 y98 y99 y100 y101) x114.DC (T_api_Msg.mk x114.Msg.Kind x114.Msg.Id x114.Msg.N x114.Msg.TS x114.Msg.Lo x114.Msg.Hi x114.Msg.Vers x114.Msg.Vec (T_api_Cmd.mk x114.Msg.Cmd.Kind x114.Msg.Cmd.DC x114.Msg.Cmd.Shard x114.Msg.Cmd.Node x114.Msg.Cmd.Mode x114.Msg.Cmd.Key)) cs84 cs90 p93 c94 p102 c103 p117 c118 p119 c120 b18 rfl (hS.pick [5, 6, 7, 8, 9, 10, 11, 12, 13, 1, 2] (by kernel_rfl)) hx284) ?_)
 rintro _ κ w a ⟨cs285, cs286, p287, c288, p289, c290, rfl, h2⟩ hF hB
 have hS := hB _ _ h2
 refine wpListIn_nil ?_
 exact ⟨_, x284.now.Pool, x284.now.Nodes, x284.now.Members, x284.now.Maps, cs285, x284.now.Modes, x284.tail.Pool, x284.tail.Nodes, x284.tail.Members, x284.tail.Maps, cs286, x284.tail.Modes, x284.queue, p287, c288, x284.done, x284.epoch, x284.step_, x284.wait, x284.mark_, x284.ready, x284.out, p289, c290, y104, p105, c106, hF.kp [3, 9, 11, 12, 13], hS.sp [0, 4, 1, 2, 5] [12, 13, 0, 1, 2, 3, 4, 5, 6, 7, 8, 23, 24, 25], H⟩
 rintro a w ⟨κ, y122, y123, y124, y125, cs126, y127, y128, y129, y130, y131, cs132, y133, y134, p135, c136, y137, y138, y139, y140, y141, y142, y143, p144, c145, y146, p147, c148, hF, hS, H⟩
 unfold M.law19_WardenRuns_k2 at H
 refine wpIn_seq_k fun K149 hK149 => ?_
 refine wpIn_seq_k fun K150 hK150 => ?_
 refine wpIn_region_lit ?_
 refine bind_split H (fun v152 hv152 H => ?_)
 refine wl_join (fun a w => ∃ κ : Gh, Fr (147) [] [(3, .slice p5 (a4).length c6), (9, pt b11 0), (11, pt b18 0), (12, .slice p147 (y146).length c148), (13, .int .i64 (y107)), (110, .bool (v152))] a ∧ SS [] κ0 w0 κ w [.box b18 120 [si y122, si y123, (4, (encs fBool y124)), (8, cs126), (21, (encs (fInt .i64) y127)), si y128, si y129, (4, (encs fBool y130)), (8, cs132), (21, (encs (fInt .i64) y133)), (1, [.slice p135 (y134).length c136]), si y137, si y138, si y139, (4, (encs fBool y140)), (1, [.int .u64 (y141)]), sb y142, (1, [.slice p144 (y143).length c145])], .box b11 30 [si x9.1.Pool, si x9.1.Nodes, (4, (encs fBool x9.1.Members)), (8, cs10), (21, (encs (fInt .i64) x9.1.Modes))], .tok p135 72 6 (y134).length c136, .tok p144 106 15 (y143).length c145, .tok p147 72 6 (y146).length c148] [Ro.mp t_law19_Op p5 c6 a4, Ro.mp f_api_Cmd.ty p147 c148 y146, MP.const (List.length y124 = 4), Arr.mp t_api_Map cs126 4 y125, MP.const (List.length y127 = 21), MP.const (List.length y130 = 4), Arr.mp t_api_Map cs132 4 y131, MP.const (List.length y133 = 21), Ro.mp f_api_Cmd.ty p135 c136 y134, MP.const (List.length y140 = 4), Ro.mp t_api_Mail p144 c145 y143, MP.const (List.length x9.1.Members = 4), Arr.mp t_api_Map cs10 4 x9.1.Maps, MP.const (List.length x9.1.Modes = 21)] ∧ True) ?_ ?_
 refine wl_pure (L' := [(3, .slice p5 (a4).length c6), (9, pt b11 0), (11, pt b18 0), (12, .slice p147 (y146).length c148), (13, .int .i64 (y107)), (98, pt b18 0)]) 1 [3, 9, 11, 12, 13, 98] hF (by kernel_rfl) fun a hF => ?_
 refine bind_split hv152 (fun x153 hx153 hv152 => ?_)
 refine wc (wo_callS (Cin := [.box b18 120 [si y122, si y123, (4, (encs fBool y124)), (8, cs126), (21, (encs (fInt .i64) y127)), si y128, si y129, (4, (encs fBool y130)), (8, cs132), (21, (encs (fInt .i64) y133)), (1, [.slice p135 (y134).length c136]), si y137, si y138, si y139, (4, (encs fBool y140)), (1, [.int .u64 (y141)]), sb y142, (1, [.slice p144 (y143).length c145])]]) (Cr := [.box b11 30 [si x9.1.Pool, si x9.1.Nodes, (4, (encs fBool x9.1.Members)), (8, cs10), (21, (encs (fInt .i64) x9.1.Modes))], .tok p135 72 6 (y134).length c136, .tok p144 106 15 (y143).length c145, .tok p147 72 6 (y146).length c148]) (args := #[pt b18 0]) (f := 69) hF (hS.selp [0, 1, 2, 3, 4] (by decide) (by kernel_rfl)) (by kernel_rfl) (by kernel_rfl) (fun hS => C_warden_Warden_Acked N (T_warden_Warden.mk (T_config_State.mk y122 y123 y124 y125 y127) (T_config_State.mk y128 y129 y130 y131 y133) y134 y137 y138 y139 y140 y141 y142 y143) cs126 cs132 p135 c136 p144 c145 b18 rfl (hS.pick [2, 3, 4, 5, 6, 7, 8, 9, 10] (by kernel_rfl)) hx153) ?_)
 rintro _ κ w a ⟨rfl, h2⟩ hF hB
 have hS := hB _ _ h2
 refine wl_pure (L' := [(3, .slice p5 (a4).length c6), (9, pt b11 0), (11, pt b18 0), (12, .slice p147 (y146).length c148), (13, .int .i64 (y107)), (99, .int .i64 (x153)), (100, pt b18 0)]) 1 [3, 9, 11, 12, 13, 99, 100] hF (by kernel_rfl) fun a hF => ?_
 refine bind_split hv152 (fun x154 hx154 hv152 => ?_)
 refine wc (wo_callS (Cin := [.box b18 120 [si y122, si y123, (4, (encs fBool y124)), (8, cs126), (21, (encs (fInt .i64) y127)), si y128, si y129, (4, (encs fBool y130)), (8, cs132), (21, (encs (fInt .i64) y133)), (1, [.slice p135 (y134).length c136]), si y137, si y138, si y139, (4, (encs fBool y140)), (1, [.int .u64 (y141)]), sb y142, (1, [.slice p144 (y143).length c145])]]) (Cr := [.box b11 30 [si x9.1.Pool, si x9.1.Nodes, (4, (encs fBool x9.1.Members)), (8, cs10), (21, (encs (fInt .i64) x9.1.Modes))], .tok p135 72 6 (y134).length c136, .tok p144 106 15 (y143).length c145, .tok p147 72 6 (y146).length c148]) (args := #[pt b18 0]) (f := 66) hF (hS.selp [0, 1, 2, 3, 4] (by decide) (by kernel_rfl)) (by kernel_rfl) (by kernel_rfl) (fun hS => C_warden_Warden_Pending N (T_warden_Warden.mk (T_config_State.mk y122 y123 y124 y125 y127) (T_config_State.mk y128 y129 y130 y131 y133) y134 y137 y138 y139 y140 y141 y142 y143) cs126 cs132 p135 c136 p144 c145 b18 rfl (hS.pick [2, 3, 4, 5, 6, 7, 8, 9, 10] (by kernel_rfl)) hx154) ?_)
 rintro _ κ w a ⟨rfl, h2⟩ hF hB
 have hS := hB _ _ h2
 refine wp 5 [3, 9, 11, 12, 13, 106] hF fun a hF => ?_
 refine bif_split hv152 (fun hb hv152 => ?_) (fun hb hv152 => ?_)
 have hF := hF.boolv 106 (by kernel_rfl) hb
 refine wp 4 [3, 9, 11, 12, 13, 110] hF fun a hF => ?_
 refine wpListIn_nil ?_
 cases hv152
 exact ⟨_, hF.kp [3, 9, 11, 12, 13, 110], hS.sp [0, 1, 2, 3, 4] [0, 1, 2, 3, 4, 5, 6, 7, 8, 9, 10, 11, 12, 13], trivial⟩
 have hF := hF.boolv 106 (by kernel_rfl) hb
 refine wl_pure (L' := [(3, .slice p5 (a4).length c6), (9, pt b11 0), (11, pt b18 0), (12, .slice p147 (y146).length c148), (13, .int .i64 (y107)), (106, .bool (false)), (107, pt b18 0)]) 1 [3, 9, 11, 12, 13, 106, 107] hF (by kernel_rfl) fun a hF => ?_
 refine bind_split hv152 (fun x155 hx155 hv152 => ?_)
 refine wcg hF (wo_callS (Cin := [.box b18 120 [si y122, si y123, (4, (encs fBool y124)), (8, cs126), (21, (encs (fInt .i64) y127)), si y128, si y129, (4, (encs fBool y130)), (8, cs132), (21, (encs (fInt .i64) y133)), (1, [.slice p135 (y134).length c136]), si y137, si y138, si y139, (4, (encs fBool y140)), (1, [.int .u64 (y141)]), sb y142, (1, [.slice p144 (y143).length c145])]]) (Cr := [.box b11 30 [si x9.1.Pool, si x9.1.Nodes, (4, (encs fBool x9.1.Members)), (8, cs10), (21, (encs (fInt .i64) x9.1.Modes))], .tok p135 72 6 (y134).length c136, .tok p144 106 15 (y143).length c145, .tok p147 72 6 (y146).length c148]) (args := #[pt b18 0]) (f := 66) hF (hS.selp [0, 1, 2, 3, 4] (by decide) (by kernel_rfl)) (by kernel_rfl) (by kernel_rfl) (fun hS => C_warden_Warden_Pending N (T_warden_Warden.mk (T_config_State.mk y122 y123 y124 y125 y127) (T_config_State.mk y128 y129 y130 y131 y133) y134 y137 y138 y139 y140 y141 y142 y143) cs126 cs132 p135 c136 p144 c145 b18 rfl (hS.pick [2, 3, 4, 5, 6, 7, 8, 9, 10] (by kernel_rfl)) hx155) ?_)
 rintro _ κ w a ⟨rfl, h2⟩ hF hB
 have hS := hB _ _ h2
 refine wp 2 [3, 9, 11, 12, 13, 110] hF fun a hF => ?_
 refine wpListIn_nil ?_
 cases hv152
 exact ⟨_, hF.kp [3, 9, 11, 12, 13, 110], hS.sp [0, 1, 2, 3, 4] [0, 1, 2, 3, 4, 5, 6, 7, 8, 9, 10, 11, 12, 13], trivial⟩
 rintro a w ⟨κ, hF, hS, -⟩
 refine hK150 _ _ ?_
 refine bif_split H (fun hb H => ?_) (fun hb H => ?_)
 refine cond_t hF (by kernel_rfl) hb ?_
 refine wpIn_seq_k fun K156 hK156 => ?_
 refine wpIn_region_lit ?_
 refine wp 1 [8] hF fun a hF => ?_
 refine wpListIn_nil ?_
 refine hK156 _ _ ?_
 refine wpIn_ret ?_
 cases H
 exact (ret_done hF hS (res1 Try.results18 (rvt hF)) ⟨rfl, (hS.pick [] (by kernel_rfl)).ro, hS.newC [] (by decide) (by kernel_rfl)⟩)
 refine cond_f hF (by kernel_rfl) hb ?_
 refine wpIn_skip ?_
 refine hK149 _ _ ?_
 refine wpIn_seq_k fun K157 hK157 => ?_
 refine wpIn_region_lit ?_
 refine wc (wls hF hS 1 0 5 fun a hF => ?_)
 refine bind_split H (fun x158 hx158 H => ?_)
 refine wc (wo_callP hF hS (by kernel_rfl) (by kernel_rfl) (C_law18_Told N hS.fresh (T_config_State.mk x9.1.Pool x9.1.Nodes x9.1.Members x9.1.Maps x9.1.Modes) cs10 ((hS.pick [11, 12, 13] (by kernel_rfl)).ro) hx158) ?_)
 rintro _ κ w a ⟨cs159, rfl, hR, hN⟩ hF hS hO
 have hS := hS.adds hR
 have hS := hS.add (m := MP.const (List.length (List.replicate 4 false) = 4)) (List.length_replicate)
 have hS := hS.add (m := Arr.mp t_api_Map ((List.replicate 4 (flat [(1, [.slice none 0 0]), (1, [.slice none 0 0])])).flatten) 4 (List.replicate 4 (T_api_Map.mk ([] : List ByteArray) ([] : List Int)))) (Arr.zero _ _ _ _ _ z_api_Map)
 have hS := hS.add (m := MP.const (List.length (List.replicate 21 0) = 21)) (List.length_replicate)
 refine wc (wal hF hS [si 0, si 0, (4, (encs fBool (List.replicate 4 false))), (8, (List.replicate 4 (flat [(1, [.slice none 0 0]), (1, [.slice none 0 0])])).flatten), (21, (encs (fInt .i64) (List.replicate 21 0)))] (sgN 2 (sgEnc List.length_replicate (sgArr (hS.get 1 rfl) (sgEnc List.length_replicate sgNil)))) fun b160 a w hF hS => ?_)
 refine wc (wst hF hS 0 0 5 [si x158.Pool, si x158.Nodes, (4, (encs fBool x158.Members)), (8, cs159), (21, (encs (fInt .i64) x158.Modes))] (sgN 2 (sgEnc (hS.get 3 rfl) (sgArr (hS.get 4 rfl) (sgEnc (hS.get 5 rfl) sgNil)))) fun a w hF hS => ?_)
 refine wpListIn_nil ?_
 refine hK157 _ _ ?_
 refine wpIn_seq_k fun K161 hK161 => ?_
 refine wpIn_seq_k fun K162 hK162 => ?_
 refine wpIn_region_lit ?_
 refine wp 3 [3, 9, 11, 12, 13, 19, 113, 114, 115] hF fun a hF => ?_
 refine wpListIn_nil ?_
 refine hK162 _ _ ?_
 refine wpIn_block ?_
 refine loop_fuel (n := N) (fun n a w => ∃ κ : Gh, ∃ y213 : Int, ∃ y214 : Int, ∃ y215 : (List Bool), ∃ y216 : (List T_api_Map), ∃ cs217 : List Value, ∃ y218 : (List Int), ∃ y219 : Int, Fr (147) [] [(3, .slice p5 (a4).length c6), (9, pt b11 0), (11, pt b18 0), (12, .slice p147 (y146).length c148), (13, .int .i64 (y107)), (19, pt b160 0), (113, .slice p147 (y146).length c148), (114, .int .i64 (((y146).length : Int))), (115, .int .i64 (y219))] a ∧ SS [] κ0 w0 κ w [.box b160 34 [si y213, si y214, (4, (encs fBool y215)), (8, cs217), (21, (encs (fInt .i64) y218))], .box b18 120 [si y122, si y123, (4, (encs fBool y124)), (8, cs126), (21, (encs (fInt .i64) y127)), si y128, si y129, (4, (encs fBool y130)), (8, cs132), (21, (encs (fInt .i64) y133)), (1, [.slice p135 (y134).length c136]), si y137, si y138, si y139, (4, (encs fBool y140)), (1, [.int .u64 (y141)]), sb y142, (1, [.slice p144 (y143).length c145])], .box b11 30 [si x9.1.Pool, si x9.1.Nodes, (4, (encs fBool x9.1.Members)), (8, cs10), (21, (encs (fInt .i64) x9.1.Modes))], .tok p135 72 6 (y134).length c136, .tok p144 106 15 (y143).length c145, .tok p147 72 6 (y146).length c148] [Ro.mp t_law19_Op p5 c6 a4, Ro.mp f_api_Cmd.ty p147 c148 y146, MP.const (List.length y215 = 4), Arr.mp t_api_Map cs217 4 y216, MP.const (List.length y218 = 21), MP.const (List.length y124 = 4), Arr.mp t_api_Map cs126 4 y125, MP.const (List.length y127 = 21), MP.const (List.length y130 = 4), Arr.mp t_api_Map cs132 4 y131, MP.const (List.length y133 = 21), Ro.mp f_api_Cmd.ty p135 c136 y134, MP.const (List.length y140 = 4), Ro.mp t_api_Mail p144 c145 y143, MP.const (List.length x9.1.Members = 4), Arr.mp t_api_Map cs10 4 x9.1.Maps, MP.const (List.length x9.1.Modes = 21)] ∧ M.law19_WardenRuns_L3 N (M.law19_WardenRuns_L1 N fuel1) n a4 x9 y107 y122 y123 y124 y125 y127 y128 y129 y130 y131 y133 y134 y137 y138 y139 y140 y141 y142 y143 y146 y213 y214 y215 y216 y218 y219 = some r) ?_ ?_
 exact ⟨_, x158.Pool, x158.Nodes, x158.Members, x158.Maps, cs159, x158.Modes, 0, hF.kp [3, 9, 11, 12, 13, 19, 113, 114, 115], hS.sp [0, 1, 2, 3, 4, 5] [6, 7, 3, 4, 5, 8, 9, 10, 11, 12, 13, 14, 15, 16, 17, 18, 19], H⟩
 rintro n a w ⟨κ, y213, y214, y215, y216, cs217, y218, y219, hF, hS, H⟩
 rcases n with _ | fuel3
 simp [M.law19_WardenRuns_L3] at H
 simp only [M.law19_WardenRuns_L3] at H
 refine wpIn_seq_k fun K220 hK220 => ?_
 refine wpIn_region_lit ?_
 refine wp 1 [3, 9, 11, 12, 13, 19, 113, 114, 115, 116] hF fun a hF => ?_
 refine wpListIn_nil ?_
 refine hK220 _ _ ?_
 refine wpIn_seq_k fun K221 hK221 => ?_
 refine bif_split H (fun hb H => ?_) (fun hb H => ?_)
 refine cond_t hF (by kernel_rfl) hb ?_
 refine wpIn_skip ?_
 refine hK221 _ _ ?_
 refine wpIn_seq_k fun K222 hK222 => ?_
 refine wpIn_block ?_
 refine wpIn_seq_k fun K223 hK223 => ?_
 refine wpIn_region_lit ?_
 refine wl_pure (L' := [(3, .slice p5 (a4).length c6), (9, pt b11 0), (11, pt b18 0), (12, .slice p147 (y146).length c148), (13, .int .i64 (y107)), (19, pt b160 0), (113, .slice p147 (y146).length c148), (114, .int .i64 (((y146).length : Int))), (115, .int .i64 (y219)), (117, .int .i64 (y219))]) 1 [3, 9, 11, 12, 13, 19, 113, 114, 115, 117] hF (by kernel_rfl) fun a hF => ?_
 refine bind_split H (fun x224 hx224 H => ?_)
 refine wc (wo_index hF hS (by kernel_rfl) 1 (E := 72) (sz := 6) rfl rfl rfl (by kernel_rfl) rfl hx224 (by kernel_rfl) (by kernel_rfl) fun b225 f226 a hpx224 hF => ?_)
 refine wc (wo_loadRoAgg (t := f_api_Cmd) hF hS (by kernel_rfl) 1 rfl rfl hpx224 rfl hx224 (by kernel_rfl) (by kernel_rfl) (by kernel_rfl) fun a hF => ?_)
 refine wc (wal hF hS [si 0, si 0, si 0, si 0, si 0, sg ByteArray.empty] (sgN 6 sgNil) fun b227 a w hF hS => ?_)
 refine wp 1 [3, 9, 11, 12, 13, 19, 20, 21, 113, 114, 115, 119] hF fun a hF => ?_
 refine wc (wst hF hS 0 0 6 [si x224.Kind, si x224.DC, si x224.Shard, si x224.Node, si x224.Mode, sg x224.Key] (sgN 6 sgNil) fun a w hF hS => ?_)
 refine wpListIn_nil ?_
 refine hK223 _ _ ?_
 refine wpIn_seq_k fun K228 hK228 => ?_
 refine wpIn_seq_k fun K229 hK229 => ?_
 refine bind_split H (fun v231 hv231 H => ?_)
 refine code_join (fun a w => ∃ κ : Gh, Fr (147) [] [(3, .slice p5 (a4).length c6), (9, pt b11 0), (11, pt b18 0), (12, .slice p147 (y146).length c148), (13, .int .i64 (y107)), (19, pt b160 0), (21, pt b227 0), (113, .slice p147 (y146).length c148), (114, .int .i64 (((y146).length : Int))), (115, .int .i64 (y219)), (130, .bool (v231))] a ∧ SS [] κ0 w0 κ w [.box b18 120 [si y122, si y123, (4, (encs fBool y124)), (8, cs126), (21, (encs (fInt .i64) y127)), si y128, si y129, (4, (encs fBool y130)), (8, cs132), (21, (encs (fInt .i64) y133)), (1, [.slice p135 (y134).length c136]), si y137, si y138, si y139, (4, (encs fBool y140)), (1, [.int .u64 (y141)]), sb y142, (1, [.slice p144 (y143).length c145])], .box b227 72 [si x224.Kind, si x224.DC, si x224.Shard, si x224.Node, si x224.Mode, sg x224.Key], .box b160 34 [si y213, si y214, (4, (encs fBool y215)), (8, cs217), (21, (encs (fInt .i64) y218))], .box b11 30 [si x9.1.Pool, si x9.1.Nodes, (4, (encs fBool x9.1.Members)), (8, cs10), (21, (encs (fInt .i64) x9.1.Modes))], .tok p135 72 6 (y134).length c136, .tok p144 106 15 (y143).length c145, .tok p147 72 6 (y146).length c148] [Ro.mp t_law19_Op p5 c6 a4, Ro.mp f_api_Cmd.ty p147 c148 y146, MP.const (List.length y124 = 4), Arr.mp t_api_Map cs126 4 y125, MP.const (List.length y127 = 21), MP.const (List.length y130 = 4), Arr.mp t_api_Map cs132 4 y131, MP.const (List.length y133 = 21), Ro.mp f_api_Cmd.ty p135 c136 y134, MP.const (List.length y140 = 4), Ro.mp t_api_Mail p144 c145 y143, MP.const (List.length y215 = 4), Arr.mp t_api_Map cs217 4 y216, MP.const (List.length y218 = 21), MP.const (List.length x9.1.Members = 4), Arr.mp t_api_Map cs10 4 x9.1.Maps, MP.const (List.length x9.1.Modes = 21)] ∧ True) ?_ ?_
 refine rga (SSx [] κ0 w0 [.box b227 72 [si x224.Kind, si x224.DC, si x224.Shard, si x224.Node, si x224.Mode, sg x224.Key], .box b160 34 [si y213, si y214, (4, (encs fBool y215)), (8, cs217), (21, (encs (fInt .i64) y218))], .box b18 120 [si y122, si y123, (4, (encs fBool y124)), (8, cs126), (21, (encs (fInt .i64) y127)), si y128, si y129, (4, (encs fBool y130)), (8, cs132), (21, (encs (fInt .i64) y133)), (1, [.slice p135 (y134).length c136]), si y137, si y138, si y139, (4, (encs fBool y140)), (1, [.int .u64 (y141)]), sb y142, (1, [.slice p144 (y143).length c145])], .box b11 30 [si x9.1.Pool, si x9.1.Nodes, (4, (encs fBool x9.1.Members)), (8, cs10), (21, (encs (fInt .i64) x9.1.Modes))]] [Ro.mp t_law19_Op p5 c6 a4, Ro.mp f_api_Cmd.ty p147 c148 y146, MP.const (List.length y215 = 4), Arr.mp t_api_Map cs217 4 y216, MP.const (List.length y218 = 21), MP.const (List.length y124 = 4), Arr.mp t_api_Map cs126 4 y125, MP.const (List.length y127 = 21), MP.const (List.length y130 = 4), Arr.mp t_api_Map cs132 4 y131, MP.const (List.length y133 = 21), Ro.mp f_api_Cmd.ty p135 c136 y134, MP.const (List.length y140 = 4), Ro.mp t_api_Mail p144 c145 y143, MP.const (List.length x9.1.Members = 4), Arr.mp t_api_Map cs10 4 x9.1.Maps, MP.const (List.length x9.1.Modes = 21)]) [] ?_
 have hS := hS.drew
 refine bind_split hv231 (fun x232 hx232 hv231 => ?_)
 refine bif_split hv231 (fun hb233 hv231 => ?_) (fun hb233 hv231 => ?_)
 refine bind_split hv231 (fun x234 hx234 hv231 => ?_)
 refine bind_split hv231 (fun x236 hx236 hv231 => ?_)
 refine any_pure [0, 1] [3, 9, 11, 12, 13, 19, 21, 113, 114, 115, 120, 121] (L' := [(3, .slice p5 (a4).length c6), (9, pt b11 0), (11, pt b18 0), (12, .slice p147 (y146).length c148), (13, .int .i64 (y107)), (19, pt b160 0), (21, pt b227 0), (113, .slice p147 (y146).length c148), (114, .int .i64 (((y146).length : Int))), (115, .int .i64 (y219)), (120, .int .i64 (y219)), (121, pt b18 0)]) (listed' := #[true, true, false, false, false, false, false, false, false, false, false]) (fuel := 9) hF (hS.sx [0, 1, 2, 3] [0, 1, 2, 3, 4, 5, 6, 7, 8, 9, 10, 11, 12, 13, 14, 15, 16]) (by kernel_rfl) (by intro c a w t v h; cases t <;> exact h) (by kernel_rfl) rfl fun a hF => ?_
 refine ago 2 hF rfl ?_
 refine wo_callS (Cin := [.box b18 120 [si y122, si y123, (4, (encs fBool y124)), (8, cs126), (21, (encs (fInt .i64) y127)), si y128, si y129, (4, (encs fBool y130)), (8, cs132), (21, (encs (fInt .i64) y133)), (1, [.slice p135 (y134).length c136]), si y137, si y138, si y139, (4, (encs fBool y140)), (1, [.int .u64 (y141)]), sb y142, (1, [.slice p144 (y143).length c145])]]) (Cr := [.box b227 72 [si x224.Kind, si x224.DC, si x224.Shard, si x224.Node, si x224.Mode, sg x224.Key], .box b160 34 [si y213, si y214, (4, (encs fBool y215)), (8, cs217), (21, (encs (fInt .i64) y218))], .box b11 30 [si x9.1.Pool, si x9.1.Nodes, (4, (encs fBool x9.1.Members)), (8, cs10), (21, (encs (fInt .i64) x9.1.Modes))], .tok p135 72 6 (y134).length c136, .tok p144 106 15 (y143).length c145, .tok p147 72 6 (y146).length c148]) (args := #[pt b18 0]) (f := 69) hF (hS.selp [2, 0, 1, 3, 4, 5, 6] (by decide) (by kernel_rfl)) (by kernel_rfl) (by kernel_rfl) (fun hS => C_warden_Warden_Acked N (T_warden_Warden.mk (T_config_State.mk y122 y123 y124 y125 y127) (T_config_State.mk y128 y129 y130 y131 y133) y134 y137 y138 y139 y140 y141 y142 y143) cs126 cs132 p135 c136 p144 c145 b18 rfl (hS.pick [5, 6, 7, 8, 9, 10, 11, 12, 13] (by kernel_rfl)) hx232) ?_
 rintro _ κ w a ⟨rfl, h2⟩ hF hB
 have hS := hB _ _ h2
 refine ⟨fun _ => (hS.sx [1, 2, 0, 3] [0, 1, 2, 3, 4, 5, 6, 7, 8, 9, 10, 11, 12, 13, 14, 15, 16]), ?_⟩
 refine anp [3, 4] [3, 9, 11, 12, 13, 19, 21, 113, 114, 115, 124] hF (hS.sx [1, 2, 0, 3] [0, 1, 2, 3, 4, 5, 6, 7, 8, 9, 10, 11, 12, 13, 14, 15, 16]) fun a hF => ?_
 have hF := hF.boolv 124 (by kernel_rfl) hb233
 refine any_pure [5] [3, 9, 11, 12, 13, 19, 21, 113, 114, 115, 124, 125] (L' := [(3, .slice p5 (a4).length c6), (9, pt b11 0), (11, pt b18 0), (12, .slice p147 (y146).length c148), (13, .int .i64 (y107)), (19, pt b160 0), (21, pt b227 0), (113, .slice p147 (y146).length c148), (114, .int .i64 (((y146).length : Int))), (115, .int .i64 (y219)), (124, .bool (true)), (125, pt b18 0)]) (listed' := #[true, true, true, true, true, true, false, false, false, false, false]) (fuel := 5) hF (hS.sx [1, 2, 0, 3] [0, 1, 2, 3, 4, 5, 6, 7, 8, 9, 10, 11, 12, 13, 14, 15, 16]) (by kernel_rfl) (by intro c a w t v h; cases t <;> exact h) (by kernel_rfl) rfl fun a hF => ?_
 refine atk 7 (some 127) hF (hS.sx [1, 2, 0, 3] [0, 1, 2, 3, 4, 5, 6, 7, 8, 9, 10, 11, 12, 13, 14, 15, 16]) rfl (vls 1 0 5) fun a hF => ?_
 refine ago 6 hF rfl ?_
 refine wo_callS (Cin := [.box b18 120 [si y122, si y123, (4, (encs fBool y124)), (8, cs126), (21, (encs (fInt .i64) y127)), si y128, si y129, (4, (encs fBool y130)), (8, cs132), (21, (encs (fInt .i64) y133)), (1, [.slice p135 (y134).length c136]), si y137, si y138, si y139, (4, (encs fBool y140)), (1, [.int .u64 (y141)]), sb y142, (1, [.slice p144 (y143).length c145])]]) (Cr := [.box b227 72 [si x224.Kind, si x224.DC, si x224.Shard, si x224.Node, si x224.Mode, sg x224.Key], .box b160 34 [si y213, si y214, (4, (encs fBool y215)), (8, cs217), (21, (encs (fInt .i64) y218))], .box b11 30 [si x9.1.Pool, si x9.1.Nodes, (4, (encs fBool x9.1.Members)), (8, cs10), (21, (encs (fInt .i64) x9.1.Modes))], .tok p135 72 6 (y134).length c136, .tok p144 106 15 (y143).length c145, .tok p147 72 6 (y146).length c148]) (args := #[pt b18 0]) (f := 71) hF (hS.selp [0, 1, 2, 3, 4, 5, 6] (by decide) (by kernel_rfl)) (by kernel_rfl) (by kernel_rfl) (fun hS => C_warden_Warden_Now N (T_warden_Warden.mk (T_config_State.mk y122 y123 y124 y125 y127) (T_config_State.mk y128 y129 y130 y131 y133) y134 y137 y138 y139 y140 y141 y142 y143) cs126 cs132 p135 c136 p144 c145 b18 rfl (hS.pick [5, 6, 7, 8, 9, 10, 11, 12, 13] (by kernel_rfl)) hx234) ?_
 rintro _ κ w a ⟨cs235, rfl, h2⟩ hF hB
 have hS := hB _ _ h2
 refine ⟨fun _ => (hS.sx [1, 2, 0, 3] [3, 4, 5, 6, 7, 8, 9, 10, 11, 12, 13, 14, 15, 16, 17, 18, 19]), ?_⟩
 refine ago 8 hF rfl ?_
 refine wo_callP hF hS (by kernel_rfl) (by kernel_rfl) (C_law18_Same N hS.fresh (T_config_State.mk x234.Pool x234.Nodes x234.Members x234.Maps x234.Modes) (T_ref18_State.mk y213 y214 y215 y216 y218) cs235 cs217 ((hS.pick [0, 1, 2, 5, 6, 7] (by kernel_rfl)).ro) hx236) ?_
 rintro _ κ w a ⟨rfl, hR, hN⟩ hF hS hO
 refine ⟨fun _ => (hS.sx [1, 2, 0, 3] [3, 4, 5, 6, 7, 8, 9, 10, 11, 12, 13, 14, 15, 16, 17, 18, 19]), ?_⟩
 refine anp [9, 10] [3, 9, 11, 12, 13, 19, 21, 113, 114, 115, 130] hF (hS.sx [1, 2, 0, 3] [3, 4, 5, 6, 7, 8, 9, 10, 11, 12, 13, 14, 15, 16, 17, 18, 19]) fun a hF => ?_
 refine and_ ?_
 cases hv231
 exact ⟨_, hF.kp [3, 9, 11, 12, 13, 19, 21, 113, 114, 115, 130], hS.sp [0, 1, 2, 3, 4, 5, 6] [3, 4, 8, 9, 10, 11, 12, 13, 14, 15, 16, 5, 6, 7, 17, 18, 19], trivial⟩
 refine any_pure [0, 1] [3, 9, 11, 12, 13, 19, 21, 113, 114, 115, 120, 121] (L' := [(3, .slice p5 (a4).length c6), (9, pt b11 0), (11, pt b18 0), (12, .slice p147 (y146).length c148), (13, .int .i64 (y107)), (19, pt b160 0), (21, pt b227 0), (113, .slice p147 (y146).length c148), (114, .int .i64 (((y146).length : Int))), (115, .int .i64 (y219)), (120, .int .i64 (y219)), (121, pt b18 0)]) (listed' := #[true, true, false, false, false, false, false, false, false, false, false]) (fuel := 9) hF (hS.sx [0, 1, 2, 3] [0, 1, 2, 3, 4, 5, 6, 7, 8, 9, 10, 11, 12, 13, 14, 15, 16]) (by kernel_rfl) (by intro c a w t v h; cases t <;> exact h) (by kernel_rfl) rfl fun a hF => ?_
 refine ago 2 hF rfl ?_
 refine wo_callS (Cin := [.box b18 120 [si y122, si y123, (4, (encs fBool y124)), (8, cs126), (21, (encs (fInt .i64) y127)), si y128, si y129, (4, (encs fBool y130)), (8, cs132), (21, (encs (fInt .i64) y133)), (1, [.slice p135 (y134).length c136]), si y137, si y138, si y139, (4, (encs fBool y140)), (1, [.int .u64 (y141)]), sb y142, (1, [.slice p144 (y143).length c145])]]) (Cr := [.box b227 72 [si x224.Kind, si x224.DC, si x224.Shard, si x224.Node, si x224.Mode, sg x224.Key], .box b160 34 [si y213, si y214, (4, (encs fBool y215)), (8, cs217), (21, (encs (fInt .i64) y218))], .box b11 30 [si x9.1.Pool, si x9.1.Nodes, (4, (encs fBool x9.1.Members)), (8, cs10), (21, (encs (fInt .i64) x9.1.Modes))], .tok p135 72 6 (y134).length c136, .tok p144 106 15 (y143).length c145, .tok p147 72 6 (y146).length c148]) (args := #[pt b18 0]) (f := 69) hF (hS.selp [2, 0, 1, 3, 4, 5, 6] (by decide) (by kernel_rfl)) (by kernel_rfl) (by kernel_rfl) (fun hS => C_warden_Warden_Acked N (T_warden_Warden.mk (T_config_State.mk y122 y123 y124 y125 y127) (T_config_State.mk y128 y129 y130 y131 y133) y134 y137 y138 y139 y140 y141 y142 y143) cs126 cs132 p135 c136 p144 c145 b18 rfl (hS.pick [5, 6, 7, 8, 9, 10, 11, 12, 13] (by kernel_rfl)) hx232) ?_
 rintro _ κ w a ⟨rfl, h2⟩ hF hB
 have hS := hB _ _ h2
 refine ⟨fun _ => (hS.sx [1, 2, 0, 3] [0, 1, 2, 3, 4, 5, 6, 7, 8, 9, 10, 11, 12, 13, 14, 15, 16]), ?_⟩
 refine anp [3, 4] [3, 9, 11, 12, 13, 19, 21, 113, 114, 115, 124] hF (hS.sx [1, 2, 0, 3] [0, 1, 2, 3, 4, 5, 6, 7, 8, 9, 10, 11, 12, 13, 14, 15, 16]) fun a hF => ?_
 have hF := hF.boolv 124 (by kernel_rfl) hb233
 refine anp [5, 6, 7, 8, 9, 10] [3, 9, 11, 12, 13, 19, 21, 113, 114, 115, 130] hF (hS.sx [1, 2, 0, 3] [0, 1, 2, 3, 4, 5, 6, 7, 8, 9, 10, 11, 12, 13, 14, 15, 16]) fun a hF => ?_
 refine and_ ?_
 cases hv231
 exact ⟨_, hF.kp [3, 9, 11, 12, 13, 19, 21, 113, 114, 115, 130], hS.sp [0, 1, 2, 3, 4, 5, 6] [0, 1, 5, 6, 7, 8, 9, 10, 11, 12, 13, 2, 3, 4, 14, 15, 16], trivial⟩
 rintro a w ⟨κ, hF, hS, -⟩
 refine hK229 _ _ ?_
 refine bif_split H (fun hb H => ?_) (fun hb H => ?_)
 refine cond_t hF (by kernel_rfl) hb ?_
 refine wpIn_seq_k fun K237 hK237 => ?_
 refine wpIn_region_lit ?_
 refine wp 1 [8] hF fun a hF => ?_
 refine wpListIn_nil ?_
 refine hK237 _ _ ?_
 refine wpIn_ret ?_
 cases H
 exact (ret_done hF hS (res1 Try.results18 (rvt hF)) ⟨rfl, (hS.pick [] (by kernel_rfl)).ro, hS.newC [] (by decide) (by kernel_rfl)⟩)
 refine cond_f hF (by kernel_rfl) hb ?_
 refine wpIn_skip ?_
 refine hK228 _ _ ?_
 refine wpIn_seq_k fun K238 hK238 => ?_
 refine wpIn_region_lit ?_
 refine wc (wls hF hS 2 0 5 fun a hF => ?_)
 refine wc (wls hF hS 1 0 6 fun a hF => ?_)
 refine bind_split H (fun x239 hx239 H => ?_)
 refine wc (wo_callP hF hS (by kernel_rfl) (by kernel_rfl) (C_ref18_Apply N hS.fresh (T_ref18_State.mk y213 y214 y215 y216 y218) (T_api_Cmd.mk x224.Kind x224.DC x224.Shard x224.Node x224.Mode x224.Key) cs217 ((hS.pick [11, 12, 13] (by kernel_rfl)).ro) hx239) ?_)
 rintro _ κ w a ⟨cs240, rfl, hR, hN⟩ hF hS hO
 have hS := hS.adds hR
 refine wp 3 [3, 9, 11, 12, 13, 19, 113, 114, 115, 135, 136] hF fun a hF => ?_
 have hS := hS.add (m := MP.const (List.length (List.replicate 4 false) = 4)) (List.length_replicate)
 have hS := hS.add (m := Arr.mp t_api_Map ((List.replicate 4 (flat [(1, [.slice none 0 0]), (1, [.slice none 0 0])])).flatten) 4 (List.replicate 4 (T_api_Map.mk ([] : List ByteArray) ([] : List Int)))) (Arr.zero _ _ _ _ _ z_api_Map)
 have hS := hS.add (m := MP.const (List.length (List.replicate 21 0) = 21)) (List.length_replicate)
 refine wc (wal hF hS [si 0, si 0, (4, (encs fBool (List.replicate 4 false))), (8, (List.replicate 4 (flat [(1, [.slice none 0 0]), (1, [.slice none 0 0])])).flatten), (21, (encs (fInt .i64) (List.replicate 21 0)))] (sgN 2 (sgEnc List.length_replicate (sgArr (hS.get 1 rfl) (sgEnc List.length_replicate sgNil)))) fun b241 a w hF hS => ?_)
 refine wc (wst hF hS 0 0 5 [si x239.1.Pool, si x239.1.Nodes, (4, (encs fBool x239.1.Members)), (8, cs240), (21, (encs (fInt .i64) x239.1.Modes))] (sgN 2 (sgEnc (hS.get 3 rfl) (sgArr (hS.get 4 rfl) (sgEnc (hS.get 5 rfl) sgNil)))) fun a w hF hS => ?_)
 refine wp 1 [3, 9, 11, 12, 13, 19, 22, 23, 113, 114, 115] hF fun a hF => ?_
 refine wpListIn_nil ?_
 refine hK238 _ _ ?_
 refine wpIn_seq_k fun K242 hK242 => ?_
 refine wpIn_seq_k fun K243 hK243 => ?_
 refine wpIn_region_lit ?_
 refine wp 2 [3, 9, 11, 12, 13, 19, 22, 113, 114, 115, 138] hF fun a hF => ?_
 refine wpListIn_nil ?_
 refine hK243 _ _ ?_
 refine bif_split H (fun hb H => ?_) (fun hb H => ?_)
 refine cond_t hF (by kernel_rfl) hb ?_
 refine wpIn_seq_k fun K244 hK244 => ?_
 refine wpIn_region_lit ?_
 refine wp 1 [8] hF fun a hF => ?_
 refine wpListIn_nil ?_
 refine hK244 _ _ ?_
 refine wpIn_ret ?_
 cases H
 exact (ret_done hF hS (res1 Try.results18 (rvt hF)) ⟨rfl, (hS.pick [] (by kernel_rfl)).ro, hS.newC [] (by decide) (by kernel_rfl)⟩)
 refine cond_f hF (by kernel_rfl) hb ?_
 refine wpIn_skip ?_
 refine hK242 _ _ ?_
 refine wpIn_region_lit ?_
 refine wc (wls hF hS 0 0 5 fun a hF => ?_)
 refine wc (wst hF hS 3 0 5 [si x239.1.Pool, si x239.1.Nodes, (4, (encs fBool x239.1.Members)), (8, cs240), (21, (encs (fInt .i64) x239.1.Modes))] (sgN 2 (sgEnc (hS.get 3 rfl) (sgArr (hS.get 4 rfl) (sgEnc (hS.get 5 rfl) sgNil)))) fun a w hF hS => ?_)
 refine wpListIn_nil ?_
 refine hK222 _ _ ?_
 refine wpIn_region_lit ?_
 refine wp 2 [3, 9, 11, 12, 13, 19, 113, 114, 115] hF fun a hF => ?_
 refine wpListIn_nil ?_
 exact ⟨fuel3, Nat.lt_succ_self _, _, x239.1.Pool, x239.1.Nodes, x239.1.Members, x239.1.Maps, cs240, x239.1.Modes, IntKind.i64.wrap (y219 + 1), hF.kp [3, 9, 11, 12, 13, 19, 113, 114, 115], hS.sp [3, 1, 4, 5, 6, 7] [6, 7, 3, 4, 5, 8, 9, 10, 11, 12, 13, 14, 15, 16, 20, 21, 22], H⟩
 refine cond_f hF (by kernel_rfl) hb ?_
 refine wpIn_exit ?_
 refine hK161 _ _ ?_
 refine wpIn_seq_k fun K245 hK245 => ?_
 refine rga (SSx [] κ0 w0 [.box b160 34 [si y213, si y214, (4, (encs fBool y215)), (8, cs217), (21, (encs (fInt .i64) y218))], .box b18 120 [si y122, si y123, (4, (encs fBool y124)), (8, cs126), (21, (encs (fInt .i64) y127)), si y128, si y129, (4, (encs fBool y130)), (8, cs132), (21, (encs (fInt .i64) y133)), (1, [.slice p135 (y134).length c136]), si y137, si y138, si y139, (4, (encs fBool y140)), (1, [.int .u64 (y141)]), sb y142, (1, [.slice p144 (y143).length c145])], .box b11 30 [si x9.1.Pool, si x9.1.Nodes, (4, (encs fBool x9.1.Members)), (8, cs10), (21, (encs (fInt .i64) x9.1.Modes))]] [Ro.mp t_law19_Op p5 c6 a4, Ro.mp f_api_Cmd.ty p147 c148 y146, MP.const (List.length y215 = 4), Arr.mp t_api_Map cs217 4 y216, MP.const (List.length y218 = 21), MP.const (List.length y124 = 4), Arr.mp t_api_Map cs126 4 y125, MP.const (List.length y127 = 21), MP.const (List.length y130 = 4), Arr.mp t_api_Map cs132 4 y131, MP.const (List.length y133 = 21), Ro.mp f_api_Cmd.ty p135 c136 y134, MP.const (List.length y140 = 4), Ro.mp t_api_Mail p144 c145 y143, MP.const (List.length x9.1.Members = 4), Arr.mp t_api_Map cs10 4 x9.1.Maps, MP.const (List.length x9.1.Modes = 21)]) [] ?_
 have hS := hS.drew
 refine bind_split H (fun x246 hx246 H => ?_)
 refine bind_split H (fun x248 hx248 H => ?_)
 refine any_pure [0] [3, 9, 11, 12, 13, 19, 141] (L' := [(3, .slice p5 (a4).length c6), (9, pt b11 0), (11, pt b18 0), (12, .slice p147 (y146).length c148), (13, .int .i64 (y107)), (19, pt b160 0), (141, pt b18 0)]) (listed' := #[true, false, false, false, false]) (fuel := 4) hF (hS.sx [0, 1, 2] [0, 1, 2, 3, 4, 5, 6, 7, 8, 9, 10, 11, 12, 13, 14, 15, 16]) (by kernel_rfl) (by intro c a w t v h; cases t <;> exact h) (by kernel_rfl) rfl fun a hF => ?_
 refine atk 2 (some 143) hF (hS.sx [0, 1, 2] [0, 1, 2, 3, 4, 5, 6, 7, 8, 9, 10, 11, 12, 13, 14, 15, 16]) rfl (vls 0 0 5) fun a hF => ?_
 refine ago 1 hF rfl ?_
 refine wo_callS (Cin := [.box b18 120 [si y122, si y123, (4, (encs fBool y124)), (8, cs126), (21, (encs (fInt .i64) y127)), si y128, si y129, (4, (encs fBool y130)), (8, cs132), (21, (encs (fInt .i64) y133)), (1, [.slice p135 (y134).length c136]), si y137, si y138, si y139, (4, (encs fBool y140)), (1, [.int .u64 (y141)]), sb y142, (1, [.slice p144 (y143).length c145])]]) (Cr := [.box b160 34 [si y213, si y214, (4, (encs fBool y215)), (8, cs217), (21, (encs (fInt .i64) y218))], .box b11 30 [si x9.1.Pool, si x9.1.Nodes, (4, (encs fBool x9.1.Members)), (8, cs10), (21, (encs (fInt .i64) x9.1.Modes))], .tok p135 72 6 (y134).length c136, .tok p144 106 15 (y143).length c145, .tok p147 72 6 (y146).length c148]) (args := #[pt b18 0]) (f := 70) hF (hS.selp [1, 0, 2, 3, 4, 5] (by decide) (by kernel_rfl)) (by kernel_rfl) (by kernel_rfl) (fun hS => C_warden_Warden_Tail N (T_warden_Warden.mk (T_config_State.mk y122 y123 y124 y125 y127) (T_config_State.mk y128 y129 y130 y131 y133) y134 y137 y138 y139 y140 y141 y142 y143) cs126 cs132 p135 c136 p144 c145 b18 rfl (hS.pick [5, 6, 7, 8, 9, 10, 11, 12, 13] (by kernel_rfl)) hx246) ?_
 rintro _ κ w a ⟨cs247, rfl, h2⟩ hF hB
 have hS := hB _ _ h2
 refine ⟨fun _ => (hS.sx [1, 0, 2] [3, 4, 5, 6, 7, 8, 9, 10, 11, 12, 13, 14, 15, 16, 17, 18, 19]), ?_⟩
 refine ago 3 hF rfl ?_
 refine wo_callP hF hS (by kernel_rfl) (by kernel_rfl) (C_law18_Same N hS.fresh (T_config_State.mk x246.Pool x246.Nodes x246.Members x246.Maps x246.Modes) (T_ref18_State.mk y213 y214 y215 y216 y218) cs247 cs217 ((hS.pick [0, 1, 2, 5, 6, 7] (by kernel_rfl)).ro) hx248) ?_
 rintro _ κ w a ⟨rfl, hR, hN⟩ hF hS hO
 refine ⟨fun _ => (hS.sx [1, 0, 2] [3, 4, 5, 6, 7, 8, 9, 10, 11, 12, 13, 14, 15, 16, 17, 18, 19]), ?_⟩
 refine anp [4] [3, 9, 11, 12, 13, 145] hF (hS.sx [1, 0, 2] [3, 4, 5, 6, 7, 8, 9, 10, 11, 12, 13, 14, 15, 16, 17, 18, 19]) fun a hF => ?_
 refine and_ ?_
 refine hK245 _ _ ?_
 refine bif_split H (fun hb H => ?_) (fun hb H => ?_)
 refine cond_t hF (by kernel_rfl) hb ?_
 refine wpIn_seq_k fun K249 hK249 => ?_
 refine wpIn_region_lit ?_
 refine wp 1 [8] hF fun a hF => ?_
 refine wpListIn_nil ?_
 refine hK249 _ _ ?_
 refine wpIn_ret ?_
 cases H
 exact (ret_done hF hS (res1 Try.results18 (rvt hF)) ⟨rfl, (hS.pick [] (by kernel_rfl)).ro, hS.newC [] (by decide) (by kernel_rfl)⟩)
 refine cond_f hF (by kernel_rfl) hb ?_
 refine wpIn_skip ?_
 refine hK112 _ _ ?_
 refine wpIn_region_lit ?_
 refine wp 3 [3, 9, 11, 12, 13] hF fun a hF => ?_
 refine wpListIn_nil ?_
 exact ⟨fuel1, Nat.lt_succ_self _, _, y122, y123, y124, y125, cs126, y127, y128, y129, y130, y131, cs132, y133, y134, p135, c136, y137, y138, y139, y140, y141, y142, y143, p144, c145, y146, p147, c148, IntKind.i64.wrap (y107 + 1), hF.kp [3, 9, 11, 12, 13], hS.sp [0, 2, 3, 4, 5] [3, 4, 8, 9, 10, 11, 12, 13, 14, 15, 16, 17, 18, 19], H⟩
 refine cond_f hF (by kernel_rfl) hb ?_
 refine wpIn_exit ?_
 refine hK28 _ _ ?_
 refine wpIn_seq_k fun K291 hK291 => ?_
 refine wpIn_region_lit ?_
 refine bind_split H (fun x292 hx292 H => ?_)
 refine wc (wo_callP hF hS (by kernel_rfl) (by kernel_rfl) (C_law19_awake N hS.fresh   ((hS.pick [] (by kernel_rfl)).ro) hx292) ?_)
 rintro _ κ w a ⟨rfl, hR, hN⟩ hF hS hO
 refine wp 1 [8] hF fun a hF => ?_
 refine wpListIn_nil ?_
 refine hK291 _ _ ?_
 refine wpIn_ret ?_
 cases H
 exact (ret_done hF hS (res1 Try.results18 (rvt hF)) ⟨rfl, (hS.pick [] (by kernel_rfl)).ro, hS.newC [] (by decide) (by kernel_rfl)⟩)
end Go.Cf
