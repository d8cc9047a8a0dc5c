/- The walks: each function returns what its model says. Printed by a program of ours. -/
import Derived.Test.YtjohablgnnbelaaZM1
import Derived.Test.YtjohablgnnbelaaZW3
import Derived.Test.YtjohablgnnbelaaZW8
import Derived.Test.YtjohablgnnbelaaZW8r
import Derived.Test.YtjohablgnnbelaaZW8a
import Derived.Test.YtjohablgnnbelaaZW8m
namespace Go.Cf
open Go Go.Proofs
set_option linter.unusedVariables false
set_option maxRecDepth 20000 in
set_option maxHeartbeats 1000000 in
theorem C_law19_WardenPlays (N : Nat) {κ0 : Gh} {w0 : World} (hfr : Fresh κ0 w0) (a1 : Int) (a2 : Int) (a3 : Int) (a4 : (List T_law19_Op)) (p5 : Option Addr) (c6 : Nat) (hR : ∀ m ∈ ([Ro.mp t_law19_Op p5 c6 a4] : List MP), m.p κ0 w0) {r : (Bool)} (H : M.law19_WardenPlays N a1 a2 a3 a4 = some r) :
    Calls Try.prog 21 #[vi a1, vi a2, vi a3, .slice p5 (a4).length c6] w0 (Post [] κ0 w0 fun v κ w => v = vb r ∧ (∀ m ∈ ([] : List MP), m.p κ w) ∧ NewC w0 κ w []) := by
 have hS := SS.start hfr hR
 refine enter (N := (148)) (L := [(0, vi a1), (1, vi a2), (2, vi a3), (3, .slice p5 (a4).length c6)]) Try.func21 rfl Try.ntmps21 (show 4 ≤ (148) by decide) rfl fun a hF => ?_
 unfold M.law19_WardenPlays at H
 refine wpIn_seq_k fun K7 hK7 => ?_
 refine wpIn_region_lit ?_
 refine wp 1 (rg 4) hF fun a hF => ?_
 refine wpListIn_nil ?_
 refine hK7 _ _ ?_
 refine wpIn_seq_k fun K8 hK8 => ?_
 refine wpIn_region_lit ?_
 refine wp 3 [3, 20, 21, 22] hF fun a hF => ?_
 refine bind_split H (fun x9 hx9 H => ?_)
 refine wc (wo_callP hF hS (by kernel_rfl) (by kernel_rfl) (C_config_Start N hS.fresh a1 a2 a3  ((hS.pick [] (by kernel_rfl)).ro) hx9) ?_)
 rintro _ κ w a ⟨cs10, rfl, hR, hN⟩ hF hS hO
 have hS := hS.adds hR
 refine wp 3 [3, 24, 25] hF fun a hF => ?_
 have hS := hS.add (m := ml (List.replicate 4 false) 4) (List.length_replicate)
 have hS := hS.add (m := Arr.mp t_api_Map ((List.replicate 4 (flat [sl none 0 0, sl none 0 0])).flatten) 4 (List.replicate 4 (T_api_Map.mk ([] : List ByteArray) ([] : List Int)))) (Arr.zero _ _ _ _ _ z_api_Map)
 have hS := hS.add (m := ml (List.replicate 21 0) 21) (List.length_replicate)
 refine wc (wal hF hS [si 0, si 0, eb 4 (List.replicate 4 false), (8, (List.replicate 4 (flat [sl none 0 0, sl none 0 0])).flatten), ei 21 (List.replicate 21 0)] (sgN 2 (sgEnc List.length_replicate (sgArr (hS.get 1 rfl) (sgEnc List.length_replicate sgNil)))) fun b11 a w hF hS => ?_)
 refine wc (wst hF hS 0 0 5 [si x9.1.Pool, si x9.1.Nodes, eb 4 x9.1.Members, (8, cs10), ei 21 x9.1.Modes] (sgN 2 (sgEnc (hS.get 3 rfl) (sgArr (hS.get 4 rfl) (sgEnc (hS.get 5 rfl) sgNil)))) fun a w hF hS => ?_)
 refine wp 1 [3, 9, 10] hF fun a hF => ?_
 refine wpListIn_nil ?_
 refine hK8 _ _ ?_
 refine wpIn_seq_k fun K12 hK12 => ?_
 refine wpIn_seq_k fun K13 hK13 => ?_
 refine wpIn_region_lit ?_
 refine wp 2 [3, 9, 27] hF fun a hF => ?_
 refine wpListIn_nil ?_
 refine hK13 _ _ ?_
 refine bif_split H (fun hb H => ?_) (fun hb H => ?_)
 refine cond_t hF (by kernel_rfl) hb ?_
 refine wpIn_seq_k fun K14 hK14 => ?_
 refine wpIn_region_lit ?_
 refine bind_split H (fun x15 hx15 H => ?_)
 refine wc (wo_callP hF hS (by kernel_rfl) (by kernel_rfl) (C_law19_awake N hS.fresh   ((hS.pick [] (by kernel_rfl)).ro) hx15) ?_)
 rintro _ κ w a ⟨rfl, hR, hN⟩ hF hS hO
 refine wp 1 [8] hF fun a hF => ?_
 refine wpListIn_nil ?_
 refine hK14 _ _ ?_
 refine wpIn_ret ?_
 cases H
 exact (ret_done hF hS (res1 Try.results21 (rvt hF)) ⟨rfl, (hS.pick [] (by kernel_rfl)).ro, hS.newC [] (by decide) (by kernel_rfl)⟩)
 refine cond_f hF (by kernel_rfl) hb ?_
 refine wpIn_skip ?_
 refine hK12 _ _ ?_
 refine wpIn_seq_k fun K16 hK16 => ?_
 refine rgS hS [] ?_
 have hS := hS.drew
 refine bind_split H (fun x17 hx17 H => ?_)
 refine bind_split H (fun x25 hx25 H => ?_)
 refine atk 0 (some 29) hF (hS.sx [0] (rg 7)) rfl (vls 0 0 5) fun a hF => ?_
 refine atk 2 (some 31) hF (hS.sx [0] (rg 7)) rfl (vls 0 0 5) fun a hF => ?_
 refine ago 1 hF rfl ?_
 refine wcS 0 [0] hF hS (fun hS => C_warden_New N (T_config_State.mk x9.1.Pool x9.1.Nodes x9.1.Members x9.1.Maps x9.1.Modes) cs10  ⟨rfl, hS.pick [3, 4, 5] (by kernel_rfl)⟩ hx17) ?_
 rintro _ κ w a ⟨b18, cs19, cs20, p21, c22, p23, c24, rfl, h2⟩ hF hB
 have hS := hB _ _ h2
 refine ⟨fun _ => (hS.sx [3] [9, 10, 11, 12, 13, 14, 15]), ?_⟩
 refine ago 3 hF rfl ?_
 refine wo_callP hF hS (by kernel_rfl) (by kernel_rfl) (C_law18_Told N hS.fresh (T_config_State.mk x9.1.Pool x9.1.Nodes x9.1.Members x9.1.Maps x9.1.Modes) cs10 ((hS.pick [12, 13, 14] (by kernel_rfl)).ro) hx25) ?_
 rintro _ κ w a ⟨cs26, rfl, hR, hN⟩ hF hS hO
 have hS := hS.adds hR
 refine ⟨fun _ => (hS.sx [3] [12, 13, 14, 15, 16, 17, 18]), ?_⟩
 refine any_pure [6] [3, 11, 32] (L' := [(3, .slice p5 (a4).length c6), (11, pt b18 0), (32, .agg (flat [si x25.Pool, si x25.Nodes, eb 4 x25.Members, (8, cs26), ei 21 x25.Modes]).toArray)]) (listed' := (bitA 8 79)) (fuel := 3) hF (hS.sx [3] [12, 13, 14, 15, 16, 17, 18]) (by kernel_rfl) (by intro c a w t v h; cases t <;> exact h) (by kernel_rfl) rfl fun a hF => ?_
 refine ago 4 hF rfl ?_
 refine wo_val hF (by kernel_rfl) (v := .agg (flat [si x25.Pool, si x25.Nodes, eb 4 x25.Members, (8, cs26), ei 21 x25.Modes, sl none 0 0, si 0, si 0, si 0, eb 4 (List.replicate 4 false), sb false, su 0, sl none 0 0]).toArray) (val_build (rows := [[si 0, si 0, eb 4 (List.replicate 4 false), (8, (List.replicate 4 (flat [sl none 0 0, sl none 0 0])).flatten), ei 21 (List.replicate 21 0)], [sl none 0 0], [si 0], [si 0], [si 0], [eb 4 (List.replicate 4 false)], [sb false], [su 0], [sl none 0 0]]) (vals := [(0, [si x25.Pool, si x25.Nodes, eb 4 x25.Members, (8, cs26), ei 21 x25.Modes])]) (sizes := [35, 1, 1, 1, 1, 4, 1, 1, 1]) (s' := [si x25.Pool, si x25.Nodes, eb 4 x25.Members, (8, cs26), ei 21 x25.Modes, sl none 0 0, si 0, si 0, si 0, eb 4 (List.replicate 4 false), sb false, su 0, sl none 0 0]) rfl (by kernel_rfl) (by kernel_rfl) (by kernel_rfl) (by kernel_rfl) (by kernel_rfl) (sgN 2 (sgEnc (hS.get 0 rfl) (sgArr (hS.get 1 rfl) (sgEnc (hS.get 2 rfl) sgNil)))) (by kernel_rfl) (by kernel_rfl) _) fun a hF => ?_
 refine ⟨fun _ => (hS.sx [3] [12, 13, 14, 15, 16, 17, 18]), ?_⟩
 refine ago 5 hF rfl ?_
 refine wbx hF hS [si x25.Pool, si x25.Nodes, eb 4 x25.Members, (8, cs26), ei 21 x25.Modes, sl none 0 0, si 0, si 0, si 0, eb 4 (List.replicate 4 false), sb false, su 0, sl none 0 0] (sgN 2 (sgEnc (hS.get 0 rfl) (sgArr (hS.get 1 rfl) (sgEnc (hS.get 2 rfl) (sgN 4 (sgEnc List.length_replicate (sgN 3 sgNil))))))) fun b27 a w hF hS => ?_
 refine ⟨fun _ => (hS.sx [4] [12, 13, 14, 15, 16, 17, 18]), ?_⟩
 refine anp [7] [3, 11, 12] hF (hS.sx [4] [12, 13, 14, 15, 16, 17, 18]) fun a hF => ?_
 refine and_ ?_
 refine hK16 _ _ ?_
 refine wpIn_seq_k fun K28 hK28 => ?_
 refine wpIn_seq_k fun K29 hK29 => ?_
 refine wpIn_region_lit ?_
 refine wp 2 [3, 11, 12, 36] hF fun a hF => ?_
 refine wpListIn_nil ?_
 refine hK29 _ _ ?_
 refine cond_f hF (by kernel_rfl) rfl ?_
 refine wpIn_skip ?_
 refine hK28 _ _ ?_
 refine wpIn_seq_k fun K30 hK30 => ?_
 refine wpIn_seq_k fun K31 hK31 => ?_
 refine wpIn_region_lit ?_
 refine wp 1 [3, 11, 12, 13] hF fun a hF => ?_
 refine wpListIn_nil ?_
 refine hK31 _ _ ?_
 refine wpIn_block ?_
 refine loop_fuel (n := N) (fun n a w => ∃ (κ : Gh) (y82 y83 : Int) (y84 : List Bool) (y85 : List T_api_Map) (cs86 : List Value) (y87 : List Int) (y88 : List T_api_Cmd) (p89 : Option Addr) (c90 : Nat) (y91 y92 y93 : Int) (y94 : List Bool) (y95 : Bool) (y96 y97 y98 : Int) (y99 : List Bool) (y100 : List T_api_Map) (cs101 : List Value) (y102 : List Int) (y103 y104 : Int) (y105 : List Bool) (y106 : List T_api_Map) (cs107 : List Value) (y108 : List Int) (y109 : List T_api_Cmd) (p110 : Option Addr) (c111 : Nat) (y112 y113 y114 : Int) (y115 : List Bool) (y116 : Int) (y117 : Bool) (y118 : List T_api_Mail) (p119 : Option Addr) (c120 : Nat) (y121 : Int), Fr (148) [] [(3, .slice p5 (a4).length c6), (11, pt b18 0), (12, pt b27 0), (13, vi y121)] a ∧ SS [] κ0 w0 κ w [.box b27 110 [si y82, si y83, eb 4 y84, (8, cs86), ei 21 y87, sl p89 (y88).length c90, si y91, si y92, si y93, eb 4 y94, sb y95, su y96, sl none 0 0], .box b18 120 [si y97, si y98, eb 4 y99, (8, cs101), ei 21 y102, si y103, si y104, eb 4 y105, (8, cs107), ei 21 y108, sl p110 (y109).length c111, si y112, si y113, si y114, eb 4 y115, su y116, sb y117, sl p119 (y118).length c120], .tok p89 72 6 (y88).length c90, .tok p110 72 6 (y109).length c111, .tok p119 106 15 (y118).length c120] [Ro.mp t_law19_Op p5 c6 a4, ml y84 4, Arr.mp t_api_Map cs86 4 y85, ml y87 21, Ro.mp f_api_Cmd.ty p89 c90 y88, ml y94 4, Ro.mp t_api_Mail none 0 ([] : List T_api_Mail), ml y99 4, Arr.mp t_api_Map cs101 4 y100, ml y102 21, ml y105 4, Arr.mp t_api_Map cs107 4 y106, ml y108 21, Ro.mp f_api_Cmd.ty p110 c111 y109, ml y115 4, Ro.mp t_api_Mail p119 c120 y118] ∧ M.law19_WardenPlays_L1 N n a4 y82 y83 y84 y85 y87 y88 y91 y92 y93 y94 y95 y96 y97 y98 y99 y100 y102 y103 y104 y105 y106 y108 y109 y112 y113 y114 y115 y116 y117 y118 y121 = some r) ?_ ?_
 have hS := hS.add (m := Ro.mp f_api_Cmd.ty none 0 ([] : List T_api_Cmd)) (Ro.nil f_api_Cmd.ty _ _)
 have hS := hS.add (m := Ro.mp t_api_Mail none 0 ([] : List T_api_Mail)) (Ro.nil t_api_Mail _ _)
 have hS := hS.addNil 72 6
 exact ⟨_, x25.Pool, x25.Nodes, x25.Members, x25.Maps, cs26, x25.Modes, ([] : List T_api_Cmd), none, 0, 0, 0, 0, (List.replicate 4 false), false, 0, x17.now.Pool, x17.now.Nodes, x17.now.Members, x17.now.Maps, cs19, x17.now.Modes, x17.tail.Pool, x17.tail.Nodes, x17.tail.Members, x17.tail.Maps, cs20, x17.tail.Modes, x17.queue, p21, c22, x17.done, x17.epoch, x17.step_, x17.wait, x17.mark_, x17.ready, x17.out, p23, c24, 0, hF.kp [3, 11, 12, 13], hS.sp [1, 2, 0, 3, 4] [20, 2, 3, 4, 1, 16, 0, 5, 6, 7, 8, 9, 10, 11, 12, 13], H⟩
 rintro n a w ⟨κ, y82, y83, y84, y85, cs86, y87, y88, p89, c90, y91, y92, y93, y94, y95, y96, y97, y98, y99, y100, cs101, y102, y103, y104, y105, y106, cs107, y108, y109, p110, c111, y112, y113, y114, y115, y116, y117, y118, p119, c120, y121, hF, hS, H⟩
 rcases n with _ | fuel1
 simp [M.law19_WardenPlays_L1] at H
 simp only [M.law19_WardenPlays_L1] at H
 refine wpIn_seq_k fun K122 hK122 => ?_
 refine wpIn_seq_k fun K123 hK123 => ?_
 refine wpIn_region_lit ?_
 refine bind_split H (fun v125 hv125 H => ?_)
 refine wl_join (fun a w => ∃ κ : Gh, Fr (148) [] [(3, .slice p5 (a4).length c6), (11, pt b18 0), (12, pt b27 0), (13, vi y121), (44, vb v125)] a ∧ SS [] κ0 w0 κ w [.box b27 110 [si y82, si y83, eb 4 y84, (8, cs86), ei 21 y87, sl p89 (y88).length c90, si y91, si y92, si y93, eb 4 y94, sb y95, su y96, sl none 0 0], .box b18 120 [si y97, si y98, eb 4 y99, (8, cs101), ei 21 y102, si y103, si y104, eb 4 y105, (8, cs107), ei 21 y108, sl p110 (y109).length c111, si y112, si y113, si y114, eb 4 y115, su y116, sb y117, sl p119 (y118).length c120], .tok p89 72 6 (y88).length c90, .tok p110 72 6 (y109).length c111, .tok p119 106 15 (y118).length c120] [Ro.mp t_law19_Op p5 c6 a4, ml y84 4, Arr.mp t_api_Map cs86 4 y85, ml y87 21, Ro.mp f_api_Cmd.ty p89 c90 y88, ml y94 4, Ro.mp t_api_Mail none 0 ([] : List T_api_Mail), ml y99 4, Arr.mp t_api_Map cs101 4 y100, ml y102 21, ml y105 4, Arr.mp t_api_Map cs107 4 y106, ml y108 21, Ro.mp f_api_Cmd.ty p110 c111 y109, ml y115 4, Ro.mp t_api_Mail p119 c120 y118] ∧ True) ?_ ?_
 refine wp 5 [3, 11, 12, 13, 41] hF fun a hF => ?_
 refine bif_split hv125 (fun hb hv125 => ?_) (fun hb hv125 => ?_)
 have hF := hF.boolv 41 (by kernel_rfl) hb
 refine wp 3 [3, 11, 12, 13, 44] hF fun a hF => ?_
 refine wpListIn_nil ?_
 cases hv125
 exact ⟨_, hF.kp [3, 11, 12, 13, 44], hS.sp (rg 5) (rg 16), trivial⟩
 have hF := hF.boolv 41 (by kernel_rfl) hb
 refine wp 3 [3, 11, 12, 13, 44] hF fun a hF => ?_
 refine wpListIn_nil ?_
 cases hv125
 exact ⟨_, hF.kp [3, 11, 12, 13, 44], hS.sp (rg 5) (rg 16), trivial⟩
 rintro a w ⟨κ, hF, hS, -⟩
 refine hK123 _ _ ?_
 refine bif_split H (fun hb H => ?_) (fun hb H => ?_)
 refine cond_t hF (by kernel_rfl) hb ?_
 refine wpIn_skip ?_
 refine hK122 _ _ ?_
 refine wpIn_seq_k fun K126 hK126 => ?_
 refine wpIn_block ?_
 refine wpIn_seq_k fun K127 hK127 => ?_
 refine wpIn_region_lit ?_
 refine wl_pure (L' := [(3, .slice p5 (a4).length c6), (11, pt b18 0), (12, pt b27 0), (13, vi y121), (47, .slice p5 (a4).length c6), (48, vi y121)]) 2 [3, 11, 12, 13, 47, 48] hF (by kernel_rfl) fun a hF => ?_
 refine bind_split H (fun x128 hx128 H => ?_)
 refine wc (wo_index hF hS (by kernel_rfl) 0 (E := 98) (sz := 22) rfl rfl rfl (by kernel_rfl) rfl hx128 (by kernel_rfl) (by kernel_rfl) fun b129 f130 a hpx128 hF => ?_)
 obtain ⟨_, ⟨⟨p131, c132, p133, c134⟩, rfl, hR⟩, hc⟩ := hS.elem 0 rfl hpx128 hx128
 have hS := (hS.adds hR).add hc
 refine wc (wo_val hF (by kernel_rfl) (v := .agg (flat [sb x128.Ask, si x128.Cmd.Kind, si x128.Cmd.DC, si x128.Cmd.Shard, si x128.Cmd.Node, si x128.Cmd.Mode, sg x128.Cmd.Key, si x128.DC, si x128.Msg.Kind, su x128.Msg.Id, su x128.Msg.N, su x128.Msg.TS, sg x128.Msg.Lo, sg x128.Msg.Hi, sl p131 (x128.Msg.Vers).length c132, sl p133 (x128.Msg.Vec).length c134, si x128.Msg.Cmd.Kind, si x128.Msg.Cmd.DC, si x128.Msg.Cmd.Shard, si x128.Msg.Cmd.Node, si x128.Msg.Cmd.Mode, sg x128.Msg.Cmd.Key]).toArray) ((val_loadCs 0 0 22 (s := [sb x128.Ask, si x128.Cmd.Kind, si x128.Cmd.DC, si x128.Cmd.Shard, si x128.Cmd.Node, si x128.Cmd.Mode, sg x128.Cmd.Key, si x128.DC, si x128.Msg.Kind, su x128.Msg.Id, su x128.Msg.N, su x128.Msg.TS, sg x128.Msg.Lo, sg x128.Msg.Hi, sl p131 (x128.Msg.Vers).length c132, sl p133 (x128.Msg.Vec).length c134, si x128.Msg.Cmd.Kind, si x128.Msg.Cmd.DC, si x128.Msg.Cmd.Shard, si x128.Msg.Cmd.Node, si x128.Msg.Cmd.Mode, sg x128.Msg.Cmd.Key]) (s' := [sb x128.Ask, si x128.Cmd.Kind, si x128.Cmd.DC, si x128.Cmd.Shard, si x128.Cmd.Node, si x128.Cmd.Mode, sg x128.Cmd.Key, si x128.DC, si x128.Msg.Kind, su x128.Msg.Id, su x128.Msg.N, su x128.Msg.TS, sg x128.Msg.Lo, sg x128.Msg.Hi, sl p131 (x128.Msg.Vers).length c132, sl p133 (x128.Msg.Vec).length c134, si x128.Msg.Cmd.Kind, si x128.Msg.Cmd.DC, si x128.Msg.Cmd.Shard, si x128.Msg.Cmd.Node, si x128.Msg.Cmd.Mode, sg x128.Msg.Cmd.Key]) (n := 22) rfl rfl rfl (show segGood [sb x128.Ask, si x128.Cmd.Kind, si x128.Cmd.DC, si x128.Cmd.Shard, si x128.Cmd.Node, si x128.Cmd.Mode, sg x128.Cmd.Key, si x128.DC, si x128.Msg.Kind, su x128.Msg.Id, su x128.Msg.N, su x128.Msg.TS, sg x128.Msg.Lo, sg x128.Msg.Hi, sl p131 (x128.Msg.Vers).length c132, sl p133 (x128.Msg.Vec).length c134, si x128.Msg.Cmd.Kind, si x128.Msg.Cmd.DC, si x128.Msg.Cmd.Shard, si x128.Msg.Cmd.Node, si x128.Msg.Cmd.Mode, sg x128.Msg.Cmd.Key] from (sgN 22 sgNil)) (by kernel_rfl) (by kernel_rfl) (by kernel_rfl) (by kernel_rfl) (by kernel_rfl) w ⟨_, hS⟩)) fun a hF => ?_)
 refine wc (wal hF hS [sb false, si 0, si 0, si 0, si 0, si 0, sg ByteArray.empty, si 0, si 0, su 0, su 0, su 0, sg ByteArray.empty, sg ByteArray.empty, sl none 0 0, sl none 0 0, si 0, si 0, si 0, si 0, si 0, sg ByteArray.empty] (sgN 22 sgNil) fun b135 a w hF hS => ?_)
 refine wc (wst hF hS 0 0 22 [sb x128.Ask, si x128.Cmd.Kind, si x128.Cmd.DC, si x128.Cmd.Shard, si x128.Cmd.Node, si x128.Cmd.Mode, sg x128.Cmd.Key, si x128.DC, si x128.Msg.Kind, su x128.Msg.Id, su x128.Msg.N, su x128.Msg.TS, sg x128.Msg.Lo, sg x128.Msg.Hi, sl p131 (x128.Msg.Vers).length c132, sl p133 (x128.Msg.Vec).length c134, si x128.Msg.Cmd.Kind, si x128.Msg.Cmd.DC, si x128.Msg.Cmd.Shard, si x128.Msg.Cmd.Node, si x128.Msg.Cmd.Mode, sg x128.Msg.Cmd.Key] (sgN 22 sgNil) fun a w hF hS => ?_)
 refine wpListIn_nil ?_
 refine hK127 _ _ ?_
 refine seq_join (fun a w => ∃ (κ : Gh) (y136 y137 : Int) (y138 : List Bool) (y139 : List T_api_Map) (cs140 : List Value) (y141 : List Int) (y142 : List T_api_Cmd) (p143 : Option Addr) (c144 : Nat) (y145 y146 y147 : Int) (y148 : List Bool) (y149 : Bool) (y150 : Int) (y151 : List T_api_Mail) (p152 : Option Addr) (c153 : Nat) (y154 y155 : Int) (y156 : List Bool) (y157 : List T_api_Map) (cs158 : List Value) (y159 : List Int) (y160 y161 : Int) (y162 : List Bool) (y163 : List T_api_Map) (cs164 : List Value) (y165 : List Int) (y166 : List T_api_Cmd) (p167 : Option Addr) (c168 : Nat) (y169 y170 y171 : Int) (y172 : List Bool) (y173 : Int) (y174 : Bool) (y175 : List T_api_Mail) (p176 : Option Addr) (c177 : Nat), Fr (148) [] [(3, .slice p5 (a4).length c6), (11, pt b18 0), (12, pt b27 0), (13, vi y121)] a ∧ SS [] κ0 w0 κ w [.box b27 110 [si y136, si y137, eb 4 y138, (8, cs140), ei 21 y141, sl p143 (y142).length c144, si y145, si y146, si y147, eb 4 y148, sb y149, su y150, sl p152 (y151).length c153], .box b18 120 [si y154, si y155, eb 4 y156, (8, cs158), ei 21 y159, si y160, si y161, eb 4 y162, (8, cs164), ei 21 y165, sl p167 (y166).length c168, si y169, si y170, si y171, eb 4 y172, su y173, sb y174, sl p176 (y175).length c177], .tok p143 72 6 (y142).length c144, .tok p152 106 15 (y151).length c153, .tok p167 72 6 (y166).length c168, .tok p176 106 15 (y175).length c177] [Ro.mp t_law19_Op p5 c6 a4, ml y138 4, Arr.mp t_api_Map cs140 4 y139, ml y141 21, Ro.mp f_api_Cmd.ty p143 c144 y142, ml y148 4, Ro.mp t_api_Mail p152 c153 y151, ml y156 4, Arr.mp t_api_Map cs158 4 y157, ml y159 21, ml y162 4, Arr.mp t_api_Map cs164 4 y163, ml y165 21, Ro.mp f_api_Cmd.ty p167 c168 y166, ml y172 4, Ro.mp t_api_Mail p176 c177 y175] ∧ M.law19_WardenPlays_k2 N (M.law19_WardenPlays_L1 N fuel1) a4 y121 y136 y137 y138 y139 y141 y142 y145 y146 y147 y148 y149 y150 y151 y154 y155 y156 y157 y159 y160 y161 y162 y163 y165 y166 y169 y170 y171 y172 y173 y174 y175 = some r) ?_ ?_
 refine wpIn_seq_k fun K229 hK229 => ?_
 refine wpIn_region_lit ?_
 refine wp 1 [3, 11, 12, 13, 14, 51] hF fun a hF => ?_
 refine wc (wld hF hS 0 0 0 fun a hF => ?_)
 refine wpListIn_nil ?_
 refine hK229 _ _ ?_
 refine bif_split H (fun hb H => ?_) (fun hb H => ?_)
 refine cond_t hF (by kernel_rfl) hb ?_
 refine wpIn_seq_k fun K230 hK230 => ?_
 refine wpIn_region_lit ?_
 refine wp 2 [3, 11, 12, 13, 14, 54, 55] hF fun a hF => ?_
 refine wc (wls hF hS 0 1 6 fun a hF => ?_)
 refine bind_split H (fun x231 hx231 H => ?_)
 refine wc (wcS 3 [2, 4, 5, 0, 1, 3] hF hS (fun hS => C_warden_Warden_Ask N (T_warden_Warden.mk (T_config_State.mk y97 y98 y99 y100 y102) (T_config_State.mk y103 y104 y105 y106 y108) y109 y112 y113 y114 y115 y116 y117 y118) (T_api_Cmd.mk x128.Cmd.Kind x128.Cmd.DC x128.Cmd.Shard x128.Cmd.Node x128.Cmd.Mode x128.Cmd.Key) cs101 cs107 p110 c111 p119 c120 b18 ⟨rfl, hS.pick [10, 11, 12, 13, 14, 15, 16, 17, 18] (by kernel_rfl)⟩ hx231) ?_)
 rintro _ κ w a ⟨cs232, cs233, p234, c235, p236, c237, rfl, h2⟩ hF hB
 have hS := hB _ _ h2
 refine wp 5 [3, 11, 12, 13, 14, 15, 16] hF fun a hF => ?_
 refine wpListIn_nil ?_
 refine hK230 _ _ ?_
 refine wpIn_seq_k fun K238 hK238 => ?_
 refine wpIn_region_lit ?_
 refine wp 2 [3, 11, 12, 13, 15, 16, 61, 62] hF fun a hF => ?_
 refine wc (wls hF hS 3 1 6 fun a hF => ?_)
 have hS := hS.addNil 106 15
 refine bind_split H (fun x239 hx239 H => ?_)
 refine wc (wcS 3 [5, 6, 0, 1, 2, 3, 4] hF hS (fun hS => C_ref19_Warden_Ask N (T_ref19_Warden.mk (T_ref18_State.mk y82 y83 y84 y85 y87) y88 y91 y92 y93 y94 y95 y96 ([] : List T_api_Mail)) (T_api_Cmd.mk x128.Cmd.Kind x128.Cmd.DC x128.Cmd.Shard x128.Cmd.Node x128.Cmd.Mode x128.Cmd.Key) cs86 p89 c90 none 0 b27 ⟨rfl, hS.pick [13, 14, 15, 16, 17, 18] (by kernel_rfl)⟩ hx239) ?_)
 rintro _ κ w a ⟨cs240, p241, c242, p243, c244, rfl, h2⟩ hF hB
 have hS := hB _ _ h2
 refine wp 5 [3, 11, 12, 13, 15, 16, 17, 18] hF fun a hF => ?_
 refine wpListIn_nil ?_
 refine hK238 _ _ ?_
 refine wpIn_seq_k fun K245 hK245 => ?_
 refine wpIn_region_lit ?_
 refine bind_split H (fun v247 hv247 H => ?_)
 refine wl_join (fun a w => ∃ κ : Gh, Fr (148) [] [(3, .slice p5 (a4).length c6), (11, pt b18 0), (12, pt b27 0), (13, vi y121), (74, vb v247)] a ∧ SS [] κ0 w0 κ w [.box b27 110 [si x239.2.2.Now.Pool, si x239.2.2.Now.Nodes, eb 4 x239.2.2.Now.Members, (8, cs240), ei 21 x239.2.2.Now.Modes, sl p241 (x239.2.2.Taken).length c242, si x239.2.2.Done, si x239.2.2.Epoch, si x239.2.2.Entry, eb 4 x239.2.2.Wants, sb x239.2.2.Ready, su x239.2.2.Mark, sl p243 (x239.2.2.Mail).length c244], .box b18 120 [si x231.2.2.now.Pool, si x231.2.2.now.Nodes, eb 4 x231.2.2.now.Members, (8, cs232), ei 21 x231.2.2.now.Modes, si x231.2.2.tail.Pool, si x231.2.2.tail.Nodes, eb 4 x231.2.2.tail.Members, (8, cs233), ei 21 x231.2.2.tail.Modes, sl p234 (x231.2.2.queue).length c235, si x231.2.2.done, si x231.2.2.epoch, si x231.2.2.step_, eb 4 x231.2.2.wait, su x231.2.2.mark_, sb x231.2.2.ready, sl p236 (x231.2.2.out).length c237], .tok p241 72 6 (x239.2.2.Taken).length c242, .tok p243 106 15 (x239.2.2.Mail).length c244, .tok p234 72 6 (x231.2.2.queue).length c235, .tok p236 106 15 (x231.2.2.out).length c237] [Ro.mp t_law19_Op p5 c6 a4, ml x239.2.2.Now.Members 4, Arr.mp t_api_Map cs240 4 x239.2.2.Now.Maps, ml x239.2.2.Now.Modes 21, Ro.mp f_api_Cmd.ty p241 c242 x239.2.2.Taken, ml x239.2.2.Wants 4, Ro.mp t_api_Mail p243 c244 x239.2.2.Mail, ml x231.2.2.now.Members 4, Arr.mp t_api_Map cs232 4 x231.2.2.now.Maps, ml x231.2.2.now.Modes 21, ml x231.2.2.tail.Members 4, Arr.mp t_api_Map cs233 4 x231.2.2.tail.Maps, ml x231.2.2.tail.Modes 21, Ro.mp f_api_Cmd.ty p234 c235 x231.2.2.queue, ml x231.2.2.wait 4, Ro.mp t_api_Mail p236 c237 x231.2.2.out] ∧ True) ?_ ?_
 refine wp 4 [3, 11, 12, 13, 16, 18, 70] hF fun a hF => ?_
 refine bif_split hv247 (fun hb hv247 => ?_) (fun hb hv247 => ?_)
 have hF := hF.boolv 70 (by kernel_rfl) hb
 refine wp 4 [3, 11, 12, 13, 74] hF fun a hF => ?_
 refine wpListIn_nil ?_
 cases hv247
 exact ⟨_, hF.kp [3, 11, 12, 13, 74], hS.sp [0, 3, 1, 2, 4, 5] [18, 0, 1, 2, 3, 4, 5, 6, 7, 8, 9, 10, 11, 12, 13, 14], trivial⟩
 have hF := hF.boolv 70 (by kernel_rfl) hb
 refine wp 4 [3, 11, 12, 13, 74] hF fun a hF => ?_
 refine wpListIn_nil ?_
 cases hv247
 exact ⟨_, hF.kp [3, 11, 12, 13, 74], hS.sp [0, 3, 1, 2, 4, 5] [18, 0, 1, 2, 3, 4, 5, 6, 7, 8, 9, 10, 11, 12, 13, 14], trivial⟩
 rintro a w ⟨κ, hF, hS, -⟩
 refine hK245 _ _ ?_
 refine bif_split H (fun hb H => ?_) (fun hb H => ?_)
 refine cond_t hF (by kernel_rfl) hb ?_
 refine wpIn_seq_k fun K248 hK248 => ?_
 refine wpIn_region_lit ?_
 refine wp 1 [8] hF fun a hF => ?_
 refine wpListIn_nil ?_
 refine hK248 _ _ ?_
 refine wpIn_ret ?_
 cases H
 exact (ret_done hF hS (res1 Try.results21 (rvt hF)) ⟨rfl, (hS.pick [] (by kernel_rfl)).ro, hS.newC [] (by decide) (by kernel_rfl)⟩)
 refine cond_f hF (by kernel_rfl) hb ?_
 refine wpIn_skip ?_
 exact ⟨_, x239.2.2.Now.Pool, x239.2.2.Now.Nodes, x239.2.2.Now.Members, x239.2.2.Now.Maps, cs240, x239.2.2.Now.Modes, x239.2.2.Taken, p241, c242, x239.2.2.Done, x239.2.2.Epoch, x239.2.2.Entry, x239.2.2.Wants, x239.2.2.Ready, x239.2.2.Mark, x239.2.2.Mail, p243, c244, x231.2.2.now.Pool, x231.2.2.now.Nodes, x231.2.2.now.Members, x231.2.2.now.Maps, cs232, x231.2.2.now.Modes, x231.2.2.tail.Pool, x231.2.2.tail.Nodes, x231.2.2.tail.Members, x231.2.2.tail.Maps, cs233, x231.2.2.tail.Modes, x231.2.2.queue, p234, c235, x231.2.2.done, x231.2.2.epoch, x231.2.2.step_, x231.2.2.wait, x231.2.2.mark_, x231.2.2.ready, x231.2.2.out, p236, c237, hF.kp [3, 11, 12, 13], hS.sp (rg 6) (rg 16), H⟩
 refine cond_f hF (by kernel_rfl) hb ?_
 refine wpIn_seq_k fun K249 hK249 => ?_
 refine wpIn_region_lit ?_
 refine wp 2 [3, 11, 12, 13, 14, 75, 76] hF fun a hF => ?_
 refine wc (wld hF hS 0 7 0 fun a hF => ?_)
 refine wp 1 [3, 11, 12, 13, 14, 75, 77, 78] hF fun a hF => ?_
 refine wc (wls hF hS 0 8 14 fun a hF => ?_)
 refine bind_split H (fun x250 hx250 H => ?_)
 refine wc (wcS 3 [2, 4, 5, 0, 1, 3] hF hS (fun hS => C_warden_Warden_Take N (T_warden_Warden.mk (T_config_State.mk y97 y98 y99 y100 y102) (T_config_State.mk y103 y104 y105 y106 y108) y109 y112 y113 y114 y115 y116 y117 y118) x128.DC (T_api_Msg.mk x128.Msg.Kind x128.Msg.Id x128.Msg.N x128.Msg.TS x128.Msg.Lo x128.Msg.Hi x128.Msg.Vers x128.Msg.Vec (T_api_Cmd.mk x128.Msg.Cmd.Kind x128.Msg.Cmd.DC x128.Msg.Cmd.Shard x128.Msg.Cmd.Node x128.Msg.Cmd.Mode x128.Msg.Cmd.Key)) cs101 cs107 p110 c111 p119 c120 p131 c132 p133 c134 b18 ⟨rfl, hS.pick [10, 11, 12, 13, 14, 15, 16, 17, 18, 1, 2] (by kernel_rfl)⟩ hx250) ?_)
 rintro _ κ w a ⟨cs251, cs252, p253, c254, p255, c256, rfl, h2⟩ hF hB
 have hS := hB _ _ h2
 refine wpListIn_nil ?_
 refine hK249 _ _ ?_
 refine wpIn_region_lit ?_
 refine wp 2 [3, 11, 12, 13, 14, 81, 82] hF fun a hF => ?_
 refine wc (wld hF hS 3 7 0 fun a hF => ?_)
 refine wp 1 [3, 11, 12, 13, 81, 83, 84] hF fun a hF => ?_
 refine wc (wls hF hS 3 8 14 fun a hF => ?_)
 have hS := hS.addNil 106 15
 refine bind_split H (fun x257 hx257 H => ?_)
 refine wc (wcS 3 [5, 6, 0, 1, 2, 3, 4] hF hS (fun hS => C_ref19_Warden_Take N (T_ref19_Warden.mk (T_ref18_State.mk y82 y83 y84 y85 y87) y88 y91 y92 y93 y94 y95 y96 ([] : List T_api_Mail)) x128.DC (T_api_Msg.mk x128.Msg.Kind x128.Msg.Id x128.Msg.N x128.Msg.TS x128.Msg.Lo x128.Msg.Hi x128.Msg.Vers x128.Msg.Vec (T_api_Cmd.mk x128.Msg.Cmd.Kind x128.Msg.Cmd.DC x128.Msg.Cmd.Shard x128.Msg.Cmd.Node x128.Msg.Cmd.Mode x128.Msg.Cmd.Key)) cs86 p89 c90 none 0 p131 c132 p133 c134 b27 ⟨rfl, hS.pick [13, 14, 15, 16, 17, 18, 10, 11] (by kernel_rfl)⟩ hx257) ?_)
 rintro _ κ w a ⟨cs258, p259, c260, p261, c262, rfl, h2⟩ hF hB
 have hS := hB _ _ h2
 refine wpListIn_nil ?_
 exact ⟨_, x257.Now.Pool, x257.Now.Nodes, x257.Now.Members, x257.Now.Maps, cs258, x257.Now.Modes, x257.Taken, p259, c260, x257.Done, x257.Epoch, x257.Entry, x257.Wants, x257.Ready, x257.Mark, x257.Mail, p261, c262, x250.now.Pool, x250.now.Nodes, x250.now.Members, x250.now.Maps, cs251, x250.now.Modes, x250.tail.Pool, x250.tail.Nodes, x250.tail.Members, x250.tail.Maps, cs252, x250.tail.Modes, x250.queue, p253, c254, x250.done, x250.epoch, x250.step_, x250.wait, x250.mark_, x250.ready, x250.out, p255, c256, hF.kp [3, 11, 12, 13], hS.sp [0, 3, 1, 2, 4, 5] [18, 0, 1, 2, 3, 4, 5, 6, 7, 8, 9, 10, 11, 12, 13, 14], H⟩
 rintro a w ⟨κ, y136, y137, y138, y139, cs140, y141, y142, p143, c144, y145, y146, y147, y148, y149, y150, y151, p152, c153, y154, y155, y156, y157, cs158, y159, y160, y161, y162, y163, cs164, y165, y166, p167, c168, y169, y170, y171, y172, y173, y174, y175, p176, c177, hF, hS, H⟩
 unfold M.law19_WardenPlays_k2 at H
 refine wpIn_seq_k fun K178 hK178 => ?_
 refine wpIn_seq_k fun K179 hK179 => ?_
 refine bind_split H (fun v205 hv205 H => ?_)
 refine code_join (fun a w => ∃ (κ : Gh) (cs184 cs190 : List Value) (p193 : Option Addr) (c194 : Nat) (p202 : Option Addr) (c203 : Nat), Fr (148) [] [(3, .slice p5 (a4).length c6), (11, pt b18 0), (12, pt b27 0), (13, vi y121), (143, vb v205.2.2.2.2.2.2.2.2.2.2.2.2.2.2.2.2.2.2)] a ∧ SS [] κ0 w0 κ w [.box b18 120 [si v205.1, si v205.2.1, eb 4 v205.2.2.1, (8, cs184), ei 21 v205.2.2.2.2.1, si v205.2.2.2.2.2.1, si v205.2.2.2.2.2.2.1, eb 4 v205.2.2.2.2.2.2.2.1, (8, cs190), ei 21 v205.2.2.2.2.2.2.2.2.2.1, sl p193 (v205.2.2.2.2.2.2.2.2.2.2.1).length c194, si v205.2.2.2.2.2.2.2.2.2.2.2.1, si v205.2.2.2.2.2.2.2.2.2.2.2.2.1, si v205.2.2.2.2.2.2.2.2.2.2.2.2.2.1, eb 4 v205.2.2.2.2.2.2.2.2.2.2.2.2.2.2.1, su v205.2.2.2.2.2.2.2.2.2.2.2.2.2.2.2.1, sb v205.2.2.2.2.2.2.2.2.2.2.2.2.2.2.2.2.1, sl p202 (v205.2.2.2.2.2.2.2.2.2.2.2.2.2.2.2.2.2.1).length c203], .box b27 110 [si y136, si y137, eb 4 y138, (8, cs140), ei 21 y141, sl p143 (y142).length c144, si y145, si y146, si y147, eb 4 y148, sb y149, su y150, sl p152 (y151).length c153], .tok p193 72 6 (v205.2.2.2.2.2.2.2.2.2.2.1).length c194, .tok p202 106 15 (v205.2.2.2.2.2.2.2.2.2.2.2.2.2.2.2.2.2.1).length c203, .tok p143 72 6 (y142).length c144, .tok p152 106 15 (y151).length c153] [Ro.mp t_law19_Op p5 c6 a4, ml v205.2.2.1 4, Arr.mp t_api_Map cs184 4 v205.2.2.2.1, ml v205.2.2.2.2.1 21, ml v205.2.2.2.2.2.2.2.1 4, Arr.mp t_api_Map cs190 4 v205.2.2.2.2.2.2.2.2.1, ml v205.2.2.2.2.2.2.2.2.2.1 21, Ro.mp f_api_Cmd.ty p193 c194 v205.2.2.2.2.2.2.2.2.2.2.1, ml v205.2.2.2.2.2.2.2.2.2.2.2.2.2.2.1 4, Ro.mp t_api_Mail p202 c203 v205.2.2.2.2.2.2.2.2.2.2.2.2.2.2.2.2.2.1, ml y138 4, Arr.mp t_api_Map cs140 4 y139, ml y141 21, Ro.mp f_api_Cmd.ty p143 c144 y142, ml y148 4, Ro.mp t_api_Mail p152 c153 y151] ∧ True) ?_ ?_
 refine rga (fun _ => True) [] ?_
 have hS := hS.drew
 refine Cf.any_pure [0, 2, 3, 4] [3, 11, 12, 13, 87, 91] (L' := [(3, .slice p5 (a4).length c6), (11, pt b18 0), (12, pt b27 0), (13, vi y121), (87, pt b18 0), (91, pt b27 45)]) (listed' := (bitA 57 29)) (fuel := 53) hF trivial (by kernel_rfl) (by intro c a w t v h; cases t <;> exact h) (by kernel_rfl) rfl fun a hF => ?_
 refine any_weakS hS [1] ?_
 refine ago2 1 5 hF rfl rfl ?_ ?_
 refine bind_split hv205 (fun x206 hx206 hv205 => ?_)
 refine wcS 3 [1, 4, 5, 0, 2, 3] hF hS (fun hS => C_warden_Warden_Out N (T_warden_Warden.mk (T_config_State.mk y154 y155 y156 y157 y159) (T_config_State.mk y160 y161 y162 y163 y165) y166 y169 y170 y171 y172 y173 y174 y175) cs158 cs164 p167 c168 p176 c177 b18 ⟨rfl, hS.pick [7, 8, 9, 10, 11, 12, 13, 14, 15] (by kernel_rfl)⟩ hx206) ?_
 rintro _ κ w a ⟨p207, c208, cs209, cs210, p211, c212, p213, c214, rfl, h2⟩ hF hB
 have hS := hB _ _ h2
 refine ⟨notE, ?_⟩
 refine any_switchS hS [] (by kernel_rfl) ?_
 refine atk 5 (some 92) hF (hS.sx [0, 4] (rg 26)) rfl (vld 1 12 0) fun a hF => ?_
 refine Cf.any_go 6 hF rfl (by kernel_rfl) (by kernel_rfl) (listed' := (bitA 57 127)) (by kernel_rfl) ?_
 refine bind_split hv205 (fun x215 hx215 hv205 => ?_)
 refine wo_callP hF hS (by kernel_rfl) (by kernel_rfl) (C_law19_Mails N hS.fresh x206.1 y151 p207 c208 p152 c153 ((hS.pick [0, 16] (by kernel_rfl)).ro) hx215) ?_
 rintro _ κ w a ⟨rfl, hR, hN⟩ hF hS hO
 refine ⟨fun _ => (hS.sx [0, 4] (rg 26)), ?_⟩
 refine Cf.any_pure [7, 8] [3, 11, 12, 13, 95] (L' := [(3, .slice p5 (a4).length c6), (11, pt b18 0), (12, pt b27 0), (13, vi y121), (95, vb (!x215))]) (listed' := (bitA 57 511)) (fuel := 48) hF (hS.sx [0, 4] (rg 26)) (by kernel_rfl) (by intro c a w t v h; cases t <;> exact h) (by kernel_rfl) rfl fun a hF => ?_
 refine bif_split hv205 (fun hb hv205 => ?_) (fun hb hv205 => ?_)
 have hF := hF.boolv 95 (by kernel_rfl) hb
 refine Cf.any_pure [9, 10, 11, 12, 13, 14, 15, 16, 17, 18, 19, 20, 21, 22, 23, 24, 25, 26, 27, 28, 29, 30, 31, 32, 33, 34, 35, 36, 37, 38, 39, 40, 41, 42, 43, 44, 45, 46, 47, 48, 49, 50, 51, 52, 53, 54, 55, 56] [3, 11, 12, 13, 143] (L' := [(3, .slice p5 (a4).length c6), (11, pt b18 0), (12, pt b27 0), (13, vi y121), (143, vb true)]) (listed' := (bitA 57 144115188075855871)) (fuel := 0) hF (hS.sx [0, 4] (rg 26)) (by kernel_rfl) (by intro c a w t v h; cases t <;> exact h) (by kernel_rfl) rfl fun a hF => ?_
 refine and_ ?_
 cases hv205
 exact ⟨_, cs209, cs210, p211, c212, p213, c214, hF.kp [3, 11, 12, 13, 143], hS.sp [0, 4, 1, 2, 5, 6] [10, 1, 2, 3, 4, 5, 6, 7, 8, 9, 11, 12, 13, 14, 15, 16], trivial⟩
 have hF := hF.boolv 95 (by kernel_rfl) hb
 refine Cf.any_pure [9, 11, 12, 13] [3, 11, 12, 13, 95, 96, 100] (L' := [(3, .slice p5 (a4).length c6), (11, pt b18 0), (12, pt b27 0), (13, vi y121), (95, vb false), (96, pt b18 0), (100, pt b27 36)]) (listed' := (bitA 57 15359)) (fuel := 44) hF (hS.sx [0, 4] (rg 26)) (by kernel_rfl) (by intro c a w t v h; cases t <;> exact h) (by kernel_rfl) rfl fun a hF => ?_
 refine atk 14 (some 101) hF (hS.sx [0, 4] (rg 26)) rfl (vld 1 6 0) fun a hF => ?_
 refine Cf.any_go 10 hF rfl (by kernel_rfl) (by kernel_rfl) (listed' := (bitA 57 32767)) (by kernel_rfl) ?_
 refine bind_split hv205 (fun x216 hx216 hv205 => ?_)
 refine wcS 1 (rg 7) hF hS (fun hS => C_warden_Warden_Acked N (T_warden_Warden.mk (T_config_State.mk x206.2.now.Pool x206.2.now.Nodes x206.2.now.Members x206.2.now.Maps x206.2.now.Modes) (T_config_State.mk x206.2.tail.Pool x206.2.tail.Nodes x206.2.tail.Members x206.2.tail.Maps x206.2.tail.Modes) x206.2.queue x206.2.done x206.2.epoch x206.2.step_ x206.2.wait x206.2.mark_ x206.2.ready x206.2.out) cs209 cs210 p211 c212 p213 c214 b18 ⟨rfl, hS.pick [1, 2, 3, 4, 5, 6, 7, 8, 9] (by kernel_rfl)⟩ hx216) ?_
 rintro _ κ w a ⟨rfl, h2⟩ hF hB
 have hS := hB _ _ h2
 refine ⟨fun _ => (hS.sx [0, 4] (rg 26)), ?_⟩
 refine Cf.any_pure [15, 16, 17] [3, 11, 12, 13, 104] (L' := [(3, .slice p5 (a4).length c6), (11, pt b18 0), (12, pt b27 0), (13, vi y121), (104, vb (x216 != y145))]) (listed' := (bitA 57 262143)) (fuel := 39) hF (hS.sx [0, 4] (rg 26)) (by kernel_rfl) (by intro c a w t v h; cases t <;> exact h) (by kernel_rfl) rfl fun a hF => ?_
 refine bif_split hv205 (fun hb hv205 => ?_) (fun hb hv205 => ?_)
 have hF := hF.boolv 104 (by kernel_rfl) hb
 refine Cf.any_pure [18, 19, 20, 21, 22, 23, 24, 25, 26, 27, 28, 29, 30, 31, 32, 33, 34, 35, 36, 37, 38, 39, 40, 41, 42, 43, 44, 45, 46, 47, 48, 49, 50, 51, 52, 53, 54, 55, 56] [3, 11, 12, 13, 143] (L' := [(3, .slice p5 (a4).length c6), (11, pt b18 0), (12, pt b27 0), (13, vi y121), (143, vb true)]) (listed' := (bitA 57 144115188075855871)) (fuel := 0) hF (hS.sx [0, 4] (rg 26)) (by kernel_rfl) (by intro c a w t v h; cases t <;> exact h) (by kernel_rfl) rfl fun a hF => ?_
 refine and_ ?_
 cases hv205
 exact ⟨_, cs209, cs210, p211, c212, p213, c214, hF.kp [3, 11, 12, 13, 143], hS.sp [0, 4, 1, 2, 5, 6] [10, 1, 2, 3, 4, 5, 6, 7, 8, 9, 11, 12, 13, 14, 15, 16], trivial⟩
 have hF := hF.boolv 104 (by kernel_rfl) hb
 refine Cf.any_pure [18, 20, 21, 22, 25, 26, 27] [3, 11, 12, 13, 104, 105, 109, 114] (L' := [(3, .slice p5 (a4).length c6), (11, pt b18 0), (12, pt b27 0), (13, vi y121), (104, vb false), (105, pt b18 0), (109, pt b27 35), (114, pt b27 36)]) (listed' := (bitA 57 242745343)) (fuel := 32) hF (hS.sx [0, 4] (rg 26)) (by kernel_rfl) (by intro c a w t v h; cases t <;> exact h) (by kernel_rfl) rfl fun a hF => ?_
 refine atk 23 (some 110) hF (hS.sx [0, 4] (rg 26)) rfl (vld 1 5 0) fun a hF => ?_
 refine Cf.any_pure [24] [3, 11, 12, 13, 104, 105, 111, 114] (L' := [(3, .slice p5 (a4).length c6), (11, pt b18 0), (12, pt b27 0), (13, vi y121), (104, vb false), (105, pt b18 0), (111, vi ((y142).length : Int)), (114, pt b27 36)]) (listed' := (bitA 57 267911167)) (fuel := 30) hF (hS.sx [0, 4] (rg 26)) (by kernel_rfl) (by intro c a w t v h; cases t <;> exact h) (by kernel_rfl) rfl fun a hF => ?_
 refine atk 28 (some 115) hF (hS.sx [0, 4] (rg 26)) rfl (vld 1 6 0) fun a hF => ?_
 refine Cf.any_pure [29] [3, 11, 12, 13, 104, 105, 116] (L' := [(3, .slice p5 (a4).length c6), (11, pt b18 0), (12, pt b27 0), (13, vi y121), (104, vb false), (105, pt b18 0), (116, vi (IntKind.i64.wrap (((y142).length : Int) - y145)))]) (listed' := (bitA 57 1073217535)) (fuel := 28) hF (hS.sx [0, 4] (rg 26)) (by kernel_rfl) (by intro c a w t v h; cases t <;> exact h) (by kernel_rfl) rfl fun a hF => ?_
 refine Cf.any_go 19 hF rfl (by kernel_rfl) (by kernel_rfl) (listed' := (bitA 57 1073741823)) (by kernel_rfl) ?_
 refine bind_split hv205 (fun x217 hx217 hv205 => ?_)
 refine wcS 1 (rg 7) hF hS (fun hS => C_warden_Warden_Pending N (T_warden_Warden.mk (T_config_State.mk x206.2.now.Pool x206.2.now.Nodes x206.2.now.Members x206.2.now.Maps x206.2.now.Modes) (T_config_State.mk x206.2.tail.Pool x206.2.tail.Nodes x206.2.tail.Members x206.2.tail.Maps x206.2.tail.Modes) x206.2.queue x206.2.done x206.2.epoch x206.2.step_ x206.2.wait x206.2.mark_ x206.2.ready x206.2.out) cs209 cs210 p211 c212 p213 c214 b18 ⟨rfl, hS.pick [1, 2, 3, 4, 5, 6, 7, 8, 9] (by kernel_rfl)⟩ hx217) ?_
 rintro _ κ w a ⟨rfl, h2⟩ hF hB
 have hS := hB _ _ h2
 refine ⟨fun _ => (hS.sx [0, 4] (rg 26)), ?_⟩
 refine Cf.any_pure [30, 31, 32] [3, 11, 12, 13, 119] (L' := [(3, .slice p5 (a4).length c6), (11, pt b18 0), (12, pt b27 0), (13, vi y121), (119, vb (x217 != IntKind.i64.wrap (((y142).length : Int) - y145)))]) (listed' := (bitA 57 8589934591)) (fuel := 24) hF (hS.sx [0, 4] (rg 26)) (by kernel_rfl) (by intro c a w t v h; cases t <;> exact h) (by kernel_rfl) rfl fun a hF => ?_
 refine bif_split hv205 (fun hb hv205 => ?_) (fun hb hv205 => ?_)
 have hF := hF.boolv 119 (by kernel_rfl) hb
 refine Cf.any_pure [33, 34, 35, 36, 37, 38, 39, 40, 41, 42, 43, 44, 45, 46, 47, 48, 49, 50, 51, 52, 53, 54, 55, 56] [3, 11, 12, 13, 143] (L' := [(3, .slice p5 (a4).length c6), (11, pt b18 0), (12, pt b27 0), (13, vi y121), (143, vb true)]) (listed' := (bitA 57 144115188075855871)) (fuel := 0) hF (hS.sx [0, 4] (rg 26)) (by kernel_rfl) (by intro c a w t v h; cases t <;> exact h) (by kernel_rfl) rfl fun a hF => ?_
 refine and_ ?_
 cases hv205
 exact ⟨_, cs209, cs210, p211, c212, p213, c214, hF.kp [3, 11, 12, 13, 143], hS.sp [0, 4, 1, 2, 5, 6] [10, 1, 2, 3, 4, 5, 6, 7, 8, 9, 11, 12, 13, 14, 15, 16], trivial⟩
 have hF := hF.boolv 119 (by kernel_rfl) hb
 refine Cf.any_pure [33, 35, 36, 37] [3, 11, 12, 13, 119, 120, 124] (L' := [(3, .slice p5 (a4).length c6), (11, pt b18 0), (12, pt b27 0), (13, vi y121), (119, vb false), (120, pt b18 0), (124, pt b27 0)]) (listed' := (bitA 57 257698037759)) (fuel := 20) hF (hS.sx [0, 4] (rg 26)) (by kernel_rfl) (by intro c a w t v h; cases t <;> exact h) (by kernel_rfl) rfl fun a hF => ?_
 refine atk 38 (some 125) hF (hS.sx [0, 4] (rg 26)) rfl (vls 1 0 5) fun a hF => ?_
 refine Cf.any_go 34 hF rfl (by kernel_rfl) (by kernel_rfl) (listed' := (bitA 57 549755813887)) (by kernel_rfl) ?_
 refine bind_split hv205 (fun x218 hx218 hv205 => ?_)
 refine wcS 1 (rg 7) hF hS (fun hS => C_warden_Warden_Now N (T_warden_Warden.mk (T_config_State.mk x206.2.now.Pool x206.2.now.Nodes x206.2.now.Members x206.2.now.Maps x206.2.now.Modes) (T_config_State.mk x206.2.tail.Pool x206.2.tail.Nodes x206.2.tail.Members x206.2.tail.Maps x206.2.tail.Modes) x206.2.queue x206.2.done x206.2.epoch x206.2.step_ x206.2.wait x206.2.mark_ x206.2.ready x206.2.out) cs209 cs210 p211 c212 p213 c214 b18 ⟨rfl, hS.pick [1, 2, 3, 4, 5, 6, 7, 8, 9] (by kernel_rfl)⟩ hx218) ?_
 rintro _ κ w a ⟨cs219, rfl, h2⟩ hF hB
 have hS := hB _ _ h2
 refine ⟨fun _ => (hS.sx [0, 4] [3, 4, 5, 6, 7, 8, 9, 10, 11, 12, 13, 14, 15, 16, 17, 18, 19, 20, 21, 22, 23, 24, 25, 26, 27, 28]), ?_⟩
 refine Cf.any_go 39 hF rfl (by kernel_rfl) (by kernel_rfl) (listed' := (bitA 57 1099511627775)) (by kernel_rfl) ?_
 refine bind_split hv205 (fun x220 hx220 hv205 => ?_)
 refine wo_callP hF hS (by kernel_rfl) (by kernel_rfl) (C_law18_Same N hS.fresh (T_config_State.mk x218.Pool x218.Nodes x218.Members x218.Maps x218.Modes) (T_ref18_State.mk y136 y137 y138 y139 y141) cs219 cs140 ((hS.pick [0, 1, 2, 14, 15, 16] (by kernel_rfl)).ro) hx220) ?_
 rintro _ κ w a ⟨rfl, hR, hN⟩ hF hS hO
 refine ⟨fun _ => (hS.sx [0, 4] [3, 4, 5, 6, 7, 8, 9, 10, 11, 12, 13, 14, 15, 16, 17, 18, 19, 20, 21, 22, 23, 24, 25, 26, 27, 28]), ?_⟩
 refine Cf.any_pure [40, 41, 42] [3, 11, 12, 13, 129] (L' := [(3, .slice p5 (a4).length c6), (11, pt b18 0), (12, pt b27 0), (13, vi y121), (129, vb (!x220))]) (listed' := (bitA 57 8796093022207)) (fuel := 14) hF (hS.sx [0, 4] [3, 4, 5, 6, 7, 8, 9, 10, 11, 12, 13, 14, 15, 16, 17, 18, 19, 20, 21, 22, 23, 24, 25, 26, 27, 28]) (by kernel_rfl) (by intro c a w t v h; cases t <;> exact h) (by kernel_rfl) rfl fun a hF => ?_
 refine bif_split hv205 (fun hb hv205 => ?_) (fun hb hv205 => ?_)
 have hF := hF.boolv 129 (by kernel_rfl) hb
 refine Cf.any_pure [43, 44, 45, 46, 47, 48, 49, 50, 51, 52, 53, 54, 55, 56] [3, 11, 12, 13, 143] (L' := [(3, .slice p5 (a4).length c6), (11, pt b18 0), (12, pt b27 0), (13, vi y121), (143, vb true)]) (listed' := (bitA 57 144115188075855871)) (fuel := 0) hF (hS.sx [0, 4] [3, 4, 5, 6, 7, 8, 9, 10, 11, 12, 13, 14, 15, 16, 17, 18, 19, 20, 21, 22, 23, 24, 25, 26, 27, 28]) (by kernel_rfl) (by intro c a w t v h; cases t <;> exact h) (by kernel_rfl) rfl fun a hF => ?_
 refine and_ ?_
 cases hv205
 exact ⟨_, cs209, cs210, p211, c212, p213, c214, hF.kp [3, 11, 12, 13, 143], hS.sp [0, 4, 1, 2, 5, 6] [13, 4, 5, 6, 7, 8, 9, 10, 11, 12, 14, 15, 16, 17, 18, 19], trivial⟩
 have hF := hF.boolv 129 (by kernel_rfl) hb
 refine Cf.any_pure [43, 45] [3, 11, 12, 13, 129, 130, 132] (L' := [(3, .slice p5 (a4).length c6), (11, pt b18 0), (12, pt b27 0), (13, vi y121), (129, vb false), (130, pt b18 0), (132, pt b27 0)]) (listed' := (bitA 57 52776558133247)) (fuel := 12) hF (hS.sx [0, 4] [3, 4, 5, 6, 7, 8, 9, 10, 11, 12, 13, 14, 15, 16, 17, 18, 19, 20, 21, 22, 23, 24, 25, 26, 27, 28]) (by kernel_rfl) (by intro c a w t v h; cases t <;> exact h) (by kernel_rfl) rfl fun a hF => ?_
 refine Cf.any_go 44 hF rfl (by kernel_rfl) (by kernel_rfl) (listed' := (bitA 57 70368744177663)) (by kernel_rfl) ?_
 refine bind_split hv205 (fun x221 hx221 hv205 => ?_)
 refine wcS 1 (rg 7) hF hS (fun hS => C_warden_Warden_Tail N (T_warden_Warden.mk (T_config_State.mk x206.2.now.Pool x206.2.now.Nodes x206.2.now.Members x206.2.now.Maps x206.2.now.Modes) (T_config_State.mk x206.2.tail.Pool x206.2.tail.Nodes x206.2.tail.Members x206.2.tail.Maps x206.2.tail.Modes) x206.2.queue x206.2.done x206.2.epoch x206.2.step_ x206.2.wait x206.2.mark_ x206.2.ready x206.2.out) cs209 cs210 p211 c212 p213 c214 b18 ⟨rfl, hS.pick [4, 5, 6, 7, 8, 9, 10, 11, 12] (by kernel_rfl)⟩ hx221) ?_
 rintro _ κ w a ⟨cs222, rfl, h2⟩ hF hB
 have hS := hB _ _ h2
 refine ⟨fun _ => (hS.sx [0, 4] [6, 7, 8, 9, 10, 11, 12, 13, 14, 15, 16, 17, 18, 19, 20, 21, 22, 23, 24, 25, 26, 27, 28, 29, 30, 31]), ?_⟩
 refine Cf.any_go 46 hF rfl (by kernel_rfl) (by kernel_rfl) (listed' := (bitA 57 140737488355327)) (by kernel_rfl) ?_
 refine bind_split hv205 (fun x223 hx223 hv205 => ?_)
 refine wcS 1 [4, 0, 1, 2, 3, 5, 6] hF hS (fun hS => C_ref19_Warden_Tail N (T_ref19_Warden.mk (T_ref18_State.mk y136 y137 y138 y139 y141) y142 y145 y146 y147 y148 y149 y150 y151) cs140 p143 c144 p152 c153 b27 ⟨rfl, hS.pick [17, 18, 19, 20, 21, 22] (by kernel_rfl)⟩ hx223) ?_
 rintro _ κ w a ⟨cs224, rfl, h2⟩ hF hB
 have hS := hB _ _ h2
 refine ⟨fun _ => (hS.sx [1, 0] [9, 10, 11, 12, 13, 14, 15, 16, 17, 18, 19, 20, 21, 22, 23, 24, 25, 26, 27, 28, 29, 30, 31, 32, 33, 34]), ?_⟩
 refine Cf.any_go 47 hF rfl (by kernel_rfl) (by kernel_rfl) (listed' := (bitA 57 281474976710655)) (by kernel_rfl) ?_
 refine bind_split hv205 (fun x225 hx225 hv205 => ?_)
 refine wo_callP hF hS (by kernel_rfl) (by kernel_rfl) (C_law18_Same N hS.fresh (T_config_State.mk x221.Pool x221.Nodes x221.Members x221.Maps x221.Modes) (T_ref18_State.mk x223.Pool x223.Nodes x223.Members x223.Maps x223.Modes) cs222 cs224 ((hS.pick [3, 4, 5, 0, 1, 2] (by kernel_rfl)).ro) hx225) ?_
 rintro _ κ w a ⟨rfl, hR, hN⟩ hF hS hO
 refine ⟨fun _ => (hS.sx [1, 0] [9, 10, 11, 12, 13, 14, 15, 16, 17, 18, 19, 20, 21, 22, 23, 24, 25, 26, 27, 28, 29, 30, 31, 32, 33, 34]), ?_⟩
 refine Cf.any_pure [48, 49, 50] [3, 11, 12, 13, 137] (L' := [(3, .slice p5 (a4).length c6), (11, pt b18 0), (12, pt b27 0), (13, vi y121), (137, vb (!x225))]) (listed' := (bitA 57 2251799813685247)) (fuel := 6) hF (hS.sx [1, 0] [9, 10, 11, 12, 13, 14, 15, 16, 17, 18, 19, 20, 21, 22, 23, 24, 25, 26, 27, 28, 29, 30, 31, 32, 33, 34]) (by kernel_rfl) (by intro c a w t v h; cases t <;> exact h) (by kernel_rfl) rfl fun a hF => ?_
 refine bif_split hv205 (fun hb hv205 => ?_) (fun hb hv205 => ?_)
 have hF := hF.boolv 137 (by kernel_rfl) hb
 refine Cf.any_pure [51, 52, 53, 54, 55, 56] [3, 11, 12, 13, 143] (L' := [(3, .slice p5 (a4).length c6), (11, pt b18 0), (12, pt b27 0), (13, vi y121), (143, vb true)]) (listed' := (bitA 57 144115188075855871)) (fuel := 0) hF (hS.sx [1, 0] [9, 10, 11, 12, 13, 14, 15, 16, 17, 18, 19, 20, 21, 22, 23, 24, 25, 26, 27, 28, 29, 30, 31, 32, 33, 34]) (by kernel_rfl) (by intro c a w t v h; cases t <;> exact h) (by kernel_rfl) rfl fun a hF => ?_
 refine and_ ?_
 cases hv205
 exact ⟨_, cs209, cs210, p211, c212, p213, c214, hF.kp [3, 11, 12, 13, 143], hS.sp [1, 0, 2, 3, 5, 6] [19, 10, 11, 12, 13, 14, 15, 16, 17, 18, 20, 21, 22, 23, 24, 25], trivial⟩
 have hF := hF.boolv 137 (by kernel_rfl) hb
 refine Cf.any_pure [51, 53] [3, 11, 12, 13, 137, 138, 140] (L' := [(3, .slice p5 (a4).length c6), (11, pt b18 0), (12, pt b27 0), (13, vi y121), (137, vb false), (138, pt b18 0), (140, pt b27 0)]) (listed' := (bitA 57 13510798882111487)) (fuel := 4) hF (hS.sx [1, 0] [9, 10, 11, 12, 13, 14, 15, 16, 17, 18, 19, 20, 21, 22, 23, 24, 25, 26, 27, 28, 29, 30, 31, 32, 33, 34]) (by kernel_rfl) (by intro c a w t v h; cases t <;> exact h) (by kernel_rfl) rfl fun a hF => ?_
 refine Cf.any_go 52 hF rfl (by kernel_rfl) (by kernel_rfl) (listed' := (bitA 57 18014398509481983)) (by kernel_rfl) ?_
 refine bind_split hv205 (fun x226 hx226 hv205 => ?_)
 refine wcS 1 [1, 0, 2, 3, 4, 5, 6] hF hS (fun hS => C_warden_Warden_Modes N (T_warden_Warden.mk (T_config_State.mk x206.2.now.Pool x206.2.now.Nodes x206.2.now.Members x206.2.now.Maps x206.2.now.Modes) (T_config_State.mk x206.2.tail.Pool x206.2.tail.Nodes x206.2.tail.Members x206.2.tail.Maps x206.2.tail.Modes) x206.2.queue x206.2.done x206.2.epoch x206.2.step_ x206.2.wait x206.2.mark_ x206.2.ready x206.2.out) cs209 cs210 p211 c212 p213 c214 b18 ⟨rfl, hS.pick [10, 11, 12, 13, 14, 15, 16, 17, 18] (by kernel_rfl)⟩ hx226) ?_
 rintro _ κ w a ⟨rfl, h2⟩ hF hB
 have hS := hB _ _ h2
 refine ⟨fun _ => (hS.sx [0, 1] [10, 11, 12, 13, 14, 15, 16, 17, 18, 19, 20, 21, 22, 23, 24, 25, 26, 27, 28, 29, 30, 31, 32, 33, 34, 35]), ?_⟩
 refine Cf.any_go 54 hF rfl (by kernel_rfl) (by kernel_rfl) (listed' := (bitA 57 36028797018963967)) (by kernel_rfl) ?_
 refine bind_split hv205 (fun x227 hx227 hv205 => ?_)
 refine wcS 1 [1, 0, 2, 3, 4, 5, 6] hF hS (fun hS => C_ref19_Warden_Modes N (T_ref19_Warden.mk (T_ref18_State.mk y136 y137 y138 y139 y141) y142 y145 y146 y147 y148 y149 y150 y151) cs140 p143 c144 p152 c153 b27 ⟨rfl, hS.pick [21, 22, 23, 24, 25, 26] (by kernel_rfl)⟩ hx227) ?_
 rintro _ κ w a ⟨rfl, h2⟩ hF hB
 have hS := hB _ _ h2
 refine ⟨fun _ => (hS.sx [1, 0] [11, 12, 13, 14, 15, 16, 17, 18, 19, 20, 21, 22, 23, 24, 25, 26, 27, 28, 29, 30, 31, 32, 33, 34, 35, 36]), ?_⟩
 refine atk 55 (some 142) hF (hS.sx [1, 0] [11, 12, 13, 14, 15, 16, 17, 18, 19, 20, 21, 22, 23, 24, 25, 26, 27, 28, 29, 30, 31, 32, 33, 34, 35, 36]) rfl (fun w _ => (val_eq (neg := true) (xs := (flat [ei 21 x226])) (ys := (flat [ei 21 x227])) (ks := [.int .i64, .int .i64, .int .i64, .int .i64, .int .i64, .int .i64, .int .i64, .int .i64, .int .i64, .int .i64, .int .i64, .int .i64, .int .i64, .int .i64, .int .i64, .int .i64, .int .i64, .int .i64, .int .i64, .int .i64, .int .i64]) 20 (by decide) rfl (by kernel_rfl) (by kernel_rfl) (by kernel_rfl) (by kernel_rfl) (typed_cons (typed_len (fun _ => rfl) (hS.get 1 rfl)) typed_nil) (typed_cons (typed_len (fun _ => rfl) (hS.get 0 rfl)) typed_nil) (by kernel_rfl)) w) fun a hF => ?_
 refine Cf.any_pure [56] [3, 11, 12, 13, 143] (L' := [(3, .slice p5 (a4).length c6), (11, pt b18 0), (12, pt b27 0), (13, vi y121), (143, vb (!(cEq (flat [ei 21 x226]) (flat [ei 21 x227]))))]) (listed' := (bitA 57 144115188075855871)) (fuel := 0) hF (hS.sx [1, 0] [11, 12, 13, 14, 15, 16, 17, 18, 19, 20, 21, 22, 23, 24, 25, 26, 27, 28, 29, 30, 31, 32, 33, 34, 35, 36]) (by kernel_rfl) (by intro c a w t v h; cases t <;> exact h) (by kernel_rfl) rfl fun a hF => ?_
 refine and_ ?_
 cases hv205
 exact ⟨_, cs209, cs210, p211, c212, p213, c214, hF.kp [3, 11, 12, 13, 143], hS.sp [1, 0, 2, 3, 5, 6] [21, 12, 13, 14, 15, 16, 17, 18, 19, 20, 22, 23, 24, 25, 26, 27], trivial⟩
 refine wld hF hS 0 12 0 fun a hF => ?_
 refine ⟨fun _ => (hS.sx [0, 1] (rg 16)), ?_⟩
 refine Cf.any_go 1 hF rfl (by kernel_rfl) (by kernel_rfl) (listed' := (bitA 57 63)) (by kernel_rfl) ?_
 refine bind_split hv205 (fun x206 hx206 hv205 => ?_)
 refine wcS 3 [1, 4, 5, 0, 2, 3] hF hS (fun hS => C_warden_Warden_Out N (T_warden_Warden.mk (T_config_State.mk y154 y155 y156 y157 y159) (T_config_State.mk y160 y161 y162 y163 y165) y166 y169 y170 y171 y172 y173 y174 y175) cs158 cs164 p167 c168 p176 c177 b18 ⟨rfl, hS.pick [7, 8, 9, 10, 11, 12, 13, 14, 15] (by kernel_rfl)⟩ hx206) ?_
 rintro _ κ w a ⟨p207, c208, cs209, cs210, p211, c212, p213, c214, rfl, h2⟩ hF hB
 have hS := hB _ _ h2
 refine ⟨notE, ?_⟩
 refine any_switchS hS [] (by kernel_rfl) ?_
 refine Cf.any_go 6 hF rfl (by kernel_rfl) (by kernel_rfl) (listed' := (bitA 57 127)) (by kernel_rfl) ?_
 refine bind_split hv205 (fun x215 hx215 hv205 => ?_)
 refine wo_callP hF hS (by kernel_rfl) (by kernel_rfl) (C_law19_Mails N hS.fresh x206.1 y151 p207 c208 p152 c153 ((hS.pick [0, 16] (by kernel_rfl)).ro) hx215) ?_
 rintro _ κ w a ⟨rfl, hR, hN⟩ hF hS hO
 refine ⟨fun _ => (hS.sx [0, 4] (rg 26)), ?_⟩
 refine Cf.any_pure [7, 8] [3, 11, 12, 13, 95] (L' := [(3, .slice p5 (a4).length c6), (11, pt b18 0), (12, pt b27 0), (13, vi y121), (95, vb (!x215))]) (listed' := (bitA 57 511)) (fuel := 48) hF (hS.sx [0, 4] (rg 26)) (by kernel_rfl) (by intro c a w t v h; cases t <;> exact h) (by kernel_rfl) rfl fun a hF => ?_
 refine bif_split hv205 (fun hb hv205 => ?_) (fun hb hv205 => ?_)
 have hF := hF.boolv 95 (by kernel_rfl) hb
 refine Cf.any_pure [9, 10, 11, 12, 13, 14, 15, 16, 17, 18, 19, 20, 21, 22, 23, 24, 25, 26, 27, 28, 29, 30, 31, 32, 33, 34, 35, 36, 37, 38, 39, 40, 41, 42, 43, 44, 45, 46, 47, 48, 49, 50, 51, 52, 53, 54, 55, 56] [3, 11, 12, 13, 143] (L' := [(3, .slice p5 (a4).length c6), (11, pt b18 0), (12, pt b27 0), (13, vi y121), (143, vb true)]) (listed' := (bitA 57 144115188075855871)) (fuel := 0) hF (hS.sx [0, 4] (rg 26)) (by kernel_rfl) (by intro c a w t v h; cases t <;> exact h) (by kernel_rfl) rfl fun a hF => ?_
 refine and_ ?_
 cases hv205
 exact ⟨_, cs209, cs210, p211, c212, p213, c214, hF.kp [3, 11, 12, 13, 143], hS.sp [0, 4, 1, 2, 5, 6] [10, 1, 2, 3, 4, 5, 6, 7, 8, 9, 11, 12, 13, 14, 15, 16], trivial⟩
 have hF := hF.boolv 95 (by kernel_rfl) hb
 refine Cf.any_pure [9, 11, 12, 13] [3, 11, 12, 13, 95, 96, 100] (L' := [(3, .slice p5 (a4).length c6), (11, pt b18 0), (12, pt b27 0), (13, vi y121), (95, vb false), (96, pt b18 0), (100, pt b27 36)]) (listed' := (bitA 57 15359)) (fuel := 44) hF (hS.sx [0, 4] (rg 26)) (by kernel_rfl) (by intro c a w t v h; cases t <;> exact h) (by kernel_rfl) rfl fun a hF => ?_
 refine atk 14 (some 101) hF (hS.sx [0, 4] (rg 26)) rfl (vld 1 6 0) fun a hF => ?_
 refine Cf.any_go 10 hF rfl (by kernel_rfl) (by kernel_rfl) (listed' := (bitA 57 32767)) (by kernel_rfl) ?_
 refine bind_split hv205 (fun x216 hx216 hv205 => ?_)
 refine wcS 1 (rg 7) hF hS (fun hS => C_warden_Warden_Acked N (T_warden_Warden.mk (T_config_State.mk x206.2.now.Pool x206.2.now.Nodes x206.2.now.Members x206.2.now.Maps x206.2.now.Modes) (T_config_State.mk x206.2.tail.Pool x206.2.tail.Nodes x206.2.tail.Members x206.2.tail.Maps x206.2.tail.Modes) x206.2.queue x206.2.done x206.2.epoch x206.2.step_ x206.2.wait x206.2.mark_ x206.2.ready x206.2.out) cs209 cs210 p211 c212 p213 c214 b18 ⟨rfl, hS.pick [1, 2, 3, 4, 5, 6, 7, 8, 9] (by kernel_rfl)⟩ hx216) ?_
 rintro _ κ w a ⟨rfl, h2⟩ hF hB
 have hS := hB _ _ h2
 refine ⟨fun _ => (hS.sx [0, 4] (rg 26)), ?_⟩
 refine Cf.any_pure [15, 16, 17] [3, 11, 12, 13, 104] (L' := [(3, .slice p5 (a4).length c6), (11, pt b18 0), (12, pt b27 0), (13, vi y121), (104, vb (x216 != y145))]) (listed' := (bitA 57 262143)) (fuel := 39) hF (hS.sx [0, 4] (rg 26)) (by kernel_rfl) (by intro c a w t v h; cases t <;> exact h) (by kernel_rfl) rfl fun a hF => ?_
 refine bif_split hv205 (fun hb hv205 => ?_) (fun hb hv205 => ?_)
 have hF := hF.boolv 104 (by kernel_rfl) hb
 refine Cf.any_pure [18, 19, 20, 21, 22, 23, 24, 25, 26, 27, 28, 29, 30, 31, 32, 33, 34, 35, 36, 37, 38, 39, 40, 41, 42, 43, 44, 45, 46, 47, 48, 49, 50, 51, 52, 53, 54, 55, 56] [3, 11, 12, 13, 143] (L' := [(3, .slice p5 (a4).length c6), (11, pt b18 0), (12, pt b27 0), (13, vi y121), (143, vb true)]) (listed' := (bitA 57 144115188075855871)) (fuel := 0) hF (hS.sx [0, 4] (rg 26)) (by kernel_rfl) (by intro c a w t v h; cases t <;> exact h) (by kernel_rfl) rfl fun a hF => ?_
 refine and_ ?_
 cases hv205
 exact ⟨_, cs209, cs210, p211, c212, p213, c214, hF.kp [3, 11, 12, 13, 143], hS.sp [0, 4, 1, 2, 5, 6] [10, 1, 2, 3, 4, 5, 6, 7, 8, 9, 11, 12, 13, 14, 15, 16], trivial⟩
 have hF := hF.boolv 104 (by kernel_rfl) hb
 refine Cf.any_pure [18, 20, 21, 22, 25, 26, 27] [3, 11, 12, 13, 104, 105, 109, 114] (L' := [(3, .slice p5 (a4).length c6), (11, pt b18 0), (12, pt b27 0), (13, vi y121), (104, vb false), (105, pt b18 0), (109, pt b27 35), (114, pt b27 36)]) (listed' := (bitA 57 242745343)) (fuel := 32) hF (hS.sx [0, 4] (rg 26)) (by kernel_rfl) (by intro c a w t v h; cases t <;> exact h) (by kernel_rfl) rfl fun a hF => ?_
 refine atk 23 (some 110) hF (hS.sx [0, 4] (rg 26)) rfl (vld 1 5 0) fun a hF => ?_
 refine Cf.any_pure [24] [3, 11, 12, 13, 104, 105, 111, 114] (L' := [(3, .slice p5 (a4).length c6), (11, pt b18 0), (12, pt b27 0), (13, vi y121), (104, vb false), (105, pt b18 0), (111, vi ((y142).length : Int)), (114, pt b27 36)]) (listed' := (bitA 57 267911167)) (fuel := 30) hF (hS.sx [0, 4] (rg 26)) (by kernel_rfl) (by intro c a w t v h; cases t <;> exact h) (by kernel_rfl) rfl fun a hF => ?_
 refine atk 28 (some 115) hF (hS.sx [0, 4] (rg 26)) rfl (vld 1 6 0) fun a hF => ?_
 refine Cf.any_pure [29] [3, 11, 12, 13, 104, 105, 116] (L' := [(3, .slice p5 (a4).length c6), (11, pt b18 0), (12, pt b27 0), (13, vi y121), (104, vb false), (105, pt b18 0), (116, vi (IntKind.i64.wrap (((y142).length : Int) - y145)))]) (listed' := (bitA 57 1073217535)) (fuel := 28) hF (hS.sx [0, 4] (rg 26)) (by kernel_rfl) (by intro c a w t v h; cases t <;> exact h) (by kernel_rfl) rfl fun a hF => ?_
 refine Cf.any_go 19 hF rfl (by kernel_rfl) (by kernel_rfl) (listed' := (bitA 57 1073741823)) (by kernel_rfl) ?_
 refine bind_split hv205 (fun x217 hx217 hv205 => ?_)
 refine wcS 1 (rg 7) hF hS (fun hS => C_warden_Warden_Pending N (T_warden_Warden.mk (T_config_State.mk x206.2.now.Pool x206.2.now.Nodes x206.2.now.Members x206.2.now.Maps x206.2.now.Modes) (T_config_State.mk x206.2.tail.Pool x206.2.tail.Nodes x206.2.tail.Members x206.2.tail.Maps x206.2.tail.Modes) x206.2.queue x206.2.done x206.2.epoch x206.2.step_ x206.2.wait x206.2.mark_ x206.2.ready x206.2.out) cs209 cs210 p211 c212 p213 c214 b18 ⟨rfl, hS.pick [1, 2, 3, 4, 5, 6, 7, 8, 9] (by kernel_rfl)⟩ hx217) ?_
 rintro _ κ w a ⟨rfl, h2⟩ hF hB
 have hS := hB _ _ h2
 refine ⟨fun _ => (hS.sx [0, 4] (rg 26)), ?_⟩
 refine Cf.any_pure [30, 31, 32] [3, 11, 12, 13, 119] (L' := [(3, .slice p5 (a4).length c6), (11, pt b18 0), (12, pt b27 0), (13, vi y121), (119, vb (x217 != IntKind.i64.wrap (((y142).length : Int) - y145)))]) (listed' := (bitA 57 8589934591)) (fuel := 24) hF (hS.sx [0, 4] (rg 26)) (by kernel_rfl) (by intro c a w t v h; cases t <;> exact h) (by kernel_rfl) rfl fun a hF => ?_
 refine bif_split hv205 (fun hb hv205 => ?_) (fun hb hv205 => ?_)
 have hF := hF.boolv 119 (by kernel_rfl) hb
 refine Cf.any_pure [33, 34, 35, 36, 37, 38, 39, 40, 41, 42, 43, 44, 45, 46, 47, 48, 49, 50, 51, 52, 53, 54, 55, 56] [3, 11, 12, 13, 143] (L' := [(3, .slice p5 (a4).length c6), (11, pt b18 0), (12, pt b27 0), (13, vi y121), (143, vb true)]) (listed' := (bitA 57 144115188075855871)) (fuel := 0) hF (hS.sx [0, 4] (rg 26)) (by kernel_rfl) (by intro c a w t v h; cases t <;> exact h) (by kernel_rfl) rfl fun a hF => ?_
 refine and_ ?_
 cases hv205
 exact ⟨_, cs209, cs210, p211, c212, p213, c214, hF.kp [3, 11, 12, 13, 143], hS.sp [0, 4, 1, 2, 5, 6] [10, 1, 2, 3, 4, 5, 6, 7, 8, 9, 11, 12, 13, 14, 15, 16], trivial⟩
 have hF := hF.boolv 119 (by kernel_rfl) hb
 refine Cf.any_pure [33, 35, 36, 37] [3, 11, 12, 13, 119, 120, 124] (L' := [(3, .slice p5 (a4).length c6), (11, pt b18 0), (12, pt b27 0), (13, vi y121), (119, vb false), (120, pt b18 0), (124, pt b27 0)]) (listed' := (bitA 57 257698037759)) (fuel := 20) hF (hS.sx [0, 4] (rg 26)) (by kernel_rfl) (by intro c a w t v h; cases t <;> exact h) (by kernel_rfl) rfl fun a hF => ?_
 refine atk 38 (some 125) hF (hS.sx [0, 4] (rg 26)) rfl (vls 1 0 5) fun a hF => ?_
 refine Cf.any_go 34 hF rfl (by kernel_rfl) (by kernel_rfl) (listed' := (bitA 57 549755813887)) (by kernel_rfl) ?_
 refine bind_split hv205 (fun x218 hx218 hv205 => ?_)
 refine wcS 1 (rg 7) hF hS (fun hS => C_warden_Warden_Now N (T_warden_Warden.mk (T_config_State.mk x206.2.now.Pool x206.2.now.Nodes x206.2.now.Members x206.2.now.Maps x206.2.now.Modes) (T_config_State.mk x206.2.tail.Pool x206.2.tail.Nodes x206.2.tail.Members x206.2.tail.Maps x206.2.tail.Modes) x206.2.queue x206.2.done x206.2.epoch x206.2.step_ x206.2.wait x206.2.mark_ x206.2.ready x206.2.out) cs209 cs210 p211 c212 p213 c214 b18 ⟨rfl, hS.pick [1, 2, 3, 4, 5, 6, 7, 8, 9] (by kernel_rfl)⟩ hx218) ?_
 rintro _ κ w a ⟨cs219, rfl, h2⟩ hF hB
 have hS := hB _ _ h2
 refine ⟨fun _ => (hS.sx [0, 4] [3, 4, 5, 6, 7, 8, 9, 10, 11, 12, 13, 14, 15, 16, 17, 18, 19, 20, 21, 22, 23, 24, 25, 26, 27, 28]), ?_⟩
 refine Cf.any_go 39 hF rfl (by kernel_rfl) (by kernel_rfl) (listed' := (bitA 57 1099511627775)) (by kernel_rfl) ?_
 refine bind_split hv205 (fun x220 hx220 hv205 => ?_)
 refine wo_callP hF hS (by kernel_rfl) (by kernel_rfl) (C_law18_Same N hS.fresh (T_config_State.mk x218.Pool x218.Nodes x218.Members x218.Maps x218.Modes) (T_ref18_State.mk y136 y137 y138 y139 y141) cs219 cs140 ((hS.pick [0, 1, 2, 14, 15, 16] (by kernel_rfl)).ro) hx220) ?_
 rintro _ κ w a ⟨rfl, hR, hN⟩ hF hS hO
 refine ⟨fun _ => (hS.sx [0, 4] [3, 4, 5, 6, 7, 8, 9, 10, 11, 12, 13, 14, 15, 16, 17, 18, 19, 20, 21, 22, 23, 24, 25, 26, 27, 28]), ?_⟩
 refine Cf.any_pure [40, 41, 42] [3, 11, 12, 13, 129] (L' := [(3, .slice p5 (a4).length c6), (11, pt b18 0), (12, pt b27 0), (13, vi y121), (129, vb (!x220))]) (listed' := (bitA 57 8796093022207)) (fuel := 14) hF (hS.sx [0, 4] [3, 4, 5, 6, 7, 8, 9, 10, 11, 12, 13, 14, 15, 16, 17, 18, 19, 20, 21, 22, 23, 24, 25, 26, 27, 28]) (by kernel_rfl) (by intro c a w t v h; cases t <;> exact h) (by kernel_rfl) rfl fun a hF => ?_
 refine bif_split hv205 (fun hb hv205 => ?_) (fun hb hv205 => ?_)
 have hF := hF.boolv 129 (by kernel_rfl) hb
 refine Cf.any_pure [43, 44, 45, 46, 47, 48, 49, 50, 51, 52, 53, 54, 55, 56] [3, 11, 12, 13, 143] (L' := [(3, .slice p5 (a4).length c6), (11, pt b18 0), (12, pt b27 0), (13, vi y121), (143, vb true)]) (listed' := (bitA 57 144115188075855871)) (fuel := 0) hF (hS.sx [0, 4] [3, 4, 5, 6, 7, 8, 9, 10, 11, 12, 13, 14, 15, 16, 17, 18, 19, 20, 21, 22, 23, 24, 25, 26, 27, 28]) (by kernel_rfl) (by intro c a w t v h; cases t <;> exact h) (by kernel_rfl) rfl fun a hF => ?_
 refine and_ ?_
 cases hv205
 exact ⟨_, cs209, cs210, p211, c212, p213, c214, hF.kp [3, 11, 12, 13, 143], hS.sp [0, 4, 1, 2, 5, 6] [13, 4, 5, 6, 7, 8, 9, 10, 11, 12, 14, 15, 16, 17, 18, 19], trivial⟩
 have hF := hF.boolv 129 (by kernel_rfl) hb
 refine Cf.any_pure [43, 45] [3, 11, 12, 13, 129, 130, 132] (L' := [(3, .slice p5 (a4).length c6), (11, pt b18 0), (12, pt b27 0), (13, vi y121), (129, vb false), (130, pt b18 0), (132, pt b27 0)]) (listed' := (bitA 57 52776558133247)) (fuel := 12) hF (hS.sx [0, 4] [3, 4, 5, 6, 7, 8, 9, 10, 11, 12, 13, 14, 15, 16, 17, 18, 19, 20, 21, 22, 23, 24, 25, 26, 27, 28]) (by kernel_rfl) (by intro c a w t v h; cases t <;> exact h) (by kernel_rfl) rfl fun a hF => ?_
 refine Cf.any_go 44 hF rfl (by kernel_rfl) (by kernel_rfl) (listed' := (bitA 57 70368744177663)) (by kernel_rfl) ?_
 refine bind_split hv205 (fun x221 hx221 hv205 => ?_)
 refine wcS 1 (rg 7) hF hS (fun hS => C_warden_Warden_Tail N (T_warden_Warden.mk (T_config_State.mk x206.2.now.Pool x206.2.now.Nodes x206.2.now.Members x206.2.now.Maps x206.2.now.Modes) (T_config_State.mk x206.2.tail.Pool x206.2.tail.Nodes x206.2.tail.Members x206.2.tail.Maps x206.2.tail.Modes) x206.2.queue x206.2.done x206.2.epoch x206.2.step_ x206.2.wait x206.2.mark_ x206.2.ready x206.2.out) cs209 cs210 p211 c212 p213 c214 b18 ⟨rfl, hS.pick [4, 5, 6, 7, 8, 9, 10, 11, 12] (by kernel_rfl)⟩ hx221) ?_
 rintro _ κ w a ⟨cs222, rfl, h2⟩ hF hB
 have hS := hB _ _ h2
 refine ⟨fun _ => (hS.sx [0, 4] [6, 7, 8, 9, 10, 11, 12, 13, 14, 15, 16, 17, 18, 19, 20, 21, 22, 23, 24, 25, 26, 27, 28, 29, 30, 31]), ?_⟩
 refine Cf.any_go 46 hF rfl (by kernel_rfl) (by kernel_rfl) (listed' := (bitA 57 140737488355327)) (by kernel_rfl) ?_
 refine bind_split hv205 (fun x223 hx223 hv205 => ?_)
 refine wcS 1 [4, 0, 1, 2, 3, 5, 6] hF hS (fun hS => C_ref19_Warden_Tail N (T_ref19_Warden.mk (T_ref18_State.mk y136 y137 y138 y139 y141) y142 y145 y146 y147 y148 y149 y150 y151) cs140 p143 c144 p152 c153 b27 ⟨rfl, hS.pick [17, 18, 19, 20, 21, 22] (by kernel_rfl)⟩ hx223) ?_
 rintro _ κ w a ⟨cs224, rfl, h2⟩ hF hB
 have hS := hB _ _ h2
 refine ⟨fun _ => (hS.sx [1, 0] [9, 10, 11, 12, 13, 14, 15, 16, 17, 18, 19, 20, 21, 22, 23, 24, 25, 26, 27, 28, 29, 30, 31, 32, 33, 34]), ?_⟩
 refine Cf.any_go 47 hF rfl (by kernel_rfl) (by kernel_rfl) (listed' := (bitA 57 281474976710655)) (by kernel_rfl) ?_
 refine bind_split hv205 (fun x225 hx225 hv205 => ?_)
 refine wo_callP hF hS (by kernel_rfl) (by kernel_rfl) (C_law18_Same N hS.fresh (T_config_State.mk x221.Pool x221.Nodes x221.Members x221.Maps x221.Modes) (T_ref18_State.mk x223.Pool x223.Nodes x223.Members x223.Maps x223.Modes) cs222 cs224 ((hS.pick [3, 4, 5, 0, 1, 2] (by kernel_rfl)).ro) hx225) ?_
 rintro _ κ w a ⟨rfl, hR, hN⟩ hF hS hO
 refine ⟨fun _ => (hS.sx [1, 0] [9, 10, 11, 12, 13, 14, 15, 16, 17, 18, 19, 20, 21, 22, 23, 24, 25, 26, 27, 28, 29, 30, 31, 32, 33, 34]), ?_⟩
 refine Cf.any_pure [48, 49, 50] [3, 11, 12, 13, 137] (L' := [(3, .slice p5 (a4).length c6), (11, pt b18 0), (12, pt b27 0), (13, vi y121), (137, vb (!x225))]) (listed' := (bitA 57 2251799813685247)) (fuel := 6) hF (hS.sx [1, 0] [9, 10, 11, 12, 13, 14, 15, 16, 17, 18, 19, 20, 21, 22, 23, 24, 25, 26, 27, 28, 29, 30, 31, 32, 33, 34]) (by kernel_rfl) (by intro c a w t v h; cases t <;> exact h) (by kernel_rfl) rfl fun a hF => ?_
 refine bif_split hv205 (fun hb hv205 => ?_) (fun hb hv205 => ?_)
 have hF := hF.boolv 137 (by kernel_rfl) hb
 refine Cf.any_pure [51, 52, 53, 54, 55, 56] [3, 11, 12, 13, 143] (L' := [(3, .slice p5 (a4).length c6), (11, pt b18 0), (12, pt b27 0), (13, vi y121), (143, vb true)]) (listed' := (bitA 57 144115188075855871)) (fuel := 0) hF (hS.sx [1, 0] [9, 10, 11, 12, 13, 14, 15, 16, 17, 18, 19, 20, 21, 22, 23, 24, 25, 26, 27, 28, 29, 30, 31, 32, 33, 34]) (by kernel_rfl) (by intro c a w t v h; cases t <;> exact h) (by kernel_rfl) rfl fun a hF => ?_
 refine and_ ?_
 cases hv205
 exact ⟨_, cs209, cs210, p211, c212, p213, c214, hF.kp [3, 11, 12, 13, 143], hS.sp [1, 0, 2, 3, 5, 6] [19, 10, 11, 12, 13, 14, 15, 16, 17, 18, 20, 21, 22, 23, 24, 25], trivial⟩
 have hF := hF.boolv 137 (by kernel_rfl) hb
 refine Cf.any_pure [51, 53] [3, 11, 12, 13, 137, 138, 140] (L' := [(3, .slice p5 (a4).length c6), (11, pt b18 0), (12, pt b27 0), (13, vi y121), (137, vb false), (138, pt b18 0), (140, pt b27 0)]) (listed' := (bitA 57 13510798882111487)) (fuel := 4) hF (hS.sx [1, 0] [9, 10, 11, 12, 13, 14, 15, 16, 17, 18, 19, 20, 21, 22, 23, 24, 25, 26, 27, 28, 29, 30, 31, 32, 33, 34]) (by kernel_rfl) (by intro c a w t v h; cases t <;> exact h) (by kernel_rfl) rfl fun a hF => ?_
 refine Cf.any_go 52 hF rfl (by kernel_rfl) (by kernel_rfl) (listed' := (bitA 57 18014398509481983)) (by kernel_rfl) ?_
 refine bind_split hv205 (fun x226 hx226 hv205 => ?_)
 refine wcS 1 [1, 0, 2, 3, 4, 5, 6] hF hS (fun hS => C_warden_Warden_Modes N (T_warden_Warden.mk (T_config_State.mk x206.2.now.Pool x206.2.now.Nodes x206.2.now.Members x206.2.now.Maps x206.2.now.Modes) (T_config_State.mk x206.2.tail.Pool x206.2.tail.Nodes x206.2.tail.Members x206.2.tail.Maps x206.2.tail.Modes) x206.2.queue x206.2.done x206.2.epoch x206.2.step_ x206.2.wait x206.2.mark_ x206.2.ready x206.2.out) cs209 cs210 p211 c212 p213 c214 b18 ⟨rfl, hS.pick [10, 11, 12, 13, 14, 15, 16, 17, 18] (by kernel_rfl)⟩ hx226) ?_
 rintro _ κ w a ⟨rfl, h2⟩ hF hB
 have hS := hB _ _ h2
 refine ⟨fun _ => (hS.sx [0, 1] [10, 11, 12, 13, 14, 15, 16, 17, 18, 19, 20, 21, 22, 23, 24, 25, 26, 27, 28, 29, 30, 31, 32, 33, 34, 35]), ?_⟩
 refine Cf.any_go 54 hF rfl (by kernel_rfl) (by kernel_rfl) (listed' := (bitA 57 36028797018963967)) (by kernel_rfl) ?_
 refine bind_split hv205 (fun x227 hx227 hv205 => ?_)
 refine wcS 1 [1, 0, 2, 3, 4, 5, 6] hF hS (fun hS => C_ref19_Warden_Modes N (T_ref19_Warden.mk (T_ref18_State.mk y136 y137 y138 y139 y141) y142 y145 y146 y147 y148 y149 y150 y151) cs140 p143 c144 p152 c153 b27 ⟨rfl, hS.pick [21, 22, 23, 24, 25, 26] (by kernel_rfl)⟩ hx227) ?_
 rintro _ κ w a ⟨rfl, h2⟩ hF hB
 have hS := hB _ _ h2
 refine ⟨fun _ => (hS.sx [1, 0] [11, 12, 13, 14, 15, 16, 17, 18, 19, 20, 21, 22, 23, 24, 25, 26, 27, 28, 29, 30, 31, 32, 33, 34, 35, 36]), ?_⟩
 refine atk 55 (some 142) hF (hS.sx [1, 0] [11, 12, 13, 14, 15, 16, 17, 18, 19, 20, 21, 22, 23, 24, 25, 26, 27, 28, 29, 30, 31, 32, 33, 34, 35, 36]) rfl (fun w _ => (val_eq (neg := true) (xs := (flat [ei 21 x226])) (ys := (flat [ei 21 x227])) (ks := [.int .i64, .int .i64, .int .i64, .int .i64, .int .i64, .int .i64, .int .i64, .int .i64, .int .i64, .int .i64, .int .i64, .int .i64, .int .i64, .int .i64, .int .i64, .int .i64, .int .i64, .int .i64, .int .i64, .int .i64, .int .i64]) 20 (by decide) rfl (by kernel_rfl) (by kernel_rfl) (by kernel_rfl) (by kernel_rfl) (typed_cons (typed_len (fun _ => rfl) (hS.get 1 rfl)) typed_nil) (typed_cons (typed_len (fun _ => rfl) (hS.get 0 rfl)) typed_nil) (by kernel_rfl)) w) fun a hF => ?_
 refine Cf.any_pure [56] [3, 11, 12, 13, 143] (L' := [(3, .slice p5 (a4).length c6), (11, pt b18 0), (12, pt b27 0), (13, vi y121), (143, vb (!(cEq (flat [ei 21 x226]) (flat [ei 21 x227]))))]) (listed' := (bitA 57 144115188075855871)) (fuel := 0) hF (hS.sx [1, 0] [11, 12, 13, 14, 15, 16, 17, 18, 19, 20, 21, 22, 23, 24, 25, 26, 27, 28, 29, 30, 31, 32, 33, 34, 35, 36]) (by kernel_rfl) (by intro c a w t v h; cases t <;> exact h) (by kernel_rfl) rfl fun a hF => ?_
 refine and_ ?_
 cases hv205
 exact ⟨_, cs209, cs210, p211, c212, p213, c214, hF.kp [3, 11, 12, 13, 143], hS.sp [1, 0, 2, 3, 5, 6] [21, 12, 13, 14, 15, 16, 17, 18, 19, 20, 22, 23, 24, 25, 26, 27], trivial⟩
 rintro a w ⟨κ, cs184, cs190, p193, c194, p202, c203, hF, hS, -⟩
 refine hK179 _ _ ?_
 refine bif_split H (fun hb H => ?_) (fun hb H => ?_)
 refine cond_t hF (by kernel_rfl) hb ?_
 refine wpIn_seq_k fun K228 hK228 => ?_
 refine wpIn_region_lit ?_
 refine wp 1 [8] hF fun a hF => ?_
 refine wpListIn_nil ?_
 refine hK228 _ _ ?_
 refine wpIn_ret ?_
 cases H
 exact (ret_done hF hS (res1 Try.results21 (rvt hF)) ⟨rfl, (hS.pick [] (by kernel_rfl)).ro, hS.newC [] (by decide) (by kernel_rfl)⟩)
 refine cond_f hF (by kernel_rfl) hb ?_
 refine wpIn_skip ?_
 refine hK178 _ _ ?_
 refine wpIn_region_lit ?_
 refine wp 3 [3, 11, 12, 13, 146] hF fun a hF => ?_
 refine wc (wst hF hS 1 12 1 [sl none 0 0] (sgN 1 sgNil) fun a w hF hS => ?_)
 refine wpListIn_nil ?_
 refine hK126 _ _ ?_
 refine wpIn_region_lit ?_
 refine wp 3 [3, 11, 12, 13] hF fun a hF => ?_
 refine wpListIn_nil ?_
 have hS := hS.add (m := Ro.mp t_api_Mail none 0 ([] : List T_api_Mail)) (Ro.nil t_api_Mail _ _)
 exact ⟨fuel1, Nat.lt_succ_self _, _, y136, y137, y138, y139, cs140, y141, y142, p143, c144, y145, y146, y147, y148, y149, y150, v205.1, v205.2.1, v205.2.2.1, v205.2.2.2.1, cs184, v205.2.2.2.2.1, v205.2.2.2.2.2.1, v205.2.2.2.2.2.2.1, v205.2.2.2.2.2.2.2.1, v205.2.2.2.2.2.2.2.2.1, cs190, v205.2.2.2.2.2.2.2.2.2.1, v205.2.2.2.2.2.2.2.2.2.2.1, p193, c194, v205.2.2.2.2.2.2.2.2.2.2.2.1, v205.2.2.2.2.2.2.2.2.2.2.2.2.1, v205.2.2.2.2.2.2.2.2.2.2.2.2.2.1, v205.2.2.2.2.2.2.2.2.2.2.2.2.2.2.1, v205.2.2.2.2.2.2.2.2.2.2.2.2.2.2.2.1, v205.2.2.2.2.2.2.2.2.2.2.2.2.2.2.2.2.1, v205.2.2.2.2.2.2.2.2.2.2.2.2.2.2.2.2.2.1, p202, c203, IntKind.i64.wrap (y121 + 1), hF.kp [3, 11, 12, 13], hS.sp [1, 0, 4, 2, 3] [1, 11, 12, 13, 14, 15, 0, 2, 3, 4, 5, 6, 7, 8, 9, 10], H⟩
 refine cond_f hF (by kernel_rfl) hb ?_
 refine wpIn_exit ?_
 refine hK30 _ _ ?_
 refine wpIn_seq_k fun K263 hK263 => ?_
 refine wpIn_region_lit ?_
 refine bind_split H (fun x264 hx264 H => ?_)
 refine wc (wo_callP hF hS (by kernel_rfl) (by kernel_rfl) (C_law19_awake N hS.fresh   ((hS.pick [] (by kernel_rfl)).ro) hx264) ?_)
 rintro _ κ w a ⟨rfl, hR, hN⟩ hF hS hO
 refine wp 1 [8] hF fun a hF => ?_
 refine wpListIn_nil ?_
 refine hK263 _ _ ?_
 refine wpIn_ret ?_
 cases H
 exact (ret_done hF hS (res1 Try.results21 (rvt hF)) ⟨rfl, (hS.pick [] (by kernel_rfl)).ro, hS.newC [] (by decide) (by kernel_rfl)⟩)
end Go.Cf
