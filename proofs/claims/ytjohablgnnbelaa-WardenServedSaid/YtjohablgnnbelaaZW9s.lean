/- The walks: each function returns what its model says. Printed by a program of ours. -/
import Derived.Test.YtjohablgnnbelaaZM1
import Derived.Test.YtjohablgnnbelaaZW3
import Derived.Test.YtjohablgnnbelaaZW8
import Derived.Test.YtjohablgnnbelaaZW8a
namespace Go.Cf
open Go Go.Proofs
set_option linter.unusedVariables false
set_option maxRecDepth 20000 in
set_option maxHeartbeats 1000000 in
theorem C_law19_WardenServed (N : Nat) {κ0 : Gh} {w0 : World} (hfr : Fresh κ0 w0) (a1 : Int) (a2 : Int) (a3 : Int) (a4 : (List T_api_Cmd)) (a7 : (List Int)) (a10 : (List Int)) (p5 : Option Addr) (c6 : Nat) (p8 : Option Addr) (c9 : Nat) (p11 : Option Addr) (c12 : Nat) (hR : ∀ m ∈ ([Ro.mp f_api_Cmd.ty p5 c6 a4, Ro.mp (fInt .i64).ty p8 c9 a7, Ro.mp (fInt .u64).ty p11 c12 a10] : List MP), m.p κ0 w0) {r : (Bool)} (H : M.law19_WardenServed N a1 a2 a3 a4 a7 a10 = some r) :
    Calls Try.prog 20 #[vi a1, vi a2, vi a3, .slice p5 (a4).length c6, .slice p8 (a7).length c9, .slice p11 (a10).length c12] w0 (Post [] κ0 w0 fun v κ w => v = vb r ∧ (∀ m ∈ ([] : List MP), m.p κ w) ∧ NewC w0 κ w []) := by
 have hS := SS.start hfr hR
 refine enter (N := (187)) (L := [(0, vi a1), (1, vi a2), (2, vi a3), (3, .slice p5 (a4).length c6), (4, .slice p8 (a7).length c9), (5, .slice p11 (a10).length c12)]) Try.func20 rfl Try.ntmps20 (show 6 ≤ (187) by decide) rfl fun a hF => ?_
 unfold M.law19_WardenServed at H
 refine wpIn_seq_k fun K13 hK13 => ?_
 refine wpIn_region_lit ?_
 refine wp 1 (rg 6) hF fun a hF => ?_
 refine wpListIn_nil ?_
 refine hK13 _ _ ?_
 refine wpIn_seq_k fun K14 hK14 => ?_
 refine wpIn_region_lit ?_
 refine wp 3 [3, 4, 5, 27, 28, 29] hF fun a hF => ?_
 refine bind_split H (fun x15 hx15 H => ?_)
 refine wc (wo_callP hF hS (by kernel_rfl) (by kernel_rfl) (C_config_Start N hS.fresh a1 a2 a3  ((hS.pick [] (by kernel_rfl)).ro) hx15) ?_)
 rintro _ κ w a ⟨cs16, rfl, hR, hN⟩ hF hS hO
 have hS := hS.adds hR
 refine wp 3 [3, 4, 5, 31, 32] hF fun a hF => ?_
 have hS := hS.add (m := ml (List.replicate 4 false) 4) (List.length_replicate)
 have hS := hS.add (m := Arr.mp t_api_Map ((List.replicate 4 (flat [sl none 0 0, sl none 0 0])).flatten) 4 (List.replicate 4 (T_api_Map.mk ([] : List ByteArray) ([] : List Int)))) (Arr.zero _ _ _ _ _ z_api_Map)
 have hS := hS.add (m := ml (List.replicate 21 0) 21) (List.length_replicate)
 refine wc (wal hF hS [si 0, si 0, eb 4 (List.replicate 4 false), (8, (List.replicate 4 (flat [sl none 0 0, sl none 0 0])).flatten), ei 21 (List.replicate 21 0)] (sgN 2 (sgEnc List.length_replicate (sgArr (hS.get 1 rfl) (sgEnc List.length_replicate sgNil)))) fun b17 a w hF hS => ?_)
 refine wc (wst hF hS 0 0 5 [si x15.1.Pool, si x15.1.Nodes, eb 4 x15.1.Members, (8, cs16), ei 21 x15.1.Modes] (sgN 2 (sgEnc (hS.get 3 rfl) (sgArr (hS.get 4 rfl) (sgEnc (hS.get 5 rfl) sgNil)))) fun a w hF hS => ?_)
 refine wp 1 [3, 4, 5, 13, 14] hF fun a hF => ?_
 refine wpListIn_nil ?_
 refine hK14 _ _ ?_
 refine wpIn_seq_k fun K18 hK18 => ?_
 refine wpIn_seq_k fun K19 hK19 => ?_
 refine wpIn_region_lit ?_
 refine wp 2 [3, 4, 5, 13, 34] hF fun a hF => ?_
 refine wpListIn_nil ?_
 refine hK19 _ _ ?_
 refine bif_split H (fun hb H => ?_) (fun hb H => ?_)
 refine cond_t hF (by kernel_rfl) hb ?_
 refine wpIn_seq_k fun K20 hK20 => ?_
 refine wpIn_region_lit ?_
 refine bind_split H (fun x21 hx21 H => ?_)
 refine wc (wo_callP hF hS (by kernel_rfl) (by kernel_rfl) (C_law19_awake N hS.fresh   ((hS.pick [] (by kernel_rfl)).ro) hx21) ?_)
 rintro _ κ w a ⟨rfl, hR, hN⟩ hF hS hO
 refine wp 1 [12] hF fun a hF => ?_
 refine wpListIn_nil ?_
 refine hK20 _ _ ?_
 refine wpIn_ret ?_
 cases H
 exact (ret_done hF hS (res1 Try.results20 (rvt hF)) ⟨rfl, (hS.pick [] (by kernel_rfl)).ro, hS.newC [] (by decide) (by kernel_rfl)⟩)
 refine cond_f hF (by kernel_rfl) hb ?_
 refine wpIn_skip ?_
 refine hK18 _ _ ?_
 refine wpIn_seq_k fun K22 hK22 => ?_
 refine wpIn_region_lit ?_
 refine wc (wls hF hS 0 0 5 fun a hF => ?_)
 refine bind_split H (fun x23 hx23 H => ?_)
 refine wc (wcS 0 [0] hF hS (fun hS => C_warden_New N (T_config_State.mk x15.1.Pool x15.1.Nodes x15.1.Members x15.1.Maps x15.1.Modes) cs16  ⟨rfl, hS.pick [3, 4, 5] (by kernel_rfl)⟩ hx23) ?_)
 rintro _ κ w a ⟨b24, cs25, cs26, p27, c28, p29, c30, rfl, h2⟩ hF hB
 have hS := hB _ _ h2
 refine wp 1 [3, 4, 5, 15] hF fun a hF => ?_
 refine wpListIn_nil ?_
 refine hK22 _ _ ?_
 refine wpIn_seq_k fun K31 hK31 => ?_
 refine wpIn_seq_k fun K32 hK32 => ?_
 refine wpIn_region_lit ?_
 refine wp 2 [3, 4, 5, 15, 39] hF fun a hF => ?_
 refine wpListIn_nil ?_
 refine hK32 _ _ ?_
 refine cond_f hF (by kernel_rfl) rfl ?_
 refine wpIn_skip ?_
 refine hK31 _ _ ?_
 refine wpIn_seq_k fun K33 hK33 => ?_
 refine wpIn_region_lit ?_
 refine wp 1 [3, 4, 5, 15, 16] hF fun a hF => ?_
 refine wpListIn_nil ?_
 refine hK33 _ _ ?_
 refine wpIn_seq_k fun K34 hK34 => ?_
 refine wpIn_seq_k fun K35 hK35 => ?_
 refine wpIn_region_lit ?_
 refine wp 1 [3, 4, 5, 15, 16, 17] hF fun a hF => ?_
 refine wpListIn_nil ?_
 refine hK35 _ _ ?_
 refine wpIn_block ?_
 refine loop_fuel (n := N) (fun n a w => ∃ (κ : Gh) (y86 y87 : Int) (y88 : List Bool) (y89 : List T_api_Map) (cs90 : List Value) (y91 : List Int) (y92 y93 : Int) (y94 : List Bool) (y95 : List T_api_Map) (cs96 : List Value) (y97 : List Int) (y98 : List T_api_Cmd) (p99 : Option Addr) (c100 : Nat) (y101 y102 y103 : Int) (y104 : List Bool) (y105 : Int) (y106 : Bool) (y107 : List T_api_Mail) (p108 : Option Addr) (c109 : Nat) (y110 y111 : Int), Fr (187) [] [(3, .slice p5 (a4).length c6), (4, .slice p8 (a7).length c9), (5, .slice p11 (a10).length c12), (15, pt b24 0), (16, vi y110), (17, vi y111)] a ∧ SS [] κ0 w0 κ w [.box b24 120 [si y86, si y87, eb 4 y88, (8, cs90), ei 21 y91, si y92, si y93, eb 4 y94, (8, cs96), ei 21 y97, sl p99 (y98).length c100, si y101, si y102, si y103, eb 4 y104, su y105, sb y106, sl p108 (y107).length c109], .tok p99 72 6 (y98).length c100, .tok p108 106 15 (y107).length c109] [Ro.mp f_api_Cmd.ty p5 c6 a4, Ro.mp (fInt .i64).ty p8 c9 a7, Ro.mp (fInt .u64).ty p11 c12 a10, ml y88 4, Arr.mp t_api_Map cs90 4 y89, ml y91 21, ml y94 4, Arr.mp t_api_Map cs96 4 y95, ml y97 21, Ro.mp f_api_Cmd.ty p99 c100 y98, ml y104 4, Ro.mp t_api_Mail p108 c109 y107] ∧ M.law19_WardenServed_L1 N n a4 a7 a10 y86 y87 y88 y89 y91 y92 y93 y94 y95 y97 y98 y101 y102 y103 y104 y105 y106 y107 y110 y111 = some r) ?_ ?_
 exact ⟨_, x23.now.Pool, x23.now.Nodes, x23.now.Members, x23.now.Maps, cs25, x23.now.Modes, x23.tail.Pool, x23.tail.Nodes, x23.tail.Members, x23.tail.Maps, cs26, x23.tail.Modes, x23.queue, p27, c28, x23.done, x23.epoch, x23.step_, x23.wait, x23.mark_, x23.ready, x23.out, p29, c30, 0, 0, hF.kp [3, 4, 5, 15, 16, 17], hS.sp [0, 1, 2] [15, 16, 17, 0, 1, 2, 3, 4, 5, 6, 7, 8], H⟩
 rintro n a w ⟨κ, y86, y87, y88, y89, cs90, y91, y92, y93, y94, y95, cs96, y97, y98, p99, c100, y101, y102, y103, y104, y105, y106, y107, p108, c109, y110, y111, hF, hS, H⟩
 rcases n with _ | fuel1
 simp [M.law19_WardenServed_L1] at H
 simp only [M.law19_WardenServed_L1] at H
 refine wpIn_seq_k fun K112 hK112 => ?_
 refine wpIn_seq_k fun K113 hK113 => ?_
 refine wpIn_region_lit ?_
 refine bind_split H (fun v115 hv115 H => ?_)
 refine wl_join (fun a w => ∃ κ : Gh, Fr (187) [] [(3, .slice p5 (a4).length c6), (4, .slice p8 (a7).length c9), (5, .slice p11 (a10).length c12), (15, pt b24 0), (16, vi y110), (17, vi y111), (47, vb v115)] a ∧ SS [] κ0 w0 κ w [.box b24 120 [si y86, si y87, eb 4 y88, (8, cs90), ei 21 y91, si y92, si y93, eb 4 y94, (8, cs96), ei 21 y97, sl p99 (y98).length c100, si y101, si y102, si y103, eb 4 y104, su y105, sb y106, sl p108 (y107).length c109], .tok p99 72 6 (y98).length c100, .tok p108 106 15 (y107).length c109] [Ro.mp f_api_Cmd.ty p5 c6 a4, Ro.mp (fInt .i64).ty p8 c9 a7, Ro.mp (fInt .u64).ty p11 c12 a10, ml y88 4, Arr.mp t_api_Map cs90 4 y89, ml y91 21, ml y94 4, Arr.mp t_api_Map cs96 4 y95, ml y97 21, Ro.mp f_api_Cmd.ty p99 c100 y98, ml y104 4, Ro.mp t_api_Mail p108 c109 y107] ∧ True) ?_ ?_
 refine wp 5 [3, 4, 5, 15, 16, 17, 44] hF fun a hF => ?_
 refine bif_split hv115 (fun hb hv115 => ?_) (fun hb hv115 => ?_)
 have hF := hF.boolv 44 (by kernel_rfl) hb
 refine wp 3 [3, 4, 5, 15, 16, 17, 47] hF fun a hF => ?_
 refine wpListIn_nil ?_
 cases hv115
 exact ⟨_, hF.kp [3, 4, 5, 15, 16, 17, 47], hS.sp [0, 1, 2] (rg 12), trivial⟩
 have hF := hF.boolv 44 (by kernel_rfl) hb
 refine wp 3 [3, 4, 5, 15, 16, 17, 47] hF fun a hF => ?_
 refine wpListIn_nil ?_
 cases hv115
 exact ⟨_, hF.kp [3, 4, 5, 15, 16, 17, 47], hS.sp [0, 1, 2] (rg 12), trivial⟩
 rintro a w ⟨κ, hF, hS, -⟩
 refine hK113 _ _ ?_
 refine bif_split H (fun hb H => ?_) (fun hb H => ?_)
 refine cond_t hF (by kernel_rfl) hb ?_
 refine wpIn_skip ?_
 refine hK112 _ _ ?_
 refine seq_join (fun a w => ∃ (κ : Gh) (y116 y117 : Int) (y118 : List Bool) (y119 : List T_api_Map) (cs120 : List Value) (y121 : List Int) (y122 y123 : Int) (y124 : List Bool) (y125 : List T_api_Map) (cs126 : List Value) (y127 : List Int) (y128 : List T_api_Cmd) (p129 : Option Addr) (c130 : Nat) (y131 y132 y133 : Int) (y134 : List Bool) (y135 : Int) (y136 : Bool) (y137 : List T_api_Mail) (p138 : Option Addr) (c139 : Nat) (y140 : Int), Fr (187) [] [(3, .slice p5 (a4).length c6), (4, .slice p8 (a7).length c9), (5, .slice p11 (a10).length c12), (15, pt b24 0), (16, vi y140), (17, vi y111)] a ∧ SS [] κ0 w0 κ w [.box b24 120 [si y116, si y117, eb 4 y118, (8, cs120), ei 21 y121, si y122, si y123, eb 4 y124, (8, cs126), ei 21 y127, sl p129 (y128).length c130, si y131, si y132, si y133, eb 4 y134, su y135, sb y136, sl p138 (y137).length c139], .tok p129 72 6 (y128).length c130, .tok p138 106 15 (y137).length c139] [Ro.mp f_api_Cmd.ty p5 c6 a4, Ro.mp (fInt .i64).ty p8 c9 a7, Ro.mp (fInt .u64).ty p11 c12 a10, ml y118 4, Arr.mp t_api_Map cs120 4 y119, ml y121 21, ml y124 4, Arr.mp t_api_Map cs126 4 y125, ml y127 21, Ro.mp f_api_Cmd.ty p129 c130 y128, ml y134 4, Ro.mp t_api_Mail p138 c139 y137] ∧ M.law19_WardenServed_k2 N (M.law19_WardenServed_L1 N fuel1) a4 a7 a10 y111 y116 y117 y118 y119 y121 y122 y123 y124 y125 y127 y128 y131 y132 y133 y134 y135 y136 y137 y140 = some r) ?_ ?_
 refine wpIn_block ?_
 refine wpIn_seq_k fun K141 hK141 => ?_
 refine wpIn_region_lit ?_
 refine wl_pure (L' := [(3, .slice p5 (a4).length c6), (4, .slice p8 (a7).length c9), (5, .slice p11 (a10).length c12), (15, pt b24 0), (16, vi y110), (17, vi y111), (51, pt b24 0), (52, .slice p5 (a4).length c6), (53, vi y111)]) 3 [3, 4, 5, 15, 16, 17, 51, 52, 53] hF (by kernel_rfl) fun a hF => ?_
 refine bind_split H (fun x142 hx142 H => ?_)
 refine wc (wo_index hF hS (by kernel_rfl) 0 (E := 72) (sz := 6) rfl rfl rfl (by kernel_rfl) rfl hx142 (by kernel_rfl) (by kernel_rfl) fun b143 f144 a hpx142 hF => ?_)
 refine wc (wo_loadRoAgg (t := f_api_Cmd) hF hS (by kernel_rfl) 0 rfl rfl hpx142 rfl hx142 (by kernel_rfl) (by kernel_rfl) (by kernel_rfl) fun a hF => ?_)
 refine bind_split H (fun x145 hx145 H => ?_)
 refine wc (wcS 3 [0, 1, 2] hF hS (fun hS => C_warden_Warden_Ask N (T_warden_Warden.mk (T_config_State.mk y86 y87 y88 y89 y91) (T_config_State.mk y92 y93 y94 y95 y97) y98 y101 y102 y103 y104 y105 y106 y107) (T_api_Cmd.mk x142.Kind x142.DC x142.Shard x142.Node x142.Mode x142.Key) cs90 cs96 p99 c100 p108 c109 b24 ⟨rfl, hS.pick [3, 4, 5, 6, 7, 8, 9, 10, 11] (by kernel_rfl)⟩ hx145) ?_)
 rintro _ κ w a ⟨cs146, cs147, p148, c149, p150, c151, rfl, h2⟩ hF hB
 have hS := hB _ _ h2
 refine wp 5 [3, 4, 5, 15, 16, 17, 19] hF fun a hF => ?_
 refine wpListIn_nil ?_
 refine hK141 _ _ ?_
 refine wpIn_seq_k fun K152 hK152 => ?_
 refine wpIn_region_lit ?_
 refine wp 2 [3, 4, 5, 15, 16, 17, 60] hF fun a hF => ?_
 refine wpListIn_nil ?_
 refine hK152 _ _ ?_
 refine bif_split H (fun hb H => ?_) (fun hb H => ?_)
 refine cond_t hF (by kernel_rfl) hb ?_
 refine wpIn_region_lit ?_
 refine wp 3 [3, 4, 5, 15, 16, 17] hF fun a hF => ?_
 refine wpListIn_nil ?_
 exact ⟨_, x145.2.2.now.Pool, x145.2.2.now.Nodes, x145.2.2.now.Members, x145.2.2.now.Maps, cs146, x145.2.2.now.Modes, x145.2.2.tail.Pool, x145.2.2.tail.Nodes, x145.2.2.tail.Members, x145.2.2.tail.Maps, cs147, x145.2.2.tail.Modes, x145.2.2.queue, p148, c149, x145.2.2.done, x145.2.2.epoch, x145.2.2.step_, x145.2.2.wait, x145.2.2.mark_, x145.2.2.ready, x145.2.2.out, p150, c151, IntKind.i64.wrap (y110 + 1), hF.kp [3, 4, 5, 15, 16, 17], hS.sp [0, 1, 2] [9, 10, 11, 0, 1, 2, 3, 4, 5, 6, 7, 8], H⟩
 refine cond_f hF (by kernel_rfl) hb ?_
 refine wpIn_skip ?_
 exact ⟨_, x145.2.2.now.Pool, x145.2.2.now.Nodes, x145.2.2.now.Members, x145.2.2.now.Maps, cs146, x145.2.2.now.Modes, x145.2.2.tail.Pool, x145.2.2.tail.Nodes, x145.2.2.tail.Members, x145.2.2.tail.Maps, cs147, x145.2.2.tail.Modes, x145.2.2.queue, p148, c149, x145.2.2.done, x145.2.2.epoch, x145.2.2.step_, x145.2.2.wait, x145.2.2.mark_, x145.2.2.ready, x145.2.2.out, p150, c151, y110, hF.kp [3, 4, 5, 15, 16, 17], hS.sp [0, 1, 2] [9, 10, 11, 0, 1, 2, 3, 4, 5, 6, 7, 8], H⟩
 rintro a w ⟨κ, y116, y117, y118, y119, cs120, y121, y122, y123, y124, y125, cs126, y127, y128, p129, c130, y131, y132, y133, y134, y135, y136, y137, p138, c139, y140, hF, hS, H⟩
 unfold M.law19_WardenServed_k2 at H
 refine wpIn_region_lit ?_
 refine wp 3 [3, 4, 5, 15, 16, 17] hF fun a hF => ?_
 refine wpListIn_nil ?_
 exact ⟨fuel1, Nat.lt_succ_self _, _, y116, y117, y118, y119, cs120, y121, y122, y123, y124, y125, cs126, y127, y128, p129, c130, y131, y132, y133, y134, y135, y136, y137, p138, c139, y140, IntKind.i64.wrap (y111 + 1), hF.kp [3, 4, 5, 15, 16, 17], hS.sp [0, 1, 2] (rg 12), H⟩
 refine cond_f hF (by kernel_rfl) hb ?_
 refine wpIn_exit ?_
 refine hK34 _ _ ?_
 refine wpIn_seq_k fun K153 hK153 => ?_
 refine wpIn_region_lit ?_
 refine wp 1 [4, 5, 15, 16, 20] hF fun a hF => ?_
 refine wpListIn_nil ?_
 refine hK153 _ _ ?_
 refine seq_join (fun a w => ∃ (κ : Gh) (y154 y155 : Int) (y156 : List Bool) (y157 : List T_api_Map) (cs158 : List Value) (y159 : List Int) (y160 y161 : Int) (y162 : List Bool) (y163 : List T_api_Map) (cs164 : List Value) (y165 : List Int) (y166 : List T_api_Cmd) (p167 : Option Addr) (c168 : Nat) (y169 y170 y171 : Int) (y172 : List Bool) (y173 : Int) (y174 : Bool) (y175 : List T_api_Mail) (p176 : Option Addr) (c177 : Nat), Fr (187) [] [(15, pt b24 0), (16, vi y110)] a ∧ SS [] κ0 w0 κ w [.box b24 120 [si y154, si y155, eb 4 y156, (8, cs158), ei 21 y159, si y160, si y161, eb 4 y162, (8, cs164), ei 21 y165, sl p167 (y166).length c168, si y169, si y170, si y171, eb 4 y172, su y173, sb y174, sl p176 (y175).length c177], .tok p167 72 6 (y166).length c168, .tok p176 106 15 (y175).length c177] [ml y156 4, Arr.mp t_api_Map cs158 4 y157, ml y159 21, ml y162 4, Arr.mp t_api_Map cs164 4 y163, ml y165 21, Ro.mp f_api_Cmd.ty p167 c168 y166, ml y172 4, Ro.mp t_api_Mail p176 c177 y175] ∧ M.law19_WardenServed_k3 N y110 y154 y155 y156 y157 y159 y160 y161 y162 y163 y165 y166 y169 y170 y171 y172 y173 y174 y175 = some r) ?_ ?_
 refine wpIn_seq_k fun K191 hK191 => ?_
 refine wpIn_region_lit ?_
 refine wp 1 [4, 5, 15, 16, 20, 21] hF fun a hF => ?_
 refine wpListIn_nil ?_
 refine hK191 _ _ ?_
 refine wpIn_block ?_
 refine loop_fuel (n := N) (fun n a w => ∃ (κ : Gh) (y242 y243 : Int) (y244 : List Bool) (y245 : List T_api_Map) (cs246 : List Value) (y247 : List Int) (y248 y249 : Int) (y250 : List Bool) (y251 : List T_api_Map) (cs252 : List Value) (y253 : List Int) (y254 : List T_api_Cmd) (p255 : Option Addr) (c256 : Nat) (y257 y258 y259 : Int) (y260 : List Bool) (y261 : Int) (y262 : Bool) (y263 : List T_api_Mail) (p264 : Option Addr) (c265 : Nat) (y266 : List T_api_Mail) (p267 : Option Addr) (c268 : Nat) (y269 : Int), Fr (187) [] [(4, .slice p8 (a7).length c9), (5, .slice p11 (a10).length c12), (15, pt b24 0), (16, vi y110), (20, .slice p267 (y266).length c268), (21, vi y269)] a ∧ SS [] κ0 w0 κ w [.box b24 120 [si y242, si y243, eb 4 y244, (8, cs246), ei 21 y247, si y248, si y249, eb 4 y250, (8, cs252), ei 21 y253, sl p255 (y254).length c256, si y257, si y258, si y259, eb 4 y260, su y261, sb y262, sl p264 (y263).length c265], .tok p255 72 6 (y254).length c256, .tok p264 106 15 (y263).length c265, .tok p267 106 15 (y266).length c268] [Ro.mp (fInt .i64).ty p8 c9 a7, Ro.mp (fInt .u64).ty p11 c12 a10, Ro.mp t_api_Mail p267 c268 y266, ml y244 4, Arr.mp t_api_Map cs246 4 y245, ml y247 21, ml y250 4, Arr.mp t_api_Map cs252 4 y251, ml y253 21, Ro.mp f_api_Cmd.ty p255 c256 y254, ml y260 4, Ro.mp t_api_Mail p264 c265 y263] ∧ M.law19_WardenServed_L4 N n a7 a10 y110 y242 y243 y244 y245 y247 y248 y249 y250 y251 y253 y254 y257 y258 y259 y260 y261 y262 y263 y266 y269 = some r) ?_ ?_
 have hS := hS.add (m := Ro.mp t_api_Mail none 0 ([] : List T_api_Mail)) (Ro.nil t_api_Mail _ _)
 have hS := hS.addNil 106 15
 exact ⟨_, y86, y87, y88, y89, cs90, y91, y92, y93, y94, y95, cs96, y97, y98, p99, c100, y101, y102, y103, y104, y105, y106, y107, p108, c109, ([] : List T_api_Mail), none, 0, 0, hF.kp [4, 5, 15, 16, 20, 21], hS.sp [1, 2, 3, 0] [2, 3, 0, 4, 5, 6, 7, 8, 9, 10, 11, 12], H⟩
 rintro n a w ⟨κ, y242, y243, y244, y245, cs246, y247, y248, y249, y250, y251, cs252, y253, y254, p255, c256, y257, y258, y259, y260, y261, y262, y263, p264, c265, y266, p267, c268, y269, hF, hS, H⟩
 rcases n with _ | fuel4
 simp [M.law19_WardenServed_L4] at H
 simp only [M.law19_WardenServed_L4] at H
 refine wpIn_seq_k fun K270 hK270 => ?_
 refine wpIn_seq_k fun K271 hK271 => ?_
 refine wpIn_region_lit ?_
 refine wp 2 [4, 5, 15, 16, 20, 21, 64] hF fun a hF => ?_
 refine wpListIn_nil ?_
 refine hK271 _ _ ?_
 refine bif_split H (fun hb H => ?_) (fun hb H => ?_)
 refine cond_t hF (by kernel_rfl) hb ?_
 refine wpIn_skip ?_
 refine hK270 _ _ ?_
 refine seq_join (fun a w => ∃ (κ : Gh) (y272 y273 : Int) (y274 : List Bool) (y275 : List T_api_Map) (cs276 : List Value) (y277 : List Int) (y278 y279 : Int) (y280 : List Bool) (y281 : List T_api_Map) (cs282 : List Value) (y283 : List Int) (y284 : List T_api_Cmd) (p285 : Option Addr) (c286 : Nat) (y287 y288 y289 : Int) (y290 : List Bool) (y291 : Int) (y292 : Bool) (y293 : List T_api_Mail) (p294 : Option Addr) (c295 : Nat) (y296 : List T_api_Mail) (p297 : Option Addr) (c298 : Nat), Fr (187) [] [(4, .slice p8 (a7).length c9), (5, .slice p11 (a10).length c12), (15, pt b24 0), (16, vi y110), (20, .slice p297 (y296).length c298), (21, vi y269)] a ∧ SS [] κ0 w0 κ w [.box b24 120 [si y272, si y273, eb 4 y274, (8, cs276), ei 21 y277, si y278, si y279, eb 4 y280, (8, cs282), ei 21 y283, sl p285 (y284).length c286, si y287, si y288, si y289, eb 4 y290, su y291, sb y292, sl p294 (y293).length c295], .tok p285 72 6 (y284).length c286, .tok p294 106 15 (y293).length c295, .tok p297 106 15 (y296).length c298] [Ro.mp (fInt .i64).ty p8 c9 a7, Ro.mp (fInt .u64).ty p11 c12 a10, Ro.mp t_api_Mail p297 c298 y296, ml y274 4, Arr.mp t_api_Map cs276 4 y275, ml y277 21, ml y280 4, Arr.mp t_api_Map cs282 4 y281, ml y283 21, Ro.mp f_api_Cmd.ty p285 c286 y284, ml y290 4, Ro.mp t_api_Mail p294 c295 y293] ∧ M.law19_WardenServed_k5 N (M.law19_WardenServed_L4 N fuel4) a7 a10 y110 y269 y272 y273 y274 y275 y277 y278 y279 y280 y281 y283 y284 y287 y288 y289 y290 y291 y292 y293 y296 = some r) ?_ ?_
 refine wpIn_block ?_
 refine wpIn_seq_k fun K299 hK299 => ?_
 refine wpIn_region_lit ?_
 refine wl_pure (L' := [(4, .slice p8 (a7).length c9), (5, .slice p11 (a10).length c12), (15, pt b24 0), (16, vi y110), (21, vi y269), (67, .slice p267 (y266).length c268), (68, pt b24 0)]) 2 [4, 5, 15, 16, 21, 67, 68] hF (by kernel_rfl) fun a hF => ?_
 refine bind_split H (fun x300 hx300 H => ?_)
 refine wc (wcS 3 (rg 4) hF hS (fun hS => C_warden_Warden_Out N (T_warden_Warden.mk (T_config_State.mk y242 y243 y244 y245 y247) (T_config_State.mk y248 y249 y250 y251 y253) y254 y257 y258 y259 y260 y261 y262 y263) cs246 cs252 p255 c256 p264 c265 b24 ⟨rfl, hS.pick [3, 4, 5, 6, 7, 8, 9, 10, 11] (by kernel_rfl)⟩ hx300) ?_)
 rintro _ κ w a ⟨p301, c302, cs303, cs304, p305, c306, p307, c308, rfl, h2⟩ hF hB
 have hS := hB _ _ h2
 refine bind_split H (fun x309 hx309 H => ?_)
 refine wc (wo_append (ty := t_api_Mail) hF hS (by kernel_rfl) 4 12 0 rfl rfl rfl (by kernel_rfl) (by kernel_rfl) rfl rfl rfl hx309 (by kernel_rfl) (i := Try.t106) (z := .agg (flat [si 0, si 0, su 0, su 0, su 0, sg ByteArray.empty, sg ByteArray.empty, sl none 0 0, sl none 0 0, si 0, si 0, si 0, si 0, si 0, sg ByteArray.empty]).toArray) (by kernel_rfl) (by kernel_rfl) (by kernel_rfl) fun p310 c311 κ a w hF hS => ?_)
 refine wp 1 [4, 5, 15, 16, 20, 21] hF fun a hF => ?_
 refine wpListIn_nil ?_
 refine hK299 _ _ ?_
 refine wpIn_seq_k fun K312 hK312 => ?_
 refine wpIn_seq_k fun K313 hK313 => ?_
 refine wpIn_region_lit ?_
 refine wp 3 [4, 5, 15, 16, 20, 21, 73] hF fun a hF => ?_
 refine wpListIn_nil ?_
 refine hK313 _ _ ?_
 refine bif_split H (fun hb H => ?_) (fun hb H => ?_)
 refine cond_t hF (by kernel_rfl) hb ?_
 refine wpIn_exit ?_
 exact ⟨_, x300.2.now.Pool, x300.2.now.Nodes, x300.2.now.Members, x300.2.now.Maps, cs303, x300.2.now.Modes, x300.2.tail.Pool, x300.2.tail.Nodes, x300.2.tail.Members, x300.2.tail.Maps, cs304, x300.2.tail.Modes, x300.2.queue, p305, c306, x300.2.done, x300.2.epoch, x300.2.step_, x300.2.wait, x300.2.mark_, x300.2.ready, x300.2.out, p307, c308, hF.kp [15, 16], hS.sp [0, 1, 2] [2, 3, 4, 5, 6, 7, 8, 9, 10], H⟩
 refine cond_f hF (by kernel_rfl) hb ?_
 refine wpIn_skip ?_
 refine hK312 _ _ ?_
 refine wpIn_seq_k fun K314 hK314 => ?_
 refine wpIn_region_lit ?_
 refine wp 1 [4, 5, 15, 16, 20, 21, 22] hF fun a hF => ?_
 refine wpListIn_nil ?_
 refine hK314 _ _ ?_
 refine seq_join (fun a w => ∃ (κ : Gh) (y315 : Int), Fr (187) [] [(4, .slice p8 (a7).length c9), (5, .slice p11 (a10).length c12), (15, pt b24 0), (16, vi y110), (20, .slice p310 (x309).length c311), (21, vi y269), (22, vi y315)] a ∧ SS [] κ0 w0 κ w [.box b24 120 [si x300.2.now.Pool, si x300.2.now.Nodes, eb 4 x300.2.now.Members, (8, cs303), ei 21 x300.2.now.Modes, si x300.2.tail.Pool, si x300.2.tail.Nodes, eb 4 x300.2.tail.Members, (8, cs304), ei 21 x300.2.tail.Modes, sl p305 (x300.2.queue).length c306, si x300.2.done, si x300.2.epoch, si x300.2.step_, eb 4 x300.2.wait, su x300.2.mark_, sb x300.2.ready, sl p307 (x300.2.out).length c308], .tok p305 72 6 (x300.2.queue).length c306, .tok p307 106 15 (x300.2.out).length c308, .tok p310 106 15 (x309).length c311] [Ro.mp (fInt .i64).ty p8 c9 a7, Ro.mp (fInt .u64).ty p11 c12 a10, Ro.mp t_api_Mail p310 c311 x309, ml x300.2.now.Members 4, Arr.mp t_api_Map cs303 4 x300.2.now.Maps, ml x300.2.now.Modes 21, ml x300.2.tail.Members 4, Arr.mp t_api_Map cs304 4 x300.2.tail.Maps, ml x300.2.tail.Modes 21, Ro.mp f_api_Cmd.ty p305 c306 x300.2.queue, ml x300.2.wait 4, Ro.mp t_api_Mail p307 c308 x300.2.out] ∧ M.law19_WardenServed_k6 N (M.law19_WardenServed_L4 N fuel4) a7 a10 y110 y269 x300 x309 y315 = some r) ?_ ?_
 refine wpIn_seq_k fun K373 hK373 => ?_
 refine wpIn_region_lit ?_
 refine wp 4 [4, 5, 15, 16, 20, 21, 22, 77] hF fun a hF => ?_
 refine wpListIn_nil ?_
 refine hK373 _ _ ?_
 refine bif_split H (fun hb H => ?_) (fun hb H => ?_)
 refine cond_t hF (by kernel_rfl) hb ?_
 refine wpIn_region_lit ?_
 refine wl_pure (L' := [(4, .slice p8 (a7).length c9), (5, .slice p11 (a10).length c12), (15, pt b24 0), (16, vi y110), (20, .slice p310 (x309).length c311), (21, vi y269), (78, .slice p8 (a7).length c9), (79, vi y269)]) 2 [4, 5, 15, 16, 20, 21, 78, 79] hF (by kernel_rfl) fun a hF => ?_
 refine bind_split H (fun x374 hx374 H => ?_)
 refine wc (wo_index hF hS (by kernel_rfl) 11 (E := 3) (sz := 1) rfl rfl rfl (by kernel_rfl) rfl hx374 (by kernel_rfl) (by kernel_rfl) fun b375 f376 a hpx374 hF => ?_)
 refine wc (wo_loadRo (t := (fInt .i64)) hF hS (by kernel_rfl) 11 0 (v := vi x374) rfl rfl hpx374 rfl hx374 (by kernel_rfl) (by kernel_rfl) (by kernel_rfl) fun a hF => ?_)
 refine wl_pure (L' := [(4, .slice p8 (a7).length c9), (5, .slice p11 (a10).length c12), (15, pt b24 0), (16, vi y110), (20, .slice p310 (x309).length c311), (21, vi y269), (82, vu (IntKind.u64.wrap x374)), (85, vu (IntKind.u64.wrap ((x309).length : Int)))]) 4 [4, 5, 15, 16, 20, 21, 82, 85] hF (by kernel_rfl) fun a hF => ?_
 refine bind_split H (fun x377 hx377 H => ?_)
 refine wc (wo_val hF (by kernel_rfl) (v := vu x377) ((val_rem rfl rfl rfl hx377) _) fun a hF => ?_)
 refine wp 2 [4, 5, 15, 16, 20, 21, 22] hF fun a hF => ?_
 refine wpListIn_nil ?_
 exact ⟨_, IntKind.i64.wrap x377, hF.kp [4, 5, 15, 16, 20, 21, 22], hS.sp [0, 1, 2, 4] [11, 12, 0, 2, 3, 4, 5, 6, 7, 8, 9, 10], H⟩
 refine cond_f hF (by kernel_rfl) hb ?_
 refine wpIn_skip ?_
 exact ⟨_, 0, hF.kp [4, 5, 15, 16, 20, 21, 22], hS.sp [0, 1, 2, 4] [11, 12, 0, 2, 3, 4, 5, 6, 7, 8, 9, 10], H⟩
 rintro a w ⟨κ, y315, hF, hS, H⟩
 unfold M.law19_WardenServed_k6 at H
 refine wpIn_seq_k fun K316 hK316 => ?_
 refine wpIn_region_lit ?_
 refine wl_pure (L' := [(4, .slice p8 (a7).length c9), (5, .slice p11 (a10).length c12), (15, pt b24 0), (16, vi y110), (20, .slice p310 (x309).length c311), (21, vi y269), (22, vi y315), (88, .slice p310 (x309).length c311), (89, vi y315)]) 2 [4, 5, 15, 16, 20, 21, 22, 88, 89] hF (by kernel_rfl) fun a hF => ?_
 refine bind_split H (fun x317 hx317 H => ?_)
 refine wc (wo_index hF hS (by kernel_rfl) 2 (E := 106) (sz := 15) rfl rfl rfl (by kernel_rfl) rfl hx317 (by kernel_rfl) (by kernel_rfl) fun b318 f319 a hpx317 hF => ?_)
 obtain ⟨_, ⟨⟨p320, c321, p322, c323⟩, rfl, hR⟩, hc⟩ := hS.elem 2 rfl hpx317 hx317
 have hS := (hS.adds hR).add hc
 refine wc (wo_val hF (by kernel_rfl) (v := .agg (flat [si x317.To, si x317.Msg.Kind, su x317.Msg.Id, su x317.Msg.N, su x317.Msg.TS, sg x317.Msg.Lo, sg x317.Msg.Hi, sl p320 (x317.Msg.Vers).length c321, sl p322 (x317.Msg.Vec).length c323, si x317.Msg.Cmd.Kind, si x317.Msg.Cmd.DC, si x317.Msg.Cmd.Shard, si x317.Msg.Cmd.Node, si x317.Msg.Cmd.Mode, sg x317.Msg.Cmd.Key]).toArray) ((val_loadCs 0 0 15 (s := [si x317.To, si x317.Msg.Kind, su x317.Msg.Id, su x317.Msg.N, su x317.Msg.TS, sg x317.Msg.Lo, sg x317.Msg.Hi, sl p320 (x317.Msg.Vers).length c321, sl p322 (x317.Msg.Vec).length c323, si x317.Msg.Cmd.Kind, si x317.Msg.Cmd.DC, si x317.Msg.Cmd.Shard, si x317.Msg.Cmd.Node, si x317.Msg.Cmd.Mode, sg x317.Msg.Cmd.Key]) (s' := [si x317.To, si x317.Msg.Kind, su x317.Msg.Id, su x317.Msg.N, su x317.Msg.TS, sg x317.Msg.Lo, sg x317.Msg.Hi, sl p320 (x317.Msg.Vers).length c321, sl p322 (x317.Msg.Vec).length c323, si x317.Msg.Cmd.Kind, si x317.Msg.Cmd.DC, si x317.Msg.Cmd.Shard, si x317.Msg.Cmd.Node, si x317.Msg.Cmd.Mode, sg x317.Msg.Cmd.Key]) (n := 15) rfl rfl rfl (show segGood [si x317.To, si x317.Msg.Kind, su x317.Msg.Id, su x317.Msg.N, su x317.Msg.TS, sg x317.Msg.Lo, sg x317.Msg.Hi, sl p320 (x317.Msg.Vers).length c321, sl p322 (x317.Msg.Vec).length c323, si x317.Msg.Cmd.Kind, si x317.Msg.Cmd.DC, si x317.Msg.Cmd.Shard, si x317.Msg.Cmd.Node, si x317.Msg.Cmd.Mode, sg x317.Msg.Cmd.Key] from (sgN 15 sgNil)) (by kernel_rfl) (by kernel_rfl) (by kernel_rfl) (by kernel_rfl) (by kernel_rfl) w ⟨_, hS⟩)) fun a hF => ?_)
 refine wc (wal hF hS [si 0, si 0, su 0, su 0, su 0, sg ByteArray.empty, sg ByteArray.empty, sl none 0 0, sl none 0 0, si 0, si 0, si 0, si 0, si 0, sg ByteArray.empty] (sgN 15 sgNil) fun b324 a w hF hS => ?_)
 refine wc (wst hF hS 0 0 15 [si x317.To, si x317.Msg.Kind, su x317.Msg.Id, su x317.Msg.N, su x317.Msg.TS, sg x317.Msg.Lo, sg x317.Msg.Hi, sl p320 (x317.Msg.Vers).length c321, sl p322 (x317.Msg.Vec).length c323, si x317.Msg.Cmd.Kind, si x317.Msg.Cmd.DC, si x317.Msg.Cmd.Shard, si x317.Msg.Cmd.Node, si x317.Msg.Cmd.Mode, sg x317.Msg.Cmd.Key] (sgN 15 sgNil) fun a w hF hS => ?_)
 refine wpListIn_nil ?_
 refine hK316 _ _ ?_
 refine wpIn_seq_k fun K325 hK325 => ?_
 refine rgS hS [] ?_
 have hS := hS.drew
 refine bind_split H (fun x327 hx327 H => ?_)
 refine bind_split H (fun x330 hx330 H => ?_)
 refine bind_split H (fun x333 hx333 H => ?_)
 refine bind_split H (fun x336 hx336 H => ?_)
 refine any_pure [1, 2, 5, 6, 7] [4, 5, 15, 16, 20, 21, 23, 93, 94, 97, 99] (L' := [(4, .slice p8 (a7).length c9), (5, .slice p11 (a10).length c12), (15, pt b24 0), (16, vi y110), (20, .slice p310 (x309).length c311), (21, vi y269), (23, pt b324 0), (93, .slice p310 (x309).length c311), (94, vi y315), (97, .slice p310 (x309).length c311), (99, vi (IntKind.i64.wrap (y315 + 1)))]) (listed' := (bitA 11 230)) (fuel := 6) hF (hS.sx [0, 1] (rg 15)) (by kernel_rfl) (by intro c a w t v h; cases t <;> exact h) (by kernel_rfl) rfl fun a hF => ?_
 obtain ⟨p328, c329, hvx327, hrx327⟩ := slice_val Try.prog t_api_Mail (L := [(4, .slice p8 (a7).length c9), (5, .slice p11 (a10).length c12), (15, pt b24 0), (16, vi y110), (20, .slice p310 (x309).length c311), (21, vi y269), (23, pt b324 0), (93, .slice p310 (x309).length c311), (94, vi y315), (97, .slice p310 (x309).length c311), (99, vi (IntKind.i64.wrap (y315 + 1)))]) (o := ⟨(some 95), (Go.Op.slice 90 (Go.Operand.tmp 93) none (some (Go.Operand.tmp 94)) none), 90, "law.go:154", #[(Go.Edge.mk 1 Go.Ground.data), (Go.Edge.mk 2 Go.Ground.data)], none⟩) (E := 106) (lo := 0) (hi := y315) rfl (hS.get 5 rfl : Ro t_api_Mail _ _ p310 c311 x309).1 rfl rfl rfl ⟨_, rfl⟩ hx327 (by kernel_rfl) (by kernel_rfl)
 have hS := hS.add (m := Ro.mp t_api_Mail p328 c329 x327) (hrx327 _ _ (hS.get 5 rfl))
 refine atk 3 (some 95) hF (hS.sx [0, 1] [1, 2, 3, 4, 5, 6, 7, 8, 9, 10, 11, 12, 13, 14, 15]) rfl (fun w _ => hvx327 w) fun a hF => ?_
 obtain ⟨p334, c335, hvx333, hrx333⟩ := slice_val Try.prog t_api_Mail (L := [(4, .slice p8 (a7).length c9), (5, .slice p11 (a10).length c12), (15, pt b24 0), (16, vi y110), (20, .slice p310 (x309).length c311), (21, vi y269), (23, pt b324 0), (93, .slice p310 (x309).length c311), (94, vi y315), (95, .slice p328 (x327).length c329), (97, .slice p310 (x309).length c311), (99, vi (IntKind.i64.wrap (y315 + 1)))]) (o := ⟨(some 100), (Go.Op.slice 90 (Go.Operand.tmp 97) (some (Go.Operand.tmp 99)) none none), 90, "law.go:154", #[(Go.Edge.mk 5 Go.Ground.data), (Go.Edge.mk 7 Go.Ground.data)], none⟩) (E := 106) (lo := IntKind.i64.wrap (y315 + 1)) (hi := ((x309).length : Int)) rfl (hS.get 6 rfl : Ro t_api_Mail _ _ p310 c311 x309).1 rfl rfl ⟨_, rfl⟩ rfl hx333 (by kernel_rfl) (by kernel_rfl)
 have hS := hS.add (m := Ro.mp t_api_Mail p334 c335 x333) (hrx333 _ _ (hS.get 6 rfl))
 refine atk 8 (some 100) hF (hS.sx [0, 1] [2, 3, 4, 5, 6, 7, 8, 9, 10, 11, 12, 13, 14, 15, 16]) rfl (fun w _ => hvx333 w) fun a hF => ?_
 refine ago 0 hF rfl ?_
 refine wo_build0 hF hS (by kernel_rfl) t_api_Mail (E := 106) rfl (by kernel_rfl) (by kernel_rfl) fun p326 κ a w hF hS => ?_
 refine ⟨fun _ => (hS.sx [1, 2] [3, 4, 5, 6, 7, 8, 9, 10, 11, 12, 13, 14, 15, 16, 17]), ?_⟩
 refine ago 4 hF rfl ?_
 refine wo_append (ty := t_api_Mail) hF hS (by kernel_rfl) 0 0 2 rfl rfl rfl (by kernel_rfl) (by kernel_rfl) rfl rfl rfl hx330 (by kernel_rfl) (i := Try.t106) (z := .agg (flat [si 0, si 0, su 0, su 0, su 0, sg ByteArray.empty, sg ByteArray.empty, sl none 0 0, sl none 0 0, si 0, si 0, si 0, si 0, si 0, sg ByteArray.empty]).toArray) (by kernel_rfl) (by kernel_rfl) (by kernel_rfl) fun p331 c332 κ a w hF hS => ?_
 refine ⟨fun _ => (hS.sx [1, 2] [4, 5, 6, 7, 8, 9, 10, 11, 12, 13, 14, 15, 16, 17, 18]), ?_⟩
 refine ago 9 hF rfl ?_
 refine wo_append (ty := t_api_Mail) hF hS (by kernel_rfl) 0 0 2 rfl rfl rfl (by kernel_rfl) (by kernel_rfl) rfl rfl rfl hx336 (by kernel_rfl) (i := Try.t106) (z := .agg (flat [si 0, si 0, su 0, su 0, su 0, sg ByteArray.empty, sg ByteArray.empty, sl none 0 0, sl none 0 0, si 0, si 0, si 0, si 0, si 0, sg ByteArray.empty]).toArray) (by kernel_rfl) (by kernel_rfl) (by kernel_rfl) fun p337 c338 κ a w hF hS => ?_
 refine ⟨fun _ => (hS.sx [1, 2] [5, 6, 7, 8, 9, 10, 11, 12, 13, 14, 15, 16, 17, 18, 19]), ?_⟩
 refine anp [10] [4, 5, 15, 16, 20, 21, 23] hF (hS.sx [1, 2] [5, 6, 7, 8, 9, 10, 11, 12, 13, 14, 15, 16, 17, 18, 19]) fun a hF => ?_
 refine and_ ?_
 refine hK325 _ _ ?_
 refine wpIn_seq_k fun K339 hK339 => ?_
 refine wpIn_region_lit ?_
 refine wp 3 [4, 5, 15, 16, 20, 21, 23, 24] hF fun a hF => ?_
 refine wpListIn_nil ?_
 refine hK339 _ _ ?_
 refine seq_join (fun a w => ∃ (κ : Gh) (y340 : Int), Fr (187) [] [(4, .slice p8 (a7).length c9), (5, .slice p11 (a10).length c12), (15, pt b24 0), (16, vi y110), (20, .slice p337 (x336).length c338), (21, vi y269), (23, pt b324 0), (24, vu y340)] a ∧ SS [] κ0 w0 κ w [.box b324 106 [si x317.To, si x317.Msg.Kind, su x317.Msg.Id, su x317.Msg.N, su x317.Msg.TS, sg x317.Msg.Lo, sg x317.Msg.Hi, sl p320 (x317.Msg.Vers).length c321, sl p322 (x317.Msg.Vec).length c323, si x317.Msg.Cmd.Kind, si x317.Msg.Cmd.DC, si x317.Msg.Cmd.Shard, si x317.Msg.Cmd.Node, si x317.Msg.Cmd.Mode, sg x317.Msg.Cmd.Key], .box b24 120 [si x300.2.now.Pool, si x300.2.now.Nodes, eb 4 x300.2.now.Members, (8, cs303), ei 21 x300.2.now.Modes, si x300.2.tail.Pool, si x300.2.tail.Nodes, eb 4 x300.2.tail.Members, (8, cs304), ei 21 x300.2.tail.Modes, sl p305 (x300.2.queue).length c306, si x300.2.done, si x300.2.epoch, si x300.2.step_, eb 4 x300.2.wait, su x300.2.mark_, sb x300.2.ready, sl p307 (x300.2.out).length c308], .tok p337 106 15 (x336).length c338, .tok p305 72 6 (x300.2.queue).length c306, .tok p307 106 15 (x300.2.out).length c308] [Ro.mp (fInt .i64).ty p8 c9 a7, Ro.mp (fInt .u64).ty p11 c12 a10, Ro.mp t_api_Mail p337 c338 x336, Ro.mp f_api_Ver.ty p320 c321 x317.Msg.Vers, Ro.mp (fInt .u64).ty p322 c323 x317.Msg.Vec, ml x300.2.now.Members 4, Arr.mp t_api_Map cs303 4 x300.2.now.Maps, ml x300.2.now.Modes 21, ml x300.2.tail.Members 4, Arr.mp t_api_Map cs304 4 x300.2.tail.Maps, ml x300.2.tail.Modes 21, Ro.mp f_api_Cmd.ty p305 c306 x300.2.queue, ml x300.2.wait 4, Ro.mp t_api_Mail p307 c308 x300.2.out] ∧ M.law19_WardenServed_k7 N (M.law19_WardenServed_L4 N fuel4) a7 a10 y110 y269 x300 x317 x336 y340 = some r) ?_ ?_
 refine wpIn_seq_k fun K369 hK369 => ?_
 refine wpIn_region_lit ?_
 refine wp 4 [4, 5, 15, 16, 20, 21, 23, 24, 107] hF fun a hF => ?_
 refine wpListIn_nil ?_
 refine hK369 _ _ ?_
 refine bif_split H (fun hb H => ?_) (fun hb H => ?_)
 refine cond_t hF (by kernel_rfl) hb ?_
 refine wpIn_region_lit ?_
 refine wl_pure (L' := [(4, .slice p8 (a7).length c9), (5, .slice p11 (a10).length c12), (15, pt b24 0), (16, vi y110), (20, .slice p337 (x336).length c338), (21, vi y269), (23, pt b324 0), (108, .slice p11 (a10).length c12), (109, vi y269)]) 2 [4, 5, 15, 16, 20, 21, 23, 108, 109] hF (by kernel_rfl) fun a hF => ?_
 refine bind_split H (fun x370 hx370 H => ?_)
 refine wc (wo_index hF hS (by kernel_rfl) 9 (E := 92) (sz := 1) rfl rfl rfl (by kernel_rfl) rfl hx370 (by kernel_rfl) (by kernel_rfl) fun b371 f372 a hpx370 hF => ?_)
 refine wc (wo_loadRo (t := (fInt .u64)) hF hS (by kernel_rfl) 9 0 (v := vu x370) rfl rfl hpx370 rfl hx370 (by kernel_rfl) (by kernel_rfl) (by kernel_rfl) fun a hF => ?_)
 refine wp 1 [4, 5, 15, 16, 20, 21, 23, 24] hF fun a hF => ?_
 refine wpListIn_nil ?_
 exact ⟨_, x370, hF.kp [4, 5, 15, 16, 20, 21, 23, 24], hS.sp [1, 2, 0, 3, 4] [8, 9, 0, 6, 7, 11, 12, 13, 14, 15, 16, 17, 18, 19], H⟩
 refine cond_f hF (by kernel_rfl) hb ?_
 refine wpIn_skip ?_
 exact ⟨_, IntKind.u64.wrap y269, hF.kp [4, 5, 15, 16, 20, 21, 23, 24], hS.sp [1, 2, 0, 3, 4] [8, 9, 0, 6, 7, 11, 12, 13, 14, 15, 16, 17, 18, 19], H⟩
 rintro a w ⟨κ, y340, hF, hS, H⟩
 unfold M.law19_WardenServed_k7 at H
 refine wpIn_seq_k fun K341 hK341 => ?_
 refine wpIn_region_lit ?_
 refine wp 1 [4, 5, 15, 16, 20, 21, 23, 24, 112] hF fun a hF => ?_
 refine wc (wld hF hS 0 0 0 fun a hF => ?_)
 refine wp 3 [4, 5, 15, 16, 20, 21, 23, 24, 25] hF fun a hF => ?_
 refine wpListIn_nil ?_
 refine hK341 _ _ ?_
 refine wpIn_block ?_
 refine wpIn_seq_k fun K342 hK342 => ?_
 refine wpIn_region_lit ?_
 refine wp 2 [4, 5, 15, 16, 20, 21, 23, 24, 25, 118] hF fun a hF => ?_
 refine wc (wld hF hS 0 1 0 fun a hF => ?_)
 refine wp 2 [4, 5, 15, 16, 20, 21, 23, 24, 25, 116] hF fun a hF => ?_
 refine wpListIn_nil ?_
 refine hK342 _ _ ?_
 refine bif_split H (fun hb H => ?_) (fun hb H => ?_)
 refine cond_t hF (by kernel_rfl) hb ?_
 refine wpIn_region_lit ?_
 refine wp 4 [4, 5, 15, 16, 20, 21, 121, 122, 124] hF fun a hF => ?_
 refine wc (wld hF hS 0 2 0 fun a hF => ?_)
 refine wp 1 [4, 5, 15, 16, 20, 21, 121, 122, 126] hF fun a hF => ?_
 have hS := hS.add (m := Ro.mp f_api_Ver.ty none 0 ([] : List T_api_Ver)) (Ro.nil f_api_Ver.ty _ _)
 have hS := hS.add (m := Ro.mp (fInt .u64).ty none 0 ([] : List Int)) (Ro.nil (fInt .u64).ty _ _)
 refine bind_split H (fun x343 hx343 H => ?_)
 refine wc (wcS 3 [1, 3, 4, 0, 2] hF hS (fun hS => C_warden_Warden_Take N (T_warden_Warden.mk (T_config_State.mk x300.2.now.Pool x300.2.now.Nodes x300.2.now.Members x300.2.now.Maps x300.2.now.Modes) (T_config_State.mk x300.2.tail.Pool x300.2.tail.Nodes x300.2.tail.Members x300.2.tail.Maps x300.2.tail.Modes) x300.2.queue x300.2.done x300.2.epoch x300.2.step_ x300.2.wait x300.2.mark_ x300.2.ready x300.2.out) (IntKind.i64.wrap (Int.tdiv (IntKind.i64.wrap (x317.To - 1)) 5)) (T_api_Msg.mk 24 x317.Msg.Id 0 0 ByteArray.empty ByteArray.empty ([] : List T_api_Ver) ([] : List Int) (T_api_Cmd.mk 0 0 0 0 0 ByteArray.empty)) cs303 cs304 p305 c306 p307 c308 none 0 none 0 b24 ⟨rfl, hS.pick [7, 8, 9, 10, 11, 12, 13, 14, 15, 1, 0] (by kernel_rfl)⟩ hx343) ?_)
 rintro _ κ w a ⟨cs344, cs345, p346, c347, p348, c349, rfl, h2⟩ hF hB
 have hS := hB _ _ h2
 refine wpListIn_nil ?_
 exact ⟨_, x343.now.Pool, x343.now.Nodes, x343.now.Members, x343.now.Maps, cs344, x343.now.Modes, x343.tail.Pool, x343.tail.Nodes, x343.tail.Members, x343.tail.Maps, cs345, x343.tail.Modes, x343.queue, p346, c347, x343.done, x343.epoch, x343.step_, x343.wait, x343.mark_, x343.ready, x343.out, p348, c349, x336, p337, c338, hF.kp [4, 5, 15, 16, 20, 21], hS.sp [0, 1, 2, 4] [11, 12, 13, 0, 1, 2, 3, 4, 5, 6, 7, 8], H⟩
 refine cond_f hF (by kernel_rfl) hb ?_
 refine wpIn_seq_k fun K350 hK350 => ?_
 refine wpIn_region_lit ?_
 refine wp 2 [4, 5, 15, 16, 20, 21, 23, 24, 25, 130] hF fun a hF => ?_
 refine wc (wld hF hS 0 1 0 fun a hF => ?_)
 refine wp 2 [4, 5, 15, 16, 20, 21, 23, 24, 25, 128] hF fun a hF => ?_
 refine wpListIn_nil ?_
 refine hK350 _ _ ?_
 refine bif_split H (fun hb H => ?_) (fun hb H => ?_)
 refine cond_t hF (by kernel_rfl) hb ?_
 refine wpIn_seq_k fun K351 hK351 => ?_
 refine wpIn_region_lit ?_
 refine wp 4 [4, 5, 15, 16, 20, 21, 23, 24, 25, 133, 134, 136] hF fun a hF => ?_
 refine wc (wld hF hS 0 2 0 fun a hF => ?_)
 refine wp 2 [4, 5, 15, 16, 20, 21, 23, 25, 133, 134, 139] hF fun a hF => ?_
 have hS := hS.add (m := Ro.mp f_api_Ver.ty none 0 ([] : List T_api_Ver)) (Ro.nil f_api_Ver.ty _ _)
 have hS := hS.add (m := Ro.mp (fInt .u64).ty none 0 ([] : List Int)) (Ro.nil (fInt .u64).ty _ _)
 refine bind_split H (fun x352 hx352 H => ?_)
 refine wc (wcS 3 [1, 3, 4, 0, 2] hF hS (fun hS => C_warden_Warden_Take N (T_warden_Warden.mk (T_config_State.mk x300.2.now.Pool x300.2.now.Nodes x300.2.now.Members x300.2.now.Maps x300.2.now.Modes) (T_config_State.mk x300.2.tail.Pool x300.2.tail.Nodes x300.2.tail.Members x300.2.tail.Maps x300.2.tail.Modes) x300.2.queue x300.2.done x300.2.epoch x300.2.step_ x300.2.wait x300.2.mark_ x300.2.ready x300.2.out) (IntKind.i64.wrap (Int.tdiv (IntKind.i64.wrap (x317.To - 1)) 5)) (T_api_Msg.mk 23 x317.Msg.Id 0 y340 ByteArray.empty ByteArray.empty ([] : List T_api_Ver) ([] : List Int) (T_api_Cmd.mk 0 0 0 0 0 ByteArray.empty)) cs303 cs304 p305 c306 p307 c308 none 0 none 0 b24 ⟨rfl, hS.pick [7, 8, 9, 10, 11, 12, 13, 14, 15, 1, 0] (by kernel_rfl)⟩ hx352) ?_)
 rintro _ κ w a ⟨cs353, cs354, p355, c356, p357, c358, rfl, h2⟩ hF hB
 have hS := hB _ _ h2
 refine wpListIn_nil ?_
 refine hK351 _ _ ?_
 refine wpIn_seq_k fun K359 hK359 => ?_
 refine wpIn_region_lit ?_
 refine bind_split H (fun v361 hv361 H => ?_)
 refine wl_join (fun a w => ∃ κ : Gh, Fr (187) [] [(4, .slice p8 (a7).length c9), (5, .slice p11 (a10).length c12), (15, pt b24 0), (16, vi y110), (20, .slice p337 (x336).length c338), (21, vi y269), (23, pt b324 0), (25, vi (IntKind.i64.wrap (Int.tdiv (IntKind.i64.wrap (x317.To - 1)) 5))), (159, vb v361)] a ∧ SS [] κ0 w0 κ w [.box b24 120 [si x352.now.Pool, si x352.now.Nodes, eb 4 x352.now.Members, (8, cs353), ei 21 x352.now.Modes, si x352.tail.Pool, si x352.tail.Nodes, eb 4 x352.tail.Members, (8, cs354), ei 21 x352.tail.Modes, sl p355 (x352.queue).length c356, si x352.done, si x352.epoch, si x352.step_, eb 4 x352.wait, su x352.mark_, sb x352.ready, sl p357 (x352.out).length c358], .box b324 106 [si x317.To, si x317.Msg.Kind, su x317.Msg.Id, su x317.Msg.N, su x317.Msg.TS, sg x317.Msg.Lo, sg x317.Msg.Hi, sl p320 (x317.Msg.Vers).length c321, sl p322 (x317.Msg.Vec).length c323, si x317.Msg.Cmd.Kind, si x317.Msg.Cmd.DC, si x317.Msg.Cmd.Shard, si x317.Msg.Cmd.Node, si x317.Msg.Cmd.Mode, sg x317.Msg.Cmd.Key], .tok p355 72 6 (x352.queue).length c356, .tok p357 106 15 (x352.out).length c358, .tok p337 106 15 (x336).length c338] [Ro.mp (fInt .i64).ty p8 c9 a7, Ro.mp (fInt .u64).ty p11 c12 a10, Ro.mp t_api_Mail p337 c338 x336, ml x352.now.Members 4, Arr.mp t_api_Map cs353 4 x352.now.Maps, ml x352.now.Modes 21, ml x352.tail.Members 4, Arr.mp t_api_Map cs354 4 x352.tail.Maps, ml x352.tail.Modes 21, Ro.mp f_api_Cmd.ty p355 c356 x352.queue, ml x352.wait 4, Ro.mp t_api_Mail p357 c358 x352.out, Ro.mp f_api_Ver.ty p320 c321 x317.Msg.Vers, Ro.mp (fInt .u64).ty p322 c323 x317.Msg.Vec] ∧ True) ?_ ?_
 refine wp 3 [4, 5, 15, 16, 20, 21, 23, 25, 143] hF fun a hF => ?_
 refine wc (wld hF hS 3 9 0 fun a hF => ?_)
 refine wp 2 [4, 5, 15, 16, 20, 21, 23, 25, 146] hF fun a hF => ?_
 refine bif_split hv361 (fun hb hv361 => ?_) (fun hb hv361 => ?_)
 have hF := hF.boolv 146 (by kernel_rfl) hb
 refine wp 2 [4, 5, 15, 16, 20, 21, 23, 25, 146, 148] hF fun a hF => ?_
 refine wcg hF (wld hF hS 3 3 0 fun a hF => ?_)
 refine wp 3 [4, 5, 15, 16, 20, 21, 23, 25, 152] hF fun a hF => ?_
 refine bif_split hv361 (fun hb hv361 => ?_) (fun hb hv361 => ?_)
 have hF := hF.boolv 152 (by kernel_rfl) hb
 refine wp 3 [4, 5, 15, 16, 20, 21, 23, 25, 152, 155] hF fun a hF => ?_
 refine wcg hF (wld hF hS 3 10 0 fun a hF => ?_)
 refine wp 3 [4, 5, 15, 16, 20, 21, 23, 25, 159] hF fun a hF => ?_
 refine wpListIn_nil ?_
 cases hv361
 exact ⟨_, hF.kp [4, 5, 15, 16, 20, 21, 23, 25, 159], hS.sp [0, 3, 1, 2, 4] [11, 12, 13, 0, 1, 2, 3, 4, 5, 6, 7, 8, 14, 15], trivial⟩
 have hF := hF.boolv 152 (by kernel_rfl) hb
 refine wp 7 [4, 5, 15, 16, 20, 21, 23, 25, 159] hF fun a hF => ?_
 refine wpListIn_nil ?_
 cases hv361
 exact ⟨_, hF.kp [4, 5, 15, 16, 20, 21, 23, 25, 159], hS.sp [0, 3, 1, 2, 4] [11, 12, 13, 0, 1, 2, 3, 4, 5, 6, 7, 8, 14, 15], trivial⟩
 have hF := hF.boolv 146 (by kernel_rfl) hb
 refine wp 13 [4, 5, 15, 16, 20, 21, 23, 25, 159] hF fun a hF => ?_
 refine wpListIn_nil ?_
 cases hv361
 exact ⟨_, hF.kp [4, 5, 15, 16, 20, 21, 23, 25, 159], hS.sp [0, 3, 1, 2, 4] [11, 12, 13, 0, 1, 2, 3, 4, 5, 6, 7, 8, 14, 15], trivial⟩
 rintro a w ⟨κ, hF, hS, -⟩
 refine hK359 _ _ ?_
 refine bif_split H (fun hb H => ?_) (fun hb H => ?_)
 refine cond_t hF (by kernel_rfl) hb ?_
 refine wpIn_region_lit ?_
 refine wp 4 [4, 5, 15, 16, 20, 21, 160, 161, 163] hF fun a hF => ?_
 refine wc (wld hF hS 1 2 0 fun a hF => ?_)
 refine wp 1 [4, 5, 15, 16, 20, 21, 160, 161, 165] hF fun a hF => ?_
 have hS := hS.add (m := Ro.mp f_api_Ver.ty none 0 ([] : List T_api_Ver)) (Ro.nil f_api_Ver.ty _ _)
 have hS := hS.add (m := Ro.mp (fInt .u64).ty none 0 ([] : List Int)) (Ro.nil (fInt .u64).ty _ _)
 refine bind_split H (fun x362 hx362 H => ?_)
 refine wc (wcS 3 [0, 2, 3, 1, 4] hF hS (fun hS => C_warden_Warden_Take N (T_warden_Warden.mk (T_config_State.mk x352.now.Pool x352.now.Nodes x352.now.Members x352.now.Maps x352.now.Modes) (T_config_State.mk x352.tail.Pool x352.tail.Nodes x352.tail.Members x352.tail.Maps x352.tail.Modes) x352.queue x352.done x352.epoch x352.step_ x352.wait x352.mark_ x352.ready x352.out) (IntKind.i64.wrap (Int.tdiv (IntKind.i64.wrap (x317.To - 1)) 5)) (T_api_Msg.mk 25 x317.Msg.Id 0 0 ByteArray.empty ByteArray.empty ([] : List T_api_Ver) ([] : List Int) (T_api_Cmd.mk 0 0 0 0 0 ByteArray.empty)) cs353 cs354 p355 c356 p357 c358 none 0 none 0 b24 ⟨rfl, hS.pick [5, 6, 7, 8, 9, 10, 11, 12, 13, 1, 0] (by kernel_rfl)⟩ hx362) ?_)
 rintro _ κ w a ⟨cs363, cs364, p365, c366, p367, c368, rfl, h2⟩ hF hB
 have hS := hB _ _ h2
 refine wpListIn_nil ?_
 exact ⟨_, x362.now.Pool, x362.now.Nodes, x362.now.Members, x362.now.Maps, cs363, x362.now.Modes, x362.tail.Pool, x362.tail.Nodes, x362.tail.Members, x362.tail.Maps, cs364, x362.tail.Modes, x362.queue, p365, c366, x362.done, x362.epoch, x362.step_, x362.wait, x362.mark_, x362.ready, x362.out, p367, c368, x336, p337, c338, hF.kp [4, 5, 15, 16, 20, 21], hS.sp [0, 1, 2, 4] [11, 12, 13, 0, 1, 2, 3, 4, 5, 6, 7, 8], H⟩
 refine cond_f hF (by kernel_rfl) hb ?_
 refine wpIn_skip ?_
 exact ⟨_, x352.now.Pool, x352.now.Nodes, x352.now.Members, x352.now.Maps, cs353, x352.now.Modes, x352.tail.Pool, x352.tail.Nodes, x352.tail.Members, x352.tail.Maps, cs354, x352.tail.Modes, x352.queue, p355, c356, x352.done, x352.epoch, x352.step_, x352.wait, x352.mark_, x352.ready, x352.out, p357, c358, x336, p337, c338, hF.kp [4, 5, 15, 16, 20, 21], hS.sp [0, 2, 3, 4] (rg 12), H⟩
 refine cond_f hF (by kernel_rfl) hb ?_
 refine wpIn_skip ?_
 exact ⟨_, x300.2.now.Pool, x300.2.now.Nodes, x300.2.now.Members, x300.2.now.Maps, cs303, x300.2.now.Modes, x300.2.tail.Pool, x300.2.tail.Nodes, x300.2.tail.Members, x300.2.tail.Maps, cs304, x300.2.tail.Modes, x300.2.queue, p305, c306, x300.2.done, x300.2.epoch, x300.2.step_, x300.2.wait, x300.2.mark_, x300.2.ready, x300.2.out, p307, c308, x336, p337, c338, hF.kp [4, 5, 15, 16, 20, 21], hS.sp [1, 3, 4, 2] [0, 1, 2, 5, 6, 7, 8, 9, 10, 11, 12, 13], H⟩
 rintro a w ⟨κ, y272, y273, y274, y275, cs276, y277, y278, y279, y280, y281, cs282, y283, y284, p285, c286, y287, y288, y289, y290, y291, y292, y293, p294, c295, y296, p297, c298, hF, hS, H⟩
 unfold M.law19_WardenServed_k5 at H
 refine wpIn_region_lit ?_
 refine wp 3 [4, 5, 15, 16, 20, 21] hF fun a hF => ?_
 refine wpListIn_nil ?_
 exact ⟨fuel4, Nat.lt_succ_self _, _, y272, y273, y274, y275, cs276, y277, y278, y279, y280, y281, cs282, y283, y284, p285, c286, y287, y288, y289, y290, y291, y292, y293, p294, c295, y296, p297, c298, IntKind.i64.wrap (y269 + 1), hF.kp [4, 5, 15, 16, 20, 21], hS.sp (rg 4) (rg 12), H⟩
 refine cond_f hF (by kernel_rfl) hb ?_
 refine wpIn_exit ?_
 exact ⟨_, y242, y243, y244, y245, cs246, y247, y248, y249, y250, y251, cs252, y253, y254, p255, c256, y257, y258, y259, y260, y261, y262, y263, p264, c265, hF.kp [15, 16], hS.sp [0, 1, 2] [3, 4, 5, 6, 7, 8, 9, 10, 11], H⟩
 rintro a w ⟨κ, y154, y155, y156, y157, cs158, y159, y160, y161, y162, y163, cs164, y165, y166, p167, c168, y169, y170, y171, y172, y173, y174, y175, p176, c177, hF, hS, H⟩
 unfold M.law19_WardenServed_k3 at H
 refine wpIn_seq_k fun K178 hK178 => ?_
 refine wpIn_region_lit ?_
 refine bind_split H (fun v180 hv180 H => ?_)
 refine wl_join (fun a w => ∃ κ : Gh, Fr (187) [] [(12, vb v180)] a ∧ SS [] κ0 w0 κ w [] [] ∧ True) ?_ ?_
 refine bind_split hv180 (fun x181 hx181 hv180 => ?_)
 refine wc (wo_callP hF hS (by kernel_rfl) (by kernel_rfl) (C_law19_awake N hS.fresh   ((hS.pick [] (by kernel_rfl)).ro) hx181) ?_)
 rintro _ κ w a ⟨rfl, hR, hN⟩ hF hS hO
 refine wp 1 [15, 16, 168] hF fun a hF => ?_
 refine bif_split hv180 (fun hb hv180 => ?_) (fun hb hv180 => ?_)
 have hF := hF.boolv 168 (by kernel_rfl) hb
 refine wp 1 [15, 16, 168, 169] hF fun a hF => ?_
 refine bind_split hv180 (fun x182 hx182 hv180 => ?_)
 refine wcg hF (wcS 1 [0, 1, 2] hF hS (fun hS => C_warden_Warden_Acked N (T_warden_Warden.mk (T_config_State.mk y154 y155 y156 y157 y159) (T_config_State.mk y160 y161 y162 y163 y165) y166 y169 y170 y171 y172 y173 y174 y175) cs158 cs164 p167 c168 p176 c177 b24 ⟨rfl, hS.pick (rg 9) (by kernel_rfl)⟩ hx182) ?_)
 rintro _ κ w a ⟨rfl, h2⟩ hF hB
 have hS := hB _ _ h2
 refine wp 4 [15, 174] hF fun a hF => ?_
 refine bif_split hv180 (fun hb hv180 => ?_) (fun hb hv180 => ?_)
 have hF := hF.boolv 174 (by kernel_rfl) hb
 refine wp 1 [15, 174, 175] hF fun a hF => ?_
 refine bind_split hv180 (fun x183 hx183 hv180 => ?_)
 refine wcg hF (wcS 1 [0, 1, 2] hF hS (fun hS => C_warden_Warden_Pending N (T_warden_Warden.mk (T_config_State.mk y154 y155 y156 y157 y159) (T_config_State.mk y160 y161 y162 y163 y165) y166 y169 y170 y171 y172 y173 y174 y175) cs158 cs164 p167 c168 p176 c177 b24 ⟨rfl, hS.pick (rg 9) (by kernel_rfl)⟩ hx183) ?_)
 rintro _ κ w a ⟨rfl, h2⟩ hF hB
 have hS := hB _ _ h2
 refine wp 3 [15, 179] hF fun a hF => ?_
 refine bif_split hv180 (fun hb hv180 => ?_) (fun hb hv180 => ?_)
 have hF := hF.boolv 179 (by kernel_rfl) hb
 refine wp 1 [15, 179, 180] hF fun a hF => ?_
 refine bind_split hv180 (fun x184 hx184 hv180 => ?_)
 refine wcg hF (wcS 1 [0, 1, 2] hF hS (fun hS => C_warden_Warden_Now N (T_warden_Warden.mk (T_config_State.mk y154 y155 y156 y157 y159) (T_config_State.mk y160 y161 y162 y163 y165) y166 y169 y170 y171 y172 y173 y174 y175) cs158 cs164 p167 c168 p176 c177 b24 ⟨rfl, hS.pick (rg 9) (by kernel_rfl)⟩ hx184) ?_)
 rintro _ κ w a ⟨cs185, rfl, h2⟩ hF hB
 have hS := hB _ _ h2
 refine wp 1 [179, 181, 182] hF fun a hF => ?_
 refine bind_split hv180 (fun x186 hx186 hv180 => ?_)
 refine wcg hF (wcS 1 [0, 1, 2] hF hS (fun hS => C_warden_Warden_Tail N (T_warden_Warden.mk (T_config_State.mk y154 y155 y156 y157 y159) (T_config_State.mk y160 y161 y162 y163 y165) y166 y169 y170 y171 y172 y173 y174 y175) cs158 cs164 p167 c168 p176 c177 b24 ⟨rfl, hS.pick [3, 4, 5, 6, 7, 8, 9, 10, 11] (by kernel_rfl)⟩ hx186) ?_)
 rintro _ κ w a ⟨cs187, rfl, h2⟩ hF hB
 have hS := hB _ _ h2
 refine bind_split hv180 (fun x188 hx188 hv180 => ?_)
 refine wcg hF (wo_callP hF hS (by kernel_rfl) (by kernel_rfl) (C_law18_Told N hS.fresh (T_config_State.mk x186.Pool x186.Nodes x186.Members x186.Maps x186.Modes) cs187 ((hS.pick [0, 1, 2] (by kernel_rfl)).ro) hx188) ?_)
 rintro _ κ w a ⟨cs189, rfl, hR, hN⟩ hF hS hO
 have hS := hS.adds hR
 refine bind_split hv180 (fun x190 hx190 hv180 => ?_)
 refine wcg hF (wo_callP hF hS (by kernel_rfl) (by kernel_rfl) (C_law18_Same N hS.fresh (T_config_State.mk x184.Pool x184.Nodes x184.Members x184.Maps x184.Modes) (T_ref18_State.mk x188.Pool x188.Nodes x188.Members x188.Maps x188.Modes) cs185 cs189 ((hS.pick [6, 7, 8, 0, 1, 2] (by kernel_rfl)).ro) hx190) ?_)
 rintro _ κ w a ⟨rfl, hR, hN⟩ hF hS hO
 refine wp 2 [12] hF fun a hF => ?_
 refine wpListIn_nil ?_
 cases hv180
 exact ⟨_, hF.kp [12], hS.sp [] [], trivial⟩
 have hF := hF.boolv 179 (by kernel_rfl) hb
 refine wp 8 [12] hF fun a hF => ?_
 refine wpListIn_nil ?_
 cases hv180
 exact ⟨_, hF.kp [12], hS.sp [] [], trivial⟩
 have hF := hF.boolv 174 (by kernel_rfl) hb
 refine wp 13 [12] hF fun a hF => ?_
 refine wpListIn_nil ?_
 cases hv180
 exact ⟨_, hF.kp [12], hS.sp [] [], trivial⟩
 have hF := hF.boolv 168 (by kernel_rfl) hb
 refine wp 19 [12] hF fun a hF => ?_
 refine wpListIn_nil ?_
 cases hv180
 exact ⟨_, hF.kp [12], hS.sp [] [], trivial⟩
 rintro a w ⟨κ, hF, hS, -⟩
 refine hK178 _ _ ?_
 refine wpIn_ret ?_
 cases H
 exact (ret_done hF hS (res1 Try.results20 (rvt hF)) ⟨rfl, (hS.pick [] (by kernel_rfl)).ro, hS.newC [] (by decide) (by kernel_rfl)⟩)
end Go.Cf
