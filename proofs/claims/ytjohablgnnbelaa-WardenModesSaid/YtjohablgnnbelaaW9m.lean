/- The walks: each function returns what its model says. Printed by a program of ours. -/
import Derived.Test.YtjohablgnnbelaaM9m
import Derived.Test.YtjohablgnnbelaaW3
import Derived.Test.YtjohablgnnbelaaW8
import Derived.Test.YtjohablgnnbelaaW8a
namespace Go.Cf
open Go Go.Proofs
set_option linter.unusedVariables false
set_option maxRecDepth 20000 in
set_option maxHeartbeats 1000000 in
theorem C_law19_WardenModes (N : Nat) {κ0 : Gh} {w0 : World} (hfr : Fresh κ0 w0) (a1 : Int) (a2 : Int) (a3 : Int) (a4 : (List T_api_Cmd)) (a7 : Int) (a8 : Int) (p5 : Option Addr) (c6 : Nat) (hR : ∀ m ∈ ([Ro.mp f_api_Cmd.ty p5 c6 a4] : List MP), m.p κ0 w0) {r : (Bool)} (H : M.law19_WardenModes N a1 a2 a3 a4 a7 a8 = some r) :
    Calls Try.prog 19 #[.int .i64 (a1), .int .i64 (a2), .int .i64 (a3), .slice p5 (a4).length c6, .int .i64 (a7), .int .i64 (a8)] w0 (Post [] κ0 w0 fun v κ w => v = .bool (r) ∧ (∀ m ∈ ([] : List MP), m.p κ w) ∧ NewC w0 κ w []) := by
 have hS := SS.start hfr hR
 refine enter (N := (122)) (L := [(0, .int .i64 (a1)), (1, .int .i64 (a2)), (2, .int .i64 (a3)), (3, .slice p5 (a4).length c6), (4, .int .i64 (a7)), (5, .int .i64 (a8))]) Try.func19 rfl Try.ntmps19 (show 6 ≤ (122) by decide) rfl fun a hF => ?_
 unfold M.law19_WardenModes at H
 refine wpIn_seq_k fun K9 hK9 => ?_
 refine wpIn_region_lit ?_
 refine wp 1 [0, 1, 2, 3, 4, 5] hF fun a hF => ?_
 refine wpListIn_nil ?_
 refine hK9 _ _ ?_
 refine wpIn_seq_k fun K10 hK10 => ?_
 refine wpIn_region_lit ?_
 refine wp 3 [3, 4, 5, 24, 25, 26] hF fun a hF => ?_
 refine bind_split H (fun x11 hx11 H => ?_)
 refine wc (wo_callP hF hS (by kernel_rfl) (by kernel_rfl) (C_config_Start N hS.fresh a1 a2 a3  ((hS.pick [] (by kernel_rfl)).ro) hx11) ?_)
 rintro _ κ w a ⟨cs12, rfl, hR, hN⟩ hF hS hO
 have hS := hS.adds hR
 refine wp 3 [3, 4, 5, 28, 29] hF fun a hF => ?_
 have hS := hS.add (m := MP.const (List.length (List.replicate 4 false) = 4)) (List.length_replicate)
 have hS := hS.add (m := Arr.mp t_api_Map ((List.replicate 4 (flat [(1, [.slice none 0 0]), (1, [.slice none 0 0])])).flatten) 4 (List.replicate 4 (T_api_Map.mk ([] : List ByteArray) ([] : List Int)))) (Arr.zero _ _ _ _ _ z_api_Map)
 have hS := hS.add (m := MP.const (List.length (List.replicate 21 0) = 21)) (List.length_replicate)
 refine wc (wal hF hS [si 0, si 0, (4, (encs fBool (List.replicate 4 false))), (8, (List.replicate 4 (flat [(1, [.slice none 0 0]), (1, [.slice none 0 0])])).flatten), (21, (encs (fInt .i64) (List.replicate 21 0)))] (sgN 2 (sgEnc List.length_replicate (sgArr (hS.get 1 rfl) (sgEnc List.length_replicate sgNil)))) fun b13 a w hF hS => ?_)
 refine wc (wst hF hS 0 0 5 [si x11.1.Pool, si x11.1.Nodes, (4, (encs fBool x11.1.Members)), (8, cs12), (21, (encs (fInt .i64) x11.1.Modes))] (sgN 2 (sgEnc (hS.get 3 rfl) (sgArr (hS.get 4 rfl) (sgEnc (hS.get 5 rfl) sgNil)))) fun a w hF hS => ?_)
 refine wp 1 [3, 4, 5, 13, 14] hF fun a hF => ?_
 refine wpListIn_nil ?_
 refine hK10 _ _ ?_
 refine wpIn_seq_k fun K14 hK14 => ?_
 refine wpIn_seq_k fun K15 hK15 => ?_
 refine wpIn_region_lit ?_
 refine wp 2 [3, 4, 5, 13, 31] hF fun a hF => ?_
 refine wpListIn_nil ?_
 refine hK15 _ _ ?_
 refine bif_split H (fun hb H => ?_) (fun hb H => ?_)
 refine cond_t hF (by kernel_rfl) hb ?_
 refine wpIn_seq_k fun K16 hK16 => ?_
 refine wpIn_region_lit ?_
 refine bind_split H (fun x17 hx17 H => ?_)
 refine wc (wo_callP hF hS (by kernel_rfl) (by kernel_rfl) (C_law19_awake N hS.fresh   ((hS.pick [] (by kernel_rfl)).ro) hx17) ?_)
 rintro _ κ w a ⟨rfl, hR, hN⟩ hF hS hO
 refine wp 1 [12] hF fun a hF => ?_
 refine wpListIn_nil ?_
 refine hK16 _ _ ?_
 refine wpIn_ret ?_
 cases H
 exact (ret_done hF hS (res1 Try.results19 (rvt hF)) ⟨rfl, (hS.pick [] (by kernel_rfl)).ro, hS.newC [] (by decide) (by kernel_rfl)⟩)
 refine cond_f hF (by kernel_rfl) hb ?_
 refine wpIn_skip ?_
 refine hK14 _ _ ?_
 refine wpIn_seq_k fun K18 hK18 => ?_
 refine wpIn_seq_k fun K19 hK19 => ?_
 refine wpIn_region_lit ?_
 refine wp 1 [3, 4, 5, 13, 15] hF fun a hF => ?_
 refine wpListIn_nil ?_
 refine hK19 _ _ ?_
 refine wpIn_block ?_
 refine loop_fuel (n := N) (fun n a w => ∃ κ : Gh, ∃ y70 : Int, ∃ y71 : Int, ∃ y72 : (List Bool), ∃ y73 : (List T_api_Map), ∃ cs74 : List Value, ∃ y75 : (List Int), ∃ y76 : Int, Fr (122) [] [(3, .slice p5 (a4).length c6), (4, .int .i64 (a7)), (5, .int .i64 (a8)), (13, pt b13 0), (15, .int .i64 (y76))] a ∧ SS [] κ0 w0 κ w [.box b13 30 [si y70, si y71, (4, (encs fBool y72)), (8, cs74), (21, (encs (fInt .i64) y75))]] [Ro.mp f_api_Cmd.ty p5 c6 a4, MP.const (List.length y72 = 4), Arr.mp t_api_Map cs74 4 y73, MP.const (List.length y75 = 21)] ∧ M.law19_WardenModes_L1 N n a4 a7 a8 y70 y71 y72 y73 y75 y76 = some r) ?_ ?_
 exact ⟨_, x11.1.Pool, x11.1.Nodes, x11.1.Members, x11.1.Maps, cs12, x11.1.Modes, 0, hF.kp [3, 4, 5, 13, 15], hS.sp [0] [6, 3, 4, 5], H⟩
 rintro n a w ⟨κ, y70, y71, y72, y73, cs74, y75, y76, hF, hS, H⟩
 rcases n with _ | fuel1
 simp [M.law19_WardenModes_L1] at H
 simp only [M.law19_WardenModes_L1] at H
 refine wpIn_seq_k fun K77 hK77 => ?_
 refine wpIn_seq_k fun K78 hK78 => ?_
 refine wpIn_region_lit ?_
 refine bind_split H (fun v80 hv80 H => ?_)
 refine wl_join (fun a w => ∃ κ : Gh, Fr (122) [] [(3, .slice p5 (a4).length c6), (4, .int .i64 (a7)), (5, .int .i64 (a8)), (13, pt b13 0), (15, .int .i64 (y76)), (40, .bool (v80))] a ∧ SS [] κ0 w0 κ w [.box b13 30 [si y70, si y71, (4, (encs fBool y72)), (8, cs74), (21, (encs (fInt .i64) y75))]] [Ro.mp f_api_Cmd.ty p5 c6 a4, MP.const (List.length y72 = 4), Arr.mp t_api_Map cs74 4 y73, MP.const (List.length y75 = 21)] ∧ True) ?_ ?_
 refine wp 5 [3, 4, 5, 13, 15, 37] hF fun a hF => ?_
 refine bif_split hv80 (fun hb hv80 => ?_) (fun hb hv80 => ?_)
 have hF := hF.boolv 37 (by kernel_rfl) hb
 refine wp 3 [3, 4, 5, 13, 15, 40] hF fun a hF => ?_
 refine wpListIn_nil ?_
 cases hv80
 exact ⟨_, hF.kp [3, 4, 5, 13, 15, 40], hS.sp [0] [0, 1, 2, 3], trivial⟩
 have hF := hF.boolv 37 (by kernel_rfl) hb
 refine wp 3 [3, 4, 5, 13, 15, 40] hF fun a hF => ?_
 refine wpListIn_nil ?_
 cases hv80
 exact ⟨_, hF.kp [3, 4, 5, 13, 15, 40], hS.sp [0] [0, 1, 2, 3], trivial⟩
 rintro a w ⟨κ, hF, hS, -⟩
 refine hK78 _ _ ?_
 refine bif_split H (fun hb H => ?_) (fun hb H => ?_)
 refine cond_t hF (by kernel_rfl) hb ?_
 refine wpIn_skip ?_
 refine hK77 _ _ ?_
 refine seq_join (fun a w => ∃ κ : Gh, ∃ y81 : Int, ∃ y82 : Int, ∃ y83 : (List Bool), ∃ y84 : (List T_api_Map), ∃ cs85 : List Value, ∃ y86 : (List Int), Fr (122) [] [(3, .slice p5 (a4).length c6), (4, .int .i64 (a7)), (5, .int .i64 (a8)), (13, pt b13 0), (15, .int .i64 (y76))] a ∧ SS [] κ0 w0 κ w [.box b13 30 [si y81, si y82, (4, (encs fBool y83)), (8, cs85), (21, (encs (fInt .i64) y86))]] [Ro.mp f_api_Cmd.ty p5 c6 a4, MP.const (List.length y83 = 4), Arr.mp t_api_Map cs85 4 y84, MP.const (List.length y86 = 21)] ∧ M.law19_WardenModes_k2 N (M.law19_WardenModes_L1 N fuel1) a4 a7 a8 y76 y81 y82 y83 y84 y86 = some r) ?_ ?_
 refine wpIn_block ?_
 refine wpIn_seq_k fun K87 hK87 => ?_
 refine wpIn_region_lit ?_
 refine wc (wls hF hS 0 0 5 fun a hF => ?_)
 refine bind_split H (fun x88 hx88 H => ?_)
 refine wc (wo_callS (Cin := []) (Cr := [.box b13 30 [si y70, si y71, (4, (encs fBool y72)), (8, cs74), (21, (encs (fInt .i64) y75))]]) (args := #[.agg (flat [si y70, si y71, (4, (encs fBool y72)), (8, cs74), (21, (encs (fInt .i64) y75))]).toArray]) (f := 64) hF (hS.selp [0] (by decide) (by kernel_rfl)) (by kernel_rfl) (by kernel_rfl) (fun hS => C_warden_New N (T_config_State.mk y70 y71 y72 y73 y75) cs74  rfl (hS.pick [1, 2, 3] (by kernel_rfl)) hx88) ?_)
 rintro _ κ w a ⟨b89, cs90, cs91, p92, c93, p94, c95, rfl, h2⟩ hF hB
 have hS := hB _ _ h2
 refine wp 1 [3, 4, 5, 13, 15, 16] hF fun a hF => ?_
 refine wpListIn_nil ?_
 refine hK87 _ _ ?_
 refine wpIn_seq_k fun K96 hK96 => ?_
 refine wpIn_seq_k fun K97 hK97 => ?_
 refine wpIn_region_lit ?_
 refine wp 2 [3, 4, 5, 13, 15, 16, 46] hF fun a hF => ?_
 refine wpListIn_nil ?_
 refine hK97 _ _ ?_
 refine cond_f hF (by kernel_rfl) rfl ?_
 refine wpIn_skip ?_
 refine hK96 _ _ ?_
 refine wpIn_seq_k fun K98 hK98 => ?_
 refine wpIn_seq_k fun K99 hK99 => ?_
 refine wpIn_region_lit ?_
 refine wl_pure (L' := [(3, .slice p5 (a4).length c6), (4, .int .i64 (a7)), (5, .int .i64 (a8)), (13, pt b13 0), (15, .int .i64 (y76)), (16, pt b89 0), (48, pt b89 0), (49, .slice p5 (a4).length c6), (50, .int .i64 (y76))]) 3 [3, 4, 5, 13, 15, 16, 48, 49, 50] hF (by kernel_rfl) fun a hF => ?_
 refine bind_split H (fun x100 hx100 H => ?_)
 refine wc (wo_index hF hS (by kernel_rfl) 9 (E := 72) (sz := 6) rfl rfl rfl (by kernel_rfl) rfl hx100 (by kernel_rfl) (by kernel_rfl) fun b101 f102 a hpx100 hF => ?_)
 refine wc (wo_loadRoAgg (t := f_api_Cmd) hF hS (by kernel_rfl) 9 rfl rfl hpx100 rfl hx100 (by kernel_rfl) (by kernel_rfl) (by kernel_rfl) fun a hF => ?_)
 refine bind_split H (fun x103 hx103 H => ?_)
 refine wc (wo_callS (Cin := [.box b89 120 [si x88.now.Pool, si x88.now.Nodes, (4, (encs fBool x88.now.Members)), (8, cs90), (21, (encs (fInt .i64) x88.now.Modes)), si x88.tail.Pool, si x88.tail.Nodes, (4, (encs fBool x88.tail.Members)), (8, cs91), (21, (encs (fInt .i64) x88.tail.Modes)), (1, [.slice p92 (x88.queue).length c93]), si x88.done, si x88.epoch, si x88.step_, (4, (encs fBool x88.wait)), (1, [.int .u64 (x88.mark_)]), sb x88.ready, (1, [.slice p94 (x88.out).length c95])], .tok p92 72 6 (x88.queue).length c93, .tok p94 106 15 (x88.out).length c95]) (Cr := [.box b13 30 [si y70, si y71, (4, (encs fBool y72)), (8, cs74), (21, (encs (fInt .i64) y75))]]) (args := #[pt b89 0, .agg (flat [si x100.Kind, si x100.DC, si x100.Shard, si x100.Node, si x100.Mode, sg x100.Key]).toArray]) (f := 65) hF (hS.selp [0, 1, 2, 3] (by decide) (by kernel_rfl)) (by kernel_rfl) (by kernel_rfl) (fun hS => C_warden_Warden_Ask N (T_warden_Warden.mk (T_config_State.mk x88.now.Pool x88.now.Nodes x88.now.Members x88.now.Maps x88.now.Modes) (T_config_State.mk x88.tail.Pool x88.tail.Nodes x88.tail.Members x88.tail.Maps x88.tail.Modes) x88.queue x88.done x88.epoch x88.step_ x88.wait x88.mark_ x88.ready x88.out) (T_api_Cmd.mk x100.Kind x100.DC x100.Shard x100.Node x100.Mode x100.Key) cs90 cs91 p92 c93 p94 c95 b89 rfl (hS.pick [0, 1, 2, 3, 4, 5, 6, 7, 8] (by kernel_rfl)) hx103) ?_)
 rintro _ κ w a ⟨cs104, cs105, p106, c107, p108, c109, rfl, h2⟩ hF hB
 have hS := hB _ _ h2
 refine wp 5 [3, 4, 5, 13, 15, 16, 18] hF fun a hF => ?_
 refine wpListIn_nil ?_
 refine hK99 _ _ ?_
 refine wpIn_seq_k fun K110 hK110 => ?_
 refine wpIn_region_lit ?_
 refine wp 2 [3, 4, 5, 13, 15, 16, 57] hF fun a hF => ?_
 refine wpListIn_nil ?_
 refine hK110 _ _ ?_
 refine bif_split H (fun hb H => ?_) (fun hb H => ?_)
 refine cond_t hF (by kernel_rfl) hb ?_
 refine wpIn_exit ?_
 exact ⟨_, y70, y71, y72, y73, cs74, y75, hF.kp [3, 4, 5, 13, 15], hS.sp [3] [18, 19, 20, 21], H⟩
 refine cond_f hF (by kernel_rfl) hb ?_
 refine wpIn_skip ?_
 refine hK98 _ _ ?_
 refine wpIn_seq_k fun K111 hK111 => ?_
 refine wpIn_region_lit ?_
 refine wl_pure (L' := [(3, .slice p5 (a4).length c6), (4, .int .i64 (a7)), (5, .int .i64 (a8)), (13, pt b13 0), (15, .int .i64 (y76)), (16, pt b89 0), (58, pt b89 0)]) 1 [3, 4, 5, 13, 15, 16, 58] hF (by kernel_rfl) fun a hF => ?_
 refine bind_split H (fun x112 hx112 H => ?_)
 refine wc (wo_callS (Cin := [.box b89 120 [si x103.2.2.now.Pool, si x103.2.2.now.Nodes, (4, (encs fBool x103.2.2.now.Members)), (8, cs104), (21, (encs (fInt .i64) x103.2.2.now.Modes)), si x103.2.2.tail.Pool, si x103.2.2.tail.Nodes, (4, (encs fBool x103.2.2.tail.Members)), (8, cs105), (21, (encs (fInt .i64) x103.2.2.tail.Modes)), (1, [.slice p106 (x103.2.2.queue).length c107]), si x103.2.2.done, si x103.2.2.epoch, si x103.2.2.step_, (4, (encs fBool x103.2.2.wait)), (1, [.int .u64 (x103.2.2.mark_)]), sb x103.2.2.ready, (1, [.slice p108 (x103.2.2.out).length c109])]]) (Cr := [.tok p106 72 6 (x103.2.2.queue).length c107, .tok p108 106 15 (x103.2.2.out).length c109, .box b13 30 [si y70, si y71, (4, (encs fBool y72)), (8, cs74), (21, (encs (fInt .i64) y75))]]) (args := #[pt b89 0]) (f := 70) hF (hS.selp [0, 1, 2, 3] (by decide) (by kernel_rfl)) (by kernel_rfl) (by kernel_rfl) (fun hS => C_warden_Warden_Tail N (T_warden_Warden.mk (T_config_State.mk x103.2.2.now.Pool x103.2.2.now.Nodes x103.2.2.now.Members x103.2.2.now.Maps x103.2.2.now.Modes) (T_config_State.mk x103.2.2.tail.Pool x103.2.2.tail.Nodes x103.2.2.tail.Members x103.2.2.tail.Maps x103.2.2.tail.Modes) x103.2.2.queue x103.2.2.done x103.2.2.epoch x103.2.2.step_ x103.2.2.wait x103.2.2.mark_ x103.2.2.ready x103.2.2.out) cs104 cs105 p106 c107 p108 c109 b89 rfl (hS.pick [0, 1, 2, 3, 4, 5, 6, 7, 8] (by kernel_rfl)) hx112) ?_)
 rintro _ κ w a ⟨cs113, rfl, h2⟩ hF hB
 have hS := hB _ _ h2
 have hS := hS.add (m := MP.const (List.length (List.replicate 4 false) = 4)) (List.length_replicate)
 have hS := hS.add (m := Arr.mp t_api_Map ((List.replicate 4 (flat [(1, [.slice none 0 0]), (1, [.slice none 0 0])])).flatten) 4 (List.replicate 4 (T_api_Map.mk ([] : List ByteArray) ([] : List Int)))) (Arr.zero _ _ _ _ _ z_api_Map)
 have hS := hS.add (m := MP.const (List.length (List.replicate 21 0) = 21)) (List.length_replicate)
 refine wc (wal hF hS [si 0, si 0, (4, (encs fBool (List.replicate 4 false))), (8, (List.replicate 4 (flat [(1, [.slice none 0 0]), (1, [.slice none 0 0])])).flatten), (21, (encs (fInt .i64) (List.replicate 21 0)))] (sgN 2 (sgEnc List.length_replicate (sgArr (hS.get 1 rfl) (sgEnc List.length_replicate sgNil)))) fun b114 a w hF hS => ?_)
 refine wc (wst hF hS 0 0 5 [si x112.Pool, si x112.Nodes, (4, (encs fBool x112.Members)), (8, cs113), (21, (encs (fInt .i64) x112.Modes))] (sgN 2 (sgEnc (hS.get 3 rfl) (sgArr (hS.get 4 rfl) (sgEnc (hS.get 5 rfl) sgNil)))) fun a w hF hS => ?_)
 refine wpListIn_nil ?_
 refine hK111 _ _ ?_
 refine wpIn_seq_k fun K115 hK115 => ?_
 refine wpIn_seq_k fun K116 hK116 => ?_
 refine wpIn_region_lit ?_
 refine wl_pure (L' := [(3, .slice p5 (a4).length c6), (4, .int .i64 (a7)), (5, .int .i64 (a8)), (13, pt b13 0), (15, .int .i64 (y76)), (19, pt b114 0), (60, pt b89 0)]) 1 [3, 4, 5, 13, 15, 19, 60] hF (by kernel_rfl) fun a hF => ?_
 refine bind_split H (fun x117 hx117 H => ?_)
 refine wc (wo_callS (Cin := [.box b89 120 [si x103.2.2.now.Pool, si x103.2.2.now.Nodes, (4, (encs fBool x103.2.2.now.Members)), (8, cs104), (21, (encs (fInt .i64) x103.2.2.now.Modes)), si x103.2.2.tail.Pool, si x103.2.2.tail.Nodes, (4, (encs fBool x103.2.2.tail.Members)), (8, cs105), (21, (encs (fInt .i64) x103.2.2.tail.Modes)), (1, [.slice p106 (x103.2.2.queue).length c107]), si x103.2.2.done, si x103.2.2.epoch, si x103.2.2.step_, (4, (encs fBool x103.2.2.wait)), (1, [.int .u64 (x103.2.2.mark_)]), sb x103.2.2.ready, (1, [.slice p108 (x103.2.2.out).length c109])]]) (Cr := [.box b114 30 [si x112.Pool, si x112.Nodes, (4, (encs fBool x112.Members)), (8, cs113), (21, (encs (fInt .i64) x112.Modes))], .tok p106 72 6 (x103.2.2.queue).length c107, .tok p108 106 15 (x103.2.2.out).length c109, .box b13 30 [si y70, si y71, (4, (encs fBool y72)), (8, cs74), (21, (encs (fInt .i64) y75))]]) (args := #[pt b89 0]) (f := 72) hF (hS.selp [1, 0, 2, 3, 4] (by decide) (by kernel_rfl)) (by kernel_rfl) (by kernel_rfl) (fun hS => C_warden_Warden_Modes N (T_warden_Warden.mk (T_config_State.mk x103.2.2.now.Pool x103.2.2.now.Nodes x103.2.2.now.Members x103.2.2.now.Maps x103.2.2.now.Modes) (T_config_State.mk x103.2.2.tail.Pool x103.2.2.tail.Nodes x103.2.2.tail.Members x103.2.2.tail.Maps x103.2.2.tail.Modes) x103.2.2.queue x103.2.2.done x103.2.2.epoch x103.2.2.step_ x103.2.2.wait x103.2.2.mark_ x103.2.2.ready x103.2.2.out) cs104 cs105 p106 c107 p108 c109 b89 rfl (hS.pick [6, 7, 8, 9, 10, 11, 12, 13, 14] (by kernel_rfl)) hx117) ?_)
 rintro _ κ w a ⟨rfl, h2⟩ hF hB
 have hS := hB _ _ h2
 refine wp 1 [3, 4, 5, 13, 15, 19, 61, 62] hF fun a hF => ?_
 refine wpListIn_nil ?_
 refine hK116 _ _ ?_
 refine wpIn_block ?_
 refine loop_fuel (n := N) (fun n a w => ∃ κ : Gh, ∃ y168 : Int, Fr (122) [] [(3, .slice p5 (a4).length c6), (4, .int .i64 (a7)), (5, .int .i64 (a8)), (13, pt b13 0), (15, .int .i64 (y76)), (19, pt b114 0), (61, .agg (flat [(21, (encs (fInt .i64) x117))]).toArray), (62, .int .i64 (y168))] a ∧ SS [] κ0 w0 κ w [.box b114 30 [si x112.Pool, si x112.Nodes, (4, (encs fBool x112.Members)), (8, cs113), (21, (encs (fInt .i64) x112.Modes))], .box b13 30 [si y70, si y71, (4, (encs fBool y72)), (8, cs74), (21, (encs (fInt .i64) y75))]] [Ro.mp f_api_Cmd.ty p5 c6 a4, MP.const (List.length x117 = 21), MP.const (List.length x112.Members = 4), Arr.mp t_api_Map cs113 4 x112.Maps, MP.const (List.length x112.Modes = 21), MP.const (List.length y72 = 4), Arr.mp t_api_Map cs74 4 y73, MP.const (List.length y75 = 21)] ∧ M.law19_WardenModes_L3 N (M.law19_WardenModes_L1 N fuel1) n a4 a7 a8 y70 y71 y72 y73 y75 y76 x112 x117 y168 = some r) ?_ ?_
 exact ⟨_, 0, hF.kp [3, 4, 5, 13, 15, 19, 61, 62], hS.sp [1, 4] [25, 0, 4, 5, 6, 26, 27, 28], H⟩
 rintro n a w ⟨κ, y168, hF, hS, H⟩
 rcases n with _ | fuel3
 simp [M.law19_WardenModes_L3] at H
 simp only [M.law19_WardenModes_L3] at H
 refine wpIn_seq_k fun K169 hK169 => ?_
 refine wpIn_region_lit ?_
 refine wp 1 [3, 4, 5, 13, 15, 19, 61, 62, 63] hF fun a hF => ?_
 refine wpListIn_nil ?_
 refine hK169 _ _ ?_
 refine wpIn_seq_k fun K170 hK170 => ?_
 refine bif_split H (fun hb H => ?_) (fun hb H => ?_)
 refine cond_t hF (by kernel_rfl) hb ?_
 refine wpIn_skip ?_
 refine hK170 _ _ ?_
 refine wpIn_seq_k fun K171 hK171 => ?_
 refine wpIn_block ?_
 refine wpIn_seq_k fun K172 hK172 => ?_
 refine wpIn_region_lit ?_
 refine wl_pure (L' := [(3, .slice p5 (a4).length c6), (4, .int .i64 (a7)), (5, .int .i64 (a8)), (13, pt b13 0), (15, .int .i64 (y76)), (19, pt b114 0), (61, .agg (flat [(21, (encs (fInt .i64) x117))]).toArray), (62, .int .i64 (y168)), (64, .int .i64 (y168))]) 1 [3, 4, 5, 13, 15, 19, 61, 62, 64] hF (by kernel_rfl) fun a hF => ?_
 refine bind_split H (fun x173 hx173 H => ?_)
 refine wc (wo_val hF (by kernel_rfl) (v := .int .i64 (x173)) (val_indexA1 (t := (fInt .i64)) (E := 3) (n := 21) (m := 21) rfl (by kernel_rfl) rfl hx173 (hS.get 1 rfl) rfl rfl (by kernel_rfl) (by kernel_rfl) (by kernel_rfl) _) fun a hF => ?_)
 refine wp 2 [3, 4, 5, 13, 15, 19, 20, 21, 61, 62] hF fun a hF => ?_
 refine wpListIn_nil ?_
 refine hK172 _ _ ?_
 refine wpIn_seq_k fun K174 hK174 => ?_
 refine wpIn_region_lit ?_
 refine bind_split H (fun v176 hv176 H => ?_)
 refine wl_join (fun a w => ∃ κ : Gh, Fr (122) [] [(3, .slice p5 (a4).length c6), (4, .int .i64 (a7)), (5, .int .i64 (a8)), (13, pt b13 0), (15, .int .i64 (y76)), (19, pt b114 0), (61, .agg (flat [(21, (encs (fInt .i64) x117))]).toArray), (62, .int .i64 (y168)), (97, .bool (v176))] a ∧ SS [] κ0 w0 κ w [.box b114 30 [si x112.Pool, si x112.Nodes, (4, (encs fBool x112.Members)), (8, cs113), (21, (encs (fInt .i64) x112.Modes))], .box b13 30 [si y70, si y71, (4, (encs fBool y72)), (8, cs74), (21, (encs (fInt .i64) y75))]] [Ro.mp f_api_Cmd.ty p5 c6 a4, MP.const (List.length x117 = 21), MP.const (List.length x112.Members = 4), Arr.mp t_api_Map cs113 4 x112.Maps, MP.const (List.length x112.Modes = 21), MP.const (List.length y72 = 4), Arr.mp t_api_Map cs74 4 y73, MP.const (List.length y75 = 21)] ∧ True) ?_ ?_
 refine wl_pure (L' := [(3, .slice p5 (a4).length c6), (4, .int .i64 (a7)), (5, .int .i64 (a8)), (13, pt b13 0), (15, .int .i64 (y76)), (19, pt b114 0), (20, .int .i64 (y168)), (21, .int .i64 (x173)), (61, .agg (flat [(21, (encs (fInt .i64) x117))]).toArray), (62, .int .i64 (y168)), (66, .int .i64 (x173)), (67, .int .i64 (y168)), (68, pt b13 14)]) 3 [3, 4, 5, 13, 15, 19, 20, 21, 61, 62, 66, 67, 68] hF (by kernel_rfl) fun a hF => ?_
 refine bind_split hv176 (fun x177 hx177 hv176 => ?_)
 refine wc (wo_indexArr hF (by kernel_rfl) (E := 3) (sz := 1) (n := 21) rfl rfl (i := y168) rfl (idx_lt hx177 (hS.get 7 rfl)) (by kernel_rfl) (by kernel_rfl) fun a hF => ?_)
 refine wc (wo_loadA1 (t := (fInt .i64)) hF hS (by kernel_rfl) 1 4 (v := .int .i64 (x177)) rfl rfl rfl rfl hx177 rfl rfl (by kernel_rfl) (by kernel_rfl) fun a hF => ?_)
 refine wp 2 [3, 4, 5, 13, 15, 19, 20, 21, 61, 62, 72] hF fun a hF => ?_
 refine bif_split hv176 (fun hb hv176 => ?_) (fun hb hv176 => ?_)
 have hF := hF.boolv 72 (by kernel_rfl) hb
 refine wl_pure (L' := [(3, .slice p5 (a4).length c6), (4, .int .i64 (a7)), (5, .int .i64 (a8)), (13, pt b13 0), (15, .int .i64 (y76)), (19, pt b114 0), (20, .int .i64 (y168)), (21, .int .i64 (x173)), (61, .agg (flat [(21, (encs (fInt .i64) x117))]).toArray), (62, .int .i64 (y168)), (72, .bool (true)), (73, .int .i64 (x173)), (74, .int .i64 (y168)), (75, pt b114 14)]) 3 [3, 4, 5, 13, 15, 19, 20, 21, 61, 62, 72, 73, 74, 75] hF (by kernel_rfl) fun a hF => ?_
 refine bind_split hv176 (fun x178 hx178 hv176 => ?_)
 refine wcg hF (wo_indexArr hF (by kernel_rfl) (E := 3) (sz := 1) (n := 21) rfl rfl (i := y168) rfl (idx_lt hx178 (hS.get 4 rfl)) (by kernel_rfl) (by kernel_rfl) fun a hF => ?_)
 refine wcg hF (wo_loadA1 (t := (fInt .i64)) hF hS (by kernel_rfl) 0 4 (v := .int .i64 (x178)) rfl rfl rfl rfl hx178 rfl rfl (by kernel_rfl) (by kernel_rfl) fun a hF => ?_)
 refine wp 3 [3, 4, 5, 13, 15, 19, 20, 21, 61, 62, 80] hF fun a hF => ?_
 refine bif_split hv176 (fun hb hv176 => ?_) (fun hb hv176 => ?_)
 have hF := hF.boolv 80 (by kernel_rfl) hb
 refine wp 17 [3, 4, 5, 13, 15, 19, 61, 62, 97] hF fun a hF => ?_
 refine wpListIn_nil ?_
 cases hv176
 exact ⟨_, hF.kp [3, 4, 5, 13, 15, 19, 61, 62, 97], hS.sp [0, 1] [0, 1, 2, 3, 4, 5, 6, 7], trivial⟩
 have hF := hF.boolv 80 (by kernel_rfl) hb
 refine wp 3 [3, 4, 5, 13, 15, 19, 20, 61, 62, 80, 83] hF fun a hF => ?_
 refine bif_split hv176 (fun hb hv176 => ?_) (fun hb hv176 => ?_)
 have hF := hF.boolv 83 (by kernel_rfl) hb
 refine wl_pure (L' := [(3, .slice p5 (a4).length c6), (4, .int .i64 (a7)), (5, .int .i64 (a8)), (13, pt b13 0), (15, .int .i64 (y76)), (19, pt b114 0), (20, .int .i64 (y168)), (61, .agg (flat [(21, (encs (fInt .i64) x117))]).toArray), (62, .int .i64 (y168)), (80, .bool (false)), (83, .bool (true)), (84, .int .i64 (y168)), (85, pt b13 14)]) 2 [3, 4, 5, 13, 15, 19, 20, 61, 62, 80, 83, 84, 85] hF (by kernel_rfl) fun a hF => ?_
 refine bind_split hv176 (fun x179 hx179 hv176 => ?_)
 refine wcg hF (wo_indexArr hF (by kernel_rfl) (E := 3) (sz := 1) (n := 21) rfl rfl (i := y168) rfl (idx_lt hx179 (hS.get 7 rfl)) (by kernel_rfl) (by kernel_rfl) fun a hF => ?_)
 refine wcg hF (wo_loadA1 (t := (fInt .i64)) hF hS (by kernel_rfl) 1 4 (v := .int .i64 (x179)) rfl rfl rfl rfl hx179 rfl rfl (by kernel_rfl) (by kernel_rfl) fun a hF => ?_)
 refine wp 2 [3, 4, 5, 13, 15, 19, 20, 61, 62, 80, 83, 89] hF fun a hF => ?_
 refine bif_split hv176 (fun hb hv176 => ?_) (fun hb hv176 => ?_)
 have hF := hF.boolv 89 (by kernel_rfl) hb
 refine wp 8 [3, 4, 5, 13, 15, 19, 61, 62, 97] hF fun a hF => ?_
 refine wpListIn_nil ?_
 cases hv176
 exact ⟨_, hF.kp [3, 4, 5, 13, 15, 19, 61, 62, 97], hS.sp [0, 1] [0, 1, 2, 3, 4, 5, 6, 7], trivial⟩
 have hF := hF.boolv 89 (by kernel_rfl) hb
 refine wl_pure (L' := [(3, .slice p5 (a4).length c6), (4, .int .i64 (a7)), (5, .int .i64 (a8)), (13, pt b13 0), (15, .int .i64 (y76)), (19, pt b114 0), (61, .agg (flat [(21, (encs (fInt .i64) x117))]).toArray), (62, .int .i64 (y168)), (80, .bool (false)), (83, .bool (true)), (89, .bool (false)), (90, .int .i64 (y168)), (91, pt b114 14)]) 2 [3, 4, 5, 13, 15, 19, 61, 62, 80, 83, 89, 90, 91] hF (by kernel_rfl) fun a hF => ?_
 refine bind_split hv176 (fun x180 hx180 hv176 => ?_)
 refine wcg hF (wo_indexArr hF (by kernel_rfl) (E := 3) (sz := 1) (n := 21) rfl rfl (i := y168) rfl (idx_lt hx180 (hS.get 4 rfl)) (by kernel_rfl) (by kernel_rfl) fun a hF => ?_)
 refine wcg hF (wo_loadA1 (t := (fInt .i64)) hF hS (by kernel_rfl) 0 4 (v := .int .i64 (x180)) rfl rfl rfl rfl hx180 rfl rfl (by kernel_rfl) (by kernel_rfl) fun a hF => ?_)
 refine wp 4 [3, 4, 5, 13, 15, 19, 61, 62, 97] hF fun a hF => ?_
 refine wpListIn_nil ?_
 cases hv176
 exact ⟨_, hF.kp [3, 4, 5, 13, 15, 19, 61, 62, 97], hS.sp [0, 1] [0, 1, 2, 3, 4, 5, 6, 7], trivial⟩
 have hF := hF.boolv 83 (by kernel_rfl) hb
 refine wp 14 [3, 4, 5, 13, 15, 19, 61, 62, 97] hF fun a hF => ?_
 refine wpListIn_nil ?_
 cases hv176
 exact ⟨_, hF.kp [3, 4, 5, 13, 15, 19, 61, 62, 97], hS.sp [0, 1] [0, 1, 2, 3, 4, 5, 6, 7], trivial⟩
 have hF := hF.boolv 72 (by kernel_rfl) hb
 refine wp 11 [3, 4, 5, 13, 15, 19, 20, 61, 62, 80, 83] hF fun a hF => ?_
 refine bif_split hv176 (fun hb hv176 => ?_) (fun hb hv176 => ?_)
 have hF := hF.boolv 83 (by kernel_rfl) hb
 refine wl_pure (L' := [(3, .slice p5 (a4).length c6), (4, .int .i64 (a7)), (5, .int .i64 (a8)), (13, pt b13 0), (15, .int .i64 (y76)), (19, pt b114 0), (20, .int .i64 (y168)), (61, .agg (flat [(21, (encs (fInt .i64) x117))]).toArray), (62, .int .i64 (y168)), (80, .bool (false)), (83, .bool (true)), (84, .int .i64 (y168)), (85, pt b13 14)]) 2 [3, 4, 5, 13, 15, 19, 20, 61, 62, 80, 83, 84, 85] hF (by kernel_rfl) fun a hF => ?_
 refine bind_split hv176 (fun x181 hx181 hv176 => ?_)
 refine wcg hF (wo_indexArr hF (by kernel_rfl) (E := 3) (sz := 1) (n := 21) rfl rfl (i := y168) rfl (idx_lt hx181 (hS.get 7 rfl)) (by kernel_rfl) (by kernel_rfl) fun a hF => ?_)
 refine wcg hF (wo_loadA1 (t := (fInt .i64)) hF hS (by kernel_rfl) 1 4 (v := .int .i64 (x181)) rfl rfl rfl rfl hx181 rfl rfl (by kernel_rfl) (by kernel_rfl) fun a hF => ?_)
 refine wp 2 [3, 4, 5, 13, 15, 19, 20, 61, 62, 80, 83, 89] hF fun a hF => ?_
 refine bif_split hv176 (fun hb hv176 => ?_) (fun hb hv176 => ?_)
 have hF := hF.boolv 89 (by kernel_rfl) hb
 refine wp 8 [3, 4, 5, 13, 15, 19, 61, 62, 97] hF fun a hF => ?_
 refine wpListIn_nil ?_
 cases hv176
 exact ⟨_, hF.kp [3, 4, 5, 13, 15, 19, 61, 62, 97], hS.sp [0, 1] [0, 1, 2, 3, 4, 5, 6, 7], trivial⟩
 have hF := hF.boolv 89 (by kernel_rfl) hb
 refine wl_pure (L' := [(3, .slice p5 (a4).length c6), (4, .int .i64 (a7)), (5, .int .i64 (a8)), (13, pt b13 0), (15, .int .i64 (y76)), (19, pt b114 0), (61, .agg (flat [(21, (encs (fInt .i64) x117))]).toArray), (62, .int .i64 (y168)), (80, .bool (false)), (83, .bool (true)), (89, .bool (false)), (90, .int .i64 (y168)), (91, pt b114 14)]) 2 [3, 4, 5, 13, 15, 19, 61, 62, 80, 83, 89, 90, 91] hF (by kernel_rfl) fun a hF => ?_
 refine bind_split hv176 (fun x182 hx182 hv176 => ?_)
 refine wcg hF (wo_indexArr hF (by kernel_rfl) (E := 3) (sz := 1) (n := 21) rfl rfl (i := y168) rfl (idx_lt hx182 (hS.get 4 rfl)) (by kernel_rfl) (by kernel_rfl) fun a hF => ?_)
 refine wcg hF (wo_loadA1 (t := (fInt .i64)) hF hS (by kernel_rfl) 0 4 (v := .int .i64 (x182)) rfl rfl rfl rfl hx182 rfl rfl (by kernel_rfl) (by kernel_rfl) fun a hF => ?_)
 refine wp 4 [3, 4, 5, 13, 15, 19, 61, 62, 97] hF fun a hF => ?_
 refine wpListIn_nil ?_
 cases hv176
 exact ⟨_, hF.kp [3, 4, 5, 13, 15, 19, 61, 62, 97], hS.sp [0, 1] [0, 1, 2, 3, 4, 5, 6, 7], trivial⟩
 have hF := hF.boolv 83 (by kernel_rfl) hb
 refine wp 14 [3, 4, 5, 13, 15, 19, 61, 62, 97] hF fun a hF => ?_
 refine wpListIn_nil ?_
 cases hv176
 exact ⟨_, hF.kp [3, 4, 5, 13, 15, 19, 61, 62, 97], hS.sp [0, 1] [0, 1, 2, 3, 4, 5, 6, 7], trivial⟩
 rintro a w ⟨κ, hF, hS, -⟩
 refine hK174 _ _ ?_
 refine bif_split H (fun hb H => ?_) (fun hb H => ?_)
 refine cond_t hF (by kernel_rfl) hb ?_
 refine wpIn_seq_k fun K183 hK183 => ?_
 refine wpIn_region_lit ?_
 refine wp 1 [12] hF fun a hF => ?_
 refine wpListIn_nil ?_
 refine hK183 _ _ ?_
 refine wpIn_ret ?_
 cases H
 exact (ret_done hF hS (res1 Try.results19 (rvt hF)) ⟨rfl, (hS.pick [] (by kernel_rfl)).ro, hS.newC [] (by decide) (by kernel_rfl)⟩)
 refine cond_f hF (by kernel_rfl) hb ?_
 refine wpIn_skip ?_
 refine hK171 _ _ ?_
 refine wpIn_region_lit ?_
 refine wp 2 [3, 4, 5, 13, 15, 19, 61, 62] hF fun a hF => ?_
 refine wpListIn_nil ?_
 exact ⟨fuel3, Nat.lt_succ_self _, _, IntKind.i64.wrap (y168 + 1), hF.kp [3, 4, 5, 13, 15, 19, 61, 62], hS.sp [0, 1] [0, 1, 2, 3, 4, 5, 6, 7], H⟩
 refine cond_f hF (by kernel_rfl) hb ?_
 refine wpIn_exit ?_
 refine hK115 _ _ ?_
 refine wpIn_region_lit ?_
 refine wc (wls hF hS 0 0 5 fun a hF => ?_)
 refine wc (wst hF hS 1 0 5 [si x112.Pool, si x112.Nodes, (4, (encs fBool x112.Members)), (8, cs113), (21, (encs (fInt .i64) x112.Modes))] (sgN 2 (sgEnc (hS.get 2 rfl) (sgArr (hS.get 3 rfl) (sgEnc (hS.get 4 rfl) sgNil)))) fun a w hF hS => ?_)
 refine wpListIn_nil ?_
 exact ⟨_, x112.Pool, x112.Nodes, x112.Members, x112.Maps, cs113, x112.Modes, hF.kp [3, 4, 5, 13, 15], hS.sp [1] [0, 2, 3, 4], H⟩
 rintro a w ⟨κ, y81, y82, y83, y84, cs85, y86, hF, hS, H⟩
 unfold M.law19_WardenModes_k2 at H
 refine wpIn_region_lit ?_
 refine wp 3 [3, 4, 5, 13, 15] hF fun a hF => ?_
 refine wpListIn_nil ?_
 exact ⟨fuel1, Nat.lt_succ_self _, _, y81, y82, y83, y84, cs85, y86, IntKind.i64.wrap (y76 + 1), hF.kp [3, 4, 5, 13, 15], hS.sp [0] [0, 1, 2, 3], H⟩
 refine cond_f hF (by kernel_rfl) hb ?_
 refine wpIn_exit ?_
 refine hK18 _ _ ?_
 refine wpIn_seq_k fun K184 hK184 => ?_
 refine wpIn_region_lit ?_
 refine wp 2 [4, 5, 100, 101] hF fun a hF => ?_
 refine bind_split H (fun x185 hx185 H => ?_)
 refine wc (wo_callP hF hS (by kernel_rfl) (by kernel_rfl) (C_warden_Narrow N hS.fresh a7 a8  ((hS.pick [] (by kernel_rfl)).ro) hx185) ?_)
 rintro _ κ w a ⟨rfl, hR, hN⟩ hF hS hO
 refine wp 1 [4, 5, 22] hF fun a hF => ?_
 refine wpListIn_nil ?_
 refine hK184 _ _ ?_
 refine wpIn_seq_k fun K186 hK186 => ?_
 refine wpIn_region_lit ?_
 refine bind_split H (fun v188 hv188 H => ?_)
 refine wl_join (fun a w => ∃ κ : Gh, Fr (122) [] [(12, .bool (v188))] a ∧ SS [] κ0 w0 κ w [] [] ∧ True) ?_ ?_
 refine bind_split hv188 (fun x189 hx189 hv188 => ?_)
 refine wc (wo_callP hF hS (by kernel_rfl) (by kernel_rfl) (C_law19_awake N hS.fresh   ((hS.pick [] (by kernel_rfl)).ro) hx189) ?_)
 rintro _ κ w a ⟨rfl, hR, hN⟩ hF hS hO
 refine wp 1 [4, 5, 22, 104] hF fun a hF => ?_
 refine bif_split hv188 (fun hb hv188 => ?_) (fun hb hv188 => ?_)
 have hF := hF.boolv 104 (by kernel_rfl) hb
 refine wp 3 [4, 5, 22, 104, 107] hF fun a hF => ?_
 refine bif_split hv188 (fun hb hv188 => ?_) (fun hb hv188 => ?_)
 have hF := hF.boolv 107 (by kernel_rfl) hb
 refine wp 5 [4, 5, 22, 104, 112] hF fun a hF => ?_
 refine bif_split hv188 (fun hb hv188 => ?_) (fun hb hv188 => ?_)
 have hF := hF.boolv 112 (by kernel_rfl) hb
 refine wp 10 [12] hF fun a hF => ?_
 refine wpListIn_nil ?_
 cases hv188
 exact ⟨_, hF.kp [12], hS.sp [] [], trivial⟩
 have hF := hF.boolv 112 (by kernel_rfl) hb
 refine wp 3 [5, 22, 104, 112, 115] hF fun a hF => ?_
 refine bif_split hv188 (fun hb hv188 => ?_) (fun hb hv188 => ?_)
 have hF := hF.boolv 115 (by kernel_rfl) hb
 refine wp 7 [12] hF fun a hF => ?_
 refine wpListIn_nil ?_
 cases hv188
 exact ⟨_, hF.kp [12], hS.sp [] [], trivial⟩
 have hF := hF.boolv 115 (by kernel_rfl) hb
 refine wp 7 [12] hF fun a hF => ?_
 refine wpListIn_nil ?_
 cases hv188
 exact ⟨_, hF.kp [12], hS.sp [] [], trivial⟩
 have hF := hF.boolv 107 (by kernel_rfl) hb
 refine wp 8 [5, 22, 104, 112, 115] hF fun a hF => ?_
 refine bif_split hv188 (fun hb hv188 => ?_) (fun hb hv188 => ?_)
 have hF := hF.boolv 115 (by kernel_rfl) hb
 refine wp 7 [12] hF fun a hF => ?_
 refine wpListIn_nil ?_
 cases hv188
 exact ⟨_, hF.kp [12], hS.sp [] [], trivial⟩
 have hF := hF.boolv 115 (by kernel_rfl) hb
 refine wp 7 [12] hF fun a hF => ?_
 refine wpListIn_nil ?_
 cases hv188
 exact ⟨_, hF.kp [12], hS.sp [] [], trivial⟩
 have hF := hF.boolv 104 (by kernel_rfl) hb
 refine wp 18 [12] hF fun a hF => ?_
 refine wpListIn_nil ?_
 cases hv188
 exact ⟨_, hF.kp [12], hS.sp [] [], trivial⟩
 rintro a w ⟨κ, hF, hS, -⟩
 refine hK186 _ _ ?_
 refine wpIn_ret ?_
 cases H
 exact (ret_done hF hS (res1 Try.results19 (rvt hF)) ⟨rfl, (hS.pick [] (by kernel_rfl)).ro, hS.newC [] (by decide) (by kernel_rfl)⟩)
end Go.Cf
