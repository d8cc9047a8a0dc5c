/- The walks: each function returns what its model says. Printed by a program of ours. -/
import Derived.Test.YtjohablgnnbelaaZM1
import Derived.Test.YtjohablgnnbelaaZW8r
namespace Go.Cf
open Go Go.Proofs
set_option linter.unusedVariables false
set_option maxRecDepth 20000 in
set_option maxHeartbeats 1000000 in
theorem C_law19_Mails (N : Nat) {κ0 : Gh} {w0 : World} (hfr : Fresh κ0 w0) (a1 : (List T_api_Mail)) (a4 : (List T_api_Mail)) (p2 : Option Addr) (c3 : Nat) (p5 : Option Addr) (c6 : Nat) (hR : ∀ m ∈ ([Ro.mp t_api_Mail p2 c3 a1, Ro.mp t_api_Mail p5 c6 a4] : List MP), m.p κ0 w0) {r : (Bool)} (H : M.law19_Mails N a1 a4 = some r) :
    Calls Try.prog 76 #[.slice p2 (a1).length c3, .slice p5 (a4).length c6] w0 (Post [] κ0 w0 fun v κ w => v = vb r ∧ (∀ m ∈ ([] : List MP), m.p κ w) ∧ NewC w0 κ w []) := by
 have hS := SS.start hfr hR
 refine enter (N := (42)) (L := [(0, .slice p2 (a1).length c3), (1, .slice p5 (a4).length c6)]) Try.func76 rfl Try.ntmps76 (show 2 ≤ (42) by decide) rfl fun a hF => ?_
 unfold M.law19_Mails at H
 refine wpIn_seq_k fun K7 hK7 => ?_
 refine wpIn_region_lit ?_
 refine wp 1 [0, 1] hF fun a hF => ?_
 refine wpListIn_nil ?_
 refine hK7 _ _ ?_
 refine wpIn_seq_k fun K8 hK8 => ?_
 refine wpIn_seq_k fun K9 hK9 => ?_
 refine wpIn_region_lit ?_
 refine wp 5 [0, 1, 10] hF fun a hF => ?_
 refine wpListIn_nil ?_
 refine hK9 _ _ ?_
 refine bif_split H (fun hb H => ?_) (fun hb H => ?_)
 refine cond_t hF (by kernel_rfl) hb ?_
 refine wpIn_seq_k fun K10 hK10 => ?_
 refine wpIn_region_lit ?_
 refine wp 1 [4] hF fun a hF => ?_
 refine wpListIn_nil ?_
 refine hK10 _ _ ?_
 refine wpIn_ret ?_
 cases H
 exact (ret_done hF hS (res1 Try.results76 (rvt hF)) ⟨rfl, (hS.pick [] (by kernel_rfl)).ro, hS.newC [] (by decide) (by kernel_rfl)⟩)
 refine cond_f hF (by kernel_rfl) hb ?_
 refine wpIn_skip ?_
 refine hK8 _ _ ?_
 refine wpIn_seq_k fun K11 hK11 => ?_
 refine wpIn_seq_k fun K12 hK12 => ?_
 refine wpIn_region_lit ?_
 refine wp 3 [0, 1, 12, 13] hF fun a hF => ?_
 refine wpListIn_nil ?_
 refine hK12 _ _ ?_
 refine wpIn_block ?_
 refine loop_fuel (n := N) (fun n a w => ∃ (κ : Gh) (y63 : Int), Fr (42) [] [(0, .slice p2 (a1).length c3), (1, .slice p5 (a4).length c6), (12, vi ((a1).length : Int)), (13, vi y63)] a ∧ SS [] κ0 w0 κ w [] [Ro.mp t_api_Mail p2 c3 a1, Ro.mp t_api_Mail p5 c6 a4] ∧ M.law19_Mails_L1 N n a1 a4 y63 = some r) ?_ ?_
 exact ⟨_, 0, hF.kp [0, 1, 12, 13], hS.sp [] [0, 1], H⟩
 rintro n a w ⟨κ, y63, hF, hS, H⟩
 rcases n with _ | fuel1
 simp [M.law19_Mails_L1] at H
 simp only [M.law19_Mails_L1] at H
 refine wpIn_seq_k fun K64 hK64 => ?_
 refine wpIn_region_lit ?_
 refine wp 1 [0, 1, 12, 13, 14] hF fun a hF => ?_
 refine wpListIn_nil ?_
 refine hK64 _ _ ?_
 refine wpIn_seq_k fun K65 hK65 => ?_
 refine bif_split H (fun hb H => ?_) (fun hb H => ?_)
 refine cond_t hF (by kernel_rfl) hb ?_
 refine wpIn_skip ?_
 refine hK65 _ _ ?_
 refine wpIn_seq_k fun K66 hK66 => ?_
 refine wpIn_block ?_
 refine wpIn_seq_k fun K67 hK67 => ?_
 refine wpIn_region_lit ?_
 refine wp 2 [0, 1, 5, 12, 13] hF fun a hF => ?_
 refine wpListIn_nil ?_
 refine hK67 _ _ ?_
 refine wpIn_seq_k fun K68 hK68 => ?_
 refine bind_split H (fun x69 hx69 H => ?_)
 obtain ⟨b70, f71, hpx69⟩ := hS.ptr 0 rfl hx69
 obtain ⟨_, ⟨⟨p72, c73, p74, c75⟩, rfl, hR⟩, hc⟩ := hS.elem 0 rfl hpx69 hx69
 have hS := (hS.adds hR).add hc
 refine bind_split H (fun x76 hx76 H => ?_)
 obtain ⟨b77, f78, hpx76⟩ := hS.ptr 4 rfl hx76
 obtain ⟨_, ⟨⟨p79, c80, p81, c82⟩, rfl, hR⟩, hc⟩ := hS.elem 4 rfl hpx76 hx76
 have hS := (hS.adds hR).add hc
 refine bind_split H (fun v84 hv84 H => ?_)
 refine code_join (fun a w => ∃ κ : Gh, Fr (42) [] [(0, .slice p2 (a1).length c3), (1, .slice p5 (a4).length c6), (12, vi ((a1).length : Int)), (13, vi y63), (40, vb v84)] a ∧ SS [] κ0 w0 κ w [] [Ro.mp t_api_Mail p2 c3 a1, Ro.mp t_api_Mail p5 c6 a4] ∧ True) ?_ ?_
 refine rgS hS [] ?_
 have hS := hS.drew
 refine any_pure [0, 1, 5, 6] [0, 1, 5, 12, 13, 16, 17, 21, 22] (L' := [(0, .slice p2 (a1).length c3), (1, .slice p5 (a4).length c6), (5, vi y63), (12, vi ((a1).length : Int)), (13, vi y63), (16, .slice p2 (a1).length c3), (17, vi y63), (21, .slice p5 (a4).length c6), (22, vi y63)]) (listed' := (bitA 25 99)) (fuel := 21) hF (hS.sx [] (rg 8)) (by kernel_rfl) (by intro c a w t v h; cases t <;> exact h) (by kernel_rfl) rfl fun a hF => ?_
 refine atk 2 (some 18) hF (hS.sx [] (rg 8)) rfl (fun w _ => val_index (E := 106) (sz := 15) rfl hpx69 rfl (by kernel_rfl) rfl hx69 (by kernel_rfl) (by kernel_rfl) w) fun a hF => ?_
 refine any_pure [3] [0, 1, 5, 12, 13, 19, 21, 22] (L' := [(0, .slice p2 (a1).length c3), (1, .slice p5 (a4).length c6), (5, vi y63), (12, vi ((a1).length : Int)), (13, vi y63), (19, .pointer (some ⟨b70, (f71 + Int.toNat y63 * 15), none⟩)), (21, .slice p5 (a4).length c6), (22, vi y63)]) (listed' := (bitA 25 111)) (fuel := 19) hF (hS.sx [] (rg 8)) (by kernel_rfl) (by intro c a w t v h; cases t <;> exact h) (by kernel_rfl) rfl fun a hF => ?_
 refine atk 4 (some 20) hF (hS.sx [] (rg 8)) rfl (val_loadC 3 0 (s := [si x69.To, si x69.Msg.Kind, su x69.Msg.Id, su x69.Msg.N, su x69.Msg.TS, sg x69.Msg.Lo, sg x69.Msg.Hi, sl p72 (x69.Msg.Vers).length c73, sl p74 (x69.Msg.Vec).length c75, si x69.Msg.Cmd.Kind, si x69.Msg.Cmd.DC, si x69.Msg.Cmd.Shard, si x69.Msg.Cmd.Node, si x69.Msg.Cmd.Mode, sg x69.Msg.Cmd.Key]) (v := vi x69.To) rfl rfl rfl (show segGood [si x69.To, si x69.Msg.Kind, su x69.Msg.Id, su x69.Msg.N, su x69.Msg.TS, sg x69.Msg.Lo, sg x69.Msg.Hi, sl p72 (x69.Msg.Vers).length c73, sl p74 (x69.Msg.Vec).length c75, si x69.Msg.Cmd.Kind, si x69.Msg.Cmd.DC, si x69.Msg.Cmd.Shard, si x69.Msg.Cmd.Node, si x69.Msg.Cmd.Mode, sg x69.Msg.Cmd.Key] from (sgN 15 sgNil)) (by kernel_rfl) (by kernel_rfl) (by kernel_rfl)) fun a hF => ?_
 refine atk 7 (some 23) hF (hS.sx [] (rg 8)) rfl (fun w _ => val_index (E := 106) (sz := 15) rfl hpx76 rfl (by kernel_rfl) rfl hx76 (by kernel_rfl) (by kernel_rfl) w) fun a hF => ?_
 refine any_pure [8] [0, 1, 5, 12, 13, 20, 24] (L' := [(0, .slice p2 (a1).length c3), (1, .slice p5 (a4).length c6), (5, vi y63), (12, vi ((a1).length : Int)), (13, vi y63), (20, vi x69.To), (24, .pointer (some ⟨b77, (f78 + Int.toNat y63 * 15), none⟩))]) (listed' := (bitA 25 511)) (fuel := 16) hF (hS.sx [] (rg 8)) (by kernel_rfl) (by intro c a w t v h; cases t <;> exact h) (by kernel_rfl) rfl fun a hF => ?_
 refine atk 9 (some 25) hF (hS.sx [] (rg 8)) rfl (val_loadC 0 0 (s := [si x76.To, si x76.Msg.Kind, su x76.Msg.Id, su x76.Msg.N, su x76.Msg.TS, sg x76.Msg.Lo, sg x76.Msg.Hi, sl p79 (x76.Msg.Vers).length c80, sl p81 (x76.Msg.Vec).length c82, si x76.Msg.Cmd.Kind, si x76.Msg.Cmd.DC, si x76.Msg.Cmd.Shard, si x76.Msg.Cmd.Node, si x76.Msg.Cmd.Mode, sg x76.Msg.Cmd.Key]) (v := vi x76.To) rfl rfl rfl (show segGood [si x76.To, si x76.Msg.Kind, su x76.Msg.Id, su x76.Msg.N, su x76.Msg.TS, sg x76.Msg.Lo, sg x76.Msg.Hi, sl p79 (x76.Msg.Vers).length c80, sl p81 (x76.Msg.Vec).length c82, si x76.Msg.Cmd.Kind, si x76.Msg.Cmd.DC, si x76.Msg.Cmd.Shard, si x76.Msg.Cmd.Node, si x76.Msg.Cmd.Mode, sg x76.Msg.Cmd.Key] from (sgN 15 sgNil)) (by kernel_rfl) (by kernel_rfl) (by kernel_rfl)) fun a hF => ?_
 refine anp [10, 11] [0, 1, 5, 12, 13, 27] hF (hS.sx [] (rg 8)) fun a hF => ?_
 refine bif_split hv84 (fun hb hv84 => ?_) (fun hb hv84 => ?_)
 have hF := hF.boolv 27 (by kernel_rfl) hb
 refine anp [12, 13, 14, 15, 16, 17, 18, 19, 20, 21, 22, 23, 24] [0, 1, 12, 13, 40] hF (hS.sx [] (rg 8)) fun a hF => ?_
 refine and_ ?_
 cases hv84
 exact ⟨_, hF.kp [0, 1, 12, 13, 40], hS.sp [] [6, 7], trivial⟩
 have hF := hF.boolv 27 (by kernel_rfl) hb
 refine any_pure [12, 13, 17, 18] [0, 1, 12, 13, 27, 28, 29, 33, 34] (L' := [(0, .slice p2 (a1).length c3), (1, .slice p5 (a4).length c6), (12, vi ((a1).length : Int)), (13, vi y63), (27, vb false), (28, .slice p2 (a1).length c3), (29, vi y63), (33, .slice p5 (a4).length c6), (34, vi y63)]) (listed' := (bitA 25 409599)) (fuel := 9) hF (hS.sx [] (rg 8)) (by kernel_rfl) (by intro c a w t v h; cases t <;> exact h) (by kernel_rfl) rfl fun a hF => ?_
 refine atk 14 (some 30) hF (hS.sx [] (rg 8)) rfl (fun w _ => val_index (E := 106) (sz := 15) rfl hpx69 rfl (by kernel_rfl) rfl hx69 (by kernel_rfl) (by kernel_rfl) w) fun a hF => ?_
 refine any_pure [15] [0, 1, 12, 13, 27, 31, 33, 34] (L' := [(0, .slice p2 (a1).length c3), (1, .slice p5 (a4).length c6), (12, vi ((a1).length : Int)), (13, vi y63), (27, vb false), (31, .pointer (some ⟨b70, (f71 + Int.toNat y63 * 15) + 1, none⟩)), (33, .slice p5 (a4).length c6), (34, vi y63)]) (listed' := (bitA 25 458751)) (fuel := 7) hF (hS.sx [] (rg 8)) (by kernel_rfl) (by intro c a w t v h; cases t <;> exact h) (by kernel_rfl) rfl fun a hF => ?_
 refine atk 16 (some 32) hF (hS.sx [] (rg 8)) rfl (val_loadCs 3 1 14 (s := [si x69.To, si x69.Msg.Kind, su x69.Msg.Id, su x69.Msg.N, su x69.Msg.TS, sg x69.Msg.Lo, sg x69.Msg.Hi, sl p72 (x69.Msg.Vers).length c73, sl p74 (x69.Msg.Vec).length c75, si x69.Msg.Cmd.Kind, si x69.Msg.Cmd.DC, si x69.Msg.Cmd.Shard, si x69.Msg.Cmd.Node, si x69.Msg.Cmd.Mode, sg x69.Msg.Cmd.Key]) (s' := [si x69.Msg.Kind, su x69.Msg.Id, su x69.Msg.N, su x69.Msg.TS, sg x69.Msg.Lo, sg x69.Msg.Hi, sl p72 (x69.Msg.Vers).length c73, sl p74 (x69.Msg.Vec).length c75, si x69.Msg.Cmd.Kind, si x69.Msg.Cmd.DC, si x69.Msg.Cmd.Shard, si x69.Msg.Cmd.Node, si x69.Msg.Cmd.Mode, sg x69.Msg.Cmd.Key]) (n := 14) rfl rfl rfl (show segGood [si x69.To, si x69.Msg.Kind, su x69.Msg.Id, su x69.Msg.N, su x69.Msg.TS, sg x69.Msg.Lo, sg x69.Msg.Hi, sl p72 (x69.Msg.Vers).length c73, sl p74 (x69.Msg.Vec).length c75, si x69.Msg.Cmd.Kind, si x69.Msg.Cmd.DC, si x69.Msg.Cmd.Shard, si x69.Msg.Cmd.Node, si x69.Msg.Cmd.Mode, sg x69.Msg.Cmd.Key] from (sgN 15 sgNil)) (by kernel_rfl) (by kernel_rfl) (by kernel_rfl) (by kernel_rfl) (by kernel_rfl)) fun a hF => ?_
 refine atk 19 (some 35) hF (hS.sx [] (rg 8)) rfl (fun w _ => val_index (E := 106) (sz := 15) rfl hpx76 rfl (by kernel_rfl) rfl hx76 (by kernel_rfl) (by kernel_rfl) w) fun a hF => ?_
 refine any_pure [20] [0, 1, 12, 13, 27, 32, 36] (L' := [(0, .slice p2 (a1).length c3), (1, .slice p5 (a4).length c6), (12, vi ((a1).length : Int)), (13, vi y63), (27, vb false), (32, .agg (flat [si x69.Msg.Kind, su x69.Msg.Id, su x69.Msg.N, su x69.Msg.TS, sg x69.Msg.Lo, sg x69.Msg.Hi, sl p72 (x69.Msg.Vers).length c73, sl p74 (x69.Msg.Vec).length c75, si x69.Msg.Cmd.Kind, si x69.Msg.Cmd.DC, si x69.Msg.Cmd.Shard, si x69.Msg.Cmd.Node, si x69.Msg.Cmd.Mode, sg x69.Msg.Cmd.Key]).toArray), (36, .pointer (some ⟨b77, (f78 + Int.toNat y63 * 15) + 1, none⟩))]) (listed' := (bitA 25 2097151)) (fuel := 4) hF (hS.sx [] (rg 8)) (by kernel_rfl) (by intro c a w t v h; cases t <;> exact h) (by kernel_rfl) rfl fun a hF => ?_
 refine atk 21 (some 37) hF (hS.sx [] (rg 8)) rfl (val_loadCs 0 1 14 (s := [si x76.To, si x76.Msg.Kind, su x76.Msg.Id, su x76.Msg.N, su x76.Msg.TS, sg x76.Msg.Lo, sg x76.Msg.Hi, sl p79 (x76.Msg.Vers).length c80, sl p81 (x76.Msg.Vec).length c82, si x76.Msg.Cmd.Kind, si x76.Msg.Cmd.DC, si x76.Msg.Cmd.Shard, si x76.Msg.Cmd.Node, si x76.Msg.Cmd.Mode, sg x76.Msg.Cmd.Key]) (s' := [si x76.Msg.Kind, su x76.Msg.Id, su x76.Msg.N, su x76.Msg.TS, sg x76.Msg.Lo, sg x76.Msg.Hi, sl p79 (x76.Msg.Vers).length c80, sl p81 (x76.Msg.Vec).length c82, si x76.Msg.Cmd.Kind, si x76.Msg.Cmd.DC, si x76.Msg.Cmd.Shard, si x76.Msg.Cmd.Node, si x76.Msg.Cmd.Mode, sg x76.Msg.Cmd.Key]) (n := 14) rfl rfl rfl (show segGood [si x76.To, si x76.Msg.Kind, su x76.Msg.Id, su x76.Msg.N, su x76.Msg.TS, sg x76.Msg.Lo, sg x76.Msg.Hi, sl p79 (x76.Msg.Vers).length c80, sl p81 (x76.Msg.Vec).length c82, si x76.Msg.Cmd.Kind, si x76.Msg.Cmd.DC, si x76.Msg.Cmd.Shard, si x76.Msg.Cmd.Node, si x76.Msg.Cmd.Mode, sg x76.Msg.Cmd.Key] from (sgN 15 sgNil)) (by kernel_rfl) (by kernel_rfl) (by kernel_rfl) (by kernel_rfl) (by kernel_rfl)) fun a hF => ?_
 refine ago 22 hF rfl ?_
 refine bind_split hv84 (fun x85 hx85 hv84 => ?_)
 refine wo_callP hF hS (by kernel_rfl) (by kernel_rfl) (C_ref04_Same N hS.fresh (T_api_Msg.mk x69.Msg.Kind x69.Msg.Id x69.Msg.N x69.Msg.TS x69.Msg.Lo x69.Msg.Hi x69.Msg.Vers x69.Msg.Vec (T_api_Cmd.mk x69.Msg.Cmd.Kind x69.Msg.Cmd.DC x69.Msg.Cmd.Shard x69.Msg.Cmd.Node x69.Msg.Cmd.Mode x69.Msg.Cmd.Key)) (T_api_Msg.mk x76.Msg.Kind x76.Msg.Id x76.Msg.N x76.Msg.TS x76.Msg.Lo x76.Msg.Hi x76.Msg.Vers x76.Msg.Vec (T_api_Cmd.mk x76.Msg.Cmd.Kind x76.Msg.Cmd.DC x76.Msg.Cmd.Shard x76.Msg.Cmd.Node x76.Msg.Cmd.Mode x76.Msg.Cmd.Key)) p72 c73 p74 c75 p79 c80 p81 c82 ((hS.pick [4, 5, 1, 2] (by kernel_rfl)).ro) hx85) ?_
 rintro _ κ w a ⟨rfl, hR, hN⟩ hF hS hO
 refine ⟨fun _ => (hS.sx [] (rg 8)), ?_⟩
 refine anp [23, 24] [0, 1, 12, 13, 40] hF (hS.sx [] (rg 8)) fun a hF => ?_
 refine and_ ?_
 cases hv84
 exact ⟨_, hF.kp [0, 1, 12, 13, 40], hS.sp [] [6, 7], trivial⟩
 rintro a w ⟨κ, hF, hS, -⟩
 refine hK68 _ _ ?_
 refine bif_split H (fun hb H => ?_) (fun hb H => ?_)
 refine cond_t hF (by kernel_rfl) hb ?_
 refine wpIn_seq_k fun K86 hK86 => ?_
 refine wpIn_region_lit ?_
 refine wp 1 [4] hF fun a hF => ?_
 refine wpListIn_nil ?_
 refine hK86 _ _ ?_
 refine wpIn_ret ?_
 cases H
 exact (ret_done hF hS (res1 Try.results76 (rvt hF)) ⟨rfl, (hS.pick [] (by kernel_rfl)).ro, hS.newC [] (by decide) (by kernel_rfl)⟩)
 refine cond_f hF (by kernel_rfl) hb ?_
 refine wpIn_skip ?_
 refine hK66 _ _ ?_
 refine wpIn_region_lit ?_
 refine wp 2 [0, 1, 12, 13] hF fun a hF => ?_
 refine wpListIn_nil ?_
 exact ⟨fuel1, Nat.lt_succ_self _, _, IntKind.i64.wrap (y63 + 1), hF.kp [0, 1, 12, 13], hS.sp [] [0, 1], H⟩
 refine cond_f hF (by kernel_rfl) hb ?_
 refine wpIn_exit ?_
 refine hK11 _ _ ?_
 refine wpIn_seq_k fun K87 hK87 => ?_
 refine wpIn_region_lit ?_
 refine wp 1 [4] hF fun a hF => ?_
 refine wpListIn_nil ?_
 refine hK87 _ _ ?_
 refine wpIn_ret ?_
 cases H
 exact (ret_done hF hS (res1 Try.results76 (rvt hF)) ⟨rfl, (hS.pick [] (by kernel_rfl)).ro, hS.newC [] (by decide) (by kernel_rfl)⟩)
end Go.Cf
