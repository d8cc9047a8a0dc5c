/- The walks: each function returns what its model says. Printed by a program of ours. -/
import Derived.Test.YtjohablgnnbelaaZM1
import Derived.Test.YtjohablgnnbelaaZW1
import Derived.Test.YtjohablgnnbelaaZW6
namespace Go.Cf
open Go Go.Proofs
set_option linter.unusedVariables false
set_option maxRecDepth 20000 in
set_option maxHeartbeats 1000000 in
theorem C_warden_New (N : Nat) {Ms : List Nat} {κ0 : Gh} {w0 : World} (a1 : T_config_State) (cs2 : List Value) (hB : SB Ms κ0 w0 [] [ml a1.Members 4, Arr.mp t_api_Map cs2 4 a1.Maps, ml a1.Modes 21]) {r : (T_warden_Warden)} (H : M.warden_New N a1 = some r) :
    Calls Try.prog 64 #[.agg (flat [si a1.Pool, si a1.Nodes, eb 4 a1.Members, (8, cs2), ei 21 a1.Modes]).toArray] w0 (Post Ms κ0 w0 fun v κ w => ∃ (b11 : Nat) (cs12 cs13 : List Value) (p14 : Option Addr) (c15 : Nat) (p16 : Option Addr) (c17 : Nat), v = pt b11 0 ∧ SS Ms κ0 w0 κ w [.box b11 120 [si r.now.Pool, si r.now.Nodes, eb 4 r.now.Members, (8, cs12), ei 21 r.now.Modes, si r.tail.Pool, si r.tail.Nodes, eb 4 r.tail.Members, (8, cs13), ei 21 r.tail.Modes, sl p14 (r.queue).length c15, si r.done, si r.epoch, si r.step_, eb 4 r.wait, su r.mark_, sb r.ready, sl p16 (r.out).length c17], .tok p14 72 6 (r.queue).length c15, .tok p16 106 15 (r.out).length c17] [ml r.now.Members 4, Arr.mp t_api_Map cs12 4 r.now.Maps, ml r.now.Modes 21, ml r.tail.Members 4, Arr.mp t_api_Map cs13 4 r.tail.Maps, ml r.tail.Modes 21, Ro.mp f_api_Cmd.ty p14 c15 r.queue, ml r.wait 4, Ro.mp t_api_Mail p16 c17 r.out]) := by
 have hS := hB.hS
 have hfr := hS.fresh
 refine enter (N := (9)) (L := [(0, .agg (flat [si a1.Pool, si a1.Nodes, eb 4 a1.Members, (8, cs2), ei 21 a1.Modes]).toArray)]) Try.func64 rfl Try.ntmps64 (show 1 ≤ (9) by decide) rfl fun a hF => ?_
 unfold M.warden_New at H
 refine wpIn_seq_k fun K3 hK3 => ?_
 refine wpIn_region_lit ?_
 refine wc (wbx hF hS [si a1.Pool, si a1.Nodes, eb 4 a1.Members, (8, cs2), ei 21 a1.Modes] (sgN 2 (sgEnc (hS.get 0 rfl) (sgArr (hS.get 1 rfl) (sgEnc (hS.get 2 rfl) sgNil)))) fun b4 a w hF hS => ?_)
 refine wl_pure (L' := [(1, pt b4 0)]) 1 [1] hF (by kernel_rfl) fun a hF => ?_
 refine wpListIn_nil ?_
 refine hK3 _ _ ?_
 refine wpIn_seq_k fun K5 hK5 => ?_
 refine rgS hS [] ?_
 have hS := hS.drew
 refine bind_split H (fun x6 hx6 H => ?_)
 refine bind_split H (fun x8 hx8 H => ?_)
 refine atk 0 (some 3) hF (hS.sx [0] [0, 1, 2]) rfl (vls 0 0 5) fun a hF => ?_
 refine atk 2 (some 5) hF (hS.sx [0] [0, 1, 2]) rfl (vls 0 0 5) fun a hF => ?_
 refine ago 1 hF rfl ?_
 refine wo_callP hF hS (by kernel_rfl) (by kernel_rfl) (C_config_Copy N hS.fresh (T_config_State.mk a1.Pool a1.Nodes a1.Members a1.Maps a1.Modes) cs2 ((hS.pick [0, 1, 2] (by kernel_rfl)).ro) hx6) ?_
 rintro _ κ w a ⟨cs7, rfl, hR, hN⟩ hF hS hO
 have hS := hS.adds hR
 refine ⟨fun _ => (hS.sx [0] [3, 4, 5]), ?_⟩
 refine ago 3 hF rfl ?_
 refine wo_callP hF hS (by kernel_rfl) (by kernel_rfl) (C_config_Copy N hS.fresh (T_config_State.mk a1.Pool a1.Nodes a1.Members a1.Maps a1.Modes) cs2 ((hS.pick [3, 4, 5] (by kernel_rfl)).ro) hx8) ?_
 rintro _ κ w a ⟨cs9, rfl, hR, hN⟩ hF hS hO
 have hS := hS.adds hR
 refine ⟨fun _ => (hS.sx [0] [6, 7, 8]), ?_⟩
 refine ago 4 hF rfl ?_
 refine wo_val hF (by kernel_rfl) (v := .agg (flat [si x6.Pool, si x6.Nodes, eb 4 x6.Members, (8, cs7), ei 21 x6.Modes, si x8.Pool, si x8.Nodes, eb 4 x8.Members, (8, cs9), ei 21 x8.Modes, sl none 0 0, si 0, si 0, si 0, eb 4 (List.replicate 4 false), su 0, sb false, sl none 0 0]).toArray) (val_build (rows := [[si 0, si 0, eb 4 (List.replicate 4 false), (8, (List.replicate 4 (flat [sl none 0 0, sl none 0 0])).flatten), ei 21 (List.replicate 21 0)], [si 0, si 0, eb 4 (List.replicate 4 false), (8, (List.replicate 4 (flat [sl none 0 0, sl none 0 0])).flatten), ei 21 (List.replicate 21 0)], [sl none 0 0], [si 0], [si 0], [si 0], [eb 4 (List.replicate 4 false)], [su 0], [sb false], [sl none 0 0]]) (vals := [(0, [si x6.Pool, si x6.Nodes, eb 4 x6.Members, (8, cs7), ei 21 x6.Modes]), (1, [si x8.Pool, si x8.Nodes, eb 4 x8.Members, (8, cs9), ei 21 x8.Modes])]) (sizes := [35, 35, 1, 1, 1, 1, 4, 1, 1, 1]) (s' := [si x6.Pool, si x6.Nodes, eb 4 x6.Members, (8, cs7), ei 21 x6.Modes, si x8.Pool, si x8.Nodes, eb 4 x8.Members, (8, cs9), ei 21 x8.Modes, sl none 0 0, si 0, si 0, si 0, eb 4 (List.replicate 4 false), su 0, sb false, sl none 0 0]) rfl (by kernel_rfl) (by kernel_rfl) (by kernel_rfl) (by kernel_rfl) (by kernel_rfl) (sgN 2 (sgEnc (hS.get 3 rfl) (sgArr (hS.get 4 rfl) (sgEnc (hS.get 5 rfl) (sgN 2 (sgEnc (hS.get 0 rfl) (sgArr (hS.get 1 rfl) (sgEnc (hS.get 2 rfl) sgNil)))))))) (by kernel_rfl) (by kernel_rfl) _) fun a hF => ?_
 refine ⟨fun _ => (hS.sx [0] [6, 7, 8]), ?_⟩
 refine ago 5 hF rfl ?_
 have hS := hS.add (m := ml (List.replicate 4 false) 4) (List.length_replicate)
 refine wbx hF hS [si x6.Pool, si x6.Nodes, eb 4 x6.Members, (8, cs7), ei 21 x6.Modes, si x8.Pool, si x8.Nodes, eb 4 x8.Members, (8, cs9), ei 21 x8.Modes, sl none 0 0, si 0, si 0, si 0, eb 4 (List.replicate 4 false), su 0, sb false, sl none 0 0] (sgN 2 (sgEnc (hS.get 4 rfl) (sgArr (hS.get 5 rfl) (sgEnc (hS.get 6 rfl) (sgN 2 (sgEnc (hS.get 1 rfl) (sgArr (hS.get 2 rfl) (sgEnc (hS.get 3 rfl) (sgN 4 (sgEnc List.length_replicate (sgN 3 sgNil))))))))))) fun b10 a w hF hS => ?_
 refine ⟨fun _ => (hS.sx [1] [7, 8, 9]), ?_⟩
 refine anp [6] [2] hF (hS.sx [1] [7, 8, 9]) fun a hF => ?_
 refine and_ ?_
 refine hK5 _ _ ?_
 refine wpIn_ret ?_
 have hS := hS.add (m := Ro.mp f_api_Cmd.ty none 0 ([] : List T_api_Cmd)) (Ro.nil f_api_Cmd.ty _ _)
 have hS := hS.add (m := Ro.mp t_api_Mail none 0 ([] : List T_api_Mail)) (Ro.nil t_api_Mail _ _)
 have hS := hS.addNil 72 6
 have hS := hS.addNil 106 15
 cases H
 exact ret_done hF hS (res1 Try.results64 (rvt hF)) ⟨b10, cs7, cs9, none, 0, none, 0, rfl, hS.sp [2, 1, 0] [6, 7, 8, 3, 4, 5, 1, 2, 0]⟩
set_option maxRecDepth 20000 in
set_option maxHeartbeats 1000000 in
theorem C_warden_two (N : Nat) {κ0 : Gh} {w0 : World} (hfr : Fresh κ0 w0) (a1 : T_api_Cmd)  (hR : ∀ m ∈ ([] : List MP), m.p κ0 w0) {r : (Bool)} (H : M.warden_two N a1 = some r) :
    Calls Try.prog 86 #[.agg (flat [si a1.Kind, si a1.DC, si a1.Shard, si a1.Node, si a1.Mode, sg a1.Key]).toArray] w0 (Post [] κ0 w0 fun v κ w => v = vb r ∧ (∀ m ∈ ([] : List MP), m.p κ w) ∧ NewC w0 κ w []) := by
 have hS := SS.start hfr hR
 refine enter (N := (11)) (L := [(0, .agg (flat [si a1.Kind, si a1.DC, si a1.Shard, si a1.Node, si a1.Mode, sg a1.Key]).toArray)]) Try.func86 rfl Try.ntmps86 (show 1 ≤ (11) by decide) rfl fun a hF => ?_
 unfold M.warden_two at H
 refine wpIn_seq_k fun K2 hK2 => ?_
 refine wpIn_region_lit ?_
 refine wc (wbx hF hS [si a1.Kind, si a1.DC, si a1.Shard, si a1.Node, si a1.Mode, sg a1.Key] (sgN 6 sgNil) fun b3 a w hF hS => ?_)
 refine wp 1 [1] hF fun a hF => ?_
 refine wpListIn_nil ?_
 refine hK2 _ _ ?_
 refine wpIn_seq_k fun K4 hK4 => ?_
 refine wpIn_region_lit ?_
 refine bind_split H (fun v6 hv6 H => ?_)
 refine wl_join (fun a w => ∃ κ : Gh, Fr (11) [] [(2, vb v6)] a ∧ SS [] κ0 w0 κ w [] [] ∧ True) ?_ ?_
 refine wp 1 [1, 3] hF fun a hF => ?_
 refine wc (wld hF hS 0 0 0 fun a hF => ?_)
 refine wp 2 [1, 6] hF fun a hF => ?_
 refine bif_split hv6 (fun hb hv6 => ?_) (fun hb hv6 => ?_)
 have hF := hF.boolv 6 (by kernel_rfl) hb
 refine wp 5 [2] hF fun a hF => ?_
 refine wpListIn_nil ?_
 cases hv6
 exact ⟨_, hF.kp [2], hS.sp [] [], trivial⟩
 have hF := hF.boolv 6 (by kernel_rfl) hb
 refine wp 1 [6, 7] hF fun a hF => ?_
 refine wcg hF (wld hF hS 0 0 0 fun a hF => ?_)
 refine wp 3 [2] hF fun a hF => ?_
 refine wpListIn_nil ?_
 cases hv6
 exact ⟨_, hF.kp [2], hS.sp [] [], trivial⟩
 rintro a w ⟨κ, hF, hS, -⟩
 refine hK4 _ _ ?_
 refine wpIn_ret ?_
 cases H
 exact (ret_done hF hS (res1 Try.results86 (rvt hF)) ⟨rfl, (hS.pick [] (by kernel_rfl)).ro, hS.newC [] (by decide) (by kernel_rfl)⟩)
set_option maxRecDepth 20000 in
set_option maxHeartbeats 1000000 in
theorem C_warden_Warden_send (N : Nat) {Ms : List Nat} {κ0 : Gh} {w0 : World} (a1 : T_warden_Warden) (cs2 : List Value) (cs3 : List Value) (p4 : Option Addr) (c5 : Nat) (p6 : Option Addr) (c7 : Nat) (b8 : Nat) (hB : SB Ms κ0 w0 [.box b8 120 [si a1.now.Pool, si a1.now.Nodes, eb 4 a1.now.Members, (8, cs2), ei 21 a1.now.Modes, si a1.tail.Pool, si a1.tail.Nodes, eb 4 a1.tail.Members, (8, cs3), ei 21 a1.tail.Modes, sl p4 (a1.queue).length c5, si a1.done, si a1.epoch, si a1.step_, eb 4 a1.wait, su a1.mark_, sb a1.ready, sl p6 (a1.out).length c7], .tok p4 72 6 (a1.queue).length c5, .tok p6 106 15 (a1.out).length c7] [ml a1.now.Members 4, Arr.mp t_api_Map cs2 4 a1.now.Maps, ml a1.now.Modes 21, ml a1.tail.Members 4, Arr.mp t_api_Map cs3 4 a1.tail.Maps, ml a1.tail.Modes 21, Ro.mp f_api_Cmd.ty p4 c5 a1.queue, ml a1.wait 4, Ro.mp t_api_Mail p6 c7 a1.out]) {r : (T_warden_Warden)} (H : M.warden_Warden_send N a1 = some r) :
    Calls Try.prog 88 #[pt b8 0] w0 (Post Ms κ0 w0 fun v κ w => ∃ (cs258 cs259 : List Value) (p260 : Option Addr) (c261 : Nat) (p262 : Option Addr) (c263 : Nat), v = .tuple #[] ∧ SS Ms κ0 w0 κ w [.box b8 120 [si r.now.Pool, si r.now.Nodes, eb 4 r.now.Members, (8, cs258), ei 21 r.now.Modes, si r.tail.Pool, si r.tail.Nodes, eb 4 r.tail.Members, (8, cs259), ei 21 r.tail.Modes, sl p260 (r.queue).length c261, si r.done, si r.epoch, si r.step_, eb 4 r.wait, su r.mark_, sb r.ready, sl p262 (r.out).length c263], .tok p260 72 6 (r.queue).length c261, .tok p262 106 15 (r.out).length c263] [ml r.now.Members 4, Arr.mp t_api_Map cs258 4 r.now.Maps, ml r.now.Modes 21, ml r.tail.Members 4, Arr.mp t_api_Map cs259 4 r.tail.Maps, ml r.tail.Modes 21, Ro.mp f_api_Cmd.ty p260 c261 r.queue, ml r.wait 4, Ro.mp t_api_Mail p262 c263 r.out]) := by
 have hS := hB.hS
 have hfr := hS.fresh
 refine enter (N := (136)) (L := [(0, pt b8 0)]) Try.func88 rfl Try.ntmps88 (show 1 ≤ (136) by decide) rfl fun a hF => ?_
 unfold M.warden_Warden_send at H
 refine wpIn_seq_k fun K9 hK9 => ?_
 refine wpIn_region_lit ?_
 refine wl_pure (L' := [(0, pt b8 0), (15, pt b8 70)]) 3 [0, 15] hF (by kernel_rfl) fun a hF => ?_
 refine wc (wld hF hS 0 10 0 fun a hF => ?_)
 refine bind_split H (fun x10 hx10 H => ?_)
 refine wc (wo_index hF hS (by kernel_rfl) 6 (E := 72) (sz := 6) rfl rfl rfl (by kernel_rfl) rfl hx10 (by kernel_rfl) (by kernel_rfl) fun b11 f12 a hpx10 hF => ?_)
 refine wc (wo_loadRoAgg (t := f_api_Cmd) hF hS (by kernel_rfl) 6 rfl rfl hpx10 rfl hx10 (by kernel_rfl) (by kernel_rfl) (by kernel_rfl) fun a hF => ?_)
 refine wc (wal hF hS [si 0, si 0, si 0, si 0, si 0, sg ByteArray.empty] (sgN 6 sgNil) fun b13 a w hF hS => ?_)
 refine wc (wst hF hS 0 0 6 [si x10.Kind, si x10.DC, si x10.Shard, si x10.Node, si x10.Mode, sg x10.Key] (sgN 6 sgNil) fun a w hF hS => ?_)
 refine wpListIn_nil ?_
 refine hK9 _ _ ?_
 refine wpIn_seq_k fun K14 hK14 => ?_
 refine wpIn_region_lit ?_
 refine wp 3 [0, 2, 19, 21] hF fun a hF => ?_
 refine wc (wld hF hS 1 12 0 fun a hF => ?_)
 refine wp 3 [0, 2, 23, 25] hF fun a hF => ?_
 refine wc (wst hF hS 1 12 1 [si (IntKind.i64.wrap (a1.epoch + 1))] (sgN 1 sgNil) fun a w hF hS => ?_)
 refine wpListIn_nil ?_
 refine hK14 _ _ ?_
 refine wpIn_seq_k fun K15 hK15 => ?_
 refine bind_split H (fun v23 hv23 H => ?_)
 refine code_join (fun a w => ∃ (κ : Gh) (b16 : Nat) (cs21 : List Value), Fr (136) [] [(0, pt b8 0), (2, pt b13 0), (3, pt b16 0)] a ∧ SS Ms κ0 w0 κ w [.box b13 72 [si x10.Kind, si x10.DC, si x10.Shard, si x10.Node, si x10.Mode, sg x10.Key], .box b8 120 [si a1.now.Pool, si a1.now.Nodes, eb 4 a1.now.Members, (8, cs2), ei 21 a1.now.Modes, si a1.tail.Pool, si a1.tail.Nodes, eb 4 a1.tail.Members, (8, cs3), ei 21 a1.tail.Modes, sl p4 (a1.queue).length c5, si a1.done, si (IntKind.i64.wrap (a1.epoch + 1)), si a1.step_, eb 4 a1.wait, su a1.mark_, sb a1.ready, sl p6 (a1.out).length c7], .box b16 30 [si v23.1, si v23.2.1, eb 4 v23.2.2.1, (8, cs21), ei 21 v23.2.2.2.2], .tok p4 72 6 (a1.queue).length c5, .tok p6 106 15 (a1.out).length c7] [ml a1.now.Members 4, Arr.mp t_api_Map cs2 4 a1.now.Maps, ml a1.now.Modes 21, ml a1.tail.Members 4, Arr.mp t_api_Map cs3 4 a1.tail.Maps, ml a1.tail.Modes 21, Ro.mp f_api_Cmd.ty p4 c5 a1.queue, ml a1.wait 4, Ro.mp t_api_Mail p6 c7 a1.out, ml v23.2.2.1 4, Arr.mp t_api_Map cs21 4 v23.2.2.2.1, ml v23.2.2.2.2 21] ∧ True) ?_ ?_
 refine rgS hS [10] ?_
 have hS := hS.drew
 refine bind_split hv23 (fun x24 hx24 hv23 => ?_)
 refine anp [0, 1, 2] [0, 2, 29] hF (hS.sx [0, 1] (rg 9)) fun a hF => ?_
 refine atk 3 (some 30) hF (hS.sx [0, 1] (rg 9)) rfl (vls 1 0 5) fun a hF => ?_
 refine atk 4 (some 31) hF (hS.sx [0, 1] (rg 9)) rfl (vls 0 0 6) fun a hF => ?_
 refine ago2 5 9 hF rfl rfl ?_ ?_
 refine wo_callP hF hS (by kernel_rfl) (by kernel_rfl) (C_config_Apply N hS.fresh (T_config_State.mk a1.now.Pool a1.now.Nodes a1.now.Members a1.now.Maps a1.now.Modes) (T_api_Cmd.mk x10.Kind x10.DC x10.Shard x10.Node x10.Mode x10.Key) cs2 ((hS.pick [0, 1, 2] (by kernel_rfl)).ro) hx24) ?_
 rintro _ κ w a ⟨cs25, rfl, hR, hN⟩ hF hS hO
 have hS := hS.adds hR
 refine ⟨fun _ => (hS.sx [0, 1] [3, 4, 5, 6, 7, 8, 9, 10, 11]), ?_⟩
 refine anp [6, 7] [0, 2, 26, 33] hF (hS.sx [0, 1] [3, 4, 5, 6, 7, 8, 9, 10, 11]) fun a hF => ?_
 refine ago2 8 9 hF rfl rfl ?_ ?_
 refine wo_pure (v := vi x24.2) hF (by kernel_rfl) (by kernel_rfl) fun a hF => ?_
 refine ⟨fun _ => (hS.sx [0, 1] [3, 4, 5, 6, 7, 8, 9, 10, 11]), ?_⟩
 refine ago 9 hF rfl ?_
 have hS := hS.add (m := ml (List.replicate 4 false) 4) (List.length_replicate)
 have hS := hS.add (m := Arr.mp t_api_Map ((List.replicate 4 (flat [sl none 0 0, sl none 0 0])).flatten) 4 (List.replicate 4 (T_api_Map.mk ([] : List ByteArray) ([] : List Int)))) (Arr.zero _ _ _ _ _ z_api_Map)
 have hS := hS.add (m := ml (List.replicate 21 0) 21) (List.length_replicate)
 refine wal hF hS [si 0, si 0, eb 4 (List.replicate 4 false), (8, (List.replicate 4 (flat [sl none 0 0, sl none 0 0])).flatten), ei 21 (List.replicate 21 0)] (sgN 2 (sgEnc List.length_replicate (sgArr (hS.get 1 rfl) (sgEnc List.length_replicate sgNil)))) fun b26 a w hF hS => ?_
 refine ⟨fun _ => (hS.sx [1, 2] [6, 7, 8, 9, 10, 11, 12, 13, 14]), ?_⟩
 refine ago 10 hF rfl ?_
 refine wst hF hS 0 0 5 [si x24.1.Pool, si x24.1.Nodes, eb 4 x24.1.Members, (8, cs25), ei 21 x24.1.Modes] (sgN 2 (sgEnc (hS.get 3 rfl) (sgArr (hS.get 4 rfl) (sgEnc (hS.get 5 rfl) sgNil)))) fun a w hF hS => ?_
 refine ⟨notE, ?_⟩
 refine ago 11 hF rfl ?_
 refine wo_pure (v := vi x24.2) hF (by kernel_rfl) (by kernel_rfl) fun a hF => ?_
 refine ⟨notE, ?_⟩
 refine and_ ?_
 cases hv23
 exact ⟨_, b26, cs25, hF.kp [0, 2, 3], hS.sp [1, 2, 0, 3, 4] [6, 7, 8, 9, 10, 11, 12, 13, 14, 3, 4, 5], trivial⟩
 have hS := hS.add (m := ml (List.replicate 4 false) 4) (List.length_replicate)
 have hS := hS.add (m := Arr.mp t_api_Map ((List.replicate 4 (flat [sl none 0 0, sl none 0 0])).flatten) 4 (List.replicate 4 (T_api_Map.mk ([] : List ByteArray) ([] : List Int)))) (Arr.zero _ _ _ _ _ z_api_Map)
 have hS := hS.add (m := ml (List.replicate 21 0) 21) (List.length_replicate)
 refine wal hF hS [si 0, si 0, eb 4 (List.replicate 4 false), (8, (List.replicate 4 (flat [sl none 0 0, sl none 0 0])).flatten), ei 21 (List.replicate 21 0)] (sgN 2 (sgEnc List.length_replicate (sgArr (hS.get 1 rfl) (sgEnc List.length_replicate sgNil)))) fun b26 a w hF hS => ?_
 refine ⟨fun _ => (hS.sx [1, 2] [6, 7, 8, 9, 10, 11, 12, 13, 14]), ?_⟩
 refine ago2 8 10 hF rfl rfl ?_ ?_
 refine wo_pure (v := vi x24.2) hF (by kernel_rfl) (by kernel_rfl) fun a hF => ?_
 refine ⟨fun _ => (hS.sx [1, 2] [6, 7, 8, 9, 10, 11, 12, 13, 14]), ?_⟩
 refine ago 10 hF rfl ?_
 refine wst hF hS 0 0 5 [si x24.1.Pool, si x24.1.Nodes, eb 4 x24.1.Members, (8, cs25), ei 21 x24.1.Modes] (sgN 2 (sgEnc (hS.get 3 rfl) (sgArr (hS.get 4 rfl) (sgEnc (hS.get 5 rfl) sgNil)))) fun a w hF hS => ?_
 refine ⟨notE, ?_⟩
 refine ago 11 hF rfl ?_
 refine wo_pure (v := vi x24.2) hF (by kernel_rfl) (by kernel_rfl) fun a hF => ?_
 refine ⟨notE, ?_⟩
 refine and_ ?_
 cases hv23
 exact ⟨_, b26, cs25, hF.kp [0, 2, 3], hS.sp [1, 2, 0, 3, 4] [6, 7, 8, 9, 10, 11, 12, 13, 14, 3, 4, 5], trivial⟩
 refine wst hF hS 0 0 5 [si x24.1.Pool, si x24.1.Nodes, eb 4 x24.1.Members, (8, cs25), ei 21 x24.1.Modes] (sgN 2 (sgEnc (hS.get 3 rfl) (sgArr (hS.get 4 rfl) (sgEnc (hS.get 5 rfl) sgNil)))) fun a w hF hS => ?_
 refine ⟨notE, ?_⟩
 refine ago 8 hF rfl ?_
 refine wo_pure (v := vi x24.2) hF (by kernel_rfl) (by kernel_rfl) fun a hF => ?_
 refine ⟨notE, ?_⟩
 refine ago 11 hF rfl ?_
 refine wo_pure (v := vi x24.2) hF (by kernel_rfl) (by kernel_rfl) fun a hF => ?_
 refine ⟨notE, ?_⟩
 refine and_ ?_
 cases hv23
 exact ⟨_, b26, cs25, hF.kp [0, 2, 3], hS.sp [1, 2, 0, 3, 4] [6, 7, 8, 9, 10, 11, 12, 13, 14, 3, 4, 5], trivial⟩
 have hS := hS.add (m := ml (List.replicate 4 false) 4) (List.length_replicate)
 have hS := hS.add (m := Arr.mp t_api_Map ((List.replicate 4 (flat [sl none 0 0, sl none 0 0])).flatten) 4 (List.replicate 4 (T_api_Map.mk ([] : List ByteArray) ([] : List Int)))) (Arr.zero _ _ _ _ _ z_api_Map)
 have hS := hS.add (m := ml (List.replicate 21 0) 21) (List.length_replicate)
 refine wal hF hS [si 0, si 0, eb 4 (List.replicate 4 false), (8, (List.replicate 4 (flat [sl none 0 0, sl none 0 0])).flatten), ei 21 (List.replicate 21 0)] (sgN 2 (sgEnc List.length_replicate (sgArr (hS.get 1 rfl) (sgEnc List.length_replicate sgNil)))) fun b26 a w hF hS => ?_
 refine ⟨fun _ => (hS.sx [1, 2] [3, 4, 5, 6, 7, 8, 9, 10, 11]), ?_⟩
 refine ago 5 hF rfl ?_
 refine wo_callP hF hS (by kernel_rfl) (by kernel_rfl) (C_config_Apply N hS.fresh (T_config_State.mk a1.now.Pool a1.now.Nodes a1.now.Members a1.now.Maps a1.now.Modes) (T_api_Cmd.mk x10.Kind x10.DC x10.Shard x10.Node x10.Mode x10.Key) cs2 ((hS.pick [3, 4, 5] (by kernel_rfl)).ro) hx24) ?_
 rintro _ κ w a ⟨cs25, rfl, hR, hN⟩ hF hS hO
 have hS := hS.adds hR
 refine ⟨fun _ => (hS.sx [1, 2] [6, 7, 8, 9, 10, 11, 12, 13, 14]), ?_⟩
 refine anp [6, 7] [0, 2, 3, 26, 33] hF (hS.sx [1, 2] [6, 7, 8, 9, 10, 11, 12, 13, 14]) fun a hF => ?_
 refine ago2 8 10 hF rfl rfl ?_ ?_
 refine wo_pure (v := vi x24.2) hF (by kernel_rfl) (by kernel_rfl) fun a hF => ?_
 refine ⟨fun _ => (hS.sx [1, 2] [6, 7, 8, 9, 10, 11, 12, 13, 14]), ?_⟩
 refine ago 10 hF rfl ?_
 refine wst hF hS 0 0 5 [si x24.1.Pool, si x24.1.Nodes, eb 4 x24.1.Members, (8, cs25), ei 21 x24.1.Modes] (sgN 2 (sgEnc (hS.get 0 rfl) (sgArr (hS.get 1 rfl) (sgEnc (hS.get 2 rfl) sgNil)))) fun a w hF hS => ?_
 refine ⟨notE, ?_⟩
 refine ago 11 hF rfl ?_
 refine wo_pure (v := vi x24.2) hF (by kernel_rfl) (by kernel_rfl) fun a hF => ?_
 refine ⟨notE, ?_⟩
 refine and_ ?_
 cases hv23
 exact ⟨_, b26, cs25, hF.kp [0, 2, 3], hS.sp [1, 2, 0, 3, 4] [6, 7, 8, 9, 10, 11, 12, 13, 14, 0, 1, 2], trivial⟩
 refine wst hF hS 0 0 5 [si x24.1.Pool, si x24.1.Nodes, eb 4 x24.1.Members, (8, cs25), ei 21 x24.1.Modes] (sgN 2 (sgEnc (hS.get 0 rfl) (sgArr (hS.get 1 rfl) (sgEnc (hS.get 2 rfl) sgNil)))) fun a w hF hS => ?_
 refine ⟨notE, ?_⟩
 refine ago 8 hF rfl ?_
 refine wo_pure (v := vi x24.2) hF (by kernel_rfl) (by kernel_rfl) fun a hF => ?_
 refine ⟨notE, ?_⟩
 refine ago 11 hF rfl ?_
 refine wo_pure (v := vi x24.2) hF (by kernel_rfl) (by kernel_rfl) fun a hF => ?_
 refine ⟨notE, ?_⟩
 refine and_ ?_
 cases hv23
 exact ⟨_, b26, cs25, hF.kp [0, 2, 3], hS.sp [1, 2, 0, 3, 4] [6, 7, 8, 9, 10, 11, 12, 13, 14, 0, 1, 2], trivial⟩
 rintro a w ⟨κ, b16, cs21, hF, hS, -⟩
 refine hK15 _ _ ?_
 refine wpIn_seq_k fun K27 hK27 => ?_
 refine wpIn_region_lit ?_
 refine wc (wls hF hS 2 0 5 fun a hF => ?_)
 have hS := hS.add (m := ml (List.replicate 4 false) 4) (List.length_replicate)
 have hS := hS.add (m := Arr.mp t_api_Map ((List.replicate 4 (flat [sl none 0 0, sl none 0 0])).flatten) 4 (List.replicate 4 (T_api_Map.mk ([] : List ByteArray) ([] : List Int)))) (Arr.zero _ _ _ _ _ z_api_Map)
 have hS := hS.add (m := ml (List.replicate 21 0) 21) (List.length_replicate)
 refine wc (wal hF hS [si 0, si 0, eb 4 (List.replicate 4 false), (8, (List.replicate 4 (flat [sl none 0 0, sl none 0 0])).flatten), ei 21 (List.replicate 21 0)] (sgN 2 (sgEnc List.length_replicate (sgArr (hS.get 1 rfl) (sgEnc List.length_replicate sgNil)))) fun b28 a w hF hS => ?_)
 refine wc (wst hF hS 0 0 5 [si v23.1, si v23.2.1, eb 4 v23.2.2.1, (8, cs21), ei 21 v23.2.2.2.2] (sgN 2 (sgEnc (hS.get 12 rfl) (sgArr (hS.get 13 rfl) (sgEnc (hS.get 14 rfl) sgNil)))) fun a w hF hS => ?_)
 refine wp 1 [0, 2, 3, 5, 6] hF fun a hF => ?_
 refine wpListIn_nil ?_
 refine hK27 _ _ ?_
 refine seq_join (fun a w => ∃ (κ : Gh) (y29 : Int), Fr (136) [] [(0, pt b8 0), (2, pt b13 0), (3, pt b16 0), (5, pt b28 0), (6, vu y29)] a ∧ SS Ms κ0 w0 κ w [.box b28 30 [si v23.1, si v23.2.1, eb 4 v23.2.2.1, (8, cs21), ei 21 v23.2.2.2.2], .box b13 72 [si x10.Kind, si x10.DC, si x10.Shard, si x10.Node, si x10.Mode, sg x10.Key], .box b8 120 [si a1.now.Pool, si a1.now.Nodes, eb 4 a1.now.Members, (8, cs2), ei 21 a1.now.Modes, si a1.tail.Pool, si a1.tail.Nodes, eb 4 a1.tail.Members, (8, cs3), ei 21 a1.tail.Modes, sl p4 (a1.queue).length c5, si a1.done, si (IntKind.i64.wrap (a1.epoch + 1)), si a1.step_, eb 4 a1.wait, su a1.mark_, sb a1.ready, sl p6 (a1.out).length c7], .box b16 30 [si v23.1, si v23.2.1, eb 4 v23.2.2.1, (8, cs21), ei 21 v23.2.2.2.2], .tok p4 72 6 (a1.queue).length c5, .tok p6 106 15 (a1.out).length c7] [ml v23.2.2.1 4, Arr.mp t_api_Map cs21 4 v23.2.2.2.1, ml v23.2.2.2.2 21, ml a1.now.Members 4, Arr.mp t_api_Map cs2 4 a1.now.Maps, ml a1.now.Modes 21, ml a1.tail.Members 4, Arr.mp t_api_Map cs3 4 a1.tail.Maps, ml a1.tail.Modes 21, Ro.mp f_api_Cmd.ty p4 c5 a1.queue, ml a1.wait 4, Ro.mp t_api_Mail p6 c7 a1.out] ∧ M.warden_Warden_send_k1 N a1 x10 v23 y29 = some r) ?_ ?_
 refine wpIn_seq_k fun K257 hK257 => ?_
 refine wpIn_region_lit ?_
 refine wp 3 [0, 2, 3, 5, 6, 38] hF fun a hF => ?_
 refine wc (wld hF hS 2 13 0 fun a hF => ?_)
 refine wp 1 [0, 2, 3, 5, 6, 40] hF fun a hF => ?_
 refine wpListIn_nil ?_
 refine hK257 _ _ ?_
 refine bif_split H (fun hb H => ?_) (fun hb H => ?_)
 refine cond_t hF (by kernel_rfl) hb ?_
 refine wpIn_region_lit ?_
 refine wp 1 [0, 2, 3, 5, 6] hF fun a hF => ?_
 refine wpListIn_nil ?_
 exact ⟨_, 2, hF.kp [0, 2, 3, 5, 6], hS.sp (rg 6) [12, 13, 14, 3, 4, 5, 6, 7, 8, 9, 10, 11], H⟩
 refine cond_f hF (by kernel_rfl) hb ?_
 refine wpIn_skip ?_
 exact ⟨_, 1, hF.kp [0, 2, 3, 5, 6], hS.sp (rg 6) [12, 13, 14, 3, 4, 5, 6, 7, 8, 9, 10, 11], H⟩
 rintro a w ⟨κ, y29, hF, hS, H⟩
 unfold M.warden_Warden_send_k1 at H
 refine seq_join (fun a w => ∃ (κ : Gh) (y30 y31 : Int) (y32 : List Bool) (y33 : List T_api_Map) (cs34 : List Value) (y35 : List Int), Fr (136) [] [(0, pt b8 0), (2, pt b13 0), (3, pt b16 0), (5, pt b28 0), (6, vu y29)] a ∧ SS Ms κ0 w0 κ w [.box b28 30 [si y30, si y31, eb 4 y32, (8, cs34), ei 21 y35], .box b13 72 [si x10.Kind, si x10.DC, si x10.Shard, si x10.Node, si x10.Mode, sg x10.Key], .box b8 120 [si a1.now.Pool, si a1.now.Nodes, eb 4 a1.now.Members, (8, cs2), ei 21 a1.now.Modes, si a1.tail.Pool, si a1.tail.Nodes, eb 4 a1.tail.Members, (8, cs3), ei 21 a1.tail.Modes, sl p4 (a1.queue).length c5, si a1.done, si (IntKind.i64.wrap (a1.epoch + 1)), si a1.step_, eb 4 a1.wait, su a1.mark_, sb a1.ready, sl p6 (a1.out).length c7], .box b16 30 [si v23.1, si v23.2.1, eb 4 v23.2.2.1, (8, cs21), ei 21 v23.2.2.2.2], .tok p4 72 6 (a1.queue).length c5, .tok p6 106 15 (a1.out).length c7] [ml y32 4, Arr.mp t_api_Map cs34 4 y33, ml y35 21, ml a1.now.Members 4, Arr.mp t_api_Map cs2 4 a1.now.Maps, ml a1.now.Modes 21, ml a1.tail.Members 4, Arr.mp t_api_Map cs3 4 a1.tail.Maps, ml a1.tail.Modes 21, Ro.mp f_api_Cmd.ty p4 c5 a1.queue, ml a1.wait 4, Ro.mp t_api_Mail p6 c7 a1.out, ml v23.2.2.1 4, Arr.mp t_api_Map cs21 4 v23.2.2.2.1, ml v23.2.2.2.2 21] ∧ M.warden_Warden_send_k2 N a1 x10 v23 y29 y30 y31 y32 y33 y35 = some r) ?_ ?_
 refine wpIn_seq_k fun K254 hK254 => ?_
 refine wpIn_region_lit ?_
 refine bind_split H (fun v256 hv256 H => ?_)
 refine wl_join (fun a w => ∃ κ : Gh, Fr (136) [] [(0, pt b8 0), (2, pt b13 0), (3, pt b16 0), (5, pt b28 0), (6, vu y29), (47, vb v256)] a ∧ SS Ms κ0 w0 κ w [.box b28 30 [si v23.1, si v23.2.1, eb 4 v23.2.2.1, (8, cs21), ei 21 v23.2.2.2.2], .box b13 72 [si x10.Kind, si x10.DC, si x10.Shard, si x10.Node, si x10.Mode, sg x10.Key], .box b8 120 [si a1.now.Pool, si a1.now.Nodes, eb 4 a1.now.Members, (8, cs2), ei 21 a1.now.Modes, si a1.tail.Pool, si a1.tail.Nodes, eb 4 a1.tail.Members, (8, cs3), ei 21 a1.tail.Modes, sl p4 (a1.queue).length c5, si a1.done, si (IntKind.i64.wrap (a1.epoch + 1)), si a1.step_, eb 4 a1.wait, su a1.mark_, sb a1.ready, sl p6 (a1.out).length c7], .box b16 30 [si v23.1, si v23.2.1, eb 4 v23.2.2.1, (8, cs21), ei 21 v23.2.2.2.2], .tok p4 72 6 (a1.queue).length c5, .tok p6 106 15 (a1.out).length c7] [ml v23.2.2.1 4, Arr.mp t_api_Map cs21 4 v23.2.2.2.1, ml v23.2.2.2.2 21, ml a1.now.Members 4, Arr.mp t_api_Map cs2 4 a1.now.Maps, ml a1.now.Modes 21, ml a1.tail.Members 4, Arr.mp t_api_Map cs3 4 a1.tail.Maps, ml a1.tail.Modes 21, Ro.mp f_api_Cmd.ty p4 c5 a1.queue, ml a1.wait 4, Ro.mp t_api_Mail p6 c7 a1.out] ∧ True) ?_ ?_
 refine wp 1 [0, 2, 3, 5, 6, 41] hF fun a hF => ?_
 refine wc (wld hF hS 1 0 0 fun a hF => ?_)
 refine wp 2 [0, 2, 3, 5, 6, 44] hF fun a hF => ?_
 refine bif_split hv256 (fun hb hv256 => ?_) (fun hb hv256 => ?_)
 have hF := hF.boolv 44 (by kernel_rfl) hb
 refine wp 3 [0, 2, 3, 5, 6, 47] hF fun a hF => ?_
 refine wpListIn_nil ?_
 cases hv256
 exact ⟨_, hF.kp [0, 2, 3, 5, 6, 47], hS.sp (rg 6) (rg 12), trivial⟩
 have hF := hF.boolv 44 (by kernel_rfl) hb
 refine wp 3 [0, 2, 3, 5, 6, 47] hF fun a hF => ?_
 refine wpListIn_nil ?_
 cases hv256
 exact ⟨_, hF.kp [0, 2, 3, 5, 6, 47], hS.sp (rg 6) (rg 12), trivial⟩
 rintro a w ⟨κ, hF, hS, -⟩
 refine hK254 _ _ ?_
 refine bif_split H (fun hb H => ?_) (fun hb H => ?_)
 refine cond_t hF (by kernel_rfl) hb ?_
 refine wpIn_region_lit ?_
 refine wp 3 [0, 2, 3, 5, 6, 50] hF fun a hF => ?_
 refine wc (wls hF hS 2 0 5 fun a hF => ?_)
 refine wc (wst hF hS 0 0 5 [si a1.now.Pool, si a1.now.Nodes, eb 4 a1.now.Members, (8, cs2), ei 21 a1.now.Modes] (sgN 2 (sgEnc (hS.get 3 rfl) (sgArr (hS.get 4 rfl) (sgEnc (hS.get 5 rfl) sgNil)))) fun a w hF hS => ?_)
 refine wpListIn_nil ?_
 exact ⟨_, a1.now.Pool, a1.now.Nodes, a1.now.Members, a1.now.Maps, cs2, a1.now.Modes, hF.kp [0, 2, 3, 5, 6], hS.sp (rg 6) [3, 4, 5, 3, 4, 5, 6, 7, 8, 9, 10, 11, 0, 1, 2], H⟩
 refine cond_f hF (by kernel_rfl) hb ?_
 refine wpIn_skip ?_
 exact ⟨_, v23.1, v23.2.1, v23.2.2.1, v23.2.2.2.1, cs21, v23.2.2.2.2, hF.kp [0, 2, 3, 5, 6], hS.sp (rg 6) [0, 1, 2, 3, 4, 5, 6, 7, 8, 9, 10, 11, 0, 1, 2], H⟩
 rintro a w ⟨κ, y30, y31, y32, y33, cs34, y35, hF, hS, H⟩
 unfold M.warden_Warden_send_k2 at H
 refine wpIn_seq_k fun K36 hK36 => ?_
 refine wpIn_region_lit ?_
 refine snap hS fun κ38 w38 hR38 hf38 hw38 he38 hS => ?_
 refine wc (wo_buildNF (t := (fInt .u64)) (z := vu 0) (l := [0]) (vs := [(0, vu 0)]) (cells := #[vu 0]) (E := 92) hF hS (by kernel_rfl) rfl (by kernel_rfl) (by kernel_rfl) rfl (by kernel_rfl) (by kernel_rfl) (by kernel_rfl) (by kernel_rfl) (by kernel_rfl) fun p37 κ a w hn38 hF hS => ?_)
 have hS := hS.add (m := MP.old p37 w38) (fun a h => Nat.le_trans (Nat.le_of_eq he38) (hn38 a h))
 refine wp 1 [0, 2, 3, 5, 6, 7] hF fun a hF => ?_
 refine wpListIn_nil ?_
 refine hK36 _ _ ?_
 refine wpIn_seq_k fun K39 hK39 => ?_
 refine wpIn_seq_k fun K40 hK40 => ?_
 refine wpIn_region_lit ?_
 refine wp 1 [0, 2, 3, 5, 6, 7, 53] hF fun a hF => ?_
 refine wc (wls hF hS 1 2 1 fun a hF => ?_)
 refine wp 1 [0, 2, 3, 5, 6, 7, 54, 55] hF fun a hF => ?_
 refine wpListIn_nil ?_
 refine hK40 _ _ ?_
 refine wpIn_block ?_
 refine loop_fuel (n := N) (fun n a w => ∃ (κ : Gh) (y91 : List Int) (y92 : Int), Fr (136) [] [(0, pt b8 0), (2, pt b13 0), (3, pt b16 0), (5, pt b28 0), (6, vu y29), (7, .slice p37 (y91).length 1), (54, .agg (flat [eb 4 y32]).toArray), (55, vi y92)] a ∧ SS Ms κ0 w0 κ w [.box b28 30 [si y30, si y31, eb 4 y32, (8, cs34), ei 21 y35], .box b13 72 [si x10.Kind, si x10.DC, si x10.Shard, si x10.Node, si x10.Mode, sg x10.Key], .box b8 120 [si a1.now.Pool, si a1.now.Nodes, eb 4 a1.now.Members, (8, cs2), ei 21 a1.now.Modes, si a1.tail.Pool, si a1.tail.Nodes, eb 4 a1.tail.Members, (8, cs3), ei 21 a1.tail.Modes, sl p4 (a1.queue).length c5, si a1.done, si (IntKind.i64.wrap (a1.epoch + 1)), si a1.step_, eb 4 a1.wait, su a1.mark_, sb a1.ready, sl p6 (a1.out).length c7], .box b16 30 [si v23.1, si v23.2.1, eb 4 v23.2.2.1, (8, cs21), ei 21 v23.2.2.2.2], .tok p37 92 1 (y91).length 1, .tok p4 72 6 (a1.queue).length c5, .tok p6 106 15 (a1.out).length c7] [Ro.mp (fInt .u64).ty p37 1 y91, ml y32 4, Arr.mp t_api_Map cs34 4 y33, ml y35 21, ml a1.now.Members 4, Arr.mp t_api_Map cs2 4 a1.now.Maps, ml a1.now.Modes 21, ml a1.tail.Members 4, Arr.mp t_api_Map cs3 4 a1.tail.Maps, ml a1.tail.Modes 21, Ro.mp f_api_Cmd.ty p4 c5 a1.queue, ml a1.wait 4, Ro.mp t_api_Mail p6 c7 a1.out, ml v23.2.2.1 4, Arr.mp t_api_Map cs21 4 v23.2.2.2.1, ml v23.2.2.2.2 21, MP.since κ38 w38, MP.old p37 w38] ∧ M.warden_Warden_send_L3 N n a1 x10 v23 y29 y30 y31 y32 y33 y35 y91 y92 = some r) ?_ ?_
 exact ⟨_, [0], 0, hF.kp [0, 2, 3, 5, 6, 7, 54, 55], hS.sp [1, 2, 3, 4, 0, 5, 6] [1, 3, 4, 5, 6, 7, 8, 9, 10, 11, 12, 13, 14, 15, 16, 17, 2, 0], H⟩
 rintro n a w ⟨κ, y91, y92, hF, hS, H⟩
 rcases n with _ | fuel3
 simp [M.warden_Warden_send_L3] at H
 simp only [M.warden_Warden_send_L3] at H
 refine wpIn_seq_k fun K93 hK93 => ?_
 refine wpIn_region_lit ?_
 refine wp 1 [0, 2, 3, 5, 6, 7, 54, 55, 56] hF fun a hF => ?_
 refine wpListIn_nil ?_
 refine hK93 _ _ ?_
 refine wpIn_seq_k fun K94 hK94 => ?_
 refine bif_split H (fun hb H => ?_) (fun hb H => ?_)
 refine cond_t hF (by kernel_rfl) hb ?_
 refine wpIn_skip ?_
 refine hK94 _ _ ?_
 refine seq_join (fun a w => ∃ (κ : Gh) (y95 : List Int), Fr (136) [] [(0, pt b8 0), (2, pt b13 0), (3, pt b16 0), (5, pt b28 0), (6, vu y29), (7, .slice p37 (y95).length 1), (54, .agg (flat [eb 4 y32]).toArray), (55, vi y92)] a ∧ SS Ms κ0 w0 κ w [.box b28 30 [si y30, si y31, eb 4 y32, (8, cs34), ei 21 y35], .box b13 72 [si x10.Kind, si x10.DC, si x10.Shard, si x10.Node, si x10.Mode, sg x10.Key], .box b8 120 [si a1.now.Pool, si a1.now.Nodes, eb 4 a1.now.Members, (8, cs2), ei 21 a1.now.Modes, si a1.tail.Pool, si a1.tail.Nodes, eb 4 a1.tail.Members, (8, cs3), ei 21 a1.tail.Modes, sl p4 (a1.queue).length c5, si a1.done, si (IntKind.i64.wrap (a1.epoch + 1)), si a1.step_, eb 4 a1.wait, su a1.mark_, sb a1.ready, sl p6 (a1.out).length c7], .box b16 30 [si v23.1, si v23.2.1, eb 4 v23.2.2.1, (8, cs21), ei 21 v23.2.2.2.2], .tok p37 92 1 (y95).length 1, .tok p4 72 6 (a1.queue).length c5, .tok p6 106 15 (a1.out).length c7] [Ro.mp (fInt .u64).ty p37 1 y95, ml y32 4, Arr.mp t_api_Map cs34 4 y33, ml y35 21, ml a1.now.Members 4, Arr.mp t_api_Map cs2 4 a1.now.Maps, ml a1.now.Modes 21, ml a1.tail.Members 4, Arr.mp t_api_Map cs3 4 a1.tail.Maps, ml a1.tail.Modes 21, Ro.mp f_api_Cmd.ty p4 c5 a1.queue, ml a1.wait 4, Ro.mp t_api_Mail p6 c7 a1.out, ml v23.2.2.1 4, Arr.mp t_api_Map cs21 4 v23.2.2.2.1, ml v23.2.2.2.2 21, MP.since κ38 w38, MP.old p37 w38] ∧ M.warden_Warden_send_k4 N (M.warden_Warden_send_L3 N fuel3) a1 x10 v23 y29 y30 y31 y32 y33 y35 y92 y95 = some r) ?_ ?_
 refine wpIn_block ?_
 refine wpIn_seq_k fun K96 hK96 => ?_
 refine wpIn_region_lit ?_
 refine wl_pure (L' := [(0, pt b8 0), (2, pt b13 0), (3, pt b16 0), (5, pt b28 0), (6, vu y29), (7, .slice p37 (y91).length 1), (54, .agg (flat [eb 4 y32]).toArray), (55, vi y92), (57, vi y92)]) 1 [0, 2, 3, 5, 6, 7, 54, 55, 57] hF (by kernel_rfl) fun a hF => ?_
 refine bind_split H (fun x97 hx97 H => ?_)
 refine wc (wo_val hF (by kernel_rfl) (v := vb x97) (val_indexA1 (t := fBool) (E := 4) (n := 4) (m := 4) rfl (by kernel_rfl) rfl hx97 (hS.get 1 rfl) rfl rfl (by kernel_rfl) (by kernel_rfl) (by kernel_rfl) _) fun a hF => ?_)
 refine wp 2 [0, 2, 3, 5, 6, 7, 8, 9, 54, 55] hF fun a hF => ?_
 refine wpListIn_nil ?_
 refine hK96 _ _ ?_
 refine wpIn_seq_k fun K98 hK98 => ?_
 refine wpIn_region_lit ?_
 refine wp 1 [0, 2, 3, 5, 6, 7, 8, 54, 55, 59] hF fun a hF => ?_
 refine wpListIn_nil ?_
 refine hK98 _ _ ?_
 refine bif_split H (fun hb H => ?_) (fun hb H => ?_)
 refine cond_t hF (by kernel_rfl) hb ?_
 refine rgS hS [7] ?_
 have hS := hS.drew
 refine any_pure [0, 3] [0, 2, 3, 5, 6, 7, 54, 55, 60, 63] (L' := [(0, pt b8 0), (2, pt b13 0), (3, pt b16 0), (5, pt b28 0), (6, vu y29), (7, .slice p37 (y91).length 1), (54, .agg (flat [eb 4 y32]).toArray), (55, vi y92), (60, .slice p37 (y91).length 1), (63, vi y92)]) (listed' := (bitA 8 9)) (fuel := 6) hF (hS.sx (rg 4) (rg 18)) (by kernel_rfl) (by intro c a w t v h; cases t <;> exact h) (by kernel_rfl) rfl fun a hF => ?_
 refine bind_split H (fun x99 hx99 H => ?_)
 obtain ⟨b100, f101, hpx99⟩ := hS.ptr 0 rfl hx99
 refine atk 1 (some 61) hF (hS.sx (rg 4) (rg 18)) rfl (fun w _ => val_index (E := 92) (sz := 1) rfl hpx99 rfl (by kernel_rfl) rfl hx99 (by kernel_rfl) (by kernel_rfl) w) fun a hF => ?_
 refine atk 2 (some 62) hF (hS.sx (rg 4) (rg 18)) rfl (val_loadRo (t := (fInt .u64)) 0 0 (v := vu x99) rfl rfl hpx99 rfl hx99 (by kernel_rfl) (by kernel_rfl) (by kernel_rfl)) fun a hF => ?_
 refine bind_split H (fun x102 hx102 H => ?_)
 refine atk 4 (some 64) hF (hS.sx (rg 4) (rg 18)) rfl (fun w _ => (val_shl rfl rfl rfl hx102) w) fun a hF => ?_
 refine any_pure [5] [0, 2, 3, 5, 6, 7, 54, 55, 60, 65] (L' := [(0, pt b8 0), (2, pt b13 0), (3, pt b16 0), (5, pt b28 0), (6, vu y29), (7, .slice p37 (y91).length 1), (54, .agg (flat [eb 4 y32]).toArray), (55, vi y92), (60, .slice p37 (y91).length 1), (65, vu (iOr .u64 x99 x102))]) (listed' := (bitA 8 63)) (fuel := 2) hF (hS.sx (rg 4) (rg 18)) (by kernel_rfl) (by intro c a w t v h; cases t <;> exact h) (by kernel_rfl) rfl fun a hF => ?_
 refine bind_split H (fun x103 hx103 H => ?_)
 obtain ⟨b104, f105, hpx103⟩ := hS.ptr 0 rfl hx103
 refine atk 6 (some 66) hF (hS.sx (rg 4) (rg 18)) rfl (fun w _ => val_index (E := 92) (sz := 1) rfl hpx103 rfl (by kernel_rfl) rfl hx103 (by kernel_rfl) (by kernel_rfl) w) fun a hF => ?_
 refine ago 7 hF rfl ?_
 refine wo_storeTokS (t := (fInt .u64)) (y := x103) (z := iOr .u64 x99 x102) (v := vu (iOr .u64 x99 x102)) (vs := (flat [su (iOr .u64 x99 x102)])) (sz := 1) hF hS hfr hf38 hw38 hR38 (by kernel_rfl) 4 0 16 17 0 rfl rfl (by kernel_rfl) rfl rfl rfl hpx103 hx103 rfl (by kernel_rfl) (by kernel_rfl) rfl (show segGood [su (iOr .u64 x99 x102)] from (sgN 1 sgNil)).2 rfl (by decide) rfl rfl rfl (rg 15) [17] (Ra := [ml y32 4, Arr.mp t_api_Map cs34 4 y33, ml y35 21, ml a1.now.Members 4, Arr.mp t_api_Map cs2 4 a1.now.Maps, ml a1.now.Modes 21, ml a1.tail.Members 4, Arr.mp t_api_Map cs3 4 a1.tail.Maps, ml a1.tail.Modes 21, Ro.mp f_api_Cmd.ty p4 c5 a1.queue, ml a1.wait 4, Ro.mp t_api_Mail p6 c7 a1.out, ml v23.2.2.1 4, Arr.mp t_api_Map cs21 4 v23.2.2.2.1, ml v23.2.2.2.2 21]) (Rb := [MP.old p37 w38]) rfl rfl (by intro m hm; simp only [List.mem_cons, List.not_mem_nil, or_false] at hm; rcases hm with rfl <;> first | exact apart_const _ _) (Cf := (fun nn => [.box b28 30 [si y30, si y31, eb 4 y32, (8, cs34), ei 21 y35], .box b13 72 [si x10.Kind, si x10.DC, si x10.Shard, si x10.Node, si x10.Mode, sg x10.Key], .box b8 120 [si a1.now.Pool, si a1.now.Nodes, eb 4 a1.now.Members, (8, cs2), ei 21 a1.now.Modes, si a1.tail.Pool, si a1.tail.Nodes, eb 4 a1.tail.Members, (8, cs3), ei 21 a1.tail.Modes, sl p4 (a1.queue).length c5, si a1.done, si (IntKind.i64.wrap (a1.epoch + 1)), si a1.step_, eb 4 a1.wait, su a1.mark_, sb a1.ready, sl p6 (a1.out).length c7], .box b16 30 [si v23.1, si v23.2.1, eb 4 v23.2.2.1, (8, cs21), ei 21 v23.2.2.2.2], .tok p37 92 1 nn 1, .tok p4 72 6 (a1.queue).length c5, .tok p6 106 15 (a1.out).length c7])) (Lf := (fun nn => [(0, pt b8 0), (2, pt b13 0), (3, pt b16 0), (5, pt b28 0), (6, vu y29), (7, .slice p37 nn 1), (54, .agg (flat [eb 4 y32]).toArray), (55, vi y92), (60, .slice p37 nn 1), (65, vu (iOr .u64 x99 x102)), (66, .pointer (some ⟨b104, (f105 + Int.toNat 0 * 1), none⟩))])) [0, 2, 3, 5, 6, 7, 54, 55, 60, 65, 66] rfl (by kernel_rfl) fun a w hF hS => ?_
 refine ⟨notE, ?_⟩
 refine and_ ?_
 exact ⟨_, (List.set y91 (Int.toNat 0) (iOr .u64 x99 x102)), hF.kp [0, 2, 3, 5, 6, 7, 54, 55], hS.sp (rg 7) [0, 2, 3, 4, 5, 6, 7, 8, 9, 10, 11, 12, 13, 14, 15, 16, 1, 17], H⟩
 refine cond_f hF (by kernel_rfl) hb ?_
 refine wpIn_skip ?_
 exact ⟨_, y91, hF.kp [0, 2, 3, 5, 6, 7, 54, 55], hS.sp (rg 7) (rg 18), H⟩
 rintro a w ⟨κ, y95, hF, hS, H⟩
 unfold M.warden_Warden_send_k4 at H
 refine wpIn_region_lit ?_
 refine wp 2 [0, 2, 3, 5, 6, 7, 54, 55] hF fun a hF => ?_
 refine wpListIn_nil ?_
 exact ⟨fuel3, Nat.lt_succ_self _, _, y95, IntKind.i64.wrap (y92 + 1), hF.kp [0, 2, 3, 5, 6, 7, 54, 55], hS.sp (rg 7) (rg 18), H⟩
 refine cond_f hF (by kernel_rfl) hb ?_
 refine wpIn_exit ?_
 refine hK39 _ _ ?_
 refine wpIn_seq_k fun K106 hK106 => ?_
 refine wpIn_seq_k fun K107 hK107 => ?_
 refine wpIn_region_lit ?_
 refine wp 1 [0, 2, 3, 6, 7, 68] hF fun a hF => ?_
 refine wc (wls hF hS 0 4 1 fun a hF => ?_)
 refine wp 1 [0, 2, 3, 6, 7, 69, 70] hF fun a hF => ?_
 refine wpListIn_nil ?_
 refine hK107 _ _ ?_
 refine wpIn_block ?_
 refine loop_fuel (n := N) (fun n a w => ∃ (κ : Gh) (y158 : List Int) (p159 : Option Addr) (c160 : Nat) (y161 : Int), Fr (136) [] [(0, pt b8 0), (2, pt b13 0), (3, pt b16 0), (6, vu y29), (7, .slice p159 (y158).length c160), (69, .agg (flat [ei 21 y35]).toArray), (70, vi y161)] a ∧ SS Ms κ0 w0 κ w [.box b13 72 [si x10.Kind, si x10.DC, si x10.Shard, si x10.Node, si x10.Mode, sg x10.Key], .box b8 120 [si a1.now.Pool, si a1.now.Nodes, eb 4 a1.now.Members, (8, cs2), ei 21 a1.now.Modes, si a1.tail.Pool, si a1.tail.Nodes, eb 4 a1.tail.Members, (8, cs3), ei 21 a1.tail.Modes, sl p4 (a1.queue).length c5, si a1.done, si (IntKind.i64.wrap (a1.epoch + 1)), si a1.step_, eb 4 a1.wait, su a1.mark_, sb a1.ready, sl p6 (a1.out).length c7], .box b16 30 [si v23.1, si v23.2.1, eb 4 v23.2.2.1, (8, cs21), ei 21 v23.2.2.2.2], .tok p159 92 1 (y158).length c160, .tok p4 72 6 (a1.queue).length c5, .tok p6 106 15 (a1.out).length c7] [Ro.mp (fInt .u64).ty p159 c160 y158, ml y35 21, ml a1.now.Members 4, Arr.mp t_api_Map cs2 4 a1.now.Maps, ml a1.now.Modes 21, ml a1.tail.Members 4, Arr.mp t_api_Map cs3 4 a1.tail.Maps, ml a1.tail.Modes 21, Ro.mp f_api_Cmd.ty p4 c5 a1.queue, ml a1.wait 4, Ro.mp t_api_Mail p6 c7 a1.out, ml v23.2.2.1 4, Arr.mp t_api_Map cs21 4 v23.2.2.2.1, ml v23.2.2.2.2 21] ∧ M.warden_Warden_send_L5 N n a1 x10 v23 y29 y35 y158 y161 = some r) ?_ ?_
 exact ⟨_, y91, p37, 1, 0, hF.kp [0, 2, 3, 6, 7, 69, 70], hS.sp [1, 2, 3, 4, 5, 6] [0, 3, 4, 5, 6, 7, 8, 9, 10, 11, 12, 13, 14, 15], H⟩
 rintro n a w ⟨κ, y158, p159, c160, y161, hF, hS, H⟩
 rcases n with _ | fuel5
 simp [M.warden_Warden_send_L5] at H
 simp only [M.warden_Warden_send_L5] at H
 refine wpIn_seq_k fun K162 hK162 => ?_
 refine wpIn_region_lit ?_
 refine wl_pure (L' := [(0, pt b8 0), (2, pt b13 0), (3, pt b16 0), (6, vu y29), (7, .slice p159 (y158).length c160), (69, .agg (flat [ei 21 y35]).toArray), (70, vi y161), (71, vb (decide (y161 < 21)))]) 1 [0, 2, 3, 6, 7, 69, 70, 71] hF (by kernel_rfl) fun a hF => ?_
 refine wpListIn_nil ?_
 refine hK162 _ _ ?_
 refine wpIn_seq_k fun K163 hK163 => ?_
 refine bif_split H (fun hb H => ?_) (fun hb H => ?_)
 refine cond_t hF (by kernel_rfl) hb ?_
 refine wpIn_skip ?_
 refine hK163 _ _ ?_
 refine wpIn_seq_k fun K164 hK164 => ?_
 refine wpIn_block ?_
 refine wpIn_seq_k fun K165 hK165 => ?_
 refine wpIn_region_lit ?_
 refine bind_split H (fun x166 hx166 H => ?_)
 refine wc (wo_val hF (by kernel_rfl) (v := vi x166) (val_indexA1 (t := (fInt .i64)) (E := 3) (n := 21) (m := 21) rfl (by kernel_rfl) rfl hx166 (hS.get 1 rfl) rfl rfl (by kernel_rfl) (by kernel_rfl) (by kernel_rfl) _) fun a hF => ?_)
 refine wp 1 [0, 2, 3, 6, 7, 11, 69, 70] hF fun a hF => ?_
 refine wpListIn_nil ?_
 refine hK165 _ _ ?_
 refine wpIn_region_lit ?_
 refine wl_pure (L' := [(0, pt b8 0), (2, pt b13 0), (3, pt b16 0), (6, vu y29), (69, .agg (flat [ei 21 y35]).toArray), (70, vi y161), (73, .slice p159 (y158).length c160), (75, vu (IntKind.u64.wrap x166))]) 3 [0, 2, 3, 6, 69, 70, 73, 75] hF (by kernel_rfl) fun a hF => ?_
 refine wc (wo_buildN (t := (fInt .u64)) (z := vu 0) (l := [IntKind.u64.wrap x166]) (vs := [(0, vu (IntKind.u64.wrap x166))]) (cells := #[vu (IntKind.u64.wrap x166)]) (E := 92) hF hS (by kernel_rfl) rfl (by kernel_rfl) (by kernel_rfl) rfl (by kernel_rfl) (by kernel_rfl) (by kernel_rfl) (by kernel_rfl) (by kernel_rfl) fun p167 κ a w hF hS => ?_)
 refine bind_split H (fun x168 hx168 H => ?_)
 refine wc (wo_append (ty := (fInt .u64).ty) hF hS (by kernel_rfl) 4 1 0 rfl rfl rfl (by kernel_rfl) (by kernel_rfl) rfl rfl rfl hx168 (by kernel_rfl) (i := Try.t92) (z := vu 0) (by kernel_rfl) (by kernel_rfl) (by kernel_rfl) fun p169 c170 κ a w hF hS => ?_)
 refine wp 1 [0, 2, 3, 6, 7, 69, 70] hF fun a hF => ?_
 refine wpListIn_nil ?_
 refine hK164 _ _ ?_
 refine wpIn_region_lit ?_
 refine wp 2 [0, 2, 3, 6, 7, 69, 70] hF fun a hF => ?_
 refine wpListIn_nil ?_
 exact ⟨fuel5, Nat.lt_succ_self _, _, x168, p169, c170, IntKind.i64.wrap (y161 + 1), hF.kp [0, 2, 3, 6, 7, 69, 70], hS.sp [1, 2, 3, 4, 5, 6] [0, 3, 4, 5, 6, 7, 8, 9, 10, 11, 12, 13, 14, 15], H⟩
 refine cond_f hF (by kernel_rfl) hb ?_
 refine wpIn_exit ?_
 refine hK106 _ _ ?_
 refine wpIn_seq_k fun K171 hK171 => ?_
 refine wpIn_region_lit ?_
 refine wp 1 [0, 2, 3, 6, 7, 79] hF fun a hF => ?_
 refine wpListIn_nil ?_
 refine hK171 _ _ ?_
 refine wpIn_block ?_
 refine loop_fuel (n := N) (fun n a w => ∃ (κ : Gh) (y222 : List Bool) (y223 : List T_api_Mail) (p224 : Option Addr) (c225 : Nat) (y226 : Int), Fr (136) [] [(0, pt b8 0), (2, pt b13 0), (3, pt b16 0), (6, vu y29), (7, .slice p159 (y158).length c160), (79, vi y226)] a ∧ SS Ms κ0 w0 κ w [.box b13 72 [si x10.Kind, si x10.DC, si x10.Shard, si x10.Node, si x10.Mode, sg x10.Key], .box b8 120 [si a1.now.Pool, si a1.now.Nodes, eb 4 a1.now.Members, (8, cs2), ei 21 a1.now.Modes, si a1.tail.Pool, si a1.tail.Nodes, eb 4 a1.tail.Members, (8, cs3), ei 21 a1.tail.Modes, sl p4 (a1.queue).length c5, si a1.done, si (IntKind.i64.wrap (a1.epoch + 1)), si a1.step_, eb 4 y222, su a1.mark_, sb a1.ready, sl p224 (y223).length c225], .box b16 30 [si v23.1, si v23.2.1, eb 4 v23.2.2.1, (8, cs21), ei 21 v23.2.2.2.2], .tok p224 106 15 (y223).length c225, .tok p159 92 1 (y158).length c160, .tok p4 72 6 (a1.queue).length c5] [Ro.mp (fInt .u64).ty p159 c160 y158, ml a1.now.Members 4, Arr.mp t_api_Map cs2 4 a1.now.Maps, ml a1.now.Modes 21, ml a1.tail.Members 4, Arr.mp t_api_Map cs3 4 a1.tail.Maps, ml a1.tail.Modes 21, Ro.mp f_api_Cmd.ty p4 c5 a1.queue, ml y222 4, Ro.mp t_api_Mail p224 c225 y223, ml v23.2.2.1 4, Arr.mp t_api_Map cs21 4 v23.2.2.2.1, ml v23.2.2.2.2 21] ∧ M.warden_Warden_send_L6 N n a1 x10 v23 y29 y158 y222 y223 y226 = some r) ?_ ?_
 exact ⟨_, a1.wait, a1.out, p6, c7, 0, hF.kp [0, 2, 3, 6, 7, 79], hS.sp [0, 1, 2, 5, 3, 4] [0, 2, 3, 4, 5, 6, 7, 8, 9, 10, 11, 12, 13], H⟩
 rintro n a w ⟨κ, y222, y223, p224, c225, y226, hF, hS, H⟩
 rcases n with _ | fuel6
 simp [M.warden_Warden_send_L6] at H
 simp only [M.warden_Warden_send_L6] at H
 refine wpIn_seq_k fun K227 hK227 => ?_
 refine wpIn_region_lit ?_
 refine wp 1 [0, 2, 3, 6, 7, 79, 80] hF fun a hF => ?_
 refine wpListIn_nil ?_
 refine hK227 _ _ ?_
 refine wpIn_seq_k fun K228 hK228 => ?_
 refine bif_split H (fun hb H => ?_) (fun hb H => ?_)
 refine cond_t hF (by kernel_rfl) hb ?_
 refine wpIn_skip ?_
 refine hK228 _ _ ?_
 refine seq_join (fun a w => ∃ (κ : Gh) (y229 : List Bool) (y230 : List T_api_Mail) (p231 : Option Addr) (c232 : Nat), Fr (136) [] [(0, pt b8 0), (2, pt b13 0), (3, pt b16 0), (6, vu y29), (7, .slice p159 (y158).length c160), (79, vi y226)] a ∧ SS Ms κ0 w0 κ w [.box b13 72 [si x10.Kind, si x10.DC, si x10.Shard, si x10.Node, si x10.Mode, sg x10.Key], .box b8 120 [si a1.now.Pool, si a1.now.Nodes, eb 4 a1.now.Members, (8, cs2), ei 21 a1.now.Modes, si a1.tail.Pool, si a1.tail.Nodes, eb 4 a1.tail.Members, (8, cs3), ei 21 a1.tail.Modes, sl p4 (a1.queue).length c5, si a1.done, si (IntKind.i64.wrap (a1.epoch + 1)), si a1.step_, eb 4 y229, su a1.mark_, sb a1.ready, sl p231 (y230).length c232], .box b16 30 [si v23.1, si v23.2.1, eb 4 v23.2.2.1, (8, cs21), ei 21 v23.2.2.2.2], .tok p231 106 15 (y230).length c232, .tok p159 92 1 (y158).length c160, .tok p4 72 6 (a1.queue).length c5] [Ro.mp (fInt .u64).ty p159 c160 y158, ml a1.now.Members 4, Arr.mp t_api_Map cs2 4 a1.now.Maps, ml a1.now.Modes 21, ml a1.tail.Members 4, Arr.mp t_api_Map cs3 4 a1.tail.Maps, ml a1.tail.Modes 21, Ro.mp f_api_Cmd.ty p4 c5 a1.queue, ml y229 4, Ro.mp t_api_Mail p231 c232 y230, ml v23.2.2.1 4, Arr.mp t_api_Map cs21 4 v23.2.2.2.1, ml v23.2.2.2.2 21] ∧ M.warden_Warden_send_k7 N (M.warden_Warden_send_L6 N fuel6) a1 x10 v23 y29 y158 y226 y229 y230 = some r) ?_ ?_
 refine wpIn_block ?_
 refine wpIn_seq_k fun K233 hK233 => ?_
 refine wpIn_region_lit ?_
 refine wp 2 [0, 2, 3, 6, 7, 12, 79] hF fun a hF => ?_
 refine wpListIn_nil ?_
 refine hK233 _ _ ?_
 refine wpIn_seq_k fun K234 hK234 => ?_
 refine wpIn_seq_k fun K235 hK235 => ?_
 refine wpIn_region_lit ?_
 refine bind_split H (fun v237 hv237 H => ?_)
 refine wl_join (fun a w => ∃ κ : Gh, Fr (136) [] [(0, pt b8 0), (2, pt b13 0), (3, pt b16 0), (6, vu y29), (7, .slice p159 (y158).length c160), (12, vi y226), (79, vi y226), (96, vb v237)] a ∧ SS Ms κ0 w0 κ w [.box b13 72 [si x10.Kind, si x10.DC, si x10.Shard, si x10.Node, si x10.Mode, sg x10.Key], .box b8 120 [si a1.now.Pool, si a1.now.Nodes, eb 4 a1.now.Members, (8, cs2), ei 21 a1.now.Modes, si a1.tail.Pool, si a1.tail.Nodes, eb 4 a1.tail.Members, (8, cs3), ei 21 a1.tail.Modes, sl p4 (a1.queue).length c5, si a1.done, si (IntKind.i64.wrap (a1.epoch + 1)), si a1.step_, eb 4 y222, su a1.mark_, sb a1.ready, sl p224 (y223).length c225], .box b16 30 [si v23.1, si v23.2.1, eb 4 v23.2.2.1, (8, cs21), ei 21 v23.2.2.2.2], .tok p224 106 15 (y223).length c225, .tok p159 92 1 (y158).length c160, .tok p4 72 6 (a1.queue).length c5] [Ro.mp (fInt .u64).ty p159 c160 y158, ml a1.now.Members 4, Arr.mp t_api_Map cs2 4 a1.now.Maps, ml a1.now.Modes 21, ml a1.tail.Members 4, Arr.mp t_api_Map cs3 4 a1.tail.Maps, ml a1.tail.Modes 21, Ro.mp f_api_Cmd.ty p4 c5 a1.queue, ml y222 4, Ro.mp t_api_Mail p224 c225 y223, ml v23.2.2.1 4, Arr.mp t_api_Map cs21 4 v23.2.2.2.1, ml v23.2.2.2.2 21] ∧ True) ?_ ?_
 refine wl_pure (L' := [(0, pt b8 0), (2, pt b13 0), (3, pt b16 0), (6, vu y29), (7, .slice p159 (y158).length c160), (12, vi y226), (79, vi y226), (83, vi y226), (86, pt b8 2)]) 5 [0, 2, 3, 6, 7, 12, 79, 83, 86] hF (by kernel_rfl) fun a hF => ?_
 refine bind_split hv237 (fun x238 hx238 hv237 => ?_)
 refine wc (wo_indexArr hF (by kernel_rfl) (E := 4) (sz := 1) (n := 4) rfl rfl (i := y226) rfl (idx_lt hx238 (hS.get 1 rfl)) (by kernel_rfl) (by kernel_rfl) fun a hF => ?_)
 refine wc (wo_loadA1 (t := fBool) hF hS (by kernel_rfl) 1 2 (v := vb x238) rfl rfl rfl rfl hx238 rfl rfl (by kernel_rfl) (by kernel_rfl) fun a hF => ?_)
 refine wp 2 [0, 2, 3, 6, 7, 12, 79, 90] hF fun a hF => ?_
 refine bif_split hv237 (fun hb hv237 => ?_) (fun hb hv237 => ?_)
 have hF := hF.boolv 90 (by kernel_rfl) hb
 refine wl_pure (L' := [(0, pt b8 0), (2, pt b13 0), (3, pt b16 0), (6, vu y29), (7, .slice p159 (y158).length c160), (12, vi y226), (79, vi y226), (90, vb true), (91, vi y226), (92, pt b16 2)]) 2 [0, 2, 3, 6, 7, 12, 79, 90, 91, 92] hF (by kernel_rfl) fun a hF => ?_
 refine bind_split hv237 (fun x239 hx239 hv237 => ?_)
 refine wcg hF (wo_indexArr hF (by kernel_rfl) (E := 4) (sz := 1) (n := 4) rfl rfl (i := y226) rfl (idx_lt hx239 (hS.get 10 rfl)) (by kernel_rfl) (by kernel_rfl) fun a hF => ?_)
 refine wcg hF (wo_loadA1 (t := fBool) hF hS (by kernel_rfl) 2 2 (v := vb x239) rfl rfl rfl rfl hx239 rfl rfl (by kernel_rfl) (by kernel_rfl) fun a hF => ?_)
 refine wp 2 [0, 2, 3, 6, 7, 12, 79, 96] hF fun a hF => ?_
 refine wpListIn_nil ?_
 cases hv237
 exact ⟨_, hF.kp [0, 2, 3, 6, 7, 12, 79, 96], hS.sp (rg 6) (rg 13), trivial⟩
 have hF := hF.boolv 90 (by kernel_rfl) hb
 refine wp 6 [0, 2, 3, 6, 7, 12, 79, 96] hF fun a hF => ?_
 refine wpListIn_nil ?_
 cases hv237
 exact ⟨_, hF.kp [0, 2, 3, 6, 7, 12, 79, 96], hS.sp (rg 6) (rg 13), trivial⟩
 rintro a w ⟨κ, hF, hS, -⟩
 refine hK235 _ _ ?_
 refine bif_split H (fun hb H => ?_) (fun hb H => ?_)
 refine cond_t hF (by kernel_rfl) hb ?_
 refine wpIn_exit ?_
 exact ⟨_, y222, y223, p224, c225, hF.kp [0, 2, 3, 6, 7, 79], hS.sp (rg 6) (rg 13), H⟩
 refine cond_f hF (by kernel_rfl) hb ?_
 refine wpIn_skip ?_
 refine hK234 _ _ ?_
 refine wpIn_seq_k fun K240 hK240 => ?_
 refine bind_split H (fun v242 hv242 H => ?_)
 refine code_join (fun a w => ∃ κ : Gh, Fr (136) [] [(0, pt b8 0), (2, pt b13 0), (3, pt b16 0), (6, vu y29), (7, .slice p159 (y158).length c160), (12, vi y226), (79, vi y226)] a ∧ SS Ms κ0 w0 κ w [.box b13 72 [si x10.Kind, si x10.DC, si x10.Shard, si x10.Node, si x10.Mode, sg x10.Key], .box b8 120 [si a1.now.Pool, si a1.now.Nodes, eb 4 a1.now.Members, (8, cs2), ei 21 a1.now.Modes, si a1.tail.Pool, si a1.tail.Nodes, eb 4 a1.tail.Members, (8, cs3), ei 21 a1.tail.Modes, sl p4 (a1.queue).length c5, si a1.done, si (IntKind.i64.wrap (a1.epoch + 1)), si a1.step_, eb 4 v242, su a1.mark_, sb a1.ready, sl p224 (y223).length c225], .box b16 30 [si v23.1, si v23.2.1, eb 4 v23.2.2.1, (8, cs21), ei 21 v23.2.2.2.2], .tok p224 106 15 (y223).length c225, .tok p159 92 1 (y158).length c160, .tok p4 72 6 (a1.queue).length c5] [Ro.mp (fInt .u64).ty p159 c160 y158, ml a1.now.Members 4, Arr.mp t_api_Map cs2 4 a1.now.Maps, ml a1.now.Modes 21, ml a1.tail.Members 4, Arr.mp t_api_Map cs3 4 a1.tail.Maps, ml a1.tail.Modes 21, Ro.mp f_api_Cmd.ty p4 c5 a1.queue, ml v242 4, Ro.mp t_api_Mail p224 c225 y223, ml v23.2.2.1 4, Arr.mp t_api_Map cs21 4 v23.2.2.2.1, ml v23.2.2.2.2 21] ∧ True) ?_ ?_
 refine rgS hS [16] ?_
 have hS := hS.drew
 refine any_pure [0, 1, 2, 3, 4, 5, 6, 13, 14] [0, 2, 3, 6, 7, 12, 79, 98, 100, 103, 111] (L' := [(0, pt b8 0), (2, pt b13 0), (3, pt b16 0), (6, vu y29), (7, .slice p159 (y158).length c160), (12, vi y226), (79, vi y226), (98, vi y226), (100, vi y226), (103, pt b8 2), (111, pt b8 74)]) (listed' := (bitA 17 24703)) (fuel := 8) hF (hS.sx [0, 1, 2] (rg 13)) (by kernel_rfl) (by intro c a w t v h; cases t <;> exact h) (by kernel_rfl) rfl fun a hF => ?_
 refine bind_split hv242 (fun x243 hx243 hv242 => ?_)
 refine atk 7 (some 104) hF (hS.sx [0, 1, 2] (rg 13)) rfl (fun w _ => val_indexArr (E := 4) (sz := 1) (n := 4) rfl rfl (i := y226) rfl (idx_lt hx243 (hS.get 1 rfl)) (by kernel_rfl) (by kernel_rfl) w) fun a hF => ?_
 refine atk 8 (some 105) hF (hS.sx [0, 1, 2] (rg 13)) rfl (val_loadA1 (t := fBool) 1 2 (v := vb x243) rfl rfl rfl rfl hx243 rfl rfl (by kernel_rfl) (by kernel_rfl)) fun a hF => ?_
 refine anp [9] [0, 2, 3, 6, 7, 12, 79, 98, 106, 111] hF (hS.sx [0, 1, 2] (rg 13)) fun a hF => ?_
 refine bif_split hv242 (fun hb hv242 => ?_) (fun hb hv242 => ?_)
 have hF := hF.boolv 106 (by kernel_rfl) hb
 refine any_pure [10, 11, 12] [0, 2, 3, 6, 7, 12, 79, 98, 109, 111] (L' := [(0, pt b8 0), (2, pt b13 0), (3, pt b16 0), (6, vu y29), (7, .slice p159 (y158).length c160), (12, vi y226), (79, vi y226), (98, vi y226), (109, vb true), (111, pt b8 74)]) (listed' := (bitA 17 32767)) (fuel := 2) hF (hS.sx [0, 1, 2] (rg 13)) (by kernel_rfl) (by intro c a w t v h; cases t <;> exact h) (by kernel_rfl) rfl fun a hF => ?_
 refine bind_split hv242 (fun x244 hx244 hv242 => ?_)
 refine atk 15 (some 112) hF (hS.sx [0, 1, 2] (rg 13)) rfl (fun w _ => val_indexArr (E := 4) (sz := 1) (n := 4) rfl rfl (i := y226) rfl (idx_lt hx244 (hS.get 8 rfl)) (by kernel_rfl) (by kernel_rfl) w) fun a hF => ?_
 refine ago 16 hF rfl ?_
 refine wo_storeA1 (t := fBool) (y := true) (v := vb true) hF hS (by kernel_rfl) 1 14 (s' := [si a1.now.Pool, si a1.now.Nodes, eb 4 a1.now.Members, (8, cs2), ei 21 a1.now.Modes, si a1.tail.Pool, si a1.tail.Nodes, eb 4 a1.tail.Members, (8, cs3), ei 21 a1.tail.Modes, sl p4 (a1.queue).length c5, si a1.done, si (IntKind.i64.wrap (a1.epoch + 1)), si a1.step_, eb 4 (List.set y222 (Int.toNat y226) true), su a1.mark_, sb a1.ready, sl p224 (y223).length c225]) (C' := [.box b13 72 [si x10.Kind, si x10.DC, si x10.Shard, si x10.Node, si x10.Mode, sg x10.Key], .box b8 120 [si a1.now.Pool, si a1.now.Nodes, eb 4 a1.now.Members, (8, cs2), ei 21 a1.now.Modes, si a1.tail.Pool, si a1.tail.Nodes, eb 4 a1.tail.Members, (8, cs3), ei 21 a1.tail.Modes, sl p4 (a1.queue).length c5, si a1.done, si (IntKind.i64.wrap (a1.epoch + 1)), si a1.step_, eb 4 (List.set y222 (Int.toNat y226) true), su a1.mark_, sb a1.ready, sl p224 (y223).length c225], .box b16 30 [si v23.1, si v23.2.1, eb 4 v23.2.2.1, (8, cs21), ei 21 v23.2.2.2.2], .tok p224 106 15 (y223).length c225, .tok p159 92 1 (y158).length c160, .tok p4 72 6 (a1.queue).length c5]) rfl rfl (by kernel_rfl) rfl rfl hx244 rfl rfl (by kernel_rfl) (by kernel_rfl) (by kernel_rfl) (by kernel_rfl) fun a w hF hS => ?_
 have hS := hS.add (m := ml (List.set y222 (Int.toNat y226) true) 4) (List.length_set.trans (hS.get 8 rfl))
 refine ⟨notE, ?_⟩
 refine and_ ?_
 cases hv242
 exact ⟨_, hF.kp [0, 2, 3, 6, 7, 12, 79], hS.sp (rg 6) [1, 2, 3, 4, 5, 6, 7, 8, 0, 10, 11, 12, 13], trivial⟩
 have hF := hF.boolv 106 (by kernel_rfl) hb
 refine any_pure [10, 11, 12] [0, 2, 3, 6, 7, 12, 79, 98, 109, 111] (L' := [(0, pt b8 0), (2, pt b13 0), (3, pt b16 0), (6, vu y29), (7, .slice p159 (y158).length c160), (12, vi y226), (79, vi y226), (98, vi y226), (109, vb (y29 == 2)), (111, pt b8 74)]) (listed' := (bitA 17 32767)) (fuel := 2) hF (hS.sx [0, 1, 2] (rg 13)) (by kernel_rfl) (by intro c a w t v h; cases t <;> exact h) (by kernel_rfl) rfl fun a hF => ?_
 refine bind_split hv242 (fun x245 hx245 hv242 => ?_)
 refine atk 15 (some 112) hF (hS.sx [0, 1, 2] (rg 13)) rfl (fun w _ => val_indexArr (E := 4) (sz := 1) (n := 4) rfl rfl (i := y226) rfl (idx_lt hx245 (hS.get 8 rfl)) (by kernel_rfl) (by kernel_rfl) w) fun a hF => ?_
 refine ago 16 hF rfl ?_
 refine wo_storeA1 (t := fBool) (y := (y29 == 2)) (v := vb (y29 == 2)) hF hS (by kernel_rfl) 1 14 (s' := [si a1.now.Pool, si a1.now.Nodes, eb 4 a1.now.Members, (8, cs2), ei 21 a1.now.Modes, si a1.tail.Pool, si a1.tail.Nodes, eb 4 a1.tail.Members, (8, cs3), ei 21 a1.tail.Modes, sl p4 (a1.queue).length c5, si a1.done, si (IntKind.i64.wrap (a1.epoch + 1)), si a1.step_, eb 4 (List.set y222 (Int.toNat y226) (y29 == 2)), su a1.mark_, sb a1.ready, sl p224 (y223).length c225]) (C' := [.box b13 72 [si x10.Kind, si x10.DC, si x10.Shard, si x10.Node, si x10.Mode, sg x10.Key], .box b8 120 [si a1.now.Pool, si a1.now.Nodes, eb 4 a1.now.Members, (8, cs2), ei 21 a1.now.Modes, si a1.tail.Pool, si a1.tail.Nodes, eb 4 a1.tail.Members, (8, cs3), ei 21 a1.tail.Modes, sl p4 (a1.queue).length c5, si a1.done, si (IntKind.i64.wrap (a1.epoch + 1)), si a1.step_, eb 4 (List.set y222 (Int.toNat y226) (y29 == 2)), su a1.mark_, sb a1.ready, sl p224 (y223).length c225], .box b16 30 [si v23.1, si v23.2.1, eb 4 v23.2.2.1, (8, cs21), ei 21 v23.2.2.2.2], .tok p224 106 15 (y223).length c225, .tok p159 92 1 (y158).length c160, .tok p4 72 6 (a1.queue).length c5]) rfl rfl (by kernel_rfl) rfl rfl hx245 rfl rfl (by kernel_rfl) (by kernel_rfl) (by kernel_rfl) (by kernel_rfl) fun a w hF hS => ?_
 have hS := hS.add (m := ml (List.set y222 (Int.toNat y226) (y29 == 2)) 4) (List.length_set.trans (hS.get 8 rfl))
 refine ⟨notE, ?_⟩
 refine and_ ?_
 cases hv242
 exact ⟨_, hF.kp [0, 2, 3, 6, 7, 12, 79], hS.sp (rg 6) [1, 2, 3, 4, 5, 6, 7, 8, 0, 10, 11, 12, 13], trivial⟩
 rintro a w ⟨κ, hF, hS, -⟩
 refine hK240 _ _ ?_
 refine rgS hS [22] ?_
 have hS := hS.drew
 refine bind_split H (fun x246 hx246 H => ?_)
 refine bind_split H (fun x247 hx247 H => ?_)
 refine bind_split H (fun x251 hx251 H => ?_)
 refine anp [0, 1, 2, 3, 5, 7, 8, 9, 12, 13] [0, 2, 3, 6, 7, 79, 113, 116, 118, 122, 125, 126] hF (hS.sx [0, 1, 2] (rg 13)) fun a hF => ?_
 refine atk 4 (some 117) hF (hS.sx [0, 1, 2] (rg 13)) rfl (vld 1 17 0) fun a hF => ?_
 refine atk 10 (some 123) hF (hS.sx [0, 1, 2] (rg 13)) rfl (vld 1 12 0) fun a hF => ?_
 refine any_pure [11] [0, 2, 3, 6, 7, 79, 113, 117, 118, 124, 125, 126] (L' := [(0, pt b8 0), (2, pt b13 0), (3, pt b16 0), (6, vu y29), (7, .slice p159 (y158).length c160), (79, vi y226), (113, pt b8 0), (117, .slice p224 (y223).length c225), (118, vi y226), (124, vu (IntKind.u64.wrap (IntKind.i64.wrap (a1.epoch + 1)))), (125, vu y29), (126, .slice p159 (y158).length c160)]) (listed' := (bitA 23 16319)) (fuel := 10) hF (hS.sx [0, 1, 2] (rg 13)) (by kernel_rfl) (by intro c a w t v h; cases t <;> exact h) (by kernel_rfl) rfl fun a hF => ?_
 refine atk 15 (some 128) hF (hS.sx [0, 1, 2] (rg 13)) rfl (vls 0 0 6) fun a hF => ?_
 refine ago 6 hF rfl ?_
 refine wo_callP hF hS (by kernel_rfl) (by kernel_rfl) (C_api_Place N hS.fresh y226 (-1)  ((hS.pick [] (by kernel_rfl)).ro) hx246) ?_
 rintro _ κ w a ⟨rfl, hR, hN⟩ hF hS hO
 refine ⟨fun _ => (hS.sx [0, 1, 2] (rg 13)), ?_⟩
 refine ago 14 hF rfl ?_
 have hS := hS.add (m := Ro.mp (fInt .u64).ty none 0 ([] : List Int)) (Ro.nil (fInt .u64).ty _ _)
 have hS := hS.addNil 92 1
 refine wo_append (ty := (fInt .u64).ty) hF hS (by kernel_rfl) 0 0 1 rfl rfl rfl (by kernel_rfl) (by kernel_rfl) rfl rfl rfl hx247 (by kernel_rfl) (i := Try.t92) (z := vu 0) (by kernel_rfl) (by kernel_rfl) (by kernel_rfl) fun p248 c249 κ a w hF hS => ?_
 refine ⟨fun _ => (hS.sx [1, 2, 3] [2, 3, 4, 5, 6, 7, 8, 9, 10, 11, 12, 13, 14]), ?_⟩
 refine any_pure [16, 17] [0, 2, 3, 6, 7, 79, 113, 117, 130] (L' := [(0, pt b8 0), (2, pt b13 0), (3, pt b16 0), (6, vu y29), (7, .slice p159 (y158).length c160), (79, vi y226), (113, pt b8 0), (117, .slice p224 (y223).length c225), (130, .agg (flat [si x246, si 21, su (IntKind.u64.wrap (IntKind.i64.wrap (a1.epoch + 1))), su y29, su 0, sg ByteArray.empty, sg ByteArray.empty, sl none 0 0, sl p248 (x247).length c249, si x10.Kind, si x10.DC, si x10.Shard, si x10.Node, si x10.Mode, sg x10.Key]).toArray)]) (listed' := (bitA 23 262143)) (fuel := 5) hF (hS.sx [1, 2, 3] [2, 3, 4, 5, 6, 7, 8, 9, 10, 11, 12, 13, 14]) (by kernel_rfl) (by intro c a w t v h; cases t <;> exact h) (by kernel_rfl) rfl fun a hF => ?_
 refine ago 18 hF rfl ?_
 have hS := hS.add (m := Ro.mp f_api_Ver.ty none 0 ([] : List T_api_Ver)) (Ro.nil f_api_Ver.ty _ _)
 refine wo_build1 (t := t_api_Mail) (y := (T_api_Mail.mk x246 (T_api_Msg.mk 21 (IntKind.u64.wrap (IntKind.i64.wrap (a1.epoch + 1))) y29 0 ByteArray.empty ByteArray.empty ([] : List T_api_Ver) x247 (T_api_Cmd.mk x10.Kind x10.DC x10.Shard x10.Node x10.Mode x10.Key)))) (v := .agg (flat [si x246, si 21, su (IntKind.u64.wrap (IntKind.i64.wrap (a1.epoch + 1))), su y29, su 0, sg ByteArray.empty, sg ByteArray.empty, sl none 0 0, sl p248 (x247).length c249, si x10.Kind, si x10.DC, si x10.Shard, si x10.Node, si x10.Mode, sg x10.Key]).toArray) (z := .agg (flat [si 0, si 0, su 0, su 0, su 0, sg ByteArray.empty, sg ByteArray.empty, sl none 0 0, sl none 0 0, si 0, si 0, si 0, si 0, si 0, sg ByteArray.empty]).toArray) (cells := (flat [si x246, si 21, su (IntKind.u64.wrap (IntKind.i64.wrap (a1.epoch + 1))), su y29, su 0, sg ByteArray.empty, sg ByteArray.empty, sl none 0 0, sl p248 (x247).length c249, si x10.Kind, si x10.DC, si x10.Shard, si x10.Node, si x10.Mode, sg x10.Key]).toArray) (E := 106) hF hS (by kernel_rfl) rfl (by kernel_rfl) ⟨(none, 0, p248, c249), rfl, (hS.pick [0, 1] (by kernel_rfl)).ro⟩ (by kernel_rfl) (by kernel_rfl) (by kernel_rfl) (by kernel_rfl) (by kernel_rfl) fun p250 κ a w hF hS => ?_
 refine ⟨fun _ => (hS.sx [2, 3, 4] [4, 5, 6, 7, 8, 9, 10, 11, 12, 13, 14, 15, 16]), ?_⟩
 refine ago 19 hF rfl ?_
 refine wo_append (ty := t_api_Mail) hF hS (by kernel_rfl) 5 13 0 rfl rfl rfl (by kernel_rfl) (by kernel_rfl) rfl rfl rfl hx251 (by kernel_rfl) (i := Try.t106) (z := .agg (flat [si 0, si 0, su 0, su 0, su 0, sg ByteArray.empty, sg ByteArray.empty, sl none 0 0, sl none 0 0, si 0, si 0, si 0, si 0, si 0, sg ByteArray.empty]).toArray) (by kernel_rfl) (by kernel_rfl) (by kernel_rfl) fun p252 c253 κ a w hF hS => ?_
 refine ⟨fun _ => (hS.sx [2, 3, 4] [5, 6, 7, 8, 9, 10, 11, 12, 13, 14, 15, 16, 17]), ?_⟩
 refine anp [20, 21] [0, 2, 3, 6, 7, 79, 132, 134] hF (hS.sx [2, 3, 4] [5, 6, 7, 8, 9, 10, 11, 12, 13, 14, 15, 16, 17]) fun a hF => ?_
 refine ago 22 hF rfl ?_
 refine wst hF hS 3 17 1 [sl p252 (x251).length c253] (sgN 1 sgNil) fun a w hF hS => ?_
 refine ⟨notE, ?_⟩
 refine and_ ?_
 exact ⟨_, v242, x251, p252, c253, hF.kp [0, 2, 3, 6, 7, 79], hS.sp [2, 3, 4, 5, 6, 7] [5, 6, 7, 8, 9, 10, 11, 12, 13, 0, 15, 16, 17], H⟩
 rintro a w ⟨κ, y229, y230, p231, c232, hF, hS, H⟩
 unfold M.warden_Warden_send_k7 at H
 refine wpIn_region_lit ?_
 refine wp 2 [0, 2, 3, 6, 7, 79] hF fun a hF => ?_
 refine wpListIn_nil ?_
 exact ⟨fuel6, Nat.lt_succ_self _, _, y229, y230, p231, c232, IntKind.i64.wrap (y226 + 1), hF.kp [0, 2, 3, 6, 7, 79], hS.sp (rg 6) (rg 13), H⟩
 refine cond_f hF (by kernel_rfl) hb ?_
 refine wpIn_exit ?_
 cases H
 exact ret_done hF hS (res0 Try.results88 ) ⟨cs2, cs3, p4, c5, p224, c225, rfl, hS.sp [1, 5, 3] [1, 2, 3, 4, 5, 6, 7, 8, 9]⟩
set_option maxRecDepth 20000 in
set_option maxHeartbeats 1000000 in
theorem C_warden_Warden_start (N : Nat) {Ms : List Nat} {κ0 : Gh} {w0 : World} (a1 : T_warden_Warden) (cs2 : List Value) (cs3 : List Value) (p4 : Option Addr) (c5 : Nat) (p6 : Option Addr) (c7 : Nat) (b8 : Nat) (hB : SB Ms κ0 w0 [.box b8 120 [si a1.now.Pool, si a1.now.Nodes, eb 4 a1.now.Members, (8, cs2), ei 21 a1.now.Modes, si a1.tail.Pool, si a1.tail.Nodes, eb 4 a1.tail.Members, (8, cs3), ei 21 a1.tail.Modes, sl p4 (a1.queue).length c5, si a1.done, si a1.epoch, si a1.step_, eb 4 a1.wait, su a1.mark_, sb a1.ready, sl p6 (a1.out).length c7], .tok p4 72 6 (a1.queue).length c5, .tok p6 106 15 (a1.out).length c7] [ml a1.now.Members 4, Arr.mp t_api_Map cs2 4 a1.now.Maps, ml a1.now.Modes 21, ml a1.tail.Members 4, Arr.mp t_api_Map cs3 4 a1.tail.Maps, ml a1.tail.Modes 21, Ro.mp f_api_Cmd.ty p4 c5 a1.queue, ml a1.wait 4, Ro.mp t_api_Mail p6 c7 a1.out]) {r : (T_warden_Warden)} (H : M.warden_Warden_start N a1 = some r) :
    Calls Try.prog 85 #[pt b8 0] w0 (Post Ms κ0 w0 fun v κ w => ∃ (cs20 cs21 : List Value) (p22 : Option Addr) (c23 : Nat) (p24 : Option Addr) (c25 : Nat), v = .tuple #[] ∧ SS Ms κ0 w0 κ w [.box b8 120 [si r.now.Pool, si r.now.Nodes, eb 4 r.now.Members, (8, cs20), ei 21 r.now.Modes, si r.tail.Pool, si r.tail.Nodes, eb 4 r.tail.Members, (8, cs21), ei 21 r.tail.Modes, sl p22 (r.queue).length c23, si r.done, si r.epoch, si r.step_, eb 4 r.wait, su r.mark_, sb r.ready, sl p24 (r.out).length c25], .tok p22 72 6 (r.queue).length c23, .tok p24 106 15 (r.out).length c25] [ml r.now.Members 4, Arr.mp t_api_Map cs20 4 r.now.Maps, ml r.now.Modes 21, ml r.tail.Members 4, Arr.mp t_api_Map cs21 4 r.tail.Maps, ml r.tail.Modes 21, Ro.mp f_api_Cmd.ty p22 c23 r.queue, ml r.wait 4, Ro.mp t_api_Mail p24 c25 r.out]) := by
 have hS := hB.hS
 have hfr := hS.fresh
 refine enter (N := (23)) (L := [(0, pt b8 0)]) Try.func85 rfl Try.ntmps85 (show 1 ≤ (23) by decide) rfl fun a hF => ?_
 unfold M.warden_Warden_start at H
 refine wpIn_seq_k fun K9 hK9 => ?_
 refine wpIn_region_lit ?_
 refine bind_split H (fun v11 hv11 H => ?_)
 refine wl_join (fun a w => ∃ κ : Gh, Fr (23) [] [(0, pt b8 0), (14, vb v11)] a ∧ SS Ms κ0 w0 κ w [.box b8 120 [si a1.now.Pool, si a1.now.Nodes, eb 4 a1.now.Members, (8, cs2), ei 21 a1.now.Modes, si a1.tail.Pool, si a1.tail.Nodes, eb 4 a1.tail.Members, (8, cs3), ei 21 a1.tail.Modes, sl p4 (a1.queue).length c5, si a1.done, si a1.epoch, si a1.step_, eb 4 a1.wait, su a1.mark_, sb a1.ready, sl p6 (a1.out).length c7], .tok p4 72 6 (a1.queue).length c5, .tok p6 106 15 (a1.out).length c7] [ml a1.now.Members 4, Arr.mp t_api_Map cs2 4 a1.now.Maps, ml a1.now.Modes 21, ml a1.tail.Members 4, Arr.mp t_api_Map cs3 4 a1.tail.Maps, ml a1.tail.Modes 21, Ro.mp f_api_Cmd.ty p4 c5 a1.queue, ml a1.wait 4, Ro.mp t_api_Mail p6 c7 a1.out] ∧ True) ?_ ?_
 refine wp 3 [0, 4] hF fun a hF => ?_
 refine wc (wld hF hS 0 13 0 fun a hF => ?_)
 refine wp 2 [0, 7] hF fun a hF => ?_
 refine bif_split hv11 (fun hb hv11 => ?_) (fun hb hv11 => ?_)
 have hF := hF.boolv 7 (by kernel_rfl) hb
 refine wp 3 [0, 7, 10] hF fun a hF => ?_
 refine wcg hF (wld hF hS 0 10 0 fun a hF => ?_)
 refine wp 3 [0, 14] hF fun a hF => ?_
 refine wpListIn_nil ?_
 cases hv11
 exact ⟨_, hF.kp [0, 14], hS.sp [0, 1, 2] (rg 9), trivial⟩
 have hF := hF.boolv 7 (by kernel_rfl) hb
 refine wp 7 [0, 14] hF fun a hF => ?_
 refine wpListIn_nil ?_
 cases hv11
 exact ⟨_, hF.kp [0, 14], hS.sp [0, 1, 2] (rg 9), trivial⟩
 rintro a w ⟨κ, hF, hS, -⟩
 refine hK9 _ _ ?_
 refine bif_split H (fun hb H => ?_) (fun hb H => ?_)
 refine cond_t hF (by kernel_rfl) hb ?_
 refine wpIn_seq_k fun K12 hK12 => ?_
 refine wpIn_region_lit ?_
 refine wp 4 [0, 16, 18] hF fun a hF => ?_
 refine wc (wst hF hS 0 13 1 [si 1] (sgN 1 sgNil) fun a w hF hS => ?_)
 refine wp 2 [0, 20] hF fun a hF => ?_
 refine wc (wst hF hS 0 16 1 [sb false] (sgN 1 sgNil) fun a w hF hS => ?_)
 refine wpListIn_nil ?_
 refine hK12 _ _ ?_
 refine wpIn_region_lit ?_
 refine wp 1 [21] hF fun a hF => ?_
 refine bind_split H (fun x13 hx13 H => ?_)
 refine wc (wcS 3 [0, 1, 2] hF hS (fun hS => C_warden_Warden_send N (T_warden_Warden.mk (T_config_State.mk a1.now.Pool a1.now.Nodes a1.now.Members a1.now.Maps a1.now.Modes) (T_config_State.mk a1.tail.Pool a1.tail.Nodes a1.tail.Members a1.tail.Maps a1.tail.Modes) a1.queue a1.done a1.epoch 1 a1.wait a1.mark_ false a1.out) cs2 cs3 p4 c5 p6 c7 b8 ⟨rfl, hS.pick (rg 9) (by kernel_rfl)⟩ hx13) ?_)
 rintro _ κ w a ⟨cs14, cs15, p16, c17, p18, c19, rfl, h2⟩ hF hB
 have hS := hB _ _ h2
 refine wpListIn_nil ?_
 cases H
 exact ret_done hF hS (res0 Try.results85 ) ⟨cs14, cs15, p16, c17, p18, c19, rfl, hS.sp [0, 1, 2] (rg 9)⟩
 refine cond_f hF (by kernel_rfl) hb ?_
 refine wpIn_skip ?_
 cases H
 exact ret_done hF hS (res0 Try.results85 ) ⟨cs2, cs3, p4, c5, p6, c7, rfl, hS.sp [0, 1, 2] (rg 9)⟩
set_option maxRecDepth 20000 in
set_option maxHeartbeats 1000000 in
theorem C_warden_Warden_finish (N : Nat) {Ms : List Nat} {κ0 : Gh} {w0 : World} (a1 : T_warden_Warden) (cs2 : List Value) (cs3 : List Value) (p4 : Option Addr) (c5 : Nat) (p6 : Option Addr) (c7 : Nat) (b8 : Nat) (hB : SB Ms κ0 w0 [.box b8 120 [si a1.now.Pool, si a1.now.Nodes, eb 4 a1.now.Members, (8, cs2), ei 21 a1.now.Modes, si a1.tail.Pool, si a1.tail.Nodes, eb 4 a1.tail.Members, (8, cs3), ei 21 a1.tail.Modes, sl p4 (a1.queue).length c5, si a1.done, si a1.epoch, si a1.step_, eb 4 a1.wait, su a1.mark_, sb a1.ready, sl p6 (a1.out).length c7], .tok p4 72 6 (a1.queue).length c5, .tok p6 106 15 (a1.out).length c7] [ml a1.now.Members 4, Arr.mp t_api_Map cs2 4 a1.now.Maps, ml a1.now.Modes 21, ml a1.tail.Members 4, Arr.mp t_api_Map cs3 4 a1.tail.Maps, ml a1.tail.Modes 21, Ro.mp f_api_Cmd.ty p4 c5 a1.queue, ml a1.wait 4, Ro.mp t_api_Mail p6 c7 a1.out]) {r : (T_warden_Warden)} (H : M.warden_Warden_finish N a1 = some r) :
    Calls Try.prog 87 #[pt b8 0] w0 (Post Ms κ0 w0 fun v κ w => ∃ (cs35 cs36 : List Value) (p37 : Option Addr) (c38 : Nat) (p39 : Option Addr) (c40 : Nat), v = .tuple #[] ∧ SS Ms κ0 w0 κ w [.box b8 120 [si r.now.Pool, si r.now.Nodes, eb 4 r.now.Members, (8, cs35), ei 21 r.now.Modes, si r.tail.Pool, si r.tail.Nodes, eb 4 r.tail.Members, (8, cs36), ei 21 r.tail.Modes, sl p37 (r.queue).length c38, si r.done, si r.epoch, si r.step_, eb 4 r.wait, su r.mark_, sb r.ready, sl p39 (r.out).length c40], .tok p37 72 6 (r.queue).length c38, .tok p39 106 15 (r.out).length c40] [ml r.now.Members 4, Arr.mp t_api_Map cs35 4 r.now.Maps, ml r.now.Modes 21, ml r.tail.Members 4, Arr.mp t_api_Map cs36 4 r.tail.Maps, ml r.tail.Modes 21, Ro.mp f_api_Cmd.ty p37 c38 r.queue, ml r.wait 4, Ro.mp t_api_Mail p39 c40 r.out]) := by
 have hS := hB.hS
 have hfr := hS.fresh
 refine enter (N := (39)) (L := [(0, pt b8 0)]) Try.func87 rfl Try.ntmps87 (show 1 ≤ (39) by decide) rfl fun a hF => ?_
 unfold M.warden_Warden_finish at H
 refine wpIn_seq_k fun K9 hK9 => ?_
 refine bind_split H (fun v16 hv16 H => ?_)
 refine code_join (fun a w => ∃ (κ : Gh) (cs14 : List Value), Fr (39) [] [(0, pt b8 0)] a ∧ SS Ms κ0 w0 κ w [.box b8 120 [si v16.1, si v16.2.1, eb 4 v16.2.2.1, (8, cs14), ei 21 v16.2.2.2.2, si a1.tail.Pool, si a1.tail.Nodes, eb 4 a1.tail.Members, (8, cs3), ei 21 a1.tail.Modes, sl p4 (a1.queue).length c5, si a1.done, si a1.epoch, si a1.step_, eb 4 a1.wait, su a1.mark_, sb a1.ready, sl p6 (a1.out).length c7], .tok p4 72 6 (a1.queue).length c5, .tok p6 106 15 (a1.out).length c7] [ml v16.2.2.1 4, Arr.mp t_api_Map cs14 4 v16.2.2.2.1, ml v16.2.2.2.2 21, ml a1.tail.Members 4, Arr.mp t_api_Map cs3 4 a1.tail.Maps, ml a1.tail.Modes 21, Ro.mp f_api_Cmd.ty p4 c5 a1.queue, ml a1.wait 4, Ro.mp t_api_Mail p6 c7 a1.out] ∧ True) ?_ ?_
 refine rgS hS [17] ?_
 have hS := hS.drew
 refine any_pure [0, 1, 2, 3, 5, 6, 7] [0, 3, 6, 10] (L' := [(0, pt b8 0), (3, pt b8 0), (6, pt b8 0), (10, pt b8 70)]) (listed' := (bitA 18 239)) (fuel := 11) hF (hS.sx [0] (rg 9)) (by kernel_rfl) (by intro c a w t v h; cases t <;> exact h) (by kernel_rfl) rfl fun a hF => ?_
 refine atk 4 (some 7) hF (hS.sx [0] (rg 9)) rfl (vls 0 0 5) fun a hF => ?_
 refine atk 8 (some 11) hF (hS.sx [0] (rg 9)) rfl (vld 0 10 0) fun a hF => ?_
 refine bind_split hv16 (fun x17 hx17 hv16 => ?_)
 obtain ⟨b18, f19, hpx17⟩ := hS.ptr 6 rfl hx17
 refine atk 9 (some 12) hF (hS.sx [0] (rg 9)) rfl (fun w _ => val_index (E := 72) (sz := 6) rfl hpx17 rfl (by kernel_rfl) rfl hx17 (by kernel_rfl) (by kernel_rfl) w) fun a hF => ?_
 refine atk 10 (some 13) hF (hS.sx [0] (rg 9)) rfl (val_loadRoAgg (t := f_api_Cmd) 6 rfl rfl hpx17 rfl hx17 (by kernel_rfl) (by kernel_rfl) (by kernel_rfl)) fun a hF => ?_
 refine ago 11 hF rfl ?_
 refine bind_split hv16 (fun x20 hx20 hv16 => ?_)
 refine wo_callP hF hS (by kernel_rfl) (by kernel_rfl) (C_config_Apply N hS.fresh (T_config_State.mk a1.now.Pool a1.now.Nodes a1.now.Members a1.now.Maps a1.now.Modes) (T_api_Cmd.mk x17.Kind x17.DC x17.Shard x17.Node x17.Mode x17.Key) cs2 ((hS.pick [0, 1, 2] (by kernel_rfl)).ro) hx20) ?_
 rintro _ κ w a ⟨cs21, rfl, hR, hN⟩ hF hS hO
 have hS := hS.adds hR
 refine ⟨fun _ => (hS.sx [0] [3, 4, 5, 6, 7, 8, 9, 10, 11]), ?_⟩
 refine anp [12, 13, 15, 16] [0, 2, 15, 18] hF (hS.sx [0] [3, 4, 5, 6, 7, 8, 9, 10, 11]) fun a hF => ?_
 refine ago2 14 17 hF rfl rfl ?_ ?_
 refine wo_pure (v := vi x20.2) hF (by kernel_rfl) (by kernel_rfl) fun a hF => ?_
 refine ⟨fun _ => (hS.sx [0] [3, 4, 5, 6, 7, 8, 9, 10, 11]), ?_⟩
 refine ago 17 hF rfl ?_
 refine wst hF hS 0 0 5 [si x20.1.Pool, si x20.1.Nodes, eb 4 x20.1.Members, (8, cs21), ei 21 x20.1.Modes] (sgN 2 (sgEnc (hS.get 0 rfl) (sgArr (hS.get 1 rfl) (sgEnc (hS.get 2 rfl) sgNil)))) fun a w hF hS => ?_
 refine ⟨notE, ?_⟩
 refine and_ ?_
 cases hv16
 exact ⟨_, cs21, hF.kp [0], hS.sp [0, 1, 2] [0, 1, 2, 6, 7, 8, 9, 10, 11], trivial⟩
 refine wst hF hS 0 0 5 [si x20.1.Pool, si x20.1.Nodes, eb 4 x20.1.Members, (8, cs21), ei 21 x20.1.Modes] (sgN 2 (sgEnc (hS.get 0 rfl) (sgArr (hS.get 1 rfl) (sgEnc (hS.get 2 rfl) sgNil)))) fun a w hF hS => ?_
 refine ⟨notE, ?_⟩
 refine ago 14 hF rfl ?_
 refine wo_pure (v := vi x20.2) hF (by kernel_rfl) (by kernel_rfl) fun a hF => ?_
 refine ⟨notE, ?_⟩
 refine and_ ?_
 cases hv16
 exact ⟨_, cs21, hF.kp [0], hS.sp [0, 1, 2] [0, 1, 2, 6, 7, 8, 9, 10, 11], trivial⟩
 rintro a w ⟨κ, cs14, hF, hS, -⟩
 refine hK9 _ _ ?_
 refine wpIn_seq_k fun K22 hK22 => ?_
 refine wpIn_region_lit ?_
 refine wl_pure (L' := [(0, pt b8 0), (19, pt b8 0), (22, pt b8 70)]) 4 [0, 19, 22] hF (by kernel_rfl) fun a hF => ?_
 refine wc (wld hF hS 0 10 0 fun a hF => ?_)
 refine bind_split H (fun x23 hx23 H => ?_)
 refine wc (wo_sliceTok hF hS (by kernel_rfl) 6 1 rfl rfl rfl rfl rfl rfl hx23 (by kernel_rfl) (by kernel_rfl) fun p24 c25 a hF hS => ?_)
 refine wp 2 [0, 24, 26] hF fun a hF => ?_
 refine wc (wst hF hS 0 10 1 [sl p24 (x23).length c25] (sgN 1 sgNil) fun a w hF hS => ?_)
 refine wpListIn_nil ?_
 refine hK22 _ _ ?_
 refine wpIn_seq_k fun K26 hK26 => ?_
 refine wpIn_region_lit ?_
 refine wp 3 [0, 27, 29] hF fun a hF => ?_
 refine wc (wld hF hS 0 11 0 fun a hF => ?_)
 refine wp 3 [0, 31, 33] hF fun a hF => ?_
 refine wc (wst hF hS 0 11 1 [si (IntKind.i64.wrap (a1.done + 1))] (sgN 1 sgNil) fun a w hF hS => ?_)
 refine wpListIn_nil ?_
 refine hK26 _ _ ?_
 refine wpIn_seq_k fun K27 hK27 => ?_
 refine wpIn_region_lit ?_
 refine wp 3 [0, 36] hF fun a hF => ?_
 refine wc (wst hF hS 0 13 1 [si 0] (sgN 1 sgNil) fun a w hF hS => ?_)
 refine wpListIn_nil ?_
 refine hK27 _ _ ?_
 refine wpIn_region_lit ?_
 refine wp 1 [37] hF fun a hF => ?_
 refine bind_split H (fun x28 hx28 H => ?_)
 refine wc (wcS 3 [0, 1, 2] hF hS (fun hS => C_warden_Warden_start N (T_warden_Warden.mk (T_config_State.mk v16.1 v16.2.1 v16.2.2.1 v16.2.2.2.1 v16.2.2.2.2) (T_config_State.mk a1.tail.Pool a1.tail.Nodes a1.tail.Members a1.tail.Maps a1.tail.Modes) x23 (IntKind.i64.wrap (a1.done + 1)) a1.epoch 0 a1.wait a1.mark_ a1.ready a1.out) cs14 cs3 p24 c25 p6 c7 b8 ⟨rfl, hS.pick [1, 2, 3, 4, 5, 6, 0, 8, 9] (by kernel_rfl)⟩ hx28) ?_)
 rintro _ κ w a ⟨cs29, cs30, p31, c32, p33, c34, rfl, h2⟩ hF hB
 have hS := hB _ _ h2
 refine wpListIn_nil ?_
 cases H
 exact ret_done hF hS (res0 Try.results87 ) ⟨cs29, cs30, p31, c32, p33, c34, rfl, hS.sp [0, 1, 2] (rg 9)⟩
set_option maxRecDepth 20000 in
set_option maxHeartbeats 1000000 in
theorem C_warden_Warden_Ask (N : Nat) {Ms : List Nat} {κ0 : Gh} {w0 : World} (a1 : T_warden_Warden) (a9 : T_api_Cmd) (cs2 : List Value) (cs3 : List Value) (p4 : Option Addr) (c5 : Nat) (p6 : Option Addr) (c7 : Nat) (b8 : Nat) (hB : SB Ms κ0 w0 [.box b8 120 [si a1.now.Pool, si a1.now.Nodes, eb 4 a1.now.Members, (8, cs2), ei 21 a1.now.Modes, si a1.tail.Pool, si a1.tail.Nodes, eb 4 a1.tail.Members, (8, cs3), ei 21 a1.tail.Modes, sl p4 (a1.queue).length c5, si a1.done, si a1.epoch, si a1.step_, eb 4 a1.wait, su a1.mark_, sb a1.ready, sl p6 (a1.out).length c7], .tok p4 72 6 (a1.queue).length c5, .tok p6 106 15 (a1.out).length c7] [ml a1.now.Members 4, Arr.mp t_api_Map cs2 4 a1.now.Maps, ml a1.now.Modes 21, ml a1.tail.Members 4, Arr.mp t_api_Map cs3 4 a1.tail.Maps, ml a1.tail.Modes 21, Ro.mp f_api_Cmd.ty p4 c5 a1.queue, ml a1.wait 4, Ro.mp t_api_Mail p6 c7 a1.out]) {r : (Int × Int × T_warden_Warden)} (H : M.warden_Warden_Ask N a1 a9 = some r) :
    Calls Try.prog 65 #[pt b8 0, .agg (flat [si a9.Kind, si a9.DC, si a9.Shard, si a9.Node, si a9.Mode, sg a9.Key]).toArray] w0 (Post Ms κ0 w0 fun v κ w => ∃ (cs49 cs50 : List Value) (p51 : Option Addr) (c52 : Nat) (p53 : Option Addr) (c54 : Nat), v = .tuple #[vi r.1, vi r.2.1] ∧ SS Ms κ0 w0 κ w [.box b8 120 [si r.2.2.now.Pool, si r.2.2.now.Nodes, eb 4 r.2.2.now.Members, (8, cs49), ei 21 r.2.2.now.Modes, si r.2.2.tail.Pool, si r.2.2.tail.Nodes, eb 4 r.2.2.tail.Members, (8, cs50), ei 21 r.2.2.tail.Modes, sl p51 (r.2.2.queue).length c52, si r.2.2.done, si r.2.2.epoch, si r.2.2.step_, eb 4 r.2.2.wait, su r.2.2.mark_, sb r.2.2.ready, sl p53 (r.2.2.out).length c54], .tok p51 72 6 (r.2.2.queue).length c52, .tok p53 106 15 (r.2.2.out).length c54] [ml r.2.2.now.Members 4, Arr.mp t_api_Map cs49 4 r.2.2.now.Maps, ml r.2.2.now.Modes 21, ml r.2.2.tail.Members 4, Arr.mp t_api_Map cs50 4 r.2.2.tail.Maps, ml r.2.2.tail.Modes 21, Ro.mp f_api_Cmd.ty p51 c52 r.2.2.queue, ml r.2.2.wait 4, Ro.mp t_api_Mail p53 c54 r.2.2.out]) := by
 have hS := hB.hS
 have hfr := hS.fresh
 refine enter (N := (56)) (L := [(0, pt b8 0), (1, .agg (flat [si a9.Kind, si a9.DC, si a9.Shard, si a9.Node, si a9.Mode, sg a9.Key]).toArray)]) Try.func65 rfl Try.ntmps65 (show 2 ≤ (56) by decide) rfl fun a hF => ?_
 unfold M.warden_Warden_Ask at H
 refine wpIn_seq_k fun K10 hK10 => ?_
 refine wpIn_region_lit ?_
 refine wc (wbx hF hS [si a9.Kind, si a9.DC, si a9.Shard, si a9.Node, si a9.Mode, sg a9.Key] (sgN 6 sgNil) fun b11 a w hF hS => ?_)
 refine wp 2 [0, 3] hF fun a hF => ?_
 refine wpListIn_nil ?_
 refine hK10 _ _ ?_
 refine wpIn_seq_k fun K12 hK12 => ?_
 refine wpIn_seq_k fun K13 hK13 => ?_
 refine wpIn_region_lit ?_
 refine wp 2 [0, 3, 9] hF fun a hF => ?_
 refine wpListIn_nil ?_
 refine hK13 _ _ ?_
 refine cond_f hF (by kernel_rfl) rfl ?_
 refine wpIn_skip ?_
 refine hK12 _ _ ?_
 refine wpIn_seq_k fun K14 hK14 => ?_
 refine wpIn_seq_k fun K15 hK15 => ?_
 refine wpIn_region_lit ?_
 refine wp 3 [0, 3, 12] hF fun a hF => ?_
 refine wc (wld hF hS 1 10 0 fun a hF => ?_)
 refine wp 2 [0, 3, 15] hF fun a hF => ?_
 refine wpListIn_nil ?_
 refine hK15 _ _ ?_
 refine bif_split H (fun hb H => ?_) (fun hb H => ?_)
 refine cond_t hF (by kernel_rfl) hb ?_
 refine wpIn_seq_k fun K16 hK16 => ?_
 refine wpIn_region_lit ?_
 refine wp 2 [4, 5] hF fun a hF => ?_
 refine wpListIn_nil ?_
 refine hK16 _ _ ?_
 refine wpIn_ret ?_
 cases H
 exact ret_done hF hS (res2 Try.results65 (rvt hF) (rvt hF)) ⟨cs2, cs3, p4, c5, p6, c7, rfl, hS.sp [1, 2, 3] (rg 9)⟩
 refine cond_f hF (by kernel_rfl) hb ?_
 refine wpIn_skip ?_
 refine hK14 _ _ ?_
 refine wpIn_seq_k fun K17 hK17 => ?_
 refine bind_split H (fun v26 hv26 H => ?_)
 refine code_join (fun a w => ∃ (κ : Gh) (b18 : Nat) (cs23 : List Value), Fr (56) [] [(0, pt b8 0), (3, pt b11 0), (6, pt b18 0), (7, vi v26.2.2.2.2.2)] a ∧ SS Ms κ0 w0 κ w [.box b11 72 [si a9.Kind, si a9.DC, si a9.Shard, si a9.Node, si a9.Mode, sg a9.Key], .box b8 120 [si a1.now.Pool, si a1.now.Nodes, eb 4 a1.now.Members, (8, cs2), ei 21 a1.now.Modes, si a1.tail.Pool, si a1.tail.Nodes, eb 4 a1.tail.Members, (8, cs3), ei 21 a1.tail.Modes, sl p4 (a1.queue).length c5, si a1.done, si a1.epoch, si a1.step_, eb 4 a1.wait, su a1.mark_, sb a1.ready, sl p6 (a1.out).length c7], .box b18 30 [si v26.1, si v26.2.1, eb 4 v26.2.2.1, (8, cs23), ei 21 v26.2.2.2.2.1], .tok p4 72 6 (a1.queue).length c5, .tok p6 106 15 (a1.out).length c7] [ml a1.now.Members 4, Arr.mp t_api_Map cs2 4 a1.now.Maps, ml a1.now.Modes 21, ml a1.tail.Members 4, Arr.mp t_api_Map cs3 4 a1.tail.Maps, ml a1.tail.Modes 21, Ro.mp f_api_Cmd.ty p4 c5 a1.queue, ml a1.wait 4, Ro.mp t_api_Mail p6 c7 a1.out, ml v26.2.2.1 4, Arr.mp t_api_Map cs23 4 v26.2.2.2.1, ml v26.2.2.2.2.1 21] ∧ True) ?_ ?_
 refine rgS hS [10] ?_
 have hS := hS.drew
 refine bind_split hv26 (fun x27 hx27 hv26 => ?_)
 refine anp [0, 1, 2] [0, 3, 19] hF (hS.sx [0, 1] (rg 9)) fun a hF => ?_
 refine atk 3 (some 20) hF (hS.sx [0, 1] (rg 9)) rfl (vls 1 5 5) fun a hF => ?_
 refine atk 4 (some 21) hF (hS.sx [0, 1] (rg 9)) rfl (vls 0 0 6) fun a hF => ?_
 refine ago2 5 9 hF rfl rfl ?_ ?_
 refine wo_callP hF hS (by kernel_rfl) (by kernel_rfl) (C_config_Apply N hS.fresh (T_config_State.mk a1.tail.Pool a1.tail.Nodes a1.tail.Members a1.tail.Maps a1.tail.Modes) (T_api_Cmd.mk a9.Kind a9.DC a9.Shard a9.Node a9.Mode a9.Key) cs3 ((hS.pick [3, 4, 5] (by kernel_rfl)).ro) hx27) ?_
 rintro _ κ w a ⟨cs28, rfl, hR, hN⟩ hF hS hO
 have hS := hS.adds hR
 refine ⟨fun _ => (hS.sx [0, 1] [3, 4, 5, 6, 7, 8, 9, 10, 11]), ?_⟩
 refine anp [6, 7] [0, 3, 16, 23] hF (hS.sx [0, 1] [3, 4, 5, 6, 7, 8, 9, 10, 11]) fun a hF => ?_
 refine ago2 8 9 hF rfl rfl ?_ ?_
 refine wo_pure (v := vi x27.2) hF (by kernel_rfl) (by kernel_rfl) fun a hF => ?_
 refine ⟨fun _ => (hS.sx [0, 1] [3, 4, 5, 6, 7, 8, 9, 10, 11]), ?_⟩
 refine ago 9 hF rfl ?_
 have hS := hS.add (m := ml (List.replicate 4 false) 4) (List.length_replicate)
 have hS := hS.add (m := Arr.mp t_api_Map ((List.replicate 4 (flat [sl none 0 0, sl none 0 0])).flatten) 4 (List.replicate 4 (T_api_Map.mk ([] : List ByteArray) ([] : List Int)))) (Arr.zero _ _ _ _ _ z_api_Map)
 have hS := hS.add (m := ml (List.replicate 21 0) 21) (List.length_replicate)
 refine wal hF hS [si 0, si 0, eb 4 (List.replicate 4 false), (8, (List.replicate 4 (flat [sl none 0 0, sl none 0 0])).flatten), ei 21 (List.replicate 21 0)] (sgN 2 (sgEnc List.length_replicate (sgArr (hS.get 1 rfl) (sgEnc List.length_replicate sgNil)))) fun b29 a w hF hS => ?_
 refine ⟨fun _ => (hS.sx [1, 2] [6, 7, 8, 9, 10, 11, 12, 13, 14]), ?_⟩
 refine ago 10 hF rfl ?_
 refine wst hF hS 0 0 5 [si x27.1.Pool, si x27.1.Nodes, eb 4 x27.1.Members, (8, cs28), ei 21 x27.1.Modes] (sgN 2 (sgEnc (hS.get 3 rfl) (sgArr (hS.get 4 rfl) (sgEnc (hS.get 5 rfl) sgNil)))) fun a w hF hS => ?_
 refine ⟨notE, ?_⟩
 refine ago 11 hF rfl ?_
 refine wo_pure (v := vi x27.2) hF (by kernel_rfl) (by kernel_rfl) fun a hF => ?_
 refine ⟨notE, ?_⟩
 refine and_ ?_
 cases hv26
 exact ⟨_, b29, cs28, hF.kp [0, 3, 6, 7], hS.sp [1, 2, 0, 3, 4] [6, 7, 8, 9, 10, 11, 12, 13, 14, 3, 4, 5], trivial⟩
 have hS := hS.add (m := ml (List.replicate 4 false) 4) (List.length_replicate)
 have hS := hS.add (m := Arr.mp t_api_Map ((List.replicate 4 (flat [sl none 0 0, sl none 0 0])).flatten) 4 (List.replicate 4 (T_api_Map.mk ([] : List ByteArray) ([] : List Int)))) (Arr.zero _ _ _ _ _ z_api_Map)
 have hS := hS.add (m := ml (List.replicate 21 0) 21) (List.length_replicate)
 refine wal hF hS [si 0, si 0, eb 4 (List.replicate 4 false), (8, (List.replicate 4 (flat [sl none 0 0, sl none 0 0])).flatten), ei 21 (List.replicate 21 0)] (sgN 2 (sgEnc List.length_replicate (sgArr (hS.get 1 rfl) (sgEnc List.length_replicate sgNil)))) fun b29 a w hF hS => ?_
 refine ⟨fun _ => (hS.sx [1, 2] [6, 7, 8, 9, 10, 11, 12, 13, 14]), ?_⟩
 refine ago2 8 10 hF rfl rfl ?_ ?_
 refine wo_pure (v := vi x27.2) hF (by kernel_rfl) (by kernel_rfl) fun a hF => ?_
 refine ⟨fun _ => (hS.sx [1, 2] [6, 7, 8, 9, 10, 11, 12, 13, 14]), ?_⟩
 refine ago 10 hF rfl ?_
 refine wst hF hS 0 0 5 [si x27.1.Pool, si x27.1.Nodes, eb 4 x27.1.Members, (8, cs28), ei 21 x27.1.Modes] (sgN 2 (sgEnc (hS.get 3 rfl) (sgArr (hS.get 4 rfl) (sgEnc (hS.get 5 rfl) sgNil)))) fun a w hF hS => ?_
 refine ⟨notE, ?_⟩
 refine ago 11 hF rfl ?_
 refine wo_pure (v := vi x27.2) hF (by kernel_rfl) (by kernel_rfl) fun a hF => ?_
 refine ⟨notE, ?_⟩
 refine and_ ?_
 cases hv26
 exact ⟨_, b29, cs28, hF.kp [0, 3, 6, 7], hS.sp [1, 2, 0, 3, 4] [6, 7, 8, 9, 10, 11, 12, 13, 14, 3, 4, 5], trivial⟩
 refine wst hF hS 0 0 5 [si x27.1.Pool, si x27.1.Nodes, eb 4 x27.1.Members, (8, cs28), ei 21 x27.1.Modes] (sgN 2 (sgEnc (hS.get 3 rfl) (sgArr (hS.get 4 rfl) (sgEnc (hS.get 5 rfl) sgNil)))) fun a w hF hS => ?_
 refine ⟨notE, ?_⟩
 refine ago 8 hF rfl ?_
 refine wo_pure (v := vi x27.2) hF (by kernel_rfl) (by kernel_rfl) fun a hF => ?_
 refine ⟨notE, ?_⟩
 refine ago 11 hF rfl ?_
 refine wo_pure (v := vi x27.2) hF (by kernel_rfl) (by kernel_rfl) fun a hF => ?_
 refine ⟨notE, ?_⟩
 refine and_ ?_
 cases hv26
 exact ⟨_, b29, cs28, hF.kp [0, 3, 6, 7], hS.sp [1, 2, 0, 3, 4] [6, 7, 8, 9, 10, 11, 12, 13, 14, 3, 4, 5], trivial⟩
 have hS := hS.add (m := ml (List.replicate 4 false) 4) (List.length_replicate)
 have hS := hS.add (m := Arr.mp t_api_Map ((List.replicate 4 (flat [sl none 0 0, sl none 0 0])).flatten) 4 (List.replicate 4 (T_api_Map.mk ([] : List ByteArray) ([] : List Int)))) (Arr.zero _ _ _ _ _ z_api_Map)
 have hS := hS.add (m := ml (List.replicate 21 0) 21) (List.length_replicate)
 refine wal hF hS [si 0, si 0, eb 4 (List.replicate 4 false), (8, (List.replicate 4 (flat [sl none 0 0, sl none 0 0])).flatten), ei 21 (List.replicate 21 0)] (sgN 2 (sgEnc List.length_replicate (sgArr (hS.get 1 rfl) (sgEnc List.length_replicate sgNil)))) fun b29 a w hF hS => ?_
 refine ⟨fun _ => (hS.sx [1, 2] [3, 4, 5, 6, 7, 8, 9, 10, 11]), ?_⟩
 refine ago 5 hF rfl ?_
 refine wo_callP hF hS (by kernel_rfl) (by kernel_rfl) (C_config_Apply N hS.fresh (T_config_State.mk a1.tail.Pool a1.tail.Nodes a1.tail.Members a1.tail.Maps a1.tail.Modes) (T_api_Cmd.mk a9.Kind a9.DC a9.Shard a9.Node a9.Mode a9.Key) cs3 ((hS.pick [6, 7, 8] (by kernel_rfl)).ro) hx27) ?_
 rintro _ κ w a ⟨cs28, rfl, hR, hN⟩ hF hS hO
 have hS := hS.adds hR
 refine ⟨fun _ => (hS.sx [1, 2] [6, 7, 8, 9, 10, 11, 12, 13, 14]), ?_⟩
 refine anp [6, 7] [0, 3, 6, 16, 23] hF (hS.sx [1, 2] [6, 7, 8, 9, 10, 11, 12, 13, 14]) fun a hF => ?_
 refine ago2 8 10 hF rfl rfl ?_ ?_
 refine wo_pure (v := vi x27.2) hF (by kernel_rfl) (by kernel_rfl) fun a hF => ?_
 refine ⟨fun _ => (hS.sx [1, 2] [6, 7, 8, 9, 10, 11, 12, 13, 14]), ?_⟩
 refine ago 10 hF rfl ?_
 refine wst hF hS 0 0 5 [si x27.1.Pool, si x27.1.Nodes, eb 4 x27.1.Members, (8, cs28), ei 21 x27.1.Modes] (sgN 2 (sgEnc (hS.get 0 rfl) (sgArr (hS.get 1 rfl) (sgEnc (hS.get 2 rfl) sgNil)))) fun a w hF hS => ?_
 refine ⟨notE, ?_⟩
 refine ago 11 hF rfl ?_
 refine wo_pure (v := vi x27.2) hF (by kernel_rfl) (by kernel_rfl) fun a hF => ?_
 refine ⟨notE, ?_⟩
 refine and_ ?_
 cases hv26
 exact ⟨_, b29, cs28, hF.kp [0, 3, 6, 7], hS.sp [1, 2, 0, 3, 4] [6, 7, 8, 9, 10, 11, 12, 13, 14, 0, 1, 2], trivial⟩
 refine wst hF hS 0 0 5 [si x27.1.Pool, si x27.1.Nodes, eb 4 x27.1.Members, (8, cs28), ei 21 x27.1.Modes] (sgN 2 (sgEnc (hS.get 0 rfl) (sgArr (hS.get 1 rfl) (sgEnc (hS.get 2 rfl) sgNil)))) fun a w hF hS => ?_
 refine ⟨notE, ?_⟩
 refine ago 8 hF rfl ?_
 refine wo_pure (v := vi x27.2) hF (by kernel_rfl) (by kernel_rfl) fun a hF => ?_
 refine ⟨notE, ?_⟩
 refine ago 11 hF rfl ?_
 refine wo_pure (v := vi x27.2) hF (by kernel_rfl) (by kernel_rfl) fun a hF => ?_
 refine ⟨notE, ?_⟩
 refine and_ ?_
 cases hv26
 exact ⟨_, b29, cs28, hF.kp [0, 3, 6, 7], hS.sp [1, 2, 0, 3, 4] [6, 7, 8, 9, 10, 11, 12, 13, 14, 0, 1, 2], trivial⟩
 rintro a w ⟨κ, b18, cs23, hF, hS, -⟩
 refine hK17 _ _ ?_
 refine wpIn_seq_k fun K30 hK30 => ?_
 refine wpIn_seq_k fun K31 hK31 => ?_
 refine wpIn_region_lit ?_
 refine wp 2 [0, 3, 6, 7, 26] hF fun a hF => ?_
 refine wpListIn_nil ?_
 refine hK31 _ _ ?_
 refine bif_split H (fun hb H => ?_) (fun hb H => ?_)
 refine cond_t hF (by kernel_rfl) hb ?_
 refine wpIn_seq_k fun K32 hK32 => ?_
 refine wpIn_region_lit ?_
 refine wp 3 [4, 5] hF fun a hF => ?_
 refine wpListIn_nil ?_
 refine hK32 _ _ ?_
 refine wpIn_ret ?_
 cases H
 exact ret_done hF hS (res2 Try.results65 (rvt hF) (rvt hF)) ⟨cs2, cs3, p4, c5, p6, c7, rfl, hS.sp [1, 3, 4] (rg 9)⟩
 refine cond_f hF (by kernel_rfl) hb ?_
 refine wpIn_skip ?_
 refine hK30 _ _ ?_
 refine wpIn_seq_k fun K33 hK33 => ?_
 refine wpIn_region_lit ?_
 refine wp 1 [0, 3, 6, 28] hF fun a hF => ?_
 refine wc (wls hF hS 2 0 5 fun a hF => ?_)
 refine wp 2 [0, 3, 29, 31] hF fun a hF => ?_
 refine wc (wst hF hS 1 5 5 [si v26.1, si v26.2.1, eb 4 v26.2.2.1, (8, cs23), ei 21 v26.2.2.2.2.1] (sgN 2 (sgEnc (hS.get 9 rfl) (sgArr (hS.get 10 rfl) (sgEnc (hS.get 11 rfl) sgNil)))) fun a w hF hS => ?_)
 refine wpListIn_nil ?_
 refine hK33 _ _ ?_
 refine wpIn_seq_k fun K34 hK34 => ?_
 refine rgS hS [11] ?_
 have hS := hS.drew
 refine bind_split H (fun x35 hx35 H => ?_)
 refine bind_split H (fun x37 hx37 H => ?_)
 refine any_pure (rg 4) [0, 3, 32, 35] (L' := [(0, pt b8 0), (3, pt b11 0), (32, pt b8 0), (35, pt b8 70)]) (listed' := (bitA 12 15)) (fuel := 8) hF (hS.sx [0, 1, 2] (rg 12)) (by kernel_rfl) (by intro c a w t v h; cases t <;> exact h) (by kernel_rfl) rfl fun a hF => ?_
 refine atk 4 (some 36) hF (hS.sx [0, 1, 2] (rg 12)) rfl (vld 1 10 0) fun a hF => ?_
 refine atk 5 (some 37) hF (hS.sx [0, 1, 2] (rg 12)) rfl (vls 0 0 6) fun a hF => ?_
 refine ago 6 hF rfl ?_
 refine wo_callP hF hS (by kernel_rfl) (by kernel_rfl) (C_config_Plain N hS.fresh (T_api_Cmd.mk a9.Kind a9.DC a9.Shard a9.Node a9.Mode a9.Key)  ((hS.pick [] (by kernel_rfl)).ro) hx35) ?_
 rintro _ κ w a ⟨rfl, hR, hN⟩ hF hS hO
 refine ⟨fun _ => (hS.sx [0, 1, 2] (rg 12)), ?_⟩
 refine ago 7 hF rfl ?_
 refine wo_buildN (t := f_api_Cmd) (z := .agg (flat [si 0, si 0, si 0, si 0, si 0, sg ByteArray.empty]).toArray) (l := [(T_api_Cmd.mk x35.Kind x35.DC x35.Shard x35.Node x35.Mode x35.Key)]) (vs := [(0, .agg (flat [si x35.Kind, si x35.DC, si x35.Shard, si x35.Node, si x35.Mode, sg x35.Key]).toArray)]) (cells := #[vi x35.Kind, vi x35.DC, vi x35.Shard, vi x35.Node, vi x35.Mode, .string (x35.Key)]) (E := 72) hF hS (by kernel_rfl) rfl (by kernel_rfl) (by kernel_rfl) rfl (by kernel_rfl) (by kernel_rfl) (by kernel_rfl) (by kernel_rfl) (by kernel_rfl) fun p36 κ a w hF hS => ?_
 refine ⟨fun _ => (hS.sx [1, 2, 3] [1, 2, 3, 4, 5, 6, 7, 8, 9, 10, 11, 12]), ?_⟩
 refine ago 8 hF rfl ?_
 refine wo_append (ty := f_api_Cmd.ty) hF hS (by kernel_rfl) 4 7 0 rfl rfl rfl (by kernel_rfl) (by kernel_rfl) rfl rfl rfl hx37 (by kernel_rfl) (i := Try.t72) (z := .agg (flat [si 0, si 0, si 0, si 0, si 0, sg ByteArray.empty]).toArray) (by kernel_rfl) (by kernel_rfl) (by kernel_rfl) fun p38 c39 κ a w hF hS => ?_
 refine ⟨fun _ => (hS.sx [1, 2, 3] [2, 3, 4, 5, 6, 7, 8, 9, 10, 11, 12, 13]), ?_⟩
 refine anp [9, 10] [0, 40, 42] hF (hS.sx [1, 2, 3] [2, 3, 4, 5, 6, 7, 8, 9, 10, 11, 12, 13]) fun a hF => ?_
 refine ago 11 hF rfl ?_
 refine wst hF hS 2 10 1 [sl p38 (x37).length c39] (sgN 1 sgNil) fun a w hF hS => ?_
 refine ⟨notE, ?_⟩
 refine and_ ?_
 refine hK34 _ _ ?_
 refine wpIn_seq_k fun K40 hK40 => ?_
 refine wpIn_region_lit ?_
 refine wp 1 [0, 43] hF fun a hF => ?_
 refine bind_split H (fun x41 hx41 H => ?_)
 refine wc (wcS 3 [2, 4, 5, 0, 1, 3] hF hS (fun hS => C_warden_Warden_start N (T_warden_Warden.mk (T_config_State.mk a1.now.Pool a1.now.Nodes a1.now.Members a1.now.Maps a1.now.Modes) (T_config_State.mk v26.1 v26.2.1 v26.2.2.1 v26.2.2.2.1 v26.2.2.2.2.1) x37 a1.done a1.epoch a1.step_ a1.wait a1.mark_ a1.ready a1.out) cs2 cs23 p38 c39 p6 c7 b8 ⟨rfl, hS.pick [2, 3, 4, 11, 12, 13, 0, 9, 10] (by kernel_rfl)⟩ hx41) ?_)
 rintro _ κ w a ⟨cs42, cs43, p44, c45, p46, c47, rfl, h2⟩ hF hB
 have hS := hB _ _ h2
 refine wpListIn_nil ?_
 refine hK40 _ _ ?_
 refine wpIn_seq_k fun K48 hK48 => ?_
 refine rgS hS [] ?_
 have hS := hS.drew
 refine anp [0, 1, 2, 4, 5, 6] [47, 51] hF (hS.sx [0, 4, 5] (rg 23)) fun a hF => ?_
 refine atk 3 (some 48) hF (hS.sx [0, 4, 5] (rg 23)) rfl (vld 0 11 0) fun a hF => ?_
 refine atk 7 (some 52) hF (hS.sx [0, 4, 5] (rg 23)) rfl (vld 0 10 0) fun a hF => ?_
 refine anp [8, 9, 10, 11, 12] [4, 5] hF (hS.sx [0, 4, 5] (rg 23)) fun a hF => ?_
 refine and_ ?_
 refine hK48 _ _ ?_
 refine wpIn_ret ?_
 cases H
 exact ret_done hF hS (res2 Try.results65 (rvt hF) (rvt hF)) ⟨cs42, cs43, p44, c45, p46, c47, rfl, hS.sp [0, 1, 2] (rg 9)⟩
set_option maxRecDepth 20000 in
set_option maxHeartbeats 1000000 in
theorem C_warden_Warden_Take (N : Nat) {Ms : List Nat} {κ0 : Gh} {w0 : World} (a1 : T_warden_Warden) (a9 : Int) (a10 : T_api_Msg) (cs2 : List Value) (cs3 : List Value) (p4 : Option Addr) (c5 : Nat) (p6 : Option Addr) (c7 : Nat) (p11 : Option Addr) (c12 : Nat) (p13 : Option Addr) (c14 : Nat) (b8 : Nat) (hB : SB Ms κ0 w0 [.box b8 120 [si a1.now.Pool, si a1.now.Nodes, eb 4 a1.now.Members, (8, cs2), ei 21 a1.now.Modes, si a1.tail.Pool, si a1.tail.Nodes, eb 4 a1.tail.Members, (8, cs3), ei 21 a1.tail.Modes, sl p4 (a1.queue).length c5, si a1.done, si a1.epoch, si a1.step_, eb 4 a1.wait, su a1.mark_, sb a1.ready, sl p6 (a1.out).length c7], .tok p4 72 6 (a1.queue).length c5, .tok p6 106 15 (a1.out).length c7] [ml a1.now.Members 4, Arr.mp t_api_Map cs2 4 a1.now.Maps, ml a1.now.Modes 21, ml a1.tail.Members 4, Arr.mp t_api_Map cs3 4 a1.tail.Maps, ml a1.tail.Modes 21, Ro.mp f_api_Cmd.ty p4 c5 a1.queue, ml a1.wait 4, Ro.mp t_api_Mail p6 c7 a1.out, Ro.mp f_api_Ver.ty p11 c12 a10.Vers, Ro.mp (fInt .u64).ty p13 c14 a10.Vec]) {r : (T_warden_Warden)} (H : M.warden_Warden_Take N a1 a9 a10 = some r) :
    Calls Try.prog 68 #[pt b8 0, vi a9, .agg (flat [si a10.Kind, su a10.Id, su a10.N, su a10.TS, sg a10.Lo, sg a10.Hi, sl p11 (a10.Vers).length c12, sl p13 (a10.Vec).length c14, si a10.Cmd.Kind, si a10.Cmd.DC, si a10.Cmd.Shard, si a10.Cmd.Node, si a10.Cmd.Mode, sg a10.Cmd.Key]).toArray] w0 (Post Ms κ0 w0 fun v κ w => ∃ (cs76 cs77 : List Value) (p78 : Option Addr) (c79 : Nat) (p80 : Option Addr) (c81 : Nat), v = .tuple #[] ∧ SS Ms κ0 w0 κ w [.box b8 120 [si r.now.Pool, si r.now.Nodes, eb 4 r.now.Members, (8, cs76), ei 21 r.now.Modes, si r.tail.Pool, si r.tail.Nodes, eb 4 r.tail.Members, (8, cs77), ei 21 r.tail.Modes, sl p78 (r.queue).length c79, si r.done, si r.epoch, si r.step_, eb 4 r.wait, su r.mark_, sb r.ready, sl p80 (r.out).length c81], .tok p78 72 6 (r.queue).length c79, .tok p80 106 15 (r.out).length c81] [ml r.now.Members 4, Arr.mp t_api_Map cs76 4 r.now.Maps, ml r.now.Modes 21, ml r.tail.Members 4, Arr.mp t_api_Map cs77 4 r.tail.Maps, ml r.tail.Modes 21, Ro.mp f_api_Cmd.ty p78 c79 r.queue, ml r.wait 4, Ro.mp t_api_Mail p80 c81 r.out]) := by
 have hS := hB.hS
 have hfr := hS.fresh
 refine enter (N := (172)) (L := [(0, pt b8 0), (1, vi a9), (2, .agg (flat [si a10.Kind, su a10.Id, su a10.N, su a10.TS, sg a10.Lo, sg a10.Hi, sl p11 (a10.Vers).length c12, sl p13 (a10.Vec).length c14, si a10.Cmd.Kind, si a10.Cmd.DC, si a10.Cmd.Shard, si a10.Cmd.Node, si a10.Cmd.Mode, sg a10.Cmd.Key]).toArray)]) Try.func68 rfl Try.ntmps68 (show 3 ≤ (172) by decide) rfl fun a hF => ?_
 unfold M.warden_Warden_Take at H
 refine wpIn_seq_k fun K15 hK15 => ?_
 refine wpIn_region_lit ?_
 refine wc (wbx hF hS [si a10.Kind, su a10.Id, su a10.N, su a10.TS, sg a10.Lo, sg a10.Hi, sl p11 (a10.Vers).length c12, sl p13 (a10.Vec).length c14, si a10.Cmd.Kind, si a10.Cmd.DC, si a10.Cmd.Shard, si a10.Cmd.Node, si a10.Cmd.Mode, sg a10.Cmd.Key] (sgN 14 sgNil) fun b16 a w hF hS => ?_)
 refine wpListIn_nil ?_
 refine hK15 _ _ ?_
 refine wpIn_seq_k fun K17 hK17 => ?_
 refine wpIn_seq_k fun K18 hK18 => ?_
 refine bind_split H (fun v20 hv20 H => ?_)
 refine code_join (fun a w => ∃ κ : Gh, Fr (172) [] [(0, pt b8 0), (1, vi a9), (5, pt b16 0), (33, vb v20)] a ∧ SS Ms κ0 w0 κ w [.box b16 96 [si a10.Kind, su a10.Id, su a10.N, su a10.TS, sg a10.Lo, sg a10.Hi, sl p11 (a10.Vers).length c12, sl p13 (a10.Vec).length c14, si a10.Cmd.Kind, si a10.Cmd.DC, si a10.Cmd.Shard, si a10.Cmd.Node, si a10.Cmd.Mode, sg a10.Cmd.Key], .box b8 120 [si a1.now.Pool, si a1.now.Nodes, eb 4 a1.now.Members, (8, cs2), ei 21 a1.now.Modes, si a1.tail.Pool, si a1.tail.Nodes, eb 4 a1.tail.Members, (8, cs3), ei 21 a1.tail.Modes, sl p4 (a1.queue).length c5, si a1.done, si a1.epoch, si a1.step_, eb 4 a1.wait, su a1.mark_, sb a1.ready, sl p6 (a1.out).length c7], .tok p4 72 6 (a1.queue).length c5, .tok p6 106 15 (a1.out).length c7] [Ro.mp f_api_Ver.ty p11 c12 a10.Vers, Ro.mp (fInt .u64).ty p13 c14 a10.Vec, ml a1.now.Members 4, Arr.mp t_api_Map cs2 4 a1.now.Maps, ml a1.now.Modes 21, ml a1.tail.Members 4, Arr.mp t_api_Map cs3 4 a1.tail.Maps, ml a1.tail.Modes 21, Ro.mp f_api_Cmd.ty p4 c5 a1.queue, ml a1.wait 4, Ro.mp t_api_Mail p6 c7 a1.out] ∧ True) ?_ ?_
 refine rgS hS [] ?_
 have hS := hS.drew
 refine anp (rg 7) [0, 1, 5, 13] hF (hS.sx [0, 1] (rg 11)) fun a hF => ?_
 refine bif_split hv20 (fun hb hv20 => ?_) (fun hb hv20 => ?_)
 have hF := hF.boolv 13 (by kernel_rfl) hb
 refine anp [7, 8, 9, 10, 11, 12, 13, 14, 15, 16, 17, 18, 19, 20, 21, 22, 23, 24, 25, 26] [0, 1, 5, 33] hF (hS.sx [0, 1] (rg 11)) fun a hF => ?_
 refine and_ ?_
 cases hv20
 exact ⟨_, hF.kp [0, 1, 5, 33], hS.sp (rg 4) [9, 10, 0, 1, 2, 3, 4, 5, 6, 7, 8], trivial⟩
 have hF := hF.boolv 13 (by kernel_rfl) hb
 refine anp [7, 8, 9, 10] [0, 1, 5, 17] hF (hS.sx [0, 1] (rg 11)) fun a hF => ?_
 refine bif_split hv20 (fun hb hv20 => ?_) (fun hb hv20 => ?_)
 have hF := hF.boolv 17 (by kernel_rfl) hb
 refine anp [11, 12, 13, 14, 15, 16, 17, 18, 19, 20, 21, 22, 23, 24, 25, 26] [0, 1, 5, 33] hF (hS.sx [0, 1] (rg 11)) fun a hF => ?_
 refine and_ ?_
 cases hv20
 exact ⟨_, hF.kp [0, 1, 5, 33], hS.sp (rg 4) [9, 10, 0, 1, 2, 3, 4, 5, 6, 7, 8], trivial⟩
 have hF := hF.boolv 17 (by kernel_rfl) hb
 refine anp [11, 12, 13] [0, 1, 5, 17, 20] hF (hS.sx [0, 1] (rg 11)) fun a hF => ?_
 refine atk 14 (some 21) hF (hS.sx [0, 1] (rg 11)) rfl (vld 1 13 0) fun a hF => ?_
 refine anp [15, 16, 17] [0, 1, 5, 24] hF (hS.sx [0, 1] (rg 11)) fun a hF => ?_
 refine bif_split hv20 (fun hb hv20 => ?_) (fun hb hv20 => ?_)
 have hF := hF.boolv 24 (by kernel_rfl) hb
 refine anp [18, 19, 20, 21, 22, 23, 24, 25, 26] [0, 1, 5, 33] hF (hS.sx [0, 1] (rg 11)) fun a hF => ?_
 refine and_ ?_
 cases hv20
 exact ⟨_, hF.kp [0, 1, 5, 33], hS.sp (rg 4) [9, 10, 0, 1, 2, 3, 4, 5, 6, 7, 8], trivial⟩
 have hF := hF.boolv 24 (by kernel_rfl) hb
 refine anp [18, 20, 21, 22] [0, 1, 5, 24, 25, 29] hF (hS.sx [0, 1] (rg 11)) fun a hF => ?_
 refine atk 19 (some 26) hF (hS.sx [0, 1] (rg 11)) rfl (vld 0 1 0) fun a hF => ?_
 refine atk 23 (some 30) hF (hS.sx [0, 1] (rg 11)) rfl (vld 1 12 0) fun a hF => ?_
 refine anp [24, 25, 26] [0, 1, 5, 33] hF (hS.sx [0, 1] (rg 11)) fun a hF => ?_
 refine and_ ?_
 cases hv20
 exact ⟨_, hF.kp [0, 1, 5, 33], hS.sp (rg 4) [9, 10, 0, 1, 2, 3, 4, 5, 6, 7, 8], trivial⟩
 rintro a w ⟨κ, hF, hS, -⟩
 refine hK18 _ _ ?_
 refine bif_split H (fun hb H => ?_) (fun hb H => ?_)
 refine cond_t hF (by kernel_rfl) hb ?_
 refine wpIn_ret ?_
 cases H
 exact ret_done hF hS (res0 Try.results68 ) ⟨cs2, cs3, p4, c5, p6, c7, rfl, hS.sp [1, 2, 3] [2, 3, 4, 5, 6, 7, 8, 9, 10]⟩
 refine cond_f hF (by kernel_rfl) hb ?_
 refine wpIn_skip ?_
 refine hK17 _ _ ?_
 refine wpIn_seq_k fun K21 hK21 => ?_
 refine wpIn_region_lit ?_
 refine wl_pure (L' := [(0, pt b8 0), (1, vi a9), (5, pt b16 0), (36, pt b8 70)]) 3 [0, 1, 5, 36] hF (by kernel_rfl) fun a hF => ?_
 refine wc (wld hF hS 1 10 0 fun a hF => ?_)
 refine bind_split H (fun x22 hx22 H => ?_)
 refine wc (wo_index hF hS (by kernel_rfl) 8 (E := 72) (sz := 6) rfl rfl rfl (by kernel_rfl) rfl hx22 (by kernel_rfl) (by kernel_rfl) fun b23 f24 a hpx22 hF => ?_)
 refine wc (wo_loadRoAgg (t := f_api_Cmd) hF hS (by kernel_rfl) 8 rfl rfl hpx22 rfl hx22 (by kernel_rfl) (by kernel_rfl) (by kernel_rfl) fun a hF => ?_)
 refine wc (wal hF hS [si 0, si 0, si 0, si 0, si 0, sg ByteArray.empty] (sgN 6 sgNil) fun b25 a w hF hS => ?_)
 refine wc (wst hF hS 0 0 6 [si x22.Kind, si x22.DC, si x22.Shard, si x22.Node, si x22.Mode, sg x22.Key] (sgN 6 sgNil) fun a w hF hS => ?_)
 refine wpListIn_nil ?_
 refine hK21 _ _ ?_
 refine seq_join (fun a w => ∃ (κ : Gh) (y26 : Int) (y27 : List Bool) (y28 : Int) (y29 : Bool) (y30 : List T_api_Mail) (p31 : Option Addr) (c32 : Nat), Fr (172) [] [(0, pt b8 0)] a ∧ SS Ms κ0 w0 κ w [.box b8 120 [si a1.now.Pool, si a1.now.Nodes, eb 4 a1.now.Members, (8, cs2), ei 21 a1.now.Modes, si a1.tail.Pool, si a1.tail.Nodes, eb 4 a1.tail.Members, (8, cs3), ei 21 a1.tail.Modes, sl p4 (a1.queue).length c5, si a1.done, si a1.epoch, si y26, eb 4 y27, su y28, sb y29, sl p31 (y30).length c32], .tok p31 106 15 (y30).length c32, .tok p4 72 6 (a1.queue).length c5] [ml a1.now.Members 4, Arr.mp t_api_Map cs2 4 a1.now.Maps, ml a1.now.Modes 21, ml a1.tail.Members 4, Arr.mp t_api_Map cs3 4 a1.tail.Maps, ml a1.tail.Modes 21, Ro.mp f_api_Cmd.ty p4 c5 a1.queue, ml y27 4, Ro.mp t_api_Mail p31 c32 y30] ∧ M.warden_Warden_Take_k1 N a1 y26 y27 y28 y29 y30 = some r) ?_ ?_
 refine wpIn_block ?_
 refine wpIn_seq_k fun K44 hK44 => ?_
 refine wpIn_region_lit ?_
 refine bind_split H (fun v46 hv46 H => ?_)
 refine wl_join (fun a w => ∃ κ : Gh, Fr (172) [] [(0, pt b8 0), (1, vi a9), (5, pt b16 0), (6, pt b25 0), (40, vb v46)] a ∧ SS Ms κ0 w0 κ w [.box b25 72 [si x22.Kind, si x22.DC, si x22.Shard, si x22.Node, si x22.Mode, sg x22.Key], .box b16 96 [si a10.Kind, su a10.Id, su a10.N, su a10.TS, sg a10.Lo, sg a10.Hi, sl p11 (a10.Vers).length c12, sl p13 (a10.Vec).length c14, si a10.Cmd.Kind, si a10.Cmd.DC, si a10.Cmd.Shard, si a10.Cmd.Node, si a10.Cmd.Mode, sg a10.Cmd.Key], .box b8 120 [si a1.now.Pool, si a1.now.Nodes, eb 4 a1.now.Members, (8, cs2), ei 21 a1.now.Modes, si a1.tail.Pool, si a1.tail.Nodes, eb 4 a1.tail.Members, (8, cs3), ei 21 a1.tail.Modes, sl p4 (a1.queue).length c5, si a1.done, si a1.epoch, si a1.step_, eb 4 a1.wait, su a1.mark_, sb a1.ready, sl p6 (a1.out).length c7], .tok p4 72 6 (a1.queue).length c5, .tok p6 106 15 (a1.out).length c7] [Ro.mp f_api_Ver.ty p11 c12 a10.Vers, Ro.mp (fInt .u64).ty p13 c14 a10.Vec, ml a1.now.Members 4, Arr.mp t_api_Map cs2 4 a1.now.Maps, ml a1.now.Modes 21, ml a1.tail.Members 4, Arr.mp t_api_Map cs3 4 a1.tail.Maps, ml a1.tail.Modes 21, Ro.mp f_api_Cmd.ty p4 c5 a1.queue, ml a1.wait 4, Ro.mp t_api_Mail p6 c7 a1.out] ∧ True) ?_ ?_
 refine wp 1 [0, 1, 5, 6, 41] hF fun a hF => ?_
 refine wc (wld hF hS 1 0 0 fun a hF => ?_)
 refine wp 2 [0, 1, 5, 6, 44] hF fun a hF => ?_
 refine bif_split hv46 (fun hb hv46 => ?_) (fun hb hv46 => ?_)
 have hF := hF.boolv 44 (by kernel_rfl) hb
 refine wl_pure (L' := [(0, pt b8 0), (1, vi a9), (5, pt b16 0), (6, pt b25 0), (44, vb true), (46, vi a9), (48, pt b8 74)]) 4 [0, 1, 5, 6, 44, 46, 48] hF (by kernel_rfl) fun a hF => ?_
 refine bind_split hv46 (fun x47 hx47 hv46 => ?_)
 refine wcg hF (wo_indexArr hF (by kernel_rfl) (E := 4) (sz := 1) (n := 4) rfl rfl (i := a9) rfl (idx_lt hx47 (hS.get 9 rfl)) (by kernel_rfl) (by kernel_rfl) fun a hF => ?_)
 refine wcg hF (wo_loadA1 (t := fBool) hF hS (by kernel_rfl) 2 14 (v := vb x47) rfl rfl rfl rfl hx47 rfl rfl (by kernel_rfl) (by kernel_rfl) fun a hF => ?_)
 refine wp 2 [0, 1, 5, 6, 40] hF fun a hF => ?_
 refine wpListIn_nil ?_
 cases hv46
 exact ⟨_, hF.kp [0, 1, 5, 6, 40], hS.sp (rg 5) (rg 11), trivial⟩
 have hF := hF.boolv 44 (by kernel_rfl) hb
 refine wp 8 [0, 1, 5, 6, 40] hF fun a hF => ?_
 refine wpListIn_nil ?_
 cases hv46
 exact ⟨_, hF.kp [0, 1, 5, 6, 40], hS.sp (rg 5) (rg 11), trivial⟩
 rintro a w ⟨κ, hF, hS, -⟩
 refine hK44 _ _ ?_
 refine bif_split H (fun hb H => ?_) (fun hb H => ?_)
 refine cond_t hF (by kernel_rfl) hb ?_
 refine wpIn_seq_k fun K48 hK48 => ?_
 refine wpIn_region_lit ?_
 refine wl_pure (L' := [(0, pt b8 0), (5, pt b16 0), (6, pt b25 0), (53, vi a9), (55, pt b8 74)]) 4 [0, 5, 6, 53, 55] hF (by kernel_rfl) fun a hF => ?_
 refine bind_split H (fun x49 hx49 H => ?_)
 refine wc (wo_indexArr hF (by kernel_rfl) (E := 4) (sz := 1) (n := 4) rfl rfl (i := a9) rfl (idx_lt hx49 (hS.get 9 rfl)) (by kernel_rfl) (by kernel_rfl) fun a hF => ?_)
 refine wc (wo_storeA1 (t := fBool) (y := false) (v := vb false) hF hS (by kernel_rfl) 2 14 (s' := [si a1.now.Pool, si a1.now.Nodes, eb 4 a1.now.Members, (8, cs2), ei 21 a1.now.Modes, si a1.tail.Pool, si a1.tail.Nodes, eb 4 a1.tail.Members, (8, cs3), ei 21 a1.tail.Modes, sl p4 (a1.queue).length c5, si a1.done, si a1.epoch, si a1.step_, eb 4 (List.set a1.wait (Int.toNat a9) false), su a1.mark_, sb a1.ready, sl p6 (a1.out).length c7]) (C' := [.box b25 72 [si x22.Kind, si x22.DC, si x22.Shard, si x22.Node, si x22.Mode, sg x22.Key], .box b16 96 [si a10.Kind, su a10.Id, su a10.N, su a10.TS, sg a10.Lo, sg a10.Hi, sl p11 (a10.Vers).length c12, sl p13 (a10.Vec).length c14, si a10.Cmd.Kind, si a10.Cmd.DC, si a10.Cmd.Shard, si a10.Cmd.Node, si a10.Cmd.Mode, sg a10.Cmd.Key], .box b8 120 [si a1.now.Pool, si a1.now.Nodes, eb 4 a1.now.Members, (8, cs2), ei 21 a1.now.Modes, si a1.tail.Pool, si a1.tail.Nodes, eb 4 a1.tail.Members, (8, cs3), ei 21 a1.tail.Modes, sl p4 (a1.queue).length c5, si a1.done, si a1.epoch, si a1.step_, eb 4 (List.set a1.wait (Int.toNat a9) false), su a1.mark_, sb a1.ready, sl p6 (a1.out).length c7], .tok p4 72 6 (a1.queue).length c5, .tok p6 106 15 (a1.out).length c7]) rfl rfl (by kernel_rfl) rfl rfl hx49 rfl rfl (by kernel_rfl) (by kernel_rfl) (by kernel_rfl) (by kernel_rfl) fun a w hF hS => ?_)
 have hS := hS.add (m := ml (List.set a1.wait (Int.toNat a9) false) 4) (List.length_set.trans (hS.get 9 rfl))
 refine wpListIn_nil ?_
 refine hK48 _ _ ?_
 refine wpIn_seq_k fun K50 hK50 => ?_
 refine rgS hS [10] ?_
 have hS := hS.drew
 refine anp [0, 1, 2, 3, 5] [0, 6, 57, 60, 62] hF (hS.sx [0, 1, 2] (rg 12)) fun a hF => ?_
 refine atk 4 (some 61) hF (hS.sx [0, 1, 2] (rg 12)) rfl (vld 2 15 0) fun a hF => ?_
 refine atk 6 (some 63) hF (hS.sx [0, 1, 2] (rg 12)) rfl (vld 1 3 0) fun a hF => ?_
 refine anp [7, 8, 9] [0, 6, 64, 66] hF (hS.sx [0, 1, 2] (rg 12)) fun a hF => ?_
 refine ago 10 hF rfl ?_
 refine wst hF hS 2 15 1 [su (if a10.TS > a1.mark_ then a10.TS else a1.mark_)] (sgN 1 sgNil) fun a w hF hS => ?_
 refine ⟨notE, ?_⟩
 refine and_ ?_
 refine hK50 _ _ ?_
 refine wpIn_seq_k fun K51 hK51 => ?_
 refine wpIn_seq_k fun K52 hK52 => ?_
 refine wpIn_region_lit ?_
 refine wp 3 [0, 6, 69] hF fun a hF => ?_
 refine wc (wls hF hS 2 14 1 fun a hF => ?_)
 refine wl_pure (L' := [(0, pt b8 0), (6, pt b25 0), (70, .agg (flat [eb 4 (List.set a1.wait (Int.toNat a9) false)]).toArray), (71, .agg (flat [eb 4 (List.replicate 4 false)]).toArray)]) 1 [0, 6, 70, 71] hF (by kernel_rfl) fun a hF => ?_
 refine wc (wo_val hF (by kernel_rfl) (v := vb (!(cEq (flat [eb 4 (List.set a1.wait (Int.toNat a9) false)]) (flat [eb 4 (List.replicate 4 false)])))) ((val_eq (neg := true) (xs := (flat [eb 4 (List.set a1.wait (Int.toNat a9) false)])) (ys := (flat [eb 4 (List.replicate 4 false)])) (ks := [.bool, .bool, .bool, .bool]) 20 (by decide) rfl (by kernel_rfl) (by kernel_rfl) (by kernel_rfl) (by kernel_rfl) (typed_cons (typed_len (fun _ => rfl) (hS.get 0 rfl)) typed_nil) (typed_cons (typed_len (t := fBool) (k := .bool) (l := (List.replicate 4 false)) (n := 4) (fun _ => rfl) List.length_replicate) typed_nil) (by kernel_rfl)) _) fun a hF => ?_)
 refine wpListIn_nil ?_
 refine hK52 _ _ ?_
 refine bif_split H (fun hb H => ?_) (fun hb H => ?_)
 refine cond_t hF (by kernel_rfl) hb ?_
 refine wpIn_ret ?_
 cases H
 exact ret_done hF hS (res0 Try.results68 ) ⟨cs2, cs3, p4, c5, p6, c7, rfl, hS.sp [2, 3, 4] [3, 4, 5, 6, 7, 8, 9, 0, 11]⟩
 refine cond_f hF (by kernel_rfl) hb ?_
 refine wpIn_skip ?_
 refine hK51 _ _ ?_
 refine wpIn_seq_k fun K53 hK53 => ?_
 refine wpIn_seq_k fun K54 hK54 => ?_
 refine wpIn_region_lit ?_
 refine bind_split H (fun v56 hv56 H => ?_)
 refine wl_join (fun a w => ∃ κ : Gh, Fr (172) [] [(0, pt b8 0), (6, pt b25 0), (82, vb v56)] a ∧ SS Ms κ0 w0 κ w [.box b25 72 [si x22.Kind, si x22.DC, si x22.Shard, si x22.Node, si x22.Mode, sg x22.Key], .box b8 120 [si a1.now.Pool, si a1.now.Nodes, eb 4 a1.now.Members, (8, cs2), ei 21 a1.now.Modes, si a1.tail.Pool, si a1.tail.Nodes, eb 4 a1.tail.Members, (8, cs3), ei 21 a1.tail.Modes, sl p4 (a1.queue).length c5, si a1.done, si a1.epoch, si a1.step_, eb 4 (List.set a1.wait (Int.toNat a9) false), su (if a10.TS > a1.mark_ then a10.TS else a1.mark_), sb a1.ready, sl p6 (a1.out).length c7], .tok p4 72 6 (a1.queue).length c5, .tok p6 106 15 (a1.out).length c7] [ml a1.now.Members 4, Arr.mp t_api_Map cs2 4 a1.now.Maps, ml a1.now.Modes 21, ml a1.tail.Members 4, Arr.mp t_api_Map cs3 4 a1.tail.Maps, ml a1.tail.Modes 21, Ro.mp f_api_Cmd.ty p4 c5 a1.queue, ml (List.set a1.wait (Int.toNat a9) false) 4, Ro.mp t_api_Mail p6 c7 a1.out] ∧ True) ?_ ?_
 refine wp 3 [0, 6, 75] hF fun a hF => ?_
 refine wc (wld hF hS 2 13 0 fun a hF => ?_)
 refine wp 2 [0, 6, 78] hF fun a hF => ?_
 refine bif_split hv56 (fun hb hv56 => ?_) (fun hb hv56 => ?_)
 have hF := hF.boolv 78 (by kernel_rfl) hb
 refine wp 4 [0, 6, 82] hF fun a hF => ?_
 refine wpListIn_nil ?_
 cases hv56
 exact ⟨_, hF.kp [0, 6, 82], hS.sp [0, 2, 3, 4] [3, 4, 5, 6, 7, 8, 9, 0, 11], trivial⟩
 have hF := hF.boolv 78 (by kernel_rfl) hb
 refine wcg hF (wls hF hS 0 0 6 fun a hF => ?_)
 refine bind_split hv56 (fun x57 hx57 hv56 => ?_)
 refine wcg hF (wo_callP hF hS (by kernel_rfl) (by kernel_rfl) (C_warden_two N hS.fresh (T_api_Cmd.mk x22.Kind x22.DC x22.Shard x22.Node x22.Mode x22.Key)  ((hS.pick [] (by kernel_rfl)).ro) hx57) ?_)
 rintro _ κ w a ⟨rfl, hR, hN⟩ hF hS hO
 refine wp 2 [0, 6, 82] hF fun a hF => ?_
 refine wpListIn_nil ?_
 cases hv56
 exact ⟨_, hF.kp [0, 6, 82], hS.sp [0, 2, 3, 4] [3, 4, 5, 6, 7, 8, 9, 0, 11], trivial⟩
 rintro a w ⟨κ, hF, hS, -⟩
 refine hK54 _ _ ?_
 refine bif_split H (fun hb H => ?_) (fun hb H => ?_)
 refine cond_t hF (by kernel_rfl) hb ?_
 refine wpIn_seq_k fun K58 hK58 => ?_
 refine wpIn_region_lit ?_
 refine wp 1 [83] hF fun a hF => ?_
 refine bind_split H (fun x59 hx59 H => ?_)
 refine wc (wcS 3 [1, 2, 3, 0] hF hS (fun hS => C_warden_Warden_finish N (T_warden_Warden.mk (T_config_State.mk a1.now.Pool a1.now.Nodes a1.now.Members a1.now.Maps a1.now.Modes) (T_config_State.mk a1.tail.Pool a1.tail.Nodes a1.tail.Members a1.tail.Maps a1.tail.Modes) a1.queue a1.done a1.epoch a1.step_ (List.set a1.wait (Int.toNat a9) false) (if a10.TS > a1.mark_ then a10.TS else a1.mark_) a1.ready a1.out) cs2 cs3 p4 c5 p6 c7 b8 ⟨rfl, hS.pick (rg 9) (by kernel_rfl)⟩ hx59) ?_)
 rintro _ κ w a ⟨cs60, cs61, p62, c63, p64, c65, rfl, h2⟩ hF hB
 have hS := hB _ _ h2
 refine wpListIn_nil ?_
 refine hK58 _ _ ?_
 refine wpIn_ret ?_
 cases H
 exact ret_done hF hS (res0 Try.results68 ) ⟨cs60, cs61, p62, c63, p64, c65, rfl, hS.sp [0, 1, 2] (rg 9)⟩
 refine cond_f hF (by kernel_rfl) hb ?_
 refine wpIn_skip ?_
 refine hK53 _ _ ?_
 refine wpIn_seq_k fun K66 hK66 => ?_
 refine wpIn_region_lit ?_
 refine wp 3 [0, 6, 87] hF fun a hF => ?_
 refine wc (wst hF hS 1 13 1 [si 2] (sgN 1 sgNil) fun a w hF hS => ?_)
 refine wpListIn_nil ?_
 refine hK66 _ _ ?_
 refine wpIn_seq_k fun K67 hK67 => ?_
 refine wpIn_region_lit ?_
 refine wp 1 [0, 6, 88] hF fun a hF => ?_
 refine wc (wld hF hS 0 0 0 fun a hF => ?_)
 refine wp 1 [0, 6, 90] hF fun a hF => ?_
 refine wpListIn_nil ?_
 refine hK67 _ _ ?_
 refine bif_split H (fun hb H => ?_) (fun hb H => ?_)
 refine cond_t hF (by kernel_rfl) hb ?_
 refine rgS hS [23] ?_
 have hS := hS.drew
 refine bind_split H (fun x68 hx68 H => ?_)
 refine bind_split H (fun x70 hx70 H => ?_)
 refine anp [0, 1, 2, 3, 5, 8, 9, 10, 13, 14, 15] [0, 91, 94, 96, 101, 106] hF (hS.sx [0, 1] (rg 9)) fun a hF => ?_
 refine atk 4 (some 95) hF (hS.sx [0, 1] (rg 9)) rfl (vld 1 17 0) fun a hF => ?_
 refine atk 6 (some 97) hF (hS.sx [0, 1] (rg 9)) rfl (vld 0 1 0) fun a hF => ?_
 refine atk 11 (some 102) hF (hS.sx [0, 1] (rg 9)) rfl (vld 1 12 0) fun a hF => ?_
 refine anp [12] [0, 91, 95, 97, 103, 106] hF (hS.sx [0, 1] (rg 9)) fun a hF => ?_
 refine atk 16 (some 107) hF (hS.sx [0, 1] (rg 9)) rfl (vld 1 15 0) fun a hF => ?_
 refine anp [17] [0, 91, 95, 97, 108] hF (hS.sx [0, 1] (rg 9)) fun a hF => ?_
 refine ago 7 hF rfl ?_
 refine wo_callP hF hS (by kernel_rfl) (by kernel_rfl) (C_api_Place N hS.fresh x22.DC (-1)  ((hS.pick [] (by kernel_rfl)).ro) hx68) ?_
 rintro _ κ w a ⟨rfl, hR, hN⟩ hF hS hO
 refine ⟨fun _ => (hS.sx [0, 1] (rg 9)), ?_⟩
 refine any_pure [18] [0, 91, 95, 109] (L' := [(0, pt b8 0), (91, pt b8 0), (95, .slice p6 (a1.out).length c7), (109, .agg (flat [si x68, si 22, su (IntKind.u64.wrap a1.epoch), su 0, su (if a10.TS > a1.mark_ then a10.TS else a1.mark_), sg ByteArray.empty, sg ByteArray.empty, sl none 0 0, sl none 0 0, si 0, si 0, si 0, si 0, si 0, sg ByteArray.empty]).toArray)]) (listed' := (bitA 24 524287)) (fuel := 5) hF (hS.sx [0, 1] (rg 9)) (by kernel_rfl) (by intro c a w t v h; cases t <;> exact h) (by kernel_rfl) rfl fun a hF => ?_
 refine ago 19 hF rfl ?_
 have hS := hS.add (m := Ro.mp f_api_Ver.ty none 0 ([] : List T_api_Ver)) (Ro.nil f_api_Ver.ty _ _)
 have hS := hS.add (m := Ro.mp (fInt .u64).ty none 0 ([] : List Int)) (Ro.nil (fInt .u64).ty _ _)
 refine wo_build1 (t := t_api_Mail) (y := (T_api_Mail.mk x68 (T_api_Msg.mk 22 (IntKind.u64.wrap a1.epoch) 0 (if a10.TS > a1.mark_ then a10.TS else a1.mark_) ByteArray.empty ByteArray.empty ([] : List T_api_Ver) ([] : List Int) (T_api_Cmd.mk 0 0 0 0 0 ByteArray.empty)))) (v := .agg (flat [si x68, si 22, su (IntKind.u64.wrap a1.epoch), su 0, su (if a10.TS > a1.mark_ then a10.TS else a1.mark_), sg ByteArray.empty, sg ByteArray.empty, sl none 0 0, sl none 0 0, si 0, si 0, si 0, si 0, si 0, sg ByteArray.empty]).toArray) (z := .agg (flat [si 0, si 0, su 0, su 0, su 0, sg ByteArray.empty, sg ByteArray.empty, sl none 0 0, sl none 0 0, si 0, si 0, si 0, si 0, si 0, sg ByteArray.empty]).toArray) (cells := (flat [si x68, si 22, su (IntKind.u64.wrap a1.epoch), su 0, su (if a10.TS > a1.mark_ then a10.TS else a1.mark_), sg ByteArray.empty, sg ByteArray.empty, sl none 0 0, sl none 0 0, si 0, si 0, si 0, si 0, si 0, sg ByteArray.empty]).toArray) (E := 106) hF hS (by kernel_rfl) rfl (by kernel_rfl) ⟨(none, 0, none, 0), rfl, (hS.pick [1, 0] (by kernel_rfl)).ro⟩ (by kernel_rfl) (by kernel_rfl) (by kernel_rfl) (by kernel_rfl) (by kernel_rfl) fun p69 κ a w hF hS => ?_
 refine ⟨fun _ => (hS.sx [1, 2] [3, 4, 5, 6, 7, 8, 9, 10, 11]), ?_⟩
 refine ago 20 hF rfl ?_
 refine wo_append (ty := t_api_Mail) hF hS (by kernel_rfl) 4 11 0 rfl rfl rfl (by kernel_rfl) (by kernel_rfl) rfl rfl rfl hx70 (by kernel_rfl) (i := Try.t106) (z := .agg (flat [si 0, si 0, su 0, su 0, su 0, sg ByteArray.empty, sg ByteArray.empty, sl none 0 0, sl none 0 0, si 0, si 0, si 0, si 0, si 0, sg ByteArray.empty]).toArray) (by kernel_rfl) (by kernel_rfl) (by kernel_rfl) fun p71 c72 κ a w hF hS => ?_
 refine ⟨fun _ => (hS.sx [1, 2] [4, 5, 6, 7, 8, 9, 10, 11, 12]), ?_⟩
 refine anp [21, 22] [0, 111, 113] hF (hS.sx [1, 2] [4, 5, 6, 7, 8, 9, 10, 11, 12]) fun a hF => ?_
 refine ago 23 hF rfl ?_
 refine wst hF hS 2 17 1 [sl p71 (x70).length c72] (sgN 1 sgNil) fun a w hF hS => ?_
 refine ⟨notE, ?_⟩
 refine and_ ?_
 exact ⟨_, 2, (List.set a1.wait (Int.toNat a9) false), (if a10.TS > a1.mark_ then a10.TS else a1.mark_), a1.ready, x70, p71, c72, hF.kp [0], hS.sp [2, 4, 3] [4, 5, 6, 7, 8, 9, 10, 11, 0], H⟩
 refine cond_f hF (by kernel_rfl) hb ?_
 refine wpIn_skip ?_
 exact ⟨_, 2, (List.set a1.wait (Int.toNat a9) false), (if a10.TS > a1.mark_ then a10.TS else a1.mark_), a1.ready, a1.out, p6, c7, hF.kp [0], hS.sp [1, 3, 2] (rg 9), H⟩
 refine cond_f hF (by kernel_rfl) hb ?_
 refine wpIn_seq_k fun K73 hK73 => ?_
 refine wpIn_region_lit ?_
 refine bind_split H (fun v75 hv75 H => ?_)
 refine wl_join (fun a w => ∃ κ : Gh, Fr (172) [] [(0, pt b8 0), (114, vb v75)] a ∧ SS Ms κ0 w0 κ w [.box b8 120 [si a1.now.Pool, si a1.now.Nodes, eb 4 a1.now.Members, (8, cs2), ei 21 a1.now.Modes, si a1.tail.Pool, si a1.tail.Nodes, eb 4 a1.tail.Members, (8, cs3), ei 21 a1.tail.Modes, sl p4 (a1.queue).length c5, si a1.done, si a1.epoch, si a1.step_, eb 4 a1.wait, su a1.mark_, sb a1.ready, sl p6 (a1.out).length c7], .tok p4 72 6 (a1.queue).length c5, .tok p6 106 15 (a1.out).length c7] [ml a1.now.Members 4, Arr.mp t_api_Map cs2 4 a1.now.Maps, ml a1.now.Modes 21, ml a1.tail.Members 4, Arr.mp t_api_Map cs3 4 a1.tail.Maps, ml a1.tail.Modes 21, Ro.mp f_api_Cmd.ty p4 c5 a1.queue, ml a1.wait 4, Ro.mp t_api_Mail p6 c7 a1.out] ∧ True) ?_ ?_
 refine wp 2 [0, 5, 6, 115, 116] hF fun a hF => ?_
 refine wc (wld hF hS 0 1 0 fun a hF => ?_)
 refine wp 2 [0, 5, 6, 119] hF fun a hF => ?_
 refine bif_split hv75 (fun hb hv75 => ?_) (fun hb hv75 => ?_)
 have hF := hF.boolv 119 (by kernel_rfl) hb
 refine wp 3 [0, 5, 6, 119, 122] hF fun a hF => ?_
 refine wcg hF (wld hF hS 2 13 0 fun a hF => ?_)
 refine wp 2 [0, 5, 6, 119, 125] hF fun a hF => ?_
 refine bif_split hv75 (fun hb hv75 => ?_) (fun hb hv75 => ?_)
 have hF := hF.boolv 125 (by kernel_rfl) hb
 refine wp 1 [0, 5, 6, 119, 125, 126] hF fun a hF => ?_
 refine wcg hF (wld hF hS 1 0 0 fun a hF => ?_)
 refine wp 3 [0, 5, 6, 119, 130] hF fun a hF => ?_
 refine bif_split hv75 (fun hb hv75 => ?_) (fun hb hv75 => ?_)
 have hF := hF.boolv 130 (by kernel_rfl) hb
 refine wp 1 [0, 5, 6, 119, 130, 131] hF fun a hF => ?_
 refine wcg hF (wld hF hS 0 0 0 fun a hF => ?_)
 refine wp 3 [0, 5, 6, 119, 135] hF fun a hF => ?_
 refine bif_split hv75 (fun hb hv75 => ?_) (fun hb hv75 => ?_)
 have hF := hF.boolv 135 (by kernel_rfl) hb
 refine wp 18 [0, 114] hF fun a hF => ?_
 refine wpListIn_nil ?_
 cases hv75
 exact ⟨_, hF.kp [0, 114], hS.sp [2, 3, 4] [2, 3, 4, 5, 6, 7, 8, 9, 10], trivial⟩
 have hF := hF.boolv 135 (by kernel_rfl) hb
 refine wp 3 [0, 5, 6, 119, 135, 138] hF fun a hF => ?_
 refine wcg hF (wld hF hS 2 13 0 fun a hF => ?_)
 refine wp 2 [0, 5, 6, 119, 135, 141] hF fun a hF => ?_
 refine bif_split hv75 (fun hb hv75 => ?_) (fun hb hv75 => ?_)
 have hF := hF.boolv 141 (by kernel_rfl) hb
 refine wp 1 [0, 6, 119, 135, 141, 142] hF fun a hF => ?_
 refine wcg hF (wld hF hS 1 0 0 fun a hF => ?_)
 refine wp 3 [0, 6, 119, 135, 146] hF fun a hF => ?_
 refine bif_split hv75 (fun hb hv75 => ?_) (fun hb hv75 => ?_)
 have hF := hF.boolv 146 (by kernel_rfl) hb
 refine wp 1 [0, 119, 135, 146, 147] hF fun a hF => ?_
 refine wcg hF (wld hF hS 0 0 0 fun a hF => ?_)
 refine wp 5 [0, 114] hF fun a hF => ?_
 refine wpListIn_nil ?_
 cases hv75
 exact ⟨_, hF.kp [0, 114], hS.sp [2, 3, 4] [2, 3, 4, 5, 6, 7, 8, 9, 10], trivial⟩
 have hF := hF.boolv 146 (by kernel_rfl) hb
 refine wp 7 [0, 114] hF fun a hF => ?_
 refine wpListIn_nil ?_
 cases hv75
 exact ⟨_, hF.kp [0, 114], hS.sp [2, 3, 4] [2, 3, 4, 5, 6, 7, 8, 9, 10], trivial⟩
 have hF := hF.boolv 141 (by kernel_rfl) hb
 refine wp 12 [0, 114] hF fun a hF => ?_
 refine wpListIn_nil ?_
 cases hv75
 exact ⟨_, hF.kp [0, 114], hS.sp [2, 3, 4] [2, 3, 4, 5, 6, 7, 8, 9, 10], trivial⟩
 have hF := hF.boolv 130 (by kernel_rfl) hb
 refine wp 8 [0, 5, 6, 119, 135, 138] hF fun a hF => ?_
 refine wcg hF (wld hF hS 2 13 0 fun a hF => ?_)
 refine wp 2 [0, 5, 6, 119, 135, 141] hF fun a hF => ?_
 refine bif_split hv75 (fun hb hv75 => ?_) (fun hb hv75 => ?_)
 have hF := hF.boolv 141 (by kernel_rfl) hb
 refine wp 1 [0, 6, 119, 135, 141, 142] hF fun a hF => ?_
 refine wcg hF (wld hF hS 1 0 0 fun a hF => ?_)
 refine wp 3 [0, 6, 119, 135, 146] hF fun a hF => ?_
 refine bif_split hv75 (fun hb hv75 => ?_) (fun hb hv75 => ?_)
 have hF := hF.boolv 146 (by kernel_rfl) hb
 refine wp 1 [0, 119, 135, 146, 147] hF fun a hF => ?_
 refine wcg hF (wld hF hS 0 0 0 fun a hF => ?_)
 refine wp 5 [0, 114] hF fun a hF => ?_
 refine wpListIn_nil ?_
 cases hv75
 exact ⟨_, hF.kp [0, 114], hS.sp [2, 3, 4] [2, 3, 4, 5, 6, 7, 8, 9, 10], trivial⟩
 have hF := hF.boolv 146 (by kernel_rfl) hb
 refine wp 7 [0, 114] hF fun a hF => ?_
 refine wpListIn_nil ?_
 cases hv75
 exact ⟨_, hF.kp [0, 114], hS.sp [2, 3, 4] [2, 3, 4, 5, 6, 7, 8, 9, 10], trivial⟩
 have hF := hF.boolv 141 (by kernel_rfl) hb
 refine wp 12 [0, 114] hF fun a hF => ?_
 refine wpListIn_nil ?_
 cases hv75
 exact ⟨_, hF.kp [0, 114], hS.sp [2, 3, 4] [2, 3, 4, 5, 6, 7, 8, 9, 10], trivial⟩
 have hF := hF.boolv 125 (by kernel_rfl) hb
 refine wp 13 [0, 5, 6, 119, 135, 138] hF fun a hF => ?_
 refine wcg hF (wld hF hS 2 13 0 fun a hF => ?_)
 refine wp 2 [0, 5, 6, 119, 135, 141] hF fun a hF => ?_
 refine bif_split hv75 (fun hb hv75 => ?_) (fun hb hv75 => ?_)
 have hF := hF.boolv 141 (by kernel_rfl) hb
 refine wp 1 [0, 6, 119, 135, 141, 142] hF fun a hF => ?_
 refine wcg hF (wld hF hS 1 0 0 fun a hF => ?_)
 refine wp 3 [0, 6, 119, 135, 146] hF fun a hF => ?_
 refine bif_split hv75 (fun hb hv75 => ?_) (fun hb hv75 => ?_)
 have hF := hF.boolv 146 (by kernel_rfl) hb
 refine wp 1 [0, 119, 135, 146, 147] hF fun a hF => ?_
 refine wcg hF (wld hF hS 0 0 0 fun a hF => ?_)
 refine wp 5 [0, 114] hF fun a hF => ?_
 refine wpListIn_nil ?_
 cases hv75
 exact ⟨_, hF.kp [0, 114], hS.sp [2, 3, 4] [2, 3, 4, 5, 6, 7, 8, 9, 10], trivial⟩
 have hF := hF.boolv 146 (by kernel_rfl) hb
 refine wp 7 [0, 114] hF fun a hF => ?_
 refine wpListIn_nil ?_
 cases hv75
 exact ⟨_, hF.kp [0, 114], hS.sp [2, 3, 4] [2, 3, 4, 5, 6, 7, 8, 9, 10], trivial⟩
 have hF := hF.boolv 141 (by kernel_rfl) hb
 refine wp 12 [0, 114] hF fun a hF => ?_
 refine wpListIn_nil ?_
 cases hv75
 exact ⟨_, hF.kp [0, 114], hS.sp [2, 3, 4] [2, 3, 4, 5, 6, 7, 8, 9, 10], trivial⟩
 have hF := hF.boolv 119 (by kernel_rfl) hb
 refine wp 34 [0, 114] hF fun a hF => ?_
 refine wpListIn_nil ?_
 cases hv75
 exact ⟨_, hF.kp [0, 114], hS.sp [2, 3, 4] [2, 3, 4, 5, 6, 7, 8, 9, 10], trivial⟩
 rintro a w ⟨κ, hF, hS, -⟩
 refine hK73 _ _ ?_
 refine bif_split H (fun hb H => ?_) (fun hb H => ?_)
 refine cond_t hF (by kernel_rfl) hb ?_
 refine wpIn_region_lit ?_
 refine wp 3 [0, 155] hF fun a hF => ?_
 refine wc (wst hF hS 0 16 1 [sb true] (sgN 1 sgNil) fun a w hF hS => ?_)
 refine wpListIn_nil ?_
 exact ⟨_, a1.step_, a1.wait, a1.mark_, true, a1.out, p6, c7, hF.kp [0], hS.sp [0, 2, 1] (rg 9), H⟩
 refine cond_f hF (by kernel_rfl) hb ?_
 refine wpIn_skip ?_
 exact ⟨_, a1.step_, a1.wait, a1.mark_, a1.ready, a1.out, p6, c7, hF.kp [0], hS.sp [0, 2, 1] (rg 9), H⟩
 rintro a w ⟨κ, y26, y27, y28, y29, y30, p31, c32, hF, hS, H⟩
 unfold M.warden_Warden_Take_k1 at H
 refine wpIn_seq_k fun K33 hK33 => ?_
 refine wpIn_region_lit ?_
 refine bind_split H (fun v35 hv35 H => ?_)
 refine wl_join (fun a w => ∃ κ : Gh, Fr (172) [] [(0, pt b8 0), (166, vb v35)] a ∧ SS Ms κ0 w0 κ w [.box b8 120 [si a1.now.Pool, si a1.now.Nodes, eb 4 a1.now.Members, (8, cs2), ei 21 a1.now.Modes, si a1.tail.Pool, si a1.tail.Nodes, eb 4 a1.tail.Members, (8, cs3), ei 21 a1.tail.Modes, sl p4 (a1.queue).length c5, si a1.done, si a1.epoch, si y26, eb 4 y27, su y28, sb y29, sl p31 (y30).length c32], .tok p31 106 15 (y30).length c32, .tok p4 72 6 (a1.queue).length c5] [ml a1.now.Members 4, Arr.mp t_api_Map cs2 4 a1.now.Maps, ml a1.now.Modes 21, ml a1.tail.Members 4, Arr.mp t_api_Map cs3 4 a1.tail.Maps, ml a1.tail.Modes 21, Ro.mp f_api_Cmd.ty p4 c5 a1.queue, ml y27 4, Ro.mp t_api_Mail p31 c32 y30] ∧ True) ?_ ?_
 refine wp 3 [0, 158] hF fun a hF => ?_
 refine wc (wld hF hS 0 13 0 fun a hF => ?_)
 refine wp 2 [0, 161] hF fun a hF => ?_
 refine bif_split hv35 (fun hb hv35 => ?_) (fun hb hv35 => ?_)
 have hF := hF.boolv 161 (by kernel_rfl) hb
 refine wp 3 [0, 161, 164] hF fun a hF => ?_
 refine wcg hF (wld hF hS 0 16 0 fun a hF => ?_)
 refine wp 1 [0, 166] hF fun a hF => ?_
 refine wpListIn_nil ?_
 cases hv35
 exact ⟨_, hF.kp [0, 166], hS.sp [0, 1, 2] (rg 9), trivial⟩
 have hF := hF.boolv 161 (by kernel_rfl) hb
 refine wp 5 [0, 166] hF fun a hF => ?_
 refine wpListIn_nil ?_
 cases hv35
 exact ⟨_, hF.kp [0, 166], hS.sp [0, 1, 2] (rg 9), trivial⟩
 rintro a w ⟨κ, hF, hS, -⟩
 refine hK33 _ _ ?_
 refine bif_split H (fun hb H => ?_) (fun hb H => ?_)
 refine cond_t hF (by kernel_rfl) hb ?_
 refine wpIn_seq_k fun K36 hK36 => ?_
 refine wpIn_region_lit ?_
 refine wp 3 [0, 169] hF fun a hF => ?_
 refine wc (wst hF hS 0 13 1 [si 3] (sgN 1 sgNil) fun a w hF hS => ?_)
 refine wpListIn_nil ?_
 refine hK36 _ _ ?_
 refine wpIn_region_lit ?_
 refine wp 1 [170] hF fun a hF => ?_
 refine bind_split H (fun x37 hx37 H => ?_)
 refine wc (wcS 3 [0, 2, 1] hF hS (fun hS => C_warden_Warden_send N (T_warden_Warden.mk (T_config_State.mk a1.now.Pool a1.now.Nodes a1.now.Members a1.now.Maps a1.now.Modes) (T_config_State.mk a1.tail.Pool a1.tail.Nodes a1.tail.Members a1.tail.Maps a1.tail.Modes) a1.queue a1.done a1.epoch 3 y27 y28 y29 y30) cs2 cs3 p4 c5 p31 c32 b8 ⟨rfl, hS.pick (rg 9) (by kernel_rfl)⟩ hx37) ?_)
 rintro _ κ w a ⟨cs38, cs39, p40, c41, p42, c43, rfl, h2⟩ hF hB
 have hS := hB _ _ h2
 refine wpListIn_nil ?_
 cases H
 exact ret_done hF hS (res0 Try.results68 ) ⟨cs38, cs39, p40, c41, p42, c43, rfl, hS.sp [0, 1, 2] (rg 9)⟩
 refine cond_f hF (by kernel_rfl) hb ?_
 refine wpIn_skip ?_
 cases H
 exact ret_done hF hS (res0 Try.results68 ) ⟨cs2, cs3, p4, c5, p31, c32, rfl, hS.sp [0, 2, 1] (rg 9)⟩
set_option maxRecDepth 20000 in
set_option maxHeartbeats 1000000 in
theorem C_warden_Warden_Out (N : Nat) {Ms : List Nat} {κ0 : Gh} {w0 : World} (a1 : T_warden_Warden) (cs2 : List Value) (cs3 : List Value) (p4 : Option Addr) (c5 : Nat) (p6 : Option Addr) (c7 : Nat) (b8 : Nat) (hB : SB Ms κ0 w0 [.box b8 120 [si a1.now.Pool, si a1.now.Nodes, eb 4 a1.now.Members, (8, cs2), ei 21 a1.now.Modes, si a1.tail.Pool, si a1.tail.Nodes, eb 4 a1.tail.Members, (8, cs3), ei 21 a1.tail.Modes, sl p4 (a1.queue).length c5, si a1.done, si a1.epoch, si a1.step_, eb 4 a1.wait, su a1.mark_, sb a1.ready, sl p6 (a1.out).length c7], .tok p4 72 6 (a1.queue).length c5, .tok p6 106 15 (a1.out).length c7] [ml a1.now.Members 4, Arr.mp t_api_Map cs2 4 a1.now.Maps, ml a1.now.Modes 21, ml a1.tail.Members 4, Arr.mp t_api_Map cs3 4 a1.tail.Maps, ml a1.tail.Modes 21, Ro.mp f_api_Cmd.ty p4 c5 a1.queue, ml a1.wait 4, Ro.mp t_api_Mail p6 c7 a1.out]) {r : ((List T_api_Mail) × T_warden_Warden)} (H : M.warden_Warden_Out N a1 = some r) :
    Calls Try.prog 67 #[pt b8 0] w0 (Post Ms κ0 w0 fun v κ w => ∃ (p15 : Option Addr) (c16 : Nat) (cs17 cs18 : List Value) (p19 : Option Addr) (c20 : Nat) (p21 : Option Addr) (c22 : Nat), v = .slice p15 (r.1).length c16 ∧ SS Ms κ0 w0 κ w [.box b8 120 [si r.2.now.Pool, si r.2.now.Nodes, eb 4 r.2.now.Members, (8, cs17), ei 21 r.2.now.Modes, si r.2.tail.Pool, si r.2.tail.Nodes, eb 4 r.2.tail.Members, (8, cs18), ei 21 r.2.tail.Modes, sl p19 (r.2.queue).length c20, si r.2.done, si r.2.epoch, si r.2.step_, eb 4 r.2.wait, su r.2.mark_, sb r.2.ready, sl p21 (r.2.out).length c22], .tok p19 72 6 (r.2.queue).length c20, .tok p21 106 15 (r.2.out).length c22, .tok p15 106 15 (r.1).length c16] [Ro.mp t_api_Mail p15 c16 r.1, ml r.2.now.Members 4, Arr.mp t_api_Map cs17 4 r.2.now.Maps, ml r.2.now.Modes 21, ml r.2.tail.Members 4, Arr.mp t_api_Map cs18 4 r.2.tail.Maps, ml r.2.tail.Modes 21, Ro.mp f_api_Cmd.ty p19 c20 r.2.queue, ml r.2.wait 4, Ro.mp t_api_Mail p21 c22 r.2.out]) := by
 have hS := hB.hS
 have hfr := hS.fresh
 refine enter (N := (14)) (L := [(0, pt b8 0)]) Try.func67 rfl Try.ntmps67 (show 1 ≤ (14) by decide) rfl fun a hF => ?_
 unfold M.warden_Warden_Out at H
 refine wpIn_seq_k fun K9 hK9 => ?_
 refine wpIn_region_lit ?_
 refine wp 1 [0] hF fun a hF => ?_
 refine wpListIn_nil ?_
 refine hK9 _ _ ?_
 refine wpIn_seq_k fun K10 hK10 => ?_
 refine wpIn_seq_k fun K11 hK11 => ?_
 refine wpIn_region_lit ?_
 refine wp 2 [0, 5] hF fun a hF => ?_
 refine wpListIn_nil ?_
 refine hK11 _ _ ?_
 refine cond_f hF (by kernel_rfl) rfl ?_
 refine wpIn_skip ?_
 refine hK10 _ _ ?_
 refine wpIn_seq_k fun K12 hK12 => ?_
 refine wpIn_region_lit ?_
 refine wp 3 [0, 8] hF fun a hF => ?_
 refine wc (wld hF hS 0 17 0 fun a hF => ?_)
 refine wp 1 [0, 3] hF fun a hF => ?_
 refine wpListIn_nil ?_
 refine hK12 _ _ ?_
 refine wpIn_seq_k fun K13 hK13 => ?_
 refine wpIn_region_lit ?_
 refine wp 3 [3, 12] hF fun a hF => ?_
 refine wc (wst hF hS 0 17 1 [sl none 0 0] (sgN 1 sgNil) fun a w hF hS => ?_)
 refine wpListIn_nil ?_
 refine hK13 _ _ ?_
 refine wpIn_seq_k fun K14 hK14 => ?_
 refine wpIn_region_lit ?_
 refine wp 2 [2] hF fun a hF => ?_
 refine wpListIn_nil ?_
 refine hK14 _ _ ?_
 refine wpIn_ret ?_
 have hS := hS.add (m := Ro.mp t_api_Mail none 0 ([] : List T_api_Mail)) (Ro.nil t_api_Mail _ _)
 have hS := hS.addNil 106 15
 cases H
 exact ret_done hF hS (res1 Try.results67 (rvt hF)) ⟨p6, c7, cs2, cs3, p4, c5, none, 0, rfl, hS.sp [1, 2, 0, 3] [9, 1, 2, 3, 4, 5, 6, 7, 8, 0]⟩
set_option maxRecDepth 20000 in
set_option maxHeartbeats 1000000 in
theorem C_warden_Warden_Acked (N : Nat) {Ms : List Nat} {κ0 : Gh} {w0 : World} (a1 : T_warden_Warden) (cs2 : List Value) (cs3 : List Value) (p4 : Option Addr) (c5 : Nat) (p6 : Option Addr) (c7 : Nat) (b8 : Nat) (hB : SB Ms κ0 w0 [.box b8 120 [si a1.now.Pool, si a1.now.Nodes, eb 4 a1.now.Members, (8, cs2), ei 21 a1.now.Modes, si a1.tail.Pool, si a1.tail.Nodes, eb 4 a1.tail.Members, (8, cs3), ei 21 a1.tail.Modes, sl p4 (a1.queue).length c5, si a1.done, si a1.epoch, si a1.step_, eb 4 a1.wait, su a1.mark_, sb a1.ready, sl p6 (a1.out).length c7]] [ml a1.now.Members 4, Arr.mp t_api_Map cs2 4 a1.now.Maps, ml a1.now.Modes 21, ml a1.tail.Members 4, Arr.mp t_api_Map cs3 4 a1.tail.Maps, ml a1.tail.Modes 21, Ro.mp f_api_Cmd.ty p4 c5 a1.queue, ml a1.wait 4, Ro.mp t_api_Mail p6 c7 a1.out]) {r : (Int)} (H : M.warden_Warden_Acked N a1 = some r) :
    Calls Try.prog 69 #[pt b8 0] w0 (Post Ms κ0 w0 fun v κ w => v = vi r ∧ SS Ms κ0 w0 κ w [.box b8 120 [si a1.now.Pool, si a1.now.Nodes, eb 4 a1.now.Members, (8, cs2), ei 21 a1.now.Modes, si a1.tail.Pool, si a1.tail.Nodes, eb 4 a1.tail.Members, (8, cs3), ei 21 a1.tail.Modes, sl p4 (a1.queue).length c5, si a1.done, si a1.epoch, si a1.step_, eb 4 a1.wait, su a1.mark_, sb a1.ready, sl p6 (a1.out).length c7]] []) := by
 have hS := hB.hS
 have hfr := hS.fresh
 refine enter (N := (9)) (L := [(0, pt b8 0)]) Try.func69 rfl Try.ntmps69 (show 1 ≤ (9) by decide) rfl fun a hF => ?_
 unfold M.warden_Warden_Acked at H
 refine wpIn_seq_k fun K9 hK9 => ?_
 refine wpIn_region_lit ?_
 refine wp 1 [0] hF fun a hF => ?_
 refine wpListIn_nil ?_
 refine hK9 _ _ ?_
 refine wpIn_seq_k fun K10 hK10 => ?_
 refine wpIn_seq_k fun K11 hK11 => ?_
 refine wpIn_region_lit ?_
 refine wp 2 [0, 4] hF fun a hF => ?_
 refine wpListIn_nil ?_
 refine hK11 _ _ ?_
 refine cond_f hF (by kernel_rfl) rfl ?_
 refine wpIn_skip ?_
 refine hK10 _ _ ?_
 refine wpIn_seq_k fun K12 hK12 => ?_
 refine wpIn_region_lit ?_
 refine wp 3 [7] hF fun a hF => ?_
 refine wc (wld hF hS 0 11 0 fun a hF => ?_)
 refine wp 1 [2] hF fun a hF => ?_
 refine wpListIn_nil ?_
 refine hK12 _ _ ?_
 refine wpIn_ret ?_
 cases H
 exact ret_done hF hS (res1 Try.results69 (rvt hF)) ⟨rfl, hS.sp [0] []⟩
set_option maxRecDepth 20000 in
set_option maxHeartbeats 1000000 in
theorem C_warden_Warden_Pending (N : Nat) {Ms : List Nat} {κ0 : Gh} {w0 : World} (a1 : T_warden_Warden) (cs2 : List Value) (cs3 : List Value) (p4 : Option Addr) (c5 : Nat) (p6 : Option Addr) (c7 : Nat) (b8 : Nat) (hB : SB Ms κ0 w0 [.box b8 120 [si a1.now.Pool, si a1.now.Nodes, eb 4 a1.now.Members, (8, cs2), ei 21 a1.now.Modes, si a1.tail.Pool, si a1.tail.Nodes, eb 4 a1.tail.Members, (8, cs3), ei 21 a1.tail.Modes, sl p4 (a1.queue).length c5, si a1.done, si a1.epoch, si a1.step_, eb 4 a1.wait, su a1.mark_, sb a1.ready, sl p6 (a1.out).length c7]] [ml a1.now.Members 4, Arr.mp t_api_Map cs2 4 a1.now.Maps, ml a1.now.Modes 21, ml a1.tail.Members 4, Arr.mp t_api_Map cs3 4 a1.tail.Maps, ml a1.tail.Modes 21, Ro.mp f_api_Cmd.ty p4 c5 a1.queue, ml a1.wait 4, Ro.mp t_api_Mail p6 c7 a1.out]) {r : (Int)} (H : M.warden_Warden_Pending N a1 = some r) :
    Calls Try.prog 66 #[pt b8 0] w0 (Post Ms κ0 w0 fun v κ w => v = vi r ∧ SS Ms κ0 w0 κ w [.box b8 120 [si a1.now.Pool, si a1.now.Nodes, eb 4 a1.now.Members, (8, cs2), ei 21 a1.now.Modes, si a1.tail.Pool, si a1.tail.Nodes, eb 4 a1.tail.Members, (8, cs3), ei 21 a1.tail.Modes, sl p4 (a1.queue).length c5, si a1.done, si a1.epoch, si a1.step_, eb 4 a1.wait, su a1.mark_, sb a1.ready, sl p6 (a1.out).length c7]] []) := by
 have hS := hB.hS
 have hfr := hS.fresh
 refine enter (N := (10)) (L := [(0, pt b8 0)]) Try.func66 rfl Try.ntmps66 (show 1 ≤ (10) by decide) rfl fun a hF => ?_
 unfold M.warden_Warden_Pending at H
 refine wpIn_seq_k fun K9 hK9 => ?_
 refine wpIn_region_lit ?_
 refine wp 1 [0] hF fun a hF => ?_
 refine wpListIn_nil ?_
 refine hK9 _ _ ?_
 refine wpIn_seq_k fun K10 hK10 => ?_
 refine wpIn_seq_k fun K11 hK11 => ?_
 refine wpIn_region_lit ?_
 refine wp 2 [0, 4] hF fun a hF => ?_
 refine wpListIn_nil ?_
 refine hK11 _ _ ?_
 refine cond_f hF (by kernel_rfl) rfl ?_
 refine wpIn_skip ?_
 refine hK10 _ _ ?_
 refine wpIn_seq_k fun K12 hK12 => ?_
 refine wpIn_region_lit ?_
 refine wp 3 [7] hF fun a hF => ?_
 refine wc (wld hF hS 0 10 0 fun a hF => ?_)
 refine wp 2 [2] hF fun a hF => ?_
 refine wpListIn_nil ?_
 refine hK12 _ _ ?_
 refine wpIn_ret ?_
 cases H
 exact ret_done hF hS (res1 Try.results66 (rvt hF)) ⟨rfl, hS.sp [0] []⟩
set_option maxRecDepth 20000 in
set_option maxHeartbeats 1000000 in
theorem C_warden_Warden_Now (N : Nat) {Ms : List Nat} {κ0 : Gh} {w0 : World} (a1 : T_warden_Warden) (cs2 : List Value) (cs3 : List Value) (p4 : Option Addr) (c5 : Nat) (p6 : Option Addr) (c7 : Nat) (b8 : Nat) (hB : SB Ms κ0 w0 [.box b8 120 [si a1.now.Pool, si a1.now.Nodes, eb 4 a1.now.Members, (8, cs2), ei 21 a1.now.Modes, si a1.tail.Pool, si a1.tail.Nodes, eb 4 a1.tail.Members, (8, cs3), ei 21 a1.tail.Modes, sl p4 (a1.queue).length c5, si a1.done, si a1.epoch, si a1.step_, eb 4 a1.wait, su a1.mark_, sb a1.ready, sl p6 (a1.out).length c7]] [ml a1.now.Members 4, Arr.mp t_api_Map cs2 4 a1.now.Maps, ml a1.now.Modes 21, ml a1.tail.Members 4, Arr.mp t_api_Map cs3 4 a1.tail.Maps, ml a1.tail.Modes 21, Ro.mp f_api_Cmd.ty p4 c5 a1.queue, ml a1.wait 4, Ro.mp t_api_Mail p6 c7 a1.out]) {r : (T_config_State)} (H : M.warden_Warden_Now N a1 = some r) :
    Calls Try.prog 71 #[pt b8 0] w0 (Post Ms κ0 w0 fun v κ w => ∃ cs16 : List Value, v = .agg (flat [si r.Pool, si r.Nodes, eb 4 r.Members, (8, cs16), ei 21 r.Modes]).toArray ∧ SS Ms κ0 w0 κ w [.box b8 120 [si a1.now.Pool, si a1.now.Nodes, eb 4 a1.now.Members, (8, cs2), ei 21 a1.now.Modes, si a1.tail.Pool, si a1.tail.Nodes, eb 4 a1.tail.Members, (8, cs3), ei 21 a1.tail.Modes, sl p4 (a1.queue).length c5, si a1.done, si a1.epoch, si a1.step_, eb 4 a1.wait, su a1.mark_, sb a1.ready, sl p6 (a1.out).length c7]] [ml r.Members 4, Arr.mp t_api_Map cs16 4 r.Maps, ml r.Modes 21]) := by
 have hS := hB.hS
 have hfr := hS.fresh
 refine enter (N := (11)) (L := [(0, pt b8 0)]) Try.func71 rfl Try.ntmps71 (show 1 ≤ (11) by decide) rfl fun a hF => ?_
 unfold M.warden_Warden_Now at H
 refine wpIn_seq_k fun K9 hK9 => ?_
 refine wpIn_region_lit ?_
 have hS := hS.add (m := ml (List.replicate 4 false) 4) (List.length_replicate)
 have hS := hS.add (m := Arr.mp t_api_Map ((List.replicate 4 (flat [sl none 0 0, sl none 0 0])).flatten) 4 (List.replicate 4 (T_api_Map.mk ([] : List ByteArray) ([] : List Int)))) (Arr.zero _ _ _ _ _ z_api_Map)
 have hS := hS.add (m := ml (List.replicate 21 0) 21) (List.length_replicate)
 refine wc (wal hF hS [si 0, si 0, eb 4 (List.replicate 4 false), (8, (List.replicate 4 (flat [sl none 0 0, sl none 0 0])).flatten), ei 21 (List.replicate 21 0)] (sgN 2 (sgEnc List.length_replicate (sgArr (hS.get 1 rfl) (sgEnc List.length_replicate sgNil)))) fun b10 a w hF hS => ?_)
 refine wpListIn_nil ?_
 refine hK9 _ _ ?_
 refine wpIn_seq_k fun K11 hK11 => ?_
 refine wpIn_seq_k fun K12 hK12 => ?_
 refine wpIn_region_lit ?_
 refine wp 2 [0, 2, 4] hF fun a hF => ?_
 refine wpListIn_nil ?_
 refine hK12 _ _ ?_
 refine cond_f hF (by kernel_rfl) rfl ?_
 refine wpIn_skip ?_
 refine hK11 _ _ ?_
 refine wpIn_seq_k fun K13 hK13 => ?_
 refine wpIn_region_lit ?_
 refine wp 3 [2, 8] hF fun a hF => ?_
 refine wc (wls hF hS 1 0 5 fun a hF => ?_)
 refine bind_split H (fun x14 hx14 H => ?_)
 refine wc (wo_callP hF hS (by kernel_rfl) (by kernel_rfl) (C_config_Copy N hS.fresh (T_config_State.mk a1.now.Pool a1.now.Nodes a1.now.Members a1.now.Maps a1.now.Modes) cs2 ((hS.pick [3, 4, 5] (by kernel_rfl)).ro) hx14) ?_)
 rintro _ κ w a ⟨cs15, rfl, hR, hN⟩ hF hS hO
 have hS := hS.adds hR
 refine wc (wst hF hS 0 0 5 [si x14.Pool, si x14.Nodes, eb 4 x14.Members, (8, cs15), ei 21 x14.Modes] (sgN 2 (sgEnc (hS.get 0 rfl) (sgArr (hS.get 1 rfl) (sgEnc (hS.get 2 rfl) sgNil)))) fun a w hF hS => ?_)
 refine wpListIn_nil ?_
 refine hK13 _ _ ?_
 refine wpIn_ret ?_
 have hS' := hS
 cases H
 exact ret_done hF hS (res1 Try.results71 (rvs hF hS' 0 0 5)) ⟨cs15, rfl, hS.sp [1] [0, 1, 2]⟩
set_option maxRecDepth 20000 in
set_option maxHeartbeats 1000000 in
theorem C_warden_Warden_Tail (N : Nat) {Ms : List Nat} {κ0 : Gh} {w0 : World} (a1 : T_warden_Warden) (cs2 : List Value) (cs3 : List Value) (p4 : Option Addr) (c5 : Nat) (p6 : Option Addr) (c7 : Nat) (b8 : Nat) (hB : SB Ms κ0 w0 [.box b8 120 [si a1.now.Pool, si a1.now.Nodes, eb 4 a1.now.Members, (8, cs2), ei 21 a1.now.Modes, si a1.tail.Pool, si a1.tail.Nodes, eb 4 a1.tail.Members, (8, cs3), ei 21 a1.tail.Modes, sl p4 (a1.queue).length c5, si a1.done, si a1.epoch, si a1.step_, eb 4 a1.wait, su a1.mark_, sb a1.ready, sl p6 (a1.out).length c7]] [ml a1.now.Members 4, Arr.mp t_api_Map cs2 4 a1.now.Maps, ml a1.now.Modes 21, ml a1.tail.Members 4, Arr.mp t_api_Map cs3 4 a1.tail.Maps, ml a1.tail.Modes 21, Ro.mp f_api_Cmd.ty p4 c5 a1.queue, ml a1.wait 4, Ro.mp t_api_Mail p6 c7 a1.out]) {r : (T_config_State)} (H : M.warden_Warden_Tail N a1 = some r) :
    Calls Try.prog 70 #[pt b8 0] w0 (Post Ms κ0 w0 fun v κ w => ∃ cs16 : List Value, v = .agg (flat [si r.Pool, si r.Nodes, eb 4 r.Members, (8, cs16), ei 21 r.Modes]).toArray ∧ SS Ms κ0 w0 κ w [.box b8 120 [si a1.now.Pool, si a1.now.Nodes, eb 4 a1.now.Members, (8, cs2), ei 21 a1.now.Modes, si a1.tail.Pool, si a1.tail.Nodes, eb 4 a1.tail.Members, (8, cs3), ei 21 a1.tail.Modes, sl p4 (a1.queue).length c5, si a1.done, si a1.epoch, si a1.step_, eb 4 a1.wait, su a1.mark_, sb a1.ready, sl p6 (a1.out).length c7]] [ml r.Members 4, Arr.mp t_api_Map cs16 4 r.Maps, ml r.Modes 21]) := by
 have hS := hB.hS
 have hfr := hS.fresh
 refine enter (N := (11)) (L := [(0, pt b8 0)]) Try.func70 rfl Try.ntmps70 (show 1 ≤ (11) by decide) rfl fun a hF => ?_
 unfold M.warden_Warden_Tail at H
 refine wpIn_seq_k fun K9 hK9 => ?_
 refine wpIn_region_lit ?_
 have hS := hS.add (m := ml (List.replicate 4 false) 4) (List.length_replicate)
 have hS := hS.add (m := Arr.mp t_api_Map ((List.replicate 4 (flat [sl none 0 0, sl none 0 0])).flatten) 4 (List.replicate 4 (T_api_Map.mk ([] : List ByteArray) ([] : List Int)))) (Arr.zero _ _ _ _ _ z_api_Map)
 have hS := hS.add (m := ml (List.replicate 21 0) 21) (List.length_replicate)
 refine wc (wal hF hS [si 0, si 0, eb 4 (List.replicate 4 false), (8, (List.replicate 4 (flat [sl none 0 0, sl none 0 0])).flatten), ei 21 (List.replicate 21 0)] (sgN 2 (sgEnc List.length_replicate (sgArr (hS.get 1 rfl) (sgEnc List.length_replicate sgNil)))) fun b10 a w hF hS => ?_)
 refine wpListIn_nil ?_
 refine hK9 _ _ ?_
 refine wpIn_seq_k fun K11 hK11 => ?_
 refine wpIn_seq_k fun K12 hK12 => ?_
 refine wpIn_region_lit ?_
 refine wp 2 [0, 2, 4] hF fun a hF => ?_
 refine wpListIn_nil ?_
 refine hK12 _ _ ?_
 refine cond_f hF (by kernel_rfl) rfl ?_
 refine wpIn_skip ?_
 refine hK11 _ _ ?_
 refine wpIn_seq_k fun K13 hK13 => ?_
 refine wpIn_region_lit ?_
 refine wp 3 [2, 8] hF fun a hF => ?_
 refine wc (wls hF hS 1 5 5 fun a hF => ?_)
 refine bind_split H (fun x14 hx14 H => ?_)
 refine wc (wo_callP hF hS (by kernel_rfl) (by kernel_rfl) (C_config_Copy N hS.fresh (T_config_State.mk a1.tail.Pool a1.tail.Nodes a1.tail.Members a1.tail.Maps a1.tail.Modes) cs3 ((hS.pick [6, 7, 8] (by kernel_rfl)).ro) hx14) ?_)
 rintro _ κ w a ⟨cs15, rfl, hR, hN⟩ hF hS hO
 have hS := hS.adds hR
 refine wc (wst hF hS 0 0 5 [si x14.Pool, si x14.Nodes, eb 4 x14.Members, (8, cs15), ei 21 x14.Modes] (sgN 2 (sgEnc (hS.get 0 rfl) (sgArr (hS.get 1 rfl) (sgEnc (hS.get 2 rfl) sgNil)))) fun a w hF hS => ?_)
 refine wpListIn_nil ?_
 refine hK13 _ _ ?_
 refine wpIn_ret ?_
 have hS' := hS
 cases H
 exact ret_done hF hS (res1 Try.results70 (rvs hF hS' 0 0 5)) ⟨cs15, rfl, hS.sp [1] [0, 1, 2]⟩
end Go.Cf
