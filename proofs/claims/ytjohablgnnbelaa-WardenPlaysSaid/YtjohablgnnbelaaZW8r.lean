/- The walks: each function returns what its model says. Printed by a program of ours. -/
import Derived.Test.YtjohablgnnbelaaZM1
import Derived.Test.YtjohablgnnbelaaZW6r
namespace Go.Cf
open Go Go.Proofs
set_option linter.unusedVariables false
set_option maxRecDepth 20000 in
set_option maxHeartbeats 1000000 in
theorem C_ref19_Warden_Tail (N : Nat) {Ms : List Nat} {κ0 : Gh} {w0 : World} (a1 : T_ref19_Warden) (cs2 : List Value) (p3 : Option Addr) (c4 : Nat) (p5 : Option Addr) (c6 : Nat) (b7 : Nat) (hB : SB Ms κ0 w0 [.box b7 110 [si a1.Now.Pool, si a1.Now.Nodes, eb 4 a1.Now.Members, (8, cs2), ei 21 a1.Now.Modes, sl p3 (a1.Taken).length c4, si a1.Done, si a1.Epoch, si a1.Entry, eb 4 a1.Wants, sb a1.Ready, su a1.Mark, sl p5 (a1.Mail).length c6]] [ml a1.Now.Members 4, Arr.mp t_api_Map cs2 4 a1.Now.Maps, ml a1.Now.Modes 21, Ro.mp f_api_Cmd.ty p3 c4 a1.Taken, ml a1.Wants 4, Ro.mp t_api_Mail p5 c6 a1.Mail]) {r : (T_ref18_State)} (H : M.ref19_Warden_Tail N a1 = some r) :
    Calls Try.prog 77 #[pt b7 0] w0 (Post Ms κ0 w0 fun v κ w => ∃ cs87 : List Value, v = .agg (flat [si r.Pool, si r.Nodes, eb 4 r.Members, (8, cs87), ei 21 r.Modes]).toArray ∧ SS Ms κ0 w0 κ w [.box b7 110 [si a1.Now.Pool, si a1.Now.Nodes, eb 4 a1.Now.Members, (8, cs2), ei 21 a1.Now.Modes, sl p3 (a1.Taken).length c4, si a1.Done, si a1.Epoch, si a1.Entry, eb 4 a1.Wants, sb a1.Ready, su a1.Mark, sl p5 (a1.Mail).length c6]] [ml r.Members 4, Arr.mp t_api_Map cs87 4 r.Maps, ml r.Modes 21]) := by
 have hS := hB.hS
 have hfr := hS.fresh
 refine enter (N := (35)) (L := [(0, pt b7 0)]) Try.func77 rfl Try.ntmps77 (show 1 ≤ (35) by decide) rfl fun a hF => ?_
 unfold M.ref19_Warden_Tail at H
 refine wpIn_seq_k fun K8 hK8 => ?_
 refine wpIn_region_lit ?_
 have hS := hS.add (m := ml (List.replicate 4 false) 4) (List.length_replicate)
 have hS := hS.add (m := Arr.mp t_api_Map ((List.replicate 4 (flat [sl none 0 0, sl none 0 0])).flatten) 4 (List.replicate 4 (T_api_Map.mk ([] : List ByteArray) ([] : List Int)))) (Arr.zero _ _ _ _ _ z_api_Map)
 have hS := hS.add (m := ml (List.replicate 21 0) 21) (List.length_replicate)
 refine wc (wal hF hS [si 0, si 0, eb 4 (List.replicate 4 false), (8, (List.replicate 4 (flat [sl none 0 0, sl none 0 0])).flatten), ei 21 (List.replicate 21 0)] (sgN 2 (sgEnc List.length_replicate (sgArr (hS.get 1 rfl) (sgEnc List.length_replicate sgNil)))) fun b9 a w hF hS => ?_)
 refine wpListIn_nil ?_
 refine hK8 _ _ ?_
 refine wpIn_seq_k fun K10 hK10 => ?_
 refine wpIn_region_lit ?_
 refine wp 3 [0, 2, 7] hF fun a hF => ?_
 refine wc (wls hF hS 1 0 5 fun a hF => ?_)
 refine wc (wal hF hS [si 0, si 0, eb 4 (List.replicate 4 false), (8, (List.replicate 4 (flat [sl none 0 0, sl none 0 0])).flatten), ei 21 (List.replicate 21 0)] (sgN 2 (sgEnc List.length_replicate (sgArr (hS.get 1 rfl) (sgEnc List.length_replicate sgNil)))) fun b11 a w hF hS => ?_)
 refine wc (wst hF hS 0 0 5 [si a1.Now.Pool, si a1.Now.Nodes, eb 4 a1.Now.Members, (8, cs2), ei 21 a1.Now.Modes] (sgN 2 (sgEnc (hS.get 3 rfl) (sgArr (hS.get 4 rfl) (sgEnc (hS.get 5 rfl) sgNil)))) fun a w hF hS => ?_)
 refine wpListIn_nil ?_
 refine hK10 _ _ ?_
 refine wpIn_seq_k fun K12 hK12 => ?_
 refine wpIn_seq_k fun K13 hK13 => ?_
 refine wpIn_region_lit ?_
 refine wp 3 [0, 2, 3, 11] hF fun a hF => ?_
 refine wc (wld hF hS 2 6 0 fun a hF => ?_)
 refine wp 1 [0, 2, 3, 4] hF fun a hF => ?_
 refine wpListIn_nil ?_
 refine hK13 _ _ ?_
 refine wpIn_block ?_
 refine loop_fuel (n := N) (fun n a w => ∃ (κ : Gh) (y64 y65 : Int) (y66 : List Bool) (y67 : List T_api_Map) (cs68 : List Value) (y69 : List Int) (y70 : Int), Fr (35) [] [(0, pt b7 0), (2, pt b9 0), (3, pt b11 0), (4, vi y70)] a ∧ SS Ms κ0 w0 κ w [.box b11 34 [si y64, si y65, eb 4 y66, (8, cs68), ei 21 y69], .box b9 34 [si 0, si 0, eb 4 (List.replicate 4 false), (8, (List.replicate 4 (flat [sl none 0 0, sl none 0 0])).flatten), ei 21 (List.replicate 21 0)], .box b7 110 [si a1.Now.Pool, si a1.Now.Nodes, eb 4 a1.Now.Members, (8, cs2), ei 21 a1.Now.Modes, sl p3 (a1.Taken).length c4, si a1.Done, si a1.Epoch, si a1.Entry, eb 4 a1.Wants, sb a1.Ready, su a1.Mark, sl p5 (a1.Mail).length c6]] [ml y66 4, Arr.mp t_api_Map cs68 4 y67, ml y69 21, ml (List.replicate 4 false) 4, Arr.mp t_api_Map ((List.replicate 4 (flat [sl none 0 0, sl none 0 0])).flatten) 4 (List.replicate 4 (T_api_Map.mk ([] : List ByteArray) ([] : List Int))), ml (List.replicate 21 0) 21, ml a1.Now.Members 4, Arr.mp t_api_Map cs2 4 a1.Now.Maps, ml a1.Now.Modes 21, Ro.mp f_api_Cmd.ty p3 c4 a1.Taken, ml a1.Wants 4, Ro.mp t_api_Mail p5 c6 a1.Mail] ∧ M.ref19_Warden_Tail_L1 N n a1 y64 y65 y66 y67 y69 y70 = some r) ?_ ?_
 exact ⟨_, a1.Now.Pool, a1.Now.Nodes, a1.Now.Members, a1.Now.Maps, cs2, a1.Now.Modes, a1.Done, hF.kp [0, 2, 3, 4], hS.sp [0, 1, 2] [3, 4, 5, 2, 1, 0, 3, 4, 5, 6, 7, 8], H⟩
 rintro n a w ⟨κ, y64, y65, y66, y67, cs68, y69, y70, hF, hS, H⟩
 rcases n with _ | fuel1
 simp [M.ref19_Warden_Tail_L1] at H
 simp only [M.ref19_Warden_Tail_L1] at H
 refine wpIn_seq_k fun K71 hK71 => ?_
 refine wpIn_seq_k fun K72 hK72 => ?_
 refine wpIn_region_lit ?_
 refine wp 4 [0, 2, 3, 4, 13, 16] hF fun a hF => ?_
 refine wc (wld hF hS 2 5 0 fun a hF => ?_)
 refine wp 2 [0, 2, 3, 4, 19] hF fun a hF => ?_
 refine wpListIn_nil ?_
 refine hK72 _ _ ?_
 refine bif_split H (fun hb H => ?_) (fun hb H => ?_)
 refine cond_t hF (by kernel_rfl) hb ?_
 refine wpIn_skip ?_
 refine hK71 _ _ ?_
 refine wpIn_seq_k fun K73 hK73 => ?_
 refine wpIn_block ?_
 refine bind_split H (fun v80 hv80 H => ?_)
 refine code_join (fun a w => ∃ (κ : Gh) (cs78 : List Value), Fr (35) [] [(0, pt b7 0), (2, pt b9 0), (3, pt b11 0), (4, vi y70)] a ∧ SS Ms κ0 w0 κ w [.box b11 34 [si v80.1, si v80.2.1, eb 4 v80.2.2.1, (8, cs78), ei 21 v80.2.2.2.2], .box b9 34 [si 0, si 0, eb 4 (List.replicate 4 false), (8, (List.replicate 4 (flat [sl none 0 0, sl none 0 0])).flatten), ei 21 (List.replicate 21 0)], .box b7 110 [si a1.Now.Pool, si a1.Now.Nodes, eb 4 a1.Now.Members, (8, cs2), ei 21 a1.Now.Modes, sl p3 (a1.Taken).length c4, si a1.Done, si a1.Epoch, si a1.Entry, eb 4 a1.Wants, sb a1.Ready, su a1.Mark, sl p5 (a1.Mail).length c6]] [ml v80.2.2.1 4, Arr.mp t_api_Map cs78 4 v80.2.2.2.1, ml v80.2.2.2.2 21, ml (List.replicate 4 false) 4, Arr.mp t_api_Map ((List.replicate 4 (flat [sl none 0 0, sl none 0 0])).flatten) 4 (List.replicate 4 (T_api_Map.mk ([] : List ByteArray) ([] : List Int))), ml (List.replicate 21 0) 21, ml a1.Now.Members 4, Arr.mp t_api_Map cs2 4 a1.Now.Maps, ml a1.Now.Modes 21, Ro.mp f_api_Cmd.ty p3 c4 a1.Taken, ml a1.Wants 4, Ro.mp t_api_Mail p5 c6 a1.Mail] ∧ True) ?_ ?_
 refine rgS hS [12] ?_
 have hS := hS.drew
 refine any_pure [1, 2, 3, 5] [0, 2, 3, 4, 26, 28] (L' := [(0, pt b7 0), (2, pt b9 0), (3, pt b11 0), (4, vi y70), (26, pt b7 35), (28, vi y70)]) (listed' := (bitA 13 46)) (fuel := 9) hF (hS.sx [0, 1, 2] (rg 12)) (by kernel_rfl) (by intro c a w t v h; cases t <;> exact h) (by kernel_rfl) rfl fun a hF => ?_
 refine atk 0 (some 23) hF (hS.sx [0, 1, 2] (rg 12)) rfl (vls 0 0 5) fun a hF => ?_
 refine atk 4 (some 27) hF (hS.sx [0, 1, 2] (rg 12)) rfl (vld 2 5 0) fun a hF => ?_
 refine bind_split hv80 (fun x81 hx81 hv80 => ?_)
 obtain ⟨b82, f83, hpx81⟩ := hS.ptr 9 rfl hx81
 refine atk 6 (some 29) hF (hS.sx [0, 1, 2] (rg 12)) rfl (fun w _ => val_index (E := 72) (sz := 6) rfl hpx81 rfl (by kernel_rfl) rfl hx81 (by kernel_rfl) (by kernel_rfl) w) fun a hF => ?_
 refine atk 7 (some 30) hF (hS.sx [0, 1, 2] (rg 12)) rfl (val_loadRoAgg (t := f_api_Cmd) 9 rfl rfl hpx81 rfl hx81 (by kernel_rfl) (by kernel_rfl) (by kernel_rfl)) fun a hF => ?_
 refine ago 8 hF rfl ?_
 refine bind_split hv80 (fun x84 hx84 hv80 => ?_)
 refine wo_callP hF hS (by kernel_rfl) (by kernel_rfl) (C_ref18_Apply N hS.fresh (T_ref18_State.mk y64 y65 y66 y67 y69) (T_api_Cmd.mk x81.Kind x81.DC x81.Shard x81.Node x81.Mode x81.Key) cs68 ((hS.pick [0, 1, 2] (by kernel_rfl)).ro) hx84) ?_
 rintro _ κ w a ⟨cs85, rfl, hR, hN⟩ hF hS hO
 have hS := hS.adds hR
 refine ⟨fun _ => (hS.sx [0, 1, 2] [3, 4, 5, 6, 7, 8, 9, 10, 11, 12, 13, 14]), ?_⟩
 refine anp [9, 10] [0, 2, 3, 4, 22, 32] hF (hS.sx [0, 1, 2] [3, 4, 5, 6, 7, 8, 9, 10, 11, 12, 13, 14]) fun a hF => ?_
 refine ago2 11 12 hF rfl rfl ?_ ?_
 refine wo_pure (v := vi x84.2) hF (by kernel_rfl) (by kernel_rfl) fun a hF => ?_
 refine ⟨fun _ => (hS.sx [0, 1, 2] [3, 4, 5, 6, 7, 8, 9, 10, 11, 12, 13, 14]), ?_⟩
 refine ago 12 hF rfl ?_
 refine wst hF hS 0 0 5 [si x84.1.Pool, si x84.1.Nodes, eb 4 x84.1.Members, (8, cs85), ei 21 x84.1.Modes] (sgN 2 (sgEnc (hS.get 0 rfl) (sgArr (hS.get 1 rfl) (sgEnc (hS.get 2 rfl) sgNil)))) fun a w hF hS => ?_
 refine ⟨notE, ?_⟩
 refine and_ ?_
 cases hv80
 exact ⟨_, cs85, hF.kp [0, 2, 3, 4], hS.sp [0, 1, 2] [0, 1, 2, 6, 7, 8, 9, 10, 11, 12, 13, 14], trivial⟩
 refine wst hF hS 0 0 5 [si x84.1.Pool, si x84.1.Nodes, eb 4 x84.1.Members, (8, cs85), ei 21 x84.1.Modes] (sgN 2 (sgEnc (hS.get 0 rfl) (sgArr (hS.get 1 rfl) (sgEnc (hS.get 2 rfl) sgNil)))) fun a w hF hS => ?_
 refine ⟨notE, ?_⟩
 refine ago 11 hF rfl ?_
 refine wo_pure (v := vi x84.2) hF (by kernel_rfl) (by kernel_rfl) fun a hF => ?_
 refine ⟨notE, ?_⟩
 refine and_ ?_
 cases hv80
 exact ⟨_, cs85, hF.kp [0, 2, 3, 4], hS.sp [0, 1, 2] [0, 1, 2, 6, 7, 8, 9, 10, 11, 12, 13, 14], trivial⟩
 rintro a w ⟨κ, cs78, hF, hS, -⟩
 refine hK73 _ _ ?_
 refine wpIn_region_lit ?_
 refine wp 3 [0, 2, 3, 4] hF fun a hF => ?_
 refine wpListIn_nil ?_
 exact ⟨fuel1, Nat.lt_succ_self _, _, v80.1, v80.2.1, v80.2.2.1, v80.2.2.2.1, cs78, v80.2.2.2.2, IntKind.i64.wrap (y70 + 1), hF.kp [0, 2, 3, 4], hS.sp [0, 1, 2] (rg 12), H⟩
 refine cond_f hF (by kernel_rfl) hb ?_
 refine wpIn_exit ?_
 refine hK12 _ _ ?_
 refine wpIn_seq_k fun K86 hK86 => ?_
 refine wpIn_region_lit ?_
 refine wc (wls hF hS 0 0 5 fun a hF => ?_)
 refine wc (wst hF hS 1 0 5 [si y64, si y65, eb 4 y66, (8, cs68), ei 21 y69] (sgN 2 (sgEnc (hS.get 0 rfl) (sgArr (hS.get 1 rfl) (sgEnc (hS.get 2 rfl) sgNil)))) fun a w hF hS => ?_)
 refine wpListIn_nil ?_
 refine hK86 _ _ ?_
 refine wpIn_ret ?_
 have hS' := hS
 cases H
 exact ret_done hF hS (res1 Try.results77 (rvs hF hS' 1 0 5)) ⟨cs68, rfl, hS.sp [2] [0, 1, 2]⟩
set_option maxRecDepth 20000 in
set_option maxHeartbeats 1000000 in
theorem C_ref19_Warden_lay (N : Nat) {Ms : List Nat} {κ0 : Gh} {w0 : World} (a1 : T_ref19_Warden) (a8 : Int) (cs2 : List Value) (p3 : Option Addr) (c4 : Nat) (p5 : Option Addr) (c6 : Nat) (b7 : Nat) (hB : SB Ms κ0 w0 [.box b7 110 [si a1.Now.Pool, si a1.Now.Nodes, eb 4 a1.Now.Members, (8, cs2), ei 21 a1.Now.Modes, sl p3 (a1.Taken).length c4, si a1.Done, si a1.Epoch, si a1.Entry, eb 4 a1.Wants, sb a1.Ready, su a1.Mark, sl p5 (a1.Mail).length c6], .tok p3 72 6 (a1.Taken).length c4, .tok p5 106 15 (a1.Mail).length c6] [ml a1.Now.Members 4, Arr.mp t_api_Map cs2 4 a1.Now.Maps, ml a1.Now.Modes 21, Ro.mp f_api_Cmd.ty p3 c4 a1.Taken, ml a1.Wants 4, Ro.mp t_api_Mail p5 c6 a1.Mail]) {r : (T_ref19_Warden)} (H : M.ref19_Warden_lay N a1 a8 = some r) :
    Calls Try.prog 89 #[pt b7 0, vi a8] w0 (Post Ms κ0 w0 fun v κ w => ∃ (cs256 : List Value) (p257 : Option Addr) (c258 : Nat) (p259 : Option Addr) (c260 : Nat), v = .tuple #[] ∧ SS Ms κ0 w0 κ w [.box b7 110 [si r.Now.Pool, si r.Now.Nodes, eb 4 r.Now.Members, (8, cs256), ei 21 r.Now.Modes, sl p257 (r.Taken).length c258, si r.Done, si r.Epoch, si r.Entry, eb 4 r.Wants, sb r.Ready, su r.Mark, sl p259 (r.Mail).length c260], .tok p257 72 6 (r.Taken).length c258, .tok p259 106 15 (r.Mail).length c260] [ml r.Now.Members 4, Arr.mp t_api_Map cs256 4 r.Now.Maps, ml r.Now.Modes 21, Ro.mp f_api_Cmd.ty p257 c258 r.Taken, ml r.Wants 4, Ro.mp t_api_Mail p259 c260 r.Mail]) := by
 have hS := hB.hS
 have hfr := hS.fresh
 refine enter (N := (146)) (L := [(0, pt b7 0), (1, vi a8)]) Try.func89 rfl Try.ntmps89 (show 2 ≤ (146) by decide) rfl fun a hF => ?_
 unfold M.ref19_Warden_lay at H
 refine wpIn_seq_k fun K9 hK9 => ?_
 refine rgS hS [11] ?_
 have hS := hS.drew
 refine any_pure [0, 1, 2, 4, 5, 6] [0, 1, 16, 20] (L' := [(0, pt b7 0), (1, vi a8), (16, pt b7 35), (20, pt b7 36)]) (listed' := (bitA 12 119)) (fuel := 6) hF (hS.sx [0] (rg 6)) (by kernel_rfl) (by intro c a w t v h; cases t <;> exact h) (by kernel_rfl) rfl fun a hF => ?_
 refine atk 3 (some 17) hF (hS.sx [0] (rg 6)) rfl (vld 0 5 0) fun a hF => ?_
 refine atk 7 (some 21) hF (hS.sx [0] (rg 6)) rfl (vld 0 6 0) fun a hF => ?_
 refine bind_split H (fun x10 hx10 H => ?_)
 obtain ⟨b11, f12, hpx10⟩ := hS.ptr 3 rfl hx10
 refine atk 8 (some 22) hF (hS.sx [0] (rg 6)) rfl (fun w _ => val_index (E := 72) (sz := 6) rfl hpx10 rfl (by kernel_rfl) rfl hx10 (by kernel_rfl) (by kernel_rfl) w) fun a hF => ?_
 refine atk 9 (some 23) hF (hS.sx [0] (rg 6)) rfl (val_loadRoAgg (t := f_api_Cmd) 3 rfl rfl hpx10 rfl hx10 (by kernel_rfl) (by kernel_rfl) (by kernel_rfl)) fun a hF => ?_
 refine ago 10 hF rfl ?_
 refine wal hF hS [si 0, si 0, si 0, si 0, si 0, sg ByteArray.empty] (sgN 6 sgNil) fun b13 a w hF hS => ?_
 refine ⟨fun _ => (hS.sx [1] (rg 6)), ?_⟩
 refine ago 11 hF rfl ?_
 refine wst hF hS 0 0 6 [si x10.Kind, si x10.DC, si x10.Shard, si x10.Node, si x10.Mode, sg x10.Key] (sgN 6 sgNil) fun a w hF hS => ?_
 refine ⟨notE, ?_⟩
 refine and_ ?_
 refine hK9 _ _ ?_
 refine wpIn_seq_k fun K14 hK14 => ?_
 refine bind_split H (fun v22 hv22 H => ?_)
 refine code_join (fun a w => ∃ (κ : Gh) (b15 : Nat) (cs20 : List Value), Fr (146) [] [(0, pt b7 0), (1, vi a8), (4, pt b13 0), (5, pt b15 0)] a ∧ SS Ms κ0 w0 κ w [.box b13 72 [si x10.Kind, si x10.DC, si x10.Shard, si x10.Node, si x10.Mode, sg x10.Key], .box b7 110 [si a1.Now.Pool, si a1.Now.Nodes, eb 4 a1.Now.Members, (8, cs2), ei 21 a1.Now.Modes, sl p3 (a1.Taken).length c4, si a1.Done, si a1.Epoch, si a1.Entry, eb 4 a1.Wants, sb a1.Ready, su a1.Mark, sl p5 (a1.Mail).length c6], .box b15 34 [si v22.1, si v22.2.1, eb 4 v22.2.2.1, (8, cs20), ei 21 v22.2.2.2.2], .tok p3 72 6 (a1.Taken).length c4, .tok p5 106 15 (a1.Mail).length c6] [ml a1.Now.Members 4, Arr.mp t_api_Map cs2 4 a1.Now.Maps, ml a1.Now.Modes 21, Ro.mp f_api_Cmd.ty p3 c4 a1.Taken, ml a1.Wants 4, Ro.mp t_api_Mail p5 c6 a1.Mail, ml v22.2.2.1 4, Arr.mp t_api_Map cs20 4 v22.2.2.2.1, ml v22.2.2.2.2 21] ∧ True) ?_ ?_
 refine rgS hS [10] ?_
 have hS := hS.drew
 refine bind_split hv22 (fun x23 hx23 hv22 => ?_)
 refine anp [0, 1, 2] [0, 1, 4, 27] hF (hS.sx [0, 1] (rg 6)) fun a hF => ?_
 refine atk 3 (some 28) hF (hS.sx [0, 1] (rg 6)) rfl (vls 1 0 5) fun a hF => ?_
 refine atk 4 (some 29) hF (hS.sx [0, 1] (rg 6)) rfl (vls 0 0 6) fun a hF => ?_
 refine ago2 5 9 hF rfl rfl ?_ ?_
 refine wo_callP hF hS (by kernel_rfl) (by kernel_rfl) (C_ref18_Apply N hS.fresh (T_ref18_State.mk a1.Now.Pool a1.Now.Nodes a1.Now.Members a1.Now.Maps a1.Now.Modes) (T_api_Cmd.mk x10.Kind x10.DC x10.Shard x10.Node x10.Mode x10.Key) cs2 ((hS.pick [0, 1, 2] (by kernel_rfl)).ro) hx23) ?_
 rintro _ κ w a ⟨cs24, rfl, hR, hN⟩ hF hS hO
 have hS := hS.adds hR
 refine ⟨fun _ => (hS.sx [0, 1] [3, 4, 5, 6, 7, 8]), ?_⟩
 refine anp [6, 7] [0, 1, 4, 24, 31] hF (hS.sx [0, 1] [3, 4, 5, 6, 7, 8]) fun a hF => ?_
 refine ago2 8 9 hF rfl rfl ?_ ?_
 refine wo_pure (v := vi x23.2) hF (by kernel_rfl) (by kernel_rfl) fun a hF => ?_
 refine ⟨fun _ => (hS.sx [0, 1] [3, 4, 5, 6, 7, 8]), ?_⟩
 refine ago 9 hF rfl ?_
 have hS := hS.add (m := ml (List.replicate 4 false) 4) (List.length_replicate)
 have hS := hS.add (m := Arr.mp t_api_Map ((List.replicate 4 (flat [sl none 0 0, sl none 0 0])).flatten) 4 (List.replicate 4 (T_api_Map.mk ([] : List ByteArray) ([] : List Int)))) (Arr.zero _ _ _ _ _ z_api_Map)
 have hS := hS.add (m := ml (List.replicate 21 0) 21) (List.length_replicate)
 refine wal hF hS [si 0, si 0, eb 4 (List.replicate 4 false), (8, (List.replicate 4 (flat [sl none 0 0, sl none 0 0])).flatten), ei 21 (List.replicate 21 0)] (sgN 2 (sgEnc List.length_replicate (sgArr (hS.get 1 rfl) (sgEnc List.length_replicate sgNil)))) fun b25 a w hF hS => ?_
 refine ⟨fun _ => (hS.sx [1, 2] [6, 7, 8, 9, 10, 11]), ?_⟩
 refine ago 10 hF rfl ?_
 refine wst hF hS 0 0 5 [si x23.1.Pool, si x23.1.Nodes, eb 4 x23.1.Members, (8, cs24), ei 21 x23.1.Modes] (sgN 2 (sgEnc (hS.get 3 rfl) (sgArr (hS.get 4 rfl) (sgEnc (hS.get 5 rfl) sgNil)))) fun a w hF hS => ?_
 refine ⟨notE, ?_⟩
 refine ago 11 hF rfl ?_
 refine wo_pure (v := vi x23.2) hF (by kernel_rfl) (by kernel_rfl) fun a hF => ?_
 refine ⟨notE, ?_⟩
 refine and_ ?_
 cases hv22
 exact ⟨_, b25, cs24, hF.kp [0, 1, 4, 5], hS.sp [1, 2, 0, 3, 4] [6, 7, 8, 9, 10, 11, 3, 4, 5], trivial⟩
 have hS := hS.add (m := ml (List.replicate 4 false) 4) (List.length_replicate)
 have hS := hS.add (m := Arr.mp t_api_Map ((List.replicate 4 (flat [sl none 0 0, sl none 0 0])).flatten) 4 (List.replicate 4 (T_api_Map.mk ([] : List ByteArray) ([] : List Int)))) (Arr.zero _ _ _ _ _ z_api_Map)
 have hS := hS.add (m := ml (List.replicate 21 0) 21) (List.length_replicate)
 refine wal hF hS [si 0, si 0, eb 4 (List.replicate 4 false), (8, (List.replicate 4 (flat [sl none 0 0, sl none 0 0])).flatten), ei 21 (List.replicate 21 0)] (sgN 2 (sgEnc List.length_replicate (sgArr (hS.get 1 rfl) (sgEnc List.length_replicate sgNil)))) fun b25 a w hF hS => ?_
 refine ⟨fun _ => (hS.sx [1, 2] [6, 7, 8, 9, 10, 11]), ?_⟩
 refine ago2 8 10 hF rfl rfl ?_ ?_
 refine wo_pure (v := vi x23.2) hF (by kernel_rfl) (by kernel_rfl) fun a hF => ?_
 refine ⟨fun _ => (hS.sx [1, 2] [6, 7, 8, 9, 10, 11]), ?_⟩
 refine ago 10 hF rfl ?_
 refine wst hF hS 0 0 5 [si x23.1.Pool, si x23.1.Nodes, eb 4 x23.1.Members, (8, cs24), ei 21 x23.1.Modes] (sgN 2 (sgEnc (hS.get 3 rfl) (sgArr (hS.get 4 rfl) (sgEnc (hS.get 5 rfl) sgNil)))) fun a w hF hS => ?_
 refine ⟨notE, ?_⟩
 refine ago 11 hF rfl ?_
 refine wo_pure (v := vi x23.2) hF (by kernel_rfl) (by kernel_rfl) fun a hF => ?_
 refine ⟨notE, ?_⟩
 refine and_ ?_
 cases hv22
 exact ⟨_, b25, cs24, hF.kp [0, 1, 4, 5], hS.sp [1, 2, 0, 3, 4] [6, 7, 8, 9, 10, 11, 3, 4, 5], trivial⟩
 refine wst hF hS 0 0 5 [si x23.1.Pool, si x23.1.Nodes, eb 4 x23.1.Members, (8, cs24), ei 21 x23.1.Modes] (sgN 2 (sgEnc (hS.get 3 rfl) (sgArr (hS.get 4 rfl) (sgEnc (hS.get 5 rfl) sgNil)))) fun a w hF hS => ?_
 refine ⟨notE, ?_⟩
 refine ago 8 hF rfl ?_
 refine wo_pure (v := vi x23.2) hF (by kernel_rfl) (by kernel_rfl) fun a hF => ?_
 refine ⟨notE, ?_⟩
 refine ago 11 hF rfl ?_
 refine wo_pure (v := vi x23.2) hF (by kernel_rfl) (by kernel_rfl) fun a hF => ?_
 refine ⟨notE, ?_⟩
 refine and_ ?_
 cases hv22
 exact ⟨_, b25, cs24, hF.kp [0, 1, 4, 5], hS.sp [1, 2, 0, 3, 4] [6, 7, 8, 9, 10, 11, 3, 4, 5], trivial⟩
 have hS := hS.add (m := ml (List.replicate 4 false) 4) (List.length_replicate)
 have hS := hS.add (m := Arr.mp t_api_Map ((List.replicate 4 (flat [sl none 0 0, sl none 0 0])).flatten) 4 (List.replicate 4 (T_api_Map.mk ([] : List ByteArray) ([] : List Int)))) (Arr.zero _ _ _ _ _ z_api_Map)
 have hS := hS.add (m := ml (List.replicate 21 0) 21) (List.length_replicate)
 refine wal hF hS [si 0, si 0, eb 4 (List.replicate 4 false), (8, (List.replicate 4 (flat [sl none 0 0, sl none 0 0])).flatten), ei 21 (List.replicate 21 0)] (sgN 2 (sgEnc List.length_replicate (sgArr (hS.get 1 rfl) (sgEnc List.length_replicate sgNil)))) fun b25 a w hF hS => ?_
 refine ⟨fun _ => (hS.sx [1, 2] [3, 4, 5, 6, 7, 8]), ?_⟩
 refine ago 5 hF rfl ?_
 refine wo_callP hF hS (by kernel_rfl) (by kernel_rfl) (C_ref18_Apply N hS.fresh (T_ref18_State.mk a1.Now.Pool a1.Now.Nodes a1.Now.Members a1.Now.Maps a1.Now.Modes) (T_api_Cmd.mk x10.Kind x10.DC x10.Shard x10.Node x10.Mode x10.Key) cs2 ((hS.pick [3, 4, 5] (by kernel_rfl)).ro) hx23) ?_
 rintro _ κ w a ⟨cs24, rfl, hR, hN⟩ hF hS hO
 have hS := hS.adds hR
 refine ⟨fun _ => (hS.sx [1, 2] [6, 7, 8, 9, 10, 11]), ?_⟩
 refine anp [6, 7] [0, 1, 4, 5, 24, 31] hF (hS.sx [1, 2] [6, 7, 8, 9, 10, 11]) fun a hF => ?_
 refine ago2 8 10 hF rfl rfl ?_ ?_
 refine wo_pure (v := vi x23.2) hF (by kernel_rfl) (by kernel_rfl) fun a hF => ?_
 refine ⟨fun _ => (hS.sx [1, 2] [6, 7, 8, 9, 10, 11]), ?_⟩
 refine ago 10 hF rfl ?_
 refine wst hF hS 0 0 5 [si x23.1.Pool, si x23.1.Nodes, eb 4 x23.1.Members, (8, cs24), ei 21 x23.1.Modes] (sgN 2 (sgEnc (hS.get 0 rfl) (sgArr (hS.get 1 rfl) (sgEnc (hS.get 2 rfl) sgNil)))) fun a w hF hS => ?_
 refine ⟨notE, ?_⟩
 refine ago 11 hF rfl ?_
 refine wo_pure (v := vi x23.2) hF (by kernel_rfl) (by kernel_rfl) fun a hF => ?_
 refine ⟨notE, ?_⟩
 refine and_ ?_
 cases hv22
 exact ⟨_, b25, cs24, hF.kp [0, 1, 4, 5], hS.sp [1, 2, 0, 3, 4] [6, 7, 8, 9, 10, 11, 0, 1, 2], trivial⟩
 refine wst hF hS 0 0 5 [si x23.1.Pool, si x23.1.Nodes, eb 4 x23.1.Members, (8, cs24), ei 21 x23.1.Modes] (sgN 2 (sgEnc (hS.get 0 rfl) (sgArr (hS.get 1 rfl) (sgEnc (hS.get 2 rfl) sgNil)))) fun a w hF hS => ?_
 refine ⟨notE, ?_⟩
 refine ago 8 hF rfl ?_
 refine wo_pure (v := vi x23.2) hF (by kernel_rfl) (by kernel_rfl) fun a hF => ?_
 refine ⟨notE, ?_⟩
 refine ago 11 hF rfl ?_
 refine wo_pure (v := vi x23.2) hF (by kernel_rfl) (by kernel_rfl) fun a hF => ?_
 refine ⟨notE, ?_⟩
 refine and_ ?_
 cases hv22
 exact ⟨_, b25, cs24, hF.kp [0, 1, 4, 5], hS.sp [1, 2, 0, 3, 4] [6, 7, 8, 9, 10, 11, 0, 1, 2], trivial⟩
 rintro a w ⟨κ, b15, cs20, hF, hS, -⟩
 refine hK14 _ _ ?_
 refine wpIn_seq_k fun K26 hK26 => ?_
 refine wpIn_region_lit ?_
 refine wc (wls hF hS 2 0 5 fun a hF => ?_)
 have hS := hS.add (m := ml (List.replicate 4 false) 4) (List.length_replicate)
 have hS := hS.add (m := Arr.mp t_api_Map ((List.replicate 4 (flat [sl none 0 0, sl none 0 0])).flatten) 4 (List.replicate 4 (T_api_Map.mk ([] : List ByteArray) ([] : List Int)))) (Arr.zero _ _ _ _ _ z_api_Map)
 have hS := hS.add (m := ml (List.replicate 21 0) 21) (List.length_replicate)
 refine wc (wal hF hS [si 0, si 0, eb 4 (List.replicate 4 false), (8, (List.replicate 4 (flat [sl none 0 0, sl none 0 0])).flatten), ei 21 (List.replicate 21 0)] (sgN 2 (sgEnc List.length_replicate (sgArr (hS.get 1 rfl) (sgEnc List.length_replicate sgNil)))) fun b27 a w hF hS => ?_)
 refine wc (wst hF hS 0 0 5 [si v22.1, si v22.2.1, eb 4 v22.2.2.1, (8, cs20), ei 21 v22.2.2.2.2] (sgN 2 (sgEnc (hS.get 9 rfl) (sgArr (hS.get 10 rfl) (sgEnc (hS.get 11 rfl) sgNil)))) fun a w hF hS => ?_)
 refine wpListIn_nil ?_
 refine hK26 _ _ ?_
 refine seq_join (fun a w => ∃ (κ : Gh) (y28 y29 : Int) (y30 : List Bool) (y31 : List T_api_Map) (cs32 : List Value) (y33 : List Int), Fr (146) [] [(0, pt b7 0), (1, vi a8), (4, pt b13 0), (5, pt b15 0), (7, pt b27 0)] a ∧ SS Ms κ0 w0 κ w [.box b27 34 [si y28, si y29, eb 4 y30, (8, cs32), ei 21 y33], .box b13 72 [si x10.Kind, si x10.DC, si x10.Shard, si x10.Node, si x10.Mode, sg x10.Key], .box b7 110 [si a1.Now.Pool, si a1.Now.Nodes, eb 4 a1.Now.Members, (8, cs2), ei 21 a1.Now.Modes, sl p3 (a1.Taken).length c4, si a1.Done, si a1.Epoch, si a1.Entry, eb 4 a1.Wants, sb a1.Ready, su a1.Mark, sl p5 (a1.Mail).length c6], .box b15 34 [si v22.1, si v22.2.1, eb 4 v22.2.2.1, (8, cs20), ei 21 v22.2.2.2.2], .tok p3 72 6 (a1.Taken).length c4, .tok p5 106 15 (a1.Mail).length c6] [ml y30 4, Arr.mp t_api_Map cs32 4 y31, ml y33 21, ml a1.Now.Members 4, Arr.mp t_api_Map cs2 4 a1.Now.Maps, ml a1.Now.Modes 21, Ro.mp f_api_Cmd.ty p3 c4 a1.Taken, ml a1.Wants 4, Ro.mp t_api_Mail p5 c6 a1.Mail, ml v22.2.2.1 4, Arr.mp t_api_Map cs20 4 v22.2.2.2.1, ml v22.2.2.2.2 21] ∧ M.ref19_Warden_lay_k1 N a1 a8 x10 v22 y28 y29 y30 y31 y33 = some r) ?_ ?_
 refine wpIn_seq_k fun K253 hK253 => ?_
 refine wpIn_region_lit ?_
 refine bind_split H (fun v255 hv255 H => ?_)
 refine wl_join (fun a w => ∃ κ : Gh, Fr (146) [] [(0, pt b7 0), (1, vi a8), (4, pt b13 0), (5, pt b15 0), (7, pt b27 0), (40, vb v255)] a ∧ SS Ms κ0 w0 κ w [.box b27 34 [si v22.1, si v22.2.1, eb 4 v22.2.2.1, (8, cs20), ei 21 v22.2.2.2.2], .box b13 72 [si x10.Kind, si x10.DC, si x10.Shard, si x10.Node, si x10.Mode, sg x10.Key], .box b7 110 [si a1.Now.Pool, si a1.Now.Nodes, eb 4 a1.Now.Members, (8, cs2), ei 21 a1.Now.Modes, sl p3 (a1.Taken).length c4, si a1.Done, si a1.Epoch, si a1.Entry, eb 4 a1.Wants, sb a1.Ready, su a1.Mark, sl p5 (a1.Mail).length c6], .box b15 34 [si v22.1, si v22.2.1, eb 4 v22.2.2.1, (8, cs20), ei 21 v22.2.2.2.2], .tok p3 72 6 (a1.Taken).length c4, .tok p5 106 15 (a1.Mail).length c6] [ml v22.2.2.1 4, Arr.mp t_api_Map cs20 4 v22.2.2.2.1, ml v22.2.2.2.2 21, ml a1.Now.Members 4, Arr.mp t_api_Map cs2 4 a1.Now.Maps, ml a1.Now.Modes 21, Ro.mp f_api_Cmd.ty p3 c4 a1.Taken, ml a1.Wants 4, Ro.mp t_api_Mail p5 c6 a1.Mail] ∧ True) ?_ ?_
 refine wp 1 [0, 1, 4, 5, 7, 34] hF fun a hF => ?_
 refine wc (wld hF hS 1 0 0 fun a hF => ?_)
 refine wp 2 [0, 1, 4, 5, 7, 37] hF fun a hF => ?_
 refine bif_split hv255 (fun hb hv255 => ?_) (fun hb hv255 => ?_)
 have hF := hF.boolv 37 (by kernel_rfl) hb
 refine wp 3 [0, 1, 4, 5, 7, 40] hF fun a hF => ?_
 refine wpListIn_nil ?_
 cases hv255
 exact ⟨_, hF.kp [0, 1, 4, 5, 7, 40], hS.sp (rg 6) [9, 10, 11, 3, 4, 5, 6, 7, 8], trivial⟩
 have hF := hF.boolv 37 (by kernel_rfl) hb
 refine wp 3 [0, 1, 4, 5, 7, 40] hF fun a hF => ?_
 refine wpListIn_nil ?_
 cases hv255
 exact ⟨_, hF.kp [0, 1, 4, 5, 7, 40], hS.sp (rg 6) [9, 10, 11, 3, 4, 5, 6, 7, 8], trivial⟩
 rintro a w ⟨κ, hF, hS, -⟩
 refine hK253 _ _ ?_
 refine bif_split H (fun hb H => ?_) (fun hb H => ?_)
 refine cond_t hF (by kernel_rfl) hb ?_
 refine wpIn_region_lit ?_
 refine wp 3 [0, 1, 4, 5, 7, 43] hF fun a hF => ?_
 refine wc (wls hF hS 2 0 5 fun a hF => ?_)
 refine wc (wst hF hS 0 0 5 [si a1.Now.Pool, si a1.Now.Nodes, eb 4 a1.Now.Members, (8, cs2), ei 21 a1.Now.Modes] (sgN 2 (sgEnc (hS.get 3 rfl) (sgArr (hS.get 4 rfl) (sgEnc (hS.get 5 rfl) sgNil)))) fun a w hF hS => ?_)
 refine wpListIn_nil ?_
 exact ⟨_, a1.Now.Pool, a1.Now.Nodes, a1.Now.Members, a1.Now.Maps, cs2, a1.Now.Modes, hF.kp [0, 1, 4, 5, 7], hS.sp (rg 6) [3, 4, 5, 3, 4, 5, 6, 7, 8, 0, 1, 2], H⟩
 refine cond_f hF (by kernel_rfl) hb ?_
 refine wpIn_skip ?_
 exact ⟨_, v22.1, v22.2.1, v22.2.2.1, v22.2.2.2.1, cs20, v22.2.2.2.2, hF.kp [0, 1, 4, 5, 7], hS.sp (rg 6) [0, 1, 2, 3, 4, 5, 6, 7, 8, 0, 1, 2], H⟩
 rintro a w ⟨κ, y28, y29, y30, y31, cs32, y33, hF, hS, H⟩
 unfold M.ref19_Warden_lay_k1 at H
 refine wpIn_seq_k fun K34 hK34 => ?_
 refine wpIn_region_lit ?_
 refine wp 4 [0, 1, 4, 5, 7, 45, 48] hF fun a hF => ?_
 refine wc (wld hF hS 2 7 0 fun a hF => ?_)
 refine wp 3 [0, 1, 4, 5, 7, 50, 52] hF fun a hF => ?_
 refine wc (wst hF hS 2 7 1 [si (IntKind.i64.wrap (a1.Epoch + 1))] (sgN 1 sgNil) fun a w hF hS => ?_)
 refine wpListIn_nil ?_
 refine hK34 _ _ ?_
 refine wpIn_seq_k fun K35 hK35 => ?_
 refine wpIn_region_lit ?_
 refine wp 4 [0, 1, 4, 5, 7, 54, 56] hF fun a hF => ?_
 refine wc (wst hF hS 2 8 1 [si a8] (sgN 1 sgNil) fun a w hF hS => ?_)
 refine wpListIn_nil ?_
 refine hK35 _ _ ?_
 refine seq_join (fun a w => ∃ (κ : Gh) (y36 : Bool), Fr (146) [] [(0, pt b7 0), (1, vi a8), (4, pt b13 0), (5, pt b15 0), (7, pt b27 0)] a ∧ SS Ms κ0 w0 κ w [.box b27 34 [si y28, si y29, eb 4 y30, (8, cs32), ei 21 y33], .box b13 72 [si x10.Kind, si x10.DC, si x10.Shard, si x10.Node, si x10.Mode, sg x10.Key], .box b7 110 [si a1.Now.Pool, si a1.Now.Nodes, eb 4 a1.Now.Members, (8, cs2), ei 21 a1.Now.Modes, sl p3 (a1.Taken).length c4, si a1.Done, si (IntKind.i64.wrap (a1.Epoch + 1)), si a8, eb 4 a1.Wants, sb y36, su a1.Mark, sl p5 (a1.Mail).length c6], .box b15 34 [si v22.1, si v22.2.1, eb 4 v22.2.2.1, (8, cs20), ei 21 v22.2.2.2.2], .tok p3 72 6 (a1.Taken).length c4, .tok p5 106 15 (a1.Mail).length c6] [ml y30 4, Arr.mp t_api_Map cs32 4 y31, ml y33 21, ml a1.Now.Members 4, Arr.mp t_api_Map cs2 4 a1.Now.Maps, ml a1.Now.Modes 21, Ro.mp f_api_Cmd.ty p3 c4 a1.Taken, ml a1.Wants 4, Ro.mp t_api_Mail p5 c6 a1.Mail, ml v22.2.2.1 4, Arr.mp t_api_Map cs20 4 v22.2.2.2.1, ml v22.2.2.2.2 21] ∧ M.ref19_Warden_lay_k2 N a1 a8 x10 v22 y28 y29 y30 y31 y33 y36 = some r) ?_ ?_
 refine wpIn_seq_k fun K252 hK252 => ?_
 refine wpIn_region_lit ?_
 refine wp 2 [0, 1, 4, 5, 7, 58] hF fun a hF => ?_
 refine wpListIn_nil ?_
 refine hK252 _ _ ?_
 refine bif_split H (fun hb H => ?_) (fun hb H => ?_)
 refine cond_t hF (by kernel_rfl) hb ?_
 refine wpIn_region_lit ?_
 refine wp 3 [0, 1, 4, 5, 7, 61] hF fun a hF => ?_
 refine wc (wst hF hS 2 10 1 [sb false] (sgN 1 sgNil) fun a w hF hS => ?_)
 refine wpListIn_nil ?_
 exact ⟨_, false, hF.kp [0, 1, 4, 5, 7], hS.sp (rg 6) (rg 12), H⟩
 refine cond_f hF (by kernel_rfl) hb ?_
 refine wpIn_skip ?_
 exact ⟨_, a1.Ready, hF.kp [0, 1, 4, 5, 7], hS.sp (rg 6) (rg 12), H⟩
 rintro a w ⟨κ, y36, hF, hS, H⟩
 unfold M.ref19_Warden_lay_k2 at H
 refine wpIn_seq_k fun K37 hK37 => ?_
 refine wpIn_region_lit ?_
 refine wp 1 [0, 1, 4, 5, 7, 8] hF fun a hF => ?_
 refine wpListIn_nil ?_
 refine hK37 _ _ ?_
 refine wpIn_seq_k fun K38 hK38 => ?_
 refine wpIn_region_lit ?_
 refine wp 1 [0, 1, 4, 5, 7, 8, 9] hF fun a hF => ?_
 refine wpListIn_nil ?_
 refine hK38 _ _ ?_
 refine wpIn_seq_k fun K39 hK39 => ?_
 refine wpIn_seq_k fun K40 hK40 => ?_
 refine wpIn_region_lit ?_
 refine wp 1 [0, 1, 4, 5, 7, 8, 9, 10] hF fun a hF => ?_
 refine wpListIn_nil ?_
 refine hK40 _ _ ?_
 refine wpIn_block ?_
 refine loop_fuel (n := N) (fun n a w => ∃ (κ : Gh) (y91 y92 y93 : Int), Fr (146) [] [(0, pt b7 0), (1, vi a8), (4, pt b13 0), (5, pt b15 0), (7, pt b27 0), (8, vu y91), (9, vu y92), (10, vi y93)] a ∧ SS Ms κ0 w0 κ w [.box b27 34 [si y28, si y29, eb 4 y30, (8, cs32), ei 21 y33], .box b13 72 [si x10.Kind, si x10.DC, si x10.Shard, si x10.Node, si x10.Mode, sg x10.Key], .box b7 110 [si a1.Now.Pool, si a1.Now.Nodes, eb 4 a1.Now.Members, (8, cs2), ei 21 a1.Now.Modes, sl p3 (a1.Taken).length c4, si a1.Done, si (IntKind.i64.wrap (a1.Epoch + 1)), si a8, eb 4 a1.Wants, sb y36, su a1.Mark, sl p5 (a1.Mail).length c6], .box b15 34 [si v22.1, si v22.2.1, eb 4 v22.2.2.1, (8, cs20), ei 21 v22.2.2.2.2], .tok p3 72 6 (a1.Taken).length c4, .tok p5 106 15 (a1.Mail).length c6] [ml y30 4, Arr.mp t_api_Map cs32 4 y31, ml y33 21, ml a1.Now.Members 4, Arr.mp t_api_Map cs2 4 a1.Now.Maps, ml a1.Now.Modes 21, Ro.mp f_api_Cmd.ty p3 c4 a1.Taken, ml a1.Wants 4, Ro.mp t_api_Mail p5 c6 a1.Mail, ml v22.2.2.1 4, Arr.mp t_api_Map cs20 4 v22.2.2.2.1, ml v22.2.2.2.2 21] ∧ M.ref19_Warden_lay_L3 N n a1 a8 x10 v22 y28 y29 y30 y31 y33 y36 y91 y92 y93 = some r) ?_ ?_
 exact ⟨_, 0, 1, 0, hF.kp [0, 1, 4, 5, 7, 8, 9, 10], hS.sp (rg 6) (rg 12), H⟩
 rintro n a w ⟨κ, y91, y92, y93, hF, hS, H⟩
 rcases n with _ | fuel3
 simp [M.ref19_Warden_lay_L3] at H
 simp only [M.ref19_Warden_lay_L3] at H
 refine wpIn_seq_k fun K94 hK94 => ?_
 refine wpIn_seq_k fun K95 hK95 => ?_
 refine wpIn_region_lit ?_
 refine wp 2 [0, 1, 4, 5, 7, 8, 9, 10, 63] hF fun a hF => ?_
 refine wpListIn_nil ?_
 refine hK95 _ _ ?_
 refine bif_split H (fun hb H => ?_) (fun hb H => ?_)
 refine cond_t hF (by kernel_rfl) hb ?_
 refine wpIn_skip ?_
 refine hK94 _ _ ?_
 refine wpIn_seq_k fun K96 hK96 => ?_
 refine wpIn_block ?_
 refine seq_join (fun a w => ∃ (κ : Gh) (y97 : Int), Fr (146) [] [(0, pt b7 0), (1, vi a8), (4, pt b13 0), (5, pt b15 0), (7, pt b27 0), (8, vu y97), (9, vu y92), (10, vi y93)] a ∧ SS Ms κ0 w0 κ w [.box b27 34 [si y28, si y29, eb 4 y30, (8, cs32), ei 21 y33], .box b13 72 [si x10.Kind, si x10.DC, si x10.Shard, si x10.Node, si x10.Mode, sg x10.Key], .box b7 110 [si a1.Now.Pool, si a1.Now.Nodes, eb 4 a1.Now.Members, (8, cs2), ei 21 a1.Now.Modes, sl p3 (a1.Taken).length c4, si a1.Done, si (IntKind.i64.wrap (a1.Epoch + 1)), si a8, eb 4 a1.Wants, sb y36, su a1.Mark, sl p5 (a1.Mail).length c6], .box b15 34 [si v22.1, si v22.2.1, eb 4 v22.2.2.1, (8, cs20), ei 21 v22.2.2.2.2], .tok p3 72 6 (a1.Taken).length c4, .tok p5 106 15 (a1.Mail).length c6] [ml y30 4, Arr.mp t_api_Map cs32 4 y31, ml y33 21, ml a1.Now.Members 4, Arr.mp t_api_Map cs2 4 a1.Now.Maps, ml a1.Now.Modes 21, Ro.mp f_api_Cmd.ty p3 c4 a1.Taken, ml a1.Wants 4, Ro.mp t_api_Mail p5 c6 a1.Mail, ml v22.2.2.1 4, Arr.mp t_api_Map cs20 4 v22.2.2.2.1, ml v22.2.2.2.2 21] ∧ M.ref19_Warden_lay_k4 N (M.ref19_Warden_lay_L3 N fuel3) a1 a8 x10 v22 y28 y29 y30 y31 y33 y36 y92 y93 y97 = some r) ?_ ?_
 refine wpIn_seq_k fun K98 hK98 => ?_
 refine wpIn_region_lit ?_
 refine wl_pure (L' := [(0, pt b7 0), (1, vi a8), (4, pt b13 0), (5, pt b15 0), (7, pt b27 0), (8, vu y91), (9, vu y92), (10, vi y93), (66, vi y93), (67, pt b27 2)]) 2 [0, 1, 4, 5, 7, 8, 9, 10, 66, 67] hF (by kernel_rfl) fun a hF => ?_
 refine bind_split H (fun x99 hx99 H => ?_)
 refine wc (wo_indexArr hF (by kernel_rfl) (E := 4) (sz := 1) (n := 4) rfl rfl (i := y93) rfl (idx_lt hx99 (hS.get 0 rfl)) (by kernel_rfl) (by kernel_rfl) fun a hF => ?_)
 refine wc (wo_loadA1 (t := fBool) hF hS (by kernel_rfl) 0 2 (v := vb x99) rfl rfl rfl rfl hx99 rfl rfl (by kernel_rfl) (by kernel_rfl) fun a hF => ?_)
 refine wpListIn_nil ?_
 refine hK98 _ _ ?_
 refine bif_split H (fun hb H => ?_) (fun hb H => ?_)
 refine cond_t hF (by kernel_rfl) hb ?_
 refine wpIn_region_lit ?_
 refine wp 4 [0, 1, 4, 5, 7, 8, 9, 10] hF fun a hF => ?_
 refine wpListIn_nil ?_
 exact ⟨_, IntKind.u64.wrap (y91 + y92), hF.kp [0, 1, 4, 5, 7, 8, 9, 10], hS.sp (rg 6) (rg 12), H⟩
 refine cond_f hF (by kernel_rfl) hb ?_
 refine wpIn_skip ?_
 exact ⟨_, y91, hF.kp [0, 1, 4, 5, 7, 8, 9, 10], hS.sp (rg 6) (rg 12), H⟩
 rintro a w ⟨κ, y97, hF, hS, H⟩
 unfold M.ref19_Warden_lay_k4 at H
 refine wpIn_region_lit ?_
 refine wp 3 [0, 1, 4, 5, 7, 8, 9, 10] hF fun a hF => ?_
 refine wpListIn_nil ?_
 refine hK96 _ _ ?_
 refine wpIn_region_lit ?_
 refine wp 3 [0, 1, 4, 5, 7, 8, 9, 10] hF fun a hF => ?_
 refine wpListIn_nil ?_
 exact ⟨fuel3, Nat.lt_succ_self _, _, y97, IntKind.u64.wrap (y92 * 2), IntKind.i64.wrap (y93 + 1), hF.kp [0, 1, 4, 5, 7, 8, 9, 10], hS.sp (rg 6) (rg 12), H⟩
 refine cond_f hF (by kernel_rfl) hb ?_
 refine wpIn_exit ?_
 refine hK39 _ _ ?_
 refine wpIn_seq_k fun K100 hK100 => ?_
 refine wpIn_region_lit ?_
 refine wl_pure (L' := [(0, pt b7 0), (1, vi a8), (4, pt b13 0), (5, pt b15 0), (7, pt b27 0), (75, vu y91)]) 1 [0, 1, 4, 5, 7, 75] hF (by kernel_rfl) fun a hF => ?_
 refine wc (wo_buildN (t := (fInt .u64)) (z := vu 0) (l := [y91]) (vs := [(0, vu y91)]) (cells := #[vu y91]) (E := 92) hF hS (by kernel_rfl) rfl (by kernel_rfl) (by kernel_rfl) rfl (by kernel_rfl) (by kernel_rfl) (by kernel_rfl) (by kernel_rfl) (by kernel_rfl) fun p101 κ a w hF hS => ?_)
 refine wp 1 [0, 1, 4, 5, 7, 11] hF fun a hF => ?_
 refine wpListIn_nil ?_
 refine hK100 _ _ ?_
 refine wpIn_seq_k fun K102 hK102 => ?_
 refine wpIn_seq_k fun K103 hK103 => ?_
 refine wpIn_region_lit ?_
 refine wp 1 [0, 1, 4, 5, 7, 11, 12] hF fun a hF => ?_
 refine wpListIn_nil ?_
 refine hK103 _ _ ?_
 refine wpIn_block ?_
 refine loop_fuel (n := N) (fun n a w => ∃ (κ : Gh) (y154 : List Int) (p155 : Option Addr) (c156 : Nat) (y157 : Int), Fr (146) [] [(0, pt b7 0), (1, vi a8), (4, pt b13 0), (5, pt b15 0), (7, pt b27 0), (11, .slice p155 (y154).length c156), (12, vi y157)] a ∧ SS Ms κ0 w0 κ w [.box b27 34 [si y28, si y29, eb 4 y30, (8, cs32), ei 21 y33], .box b13 72 [si x10.Kind, si x10.DC, si x10.Shard, si x10.Node, si x10.Mode, sg x10.Key], .box b7 110 [si a1.Now.Pool, si a1.Now.Nodes, eb 4 a1.Now.Members, (8, cs2), ei 21 a1.Now.Modes, sl p3 (a1.Taken).length c4, si a1.Done, si (IntKind.i64.wrap (a1.Epoch + 1)), si a8, eb 4 a1.Wants, sb y36, su a1.Mark, sl p5 (a1.Mail).length c6], .box b15 34 [si v22.1, si v22.2.1, eb 4 v22.2.2.1, (8, cs20), ei 21 v22.2.2.2.2], .tok p155 92 1 (y154).length c156, .tok p3 72 6 (a1.Taken).length c4, .tok p5 106 15 (a1.Mail).length c6] [Ro.mp (fInt .u64).ty p155 c156 y154, ml y30 4, Arr.mp t_api_Map cs32 4 y31, ml y33 21, ml a1.Now.Members 4, Arr.mp t_api_Map cs2 4 a1.Now.Maps, ml a1.Now.Modes 21, Ro.mp f_api_Cmd.ty p3 c4 a1.Taken, ml a1.Wants 4, Ro.mp t_api_Mail p5 c6 a1.Mail, ml v22.2.2.1 4, Arr.mp t_api_Map cs20 4 v22.2.2.2.1, ml v22.2.2.2.2 21] ∧ M.ref19_Warden_lay_L5 N n a1 a8 x10 v22 y28 y29 y30 y31 y33 y36 y154 y157 = some r) ?_ ?_
 exact ⟨_, [y91], p101, 1, 0, hF.kp [0, 1, 4, 5, 7, 11, 12], hS.sp [1, 2, 3, 4, 0, 5, 6] (rg 13), H⟩
 rintro n a w ⟨κ, y154, p155, c156, y157, hF, hS, H⟩
 rcases n with _ | fuel5
 simp [M.ref19_Warden_lay_L5] at H
 simp only [M.ref19_Warden_lay_L5] at H
 refine wpIn_seq_k fun K158 hK158 => ?_
 refine wpIn_seq_k fun K159 hK159 => ?_
 refine wpIn_region_lit ?_
 refine wp 2 [0, 1, 4, 5, 7, 11, 12, 78] hF fun a hF => ?_
 refine wpListIn_nil ?_
 refine hK159 _ _ ?_
 refine bif_split H (fun hb H => ?_) (fun hb H => ?_)
 refine cond_t hF (by kernel_rfl) hb ?_
 refine wpIn_skip ?_
 refine hK158 _ _ ?_
 refine wpIn_seq_k fun K160 hK160 => ?_
 refine wpIn_block ?_
 refine wpIn_region_lit ?_
 refine wl_pure (L' := [(0, pt b7 0), (1, vi a8), (4, pt b13 0), (5, pt b15 0), (7, pt b27 0), (12, vi y157), (81, .slice p155 (y154).length c156), (82, vi y157), (83, pt b27 14)]) 3 [0, 1, 4, 5, 7, 12, 81, 82, 83] hF (by kernel_rfl) fun a hF => ?_
 refine bind_split H (fun x161 hx161 H => ?_)
 refine wc (wo_indexArr hF (by kernel_rfl) (E := 3) (sz := 1) (n := 21) rfl rfl (i := y157) rfl (idx_lt hx161 (hS.get 3 rfl)) (by kernel_rfl) (by kernel_rfl) fun a hF => ?_)
 refine wc (wo_loadA1 (t := (fInt .i64)) hF hS (by kernel_rfl) 0 4 (v := vi x161) rfl rfl rfl rfl hx161 rfl rfl (by kernel_rfl) (by kernel_rfl) fun a hF => ?_)
 refine wl_pure (L' := [(0, pt b7 0), (1, vi a8), (4, pt b13 0), (5, pt b15 0), (7, pt b27 0), (12, vi y157), (81, .slice p155 (y154).length c156), (86, vu (IntKind.u64.wrap x161))]) 1 [0, 1, 4, 5, 7, 12, 81, 86] hF (by kernel_rfl) fun a hF => ?_
 refine wc (wo_buildN (t := (fInt .u64)) (z := vu 0) (l := [IntKind.u64.wrap x161]) (vs := [(0, vu (IntKind.u64.wrap x161))]) (cells := #[vu (IntKind.u64.wrap x161)]) (E := 92) hF hS (by kernel_rfl) rfl (by kernel_rfl) (by kernel_rfl) rfl (by kernel_rfl) (by kernel_rfl) (by kernel_rfl) (by kernel_rfl) (by kernel_rfl) fun p162 κ a w hF hS => ?_)
 refine bind_split H (fun x163 hx163 H => ?_)
 refine wc (wo_append (ty := (fInt .u64).ty) hF hS (by kernel_rfl) 5 1 0 rfl rfl rfl (by kernel_rfl) (by kernel_rfl) rfl rfl rfl hx163 (by kernel_rfl) (i := Try.t92) (z := vu 0) (by kernel_rfl) (by kernel_rfl) (by kernel_rfl) fun p164 c165 κ a w hF hS => ?_)
 refine wp 1 [0, 1, 4, 5, 7, 11, 12] hF fun a hF => ?_
 refine wpListIn_nil ?_
 refine hK160 _ _ ?_
 refine wpIn_region_lit ?_
 refine wp 3 [0, 1, 4, 5, 7, 11, 12] hF fun a hF => ?_
 refine wpListIn_nil ?_
 exact ⟨fuel5, Nat.lt_succ_self _, _, x163, p164, c165, IntKind.i64.wrap (y157 + 1), hF.kp [0, 1, 4, 5, 7, 11, 12], hS.sp [1, 2, 3, 4, 5, 6, 7] [0, 3, 4, 5, 6, 7, 8, 9, 10, 11, 12, 13, 14], H⟩
 refine cond_f hF (by kernel_rfl) hb ?_
 refine wpIn_exit ?_
 refine hK102 _ _ ?_
 refine wpIn_seq_k fun K166 hK166 => ?_
 refine wpIn_region_lit ?_
 refine wp 1 [0, 1, 4, 5, 11, 13] hF fun a hF => ?_
 refine wpListIn_nil ?_
 refine hK166 _ _ ?_
 refine wpIn_block ?_
 refine loop_fuel (n := N) (fun n a w => ∃ (κ : Gh) (y217 : List Bool) (y218 : List T_api_Mail) (p219 : Option Addr) (c220 : Nat) (y221 : Int), Fr (146) [] [(0, pt b7 0), (1, vi a8), (4, pt b13 0), (5, pt b15 0), (11, .slice p155 (y154).length c156), (13, vi y221)] a ∧ SS Ms κ0 w0 κ w [.box b13 72 [si x10.Kind, si x10.DC, si x10.Shard, si x10.Node, si x10.Mode, sg x10.Key], .box b7 110 [si a1.Now.Pool, si a1.Now.Nodes, eb 4 a1.Now.Members, (8, cs2), ei 21 a1.Now.Modes, sl p3 (a1.Taken).length c4, si a1.Done, si (IntKind.i64.wrap (a1.Epoch + 1)), si a8, eb 4 y217, sb y36, su a1.Mark, sl p219 (y218).length c220], .box b15 34 [si v22.1, si v22.2.1, eb 4 v22.2.2.1, (8, cs20), ei 21 v22.2.2.2.2], .tok p219 106 15 (y218).length c220, .tok p155 92 1 (y154).length c156, .tok p3 72 6 (a1.Taken).length c4] [Ro.mp (fInt .u64).ty p155 c156 y154, ml a1.Now.Members 4, Arr.mp t_api_Map cs2 4 a1.Now.Maps, ml a1.Now.Modes 21, Ro.mp f_api_Cmd.ty p3 c4 a1.Taken, ml y217 4, Ro.mp t_api_Mail p219 c220 y218, ml v22.2.2.1 4, Arr.mp t_api_Map cs20 4 v22.2.2.2.1, ml v22.2.2.2.2 21] ∧ M.ref19_Warden_lay_L6 N n a1 a8 x10 v22 y36 y154 y217 y218 y221 = some r) ?_ ?_
 exact ⟨_, a1.Wants, a1.Mail, p5, c6, 0, hF.kp [0, 1, 4, 5, 11, 13], hS.sp [1, 2, 3, 6, 4, 5] [0, 4, 5, 6, 7, 8, 9, 10, 11, 12], H⟩
 rintro n a w ⟨κ, y217, y218, p219, c220, y221, hF, hS, H⟩
 rcases n with _ | fuel6
 simp [M.ref19_Warden_lay_L6] at H
 simp only [M.ref19_Warden_lay_L6] at H
 refine wpIn_seq_k fun K222 hK222 => ?_
 refine wpIn_seq_k fun K223 hK223 => ?_
 refine wpIn_region_lit ?_
 refine wp 2 [0, 1, 4, 5, 11, 13, 90] hF fun a hF => ?_
 refine wpListIn_nil ?_
 refine hK223 _ _ ?_
 refine bif_split H (fun hb H => ?_) (fun hb H => ?_)
 refine cond_t hF (by kernel_rfl) hb ?_
 refine wpIn_skip ?_
 refine hK222 _ _ ?_
 refine seq_join (fun a w => ∃ (κ : Gh) (y224 : List Bool) (y225 : List T_api_Mail) (p226 : Option Addr) (c227 : Nat), Fr (146) [] [(0, pt b7 0), (1, vi a8), (4, pt b13 0), (5, pt b15 0), (11, .slice p155 (y154).length c156), (13, vi y221)] a ∧ SS Ms κ0 w0 κ w [.box b13 72 [si x10.Kind, si x10.DC, si x10.Shard, si x10.Node, si x10.Mode, sg x10.Key], .box b7 110 [si a1.Now.Pool, si a1.Now.Nodes, eb 4 a1.Now.Members, (8, cs2), ei 21 a1.Now.Modes, sl p3 (a1.Taken).length c4, si a1.Done, si (IntKind.i64.wrap (a1.Epoch + 1)), si a8, eb 4 y224, sb y36, su a1.Mark, sl p226 (y225).length c227], .box b15 34 [si v22.1, si v22.2.1, eb 4 v22.2.2.1, (8, cs20), ei 21 v22.2.2.2.2], .tok p226 106 15 (y225).length c227, .tok p155 92 1 (y154).length c156, .tok p3 72 6 (a1.Taken).length c4] [Ro.mp (fInt .u64).ty p155 c156 y154, ml a1.Now.Members 4, Arr.mp t_api_Map cs2 4 a1.Now.Maps, ml a1.Now.Modes 21, Ro.mp f_api_Cmd.ty p3 c4 a1.Taken, ml y224 4, Ro.mp t_api_Mail p226 c227 y225, ml v22.2.2.1 4, Arr.mp t_api_Map cs20 4 v22.2.2.2.1, ml v22.2.2.2.2 21] ∧ M.ref19_Warden_lay_k7 N (M.ref19_Warden_lay_L6 N fuel6) a1 a8 x10 v22 y36 y154 y221 y224 y225 = some r) ?_ ?_
 refine wpIn_block ?_
 refine wpIn_seq_k fun K228 hK228 => ?_
 refine wpIn_region_lit ?_
 refine bind_split H (fun v230 hv230 H => ?_)
 refine wl_join (fun a w => ∃ κ : Gh, Fr (146) [] [(0, pt b7 0), (1, vi a8), (4, pt b13 0), (5, pt b15 0), (11, .slice p155 (y154).length c156), (13, vi y221), (105, vb v230)] a ∧ SS Ms κ0 w0 κ w [.box b13 72 [si x10.Kind, si x10.DC, si x10.Shard, si x10.Node, si x10.Mode, sg x10.Key], .box b7 110 [si a1.Now.Pool, si a1.Now.Nodes, eb 4 a1.Now.Members, (8, cs2), ei 21 a1.Now.Modes, sl p3 (a1.Taken).length c4, si a1.Done, si (IntKind.i64.wrap (a1.Epoch + 1)), si a8, eb 4 y217, sb y36, su a1.Mark, sl p219 (y218).length c220], .box b15 34 [si v22.1, si v22.2.1, eb 4 v22.2.2.1, (8, cs20), ei 21 v22.2.2.2.2], .tok p219 106 15 (y218).length c220, .tok p155 92 1 (y154).length c156, .tok p3 72 6 (a1.Taken).length c4] [Ro.mp (fInt .u64).ty p155 c156 y154, ml a1.Now.Members 4, Arr.mp t_api_Map cs2 4 a1.Now.Maps, ml a1.Now.Modes 21, Ro.mp f_api_Cmd.ty p3 c4 a1.Taken, ml y217 4, Ro.mp t_api_Mail p219 c220 y218, ml v22.2.2.1 4, Arr.mp t_api_Map cs20 4 v22.2.2.2.1, ml v22.2.2.2.2 21] ∧ True) ?_ ?_
 refine wl_pure (L' := [(0, pt b7 0), (1, vi a8), (4, pt b13 0), (5, pt b15 0), (11, .slice p155 (y154).length c156), (13, vi y221), (94, vi y221), (97, pt b7 2)]) 5 [0, 1, 4, 5, 11, 13, 94, 97] hF (by kernel_rfl) fun a hF => ?_
 refine bind_split hv230 (fun x231 hx231 hv230 => ?_)
 refine wc (wo_indexArr hF (by kernel_rfl) (E := 4) (sz := 1) (n := 4) rfl rfl (i := y221) rfl (idx_lt hx231 (hS.get 1 rfl)) (by kernel_rfl) (by kernel_rfl) fun a hF => ?_)
 refine wc (wo_loadA1 (t := fBool) hF hS (by kernel_rfl) 1 2 (v := vb x231) rfl rfl rfl rfl hx231 rfl rfl (by kernel_rfl) (by kernel_rfl) fun a hF => ?_)
 refine wp 1 [0, 1, 4, 5, 11, 13, 100] hF fun a hF => ?_
 refine bif_split hv230 (fun hb hv230 => ?_) (fun hb hv230 => ?_)
 have hF := hF.boolv 100 (by kernel_rfl) hb
 refine wp 5 [0, 1, 4, 5, 11, 13, 105] hF fun a hF => ?_
 refine wpListIn_nil ?_
 cases hv230
 exact ⟨_, hF.kp [0, 1, 4, 5, 11, 13, 105], hS.sp (rg 6) (rg 10), trivial⟩
 have hF := hF.boolv 100 (by kernel_rfl) hb
 refine wl_pure (L' := [(0, pt b7 0), (1, vi a8), (4, pt b13 0), (5, pt b15 0), (11, .slice p155 (y154).length c156), (13, vi y221), (100, vb false), (101, vi y221), (102, pt b15 2)]) 2 [0, 1, 4, 5, 11, 13, 100, 101, 102] hF (by kernel_rfl) fun a hF => ?_
 refine bind_split hv230 (fun x232 hx232 hv230 => ?_)
 refine wcg hF (wo_indexArr hF (by kernel_rfl) (E := 4) (sz := 1) (n := 4) rfl rfl (i := y221) rfl (idx_lt hx232 (hS.get 7 rfl)) (by kernel_rfl) (by kernel_rfl) fun a hF => ?_)
 refine wcg hF (wo_loadA1 (t := fBool) hF hS (by kernel_rfl) 2 2 (v := vb x232) rfl rfl rfl rfl hx232 rfl rfl (by kernel_rfl) (by kernel_rfl) fun a hF => ?_)
 refine wp 1 [0, 1, 4, 5, 11, 13, 105] hF fun a hF => ?_
 refine wpListIn_nil ?_
 cases hv230
 exact ⟨_, hF.kp [0, 1, 4, 5, 11, 13, 105], hS.sp (rg 6) (rg 10), trivial⟩
 rintro a w ⟨κ, hF, hS, -⟩
 refine hK228 _ _ ?_
 refine bif_split H (fun hb H => ?_) (fun hb H => ?_)
 refine cond_t hF (by kernel_rfl) hb ?_
 refine wpIn_seq_k fun K233 hK233 => ?_
 refine bind_split H (fun v237 hv237 H => ?_)
 refine code_join (fun a w => ∃ (κ : Gh) (p235 : Option Addr) (c236 : Nat), Fr (146) [] [(0, pt b7 0), (1, vi a8), (4, pt b13 0), (5, pt b15 0), (11, .slice p155 (y154).length c156), (13, vi y221)] a ∧ SS Ms κ0 w0 κ w [.box b13 72 [si x10.Kind, si x10.DC, si x10.Shard, si x10.Node, si x10.Mode, sg x10.Key], .box b7 110 [si a1.Now.Pool, si a1.Now.Nodes, eb 4 a1.Now.Members, (8, cs2), ei 21 a1.Now.Modes, sl p3 (a1.Taken).length c4, si a1.Done, si (IntKind.i64.wrap (a1.Epoch + 1)), si a8, eb 4 y217, sb y36, su a1.Mark, sl p235 (v237).length c236], .box b15 34 [si v22.1, si v22.2.1, eb 4 v22.2.2.1, (8, cs20), ei 21 v22.2.2.2.2], .tok p235 106 15 (v237).length c236, .tok p155 92 1 (y154).length c156, .tok p3 72 6 (a1.Taken).length c4] [Ro.mp (fInt .u64).ty p155 c156 y154, ml a1.Now.Members 4, Arr.mp t_api_Map cs2 4 a1.Now.Maps, ml a1.Now.Modes 21, Ro.mp f_api_Cmd.ty p3 c4 a1.Taken, ml y217 4, Ro.mp t_api_Mail p235 c236 v237, ml v22.2.2.1 4, Arr.mp t_api_Map cs20 4 v22.2.2.2.1, ml v22.2.2.2.2 21] ∧ True) ?_ ?_
 refine rgS hS [24] ?_
 have hS := hS.drew
 refine bind_split hv237 (fun x238 hx238 hv237 => ?_)
 refine bind_split hv237 (fun x240 hx240 hv237 => ?_)
 refine bind_split hv237 (fun x244 hx244 hv237 => ?_)
 refine anp [0, 1, 2, 3, 5, 7, 8, 9, 12, 13, 15] [0, 1, 4, 5, 11, 13, 106, 109, 111, 115, 119, 121] hF (hS.sx [0, 1, 2] (rg 10)) fun a hF => ?_
 refine atk 4 (some 110) hF (hS.sx [0, 1, 2] (rg 10)) rfl (vld 1 12 0) fun a hF => ?_
 refine atk 10 (some 116) hF (hS.sx [0, 1, 2] (rg 10)) rfl (vld 1 7 0) fun a hF => ?_
 refine any_pure [11] [0, 1, 4, 5, 11, 13, 106, 110, 111, 117, 119, 121] (L' := [(0, pt b7 0), (1, vi a8), (4, pt b13 0), (5, pt b15 0), (11, .slice p155 (y154).length c156), (13, vi y221), (106, pt b7 0), (110, .slice p219 (y218).length c220), (111, vi y221), (117, vu (IntKind.u64.wrap (IntKind.i64.wrap (a1.Epoch + 1)))), (119, vu (IntKind.u64.wrap a8)), (121, .slice p155 (y154).length c156)]) (listed' := (bitA 25 49087)) (fuel := 11) hF (hS.sx [0, 1, 2] (rg 10)) (by kernel_rfl) (by intro c a w t v h; cases t <;> exact h) (by kernel_rfl) rfl fun a hF => ?_
 refine atk 17 (some 123) hF (hS.sx [0, 1, 2] (rg 10)) rfl (vls 0 0 6) fun a hF => ?_
 refine ago2 6 14 hF rfl rfl ?_ ?_
 refine wo_callP hF hS (by kernel_rfl) (by kernel_rfl) (C_ref18_Gate N hS.fresh y221  ((hS.pick [] (by kernel_rfl)).ro) hx238) ?_
 rintro _ κ w a ⟨rfl, hR, hN⟩ hF hS hO
 refine ⟨fun _ => (hS.sx [0, 1, 2] (rg 10)), ?_⟩
 refine ago 14 hF rfl ?_
 refine wo_build0 hF hS (by kernel_rfl) (fInt .u64).ty (E := 92) rfl (by kernel_rfl) (by kernel_rfl) fun p239 κ a w hF hS => ?_
 refine ⟨fun _ => (hS.sx [1, 2, 3] [1, 2, 3, 4, 5, 6, 7, 8, 9, 10]), ?_⟩
 refine ago 16 hF rfl ?_
 refine wo_append (ty := (fInt .u64).ty) hF hS (by kernel_rfl) 0 0 1 rfl rfl rfl (by kernel_rfl) (by kernel_rfl) rfl rfl rfl hx240 (by kernel_rfl) (i := Try.t92) (z := vu 0) (by kernel_rfl) (by kernel_rfl) (by kernel_rfl) fun p241 c242 κ a w hF hS => ?_
 refine ⟨fun _ => (hS.sx [1, 2, 3] [2, 3, 4, 5, 6, 7, 8, 9, 10, 11]), ?_⟩
 refine any_pure [18, 19] [0, 1, 4, 5, 11, 13, 106, 110, 125] (L' := [(0, pt b7 0), (1, vi a8), (4, pt b13 0), (5, pt b15 0), (11, .slice p155 (y154).length c156), (13, vi y221), (106, pt b7 0), (110, .slice p219 (y218).length c220), (125, .agg (flat [si x238, si 21, su (IntKind.u64.wrap (IntKind.i64.wrap (a1.Epoch + 1))), su (IntKind.u64.wrap a8), su 0, sg ByteArray.empty, sg ByteArray.empty, sl none 0 0, sl p241 (x240).length c242, si x10.Kind, si x10.DC, si x10.Shard, si x10.Node, si x10.Mode, sg x10.Key]).toArray)]) (listed' := (bitA 25 1048575)) (fuel := 5) hF (hS.sx [1, 2, 3] [2, 3, 4, 5, 6, 7, 8, 9, 10, 11]) (by kernel_rfl) (by intro c a w t v h; cases t <;> exact h) (by kernel_rfl) rfl fun a hF => ?_
 refine ago 20 hF rfl ?_
 have hS := hS.add (m := Ro.mp f_api_Ver.ty none 0 ([] : List T_api_Ver)) (Ro.nil f_api_Ver.ty _ _)
 refine wo_build1 (t := t_api_Mail) (y := (T_api_Mail.mk x238 (T_api_Msg.mk 21 (IntKind.u64.wrap (IntKind.i64.wrap (a1.Epoch + 1))) (IntKind.u64.wrap a8) 0 ByteArray.empty ByteArray.empty ([] : List T_api_Ver) x240 (T_api_Cmd.mk x10.Kind x10.DC x10.Shard x10.Node x10.Mode x10.Key)))) (v := .agg (flat [si x238, si 21, su (IntKind.u64.wrap (IntKind.i64.wrap (a1.Epoch + 1))), su (IntKind.u64.wrap a8), su 0, sg ByteArray.empty, sg ByteArray.empty, sl none 0 0, sl p241 (x240).length c242, si x10.Kind, si x10.DC, si x10.Shard, si x10.Node, si x10.Mode, sg x10.Key]).toArray) (z := .agg (flat [si 0, si 0, su 0, su 0, su 0, sg ByteArray.empty, sg ByteArray.empty, sl none 0 0, sl none 0 0, si 0, si 0, si 0, si 0, si 0, sg ByteArray.empty]).toArray) (cells := (flat [si x238, si 21, su (IntKind.u64.wrap (IntKind.i64.wrap (a1.Epoch + 1))), su (IntKind.u64.wrap a8), su 0, sg ByteArray.empty, sg ByteArray.empty, sl none 0 0, sl p241 (x240).length c242, si x10.Kind, si x10.DC, si x10.Shard, si x10.Node, si x10.Mode, sg x10.Key]).toArray) (E := 106) hF hS (by kernel_rfl) rfl (by kernel_rfl) ⟨(none, 0, p241, c242), rfl, (hS.pick [0, 1] (by kernel_rfl)).ro⟩ (by kernel_rfl) (by kernel_rfl) (by kernel_rfl) (by kernel_rfl) (by kernel_rfl) fun p243 κ a w hF hS => ?_
 refine ⟨fun _ => (hS.sx [2, 3, 4] [4, 5, 6, 7, 8, 9, 10, 11, 12, 13]), ?_⟩
 refine ago 21 hF rfl ?_
 refine wo_append (ty := t_api_Mail) hF hS (by kernel_rfl) 5 10 0 rfl rfl rfl (by kernel_rfl) (by kernel_rfl) rfl rfl rfl hx244 (by kernel_rfl) (i := Try.t106) (z := .agg (flat [si 0, si 0, su 0, su 0, su 0, sg ByteArray.empty, sg ByteArray.empty, sl none 0 0, sl none 0 0, si 0, si 0, si 0, si 0, si 0, sg ByteArray.empty]).toArray) (by kernel_rfl) (by kernel_rfl) (by kernel_rfl) fun p245 c246 κ a w hF hS => ?_
 refine ⟨fun _ => (hS.sx [2, 3, 4] [5, 6, 7, 8, 9, 10, 11, 12, 13, 14]), ?_⟩
 refine anp [22, 23] [0, 1, 4, 5, 11, 13, 127, 129] hF (hS.sx [2, 3, 4] [5, 6, 7, 8, 9, 10, 11, 12, 13, 14]) fun a hF => ?_
 refine ago 24 hF rfl ?_
 refine wst hF hS 3 12 1 [sl p245 (x244).length c246] (sgN 1 sgNil) fun a w hF hS => ?_
 refine ⟨notE, ?_⟩
 refine and_ ?_
 cases hv237
 exact ⟨_, p245, c246, hF.kp [0, 1, 4, 5, 11, 13], hS.sp [2, 3, 4, 5, 6, 7] [5, 6, 7, 8, 9, 10, 0, 12, 13, 14], trivial⟩
 refine wo_build0 hF hS (by kernel_rfl) (fInt .u64).ty (E := 92) rfl (by kernel_rfl) (by kernel_rfl) fun p239 κ a w hF hS => ?_
 refine ⟨fun _ => (hS.sx [1, 2, 3] [1, 2, 3, 4, 5, 6, 7, 8, 9, 10]), ?_⟩
 refine ago 6 hF rfl ?_
 refine wo_callP hF hS (by kernel_rfl) (by kernel_rfl) (C_ref18_Gate N hS.fresh y221  ((hS.pick [] (by kernel_rfl)).ro) hx238) ?_
 rintro _ κ w a ⟨rfl, hR, hN⟩ hF hS hO
 refine ⟨fun _ => (hS.sx [1, 2, 3] [1, 2, 3, 4, 5, 6, 7, 8, 9, 10]), ?_⟩
 refine ago 16 hF rfl ?_
 refine wo_append (ty := (fInt .u64).ty) hF hS (by kernel_rfl) 0 0 1 rfl rfl rfl (by kernel_rfl) (by kernel_rfl) rfl rfl rfl hx240 (by kernel_rfl) (i := Try.t92) (z := vu 0) (by kernel_rfl) (by kernel_rfl) (by kernel_rfl) fun p241 c242 κ a w hF hS => ?_
 refine ⟨fun _ => (hS.sx [1, 2, 3] [2, 3, 4, 5, 6, 7, 8, 9, 10, 11]), ?_⟩
 refine any_pure [18, 19] [0, 1, 4, 5, 11, 13, 106, 110, 125] (L' := [(0, pt b7 0), (1, vi a8), (4, pt b13 0), (5, pt b15 0), (11, .slice p155 (y154).length c156), (13, vi y221), (106, pt b7 0), (110, .slice p219 (y218).length c220), (125, .agg (flat [si x238, si 21, su (IntKind.u64.wrap (IntKind.i64.wrap (a1.Epoch + 1))), su (IntKind.u64.wrap a8), su 0, sg ByteArray.empty, sg ByteArray.empty, sl none 0 0, sl p241 (x240).length c242, si x10.Kind, si x10.DC, si x10.Shard, si x10.Node, si x10.Mode, sg x10.Key]).toArray)]) (listed' := (bitA 25 1048575)) (fuel := 5) hF (hS.sx [1, 2, 3] [2, 3, 4, 5, 6, 7, 8, 9, 10, 11]) (by kernel_rfl) (by intro c a w t v h; cases t <;> exact h) (by kernel_rfl) rfl fun a hF => ?_
 refine ago 20 hF rfl ?_
 have hS := hS.add (m := Ro.mp f_api_Ver.ty none 0 ([] : List T_api_Ver)) (Ro.nil f_api_Ver.ty _ _)
 refine wo_build1 (t := t_api_Mail) (y := (T_api_Mail.mk x238 (T_api_Msg.mk 21 (IntKind.u64.wrap (IntKind.i64.wrap (a1.Epoch + 1))) (IntKind.u64.wrap a8) 0 ByteArray.empty ByteArray.empty ([] : List T_api_Ver) x240 (T_api_Cmd.mk x10.Kind x10.DC x10.Shard x10.Node x10.Mode x10.Key)))) (v := .agg (flat [si x238, si 21, su (IntKind.u64.wrap (IntKind.i64.wrap (a1.Epoch + 1))), su (IntKind.u64.wrap a8), su 0, sg ByteArray.empty, sg ByteArray.empty, sl none 0 0, sl p241 (x240).length c242, si x10.Kind, si x10.DC, si x10.Shard, si x10.Node, si x10.Mode, sg x10.Key]).toArray) (z := .agg (flat [si 0, si 0, su 0, su 0, su 0, sg ByteArray.empty, sg ByteArray.empty, sl none 0 0, sl none 0 0, si 0, si 0, si 0, si 0, si 0, sg ByteArray.empty]).toArray) (cells := (flat [si x238, si 21, su (IntKind.u64.wrap (IntKind.i64.wrap (a1.Epoch + 1))), su (IntKind.u64.wrap a8), su 0, sg ByteArray.empty, sg ByteArray.empty, sl none 0 0, sl p241 (x240).length c242, si x10.Kind, si x10.DC, si x10.Shard, si x10.Node, si x10.Mode, sg x10.Key]).toArray) (E := 106) hF hS (by kernel_rfl) rfl (by kernel_rfl) ⟨(none, 0, p241, c242), rfl, (hS.pick [0, 1] (by kernel_rfl)).ro⟩ (by kernel_rfl) (by kernel_rfl) (by kernel_rfl) (by kernel_rfl) (by kernel_rfl) fun p243 κ a w hF hS => ?_
 refine ⟨fun _ => (hS.sx [2, 3, 4] [4, 5, 6, 7, 8, 9, 10, 11, 12, 13]), ?_⟩
 refine ago 21 hF rfl ?_
 refine wo_append (ty := t_api_Mail) hF hS (by kernel_rfl) 5 10 0 rfl rfl rfl (by kernel_rfl) (by kernel_rfl) rfl rfl rfl hx244 (by kernel_rfl) (i := Try.t106) (z := .agg (flat [si 0, si 0, su 0, su 0, su 0, sg ByteArray.empty, sg ByteArray.empty, sl none 0 0, sl none 0 0, si 0, si 0, si 0, si 0, si 0, sg ByteArray.empty]).toArray) (by kernel_rfl) (by kernel_rfl) (by kernel_rfl) fun p245 c246 κ a w hF hS => ?_
 refine ⟨fun _ => (hS.sx [2, 3, 4] [5, 6, 7, 8, 9, 10, 11, 12, 13, 14]), ?_⟩
 refine anp [22, 23] [0, 1, 4, 5, 11, 13, 127, 129] hF (hS.sx [2, 3, 4] [5, 6, 7, 8, 9, 10, 11, 12, 13, 14]) fun a hF => ?_
 refine ago 24 hF rfl ?_
 refine wst hF hS 3 12 1 [sl p245 (x244).length c246] (sgN 1 sgNil) fun a w hF hS => ?_
 refine ⟨notE, ?_⟩
 refine and_ ?_
 cases hv237
 exact ⟨_, p245, c246, hF.kp [0, 1, 4, 5, 11, 13], hS.sp [2, 3, 4, 5, 6, 7] [5, 6, 7, 8, 9, 10, 0, 12, 13, 14], trivial⟩
 rintro a w ⟨κ, p235, c236, hF, hS, -⟩
 refine hK233 _ _ ?_
 refine bind_split H (fun v248 hv248 H => ?_)
 refine code_join (fun a w => ∃ κ : Gh, Fr (146) [] [(0, pt b7 0), (1, vi a8), (4, pt b13 0), (5, pt b15 0), (11, .slice p155 (y154).length c156), (13, vi y221)] a ∧ SS Ms κ0 w0 κ w [.box b13 72 [si x10.Kind, si x10.DC, si x10.Shard, si x10.Node, si x10.Mode, sg x10.Key], .box b7 110 [si a1.Now.Pool, si a1.Now.Nodes, eb 4 a1.Now.Members, (8, cs2), ei 21 a1.Now.Modes, sl p3 (a1.Taken).length c4, si a1.Done, si (IntKind.i64.wrap (a1.Epoch + 1)), si a8, eb 4 v248, sb y36, su a1.Mark, sl p235 (v237).length c236], .box b15 34 [si v22.1, si v22.2.1, eb 4 v22.2.2.1, (8, cs20), ei 21 v22.2.2.2.2], .tok p235 106 15 (v237).length c236, .tok p155 92 1 (y154).length c156, .tok p3 72 6 (a1.Taken).length c4] [Ro.mp (fInt .u64).ty p155 c156 y154, ml a1.Now.Members 4, Arr.mp t_api_Map cs2 4 a1.Now.Maps, ml a1.Now.Modes 21, Ro.mp f_api_Cmd.ty p3 c4 a1.Taken, ml v248 4, Ro.mp t_api_Mail p235 c236 v237, ml v22.2.2.1 4, Arr.mp t_api_Map cs20 4 v22.2.2.2.1, ml v22.2.2.2.2 21] ∧ True) ?_ ?_
 refine rgS hS [16] ?_
 have hS := hS.drew
 refine anp [0, 1, 2, 3, 4, 13, 14] [0, 1, 4, 5, 11, 13, 131, 134, 144] hF (hS.sx [0, 1, 2] (rg 10)) fun a hF => ?_
 refine bif_split hv248 (fun hb hv248 => ?_) (fun hb hv248 => ?_)
 have hF := hF.boolv 134 (by kernel_rfl) hb
 refine any_pure [5, 6, 7, 8, 9, 10, 11, 12] [0, 1, 4, 5, 11, 13, 131, 142, 144] (L' := [(0, pt b7 0), (1, vi a8), (4, pt b13 0), (5, pt b15 0), (11, .slice p155 (y154).length c156), (13, vi y221), (131, vi y221), (142, vb true), (144, pt b7 39)]) (listed' := (bitA 17 32767)) (fuel := 2) hF (hS.sx [0, 1, 2] (rg 10)) (by kernel_rfl) (by intro c a w t v h; cases t <;> exact h) (by kernel_rfl) rfl fun a hF => ?_
 refine bind_split hv248 (fun x249 hx249 hv248 => ?_)
 refine atk 15 (some 145) hF (hS.sx [0, 1, 2] (rg 10)) rfl (fun w _ => val_indexArr (E := 4) (sz := 1) (n := 4) rfl rfl (i := y221) rfl (idx_lt hx249 (hS.get 5 rfl)) (by kernel_rfl) (by kernel_rfl) w) fun a hF => ?_
 refine ago 16 hF rfl ?_
 refine wo_storeA1 (t := fBool) (y := true) (v := vb true) hF hS (by kernel_rfl) 1 9 (s' := [si a1.Now.Pool, si a1.Now.Nodes, eb 4 a1.Now.Members, (8, cs2), ei 21 a1.Now.Modes, sl p3 (a1.Taken).length c4, si a1.Done, si (IntKind.i64.wrap (a1.Epoch + 1)), si a8, eb 4 (List.set y217 (Int.toNat y221) true), sb y36, su a1.Mark, sl p235 (v237).length c236]) (C' := [.box b13 72 [si x10.Kind, si x10.DC, si x10.Shard, si x10.Node, si x10.Mode, sg x10.Key], .box b7 110 [si a1.Now.Pool, si a1.Now.Nodes, eb 4 a1.Now.Members, (8, cs2), ei 21 a1.Now.Modes, sl p3 (a1.Taken).length c4, si a1.Done, si (IntKind.i64.wrap (a1.Epoch + 1)), si a8, eb 4 (List.set y217 (Int.toNat y221) true), sb y36, su a1.Mark, sl p235 (v237).length c236], .box b15 34 [si v22.1, si v22.2.1, eb 4 v22.2.2.1, (8, cs20), ei 21 v22.2.2.2.2], .tok p235 106 15 (v237).length c236, .tok p155 92 1 (y154).length c156, .tok p3 72 6 (a1.Taken).length c4]) rfl rfl (by kernel_rfl) rfl rfl hx249 rfl rfl (by kernel_rfl) (by kernel_rfl) (by kernel_rfl) (by kernel_rfl) fun a w hF hS => ?_
 have hS := hS.add (m := ml (List.set y217 (Int.toNat y221) true) 4) (List.length_set.trans (hS.get 5 rfl))
 refine ⟨notE, ?_⟩
 refine and_ ?_
 cases hv248
 exact ⟨_, hF.kp [0, 1, 4, 5, 11, 13], hS.sp (rg 6) [1, 2, 3, 4, 5, 0, 7, 8, 9, 10], trivial⟩
 have hF := hF.boolv 134 (by kernel_rfl) hb
 refine any_pure [5, 6, 7, 8, 9] [0, 1, 4, 5, 11, 13, 131, 134, 136, 139, 144] (L' := [(0, pt b7 0), (1, vi a8), (4, pt b13 0), (5, pt b15 0), (11, .slice p155 (y154).length c156), (13, vi y221), (131, vi y221), (134, vb false), (136, vi y221), (139, pt b7 2), (144, pt b7 39)]) (listed' := (bitA 17 25599)) (fuel := 5) hF (hS.sx [0, 1, 2] (rg 10)) (by kernel_rfl) (by intro c a w t v h; cases t <;> exact h) (by kernel_rfl) rfl fun a hF => ?_
 refine bind_split hv248 (fun x250 hx250 hv248 => ?_)
 refine atk 10 (some 140) hF (hS.sx [0, 1, 2] (rg 10)) rfl (fun w _ => val_indexArr (E := 4) (sz := 1) (n := 4) rfl rfl (i := y221) rfl (idx_lt hx250 (hS.get 1 rfl)) (by kernel_rfl) (by kernel_rfl) w) fun a hF => ?_
 refine atk 11 (some 141) hF (hS.sx [0, 1, 2] (rg 10)) rfl (val_loadA1 (t := fBool) 1 2 (v := vb x250) rfl rfl rfl rfl hx250 rfl rfl (by kernel_rfl) (by kernel_rfl)) fun a hF => ?_
 refine any_pure [12] [0, 1, 4, 5, 11, 13, 131, 142, 144] (L' := [(0, pt b7 0), (1, vi a8), (4, pt b13 0), (5, pt b15 0), (11, .slice p155 (y154).length c156), (13, vi y221), (131, vi y221), (142, vb x250), (144, pt b7 39)]) (listed' := (bitA 17 32767)) (fuel := 2) hF (hS.sx [0, 1, 2] (rg 10)) (by kernel_rfl) (by intro c a w t v h; cases t <;> exact h) (by kernel_rfl) rfl fun a hF => ?_
 refine bind_split hv248 (fun x251 hx251 hv248 => ?_)
 refine atk 15 (some 145) hF (hS.sx [0, 1, 2] (rg 10)) rfl (fun w _ => val_indexArr (E := 4) (sz := 1) (n := 4) rfl rfl (i := y221) rfl (idx_lt hx251 (hS.get 5 rfl)) (by kernel_rfl) (by kernel_rfl) w) fun a hF => ?_
 refine ago 16 hF rfl ?_
 refine wo_storeA1 (t := fBool) (y := x250) (v := vb x250) hF hS (by kernel_rfl) 1 9 (s' := [si a1.Now.Pool, si a1.Now.Nodes, eb 4 a1.Now.Members, (8, cs2), ei 21 a1.Now.Modes, sl p3 (a1.Taken).length c4, si a1.Done, si (IntKind.i64.wrap (a1.Epoch + 1)), si a8, eb 4 (List.set y217 (Int.toNat y221) x250), sb y36, su a1.Mark, sl p235 (v237).length c236]) (C' := [.box b13 72 [si x10.Kind, si x10.DC, si x10.Shard, si x10.Node, si x10.Mode, sg x10.Key], .box b7 110 [si a1.Now.Pool, si a1.Now.Nodes, eb 4 a1.Now.Members, (8, cs2), ei 21 a1.Now.Modes, sl p3 (a1.Taken).length c4, si a1.Done, si (IntKind.i64.wrap (a1.Epoch + 1)), si a8, eb 4 (List.set y217 (Int.toNat y221) x250), sb y36, su a1.Mark, sl p235 (v237).length c236], .box b15 34 [si v22.1, si v22.2.1, eb 4 v22.2.2.1, (8, cs20), ei 21 v22.2.2.2.2], .tok p235 106 15 (v237).length c236, .tok p155 92 1 (y154).length c156, .tok p3 72 6 (a1.Taken).length c4]) rfl rfl (by kernel_rfl) rfl rfl hx251 rfl rfl (by kernel_rfl) (by kernel_rfl) (by kernel_rfl) (by kernel_rfl) fun a w hF hS => ?_
 have hS := hS.add (m := ml (List.set y217 (Int.toNat y221) x250) 4) (List.length_set.trans (hS.get 5 rfl))
 refine ⟨notE, ?_⟩
 refine and_ ?_
 cases hv248
 exact ⟨_, hF.kp [0, 1, 4, 5, 11, 13], hS.sp (rg 6) [1, 2, 3, 4, 5, 0, 7, 8, 9, 10], trivial⟩
 rintro a w ⟨κ, hF, hS, -⟩
 exact ⟨_, v248, v237, p235, c236, hF.kp [0, 1, 4, 5, 11, 13], hS.sp (rg 6) (rg 10), H⟩
 refine cond_f hF (by kernel_rfl) hb ?_
 refine wpIn_skip ?_
 exact ⟨_, y217, y218, p219, c220, hF.kp [0, 1, 4, 5, 11, 13], hS.sp (rg 6) (rg 10), H⟩
 rintro a w ⟨κ, y224, y225, p226, c227, hF, hS, H⟩
 unfold M.ref19_Warden_lay_k7 at H
 refine wpIn_region_lit ?_
 refine wp 3 [0, 1, 4, 5, 11, 13] hF fun a hF => ?_
 refine wpListIn_nil ?_
 exact ⟨fuel6, Nat.lt_succ_self _, _, y224, y225, p226, c227, IntKind.i64.wrap (y221 + 1), hF.kp [0, 1, 4, 5, 11, 13], hS.sp (rg 6) (rg 10), H⟩
 refine cond_f hF (by kernel_rfl) hb ?_
 refine wpIn_exit ?_
 cases H
 exact ret_done hF hS (res0 Try.results89 ) ⟨cs2, p3, c4, p219, c220, rfl, hS.sp [1, 5, 3] [1, 2, 3, 4, 5, 6]⟩
set_option maxRecDepth 20000 in
set_option maxHeartbeats 1000000 in
theorem C_ref19_Warden_Ask (N : Nat) {Ms : List Nat} {κ0 : Gh} {w0 : World} (a1 : T_ref19_Warden) (a8 : T_api_Cmd) (cs2 : List Value) (p3 : Option Addr) (c4 : Nat) (p5 : Option Addr) (c6 : Nat) (b7 : Nat) (hB : SB Ms κ0 w0 [.box b7 110 [si a1.Now.Pool, si a1.Now.Nodes, eb 4 a1.Now.Members, (8, cs2), ei 21 a1.Now.Modes, sl p3 (a1.Taken).length c4, si a1.Done, si a1.Epoch, si a1.Entry, eb 4 a1.Wants, sb a1.Ready, su a1.Mark, sl p5 (a1.Mail).length c6], .tok p3 72 6 (a1.Taken).length c4, .tok p5 106 15 (a1.Mail).length c6] [ml a1.Now.Members 4, Arr.mp t_api_Map cs2 4 a1.Now.Maps, ml a1.Now.Modes 21, Ro.mp f_api_Cmd.ty p3 c4 a1.Taken, ml a1.Wants 4, Ro.mp t_api_Mail p5 c6 a1.Mail]) {r : (Int × Int × T_ref19_Warden)} (H : M.ref19_Warden_Ask N a1 a8 = some r) :
    Calls Try.prog 74 #[pt b7 0, .agg (flat [si a8.Kind, si a8.DC, si a8.Shard, si a8.Node, si a8.Mode, sg a8.Key]).toArray] w0 (Post Ms κ0 w0 fun v κ w => ∃ (cs57 : List Value) (p58 : Option Addr) (c59 : Nat) (p60 : Option Addr) (c61 : Nat), v = .tuple #[vi r.1, vi r.2.1] ∧ SS Ms κ0 w0 κ w [.box b7 110 [si r.2.2.Now.Pool, si r.2.2.Now.Nodes, eb 4 r.2.2.Now.Members, (8, cs57), ei 21 r.2.2.Now.Modes, sl p58 (r.2.2.Taken).length c59, si r.2.2.Done, si r.2.2.Epoch, si r.2.2.Entry, eb 4 r.2.2.Wants, sb r.2.2.Ready, su r.2.2.Mark, sl p60 (r.2.2.Mail).length c61], .tok p58 72 6 (r.2.2.Taken).length c59, .tok p60 106 15 (r.2.2.Mail).length c61] [ml r.2.2.Now.Members 4, Arr.mp t_api_Map cs57 4 r.2.2.Now.Maps, ml r.2.2.Now.Modes 21, Ro.mp f_api_Cmd.ty p58 c59 r.2.2.Taken, ml r.2.2.Wants 4, Ro.mp t_api_Mail p60 c61 r.2.2.Mail]) := by
 have hS := hB.hS
 have hfr := hS.fresh
 refine enter (N := (53)) (L := [(0, pt b7 0), (1, .agg (flat [si a8.Kind, si a8.DC, si a8.Shard, si a8.Node, si a8.Mode, sg a8.Key]).toArray)]) Try.func74 rfl Try.ntmps74 (show 2 ≤ (53) by decide) rfl fun a hF => ?_
 unfold M.ref19_Warden_Ask at H
 refine wpIn_seq_k fun K9 hK9 => ?_
 refine wpIn_region_lit ?_
 refine wc (wbx hF hS [si a8.Kind, si a8.DC, si a8.Shard, si a8.Node, si a8.Mode, sg a8.Key] (sgN 6 sgNil) fun b10 a w hF hS => ?_)
 refine wp 2 [0, 3] hF fun a hF => ?_
 refine wpListIn_nil ?_
 refine hK9 _ _ ?_
 refine wpIn_seq_k fun K11 hK11 => ?_
 refine wpIn_seq_k fun K12 hK12 => ?_
 refine rgS hS [] ?_
 have hS := hS.drew
 refine anp [0, 1, 2, 5, 6, 7] [0, 3, 10, 15] hF (hS.sx [0, 1] (rg 6)) fun a hF => ?_
 refine atk 3 (some 11) hF (hS.sx [0, 1] (rg 6)) rfl (vld 1 5 0) fun a hF => ?_
 refine anp [4] [0, 3, 12, 15] hF (hS.sx [0, 1] (rg 6)) fun a hF => ?_
 refine atk 8 (some 16) hF (hS.sx [0, 1] (rg 6)) rfl (vld 1 6 0) fun a hF => ?_
 refine anp [9, 10] [0, 3, 18] hF (hS.sx [0, 1] (rg 6)) fun a hF => ?_
 refine and_ ?_
 refine hK12 _ _ ?_
 refine bif_split H (fun hb H => ?_) (fun hb H => ?_)
 refine cond_t hF (by kernel_rfl) hb ?_
 refine wpIn_seq_k fun K13 hK13 => ?_
 refine wpIn_region_lit ?_
 refine wp 2 [4, 5] hF fun a hF => ?_
 refine wpListIn_nil ?_
 refine hK13 _ _ ?_
 refine wpIn_ret ?_
 cases H
 exact ret_done hF hS (res2 Try.results74 (rvt hF) (rvt hF)) ⟨cs2, p3, c4, p5, c6, rfl, hS.sp [1, 2, 3] (rg 6)⟩
 refine cond_f hF (by kernel_rfl) hb ?_
 refine wpIn_skip ?_
 refine hK11 _ _ ?_
 refine wpIn_seq_k fun K14 hK14 => ?_
 refine wpIn_seq_k fun K15 hK15 => ?_
 refine bind_split H (fun v17 hv17 H => ?_)
 refine code_join (fun a w => ∃ κ : Gh, Fr (53) [] [(0, pt b7 0), (3, pt b10 0), (7, vi v17)] a ∧ SS Ms κ0 w0 κ w [.box b7 110 [si a1.Now.Pool, si a1.Now.Nodes, eb 4 a1.Now.Members, (8, cs2), ei 21 a1.Now.Modes, sl p3 (a1.Taken).length c4, si a1.Done, si a1.Epoch, si a1.Entry, eb 4 a1.Wants, sb a1.Ready, su a1.Mark, sl p5 (a1.Mail).length c6], .box b10 72 [si a8.Kind, si a8.DC, si a8.Shard, si a8.Node, si a8.Mode, sg a8.Key], .tok p3 72 6 (a1.Taken).length c4, .tok p5 106 15 (a1.Mail).length c6] [ml a1.Now.Members 4, Arr.mp t_api_Map cs2 4 a1.Now.Maps, ml a1.Now.Modes 21, Ro.mp f_api_Cmd.ty p3 c4 a1.Taken, ml a1.Wants 4, Ro.mp t_api_Mail p5 c6 a1.Mail] ∧ True) ?_ ?_
 refine rgS hS [8] ?_
 have hS := hS.drew
 refine bind_split hv17 (fun x18 hx18 hv17 => ?_)
 refine bind_split hv17 (fun x20 hx20 hv17 => ?_)
 refine anp [0] [0, 3, 20] hF (hS.sx [0, 1] (rg 6)) fun a hF => ?_
 refine atk 2 (some 22) hF (hS.sx [0, 1] (rg 6)) rfl (vls 0 0 6) fun a hF => ?_
 refine ago2 1 7 hF rfl rfl ?_ ?_
 refine wcS 1 [1, 0, 2, 3] hF hS (fun hS => C_ref19_Warden_Tail N (T_ref19_Warden.mk (T_ref18_State.mk a1.Now.Pool a1.Now.Nodes a1.Now.Members a1.Now.Maps a1.Now.Modes) a1.Taken a1.Done a1.Epoch a1.Entry a1.Wants a1.Ready a1.Mark a1.Mail) cs2 p3 c4 p5 c6 b7 ⟨rfl, hS.pick (rg 6) (by kernel_rfl)⟩ hx18) ?_
 rintro _ κ w a ⟨cs19, rfl, h2⟩ hF hB
 have hS := hB _ _ h2
 refine ⟨fun _ => (hS.sx [1, 0] [3, 4, 5, 6, 7, 8]), ?_⟩
 refine ago2 3 7 hF rfl rfl ?_ ?_
 refine wo_callP hF hS (by kernel_rfl) (by kernel_rfl) (C_ref18_Apply N hS.fresh (T_ref18_State.mk x18.Pool x18.Nodes x18.Members x18.Maps x18.Modes) (T_api_Cmd.mk a8.Kind a8.DC a8.Shard a8.Node a8.Mode a8.Key) cs19 ((hS.pick [0, 1, 2] (by kernel_rfl)).ro) hx20) ?_
 rintro _ κ w a ⟨cs21, rfl, hR, hN⟩ hF hS hO
 have hS := hS.adds hR
 refine ⟨fun _ => (hS.sx [1, 0] [6, 7, 8, 9, 10, 11]), ?_⟩
 refine anp [4, 5] [0, 3, 19, 24] hF (hS.sx [1, 0] [6, 7, 8, 9, 10, 11]) fun a hF => ?_
 refine ago2 6 7 hF rfl rfl ?_ ?_
 refine wo_pure (v := vi x20.2) hF (by kernel_rfl) (by kernel_rfl) fun a hF => ?_
 refine ⟨fun _ => (hS.sx [1, 0] [6, 7, 8, 9, 10, 11]), ?_⟩
 refine ago 7 hF rfl ?_
 have hS := hS.add (m := ml (List.replicate 4 false) 4) (List.length_replicate)
 have hS := hS.add (m := Arr.mp t_api_Map ((List.replicate 4 (flat [sl none 0 0, sl none 0 0])).flatten) 4 (List.replicate 4 (T_api_Map.mk ([] : List ByteArray) ([] : List Int)))) (Arr.zero _ _ _ _ _ z_api_Map)
 have hS := hS.add (m := ml (List.replicate 21 0) 21) (List.length_replicate)
 refine wal hF hS [si 0, si 0, eb 4 (List.replicate 4 false), (8, (List.replicate 4 (flat [sl none 0 0, sl none 0 0])).flatten), ei 21 (List.replicate 21 0)] (sgN 2 (sgEnc List.length_replicate (sgArr (hS.get 1 rfl) (sgEnc List.length_replicate sgNil)))) fun b22 a w hF hS => ?_
 refine ⟨fun _ => (hS.sx [2, 1] [9, 10, 11, 12, 13, 14]), ?_⟩
 refine ago 8 hF rfl ?_
 refine wst hF hS 0 0 5 [si x20.1.Pool, si x20.1.Nodes, eb 4 x20.1.Members, (8, cs21), ei 21 x20.1.Modes] (sgN 2 (sgEnc (hS.get 3 rfl) (sgArr (hS.get 4 rfl) (sgEnc (hS.get 5 rfl) sgNil)))) fun a w hF hS => ?_
 refine ⟨notE, ?_⟩
 refine ago 9 hF rfl ?_
 refine wo_pure (v := vi x20.2) hF (by kernel_rfl) (by kernel_rfl) fun a hF => ?_
 refine ⟨notE, ?_⟩
 refine and_ ?_
 cases hv17
 exact ⟨_, hF.kp [0, 3, 7], hS.sp [1, 2, 3, 4] [9, 10, 11, 12, 13, 14], trivial⟩
 have hS := hS.add (m := ml (List.replicate 4 false) 4) (List.length_replicate)
 have hS := hS.add (m := Arr.mp t_api_Map ((List.replicate 4 (flat [sl none 0 0, sl none 0 0])).flatten) 4 (List.replicate 4 (T_api_Map.mk ([] : List ByteArray) ([] : List Int)))) (Arr.zero _ _ _ _ _ z_api_Map)
 have hS := hS.add (m := ml (List.replicate 21 0) 21) (List.length_replicate)
 refine wal hF hS [si 0, si 0, eb 4 (List.replicate 4 false), (8, (List.replicate 4 (flat [sl none 0 0, sl none 0 0])).flatten), ei 21 (List.replicate 21 0)] (sgN 2 (sgEnc List.length_replicate (sgArr (hS.get 1 rfl) (sgEnc List.length_replicate sgNil)))) fun b22 a w hF hS => ?_
 refine ⟨fun _ => (hS.sx [2, 1] [9, 10, 11, 12, 13, 14]), ?_⟩
 refine ago2 6 8 hF rfl rfl ?_ ?_
 refine wo_pure (v := vi x20.2) hF (by kernel_rfl) (by kernel_rfl) fun a hF => ?_
 refine ⟨fun _ => (hS.sx [2, 1] [9, 10, 11, 12, 13, 14]), ?_⟩
 refine ago 8 hF rfl ?_
 refine wst hF hS 0 0 5 [si x20.1.Pool, si x20.1.Nodes, eb 4 x20.1.Members, (8, cs21), ei 21 x20.1.Modes] (sgN 2 (sgEnc (hS.get 3 rfl) (sgArr (hS.get 4 rfl) (sgEnc (hS.get 5 rfl) sgNil)))) fun a w hF hS => ?_
 refine ⟨notE, ?_⟩
 refine ago 9 hF rfl ?_
 refine wo_pure (v := vi x20.2) hF (by kernel_rfl) (by kernel_rfl) fun a hF => ?_
 refine ⟨notE, ?_⟩
 refine and_ ?_
 cases hv17
 exact ⟨_, hF.kp [0, 3, 7], hS.sp [1, 2, 3, 4] [9, 10, 11, 12, 13, 14], trivial⟩
 refine wst hF hS 0 0 5 [si x20.1.Pool, si x20.1.Nodes, eb 4 x20.1.Members, (8, cs21), ei 21 x20.1.Modes] (sgN 2 (sgEnc (hS.get 3 rfl) (sgArr (hS.get 4 rfl) (sgEnc (hS.get 5 rfl) sgNil)))) fun a w hF hS => ?_
 refine ⟨notE, ?_⟩
 refine ago 6 hF rfl ?_
 refine wo_pure (v := vi x20.2) hF (by kernel_rfl) (by kernel_rfl) fun a hF => ?_
 refine ⟨notE, ?_⟩
 refine ago 9 hF rfl ?_
 refine wo_pure (v := vi x20.2) hF (by kernel_rfl) (by kernel_rfl) fun a hF => ?_
 refine ⟨notE, ?_⟩
 refine and_ ?_
 cases hv17
 exact ⟨_, hF.kp [0, 3, 7], hS.sp [1, 2, 3, 4] [9, 10, 11, 12, 13, 14], trivial⟩
 have hS := hS.add (m := ml (List.replicate 4 false) 4) (List.length_replicate)
 have hS := hS.add (m := Arr.mp t_api_Map ((List.replicate 4 (flat [sl none 0 0, sl none 0 0])).flatten) 4 (List.replicate 4 (T_api_Map.mk ([] : List ByteArray) ([] : List Int)))) (Arr.zero _ _ _ _ _ z_api_Map)
 have hS := hS.add (m := ml (List.replicate 21 0) 21) (List.length_replicate)
 refine wal hF hS [si 0, si 0, eb 4 (List.replicate 4 false), (8, (List.replicate 4 (flat [sl none 0 0, sl none 0 0])).flatten), ei 21 (List.replicate 21 0)] (sgN 2 (sgEnc List.length_replicate (sgArr (hS.get 1 rfl) (sgEnc List.length_replicate sgNil)))) fun b22 a w hF hS => ?_
 refine ⟨fun _ => (hS.sx [2, 1] [6, 7, 8, 9, 10, 11]), ?_⟩
 refine ago 3 hF rfl ?_
 refine wo_callP hF hS (by kernel_rfl) (by kernel_rfl) (C_ref18_Apply N hS.fresh (T_ref18_State.mk x18.Pool x18.Nodes x18.Members x18.Maps x18.Modes) (T_api_Cmd.mk a8.Kind a8.DC a8.Shard a8.Node a8.Mode a8.Key) cs19 ((hS.pick [3, 4, 5] (by kernel_rfl)).ro) hx20) ?_
 rintro _ κ w a ⟨cs21, rfl, hR, hN⟩ hF hS hO
 have hS := hS.adds hR
 refine ⟨fun _ => (hS.sx [2, 1] [9, 10, 11, 12, 13, 14]), ?_⟩
 refine anp [4, 5] [0, 3, 6, 19, 24] hF (hS.sx [2, 1] [9, 10, 11, 12, 13, 14]) fun a hF => ?_
 refine ago2 6 8 hF rfl rfl ?_ ?_
 refine wo_pure (v := vi x20.2) hF (by kernel_rfl) (by kernel_rfl) fun a hF => ?_
 refine ⟨fun _ => (hS.sx [2, 1] [9, 10, 11, 12, 13, 14]), ?_⟩
 refine ago 8 hF rfl ?_
 refine wst hF hS 0 0 5 [si x20.1.Pool, si x20.1.Nodes, eb 4 x20.1.Members, (8, cs21), ei 21 x20.1.Modes] (sgN 2 (sgEnc (hS.get 0 rfl) (sgArr (hS.get 1 rfl) (sgEnc (hS.get 2 rfl) sgNil)))) fun a w hF hS => ?_
 refine ⟨notE, ?_⟩
 refine ago 9 hF rfl ?_
 refine wo_pure (v := vi x20.2) hF (by kernel_rfl) (by kernel_rfl) fun a hF => ?_
 refine ⟨notE, ?_⟩
 refine and_ ?_
 cases hv17
 exact ⟨_, hF.kp [0, 3, 7], hS.sp [1, 2, 3, 4] [9, 10, 11, 12, 13, 14], trivial⟩
 refine wst hF hS 0 0 5 [si x20.1.Pool, si x20.1.Nodes, eb 4 x20.1.Members, (8, cs21), ei 21 x20.1.Modes] (sgN 2 (sgEnc (hS.get 0 rfl) (sgArr (hS.get 1 rfl) (sgEnc (hS.get 2 rfl) sgNil)))) fun a w hF hS => ?_
 refine ⟨notE, ?_⟩
 refine ago 6 hF rfl ?_
 refine wo_pure (v := vi x20.2) hF (by kernel_rfl) (by kernel_rfl) fun a hF => ?_
 refine ⟨notE, ?_⟩
 refine ago 9 hF rfl ?_
 refine wo_pure (v := vi x20.2) hF (by kernel_rfl) (by kernel_rfl) fun a hF => ?_
 refine ⟨notE, ?_⟩
 refine and_ ?_
 cases hv17
 exact ⟨_, hF.kp [0, 3, 7], hS.sp [1, 2, 3, 4] [9, 10, 11, 12, 13, 14], trivial⟩
 have hS := hS.add (m := ml (List.replicate 4 false) 4) (List.length_replicate)
 have hS := hS.add (m := Arr.mp t_api_Map ((List.replicate 4 (flat [sl none 0 0, sl none 0 0])).flatten) 4 (List.replicate 4 (T_api_Map.mk ([] : List ByteArray) ([] : List Int)))) (Arr.zero _ _ _ _ _ z_api_Map)
 have hS := hS.add (m := ml (List.replicate 21 0) 21) (List.length_replicate)
 refine wal hF hS [si 0, si 0, eb 4 (List.replicate 4 false), (8, (List.replicate 4 (flat [sl none 0 0, sl none 0 0])).flatten), ei 21 (List.replicate 21 0)] (sgN 2 (sgEnc List.length_replicate (sgArr (hS.get 1 rfl) (sgEnc List.length_replicate sgNil)))) fun b22 a w hF hS => ?_
 refine ⟨fun _ => (hS.sx [1, 2] [3, 4, 5, 6, 7, 8]), ?_⟩
 refine ago 1 hF rfl ?_
 refine wcS 1 [2, 0, 1, 3, 4] hF hS (fun hS => C_ref19_Warden_Tail N (T_ref19_Warden.mk (T_ref18_State.mk a1.Now.Pool a1.Now.Nodes a1.Now.Members a1.Now.Maps a1.Now.Modes) a1.Taken a1.Done a1.Epoch a1.Entry a1.Wants a1.Ready a1.Mark a1.Mail) cs2 p3 c4 p5 c6 b7 ⟨rfl, hS.pick [3, 4, 5, 6, 7, 8] (by kernel_rfl)⟩ hx18) ?_
 rintro _ κ w a ⟨cs19, rfl, h2⟩ hF hB
 have hS := hB _ _ h2
 refine ⟨fun _ => (hS.sx [2, 0] [6, 7, 8, 9, 10, 11]), ?_⟩
 refine ago 3 hF rfl ?_
 refine wo_callP hF hS (by kernel_rfl) (by kernel_rfl) (C_ref18_Apply N hS.fresh (T_ref18_State.mk x18.Pool x18.Nodes x18.Members x18.Maps x18.Modes) (T_api_Cmd.mk a8.Kind a8.DC a8.Shard a8.Node a8.Mode a8.Key) cs19 ((hS.pick [0, 1, 2] (by kernel_rfl)).ro) hx20) ?_
 rintro _ κ w a ⟨cs21, rfl, hR, hN⟩ hF hS hO
 have hS := hS.adds hR
 refine ⟨fun _ => (hS.sx [2, 0] [9, 10, 11, 12, 13, 14]), ?_⟩
 refine anp [4, 5] [0, 3, 6, 19, 24] hF (hS.sx [2, 0] [9, 10, 11, 12, 13, 14]) fun a hF => ?_
 refine ago2 6 8 hF rfl rfl ?_ ?_
 refine wo_pure (v := vi x20.2) hF (by kernel_rfl) (by kernel_rfl) fun a hF => ?_
 refine ⟨fun _ => (hS.sx [2, 0] [9, 10, 11, 12, 13, 14]), ?_⟩
 refine ago 8 hF rfl ?_
 refine wst hF hS 1 0 5 [si x20.1.Pool, si x20.1.Nodes, eb 4 x20.1.Members, (8, cs21), ei 21 x20.1.Modes] (sgN 2 (sgEnc (hS.get 0 rfl) (sgArr (hS.get 1 rfl) (sgEnc (hS.get 2 rfl) sgNil)))) fun a w hF hS => ?_
 refine ⟨notE, ?_⟩
 refine ago 9 hF rfl ?_
 refine wo_pure (v := vi x20.2) hF (by kernel_rfl) (by kernel_rfl) fun a hF => ?_
 refine ⟨notE, ?_⟩
 refine and_ ?_
 cases hv17
 exact ⟨_, hF.kp [0, 3, 7], hS.sp [0, 2, 3, 4] [9, 10, 11, 12, 13, 14], trivial⟩
 refine wst hF hS 1 0 5 [si x20.1.Pool, si x20.1.Nodes, eb 4 x20.1.Members, (8, cs21), ei 21 x20.1.Modes] (sgN 2 (sgEnc (hS.get 0 rfl) (sgArr (hS.get 1 rfl) (sgEnc (hS.get 2 rfl) sgNil)))) fun a w hF hS => ?_
 refine ⟨notE, ?_⟩
 refine ago 6 hF rfl ?_
 refine wo_pure (v := vi x20.2) hF (by kernel_rfl) (by kernel_rfl) fun a hF => ?_
 refine ⟨notE, ?_⟩
 refine ago 9 hF rfl ?_
 refine wo_pure (v := vi x20.2) hF (by kernel_rfl) (by kernel_rfl) fun a hF => ?_
 refine ⟨notE, ?_⟩
 refine and_ ?_
 cases hv17
 exact ⟨_, hF.kp [0, 3, 7], hS.sp [0, 2, 3, 4] [9, 10, 11, 12, 13, 14], trivial⟩
 rintro a w ⟨κ, hF, hS, -⟩
 refine hK15 _ _ ?_
 refine wpIn_seq_k fun K23 hK23 => ?_
 refine wpIn_region_lit ?_
 refine wp 2 [0, 3, 7, 27] hF fun a hF => ?_
 refine wpListIn_nil ?_
 refine hK23 _ _ ?_
 refine bif_split H (fun hb H => ?_) (fun hb H => ?_)
 refine cond_t hF (by kernel_rfl) hb ?_
 refine wpIn_seq_k fun K24 hK24 => ?_
 refine wpIn_region_lit ?_
 refine wp 3 [4, 5] hF fun a hF => ?_
 refine wpListIn_nil ?_
 refine hK24 _ _ ?_
 refine wpIn_ret ?_
 cases H
 exact ret_done hF hS (res2 Try.results74 (rvt hF) (rvt hF)) ⟨cs2, p3, c4, p5, c6, rfl, hS.sp [0, 2, 3] (rg 6)⟩
 refine cond_f hF (by kernel_rfl) hb ?_
 refine wpIn_skip ?_
 refine hK14 _ _ ?_
 refine wpIn_seq_k fun K25 hK25 => ?_
 refine rgS hS [11] ?_
 have hS := hS.drew
 refine bind_split H (fun x26 hx26 H => ?_)
 refine bind_split H (fun x28 hx28 H => ?_)
 refine any_pure (rg 4) [0, 3, 29, 32] (L' := [(0, pt b7 0), (3, pt b10 0), (29, pt b7 0), (32, pt b7 35)]) (listed' := (bitA 12 15)) (fuel := 8) hF (hS.sx [0, 1] (rg 6)) (by kernel_rfl) (by intro c a w t v h; cases t <;> exact h) (by kernel_rfl) rfl fun a hF => ?_
 refine atk 4 (some 33) hF (hS.sx [0, 1] (rg 6)) rfl (vld 0 5 0) fun a hF => ?_
 refine atk 5 (some 34) hF (hS.sx [0, 1] (rg 6)) rfl (vls 1 0 6) fun a hF => ?_
 refine ago 6 hF rfl ?_
 refine wo_callP hF hS (by kernel_rfl) (by kernel_rfl) (C_ref18_Plain N hS.fresh (T_api_Cmd.mk a8.Kind a8.DC a8.Shard a8.Node a8.Mode a8.Key)  ((hS.pick [] (by kernel_rfl)).ro) hx26) ?_
 rintro _ κ w a ⟨rfl, hR, hN⟩ hF hS hO
 refine ⟨fun _ => (hS.sx [0, 1] (rg 6)), ?_⟩
 refine ago 7 hF rfl ?_
 refine wo_buildN (t := f_api_Cmd) (z := .agg (flat [si 0, si 0, si 0, si 0, si 0, sg ByteArray.empty]).toArray) (l := [(T_api_Cmd.mk x26.Kind x26.DC x26.Shard x26.Node x26.Mode x26.Key)]) (vs := [(0, .agg (flat [si x26.Kind, si x26.DC, si x26.Shard, si x26.Node, si x26.Mode, sg x26.Key]).toArray)]) (cells := #[vi x26.Kind, vi x26.DC, vi x26.Shard, vi x26.Node, vi x26.Mode, .string (x26.Key)]) (E := 72) hF hS (by kernel_rfl) rfl (by kernel_rfl) (by kernel_rfl) rfl (by kernel_rfl) (by kernel_rfl) (by kernel_rfl) (by kernel_rfl) (by kernel_rfl) fun p27 κ a w hF hS => ?_
 refine ⟨fun _ => (hS.sx [1, 2] [1, 2, 3, 4, 5, 6]), ?_⟩
 refine ago 8 hF rfl ?_
 refine wo_append (ty := f_api_Cmd.ty) hF hS (by kernel_rfl) 3 4 0 rfl rfl rfl (by kernel_rfl) (by kernel_rfl) rfl rfl rfl hx28 (by kernel_rfl) (i := Try.t72) (z := .agg (flat [si 0, si 0, si 0, si 0, si 0, sg ByteArray.empty]).toArray) (by kernel_rfl) (by kernel_rfl) (by kernel_rfl) fun p29 c30 κ a w hF hS => ?_
 refine ⟨fun _ => (hS.sx [1, 2] [2, 3, 4, 5, 6, 7]), ?_⟩
 refine anp [9, 10] [0, 37, 39] hF (hS.sx [1, 2] [2, 3, 4, 5, 6, 7]) fun a hF => ?_
 refine ago 11 hF rfl ?_
 refine wst hF hS 1 5 1 [sl p29 (x28).length c30] (sgN 1 sgNil) fun a w hF hS => ?_
 refine ⟨notE, ?_⟩
 refine and_ ?_
 refine hK25 _ _ ?_
 refine seq_join (fun a w => ∃ (κ : Gh) (y31 y32 : Int) (y33 : List Bool) (y34 : List T_api_Map) (cs35 : List Value) (y36 : List Int) (y37 : List T_api_Cmd) (p38 : Option Addr) (c39 : Nat) (y40 y41 y42 : Int) (y43 : List Bool) (y44 : Bool) (y45 : Int) (y46 : List T_api_Mail) (p47 : Option Addr) (c48 : Nat), Fr (53) [] [(0, pt b7 0)] a ∧ SS Ms κ0 w0 κ w [.box b7 110 [si y31, si y32, eb 4 y33, (8, cs35), ei 21 y36, sl p38 (y37).length c39, si y40, si y41, si y42, eb 4 y43, sb y44, su y45, sl p47 (y46).length c48], .tok p38 72 6 (y37).length c39, .tok p47 106 15 (y46).length c48] [ml y33 4, Arr.mp t_api_Map cs35 4 y34, ml y36 21, Ro.mp f_api_Cmd.ty p38 c39 y37, ml y43 4, Ro.mp t_api_Mail p47 c48 y46] ∧ M.ref19_Warden_Ask_k1 N y31 y32 y33 y34 y36 y37 y40 y41 y42 y43 y44 y45 y46 = some r) ?_ ?_
 refine wpIn_seq_k fun K50 hK50 => ?_
 refine wpIn_region_lit ?_
 refine wp 3 [0, 42] hF fun a hF => ?_
 refine wc (wld hF hS 1 8 0 fun a hF => ?_)
 refine wp 1 [0, 44] hF fun a hF => ?_
 refine wpListIn_nil ?_
 refine hK50 _ _ ?_
 refine bif_split H (fun hb H => ?_) (fun hb H => ?_)
 refine cond_t hF (by kernel_rfl) hb ?_
 refine wpIn_region_lit ?_
 refine wp 1 [0, 45] hF fun a hF => ?_
 refine bind_split H (fun x51 hx51 H => ?_)
 refine wc (wcS 3 [1, 3, 4, 0, 2] hF hS (fun hS => C_ref19_Warden_lay N (T_ref19_Warden.mk (T_ref18_State.mk a1.Now.Pool a1.Now.Nodes a1.Now.Members a1.Now.Maps a1.Now.Modes) x28 a1.Done a1.Epoch a1.Entry a1.Wants a1.Ready a1.Mark a1.Mail) 1 cs2 p29 c30 p5 c6 b7 ⟨rfl, hS.pick [2, 3, 4, 0, 6, 7] (by kernel_rfl)⟩ hx51) ?_)
 rintro _ κ w a ⟨cs52, p53, c54, p55, c56, rfl, h2⟩ hF hB
 have hS := hB _ _ h2
 refine wpListIn_nil ?_
 exact ⟨_, x51.Now.Pool, x51.Now.Nodes, x51.Now.Members, x51.Now.Maps, cs52, x51.Now.Modes, x51.Taken, p53, c54, x51.Done, x51.Epoch, x51.Entry, x51.Wants, x51.Ready, x51.Mark, x51.Mail, p55, c56, hF.kp [0], hS.sp [0, 1, 2] (rg 6), H⟩
 refine cond_f hF (by kernel_rfl) hb ?_
 refine wpIn_skip ?_
 exact ⟨_, a1.Now.Pool, a1.Now.Nodes, a1.Now.Members, a1.Now.Maps, cs2, a1.Now.Modes, x28, p29, c30, a1.Done, a1.Epoch, a1.Entry, a1.Wants, a1.Ready, a1.Mark, a1.Mail, p5, c6, hF.kp [0], hS.sp [1, 3, 4] [2, 3, 4, 0, 6, 7], H⟩
 rintro a w ⟨κ, y31, y32, y33, y34, cs35, y36, y37, p38, c39, y40, y41, y42, y43, y44, y45, y46, p47, c48, hF, hS, H⟩
 unfold M.ref19_Warden_Ask_k1 at H
 refine wpIn_seq_k fun K49 hK49 => ?_
 refine wpIn_region_lit ?_
 refine wp 3 [49] hF fun a hF => ?_
 refine wc (wld hF hS 0 5 0 fun a hF => ?_)
 refine wp 4 [4, 5] hF fun a hF => ?_
 refine wpListIn_nil ?_
 refine hK49 _ _ ?_
 refine wpIn_ret ?_
 cases H
 exact ret_done hF hS (res2 Try.results74 (rvt hF) (rvt hF)) ⟨cs35, p38, c39, p47, c48, rfl, hS.sp [0, 1, 2] (rg 6)⟩
set_option maxRecDepth 20000 in
set_option maxHeartbeats 1000000 in
theorem C_ref19_Warden_Waits (N : Nat) {Ms : List Nat} {κ0 : Gh} {w0 : World} (a1 : T_ref19_Warden) (cs2 : List Value) (p3 : Option Addr) (c4 : Nat) (p5 : Option Addr) (c6 : Nat) (b7 : Nat) (hB : SB Ms κ0 w0 [.box b7 110 [si a1.Now.Pool, si a1.Now.Nodes, eb 4 a1.Now.Members, (8, cs2), ei 21 a1.Now.Modes, sl p3 (a1.Taken).length c4, si a1.Done, si a1.Epoch, si a1.Entry, eb 4 a1.Wants, sb a1.Ready, su a1.Mark, sl p5 (a1.Mail).length c6]] [ml a1.Now.Members 4, Arr.mp t_api_Map cs2 4 a1.Now.Maps, ml a1.Now.Modes 21, Ro.mp f_api_Cmd.ty p3 c4 a1.Taken, ml a1.Wants 4, Ro.mp t_api_Mail p5 c6 a1.Mail]) {r : (Bool)} (H : M.ref19_Warden_Waits N a1 = some r) :
    Calls Try.prog 90 #[pt b7 0] w0 (Post Ms κ0 w0 fun v κ w => v = vb r ∧ SS Ms κ0 w0 κ w [.box b7 110 [si a1.Now.Pool, si a1.Now.Nodes, eb 4 a1.Now.Members, (8, cs2), ei 21 a1.Now.Modes, sl p3 (a1.Taken).length c4, si a1.Done, si a1.Epoch, si a1.Entry, eb 4 a1.Wants, sb a1.Ready, su a1.Mark, sl p5 (a1.Mail).length c6]] []) := by
 have hS := hB.hS
 have hfr := hS.fresh
 refine enter (N := (14)) (L := [(0, pt b7 0)]) Try.func90 rfl Try.ntmps90 (show 1 ≤ (14) by decide) rfl fun a hF => ?_
 unfold M.ref19_Warden_Waits at H
 refine wpIn_seq_k fun K8 hK8 => ?_
 refine wpIn_region_lit ?_
 refine wp 1 [0] hF fun a hF => ?_
 refine wpListIn_nil ?_
 refine hK8 _ _ ?_
 refine wpIn_seq_k fun K9 hK9 => ?_
 refine wpIn_seq_k fun K10 hK10 => ?_
 refine wpIn_region_lit ?_
 refine wp 1 [0, 3] hF fun a hF => ?_
 refine wpListIn_nil ?_
 refine hK10 _ _ ?_
 refine wpIn_block ?_
 refine loop_fuel (n := N) (fun n a w => ∃ (κ : Gh) (y61 : Int), Fr (14) [] [(0, pt b7 0), (3, vi y61)] a ∧ SS Ms κ0 w0 κ w [.box b7 110 [si a1.Now.Pool, si a1.Now.Nodes, eb 4 a1.Now.Members, (8, cs2), ei 21 a1.Now.Modes, sl p3 (a1.Taken).length c4, si a1.Done, si a1.Epoch, si a1.Entry, eb 4 a1.Wants, sb a1.Ready, su a1.Mark, sl p5 (a1.Mail).length c6]] [ml a1.Now.Members 4, Arr.mp t_api_Map cs2 4 a1.Now.Maps, ml a1.Now.Modes 21, Ro.mp f_api_Cmd.ty p3 c4 a1.Taken, ml a1.Wants 4, Ro.mp t_api_Mail p5 c6 a1.Mail] ∧ M.ref19_Warden_Waits_L1 N n a1 y61 = some r) ?_ ?_
 exact ⟨_, 0, hF.kp [0, 3], hS.sp [0] (rg 6), H⟩
 rintro n a w ⟨κ, y61, hF, hS, H⟩
 rcases n with _ | fuel1
 simp [M.ref19_Warden_Waits_L1] at H
 simp only [M.ref19_Warden_Waits_L1] at H
 refine wpIn_seq_k fun K62 hK62 => ?_
 refine wpIn_seq_k fun K63 hK63 => ?_
 refine wpIn_region_lit ?_
 refine wp 2 [0, 3, 5] hF fun a hF => ?_
 refine wpListIn_nil ?_
 refine hK63 _ _ ?_
 refine bif_split H (fun hb H => ?_) (fun hb H => ?_)
 refine cond_t hF (by kernel_rfl) hb ?_
 refine wpIn_skip ?_
 refine hK62 _ _ ?_
 refine wpIn_seq_k fun K64 hK64 => ?_
 refine wpIn_block ?_
 refine wpIn_seq_k fun K65 hK65 => ?_
 refine wpIn_region_lit ?_
 refine wl_pure (L' := [(0, pt b7 0), (3, vi y61), (9, vi y61), (11, pt b7 39)]) 4 [0, 3, 9, 11] hF (by kernel_rfl) fun a hF => ?_
 refine bind_split H (fun x66 hx66 H => ?_)
 refine wc (wo_indexArr hF (by kernel_rfl) (E := 4) (sz := 1) (n := 4) rfl rfl (i := y61) rfl (idx_lt hx66 (hS.get 4 rfl)) (by kernel_rfl) (by kernel_rfl) fun a hF => ?_)
 refine wc (wo_loadA1 (t := fBool) hF hS (by kernel_rfl) 0 9 (v := vb x66) rfl rfl rfl rfl hx66 rfl rfl (by kernel_rfl) (by kernel_rfl) fun a hF => ?_)
 refine wpListIn_nil ?_
 refine hK65 _ _ ?_
 refine bif_split H (fun hb H => ?_) (fun hb H => ?_)
 refine cond_t hF (by kernel_rfl) hb ?_
 refine wpIn_seq_k fun K67 hK67 => ?_
 refine wpIn_region_lit ?_
 refine wp 1 [2] hF fun a hF => ?_
 refine wpListIn_nil ?_
 refine hK67 _ _ ?_
 refine wpIn_ret ?_
 cases H
 exact ret_done hF hS (res1 Try.results90 (rvt hF)) ⟨rfl, hS.sp [0] []⟩
 refine cond_f hF (by kernel_rfl) hb ?_
 refine wpIn_skip ?_
 refine hK64 _ _ ?_
 refine wpIn_region_lit ?_
 refine wp 3 [0, 3] hF fun a hF => ?_
 refine wpListIn_nil ?_
 exact ⟨fuel1, Nat.lt_succ_self _, _, IntKind.i64.wrap (y61 + 1), hF.kp [0, 3], hS.sp [0] (rg 6), H⟩
 refine cond_f hF (by kernel_rfl) hb ?_
 refine wpIn_exit ?_
 refine hK9 _ _ ?_
 refine wpIn_seq_k fun K68 hK68 => ?_
 refine wpIn_region_lit ?_
 refine wp 1 [2] hF fun a hF => ?_
 refine wpListIn_nil ?_
 refine hK68 _ _ ?_
 refine wpIn_ret ?_
 cases H
 exact ret_done hF hS (res1 Try.results90 (rvt hF)) ⟨rfl, hS.sp [0] []⟩
set_option maxRecDepth 20000 in
set_option maxHeartbeats 1000000 in
theorem C_ref19_Warden_Take (N : Nat) {Ms : List Nat} {κ0 : Gh} {w0 : World} (a1 : T_ref19_Warden) (a8 : Int) (a9 : T_api_Msg) (cs2 : List Value) (p3 : Option Addr) (c4 : Nat) (p5 : Option Addr) (c6 : Nat) (p10 : Option Addr) (c11 : Nat) (p12 : Option Addr) (c13 : Nat) (b7 : Nat) (hB : SB Ms κ0 w0 [.box b7 110 [si a1.Now.Pool, si a1.Now.Nodes, eb 4 a1.Now.Members, (8, cs2), ei 21 a1.Now.Modes, sl p3 (a1.Taken).length c4, si a1.Done, si a1.Epoch, si a1.Entry, eb 4 a1.Wants, sb a1.Ready, su a1.Mark, sl p5 (a1.Mail).length c6], .tok p3 72 6 (a1.Taken).length c4, .tok p5 106 15 (a1.Mail).length c6] [ml a1.Now.Members 4, Arr.mp t_api_Map cs2 4 a1.Now.Maps, ml a1.Now.Modes 21, Ro.mp f_api_Cmd.ty p3 c4 a1.Taken, ml a1.Wants 4, Ro.mp t_api_Mail p5 c6 a1.Mail, Ro.mp f_api_Ver.ty p10 c11 a9.Vers, Ro.mp (fInt .u64).ty p12 c13 a9.Vec]) {r : (T_ref19_Warden)} (H : M.ref19_Warden_Take N a1 a8 a9 = some r) :
    Calls Try.prog 75 #[pt b7 0, vi a8, .agg (flat [si a9.Kind, su a9.Id, su a9.N, su a9.TS, sg a9.Lo, sg a9.Hi, sl p10 (a9.Vers).length c11, sl p12 (a9.Vec).length c13, si a9.Cmd.Kind, si a9.Cmd.DC, si a9.Cmd.Shard, si a9.Cmd.Node, si a9.Cmd.Mode, sg a9.Cmd.Key]).toArray] w0 (Post Ms κ0 w0 fun v κ w => ∃ (cs106 : List Value) (p107 : Option Addr) (c108 : Nat) (p109 : Option Addr) (c110 : Nat), v = .tuple #[] ∧ SS Ms κ0 w0 κ w [.box b7 110 [si r.Now.Pool, si r.Now.Nodes, eb 4 r.Now.Members, (8, cs106), ei 21 r.Now.Modes, sl p107 (r.Taken).length c108, si r.Done, si r.Epoch, si r.Entry, eb 4 r.Wants, sb r.Ready, su r.Mark, sl p109 (r.Mail).length c110], .tok p107 72 6 (r.Taken).length c108, .tok p109 106 15 (r.Mail).length c110] [ml r.Now.Members 4, Arr.mp t_api_Map cs106 4 r.Now.Maps, ml r.Now.Modes 21, Ro.mp f_api_Cmd.ty p107 c108 r.Taken, ml r.Wants 4, Ro.mp t_api_Mail p109 c110 r.Mail]) := by
 have hS := hB.hS
 have hfr := hS.fresh
 refine enter (N := (210)) (L := [(0, pt b7 0), (1, vi a8), (2, .agg (flat [si a9.Kind, su a9.Id, su a9.N, su a9.TS, sg a9.Lo, sg a9.Hi, sl p10 (a9.Vers).length c11, sl p12 (a9.Vec).length c13, si a9.Cmd.Kind, si a9.Cmd.DC, si a9.Cmd.Shard, si a9.Cmd.Node, si a9.Cmd.Mode, sg a9.Cmd.Key]).toArray)]) Try.func75 rfl Try.ntmps75 (show 3 ≤ (210) by decide) rfl fun a hF => ?_
 unfold M.ref19_Warden_Take at H
 refine wpIn_seq_k fun K14 hK14 => ?_
 refine wpIn_region_lit ?_
 refine wc (wbx hF hS [si a9.Kind, su a9.Id, su a9.N, su a9.TS, sg a9.Lo, sg a9.Hi, sl p10 (a9.Vers).length c11, sl p12 (a9.Vec).length c13, si a9.Cmd.Kind, si a9.Cmd.DC, si a9.Cmd.Shard, si a9.Cmd.Node, si a9.Cmd.Mode, sg a9.Cmd.Key] (sgN 14 sgNil) fun b15 a w hF hS => ?_)
 refine wpListIn_nil ?_
 refine hK14 _ _ ?_
 refine wpIn_seq_k fun K16 hK16 => ?_
 refine wpIn_seq_k fun K17 hK17 => ?_
 refine bind_split H (fun v19 hv19 H => ?_)
 refine code_join (fun a w => ∃ κ : Gh, Fr (210) [] [(0, pt b7 0), (1, vi a8), (5, pt b15 0), (30, vb v19)] a ∧ SS Ms κ0 w0 κ w [.box b15 96 [si a9.Kind, su a9.Id, su a9.N, su a9.TS, sg a9.Lo, sg a9.Hi, sl p10 (a9.Vers).length c11, sl p12 (a9.Vec).length c13, si a9.Cmd.Kind, si a9.Cmd.DC, si a9.Cmd.Shard, si a9.Cmd.Node, si a9.Cmd.Mode, sg a9.Cmd.Key], .box b7 110 [si a1.Now.Pool, si a1.Now.Nodes, eb 4 a1.Now.Members, (8, cs2), ei 21 a1.Now.Modes, sl p3 (a1.Taken).length c4, si a1.Done, si a1.Epoch, si a1.Entry, eb 4 a1.Wants, sb a1.Ready, su a1.Mark, sl p5 (a1.Mail).length c6], .tok p3 72 6 (a1.Taken).length c4, .tok p5 106 15 (a1.Mail).length c6] [Ro.mp f_api_Ver.ty p10 c11 a9.Vers, Ro.mp (fInt .u64).ty p12 c13 a9.Vec, ml a1.Now.Members 4, Arr.mp t_api_Map cs2 4 a1.Now.Maps, ml a1.Now.Modes 21, Ro.mp f_api_Cmd.ty p3 c4 a1.Taken, ml a1.Wants 4, Ro.mp t_api_Mail p5 c6 a1.Mail] ∧ True) ?_ ?_
 refine rgS hS [] ?_
 have hS := hS.drew
 refine anp [0, 1, 2] [0, 1, 5, 10] hF (hS.sx [0, 1] (rg 8)) fun a hF => ?_
 refine bif_split hv19 (fun hb hv19 => ?_) (fun hb hv19 => ?_)
 have hF := hF.boolv 10 (by kernel_rfl) hb
 refine anp [3, 4, 5, 6, 7, 8, 9, 10, 11, 12, 13, 14, 15, 16, 17, 18, 19, 20, 21, 22] [0, 1, 5, 30] hF (hS.sx [0, 1] (rg 8)) fun a hF => ?_
 refine and_ ?_
 cases hv19
 exact ⟨_, hF.kp [0, 1, 5, 30], hS.sp (rg 4) [6, 7, 0, 1, 2, 3, 4, 5], trivial⟩
 have hF := hF.boolv 10 (by kernel_rfl) hb
 refine anp [3, 4, 5, 6] [0, 1, 5, 14] hF (hS.sx [0, 1] (rg 8)) fun a hF => ?_
 refine bif_split hv19 (fun hb hv19 => ?_) (fun hb hv19 => ?_)
 have hF := hF.boolv 14 (by kernel_rfl) hb
 refine anp [7, 8, 9, 10, 11, 12, 13, 14, 15, 16, 17, 18, 19, 20, 21, 22] [0, 1, 5, 30] hF (hS.sx [0, 1] (rg 8)) fun a hF => ?_
 refine and_ ?_
 cases hv19
 exact ⟨_, hF.kp [0, 1, 5, 30], hS.sp (rg 4) [6, 7, 0, 1, 2, 3, 4, 5], trivial⟩
 have hF := hF.boolv 14 (by kernel_rfl) hb
 refine anp [7, 8, 9] [0, 1, 5, 14, 17] hF (hS.sx [0, 1] (rg 8)) fun a hF => ?_
 refine atk 10 (some 18) hF (hS.sx [0, 1] (rg 8)) rfl (vld 1 8 0) fun a hF => ?_
 refine anp [11, 12, 13] [0, 1, 5, 21] hF (hS.sx [0, 1] (rg 8)) fun a hF => ?_
 refine bif_split hv19 (fun hb hv19 => ?_) (fun hb hv19 => ?_)
 have hF := hF.boolv 21 (by kernel_rfl) hb
 refine anp [14, 15, 16, 17, 18, 19, 20, 21, 22] [0, 1, 5, 30] hF (hS.sx [0, 1] (rg 8)) fun a hF => ?_
 refine and_ ?_
 cases hv19
 exact ⟨_, hF.kp [0, 1, 5, 30], hS.sp (rg 4) [6, 7, 0, 1, 2, 3, 4, 5], trivial⟩
 have hF := hF.boolv 21 (by kernel_rfl) hb
 refine anp [14, 16, 17, 18] [0, 1, 5, 21, 22, 26] hF (hS.sx [0, 1] (rg 8)) fun a hF => ?_
 refine atk 15 (some 23) hF (hS.sx [0, 1] (rg 8)) rfl (vld 0 1 0) fun a hF => ?_
 refine atk 19 (some 27) hF (hS.sx [0, 1] (rg 8)) rfl (vld 1 7 0) fun a hF => ?_
 refine anp [20, 21, 22] [0, 1, 5, 30] hF (hS.sx [0, 1] (rg 8)) fun a hF => ?_
 refine and_ ?_
 cases hv19
 exact ⟨_, hF.kp [0, 1, 5, 30], hS.sp (rg 4) [6, 7, 0, 1, 2, 3, 4, 5], trivial⟩
 rintro a w ⟨κ, hF, hS, -⟩
 refine hK17 _ _ ?_
 refine bif_split H (fun hb H => ?_) (fun hb H => ?_)
 refine cond_t hF (by kernel_rfl) hb ?_
 refine wpIn_ret ?_
 cases H
 exact ret_done hF hS (res0 Try.results75 ) ⟨cs2, p3, c4, p5, c6, rfl, hS.sp [1, 2, 3] [2, 3, 4, 5, 6, 7]⟩
 refine cond_f hF (by kernel_rfl) hb ?_
 refine wpIn_skip ?_
 refine hK16 _ _ ?_
 refine wpIn_seq_k fun K20 hK20 => ?_
 refine rgS hS [11] ?_
 have hS := hS.drew
 refine any_pure [0, 1, 2, 4, 5, 6] [0, 1, 5, 33, 37] (L' := [(0, pt b7 0), (1, vi a8), (5, pt b15 0), (33, pt b7 35), (37, pt b7 36)]) (listed' := (bitA 12 119)) (fuel := 6) hF (hS.sx [0, 1] (rg 8)) (by kernel_rfl) (by intro c a w t v h; cases t <;> exact h) (by kernel_rfl) rfl fun a hF => ?_
 refine atk 3 (some 34) hF (hS.sx [0, 1] (rg 8)) rfl (vld 1 5 0) fun a hF => ?_
 refine atk 7 (some 38) hF (hS.sx [0, 1] (rg 8)) rfl (vld 1 6 0) fun a hF => ?_
 refine bind_split H (fun x21 hx21 H => ?_)
 obtain ⟨b22, f23, hpx21⟩ := hS.ptr 5 rfl hx21
 refine atk 8 (some 39) hF (hS.sx [0, 1] (rg 8)) rfl (fun w _ => val_index (E := 72) (sz := 6) rfl hpx21 rfl (by kernel_rfl) rfl hx21 (by kernel_rfl) (by kernel_rfl) w) fun a hF => ?_
 refine atk 9 (some 40) hF (hS.sx [0, 1] (rg 8)) rfl (val_loadRoAgg (t := f_api_Cmd) 5 rfl rfl hpx21 rfl hx21 (by kernel_rfl) (by kernel_rfl) (by kernel_rfl)) fun a hF => ?_
 refine ago 10 hF rfl ?_
 refine wal hF hS [si 0, si 0, si 0, si 0, si 0, sg ByteArray.empty] (sgN 6 sgNil) fun b24 a w hF hS => ?_
 refine ⟨fun _ => (hS.sx [1, 2] (rg 8)), ?_⟩
 refine ago 11 hF rfl ?_
 refine wst hF hS 0 0 6 [si x21.Kind, si x21.DC, si x21.Shard, si x21.Node, si x21.Mode, sg x21.Key] (sgN 6 sgNil) fun a w hF hS => ?_
 refine ⟨notE, ?_⟩
 refine and_ ?_
 refine hK20 _ _ ?_
 refine wpIn_seq_k fun K25 hK25 => ?_
 refine wpIn_region_lit ?_
 refine wp 1 [0, 1, 5, 6, 41] hF fun a hF => ?_
 refine bind_split H (fun x26 hx26 H => ?_)
 refine wc (wcS 1 [2, 0, 1, 3, 4] hF hS (fun hS => C_ref19_Warden_Waits N (T_ref19_Warden.mk (T_ref18_State.mk a1.Now.Pool a1.Now.Nodes a1.Now.Members a1.Now.Maps a1.Now.Modes) a1.Taken a1.Done a1.Epoch a1.Entry a1.Wants a1.Ready a1.Mark a1.Mail) cs2 p3 c4 p5 c6 b7 ⟨rfl, hS.pick [2, 3, 4, 5, 6, 7] (by kernel_rfl)⟩ hx26) ?_)
 rintro _ κ w a ⟨rfl, h2⟩ hF hB
 have hS := hB _ _ h2
 refine wp 1 [0, 1, 5, 6, 7] hF fun a hF => ?_
 refine wpListIn_nil ?_
 refine hK25 _ _ ?_
 refine seq_join (fun a w => ∃ (κ : Gh) (y27 : List Bool) (y28 : Int), Fr (210) [] [(0, pt b7 0), (1, vi a8), (5, pt b15 0), (6, pt b24 0), (7, vb x26)] a ∧ SS Ms κ0 w0 κ w [.box b7 110 [si a1.Now.Pool, si a1.Now.Nodes, eb 4 a1.Now.Members, (8, cs2), ei 21 a1.Now.Modes, sl p3 (a1.Taken).length c4, si a1.Done, si a1.Epoch, si a1.Entry, eb 4 y27, sb a1.Ready, su y28, sl p5 (a1.Mail).length c6], .box b24 72 [si x21.Kind, si x21.DC, si x21.Shard, si x21.Node, si x21.Mode, sg x21.Key], .box b15 96 [si a9.Kind, su a9.Id, su a9.N, su a9.TS, sg a9.Lo, sg a9.Hi, sl p10 (a9.Vers).length c11, sl p12 (a9.Vec).length c13, si a9.Cmd.Kind, si a9.Cmd.DC, si a9.Cmd.Shard, si a9.Cmd.Node, si a9.Cmd.Mode, sg a9.Cmd.Key], .tok p3 72 6 (a1.Taken).length c4, .tok p5 106 15 (a1.Mail).length c6] [ml a1.Now.Members 4, Arr.mp t_api_Map cs2 4 a1.Now.Maps, ml a1.Now.Modes 21, Ro.mp f_api_Cmd.ty p3 c4 a1.Taken, ml y27 4, Ro.mp t_api_Mail p5 c6 a1.Mail, Ro.mp f_api_Ver.ty p10 c11 a9.Vers, Ro.mp (fInt .u64).ty p12 c13 a9.Vec] ∧ M.ref19_Warden_Take_k1 N a1 a8 a9 x21 x26 y27 y28 = some r) ?_ ?_
 refine wpIn_seq_k fun K99 hK99 => ?_
 refine wpIn_region_lit ?_
 refine bind_split H (fun v101 hv101 H => ?_)
 refine wl_join (fun a w => ∃ κ : Gh, Fr (210) [] [(0, pt b7 0), (1, vi a8), (5, pt b15 0), (6, pt b24 0), (7, vb x26), (53, vb v101)] a ∧ SS Ms κ0 w0 κ w [.box b7 110 [si a1.Now.Pool, si a1.Now.Nodes, eb 4 a1.Now.Members, (8, cs2), ei 21 a1.Now.Modes, sl p3 (a1.Taken).length c4, si a1.Done, si a1.Epoch, si a1.Entry, eb 4 a1.Wants, sb a1.Ready, su a1.Mark, sl p5 (a1.Mail).length c6], .box b24 72 [si x21.Kind, si x21.DC, si x21.Shard, si x21.Node, si x21.Mode, sg x21.Key], .box b15 96 [si a9.Kind, su a9.Id, su a9.N, su a9.TS, sg a9.Lo, sg a9.Hi, sl p10 (a9.Vers).length c11, sl p12 (a9.Vec).length c13, si a9.Cmd.Kind, si a9.Cmd.DC, si a9.Cmd.Shard, si a9.Cmd.Node, si a9.Cmd.Mode, sg a9.Cmd.Key], .tok p3 72 6 (a1.Taken).length c4, .tok p5 106 15 (a1.Mail).length c6] [ml a1.Now.Members 4, Arr.mp t_api_Map cs2 4 a1.Now.Maps, ml a1.Now.Modes 21, Ro.mp f_api_Cmd.ty p3 c4 a1.Taken, ml a1.Wants 4, Ro.mp t_api_Mail p5 c6 a1.Mail, Ro.mp f_api_Ver.ty p10 c11 a9.Vers, Ro.mp (fInt .u64).ty p12 c13 a9.Vec] ∧ True) ?_ ?_
 refine wp 1 [0, 1, 5, 6, 7, 43] hF fun a hF => ?_
 refine wc (wld hF hS 2 0 0 fun a hF => ?_)
 refine wp 2 [0, 1, 5, 6, 7, 46] hF fun a hF => ?_
 refine bif_split hv101 (fun hb hv101 => ?_) (fun hb hv101 => ?_)
 have hF := hF.boolv 46 (by kernel_rfl) hb
 refine wl_pure (L' := [(0, pt b7 0), (1, vi a8), (5, pt b15 0), (6, pt b24 0), (7, vb x26), (46, vb true), (48, vi a8), (50, pt b7 39)]) 4 [0, 1, 5, 6, 7, 46, 48, 50] hF (by kernel_rfl) fun a hF => ?_
 refine bind_split hv101 (fun x102 hx102 hv101 => ?_)
 refine wcg hF (wo_indexArr hF (by kernel_rfl) (E := 4) (sz := 1) (n := 4) rfl rfl (i := a8) rfl (idx_lt hx102 (hS.get 6 rfl)) (by kernel_rfl) (by kernel_rfl) fun a hF => ?_)
 refine wcg hF (wo_loadA1 (t := fBool) hF hS (by kernel_rfl) 0 9 (v := vb x102) rfl rfl rfl rfl hx102 rfl rfl (by kernel_rfl) (by kernel_rfl) fun a hF => ?_)
 refine wp 1 [0, 1, 5, 6, 7, 53] hF fun a hF => ?_
 refine wpListIn_nil ?_
 cases hv101
 exact ⟨_, hF.kp [0, 1, 5, 6, 7, 53], hS.sp (rg 5) [2, 3, 4, 5, 6, 7, 0, 1], trivial⟩
 have hF := hF.boolv 46 (by kernel_rfl) hb
 refine wp 7 [0, 1, 5, 6, 7, 53] hF fun a hF => ?_
 refine wpListIn_nil ?_
 cases hv101
 exact ⟨_, hF.kp [0, 1, 5, 6, 7, 53], hS.sp (rg 5) [2, 3, 4, 5, 6, 7, 0, 1], trivial⟩
 rintro a w ⟨κ, hF, hS, -⟩
 refine hK99 _ _ ?_
 refine bif_split H (fun hb H => ?_) (fun hb H => ?_)
 refine cond_t hF (by kernel_rfl) hb ?_
 refine wpIn_seq_k fun K103 hK103 => ?_
 refine wpIn_region_lit ?_
 refine wl_pure (L' := [(0, pt b7 0), (1, vi a8), (5, pt b15 0), (6, pt b24 0), (7, vb x26), (55, vi a8), (57, pt b7 39)]) 4 [0, 1, 5, 6, 7, 55, 57] hF (by kernel_rfl) fun a hF => ?_
 refine bind_split H (fun x104 hx104 H => ?_)
 refine wc (wo_indexArr hF (by kernel_rfl) (E := 4) (sz := 1) (n := 4) rfl rfl (i := a8) rfl (idx_lt hx104 (hS.get 4 rfl)) (by kernel_rfl) (by kernel_rfl) fun a hF => ?_)
 refine wc (wo_storeA1 (t := fBool) (y := false) (v := vb false) hF hS (by kernel_rfl) 0 9 (s' := [si a1.Now.Pool, si a1.Now.Nodes, eb 4 a1.Now.Members, (8, cs2), ei 21 a1.Now.Modes, sl p3 (a1.Taken).length c4, si a1.Done, si a1.Epoch, si a1.Entry, eb 4 (List.set a1.Wants (Int.toNat a8) false), sb a1.Ready, su a1.Mark, sl p5 (a1.Mail).length c6]) (C' := [.box b7 110 [si a1.Now.Pool, si a1.Now.Nodes, eb 4 a1.Now.Members, (8, cs2), ei 21 a1.Now.Modes, sl p3 (a1.Taken).length c4, si a1.Done, si a1.Epoch, si a1.Entry, eb 4 (List.set a1.Wants (Int.toNat a8) false), sb a1.Ready, su a1.Mark, sl p5 (a1.Mail).length c6], .box b24 72 [si x21.Kind, si x21.DC, si x21.Shard, si x21.Node, si x21.Mode, sg x21.Key], .box b15 96 [si a9.Kind, su a9.Id, su a9.N, su a9.TS, sg a9.Lo, sg a9.Hi, sl p10 (a9.Vers).length c11, sl p12 (a9.Vec).length c13, si a9.Cmd.Kind, si a9.Cmd.DC, si a9.Cmd.Shard, si a9.Cmd.Node, si a9.Cmd.Mode, sg a9.Cmd.Key], .tok p3 72 6 (a1.Taken).length c4, .tok p5 106 15 (a1.Mail).length c6]) rfl rfl (by kernel_rfl) rfl rfl hx104 rfl rfl (by kernel_rfl) (by kernel_rfl) (by kernel_rfl) (by kernel_rfl) fun a w hF hS => ?_)
 have hS := hS.add (m := ml (List.set a1.Wants (Int.toNat a8) false) 4) (List.length_set.trans (hS.get 4 rfl))
 refine wpListIn_nil ?_
 refine hK103 _ _ ?_
 refine wpIn_seq_k fun K105 hK105 => ?_
 refine rgS hS [] ?_
 have hS := hS.drew
 refine anp [0, 2, 3, 4] [0, 1, 5, 6, 7, 59, 63] hF (hS.sx [0, 1, 2] (rg 9)) fun a hF => ?_
 refine atk 1 (some 60) hF (hS.sx [0, 1, 2] (rg 9)) rfl (vld 2 3 0) fun a hF => ?_
 refine atk 5 (some 64) hF (hS.sx [0, 1, 2] (rg 9)) rfl (vld 0 11 0) fun a hF => ?_
 refine anp [6] [0, 1, 5, 6, 7, 65] hF (hS.sx [0, 1, 2] (rg 9)) fun a hF => ?_
 refine and_ ?_
 refine hK105 _ _ ?_
 refine bif_split H (fun hb H => ?_) (fun hb H => ?_)
 refine cond_t hF (by kernel_rfl) hb ?_
 refine wpIn_region_lit ?_
 refine wp 2 [0, 1, 5, 6, 7, 66, 67] hF fun a hF => ?_
 refine wc (wld hF hS 2 3 0 fun a hF => ?_)
 refine wp 2 [0, 1, 5, 6, 7, 68, 70] hF fun a hF => ?_
 refine wc (wst hF hS 0 11 1 [su a9.TS] (sgN 1 sgNil) fun a w hF hS => ?_)
 refine wpListIn_nil ?_
 exact ⟨_, (List.set a1.Wants (Int.toNat a8) false), a9.TS, hF.kp [0, 1, 5, 6, 7], hS.sp (rg 5) [1, 2, 3, 4, 0, 6, 7, 8], H⟩
 refine cond_f hF (by kernel_rfl) hb ?_
 refine wpIn_skip ?_
 exact ⟨_, (List.set a1.Wants (Int.toNat a8) false), a1.Mark, hF.kp [0, 1, 5, 6, 7], hS.sp (rg 5) [1, 2, 3, 4, 0, 6, 7, 8], H⟩
 refine cond_f hF (by kernel_rfl) hb ?_
 refine wpIn_skip ?_
 exact ⟨_, a1.Wants, a1.Mark, hF.kp [0, 1, 5, 6, 7], hS.sp (rg 5) (rg 8), H⟩
 rintro a w ⟨κ, y27, y28, hF, hS, H⟩
 unfold M.ref19_Warden_Take_k1 at H
 refine seq_join (fun a w => ∃ (κ : Gh) (y29 : Bool), Fr (210) [] [(0, pt b7 0), (1, vi a8), (5, pt b15 0), (6, pt b24 0), (7, vb x26)] a ∧ SS Ms κ0 w0 κ w [.box b7 110 [si a1.Now.Pool, si a1.Now.Nodes, eb 4 a1.Now.Members, (8, cs2), ei 21 a1.Now.Modes, sl p3 (a1.Taken).length c4, si a1.Done, si a1.Epoch, si a1.Entry, eb 4 y27, sb y29, su y28, sl p5 (a1.Mail).length c6], .box b24 72 [si x21.Kind, si x21.DC, si x21.Shard, si x21.Node, si x21.Mode, sg x21.Key], .box b15 96 [si a9.Kind, su a9.Id, su a9.N, su a9.TS, sg a9.Lo, sg a9.Hi, sl p10 (a9.Vers).length c11, sl p12 (a9.Vec).length c13, si a9.Cmd.Kind, si a9.Cmd.DC, si a9.Cmd.Shard, si a9.Cmd.Node, si a9.Cmd.Mode, sg a9.Cmd.Key], .tok p3 72 6 (a1.Taken).length c4, .tok p5 106 15 (a1.Mail).length c6] [ml a1.Now.Members 4, Arr.mp t_api_Map cs2 4 a1.Now.Maps, ml a1.Now.Modes 21, Ro.mp f_api_Cmd.ty p3 c4 a1.Taken, ml y27 4, Ro.mp t_api_Mail p5 c6 a1.Mail, Ro.mp f_api_Ver.ty p10 c11 a9.Vers, Ro.mp (fInt .u64).ty p12 c13 a9.Vec] ∧ M.ref19_Warden_Take_k2 N a1 a8 a9 x21 x26 y27 y28 y29 = some r) ?_ ?_
 refine wpIn_seq_k fun K96 hK96 => ?_
 refine wpIn_region_lit ?_
 refine bind_split H (fun v98 hv98 H => ?_)
 refine wl_join (fun a w => ∃ κ : Gh, Fr (210) [] [(0, pt b7 0), (1, vi a8), (5, pt b15 0), (6, pt b24 0), (7, vb x26), (95, vb v98)] a ∧ SS Ms κ0 w0 κ w [.box b7 110 [si a1.Now.Pool, si a1.Now.Nodes, eb 4 a1.Now.Members, (8, cs2), ei 21 a1.Now.Modes, sl p3 (a1.Taken).length c4, si a1.Done, si a1.Epoch, si a1.Entry, eb 4 y27, sb a1.Ready, su y28, sl p5 (a1.Mail).length c6], .box b24 72 [si x21.Kind, si x21.DC, si x21.Shard, si x21.Node, si x21.Mode, sg x21.Key], .box b15 96 [si a9.Kind, su a9.Id, su a9.N, su a9.TS, sg a9.Lo, sg a9.Hi, sl p10 (a9.Vers).length c11, sl p12 (a9.Vec).length c13, si a9.Cmd.Kind, si a9.Cmd.DC, si a9.Cmd.Shard, si a9.Cmd.Node, si a9.Cmd.Mode, sg a9.Cmd.Key], .tok p3 72 6 (a1.Taken).length c4, .tok p5 106 15 (a1.Mail).length c6] [ml a1.Now.Members 4, Arr.mp t_api_Map cs2 4 a1.Now.Maps, ml a1.Now.Modes 21, Ro.mp f_api_Cmd.ty p3 c4 a1.Taken, ml y27 4, Ro.mp t_api_Mail p5 c6 a1.Mail, Ro.mp f_api_Ver.ty p10 c11 a9.Vers, Ro.mp (fInt .u64).ty p12 c13 a9.Vec] ∧ True) ?_ ?_
 refine wp 1 [0, 1, 5, 6, 7, 71] hF fun a hF => ?_
 refine wc (wld hF hS 2 0 0 fun a hF => ?_)
 refine wp 2 [0, 1, 5, 6, 7, 74] hF fun a hF => ?_
 refine bif_split hv98 (fun hb hv98 => ?_) (fun hb hv98 => ?_)
 have hF := hF.boolv 74 (by kernel_rfl) hb
 refine wp 1 [0, 1, 5, 6, 7, 74, 75] hF fun a hF => ?_
 refine wcg hF (wld hF hS 1 0 0 fun a hF => ?_)
 refine wp 3 [0, 1, 5, 6, 7, 79] hF fun a hF => ?_
 refine bif_split hv98 (fun hb hv98 => ?_) (fun hb hv98 => ?_)
 have hF := hF.boolv 79 (by kernel_rfl) hb
 refine wp 3 [0, 1, 5, 6, 7, 79, 82] hF fun a hF => ?_
 refine wcg hF (wld hF hS 0 8 0 fun a hF => ?_)
 refine wp 3 [0, 1, 5, 6, 7, 86] hF fun a hF => ?_
 refine bif_split hv98 (fun hb hv98 => ?_) (fun hb hv98 => ?_)
 have hF := hF.boolv 86 (by kernel_rfl) hb
 refine wp 4 [0, 1, 5, 6, 7, 90] hF fun a hF => ?_
 refine bif_split hv98 (fun hb hv98 => ?_) (fun hb hv98 => ?_)
 have hF := hF.boolv 90 (by kernel_rfl) hb
 refine wp 2 [0, 1, 5, 6, 7, 90, 91, 92] hF fun a hF => ?_
 refine wcg hF (wld hF hS 1 1 0 fun a hF => ?_)
 refine wp 2 [0, 1, 5, 6, 7, 95] hF fun a hF => ?_
 refine wpListIn_nil ?_
 cases hv98
 exact ⟨_, hF.kp [0, 1, 5, 6, 7, 95], hS.sp (rg 5) (rg 8), trivial⟩
 have hF := hF.boolv 90 (by kernel_rfl) hb
 refine wp 5 [0, 1, 5, 6, 7, 95] hF fun a hF => ?_
 refine wpListIn_nil ?_
 cases hv98
 exact ⟨_, hF.kp [0, 1, 5, 6, 7, 95], hS.sp (rg 5) (rg 8), trivial⟩
 have hF := hF.boolv 86 (by kernel_rfl) hb
 refine wp 9 [0, 1, 5, 6, 7, 95] hF fun a hF => ?_
 refine wpListIn_nil ?_
 cases hv98
 exact ⟨_, hF.kp [0, 1, 5, 6, 7, 95], hS.sp (rg 5) (rg 8), trivial⟩
 have hF := hF.boolv 79 (by kernel_rfl) hb
 refine wp 16 [0, 1, 5, 6, 7, 95] hF fun a hF => ?_
 refine wpListIn_nil ?_
 cases hv98
 exact ⟨_, hF.kp [0, 1, 5, 6, 7, 95], hS.sp (rg 5) (rg 8), trivial⟩
 have hF := hF.boolv 74 (by kernel_rfl) hb
 refine wp 21 [0, 1, 5, 6, 7, 95] hF fun a hF => ?_
 refine wpListIn_nil ?_
 cases hv98
 exact ⟨_, hF.kp [0, 1, 5, 6, 7, 95], hS.sp (rg 5) (rg 8), trivial⟩
 rintro a w ⟨κ, hF, hS, -⟩
 refine hK96 _ _ ?_
 refine bif_split H (fun hb H => ?_) (fun hb H => ?_)
 refine cond_t hF (by kernel_rfl) hb ?_
 refine wpIn_region_lit ?_
 refine wp 3 [0, 1, 5, 6, 7, 98] hF fun a hF => ?_
 refine wc (wst hF hS 0 10 1 [sb true] (sgN 1 sgNil) fun a w hF hS => ?_)
 refine wpListIn_nil ?_
 exact ⟨_, true, hF.kp [0, 1, 5, 6, 7], hS.sp (rg 5) (rg 8), H⟩
 refine cond_f hF (by kernel_rfl) hb ?_
 refine wpIn_skip ?_
 exact ⟨_, a1.Ready, hF.kp [0, 1, 5, 6, 7], hS.sp (rg 5) (rg 8), H⟩
 rintro a w ⟨κ, y29, hF, hS, H⟩
 unfold M.ref19_Warden_Take_k2 at H
 refine seq_join (fun a w => ∃ (κ : Gh) (y30 : Bool), Fr (210) [] [(0, pt b7 0), (6, pt b24 0), (7, vb x26)] a ∧ SS Ms κ0 w0 κ w [.box b7 110 [si a1.Now.Pool, si a1.Now.Nodes, eb 4 a1.Now.Members, (8, cs2), ei 21 a1.Now.Modes, sl p3 (a1.Taken).length c4, si a1.Done, si a1.Epoch, si a1.Entry, eb 4 y27, sb y30, su y28, sl p5 (a1.Mail).length c6], .box b24 72 [si x21.Kind, si x21.DC, si x21.Shard, si x21.Node, si x21.Mode, sg x21.Key], .tok p3 72 6 (a1.Taken).length c4, .tok p5 106 15 (a1.Mail).length c6] [ml a1.Now.Members 4, Arr.mp t_api_Map cs2 4 a1.Now.Maps, ml a1.Now.Modes 21, Ro.mp f_api_Cmd.ty p3 c4 a1.Taken, ml y27 4, Ro.mp t_api_Mail p5 c6 a1.Mail] ∧ M.ref19_Warden_Take_k3 N a1 x21 x26 y27 y28 y30 = some r) ?_ ?_
 refine wpIn_seq_k fun K93 hK93 => ?_
 refine wpIn_region_lit ?_
 refine bind_split H (fun v95 hv95 H => ?_)
 refine wl_join (fun a w => ∃ κ : Gh, Fr (210) [] [(0, pt b7 0), (6, pt b24 0), (7, vb x26), (119, vb v95)] a ∧ SS Ms κ0 w0 κ w [.box b7 110 [si a1.Now.Pool, si a1.Now.Nodes, eb 4 a1.Now.Members, (8, cs2), ei 21 a1.Now.Modes, sl p3 (a1.Taken).length c4, si a1.Done, si a1.Epoch, si a1.Entry, eb 4 y27, sb y29, su y28, sl p5 (a1.Mail).length c6], .box b24 72 [si x21.Kind, si x21.DC, si x21.Shard, si x21.Node, si x21.Mode, sg x21.Key], .tok p3 72 6 (a1.Taken).length c4, .tok p5 106 15 (a1.Mail).length c6] [ml a1.Now.Members 4, Arr.mp t_api_Map cs2 4 a1.Now.Maps, ml a1.Now.Modes 21, Ro.mp f_api_Cmd.ty p3 c4 a1.Taken, ml y27 4, Ro.mp t_api_Mail p5 c6 a1.Mail] ∧ True) ?_ ?_
 refine wp 1 [0, 1, 6, 7, 99] hF fun a hF => ?_
 refine wc (wld hF hS 2 0 0 fun a hF => ?_)
 refine wp 2 [0, 1, 6, 7, 102] hF fun a hF => ?_
 refine bif_split hv95 (fun hb hv95 => ?_) (fun hb hv95 => ?_)
 have hF := hF.boolv 102 (by kernel_rfl) hb
 refine wp 1 [0, 1, 6, 7, 102, 103] hF fun a hF => ?_
 refine wcg hF (wld hF hS 1 0 0 fun a hF => ?_)
 refine wp 3 [0, 1, 6, 7, 107] hF fun a hF => ?_
 refine bif_split hv95 (fun hb hv95 => ?_) (fun hb hv95 => ?_)
 have hF := hF.boolv 107 (by kernel_rfl) hb
 refine wp 3 [0, 1, 6, 7, 107, 110] hF fun a hF => ?_
 refine wcg hF (wld hF hS 0 8 0 fun a hF => ?_)
 refine wp 3 [0, 1, 6, 7, 114] hF fun a hF => ?_
 refine bif_split hv95 (fun hb hv95 => ?_) (fun hb hv95 => ?_)
 have hF := hF.boolv 114 (by kernel_rfl) hb
 refine wp 2 [0, 6, 7, 114, 115, 116] hF fun a hF => ?_
 refine wcg hF (wld hF hS 1 1 0 fun a hF => ?_)
 refine wp 2 [0, 6, 7, 119] hF fun a hF => ?_
 refine wpListIn_nil ?_
 cases hv95
 exact ⟨_, hF.kp [0, 6, 7, 119], hS.sp [0, 1, 3, 4] (rg 6), trivial⟩
 have hF := hF.boolv 114 (by kernel_rfl) hb
 refine wp 5 [0, 6, 7, 119] hF fun a hF => ?_
 refine wpListIn_nil ?_
 cases hv95
 exact ⟨_, hF.kp [0, 6, 7, 119], hS.sp [0, 1, 3, 4] (rg 6), trivial⟩
 have hF := hF.boolv 107 (by kernel_rfl) hb
 refine wp 12 [0, 6, 7, 119] hF fun a hF => ?_
 refine wpListIn_nil ?_
 cases hv95
 exact ⟨_, hF.kp [0, 6, 7, 119], hS.sp [0, 1, 3, 4] (rg 6), trivial⟩
 have hF := hF.boolv 102 (by kernel_rfl) hb
 refine wp 17 [0, 6, 7, 119] hF fun a hF => ?_
 refine wpListIn_nil ?_
 cases hv95
 exact ⟨_, hF.kp [0, 6, 7, 119], hS.sp [0, 1, 3, 4] (rg 6), trivial⟩
 rintro a w ⟨κ, hF, hS, -⟩
 refine hK93 _ _ ?_
 refine bif_split H (fun hb H => ?_) (fun hb H => ?_)
 refine cond_t hF (by kernel_rfl) hb ?_
 refine wpIn_region_lit ?_
 refine wp 3 [0, 6, 7, 122] hF fun a hF => ?_
 refine wc (wst hF hS 0 10 1 [sb true] (sgN 1 sgNil) fun a w hF hS => ?_)
 refine wpListIn_nil ?_
 exact ⟨_, true, hF.kp [0, 6, 7], hS.sp (rg 4) (rg 6), H⟩
 refine cond_f hF (by kernel_rfl) hb ?_
 refine wpIn_skip ?_
 exact ⟨_, y29, hF.kp [0, 6, 7], hS.sp (rg 4) (rg 6), H⟩
 rintro a w ⟨κ, y30, hF, hS, H⟩
 unfold M.ref19_Warden_Take_k3 at H
 refine wpIn_seq_k fun K31 hK31 => ?_
 refine wpIn_seq_k fun K32 hK32 => ?_
 refine wpIn_region_lit ?_
 refine wp 1 [0, 6, 7, 123] hF fun a hF => ?_
 refine bind_split H (fun x33 hx33 H => ?_)
 refine wc (wcS 1 (rg 4) hF hS (fun hS => C_ref19_Warden_Waits N (T_ref19_Warden.mk (T_ref18_State.mk a1.Now.Pool a1.Now.Nodes a1.Now.Members a1.Now.Maps a1.Now.Modes) a1.Taken a1.Done a1.Epoch a1.Entry y27 y30 y28 a1.Mail) cs2 p3 c4 p5 c6 b7 ⟨rfl, hS.pick (rg 6) (by kernel_rfl)⟩ hx33) ?_)
 rintro _ κ w a ⟨rfl, h2⟩ hF hB
 have hS := hB _ _ h2
 refine wpListIn_nil ?_
 refine hK32 _ _ ?_
 refine bif_split H (fun hb H => ?_) (fun hb H => ?_)
 refine cond_t hF (by kernel_rfl) hb ?_
 refine wpIn_ret ?_
 cases H
 exact ret_done hF hS (res0 Try.results75 ) ⟨cs2, p3, c4, p5, c6, rfl, hS.sp [0, 2, 3] (rg 6)⟩
 refine cond_f hF (by kernel_rfl) hb ?_
 refine wpIn_skip ?_
 refine hK31 _ _ ?_
 refine wpIn_seq_k fun K34 hK34 => ?_
 refine wpIn_seq_k fun K35 hK35 => ?_
 refine wpIn_region_lit ?_
 refine bind_split H (fun v37 hv37 H => ?_)
 refine wl_join (fun a w => ∃ κ : Gh, Fr (210) [] [(0, pt b7 0), (6, pt b24 0), (7, vb x26), (139, vb v37)] a ∧ SS Ms κ0 w0 κ w [.box b7 110 [si a1.Now.Pool, si a1.Now.Nodes, eb 4 a1.Now.Members, (8, cs2), ei 21 a1.Now.Modes, sl p3 (a1.Taken).length c4, si a1.Done, si a1.Epoch, si a1.Entry, eb 4 y27, sb y30, su y28, sl p5 (a1.Mail).length c6], .box b24 72 [si x21.Kind, si x21.DC, si x21.Shard, si x21.Node, si x21.Mode, sg x21.Key], .tok p3 72 6 (a1.Taken).length c4, .tok p5 106 15 (a1.Mail).length c6] [ml a1.Now.Members 4, Arr.mp t_api_Map cs2 4 a1.Now.Maps, ml a1.Now.Modes 21, Ro.mp f_api_Cmd.ty p3 c4 a1.Taken, ml y27 4, Ro.mp t_api_Mail p5 c6 a1.Mail] ∧ True) ?_ ?_
 refine wp 3 [0, 6, 7, 127] hF fun a hF => ?_
 refine wc (wld hF hS 0 8 0 fun a hF => ?_)
 refine wp 2 [0, 6, 7, 130] hF fun a hF => ?_
 refine bif_split hv37 (fun hb hv37 => ?_) (fun hb hv37 => ?_)
 have hF := hF.boolv 130 (by kernel_rfl) hb
 refine wp 1 [0, 6, 7, 130, 131] hF fun a hF => ?_
 refine wcg hF (wld hF hS 1 0 0 fun a hF => ?_)
 refine wp 2 [0, 6, 7, 130, 134] hF fun a hF => ?_
 refine bif_split hv37 (fun hb hv37 => ?_) (fun hb hv37 => ?_)
 have hF := hF.boolv 134 (by kernel_rfl) hb
 refine wp 5 [0, 6, 7, 139] hF fun a hF => ?_
 refine wpListIn_nil ?_
 cases hv37
 exact ⟨_, hF.kp [0, 6, 7, 139], hS.sp (rg 4) (rg 6), trivial⟩
 have hF := hF.boolv 134 (by kernel_rfl) hb
 refine wp 1 [0, 6, 7, 130, 134, 135] hF fun a hF => ?_
 refine wcg hF (wld hF hS 1 0 0 fun a hF => ?_)
 refine wp 3 [0, 6, 7, 139] hF fun a hF => ?_
 refine wpListIn_nil ?_
 cases hv37
 exact ⟨_, hF.kp [0, 6, 7, 139], hS.sp (rg 4) (rg 6), trivial⟩
 have hF := hF.boolv 130 (by kernel_rfl) hb
 refine wp 9 [0, 6, 7, 139] hF fun a hF => ?_
 refine wpListIn_nil ?_
 cases hv37
 exact ⟨_, hF.kp [0, 6, 7, 139], hS.sp (rg 4) (rg 6), trivial⟩
 rintro a w ⟨κ, hF, hS, -⟩
 refine hK35 _ _ ?_
 refine bif_split H (fun hb H => ?_) (fun hb H => ?_)
 refine cond_t hF (by kernel_rfl) hb ?_
 refine seq_join (fun a w => ∃ (κ : Gh) (y38 : List T_api_Mail) (p39 : Option Addr) (c40 : Nat), Fr (210) [] [(0, pt b7 0)] a ∧ SS Ms κ0 w0 κ w [.box b7 110 [si a1.Now.Pool, si a1.Now.Nodes, eb 4 a1.Now.Members, (8, cs2), ei 21 a1.Now.Modes, sl p3 (a1.Taken).length c4, si a1.Done, si a1.Epoch, si a1.Entry, eb 4 y27, sb y30, su y28, sl p39 (y38).length c40], .tok p39 106 15 (y38).length c40, .tok p3 72 6 (a1.Taken).length c4] [ml a1.Now.Members 4, Arr.mp t_api_Map cs2 4 a1.Now.Maps, ml a1.Now.Modes 21, Ro.mp f_api_Cmd.ty p3 c4 a1.Taken, ml y27 4, Ro.mp t_api_Mail p39 c40 y38] ∧ M.ref19_Warden_Take_k4 N a1 y27 y28 y30 y38 = some r) ?_ ?_
 refine wpIn_seq_k fun K66 hK66 => ?_
 refine wpIn_region_lit ?_
 refine bind_split H (fun v68 hv68 H => ?_)
 refine wl_join (fun a w => ∃ κ : Gh, Fr (210) [] [(0, pt b7 0), (6, pt b24 0), (145, vb v68)] a ∧ SS Ms κ0 w0 κ w [.box b7 110 [si a1.Now.Pool, si a1.Now.Nodes, eb 4 a1.Now.Members, (8, cs2), ei 21 a1.Now.Modes, sl p3 (a1.Taken).length c4, si a1.Done, si a1.Epoch, si a1.Entry, eb 4 y27, sb y30, su y28, sl p5 (a1.Mail).length c6], .box b24 72 [si x21.Kind, si x21.DC, si x21.Shard, si x21.Node, si x21.Mode, sg x21.Key], .tok p3 72 6 (a1.Taken).length c4, .tok p5 106 15 (a1.Mail).length c6] [ml a1.Now.Members 4, Arr.mp t_api_Map cs2 4 a1.Now.Maps, ml a1.Now.Modes 21, Ro.mp f_api_Cmd.ty p3 c4 a1.Taken, ml y27 4, Ro.mp t_api_Mail p5 c6 a1.Mail] ∧ True) ?_ ?_
 refine wp 2 [0, 6, 141] hF fun a hF => ?_
 refine bif_split hv68 (fun hb hv68 => ?_) (fun hb hv68 => ?_)
 have hF := hF.boolv 141 (by kernel_rfl) hb
 refine wp 1 [0, 6, 141, 142] hF fun a hF => ?_
 refine wcg hF (wld hF hS 1 0 0 fun a hF => ?_)
 refine wp 2 [0, 6, 145] hF fun a hF => ?_
 refine wpListIn_nil ?_
 cases hv68
 exact ⟨_, hF.kp [0, 6, 145], hS.sp (rg 4) (rg 6), trivial⟩
 have hF := hF.boolv 141 (by kernel_rfl) hb
 refine wp 4 [0, 6, 145] hF fun a hF => ?_
 refine wpListIn_nil ?_
 cases hv68
 exact ⟨_, hF.kp [0, 6, 145], hS.sp (rg 4) (rg 6), trivial⟩
 rintro a w ⟨κ, hF, hS, -⟩
 refine hK66 _ _ ?_
 refine bif_split H (fun hb H => ?_) (fun hb H => ?_)
 refine cond_t hF (by kernel_rfl) hb ?_
 refine rgS hS [23] ?_
 have hS := hS.drew
 refine bind_split H (fun x69 hx69 H => ?_)
 refine bind_split H (fun x71 hx71 H => ?_)
 refine anp [0, 1, 2, 3, 5, 8, 9, 10, 13, 14, 15] [0, 146, 149, 151, 156, 161] hF (hS.sx [0, 1] (rg 6)) fun a hF => ?_
 refine atk 4 (some 150) hF (hS.sx [0, 1] (rg 6)) rfl (vld 0 12 0) fun a hF => ?_
 refine atk 6 (some 152) hF (hS.sx [0, 1] (rg 6)) rfl (vld 1 1 0) fun a hF => ?_
 refine atk 11 (some 157) hF (hS.sx [0, 1] (rg 6)) rfl (vld 0 7 0) fun a hF => ?_
 refine anp [12] [0, 146, 150, 152, 158, 161] hF (hS.sx [0, 1] (rg 6)) fun a hF => ?_
 refine atk 16 (some 162) hF (hS.sx [0, 1] (rg 6)) rfl (vld 0 11 0) fun a hF => ?_
 refine anp [17] [0, 146, 150, 152, 163] hF (hS.sx [0, 1] (rg 6)) fun a hF => ?_
 refine ago 7 hF rfl ?_
 refine wo_callP hF hS (by kernel_rfl) (by kernel_rfl) (C_ref18_Gate N hS.fresh x21.DC  ((hS.pick [] (by kernel_rfl)).ro) hx69) ?_
 rintro _ κ w a ⟨rfl, hR, hN⟩ hF hS hO
 refine ⟨fun _ => (hS.sx [0, 1] (rg 6)), ?_⟩
 refine any_pure [18] [0, 146, 150, 164] (L' := [(0, pt b7 0), (146, pt b7 0), (150, .slice p5 (a1.Mail).length c6), (164, .agg (flat [si x69, si 22, su (IntKind.u64.wrap a1.Epoch), su 0, su y28, sg ByteArray.empty, sg ByteArray.empty, sl none 0 0, sl none 0 0, si 0, si 0, si 0, si 0, si 0, sg ByteArray.empty]).toArray)]) (listed' := (bitA 24 524287)) (fuel := 5) hF (hS.sx [0, 1] (rg 6)) (by kernel_rfl) (by intro c a w t v h; cases t <;> exact h) (by kernel_rfl) rfl fun a hF => ?_
 refine ago 19 hF rfl ?_
 have hS := hS.add (m := Ro.mp f_api_Ver.ty none 0 ([] : List T_api_Ver)) (Ro.nil f_api_Ver.ty _ _)
 have hS := hS.add (m := Ro.mp (fInt .u64).ty none 0 ([] : List Int)) (Ro.nil (fInt .u64).ty _ _)
 refine wo_build1 (t := t_api_Mail) (y := (T_api_Mail.mk x69 (T_api_Msg.mk 22 (IntKind.u64.wrap a1.Epoch) 0 y28 ByteArray.empty ByteArray.empty ([] : List T_api_Ver) ([] : List Int) (T_api_Cmd.mk 0 0 0 0 0 ByteArray.empty)))) (v := .agg (flat [si x69, si 22, su (IntKind.u64.wrap a1.Epoch), su 0, su y28, sg ByteArray.empty, sg ByteArray.empty, sl none 0 0, sl none 0 0, si 0, si 0, si 0, si 0, si 0, sg ByteArray.empty]).toArray) (z := .agg (flat [si 0, si 0, su 0, su 0, su 0, sg ByteArray.empty, sg ByteArray.empty, sl none 0 0, sl none 0 0, si 0, si 0, si 0, si 0, si 0, sg ByteArray.empty]).toArray) (cells := (flat [si x69, si 22, su (IntKind.u64.wrap a1.Epoch), su 0, su y28, sg ByteArray.empty, sg ByteArray.empty, sl none 0 0, sl none 0 0, si 0, si 0, si 0, si 0, si 0, sg ByteArray.empty]).toArray) (E := 106) hF hS (by kernel_rfl) rfl (by kernel_rfl) ⟨(none, 0, none, 0), rfl, (hS.pick [1, 0] (by kernel_rfl)).ro⟩ (by kernel_rfl) (by kernel_rfl) (by kernel_rfl) (by kernel_rfl) (by kernel_rfl) fun p70 κ a w hF hS => ?_
 refine ⟨fun _ => (hS.sx [1, 2] [3, 4, 5, 6, 7, 8]), ?_⟩
 refine ago 20 hF rfl ?_
 refine wo_append (ty := t_api_Mail) hF hS (by kernel_rfl) 4 8 0 rfl rfl rfl (by kernel_rfl) (by kernel_rfl) rfl rfl rfl hx71 (by kernel_rfl) (i := Try.t106) (z := .agg (flat [si 0, si 0, su 0, su 0, su 0, sg ByteArray.empty, sg ByteArray.empty, sl none 0 0, sl none 0 0, si 0, si 0, si 0, si 0, si 0, sg ByteArray.empty]).toArray) (by kernel_rfl) (by kernel_rfl) (by kernel_rfl) fun p72 c73 κ a w hF hS => ?_
 refine ⟨fun _ => (hS.sx [1, 2] [4, 5, 6, 7, 8, 9]), ?_⟩
 refine anp [21, 22] [0, 166, 168] hF (hS.sx [1, 2] [4, 5, 6, 7, 8, 9]) fun a hF => ?_
 refine ago 23 hF rfl ?_
 refine wst hF hS 1 12 1 [sl p72 (x71).length c73] (sgN 1 sgNil) fun a w hF hS => ?_
 refine ⟨notE, ?_⟩
 refine and_ ?_
 exact ⟨_, x71, p72, c73, hF.kp [0], hS.sp [1, 4, 3] [4, 5, 6, 7, 8, 0], H⟩
 refine cond_f hF (by kernel_rfl) hb ?_
 refine wpIn_skip ?_
 exact ⟨_, a1.Mail, p5, c6, hF.kp [0], hS.sp [0, 3, 2] (rg 6), H⟩
 rintro a w ⟨κ, y38, p39, c40, hF, hS, H⟩
 unfold M.ref19_Warden_Take_k4 at H
 refine seq_join (fun a w => ∃ (κ : Gh) (y41 y42 : Int) (y43 : List Bool) (y44 : List T_api_Map) (cs45 : List Value) (y46 : List Int) (y47 : List T_api_Cmd) (p48 : Option Addr) (c49 : Nat) (y50 y51 y52 : Int) (y53 : List Bool) (y54 : Bool) (y55 : Int) (y56 : List T_api_Mail) (p57 : Option Addr) (c58 : Nat), Fr (210) [] [] a ∧ SS Ms κ0 w0 κ w [.box b7 110 [si y41, si y42, eb 4 y43, (8, cs45), ei 21 y46, sl p48 (y47).length c49, si y50, si y51, si y52, eb 4 y53, sb y54, su y55, sl p57 (y56).length c58], .tok p48 72 6 (y47).length c49, .tok p57 106 15 (y56).length c58] [ml y43 4, Arr.mp t_api_Map cs45 4 y44, ml y46 21, Ro.mp f_api_Cmd.ty p48 c49 y47, ml y53 4, Ro.mp t_api_Mail p57 c58 y56] ∧ M.ref19_Warden_Take_k5 N y41 y42 y43 y44 y46 y47 y50 y51 y52 y53 y54 y55 y56 = some r) ?_ ?_
 refine wpIn_seq_k fun K59 hK59 => ?_
 refine wpIn_region_lit ?_
 refine wp 3 [0, 171] hF fun a hF => ?_
 refine wc (wld hF hS 0 10 0 fun a hF => ?_)
 refine wpListIn_nil ?_
 refine hK59 _ _ ?_
 refine bif_split H (fun hb H => ?_) (fun hb H => ?_)
 refine cond_t hF (by kernel_rfl) hb ?_
 refine wpIn_region_lit ?_
 refine wp 1 [173] hF fun a hF => ?_
 refine bind_split H (fun x60 hx60 H => ?_)
 refine wc (wcS 3 [0, 2, 1] hF hS (fun hS => C_ref19_Warden_lay N (T_ref19_Warden.mk (T_ref18_State.mk a1.Now.Pool a1.Now.Nodes a1.Now.Members a1.Now.Maps a1.Now.Modes) a1.Taken a1.Done a1.Epoch a1.Entry y27 y30 y28 y38) 2 cs2 p3 c4 p39 c40 b7 ⟨rfl, hS.pick (rg 6) (by kernel_rfl)⟩ hx60) ?_)
 rintro _ κ w a ⟨cs61, p62, c63, p64, c65, rfl, h2⟩ hF hB
 have hS := hB _ _ h2
 refine wpListIn_nil ?_
 exact ⟨_, x60.Now.Pool, x60.Now.Nodes, x60.Now.Members, x60.Now.Maps, cs61, x60.Now.Modes, x60.Taken, p62, c63, x60.Done, x60.Epoch, x60.Entry, x60.Wants, x60.Ready, x60.Mark, x60.Mail, p64, c65, hF.kp [], hS.sp [0, 1, 2] (rg 6), H⟩
 refine cond_f hF (by kernel_rfl) hb ?_
 refine wpIn_skip ?_
 exact ⟨_, a1.Now.Pool, a1.Now.Nodes, a1.Now.Members, a1.Now.Maps, cs2, a1.Now.Modes, a1.Taken, p3, c4, a1.Done, a1.Epoch, a1.Entry, y27, y30, y28, y38, p39, c40, hF.kp [], hS.sp [0, 2, 1] (rg 6), H⟩
 rintro a w ⟨κ, y41, y42, y43, y44, cs45, y46, y47, p48, c49, y50, y51, y52, y53, y54, y55, y56, p57, c58, hF, hS, H⟩
 unfold M.ref19_Warden_Take_k5 at H
 refine wpIn_ret ?_
 cases H
 exact ret_done hF hS (res0 Try.results75 ) ⟨cs45, p48, c49, p57, c58, rfl, hS.sp [0, 1, 2] (rg 6)⟩
 refine cond_f hF (by kernel_rfl) hb ?_
 refine wpIn_skip ?_
 refine hK34 _ _ ?_
 refine wpIn_seq_k fun K74 hK74 => ?_
 refine bind_split H (fun v81 hv81 H => ?_)
 refine code_join (fun a w => ∃ (κ : Gh) (cs79 : List Value), Fr (210) [] [(0, pt b7 0)] a ∧ SS Ms κ0 w0 κ w [.box b7 110 [si v81.1, si v81.2.1, eb 4 v81.2.2.1, (8, cs79), ei 21 v81.2.2.2.2, sl p3 (a1.Taken).length c4, si a1.Done, si a1.Epoch, si a1.Entry, eb 4 y27, sb y30, su y28, sl p5 (a1.Mail).length c6], .tok p3 72 6 (a1.Taken).length c4, .tok p5 106 15 (a1.Mail).length c6] [ml v81.2.2.1 4, Arr.mp t_api_Map cs79 4 v81.2.2.2.1, ml v81.2.2.2.2 21, Ro.mp f_api_Cmd.ty p3 c4 a1.Taken, ml y27 4, Ro.mp t_api_Mail p5 c6 a1.Mail] ∧ True) ?_ ?_
 refine rgS hS [12] ?_
 have hS := hS.drew
 refine anp (rg 4) [0, 6, 176, 179] hF (hS.sx [0, 1] (rg 6)) fun a hF => ?_
 refine atk 4 (some 180) hF (hS.sx [0, 1] (rg 6)) rfl (vls 0 0 5) fun a hF => ?_
 refine atk 5 (some 181) hF (hS.sx [0, 1] (rg 6)) rfl (vls 1 0 6) fun a hF => ?_
 refine ago 6 hF rfl ?_
 refine bind_split hv81 (fun x82 hx82 hv81 => ?_)
 refine wo_callP hF hS (by kernel_rfl) (by kernel_rfl) (C_ref18_Apply N hS.fresh (T_ref18_State.mk a1.Now.Pool a1.Now.Nodes a1.Now.Members a1.Now.Maps a1.Now.Modes) (T_api_Cmd.mk x21.Kind x21.DC x21.Shard x21.Node x21.Mode x21.Key) cs2 ((hS.pick [0, 1, 2] (by kernel_rfl)).ro) hx82) ?_
 rintro _ κ w a ⟨cs83, rfl, hR, hN⟩ hF hS hO
 have hS := hS.adds hR
 refine ⟨fun _ => (hS.sx [0, 1] [3, 4, 5, 6, 7, 8]), ?_⟩
 refine anp [7, 8, 10, 11] [0, 175, 183, 186] hF (hS.sx [0, 1] [3, 4, 5, 6, 7, 8]) fun a hF => ?_
 refine ago2 9 12 hF rfl rfl ?_ ?_
 refine wo_pure (v := vi x82.2) hF (by kernel_rfl) (by kernel_rfl) fun a hF => ?_
 refine ⟨fun _ => (hS.sx [0, 1] [3, 4, 5, 6, 7, 8]), ?_⟩
 refine ago 12 hF rfl ?_
 refine wst hF hS 0 0 5 [si x82.1.Pool, si x82.1.Nodes, eb 4 x82.1.Members, (8, cs83), ei 21 x82.1.Modes] (sgN 2 (sgEnc (hS.get 0 rfl) (sgArr (hS.get 1 rfl) (sgEnc (hS.get 2 rfl) sgNil)))) fun a w hF hS => ?_
 refine ⟨notE, ?_⟩
 refine and_ ?_
 cases hv81
 exact ⟨_, cs83, hF.kp [0], hS.sp [0, 2, 3] [0, 1, 2, 6, 7, 8], trivial⟩
 refine wst hF hS 0 0 5 [si x82.1.Pool, si x82.1.Nodes, eb 4 x82.1.Members, (8, cs83), ei 21 x82.1.Modes] (sgN 2 (sgEnc (hS.get 0 rfl) (sgArr (hS.get 1 rfl) (sgEnc (hS.get 2 rfl) sgNil)))) fun a w hF hS => ?_
 refine ⟨notE, ?_⟩
 refine ago 9 hF rfl ?_
 refine wo_pure (v := vi x82.2) hF (by kernel_rfl) (by kernel_rfl) fun a hF => ?_
 refine ⟨notE, ?_⟩
 refine and_ ?_
 cases hv81
 exact ⟨_, cs83, hF.kp [0], hS.sp [0, 2, 3] [0, 1, 2, 6, 7, 8], trivial⟩
 rintro a w ⟨κ, cs79, hF, hS, -⟩
 refine hK74 _ _ ?_
 refine wpIn_seq_k fun K84 hK84 => ?_
 refine wpIn_region_lit ?_
 refine wp 4 [0, 187, 190] hF fun a hF => ?_
 refine wc (wld hF hS 0 6 0 fun a hF => ?_)
 refine wp 3 [0, 192, 194] hF fun a hF => ?_
 refine wc (wst hF hS 0 6 1 [si (IntKind.i64.wrap (a1.Done + 1))] (sgN 1 sgNil) fun a w hF hS => ?_)
 refine wpListIn_nil ?_
 refine hK84 _ _ ?_
 refine wpIn_seq_k fun K85 hK85 => ?_
 refine wpIn_region_lit ?_
 refine wp 3 [0, 197] hF fun a hF => ?_
 refine wc (wst hF hS 0 8 1 [si 0] (sgN 1 sgNil) fun a w hF hS => ?_)
 refine wpListIn_nil ?_
 refine hK85 _ _ ?_
 refine wpIn_seq_k fun K86 hK86 => ?_
 refine rgS hS [] ?_
 have hS := hS.drew
 refine anp [0, 1, 2, 4, 5, 6] [0, 200, 204] hF (hS.sx [0] (rg 6)) fun a hF => ?_
 refine atk 3 (some 201) hF (hS.sx [0] (rg 6)) rfl (vld 0 6 0) fun a hF => ?_
 refine atk 7 (some 205) hF (hS.sx [0] (rg 6)) rfl (vld 0 5 0) fun a hF => ?_
 refine anp [8, 9] [0, 207] hF (hS.sx [0] (rg 6)) fun a hF => ?_
 refine and_ ?_
 refine hK86 _ _ ?_
 refine bif_split H (fun hb H => ?_) (fun hb H => ?_)
 refine cond_t hF (by kernel_rfl) hb ?_
 refine wpIn_region_lit ?_
 refine wp 1 [208] hF fun a hF => ?_
 refine bind_split H (fun x87 hx87 H => ?_)
 refine wc (wcS 3 [0, 1, 2] hF hS (fun hS => C_ref19_Warden_lay N (T_ref19_Warden.mk (T_ref18_State.mk v81.1 v81.2.1 v81.2.2.1 v81.2.2.2.1 v81.2.2.2.2) a1.Taken (IntKind.i64.wrap (a1.Done + 1)) a1.Epoch 0 y27 y30 y28 a1.Mail) 1 cs79 p3 c4 p5 c6 b7 ⟨rfl, hS.pick (rg 6) (by kernel_rfl)⟩ hx87) ?_)
 rintro _ κ w a ⟨cs88, p89, c90, p91, c92, rfl, h2⟩ hF hB
 have hS := hB _ _ h2
 refine wpListIn_nil ?_
 cases H
 exact ret_done hF hS (res0 Try.results75 ) ⟨cs88, p89, c90, p91, c92, rfl, hS.sp [0, 1, 2] (rg 6)⟩
 refine cond_f hF (by kernel_rfl) hb ?_
 refine wpIn_skip ?_
 cases H
 exact ret_done hF hS (res0 Try.results75 ) ⟨cs79, p3, c4, p5, c6, rfl, hS.sp [0, 1, 2] (rg 6)⟩
set_option maxRecDepth 20000 in
set_option maxHeartbeats 1000000 in
theorem C_ref19_Narrow (N : Nat) {κ0 : Gh} {w0 : World} (hfr : Fresh κ0 w0) (a1 : Int) (a2 : Int)  (hR : ∀ m ∈ ([] : List MP), m.p κ0 w0) {r : (Int)} (H : M.ref19_Narrow N a1 a2 = some r) :
    Calls Try.prog 93 #[vi a1, vi a2] w0 (Post [] κ0 w0 fun v κ w => v = vi r ∧ (∀ m ∈ ([] : List MP), m.p κ w) ∧ NewC w0 κ w []) := by
 have hS := SS.start hfr hR
 refine enter (N := (9)) (L := [(0, vi a1), (1, vi a2)]) Try.func93 rfl Try.ntmps93 (show 2 ≤ (9) by decide) rfl fun a hF => ?_
 unfold M.ref19_Narrow at H
 refine wpIn_seq_k fun K3 hK3 => ?_
 refine wpIn_region_lit ?_
 refine wp 1 [0, 1] hF fun a hF => ?_
 refine wpListIn_nil ?_
 refine hK3 _ _ ?_
 refine wpIn_seq_k fun K4 hK4 => ?_
 refine wpIn_seq_k fun K5 hK5 => ?_
 refine wpIn_region_lit ?_
 refine wp 2 [0, 1, 6] hF fun a hF => ?_
 refine wpListIn_nil ?_
 refine hK5 _ _ ?_
 refine bif_split H (fun hb H => ?_) (fun hb H => ?_)
 refine cond_t hF (by kernel_rfl) hb ?_
 refine wpIn_seq_k fun K6 hK6 => ?_
 refine wpIn_region_lit ?_
 refine wp 2 [4] hF fun a hF => ?_
 refine wpListIn_nil ?_
 refine hK6 _ _ ?_
 refine wpIn_ret ?_
 cases H
 exact (ret_done hF hS (res1 Try.results93 (rvt hF)) ⟨rfl, (hS.pick [] (by kernel_rfl)).ro, hS.newC [] (by decide) (by kernel_rfl)⟩)
 refine cond_f hF (by kernel_rfl) hb ?_
 refine wpIn_skip ?_
 refine hK4 _ _ ?_
 refine wpIn_seq_k fun K7 hK7 => ?_
 refine wpIn_region_lit ?_
 refine wp 2 [4] hF fun a hF => ?_
 refine wpListIn_nil ?_
 refine hK7 _ _ ?_
 refine wpIn_ret ?_
 cases H
 exact (ret_done hF hS (res1 Try.results93 (rvt hF)) ⟨rfl, (hS.pick [] (by kernel_rfl)).ro, hS.newC [] (by decide) (by kernel_rfl)⟩)
set_option maxRecDepth 20000 in
set_option maxHeartbeats 1000000 in
theorem C_ref19_Warden_Modes (N : Nat) {Ms : List Nat} {κ0 : Gh} {w0 : World} (a1 : T_ref19_Warden) (cs2 : List Value) (p3 : Option Addr) (c4 : Nat) (p5 : Option Addr) (c6 : Nat) (b7 : Nat) (hB : SB Ms κ0 w0 [.box b7 110 [si a1.Now.Pool, si a1.Now.Nodes, eb 4 a1.Now.Members, (8, cs2), ei 21 a1.Now.Modes, sl p3 (a1.Taken).length c4, si a1.Done, si a1.Epoch, si a1.Entry, eb 4 a1.Wants, sb a1.Ready, su a1.Mark, sl p5 (a1.Mail).length c6]] [ml a1.Now.Members 4, Arr.mp t_api_Map cs2 4 a1.Now.Maps, ml a1.Now.Modes 21, Ro.mp f_api_Cmd.ty p3 c4 a1.Taken, ml a1.Wants 4, Ro.mp t_api_Mail p5 c6 a1.Mail]) {r : ((List Int))} (H : M.ref19_Warden_Modes N a1 = some r) :
    Calls Try.prog 78 #[pt b7 0] w0 (Post Ms κ0 w0 fun v κ w => v = .agg (flat [ei 21 r]).toArray ∧ SS Ms κ0 w0 κ w [.box b7 110 [si a1.Now.Pool, si a1.Now.Nodes, eb 4 a1.Now.Members, (8, cs2), ei 21 a1.Now.Modes, sl p3 (a1.Taken).length c4, si a1.Done, si a1.Epoch, si a1.Entry, eb 4 a1.Wants, sb a1.Ready, su a1.Mark, sl p5 (a1.Mail).length c6]] [ml r 21]) := by
 have hS := hB.hS
 have hfr := hS.fresh
 refine enter (N := (50)) (L := [(0, pt b7 0)]) Try.func78 rfl Try.ntmps78 (show 1 ≤ (50) by decide) rfl fun a hF => ?_
 unfold M.ref19_Warden_Modes at H
 refine wpIn_seq_k fun K8 hK8 => ?_
 refine wpIn_region_lit ?_
 have hS := hS.add (m := ml (List.replicate 21 0) 21) (List.length_replicate)
 refine wc (wal hF hS [ei 21 (List.replicate 21 0)] (sgEnc List.length_replicate sgNil) fun b9 a w hF hS => ?_)
 refine wpListIn_nil ?_
 refine hK8 _ _ ?_
 refine wpIn_seq_k fun K10 hK10 => ?_
 refine wpIn_region_lit ?_
 refine wp 4 [0, 2, 10] hF fun a hF => ?_
 refine wc (wls hF hS 1 4 1 fun a hF => ?_)
 refine wc (wal hF hS [ei 21 (List.replicate 21 0)] (sgEnc List.length_replicate sgNil) fun b11 a w hF hS => ?_)
 refine wc (wst hF hS 0 0 1 [ei 21 a1.Now.Modes] (sgEnc (hS.get 3 rfl) sgNil) fun a w hF hS => ?_)
 refine wpListIn_nil ?_
 refine hK10 _ _ ?_
 refine seq_join (fun a w => ∃ (κ : Gh) (y12 : List Int), Fr (50) [] [(2, pt b9 0), (3, pt b11 0)] a ∧ SS Ms κ0 w0 κ w [.box b11 28 [ei 21 y12], .box b9 28 [ei 21 (List.replicate 21 0)], .box b7 110 [si a1.Now.Pool, si a1.Now.Nodes, eb 4 a1.Now.Members, (8, cs2), ei 21 a1.Now.Modes, sl p3 (a1.Taken).length c4, si a1.Done, si a1.Epoch, si a1.Entry, eb 4 a1.Wants, sb a1.Ready, su a1.Mark, sl p5 (a1.Mail).length c6]] [ml y12 21, ml (List.replicate 21 0) 21, ml a1.Now.Members 4, Arr.mp t_api_Map cs2 4 a1.Now.Maps, ml a1.Now.Modes 21, Ro.mp f_api_Cmd.ty p3 c4 a1.Taken, ml a1.Wants 4, Ro.mp t_api_Mail p5 c6 a1.Mail] ∧ M.ref19_Warden_Modes_k1 N a1 y12 = some r) ?_ ?_
 refine wpIn_seq_k fun K14 hK14 => ?_
 refine wpIn_region_lit ?_
 refine wp 3 [0, 2, 3, 14] hF fun a hF => ?_
 refine wc (wld hF hS 2 8 0 fun a hF => ?_)
 refine wp 1 [0, 2, 3, 16] hF fun a hF => ?_
 refine wpListIn_nil ?_
 refine hK14 _ _ ?_
 refine bif_split H (fun hb H => ?_) (fun hb H => ?_)
 refine cond_t hF (by kernel_rfl) hb ?_
 refine wpIn_seq_k fun K15 hK15 => ?_
 refine bind_split H (fun v23 hv23 H => ?_)
 refine code_join (fun a w => ∃ (κ : Gh) (b16 : Nat) (cs21 : List Value), Fr (50) [] [(2, pt b9 0), (3, pt b11 0), (4, pt b16 0)] a ∧ SS Ms κ0 w0 κ w [.box b11 28 [ei 21 a1.Now.Modes], .box b9 28 [ei 21 (List.replicate 21 0)], .box b7 110 [si a1.Now.Pool, si a1.Now.Nodes, eb 4 a1.Now.Members, (8, cs2), ei 21 a1.Now.Modes, sl p3 (a1.Taken).length c4, si a1.Done, si a1.Epoch, si a1.Entry, eb 4 a1.Wants, sb a1.Ready, su a1.Mark, sl p5 (a1.Mail).length c6], .box b16 34 [si v23.1, si v23.2.1, eb 4 v23.2.2.1, (8, cs21), ei 21 v23.2.2.2.2]] [ml a1.Now.Modes 21, ml (List.replicate 21 0) 21, ml a1.Now.Members 4, Arr.mp t_api_Map cs2 4 a1.Now.Maps, Ro.mp f_api_Cmd.ty p3 c4 a1.Taken, ml a1.Wants 4, Ro.mp t_api_Mail p5 c6 a1.Mail, ml v23.2.2.1 4, Arr.mp t_api_Map cs21 4 v23.2.2.2.1, ml v23.2.2.2.2 21] ∧ True) ?_ ?_
 refine rgS hS [19] ?_
 have hS := hS.drew
 refine bind_split hv23 (fun x24 hx24 hv23 => ?_)
 refine bind_split hv23 (fun x27 hx27 hv23 => ?_)
 refine any_pure [0, 1, 2, 4, 5, 6, 8, 9, 10] [2, 3, 20, 24, 28] (L' := [(2, pt b9 0), (3, pt b11 0), (20, pt b7 0), (24, pt b7 35), (28, pt b7 36)]) (listed' := (bitA 21 1911)) (fuel := 12) hF (hS.sx [0, 1, 2] (rg 7)) (by kernel_rfl) (by intro c a w t v h; cases t <;> exact h) (by kernel_rfl) rfl fun a hF => ?_
 refine atk 3 (some 21) hF (hS.sx [0, 1, 2] (rg 7)) rfl (vls 2 0 5) fun a hF => ?_
 refine atk 7 (some 25) hF (hS.sx [0, 1, 2] (rg 7)) rfl (vld 2 5 0) fun a hF => ?_
 refine atk 11 (some 29) hF (hS.sx [0, 1, 2] (rg 7)) rfl (vld 2 6 0) fun a hF => ?_
 obtain ⟨b25, f26, hpx24⟩ := hS.ptr 4 rfl hx24
 refine atk 12 (some 30) hF (hS.sx [0, 1, 2] (rg 7)) rfl (fun w _ => val_index (E := 72) (sz := 6) rfl hpx24 rfl (by kernel_rfl) rfl hx24 (by kernel_rfl) (by kernel_rfl) w) fun a hF => ?_
 refine atk 13 (some 31) hF (hS.sx [0, 1, 2] (rg 7)) rfl (val_loadRoAgg (t := f_api_Cmd) 4 rfl rfl hpx24 rfl hx24 (by kernel_rfl) (by kernel_rfl) (by kernel_rfl)) fun a hF => ?_
 refine ago2 14 18 hF rfl rfl ?_ ?_
 refine wo_callP hF hS (by kernel_rfl) (by kernel_rfl) (C_ref18_Apply N hS.fresh (T_ref18_State.mk a1.Now.Pool a1.Now.Nodes a1.Now.Members a1.Now.Maps a1.Now.Modes) (T_api_Cmd.mk x24.Kind x24.DC x24.Shard x24.Node x24.Mode x24.Key) cs2 ((hS.pick [1, 2, 3] (by kernel_rfl)).ro) hx27) ?_
 rintro _ κ w a ⟨cs28, rfl, hR, hN⟩ hF hS hO
 have hS := hS.adds hR
 refine ⟨fun _ => (hS.sx [0, 1, 2] [3, 4, 5, 6, 7, 8, 9]), ?_⟩
 refine anp [15, 16] [2, 3, 17, 33] hF (hS.sx [0, 1, 2] [3, 4, 5, 6, 7, 8, 9]) fun a hF => ?_
 refine ago2 17 18 hF rfl rfl ?_ ?_
 refine wo_pure (v := vi x27.2) hF (by kernel_rfl) (by kernel_rfl) fun a hF => ?_
 refine ⟨fun _ => (hS.sx [0, 1, 2] [3, 4, 5, 6, 7, 8, 9]), ?_⟩
 refine ago 18 hF rfl ?_
 have hS := hS.add (m := ml (List.replicate 4 false) 4) (List.length_replicate)
 have hS := hS.add (m := Arr.mp t_api_Map ((List.replicate 4 (flat [sl none 0 0, sl none 0 0])).flatten) 4 (List.replicate 4 (T_api_Map.mk ([] : List ByteArray) ([] : List Int)))) (Arr.zero _ _ _ _ _ z_api_Map)
 refine wal hF hS [si 0, si 0, eb 4 (List.replicate 4 false), (8, (List.replicate 4 (flat [sl none 0 0, sl none 0 0])).flatten), ei 21 (List.replicate 21 0)] (sgN 2 (sgEnc List.length_replicate (sgArr (hS.get 0 rfl) (sgEnc List.length_replicate sgNil)))) fun b29 a w hF hS => ?_
 refine ⟨fun _ => (hS.sx [1, 2, 3] [5, 6, 7, 8, 9, 10, 11]), ?_⟩
 refine ago 19 hF rfl ?_
 refine wst hF hS 0 0 5 [si x27.1.Pool, si x27.1.Nodes, eb 4 x27.1.Members, (8, cs28), ei 21 x27.1.Modes] (sgN 2 (sgEnc (hS.get 2 rfl) (sgArr (hS.get 3 rfl) (sgEnc (hS.get 4 rfl) sgNil)))) fun a w hF hS => ?_
 refine ⟨notE, ?_⟩
 refine ago 20 hF rfl ?_
 refine wo_pure (v := vi x27.2) hF (by kernel_rfl) (by kernel_rfl) fun a hF => ?_
 refine ⟨notE, ?_⟩
 refine and_ ?_
 cases hv23
 exact ⟨_, b29, cs28, hF.kp [2, 3, 4], hS.sp [1, 2, 3, 0] [8, 5, 6, 7, 9, 10, 11, 2, 3, 4], trivial⟩
 have hS := hS.add (m := ml (List.replicate 4 false) 4) (List.length_replicate)
 have hS := hS.add (m := Arr.mp t_api_Map ((List.replicate 4 (flat [sl none 0 0, sl none 0 0])).flatten) 4 (List.replicate 4 (T_api_Map.mk ([] : List ByteArray) ([] : List Int)))) (Arr.zero _ _ _ _ _ z_api_Map)
 refine wal hF hS [si 0, si 0, eb 4 (List.replicate 4 false), (8, (List.replicate 4 (flat [sl none 0 0, sl none 0 0])).flatten), ei 21 (List.replicate 21 0)] (sgN 2 (sgEnc List.length_replicate (sgArr (hS.get 0 rfl) (sgEnc List.length_replicate sgNil)))) fun b29 a w hF hS => ?_
 refine ⟨fun _ => (hS.sx [1, 2, 3] [5, 6, 7, 8, 9, 10, 11]), ?_⟩
 refine ago2 17 19 hF rfl rfl ?_ ?_
 refine wo_pure (v := vi x27.2) hF (by kernel_rfl) (by kernel_rfl) fun a hF => ?_
 refine ⟨fun _ => (hS.sx [1, 2, 3] [5, 6, 7, 8, 9, 10, 11]), ?_⟩
 refine ago 19 hF rfl ?_
 refine wst hF hS 0 0 5 [si x27.1.Pool, si x27.1.Nodes, eb 4 x27.1.Members, (8, cs28), ei 21 x27.1.Modes] (sgN 2 (sgEnc (hS.get 2 rfl) (sgArr (hS.get 3 rfl) (sgEnc (hS.get 4 rfl) sgNil)))) fun a w hF hS => ?_
 refine ⟨notE, ?_⟩
 refine ago 20 hF rfl ?_
 refine wo_pure (v := vi x27.2) hF (by kernel_rfl) (by kernel_rfl) fun a hF => ?_
 refine ⟨notE, ?_⟩
 refine and_ ?_
 cases hv23
 exact ⟨_, b29, cs28, hF.kp [2, 3, 4], hS.sp [1, 2, 3, 0] [8, 5, 6, 7, 9, 10, 11, 2, 3, 4], trivial⟩
 refine wst hF hS 0 0 5 [si x27.1.Pool, si x27.1.Nodes, eb 4 x27.1.Members, (8, cs28), ei 21 x27.1.Modes] (sgN 2 (sgEnc (hS.get 2 rfl) (sgArr (hS.get 3 rfl) (sgEnc (hS.get 4 rfl) sgNil)))) fun a w hF hS => ?_
 refine ⟨notE, ?_⟩
 refine ago 17 hF rfl ?_
 refine wo_pure (v := vi x27.2) hF (by kernel_rfl) (by kernel_rfl) fun a hF => ?_
 refine ⟨notE, ?_⟩
 refine ago 20 hF rfl ?_
 refine wo_pure (v := vi x27.2) hF (by kernel_rfl) (by kernel_rfl) fun a hF => ?_
 refine ⟨notE, ?_⟩
 refine and_ ?_
 cases hv23
 exact ⟨_, b29, cs28, hF.kp [2, 3, 4], hS.sp [1, 2, 3, 0] [8, 5, 6, 7, 9, 10, 11, 2, 3, 4], trivial⟩
 have hS := hS.add (m := ml (List.replicate 4 false) 4) (List.length_replicate)
 have hS := hS.add (m := Arr.mp t_api_Map ((List.replicate 4 (flat [sl none 0 0, sl none 0 0])).flatten) 4 (List.replicate 4 (T_api_Map.mk ([] : List ByteArray) ([] : List Int)))) (Arr.zero _ _ _ _ _ z_api_Map)
 refine wal hF hS [si 0, si 0, eb 4 (List.replicate 4 false), (8, (List.replicate 4 (flat [sl none 0 0, sl none 0 0])).flatten), ei 21 (List.replicate 21 0)] (sgN 2 (sgEnc List.length_replicate (sgArr (hS.get 0 rfl) (sgEnc List.length_replicate sgNil)))) fun b29 a w hF hS => ?_
 refine ⟨fun _ => (hS.sx [1, 2, 3] [2, 3, 4, 5, 6, 7, 8]), ?_⟩
 refine ago 14 hF rfl ?_
 refine wo_callP hF hS (by kernel_rfl) (by kernel_rfl) (C_ref18_Apply N hS.fresh (T_ref18_State.mk a1.Now.Pool a1.Now.Nodes a1.Now.Members a1.Now.Maps a1.Now.Modes) (T_api_Cmd.mk x24.Kind x24.DC x24.Shard x24.Node x24.Mode x24.Key) cs2 ((hS.pick [3, 4, 5] (by kernel_rfl)).ro) hx27) ?_
 rintro _ κ w a ⟨cs28, rfl, hR, hN⟩ hF hS hO
 have hS := hS.adds hR
 refine ⟨fun _ => (hS.sx [1, 2, 3] [5, 6, 7, 8, 9, 10, 11]), ?_⟩
 refine anp [15, 16] [2, 3, 4, 17, 33] hF (hS.sx [1, 2, 3] [5, 6, 7, 8, 9, 10, 11]) fun a hF => ?_
 refine ago2 17 19 hF rfl rfl ?_ ?_
 refine wo_pure (v := vi x27.2) hF (by kernel_rfl) (by kernel_rfl) fun a hF => ?_
 refine ⟨fun _ => (hS.sx [1, 2, 3] [5, 6, 7, 8, 9, 10, 11]), ?_⟩
 refine ago 19 hF rfl ?_
 refine wst hF hS 0 0 5 [si x27.1.Pool, si x27.1.Nodes, eb 4 x27.1.Members, (8, cs28), ei 21 x27.1.Modes] (sgN 2 (sgEnc (hS.get 0 rfl) (sgArr (hS.get 1 rfl) (sgEnc (hS.get 2 rfl) sgNil)))) fun a w hF hS => ?_
 refine ⟨notE, ?_⟩
 refine ago 20 hF rfl ?_
 refine wo_pure (v := vi x27.2) hF (by kernel_rfl) (by kernel_rfl) fun a hF => ?_
 refine ⟨notE, ?_⟩
 refine and_ ?_
 cases hv23
 exact ⟨_, b29, cs28, hF.kp [2, 3, 4], hS.sp [1, 2, 3, 0] [8, 5, 6, 7, 9, 10, 11, 0, 1, 2], trivial⟩
 refine wst hF hS 0 0 5 [si x27.1.Pool, si x27.1.Nodes, eb 4 x27.1.Members, (8, cs28), ei 21 x27.1.Modes] (sgN 2 (sgEnc (hS.get 0 rfl) (sgArr (hS.get 1 rfl) (sgEnc (hS.get 2 rfl) sgNil)))) fun a w hF hS => ?_
 refine ⟨notE, ?_⟩
 refine ago 17 hF rfl ?_
 refine wo_pure (v := vi x27.2) hF (by kernel_rfl) (by kernel_rfl) fun a hF => ?_
 refine ⟨notE, ?_⟩
 refine ago 20 hF rfl ?_
 refine wo_pure (v := vi x27.2) hF (by kernel_rfl) (by kernel_rfl) fun a hF => ?_
 refine ⟨notE, ?_⟩
 refine and_ ?_
 cases hv23
 exact ⟨_, b29, cs28, hF.kp [2, 3, 4], hS.sp [1, 2, 3, 0] [8, 5, 6, 7, 9, 10, 11, 0, 1, 2], trivial⟩
 rintro a w ⟨κ, b16, cs21, hF, hS, -⟩
 refine hK15 _ _ ?_
 refine wpIn_seq_k fun K30 hK30 => ?_
 refine wpIn_region_lit ?_
 refine wp 1 [2, 3, 4, 6] hF fun a hF => ?_
 refine wpListIn_nil ?_
 refine hK30 _ _ ?_
 refine wpIn_block ?_
 refine loop_fuel (n := N) (fun n a w => ∃ (κ : Gh) (y81 : List Int) (y82 : Int), Fr (50) [] [(2, pt b9 0), (3, pt b11 0), (4, pt b16 0), (6, vi y82)] a ∧ SS Ms κ0 w0 κ w [.box b11 28 [ei 21 y81], .box b9 28 [ei 21 (List.replicate 21 0)], .box b7 110 [si a1.Now.Pool, si a1.Now.Nodes, eb 4 a1.Now.Members, (8, cs2), ei 21 a1.Now.Modes, sl p3 (a1.Taken).length c4, si a1.Done, si a1.Epoch, si a1.Entry, eb 4 a1.Wants, sb a1.Ready, su a1.Mark, sl p5 (a1.Mail).length c6], .box b16 34 [si v23.1, si v23.2.1, eb 4 v23.2.2.1, (8, cs21), ei 21 v23.2.2.2.2]] [ml y81 21, ml (List.replicate 21 0) 21, ml a1.Now.Members 4, Arr.mp t_api_Map cs2 4 a1.Now.Maps, ml a1.Now.Modes 21, Ro.mp f_api_Cmd.ty p3 c4 a1.Taken, ml a1.Wants 4, Ro.mp t_api_Mail p5 c6 a1.Mail, ml v23.2.2.1 4, Arr.mp t_api_Map cs21 4 v23.2.2.2.1, ml v23.2.2.2.2 21] ∧ M.ref19_Warden_Modes_L2 N n a1 v23 y81 y82 = some r) ?_ ?_
 exact ⟨_, a1.Now.Modes, 0, hF.kp [2, 3, 4, 6], hS.sp (rg 4) [0, 1, 2, 3, 0, 4, 5, 6, 7, 8, 9], H⟩
 rintro n a w ⟨κ, y81, y82, hF, hS, H⟩
 rcases n with _ | fuel2
 simp [M.ref19_Warden_Modes_L2] at H
 simp only [M.ref19_Warden_Modes_L2] at H
 refine wpIn_seq_k fun K83 hK83 => ?_
 refine wpIn_seq_k fun K84 hK84 => ?_
 refine wpIn_region_lit ?_
 refine wp 2 [2, 3, 4, 6, 36] hF fun a hF => ?_
 refine wpListIn_nil ?_
 refine hK84 _ _ ?_
 refine bif_split H (fun hb H => ?_) (fun hb H => ?_)
 refine cond_t hF (by kernel_rfl) hb ?_
 refine wpIn_skip ?_
 refine hK83 _ _ ?_
 refine wpIn_seq_k fun K85 hK85 => ?_
 refine wpIn_block ?_
 refine rgS hS [10] ?_
 have hS := hS.drew
 refine any_pure [0, 1, 4, 5] [2, 3, 4, 6, 39, 40, 43, 44] (L' := [(2, pt b9 0), (3, pt b11 0), (4, pt b16 0), (6, vi y82), (39, vi y82), (40, vi y82), (43, vi y82), (44, pt b16 14)]) (listed' := (bitA 11 51)) (fuel := 7) hF (hS.sx (rg 4) (rg 11)) (by kernel_rfl) (by intro c a w t v h; cases t <;> exact h) (by kernel_rfl) rfl fun a hF => ?_
 refine bind_split H (fun x86 hx86 H => ?_)
 refine atk 2 (some 41) hF (hS.sx (rg 4) (rg 11)) rfl (fun w _ => val_indexArr (E := 3) (sz := 1) (n := 21) rfl rfl (i := y82) rfl (idx_lt hx86 (hS.get 0 rfl)) (by kernel_rfl) (by kernel_rfl) w) fun a hF => ?_
 refine atk 3 (some 42) hF (hS.sx (rg 4) (rg 11)) rfl (val_loadA1 (t := (fInt .i64)) 0 0 (v := vi x86) rfl rfl rfl rfl hx86 rfl rfl (by kernel_rfl) (by kernel_rfl)) fun a hF => ?_
 refine bind_split H (fun x87 hx87 H => ?_)
 refine atk 6 (some 45) hF (hS.sx (rg 4) (rg 11)) rfl (fun w _ => val_indexArr (E := 3) (sz := 1) (n := 21) rfl rfl (i := y82) rfl (idx_lt hx87 (hS.get 10 rfl)) (by kernel_rfl) (by kernel_rfl) w) fun a hF => ?_
 refine atk 7 (some 46) hF (hS.sx (rg 4) (rg 11)) rfl (val_loadA1 (t := (fInt .i64)) 3 4 (v := vi x87) rfl rfl rfl rfl hx87 rfl rfl (by kernel_rfl) (by kernel_rfl)) fun a hF => ?_
 refine ago 8 hF rfl ?_
 refine bind_split H (fun x88 hx88 H => ?_)
 refine wo_callP hF hS (by kernel_rfl) (by kernel_rfl) (C_ref19_Narrow N hS.fresh x86 x87  ((hS.pick [] (by kernel_rfl)).ro) hx88) ?_
 rintro _ κ w a ⟨rfl, hR, hN⟩ hF hS hO
 refine ⟨fun _ => (hS.sx (rg 4) (rg 11)), ?_⟩
 refine bind_split H (fun x89 hx89 H => ?_)
 refine atk 9 (some 48) hF (hS.sx (rg 4) (rg 11)) rfl (fun w _ => val_indexArr (E := 3) (sz := 1) (n := 21) rfl rfl (i := y82) rfl (idx_lt hx89 (hS.get 0 rfl)) (by kernel_rfl) (by kernel_rfl) w) fun a hF => ?_
 refine ago 10 hF rfl ?_
 refine wo_storeA1 (t := (fInt .i64)) (y := x88) (v := vi x88) hF hS (by kernel_rfl) 0 0 (s' := [ei 21 (List.set y81 (Int.toNat y82) x88)]) (C' := [.box b11 28 [ei 21 (List.set y81 (Int.toNat y82) x88)], .box b9 28 [ei 21 (List.replicate 21 0)], .box b7 110 [si a1.Now.Pool, si a1.Now.Nodes, eb 4 a1.Now.Members, (8, cs2), ei 21 a1.Now.Modes, sl p3 (a1.Taken).length c4, si a1.Done, si a1.Epoch, si a1.Entry, eb 4 a1.Wants, sb a1.Ready, su a1.Mark, sl p5 (a1.Mail).length c6], .box b16 34 [si v23.1, si v23.2.1, eb 4 v23.2.2.1, (8, cs21), ei 21 v23.2.2.2.2]]) rfl rfl (by kernel_rfl) rfl rfl hx89 rfl rfl (by kernel_rfl) (by kernel_rfl) (by kernel_rfl) (by kernel_rfl) fun a w hF hS => ?_
 have hS := hS.add (m := ml (List.set y81 (Int.toNat y82) x88) 21) (List.length_set.trans (hS.get 0 rfl))
 refine ⟨notE, ?_⟩
 refine and_ ?_
 refine hK85 _ _ ?_
 refine wpIn_region_lit ?_
 refine wp 3 [2, 3, 4, 6] hF fun a hF => ?_
 refine wpListIn_nil ?_
 exact ⟨fuel2, Nat.lt_succ_self _, _, (List.set y81 (Int.toNat y82) x88), IntKind.i64.wrap (y82 + 1), hF.kp [2, 3, 4, 6], hS.sp (rg 4) [0, 2, 3, 4, 5, 6, 7, 8, 9, 10, 11], H⟩
 refine cond_f hF (by kernel_rfl) hb ?_
 refine wpIn_exit ?_
 exact ⟨_, y81, hF.kp [2, 3], hS.sp [0, 1, 2] (rg 8), H⟩
 refine cond_f hF (by kernel_rfl) hb ?_
 refine wpIn_skip ?_
 exact ⟨_, a1.Now.Modes, hF.kp [2, 3], hS.sp [0, 1, 2] [3, 0, 1, 2, 3, 4, 5, 6], H⟩
 rintro a w ⟨κ, y12, hF, hS, H⟩
 unfold M.ref19_Warden_Modes_k1 at H
 refine wpIn_seq_k fun K13 hK13 => ?_
 refine wpIn_region_lit ?_
 refine wc (wls hF hS 0 0 1 fun a hF => ?_)
 refine wc (wst hF hS 1 0 1 [ei 21 y12] (sgEnc (hS.get 0 rfl) sgNil) fun a w hF hS => ?_)
 refine wpListIn_nil ?_
 refine hK13 _ _ ?_
 refine wpIn_ret ?_
 have hS' := hS
 cases H
 exact ret_done hF hS (res1 Try.results78 (rvs hF hS' 1 0 1)) ⟨rfl, hS.sp [2] [0]⟩
set_option maxRecDepth 20000 in
set_option maxHeartbeats 1000000 in
theorem C_ref04_SameVers (N : Nat) {κ0 : Gh} {w0 : World} (hfr : Fresh κ0 w0) (a1 : (List T_api_Ver)) (a4 : (List T_api_Ver)) (p2 : Option Addr) (c3 : Nat) (p5 : Option Addr) (c6 : Nat) (hR : ∀ m ∈ ([Ro.mp f_api_Ver.ty p2 c3 a1, Ro.mp f_api_Ver.ty p5 c6 a4] : List MP), m.p κ0 w0) {r : (Bool)} (H : M.ref04_SameVers N a1 a4 = some r) :
    Calls Try.prog 96 #[.slice p2 (a1).length c3, .slice p5 (a4).length c6] w0 (Post [] κ0 w0 fun v κ w => v = vb r ∧ (∀ m ∈ ([] : List MP), m.p κ w) ∧ NewC w0 κ w []) := by
 have hS := SS.start hfr hR
 refine enter (N := (26)) (L := [(0, .slice p2 (a1).length c3), (1, .slice p5 (a4).length c6)]) Try.func96 rfl Try.ntmps96 (show 2 ≤ (26) by decide) rfl fun a hF => ?_
 unfold M.ref04_SameVers at H
 refine wpIn_seq_k fun K7 hK7 => ?_
 refine wpIn_region_lit ?_
 refine wp 1 [0, 1] hF fun a hF => ?_
 refine wpListIn_nil ?_
 refine hK7 _ _ ?_
 refine wpIn_seq_k fun K8 hK8 => ?_
 refine wpIn_seq_k fun K9 hK9 => ?_
 refine wpIn_region_lit ?_
 refine wp 5 [0, 1, 10] hF fun a hF => ?_
 refine wpListIn_nil ?_
 refine hK9 _ _ ?_
 refine bif_split H (fun hb H => ?_) (fun hb H => ?_)
 refine cond_t hF (by kernel_rfl) hb ?_
 refine wpIn_seq_k fun K10 hK10 => ?_
 refine wpIn_region_lit ?_
 refine wp 1 [4] hF fun a hF => ?_
 refine wpListIn_nil ?_
 refine hK10 _ _ ?_
 refine wpIn_ret ?_
 cases H
 exact (ret_done hF hS (res1 Try.results96 (rvt hF)) ⟨rfl, (hS.pick [] (by kernel_rfl)).ro, hS.newC [] (by decide) (by kernel_rfl)⟩)
 refine cond_f hF (by kernel_rfl) hb ?_
 refine wpIn_skip ?_
 refine hK8 _ _ ?_
 refine wpIn_seq_k fun K11 hK11 => ?_
 refine wpIn_seq_k fun K12 hK12 => ?_
 refine wpIn_region_lit ?_
 refine wp 1 [0, 1, 5] hF fun a hF => ?_
 refine wpListIn_nil ?_
 refine hK12 _ _ ?_
 refine wpIn_block ?_
 refine loop_fuel (n := N) (fun n a w => ∃ (κ : Gh) (y63 : Int), Fr (26) [] [(0, .slice p2 (a1).length c3), (1, .slice p5 (a4).length c6), (5, vi y63)] a ∧ SS [] κ0 w0 κ w [] [Ro.mp f_api_Ver.ty p2 c3 a1, Ro.mp f_api_Ver.ty p5 c6 a4] ∧ M.ref04_SameVers_L1 N n a1 a4 y63 = some r) ?_ ?_
 exact ⟨_, 0, hF.kp [0, 1, 5], hS.sp [] [0, 1], H⟩
 rintro n a w ⟨κ, y63, hF, hS, H⟩
 rcases n with _ | fuel1
 simp [M.ref04_SameVers_L1] at H
 simp only [M.ref04_SameVers_L1] at H
 refine wpIn_seq_k fun K64 hK64 => ?_
 refine wpIn_seq_k fun K65 hK65 => ?_
 refine wpIn_region_lit ?_
 refine wp 4 [0, 1, 5, 14] hF fun a hF => ?_
 refine wpListIn_nil ?_
 refine hK65 _ _ ?_
 refine bif_split H (fun hb H => ?_) (fun hb H => ?_)
 refine cond_t hF (by kernel_rfl) hb ?_
 refine wpIn_skip ?_
 refine hK64 _ _ ?_
 refine wpIn_seq_k fun K66 hK66 => ?_
 refine wpIn_block ?_
 refine wpIn_seq_k fun K67 hK67 => ?_
 refine rgS hS [] ?_
 have hS := hS.drew
 refine any_pure [0, 1, 4, 5] [0, 1, 5, 17, 18, 21, 22] (L' := [(0, .slice p2 (a1).length c3), (1, .slice p5 (a4).length c6), (5, vi y63), (17, .slice p2 (a1).length c3), (18, vi y63), (21, .slice p5 (a4).length c6), (22, vi y63)]) (listed' := (bitA 9 51)) (fuel := 5) hF (hS.sx [] [0, 1]) (by kernel_rfl) (by intro c a w t v h; cases t <;> exact h) (by kernel_rfl) rfl fun a hF => ?_
 refine bind_split H (fun x68 hx68 H => ?_)
 obtain ⟨b69, f70, hpx68⟩ := hS.ptr 0 rfl hx68
 refine atk 2 (some 19) hF (hS.sx [] [0, 1]) rfl (fun w _ => val_index (E := 129) (sz := 6) rfl hpx68 rfl (by kernel_rfl) rfl hx68 (by kernel_rfl) (by kernel_rfl) w) fun a hF => ?_
 refine atk 3 (some 20) hF (hS.sx [] [0, 1]) rfl (val_loadRoAgg (t := f_api_Ver) 0 rfl rfl hpx68 rfl hx68 (by kernel_rfl) (by kernel_rfl) (by kernel_rfl)) fun a hF => ?_
 refine bind_split H (fun x71 hx71 H => ?_)
 obtain ⟨b72, f73, hpx71⟩ := hS.ptr 1 rfl hx71
 refine atk 6 (some 23) hF (hS.sx [] [0, 1]) rfl (fun w _ => val_index (E := 129) (sz := 6) rfl hpx71 rfl (by kernel_rfl) rfl hx71 (by kernel_rfl) (by kernel_rfl) w) fun a hF => ?_
 refine atk 7 (some 24) hF (hS.sx [] [0, 1]) rfl (val_loadRoAgg (t := f_api_Ver) 1 rfl rfl hpx71 rfl hx71 (by kernel_rfl) (by kernel_rfl) (by kernel_rfl)) fun a hF => ?_
 refine atk 8 (some 25) hF (hS.sx [] [0, 1]) rfl (fun w _ => (val_eq (neg := true) (xs := (flat [sg x68.Key, sg x68.Val, sb x68.Gone, su x68.TS, si x68.DC, si x68.Tx])) (ys := (flat [sg x71.Key, sg x71.Val, sb x71.Gone, su x71.TS, si x71.DC, si x71.Tx])) (ks := [.str, .str, .bool, .int .u64, .int .i64, .int .i64]) 20 (by decide) rfl (by kernel_rfl) (by kernel_rfl) (by kernel_rfl) (by kernel_rfl) (by kernel_rfl) (by kernel_rfl) (by kernel_rfl)) w) fun a hF => ?_
 refine and_ ?_
 refine hK67 _ _ ?_
 refine bif_split H (fun hb H => ?_) (fun hb H => ?_)
 refine cond_t hF (by kernel_rfl) hb ?_
 refine wpIn_seq_k fun K74 hK74 => ?_
 refine wpIn_region_lit ?_
 refine wp 1 [4] hF fun a hF => ?_
 refine wpListIn_nil ?_
 refine hK74 _ _ ?_
 refine wpIn_ret ?_
 cases H
 exact (ret_done hF hS (res1 Try.results96 (rvt hF)) ⟨rfl, (hS.pick [] (by kernel_rfl)).ro, hS.newC [] (by decide) (by kernel_rfl)⟩)
 refine cond_f hF (by kernel_rfl) hb ?_
 refine wpIn_skip ?_
 refine hK66 _ _ ?_
 refine wpIn_region_lit ?_
 refine wp 3 [0, 1, 5] hF fun a hF => ?_
 refine wpListIn_nil ?_
 exact ⟨fuel1, Nat.lt_succ_self _, _, IntKind.i64.wrap (y63 + 1), hF.kp [0, 1, 5], hS.sp [] [0, 1], H⟩
 refine cond_f hF (by kernel_rfl) hb ?_
 refine wpIn_exit ?_
 refine hK11 _ _ ?_
 refine wpIn_seq_k fun K75 hK75 => ?_
 refine wpIn_region_lit ?_
 refine wp 1 [4] hF fun a hF => ?_
 refine wpListIn_nil ?_
 refine hK75 _ _ ?_
 refine wpIn_ret ?_
 cases H
 exact (ret_done hF hS (res1 Try.results96 (rvt hF)) ⟨rfl, (hS.pick [] (by kernel_rfl)).ro, hS.newC [] (by decide) (by kernel_rfl)⟩)
set_option maxRecDepth 20000 in
set_option maxHeartbeats 1000000 in
theorem C_ref04_Same (N : Nat) {κ0 : Gh} {w0 : World} (hfr : Fresh κ0 w0) (a1 : T_api_Msg) (a6 : T_api_Msg) (p2 : Option Addr) (c3 : Nat) (p4 : Option Addr) (c5 : Nat) (p7 : Option Addr) (c8 : Nat) (p9 : Option Addr) (c10 : Nat) (hR : ∀ m ∈ ([Ro.mp f_api_Ver.ty p2 c3 a1.Vers, Ro.mp (fInt .u64).ty p4 c5 a1.Vec, Ro.mp f_api_Ver.ty p7 c8 a6.Vers, Ro.mp (fInt .u64).ty p9 c10 a6.Vec] : List MP), m.p κ0 w0) {r : (Bool)} (H : M.ref04_Same N a1 a6 = some r) :
    Calls Try.prog 92 #[.agg (flat [si a1.Kind, su a1.Id, su a1.N, su a1.TS, sg a1.Lo, sg a1.Hi, sl p2 (a1.Vers).length c3, sl p4 (a1.Vec).length c5, si a1.Cmd.Kind, si a1.Cmd.DC, si a1.Cmd.Shard, si a1.Cmd.Node, si a1.Cmd.Mode, sg a1.Cmd.Key]).toArray, .agg (flat [si a6.Kind, su a6.Id, su a6.N, su a6.TS, sg a6.Lo, sg a6.Hi, sl p7 (a6.Vers).length c8, sl p9 (a6.Vec).length c10, si a6.Cmd.Kind, si a6.Cmd.DC, si a6.Cmd.Shard, si a6.Cmd.Node, si a6.Cmd.Mode, sg a6.Cmd.Key]).toArray] w0 (Post [] κ0 w0 fun v κ w => v = vb r ∧ (∀ m ∈ ([] : List MP), m.p κ w) ∧ NewC w0 κ w []) := by
 have hS := SS.start hfr hR
 refine enter (N := (85)) (L := [(0, .agg (flat [si a1.Kind, su a1.Id, su a1.N, su a1.TS, sg a1.Lo, sg a1.Hi, sl p2 (a1.Vers).length c3, sl p4 (a1.Vec).length c5, si a1.Cmd.Kind, si a1.Cmd.DC, si a1.Cmd.Shard, si a1.Cmd.Node, si a1.Cmd.Mode, sg a1.Cmd.Key]).toArray), (1, .agg (flat [si a6.Kind, su a6.Id, su a6.N, su a6.TS, sg a6.Lo, sg a6.Hi, sl p7 (a6.Vers).length c8, sl p9 (a6.Vec).length c10, si a6.Cmd.Kind, si a6.Cmd.DC, si a6.Cmd.Shard, si a6.Cmd.Node, si a6.Cmd.Mode, sg a6.Cmd.Key]).toArray)]) Try.func92 rfl Try.ntmps92 (show 2 ≤ (85) by decide) rfl fun a hF => ?_
 unfold M.ref04_Same at H
 refine wpIn_seq_k fun K11 hK11 => ?_
 refine wpIn_region_lit ?_
 refine wc (wbx hF hS [si a1.Kind, su a1.Id, su a1.N, su a1.TS, sg a1.Lo, sg a1.Hi, sl p2 (a1.Vers).length c3, sl p4 (a1.Vec).length c5, si a1.Cmd.Kind, si a1.Cmd.DC, si a1.Cmd.Shard, si a1.Cmd.Node, si a1.Cmd.Mode, sg a1.Cmd.Key] (sgN 14 sgNil) fun b12 a w hF hS => ?_)
 refine wc (wbx hF hS [si a6.Kind, su a6.Id, su a6.N, su a6.TS, sg a6.Lo, sg a6.Hi, sl p7 (a6.Vers).length c8, sl p9 (a6.Vec).length c10, si a6.Cmd.Kind, si a6.Cmd.DC, si a6.Cmd.Shard, si a6.Cmd.Node, si a6.Cmd.Mode, sg a6.Cmd.Key] (sgN 14 sgNil) fun b13 a w hF hS => ?_)
 refine wp 1 [2, 3] hF fun a hF => ?_
 refine wpListIn_nil ?_
 refine hK11 _ _ ?_
 refine wpIn_seq_k fun K14 hK14 => ?_
 refine wpIn_seq_k fun K15 hK15 => ?_
 refine wpIn_region_lit ?_
 refine bind_split H (fun v17 hv17 H => ?_)
 refine wl_join (fun a w => ∃ κ : Gh, Fr (85) [] [(2, pt b12 0), (3, pt b13 0), (61, vb v17)] a ∧ SS [] κ0 w0 κ w [.box b13 96 [si a6.Kind, su a6.Id, su a6.N, su a6.TS, sg a6.Lo, sg a6.Hi, sl p7 (a6.Vers).length c8, sl p9 (a6.Vec).length c10, si a6.Cmd.Kind, si a6.Cmd.DC, si a6.Cmd.Shard, si a6.Cmd.Node, si a6.Cmd.Mode, sg a6.Cmd.Key], .box b12 96 [si a1.Kind, su a1.Id, su a1.N, su a1.TS, sg a1.Lo, sg a1.Hi, sl p2 (a1.Vers).length c3, sl p4 (a1.Vec).length c5, si a1.Cmd.Kind, si a1.Cmd.DC, si a1.Cmd.Shard, si a1.Cmd.Node, si a1.Cmd.Mode, sg a1.Cmd.Key]] [Ro.mp f_api_Ver.ty p7 c8 a6.Vers, Ro.mp (fInt .u64).ty p9 c10 a6.Vec, Ro.mp f_api_Ver.ty p2 c3 a1.Vers, Ro.mp (fInt .u64).ty p4 c5 a1.Vec] ∧ True) ?_ ?_
 refine wp 1 [2, 3, 6] hF fun a hF => ?_
 refine wc (wld hF hS 1 0 0 fun a hF => ?_)
 refine wp 1 [2, 3, 7, 8] hF fun a hF => ?_
 refine wc (wld hF hS 0 0 0 fun a hF => ?_)
 refine wp 2 [2, 3, 11] hF fun a hF => ?_
 refine bif_split hv17 (fun hb hv17 => ?_) (fun hb hv17 => ?_)
 have hF := hF.boolv 11 (by kernel_rfl) hb
 refine wp 50 [2, 3, 61] hF fun a hF => ?_
 refine wpListIn_nil ?_
 cases hv17
 exact ⟨_, hF.kp [2, 3, 61], hS.sp [0, 1] [2, 3, 0, 1], trivial⟩
 have hF := hF.boolv 11 (by kernel_rfl) hb
 refine wp 1 [2, 3, 11, 12] hF fun a hF => ?_
 refine wcg hF (wld hF hS 1 1 0 fun a hF => ?_)
 refine wp 1 [2, 3, 11, 13, 14] hF fun a hF => ?_
 refine wcg hF (wld hF hS 0 1 0 fun a hF => ?_)
 refine wp 3 [2, 3, 18] hF fun a hF => ?_
 refine bif_split hv17 (fun hb hv17 => ?_) (fun hb hv17 => ?_)
 have hF := hF.boolv 18 (by kernel_rfl) hb
 refine wp 43 [2, 3, 61] hF fun a hF => ?_
 refine wpListIn_nil ?_
 cases hv17
 exact ⟨_, hF.kp [2, 3, 61], hS.sp [0, 1] [2, 3, 0, 1], trivial⟩
 have hF := hF.boolv 18 (by kernel_rfl) hb
 refine wp 1 [2, 3, 18, 19] hF fun a hF => ?_
 refine wcg hF (wld hF hS 1 2 0 fun a hF => ?_)
 refine wp 1 [2, 3, 18, 20, 21] hF fun a hF => ?_
 refine wcg hF (wld hF hS 0 2 0 fun a hF => ?_)
 refine wp 3 [2, 3, 25] hF fun a hF => ?_
 refine bif_split hv17 (fun hb hv17 => ?_) (fun hb hv17 => ?_)
 have hF := hF.boolv 25 (by kernel_rfl) hb
 refine wp 36 [2, 3, 61] hF fun a hF => ?_
 refine wpListIn_nil ?_
 cases hv17
 exact ⟨_, hF.kp [2, 3, 61], hS.sp [0, 1] [2, 3, 0, 1], trivial⟩
 have hF := hF.boolv 25 (by kernel_rfl) hb
 refine wp 1 [2, 3, 25, 26] hF fun a hF => ?_
 refine wcg hF (wld hF hS 1 3 0 fun a hF => ?_)
 refine wp 1 [2, 3, 25, 27, 28] hF fun a hF => ?_
 refine wcg hF (wld hF hS 0 3 0 fun a hF => ?_)
 refine wp 3 [2, 3, 32] hF fun a hF => ?_
 refine bif_split hv17 (fun hb hv17 => ?_) (fun hb hv17 => ?_)
 have hF := hF.boolv 32 (by kernel_rfl) hb
 refine wp 29 [2, 3, 61] hF fun a hF => ?_
 refine wpListIn_nil ?_
 cases hv17
 exact ⟨_, hF.kp [2, 3, 61], hS.sp [0, 1] [2, 3, 0, 1], trivial⟩
 have hF := hF.boolv 32 (by kernel_rfl) hb
 refine wp 1 [2, 3, 32, 33] hF fun a hF => ?_
 refine wcg hF (wld hF hS 1 4 0 fun a hF => ?_)
 refine wp 1 [2, 3, 32, 34, 35] hF fun a hF => ?_
 refine wcg hF (wld hF hS 0 4 0 fun a hF => ?_)
 refine wp 3 [2, 3, 39] hF fun a hF => ?_
 refine bif_split hv17 (fun hb hv17 => ?_) (fun hb hv17 => ?_)
 have hF := hF.boolv 39 (by kernel_rfl) hb
 refine wp 22 [2, 3, 61] hF fun a hF => ?_
 refine wpListIn_nil ?_
 cases hv17
 exact ⟨_, hF.kp [2, 3, 61], hS.sp [0, 1] [2, 3, 0, 1], trivial⟩
 have hF := hF.boolv 39 (by kernel_rfl) hb
 refine wp 1 [2, 3, 39, 40] hF fun a hF => ?_
 refine wcg hF (wld hF hS 1 5 0 fun a hF => ?_)
 refine wp 1 [2, 3, 39, 41, 42] hF fun a hF => ?_
 refine wcg hF (wld hF hS 0 5 0 fun a hF => ?_)
 refine wp 3 [2, 3, 46] hF fun a hF => ?_
 refine bif_split hv17 (fun hb hv17 => ?_) (fun hb hv17 => ?_)
 have hF := hF.boolv 46 (by kernel_rfl) hb
 refine wp 15 [2, 3, 61] hF fun a hF => ?_
 refine wpListIn_nil ?_
 cases hv17
 exact ⟨_, hF.kp [2, 3, 61], hS.sp [0, 1] [2, 3, 0, 1], trivial⟩
 have hF := hF.boolv 46 (by kernel_rfl) hb
 refine wp 1 [2, 3, 46, 47] hF fun a hF => ?_
 refine wcg hF (wls hF hS 1 8 6 fun a hF => ?_)
 refine wl_pure (L' := [(2, pt b12 0), (3, pt b13 0), (46, vb false), (48, .agg (flat [si a1.Cmd.Kind, si a1.Cmd.DC, si a1.Cmd.Shard, si a1.Cmd.Node, si a1.Cmd.Mode, sg a1.Cmd.Key]).toArray), (49, pt b13 8)]) 1 [2, 3, 46, 48, 49] hF (by kernel_rfl) fun a hF => ?_
 refine wcg hF (wls hF hS 0 8 6 fun a hF => ?_)
 refine wcg hF (wo_val hF (by kernel_rfl) (v := vb (!(cEq (flat [si a1.Cmd.Kind, si a1.Cmd.DC, si a1.Cmd.Shard, si a1.Cmd.Node, si a1.Cmd.Mode, sg a1.Cmd.Key]) (flat [si a6.Cmd.Kind, si a6.Cmd.DC, si a6.Cmd.Shard, si a6.Cmd.Node, si a6.Cmd.Mode, sg a6.Cmd.Key])))) ((val_eq (neg := true) (xs := (flat [si a1.Cmd.Kind, si a1.Cmd.DC, si a1.Cmd.Shard, si a1.Cmd.Node, si a1.Cmd.Mode, sg a1.Cmd.Key])) (ys := (flat [si a6.Cmd.Kind, si a6.Cmd.DC, si a6.Cmd.Shard, si a6.Cmd.Node, si a6.Cmd.Mode, sg a6.Cmd.Key])) (ks := [.int .i64, .int .i64, .int .i64, .int .i64, .int .i64, .str]) 20 (by decide) rfl (by kernel_rfl) (by kernel_rfl) (by kernel_rfl) (by kernel_rfl) (by kernel_rfl) (by kernel_rfl) (by kernel_rfl)) _) fun a hF => ?_)
 refine wp 2 [2, 3, 53] hF fun a hF => ?_
 refine bif_split hv17 (fun hb hv17 => ?_) (fun hb hv17 => ?_)
 have hF := hF.boolv 53 (by kernel_rfl) hb
 refine wp 8 [2, 3, 61] hF fun a hF => ?_
 refine wpListIn_nil ?_
 cases hv17
 exact ⟨_, hF.kp [2, 3, 61], hS.sp [0, 1] [2, 3, 0, 1], trivial⟩
 have hF := hF.boolv 53 (by kernel_rfl) hb
 refine wp 1 [2, 3, 53, 54] hF fun a hF => ?_
 refine wcg hF (wld hF hS 1 7 0 fun a hF => ?_)
 refine wp 2 [2, 3, 53, 56, 57] hF fun a hF => ?_
 refine wcg hF (wld hF hS 0 7 0 fun a hF => ?_)
 refine wp 3 [2, 3, 61] hF fun a hF => ?_
 refine wpListIn_nil ?_
 cases hv17
 exact ⟨_, hF.kp [2, 3, 61], hS.sp [0, 1] [2, 3, 0, 1], trivial⟩
 rintro a w ⟨κ, hF, hS, -⟩
 refine hK15 _ _ ?_
 refine bif_split H (fun hb H => ?_) (fun hb H => ?_)
 refine cond_t hF (by kernel_rfl) hb ?_
 refine wpIn_seq_k fun K18 hK18 => ?_
 refine wpIn_region_lit ?_
 refine wp 1 [4] hF fun a hF => ?_
 refine wpListIn_nil ?_
 refine hK18 _ _ ?_
 refine wpIn_ret ?_
 cases H
 exact (ret_done hF hS (res1 Try.results92 (rvt hF)) ⟨rfl, (hS.pick [] (by kernel_rfl)).ro, hS.newC [] (by decide) (by kernel_rfl)⟩)
 refine cond_f hF (by kernel_rfl) hb ?_
 refine wpIn_skip ?_
 refine hK14 _ _ ?_
 refine wpIn_seq_k fun K19 hK19 => ?_
 refine wpIn_seq_k fun K20 hK20 => ?_
 refine wpIn_region_lit ?_
 refine wp 1 [2, 3, 5] hF fun a hF => ?_
 refine wpListIn_nil ?_
 refine hK20 _ _ ?_
 refine wpIn_block ?_
 refine loop_fuel (n := N) (fun n a w => ∃ (κ : Gh) (y71 : Int), Fr (85) [] [(2, pt b12 0), (3, pt b13 0), (5, vi y71)] a ∧ SS [] κ0 w0 κ w [.box b13 96 [si a6.Kind, su a6.Id, su a6.N, su a6.TS, sg a6.Lo, sg a6.Hi, sl p7 (a6.Vers).length c8, sl p9 (a6.Vec).length c10, si a6.Cmd.Kind, si a6.Cmd.DC, si a6.Cmd.Shard, si a6.Cmd.Node, si a6.Cmd.Mode, sg a6.Cmd.Key], .box b12 96 [si a1.Kind, su a1.Id, su a1.N, su a1.TS, sg a1.Lo, sg a1.Hi, sl p2 (a1.Vers).length c3, sl p4 (a1.Vec).length c5, si a1.Cmd.Kind, si a1.Cmd.DC, si a1.Cmd.Shard, si a1.Cmd.Node, si a1.Cmd.Mode, sg a1.Cmd.Key]] [Ro.mp f_api_Ver.ty p7 c8 a6.Vers, Ro.mp (fInt .u64).ty p9 c10 a6.Vec, Ro.mp f_api_Ver.ty p2 c3 a1.Vers, Ro.mp (fInt .u64).ty p4 c5 a1.Vec] ∧ M.ref04_Same_L1 N n a1 a6 y71 = some r) ?_ ?_
 exact ⟨_, 0, hF.kp [2, 3, 5], hS.sp [0, 1] (rg 4), H⟩
 rintro n a w ⟨κ, y71, hF, hS, H⟩
 rcases n with _ | fuel1
 simp [M.ref04_Same_L1] at H
 simp only [M.ref04_Same_L1] at H
 refine wpIn_seq_k fun K72 hK72 => ?_
 refine wpIn_seq_k fun K73 hK73 => ?_
 refine wpIn_region_lit ?_
 refine wp 2 [2, 3, 5, 62, 63] hF fun a hF => ?_
 refine wc (wld hF hS 1 7 0 fun a hF => ?_)
 refine wp 2 [2, 3, 5, 66] hF fun a hF => ?_
 refine wpListIn_nil ?_
 refine hK73 _ _ ?_
 refine bif_split H (fun hb H => ?_) (fun hb H => ?_)
 refine cond_t hF (by kernel_rfl) hb ?_
 refine wpIn_skip ?_
 refine hK72 _ _ ?_
 refine wpIn_seq_k fun K74 hK74 => ?_
 refine wpIn_block ?_
 refine wpIn_seq_k fun K75 hK75 => ?_
 refine rgS hS [] ?_
 have hS := hS.drew
 refine any_pure [0, 2, 5, 7] [2, 3, 5, 69, 71, 74, 76] (L' := [(2, pt b12 0), (3, pt b13 0), (5, vi y71), (69, pt b12 7), (71, vi y71), (74, pt b13 7), (76, vi y71)]) (listed' := (bitA 11 165)) (fuel := 7) hF (hS.sx [0, 1] (rg 4)) (by kernel_rfl) (by intro c a w t v h; cases t <;> exact h) (by kernel_rfl) rfl fun a hF => ?_
 refine atk 1 (some 70) hF (hS.sx [0, 1] (rg 4)) rfl (vld 1 7 0) fun a hF => ?_
 refine bind_split H (fun x76 hx76 H => ?_)
 obtain ⟨b77, f78, hpx76⟩ := hS.ptr 3 rfl hx76
 refine atk 3 (some 72) hF (hS.sx [0, 1] (rg 4)) rfl (fun w _ => val_index (E := 92) (sz := 1) rfl hpx76 rfl (by kernel_rfl) rfl hx76 (by kernel_rfl) (by kernel_rfl) w) fun a hF => ?_
 refine atk 4 (some 73) hF (hS.sx [0, 1] (rg 4)) rfl (val_loadRo (t := (fInt .u64)) 3 0 (v := vu x76) rfl rfl hpx76 rfl hx76 (by kernel_rfl) (by kernel_rfl) (by kernel_rfl)) fun a hF => ?_
 refine atk 6 (some 75) hF (hS.sx [0, 1] (rg 4)) rfl (vld 0 7 0) fun a hF => ?_
 refine bind_split H (fun x79 hx79 H => ?_)
 obtain ⟨b80, f81, hpx79⟩ := hS.ptr 1 rfl hx79
 refine atk 8 (some 77) hF (hS.sx [0, 1] (rg 4)) rfl (fun w _ => val_index (E := 92) (sz := 1) rfl hpx79 rfl (by kernel_rfl) rfl hx79 (by kernel_rfl) (by kernel_rfl) w) fun a hF => ?_
 refine atk 9 (some 78) hF (hS.sx [0, 1] (rg 4)) rfl (val_loadRo (t := (fInt .u64)) 1 0 (v := vu x79) rfl rfl hpx79 rfl hx79 (by kernel_rfl) (by kernel_rfl) (by kernel_rfl)) fun a hF => ?_
 refine anp [10] [2, 3, 5, 79] hF (hS.sx [0, 1] (rg 4)) fun a hF => ?_
 refine and_ ?_
 refine hK75 _ _ ?_
 refine bif_split H (fun hb H => ?_) (fun hb H => ?_)
 refine cond_t hF (by kernel_rfl) hb ?_
 refine wpIn_seq_k fun K82 hK82 => ?_
 refine wpIn_region_lit ?_
 refine wp 1 [4] hF fun a hF => ?_
 refine wpListIn_nil ?_
 refine hK82 _ _ ?_
 refine wpIn_ret ?_
 cases H
 exact (ret_done hF hS (res1 Try.results92 (rvt hF)) ⟨rfl, (hS.pick [] (by kernel_rfl)).ro, hS.newC [] (by decide) (by kernel_rfl)⟩)
 refine cond_f hF (by kernel_rfl) hb ?_
 refine wpIn_skip ?_
 refine hK74 _ _ ?_
 refine wpIn_region_lit ?_
 refine wp 3 [2, 3, 5] hF fun a hF => ?_
 refine wpListIn_nil ?_
 exact ⟨fuel1, Nat.lt_succ_self _, _, IntKind.i64.wrap (y71 + 1), hF.kp [2, 3, 5], hS.sp [0, 1] (rg 4), H⟩
 refine cond_f hF (by kernel_rfl) hb ?_
 refine wpIn_exit ?_
 refine hK19 _ _ ?_
 refine wpIn_seq_k fun K83 hK83 => ?_
 refine wpIn_region_lit ?_
 refine wp 1 [3, 80] hF fun a hF => ?_
 refine wc (wld hF hS 1 6 0 fun a hF => ?_)
 refine wp 1 [81, 82] hF fun a hF => ?_
 refine wc (wld hF hS 0 6 0 fun a hF => ?_)
 refine bind_split H (fun x84 hx84 H => ?_)
 refine wc (wo_callP hF hS (by kernel_rfl) (by kernel_rfl) (C_ref04_SameVers N hS.fresh a1.Vers a6.Vers p2 c3 p7 c8 ((hS.pick [2, 0] (by kernel_rfl)).ro) hx84) ?_)
 rintro _ κ w a ⟨rfl, hR, hN⟩ hF hS hO
 refine wp 1 [4] hF fun a hF => ?_
 refine wpListIn_nil ?_
 refine hK83 _ _ ?_
 refine wpIn_ret ?_
 cases H
 exact (ret_done hF hS (res1 Try.results92 (rvt hF)) ⟨rfl, (hS.pick [] (by kernel_rfl)).ro, hS.newC [] (by decide) (by kernel_rfl)⟩)
end Go.Cf
