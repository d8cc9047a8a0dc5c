/- The walks: each function returns what its model says. Printed by a program of ours. -/
import Derived.Test.YtjohablgnnbelaaM7a
import Derived.Test.YtjohablgnnbelaaW3
import Derived.Test.YtjohablgnnbelaaW6
import Derived.Test.YtjohablgnnbelaaW6r
import Derived.Test.YtjohablgnnbelaaW6w
namespace Go.Cf
open Go Go.Proofs
set_option linter.unusedVariables false
set_option maxRecDepth 20000 in
set_option maxHeartbeats 1000000 in
theorem C_law18_ConfigApplies (N : Nat) {κ0 : Gh} {w0 : World} (hfr : Fresh κ0 w0) (a1 : T_config_State) (a3 : T_api_Cmd) (cs2 : List Value) (hR : ∀ m ∈ ([MP.const (List.length a1.Members = 4), Arr.mp t_api_Map cs2 4 a1.Maps, MP.const (List.length a1.Modes = 21)] : List MP), m.p κ0 w0) {r : (Bool)} (H : M.law18_ConfigApplies N a1 a3 = some r) :
    Calls Try.prog 16 #[.agg (flat [(1, [.int .i64 (a1.Pool)]), (1, [.int .i64 (a1.Nodes)]), (4, (encs fBool a1.Members)), (8, cs2), (21, (encs (fInt .i64) a1.Modes))]).toArray, .agg (flat [(1, [.int .i64 (a3.Kind)]), (1, [.int .i64 (a3.DC)]), (1, [.int .i64 (a3.Shard)]), (1, [.int .i64 (a3.Node)]), (1, [.int .i64 (a3.Mode)]), (1, [.string (a3.Key)])]).toArray] w0 (Post [] κ0 w0 fun v κ w => v = .bool (r) ∧ (∀ m ∈ ([] : List MP), m.p κ w) ∧ NewC w0 κ w []) := by
 have hS := SS.start hfr hR
 refine enter (N := (70)) (L := [(0, .agg (flat [si a1.Pool, si a1.Nodes, (4, (encs fBool a1.Members)), (8, cs2), (21, (encs (fInt .i64) a1.Modes))]).toArray), (1, .agg (flat [si a3.Kind, si a3.DC, si a3.Shard, si a3.Node, si a3.Mode, sg a3.Key]).toArray)]) Try.func16 rfl Try.ntmps16 (show 2 ≤ (70) by decide) rfl fun a hF => ?_
 unfold M.law18_ConfigApplies at H
 refine wpIn_seq_k fun K4 hK4 => ?_
 refine wpIn_region_lit ?_
 refine wc (wbx hF hS [si a1.Pool, si a1.Nodes, (4, (encs fBool a1.Members)), (8, cs2), (21, (encs (fInt .i64) a1.Modes))] (sgV rfl (sgV rfl (sgEnc (hS.get 0 rfl) (sgArr (hS.get 1 rfl) (sgEnc (hS.get 2 rfl) sgNil))))) fun b5 a w hF hS => ?_)
 refine wc (wbx hF hS [si a3.Kind, si a3.DC, si a3.Shard, si a3.Node, si a3.Mode, sg a3.Key] (sgV rfl (sgV rfl (sgV rfl (sgV rfl (sgV rfl (sgV rfl sgNil)))))) fun b6 a w hF hS => ?_)
 refine wp 1 [2, 3] hF fun a hF => ?_
 refine wpListIn_nil ?_
 refine hK4 _ _ ?_
 refine wpIn_seq_k fun K7 hK7 => ?_
 refine wpIn_seq_k fun K8 hK8 => ?_
 refine wpIn_region_lit ?_
 refine wc (wls hF hS 1 0 5 fun a hF => ?_)
 refine bind_split H (fun x9 hx9 H => ?_)
 refine wc (wo_callP hF hS (by kernel_rfl) (by kernel_rfl) (C_law18_great N hS.fresh (T_config_State.mk a1.Pool a1.Nodes a1.Members a1.Maps a1.Modes) cs2 ((hS.pick [0, 1, 2] (by kernel_rfl)).ro) hx9) ?_)
 rintro _ κ w a ⟨rfl, hR, hN⟩ hF hS hO
 refine wpListIn_nil ?_
 refine hK8 _ _ ?_
 refine bif_split H (fun hb H => ?_) (fun hb H => ?_)
 refine cond_t hF (by kernel_rfl) hb ?_
 refine wpIn_seq_k fun K10 hK10 => ?_
 refine wpIn_region_lit ?_
 refine bind_split H (fun x11 hx11 H => ?_)
 refine wc (wo_callP hF hS (by kernel_rfl) (by kernel_rfl) (C_law18_awake N hS.fresh   ((hS.pick [] (by kernel_rfl)).ro) hx11) ?_)
 rintro _ κ w a ⟨rfl, hR, hN⟩ hF hS hO
 refine wp 1 [4] hF fun a hF => ?_
 refine wpListIn_nil ?_
 refine hK10 _ _ ?_
 refine wpIn_ret ?_
 cases H
 exact (ret_done hF hS (res1 Try.results16 (rvt hF)) ⟨rfl, (hS.pick [] (by kernel_rfl)).ro, hS.newC [] (by decide) (by kernel_rfl)⟩)
 refine cond_f hF (by kernel_rfl) hb ?_
 refine wpIn_skip ?_
 refine hK7 _ _ ?_
 refine wpIn_seq_k fun K12 hK12 => ?_
 refine wpIn_region_lit ?_
 refine wc (wls hF hS 1 0 5 fun a hF => ?_)
 refine wc (wls hF hS 0 0 6 fun a hF => ?_)
 refine bind_split H (fun x13 hx13 H => ?_)
 refine wc (wo_callP hF hS (by kernel_rfl) (by kernel_rfl) (C_config_Apply N hS.fresh (T_config_State.mk a1.Pool a1.Nodes a1.Members a1.Maps a1.Modes) (T_api_Cmd.mk a3.Kind a3.DC a3.Shard a3.Node a3.Mode a3.Key) cs2 ((hS.pick [0, 1, 2] (by kernel_rfl)).ro) hx13) ?_)
 rintro _ κ w a ⟨cs14, rfl, hR, hN⟩ hF hS hO
 have hS := hS.adds hR
 refine wp 3 [2, 3, 18, 19] hF fun a hF => ?_
 have hS := hS.add (m := MP.const (List.length (List.replicate 4 false) = 4)) (List.length_replicate)
 have hS := hS.add (m := Arr.mp t_api_Map ((List.replicate 4 (flat [(1, [.slice none 0 0]), (1, [.slice none 0 0])])).flatten) 4 (List.replicate 4 (T_api_Map.mk ([] : List ByteArray) ([] : List Int)))) (Arr.zero _ _ _ _ _ z_api_Map)
 have hS := hS.add (m := MP.const (List.length (List.replicate 21 0) = 21)) (List.length_replicate)
 refine wc (wal hF hS [si 0, si 0, (4, (encs fBool (List.replicate 4 false))), (8, (List.replicate 4 (flat [(1, [.slice none 0 0]), (1, [.slice none 0 0])])).flatten), (21, (encs (fInt .i64) (List.replicate 21 0)))] (sgV rfl (sgV rfl (sgEnc List.length_replicate (sgArr (hS.get 1 rfl) (sgEnc List.length_replicate sgNil))))) fun b15 a w hF hS => ?_)
 refine wc (wst hF hS 0 0 5 [si x13.1.Pool, si x13.1.Nodes, (4, (encs fBool x13.1.Members)), (8, cs14), (21, (encs (fInt .i64) x13.1.Modes))] (sgV rfl (sgV rfl (sgEnc (hS.get 3 rfl) (sgArr (hS.get 4 rfl) (sgEnc (hS.get 5 rfl) sgNil))))) fun a w hF hS => ?_)
 refine wp 1 [2, 3, 5, 6] hF fun a hF => ?_
 refine wpListIn_nil ?_
 refine hK12 _ _ ?_
 refine wpIn_seq_k fun K16 hK16 => ?_
 refine bind_split H (fun v25 hv25 H => ?_)
 refine code_join (fun a w => ∃ κ : Gh, ∃ b17 : Nat, ∃ cs22 : List Value, Fr (70) [] [(2, pt b5 0), (3, pt b6 0), (5, pt b15 0), (6, .int .i64 (x13.2)), (7, pt b17 0), (8, .int .i64 (v25.2.2.2.2.2))] a ∧ SS [] κ0 w0 κ w [.box b15 30 [si x13.1.Pool, si x13.1.Nodes, (4, (encs fBool x13.1.Members)), (8, cs14), (21, (encs (fInt .i64) x13.1.Modes))], .box b6 72 [si a3.Kind, si a3.DC, si a3.Shard, si a3.Node, si a3.Mode, sg a3.Key], .box b5 30 [si a1.Pool, si a1.Nodes, (4, (encs fBool a1.Members)), (8, cs2), (21, (encs (fInt .i64) a1.Modes))], .box b17 34 [si v25.1, si v25.2.1, (4, (encs fBool v25.2.2.1)), (8, cs22), (21, (encs (fInt .i64) v25.2.2.2.2.1))]] [MP.const (List.length x13.1.Members = 4), Arr.mp t_api_Map cs14 4 x13.1.Maps, MP.const (List.length x13.1.Modes = 21), MP.const (List.length a1.Members = 4), Arr.mp t_api_Map cs2 4 a1.Maps, MP.const (List.length a1.Modes = 21), MP.const (List.length v25.2.2.1 = 4), Arr.mp t_api_Map cs22 4 v25.2.2.2.1, MP.const (List.length v25.2.2.2.2.1 = 21)] ∧ True) ?_ ?_
 refine rga (SSx [] κ0 w0 [.box b15 30 [si x13.1.Pool, si x13.1.Nodes, (4, (encs fBool x13.1.Members)), (8, cs14), (21, (encs (fInt .i64) x13.1.Modes))], .box b6 72 [si a3.Kind, si a3.DC, si a3.Shard, si a3.Node, si a3.Mode, sg a3.Key], .box b5 30 [si a1.Pool, si a1.Nodes, (4, (encs fBool a1.Members)), (8, cs2), (21, (encs (fInt .i64) a1.Modes))]] [MP.const (List.length (List.replicate 21 0) = 21), Arr.mp t_api_Map ((List.replicate 4 (flat [(1, [.slice none 0 0]), (1, [.slice none 0 0])])).flatten) 4 (List.replicate 4 (T_api_Map.mk ([] : List ByteArray) ([] : List Int))), MP.const (List.length (List.replicate 4 false) = 4), MP.const (List.length x13.1.Members = 4), Arr.mp t_api_Map cs14 4 x13.1.Maps, MP.const (List.length x13.1.Modes = 21), MP.const (List.length a1.Members = 4), Arr.mp t_api_Map cs2 4 a1.Maps, MP.const (List.length a1.Modes = 21)]) [8] ?_
 have hS := hS.drew
 refine bind_split hv25 (fun x26 hx26 hv25 => ?_)
 refine bind_split hv25 (fun x28 hx28 hv25 => ?_)
 refine atk 0 (some 21) hF (hS.sx [0, 1, 2] [0, 1, 2, 3, 4, 5, 6, 7, 8]) rfl (vls 2 0 5) fun a hF => ?_
 refine atk 2 (some 23) hF (hS.sx [0, 1, 2] [0, 1, 2, 3, 4, 5, 6, 7, 8]) rfl (vls 1 0 6) fun a hF => ?_
 refine ago2 1 7 hF rfl rfl ?_ ?_
 refine wo_callP hF hS (by kernel_rfl) (by kernel_rfl) (C_law18_Told N hS.fresh (T_config_State.mk a1.Pool a1.Nodes a1.Members a1.Maps a1.Modes) cs2 ((hS.pick [6, 7, 8] (by kernel_rfl)).ro) hx26) ?_
 rintro _ κ w a ⟨cs27, rfl, hR, hN⟩ hF hS hO
 have hS := hS.adds hR
 refine ⟨fun _ => (hS.sx [0, 1, 2] [3, 4, 5, 6, 7, 8, 9, 10, 11]), ?_⟩
 refine ago2 3 7 hF rfl rfl ?_ ?_
 refine wo_callP hF hS (by kernel_rfl) (by kernel_rfl) (C_ref18_Apply N hS.fresh (T_ref18_State.mk x26.Pool x26.Nodes x26.Members x26.Maps x26.Modes) (T_api_Cmd.mk a3.Kind a3.DC a3.Shard a3.Node a3.Mode a3.Key) cs27 ((hS.pick [0, 1, 2] (by kernel_rfl)).ro) hx28) ?_
 rintro _ κ w a ⟨cs29, rfl, hR, hN⟩ hF hS hO
 have hS := hS.adds hR
 refine ⟨fun _ => (hS.sx [0, 1, 2] [6, 7, 8, 9, 10, 11, 12, 13, 14]), ?_⟩
 refine anp [4, 5] [2, 3, 5, 6, 20, 25] hF (hS.sx [0, 1, 2] [6, 7, 8, 9, 10, 11, 12, 13, 14]) fun a hF => ?_
 refine ago2 6 7 hF rfl rfl ?_ ?_
 refine wo_pure (v := .int .i64 (x28.2)) hF (by kernel_rfl) (by kernel_rfl) fun a hF => ?_
 refine ⟨fun _ => (hS.sx [0, 1, 2] [6, 7, 8, 9, 10, 11, 12, 13, 14]), ?_⟩
 refine ago 7 hF rfl ?_
 refine wal hF hS [si 0, si 0, (4, (encs fBool (List.replicate 4 false))), (8, (List.replicate 4 (flat [(1, [.slice none 0 0]), (1, [.slice none 0 0])])).flatten), (21, (encs (fInt .i64) (List.replicate 21 0)))] (sgV rfl (sgV rfl (sgEnc List.length_replicate (sgArr (hS.get 7 rfl) (sgEnc List.length_replicate sgNil))))) fun b30 a w hF hS => ?_
 refine ⟨fun _ => (hS.sx [1, 2, 3] [6, 7, 8, 9, 10, 11, 12, 13, 14]), ?_⟩
 refine ago 8 hF rfl ?_
 refine wst hF hS 0 0 5 [si x28.1.Pool, si x28.1.Nodes, (4, (encs fBool x28.1.Members)), (8, cs29), (21, (encs (fInt .i64) x28.1.Modes))] (sgV rfl (sgV rfl (sgEnc (hS.get 0 rfl) (sgArr (hS.get 1 rfl) (sgEnc (hS.get 2 rfl) sgNil))))) fun a w hF hS => ?_
 refine ⟨notE, ?_⟩
 refine ago 9 hF rfl ?_
 refine wo_pure (v := .int .i64 (x28.2)) hF (by kernel_rfl) (by kernel_rfl) fun a hF => ?_
 refine ⟨notE, ?_⟩
 refine and_ ?_
 cases hv25
 exact ⟨_, b30, cs29, hF.kp [2, 3, 5, 6, 7, 8], hS.sp [1, 2, 3, 0] [9, 10, 11, 12, 13, 14, 0, 1, 2], trivial⟩
 refine wal hF hS [si 0, si 0, (4, (encs fBool (List.replicate 4 false))), (8, (List.replicate 4 (flat [(1, [.slice none 0 0]), (1, [.slice none 0 0])])).flatten), (21, (encs (fInt .i64) (List.replicate 21 0)))] (sgV rfl (sgV rfl (sgEnc List.length_replicate (sgArr (hS.get 7 rfl) (sgEnc List.length_replicate sgNil))))) fun b30 a w hF hS => ?_
 refine ⟨fun _ => (hS.sx [1, 2, 3] [6, 7, 8, 9, 10, 11, 12, 13, 14]), ?_⟩
 refine ago2 6 8 hF rfl rfl ?_ ?_
 refine wo_pure (v := .int .i64 (x28.2)) hF (by kernel_rfl) (by kernel_rfl) fun a hF => ?_
 refine ⟨fun _ => (hS.sx [1, 2, 3] [6, 7, 8, 9, 10, 11, 12, 13, 14]), ?_⟩
 refine ago 8 hF rfl ?_
 refine wst hF hS 0 0 5 [si x28.1.Pool, si x28.1.Nodes, (4, (encs fBool x28.1.Members)), (8, cs29), (21, (encs (fInt .i64) x28.1.Modes))] (sgV rfl (sgV rfl (sgEnc (hS.get 0 rfl) (sgArr (hS.get 1 rfl) (sgEnc (hS.get 2 rfl) sgNil))))) fun a w hF hS => ?_
 refine ⟨notE, ?_⟩
 refine ago 9 hF rfl ?_
 refine wo_pure (v := .int .i64 (x28.2)) hF (by kernel_rfl) (by kernel_rfl) fun a hF => ?_
 refine ⟨notE, ?_⟩
 refine and_ ?_
 cases hv25
 exact ⟨_, b30, cs29, hF.kp [2, 3, 5, 6, 7, 8], hS.sp [1, 2, 3, 0] [9, 10, 11, 12, 13, 14, 0, 1, 2], trivial⟩
 refine wst hF hS 0 0 5 [si x28.1.Pool, si x28.1.Nodes, (4, (encs fBool x28.1.Members)), (8, cs29), (21, (encs (fInt .i64) x28.1.Modes))] (sgV rfl (sgV rfl (sgEnc (hS.get 0 rfl) (sgArr (hS.get 1 rfl) (sgEnc (hS.get 2 rfl) sgNil))))) fun a w hF hS => ?_
 refine ⟨notE, ?_⟩
 refine ago 6 hF rfl ?_
 refine wo_pure (v := .int .i64 (x28.2)) hF (by kernel_rfl) (by kernel_rfl) fun a hF => ?_
 refine ⟨notE, ?_⟩
 refine ago 9 hF rfl ?_
 refine wo_pure (v := .int .i64 (x28.2)) hF (by kernel_rfl) (by kernel_rfl) fun a hF => ?_
 refine ⟨notE, ?_⟩
 refine and_ ?_
 cases hv25
 exact ⟨_, b30, cs29, hF.kp [2, 3, 5, 6, 7, 8], hS.sp [1, 2, 3, 0] [9, 10, 11, 12, 13, 14, 0, 1, 2], trivial⟩
 refine wal hF hS [si 0, si 0, (4, (encs fBool (List.replicate 4 false))), (8, (List.replicate 4 (flat [(1, [.slice none 0 0]), (1, [.slice none 0 0])])).flatten), (21, (encs (fInt .i64) (List.replicate 21 0)))] (sgV rfl (sgV rfl (sgEnc List.length_replicate (sgArr (hS.get 4 rfl) (sgEnc List.length_replicate sgNil))))) fun b30 a w hF hS => ?_
 refine ⟨fun _ => (hS.sx [1, 2, 3] [3, 4, 5, 6, 7, 8, 9, 10, 11]), ?_⟩
 refine ago 3 hF rfl ?_
 refine wo_callP hF hS (by kernel_rfl) (by kernel_rfl) (C_ref18_Apply N hS.fresh (T_ref18_State.mk x26.Pool x26.Nodes x26.Members x26.Maps x26.Modes) (T_api_Cmd.mk a3.Kind a3.DC a3.Shard a3.Node a3.Mode a3.Key) cs27 ((hS.pick [0, 1, 2] (by kernel_rfl)).ro) hx28) ?_
 rintro _ κ w a ⟨cs29, rfl, hR, hN⟩ hF hS hO
 have hS := hS.adds hR
 refine ⟨fun _ => (hS.sx [1, 2, 3] [6, 7, 8, 9, 10, 11, 12, 13, 14]), ?_⟩
 refine anp [4, 5] [2, 3, 5, 6, 7, 20, 25] hF (hS.sx [1, 2, 3] [6, 7, 8, 9, 10, 11, 12, 13, 14]) fun a hF => ?_
 refine ago2 6 8 hF rfl rfl ?_ ?_
 refine wo_pure (v := .int .i64 (x28.2)) hF (by kernel_rfl) (by kernel_rfl) fun a hF => ?_
 refine ⟨fun _ => (hS.sx [1, 2, 3] [6, 7, 8, 9, 10, 11, 12, 13, 14]), ?_⟩
 refine ago 8 hF rfl ?_
 refine wst hF hS 0 0 5 [si x28.1.Pool, si x28.1.Nodes, (4, (encs fBool x28.1.Members)), (8, cs29), (21, (encs (fInt .i64) x28.1.Modes))] (sgV rfl (sgV rfl (sgEnc (hS.get 0 rfl) (sgArr (hS.get 1 rfl) (sgEnc (hS.get 2 rfl) sgNil))))) fun a w hF hS => ?_
 refine ⟨notE, ?_⟩
 refine ago 9 hF rfl ?_
 refine wo_pure (v := .int .i64 (x28.2)) hF (by kernel_rfl) (by kernel_rfl) fun a hF => ?_
 refine ⟨notE, ?_⟩
 refine and_ ?_
 cases hv25
 exact ⟨_, b30, cs29, hF.kp [2, 3, 5, 6, 7, 8], hS.sp [1, 2, 3, 0] [9, 10, 11, 12, 13, 14, 0, 1, 2], trivial⟩
 refine wst hF hS 0 0 5 [si x28.1.Pool, si x28.1.Nodes, (4, (encs fBool x28.1.Members)), (8, cs29), (21, (encs (fInt .i64) x28.1.Modes))] (sgV rfl (sgV rfl (sgEnc (hS.get 0 rfl) (sgArr (hS.get 1 rfl) (sgEnc (hS.get 2 rfl) sgNil))))) fun a w hF hS => ?_
 refine ⟨notE, ?_⟩
 refine ago 6 hF rfl ?_
 refine wo_pure (v := .int .i64 (x28.2)) hF (by kernel_rfl) (by kernel_rfl) fun a hF => ?_
 refine ⟨notE, ?_⟩
 refine ago 9 hF rfl ?_
 refine wo_pure (v := .int .i64 (x28.2)) hF (by kernel_rfl) (by kernel_rfl) fun a hF => ?_
 refine ⟨notE, ?_⟩
 refine and_ ?_
 cases hv25
 exact ⟨_, b30, cs29, hF.kp [2, 3, 5, 6, 7, 8], hS.sp [1, 2, 3, 0] [9, 10, 11, 12, 13, 14, 0, 1, 2], trivial⟩
 refine wal hF hS [si 0, si 0, (4, (encs fBool (List.replicate 4 false))), (8, (List.replicate 4 (flat [(1, [.slice none 0 0]), (1, [.slice none 0 0])])).flatten), (21, (encs (fInt .i64) (List.replicate 21 0)))] (sgV rfl (sgV rfl (sgEnc List.length_replicate (sgArr (hS.get 1 rfl) (sgEnc List.length_replicate sgNil))))) fun b30 a w hF hS => ?_
 refine ⟨fun _ => (hS.sx [1, 2, 3] [0, 1, 2, 3, 4, 5, 6, 7, 8]), ?_⟩
 refine ago 1 hF rfl ?_
 refine wo_callP hF hS (by kernel_rfl) (by kernel_rfl) (C_law18_Told N hS.fresh (T_config_State.mk a1.Pool a1.Nodes a1.Members a1.Maps a1.Modes) cs2 ((hS.pick [6, 7, 8] (by kernel_rfl)).ro) hx26) ?_
 rintro _ κ w a ⟨cs27, rfl, hR, hN⟩ hF hS hO
 have hS := hS.adds hR
 refine ⟨fun _ => (hS.sx [1, 2, 3] [3, 4, 5, 6, 7, 8, 9, 10, 11]), ?_⟩
 refine ago 3 hF rfl ?_
 refine wo_callP hF hS (by kernel_rfl) (by kernel_rfl) (C_ref18_Apply N hS.fresh (T_ref18_State.mk x26.Pool x26.Nodes x26.Members x26.Maps x26.Modes) (T_api_Cmd.mk a3.Kind a3.DC a3.Shard a3.Node a3.Mode a3.Key) cs27 ((hS.pick [0, 1, 2] (by kernel_rfl)).ro) hx28) ?_
 rintro _ κ w a ⟨cs29, rfl, hR, hN⟩ hF hS hO
 have hS := hS.adds hR
 refine ⟨fun _ => (hS.sx [1, 2, 3] [6, 7, 8, 9, 10, 11, 12, 13, 14]), ?_⟩
 refine anp [4, 5] [2, 3, 5, 6, 7, 20, 25] hF (hS.sx [1, 2, 3] [6, 7, 8, 9, 10, 11, 12, 13, 14]) fun a hF => ?_
 refine ago2 6 8 hF rfl rfl ?_ ?_
 refine wo_pure (v := .int .i64 (x28.2)) hF (by kernel_rfl) (by kernel_rfl) fun a hF => ?_
 refine ⟨fun _ => (hS.sx [1, 2, 3] [6, 7, 8, 9, 10, 11, 12, 13, 14]), ?_⟩
 refine ago 8 hF rfl ?_
 refine wst hF hS 0 0 5 [si x28.1.Pool, si x28.1.Nodes, (4, (encs fBool x28.1.Members)), (8, cs29), (21, (encs (fInt .i64) x28.1.Modes))] (sgV rfl (sgV rfl (sgEnc (hS.get 0 rfl) (sgArr (hS.get 1 rfl) (sgEnc (hS.get 2 rfl) sgNil))))) fun a w hF hS => ?_
 refine ⟨notE, ?_⟩
 refine ago 9 hF rfl ?_
 refine wo_pure (v := .int .i64 (x28.2)) hF (by kernel_rfl) (by kernel_rfl) fun a hF => ?_
 refine ⟨notE, ?_⟩
 refine and_ ?_
 cases hv25
 exact ⟨_, b30, cs29, hF.kp [2, 3, 5, 6, 7, 8], hS.sp [1, 2, 3, 0] [9, 10, 11, 12, 13, 14, 0, 1, 2], trivial⟩
 refine wst hF hS 0 0 5 [si x28.1.Pool, si x28.1.Nodes, (4, (encs fBool x28.1.Members)), (8, cs29), (21, (encs (fInt .i64) x28.1.Modes))] (sgV rfl (sgV rfl (sgEnc (hS.get 0 rfl) (sgArr (hS.get 1 rfl) (sgEnc (hS.get 2 rfl) sgNil))))) fun a w hF hS => ?_
 refine ⟨notE, ?_⟩
 refine ago 6 hF rfl ?_
 refine wo_pure (v := .int .i64 (x28.2)) hF (by kernel_rfl) (by kernel_rfl) fun a hF => ?_
 refine ⟨notE, ?_⟩
 refine ago 9 hF rfl ?_
 refine wo_pure (v := .int .i64 (x28.2)) hF (by kernel_rfl) (by kernel_rfl) fun a hF => ?_
 refine ⟨notE, ?_⟩
 refine and_ ?_
 cases hv25
 exact ⟨_, b30, cs29, hF.kp [2, 3, 5, 6, 7, 8], hS.sp [1, 2, 3, 0] [9, 10, 11, 12, 13, 14, 0, 1, 2], trivial⟩
 rintro a w ⟨κ, b17, cs22, hF, hS, -⟩
 refine hK16 _ _ ?_
 refine wpIn_seq_k fun K31 hK31 => ?_
 refine bind_split H (fun v40 hv40 H => ?_)
 refine code_join (fun a w => ∃ κ : Gh, ∃ b32 : Nat, ∃ cs37 : List Value, Fr (70) [] [(2, pt b5 0), (3, pt b6 0), (5, pt b15 0), (6, .int .i64 (x13.2)), (7, pt b17 0), (8, .int .i64 (v25.2.2.2.2.2)), (9, pt b32 0), (10, .int .i64 (v40.2.2.2.2.2))] a ∧ SS [] κ0 w0 κ w [.box b15 30 [si x13.1.Pool, si x13.1.Nodes, (4, (encs fBool x13.1.Members)), (8, cs14), (21, (encs (fInt .i64) x13.1.Modes))], .box b6 72 [si a3.Kind, si a3.DC, si a3.Shard, si a3.Node, si a3.Mode, sg a3.Key], .box b5 30 [si a1.Pool, si a1.Nodes, (4, (encs fBool a1.Members)), (8, cs2), (21, (encs (fInt .i64) a1.Modes))], .box b17 34 [si v25.1, si v25.2.1, (4, (encs fBool v25.2.2.1)), (8, cs22), (21, (encs (fInt .i64) v25.2.2.2.2.1))], .box b32 30 [si v40.1, si v40.2.1, (4, (encs fBool v40.2.2.1)), (8, cs37), (21, (encs (fInt .i64) v40.2.2.2.2.1))]] [MP.const (List.length x13.1.Members = 4), Arr.mp t_api_Map cs14 4 x13.1.Maps, MP.const (List.length x13.1.Modes = 21), MP.const (List.length a1.Members = 4), Arr.mp t_api_Map cs2 4 a1.Maps, MP.const (List.length a1.Modes = 21), MP.const (List.length v25.2.2.1 = 4), Arr.mp t_api_Map cs22 4 v25.2.2.2.1, MP.const (List.length v25.2.2.2.2.1 = 21), MP.const (List.length v40.2.2.1 = 4), Arr.mp t_api_Map cs37 4 v40.2.2.2.1, MP.const (List.length v40.2.2.2.2.1 = 21)] ∧ True) ?_ ?_
 refine rga (SSx [] κ0 w0 [.box b15 30 [si x13.1.Pool, si x13.1.Nodes, (4, (encs fBool x13.1.Members)), (8, cs14), (21, (encs (fInt .i64) x13.1.Modes))], .box b6 72 [si a3.Kind, si a3.DC, si a3.Shard, si a3.Node, si a3.Mode, sg a3.Key], .box b5 30 [si a1.Pool, si a1.Nodes, (4, (encs fBool a1.Members)), (8, cs2), (21, (encs (fInt .i64) a1.Modes))], .box b17 34 [si v25.1, si v25.2.1, (4, (encs fBool v25.2.2.1)), (8, cs22), (21, (encs (fInt .i64) v25.2.2.2.2.1))]] [MP.const (List.length x13.1.Members = 4), Arr.mp t_api_Map cs14 4 x13.1.Maps, MP.const (List.length x13.1.Modes = 21), MP.const (List.length a1.Members = 4), Arr.mp t_api_Map cs2 4 a1.Maps, MP.const (List.length a1.Modes = 21), MP.const (List.length v25.2.2.1 = 4), Arr.mp t_api_Map cs22 4 v25.2.2.2.1, MP.const (List.length v25.2.2.2.2.1 = 21)]) [8] ?_
 have hS := hS.drew
 refine bind_split hv40 (fun x41 hx41 hv40 => ?_)
 refine bind_split hv40 (fun x42 hx42 hv40 => ?_)
 refine atk 0 (some 28) hF (hS.sx [0, 1, 2, 3] [0, 1, 2, 3, 4, 5, 6, 7, 8]) rfl (vls 2 0 5) fun a hF => ?_
 refine atk 1 (some 29) hF (hS.sx [0, 1, 2, 3] [0, 1, 2, 3, 4, 5, 6, 7, 8]) rfl (vls 1 0 6) fun a hF => ?_
 refine ago2 2 7 hF rfl rfl ?_ ?_
 refine wo_callP hF hS (by kernel_rfl) (by kernel_rfl) (C_config_Plain N hS.fresh (T_api_Cmd.mk a3.Kind a3.DC a3.Shard a3.Node a3.Mode a3.Key)  ((hS.pick [] (by kernel_rfl)).ro) hx41) ?_
 rintro _ κ w a ⟨rfl, hR, hN⟩ hF hS hO
 refine ⟨fun _ => (hS.sx [0, 1, 2, 3] [0, 1, 2, 3, 4, 5, 6, 7, 8]), ?_⟩
 refine ago2 3 7 hF rfl rfl ?_ ?_
 refine wo_callP hF hS (by kernel_rfl) (by kernel_rfl) (C_config_Apply N hS.fresh (T_config_State.mk a1.Pool a1.Nodes a1.Members a1.Maps a1.Modes) (T_api_Cmd.mk x41.Kind x41.DC x41.Shard x41.Node x41.Mode x41.Key) cs2 ((hS.pick [3, 4, 5] (by kernel_rfl)).ro) hx42) ?_
 rintro _ κ w a ⟨cs43, rfl, hR, hN⟩ hF hS hO
 have hS := hS.adds hR
 refine ⟨fun _ => (hS.sx [0, 1, 2, 3] [3, 4, 5, 6, 7, 8, 9, 10, 11]), ?_⟩
 refine anp [4, 5] [2, 3, 5, 6, 7, 8, 27, 32] hF (hS.sx [0, 1, 2, 3] [3, 4, 5, 6, 7, 8, 9, 10, 11]) fun a hF => ?_
 refine ago2 6 7 hF rfl rfl ?_ ?_
 refine wo_pure (v := .int .i64 (x42.2)) hF (by kernel_rfl) (by kernel_rfl) fun a hF => ?_
 refine ⟨fun _ => (hS.sx [0, 1, 2, 3] [3, 4, 5, 6, 7, 8, 9, 10, 11]), ?_⟩
 refine ago 7 hF rfl ?_
 have hS := hS.add (m := MP.const (List.length (List.replicate 4 false) = 4)) (List.length_replicate)
 have hS := hS.add (m := Arr.mp t_api_Map ((List.replicate 4 (flat [(1, [.slice none 0 0]), (1, [.slice none 0 0])])).flatten) 4 (List.replicate 4 (T_api_Map.mk ([] : List ByteArray) ([] : List Int)))) (Arr.zero _ _ _ _ _ z_api_Map)
 have hS := hS.add (m := MP.const (List.length (List.replicate 21 0) = 21)) (List.length_replicate)
 refine wal hF hS [si 0, si 0, (4, (encs fBool (List.replicate 4 false))), (8, (List.replicate 4 (flat [(1, [.slice none 0 0]), (1, [.slice none 0 0])])).flatten), (21, (encs (fInt .i64) (List.replicate 21 0)))] (sgV rfl (sgV rfl (sgEnc List.length_replicate (sgArr (hS.get 1 rfl) (sgEnc List.length_replicate sgNil))))) fun b44 a w hF hS => ?_
 refine ⟨fun _ => (hS.sx [1, 2, 3, 4] [6, 7, 8, 9, 10, 11, 12, 13, 14]), ?_⟩
 refine ago 8 hF rfl ?_
 refine wst hF hS 0 0 5 [si x42.1.Pool, si x42.1.Nodes, (4, (encs fBool x42.1.Members)), (8, cs43), (21, (encs (fInt .i64) x42.1.Modes))] (sgV rfl (sgV rfl (sgEnc (hS.get 3 rfl) (sgArr (hS.get 4 rfl) (sgEnc (hS.get 5 rfl) sgNil))))) fun a w hF hS => ?_
 refine ⟨notE, ?_⟩
 refine ago 9 hF rfl ?_
 refine wo_pure (v := .int .i64 (x42.2)) hF (by kernel_rfl) (by kernel_rfl) fun a hF => ?_
 refine ⟨notE, ?_⟩
 refine and_ ?_
 cases hv40
 exact ⟨_, b44, cs43, hF.kp [2, 3, 5, 6, 7, 8, 9, 10], hS.sp [1, 2, 3, 4, 0] [6, 7, 8, 9, 10, 11, 12, 13, 14, 3, 4, 5], trivial⟩
 have hS := hS.add (m := MP.const (List.length (List.replicate 4 false) = 4)) (List.length_replicate)
 have hS := hS.add (m := Arr.mp t_api_Map ((List.replicate 4 (flat [(1, [.slice none 0 0]), (1, [.slice none 0 0])])).flatten) 4 (List.replicate 4 (T_api_Map.mk ([] : List ByteArray) ([] : List Int)))) (Arr.zero _ _ _ _ _ z_api_Map)
 have hS := hS.add (m := MP.const (List.length (List.replicate 21 0) = 21)) (List.length_replicate)
 refine wal hF hS [si 0, si 0, (4, (encs fBool (List.replicate 4 false))), (8, (List.replicate 4 (flat [(1, [.slice none 0 0]), (1, [.slice none 0 0])])).flatten), (21, (encs (fInt .i64) (List.replicate 21 0)))] (sgV rfl (sgV rfl (sgEnc List.length_replicate (sgArr (hS.get 1 rfl) (sgEnc List.length_replicate sgNil))))) fun b44 a w hF hS => ?_
 refine ⟨fun _ => (hS.sx [1, 2, 3, 4] [6, 7, 8, 9, 10, 11, 12, 13, 14]), ?_⟩
 refine ago2 6 8 hF rfl rfl ?_ ?_
 refine wo_pure (v := .int .i64 (x42.2)) hF (by kernel_rfl) (by kernel_rfl) fun a hF => ?_
 refine ⟨fun _ => (hS.sx [1, 2, 3, 4] [6, 7, 8, 9, 10, 11, 12, 13, 14]), ?_⟩
 refine ago 8 hF rfl ?_
 refine wst hF hS 0 0 5 [si x42.1.Pool, si x42.1.Nodes, (4, (encs fBool x42.1.Members)), (8, cs43), (21, (encs (fInt .i64) x42.1.Modes))] (sgV rfl (sgV rfl (sgEnc (hS.get 3 rfl) (sgArr (hS.get 4 rfl) (sgEnc (hS.get 5 rfl) sgNil))))) fun a w hF hS => ?_
 refine ⟨notE, ?_⟩
 refine ago 9 hF rfl ?_
 refine wo_pure (v := .int .i64 (x42.2)) hF (by kernel_rfl) (by kernel_rfl) fun a hF => ?_
 refine ⟨notE, ?_⟩
 refine and_ ?_
 cases hv40
 exact ⟨_, b44, cs43, hF.kp [2, 3, 5, 6, 7, 8, 9, 10], hS.sp [1, 2, 3, 4, 0] [6, 7, 8, 9, 10, 11, 12, 13, 14, 3, 4, 5], trivial⟩
 refine wst hF hS 0 0 5 [si x42.1.Pool, si x42.1.Nodes, (4, (encs fBool x42.1.Members)), (8, cs43), (21, (encs (fInt .i64) x42.1.Modes))] (sgV rfl (sgV rfl (sgEnc (hS.get 3 rfl) (sgArr (hS.get 4 rfl) (sgEnc (hS.get 5 rfl) sgNil))))) fun a w hF hS => ?_
 refine ⟨notE, ?_⟩
 refine ago 6 hF rfl ?_
 refine wo_pure (v := .int .i64 (x42.2)) hF (by kernel_rfl) (by kernel_rfl) fun a hF => ?_
 refine ⟨notE, ?_⟩
 refine ago 9 hF rfl ?_
 refine wo_pure (v := .int .i64 (x42.2)) hF (by kernel_rfl) (by kernel_rfl) fun a hF => ?_
 refine ⟨notE, ?_⟩
 refine and_ ?_
 cases hv40
 exact ⟨_, b44, cs43, hF.kp [2, 3, 5, 6, 7, 8, 9, 10], hS.sp [1, 2, 3, 4, 0] [6, 7, 8, 9, 10, 11, 12, 13, 14, 3, 4, 5], trivial⟩
 have hS := hS.add (m := MP.const (List.length (List.replicate 4 false) = 4)) (List.length_replicate)
 have hS := hS.add (m := Arr.mp t_api_Map ((List.replicate 4 (flat [(1, [.slice none 0 0]), (1, [.slice none 0 0])])).flatten) 4 (List.replicate 4 (T_api_Map.mk ([] : List ByteArray) ([] : List Int)))) (Arr.zero _ _ _ _ _ z_api_Map)
 have hS := hS.add (m := MP.const (List.length (List.replicate 21 0) = 21)) (List.length_replicate)
 refine wal hF hS [si 0, si 0, (4, (encs fBool (List.replicate 4 false))), (8, (List.replicate 4 (flat [(1, [.slice none 0 0]), (1, [.slice none 0 0])])).flatten), (21, (encs (fInt .i64) (List.replicate 21 0)))] (sgV rfl (sgV rfl (sgEnc List.length_replicate (sgArr (hS.get 1 rfl) (sgEnc List.length_replicate sgNil))))) fun b44 a w hF hS => ?_
 refine ⟨fun _ => (hS.sx [1, 2, 3, 4] [3, 4, 5, 6, 7, 8, 9, 10, 11]), ?_⟩
 refine ago 3 hF rfl ?_
 refine wo_callP hF hS (by kernel_rfl) (by kernel_rfl) (C_config_Apply N hS.fresh (T_config_State.mk a1.Pool a1.Nodes a1.Members a1.Maps a1.Modes) (T_api_Cmd.mk x41.Kind x41.DC x41.Shard x41.Node x41.Mode x41.Key) cs2 ((hS.pick [6, 7, 8] (by kernel_rfl)).ro) hx42) ?_
 rintro _ κ w a ⟨cs43, rfl, hR, hN⟩ hF hS hO
 have hS := hS.adds hR
 refine ⟨fun _ => (hS.sx [1, 2, 3, 4] [6, 7, 8, 9, 10, 11, 12, 13, 14]), ?_⟩
 refine anp [4, 5] [2, 3, 5, 6, 7, 8, 9, 27, 32] hF (hS.sx [1, 2, 3, 4] [6, 7, 8, 9, 10, 11, 12, 13, 14]) fun a hF => ?_
 refine ago2 6 8 hF rfl rfl ?_ ?_
 refine wo_pure (v := .int .i64 (x42.2)) hF (by kernel_rfl) (by kernel_rfl) fun a hF => ?_
 refine ⟨fun _ => (hS.sx [1, 2, 3, 4] [6, 7, 8, 9, 10, 11, 12, 13, 14]), ?_⟩
 refine ago 8 hF rfl ?_
 refine wst hF hS 0 0 5 [si x42.1.Pool, si x42.1.Nodes, (4, (encs fBool x42.1.Members)), (8, cs43), (21, (encs (fInt .i64) x42.1.Modes))] (sgV rfl (sgV rfl (sgEnc (hS.get 0 rfl) (sgArr (hS.get 1 rfl) (sgEnc (hS.get 2 rfl) sgNil))))) fun a w hF hS => ?_
 refine ⟨notE, ?_⟩
 refine ago 9 hF rfl ?_
 refine wo_pure (v := .int .i64 (x42.2)) hF (by kernel_rfl) (by kernel_rfl) fun a hF => ?_
 refine ⟨notE, ?_⟩
 refine and_ ?_
 cases hv40
 exact ⟨_, b44, cs43, hF.kp [2, 3, 5, 6, 7, 8, 9, 10], hS.sp [1, 2, 3, 4, 0] [6, 7, 8, 9, 10, 11, 12, 13, 14, 0, 1, 2], trivial⟩
 refine wst hF hS 0 0 5 [si x42.1.Pool, si x42.1.Nodes, (4, (encs fBool x42.1.Members)), (8, cs43), (21, (encs (fInt .i64) x42.1.Modes))] (sgV rfl (sgV rfl (sgEnc (hS.get 0 rfl) (sgArr (hS.get 1 rfl) (sgEnc (hS.get 2 rfl) sgNil))))) fun a w hF hS => ?_
 refine ⟨notE, ?_⟩
 refine ago 6 hF rfl ?_
 refine wo_pure (v := .int .i64 (x42.2)) hF (by kernel_rfl) (by kernel_rfl) fun a hF => ?_
 refine ⟨notE, ?_⟩
 refine ago 9 hF rfl ?_
 refine wo_pure (v := .int .i64 (x42.2)) hF (by kernel_rfl) (by kernel_rfl) fun a hF => ?_
 refine ⟨notE, ?_⟩
 refine and_ ?_
 cases hv40
 exact ⟨_, b44, cs43, hF.kp [2, 3, 5, 6, 7, 8, 9, 10], hS.sp [1, 2, 3, 4, 0] [6, 7, 8, 9, 10, 11, 12, 13, 14, 0, 1, 2], trivial⟩
 have hS := hS.add (m := MP.const (List.length (List.replicate 4 false) = 4)) (List.length_replicate)
 have hS := hS.add (m := Arr.mp t_api_Map ((List.replicate 4 (flat [(1, [.slice none 0 0]), (1, [.slice none 0 0])])).flatten) 4 (List.replicate 4 (T_api_Map.mk ([] : List ByteArray) ([] : List Int)))) (Arr.zero _ _ _ _ _ z_api_Map)
 have hS := hS.add (m := MP.const (List.length (List.replicate 21 0) = 21)) (List.length_replicate)
 refine wal hF hS [si 0, si 0, (4, (encs fBool (List.replicate 4 false))), (8, (List.replicate 4 (flat [(1, [.slice none 0 0]), (1, [.slice none 0 0])])).flatten), (21, (encs (fInt .i64) (List.replicate 21 0)))] (sgV rfl (sgV rfl (sgEnc List.length_replicate (sgArr (hS.get 1 rfl) (sgEnc List.length_replicate sgNil))))) fun b44 a w hF hS => ?_
 refine ⟨fun _ => (hS.sx [1, 2, 3, 4] [3, 4, 5, 6, 7, 8, 9, 10, 11]), ?_⟩
 refine ago 2 hF rfl ?_
 refine wo_callP hF hS (by kernel_rfl) (by kernel_rfl) (C_config_Plain N hS.fresh (T_api_Cmd.mk a3.Kind a3.DC a3.Shard a3.Node a3.Mode a3.Key)  ((hS.pick [] (by kernel_rfl)).ro) hx41) ?_
 rintro _ κ w a ⟨rfl, hR, hN⟩ hF hS hO
 refine ⟨fun _ => (hS.sx [1, 2, 3, 4] [3, 4, 5, 6, 7, 8, 9, 10, 11]), ?_⟩
 refine ago 3 hF rfl ?_
 refine wo_callP hF hS (by kernel_rfl) (by kernel_rfl) (C_config_Apply N hS.fresh (T_config_State.mk a1.Pool a1.Nodes a1.Members a1.Maps a1.Modes) (T_api_Cmd.mk x41.Kind x41.DC x41.Shard x41.Node x41.Mode x41.Key) cs2 ((hS.pick [6, 7, 8] (by kernel_rfl)).ro) hx42) ?_
 rintro _ κ w a ⟨cs43, rfl, hR, hN⟩ hF hS hO
 have hS := hS.adds hR
 refine ⟨fun _ => (hS.sx [1, 2, 3, 4] [6, 7, 8, 9, 10, 11, 12, 13, 14]), ?_⟩
 refine anp [4, 5] [2, 3, 5, 6, 7, 8, 9, 27, 32] hF (hS.sx [1, 2, 3, 4] [6, 7, 8, 9, 10, 11, 12, 13, 14]) fun a hF => ?_
 refine ago2 6 8 hF rfl rfl ?_ ?_
 refine wo_pure (v := .int .i64 (x42.2)) hF (by kernel_rfl) (by kernel_rfl) fun a hF => ?_
 refine ⟨fun _ => (hS.sx [1, 2, 3, 4] [6, 7, 8, 9, 10, 11, 12, 13, 14]), ?_⟩
 refine ago 8 hF rfl ?_
 refine wst hF hS 0 0 5 [si x42.1.Pool, si x42.1.Nodes, (4, (encs fBool x42.1.Members)), (8, cs43), (21, (encs (fInt .i64) x42.1.Modes))] (sgV rfl (sgV rfl (sgEnc (hS.get 0 rfl) (sgArr (hS.get 1 rfl) (sgEnc (hS.get 2 rfl) sgNil))))) fun a w hF hS => ?_
 refine ⟨notE, ?_⟩
 refine ago 9 hF rfl ?_
 refine wo_pure (v := .int .i64 (x42.2)) hF (by kernel_rfl) (by kernel_rfl) fun a hF => ?_
 refine ⟨notE, ?_⟩
 refine and_ ?_
 cases hv40
 exact ⟨_, b44, cs43, hF.kp [2, 3, 5, 6, 7, 8, 9, 10], hS.sp [1, 2, 3, 4, 0] [6, 7, 8, 9, 10, 11, 12, 13, 14, 0, 1, 2], trivial⟩
 refine wst hF hS 0 0 5 [si x42.1.Pool, si x42.1.Nodes, (4, (encs fBool x42.1.Members)), (8, cs43), (21, (encs (fInt .i64) x42.1.Modes))] (sgV rfl (sgV rfl (sgEnc (hS.get 0 rfl) (sgArr (hS.get 1 rfl) (sgEnc (hS.get 2 rfl) sgNil))))) fun a w hF hS => ?_
 refine ⟨notE, ?_⟩
 refine ago 6 hF rfl ?_
 refine wo_pure (v := .int .i64 (x42.2)) hF (by kernel_rfl) (by kernel_rfl) fun a hF => ?_
 refine ⟨notE, ?_⟩
 refine ago 9 hF rfl ?_
 refine wo_pure (v := .int .i64 (x42.2)) hF (by kernel_rfl) (by kernel_rfl) fun a hF => ?_
 refine ⟨notE, ?_⟩
 refine and_ ?_
 cases hv40
 exact ⟨_, b44, cs43, hF.kp [2, 3, 5, 6, 7, 8, 9, 10], hS.sp [1, 2, 3, 4, 0] [6, 7, 8, 9, 10, 11, 12, 13, 14, 0, 1, 2], trivial⟩
 rintro a w ⟨κ, b32, cs37, hF, hS, -⟩
 refine hK31 _ _ ?_
 refine wpIn_seq_k fun K45 hK45 => ?_
 refine bind_split H (fun v47 hv47 H => ?_)
 refine code_join (fun a w => ∃ κ : Gh, Fr (70) [] [(4, .bool (v47))] a ∧ SS [] κ0 w0 κ w [] [] ∧ True) ?_ ?_
 refine rga (SSx [] κ0 w0 [.box b15 30 [si x13.1.Pool, si x13.1.Nodes, (4, (encs fBool x13.1.Members)), (8, cs14), (21, (encs (fInt .i64) x13.1.Modes))], .box b6 72 [si a3.Kind, si a3.DC, si a3.Shard, si a3.Node, si a3.Mode, sg a3.Key], .box b5 30 [si a1.Pool, si a1.Nodes, (4, (encs fBool a1.Members)), (8, cs2), (21, (encs (fInt .i64) a1.Modes))], .box b17 34 [si v25.1, si v25.2.1, (4, (encs fBool v25.2.2.1)), (8, cs22), (21, (encs (fInt .i64) v25.2.2.2.2.1))], .box b32 30 [si v40.1, si v40.2.1, (4, (encs fBool v40.2.2.1)), (8, cs37), (21, (encs (fInt .i64) v40.2.2.2.2.1))]] [MP.const (List.length x13.1.Members = 4), Arr.mp t_api_Map cs14 4 x13.1.Maps, MP.const (List.length x13.1.Modes = 21), MP.const (List.length a1.Members = 4), Arr.mp t_api_Map cs2 4 a1.Maps, MP.const (List.length a1.Modes = 21), MP.const (List.length v25.2.2.1 = 4), Arr.mp t_api_Map cs22 4 v25.2.2.2.1, MP.const (List.length v25.2.2.2.2.1 = 21), MP.const (List.length v40.2.2.1 = 4), Arr.mp t_api_Map cs37 4 v40.2.2.2.1, MP.const (List.length v40.2.2.2.2.1 = 21)]) [] ?_
 have hS := hS.drew
 refine bind_split hv47 (fun x48 hx48 hv47 => ?_)
 refine bif_split hv47 (fun hb49 hv47 => ?_) (fun hb49 hv47 => ?_)
 refine bif_split hv47 (fun hb50 hv47 => ?_) (fun hb50 hv47 => ?_)
 refine bif_split hv47 (fun hb51 hv47 => ?_) (fun hb51 hv47 => ?_)
 refine bind_split hv47 (fun x52 hx52 hv47 => ?_)
 refine bif_split hv47 (fun hb53 hv47 => ?_) (fun hb53 hv47 => ?_)
 refine bind_split hv47 (fun x54 hx54 hv47 => ?_)
 refine bif_split hv47 (fun hb55 hv47 => ?_) (fun hb55 hv47 => ?_)
 refine bind_split hv47 (fun x56 hx56 hv47 => ?_)
 refine bind_split hv47 (fun x57 hx57 hv47 => ?_)
 refine bif_split hv47 (fun hb58 hv47 => ?_) (fun hb58 hv47 => ?_)
 refine bind_split hv47 (fun x59 hx59 hv47 => ?_)
 refine bind_split hv47 (fun x60 hx60 hv47 => ?_)
 refine bind_split hv47 (fun x62 hx62 hv47 => ?_)
 refine ago 0 hF rfl ?_
 refine wo_callP hF hS (by kernel_rfl) (by kernel_rfl) (C_law18_awake N hS.fresh   ((hS.pick [] (by kernel_rfl)).ro) hx48) ?_
 rintro _ κ w a ⟨rfl, hR, hN⟩ hF hS hO
 refine ⟨fun _ => (hS.sx [0, 1, 2, 3, 4] [0, 1, 2, 3, 4, 5, 6, 7, 8, 9, 10, 11]), ?_⟩
 refine anp [1] [2, 3, 5, 6, 7, 8, 9, 10, 35] hF (hS.sx [0, 1, 2, 3, 4] [0, 1, 2, 3, 4, 5, 6, 7, 8, 9, 10, 11]) fun a hF => ?_
 have hF := hF.boolv 35 (by kernel_rfl) hb49
 refine anp [2, 3, 4, 5, 6] [2, 3, 5, 6, 7, 9, 10, 40] hF (hS.sx [0, 1, 2, 3, 4] [0, 1, 2, 3, 4, 5, 6, 7, 8, 9, 10, 11]) fun a hF => ?_
 have hF := hF.boolv 40 (by kernel_rfl) hb50
 refine anp [7, 8, 9, 10, 11] [2, 3, 5, 7, 9, 45] hF (hS.sx [0, 1, 2, 3, 4] [0, 1, 2, 3, 4, 5, 6, 7, 8, 9, 10, 11]) fun a hF => ?_
 have hF := hF.boolv 45 (by kernel_rfl) hb51
 refine atk 12 (some 46) hF (hS.sx [0, 1, 2, 3, 4] [0, 1, 2, 3, 4, 5, 6, 7, 8, 9, 10, 11]) rfl (vls 0 0 5) fun a hF => ?_
 refine atk 13 (some 47) hF (hS.sx [0, 1, 2, 3, 4] [0, 1, 2, 3, 4, 5, 6, 7, 8, 9, 10, 11]) rfl (vls 3 0 5) fun a hF => ?_
 refine ago 14 hF rfl ?_
 refine wo_callP hF hS (by kernel_rfl) (by kernel_rfl) (C_law18_Same N hS.fresh (T_config_State.mk x13.1.Pool x13.1.Nodes x13.1.Members x13.1.Maps x13.1.Modes) (T_ref18_State.mk v25.1 v25.2.1 v25.2.2.1 v25.2.2.2.1 v25.2.2.2.2.1) cs14 cs22 ((hS.pick [0, 1, 2, 6, 7, 8] (by kernel_rfl)).ro) hx52) ?_
 rintro _ κ w a ⟨rfl, hR, hN⟩ hF hS hO
 refine ⟨fun _ => (hS.sx [0, 1, 2, 3, 4] [0, 1, 2, 3, 4, 5, 6, 7, 8, 9, 10, 11]), ?_⟩
 refine anp [15, 16] [2, 3, 7, 9, 50] hF (hS.sx [0, 1, 2, 3, 4] [0, 1, 2, 3, 4, 5, 6, 7, 8, 9, 10, 11]) fun a hF => ?_
 have hF := hF.boolv 50 (by kernel_rfl) hb53
 refine atk 17 (some 51) hF (hS.sx [0, 1, 2, 3, 4] [0, 1, 2, 3, 4, 5, 6, 7, 8, 9, 10, 11]) rfl (vls 4 0 5) fun a hF => ?_
 refine atk 18 (some 52) hF (hS.sx [0, 1, 2, 3, 4] [0, 1, 2, 3, 4, 5, 6, 7, 8, 9, 10, 11]) rfl (vls 3 0 5) fun a hF => ?_
 refine ago 19 hF rfl ?_
 refine wo_callP hF hS (by kernel_rfl) (by kernel_rfl) (C_law18_Same N hS.fresh (T_config_State.mk v40.1 v40.2.1 v40.2.2.1 v40.2.2.2.1 v40.2.2.2.2.1) (T_ref18_State.mk v25.1 v25.2.1 v25.2.2.1 v25.2.2.2.1 v25.2.2.2.2.1) cs37 cs22 ((hS.pick [9, 10, 11, 6, 7, 8] (by kernel_rfl)).ro) hx54) ?_
 rintro _ κ w a ⟨rfl, hR, hN⟩ hF hS hO
 refine ⟨fun _ => (hS.sx [0, 1, 2, 3, 4] [0, 1, 2, 3, 4, 5, 6, 7, 8, 9, 10, 11]), ?_⟩
 refine anp [20, 21] [2, 3, 55] hF (hS.sx [0, 1, 2, 3, 4] [0, 1, 2, 3, 4, 5, 6, 7, 8, 9, 10, 11]) fun a hF => ?_
 have hF := hF.boolv 55 (by kernel_rfl) hb55
 refine atk 22 (some 56) hF (hS.sx [0, 1, 2, 3, 4] [0, 1, 2, 3, 4, 5, 6, 7, 8, 9, 10, 11]) rfl (vls 1 0 6) fun a hF => ?_
 refine atk 24 (some 58) hF (hS.sx [0, 1, 2, 3, 4] [0, 1, 2, 3, 4, 5, 6, 7, 8, 9, 10, 11]) rfl (vls 1 0 6) fun a hF => ?_
 refine ago 23 hF rfl ?_
 refine wo_callP hF hS (by kernel_rfl) (by kernel_rfl) (C_config_Plain N hS.fresh (T_api_Cmd.mk a3.Kind a3.DC a3.Shard a3.Node a3.Mode a3.Key)  ((hS.pick [] (by kernel_rfl)).ro) hx56) ?_
 rintro _ κ w a ⟨rfl, hR, hN⟩ hF hS hO
 refine ⟨fun _ => (hS.sx [0, 1, 2, 3, 4] [0, 1, 2, 3, 4, 5, 6, 7, 8, 9, 10, 11]), ?_⟩
 refine ago 25 hF rfl ?_
 refine wo_callP hF hS (by kernel_rfl) (by kernel_rfl) (C_ref18_Plain N hS.fresh (T_api_Cmd.mk a3.Kind a3.DC a3.Shard a3.Node a3.Mode a3.Key)  ((hS.pick [] (by kernel_rfl)).ro) hx57) ?_
 rintro _ κ w a ⟨rfl, hR, hN⟩ hF hS hO
 refine ⟨fun _ => (hS.sx [0, 1, 2, 3, 4] [0, 1, 2, 3, 4, 5, 6, 7, 8, 9, 10, 11]), ?_⟩
 refine atk 26 (some 60) hF (hS.sx [0, 1, 2, 3, 4] [0, 1, 2, 3, 4, 5, 6, 7, 8, 9, 10, 11]) rfl (fun w _ => (val_eq (neg := false) (xs := (flat [si x56.Kind, si x56.DC, si x56.Shard, si x56.Node, si x56.Mode, sg x56.Key])) (ys := (flat [si x57.Kind, si x57.DC, si x57.Shard, si x57.Node, si x57.Mode, sg x57.Key])) (ks := [.int .i64, .int .i64, .int .i64, .int .i64, .int .i64, .str]) 20 (by decide) rfl (by kernel_rfl) (by kernel_rfl) (by kernel_rfl) (by kernel_rfl) (by kernel_rfl) (by kernel_rfl) (by kernel_rfl)) w) fun a hF => ?_
 refine anp [27, 28] [2, 62] hF (hS.sx [0, 1, 2, 3, 4] [0, 1, 2, 3, 4, 5, 6, 7, 8, 9, 10, 11]) fun a hF => ?_
 have hF := hF.boolv 62 (by kernel_rfl) hb58
 refine atk 29 (some 63) hF (hS.sx [0, 1, 2, 3, 4] [0, 1, 2, 3, 4, 5, 6, 7, 8, 9, 10, 11]) rfl (vls 2 0 5) fun a hF => ?_
 refine atk 31 (some 65) hF (hS.sx [0, 1, 2, 3, 4] [0, 1, 2, 3, 4, 5, 6, 7, 8, 9, 10, 11]) rfl (vls 2 0 5) fun a hF => ?_
 refine ago 30 hF rfl ?_
 refine wo_callP hF hS (by kernel_rfl) (by kernel_rfl) (C_config_Count N hS.fresh (T_config_State.mk a1.Pool a1.Nodes a1.Members a1.Maps a1.Modes) cs2 ((hS.pick [3, 4, 5] (by kernel_rfl)).ro) hx59) ?_
 rintro _ κ w a ⟨rfl, hR, hN⟩ hF hS hO
 refine ⟨fun _ => (hS.sx [0, 1, 2, 3, 4] [0, 1, 2, 3, 4, 5, 6, 7, 8, 9, 10, 11]), ?_⟩
 refine ago 32 hF rfl ?_
 refine wo_callP hF hS (by kernel_rfl) (by kernel_rfl) (C_law18_Told N hS.fresh (T_config_State.mk a1.Pool a1.Nodes a1.Members a1.Maps a1.Modes) cs2 ((hS.pick [3, 4, 5] (by kernel_rfl)).ro) hx60) ?_
 rintro _ κ w a ⟨cs61, rfl, hR, hN⟩ hF hS hO
 have hS := hS.adds hR
 refine ⟨fun _ => (hS.sx [0, 1, 2, 3, 4] [3, 4, 5, 6, 7, 8, 9, 10, 11, 12, 13, 14]), ?_⟩
 refine ago 33 hF rfl ?_
 refine wo_callP hF hS (by kernel_rfl) (by kernel_rfl) (C_ref18_Count N hS.fresh (T_ref18_State.mk x60.Pool x60.Nodes x60.Members x60.Maps x60.Modes) cs61 ((hS.pick [0, 1, 2] (by kernel_rfl)).ro) hx62) ?_
 rintro _ κ w a ⟨rfl, hR, hN⟩ hF hS hO
 refine ⟨fun _ => (hS.sx [0, 1, 2, 3, 4] [3, 4, 5, 6, 7, 8, 9, 10, 11, 12, 13, 14]), ?_⟩
 refine anp [34, 35, 36] [4] hF (hS.sx [0, 1, 2, 3, 4] [3, 4, 5, 6, 7, 8, 9, 10, 11, 12, 13, 14]) fun a hF => ?_
 refine and_ ?_
 cases hv47
 exact ⟨_, hF.kp [4], hS.sp [] [], trivial⟩
 refine ago 0 hF rfl ?_
 refine wo_callP hF hS (by kernel_rfl) (by kernel_rfl) (C_law18_awake N hS.fresh   ((hS.pick [] (by kernel_rfl)).ro) hx48) ?_
 rintro _ κ w a ⟨rfl, hR, hN⟩ hF hS hO
 refine ⟨fun _ => (hS.sx [0, 1, 2, 3, 4] [0, 1, 2, 3, 4, 5, 6, 7, 8, 9, 10, 11]), ?_⟩
 refine anp [1] [2, 3, 5, 6, 7, 8, 9, 10, 35] hF (hS.sx [0, 1, 2, 3, 4] [0, 1, 2, 3, 4, 5, 6, 7, 8, 9, 10, 11]) fun a hF => ?_
 have hF := hF.boolv 35 (by kernel_rfl) hb49
 refine anp [2, 3, 4, 5, 6] [2, 3, 5, 6, 7, 9, 10, 40] hF (hS.sx [0, 1, 2, 3, 4] [0, 1, 2, 3, 4, 5, 6, 7, 8, 9, 10, 11]) fun a hF => ?_
 have hF := hF.boolv 40 (by kernel_rfl) hb50
 refine anp [7, 8, 9, 10, 11] [2, 3, 5, 7, 9, 45] hF (hS.sx [0, 1, 2, 3, 4] [0, 1, 2, 3, 4, 5, 6, 7, 8, 9, 10, 11]) fun a hF => ?_
 have hF := hF.boolv 45 (by kernel_rfl) hb51
 refine atk 12 (some 46) hF (hS.sx [0, 1, 2, 3, 4] [0, 1, 2, 3, 4, 5, 6, 7, 8, 9, 10, 11]) rfl (vls 0 0 5) fun a hF => ?_
 refine atk 13 (some 47) hF (hS.sx [0, 1, 2, 3, 4] [0, 1, 2, 3, 4, 5, 6, 7, 8, 9, 10, 11]) rfl (vls 3 0 5) fun a hF => ?_
 refine ago 14 hF rfl ?_
 refine wo_callP hF hS (by kernel_rfl) (by kernel_rfl) (C_law18_Same N hS.fresh (T_config_State.mk x13.1.Pool x13.1.Nodes x13.1.Members x13.1.Maps x13.1.Modes) (T_ref18_State.mk v25.1 v25.2.1 v25.2.2.1 v25.2.2.2.1 v25.2.2.2.2.1) cs14 cs22 ((hS.pick [0, 1, 2, 6, 7, 8] (by kernel_rfl)).ro) hx52) ?_
 rintro _ κ w a ⟨rfl, hR, hN⟩ hF hS hO
 refine ⟨fun _ => (hS.sx [0, 1, 2, 3, 4] [0, 1, 2, 3, 4, 5, 6, 7, 8, 9, 10, 11]), ?_⟩
 refine anp [15, 16] [2, 3, 7, 9, 50] hF (hS.sx [0, 1, 2, 3, 4] [0, 1, 2, 3, 4, 5, 6, 7, 8, 9, 10, 11]) fun a hF => ?_
 have hF := hF.boolv 50 (by kernel_rfl) hb53
 refine atk 17 (some 51) hF (hS.sx [0, 1, 2, 3, 4] [0, 1, 2, 3, 4, 5, 6, 7, 8, 9, 10, 11]) rfl (vls 4 0 5) fun a hF => ?_
 refine atk 18 (some 52) hF (hS.sx [0, 1, 2, 3, 4] [0, 1, 2, 3, 4, 5, 6, 7, 8, 9, 10, 11]) rfl (vls 3 0 5) fun a hF => ?_
 refine ago 19 hF rfl ?_
 refine wo_callP hF hS (by kernel_rfl) (by kernel_rfl) (C_law18_Same N hS.fresh (T_config_State.mk v40.1 v40.2.1 v40.2.2.1 v40.2.2.2.1 v40.2.2.2.2.1) (T_ref18_State.mk v25.1 v25.2.1 v25.2.2.1 v25.2.2.2.1 v25.2.2.2.2.1) cs37 cs22 ((hS.pick [9, 10, 11, 6, 7, 8] (by kernel_rfl)).ro) hx54) ?_
 rintro _ κ w a ⟨rfl, hR, hN⟩ hF hS hO
 refine ⟨fun _ => (hS.sx [0, 1, 2, 3, 4] [0, 1, 2, 3, 4, 5, 6, 7, 8, 9, 10, 11]), ?_⟩
 refine anp [20, 21] [2, 3, 55] hF (hS.sx [0, 1, 2, 3, 4] [0, 1, 2, 3, 4, 5, 6, 7, 8, 9, 10, 11]) fun a hF => ?_
 have hF := hF.boolv 55 (by kernel_rfl) hb55
 refine atk 22 (some 56) hF (hS.sx [0, 1, 2, 3, 4] [0, 1, 2, 3, 4, 5, 6, 7, 8, 9, 10, 11]) rfl (vls 1 0 6) fun a hF => ?_
 refine atk 24 (some 58) hF (hS.sx [0, 1, 2, 3, 4] [0, 1, 2, 3, 4, 5, 6, 7, 8, 9, 10, 11]) rfl (vls 1 0 6) fun a hF => ?_
 refine ago 23 hF rfl ?_
 refine wo_callP hF hS (by kernel_rfl) (by kernel_rfl) (C_config_Plain N hS.fresh (T_api_Cmd.mk a3.Kind a3.DC a3.Shard a3.Node a3.Mode a3.Key)  ((hS.pick [] (by kernel_rfl)).ro) hx56) ?_
 rintro _ κ w a ⟨rfl, hR, hN⟩ hF hS hO
 refine ⟨fun _ => (hS.sx [0, 1, 2, 3, 4] [0, 1, 2, 3, 4, 5, 6, 7, 8, 9, 10, 11]), ?_⟩
 refine ago 25 hF rfl ?_
 refine wo_callP hF hS (by kernel_rfl) (by kernel_rfl) (C_ref18_Plain N hS.fresh (T_api_Cmd.mk a3.Kind a3.DC a3.Shard a3.Node a3.Mode a3.Key)  ((hS.pick [] (by kernel_rfl)).ro) hx57) ?_
 rintro _ κ w a ⟨rfl, hR, hN⟩ hF hS hO
 refine ⟨fun _ => (hS.sx [0, 1, 2, 3, 4] [0, 1, 2, 3, 4, 5, 6, 7, 8, 9, 10, 11]), ?_⟩
 refine atk 26 (some 60) hF (hS.sx [0, 1, 2, 3, 4] [0, 1, 2, 3, 4, 5, 6, 7, 8, 9, 10, 11]) rfl (fun w _ => (val_eq (neg := false) (xs := (flat [si x56.Kind, si x56.DC, si x56.Shard, si x56.Node, si x56.Mode, sg x56.Key])) (ys := (flat [si x57.Kind, si x57.DC, si x57.Shard, si x57.Node, si x57.Mode, sg x57.Key])) (ks := [.int .i64, .int .i64, .int .i64, .int .i64, .int .i64, .str]) 20 (by decide) rfl (by kernel_rfl) (by kernel_rfl) (by kernel_rfl) (by kernel_rfl) (by kernel_rfl) (by kernel_rfl) (by kernel_rfl)) w) fun a hF => ?_
 refine anp [27, 28] [2, 62] hF (hS.sx [0, 1, 2, 3, 4] [0, 1, 2, 3, 4, 5, 6, 7, 8, 9, 10, 11]) fun a hF => ?_
 have hF := hF.boolv 62 (by kernel_rfl) hb58
 refine anp [29, 30, 31, 32, 33, 34, 35, 36] [4] hF (hS.sx [0, 1, 2, 3, 4] [0, 1, 2, 3, 4, 5, 6, 7, 8, 9, 10, 11]) fun a hF => ?_
 refine and_ ?_
 cases hv47
 exact ⟨_, hF.kp [4], hS.sp [] [], trivial⟩
 refine ago 0 hF rfl ?_
 refine wo_callP hF hS (by kernel_rfl) (by kernel_rfl) (C_law18_awake N hS.fresh   ((hS.pick [] (by kernel_rfl)).ro) hx48) ?_
 rintro _ κ w a ⟨rfl, hR, hN⟩ hF hS hO
 refine ⟨fun _ => (hS.sx [0, 1, 2, 3, 4] [0, 1, 2, 3, 4, 5, 6, 7, 8, 9, 10, 11]), ?_⟩
 refine anp [1] [2, 3, 5, 6, 7, 8, 9, 10, 35] hF (hS.sx [0, 1, 2, 3, 4] [0, 1, 2, 3, 4, 5, 6, 7, 8, 9, 10, 11]) fun a hF => ?_
 have hF := hF.boolv 35 (by kernel_rfl) hb49
 refine anp [2, 3, 4, 5, 6] [2, 3, 5, 6, 7, 9, 10, 40] hF (hS.sx [0, 1, 2, 3, 4] [0, 1, 2, 3, 4, 5, 6, 7, 8, 9, 10, 11]) fun a hF => ?_
 have hF := hF.boolv 40 (by kernel_rfl) hb50
 refine anp [7, 8, 9, 10, 11] [2, 3, 5, 7, 9, 45] hF (hS.sx [0, 1, 2, 3, 4] [0, 1, 2, 3, 4, 5, 6, 7, 8, 9, 10, 11]) fun a hF => ?_
 have hF := hF.boolv 45 (by kernel_rfl) hb51
 refine atk 12 (some 46) hF (hS.sx [0, 1, 2, 3, 4] [0, 1, 2, 3, 4, 5, 6, 7, 8, 9, 10, 11]) rfl (vls 0 0 5) fun a hF => ?_
 refine atk 13 (some 47) hF (hS.sx [0, 1, 2, 3, 4] [0, 1, 2, 3, 4, 5, 6, 7, 8, 9, 10, 11]) rfl (vls 3 0 5) fun a hF => ?_
 refine ago 14 hF rfl ?_
 refine wo_callP hF hS (by kernel_rfl) (by kernel_rfl) (C_law18_Same N hS.fresh (T_config_State.mk x13.1.Pool x13.1.Nodes x13.1.Members x13.1.Maps x13.1.Modes) (T_ref18_State.mk v25.1 v25.2.1 v25.2.2.1 v25.2.2.2.1 v25.2.2.2.2.1) cs14 cs22 ((hS.pick [0, 1, 2, 6, 7, 8] (by kernel_rfl)).ro) hx52) ?_
 rintro _ κ w a ⟨rfl, hR, hN⟩ hF hS hO
 refine ⟨fun _ => (hS.sx [0, 1, 2, 3, 4] [0, 1, 2, 3, 4, 5, 6, 7, 8, 9, 10, 11]), ?_⟩
 refine anp [15, 16] [2, 3, 7, 9, 50] hF (hS.sx [0, 1, 2, 3, 4] [0, 1, 2, 3, 4, 5, 6, 7, 8, 9, 10, 11]) fun a hF => ?_
 have hF := hF.boolv 50 (by kernel_rfl) hb53
 refine atk 17 (some 51) hF (hS.sx [0, 1, 2, 3, 4] [0, 1, 2, 3, 4, 5, 6, 7, 8, 9, 10, 11]) rfl (vls 4 0 5) fun a hF => ?_
 refine atk 18 (some 52) hF (hS.sx [0, 1, 2, 3, 4] [0, 1, 2, 3, 4, 5, 6, 7, 8, 9, 10, 11]) rfl (vls 3 0 5) fun a hF => ?_
 refine ago 19 hF rfl ?_
 refine wo_callP hF hS (by kernel_rfl) (by kernel_rfl) (C_law18_Same N hS.fresh (T_config_State.mk v40.1 v40.2.1 v40.2.2.1 v40.2.2.2.1 v40.2.2.2.2.1) (T_ref18_State.mk v25.1 v25.2.1 v25.2.2.1 v25.2.2.2.1 v25.2.2.2.2.1) cs37 cs22 ((hS.pick [9, 10, 11, 6, 7, 8] (by kernel_rfl)).ro) hx54) ?_
 rintro _ κ w a ⟨rfl, hR, hN⟩ hF hS hO
 refine ⟨fun _ => (hS.sx [0, 1, 2, 3, 4] [0, 1, 2, 3, 4, 5, 6, 7, 8, 9, 10, 11]), ?_⟩
 refine anp [20, 21] [2, 3, 55] hF (hS.sx [0, 1, 2, 3, 4] [0, 1, 2, 3, 4, 5, 6, 7, 8, 9, 10, 11]) fun a hF => ?_
 have hF := hF.boolv 55 (by kernel_rfl) hb55
 refine anp [22, 23, 24, 25, 26, 27, 28, 29, 30, 31, 32, 33, 34, 35, 36] [4] hF (hS.sx [0, 1, 2, 3, 4] [0, 1, 2, 3, 4, 5, 6, 7, 8, 9, 10, 11]) fun a hF => ?_
 refine and_ ?_
 cases hv47
 exact ⟨_, hF.kp [4], hS.sp [] [], trivial⟩
 refine ago 0 hF rfl ?_
 refine wo_callP hF hS (by kernel_rfl) (by kernel_rfl) (C_law18_awake N hS.fresh   ((hS.pick [] (by kernel_rfl)).ro) hx48) ?_
 rintro _ κ w a ⟨rfl, hR, hN⟩ hF hS hO
 refine ⟨fun _ => (hS.sx [0, 1, 2, 3, 4] [0, 1, 2, 3, 4, 5, 6, 7, 8, 9, 10, 11]), ?_⟩
 refine anp [1] [2, 3, 5, 6, 7, 8, 9, 10, 35] hF (hS.sx [0, 1, 2, 3, 4] [0, 1, 2, 3, 4, 5, 6, 7, 8, 9, 10, 11]) fun a hF => ?_
 have hF := hF.boolv 35 (by kernel_rfl) hb49
 refine anp [2, 3, 4, 5, 6] [2, 3, 5, 6, 7, 9, 10, 40] hF (hS.sx [0, 1, 2, 3, 4] [0, 1, 2, 3, 4, 5, 6, 7, 8, 9, 10, 11]) fun a hF => ?_
 have hF := hF.boolv 40 (by kernel_rfl) hb50
 refine anp [7, 8, 9, 10, 11] [2, 3, 5, 7, 9, 45] hF (hS.sx [0, 1, 2, 3, 4] [0, 1, 2, 3, 4, 5, 6, 7, 8, 9, 10, 11]) fun a hF => ?_
 have hF := hF.boolv 45 (by kernel_rfl) hb51
 refine atk 12 (some 46) hF (hS.sx [0, 1, 2, 3, 4] [0, 1, 2, 3, 4, 5, 6, 7, 8, 9, 10, 11]) rfl (vls 0 0 5) fun a hF => ?_
 refine atk 13 (some 47) hF (hS.sx [0, 1, 2, 3, 4] [0, 1, 2, 3, 4, 5, 6, 7, 8, 9, 10, 11]) rfl (vls 3 0 5) fun a hF => ?_
 refine ago 14 hF rfl ?_
 refine wo_callP hF hS (by kernel_rfl) (by kernel_rfl) (C_law18_Same N hS.fresh (T_config_State.mk x13.1.Pool x13.1.Nodes x13.1.Members x13.1.Maps x13.1.Modes) (T_ref18_State.mk v25.1 v25.2.1 v25.2.2.1 v25.2.2.2.1 v25.2.2.2.2.1) cs14 cs22 ((hS.pick [0, 1, 2, 6, 7, 8] (by kernel_rfl)).ro) hx52) ?_
 rintro _ κ w a ⟨rfl, hR, hN⟩ hF hS hO
 refine ⟨fun _ => (hS.sx [0, 1, 2, 3, 4] [0, 1, 2, 3, 4, 5, 6, 7, 8, 9, 10, 11]), ?_⟩
 refine anp [15, 16] [2, 3, 7, 9, 50] hF (hS.sx [0, 1, 2, 3, 4] [0, 1, 2, 3, 4, 5, 6, 7, 8, 9, 10, 11]) fun a hF => ?_
 have hF := hF.boolv 50 (by kernel_rfl) hb53
 refine anp [17, 18, 19, 20, 21, 22, 23, 24, 25, 26, 27, 28, 29, 30, 31, 32, 33, 34, 35, 36] [4] hF (hS.sx [0, 1, 2, 3, 4] [0, 1, 2, 3, 4, 5, 6, 7, 8, 9, 10, 11]) fun a hF => ?_
 refine and_ ?_
 cases hv47
 exact ⟨_, hF.kp [4], hS.sp [] [], trivial⟩
 refine ago 0 hF rfl ?_
 refine wo_callP hF hS (by kernel_rfl) (by kernel_rfl) (C_law18_awake N hS.fresh   ((hS.pick [] (by kernel_rfl)).ro) hx48) ?_
 rintro _ κ w a ⟨rfl, hR, hN⟩ hF hS hO
 refine ⟨fun _ => (hS.sx [0, 1, 2, 3, 4] [0, 1, 2, 3, 4, 5, 6, 7, 8, 9, 10, 11]), ?_⟩
 refine anp [1] [2, 3, 5, 6, 7, 8, 9, 10, 35] hF (hS.sx [0, 1, 2, 3, 4] [0, 1, 2, 3, 4, 5, 6, 7, 8, 9, 10, 11]) fun a hF => ?_
 have hF := hF.boolv 35 (by kernel_rfl) hb49
 refine anp [2, 3, 4, 5, 6] [2, 3, 5, 6, 7, 9, 10, 40] hF (hS.sx [0, 1, 2, 3, 4] [0, 1, 2, 3, 4, 5, 6, 7, 8, 9, 10, 11]) fun a hF => ?_
 have hF := hF.boolv 40 (by kernel_rfl) hb50
 refine anp [7, 8, 9, 10, 11] [2, 3, 5, 7, 9, 45] hF (hS.sx [0, 1, 2, 3, 4] [0, 1, 2, 3, 4, 5, 6, 7, 8, 9, 10, 11]) fun a hF => ?_
 have hF := hF.boolv 45 (by kernel_rfl) hb51
 refine anp [12, 13, 14, 15, 16, 17, 18, 19, 20, 21, 22, 23, 24, 25, 26, 27, 28, 29, 30, 31, 32, 33, 34, 35, 36] [4] hF (hS.sx [0, 1, 2, 3, 4] [0, 1, 2, 3, 4, 5, 6, 7, 8, 9, 10, 11]) fun a hF => ?_
 refine and_ ?_
 cases hv47
 exact ⟨_, hF.kp [4], hS.sp [] [], trivial⟩
 refine ago 0 hF rfl ?_
 refine wo_callP hF hS (by kernel_rfl) (by kernel_rfl) (C_law18_awake N hS.fresh   ((hS.pick [] (by kernel_rfl)).ro) hx48) ?_
 rintro _ κ w a ⟨rfl, hR, hN⟩ hF hS hO
 refine ⟨fun _ => (hS.sx [0, 1, 2, 3, 4] [0, 1, 2, 3, 4, 5, 6, 7, 8, 9, 10, 11]), ?_⟩
 refine anp [1] [2, 3, 5, 6, 7, 8, 9, 10, 35] hF (hS.sx [0, 1, 2, 3, 4] [0, 1, 2, 3, 4, 5, 6, 7, 8, 9, 10, 11]) fun a hF => ?_
 have hF := hF.boolv 35 (by kernel_rfl) hb49
 refine anp [2, 3, 4, 5, 6] [2, 3, 5, 6, 7, 9, 10, 40] hF (hS.sx [0, 1, 2, 3, 4] [0, 1, 2, 3, 4, 5, 6, 7, 8, 9, 10, 11]) fun a hF => ?_
 have hF := hF.boolv 40 (by kernel_rfl) hb50
 refine anp [7, 8, 9, 10, 11, 12, 13, 14, 15, 16, 17, 18, 19, 20, 21, 22, 23, 24, 25, 26, 27, 28, 29, 30, 31, 32, 33, 34, 35, 36] [4] hF (hS.sx [0, 1, 2, 3, 4] [0, 1, 2, 3, 4, 5, 6, 7, 8, 9, 10, 11]) fun a hF => ?_
 refine and_ ?_
 cases hv47
 exact ⟨_, hF.kp [4], hS.sp [] [], trivial⟩
 refine ago 0 hF rfl ?_
 refine wo_callP hF hS (by kernel_rfl) (by kernel_rfl) (C_law18_awake N hS.fresh   ((hS.pick [] (by kernel_rfl)).ro) hx48) ?_
 rintro _ κ w a ⟨rfl, hR, hN⟩ hF hS hO
 refine ⟨fun _ => (hS.sx [0, 1, 2, 3, 4] [0, 1, 2, 3, 4, 5, 6, 7, 8, 9, 10, 11]), ?_⟩
 refine anp [1] [2, 3, 5, 6, 7, 8, 9, 10, 35] hF (hS.sx [0, 1, 2, 3, 4] [0, 1, 2, 3, 4, 5, 6, 7, 8, 9, 10, 11]) fun a hF => ?_
 have hF := hF.boolv 35 (by kernel_rfl) hb49
 refine anp [2, 3, 4, 5, 6, 7, 8, 9, 10, 11, 12, 13, 14, 15, 16, 17, 18, 19, 20, 21, 22, 23, 24, 25, 26, 27, 28, 29, 30, 31, 32, 33, 34, 35, 36] [4] hF (hS.sx [0, 1, 2, 3, 4] [0, 1, 2, 3, 4, 5, 6, 7, 8, 9, 10, 11]) fun a hF => ?_
 refine and_ ?_
 cases hv47
 exact ⟨_, hF.kp [4], hS.sp [] [], trivial⟩
 rintro a w ⟨κ, hF, hS, -⟩
 refine hK45 _ _ ?_
 refine wpIn_ret ?_
 cases H
 exact (ret_done hF hS (res1 Try.results16 (rvt hF)) ⟨rfl, (hS.pick [] (by kernel_rfl)).ro, hS.newC [] (by decide) (by kernel_rfl)⟩)
end Go.Cf
