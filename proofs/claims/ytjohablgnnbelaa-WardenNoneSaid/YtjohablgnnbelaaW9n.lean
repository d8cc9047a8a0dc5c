/- The walks: each function returns what its model says. Printed by a program of ours. -/
import Derived.Test.YtjohablgnnbelaaM9n
import Derived.Test.YtjohablgnnbelaaW1
import Derived.Test.YtjohablgnnbelaaW3
import Derived.Test.YtjohablgnnbelaaW6
import Derived.Test.YtjohablgnnbelaaW8
import Derived.Test.YtjohablgnnbelaaW8a
namespace Go.Cf
open Go Go.Proofs
set_option linter.unusedVariables false
set_option maxRecDepth 20000 in
set_option maxHeartbeats 1000000 in
theorem C_warden_Warden_Take_nil0 (N : Nat) {Ms : List Nat} {κ0 : Gh} {w0 : World} (a1 : Int) (a2 : T_api_Msg) (p3 : Option Addr) (c4 : Nat) (p5 : Option Addr) (c6 : Nat) (hMs : Ms = blksOf []) (hS : SS Ms κ0 w0 κ0 w0 [] [Ro.mp f_api_Ver.ty p3 c4 a2.Vers, Ro.mp (fInt .u64).ty p5 c6 a2.Vec]) {r : Unit} (H : M.warden_Warden_Take_nil0 N a1 a2 = some r) :
    Calls Try.prog 68 #[.pointer none, .int .i64 (a1), .agg (flat [(1, [.int .i64 (a2.Kind)]), (1, [.int .u64 (a2.Id)]), (1, [.int .u64 (a2.N)]), (1, [.int .u64 (a2.TS)]), (1, [.string (a2.Lo)]), (1, [.string (a2.Hi)]), (1, [.slice p3 (a2.Vers).length c4]), (1, [.slice p5 (a2.Vec).length c6]), (1, [.int .i64 (a2.Cmd.Kind)]), (1, [.int .i64 (a2.Cmd.DC)]), (1, [.int .i64 (a2.Cmd.Shard)]), (1, [.int .i64 (a2.Cmd.Node)]), (1, [.int .i64 (a2.Cmd.Mode)]), (1, [.string (a2.Cmd.Key)])]).toArray] w0 (Post Ms κ0 w0 fun v κ w => v = .tuple #[] ∧ SS Ms κ0 w0 κ w [] []) := by
 have hfr := hS.fresh
 refine enter (N := (172)) (L := [(0, .pointer none), (1, .int .i64 (a1)), (2, .agg (flat [si a2.Kind, (1, [.int .u64 (a2.Id)]), (1, [.int .u64 (a2.N)]), (1, [.int .u64 (a2.TS)]), sg a2.Lo, sg a2.Hi, (1, [.slice p3 (a2.Vers).length c4]), (1, [.slice p5 (a2.Vec).length c6]), si a2.Cmd.Kind, si a2.Cmd.DC, si a2.Cmd.Shard, si a2.Cmd.Node, si a2.Cmd.Mode, sg a2.Cmd.Key]).toArray)]) Try.func68 rfl Try.ntmps68 (show 3 ≤ (172) by decide) rfl fun a hF => ?_
 unfold M.warden_Warden_Take_nil0 at H
 refine wpIn_seq_k fun K7 hK7 => ?_
 refine wpIn_region_lit ?_
 refine wc (wbx hF hS [si a2.Kind, (1, [.int .u64 (a2.Id)]), (1, [.int .u64 (a2.N)]), (1, [.int .u64 (a2.TS)]), sg a2.Lo, sg a2.Hi, (1, [.slice p3 (a2.Vers).length c4]), (1, [.slice p5 (a2.Vec).length c6]), si a2.Cmd.Kind, si a2.Cmd.DC, si a2.Cmd.Shard, si a2.Cmd.Node, si a2.Cmd.Mode, sg a2.Cmd.Key] (sgN 14 sgNil) fun b8 a w hF hS => ?_)
 refine wpListIn_nil ?_
 refine hK7 _ _ ?_
 refine wpIn_seq_k fun K9 hK9 => ?_
 refine wpIn_seq_k fun K10 hK10 => ?_
 refine rga (SSx Ms κ0 w0 [.box b8 96 [si a2.Kind, (1, [.int .u64 (a2.Id)]), (1, [.int .u64 (a2.N)]), (1, [.int .u64 (a2.TS)]), sg a2.Lo, sg a2.Hi, (1, [.slice p3 (a2.Vers).length c4]), (1, [.slice p5 (a2.Vec).length c6]), si a2.Cmd.Kind, si a2.Cmd.DC, si a2.Cmd.Shard, si a2.Cmd.Node, si a2.Cmd.Mode, sg a2.Cmd.Key]] [Ro.mp f_api_Ver.ty p3 c4 a2.Vers, Ro.mp (fInt .u64).ty p5 c6 a2.Vec]) [] ?_
 have hS := hS.drew
 refine anp [0, 1, 2, 3, 4, 5, 6, 7, 8, 9, 10, 11, 12, 13, 14, 15, 16, 17, 18, 19, 20, 21, 22, 23, 24, 25, 26] [0, 1, 5, 33] hF (hS.sx [0] [0, 1]) fun a hF => ?_
 refine and_ ?_
 refine hK10 _ _ ?_
 refine cond_t hF (by kernel_rfl) rfl ?_
 refine wpIn_ret ?_
 cases H
 exact ret_done hF hS (res0 Try.results68 ) ⟨rfl, hS.sp [] []⟩
set_option maxRecDepth 20000 in
set_option maxHeartbeats 1000000 in
theorem C_warden_Warden_Ask_nil0 (N : Nat) {Ms : List Nat} {κ0 : Gh} {w0 : World} (a1 : T_api_Cmd)  (hMs : Ms = blksOf []) (hS : SS Ms κ0 w0 κ0 w0 [] []) {r : (Int × Int)} (H : M.warden_Warden_Ask_nil0 N a1 = some r) :
    Calls Try.prog 65 #[.pointer none, .agg (flat [(1, [.int .i64 (a1.Kind)]), (1, [.int .i64 (a1.DC)]), (1, [.int .i64 (a1.Shard)]), (1, [.int .i64 (a1.Node)]), (1, [.int .i64 (a1.Mode)]), (1, [.string (a1.Key)])]).toArray] w0 (Post Ms κ0 w0 fun v κ w => v = .tuple #[.int .i64 (r.1), .int .i64 (r.2)] ∧ SS Ms κ0 w0 κ w [] []) := by
 have hfr := hS.fresh
 refine enter (N := (56)) (L := [(0, .pointer none), (1, .agg (flat [si a1.Kind, si a1.DC, si a1.Shard, si a1.Node, si a1.Mode, sg a1.Key]).toArray)]) Try.func65 rfl Try.ntmps65 (show 2 ≤ (56) by decide) rfl fun a hF => ?_
 unfold M.warden_Warden_Ask_nil0 at H
 refine wpIn_seq_k fun K2 hK2 => ?_
 refine wpIn_region_lit ?_
 refine wc (wbx hF hS [si a1.Kind, si a1.DC, si a1.Shard, si a1.Node, si a1.Mode, sg a1.Key] (sgN 6 sgNil) fun b3 a w hF hS => ?_)
 refine wp 2 [0, 3] hF fun a hF => ?_
 refine wpListIn_nil ?_
 refine hK2 _ _ ?_
 refine wpIn_seq_k fun K4 hK4 => ?_
 refine wpIn_seq_k fun K5 hK5 => ?_
 refine wpIn_region_lit ?_
 refine wp 2 [0, 3, 9] hF fun a hF => ?_
 refine wpListIn_nil ?_
 refine hK5 _ _ ?_
 refine cond_t hF (by kernel_rfl) rfl ?_
 refine wpIn_seq_k fun K6 hK6 => ?_
 refine wpIn_region_lit ?_
 refine wp 2 [4, 5] hF fun a hF => ?_
 refine wpListIn_nil ?_
 refine hK6 _ _ ?_
 refine wpIn_ret ?_
 cases H
 exact ret_done hF hS (res2 Try.results65 (rvt hF) (rvt hF)) ⟨rfl, hS.sp [] []⟩
set_option maxRecDepth 20000 in
set_option maxHeartbeats 1000000 in
theorem C_warden_Warden_Out_nil0 (N : Nat) {Ms : List Nat} {κ0 : Gh} {w0 : World}   (hMs : Ms = blksOf []) (hS : SS Ms κ0 w0 κ0 w0 [] []) {r : ((List T_api_Mail))} (H : M.warden_Warden_Out_nil0 N  = some r) :
    Calls Try.prog 67 #[.pointer none] w0 (Post Ms κ0 w0 fun v κ w => ∃ p5 : Option Addr, ∃ c6 : Nat, v = .slice p5 (r).length c6 ∧ SS Ms κ0 w0 κ w [.tok p5 106 15 (r).length c6] [Ro.mp t_api_Mail p5 c6 r]) := by
 have hfr := hS.fresh
 refine enter (N := (14)) (L := [(0, .pointer none)]) Try.func67 rfl Try.ntmps67 (show 1 ≤ (14) by decide) rfl fun a hF => ?_
 unfold M.warden_Warden_Out_nil0 at H
 refine wpIn_seq_k fun K1 hK1 => ?_
 refine wpIn_region_lit ?_
 refine wp 1 [0] hF fun a hF => ?_
 refine wpListIn_nil ?_
 refine hK1 _ _ ?_
 refine wpIn_seq_k fun K2 hK2 => ?_
 refine wpIn_seq_k fun K3 hK3 => ?_
 refine wpIn_region_lit ?_
 refine wp 2 [0, 5] hF fun a hF => ?_
 refine wpListIn_nil ?_
 refine hK3 _ _ ?_
 refine cond_t hF (by kernel_rfl) rfl ?_
 refine wpIn_seq_k fun K4 hK4 => ?_
 refine wpIn_region_lit ?_
 refine wp 1 [2] hF fun a hF => ?_
 refine wpListIn_nil ?_
 refine hK4 _ _ ?_
 refine wpIn_ret ?_
 have hS := hS.add (m := Ro.mp t_api_Mail none 0 ([] : List T_api_Mail)) (Ro.nil t_api_Mail _ _)
 have hS := hS.addNil 106 15
 cases H
 exact ret_done hF hS (res1 Try.results67 (rvt hF)) ⟨none, 0, rfl, hS.sp [0] [0]⟩
set_option maxRecDepth 20000 in
set_option maxHeartbeats 1000000 in
theorem C_warden_Warden_Acked_nil0 (N : Nat) {Ms : List Nat} {κ0 : Gh} {w0 : World}   (hMs : Ms = blksOf []) (hS : SS Ms κ0 w0 κ0 w0 [] []) {r : (Int)} (H : M.warden_Warden_Acked_nil0 N  = some r) :
    Calls Try.prog 69 #[.pointer none] w0 (Post Ms κ0 w0 fun v κ w => v = .int .i64 (r) ∧ SS Ms κ0 w0 κ w [] []) := by
 have hfr := hS.fresh
 refine enter (N := (9)) (L := [(0, .pointer none)]) Try.func69 rfl Try.ntmps69 (show 1 ≤ (9) by decide) rfl fun a hF => ?_
 unfold M.warden_Warden_Acked_nil0 at H
 refine wpIn_seq_k fun K1 hK1 => ?_
 refine wpIn_region_lit ?_
 refine wp 1 [0] hF fun a hF => ?_
 refine wpListIn_nil ?_
 refine hK1 _ _ ?_
 refine wpIn_seq_k fun K2 hK2 => ?_
 refine wpIn_seq_k fun K3 hK3 => ?_
 refine wpIn_region_lit ?_
 refine wp 2 [0, 4] hF fun a hF => ?_
 refine wpListIn_nil ?_
 refine hK3 _ _ ?_
 refine cond_t hF (by kernel_rfl) rfl ?_
 refine wpIn_seq_k fun K4 hK4 => ?_
 refine wpIn_region_lit ?_
 refine wp 1 [2] hF fun a hF => ?_
 refine wpListIn_nil ?_
 refine hK4 _ _ ?_
 refine wpIn_ret ?_
 cases H
 exact ret_done hF hS (res1 Try.results69 (rvt hF)) ⟨rfl, hS.sp [] []⟩
set_option maxRecDepth 20000 in
set_option maxHeartbeats 1000000 in
theorem C_warden_Warden_Pending_nil0 (N : Nat) {Ms : List Nat} {κ0 : Gh} {w0 : World}   (hMs : Ms = blksOf []) (hS : SS Ms κ0 w0 κ0 w0 [] []) {r : (Int)} (H : M.warden_Warden_Pending_nil0 N  = some r) :
    Calls Try.prog 66 #[.pointer none] w0 (Post Ms κ0 w0 fun v κ w => v = .int .i64 (r) ∧ SS Ms κ0 w0 κ w [] []) := by
 have hfr := hS.fresh
 refine enter (N := (10)) (L := [(0, .pointer none)]) Try.func66 rfl Try.ntmps66 (show 1 ≤ (10) by decide) rfl fun a hF => ?_
 unfold M.warden_Warden_Pending_nil0 at H
 refine wpIn_seq_k fun K1 hK1 => ?_
 refine wpIn_region_lit ?_
 refine wp 1 [0] hF fun a hF => ?_
 refine wpListIn_nil ?_
 refine hK1 _ _ ?_
 refine wpIn_seq_k fun K2 hK2 => ?_
 refine wpIn_seq_k fun K3 hK3 => ?_
 refine wpIn_region_lit ?_
 refine wp 2 [0, 4] hF fun a hF => ?_
 refine wpListIn_nil ?_
 refine hK3 _ _ ?_
 refine cond_t hF (by kernel_rfl) rfl ?_
 refine wpIn_seq_k fun K4 hK4 => ?_
 refine wpIn_region_lit ?_
 refine wp 1 [2] hF fun a hF => ?_
 refine wpListIn_nil ?_
 refine hK4 _ _ ?_
 refine wpIn_ret ?_
 cases H
 exact ret_done hF hS (res1 Try.results66 (rvt hF)) ⟨rfl, hS.sp [] []⟩
set_option maxRecDepth 20000 in
set_option maxHeartbeats 1000000 in
theorem C_warden_Warden_Now_nil0 (N : Nat) {Ms : List Nat} {κ0 : Gh} {w0 : World}   (hMs : Ms = blksOf []) (hS : SS Ms κ0 w0 κ0 w0 [] []) {r : (T_config_State)} (H : M.warden_Warden_Now_nil0 N  = some r) :
    Calls Try.prog 71 #[.pointer none] w0 (Post Ms κ0 w0 fun v κ w => ∃ cs6 : List Value, v = .agg (flat [(1, [.int .i64 (r.Pool)]), (1, [.int .i64 (r.Nodes)]), (4, (encs fBool r.Members)), (8, cs6), (21, (encs (fInt .i64) r.Modes))]).toArray ∧ SS Ms κ0 w0 κ w [] [MP.const (List.length r.Members = 4), Arr.mp t_api_Map cs6 4 r.Maps, MP.const (List.length r.Modes = 21)]) := by
 have hfr := hS.fresh
 refine enter (N := (11)) (L := [(0, .pointer none)]) Try.func71 rfl Try.ntmps71 (show 1 ≤ (11) by decide) rfl fun a hF => ?_
 unfold M.warden_Warden_Now_nil0 at H
 refine wpIn_seq_k fun K1 hK1 => ?_
 refine wpIn_region_lit ?_
 have hS := hS.add (m := MP.const (List.length (List.replicate 4 false) = 4)) (List.length_replicate)
 have hS := hS.add (m := Arr.mp t_api_Map ((List.replicate 4 (flat [(1, [.slice none 0 0]), (1, [.slice none 0 0])])).flatten) 4 (List.replicate 4 (T_api_Map.mk ([] : List ByteArray) ([] : List Int)))) (Arr.zero _ _ _ _ _ z_api_Map)
 have hS := hS.add (m := MP.const (List.length (List.replicate 21 0) = 21)) (List.length_replicate)
 refine wc (wal hF hS [si 0, si 0, (4, (encs fBool (List.replicate 4 false))), (8, (List.replicate 4 (flat [(1, [.slice none 0 0]), (1, [.slice none 0 0])])).flatten), (21, (encs (fInt .i64) (List.replicate 21 0)))] (sgN 2 (sgEnc List.length_replicate (sgArr (hS.get 1 rfl) (sgEnc List.length_replicate sgNil)))) fun b2 a w hF hS => ?_)
 refine wpListIn_nil ?_
 refine hK1 _ _ ?_
 refine wpIn_seq_k fun K3 hK3 => ?_
 refine wpIn_seq_k fun K4 hK4 => ?_
 refine wpIn_region_lit ?_
 refine wp 2 [0, 2, 4] hF fun a hF => ?_
 refine wpListIn_nil ?_
 refine hK4 _ _ ?_
 refine cond_t hF (by kernel_rfl) rfl ?_
 refine wpIn_seq_k fun K5 hK5 => ?_
 refine wpIn_region_lit ?_
 refine wp 1 [2, 5] hF fun a hF => ?_
 refine wc (wst hF hS 0 0 5 [si 0, si 0, (4, (encs fBool (List.replicate 4 false))), (8, (List.replicate 4 (flat [(1, [.slice none 0 0]), (1, [.slice none 0 0])])).flatten), (21, (encs (fInt .i64) (List.replicate 21 0)))] (sgN 2 (sgEnc List.length_replicate (sgArr (hS.get 1 rfl) (sgEnc List.length_replicate sgNil)))) fun a w hF hS => ?_)
 refine wpListIn_nil ?_
 refine hK5 _ _ ?_
 refine wpIn_ret ?_
 have hS' := hS
 cases H
 exact ret_done hF hS (res1 Try.results71 (rvs hF hS' 0 0 5)) ⟨(List.replicate 4 (flat [(1, [.slice none 0 0]), (1, [.slice none 0 0])])).flatten, rfl, hS.sp [] [2, 1, 0]⟩
set_option maxRecDepth 20000 in
set_option maxHeartbeats 1000000 in
theorem C_warden_Warden_Tail_nil0 (N : Nat) {Ms : List Nat} {κ0 : Gh} {w0 : World}   (hMs : Ms = blksOf []) (hS : SS Ms κ0 w0 κ0 w0 [] []) {r : (T_config_State)} (H : M.warden_Warden_Tail_nil0 N  = some r) :
    Calls Try.prog 70 #[.pointer none] w0 (Post Ms κ0 w0 fun v κ w => ∃ cs6 : List Value, v = .agg (flat [(1, [.int .i64 (r.Pool)]), (1, [.int .i64 (r.Nodes)]), (4, (encs fBool r.Members)), (8, cs6), (21, (encs (fInt .i64) r.Modes))]).toArray ∧ SS Ms κ0 w0 κ w [] [MP.const (List.length r.Members = 4), Arr.mp t_api_Map cs6 4 r.Maps, MP.const (List.length r.Modes = 21)]) := by
 have hfr := hS.fresh
 refine enter (N := (11)) (L := [(0, .pointer none)]) Try.func70 rfl Try.ntmps70 (show 1 ≤ (11) by decide) rfl fun a hF => ?_
 unfold M.warden_Warden_Tail_nil0 at H
 refine wpIn_seq_k fun K1 hK1 => ?_
 refine wpIn_region_lit ?_
 have hS := hS.add (m := MP.const (List.length (List.replicate 4 false) = 4)) (List.length_replicate)
 have hS := hS.add (m := Arr.mp t_api_Map ((List.replicate 4 (flat [(1, [.slice none 0 0]), (1, [.slice none 0 0])])).flatten) 4 (List.replicate 4 (T_api_Map.mk ([] : List ByteArray) ([] : List Int)))) (Arr.zero _ _ _ _ _ z_api_Map)
 have hS := hS.add (m := MP.const (List.length (List.replicate 21 0) = 21)) (List.length_replicate)
 refine wc (wal hF hS [si 0, si 0, (4, (encs fBool (List.replicate 4 false))), (8, (List.replicate 4 (flat [(1, [.slice none 0 0]), (1, [.slice none 0 0])])).flatten), (21, (encs (fInt .i64) (List.replicate 21 0)))] (sgN 2 (sgEnc List.length_replicate (sgArr (hS.get 1 rfl) (sgEnc List.length_replicate sgNil)))) fun b2 a w hF hS => ?_)
 refine wpListIn_nil ?_
 refine hK1 _ _ ?_
 refine wpIn_seq_k fun K3 hK3 => ?_
 refine wpIn_seq_k fun K4 hK4 => ?_
 refine wpIn_region_lit ?_
 refine wp 2 [0, 2, 4] hF fun a hF => ?_
 refine wpListIn_nil ?_
 refine hK4 _ _ ?_
 refine cond_t hF (by kernel_rfl) rfl ?_
 refine wpIn_seq_k fun K5 hK5 => ?_
 refine wpIn_region_lit ?_
 refine wp 1 [2, 5] hF fun a hF => ?_
 refine wc (wst hF hS 0 0 5 [si 0, si 0, (4, (encs fBool (List.replicate 4 false))), (8, (List.replicate 4 (flat [(1, [.slice none 0 0]), (1, [.slice none 0 0])])).flatten), (21, (encs (fInt .i64) (List.replicate 21 0)))] (sgN 2 (sgEnc List.length_replicate (sgArr (hS.get 1 rfl) (sgEnc List.length_replicate sgNil)))) fun a w hF hS => ?_)
 refine wpListIn_nil ?_
 refine hK5 _ _ ?_
 refine wpIn_ret ?_
 have hS' := hS
 cases H
 exact ret_done hF hS (res1 Try.results70 (rvs hF hS' 0 0 5)) ⟨(List.replicate 4 (flat [(1, [.slice none 0 0]), (1, [.slice none 0 0])])).flatten, rfl, hS.sp [] [2, 1, 0]⟩
set_option maxRecDepth 20000 in
set_option maxHeartbeats 1000000 in
theorem C_warden_Warden_Modes_nil0 (N : Nat) {Ms : List Nat} {κ0 : Gh} {w0 : World}   (hMs : Ms = blksOf []) (hS : SS Ms κ0 w0 κ0 w0 [] []) {r : ((List Int))} (H : M.warden_Warden_Modes_nil0 N  = some r) :
    Calls Try.prog 72 #[.pointer none] w0 (Post Ms κ0 w0 fun v κ w => v = .agg (flat [(21, (encs (fInt .i64) r))]).toArray ∧ SS Ms κ0 w0 κ w [] [MP.const (List.length r = 21)]) := by
 have hfr := hS.fresh
 refine enter (N := (50)) (L := [(0, .pointer none)]) Try.func72 rfl Try.ntmps72 (show 1 ≤ (50) by decide) rfl fun a hF => ?_
 unfold M.warden_Warden_Modes_nil0 at H
 refine wpIn_seq_k fun K1 hK1 => ?_
 refine wpIn_region_lit ?_
 have hS := hS.add (m := MP.const (List.length (List.replicate 21 0) = 21)) (List.length_replicate)
 refine wc (wal hF hS [(21, (encs (fInt .i64) (List.replicate 21 0)))] (sgEnc List.length_replicate sgNil) fun b2 a w hF hS => ?_)
 refine wpListIn_nil ?_
 refine hK1 _ _ ?_
 refine wpIn_seq_k fun K3 hK3 => ?_
 refine wpIn_seq_k fun K4 hK4 => ?_
 refine wpIn_region_lit ?_
 refine wp 2 [0, 2, 9] hF fun a hF => ?_
 refine wpListIn_nil ?_
 refine hK4 _ _ ?_
 refine cond_t hF (by kernel_rfl) rfl ?_
 refine wpIn_seq_k fun K5 hK5 => ?_
 refine wpIn_region_lit ?_
 refine wp 1 [2, 10] hF fun a hF => ?_
 refine wc (wst hF hS 0 0 1 [(21, (encs (fInt .i64) (List.replicate 21 0)))] (sgEnc List.length_replicate sgNil) fun a w hF hS => ?_)
 refine wpListIn_nil ?_
 refine hK5 _ _ ?_
 refine wpIn_ret ?_
 have hS' := hS
 cases H
 exact ret_done hF hS (res1 Try.results72 (rvs hF hS' 0 0 1)) ⟨rfl, hS.sp [] [0]⟩
set_option maxRecDepth 20000 in
set_option maxHeartbeats 1000000 in
theorem C_law19_WardenNone (N : Nat) {κ0 : Gh} {w0 : World} (hfr : Fresh κ0 w0) (a1 : T_law19_Op) (p2 : Option Addr) (c3 : Nat) (p4 : Option Addr) (c5 : Nat) (hR : ∀ m ∈ ([Ro.mp f_api_Ver.ty p2 c3 a1.Msg.Vers, Ro.mp (fInt .u64).ty p4 c5 a1.Msg.Vec] : List MP), m.p κ0 w0) {r : (Bool)} (H : M.law19_WardenNone N a1 = some r) :
    Calls Try.prog 22 #[.agg (flat [(1, [.bool (a1.Ask)]), (1, [.int .i64 (a1.Cmd.Kind)]), (1, [.int .i64 (a1.Cmd.DC)]), (1, [.int .i64 (a1.Cmd.Shard)]), (1, [.int .i64 (a1.Cmd.Node)]), (1, [.int .i64 (a1.Cmd.Mode)]), (1, [.string (a1.Cmd.Key)]), (1, [.int .i64 (a1.DC)]), (1, [.int .i64 (a1.Msg.Kind)]), (1, [.int .u64 (a1.Msg.Id)]), (1, [.int .u64 (a1.Msg.N)]), (1, [.int .u64 (a1.Msg.TS)]), (1, [.string (a1.Msg.Lo)]), (1, [.string (a1.Msg.Hi)]), (1, [.slice p2 (a1.Msg.Vers).length c3]), (1, [.slice p4 (a1.Msg.Vec).length c5]), (1, [.int .i64 (a1.Msg.Cmd.Kind)]), (1, [.int .i64 (a1.Msg.Cmd.DC)]), (1, [.int .i64 (a1.Msg.Cmd.Shard)]), (1, [.int .i64 (a1.Msg.Cmd.Node)]), (1, [.int .i64 (a1.Msg.Cmd.Mode)]), (1, [.string (a1.Msg.Cmd.Key)])]).toArray] w0 (Post [] κ0 w0 fun v κ w => v = .bool (r) ∧ (∀ m ∈ ([] : List MP), m.p κ w) ∧ NewC w0 κ w []) := by
 have hS := SS.start hfr hR
 refine enter (N := (62)) (L := [(0, .agg (flat [sb a1.Ask, si a1.Cmd.Kind, si a1.Cmd.DC, si a1.Cmd.Shard, si a1.Cmd.Node, si a1.Cmd.Mode, sg a1.Cmd.Key, si a1.DC, si a1.Msg.Kind, (1, [.int .u64 (a1.Msg.Id)]), (1, [.int .u64 (a1.Msg.N)]), (1, [.int .u64 (a1.Msg.TS)]), sg a1.Msg.Lo, sg a1.Msg.Hi, (1, [.slice p2 (a1.Msg.Vers).length c3]), (1, [.slice p4 (a1.Msg.Vec).length c5]), si a1.Msg.Cmd.Kind, si a1.Msg.Cmd.DC, si a1.Msg.Cmd.Shard, si a1.Msg.Cmd.Node, si a1.Msg.Cmd.Mode, sg a1.Msg.Cmd.Key]).toArray)]) Try.func22 rfl Try.ntmps22 (show 1 ≤ (62) by decide) rfl fun a hF => ?_
 unfold M.law19_WardenNone at H
 refine wpIn_seq_k fun K6 hK6 => ?_
 refine wpIn_region_lit ?_
 refine wc (wbx hF hS [sb a1.Ask, si a1.Cmd.Kind, si a1.Cmd.DC, si a1.Cmd.Shard, si a1.Cmd.Node, si a1.Cmd.Mode, sg a1.Cmd.Key, si a1.DC, si a1.Msg.Kind, (1, [.int .u64 (a1.Msg.Id)]), (1, [.int .u64 (a1.Msg.N)]), (1, [.int .u64 (a1.Msg.TS)]), sg a1.Msg.Lo, sg a1.Msg.Hi, (1, [.slice p2 (a1.Msg.Vers).length c3]), (1, [.slice p4 (a1.Msg.Vec).length c5]), si a1.Msg.Cmd.Kind, si a1.Msg.Cmd.DC, si a1.Msg.Cmd.Shard, si a1.Msg.Cmd.Node, si a1.Msg.Cmd.Mode, sg a1.Msg.Cmd.Key] (sgN 22 sgNil) fun b7 a w hF hS => ?_)
 refine wp 1 [1] hF fun a hF => ?_
 refine wpListIn_nil ?_
 refine hK6 _ _ ?_
 refine wpIn_seq_k fun K8 hK8 => ?_
 refine wpIn_region_lit ?_
 refine wp 1 [1, 3] hF fun a hF => ?_
 refine wpListIn_nil ?_
 refine hK8 _ _ ?_
 refine wpIn_seq_k fun K9 hK9 => ?_
 refine wpIn_region_lit ?_
 refine wp 2 [1, 3, 6, 7] hF fun a hF => ?_
 refine wc (wld hF hS 0 7 0 fun a hF => ?_)
 refine wl_pure (L' := [(1, pt b7 0), (3, .pointer none), (6, .pointer none), (8, .int .i64 (a1.DC)), (9, pt b7 8)]) 1 [1, 3, 6, 8, 9] hF (by kernel_rfl) fun a hF => ?_
 refine wc (wls hF hS 0 8 14 fun a hF => ?_)
 refine bind_split H (fun x10 hx10 H => ?_)
 refine wc (wo_callS (Cin := []) (Cr := [.box b7 98 [sb a1.Ask, si a1.Cmd.Kind, si a1.Cmd.DC, si a1.Cmd.Shard, si a1.Cmd.Node, si a1.Cmd.Mode, sg a1.Cmd.Key, si a1.DC, si a1.Msg.Kind, (1, [.int .u64 (a1.Msg.Id)]), (1, [.int .u64 (a1.Msg.N)]), (1, [.int .u64 (a1.Msg.TS)]), sg a1.Msg.Lo, sg a1.Msg.Hi, (1, [.slice p2 (a1.Msg.Vers).length c3]), (1, [.slice p4 (a1.Msg.Vec).length c5]), si a1.Msg.Cmd.Kind, si a1.Msg.Cmd.DC, si a1.Msg.Cmd.Shard, si a1.Msg.Cmd.Node, si a1.Msg.Cmd.Mode, sg a1.Msg.Cmd.Key]]) (args := #[.pointer none, .int .i64 (a1.DC), .agg (flat [si a1.Msg.Kind, (1, [.int .u64 (a1.Msg.Id)]), (1, [.int .u64 (a1.Msg.N)]), (1, [.int .u64 (a1.Msg.TS)]), sg a1.Msg.Lo, sg a1.Msg.Hi, (1, [.slice p2 (a1.Msg.Vers).length c3]), (1, [.slice p4 (a1.Msg.Vec).length c5]), si a1.Msg.Cmd.Kind, si a1.Msg.Cmd.DC, si a1.Msg.Cmd.Shard, si a1.Msg.Cmd.Node, si a1.Msg.Cmd.Mode, sg a1.Msg.Cmd.Key]).toArray]) (f := 68) hF (hS.selp [0] (by decide) (by kernel_rfl)) (by kernel_rfl) (by kernel_rfl) (fun hS => C_warden_Warden_Take_nil0 N a1.DC (T_api_Msg.mk a1.Msg.Kind a1.Msg.Id a1.Msg.N a1.Msg.TS a1.Msg.Lo a1.Msg.Hi a1.Msg.Vers a1.Msg.Vec (T_api_Cmd.mk a1.Msg.Cmd.Kind a1.Msg.Cmd.DC a1.Msg.Cmd.Shard a1.Msg.Cmd.Node a1.Msg.Cmd.Mode a1.Msg.Cmd.Key)) p2 c3 p4 c5  rfl (hS.pick [0, 1] (by kernel_rfl)) hx10) ?_)
 rintro _ κ w a ⟨rfl, h2⟩ hF hB
 have hS := hB _ _ h2
 refine wpListIn_nil ?_
 refine hK9 _ _ ?_
 refine wpIn_seq_k fun K11 hK11 => ?_
 refine wpIn_region_lit ?_
 refine wl_pure (L' := [(3, .pointer none), (13, .pointer none), (14, pt b7 1)]) 2 [3, 13, 14] hF (by kernel_rfl) fun a hF => ?_
 refine wc (wls hF hS 0 1 6 fun a hF => ?_)
 refine bind_split H (fun x12 hx12 H => ?_)
 refine wc (wo_callS (Cin := []) (Cr := [.box b7 98 [sb a1.Ask, si a1.Cmd.Kind, si a1.Cmd.DC, si a1.Cmd.Shard, si a1.Cmd.Node, si a1.Cmd.Mode, sg a1.Cmd.Key, si a1.DC, si a1.Msg.Kind, (1, [.int .u64 (a1.Msg.Id)]), (1, [.int .u64 (a1.Msg.N)]), (1, [.int .u64 (a1.Msg.TS)]), sg a1.Msg.Lo, sg a1.Msg.Hi, (1, [.slice p2 (a1.Msg.Vers).length c3]), (1, [.slice p4 (a1.Msg.Vec).length c5]), si a1.Msg.Cmd.Kind, si a1.Msg.Cmd.DC, si a1.Msg.Cmd.Shard, si a1.Msg.Cmd.Node, si a1.Msg.Cmd.Mode, sg a1.Msg.Cmd.Key]]) (args := #[.pointer none, .agg (flat [si a1.Cmd.Kind, si a1.Cmd.DC, si a1.Cmd.Shard, si a1.Cmd.Node, si a1.Cmd.Mode, sg a1.Cmd.Key]).toArray]) (f := 65) hF (hS.selp [0] (by decide) (by kernel_rfl)) (by kernel_rfl) (by kernel_rfl) (fun hS => C_warden_Warden_Ask_nil0 N (T_api_Cmd.mk a1.Cmd.Kind a1.Cmd.DC a1.Cmd.Shard a1.Cmd.Node a1.Cmd.Mode a1.Cmd.Key)   rfl (hS.pick [] (by kernel_rfl)) hx12) ?_)
 rintro _ κ w a ⟨rfl, h2⟩ hF hB
 have hS := hB _ _ h2
 refine wp 5 [3, 4, 5] hF fun a hF => ?_
 refine wpListIn_nil ?_
 refine hK11 _ _ ?_
 refine wpIn_seq_k fun K13 hK13 => ?_
 refine wpIn_region_lit ?_
 refine bind_split H (fun v15 hv15 H => ?_)
 refine wl_join (fun a w => ∃ κ : Gh, Fr (62) [] [(2, .bool (v15))] a ∧ SS [] κ0 w0 κ w [] [] ∧ True) ?_ ?_
 refine bind_split hv15 (fun x16 hx16 hv15 => ?_)
 refine wc (wo_callP hF hS (by kernel_rfl) (by kernel_rfl) (C_law19_awake N hS.fresh   ((hS.pick [] (by kernel_rfl)).ro) hx16) ?_)
 rintro _ κ w a ⟨rfl, hR, hN⟩ hF hS hO
 refine wp 1 [3, 4, 5, 20] hF fun a hF => ?_
 refine bif_split hv15 (fun hb hv15 => ?_) (fun hb hv15 => ?_)
 have hF := hF.boolv 20 (by kernel_rfl) hb
 refine wp 4 [3, 5, 24] hF fun a hF => ?_
 refine bif_split hv15 (fun hb hv15 => ?_) (fun hb hv15 => ?_)
 have hF := hF.boolv 24 (by kernel_rfl) hb
 refine wp 4 [3, 28] hF fun a hF => ?_
 refine bif_split hv15 (fun hb hv15 => ?_) (fun hb hv15 => ?_)
 have hF := hF.boolv 28 (by kernel_rfl) hb
 refine wl_pure (L' := [(3, .pointer none), (28, .bool (true)), (29, .pointer none)]) 1 [3, 28, 29] hF (by kernel_rfl) fun a hF => ?_
 refine bind_split hv15 (fun x17 hx17 hv15 => ?_)
 refine wcg hF (wo_callS (Cin := []) (Cr := [.box b7 98 [sb a1.Ask, si a1.Cmd.Kind, si a1.Cmd.DC, si a1.Cmd.Shard, si a1.Cmd.Node, si a1.Cmd.Mode, sg a1.Cmd.Key, si a1.DC, si a1.Msg.Kind, (1, [.int .u64 (a1.Msg.Id)]), (1, [.int .u64 (a1.Msg.N)]), (1, [.int .u64 (a1.Msg.TS)]), sg a1.Msg.Lo, sg a1.Msg.Hi, (1, [.slice p2 (a1.Msg.Vers).length c3]), (1, [.slice p4 (a1.Msg.Vec).length c5]), si a1.Msg.Cmd.Kind, si a1.Msg.Cmd.DC, si a1.Msg.Cmd.Shard, si a1.Msg.Cmd.Node, si a1.Msg.Cmd.Mode, sg a1.Msg.Cmd.Key]]) (args := #[.pointer none]) (f := 67) hF (hS.selp [0] (by decide) (by kernel_rfl)) (by kernel_rfl) (by kernel_rfl) (fun hS => C_warden_Warden_Out_nil0 N    rfl (hS.pick [] (by kernel_rfl)) hx17) ?_)
 rintro _ κ w a ⟨p18, c19, rfl, h2⟩ hF hB
 have hS := hB _ _ h2
 refine wp 4 [3, 34] hF fun a hF => ?_
 refine bif_split hv15 (fun hb hv15 => ?_) (fun hb hv15 => ?_)
 have hF := hF.boolv 34 (by kernel_rfl) hb
 refine wl_pure (L' := [(3, .pointer none), (34, .bool (true)), (35, .pointer none)]) 1 [3, 34, 35] hF (by kernel_rfl) fun a hF => ?_
 refine bind_split hv15 (fun x20 hx20 hv15 => ?_)
 refine wcg hF (wo_callS (Cin := []) (Cr := [.tok p18 106 15 (x17).length c19, .box b7 98 [sb a1.Ask, si a1.Cmd.Kind, si a1.Cmd.DC, si a1.Cmd.Shard, si a1.Cmd.Node, si a1.Cmd.Mode, sg a1.Cmd.Key, si a1.DC, si a1.Msg.Kind, (1, [.int .u64 (a1.Msg.Id)]), (1, [.int .u64 (a1.Msg.N)]), (1, [.int .u64 (a1.Msg.TS)]), sg a1.Msg.Lo, sg a1.Msg.Hi, (1, [.slice p2 (a1.Msg.Vers).length c3]), (1, [.slice p4 (a1.Msg.Vec).length c5]), si a1.Msg.Cmd.Kind, si a1.Msg.Cmd.DC, si a1.Msg.Cmd.Shard, si a1.Msg.Cmd.Node, si a1.Msg.Cmd.Mode, sg a1.Msg.Cmd.Key]]) (args := #[.pointer none]) (f := 69) hF (hS.selp [0, 1] (by decide) (by kernel_rfl)) (by kernel_rfl) (by kernel_rfl) (fun hS => C_warden_Warden_Acked_nil0 N    rfl (hS.pick [] (by kernel_rfl)) hx20) ?_)
 rintro _ κ w a ⟨rfl, h2⟩ hF hB
 have hS := hB _ _ h2
 refine wp 3 [3, 39] hF fun a hF => ?_
 refine bif_split hv15 (fun hb hv15 => ?_) (fun hb hv15 => ?_)
 have hF := hF.boolv 39 (by kernel_rfl) hb
 refine wl_pure (L' := [(3, .pointer none), (39, .bool (true)), (40, .pointer none)]) 1 [3, 39, 40] hF (by kernel_rfl) fun a hF => ?_
 refine bind_split hv15 (fun x21 hx21 hv15 => ?_)
 refine wcg hF (wo_callS (Cin := []) (Cr := [.tok p18 106 15 (x17).length c19, .box b7 98 [sb a1.Ask, si a1.Cmd.Kind, si a1.Cmd.DC, si a1.Cmd.Shard, si a1.Cmd.Node, si a1.Cmd.Mode, sg a1.Cmd.Key, si a1.DC, si a1.Msg.Kind, (1, [.int .u64 (a1.Msg.Id)]), (1, [.int .u64 (a1.Msg.N)]), (1, [.int .u64 (a1.Msg.TS)]), sg a1.Msg.Lo, sg a1.Msg.Hi, (1, [.slice p2 (a1.Msg.Vers).length c3]), (1, [.slice p4 (a1.Msg.Vec).length c5]), si a1.Msg.Cmd.Kind, si a1.Msg.Cmd.DC, si a1.Msg.Cmd.Shard, si a1.Msg.Cmd.Node, si a1.Msg.Cmd.Mode, sg a1.Msg.Cmd.Key]]) (args := #[.pointer none]) (f := 66) hF (hS.selp [0, 1] (by decide) (by kernel_rfl)) (by kernel_rfl) (by kernel_rfl) (fun hS => C_warden_Warden_Pending_nil0 N    rfl (hS.pick [] (by kernel_rfl)) hx21) ?_)
 rintro _ κ w a ⟨rfl, h2⟩ hF hB
 have hS := hB _ _ h2
 refine wp 3 [3, 44] hF fun a hF => ?_
 refine bif_split hv15 (fun hb hv15 => ?_) (fun hb hv15 => ?_)
 have hF := hF.boolv 44 (by kernel_rfl) hb
 refine wl_pure (L' := [(3, .pointer none), (44, .bool (true)), (45, .pointer none)]) 1 [3, 44, 45] hF (by kernel_rfl) fun a hF => ?_
 refine bind_split hv15 (fun x22 hx22 hv15 => ?_)
 refine wcg hF (wo_callS (Cin := []) (Cr := [.tok p18 106 15 (x17).length c19, .box b7 98 [sb a1.Ask, si a1.Cmd.Kind, si a1.Cmd.DC, si a1.Cmd.Shard, si a1.Cmd.Node, si a1.Cmd.Mode, sg a1.Cmd.Key, si a1.DC, si a1.Msg.Kind, (1, [.int .u64 (a1.Msg.Id)]), (1, [.int .u64 (a1.Msg.N)]), (1, [.int .u64 (a1.Msg.TS)]), sg a1.Msg.Lo, sg a1.Msg.Hi, (1, [.slice p2 (a1.Msg.Vers).length c3]), (1, [.slice p4 (a1.Msg.Vec).length c5]), si a1.Msg.Cmd.Kind, si a1.Msg.Cmd.DC, si a1.Msg.Cmd.Shard, si a1.Msg.Cmd.Node, si a1.Msg.Cmd.Mode, sg a1.Msg.Cmd.Key]]) (args := #[.pointer none]) (f := 71) hF (hS.selp [0, 1] (by decide) (by kernel_rfl)) (by kernel_rfl) (by kernel_rfl) (fun hS => C_warden_Warden_Now_nil0 N    rfl (hS.pick [] (by kernel_rfl)) hx22) ?_)
 rintro _ κ w a ⟨cs23, rfl, h2⟩ hF hB
 have hS := hB _ _ h2
 refine wp 1 [3, 44, 46, 47] hF fun a hF => ?_
 have hS := hS.add (m := MP.const (List.length (List.replicate 4 false) = 4)) (List.length_replicate)
 have hS := hS.add (m := Arr.mp t_api_Map ((List.replicate 4 (flat [(1, [.slice none 0 0]), (1, [.slice none 0 0])])).flatten) 4 (List.replicate 4 (T_api_Map.mk ([] : List ByteArray) ([] : List Int)))) (Arr.zero _ _ _ _ _ z_api_Map)
 have hS := hS.add (m := MP.const (List.length (List.replicate 21 0) = 21)) (List.length_replicate)
 refine bind_split hv15 (fun x24 hx24 hv15 => ?_)
 refine wcg hF (wo_callP hF hS (by kernel_rfl) (by kernel_rfl) (C_law18_Same N hS.fresh (T_config_State.mk x22.Pool x22.Nodes x22.Members x22.Maps x22.Modes) (T_ref18_State.mk 0 0 (List.replicate 4 false) (List.replicate 4 (T_api_Map.mk ([] : List ByteArray) ([] : List Int))) (List.replicate 21 0)) cs23 ((List.replicate 4 (flat [(1, [.slice none 0 0]), (1, [.slice none 0 0])])).flatten) ((hS.pick [3, 4, 5, 2, 1, 0] (by kernel_rfl)).ro) hx24) ?_)
 rintro _ κ w a ⟨rfl, hR, hN⟩ hF hS hO
 refine wp 2 [3, 50] hF fun a hF => ?_
 refine bif_split hv15 (fun hb hv15 => ?_) (fun hb hv15 => ?_)
 have hF := hF.boolv 50 (by kernel_rfl) hb
 refine wl_pure (L' := [(3, .pointer none), (50, .bool (true)), (51, .pointer none)]) 1 [3, 50, 51] hF (by kernel_rfl) fun a hF => ?_
 refine bind_split hv15 (fun x25 hx25 hv15 => ?_)
 refine wcg hF (wo_callS (Cin := []) (Cr := [.tok p18 106 15 (x17).length c19, .box b7 98 [sb a1.Ask, si a1.Cmd.Kind, si a1.Cmd.DC, si a1.Cmd.Shard, si a1.Cmd.Node, si a1.Cmd.Mode, sg a1.Cmd.Key, si a1.DC, si a1.Msg.Kind, (1, [.int .u64 (a1.Msg.Id)]), (1, [.int .u64 (a1.Msg.N)]), (1, [.int .u64 (a1.Msg.TS)]), sg a1.Msg.Lo, sg a1.Msg.Hi, (1, [.slice p2 (a1.Msg.Vers).length c3]), (1, [.slice p4 (a1.Msg.Vec).length c5]), si a1.Msg.Cmd.Kind, si a1.Msg.Cmd.DC, si a1.Msg.Cmd.Shard, si a1.Msg.Cmd.Node, si a1.Msg.Cmd.Mode, sg a1.Msg.Cmd.Key]]) (args := #[.pointer none]) (f := 70) hF (hS.selp [0, 1] (by decide) (by kernel_rfl)) (by kernel_rfl) (by kernel_rfl) (fun hS => C_warden_Warden_Tail_nil0 N    rfl (hS.pick [] (by kernel_rfl)) hx25) ?_)
 rintro _ κ w a ⟨cs26, rfl, h2⟩ hF hB
 have hS := hB _ _ h2
 refine wp 1 [3, 50, 52, 53] hF fun a hF => ?_
 refine bind_split hv15 (fun x27 hx27 hv15 => ?_)
 refine wcg hF (wo_callP hF hS (by kernel_rfl) (by kernel_rfl) (C_law18_Same N hS.fresh (T_config_State.mk x25.Pool x25.Nodes x25.Members x25.Maps x25.Modes) (T_ref18_State.mk 0 0 (List.replicate 4 false) (List.replicate 4 (T_api_Map.mk ([] : List ByteArray) ([] : List Int))) (List.replicate 21 0)) cs26 ((List.replicate 4 (flat [(1, [.slice none 0 0]), (1, [.slice none 0 0])])).flatten) ((hS.pick [0, 1, 2, 5, 4, 3] (by kernel_rfl)).ro) hx27) ?_)
 rintro _ κ w a ⟨rfl, hR, hN⟩ hF hS hO
 refine wp 2 [3, 56] hF fun a hF => ?_
 refine bif_split hv15 (fun hb hv15 => ?_) (fun hb hv15 => ?_)
 have hF := hF.boolv 56 (by kernel_rfl) hb
 refine wl_pure (L' := [(56, .bool (true)), (57, .pointer none)]) 1 [56, 57] hF (by kernel_rfl) fun a hF => ?_
 refine bind_split hv15 (fun x28 hx28 hv15 => ?_)
 refine wcg hF (wo_callS (Cin := []) (Cr := [.tok p18 106 15 (x17).length c19, .box b7 98 [sb a1.Ask, si a1.Cmd.Kind, si a1.Cmd.DC, si a1.Cmd.Shard, si a1.Cmd.Node, si a1.Cmd.Mode, sg a1.Cmd.Key, si a1.DC, si a1.Msg.Kind, (1, [.int .u64 (a1.Msg.Id)]), (1, [.int .u64 (a1.Msg.N)]), (1, [.int .u64 (a1.Msg.TS)]), sg a1.Msg.Lo, sg a1.Msg.Hi, (1, [.slice p2 (a1.Msg.Vers).length c3]), (1, [.slice p4 (a1.Msg.Vec).length c5]), si a1.Msg.Cmd.Kind, si a1.Msg.Cmd.DC, si a1.Msg.Cmd.Shard, si a1.Msg.Cmd.Node, si a1.Msg.Cmd.Mode, sg a1.Msg.Cmd.Key]]) (args := #[.pointer none]) (f := 72) hF (hS.selp [0, 1] (by decide) (by kernel_rfl)) (by kernel_rfl) (by kernel_rfl) (fun hS => C_warden_Warden_Modes_nil0 N    rfl (hS.pick [] (by kernel_rfl)) hx28) ?_)
 rintro _ κ w a ⟨rfl, h2⟩ hF hB
 have hS := hB _ _ h2
 refine wl_pure (L' := [(56, .bool (true)), (58, .agg (flat [(21, (encs (fInt .i64) x28))]).toArray), (59, .agg (flat [(21, (encs (fInt .i64) (List.replicate 21 0)))]).toArray)]) 1 [56, 58, 59] hF (by kernel_rfl) fun a hF => ?_
 refine wcg hF (wo_val hF (by kernel_rfl) (v := .bool ((cEq (flat [(21, (encs (fInt .i64) x28))]) (flat [(21, (encs (fInt .i64) (List.replicate 21 0)))])))) ((val_eq (neg := false) (xs := (flat [(21, (encs (fInt .i64) x28))])) (ys := (flat [(21, (encs (fInt .i64) (List.replicate 21 0)))])) (ks := [.int .i64, .int .i64, .int .i64, .int .i64, .int .i64, .int .i64, .int .i64, .int .i64, .int .i64, .int .i64, .int .i64, .int .i64, .int .i64, .int .i64, .int .i64, .int .i64, .int .i64, .int .i64, .int .i64, .int .i64, .int .i64]) 20 (by decide) rfl (by kernel_rfl) (by kernel_rfl) (by kernel_rfl) (by kernel_rfl) (typed_cons (typed_len (fun _ => rfl) (hS.get 0 rfl)) typed_nil) (typed_cons (typed_len (t := (fInt .i64)) (k := .int .i64) (l := (List.replicate 21 0)) (n := 21) (fun _ => rfl) List.length_replicate) typed_nil) (by kernel_rfl)) _) fun a hF => ?_)
 refine wp 2 [2] hF fun a hF => ?_
 refine wpListIn_nil ?_
 cases hv15
 exact ⟨_, hF.kp [2], hS.sp [] [], trivial⟩
 have hF := hF.boolv 56 (by kernel_rfl) hb
 refine wp 6 [2] hF fun a hF => ?_
 refine wpListIn_nil ?_
 cases hv15
 exact ⟨_, hF.kp [2], hS.sp [] [], trivial⟩
 have hF := hF.boolv 50 (by kernel_rfl) hb
 refine wp 12 [2] hF fun a hF => ?_
 refine wpListIn_nil ?_
 cases hv15
 exact ⟨_, hF.kp [2], hS.sp [] [], trivial⟩
 have hF := hF.boolv 44 (by kernel_rfl) hb
 refine wp 18 [2] hF fun a hF => ?_
 refine wpListIn_nil ?_
 cases hv15
 exact ⟨_, hF.kp [2], hS.sp [] [], trivial⟩
 have hF := hF.boolv 39 (by kernel_rfl) hb
 refine wp 23 [2] hF fun a hF => ?_
 refine wpListIn_nil ?_
 cases hv15
 exact ⟨_, hF.kp [2], hS.sp [] [], trivial⟩
 have hF := hF.boolv 34 (by kernel_rfl) hb
 refine wp 28 [2] hF fun a hF => ?_
 refine wpListIn_nil ?_
 cases hv15
 exact ⟨_, hF.kp [2], hS.sp [] [], trivial⟩
 have hF := hF.boolv 28 (by kernel_rfl) hb
 refine wp 34 [2] hF fun a hF => ?_
 refine wpListIn_nil ?_
 cases hv15
 exact ⟨_, hF.kp [2], hS.sp [] [], trivial⟩
 have hF := hF.boolv 24 (by kernel_rfl) hb
 refine wp 38 [2] hF fun a hF => ?_
 refine wpListIn_nil ?_
 cases hv15
 exact ⟨_, hF.kp [2], hS.sp [] [], trivial⟩
 have hF := hF.boolv 20 (by kernel_rfl) hb
 refine wp 42 [2] hF fun a hF => ?_
 refine wpListIn_nil ?_
 cases hv15
 exact ⟨_, hF.kp [2], hS.sp [] [], trivial⟩
 rintro a w ⟨κ, hF, hS, -⟩
 refine hK13 _ _ ?_
 refine wpIn_ret ?_
 cases H
 exact (ret_done hF hS (res1 Try.results22 (rvt hF)) ⟨rfl, (hS.pick [] (by kernel_rfl)).ro, hS.newC [] (by decide) (by kernel_rfl)⟩)
end Go.Cf
