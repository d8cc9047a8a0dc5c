/- The walks: each function returns what its model says. Printed by a program of ours. -/
import Derived.Test.YteeafoagaaedcaaZMnN
import Derived.Test.YteeafoagaaedcaaZWt1
import Derived.Test.YteeafoagaaedcaaZWt2
import Derived.Test.YteeafoagaaedcaaZWtN
import Derived.Test.YteeafoagaaedcaaZWn1
import Derived.Test.YteeafoagaaedcaaZWn2
import Derived.Test.YteeafoagaaedcaaZWn3
import Derived.Test.YteeafoagaaedcaaZWn4
namespace Go.Cf
open Go Go.Proofs
set_option linter.unusedVariables false
set_option maxRecDepth 20000 in
set_option maxHeartbeats 8000000 in
theorem C_node_Node_Take_nil0 (N : Nat) {Ms : List Nat} {κ0 : Gh} {w0 : World} (a1 : T_api_Msg) (a6 : Int) (p2 : Option Addr) (c3 : Nat) (p4 : Option Addr) (c5 : Nat) (hB : SB Ms κ0 w0 [] [Ro.mp f_api_Ver.ty p2 c3 a1.Vers, Ro.mp (fInt .u64).ty p4 c5 a1.Vec]) {r : (T_api_Msg × Bool)} (H : M.node_Node_Take_nil0 N a1 a6 = some r) :
    Calls Try.prog 62 #[.pointer none, .agg (flat [si a1.Kind, su a1.Id, su a1.N, su a1.TS, sg a1.Lo, sg a1.Hi, sl p2 (a1.Vers).length c3, sl p4 (a1.Vec).length c5, si a1.Cmd.Kind, si a1.Cmd.DC, si a1.Cmd.Shard, si a1.Cmd.Node, si a1.Cmd.Mode, sg a1.Cmd.Key]).toArray, vi a6] w0 (Post Ms κ0 w0 fun v κ w => ∃ (p13 : Option Addr) (c14 : Nat) (p15 : Option Addr) (c16 : Nat), v = .tuple #[.agg (flat [si r.1.Kind, su r.1.Id, su r.1.N, su r.1.TS, sg r.1.Lo, sg r.1.Hi, sl p13 (r.1.Vers).length c14, sl p15 (r.1.Vec).length c16, si r.1.Cmd.Kind, si r.1.Cmd.DC, si r.1.Cmd.Shard, si r.1.Cmd.Node, si r.1.Cmd.Mode, sg r.1.Cmd.Key]).toArray, vb r.2] ∧ SS Ms κ0 w0 κ w [.tok p13 37 6 (r.1.Vers).length c14, .tok p15 25 1 (r.1.Vec).length c16] [Ro.mp f_api_Ver.ty p13 c14 r.1.Vers, Ro.mp (fInt .u64).ty p15 c16 r.1.Vec]) := by
 have hS := hB.hS
 have hfr := hS.fresh
 refine enterM (N := (295)) (L := [(0, .pointer none), (1, .agg (flat [si a1.Kind, su a1.Id, su a1.N, su a1.TS, sg a1.Lo, sg a1.Hi, sl p2 (a1.Vers).length c3, sl p4 (a1.Vec).length c5, si a1.Cmd.Kind, si a1.Cmd.DC, si a1.Cmd.Shard, si a1.Cmd.Node, si a1.Cmd.Mode, sg a1.Cmd.Key]).toArray), (2, vi a6)]) Try.func62 rfl Try.ntmps62 (show 3 ≤ (295) by decide) rfl fun a hF => ?_
 unfold M.node_Node_Take_nil0 at H
 refine wpIn_seq_k fun K7 hK7 => ?_
 refine wpIn_region_lit ?_
 refine wc (wbx hF hS [si a1.Kind, su a1.Id, su a1.N, su a1.TS, sg a1.Lo, sg a1.Hi, sl p2 (a1.Vers).length c3, sl p4 (a1.Vec).length c5, si a1.Cmd.Kind, si a1.Cmd.DC, si a1.Cmd.Shard, si a1.Cmd.Node, si a1.Cmd.Mode, sg a1.Cmd.Key] (sgN 14 sgNil) fun b8 a w hF hS => ?_)
 refine wc (wal hF hS [si 0, su 0, su 0, su 0, sg ByteArray.empty, sg ByteArray.empty, sl none 0 0, sl none 0 0, si 0, si 0, si 0, si 0, si 0, sg ByteArray.empty] (sgN 14 sgNil) fun b9 a w hF hS => ?_)
 refine wp 1 [0, 2, 4, 6] hF fun a hF => ?_
 refine wpListIn_nil ?_
 refine hK7 _ _ ?_
 refine wpIn_seq_k fun K10 hK10 => ?_
 refine wpIn_seq_k fun K11 hK11 => ?_
 refine wpIn_region_lit ?_
 refine wp 10 [0, 2, 4, 6, 27] hF fun a hF => ?_
 refine wpListIn_nil ?_
 refine hK11 _ _ ?_
 refine cond_t hF (by kernel_rfl) rfl ?_
 refine wpIn_seq_k fun K12 hK12 => ?_
 refine wpIn_region_lit ?_
 refine wp 1 [6, 28] hF fun a hF => ?_
 refine wc (wst hF hS 0 0 14 [si 0, su 0, su 0, su 0, sg ByteArray.empty, sg ByteArray.empty, sl none 0 0, sl none 0 0, si 0, si 0, si 0, si 0, si 0, sg ByteArray.empty] (sgN 14 sgNil) fun a w hF hS => ?_)
 refine wp 1 [6, 7] hF fun a hF => ?_
 refine wpListIn_nil ?_
 refine hK12 _ _ ?_
 refine wpIn_ret ?_
 have hS' := hS
 have hS := hS.add (m := Ro.mp f_api_Ver.ty none 0 ([] : List T_api_Ver)) (Ro.nil f_api_Ver.ty _ _)
 have hS := hS.add (m := Ro.mp (fInt .u64).ty none 0 ([] : List Int)) (Ro.nil (fInt .u64).ty _ _)
 have hS := hS.addNil 37 6
 have hS := hS.addNil 25 1
 cases H
 exact ret_done0 hF hS (res2 Try.results62 (rvs hF hS' 0 0 14) (rvt hF)) ⟨none, 0, none, 0, rfl, hS.sp [1, 0] [1, 0]⟩
set_option maxRecDepth 20000 in
set_option maxHeartbeats 8000000 in
theorem C_node_Node_Beat_nil0 (N : Nat) {Ms : List Nat} {κ0 : Gh} {w0 : World} (a1 : Int)  (hB : SB Ms κ0 w0 [] []) {r : (T_api_Msg × Bool)} (H : M.node_Node_Beat_nil0 N a1 = some r) :
    Calls Try.prog 70 #[.pointer none, vi a1] w0 (Post Ms κ0 w0 fun v κ w => ∃ (p7 : Option Addr) (c8 : Nat) (p9 : Option Addr) (c10 : Nat), v = .tuple #[.agg (flat [si r.1.Kind, su r.1.Id, su r.1.N, su r.1.TS, sg r.1.Lo, sg r.1.Hi, sl p7 (r.1.Vers).length c8, sl p9 (r.1.Vec).length c10, si r.1.Cmd.Kind, si r.1.Cmd.DC, si r.1.Cmd.Shard, si r.1.Cmd.Node, si r.1.Cmd.Mode, sg r.1.Cmd.Key]).toArray, vb r.2] ∧ SS Ms κ0 w0 κ w [.tok p7 37 6 (r.1.Vers).length c8, .tok p9 25 1 (r.1.Vec).length c10] [Ro.mp f_api_Ver.ty p7 c8 r.1.Vers, Ro.mp (fInt .u64).ty p9 c10 r.1.Vec]) := by
 have hS := hB.hS
 have hfr := hS.fresh
 refine enter (N := (25)) (L := [(0, .pointer none), (1, vi a1)]) Try.func70 rfl Try.ntmps70 (show 2 ≤ (25) by decide) rfl fun a hF => ?_
 unfold M.node_Node_Beat_nil0 at H
 refine wpIn_seq_k fun K2 hK2 => ?_
 refine wpIn_region_lit ?_
 refine wc (wal hF hS [si 0, su 0, su 0, su 0, sg ByteArray.empty, sg ByteArray.empty, sl none 0 0, sl none 0 0, si 0, si 0, si 0, si 0, si 0, sg ByteArray.empty] (sgN 14 sgNil) fun b3 a w hF hS => ?_)
 refine wp 1 [0, 1, 4] hF fun a hF => ?_
 refine wpListIn_nil ?_
 refine hK2 _ _ ?_
 refine wpIn_seq_k fun K4 hK4 => ?_
 refine wpIn_seq_k fun K5 hK5 => ?_
 refine wpIn_region_lit ?_
 refine wp 2 [0, 1, 4, 9] hF fun a hF => ?_
 refine wpListIn_nil ?_
 refine hK5 _ _ ?_
 refine cond_t hF (by kernel_rfl) rfl ?_
 refine wpIn_seq_k fun K6 hK6 => ?_
 refine wpIn_region_lit ?_
 refine wp 1 [4, 10] hF fun a hF => ?_
 refine wc (wst hF hS 0 0 14 [si 0, su 0, su 0, su 0, sg ByteArray.empty, sg ByteArray.empty, sl none 0 0, sl none 0 0, si 0, si 0, si 0, si 0, si 0, sg ByteArray.empty] (sgN 14 sgNil) fun a w hF hS => ?_)
 refine wp 1 [4, 5] hF fun a hF => ?_
 refine wpListIn_nil ?_
 refine hK6 _ _ ?_
 refine wpIn_ret ?_
 have hS' := hS
 have hS := hS.add (m := Ro.mp f_api_Ver.ty none 0 ([] : List T_api_Ver)) (Ro.nil f_api_Ver.ty _ _)
 have hS := hS.add (m := Ro.mp (fInt .u64).ty none 0 ([] : List Int)) (Ro.nil (fInt .u64).ty _ _)
 have hS := hS.addNil 37 6
 have hS := hS.addNil 25 1
 cases H
 exact ret_done hF hS (res2 Try.results70 (rvs hF hS' 0 0 14) (rvt hF)) ⟨none, 0, none, 0, rfl, hS.sp [1, 0] [1, 0]⟩
set_option maxRecDepth 20000 in
set_option maxHeartbeats 8000000 in
theorem C_node_Node_Owns_nil0 (N : Nat) {Ms : List Nat} {κ0 : Gh} {w0 : World} (a1 : ByteArray)  (hB : SB Ms κ0 w0 [] []) {r : (Bool)} (H : M.node_Node_Owns_nil0 N a1 = some r) :
    Calls Try.prog 63 #[.pointer none, .string (a1)] w0 (Post Ms κ0 w0 fun v κ w => v = vb r ∧ SS Ms κ0 w0 κ w [] []) := by
 have hS := hB.hS
 have hfr := hS.fresh
 refine enter (N := (25)) (L := [(0, .pointer none), (1, .string (a1))]) Try.func63 rfl Try.ntmps63 (show 2 ≤ (25) by decide) rfl fun a hF => ?_
 unfold M.node_Node_Owns_nil0 at H
 refine wpIn_seq_k fun K2 hK2 => ?_
 refine wpIn_region_lit ?_
 refine wp 1 [0, 1] hF fun a hF => ?_
 refine wpListIn_nil ?_
 refine hK2 _ _ ?_
 refine wpIn_seq_k fun K3 hK3 => ?_
 refine wpIn_seq_k fun K4 hK4 => ?_
 refine wpIn_region_lit ?_
 refine wp 2 [0, 1, 8] hF fun a hF => ?_
 refine wpListIn_nil ?_
 refine hK4 _ _ ?_
 refine cond_t hF (by kernel_rfl) rfl ?_
 refine wpIn_seq_k fun K5 hK5 => ?_
 refine wpIn_region_lit ?_
 refine wp 1 [4] hF fun a hF => ?_
 refine wpListIn_nil ?_
 refine hK5 _ _ ?_
 refine wpIn_ret ?_
 cases H
 exact ret_done hF hS (res1 Try.results63 (rvt hF)) ⟨rfl, hS.sp [] []⟩
set_option maxRecDepth 20000 in
set_option maxHeartbeats 8000000 in
theorem C_node_Node_Versions_nil0 (N : Nat) {Ms : List Nat} {κ0 : Gh} {w0 : World} (a1 : ByteArray) (a2 : ByteArray)  (hB : SB Ms κ0 w0 [] []) {r : (Unit)} (H : M.node_Node_Versions_nil0 N a1 a2 = some r) :
    Calls Try.prog 103 #[.pointer none, .string (a1), .string (a2)] w0 (Post Ms κ0 w0 fun v κ w => ∃ (b11 b12 b13 : Nat), v = .func (.func 79) #[] #[pt b11 0, pt b12 0, pt b13 0] ∧ SS Ms κ0 w0 κ w [.box b11 55 [(1, [.pointer none])], .box b12 9 [sg a1], .box b13 9 [sg a2]] []) := by
 have hS := hB.hS
 have hfr := hS.fresh
 refine enter (N := (19)) (L := [(0, .pointer none), (1, .string (a1)), (2, .string (a2))]) Try.func103 rfl Try.ntmps103 (show 3 ≤ (19) by decide) rfl fun a hF => ?_
 unfold M.node_Node_Versions_nil0 at H
 refine wpIn_seq_k fun K3 hK3 => ?_
 refine wpIn_region_lit ?_
 refine wp 1 [0, 1, 2] hF fun a hF => ?_
 refine wpListIn_nil ?_
 refine hK3 _ _ ?_
 refine wpIn_seq_k fun K4 hK4 => ?_
 refine wpIn_seq_k fun K5 hK5 => ?_
 refine wpIn_region_lit ?_
 refine wp 2 [0, 1, 2, 8] hF fun a hF => ?_
 refine wpListIn_nil ?_
 refine hK5 _ _ ?_
 refine cond_t hF (by kernel_rfl) rfl ?_
 refine wpIn_seq_k fun K6 hK6 => ?_
 refine wpIn_region_lit ?_
 refine wp 2 [9, 10] hF fun a hF => ?_
 refine bind_split H (fun x7 hx7 H => ?_)
 refine wc (wcS 0 [] hF hS (fun hS => C_store_Store_All_nil0 N a1 a2   ⟨rfl, hS.pick [] (by kernel_rfl)⟩ hx7) ?_)
 rintro _ κ w a ⟨b8, b9, b10, rfl, h2⟩ hF hB
 have hS := hB _ _ h2
 refine wp 1 [6] hF fun a hF => ?_
 refine wpListIn_nil ?_
 refine hK6 _ _ ?_
 refine wpIn_ret ?_
 cases H
 exact ret_done hF hS (res1 Try.results103 (rvt hF)) ⟨b8, b9, b10, rfl, hS.sp [0, 1, 2] []⟩
set_option maxRecDepth 20000 in
set_option maxHeartbeats 8000000 in
theorem C_node_Node_Mode_nil0 (N : Nat) {Ms : List Nat} {κ0 : Gh} {w0 : World} (a1 : Int)  (hB : SB Ms κ0 w0 [] []) {r : (Int)} (H : M.node_Node_Mode_nil0 N a1 = some r) :
    Calls Try.prog 67 #[.pointer none, vi a1] w0 (Post Ms κ0 w0 fun v κ w => v = vi r ∧ SS Ms κ0 w0 κ w [] []) := by
 have hS := hB.hS
 have hfr := hS.fresh
 refine enter (N := (30)) (L := [(0, .pointer none), (1, vi a1)]) Try.func67 rfl Try.ntmps67 (show 2 ≤ (30) by decide) rfl fun a hF => ?_
 unfold M.node_Node_Mode_nil0 at H
 refine wpIn_seq_k fun K2 hK2 => ?_
 refine wpIn_region_lit ?_
 refine wp 1 [0, 1] hF fun a hF => ?_
 refine wpListIn_nil ?_
 refine hK2 _ _ ?_
 refine wpIn_seq_k fun K3 hK3 => ?_
 refine wpIn_seq_k fun K4 hK4 => ?_
 refine wpIn_region_lit ?_
 refine wp 16 [0, 1, 20] hF fun a hF => ?_
 refine wpListIn_nil ?_
 refine hK4 _ _ ?_
 refine cond_t hF (by kernel_rfl) rfl ?_
 refine wpIn_seq_k fun K5 hK5 => ?_
 refine wpIn_region_lit ?_
 refine wp 1 [4] hF fun a hF => ?_
 refine wpListIn_nil ?_
 refine hK5 _ _ ?_
 refine wpIn_ret ?_
 cases H
 exact ret_done hF hS (res1 Try.results67 (rvt hF)) ⟨rfl, hS.sp [] []⟩
set_option maxRecDepth 20000 in
set_option maxHeartbeats 8000000 in
theorem C_node_Node_Open_nil0 (N : Nat) {Ms : List Nat} {κ0 : Gh} {w0 : World}   (hB : SB Ms κ0 w0 [] []) {r : (Int)} (H : M.node_Node_Open_nil0 N  = some r) :
    Calls Try.prog 69 #[.pointer none] w0 (Post Ms κ0 w0 fun v κ w => v = vi r ∧ SS Ms κ0 w0 κ w [] []) := by
 have hS := hB.hS
 have hfr := hS.fresh
 refine enter (N := (10)) (L := [(0, .pointer none)]) Try.func69 rfl Try.ntmps69 (show 1 ≤ (10) by decide) rfl fun a hF => ?_
 unfold M.node_Node_Open_nil0 at H
 refine wpIn_seq_k fun K1 hK1 => ?_
 refine wpIn_region_lit ?_
 refine wp 1 [0] hF fun a hF => ?_
 refine wpListIn_nil ?_
 refine hK1 _ _ ?_
 refine wpIn_seq_k fun K2 hK2 => ?_
 refine wpIn_seq_k fun K3 hK3 => ?_
 refine wpIn_region_lit ?_
 refine wp 2 [0, 4] hF fun a hF => ?_
 refine wpListIn_nil ?_
 refine hK3 _ _ ?_
 refine cond_t hF (by kernel_rfl) rfl ?_
 refine wpIn_seq_k fun K4 hK4 => ?_
 refine wpIn_region_lit ?_
 refine wp 1 [2] hF fun a hF => ?_
 refine wpListIn_nil ?_
 refine hK4 _ _ ?_
 refine wpIn_ret ?_
 cases H
 exact ret_done hF hS (res1 Try.results69 (rvt hF)) ⟨rfl, hS.sp [] []⟩
set_option maxRecDepth 20000 in
set_option maxHeartbeats 8000000 in
theorem C_law20_all_nil0 (N : Nat) {Ms : List Nat} {κ0 : Gh} {w0 : World} (a1 : ByteArray) (a2 : ByteArray)  (hB : SB Ms κ0 w0 [] []) {r : ((List T_api_Ver))} (H : M.law20_all_nil0 N a1 a2 = some r) :
    Calls Try.prog 66 #[.pointer none, .string (a1), .string (a2)] w0 (Post Ms κ0 w0 fun v κ w => ∃ (p75 : Option Addr) (c76 : Nat), v = .slice p75 (r).length c76 ∧ SS Ms κ0 w0 κ w [.tok p75 37 6 (r).length c76] [Ro.mp f_api_Ver.ty p75 c76 r]) := by
 have hS := hB.hS
 have hfr := hS.fresh
 refine enterM (N := (19)) (L := [(0, .pointer none), (1, .string (a1)), (2, .string (a2))]) Try.func66 rfl Try.ntmps66 (show 3 ≤ (19) by decide) rfl fun a hF => ?_
 unfold M.law20_all_nil0 at H
 refine wpIn_seq_k fun K3 hK3 => ?_
 refine wpIn_region_lit ?_
 refine wp 1 [0, 1, 2] hF fun a hF => ?_
 refine wpListIn_nil ?_
 refine hK3 _ _ ?_
 refine wpIn_seq_k fun K4 hK4 => ?_
 refine wpIn_region_lit ?_
 refine wc (wal hF hS [sl none 0 0] (sgN 1 sgNil) fun b5 a w hF hS => ?_)
 refine wpListIn_nil ?_
 refine hK4 _ _ ?_
 refine wpIn_seq_k fun K6 hK6 => ?_
 refine wpIn_seq_k fun K7 hK7 => ?_
 refine wpIn_region_lit ?_
 refine wl_pure (L' := [(7, pt b5 0), (9, .pointer none), (10, .string (a1)), (11, .string (a2))]) 3 [7, 9, 10, 11] hF (by kernel_rfl) fun a hF => ?_
 refine bind_split H (fun x8 hx8 H => ?_)
 refine wc (wcS 0 [0] hF hS (fun hS => C_node_Node_Versions_nil0 N a1 a2   ⟨rfl, hS.pick [] (by kernel_rfl)⟩ hx8) ?_)
 rintro _ κ w a ⟨b9, b10, b11, rfl, h2⟩ hF hB
 have hS := hB _ _ h2
 refine wpListIn_nil ?_
 refine hK7 _ _ ?_
 refine wpIn_block ?_
 refine bind_split H (fun v73 hv73 H => ?_)
 have hS := hS.add (m := Ro.mp f_api_Ver.ty none 0 ([] : List T_api_Ver)) (Ro.nil f_api_Ver.ty _ _)
 have hS := hS.addNil 37 6
 have hS : SS Ms κ0 w0 _ _ [.box b5 39 [sl none 0 0], .tok none 37 6 0 0, .box b9 55 [(1, [.pointer none])], .box b10 9 [sg a1], .box b11 9 [sg a2]] _ := hS.selp [4, 0, 1, 2, 3] (by decide) (by kernel_rfl)
 refine wp_rangeC' (C := [.box b5 39 [sl none 0 0], .tok none 37 6 0 0]) (Cap := [.box b9 55 [(1, [.pointer none])], .box b10 9 [sg a1], .box b11 9 [sg a2]]) (Cap2 := [.box b9 55 [(1, [.pointer none])], .box b10 9 [sg a1], .box b11 9 [sg a2]]) (Rc := []) (R' := [Ro.mp f_api_Ver.ty none 0 ([] : List T_api_Ver)]) (caps := #[pt b9 0, pt b10 0, pt b11 0]) (f := 79) [] (fun l => #[.func (.yield l) #[] #[], pt b9 0, pt b10 0, pt b11 0]) hF hS (by kernel_rfl) (fun _ _ => rfl) ((hS.pick [0] (by kernel_rfl)).ro) (fun l => by kernel_rfl) fun b12 l rc w hrc hS => ?_
 refine ⟨fun x => (fun (v67 : ((List T_api_Ver) × Nat)) (x : XF) => ∃ (p65 : Option Addr) (c66 : Nat), x = mkX b12 l (lp rc [] v67.2) [.box b5 39 [sl p65 (v67.1).length c66], .tok p65 37 6 (v67.1).length c66] [Ro.mp f_api_Ver.ty p65 c66 v67.1]) v73 x, ?_, ?_⟩
 have hS := (hS.rebase.add (m := MP.const ((fun (v67 : ((List T_api_Ver) × Nat)) (x : XF) => ∃ (p65 : Option Addr) (c66 : Nat), x = mkX b12 l (lp rc [] v67.2) [.box b5 39 [sl p65 (v67.1).length c66], .tok p65 37 6 (v67.1).length c66] [Ro.mp f_api_Ver.ty p65 c66 v67.1]) (([] : List T_api_Ver), 0) (mkX b12 l (lp rc [] 0) [.box b5 39 [sl none 0 0], .tok none 37 6 0 0] [Ro.mp f_api_Ver.ty none 0 ([] : List T_api_Ver)]))) ⟨none, 0, rfl⟩).pick (R' := [MP.const ((fun (v67 : ((List T_api_Ver) × Nat)) (x : XF) => ∃ (p65 : Option Addr) (c66 : Nat), x = mkX b12 l (lp rc [] v67.2) [.box b5 39 [sl p65 (v67.1).length c66], .tok p65 37 6 (v67.1).length c66] [Ro.mp f_api_Ver.ty p65 c66 v67.1]) (([] : List T_api_Ver), 0) (mkX b12 l (lp rc [] 0) [.box b5 39 [sl none 0 0], .tok none 37 6 0 0] [Ro.mp f_api_Ver.ty none 0 ([] : List T_api_Ver)]))]) [0] (by kernel_rfl)
 refine C_store_Store_All_1_nil0 N (Y := (fun (v67 : ((List T_api_Ver) × Nat)) (x : XF) => ∃ (p65 : Option Addr) (c66 : Nat), x = mkX b12 l (lp rc [] v67.2) [.box b5 39 [sl p65 (v67.1).length c66], .tok p65 37 6 (v67.1).length c66] [Ro.mp f_api_Ver.ty p65 c66 v67.1])) (B := (fun (v67 : ((List T_api_Ver) × Nat)) x13 => bif (v67.2 == 0) then (Option.bind (apd v67.1 [(T_api_Ver.mk x13.Key x13.Val x13.Gone x13.TS x13.DC x13.Tx)]) fun x70 => (some (((x70, 0)), true))) else none)) (l := l) ?_ a1 a2  hS hv73
 rintro v67 _ κ w x13  s' c ⟨p65, c66, rfl⟩ hp hf hnd hlt hR H
 refine bif_split H (fun hn H => ?_) (fun _ H => by cases H)
 refine round_at (L := [(7, pt b5 0), (13, .agg (flat [sg x13.Key, sg x13.Val, sb x13.Gone, su x13.TS, si x13.DC, si x13.Tx]).toArray)]) hp hf hnd hlt hn hrc rfl [7, 13] hF (by kernel_rfl) (by kernel_rfl) fun a hF hS => ?_
 have hS := hS.adds hR
 skip
 refine wpIn_region_lit ?_
 refine wc (wal hF hS [sg ByteArray.empty, sg ByteArray.empty, sb false, su 0, si 0, si 0] (sgN 6 sgNil) fun b68 a w hF hS => ?_)
 refine wc (wst hF hS 0 0 6 [sg x13.Key, sg x13.Val, sb x13.Gone, su x13.TS, si x13.DC, si x13.Tx] (sgN 6 sgNil) fun a w hF hS => ?_)
 refine wpListIn_nil ?_
 refine ⟨_, _, _, hS, fun wb hS => ?_⟩
 obtain ⟨κb, hκb⟩ : ∃ κb, κb = κ := ⟨_, rfl⟩
 subst hκb
 refine wpIn_block ?_
 refine wpIn_region_lit ?_
 refine wc (wld hF hS 1 0 0 fun a hF => ?_)
 refine wc (wls hF hS 0 0 6 fun a hF => ?_)
 refine wc (wo_buildN (t := f_api_Ver) (z := .agg (flat [sg ByteArray.empty, sg ByteArray.empty, sb false, su 0, si 0, si 0]).toArray) (l := [(T_api_Ver.mk x13.Key x13.Val x13.Gone x13.TS x13.DC x13.Tx)]) (vs := [(0, .agg (flat [sg x13.Key, sg x13.Val, sb x13.Gone, su x13.TS, si x13.DC, si x13.Tx]).toArray)]) (cells := #[.string (x13.Key), .string (x13.Val), vb x13.Gone, vu x13.TS, vi x13.DC, vi x13.Tx]) (E := 37) hF hS (by kernel_rfl) rfl (by kernel_rfl) (by kernel_rfl) rfl (by kernel_rfl) (by kernel_rfl) (by kernel_rfl) (by kernel_rfl) (by kernel_rfl) fun p69 κ a w hF hS => ?_)
 refine bind_split H (fun x70 hx70 H => ?_)
 refine wc (wo_append (ty := f_api_Ver.ty) hF hS (by kernel_rfl) 3 1 0 rfl rfl rfl (by kernel_rfl) (by kernel_rfl) rfl rfl rfl hx70 (by kernel_rfl) (i := Try.t37) (z := .agg (flat [sg ByteArray.empty, sg ByteArray.empty, sb false, su 0, si 0, si 0]).toArray) (by kernel_rfl) (by kernel_rfl) (by kernel_rfl) fun p71 c72 κ a w hF hS => ?_)
 refine wc (wst hF hS 2 0 1 [sl p71 (x70).length c72] (sgN 1 sgNil) fun a w hF hS => ?_)
 refine wpListIn_nil ?_
 cases H
 try dsimp only [Exit.inBlock, Exit.then]
 repeat rw [if_neg (by decide)]
 refine re_normal [] (C := [.box b5 39 [sl p71 (x70).length c72], .tok p71 37 6 (x70).length c72]) (R := [Ro.mp f_api_Ver.ty p71 c72 x70]) (hS.sp [2, 3] [0]) ?_
 exact ⟨p71, c72, rfl⟩
 rintro _ ⟨p65, c66, rfl⟩
 refine ⟨_, _, _, rfl, fun κ w a hF hS => ?_⟩
 refine bif_split H (fun hb H => ?_) (fun hb H => ?_)
 refine jumped0 hb ?_
 refine hK6 _ _ ?_
 refine wpIn_seq_k fun K74 hK74 => ?_
 refine wpIn_region_lit ?_
 refine wc (wld hF hS 1 0 0 fun a hF => ?_)
 refine wl_pure (L' := [(6, .slice p65 (v73.1).length c66)]) 1 [6] hF (by kernel_rfl) fun a hF => ?_
 refine wpListIn_nil ?_
 refine hK74 _ _ ?_
 refine wpIn_ret ?_
 refine ret_doneM (C' := [.box b5 39 [sl p65 (v73.1).length c66], .tok p65 37 6 (v73.1).length c66, .box b9 55 [(1, [.pointer none])], .box b10 9 [sg a1], .box b11 9 [sg a2]]) hF hS 0 rfl (by kernel_rfl) fun w hS => ?_
 cases H
 exact ⟨_, (res1 Try.results66 (rvt hF)), ⟨p65, c66, rfl, hS.sp [1] [0]⟩⟩
 cases H
set_option maxRecDepth 20000 in
set_option maxHeartbeats 8000000 in
theorem C_law20_NodeNone (N : Nat) {κ0 : Gh} {w0 : World} (hfr : Fresh κ0 w0) (a1 : T_law20_Op) (a6 : ByteArray) (p2 : Option Addr) (c3 : Nat) (p4 : Option Addr) (c5 : Nat) (hR : ∀ m ∈ ([Ro.mp f_api_Ver.ty p2 c3 a1.Msg.Vers, Ro.mp (fInt .u64).ty p4 c5 a1.Msg.Vec] : List MP), m.p κ0 w0) {r : (Bool)} (H : M.law20_NodeNone N a1 a6 = some r) :
    Calls Try.prog 20 #[.agg (flat [si a1.Msg.Kind, su a1.Msg.Id, su a1.Msg.N, su a1.Msg.TS, sg a1.Msg.Lo, sg a1.Msg.Hi, sl p2 (a1.Msg.Vers).length c3, sl p4 (a1.Msg.Vec).length c5, si a1.Msg.Cmd.Kind, si a1.Msg.Cmd.DC, si a1.Msg.Cmd.Shard, si a1.Msg.Cmd.Node, si a1.Msg.Cmd.Mode, sg a1.Msg.Cmd.Key, si a1.Ms]).toArray, .string (a6)] w0 (Post [] κ0 w0 fun v κ w => v = vb r ∧ (∀ m ∈ ([] : List MP), m.p κ w) ∧ NewC w0 κ w []) := by
 have hS := SS.start hfr hR
 refine enter (N := (59)) (L := [(0, .agg (flat [si a1.Msg.Kind, su a1.Msg.Id, su a1.Msg.N, su a1.Msg.TS, sg a1.Msg.Lo, sg a1.Msg.Hi, sl p2 (a1.Msg.Vers).length c3, sl p4 (a1.Msg.Vec).length c5, si a1.Msg.Cmd.Kind, si a1.Msg.Cmd.DC, si a1.Msg.Cmd.Shard, si a1.Msg.Cmd.Node, si a1.Msg.Cmd.Mode, sg a1.Msg.Cmd.Key, si a1.Ms]).toArray), (1, .string (a6))]) Try.func20 rfl Try.ntmps20 (show 2 ≤ (59) by decide) rfl fun a hF => ?_
 unfold M.law20_NodeNone at H
 refine wpIn_seq_k fun K7 hK7 => ?_
 refine wpIn_region_lit ?_
 refine wc (wbx hF hS [si a1.Msg.Kind, su a1.Msg.Id, su a1.Msg.N, su a1.Msg.TS, sg a1.Msg.Lo, sg a1.Msg.Hi, sl p2 (a1.Msg.Vers).length c3, sl p4 (a1.Msg.Vec).length c5, si a1.Msg.Cmd.Kind, si a1.Msg.Cmd.DC, si a1.Msg.Cmd.Shard, si a1.Msg.Cmd.Node, si a1.Msg.Cmd.Mode, sg a1.Msg.Cmd.Key, si a1.Ms] (sgN 15 sgNil) fun b8 a w hF hS => ?_)
 refine wp 1 [1, 2] hF fun a hF => ?_
 refine wpListIn_nil ?_
 refine hK7 _ _ ?_
 refine wpIn_seq_k fun K9 hK9 => ?_
 refine wpIn_region_lit ?_
 refine wp 1 [1, 2, 5] hF fun a hF => ?_
 refine wpListIn_nil ?_
 refine hK9 _ _ ?_
 refine wpIn_seq_k fun K10 hK10 => ?_
 refine wpIn_region_lit ?_
 refine wp 2 [1, 2, 5, 11, 12] hF fun a hF => ?_
 refine wc (wls hF hS 0 0 14 fun a hF => ?_)
 refine wp 1 [1, 2, 5, 11, 13, 14] hF fun a hF => ?_
 refine wc (wld hF hS 0 14 0 fun a hF => ?_)
 refine bind_split H (fun x11 hx11 H => ?_)
 refine wc (wcS 0 [0] hF hS (fun hS => C_node_Node_Take_nil0 N (T_api_Msg.mk a1.Msg.Kind a1.Msg.Id a1.Msg.N a1.Msg.TS a1.Msg.Lo a1.Msg.Hi a1.Msg.Vers a1.Msg.Vec (T_api_Cmd.mk a1.Msg.Cmd.Kind a1.Msg.Cmd.DC a1.Msg.Cmd.Shard a1.Msg.Cmd.Node a1.Msg.Cmd.Mode a1.Msg.Cmd.Key)) a1.Ms p2 c3 p4 c5  ⟨rfl, hS.pick [0, 1] (by kernel_rfl)⟩ hx11) ?_)
 rintro _ κ w a ⟨p12, c13, p14, c15, rfl, h2⟩ hF hB
 have hS := hB _ _ h2
 refine wp 3 [1, 2, 5, 17, 18] hF fun a hF => ?_
 refine wc (wal hF hS [si 0, su 0, su 0, su 0, sg ByteArray.empty, sg ByteArray.empty, sl none 0 0, sl none 0 0, si 0, si 0, si 0, si 0, si 0, sg ByteArray.empty] (sgN 14 sgNil) fun b16 a w hF hS => ?_)
 refine wc (wst hF hS 0 0 14 [si x11.1.Kind, su x11.1.Id, su x11.1.N, su x11.1.TS, sg x11.1.Lo, sg x11.1.Hi, sl p12 (x11.1.Vers).length c13, sl p14 (x11.1.Vec).length c15, si x11.1.Cmd.Kind, si x11.1.Cmd.DC, si x11.1.Cmd.Shard, si x11.1.Cmd.Node, si x11.1.Cmd.Mode, sg x11.1.Cmd.Key] (sgN 14 sgNil) fun a w hF hS => ?_)
 refine wp 1 [1, 2, 5, 7] hF fun a hF => ?_
 refine wpListIn_nil ?_
 refine hK10 _ _ ?_
 refine wpIn_seq_k fun K17 hK17 => ?_
 refine wpIn_region_lit ?_
 refine wp 2 [1, 2, 5, 7, 20, 21] hF fun a hF => ?_
 refine wc (wld hF hS 3 14 0 fun a hF => ?_)
 refine bind_split H (fun x18 hx18 H => ?_)
 refine wc (wcS 0 (rg 4) hF hS (fun hS => C_node_Node_Beat_nil0 N a1.Ms   ⟨rfl, hS.pick [] (by kernel_rfl)⟩ hx18) ?_)
 rintro _ κ w a ⟨p19, c20, p21, c22, rfl, h2⟩ hF hB
 have hS := (hB _ _ h2).cC (C' := [.tok p19 37 6 (x18.1.Vers).length c20, .tok p21 25 1 (x18.1.Vec).length c22, .box b16 93 [si x11.1.Kind, su x11.1.Id, su x11.1.N, su x11.1.TS, sg x11.1.Lo, sg x11.1.Hi, sl p12 (x11.1.Vers).length c13, sl p14 (x11.1.Vec).length c15, si x11.1.Cmd.Kind, si x11.1.Cmd.DC, si x11.1.Cmd.Shard, si x11.1.Cmd.Node, si x11.1.Cmd.Mode, sg x11.1.Cmd.Key], .tok p12 37 6 (x11.1.Vers).length c13, .tok p14 25 1 (x11.1.Vec).length c15, .box b8 104 [si a1.Msg.Kind, su a1.Msg.Id, su a1.Msg.N, su a1.Msg.TS, sg a1.Msg.Lo, sg a1.Msg.Hi, sl p2 (a1.Msg.Vers).length c3, sl p4 (a1.Msg.Vec).length c5, si a1.Msg.Cmd.Kind, si a1.Msg.Cmd.DC, si a1.Msg.Cmd.Shard, si a1.Msg.Cmd.Node, si a1.Msg.Cmd.Mode, sg a1.Msg.Cmd.Key, si a1.Ms]])
 refine wp 3 [1, 2, 5, 7, 24, 25] hF fun a hF => ?_
 refine wc (wal hF hS [si 0, su 0, su 0, su 0, sg ByteArray.empty, sg ByteArray.empty, sl none 0 0, sl none 0 0, si 0, si 0, si 0, si 0, si 0, sg ByteArray.empty] (sgN 14 sgNil) fun b23 a w hF hS => ?_)
 refine wc (wst hF hS 0 0 14 [si x18.1.Kind, su x18.1.Id, su x18.1.N, su x18.1.TS, sg x18.1.Lo, sg x18.1.Hi, sl p19 (x18.1.Vers).length c20, sl p21 (x18.1.Vec).length c22, si x18.1.Cmd.Kind, si x18.1.Cmd.DC, si x18.1.Cmd.Shard, si x18.1.Cmd.Node, si x18.1.Cmd.Mode, sg x18.1.Cmd.Key] (sgN 14 sgNil) fun a w hF hS => ?_)
 refine wp 1 [1, 2, 5, 7, 9] hF fun a hF => ?_
 refine wpListIn_nil ?_
 refine hK17 _ _ ?_
 refine wpIn_seq_k fun K24 hK24 => ?_
 refine wpIn_region_lit ?_
 refine bind_split H (fun v26 hv26 H => ?_)
 refine wl_join (fun a w => ∃ κ : Gh, Fr (59) [] [(4, vb v26)] a ∧ SS [] κ0 w0 κ w [] [] ∧ True) ?_ ?_
 refine bind_split hv26 (fun x27 hx27 hv26 => ?_)
 refine wc (wo_callP hF hS (by kernel_rfl) (by kernel_rfl) (C_law20_awake N hS.fresh   ((hS.pick [] (by kernel_rfl)).ro) hx27) ?_)
 rintro _ κ w a ⟨rfl, hR, hN⟩ hF hS hO
 refine wp 1 [1, 2, 5, 7, 9, 27] hF fun a hF => ?_
 refine bif_split hv26 (fun hb hv26 => ?_) (fun hb hv26 => ?_)
 have hF := hF.boolv 27 (by kernel_rfl) hb
 refine wp 4 [1, 2, 5, 9, 31] hF fun a hF => ?_
 refine bif_split hv26 (fun hb hv26 => ?_) (fun hb hv26 => ?_)
 have hF := hF.boolv 31 (by kernel_rfl) hb
 refine wp 4 [1, 2, 5, 35] hF fun a hF => ?_
 refine bif_split hv26 (fun hb hv26 => ?_) (fun hb hv26 => ?_)
 have hF := hF.boolv 35 (by kernel_rfl) hb
 refine wp 2 [2, 5, 35, 36, 37] hF fun a hF => ?_
 refine bind_split hv26 (fun x28 hx28 hv26 => ?_)
 refine wcg hF (wcS 0 (rg 7) hF hS (fun hS => C_node_Node_Owns_nil0 N a6   ⟨rfl, hS.pick [] (by kernel_rfl)⟩ hx28) ?_)
 rintro _ κ w a ⟨rfl, h2⟩ hF hB
 have hS := hB _ _ h2
 refine wp 3 [2, 5, 41] hF fun a hF => ?_
 refine bif_split hv26 (fun hb hv26 => ?_) (fun hb hv26 => ?_)
 have hF := hF.boolv 41 (by kernel_rfl) hb
 refine wp 1 [2, 5, 41, 42] hF fun a hF => ?_
 refine bind_split hv26 (fun x29 hx29 hv26 => ?_)
 refine wcg hF (wcS 0 (rg 7) hF hS (fun hS => C_law20_all_nil0 N (ByteArray.mk #[]) (ByteArray.mk #[])   ⟨rfl, hS.pick [] (by kernel_rfl)⟩ hx29) ?_)
 rintro _ κ w a ⟨p30, c31, rfl, h2⟩ hF hB
 have hS := (hB _ _ h2).cC (C' := [.tok p30 37 6 (x29).length c31, .box b23 93 [si x18.1.Kind, su x18.1.Id, su x18.1.N, su x18.1.TS, sg x18.1.Lo, sg x18.1.Hi, sl p19 (x18.1.Vers).length c20, sl p21 (x18.1.Vec).length c22, si x18.1.Cmd.Kind, si x18.1.Cmd.DC, si x18.1.Cmd.Shard, si x18.1.Cmd.Node, si x18.1.Cmd.Mode, sg x18.1.Cmd.Key], .tok p19 37 6 (x18.1.Vers).length c20, .tok p21 25 1 (x18.1.Vec).length c22, .box b16 93 [si x11.1.Kind, su x11.1.Id, su x11.1.N, su x11.1.TS, sg x11.1.Lo, sg x11.1.Hi, sl p12 (x11.1.Vers).length c13, sl p14 (x11.1.Vec).length c15, si x11.1.Cmd.Kind, si x11.1.Cmd.DC, si x11.1.Cmd.Shard, si x11.1.Cmd.Node, si x11.1.Cmd.Mode, sg x11.1.Cmd.Key], .tok p12 37 6 (x11.1.Vers).length c13, .tok p14 25 1 (x11.1.Vec).length c15, .box b8 104 [si a1.Msg.Kind, su a1.Msg.Id, su a1.Msg.N, su a1.Msg.TS, sg a1.Msg.Lo, sg a1.Msg.Hi, sl p2 (a1.Msg.Vers).length c3, sl p4 (a1.Msg.Vec).length c5, si a1.Msg.Cmd.Kind, si a1.Msg.Cmd.DC, si a1.Msg.Cmd.Shard, si a1.Msg.Cmd.Node, si a1.Msg.Cmd.Mode, sg a1.Msg.Cmd.Key, si a1.Ms]])
 refine wp 4 [2, 5, 47] hF fun a hF => ?_
 refine bif_split hv26 (fun hb hv26 => ?_) (fun hb hv26 => ?_)
 have hF := hF.boolv 47 (by kernel_rfl) hb
 refine wp 2 [5, 47, 48, 49] hF fun a hF => ?_
 refine wcg hF (wld hF hS 7 14 0 fun a hF => ?_)
 refine bind_split hv26 (fun x32 hx32 hv26 => ?_)
 refine wcg hF (wcS 0 (rg 8) hF hS (fun hS => C_node_Node_Mode_nil0 N a1.Ms   ⟨rfl, hS.pick [] (by kernel_rfl)⟩ hx32) ?_)
 rintro _ κ w a ⟨rfl, h2⟩ hF hB
 have hS := hB _ _ h2
 refine wp 3 [5, 54] hF fun a hF => ?_
 refine bif_split hv26 (fun hb hv26 => ?_) (fun hb hv26 => ?_)
 have hF := hF.boolv 54 (by kernel_rfl) hb
 refine wp 1 [54, 55] hF fun a hF => ?_
 refine bind_split hv26 (fun x33 hx33 hv26 => ?_)
 refine wcg hF (wcS 0 (rg 8) hF hS (fun hS => C_node_Node_Open_nil0 N    ⟨rfl, hS.pick [] (by kernel_rfl)⟩ hx33) ?_)
 rintro _ κ w a ⟨rfl, h2⟩ hF hB
 have hS := (hB _ _ h2).cC (C' := [.tok p30 37 6 (x29).length c31, .box b23 93 [si x18.1.Kind, su x18.1.Id, su x18.1.N, su x18.1.TS, sg x18.1.Lo, sg x18.1.Hi, sl p19 (x18.1.Vers).length c20, sl p21 (x18.1.Vec).length c22, si x18.1.Cmd.Kind, si x18.1.Cmd.DC, si x18.1.Cmd.Shard, si x18.1.Cmd.Node, si x18.1.Cmd.Mode, sg x18.1.Cmd.Key], .tok p19 37 6 (x18.1.Vers).length c20, .tok p21 25 1 (x18.1.Vec).length c22, .box b16 93 [si x11.1.Kind, su x11.1.Id, su x11.1.N, su x11.1.TS, sg x11.1.Lo, sg x11.1.Hi, sl p12 (x11.1.Vers).length c13, sl p14 (x11.1.Vec).length c15, si x11.1.Cmd.Kind, si x11.1.Cmd.DC, si x11.1.Cmd.Shard, si x11.1.Cmd.Node, si x11.1.Cmd.Mode, sg x11.1.Cmd.Key], .tok p12 37 6 (x11.1.Vers).length c13, .tok p14 25 1 (x11.1.Vec).length c15, .box b8 104 [si a1.Msg.Kind, su a1.Msg.Id, su a1.Msg.N, su a1.Msg.TS, sg a1.Msg.Lo, sg a1.Msg.Hi, sl p2 (a1.Msg.Vers).length c3, sl p4 (a1.Msg.Vec).length c5, si a1.Msg.Cmd.Kind, si a1.Msg.Cmd.DC, si a1.Msg.Cmd.Shard, si a1.Msg.Cmd.Node, si a1.Msg.Cmd.Mode, sg a1.Msg.Cmd.Key, si a1.Ms]])
 refine wp 3 [4] hF fun a hF => ?_
 refine wpListIn_nil ?_
 cases hv26
 exact ⟨_, hF.kp [4], hS.sp [] [], trivial⟩
 have hF := hF.boolv 54 (by kernel_rfl) hb
 refine wp 5 [4] hF fun a hF => ?_
 refine wpListIn_nil ?_
 cases hv26
 exact ⟨_, hF.kp [4], hS.sp [] [], trivial⟩
 have hF := hF.boolv 47 (by kernel_rfl) hb
 refine wp 12 [4] hF fun a hF => ?_
 refine wpListIn_nil ?_
 cases hv26
 exact ⟨_, hF.kp [4], hS.sp [] [], trivial⟩
 have hF := hF.boolv 41 (by kernel_rfl) hb
 refine wp 18 [4] hF fun a hF => ?_
 refine wpListIn_nil ?_
 cases hv26
 exact ⟨_, hF.kp [4], hS.sp [] [], trivial⟩
 have hF := hF.boolv 35 (by kernel_rfl) hb
 refine wp 24 [4] hF fun a hF => ?_
 refine wpListIn_nil ?_
 cases hv26
 exact ⟨_, hF.kp [4], hS.sp [] [], trivial⟩
 have hF := hF.boolv 31 (by kernel_rfl) hb
 refine wp 28 [4] hF fun a hF => ?_
 refine wpListIn_nil ?_
 cases hv26
 exact ⟨_, hF.kp [4], hS.sp [] [], trivial⟩
 have hF := hF.boolv 27 (by kernel_rfl) hb
 refine wp 32 [4] hF fun a hF => ?_
 refine wpListIn_nil ?_
 cases hv26
 exact ⟨_, hF.kp [4], hS.sp [] [], trivial⟩
 rintro a w ⟨κ, hF, hS, -⟩
 refine hK24 _ _ ?_
 refine wpIn_ret ?_
 cases H
 exact (ret_done hF hS (res1 Try.results20 (rvt hF)) ⟨rfl, (hS.pick [] (by kernel_rfl)).ro, hS.newC [] (by decide) (by kernel_rfl)⟩)
end Go.Cf
