/- The walks: each function returns what its model says. Printed by a program of ours. -/
import Derived.Test.YtcplebnnanjngaaGreatZM1
import Derived.Test.YtcplebnnanjngaaGreatZWng1
import Derived.Test.YtcplebnnanjngaaGreatZWng9
import Derived.Test.YtcplebnnanjngaaGreatZWnr1
import Derived.Test.YtcplebnnanjngaaGreatZWnr3
import Derived.Test.YtcplebnnanjngaaGreatZWnr4
namespace Go.Cf
open Go Go.Proofs
set_option linter.unusedVariables false
set_option maxRecDepth 20000 in
set_option maxHeartbeats 8000000 in
theorem C_law22_GateNone (N : Nat) {κ0 : Gh} {w0 : World} (hfr : Fresh κ0 w0) (a1 : T_law22_Op) (p2 : Option Addr) (c3 : Nat) (p4 : Option Addr) (c5 : Nat) (p6 : Option Addr) (c7 : Nat) (hR : ∀ m ∈ ([Ro.mp f_api_Ver.ty p2 c3 a1.Msg.Vers, Ro.mp (fInt .u64).ty p4 c5 a1.Msg.Vec, Ro.mp f_api_Ver.ty p6 c7 a1.Writes] : List MP), m.p κ0 w0) {r : (Bool)} (H : M.law22_GateNone N a1 = some r) :
    Calls Tryz.prog 6 #[.agg (flat [si a1.Kind, si a1.From, si a1.Call, si a1.Msg.Kind, su a1.Msg.Id, su a1.Msg.N, su a1.Msg.TS, sg a1.Msg.Lo, sg a1.Msg.Hi, sl p2 (a1.Msg.Vers).length c3, sl p4 (a1.Msg.Vec).length c5, si a1.Msg.Cmd.Kind, si a1.Msg.Cmd.DC, si a1.Msg.Cmd.Shard, si a1.Msg.Cmd.Node, si a1.Msg.Cmd.Mode, sg a1.Msg.Cmd.Key, sg a1.Key, su a1.T, sl p6 (a1.Writes).length c7]).toArray] w0 (Post [] κ0 w0 fun v κ w => v = vb r ∧ (∀ m ∈ ([] : List MP), m.p κ w) ∧ NewC w0 κ w []) := by
 have hS := SS.start hfr hR
 refine enter (N := (83)) (L := [(0, .agg (flat [si a1.Kind, si a1.From, si a1.Call, si a1.Msg.Kind, su a1.Msg.Id, su a1.Msg.N, su a1.Msg.TS, sg a1.Msg.Lo, sg a1.Msg.Hi, sl p2 (a1.Msg.Vers).length c3, sl p4 (a1.Msg.Vec).length c5, si a1.Msg.Cmd.Kind, si a1.Msg.Cmd.DC, si a1.Msg.Cmd.Shard, si a1.Msg.Cmd.Node, si a1.Msg.Cmd.Mode, sg a1.Msg.Cmd.Key, sg a1.Key, su a1.T, sl p6 (a1.Writes).length c7]).toArray)]) Tryz.func6 rfl Tryz.ntmps6 (show 1 ≤ (83) by decide) rfl fun a hF => ?_
 unfold M.law22_GateNone at H
 refine wpIn_seq_k fun K8 hK8 => ?_
 refine wpIn_region_lit ?_
 refine wc (wbx hF hS [si a1.Kind, si a1.From, si a1.Call, si a1.Msg.Kind, su a1.Msg.Id, su a1.Msg.N, su a1.Msg.TS, sg a1.Msg.Lo, sg a1.Msg.Hi, sl p2 (a1.Msg.Vers).length c3, sl p4 (a1.Msg.Vec).length c5, si a1.Msg.Cmd.Kind, si a1.Msg.Cmd.DC, si a1.Msg.Cmd.Shard, si a1.Msg.Cmd.Node, si a1.Msg.Cmd.Mode, sg a1.Msg.Cmd.Key, sg a1.Key, su a1.T, sl p6 (a1.Writes).length c7] (sgN 20 sgNil) fun b9 a w hF hS => ?_)
 refine wp 1 [1] hF fun a hF => ?_
 refine wpListIn_nil ?_
 refine hK8 _ _ ?_
 refine wpIn_seq_k fun K10 hK10 => ?_
 refine wpIn_region_lit ?_
 refine wp 1 [1, 3] hF fun a hF => ?_
 refine wpListIn_nil ?_
 refine hK10 _ _ ?_
 refine wpIn_seq_k fun K11 hK11 => ?_
 refine wpIn_region_lit ?_
 refine wp 1 [1, 3, 7] hF fun a hF => ?_
 refine wc (wls hF hS 0 0 20 fun a hF => ?_)
 refine bind_split H (fun x12 hx12 H => ?_)
 refine wc (wo_callP hF hS (by kernel_rfl) (by kernel_rfl) (C_law22_few N hS.fresh (T_law22_Op.mk a1.Kind a1.From a1.Call (T_api_Msg.mk a1.Msg.Kind a1.Msg.Id a1.Msg.N a1.Msg.TS a1.Msg.Lo a1.Msg.Hi a1.Msg.Vers a1.Msg.Vec (T_api_Cmd.mk a1.Msg.Cmd.Kind a1.Msg.Cmd.DC a1.Msg.Cmd.Shard a1.Msg.Cmd.Node a1.Msg.Cmd.Mode a1.Msg.Cmd.Key)) a1.Key a1.T a1.Writes) p2 c3 p4 c5 p6 c7 ((hS.pick [0, 1, 2] (by kernel_rfl)).ro) hx12) ?_)
 rintro _ κ w a ⟨p13, c14, p15, c16, p17, c18, rfl, hR, hN⟩ hF hS hO
 have hS := hS.adds hR
 refine bind_split H (fun x19 hx19 H => ?_)
 refine wc (wcS 0 [0] hF hS (fun hS => C_law22_do_nil0 N (T_law22_Op.mk x12.Kind x12.From x12.Call (T_api_Msg.mk x12.Msg.Kind x12.Msg.Id x12.Msg.N x12.Msg.TS x12.Msg.Lo x12.Msg.Hi x12.Msg.Vers x12.Msg.Vec (T_api_Cmd.mk x12.Msg.Cmd.Kind x12.Msg.Cmd.DC x12.Msg.Cmd.Shard x12.Msg.Cmd.Node x12.Msg.Cmd.Mode x12.Msg.Cmd.Key)) x12.Key x12.T x12.Writes) p13 c14 p15 c16 p17 c18  (hS.sbK [0, 1, 2]) hx19) ?_)
 rintro _ κ w a ⟨rfl, h2⟩ hF hB
 have hS := hB _ _ h2
 refine wp 1 [1, 3, 4] hF fun a hF => ?_
 refine wpListIn_nil ?_
 refine hK11 _ _ ?_
 refine wpIn_seq_k fun K20 hK20 => ?_
 refine wpIn_region_lit ?_
 refine wp 2 [1, 3, 4, 12, 13] hF fun a hF => ?_
 refine wc (wld hF hS 0 1 0 fun a hF => ?_)
 refine bind_split H (fun x21 hx21 H => ?_)
 refine wc (wcS 0 [0] hF hS (fun hS => C_gate_Gate_Note_nil0 N a1.From   (hS.sbK []) hx21) ?_)
 rintro _ κ w a ⟨p22, c23, p24, c25, rfl, h2⟩ hF hB
 have hS := (hB _ _ h2).cC (C' := [.tok p22 48 6 (x21.1.Vers).length c23, .tok p24 32 1 (x21.1.Vec).length c25, .box b9 40 [si a1.Kind, si a1.From, si a1.Call, si a1.Msg.Kind, su a1.Msg.Id, su a1.Msg.N, su a1.Msg.TS, sg a1.Msg.Lo, sg a1.Msg.Hi, sl p2 (a1.Msg.Vers).length c3, sl p4 (a1.Msg.Vec).length c5, si a1.Msg.Cmd.Kind, si a1.Msg.Cmd.DC, si a1.Msg.Cmd.Shard, si a1.Msg.Cmd.Node, si a1.Msg.Cmd.Mode, sg a1.Msg.Cmd.Key, sg a1.Key, su a1.T, sl p6 (a1.Writes).length c7]])
 refine wp 3 [1, 3, 4, 16, 17] hF fun a hF => ?_
 refine wc (wal hF hS [si 0, su 0, su 0, su 0, sg ByteArray.empty, sg ByteArray.empty, sl none 0 0, sl none 0 0, si 0, si 0, si 0, si 0, si 0, sg ByteArray.empty] (sgN 14 sgNil) fun b26 a w hF hS => ?_)
 refine wc (wst hF hS 0 0 14 [si x21.1.Kind, su x21.1.Id, su x21.1.N, su x21.1.TS, sg x21.1.Lo, sg x21.1.Hi, sl p22 (x21.1.Vers).length c23, sl p24 (x21.1.Vec).length c25, si x21.1.Cmd.Kind, si x21.1.Cmd.DC, si x21.1.Cmd.Shard, si x21.1.Cmd.Node, si x21.1.Cmd.Mode, sg x21.1.Cmd.Key] (sgN 14 sgNil) fun a w hF hS => ?_)
 refine wp 1 [1, 3, 4, 5, 6] hF fun a hF => ?_
 refine wpListIn_nil ?_
 refine hK20 _ _ ?_
 refine wpIn_seq_k fun K27 hK27 => ?_
 refine wpIn_region_lit ?_
 refine bind_split H (fun v29 hv29 H => ?_)
 refine wl_join (fun a w => ∃ κ : Gh, Fr (83) [] [(2, vb v29)] a ∧ SS [] κ0 w0 κ w [] [] ∧ True) ?_ ?_
 refine bind_split hv29 (fun x30 hx30 hv29 => ?_)
 refine wc (wo_callP hF hS (by kernel_rfl) (by kernel_rfl) (C_law22_awake N hS.fresh   ((hS.pick [] (by kernel_rfl)).ro) hx30) ?_)
 rintro _ κ w a ⟨rfl, hR, hN⟩ hF hS hO
 refine wp 1 [1, 3, 4, 5, 6, 19] hF fun a hF => ?_
 refine bif_split hv29 (fun hb hv29 => ?_) (fun hb hv29 => ?_)
 have hF := hF.boolv 19 (by kernel_rfl) hb
 refine wp 3 [1, 3, 5, 6, 19, 21, 22] hF fun a hF => ?_
 refine wcg hF (wld hF hS 3 0 0 fun a hF => ?_)
 refine wp 2 [1, 3, 5, 6, 19, 21, 25] hF fun a hF => ?_
 refine bif_split hv29 (fun hb hv29 => ?_) (fun hb hv29 => ?_)
 have hF := hF.boolv 25 (by kernel_rfl) hb
 refine wp 1 [1, 3, 5, 6, 19, 21, 25, 26] hF fun a hF => ?_
 refine wcg hF (wld hF hS 3 0 0 fun a hF => ?_)
 refine wp 5 [1, 3, 5, 6, 32] hF fun a hF => ?_
 refine bif_split hv29 (fun hb hv29 => ?_) (fun hb hv29 => ?_)
 have hF := hF.boolv 32 (by kernel_rfl) hb
 refine wp 4 [1, 3, 5, 36] hF fun a hF => ?_
 refine bif_split hv29 (fun hb hv29 => ?_) (fun hb hv29 => ?_)
 have hF := hF.boolv 36 (by kernel_rfl) hb
 refine wp 1 [1, 3, 36, 37] hF fun a hF => ?_
 refine wcg hF (wld hF hS 0 0 0 fun a hF => ?_)
 refine wp 3 [1, 3, 41] hF fun a hF => ?_
 refine bif_split hv29 (fun hb hv29 => ?_) (fun hb hv29 => ?_)
 have hF := hF.boolv 41 (by kernel_rfl) hb
 refine wp 1 [1, 3, 41, 42] hF fun a hF => ?_
 refine bind_split hv29 (fun x31 hx31 hv29 => ?_)
 refine wcg hF (wcS 0 (rg 4) hF hS (fun hS => C_gate_Gate_Sent_nil0 N    (hS.sbK []) hx31) ?_)
 rintro _ κ w a ⟨p32, c33, rfl, h2⟩ hF hB
 have hS := hB _ _ h2
 refine wp 4 [1, 3, 47] hF fun a hF => ?_
 refine bif_split hv29 (fun hb hv29 => ?_) (fun hb hv29 => ?_)
 have hF := hF.boolv 47 (by kernel_rfl) hb
 refine wp 1 [1, 3, 47, 48] hF fun a hF => ?_
 refine bind_split hv29 (fun x34 hx34 hv29 => ?_)
 refine wcg hF (wcS 0 (rg 5) hF hS (fun hS => C_gate_Gate_Replies_nil0 N    (hS.sbK []) hx34) ?_)
 rintro _ κ w a ⟨p35, c36, rfl, h2⟩ hF hB
 have hS := (hB _ _ h2).cC (C' := [.tok p35 52 13 (x34).length c36, .tok p32 61 15 (x31).length c33, .box b26 38 [si x21.1.Kind, su x21.1.Id, su x21.1.N, su x21.1.TS, sg x21.1.Lo, sg x21.1.Hi, sl p22 (x21.1.Vers).length c23, sl p24 (x21.1.Vec).length c25, si x21.1.Cmd.Kind, si x21.1.Cmd.DC, si x21.1.Cmd.Shard, si x21.1.Cmd.Node, si x21.1.Cmd.Mode, sg x21.1.Cmd.Key], .tok p22 48 6 (x21.1.Vers).length c23, .tok p24 32 1 (x21.1.Vec).length c25, .box b9 40 [si a1.Kind, si a1.From, si a1.Call, si a1.Msg.Kind, su a1.Msg.Id, su a1.Msg.N, su a1.Msg.TS, sg a1.Msg.Lo, sg a1.Msg.Hi, sl p2 (a1.Msg.Vers).length c3, sl p4 (a1.Msg.Vec).length c5, si a1.Msg.Cmd.Kind, si a1.Msg.Cmd.DC, si a1.Msg.Cmd.Shard, si a1.Msg.Cmd.Node, si a1.Msg.Cmd.Mode, sg a1.Msg.Cmd.Key, sg a1.Key, su a1.T, sl p6 (a1.Writes).length c7]])
 refine wp 4 [1, 3, 53] hF fun a hF => ?_
 refine bif_split hv29 (fun hb hv29 => ?_) (fun hb hv29 => ?_)
 have hF := hF.boolv 53 (by kernel_rfl) hb
 refine wp 1 [1, 3, 53, 54] hF fun a hF => ?_
 refine bind_split hv29 (fun x37 hx37 hv29 => ?_)
 refine wcg hF (wcS 0 (rg 6) hF hS (fun hS => C_gate_Gate_Role_nil0 N    (hS.sbK []) hx37) ?_)
 rintro _ κ w a ⟨rfl, h2⟩ hF hB
 have hS := hB _ _ h2
 refine wp 3 [1, 3, 58] hF fun a hF => ?_
 refine bif_split hv29 (fun hb hv29 => ?_) (fun hb hv29 => ?_)
 have hF := hF.boolv 58 (by kernel_rfl) hb
 refine wp 1 [1, 3, 58, 59] hF fun a hF => ?_
 refine bind_split hv29 (fun x38 hx38 hv29 => ?_)
 refine wcg hF (wcS 0 (rg 6) hF hS (fun hS => C_gate_Gate_Stable_nil0 N    (hS.sbK []) hx38) ?_)
 rintro _ κ w a ⟨rfl, h2⟩ hF hB
 have hS := (hB _ _ h2).cC (C' := [.tok p35 52 13 (x34).length c36, .tok p32 61 15 (x31).length c33, .box b26 38 [si x21.1.Kind, su x21.1.Id, su x21.1.N, su x21.1.TS, sg x21.1.Lo, sg x21.1.Hi, sl p22 (x21.1.Vers).length c23, sl p24 (x21.1.Vec).length c25, si x21.1.Cmd.Kind, si x21.1.Cmd.DC, si x21.1.Cmd.Shard, si x21.1.Cmd.Node, si x21.1.Cmd.Mode, sg x21.1.Cmd.Key], .tok p22 48 6 (x21.1.Vers).length c23, .tok p24 32 1 (x21.1.Vec).length c25, .box b9 40 [si a1.Kind, si a1.From, si a1.Call, si a1.Msg.Kind, su a1.Msg.Id, su a1.Msg.N, su a1.Msg.TS, sg a1.Msg.Lo, sg a1.Msg.Hi, sl p2 (a1.Msg.Vers).length c3, sl p4 (a1.Msg.Vec).length c5, si a1.Msg.Cmd.Kind, si a1.Msg.Cmd.DC, si a1.Msg.Cmd.Shard, si a1.Msg.Cmd.Node, si a1.Msg.Cmd.Mode, sg a1.Msg.Cmd.Key, sg a1.Key, su a1.T, sl p6 (a1.Writes).length c7]])
 refine wp 3 [1, 3, 63] hF fun a hF => ?_
 refine bif_split hv29 (fun hb hv29 => ?_) (fun hb hv29 => ?_)
 have hF := hF.boolv 63 (by kernel_rfl) hb
 refine wp 1 [1, 3, 63, 64] hF fun a hF => ?_
 refine bind_split hv29 (fun x39 hx39 hv29 => ?_)
 refine wcg hF (wcS 0 (rg 6) hF hS (fun hS => C_gate_Gate_Map_nil0 N    (hS.sbK []) hx39) ?_)
 rintro _ κ w a ⟨p40, c41, p42, c43, rfl, h2⟩ hF hB
 have hS := hB _ _ h2
 refine wp 5 [1, 3, 70] hF fun a hF => ?_
 refine bif_split hv29 (fun hb hv29 => ?_) (fun hb hv29 => ?_)
 have hF := hF.boolv 70 (by kernel_rfl) hb
 refine wp 2 [3, 70, 71, 72] hF fun a hF => ?_
 refine wcg hF (wld hF hS 7 1 0 fun a hF => ?_)
 refine bind_split hv29 (fun x44 hx44 hv29 => ?_)
 refine wcg hF (wcS 0 (rg 8) hF hS (fun hS => C_gate_Gate_Mode_nil0 N a1.From   (hS.sbK []) hx44) ?_)
 rintro _ κ w a ⟨rfl, h2⟩ hF hB
 have hS := (hB _ _ h2).cC (C' := [.tok p40 9 1 (x39.Cuts).length c41, .tok p42 3 1 (x39.Nodes).length c43, .tok p35 52 13 (x34).length c36, .tok p32 61 15 (x31).length c33, .box b26 38 [si x21.1.Kind, su x21.1.Id, su x21.1.N, su x21.1.TS, sg x21.1.Lo, sg x21.1.Hi, sl p22 (x21.1.Vers).length c23, sl p24 (x21.1.Vec).length c25, si x21.1.Cmd.Kind, si x21.1.Cmd.DC, si x21.1.Cmd.Shard, si x21.1.Cmd.Node, si x21.1.Cmd.Mode, sg x21.1.Cmd.Key], .tok p22 48 6 (x21.1.Vers).length c23, .tok p24 32 1 (x21.1.Vec).length c25, .box b9 40 [si a1.Kind, si a1.From, si a1.Call, si a1.Msg.Kind, su a1.Msg.Id, su a1.Msg.N, su a1.Msg.TS, sg a1.Msg.Lo, sg a1.Msg.Hi, sl p2 (a1.Msg.Vers).length c3, sl p4 (a1.Msg.Vec).length c5, si a1.Msg.Cmd.Kind, si a1.Msg.Cmd.DC, si a1.Msg.Cmd.Shard, si a1.Msg.Cmd.Node, si a1.Msg.Cmd.Mode, sg a1.Msg.Cmd.Key, sg a1.Key, su a1.T, sl p6 (a1.Writes).length c7]])
 refine wp 3 [3, 77] hF fun a hF => ?_
 refine bif_split hv29 (fun hb hv29 => ?_) (fun hb hv29 => ?_)
 have hF := hF.boolv 77 (by kernel_rfl) hb
 refine wp 1 [77, 78] hF fun a hF => ?_
 refine bind_split hv29 (fun x45 hx45 hv29 => ?_)
 refine wcg hF (wcS 0 (rg 8) hF hS (fun hS => C_gate_Gate_Waits_nil0 N    (hS.sbK []) hx45) ?_)
 rintro _ κ w a ⟨p46, c47, rfl, h2⟩ hF hB
 have hS := hB _ _ h2
 refine wp 4 [2] hF fun a hF => ?_
 refine wpListIn_nil ?_
 cases hv29
 exact ⟨_, hF.kp [2], hS.sp [] [], trivial⟩
 have hF := hF.boolv 77 (by kernel_rfl) hb
 refine wp 6 [2] hF fun a hF => ?_
 refine wpListIn_nil ?_
 cases hv29
 exact ⟨_, hF.kp [2], hS.sp [] [], trivial⟩
 have hF := hF.boolv 70 (by kernel_rfl) hb
 refine wp 13 [2] hF fun a hF => ?_
 refine wpListIn_nil ?_
 cases hv29
 exact ⟨_, hF.kp [2], hS.sp [] [], trivial⟩
 have hF := hF.boolv 63 (by kernel_rfl) hb
 refine wp 20 [2] hF fun a hF => ?_
 refine wpListIn_nil ?_
 cases hv29
 exact ⟨_, hF.kp [2], hS.sp [] [], trivial⟩
 have hF := hF.boolv 58 (by kernel_rfl) hb
 refine wp 25 [2] hF fun a hF => ?_
 refine wpListIn_nil ?_
 cases hv29
 exact ⟨_, hF.kp [2], hS.sp [] [], trivial⟩
 have hF := hF.boolv 53 (by kernel_rfl) hb
 refine wp 30 [2] hF fun a hF => ?_
 refine wpListIn_nil ?_
 cases hv29
 exact ⟨_, hF.kp [2], hS.sp [] [], trivial⟩
 have hF := hF.boolv 47 (by kernel_rfl) hb
 refine wp 36 [2] hF fun a hF => ?_
 refine wpListIn_nil ?_
 cases hv29
 exact ⟨_, hF.kp [2], hS.sp [] [], trivial⟩
 have hF := hF.boolv 41 (by kernel_rfl) hb
 refine wp 42 [2] hF fun a hF => ?_
 refine wpListIn_nil ?_
 cases hv29
 exact ⟨_, hF.kp [2], hS.sp [] [], trivial⟩
 have hF := hF.boolv 36 (by kernel_rfl) hb
 refine wp 47 [2] hF fun a hF => ?_
 refine wpListIn_nil ?_
 cases hv29
 exact ⟨_, hF.kp [2], hS.sp [] [], trivial⟩
 have hF := hF.boolv 32 (by kernel_rfl) hb
 refine wp 51 [2] hF fun a hF => ?_
 refine wpListIn_nil ?_
 cases hv29
 exact ⟨_, hF.kp [2], hS.sp [] [], trivial⟩
 have hF := hF.boolv 25 (by kernel_rfl) hb
 refine wp 7 [1, 3, 5, 6, 32] hF fun a hF => ?_
 refine bif_split hv29 (fun hb hv29 => ?_) (fun hb hv29 => ?_)
 have hF := hF.boolv 32 (by kernel_rfl) hb
 refine wp 4 [1, 3, 5, 36] hF fun a hF => ?_
 refine bif_split hv29 (fun hb hv29 => ?_) (fun hb hv29 => ?_)
 have hF := hF.boolv 36 (by kernel_rfl) hb
 refine wp 1 [1, 3, 36, 37] hF fun a hF => ?_
 refine wcg hF (wld hF hS 0 0 0 fun a hF => ?_)
 refine wp 3 [1, 3, 41] hF fun a hF => ?_
 refine bif_split hv29 (fun hb hv29 => ?_) (fun hb hv29 => ?_)
 have hF := hF.boolv 41 (by kernel_rfl) hb
 refine wp 1 [1, 3, 41, 42] hF fun a hF => ?_
 refine bind_split hv29 (fun x48 hx48 hv29 => ?_)
 refine wcg hF (wcS 0 (rg 4) hF hS (fun hS => C_gate_Gate_Sent_nil0 N    (hS.sbK []) hx48) ?_)
 rintro _ κ w a ⟨p49, c50, rfl, h2⟩ hF hB
 have hS := hB _ _ h2
 refine wp 4 [1, 3, 47] hF fun a hF => ?_
 refine bif_split hv29 (fun hb hv29 => ?_) (fun hb hv29 => ?_)
 have hF := hF.boolv 47 (by kernel_rfl) hb
 refine wp 1 [1, 3, 47, 48] hF fun a hF => ?_
 refine bind_split hv29 (fun x51 hx51 hv29 => ?_)
 refine wcg hF (wcS 0 (rg 5) hF hS (fun hS => C_gate_Gate_Replies_nil0 N    (hS.sbK []) hx51) ?_)
 rintro _ κ w a ⟨p52, c53, rfl, h2⟩ hF hB
 have hS := (hB _ _ h2).cC (C' := [.tok p52 52 13 (x51).length c53, .tok p49 61 15 (x48).length c50, .box b26 38 [si x21.1.Kind, su x21.1.Id, su x21.1.N, su x21.1.TS, sg x21.1.Lo, sg x21.1.Hi, sl p22 (x21.1.Vers).length c23, sl p24 (x21.1.Vec).length c25, si x21.1.Cmd.Kind, si x21.1.Cmd.DC, si x21.1.Cmd.Shard, si x21.1.Cmd.Node, si x21.1.Cmd.Mode, sg x21.1.Cmd.Key], .tok p22 48 6 (x21.1.Vers).length c23, .tok p24 32 1 (x21.1.Vec).length c25, .box b9 40 [si a1.Kind, si a1.From, si a1.Call, si a1.Msg.Kind, su a1.Msg.Id, su a1.Msg.N, su a1.Msg.TS, sg a1.Msg.Lo, sg a1.Msg.Hi, sl p2 (a1.Msg.Vers).length c3, sl p4 (a1.Msg.Vec).length c5, si a1.Msg.Cmd.Kind, si a1.Msg.Cmd.DC, si a1.Msg.Cmd.Shard, si a1.Msg.Cmd.Node, si a1.Msg.Cmd.Mode, sg a1.Msg.Cmd.Key, sg a1.Key, su a1.T, sl p6 (a1.Writes).length c7]])
 refine wp 4 [1, 3, 53] hF fun a hF => ?_
 refine bif_split hv29 (fun hb hv29 => ?_) (fun hb hv29 => ?_)
 have hF := hF.boolv 53 (by kernel_rfl) hb
 refine wp 1 [1, 3, 53, 54] hF fun a hF => ?_
 refine bind_split hv29 (fun x54 hx54 hv29 => ?_)
 refine wcg hF (wcS 0 (rg 6) hF hS (fun hS => C_gate_Gate_Role_nil0 N    (hS.sbK []) hx54) ?_)
 rintro _ κ w a ⟨rfl, h2⟩ hF hB
 have hS := hB _ _ h2
 refine wp 3 [1, 3, 58] hF fun a hF => ?_
 refine bif_split hv29 (fun hb hv29 => ?_) (fun hb hv29 => ?_)
 have hF := hF.boolv 58 (by kernel_rfl) hb
 refine wp 1 [1, 3, 58, 59] hF fun a hF => ?_
 refine bind_split hv29 (fun x55 hx55 hv29 => ?_)
 refine wcg hF (wcS 0 (rg 6) hF hS (fun hS => C_gate_Gate_Stable_nil0 N    (hS.sbK []) hx55) ?_)
 rintro _ κ w a ⟨rfl, h2⟩ hF hB
 have hS := (hB _ _ h2).cC (C' := [.tok p52 52 13 (x51).length c53, .tok p49 61 15 (x48).length c50, .box b26 38 [si x21.1.Kind, su x21.1.Id, su x21.1.N, su x21.1.TS, sg x21.1.Lo, sg x21.1.Hi, sl p22 (x21.1.Vers).length c23, sl p24 (x21.1.Vec).length c25, si x21.1.Cmd.Kind, si x21.1.Cmd.DC, si x21.1.Cmd.Shard, si x21.1.Cmd.Node, si x21.1.Cmd.Mode, sg x21.1.Cmd.Key], .tok p22 48 6 (x21.1.Vers).length c23, .tok p24 32 1 (x21.1.Vec).length c25, .box b9 40 [si a1.Kind, si a1.From, si a1.Call, si a1.Msg.Kind, su a1.Msg.Id, su a1.Msg.N, su a1.Msg.TS, sg a1.Msg.Lo, sg a1.Msg.Hi, sl p2 (a1.Msg.Vers).length c3, sl p4 (a1.Msg.Vec).length c5, si a1.Msg.Cmd.Kind, si a1.Msg.Cmd.DC, si a1.Msg.Cmd.Shard, si a1.Msg.Cmd.Node, si a1.Msg.Cmd.Mode, sg a1.Msg.Cmd.Key, sg a1.Key, su a1.T, sl p6 (a1.Writes).length c7]])
 refine wp 3 [1, 3, 63] hF fun a hF => ?_
 refine bif_split hv29 (fun hb hv29 => ?_) (fun hb hv29 => ?_)
 have hF := hF.boolv 63 (by kernel_rfl) hb
 refine wp 1 [1, 3, 63, 64] hF fun a hF => ?_
 refine bind_split hv29 (fun x56 hx56 hv29 => ?_)
 refine wcg hF (wcS 0 (rg 6) hF hS (fun hS => C_gate_Gate_Map_nil0 N    (hS.sbK []) hx56) ?_)
 rintro _ κ w a ⟨p57, c58, p59, c60, rfl, h2⟩ hF hB
 have hS := hB _ _ h2
 refine wp 5 [1, 3, 70] hF fun a hF => ?_
 refine bif_split hv29 (fun hb hv29 => ?_) (fun hb hv29 => ?_)
 have hF := hF.boolv 70 (by kernel_rfl) hb
 refine wp 2 [3, 70, 71, 72] hF fun a hF => ?_
 refine wcg hF (wld hF hS 7 1 0 fun a hF => ?_)
 refine bind_split hv29 (fun x61 hx61 hv29 => ?_)
 refine wcg hF (wcS 0 (rg 8) hF hS (fun hS => C_gate_Gate_Mode_nil0 N a1.From   (hS.sbK []) hx61) ?_)
 rintro _ κ w a ⟨rfl, h2⟩ hF hB
 have hS := (hB _ _ h2).cC (C' := [.tok p57 9 1 (x56.Cuts).length c58, .tok p59 3 1 (x56.Nodes).length c60, .tok p52 52 13 (x51).length c53, .tok p49 61 15 (x48).length c50, .box b26 38 [si x21.1.Kind, su x21.1.Id, su x21.1.N, su x21.1.TS, sg x21.1.Lo, sg x21.1.Hi, sl p22 (x21.1.Vers).length c23, sl p24 (x21.1.Vec).length c25, si x21.1.Cmd.Kind, si x21.1.Cmd.DC, si x21.1.Cmd.Shard, si x21.1.Cmd.Node, si x21.1.Cmd.Mode, sg x21.1.Cmd.Key], .tok p22 48 6 (x21.1.Vers).length c23, .tok p24 32 1 (x21.1.Vec).length c25, .box b9 40 [si a1.Kind, si a1.From, si a1.Call, si a1.Msg.Kind, su a1.Msg.Id, su a1.Msg.N, su a1.Msg.TS, sg a1.Msg.Lo, sg a1.Msg.Hi, sl p2 (a1.Msg.Vers).length c3, sl p4 (a1.Msg.Vec).length c5, si a1.Msg.Cmd.Kind, si a1.Msg.Cmd.DC, si a1.Msg.Cmd.Shard, si a1.Msg.Cmd.Node, si a1.Msg.Cmd.Mode, sg a1.Msg.Cmd.Key, sg a1.Key, su a1.T, sl p6 (a1.Writes).length c7]])
 refine wp 3 [3, 77] hF fun a hF => ?_
 refine bif_split hv29 (fun hb hv29 => ?_) (fun hb hv29 => ?_)
 have hF := hF.boolv 77 (by kernel_rfl) hb
 refine wp 1 [77, 78] hF fun a hF => ?_
 refine bind_split hv29 (fun x62 hx62 hv29 => ?_)
 refine wcg hF (wcS 0 (rg 8) hF hS (fun hS => C_gate_Gate_Waits_nil0 N    (hS.sbK []) hx62) ?_)
 rintro _ κ w a ⟨p63, c64, rfl, h2⟩ hF hB
 have hS := hB _ _ h2
 refine wp 4 [2] hF fun a hF => ?_
 refine wpListIn_nil ?_
 cases hv29
 exact ⟨_, hF.kp [2], hS.sp [] [], trivial⟩
 have hF := hF.boolv 77 (by kernel_rfl) hb
 refine wp 6 [2] hF fun a hF => ?_
 refine wpListIn_nil ?_
 cases hv29
 exact ⟨_, hF.kp [2], hS.sp [] [], trivial⟩
 have hF := hF.boolv 70 (by kernel_rfl) hb
 refine wp 13 [2] hF fun a hF => ?_
 refine wpListIn_nil ?_
 cases hv29
 exact ⟨_, hF.kp [2], hS.sp [] [], trivial⟩
 have hF := hF.boolv 63 (by kernel_rfl) hb
 refine wp 20 [2] hF fun a hF => ?_
 refine wpListIn_nil ?_
 cases hv29
 exact ⟨_, hF.kp [2], hS.sp [] [], trivial⟩
 have hF := hF.boolv 58 (by kernel_rfl) hb
 refine wp 25 [2] hF fun a hF => ?_
 refine wpListIn_nil ?_
 cases hv29
 exact ⟨_, hF.kp [2], hS.sp [] [], trivial⟩
 have hF := hF.boolv 53 (by kernel_rfl) hb
 refine wp 30 [2] hF fun a hF => ?_
 refine wpListIn_nil ?_
 cases hv29
 exact ⟨_, hF.kp [2], hS.sp [] [], trivial⟩
 have hF := hF.boolv 47 (by kernel_rfl) hb
 refine wp 36 [2] hF fun a hF => ?_
 refine wpListIn_nil ?_
 cases hv29
 exact ⟨_, hF.kp [2], hS.sp [] [], trivial⟩
 have hF := hF.boolv 41 (by kernel_rfl) hb
 refine wp 42 [2] hF fun a hF => ?_
 refine wpListIn_nil ?_
 cases hv29
 exact ⟨_, hF.kp [2], hS.sp [] [], trivial⟩
 have hF := hF.boolv 36 (by kernel_rfl) hb
 refine wp 47 [2] hF fun a hF => ?_
 refine wpListIn_nil ?_
 cases hv29
 exact ⟨_, hF.kp [2], hS.sp [] [], trivial⟩
 have hF := hF.boolv 32 (by kernel_rfl) hb
 refine wp 51 [2] hF fun a hF => ?_
 refine wpListIn_nil ?_
 cases hv29
 exact ⟨_, hF.kp [2], hS.sp [] [], trivial⟩
 have hF := hF.boolv 19 (by kernel_rfl) hb
 refine wp 64 [2] hF fun a hF => ?_
 refine wpListIn_nil ?_
 cases hv29
 exact ⟨_, hF.kp [2], hS.sp [] [], trivial⟩
 rintro a w ⟨κ, hF, hS, -⟩
 refine hK27 _ _ ?_
 refine wpIn_ret ?_
 cases H
 exact (ret_done hF hS (res1 Tryz.results6 (rvt hF)) ⟨rfl, (hS.pick [] (by kernel_rfl)).ro, hS.newC [] (by decide) (by kernel_rfl)⟩)
end Go.Cf
