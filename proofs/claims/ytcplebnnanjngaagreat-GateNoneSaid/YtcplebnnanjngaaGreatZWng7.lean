/- The walks: each function returns what its model says. Printed by a program of ours. -/
import Derived.Test.YtcplebnnanjngaaGreatZM1
import Derived.Test.YtcplebnnanjngaaGreatZWns
import Derived.Test.YtcplebnnanjngaaGreatZWno
import Derived.Test.YtcplebnnanjngaaGreatZWni
import Derived.Test.YtcplebnnanjngaaGreatZWnp
import Derived.Test.YtcplebnnanjngaaGreatZWnc
import Derived.Test.YtcplebnnanjngaaGreatZWng1
namespace Go.Cf
open Go Go.Proofs
set_option linter.unusedVariables false
set_option maxRecDepth 20000 in
set_option maxHeartbeats 8000000 in
theorem C_gate_Gate_ship (N : Nat) {Ms : List Nat} {κ0 : Gh} {w0 : World} (a2 : (Option T_stab_Table)) (a5 : (Option T_order_Log)) (a9 : (List Int)) (a11 : (List T_api_Mail)) (cs1 : List Value) (p3 : Option Nat) (cs4 : List Nat) (p6 : Option Nat) (cs7 : List Nat) (cs8 : List Value) (cs10 : List Value) (p12 : Option Addr) (c13 : Nat) (cs14 : List Value) (b15 : Nat) (hB : SB Ms κ0 w0 [.box b15 87 [(12, cs1), (1, [.pointer (pa p3)]), (1, [.pointer (pa p6)]), (6, cs8), ei 4 a9, (18, cs10), sl p12 (a11).length c13, (1, cs14)], .ext (optX o_stab_Table p3 cs4 a2), .ext (optX o_order_Log p6 cs7 a5)] [ml a9 4, Ro.mp t_api_Mail p12 c13 a11]) {r : ((Option T_stab_Table) × (Option T_order_Log))} (H : M.gate_Gate_ship N a2 a5 a9 a11 = some r) :
    Calls Tryz.prog 76 #[pt b15 0] w0 (Post Ms κ0 w0 fun v κ w => ∃ (p98 : Option Nat) (cs99 : List Nat) (p100 : Option Nat) (cs101 : List Nat), v = .tuple #[] ∧ SS Ms κ0 w0 κ w [.box b15 87 [(12, cs1), (1, [.pointer (pa p98)]), (1, [.pointer (pa p100)]), (6, cs8), ei 4 a9, (18, cs10), sl p12 (a11).length c13, (1, cs14)], .ext (optX o_stab_Table p98 cs99 r.1), .ext (optX o_order_Log p100 cs101 r.2)] []) := by
 have hS := hB.hS
 have hfr := hS.fresh
 refine enterM (N := (59)) (L := [(0, pt b15 0)]) Tryz.func76 rfl Tryz.ntmps76 (show 1 ≤ (59) by decide) rfl fun a hF => ?_
 unfold M.gate_Gate_ship at H
 have hS := hS.defs0
 refine wpIn_seq_k fun K16 hK16 => ?_
 refine wpIn_region_lit ?_
 refine wc (wbx hF hS [(1, [pt b15 0])] (sgN 1 sgNil) fun b17 a w hF hS => ?_)
 refine wpListIn_nil ?_
 refine hK16 _ _ ?_
 refine wpIn_seq_k fun K18 hK18 => ?_
 refine bind_split H (fun x19 ho H => ?_)
 obtain ⟨b20, hpq, hS⟩ := hS.optS 3 rfl ho
 have hG8 := hF
 subst hpq
 have hF := hG8
 obtain ⟨⟨p21, c22⟩, hS⟩ := hS.unfI (ck := c_stab_Table) (fs := q_stab_Table) 3 rfl
 refine bind_split H (fun x23 ho H => ?_)
 obtain ⟨b24, hpq, hS⟩ := hS.optS 5 rfl ho
 have hG7 := hF
 subst hpq
 have hF := hG7
 obtain ⟨⟨p25, c26, p27, c28⟩, hS⟩ := hS.unfI (ck := c_order_Log) (fs := q_order_Log) 5 rfl
 refine rgX hS [3, 4, 5, 6, 7] ?_
 have hS := hS.drew
 refine atk 0 (some 6) hF (hS.sx [3, 4, 5, 6, 7] (rg 8)) rfl (vld 2 0 0) fun a hF => ?_
 refine anp [1, 2] [1, 8] hF (hS.sx [3, 4, 5, 6, 7] (rg 8)) fun a hF => ?_
 refine atk 3 (some 9) hF (hS.sx [3, 4, 5, 6, 7] (rg 8)) rfl (vld 4 2 0) fun a hF => ?_
 refine atk 4 (some 10) hF (hS.sx [3, 4, 5, 6, 7] (rg 8)) rfl (vld 2 0 0) fun a hF => ?_
 refine anp [5, 6] [1, 9, 12] hF (hS.sx [3, 4, 5, 6, 7] (rg 8)) fun a hF => ?_
 refine atk 7 (some 13) hF (hS.sx [3, 4, 5, 6, 7] (rg 8)) rfl (vld 4 1 0) fun a hF => ?_
 refine ago 8 hF rfl ?_
 refine bind_split H (fun x29 hx29 H => ?_)
 refine wcS 2 [3, 4, 0, 1, 2, 5, 6, 7] hF hS (fun hS => C_stab_Table_Local N (T_stab_Table.mk x19.dc x19.beats (T_vec_Vec.mk x19.got.Epoch x19.got.Has x19.got.T) (T_vec_Vec.mk x19.known.Epoch x19.known.Has x19.known.T) x19.stable) p21 c22 b20 (hS.sbK [2, 3, 4, 5]) hx29) ?_
 rintro _ κ w a ⟨rfl, h2⟩ hF hB
 have hS := hB _ _ h2
 refine ⟨fun _ => (hS.sx [0, 1, 5, 6, 7] (rg 8)), ?_⟩
 refine ago 9 hF rfl ?_
 refine bind_split H (fun x30 hx30 H => ?_)
 refine wcS 3 [2, 3, 4, 0, 1, 5, 6, 7] hF hS (fun hS => C_order_Log_Release N (T_order_Log.mk x23.list x23.waiting x23.bound) x29 p25 c26 p27 c28 b24 (hS.sbK [0, 1]) hx30) ?_
 rintro _ κ w a ⟨p31, c32, p33, c34, rfl, h2⟩ hF hB
 have hS := (hB _ _ h2).cC (C' := [.box b24 166 [sl p31 (x30.2.list).length c32, sl p33 (x30.2.waiting).length c34, su x30.2.bound], .tok p31 135 4 (x30.2.list).length c32, .tok p33 135 4 (x30.2.waiting).length c34, .box b20 109 [si x19.dc, sl p21 (x19.beats).length c22, si x19.got.Epoch, eb 4 x19.got.Has, (4, (encs (fInt .u64) x19.got.T)), si x19.known.Epoch, eb 4 x19.known.Has, (4, (encs (fInt .u64) x19.known.T)), su x19.stable], .ext (ownX (fInt .u64) 32 p21 c22 x19.beats), .box b17 24 [(1, [pt b15 0])], .ext (defsX ([] : List Nat)), .box b15 87 [(12, cs1), (1, [pt b20 0]), (1, [pt b24 0]), (6, cs8), ei 4 a9, (18, cs10), sl p12 (a11).length c13, (1, cs14)]])
 refine ⟨fun _ => (hS.sx [3, 4, 5, 6, 7] [2, 3, 4, 5, 6, 7, 8, 9]), ?_⟩
 refine and_ ?_
 obtain ⟨cs35, hS⟩ := hS.foldI (ck := c_stab_Table) (fs := q_stab_Table) b20 (p21, c22) x19 [3, 4] [0, 1, 2, 5, 6, 7] [4, 5, 6, 7] (by decide) (by kernel_rfl) (by kernel_rfl)
 obtain ⟨cs36, hS⟩ := hS.foldI (ck := c_order_Log) (fs := q_order_Log) b24 (p31, c32, p33, c34) (T_order_Log.mk x30.2.list x30.2.waiting x30.2.bound) [1, 2, 3] [0, 4, 5, 6] [0, 1] (by decide) (by kernel_rfl) (by kernel_rfl)
 refine hK18 _ _ ?_
 refine wpIn_seq_k fun K37 hK37 => ?_
 refine wpIn_region_lit ?_
 refine wc (wld hF hS 2 0 0 fun a hF => ?_)
 refine wp 2 [1, 18] hF fun a hF => ?_
 refine wc (wls hF hS 4 4 1 fun a hF => ?_)
 refine wp 1 [1, 19, 20] hF fun a hF => ?_
 refine wpListIn_nil ?_
 refine hK37 _ _ ?_
 refine wpIn_block ?_
 refine loop_fuel (n := N) (fun n a w => ∃ (κ : Gh) (y88 : Int), Fr (59) (marks ([] : List Nat)) [(1, pt b17 0), (19, .agg (flat [ei 4 a9]).toArray), (20, vi y88)] a ∧ SS Ms κ0 w0 κ w [.box b17 24 [(1, [pt b15 0])], .box b15 87 [(12, cs1), (1, [pt b20 0]), (1, [pt b24 0]), (6, cs8), ei 4 a9, (18, cs10), sl p12 (a11).length c13, (1, cs14)], .ext (optX o_stab_Table (some b20) cs35 (some x19)), .ext (optX o_order_Log (some b24) cs36 (some (T_order_Log.mk x30.2.list x30.2.waiting x30.2.bound))), .ext (defsX ([] : List Nat))] [ml a9 4, Ro.mp t_api_Mail p12 c13 a11] ∧ M.gate_Gate_ship_L1 N n a9 a11 x19 x30 y88 = some r) ?_ ?_
 exact ⟨_, 0, hF.kp [1, 19, 20], hS.sp [2, 4, 1, 0, 3] [8, 9], H⟩
 rintro n a w ⟨κ, y88, hF, hS, H⟩
 rcases n with _ | fuel1
 simp [M.gate_Gate_ship_L1] at H
 simp only [M.gate_Gate_ship_L1] at H
 refine wpIn_seq_k fun K89 hK89 => ?_
 refine wpIn_region_lit ?_
 refine wl_pure (L' := [(1, pt b17 0), (19, .agg (flat [ei 4 a9]).toArray), (20, vi y88), (21, vb (decide (y88 < 4)))]) 1 [1, 19, 20, 21] hF (by kernel_rfl) fun a hF => ?_
 refine wpListIn_nil ?_
 refine hK89 _ _ ?_
 refine wpIn_seq_k fun K90 hK90 => ?_
 refine bif_split H (fun hb H => ?_) (fun hb H => ?_)
 refine cond_t hF (by kernel_rfl) hb ?_
 refine wpIn_skip ?_
 refine hK90 _ _ ?_
 refine seq_join (fun a w => ∃ κ : Gh, Fr (59) (marks ([] : List Nat)) [(1, pt b17 0), (19, .agg (flat [ei 4 a9]).toArray), (20, vi y88)] a ∧ SS Ms κ0 w0 κ w [.box b17 24 [(1, [pt b15 0])], .box b15 87 [(12, cs1), (1, [pt b20 0]), (1, [pt b24 0]), (6, cs8), ei 4 a9, (18, cs10), sl p12 (a11).length c13, (1, cs14)], .ext (optX o_stab_Table (some b20) cs35 (some x19)), .ext (optX o_order_Log (some b24) cs36 (some (T_order_Log.mk x30.2.list x30.2.waiting x30.2.bound))), .ext (defsX ([] : List Nat))] [ml a9 4, Ro.mp t_api_Mail p12 c13 a11] ∧ M.gate_Gate_ship_k2 N (M.gate_Gate_ship_L1 N fuel1) a9 a11 x19 x30 y88 = some r) ?_ ?_
 refine wpIn_block ?_
 refine wpIn_seq_k fun K91 hK91 => ?_
 refine wpIn_region_lit ?_
 refine wl_pure (L' := [(1, pt b17 0), (19, .agg (flat [ei 4 a9]).toArray), (20, vi y88), (22, vi y88)]) 1 [1, 19, 20, 22] hF (by kernel_rfl) fun a hF => ?_
 refine bind_split H (fun x92 hx92 H => ?_)
 refine wc (wo_val hF (by kernel_rfl) (v := vi x92) (val_indexA1 (t := (fInt .i64)) (E := 3) (n := 4) (m := 4) rfl (by kernel_rfl) rfl hx92 (hS.get 0 rfl) rfl rfl (by kernel_rfl) (by kernel_rfl) (by kernel_rfl) _) fun a hF => ?_)
 refine wc (wal hF hS [si 0] (sgN 1 sgNil) fun b93 a w hF hS => ?_)
 refine wc (wst hF hS 0 0 1 [si y88] (sgN 1 sgNil) fun a w hF hS => ?_)
 refine wp 1 [1, 2, 3, 19, 20] hF fun a hF => ?_
 refine wpListIn_nil ?_
 refine hK91 _ _ ?_
 refine wpIn_seq_k fun K94 hK94 => ?_
 refine wpIn_seq_k fun K95 hK95 => ?_
 refine wpIn_region_lit ?_
 refine wp 2 [1, 2, 3, 19, 20, 25] hF fun a hF => ?_
 refine wpListIn_nil ?_
 refine hK95 _ _ ?_
 refine bif_split H (fun hb H => ?_) (fun hb H => ?_)
 refine cond_t hF (by kernel_rfl) hb ?_
 refine wpIn_exit ?_
 exact ⟨_, hF.kp [1, 19, 20], hS.sp [1, 2, 3, 4, 5] [0, 1], H⟩
 refine cond_f hF (by kernel_rfl) hb ?_
 refine wpIn_skip ?_
 refine hK94 _ _ ?_
 refine wpIn_seq_k fun K96 hK96 => ?_
 refine wpIn_seq_k fun K97 hK97 => ?_
 cases H
 rintro a w ⟨κ, hF, hS, H⟩
 unfold M.gate_Gate_ship_k2 at H
 refine wpIn_region_lit ?_
 refine wp 2 [1, 19, 20] hF fun a hF => ?_
 refine wpListIn_nil ?_
 exact ⟨fuel1, Nat.lt_succ_self _, _, IntKind.i64.wrap (y88 + 1), hF.kp [1, 19, 20], hS.sp (rg 5) [0, 1], H⟩
 refine cond_f hF (by kernel_rfl) hb ?_
 refine wpIn_exit ?_
 refine ret_doneD (C' := [.box b17 24 [(1, [pt b15 0])], .box b15 87 [(12, cs1), (1, [pt b20 0]), (1, [pt b24 0]), (6, cs8), ei 4 a9, (18, cs10), sl p12 (a11).length c13, (1, cs14)], .ext (optX o_stab_Table (some b20) cs35 (some x19)), .ext (optX o_order_Log (some b24) cs36 (some (T_order_Log.mk x30.2.list x30.2.waiting x30.2.bound)))]) hF hS 4 rfl (by kernel_rfl) fun w hS => ?_
 cases H
 exact ⟨_, (res0 Tryz.results76 ), ⟨(some b20), cs35, (some b24), cs36, rfl, hS.sp [1, 2, 3] []⟩⟩
set_option maxRecDepth 20000 in
set_option maxHeartbeats 8000000 in
theorem C_gate_Gate_load (N : Nat) {Ms : List Nat} {κ0 : Gh} {w0 : World} (a1 : Int) (a3 : T_api_Map) (a9 : Int) (a10 : (List (Option T_inbox_Box))) (a14 : (Mp Int T_gate_load)) (a18 : Int) (a19 : (Option T_gate_move)) (a23 : (List T_api_Mail)) (cs2 : List Value) (p4 : Option Addr) (c5 : Nat) (p6 : Option Addr) (c7 : Nat) (cs8 : List Value) (p11 : List (Option Nat)) (cs12 : List Nat) (cs13 : List Value) (p15 : Option Nat) (m16 : Array MapEntry) (c17 : Nat) (p20 : Option Nat) (cs21 : List Nat) (cs22 : List Value) (p24 : Option Addr) (c25 : Nat) (cs26 : List Value) (b27 : Nat) (hB : SB Ms κ0 w0 [.box b27 87 [si a1, (5, cs2), sl p4 (a3.Cuts).length c5, sl p6 (a3.Nodes).length c7, (7, cs8), su a9, (4, (encs fPtr p11)), (11, cs13), (1, [.map p15]), su a18, (1, [.pointer (pa p20)]), (8, cs22), sl p24 (a23).length c25, (1, cs26)], .ext (arrX o_inbox_Box p11 cs12 a10), .ext (objX p15 (.map m16 c17)), .ext (optX o_gate_move p20 cs21 a19)] [Ro.mp fStr.ty p4 c5 a3.Cuts, Ro.mp (fInt .i64).ty p6 c7 a3.Nodes, ml p11 4, Map.mp (kInt .u64) true t_gate_load p15 m16 c17 a14, Ro.mp t_api_Mail p24 c25 a23]) {r : Unit} (H : M.gate_Gate_load N a1 a3 a9 a10 a14 a18 a19 a23 = some r) :
    Calls Tryz.prog 77 #[pt b27 0] w0 (Post Ms κ0 w0 fun v κ w => ∃ (cs111 cs112 : List Nat), v = .tuple #[] ∧ SS Ms κ0 w0 κ w [.box b27 87 [si a1, (5, cs2), sl p4 (a3.Cuts).length c5, sl p6 (a3.Nodes).length c7, (7, cs8), su a9, (4, (encs fPtr p11)), (11, cs13), (1, [.map p15]), su a18, (1, [.pointer (pa p20)]), (8, cs22), sl p24 (a23).length c25, (1, cs26)], .ext (arrX o_inbox_Box p11 cs111 a10), .ext (objX p15 (.map m16 c17)), .ext (optX o_gate_move p20 cs112 a19)] []) := by
 have hS := hB.hS
 have hfr := hS.fresh
 refine enter (N := (67)) (L := [(0, pt b27 0)]) Tryz.func77 rfl Tryz.ntmps77 (show 1 ≤ (67) by decide) rfl fun a hF => ?_
 unfold M.gate_Gate_load at H
 refine wpIn_scope ?_
 refine wpIn_seq_k fun K28 hK28 => ?_
 refine wpIn_label ?_
 refine hK28 _ _ ?_
 refine wpIn_seq_k fun K29 hK29 => ?_
 refine wpIn_region_lit ?_
 refine wp 3 [0, 13] hF fun a hF => ?_
 refine wc (wls hF hS 0 6 1 fun a hF => ?_)
 refine wp 1 [0, 14, 15] hF fun a hF => ?_
 refine wpListIn_nil ?_
 refine hK29 _ _ ?_
 refine wpIn_block ?_
 refine loop_fuel (n := N) (fun n a w => ∃ (κ : Gh) (cs80 : List Nat) (y81 : Int), Fr (67) [] [(0, pt b27 0), (14, .agg (flat [(4, (encs fPtr p11))]).toArray), (15, vi y81)] a ∧ SS Ms κ0 w0 κ w [.box b27 87 [si a1, (5, cs2), sl p4 (a3.Cuts).length c5, sl p6 (a3.Nodes).length c7, (7, cs8), su a9, (4, (encs fPtr p11)), (11, cs13), (1, [.map p15]), su a18, (1, [.pointer (pa p20)]), (8, cs22), sl p24 (a23).length c25, (1, cs26)], .ext (arrX o_inbox_Box p11 cs80 a10), .ext (objX p15 (.map m16 c17)), .ext (optX o_gate_move p20 cs21 a19)] [Ro.mp fStr.ty p4 c5 a3.Cuts, Ro.mp (fInt .i64).ty p6 c7 a3.Nodes, ml p11 4, Map.mp (kInt .u64) true t_gate_load p15 m16 c17 a14, Ro.mp t_api_Mail p24 c25 a23] ∧ M.gate_Gate_load_L1 N n a1 a3 a9 a10 a14 a18 a19 a23 y81 = some r) ?_ ?_
 exact ⟨_, cs12, 0, hF.kp [0, 14, 15], hS.sp (rg 4) (rg 5), H⟩
 rintro n a w ⟨κ, cs80, y81, hF, hS, H⟩
 rcases n with _ | fuel1
 simp [M.gate_Gate_load_L1] at H
 simp only [M.gate_Gate_load_L1] at H
 refine wpIn_seq_k fun K82 hK82 => ?_
 refine wpIn_region_lit ?_
 refine wp 1 [0, 14, 15, 16] hF fun a hF => ?_
 refine wpListIn_nil ?_
 refine hK82 _ _ ?_
 refine wpIn_seq_k fun K83 hK83 => ?_
 refine bif_split H (fun hb H => ?_) (fun hb H => ?_)
 refine cond_t hF (by kernel_rfl) hb ?_
 refine wpIn_skip ?_
 refine hK83 _ _ ?_
 refine seq_join (fun a w => ∃ (κ : Gh) (cs84 : List Nat), Fr (67) [] [(0, pt b27 0), (14, .agg (flat [(4, (encs fPtr p11))]).toArray), (15, vi y81)] a ∧ SS Ms κ0 w0 κ w [.box b27 87 [si a1, (5, cs2), sl p4 (a3.Cuts).length c5, sl p6 (a3.Nodes).length c7, (7, cs8), su a9, (4, (encs fPtr p11)), (11, cs13), (1, [.map p15]), su a18, (1, [.pointer (pa p20)]), (8, cs22), sl p24 (a23).length c25, (1, cs26)], .ext (arrX o_inbox_Box p11 cs84 a10), .ext (objX p15 (.map m16 c17)), .ext (optX o_gate_move p20 cs21 a19)] [Ro.mp fStr.ty p4 c5 a3.Cuts, Ro.mp (fInt .i64).ty p6 c7 a3.Nodes, ml p11 4, Map.mp (kInt .u64) true t_gate_load p15 m16 c17 a14, Ro.mp t_api_Mail p24 c25 a23] ∧ M.gate_Gate_load_k2 N (M.gate_Gate_load_L1 N fuel1) a1 a3 a9 a10 a14 a18 a19 a23 y81 = some r) ?_ ?_
 refine wpIn_block ?_
 refine wpIn_seq_k fun K85 hK85 => ?_
 refine bind_split H (fun x86 hx86 H => ?_)
 obtain ⟨p87, hpx86⟩ := hS.arrIdx 1 rfl hx86
 have hS := hS.add (m := MP.const (idx p11 y81 = some p87)) hpx86
 refine wpIn_region_lit ?_
 refine wl_pure (L' := [(0, pt b27 0), (14, .agg (flat [(4, (encs fPtr p11))]).toArray), (15, vi y81), (17, vi y81)]) 1 [0, 14, 15, 17] hF (by kernel_rfl) fun a hF => ?_
 refine wc (wo_val hF (by kernel_rfl) (v := .pointer (pa p87)) (val_indexA1 (t := fPtr) (E := 81) (n := 4) (m := 4) rfl (by kernel_rfl) rfl hpx86 (hS.get 3 rfl) rfl rfl (by kernel_rfl) (by kernel_rfl) (by kernel_rfl) _) fun a hF => ?_)
 refine wp 2 [0, 2, 3, 14, 15] hF fun a hF => ?_
 refine wpListIn_nil ?_
 refine hK85 _ _ ?_
 refine wpIn_block ?_
 refine loop_fuel (n := N) (fun n a w => ∃ κ : Gh, Fr (67) [] [(0, pt b27 0), (2, vi y81), (3, .pointer (pa p87)), (14, .agg (flat [(4, (encs fPtr p11))]).toArray), (15, vi y81)] a ∧ SS Ms κ0 w0 κ w [.box b27 87 [si a1, (5, cs2), sl p4 (a3.Cuts).length c5, sl p6 (a3.Nodes).length c7, (7, cs8), su a9, (4, (encs fPtr p11)), (11, cs13), (1, [.map p15]), su a18, (1, [.pointer (pa p20)]), (8, cs22), sl p24 (a23).length c25, (1, cs26)], .ext (arrX o_inbox_Box p11 cs80 a10), .ext (objX p15 (.map m16 c17)), .ext (optX o_gate_move p20 cs21 a19)] [Ro.mp fStr.ty p4 c5 a3.Cuts, Ro.mp (fInt .i64).ty p6 c7 a3.Nodes, ml p11 4, Map.mp (kInt .u64) true t_gate_load p15 m16 c17 a14, Ro.mp t_api_Mail p24 c25 a23, MP.const (idx p11 y81 = some p87)] ∧ M.gate_Gate_load_L3 N (M.gate_Gate_load_L1 N fuel1) n a1 a3 a9 a10 a14 a18 a19 a23 y81 = some r) ?_ ?_
 exact ⟨_, hF.kp [0, 2, 3, 14, 15], hS.sp (rg 4) [1, 2, 3, 4, 5, 0], H⟩
 rintro n a w ⟨κ, hF, hS, H⟩
 rcases n with _ | fuel3
 simp [M.gate_Gate_load_L3] at H
 simp only [M.gate_Gate_load_L3] at H
 refine wpIn_block ?_
 refine wpIn_seq_k fun K88 hK88 => ?_
 have hqk89 : idx p11 y81 = some p87 := hS.get 5 rfl
 refine bind_split H (fun x90 hx90 H => ?_)
 obtain ⟨cs91, cs92, hS⟩ := hS.arrTakeP 1 rfl hx90 hqk89
 refine opt_split H (fun hox93 H => ?_) (fun x93 hox93 H => ?_)
 obtain ⟨hpq, hS⟩ := hS.optN 0 rfl hox93
 have hG48 := hF
 subst hpq
 have hF := hG48
 obtain ⟨cs102, hS⟩ := hS.arrBackI 0 1 [2, 3, 4] (by decide) rfl rfl hqk89 (hx90.trans (congrArg some hox93))
 refine wpIn_region_lit ?_
 refine wp 1 [0, 2, 3, 14, 15, 20] hF fun a hF => ?_
 refine bind_split H (fun x103 hx103 H => ?_)
 refine wc (wcS 0 (rg 4) hF hS (fun hS => C_inbox_Box_Peek_nil0 N    (hS.sbK []) hx103) ?_)
 rintro _ κ w a ⟨p104, c105, rfl, h2⟩ hF hB
 have hS := hB _ _ h2
 refine wp 3 [0, 2, 3, 14, 15, 22, 23] hF fun a hF => ?_
 refine wc (wal hF hS [su 0, si 0, si 0, sl none 0 0] (sgN 4 sgNil) fun b106 a w hF hS => ?_)
 refine wc (wst hF hS 0 0 4 [su x103.1.TS, si x103.1.DC, si x103.1.Tx, sl p104 (x103.1.Vers).length c105] (sgN 4 sgNil) fun a w hF hS => ?_)
 refine wp 1 [0, 2, 3, 4, 5, 14, 15] hF fun a hF => ?_
 refine wpListIn_nil ?_
 refine hK88 _ _ ?_
 refine wpIn_seq_k fun K107 hK107 => ?_
 refine wpIn_seq_k fun K108 hK108 => ?_
 refine wpIn_region_lit ?_
 refine wp 2 [0, 2, 3, 4, 14, 15, 25] hF fun a hF => ?_
 refine wpListIn_nil ?_
 refine hK108 _ _ ?_
 refine bif_split H (fun hb H => ?_) (fun hb H => ?_)
 refine cond_t hF (by kernel_rfl) hb ?_
 refine wpIn_exit ?_
 exact ⟨_, cs102, hF.kp [0, 14, 15], hS.sp [3, 2, 4, 5] [1, 2, 3, 4, 5], H⟩
 refine cond_f hF (by kernel_rfl) hb ?_
 refine wpIn_skip ?_
 refine hK107 _ _ ?_
 refine wpIn_seq_k fun K109 hK109 => ?_
 refine wpIn_seq_k fun K110 hK110 => ?_
 cases H
 obtain ⟨b94, hpq, hS⟩ := hS.optS 0 rfl hox93
 have hG47 := hF
 subst hpq
 have hF := hG47
 obtain ⟨⟨p95, c96, p97, c98, p99, m100, c101⟩, hS⟩ := hS.unfI (ck := c_inbox_Box) (fs := q_inbox_Box) 0 rfl
 refine wpIn_region_lit ?_
 refine wp 1 [0, 2, 3, 14, 15, 20] hF fun a hF => ?_
 cases H
 rintro a w ⟨κ, cs84, hF, hS, H⟩
 unfold M.gate_Gate_load_k2 at H
 refine wpIn_region_lit ?_
 refine wp 2 [0, 14, 15] hF fun a hF => ?_
 refine wpListIn_nil ?_
 exact ⟨fuel1, Nat.lt_succ_self _, _, cs84, IntKind.i64.wrap (y81 + 1), hF.kp [0, 14, 15], hS.sp (rg 4) (rg 5), H⟩
 refine cond_f hF (by kernel_rfl) hb ?_
 refine wpIn_exit ?_
 cases H
 exact ret_done hF hS (res0 Tryz.results77 ) ⟨cs80, cs21, rfl, hS.sp (rg 4) []⟩
set_option maxRecDepth 20000 in
set_option maxHeartbeats 8000000 in
theorem C_gate_Gate_moves (N : Nat) {Ms : List Nat} {κ0 : Gh} {w0 : World} (a1 : Int) (a3 : (Option T_coord_Table)) (a7 : (Mp Int T_gate_call)) (a12 : (Mp Int T_gate_load)) (a17 : (Option T_gate_move)) (a21 : (List T_api_Mail)) (cs2 : List Value) (p4 : Option Nat) (cs5 : List Nat) (cs6 : List Value) (p8 : Option Nat) (m9 : Array MapEntry) (c10 : Nat) (cs11 : List Value) (p13 : Option Nat) (m14 : Array MapEntry) (c15 : Nat) (cs16 : List Value) (p18 : Option Nat) (cs19 : List Nat) (cs20 : List Value) (p22 : Option Addr) (c23 : Nat) (cs24 : List Value) (b25 : Nat) (hB : SB Ms κ0 w0 [.box b25 87 [si a1, (13, cs2), (1, [.pointer (pa p4)]), (14, cs6), (1, [.map p8]), (1, cs11), (1, [.map p13]), (1, cs16), (1, [.pointer (pa p18)]), (8, cs20), sl p22 (a21).length c23, (1, cs24)], .ext (optX o_coord_Table p4 cs5 a3), .ext (objX p8 (.map m9 c10)), .ext (objX p13 (.map m14 c15)), .ext (optX o_gate_move p18 cs19 a17)] [Map.mp (kInt .u64) true t_gate_call p8 m9 c10 a7, Map.mp (kInt .u64) true t_gate_load p13 m14 c15 a12, Ro.mp t_api_Mail p22 c23 a21]) {r : ((Option T_coord_Table) × (Option T_gate_move))} (H : M.gate_Gate_moves N a1 a3 a7 a12 a17 a21 = some r) :
    Calls Tryz.prog 78 #[pt b25 0] w0 (Post Ms κ0 w0 fun v κ w => ∃ (p46 : Option Nat) (cs47 : List Nat) (p48 : Option Nat) (cs49 : List Nat), v = .tuple #[] ∧ SS Ms κ0 w0 κ w [.box b25 87 [si a1, (13, cs2), (1, [.pointer (pa p46)]), (14, cs6), (1, [.map p8]), (1, cs11), (1, [.map p13]), (1, cs16), (1, [.pointer (pa p48)]), (8, cs20), sl p22 (a21).length c23, (1, cs24)], .ext (optX o_coord_Table p46 cs47 r.1), .ext (objX p8 (.map m9 c10)), .ext (objX p13 (.map m14 c15)), .ext (optX o_gate_move p48 cs49 r.2)] []) := by
 have hS := hB.hS
 have hfr := hS.fresh
 refine enter (N := (104)) (L := [(0, pt b25 0)]) Tryz.func78 rfl Tryz.ntmps78 (show 1 ≤ (104) by decide) rfl fun a hF => ?_
 unfold M.gate_Gate_moves at H
 refine wpIn_seq_k fun K26 hK26 => ?_
 refine wpIn_seq_k fun K27 hK27 => ?_
 refine bind_split H (fun v34 hv34 H => ?_)
 refine code_join (fun a w => ∃ (κ : Gh) (p28 : Option Nat) (cs29 : List Nat) (p31 : Option Nat) (cs32 : List Nat), Fr (104) [] [(0, pt b25 0), (43, vb true)] a ∧ SS Ms κ0 w0 κ w [.box b25 87 [si a1, (13, cs2), (1, [.pointer (pa p28)]), (14, cs6), (1, [.map p8]), (1, cs11), (1, [.map p13]), (1, cs16), (1, [.pointer (pa p31)]), (8, cs20), sl p22 (a21).length c23, (1, cs24)], .ext (optX o_coord_Table p28 cs29 v34.1), .ext (objX p8 (.map m9 c10)), .ext (objX p13 (.map m14 c15)), .ext (optX o_gate_move p31 cs32 v34.2)] [Map.mp (kInt .u64) true t_gate_call p8 m9 c10 a7, Map.mp (kInt .u64) true t_gate_load p13 m14 c15 a12, Ro.mp t_api_Mail p22 c23 a21] ∧ True) ?_ ?_
 refine opt_split hv34 (fun ho hv34 => ?_) (fun x35 ho hv34 => ?_)
 obtain ⟨hpq, hS⟩ := hS.optN 4 rfl ho
 have hG18 := hF
 subst hpq
 have hF := hG18
 refine rga (fun _ => True) [] ?_
 have hS := hS.drew
 refine anp [0, 1, 2] [0, 8] hF trivial fun a hF => ?_
 refine any_weakS hS [36] ?_
 refine atk 3 (some 9) hF (hS.sx (rg 5) [0, 1, 2]) rfl (vld 0 8 0) fun a hF => ?_
 refine any_pure [4, 5, 6, 7, 8, 9, 10, 11, 12, 13, 14, 15, 16, 17, 18, 19, 20, 21, 22, 23, 24, 25, 26, 27, 28, 29, 30, 31, 32, 33, 34, 35] [0, 21, 25, 33, 41] (L' := [(0, pt b25 0), (21, vb true), (25, undef), (33, undef), (41, undef)]) (listed' := (bitA 38 68719476735)) (fuel := 2) hF (hS.sx (rg 5) [0, 1, 2]) (by kernel_rfl) (by intro c a w t v h; cases t <;> exact h) (by kernel_rfl) rfl fun a hF => ?_
 refine agn [36] ⟨op_skip 36 hF rfl ?_, trivial⟩
 intro a hF
 refine ⟨notE, ?_⟩
 refine anpP [37] [0, 43] hF notE fun a hF => ?_
 have hF : Fr (104) _ [(0, pt b25 0), (43, vb true)] a := hF.kp [0, 43]
 refine and_ ?_
 cases hv34
 exact ⟨_, p4, cs5, none, [], hF.kp [0, 43], hS.sp (rg 5) [0, 1, 2], trivial⟩
 obtain ⟨b36, hpq, hS⟩ := hS.optS 4 rfl ho
 have hG17 := hF
 subst hpq
 have hF := hG17
 obtain ⟨_, hS⟩ := hS.unfI (ck := c_gate_move) (fs := q_gate_move) 4 rfl
 refine bind_split hv34 (fun x37 ho hv34 => ?_)
 obtain ⟨b38, hpq, hS⟩ := hS.optS 2 rfl ho
 have hG16 := hF
 subst hpq
 have hF := hG16
 obtain ⟨⟨p39, m40, c41, p42, cs43⟩, hS⟩ := hS.unfI (ck := c_coord_Table) (fs := q_coord_Table) 2 rfl
 refine rgX hS [0, 1, 3, 4, 5, 6] ?_
 have hS := hS.drew
 refine anp [0, 1, 2] [0, 8] hF (hS.sx [0, 1, 3, 4, 5, 6] (rg 4)) fun a hF => ?_
 refine atk 3 (some 9) hF (hS.sx [0, 1, 3, 4, 5, 6] (rg 4)) rfl (vld 3 8 0) fun a hF => ?_
 refine anp [4, 5, 6, 7, 8] [0, 11, 14] hF (hS.sx [0, 1, 3, 4, 5, 6] (rg 4)) fun a hF => ?_
 refine atk 9 (some 15) hF (hS.sx [0, 1, 3, 4, 5, 6] (rg 4)) rfl (vld 3 8 0) fun a hF => ?_
 refine anp [10, 11] [0, 11, 17] hF (hS.sx [0, 1, 3, 4, 5, 6] (rg 4)) fun a hF => ?_
 refine atk 12 (some 18) hF (hS.sx [0, 1, 3, 4, 5, 6] (rg 4)) rfl (vld 2 5 0) fun a hF => ?_
 refine anp [13, 14, 15] [0, 21] hF (hS.sx [0, 1, 3, 4, 5, 6] (rg 4)) fun a hF => ?_
 refine bif_split hv34 (fun hb hv34 => ?_) (fun hb hv34 => ?_)
 have hF := hF.boolv 21 (by kernel_rfl) hb
 refine anp [16, 17, 18, 19, 20, 21, 22, 23, 24, 25, 26, 27, 28, 29, 30, 31, 32, 33, 34, 35, 36, 37] [0, 43] hF (hS.sx [0, 1, 3, 4, 5, 6] (rg 4)) fun a hF => ?_
 refine and_ ?_
 obtain ⟨cs44, hS⟩ := hS.foldI (ck := c_coord_Table) (fs := q_coord_Table) b38 (p39, m40, c41, p42, cs43) x37 [0, 1, 2] [3, 4, 5, 6] [0] (by decide) (by kernel_rfl) (by kernel_rfl)
 obtain ⟨cs45, hS⟩ := hS.foldI (ck := c_gate_move) (fs := q_gate_move) b36 () x35 [1] [0, 2, 3, 4] [] (by decide) (by kernel_rfl) (by kernel_rfl)
 cases hv34
 exact ⟨_, (some b38), cs44, (some b36), cs45, hF.kp [0, 43], hS.sp [2, 1, 3, 4, 0] [1, 2, 3], trivial⟩
 have hF := hF.boolv 21 (by kernel_rfl) hb
 refine anp [16, 17, 18, 20, 21, 22, 28, 29, 30] [0, 21, 24, 28, 36] hF (hS.sx [0, 1, 3, 4, 5, 6] (rg 4)) fun a hF => ?_
 refine atk 19 (some 25) hF (hS.sx [0, 1, 3, 4, 5, 6] (rg 4)) rfl (vld 3 2 0) fun a hF => ?_
 refine atk 23 (some 29) hF (hS.sx [0, 1, 3, 4, 5, 6] (rg 4)) rfl (vld 3 8 0) fun a hF => ?_
 refine anp [24, 25, 26] [0, 21, 25, 32, 36] hF (hS.sx [0, 1, 3, 4, 5, 6] (rg 4)) fun a hF => ?_
 refine atk 27 (some 33) hF (hS.sx [0, 1, 3, 4, 5, 6] (rg 4)) rfl (vld 2 0 0) fun a hF => ?_
 refine atk 31 (some 37) hF (hS.sx [0, 1, 3, 4, 5, 6] (rg 4)) rfl (vld 3 8 0) fun a hF => ?_
 refine anp [32, 33, 34] [0, 21, 25, 33, 40] hF (hS.sx [0, 1, 3, 4, 5, 6] (rg 4)) fun a hF => ?_
 refine atk 35 (some 41) hF (hS.sx [0, 1, 3, 4, 5, 6] (rg 4)) rfl (vld 2 1 0) fun a hF => ?_
 refine ago 36 hF rfl ?_
 cases hv34
 rintro a w ⟨κ, p28, cs29, p31, cs32, hF, hS, -⟩
 refine hK27 _ _ ?_
 refine cond_t hF (by kernel_rfl) rfl ?_
 refine wpIn_ret ?_
 cases H
 exact ret_done hF hS (res0 Tryz.results78 ) ⟨p28, cs29, p31, cs32, rfl, hS.sp (rg 5) []⟩
set_option maxRecDepth 20000 in
set_option maxHeartbeats 8000000 in
theorem C_gate_Gate_learns (N : Nat) {Ms : List Nat} {κ0 : Gh} {w0 : World} (a1 : Int) (a3 : Int) (a4 : Int) (a6 : Bool) (a7 : (Option T_stab_Table)) (a11 : (List (Option T_inbox_Box))) (a14 : (List Int)) (a16 : (Mp Int T_gate_load)) (a21 : (List Int)) (a24 : Int) (a25 : Bool) (a26 : Bool) (a27 : Bool) (a28 : (List T_api_Mail)) (cs2 : List Value) (cs5 : List Value) (p8 : Option Nat) (cs9 : List Nat) (cs10 : List Value) (p12 : List (Option Nat)) (cs13 : List Nat) (cs15 : List Value) (p17 : Option Nat) (m18 : Array MapEntry) (c19 : Nat) (cs20 : List Value) (p22 : Option Addr) (c23 : Nat) (p29 : Option Addr) (c30 : Nat) (cs31 : List Value) (b32 : Nat) (hB : SB Ms κ0 w0 [.box b32 87 [si a1, (1, cs2), si a3, si a4, (7, cs5), sb a6, (1, [.pointer (pa p8)]), (3, cs10), (4, (encs fPtr p12)), ei 4 a14, (7, cs15), (1, [.map p17]), (5, cs20), sl p22 (a21).length c23, su a24, sb a25, sb a26, sb a27, sl p29 (a28).length c30, (1, cs31)], .ext (optX o_stab_Table p8 cs9 a7), .ext (arrX o_inbox_Box p12 cs13 a11), .ext (objX p17 (.map m18 c19))] [ml p12 4, ml a14 4, Map.mp (kInt .u64) true t_gate_load p17 m18 c19 a16, Ro.mp (fInt .u64).ty p22 c23 a21, Ro.mp t_api_Mail p29 c30 a28]) {r : Unit} (H : M.gate_Gate_learns N a1 a3 a4 a6 a7 a11 a14 a16 a21 a24 a25 a26 a27 a28 = some r) :
    Calls Tryz.prog 79 #[pt b32 0] w0 (Post Ms κ0 w0 fun v κ w => ∃ (cs39 cs40 : List Nat), v = .tuple #[] ∧ SS Ms κ0 w0 κ w [.box b32 87 [si a1, (1, cs2), si a3, si a4, (7, cs5), sb a6, (1, [.pointer (pa p8)]), (3, cs10), (4, (encs fPtr p12)), ei 4 a14, (7, cs15), (1, [.map p17]), (5, cs20), sl p22 (a21).length c23, su a24, sb a25, sb a26, sb a27, sl p29 (a28).length c30, (1, cs31)], .ext (optX o_stab_Table p8 cs39 a7), .ext (arrX o_inbox_Box p12 cs40 a11), .ext (objX p17 (.map m18 c19))] []) := by
 have hS := hB.hS
 have hfr := hS.fresh
 refine enter (N := (129)) (L := [(0, pt b32 0)]) Tryz.func79 rfl Tryz.ntmps79 (show 1 ≤ (129) by decide) rfl fun a hF => ?_
 unfold M.gate_Gate_learns at H
 refine wpIn_seq_k fun K33 hK33 => ?_
 refine wpIn_seq_k fun K34 hK34 => ?_
 refine wpIn_region_lit ?_
 refine bind_split H (fun v36 hv36 H => ?_)
 refine wl_join (fun a w => ∃ κ : Gh, Fr (129) [] [(0, pt b32 0), (14, vb v36)] a ∧ SS Ms κ0 w0 κ w [.box b32 87 [si a1, (1, cs2), si a3, si a4, (7, cs5), sb a6, (1, [.pointer (pa p8)]), (3, cs10), (4, (encs fPtr p12)), ei 4 a14, (7, cs15), (1, [.map p17]), (5, cs20), sl p22 (a21).length c23, su a24, sb a25, sb a26, sb a27, sl p29 (a28).length c30, (1, cs31)], .ext (optX o_stab_Table p8 cs9 a7), .ext (arrX o_inbox_Box p12 cs13 a11), .ext (objX p17 (.map m18 c19))] [ml p12 4, ml a14 4, Map.mp (kInt .u64) true t_gate_load p17 m18 c19 a16, Ro.mp (fInt .u64).ty p22 c23 a21, Ro.mp t_api_Mail p29 c30 a28] ∧ True) ?_ ?_
 refine wp 3 [0, 6] hF fun a hF => ?_
 refine wc (wld hF hS 0 2 0 fun a hF => ?_)
 refine wp 2 [0, 9] hF fun a hF => ?_
 refine bif_split hv36 (fun hb hv36 => ?_) (fun hb hv36 => ?_)
 have hF := hF.boolv 9 (by kernel_rfl) hb
 refine wp 5 [0, 14] hF fun a hF => ?_
 refine wpListIn_nil ?_
 cases hv36
 exact ⟨_, hF.kp [0, 14], hS.sp (rg 4) (rg 5), trivial⟩
 have hF := hF.boolv 9 (by kernel_rfl) hb
 refine wp 3 [0, 9, 12] hF fun a hF => ?_
 refine wcg hF (wld hF hS 0 17 0 fun a hF => ?_)
 refine wp 1 [0, 14] hF fun a hF => ?_
 refine wpListIn_nil ?_
 cases hv36
 exact ⟨_, hF.kp [0, 14], hS.sp (rg 4) (rg 5), trivial⟩
 rintro a w ⟨κ, hF, hS, -⟩
 refine hK34 _ _ ?_
 refine bif_split H (fun hb H => ?_) (fun hb H => ?_)
 refine cond_t hF (by kernel_rfl) hb ?_
 refine wpIn_ret ?_
 cases H
 exact ret_done hF hS (res0 Tryz.results79 ) ⟨cs9, cs13, rfl, hS.sp (rg 4) []⟩
 refine cond_f hF (by kernel_rfl) hb ?_
 refine wpIn_skip ?_
 refine hK33 _ _ ?_
 refine wpIn_seq_k fun K37 hK37 => ?_
 refine wpIn_seq_k fun K38 hK38 => ?_
 cases H
set_option maxRecDepth 20000 in
set_option maxHeartbeats 8000000 in
theorem C_slices_Index___bool_bool__own0 (N : Nat) {Ms : List Nat} {κ0 : Gh} {w0 : World} (a1 : (List Bool)) (a4 : Bool) (p2 : Option Addr) (c3 : Nat) (hB : SB Ms κ0 w0 [.ext (ownX fBool 4 p2 c3 a1)] []) {r : (Int)} (H : M.slices_Index___bool_bool__own0 N a1 a4 = some r) :
    Calls Tryz.prog 113 #[.slice p2 (a1).length c3, vb a4] w0 (Post Ms κ0 w0 fun v κ w => v = vi r ∧ SS Ms κ0 w0 κ w [.ext (ownX fBool 4 p2 c3 a1)] []) := by
 have hS := hB.hS
 have hfr := hS.fresh
 refine enter (N := (19)) (L := [(0, .slice p2 (a1).length c3), (1, vb a4)]) Tryz.func113 rfl Tryz.ntmps113 (show 2 ≤ (19) by decide) rfl fun a hF => ?_
 unfold M.slices_Index___bool_bool__own0 at H
 refine wpIn_seq_k fun K5 hK5 => ?_
 refine wpIn_region_lit ?_
 refine wp 1 [0, 1] hF fun a hF => ?_
 refine wpListIn_nil ?_
 refine hK5 _ _ ?_
 refine wpIn_seq_k fun K6 hK6 => ?_
 refine wpIn_seq_k fun K7 hK7 => ?_
 refine wpIn_region_lit ?_
 refine wp 3 [0, 1, 7, 8] hF fun a hF => ?_
 refine wpListIn_nil ?_
 refine hK7 _ _ ?_
 refine wpIn_block ?_
 refine loop_fuel (n := N) (fun n a w => ∃ (κ : Gh) (y58 : Int), Fr (19) [] [(0, .slice p2 (a1).length c3), (1, vb a4), (7, vi ((a1).length : Int)), (8, vi y58)] a ∧ SS Ms κ0 w0 κ w [.ext (ownX fBool 4 p2 c3 a1)] [] ∧ M.slices_Index___bool_bool__own0_L1 N n a1 a4 y58 = some r) ?_ ?_
 exact ⟨_, 0, hF.kp [0, 1, 7, 8], hS.sp [0] [], H⟩
 rintro n a w ⟨κ, y58, hF, hS, H⟩
 rcases n with _ | fuel1
 simp [M.slices_Index___bool_bool__own0_L1] at H
 simp only [M.slices_Index___bool_bool__own0_L1] at H
 refine wpIn_seq_k fun K59 hK59 => ?_
 refine wpIn_region_lit ?_
 refine wp 1 [0, 1, 7, 8, 9] hF fun a hF => ?_
 refine wpListIn_nil ?_
 refine hK59 _ _ ?_
 refine wpIn_seq_k fun K60 hK60 => ?_
 refine bif_split H (fun hb H => ?_) (fun hb H => ?_)
 refine cond_t hF (by kernel_rfl) hb ?_
 refine wpIn_skip ?_
 refine hK60 _ _ ?_
 refine wpIn_seq_k fun K61 hK61 => ?_
 refine wpIn_block ?_
 refine wpIn_seq_k fun K62 hK62 => ?_
 refine wpIn_region_lit ?_
 refine wp 2 [0, 1, 5, 7, 8] hF fun a hF => ?_
 refine wpListIn_nil ?_
 refine hK62 _ _ ?_
 refine wpIn_seq_k fun K63 hK63 => ?_
 refine wpIn_region_lit ?_
 refine wl_pure (L' := [(0, .slice p2 (a1).length c3), (1, vb a4), (5, vi y58), (7, vi ((a1).length : Int)), (8, vi y58), (11, vb a4), (12, .slice p2 (a1).length c3), (13, vi y58)]) 3 [0, 1, 5, 7, 8, 11, 12, 13] hF (by kernel_rfl) fun a hF => ?_
 refine bind_split H (fun x64 hx64 H => ?_)
 refine wc (wo_indexO hF hS (by kernel_rfl) 0 (sz := 1) rfl rfl rfl rfl rfl hx64 (by kernel_rfl) (by kernel_rfl) fun b65 f66 a hpx64 hF => ?_)
 refine wc (wo_loadO hF hS (by kernel_rfl) 0 (v := vb x64) rfl rfl hpx64 rfl hx64 rfl (by kernel_rfl) (by kernel_rfl) fun a hF => ?_)
 refine wp 1 [0, 1, 5, 7, 8, 16] hF fun a hF => ?_
 refine wpListIn_nil ?_
 refine hK63 _ _ ?_
 refine bif_split H (fun hb H => ?_) (fun hb H => ?_)
 refine cond_t hF (by kernel_rfl) hb ?_
 refine wpIn_seq_k fun K67 hK67 => ?_
 refine wpIn_region_lit ?_
 refine wp 2 [4] hF fun a hF => ?_
 refine wpListIn_nil ?_
 refine hK67 _ _ ?_
 refine wpIn_ret ?_
 cases H
 exact ret_done hF hS (res1 Tryz.results113 (rvt hF)) ⟨rfl, hS.sp [0] []⟩
 refine cond_f hF (by kernel_rfl) hb ?_
 refine wpIn_skip ?_
 refine hK61 _ _ ?_
 refine wpIn_region_lit ?_
 refine wp 2 [0, 1, 7, 8] hF fun a hF => ?_
 refine wpListIn_nil ?_
 exact ⟨fuel1, Nat.lt_succ_self _, _, IntKind.i64.wrap (y58 + 1), hF.kp [0, 1, 7, 8], hS.sp [0] [], H⟩
 refine cond_f hF (by kernel_rfl) hb ?_
 refine wpIn_exit ?_
 refine hK6 _ _ ?_
 refine wpIn_seq_k fun K68 hK68 => ?_
 refine wpIn_region_lit ?_
 refine wp 1 [4] hF fun a hF => ?_
 refine wpListIn_nil ?_
 refine hK68 _ _ ?_
 refine wpIn_ret ?_
 cases H
 exact ret_done hF hS (res1 Tryz.results113 (rvt hF)) ⟨rfl, hS.sp [0] []⟩
set_option maxRecDepth 20000 in
set_option maxHeartbeats 8000000 in
theorem C_slices_Contains___bool_bool__own0 (N : Nat) {Ms : List Nat} {κ0 : Gh} {w0 : World} (a1 : (List Bool)) (a4 : Bool) (p2 : Option Addr) (c3 : Nat) (hB : SB Ms κ0 w0 [.ext (ownX fBool 4 p2 c3 a1)] []) {r : (Bool)} (H : M.slices_Contains___bool_bool__own0 N a1 a4 = some r) :
    Calls Tryz.prog 80 #[.slice p2 (a1).length c3, vb a4] w0 (Post Ms κ0 w0 fun v κ w => v = vb r ∧ SS Ms κ0 w0 κ w [.ext (ownX fBool 4 p2 c3 a1)] []) := by
 have hS := hB.hS
 have hfr := hS.fresh
 refine enter (N := (9)) (L := [(0, .slice p2 (a1).length c3), (1, vb a4)]) Tryz.func80 rfl Tryz.ntmps80 (show 2 ≤ (9) by decide) rfl fun a hF => ?_
 unfold M.slices_Contains___bool_bool__own0 at H
 refine wpIn_seq_k fun K5 hK5 => ?_
 refine wpIn_region_lit ?_
 refine wp 1 [0, 1] hF fun a hF => ?_
 refine wpListIn_nil ?_
 refine hK5 _ _ ?_
 refine wpIn_seq_k fun K6 hK6 => ?_
 refine wpIn_region_lit ?_
 refine wp 2 [5, 6] hF fun a hF => ?_
 refine bind_split H (fun x7 hx7 H => ?_)
 refine wc (wcS 1 [0] hF hS (fun hS => C_slices_Index___bool_bool__own0 N a1 a4 p2 c3  (hS.sbK []) hx7) ?_)
 rintro _ κ w a ⟨rfl, h2⟩ hF hB
 have hS := hB _ _ h2
 refine wp 2 [4] hF fun a hF => ?_
 refine wpListIn_nil ?_
 refine hK6 _ _ ?_
 refine wpIn_ret ?_
 cases H
 exact ret_done hF hS (res1 Tryz.results80 (rvt hF)) ⟨rfl, hS.sp [0] []⟩
set_option maxRecDepth 20000 in
set_option maxHeartbeats 8000000 in
theorem C_gate_Gate_work (N : Nat) {Ms : List Nat} {κ0 : Gh} {w0 : World} (a1 : Int) (a3 : Int) (a4 : Int) (a6 : T_api_Map) (a12 : (List Bool)) (a16 : Bool) (a17 : (Option T_stab_Table)) (a20 : (Option T_order_Log)) (a23 : (Option T_coord_Table)) (a26 : Int) (a27 : (List (Option T_inbox_Box))) (a30 : (List Int)) (a31 : (List Int)) (a33 : (Mp Int T_gate_call)) (a37 : (List T_gate_call)) (a40 : (Mp Int T_gate_load)) (a44 : Int) (a45 : (Option T_gate_move)) (a49 : (List Int)) (a52 : Int) (a53 : Bool) (a54 : Bool) (a55 : Bool) (a56 : (List T_api_Mail)) (cs2 : List Value) (cs5 : List Value) (p7 : Option Addr) (c8 : Nat) (p9 : Option Addr) (c10 : Nat) (cs11 : List Value) (p13 : Option Addr) (c14 : Nat) (cs15 : List Value) (p18 : Option Nat) (cs19 : List Nat) (p21 : Option Nat) (cs22 : List Nat) (p24 : Option Nat) (cs25 : List Nat) (p28 : List (Option Nat)) (cs29 : List Nat) (cs32 : List Value) (p34 : Option Nat) (m35 : Array MapEntry) (c36 : Nat) (p38 : Option Addr) (c39 : Nat) (p41 : Option Nat) (m42 : Array MapEntry) (c43 : Nat) (p46 : Option Nat) (cs47 : List Nat) (cs48 : List Value) (p50 : Option Addr) (c51 : Nat) (p57 : Option Addr) (c58 : Nat) (cs59 : List Value) (b60 : Nat) (hB : SB Ms κ0 w0 [.box b60 87 [si a1, (1, cs2), si a3, si a4, (2, cs5), sl p7 (a6.Cuts).length c8, sl p9 (a6.Nodes).length c10, (1, cs11), sl p13 (a12).length c14, (1, cs15), sb a16, (1, [.pointer (pa p18)]), (1, [.pointer (pa p21)]), (1, [.pointer (pa p24)]), su a26, (4, (encs fPtr p28)), ei 4 a30, ei 4 a31, (1, cs32), (1, [.map p34]), sl p38 (a37).length c39, (1, [.map p41]), su a44, (1, [.pointer (pa p46)]), (3, cs48), sl p50 (a49).length c51, su a52, sb a53, sb a54, sb a55, sl p57 (a56).length c58, (1, cs59)], .ext (ownX fBool 4 p13 c14 a12), .ext (optX o_stab_Table p18 cs19 a17), .ext (optX o_order_Log p21 cs22 a20), .ext (optX o_coord_Table p24 cs25 a23), .ext (arrX o_inbox_Box p28 cs29 a27), .ext (objX p34 (.map m35 c36)), .ext (objX p41 (.map m42 c43)), .ext (optX o_gate_move p46 cs47 a45)] [Ro.mp fStr.ty p7 c8 a6.Cuts, Ro.mp (fInt .i64).ty p9 c10 a6.Nodes, ml p28 4, ml a30 4, ml a31 4, Map.mp (kInt .u64) true t_gate_call p34 m35 c36 a33, Ro.mp t_gate_call p38 c39 a37, Map.mp (kInt .u64) true t_gate_load p41 m42 c43 a40, Ro.mp (fInt .u64).ty p50 c51 a49, Ro.mp t_api_Mail p57 c58 a56]) {r : ((Option T_stab_Table) × (Option T_order_Log) × (Option T_coord_Table) × (Option T_gate_move))} (H : M.gate_Gate_work N a1 a3 a4 a6 a12 a16 a17 a20 a23 a26 a27 a30 a31 a33 a37 a40 a44 a45 a49 a52 a53 a54 a55 a56 = some r) :
    Calls Tryz.prog 34 #[pt b60 0] w0 (Post Ms κ0 w0 fun v κ w => ∃ (p112 : Option Nat) (cs113 : List Nat) (p114 : Option Nat) (cs115 : List Nat) (p116 : Option Nat) (cs117 : List Nat) (p118 : Option Nat) (cs119 cs120 : List Nat), v = .tuple #[] ∧ SS Ms κ0 w0 κ w [.box b60 87 [si a1, (1, cs2), si a3, si a4, (2, cs5), sl p7 (a6.Cuts).length c8, sl p9 (a6.Nodes).length c10, (1, cs11), sl p13 (a12).length c14, (1, cs15), sb a16, (1, [.pointer (pa p112)]), (1, [.pointer (pa p114)]), (1, [.pointer (pa p116)]), su a26, (4, (encs fPtr p28)), ei 4 a30, ei 4 a31, (1, cs32), (1, [.map p34]), sl p38 (a37).length c39, (1, [.map p41]), su a44, (1, [.pointer (pa p118)]), (3, cs48), sl p50 (a49).length c51, su a52, sb a53, sb a54, sb a55, sl p57 (a56).length c58, (1, cs59)], .ext (ownX fBool 4 p13 c14 a12), .ext (optX o_stab_Table p112 cs113 r.1), .ext (optX o_order_Log p114 cs115 r.2.1), .ext (optX o_coord_Table p116 cs117 r.2.2.1), .ext (arrX o_inbox_Box p28 cs120 a27), .ext (objX p34 (.map m35 c36)), .ext (objX p41 (.map m42 c43)), .ext (optX o_gate_move p118 cs119 r.2.2.2)] []) := by
 have hS := hB.hS
 have hfr := hS.fresh
 refine enter (N := (84)) (L := [(0, pt b60 0)]) Tryz.func34 rfl Tryz.ntmps34 (show 1 ≤ (84) by decide) rfl fun a hF => ?_
 unfold M.gate_Gate_work at H
 refine seq_join (fun a w => ∃ (κ : Gh) (p61 : Option Nat) (cs62 : List Nat) (y63 : Option T_stab_Table) (p64 : Option Nat) (cs65 : List Nat) (y66 : Option T_order_Log) (p67 : Option Nat) (cs68 : List Nat) (y69 : Option T_coord_Table) (cs70 : List Nat) (p71 : Option Nat) (cs72 : List Nat) (y73 : Option T_gate_move), Fr (84) [] [(0, pt b60 0)] a ∧ SS Ms κ0 w0 κ w [.box b60 87 [si a1, (1, cs2), si a3, si a4, (2, cs5), sl p7 (a6.Cuts).length c8, sl p9 (a6.Nodes).length c10, (1, cs11), sl p13 (a12).length c14, (1, cs15), sb a16, (1, [.pointer (pa p61)]), (1, [.pointer (pa p64)]), (1, [.pointer (pa p67)]), su a26, (4, (encs fPtr p28)), ei 4 a30, ei 4 a31, (1, cs32), (1, [.map p34]), sl p38 (a37).length c39, (1, [.map p41]), su a44, (1, [.pointer (pa p71)]), (3, cs48), sl p50 (a49).length c51, su a52, sb a53, sb a54, sb a55, sl p57 (a56).length c58, (1, cs59)], .ext (ownX fBool 4 p13 c14 a12), .ext (optX o_stab_Table p61 cs62 y63), .ext (optX o_order_Log p64 cs65 y66), .ext (optX o_coord_Table p67 cs68 y69), .ext (arrX o_inbox_Box p28 cs70 a27), .ext (objX p34 (.map m35 c36)), .ext (objX p41 (.map m42 c43)), .ext (optX o_gate_move p71 cs72 y73)] [Ro.mp fStr.ty p7 c8 a6.Cuts, Ro.mp (fInt .i64).ty p9 c10 a6.Nodes, ml p28 4, ml a30 4, ml a31 4, Map.mp (kInt .u64) true t_gate_call p34 m35 c36 a33, Ro.mp t_gate_call p38 c39 a37, Map.mp (kInt .u64) true t_gate_load p41 m42 c43 a40, Ro.mp (fInt .u64).ty p50 c51 a49, Ro.mp t_api_Mail p57 c58 a56] ∧ M.gate_Gate_work_k1 N a1 a3 a4 a6 a12 a16 a26 a27 a30 a31 a33 a37 a40 a44 a49 a52 a53 a54 a55 a56 y63 y66 y69 y73 = some r) ?_ ?_
 refine wpIn_seq_k fun K92 hK92 => ?_
 refine wpIn_region_lit ?_
 refine wp 3 [0, 4] hF fun a hF => ?_
 refine wc (wld hF hS 0 2 0 fun a hF => ?_)
 refine wp 1 [0, 6] hF fun a hF => ?_
 refine wpListIn_nil ?_
 refine hK92 _ _ ?_
 refine bif_split H (fun hb H => ?_) (fun hb H => ?_)
 refine cond_t hF (by kernel_rfl) hb ?_
 refine wpIn_seq_k fun K93 hK93 => ?_
 refine wpIn_region_lit ?_
 refine wp 1 [0, 7] hF fun a hF => ?_
 refine bind_split H (fun x94 hx94 H => ?_)
 have hgx940 := hS.segs 0 rfl
 refine wc (wcS 3 [0, 2, 3, 1, 4, 5, 6, 7, 8] hF hS (fun hS => C_gate_Gate_ship N a17 a20 a30 a56 (flat [si a1, (1, cs2), si a3, si a4, (2, cs5), sl p7 (a6.Cuts).length c8, sl p9 (a6.Nodes).length c10, (1, cs11), sl p13 (a12).length c14, (1, cs15), sb a16]) p18 cs19 p21 cs22 (flat [(1, [.pointer (pa p24)]), su a26, (4, (encs fPtr p28))]) (flat [ei 4 a31, (1, cs32), (1, [.map p34]), sl p38 (a37).length c39, (1, [.map p41]), su a44, (1, [.pointer (pa p46)]), (3, cs48), sl p50 (a49).length c51, su a52, sb a53, sb a54, sb a55]) p57 c58 cs59 b60 ((hS.regr 0 [(true, 11), (false, 2), (true, 3), (false, 1), (true, 13), (false, 2)] rfl).sbK [3, 9]) hx94) ?_)
 rintro _ κ w a ⟨p95, cs96, p97, cs98, rfl, h2⟩ hF hB
 have hS := (hB _ _ h2).unregrK 0 [(true, 11), (false, 2), (true, 3), (false, 1), (true, 13), (false, 2)] (s' := [si a1, (1, cs2), si a3, si a4, (2, cs5), sl p7 (a6.Cuts).length c8, sl p9 (a6.Nodes).length c10, (1, cs11), sl p13 (a12).length c14, (1, cs15), sb a16, (1, [.pointer (pa p95)]), (1, [.pointer (pa p97)]), (1, [.pointer (pa p24)]), su a26, (4, (encs fPtr p28)), ei 4 a30, ei 4 a31, (1, cs32), (1, [.map p34]), sl p38 (a37).length c39, (1, [.map p41]), su a44, (1, [.pointer (pa p46)]), (3, cs48), sl p50 (a49).length c51, su a52, sb a53, sb a54, sb a55, sl p57 (a56).length c58, (1, cs59)]) hgx940 rfl
 refine wpListIn_nil ?_
 refine hK93 _ _ ?_
 refine wpIn_seq_k fun K99 hK99 => ?_
 refine wpIn_region_lit ?_
 refine wp 1 [0, 9] hF fun a hF => ?_
 refine bind_split H (fun x100 hx100 H => ?_)
 have hgx1000 := hS.segs 0 rfl
 refine wc (wcS 4 [0, 5, 7, 8, 1, 2, 3, 4, 6] hF hS (fun hS => C_gate_Gate_load N a1 (T_api_Map.mk a6.Cuts a6.Nodes) a26 a27 a40 a44 a45 a56 (flat [(1, cs2), si a3, si a4, (2, cs5)]) p7 c8 p9 c10 (flat [(1, cs11), sl p13 (a12).length c14, (1, cs15), sb a16, (1, [.pointer (pa p95)]), (1, [.pointer (pa p97)]), (1, [.pointer (pa p24)])]) p28 cs29 (flat [ei 4 a30, ei 4 a31, (1, cs32), (1, [.map p34]), sl p38 (a37).length c39]) p41 m42 c43 p46 cs47 (flat [(3, cs48), sl p50 (a49).length c51, su a52, sb a53, sb a54, sb a55]) p57 c58 cs59 b60 ((hS.regr 0 [(false, 1), (true, 4), (false, 2), (true, 7), (false, 2), (true, 5), (false, 3), (true, 6), (false, 2)] rfl).sbK [0, 1, 2, 7, 9]) hx100) ?_)
 rintro _ κ w a ⟨cs101, cs102, rfl, h2⟩ hF hB
 have hS := ((hB _ _ h2).unregrK 0 [(false, 1), (true, 4), (false, 2), (true, 7), (false, 2), (true, 5), (false, 3), (true, 6), (false, 2)] (s' := [si a1, (1, cs2), si a3, si a4, (2, cs5), sl p7 (a6.Cuts).length c8, sl p9 (a6.Nodes).length c10, (1, cs11), sl p13 (a12).length c14, (1, cs15), sb a16, (1, [.pointer (pa p95)]), (1, [.pointer (pa p97)]), (1, [.pointer (pa p24)]), su a26, (4, (encs fPtr p28)), ei 4 a30, ei 4 a31, (1, cs32), (1, [.map p34]), sl p38 (a37).length c39, (1, [.map p41]), su a44, (1, [.pointer (pa p46)]), (3, cs48), sl p50 (a49).length c51, su a52, sb a53, sb a54, sb a55, sl p57 (a56).length c58, (1, cs59)]) hgx1000 rfl).cC (C' := [.box b60 87 [si a1, (1, cs2), si a3, si a4, (2, cs5), sl p7 (a6.Cuts).length c8, sl p9 (a6.Nodes).length c10, (1, cs11), sl p13 (a12).length c14, (1, cs15), sb a16, (1, [.pointer (pa p95)]), (1, [.pointer (pa p97)]), (1, [.pointer (pa p24)]), su a26, (4, (encs fPtr p28)), ei 4 a30, ei 4 a31, (1, cs32), (1, [.map p34]), sl p38 (a37).length c39, (1, [.map p41]), su a44, (1, [.pointer (pa p46)]), (3, cs48), sl p50 (a49).length c51, su a52, sb a53, sb a54, sb a55, sl p57 (a56).length c58, (1, cs59)], .ext (arrX o_inbox_Box p28 cs101 a27), .ext (objX p41 (.map m42 c43)), .ext (optX o_gate_move p46 cs102 a45), .ext (optX o_stab_Table p95 cs96 x94.1), .ext (optX o_order_Log p97 cs98 x94.2), .ext (ownX fBool 4 p13 c14 a12), .ext (optX o_coord_Table p24 cs25 a23), .ext (objX p34 (.map m35 c36))])
 refine wpListIn_nil ?_
 refine hK99 _ _ ?_
 refine wpIn_seq_k fun K103 hK103 => ?_
 refine wpIn_region_lit ?_
 refine wp 1 [0, 11] hF fun a hF => ?_
 refine bind_split H (fun x104 hx104 H => ?_)
 have hgx1040 := hS.segs 0 rfl
 refine wc (wcS 5 [0, 7, 8, 2, 3, 1, 4, 5, 6] hF hS (fun hS => C_gate_Gate_moves N a1 a23 a33 a40 a45 a56 (flat [(1, cs2), si a3, si a4, (2, cs5), sl p7 (a6.Cuts).length c8, sl p9 (a6.Nodes).length c10, (1, cs11), sl p13 (a12).length c14, (1, cs15), sb a16, (1, [.pointer (pa p95)]), (1, [.pointer (pa p97)])]) p24 cs25 (flat [su a26, (4, (encs fPtr p28)), ei 4 a30, ei 4 a31, (1, cs32)]) p34 m35 c36 [.slice p38 (a37).length c39] p41 m42 c43 [vu a44] p46 cs102 (flat [(3, cs48), sl p50 (a49).length c51, su a52, sb a53, sb a54, sb a55]) p57 c58 cs59 b60 ((hS.regr 0 [(false, 1), (true, 12), (false, 1), (true, 5), (false, 5), (true, 6), (false, 2)] rfl).sbK [5, 7, 9]) hx104) ?_)
 rintro _ κ w a ⟨p105, cs106, p107, cs108, rfl, h2⟩ hF hB
 have hS := (hB _ _ h2).unregrK 0 [(false, 1), (true, 12), (false, 1), (true, 5), (false, 5), (true, 6), (false, 2)] (s' := [si a1, (1, cs2), si a3, si a4, (2, cs5), sl p7 (a6.Cuts).length c8, sl p9 (a6.Nodes).length c10, (1, cs11), sl p13 (a12).length c14, (1, cs15), sb a16, (1, [.pointer (pa p95)]), (1, [.pointer (pa p97)]), (1, [.pointer (pa p105)]), su a26, (4, (encs fPtr p28)), ei 4 a30, ei 4 a31, (1, cs32), (1, [.map p34]), sl p38 (a37).length c39, (1, [.map p41]), su a44, (1, [.pointer (pa p107)]), (3, cs48), sl p50 (a49).length c51, su a52, sb a53, sb a54, sb a55, sl p57 (a56).length c58, (1, cs59)]) hgx1040 rfl
 refine wpListIn_nil ?_
 refine hK103 _ _ ?_
 refine wpIn_region_lit ?_
 refine wp 1 [0, 13] hF fun a hF => ?_
 refine bind_split H (fun x109 hx109 H => ?_)
 have hgx1090 := hS.segs 0 rfl
 refine wc (wcS 4 [0, 6, 5, 3, 1, 2, 4, 7, 8] hF hS (fun hS => C_gate_Gate_learns N a1 a3 a4 a16 x94.1 a27 a30 a40 a49 a52 a53 a54 a55 a56 cs2 (flat [(2, cs5), sl p7 (a6.Cuts).length c8, sl p9 (a6.Nodes).length c10, (1, cs11), sl p13 (a12).length c14, (1, cs15)]) p95 cs96 (flat [(1, [.pointer (pa p97)]), (1, [.pointer (pa p105)]), su a26]) p28 cs101 (flat [ei 4 a31, (1, cs32), (1, [.map p34]), sl p38 (a37).length c39]) p41 m42 c43 (flat [su a44, (1, [.pointer (pa p107)]), (3, cs48)]) p50 c51 p57 c58 cs59 b60 ((hS.regr 0 [(false, 4), (true, 6), (false, 2), (true, 3), (false, 2), (true, 4), (false, 1), (true, 3), (false, 7)] rfl).sbK [2, 3, 7, 8, 9]) hx109) ?_)
 rintro _ κ w a ⟨cs110, cs111, rfl, h2⟩ hF hB
 have hS := ((hB _ _ h2).unregrK 0 [(false, 4), (true, 6), (false, 2), (true, 3), (false, 2), (true, 4), (false, 1), (true, 3), (false, 7)] (s' := [si a1, (1, cs2), si a3, si a4, (2, cs5), sl p7 (a6.Cuts).length c8, sl p9 (a6.Nodes).length c10, (1, cs11), sl p13 (a12).length c14, (1, cs15), sb a16, (1, [.pointer (pa p95)]), (1, [.pointer (pa p97)]), (1, [.pointer (pa p105)]), su a26, (4, (encs fPtr p28)), ei 4 a30, ei 4 a31, (1, cs32), (1, [.map p34]), sl p38 (a37).length c39, (1, [.map p41]), su a44, (1, [.pointer (pa p107)]), (3, cs48), sl p50 (a49).length c51, su a52, sb a53, sb a54, sb a55, sl p57 (a56).length c58, (1, cs59)]) hgx1090 rfl).cC (C' := [.box b60 87 [si a1, (1, cs2), si a3, si a4, (2, cs5), sl p7 (a6.Cuts).length c8, sl p9 (a6.Nodes).length c10, (1, cs11), sl p13 (a12).length c14, (1, cs15), sb a16, (1, [.pointer (pa p95)]), (1, [.pointer (pa p97)]), (1, [.pointer (pa p105)]), su a26, (4, (encs fPtr p28)), ei 4 a30, ei 4 a31, (1, cs32), (1, [.map p34]), sl p38 (a37).length c39, (1, [.map p41]), su a44, (1, [.pointer (pa p107)]), (3, cs48), sl p50 (a49).length c51, su a52, sb a53, sb a54, sb a55, sl p57 (a56).length c58, (1, cs59)], .ext (optX o_stab_Table p95 cs110 x94.1), .ext (arrX o_inbox_Box p28 cs111 a27), .ext (objX p41 (.map m42 c43)), .ext (optX o_coord_Table p105 cs106 x104.1), .ext (objX p34 (.map m35 c36)), .ext (optX o_gate_move p107 cs108 x104.2), .ext (optX o_order_Log p97 cs98 x94.2), .ext (ownX fBool 4 p13 c14 a12)])
 refine wpListIn_nil ?_
 exact ⟨_, p95, cs110, x94.1, p97, cs98, x94.2, p105, cs106, x104.1, cs111, p107, cs108, x104.2, hF.kp [0], hS.sp [0, 8, 1, 7, 4, 2, 5, 3, 6] (rg 10), H⟩
 refine cond_f hF (by kernel_rfl) hb ?_
 refine wpIn_skip ?_
 exact ⟨_, p18, cs19, a17, p21, cs22, a20, p24, cs25, a23, cs29, p46, cs47, a45, hF.kp [0], hS.sp (rg 9) (rg 10), H⟩
 rintro a w ⟨κ, p61, cs62, y63, p64, cs65, y66, p67, cs68, y69, cs70, p71, cs72, y73, hF, hS, H⟩
 unfold M.gate_Gate_work_k1 at H
 refine seq_join (fun a w => ∃ (κ : Gh) (p74 : Option Nat) (cs75 : List Nat) (y76 : Option T_gate_move), Fr (84) [] [(0, pt b60 0)] a ∧ SS Ms κ0 w0 κ w [.box b60 87 [si a1, (1, cs2), si a3, si a4, (2, cs5), sl p7 (a6.Cuts).length c8, sl p9 (a6.Nodes).length c10, (1, cs11), sl p13 (a12).length c14, (1, cs15), sb a16, (1, [.pointer (pa p61)]), (1, [.pointer (pa p64)]), (1, [.pointer (pa p67)]), su a26, (4, (encs fPtr p28)), ei 4 a30, ei 4 a31, (1, cs32), (1, [.map p34]), sl p38 (a37).length c39, (1, [.map p41]), su a44, (1, [.pointer (pa p74)]), (3, cs48), sl p50 (a49).length c51, su a52, sb a53, sb a54, sb a55, sl p57 (a56).length c58, (1, cs59)], .ext (ownX fBool 4 p13 c14 a12), .ext (optX o_stab_Table p61 cs62 y63), .ext (optX o_order_Log p64 cs65 y66), .ext (optX o_coord_Table p67 cs68 y69), .ext (arrX o_inbox_Box p28 cs70 a27), .ext (objX p34 (.map m35 c36)), .ext (objX p41 (.map m42 c43)), .ext (optX o_gate_move p74 cs75 y76)] [Ro.mp fStr.ty p7 c8 a6.Cuts, Ro.mp (fInt .i64).ty p9 c10 a6.Nodes, ml p28 4, ml a30 4, ml a31 4, Map.mp (kInt .u64) true t_gate_call p34 m35 c36 a33, Ro.mp t_gate_call p38 c39 a37, Map.mp (kInt .u64) true t_gate_load p41 m42 c43 a40, Ro.mp (fInt .u64).ty p50 c51 a49, Ro.mp t_api_Mail p57 c58 a56] ∧ M.gate_Gate_work_k2 N a1 a3 a4 a6 a12 a16 a26 a27 a30 a31 a33 a37 a40 a44 a49 a52 a53 a54 a55 a56 y63 y66 y69 y76 = some r) ?_ ?_
 refine wpIn_seq_k fun K79 hK79 => ?_
 refine bind_split H (fun v84 hv84 H => ?_)
 refine code_join (fun a w => ∃ (κ : Gh) (p80 : Option Nat) (cs81 : List Nat), Fr (84) [] [(0, pt b60 0), (33, vb v84.2)] a ∧ SS Ms κ0 w0 κ w [.box b60 87 [si a1, (1, cs2), si a3, si a4, (2, cs5), sl p7 (a6.Cuts).length c8, sl p9 (a6.Nodes).length c10, (1, cs11), sl p13 (a12).length c14, (1, cs15), sb a16, (1, [.pointer (pa p61)]), (1, [.pointer (pa p64)]), (1, [.pointer (pa p67)]), su a26, (4, (encs fPtr p28)), ei 4 a30, ei 4 a31, (1, cs32), (1, [.map p34]), sl p38 (a37).length c39, (1, [.map p41]), su a44, (1, [.pointer (pa p80)]), (3, cs48), sl p50 (a49).length c51, su a52, sb a53, sb a54, sb a55, sl p57 (a56).length c58, (1, cs59)], .ext (ownX fBool 4 p13 c14 a12), .ext (optX o_stab_Table p61 cs62 y63), .ext (optX o_order_Log p64 cs65 y66), .ext (optX o_coord_Table p67 cs68 y69), .ext (arrX o_inbox_Box p28 cs70 a27), .ext (objX p34 (.map m35 c36)), .ext (objX p41 (.map m42 c43)), .ext (optX o_gate_move p80 cs81 v84.1)] [Ro.mp fStr.ty p7 c8 a6.Cuts, Ro.mp (fInt .i64).ty p9 c10 a6.Nodes, ml p28 4, ml a30 4, ml a31 4, Map.mp (kInt .u64) true t_gate_call p34 m35 c36 a33, Ro.mp t_gate_call p38 c39 a37, Map.mp (kInt .u64) true t_gate_load p41 m42 c43 a40, Ro.mp (fInt .u64).ty p50 c51 a49, Ro.mp t_api_Mail p57 c58 a56] ∧ True) ?_ ?_
 refine opt_split hv84 (fun ho hv84 => ?_) (fun x85 ho hv84 => ?_)
 obtain ⟨hpq, hS⟩ := hS.optN 8 rfl ho
 have hG24 := hF
 subst hpq
 have hF := hG24
 refine wpIn_region_lit ?_
 refine bind_split hv84 (fun v89 hv89 hv84 => ?_)
 refine wl_join (fun a w => ∃ κ : Gh, Fr (84) [] [(0, pt b60 0), (33, vb v89)] a ∧ SS Ms κ0 w0 κ w [.box b60 87 [si a1, (1, cs2), si a3, si a4, (2, cs5), sl p7 (a6.Cuts).length c8, sl p9 (a6.Nodes).length c10, (1, cs11), sl p13 (a12).length c14, (1, cs15), sb a16, (1, [.pointer (pa p61)]), (1, [.pointer (pa p64)]), (1, [.pointer (pa p67)]), su a26, (4, (encs fPtr p28)), ei 4 a30, ei 4 a31, (1, cs32), (1, [.map p34]), sl p38 (a37).length c39, (1, [.map p41]), su a44, (1, [.pointer none]), (3, cs48), sl p50 (a49).length c51, su a52, sb a53, sb a54, sb a55, sl p57 (a56).length c58, (1, cs59)], .ext (ownX fBool 4 p13 c14 a12), .ext (optX o_stab_Table p61 cs62 y63), .ext (optX o_order_Log p64 cs65 y66), .ext (optX o_coord_Table p67 cs68 y69), .ext (arrX o_inbox_Box p28 cs70 a27), .ext (objX p34 (.map m35 c36)), .ext (objX p41 (.map m42 c43))] [Ro.mp fStr.ty p7 c8 a6.Cuts, Ro.mp (fInt .i64).ty p9 c10 a6.Nodes, ml p28 4, ml a30 4, ml a31 4, Map.mp (kInt .u64) true t_gate_call p34 m35 c36 a33, Ro.mp t_gate_call p38 c39 a37, Map.mp (kInt .u64) true t_gate_load p41 m42 c43 a40, Ro.mp (fInt .u64).ty p50 c51 a49, Ro.mp t_api_Mail p57 c58 a56] ∧ True) ?_ ?_
 refine wp 3 [0, 17] hF fun a hF => ?_
 refine wc (wld hF hS 0 10 0 fun a hF => ?_)
 refine wp 1 [0, 19] hF fun a hF => ?_
 refine bif_split hv89 (fun hb hv89 => ?_) (fun hb hv89 => ?_)
 have hF := hF.boolv 19 (by kernel_rfl) hb
 refine wp 3 [0, 19, 22] hF fun a hF => ?_
 refine wcg hF (wld hF hS 0 23 0 fun a hF => ?_)
 refine wp 6 [0, 26, 29] hF fun a hF => ?_
 refine wcg hF (wld hF hS 0 8 0 fun a hF => ?_)
 refine bind_split hv89 (fun x90 hx90 hv89 => ?_)
 refine wcg hF (wcS 1 [1, 0, 2, 3, 4, 5, 6, 7, 8] hF hS (fun hS => C_slices_Contains___bool_bool__own0 N a12 false p13 c14  (hS.sbK []) hx90) ?_)
 rintro _ κ w a ⟨rfl, h2⟩ hF hB
 have hS := hB _ _ h2
 refine wp 2 [0, 33] hF fun a hF => ?_
 refine wpListIn_nil ?_
 cases hv89
 exact ⟨_, hF.kp [0, 33], hS.sp [1, 0, 2, 3, 4, 5, 6, 7] (rg 10), trivial⟩
 have hF := hF.boolv 19 (by kernel_rfl) hb
 refine wp 14 [0, 33] hF fun a hF => ?_
 refine wpListIn_nil ?_
 cases hv89
 exact ⟨_, hF.kp [0, 33], hS.sp (rg 8) (rg 10), trivial⟩
 rintro a w ⟨κ, hF, hS, -⟩
 cases hv84
 have hS := hS.addOpt o_gate_move
 exact ⟨_, none, [], hF.kp [0, 33], hS.sp [1, 2, 3, 4, 5, 6, 7, 8, 0] (rg 10), trivial⟩
 obtain ⟨b86, hpq, hS⟩ := hS.optS 8 rfl ho
 have hG23 := hF
 subst hpq
 have hF := hG23
 refine wpIn_region_lit ?_
 refine bind_split hv84 (fun v87 hv87 hv84 => ?_)
 refine wl_join (fun a w => ∃ κ : Gh, Fr (84) [] [(0, pt b60 0), (33, vb false)] a ∧ SS Ms κ0 w0 κ w [.box b60 87 [si a1, (1, cs2), si a3, si a4, (2, cs5), sl p7 (a6.Cuts).length c8, sl p9 (a6.Nodes).length c10, (1, cs11), sl p13 (a12).length c14, (1, cs15), sb a16, (1, [.pointer (pa p61)]), (1, [.pointer (pa p64)]), (1, [.pointer (pa p67)]), su a26, (4, (encs fPtr p28)), ei 4 a30, ei 4 a31, (1, cs32), (1, [.map p34]), sl p38 (a37).length c39, (1, [.map p41]), su a44, (1, [pt b86 0]), (3, cs48), sl p50 (a49).length c51, su a52, sb a53, sb a54, sb a55, sl p57 (a56).length c58, (1, cs59)], .ext (ownX fBool 4 p13 c14 a12), .ext (optX o_stab_Table p61 cs62 y63), .ext (optX o_order_Log p64 cs65 y66), .ext (optX o_coord_Table p67 cs68 y69), .ext (arrX o_inbox_Box p28 cs70 a27), .ext (objX p34 (.map m35 c36)), .ext (objX p41 (.map m42 c43)), .ext (optX o_gate_move (some b86) cs72 (some x85))] [Ro.mp fStr.ty p7 c8 a6.Cuts, Ro.mp (fInt .i64).ty p9 c10 a6.Nodes, ml p28 4, ml a30 4, ml a31 4, Map.mp (kInt .u64) true t_gate_call p34 m35 c36 a33, Ro.mp t_gate_call p38 c39 a37, Map.mp (kInt .u64) true t_gate_load p41 m42 c43 a40, Ro.mp (fInt .u64).ty p50 c51 a49, Ro.mp t_api_Mail p57 c58 a56] ∧ True) ?_ ?_
 refine wp 3 [0, 17] hF fun a hF => ?_
 refine wc (wld hF hS 0 10 0 fun a hF => ?_)
 refine wp 1 [0, 19] hF fun a hF => ?_
 refine bif_split hv87 (fun hb hv87 => ?_) (fun hb hv87 => ?_)
 have hF := hF.boolv 19 (by kernel_rfl) hb
 refine wp 3 [0, 19, 22] hF fun a hF => ?_
 refine wcg hF (wld hF hS 0 23 0 fun a hF => ?_)
 refine wp 10 [0, 33] hF fun a hF => ?_
 refine wpListIn_nil ?_
 cases hv87
 exact ⟨_, hF.kp [0, 33], hS.sp (rg 9) (rg 10), trivial⟩
 have hF := hF.boolv 19 (by kernel_rfl) hb
 refine wp 14 [0, 33] hF fun a hF => ?_
 refine wpListIn_nil ?_
 cases hv87
 exact ⟨_, hF.kp [0, 33], hS.sp (rg 9) (rg 10), trivial⟩
 rintro a w ⟨κ, hF, hS, -⟩
 cases hv84
 exact ⟨_, (some b86), cs72, hF.kp [0, 33], hS.sp (rg 9) (rg 10), trivial⟩
 rintro a w ⟨κ, p80, cs81, hF, hS, -⟩
 refine hK79 _ _ ?_
 refine bif_split H (fun hb H => ?_) (fun hb H => ?_)
 refine cond_t hF (by kernel_rfl) hb ?_
 refine wpIn_seq_k fun K91 hK91 => ?_
 cases H
 refine cond_f hF (by kernel_rfl) hb ?_
 refine wpIn_skip ?_
 exact ⟨_, p80, cs81, v84.1, hF.kp [0], hS.sp (rg 9) (rg 10), H⟩
 rintro a w ⟨κ, p74, cs75, y76, hF, hS, H⟩
 unfold M.gate_Gate_work_k2 at H
 refine wpIn_seq_k fun K77 hK77 => ?_
 refine wpIn_region_lit ?_
 refine bind_split H (fun v78 hv78 H => ?_)
 refine wl_join (fun a w => ∃ κ : Gh, Fr (84) [] [(0, pt b60 0), (72, vb false)] a ∧ SS Ms κ0 w0 κ w [.box b60 87 [si a1, (1, cs2), si a3, si a4, (2, cs5), sl p7 (a6.Cuts).length c8, sl p9 (a6.Nodes).length c10, (1, cs11), sl p13 (a12).length c14, (1, cs15), sb a16, (1, [.pointer (pa p61)]), (1, [.pointer (pa p64)]), (1, [.pointer (pa p67)]), su a26, (4, (encs fPtr p28)), ei 4 a30, ei 4 a31, (1, cs32), (1, [.map p34]), sl p38 (a37).length c39, (1, [.map p41]), su a44, (1, [.pointer (pa p74)]), (3, cs48), sl p50 (a49).length c51, su a52, sb a53, sb a54, sb a55, sl p57 (a56).length c58, (1, cs59)], .ext (ownX fBool 4 p13 c14 a12), .ext (optX o_stab_Table p61 cs62 y63), .ext (optX o_order_Log p64 cs65 y66), .ext (optX o_coord_Table p67 cs68 y69), .ext (arrX o_inbox_Box p28 cs70 a27), .ext (objX p34 (.map m35 c36)), .ext (objX p41 (.map m42 c43)), .ext (optX o_gate_move p74 cs75 y76)] [Ro.mp fStr.ty p7 c8 a6.Cuts, Ro.mp (fInt .i64).ty p9 c10 a6.Nodes, ml p28 4, ml a30 4, ml a31 4, Map.mp (kInt .u64) true t_gate_call p34 m35 c36 a33, Ro.mp t_gate_call p38 c39 a37, Map.mp (kInt .u64) true t_gate_load p41 m42 c43 a40, Ro.mp (fInt .u64).ty p50 c51 a49, Ro.mp t_api_Mail p57 c58 a56] ∧ True) ?_ ?_
 refine wp 3 [0, 52] hF fun a hF => ?_
 refine wc (wld hF hS 0 2 0 fun a hF => ?_)
 refine wp 2 [0, 55] hF fun a hF => ?_
 refine bif_split hv78 (fun hb hv78 => ?_) (fun hb hv78 => ?_)
 have hF := hF.boolv 55 (by kernel_rfl) hb
 refine wp 3 [0, 55, 58] hF fun a hF => ?_
 refine wcg hF (wld hF hS 0 10 0 fun a hF => ?_)
 refine wp 3 [0, 62] hF fun a hF => ?_
 refine bif_split hv78 (fun hb hv78 => ?_) (fun hb hv78 => ?_)
 have hF := hF.boolv 62 (by kernel_rfl) hb
 refine wp 3 [0, 62, 65] hF fun a hF => ?_
 refine wcg hF (wld hF hS 0 29 0 fun a hF => ?_)
 refine wp 3 [0, 69] hF fun a hF => ?_
 refine bif_split hv78 (fun hb hv78 => ?_) (fun hb hv78 => ?_)
 have hF := hF.boolv 69 (by kernel_rfl) hb
 refine wp 1 [0, 69, 70] hF fun a hF => ?_
 cases hv78
 have hF := hF.boolv 69 (by kernel_rfl) hb
 refine wp 3 [0, 72] hF fun a hF => ?_
 refine wpListIn_nil ?_
 cases hv78
 exact ⟨_, hF.kp [0, 72], hS.sp (rg 9) (rg 10), trivial⟩
 have hF := hF.boolv 62 (by kernel_rfl) hb
 refine wp 10 [0, 72] hF fun a hF => ?_
 refine wpListIn_nil ?_
 cases hv78
 exact ⟨_, hF.kp [0, 72], hS.sp (rg 9) (rg 10), trivial⟩
 have hF := hF.boolv 55 (by kernel_rfl) hb
 refine wp 17 [0, 72] hF fun a hF => ?_
 refine wpListIn_nil ?_
 cases hv78
 exact ⟨_, hF.kp [0, 72], hS.sp (rg 9) (rg 10), trivial⟩
 rintro a w ⟨κ, hF, hS, -⟩
 refine hK77 _ _ ?_
 refine cond_f hF (by kernel_rfl) rfl ?_
 refine wpIn_skip ?_
 cases H
 exact ret_done hF hS (res0 Tryz.results34 ) ⟨p61, cs62, p64, cs65, p67, cs68, p74, cs75, cs70, rfl, hS.sp (rg 9) []⟩
end Go.Cf
