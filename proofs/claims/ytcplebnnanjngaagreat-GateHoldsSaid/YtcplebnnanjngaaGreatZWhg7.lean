/- The walks: each function returns what its model says. Printed by a program of ours. -/
import Derived.Test.YtcplebnnanjngaaGreatZM1
import Derived.Test.YtcplebnnanjngaaGreatZWhs
import Derived.Test.YtcplebnnanjngaaGreatZWho
import Derived.Test.YtcplebnnanjngaaGreatZWhi
import Derived.Test.YtcplebnnanjngaaGreatZWhp
import Derived.Test.YtcplebnnanjngaaGreatZWhc
import Derived.Test.YtcplebnnanjngaaGreatZWhg1
namespace Go.Cf
open Go Go.Proofs
set_option linter.unusedVariables false
set_option maxRecDepth 20000 in
set_option maxHeartbeats 8000000 in
theorem C_gate_Gate_ship (N:Nat){Ms:List Nat}{κ0:Gh}{w0:World}(a2:(Option T_stab_Table))(a5:(Option T_order_Log))(a9:(List Int))(a11:(List T_api_Mail))(cs1:List Value)(p3:Option Nat)(cs4:List Nat)(p6:Option Nat)(cs7:List Nat)(cs8:List Value)(cs10:List Value)(p12:Option Addr)(c13:Nat)(cs14:List Value)(b15:Nat)(hB:SB Ms κ0 w0 [.box b15 87 [(12,cs1),(1,[.pointer (pa p3)]),(1,[.pointer (pa p6)]),(6,cs8),ei 4 a9,(18,cs10),sl p12 (a11).length c13,(1,cs14)],.ext (optX o_stab_Table p3 cs4 a2),.ext (optX o_order_Log p6 cs7 a5)] [ml a9 4,Ro.mp t_api_Mail p12 c13 a11]){r:((Option T_stab_Table)×(Option T_order_Log))}(H:M.gate_Gate_ship N a2 a5 a9 a11=some r) :
    Calls Tryz.prog 76 #[pt b15 0] w0 (Post Ms κ0 w0 fun v κ w => ∃(p98:Option Nat) (cs99:List Nat) (p100:Option Nat) (cs101:List Nat),v = .tuple #[]∧SS Ms κ0 w0 κ w [.box b15 87 [(12,cs1),(1,[.pointer (pa p98)]),(1,[.pointer (pa p100)]),(6,cs8),ei 4 a9,(18,cs10),sl p12 (a11).length c13,(1,cs14)],.ext (optX o_stab_Table p98 cs99 r.1),.ext (optX o_order_Log p100 cs101 r.2)] []):=by
 have hS:=hB.hS
 have hfr:=hS.fresh
 refine enterM (N:=(59)) (L:=[(0,pt b15 0)]) Tryz.func76 rfl Tryz.ntmps76 (show 1≤(59) by decide) rfl fun a hF=>?_
 unfold M.gate_Gate_ship at H
 have hS:=hS.defs0
 refine wpIn_seq_k fun K16 hK16=>?_
 refine wpIn_region_lit ?_
 refine wc (wbx hF hS [(1,[pt b15 0])] (sgN 1 sgNil) fun b17 a w hF hS=>?_)
 refine wpListIn_nil ?_
 refine hK16 _ _ ?_
 refine wpIn_seq_k fun K18 hK18=>?_
 refine bind_split H (fun x19 ho H=>?_)
 obtain ⟨b20,hpq,hS⟩:=hS.optS 3 rfl ho
 rw [hpq] at hS
 try rw [hpq] at hF
 obtain ⟨⟨p21,c22⟩,hS⟩:=hS.unfI (ck:=c_stab_Table) (fs:=q_stab_Table) 3 rfl
 refine bind_split H (fun x23 ho H=>?_)
 obtain ⟨b24,hpq,hS⟩:=hS.optS 5 rfl ho
 rw [hpq] at hS
 try rw [hpq] at hF
 obtain ⟨⟨p25,c26,p27,c28⟩,hS⟩:=hS.unfI (ck:=c_order_Log) (fs:=q_order_Log) 5 rfl
 refine rgX hS [3,4,5,6,7] ?_
 have hS:=hS.drew
 refine atk 0 (some 6) hF (hS.sx [3,4,5,6,7] (rg 8)) rfl (vld 2 0 0) fun a hF=>?_
 refine anp [1,2] [1,8] hF (hS.sx [3,4,5,6,7] (rg 8)) fun a hF=>?_
 refine atk 3 (some 9) hF (hS.sx [3,4,5,6,7] (rg 8)) rfl (vld 4 2 0) fun a hF=>?_
 refine atk 4 (some 10) hF (hS.sx [3,4,5,6,7] (rg 8)) rfl (vld 2 0 0) fun a hF=>?_
 refine anp [5,6] [1,9,12] hF (hS.sx [3,4,5,6,7] (rg 8)) fun a hF=>?_
 refine atk 7 (some 13) hF (hS.sx [3,4,5,6,7] (rg 8)) rfl (vld 4 1 0) fun a hF=>?_
 refine ago 8 hF rfl ?_
 refine bind_split H (fun x29 hx29 H=>?_)
 refine wcS 2 [3,4,0,1,2,5,6,7] hF hS (fun hS=>C_stab_Table_Local N (T_stab_Table.mk x19.dc x19.beats (T_vec_Vec.mk x19.got.Epoch x19.got.Has x19.got.T) (T_vec_Vec.mk x19.known.Epoch x19.known.Has x19.known.T) x19.stable) p21 c22 b20 (hS.sbK [2,3,4,5]) hx29) ?_
 rintro _ κ w a ⟨rfl,h2⟩ hF hB
 have hS:=hB _ _ h2
 refine ⟨fun _=>(hS.sx [0,1,5,6,7] (rg 8)),?_⟩
 refine ago 9 hF rfl ?_
 refine bind_split H (fun x30 hx30 H=>?_)
 refine wcS 3 [2,3,4,0,1,5,6,7] hF hS (fun hS=>C_order_Log_Release N (T_order_Log.mk x23.list x23.waiting x23.bound) x29 p25 c26 p27 c28 b24 (hS.sbK [0,1]) hx30) ?_
 rintro _ κ w a ⟨p31,c32,p33,c34,rfl,h2⟩ hF hB
 have hS:=(hB _ _ h2).cC (C':=[.box b24 166 [sl p31 (x30.2.list).length c32,sl p33 (x30.2.waiting).length c34,su x30.2.bound],.tok p31 135 4 (x30.2.list).length c32,.tok p33 135 4 (x30.2.waiting).length c34,.box b20 109 [si x19.dc,sl p21 (x19.beats).length c22,si x19.got.Epoch,eb 4 x19.got.Has,(4,(encs (fInt .u64) x19.got.T)),si x19.known.Epoch,eb 4 x19.known.Has,(4,(encs (fInt .u64) x19.known.T)),su x19.stable],.ext (ownX (fInt .u64) 32 p21 c22 x19.beats),.box b17 24 [(1,[pt b15 0])],.ext (defsX ([]:List Nat)),.box b15 87 [(12,cs1),(1,[pt b20 0]),(1,[pt b24 0]),(6,cs8),ei 4 a9,(18,cs10),sl p12 (a11).length c13,(1,cs14)]])
 refine ⟨fun _=>(hS.sx [3,4,5,6,7] [2,3,4,5,6,7,8,9]),?_⟩
 refine and_ ?_
 obtain ⟨cs35,hS⟩:=hS.foldI (ck:=c_stab_Table) (fs:=q_stab_Table) b20 (p21,c22) x19 [3,4] [0,1,2,5,6,7] [4,5,6,7] (by decide) (by kernel_rfl) (by kernel_rfl)
 obtain ⟨cs36,hS⟩:=hS.foldI (ck:=c_order_Log) (fs:=q_order_Log) b24 (p31,c32,p33,c34) (T_order_Log.mk x30.2.list x30.2.waiting x30.2.bound) [1,2,3] [0,4,5,6] [0,1] (by decide) (by kernel_rfl) (by kernel_rfl)
 refine hK18 _ _ ?_
 refine wpIn_seq_k fun K37 hK37=>?_
 refine wpIn_region_lit ?_
 refine wc (wld hF hS 2 0 0 fun a hF=>?_)
 refine wp 2 [1,18] hF fun a hF=>?_
 refine wc (wls hF hS 4 4 1 fun a hF=>?_)
 refine wp 1 [1,19,20] hF fun a hF=>?_
 refine wpListIn_nil ?_
 refine hK37 _ _ ?_
 refine wpIn_block ?_
 refine loop_fuel (n:=N) (fun n a w => ∃(κ:Gh) (y88:Int),Fr (59) (marks ([]:List Nat)) [(1,pt b17 0),(19,.agg (flat [ei 4 a9]).toArray),(20,vi y88)] a∧SS Ms κ0 w0 κ w [.box b17 24 [(1,[pt b15 0])],.box b15 87 [(12,cs1),(1,[pt b20 0]),(1,[pt b24 0]),(6,cs8),ei 4 a9,(18,cs10),sl p12 (a11).length c13,(1,cs14)],.ext (optX o_stab_Table (some b20) cs35 (some x19)),.ext (optX o_order_Log (some b24) cs36 (some (T_order_Log.mk x30.2.list x30.2.waiting x30.2.bound))),.ext (defsX ([]:List Nat))] [ml a9 4,Ro.mp t_api_Mail p12 c13 a11]∧M.gate_Gate_ship_L1 N n a9 a11 x19 x30 y88=some r) ?_ ?_
 exact ⟨_,0,hF.kp [1,19,20],hS.sp [2,4,1,0,3] [8,9],H⟩
 rintro n a w ⟨κ,y88,hF,hS,H⟩
 rcases n with _|fuel1
 simp [M.gate_Gate_ship_L1] at H
 simp only [M.gate_Gate_ship_L1] at H
 refine wpIn_seq_k fun K89 hK89=>?_
 refine wpIn_region_lit ?_
 refine wl_pure (L':=[(1,pt b17 0),(19,.agg (flat [ei 4 a9]).toArray),(20,vi y88),(21,vb (decide (y88<4)))]) 1 [1,19,20,21] hF (by kernel_rfl) fun a hF=>?_
 refine wpListIn_nil ?_
 refine hK89 _ _ ?_
 refine wpIn_seq_k fun K90 hK90=>?_
 refine bif_split H (fun hb H=>?_) (fun hb H=>?_)
 refine cond_t hF (by kernel_rfl) hb ?_
 refine wpIn_skip ?_
 refine hK90 _ _ ?_
 refine seq_join (fun a w => ∃κ:Gh,Fr (59) (marks ([]:List Nat)) [(1,pt b17 0),(19,.agg (flat [ei 4 a9]).toArray),(20,vi y88)] a∧SS Ms κ0 w0 κ w [.box b17 24 [(1,[pt b15 0])],.box b15 87 [(12,cs1),(1,[pt b20 0]),(1,[pt b24 0]),(6,cs8),ei 4 a9,(18,cs10),sl p12 (a11).length c13,(1,cs14)],.ext (optX o_stab_Table (some b20) cs35 (some x19)),.ext (optX o_order_Log (some b24) cs36 (some (T_order_Log.mk x30.2.list x30.2.waiting x30.2.bound))),.ext (defsX ([]:List Nat))] [ml a9 4,Ro.mp t_api_Mail p12 c13 a11]∧M.gate_Gate_ship_k2 N (M.gate_Gate_ship_L1 N fuel1) a9 a11 x19 x30 y88=some r) ?_ ?_
 refine wpIn_block ?_
 refine wpIn_seq_k fun K91 hK91=>?_
 refine wpIn_region_lit ?_
 refine wl_pure (L':=[(1,pt b17 0),(19,.agg (flat [ei 4 a9]).toArray),(20,vi y88),(22,vi y88)]) 1 [1,19,20,22] hF (by kernel_rfl) fun a hF=>?_
 refine bind_split H (fun x92 hx92 H=>?_)
 refine wc (wo_val hF (by kernel_rfl) (v:=vi x92) (val_indexA1 (t:=(fInt .i64)) (E:=3) (n:=4) (m:=4) rfl (by kernel_rfl) rfl hx92 (hS.get 0 rfl) rfl rfl (by kernel_rfl) (by kernel_rfl) (by kernel_rfl) _) fun a hF=>?_)
 refine wc (wal hF hS [si 0] (sgN 1 sgNil) fun b93 a w hF hS=>?_)
 refine wc (wst hF hS 0 0 1 [si y88] (sgN 1 sgNil) fun a w hF hS=>?_)
 refine wp 1 [1,2,3,19,20] hF fun a hF=>?_
 refine wpListIn_nil ?_
 refine hK91 _ _ ?_
 refine wpIn_seq_k fun K94 hK94=>?_
 refine wpIn_seq_k fun K95 hK95=>?_
 refine wpIn_region_lit ?_
 refine wp 2 [1,2,3,19,20,25] hF fun a hF=>?_
 refine wpListIn_nil ?_
 refine hK95 _ _ ?_
 refine bif_split H (fun hb H=>?_) (fun hb H=>?_)
 refine cond_t hF (by kernel_rfl) hb ?_
 refine wpIn_exit ?_
 exact ⟨_,hF.kp [1,19,20],hS.sp [1,2,3,4,5] [0,1],H⟩
 refine cond_f hF (by kernel_rfl) hb ?_
 refine wpIn_skip ?_
 refine hK94 _ _ ?_
 refine wpIn_seq_k fun K96 hK96=>?_
 refine wpIn_seq_k fun K97 hK97=>?_
 cases H
 rintro a w ⟨κ,hF,hS,H⟩
 unfold M.gate_Gate_ship_k2 at H
 refine wpIn_region_lit ?_
 refine wp 2 [1,19,20] hF fun a hF=>?_
 refine wpListIn_nil ?_
 exact ⟨fuel1,Nat.lt_succ_self _,_,IntKind.i64.wrap (y88+1),hF.kp [1,19,20],hS.sp (rg 5) [0,1],H⟩
 refine cond_f hF (by kernel_rfl) hb ?_
 refine wpIn_exit ?_
 refine ret_doneD (C':=[.box b17 24 [(1,[pt b15 0])],.box b15 87 [(12,cs1),(1,[pt b20 0]),(1,[pt b24 0]),(6,cs8),ei 4 a9,(18,cs10),sl p12 (a11).length c13,(1,cs14)],.ext (optX o_stab_Table (some b20) cs35 (some x19)),.ext (optX o_order_Log (some b24) cs36 (some (T_order_Log.mk x30.2.list x30.2.waiting x30.2.bound)))]) hF hS 4 rfl (by kernel_rfl) fun w hS=>?_
 cases H
 exact ⟨_,(res0 Tryz.results76),⟨(some b20),cs35,(some b24),cs36,rfl,hS.sp [1,2,3] []⟩⟩
set_option maxRecDepth 20000 in
set_option maxHeartbeats 8000000 in
theorem C_gate_Gate_load (N:Nat){Ms:List Nat}{κ0:Gh}{w0:World}(a1:Int)(a3:T_api_Map)(a9:Int)(a10:(List (Option T_inbox_Box)))(a14:(Mp Int T_gate_load))(a18:Int)(a19:(Option T_gate_move))(a23:(List T_api_Mail))(cs2:List Value)(p4:Option Addr)(c5:Nat)(p6:Option Addr)(c7:Nat)(cs8:List Value)(p11:List (Option Nat))(cs12:List Nat)(cs13:List Value)(p15:Option Nat)(m16:Array MapEntry)(c17:Nat)(p20:Option Nat)(cs21:List Nat)(cs22:List Value)(p24:Option Addr)(c25:Nat)(cs26:List Value)(b27:Nat)(hB:SB Ms κ0 w0 [.box b27 87 [si a1,(5,cs2),sl p4 (a3.Cuts).length c5,sl p6 (a3.Nodes).length c7,(7,cs8),su a9,(4,(encs fPtr p11)),(11,cs13),(1,[.map p15]),su a18,(1,[.pointer (pa p20)]),(8,cs22),sl p24 (a23).length c25,(1,cs26)],.ext (arrX o_inbox_Box p11 cs12 a10),.ext (objX p15 (.map m16 c17)),.ext (optX o_gate_move p20 cs21 a19)] [Ro.mp fStr.ty p4 c5 a3.Cuts,Ro.mp (fInt .i64).ty p6 c7 a3.Nodes,ml p11 4,Map.mp (kInt .u64) true t_gate_load p15 m16 c17 a14,Ro.mp t_api_Mail p24 c25 a23]){r:Unit}(H:M.gate_Gate_load N a1 a3 a9 a10 a14 a18 a19 a23=some r) :
    Calls Tryz.prog 77 #[pt b27 0] w0 (Post Ms κ0 w0 fun v κ w => ∃(cs111 cs112:List Nat),v = .tuple #[]∧SS Ms κ0 w0 κ w [.box b27 87 [si a1,(5,cs2),sl p4 (a3.Cuts).length c5,sl p6 (a3.Nodes).length c7,(7,cs8),su a9,(4,(encs fPtr p11)),(11,cs13),(1,[.map p15]),su a18,(1,[.pointer (pa p20)]),(8,cs22),sl p24 (a23).length c25,(1,cs26)],.ext (arrX o_inbox_Box p11 cs111 a10),.ext (objX p15 (.map m16 c17)),.ext (optX o_gate_move p20 cs112 a19)] []):=by
 have hS:=hB.hS
 have hfr:=hS.fresh
 refine enter (N:=(67)) (L:=[(0,pt b27 0)]) Tryz.func77 rfl Tryz.ntmps77 (show 1≤(67) by decide) rfl fun a hF=>?_
 unfold M.gate_Gate_load at H
 refine wpIn_scope ?_
 refine wpIn_seq_k fun K28 hK28=>?_
 refine wpIn_label ?_
 refine hK28 _ _ ?_
 refine wpIn_seq_k fun K29 hK29=>?_
 refine wpIn_region_lit ?_
 refine wp 3 [0,13] hF fun a hF=>?_
 refine wc (wls hF hS 0 6 1 fun a hF=>?_)
 refine wp 1 [0,14,15] hF fun a hF=>?_
 refine wpListIn_nil ?_
 refine hK29 _ _ ?_
 refine wpIn_block ?_
 refine loop_fuel (n:=N) (fun n a w => ∃(κ:Gh) (cs80:List Nat) (y81:Int),Fr (67) [] [(0,pt b27 0),(14,.agg (flat [(4,(encs fPtr p11))]).toArray),(15,vi y81)] a∧SS Ms κ0 w0 κ w [.box b27 87 [si a1,(5,cs2),sl p4 (a3.Cuts).length c5,sl p6 (a3.Nodes).length c7,(7,cs8),su a9,(4,(encs fPtr p11)),(11,cs13),(1,[.map p15]),su a18,(1,[.pointer (pa p20)]),(8,cs22),sl p24 (a23).length c25,(1,cs26)],.ext (arrX o_inbox_Box p11 cs80 a10),.ext (objX p15 (.map m16 c17)),.ext (optX o_gate_move p20 cs21 a19)] [Ro.mp fStr.ty p4 c5 a3.Cuts,Ro.mp (fInt .i64).ty p6 c7 a3.Nodes,ml p11 4,Map.mp (kInt .u64) true t_gate_load p15 m16 c17 a14,Ro.mp t_api_Mail p24 c25 a23]∧M.gate_Gate_load_L1 N n a1 a3 a9 a10 a14 a18 a19 a23 y81=some r) ?_ ?_
 exact ⟨_,cs12,0,hF.kp [0,14,15],hS.sp (rg 4) (rg 5),H⟩
 rintro n a w ⟨κ,cs80,y81,hF,hS,H⟩
 rcases n with _|fuel1
 simp [M.gate_Gate_load_L1] at H
 simp only [M.gate_Gate_load_L1] at H
 refine wpIn_seq_k fun K82 hK82=>?_
 refine wpIn_region_lit ?_
 refine wp 1 [0,14,15,16] hF fun a hF=>?_
 refine wpListIn_nil ?_
 refine hK82 _ _ ?_
 refine wpIn_seq_k fun K83 hK83=>?_
 refine bif_split H (fun hb H=>?_) (fun hb H=>?_)
 refine cond_t hF (by kernel_rfl) hb ?_
 refine wpIn_skip ?_
 refine hK83 _ _ ?_
 refine seq_join (fun a w => ∃(κ:Gh) (cs84:List Nat),Fr (67) [] [(0,pt b27 0),(14,.agg (flat [(4,(encs fPtr p11))]).toArray),(15,vi y81)] a∧SS Ms κ0 w0 κ w [.box b27 87 [si a1,(5,cs2),sl p4 (a3.Cuts).length c5,sl p6 (a3.Nodes).length c7,(7,cs8),su a9,(4,(encs fPtr p11)),(11,cs13),(1,[.map p15]),su a18,(1,[.pointer (pa p20)]),(8,cs22),sl p24 (a23).length c25,(1,cs26)],.ext (arrX o_inbox_Box p11 cs84 a10),.ext (objX p15 (.map m16 c17)),.ext (optX o_gate_move p20 cs21 a19)] [Ro.mp fStr.ty p4 c5 a3.Cuts,Ro.mp (fInt .i64).ty p6 c7 a3.Nodes,ml p11 4,Map.mp (kInt .u64) true t_gate_load p15 m16 c17 a14,Ro.mp t_api_Mail p24 c25 a23]∧M.gate_Gate_load_k2 N (M.gate_Gate_load_L1 N fuel1) a1 a3 a9 a10 a14 a18 a19 a23 y81=some r) ?_ ?_
 refine wpIn_block ?_
 refine wpIn_seq_k fun K85 hK85=>?_
 refine bind_split H (fun x86 hx86 H=>?_)
 obtain ⟨p87,hpx86⟩:=hS.arrIdx 1 rfl hx86
 have hS:=hS.add (m:=MP.const (idx p11 y81=some p87)) hpx86
 refine wpIn_region_lit ?_
 refine wl_pure (L':=[(0,pt b27 0),(14,.agg (flat [(4,(encs fPtr p11))]).toArray),(15,vi y81),(17,vi y81)]) 1 [0,14,15,17] hF (by kernel_rfl) fun a hF=>?_
 refine wc (wo_val hF (by kernel_rfl) (v := .pointer (pa p87)) (val_indexA1 (t:=fPtr) (E:=81) (n:=4) (m:=4) rfl (by kernel_rfl) rfl hpx86 (hS.get 3 rfl) rfl rfl (by kernel_rfl) (by kernel_rfl) (by kernel_rfl) _) fun a hF=>?_)
 refine wp 2 [0,2,3,14,15] hF fun a hF=>?_
 refine wpListIn_nil ?_
 refine hK85 _ _ ?_
 refine wpIn_block ?_
 refine loop_fuel (n:=N) (fun n a w => ∃κ:Gh,Fr (67) [] [(0,pt b27 0),(2,vi y81),(3,.pointer (pa p87)),(14,.agg (flat [(4,(encs fPtr p11))]).toArray),(15,vi y81)] a∧SS Ms κ0 w0 κ w [.box b27 87 [si a1,(5,cs2),sl p4 (a3.Cuts).length c5,sl p6 (a3.Nodes).length c7,(7,cs8),su a9,(4,(encs fPtr p11)),(11,cs13),(1,[.map p15]),su a18,(1,[.pointer (pa p20)]),(8,cs22),sl p24 (a23).length c25,(1,cs26)],.ext (arrX o_inbox_Box p11 cs80 a10),.ext (objX p15 (.map m16 c17)),.ext (optX o_gate_move p20 cs21 a19)] [Ro.mp fStr.ty p4 c5 a3.Cuts,Ro.mp (fInt .i64).ty p6 c7 a3.Nodes,ml p11 4,Map.mp (kInt .u64) true t_gate_load p15 m16 c17 a14,Ro.mp t_api_Mail p24 c25 a23,MP.const (idx p11 y81=some p87)]∧M.gate_Gate_load_L3 N (M.gate_Gate_load_L1 N fuel1) n a1 a3 a9 a10 a14 a18 a19 a23 y81=some r) ?_ ?_
 exact ⟨_,hF.kp [0,2,3,14,15],hS.sp (rg 4) [1,2,3,4,5,0],H⟩
 rintro n a w ⟨κ,hF,hS,H⟩
 rcases n with _|fuel3
 simp [M.gate_Gate_load_L3] at H
 simp only [M.gate_Gate_load_L3] at H
 refine wpIn_block ?_
 refine wpIn_seq_k fun K88 hK88=>?_
 have hqk89:idx p11 y81=some p87:=hS.get 5 rfl
 refine bind_split H (fun x90 hx90 H=>?_)
 obtain ⟨cs91,cs92,hS⟩:=hS.arrTakeP 1 rfl hx90 hqk89
 refine opt_split H (fun hox93 H=>?_) (fun x93 hox93 H=>?_)
 obtain ⟨hpq,hS⟩:=hS.optN 0 rfl hox93
 have hG48:=hF
 subst hpq
 have hF:=hG48
 obtain ⟨cs102,hS⟩:=hS.arrBackI 0 1 [2,3,4] (by decide) rfl rfl hqk89 (hx90.trans (congrArg some hox93))
 refine wpIn_region_lit ?_
 refine wp 1 [0,2,3,14,15,20] hF fun a hF=>?_
 refine bind_split H (fun x103 hx103 H=>?_)
 refine wc (wcS 0 (rg 4) hF hS (fun hS=>C_inbox_Box_Peek_nil0 N (hS.sbK []) hx103) ?_)
 rintro _ κ w a ⟨p104,c105,rfl,h2⟩ hF hB
 have hS:=hB _ _ h2
 refine wp 3 [0,2,3,14,15,22,23] hF fun a hF=>?_
 refine wc (wal hF hS [su 0,si 0,si 0,sl none 0 0] (sgN 4 sgNil) fun b106 a w hF hS=>?_)
 refine wc (wst hF hS 0 0 4 [su x103.1.TS,si x103.1.DC,si x103.1.Tx,sl p104 (x103.1.Vers).length c105] (sgN 4 sgNil) fun a w hF hS=>?_)
 refine wp 1 [0,2,3,4,5,14,15] hF fun a hF=>?_
 refine wpListIn_nil ?_
 refine hK88 _ _ ?_
 refine wpIn_seq_k fun K107 hK107=>?_
 refine wpIn_seq_k fun K108 hK108=>?_
 refine wpIn_region_lit ?_
 refine wp 2 [0,2,3,4,14,15,25] hF fun a hF=>?_
 refine wpListIn_nil ?_
 refine hK108 _ _ ?_
 refine bif_split H (fun hb H=>?_) (fun hb H=>?_)
 refine cond_t hF (by kernel_rfl) hb ?_
 refine wpIn_exit ?_
 exact ⟨_,cs102,hF.kp [0,14,15],hS.sp [3,2,4,5] [1,2,3,4,5],H⟩
 refine cond_f hF (by kernel_rfl) hb ?_
 refine wpIn_skip ?_
 refine hK107 _ _ ?_
 refine wpIn_seq_k fun K109 hK109=>?_
 refine wpIn_seq_k fun K110 hK110=>?_
 cases H
 obtain ⟨b94,hpq,hS⟩:=hS.optS 0 rfl hox93
 have hG47:=hF
 subst hpq
 have hF:=hG47
 obtain ⟨⟨p95,c96,p97,c98,p99,m100,c101⟩,hS⟩:=hS.unfI (ck:=c_inbox_Box) (fs:=q_inbox_Box) 0 rfl
 refine wpIn_region_lit ?_
 refine wp 1 [0,2,3,14,15,20] hF fun a hF=>?_
 cases H
 rintro a w ⟨κ,cs84,hF,hS,H⟩
 unfold M.gate_Gate_load_k2 at H
 refine wpIn_region_lit ?_
 refine wp 2 [0,14,15] hF fun a hF=>?_
 refine wpListIn_nil ?_
 exact ⟨fuel1,Nat.lt_succ_self _,_,cs84,IntKind.i64.wrap (y81+1),hF.kp [0,14,15],hS.sp (rg 4) (rg 5),H⟩
 refine cond_f hF (by kernel_rfl) hb ?_
 refine wpIn_exit ?_
 cases H
 exact ret_done hF hS (res0 Tryz.results77) ⟨cs80,cs21,rfl,hS.sp (rg 4) []⟩
set_option maxRecDepth 20000 in
set_option maxHeartbeats 8000000 in
theorem C_gate_Gate_moves (N:Nat){Ms:List Nat}{κ0:Gh}{w0:World}(a1:Int)(a3:(Option T_coord_Table))(a7:(Mp Int T_gate_call))(a12:(Mp Int T_gate_load))(a17:(Option T_gate_move))(a21:(List T_api_Mail))(cs2:List Value)(p4:Option Nat)(cs5:List Nat)(cs6:List Value)(p8:Option Nat)(m9:Array MapEntry)(c10:Nat)(cs11:List Value)(p13:Option Nat)(m14:Array MapEntry)(c15:Nat)(cs16:List Value)(p18:Option Nat)(cs19:List Nat)(cs20:List Value)(p22:Option Addr)(c23:Nat)(cs24:List Value)(b25:Nat)(hB:SB Ms κ0 w0 [.box b25 87 [si a1,(13,cs2),(1,[.pointer (pa p4)]),(14,cs6),(1,[.map p8]),(1,cs11),(1,[.map p13]),(1,cs16),(1,[.pointer (pa p18)]),(8,cs20),sl p22 (a21).length c23,(1,cs24)],.tok p22 61 15 (a21).length c23,.ext (optX o_coord_Table p4 cs5 a3),.ext (objX p8 (.map m9 c10)),.ext (objX p13 (.map m14 c15)),.ext (optX o_gate_move p18 cs19 a17)] [Map.mp (kInt .u64) true t_gate_call p8 m9 c10 a7,Map.mp (kInt .u64) true t_gate_load p13 m14 c15 a12,Ro.mp t_api_Mail p22 c23 a21]){r:((Option T_coord_Table)×(Option T_gate_move)×(List T_api_Mail))}(H:M.gate_Gate_moves N a1 a3 a7 a12 a17 a21=some r) :
    Calls Tryz.prog 78 #[pt b25 0] w0 (Post Ms κ0 w0 fun v κ w => ∃(p91:Option Nat) (cs92:List Nat) (p93:Option Nat) (cs94:List Nat) (p95:Option Addr) (c96:Nat),v = .tuple #[]∧SS Ms κ0 w0 κ w [.box b25 87 [si a1,(13,cs2),(1,[.pointer (pa p91)]),(14,cs6),(1,[.map p8]),(1,cs11),(1,[.map p13]),(1,cs16),(1,[.pointer (pa p93)]),(8,cs20),sl p95 (r.2.2).length c96,(1,cs24)],.tok p95 61 15 (r.2.2).length c96,.ext (optX o_coord_Table p91 cs92 r.1),.ext (objX p8 (.map m9 c10)),.ext (objX p13 (.map m14 c15)),.ext (optX o_gate_move p93 cs94 r.2.1)] [Ro.mp t_api_Mail p95 c96 r.2.2]):=by
 have hS:=hB.hS
 have hfr:=hS.fresh
 refine enter (N:=(104)) (L:=[(0,pt b25 0)]) Tryz.func78 rfl Tryz.ntmps78 (show 1≤(104) by decide) rfl fun a hF=>?_
 unfold M.gate_Gate_moves at H
 refine wpIn_seq_k fun K26 hK26=>?_
 refine wpIn_seq_k fun K27 hK27=>?_
 refine bind_split H (fun v35 hv35 H=>?_)
 refine code_join (fun a w => ∃(κ:Gh) (p28:Option Nat) (cs29:List Nat) (p31:Option Nat) (cs32:List Nat),Fr (104) [] [(0,pt b25 0),(43,vb v35.2.2)] a∧SS Ms κ0 w0 κ w [.box b25 87 [si a1,(13,cs2),(1,[.pointer (pa p28)]),(14,cs6),(1,[.map p8]),(1,cs11),(1,[.map p13]),(1,cs16),(1,[.pointer (pa p31)]),(8,cs20),sl p22 (a21).length c23,(1,cs24)],.tok p22 61 15 (a21).length c23,.ext (optX o_coord_Table p28 cs29 v35.1),.ext (objX p8 (.map m9 c10)),.ext (objX p13 (.map m14 c15)),.ext (optX o_gate_move p31 cs32 v35.2.1)] [Map.mp (kInt .u64) true t_gate_call p8 m9 c10 a7,Map.mp (kInt .u64) true t_gate_load p13 m14 c15 a12,Ro.mp t_api_Mail p22 c23 a21]∧True) ?_ ?_
 refine opt_split hv35 (fun ho hv35=>?_) (fun x36 ho hv35=>?_)
 obtain ⟨hpq,hS⟩:=hS.optN 5 rfl ho
 rw [hpq] at hS
 try rw [hpq] at hF
 refine rga (fun _=>True) [] ?_
 have hS:=hS.drew
 refine anp [0,1,2] [0,8] hF trivial fun a hF=>?_
 refine any_weakS hS [36] ?_
 refine atk 3 (some 9) hF (hS.sx [0,2,3,4,5] [0,1,2]) rfl (vld 0 8 0) fun a hF=>?_
 refine any_pure [4,5,6,7,8,9,10,11,12,13,14,15,16,17,18,19,20,21,22,23,24,25,26,27,28,29,30,31,32,33,34,35] [0,21,25,33,41] (L':=[(0,pt b25 0),(21,vb true),(25,undef),(33,undef),(41,undef)]) (listed':=(bitA 38 68719476735)) (fuel:=2) hF (hS.sx [0,2,3,4,5] [0,1,2]) (by kernel_rfl) (by intro c a w t v h; cases t<;>exact h) (by kernel_rfl) rfl fun a hF=>?_
 refine agn [36] ⟨op_skip 36 hF rfl ?_,trivial⟩
 intro a hF
 refine ⟨notE,?_⟩
 refine anpP [37] [0,43] hF notE fun a hF=>?_
 have hF:Fr (104) _ [(0,pt b25 0),(43,vb true)] a:=hF.kp [0,43]
 refine and_ ?_
 cases hv35
 exact ⟨_,p4,cs5,none,[],hF.kp [0,43],hS.sp (rg 6) [0,1,2],trivial⟩
 obtain ⟨b37,hpq,hS⟩:=hS.optS 5 rfl ho
 rw [hpq] at hS
 try rw [hpq] at hF
 obtain ⟨_,hS⟩:=hS.unfI (ck:=c_gate_move) (fs:=q_gate_move) 5 rfl
 refine bind_split hv35 (fun x38 ho hv35=>?_)
 obtain ⟨b39,hpq,hS⟩:=hS.optS 3 rfl ho
 rw [hpq] at hS
 try rw [hpq] at hF
 obtain ⟨⟨p40,m41,c42,p43,cs44⟩,hS⟩:=hS.unfI (ck:=c_coord_Table) (fs:=q_coord_Table) 3 rfl
 refine bind_split hv35 (fun v48 hv48 hv35=>?_)
 refine code_join (fun a w => ∃(κ:Gh) (cs45 cs46:List Nat),Fr (104) [] [(0,pt b25 0),(43,vb v48)] a∧SS Ms κ0 w0 κ w [.box b25 87 [si a1,(13,cs2),(1,[pt b39 0]),(14,cs6),(1,[.map p8]),(1,cs11),(1,[.map p13]),(1,cs16),(1,[pt b37 0]),(8,cs20),sl p22 (a21).length c23,(1,cs24)],.tok p22 61 15 (a21).length c23,.ext (optX o_coord_Table (some b39) cs45 (some x38)),.ext (objX p8 (.map m9 c10)),.ext (objX p13 (.map m14 c15)),.ext (optX o_gate_move (some b37) cs46 (some x36))] [Map.mp (kInt .u64) true t_gate_call p8 m9 c10 a7,Map.mp (kInt .u64) true t_gate_load p13 m14 c15 a12,Ro.mp t_api_Mail p22 c23 a21]∧True) ?_ ?_
 refine rgX hS [0,1,3,4,6,7] ?_
 have hS:=hS.drew
 refine anp [0,1,2] [0,8] hF (hS.sx [0,1,3,4,6,7] (rg 4)) fun a hF=>?_
 refine atk 3 (some 9) hF (hS.sx [0,1,3,4,6,7] (rg 4)) rfl (vld 3 8 0) fun a hF=>?_
 refine anp [4,5,6,7,8] [0,11,14] hF (hS.sx [0,1,3,4,6,7] (rg 4)) fun a hF=>?_
 refine atk 9 (some 15) hF (hS.sx [0,1,3,4,6,7] (rg 4)) rfl (vld 3 8 0) fun a hF=>?_
 refine anp [10,11] [0,11,17] hF (hS.sx [0,1,3,4,6,7] (rg 4)) fun a hF=>?_
 refine atk 12 (some 18) hF (hS.sx [0,1,3,4,6,7] (rg 4)) rfl (vld 2 5 0) fun a hF=>?_
 refine anp [13,14,15] [0,21] hF (hS.sx [0,1,3,4,6,7] (rg 4)) fun a hF=>?_
 refine bif_split hv48 (fun hb hv48=>?_) (fun hb hv48=>?_)
 have hF:=hF.boolv 21 (by kernel_rfl) hb
 refine anp [16,17,18,19,20,21,22,23,24,25,26,27,28,29,30,31,32,33,34,35,36,37] [0,43] hF (hS.sx [0,1,3,4,6,7] (rg 4)) fun a hF=>?_
 refine and_ ?_
 obtain ⟨cs49,hS⟩:=hS.foldI (ck:=c_coord_Table) (fs:=q_coord_Table) b39 (p40,m41,c42,p43,cs44) x38 [0,1,2] [3,4,5,6,7] [0] (by decide) (by kernel_rfl) (by kernel_rfl)
 obtain ⟨cs50,hS⟩:=hS.foldI (ck:=c_gate_move) (fs:=q_gate_move) b37 () x36 [1] [0,2,3,4,5] [] (by decide) (by kernel_rfl) (by kernel_rfl)
 cases hv48
 exact ⟨_,cs49,cs50,hF.kp [0,43],hS.sp [2,3,1,4,5,0] [1,2,3],trivial⟩
 have hF:=hF.boolv 21 (by kernel_rfl) hb
 refine anp [16,17,18,20,21,22,28,29,30] [0,21,24,28,36] hF (hS.sx [0,1,3,4,6,7] (rg 4)) fun a hF=>?_
 refine atk 19 (some 25) hF (hS.sx [0,1,3,4,6,7] (rg 4)) rfl (vld 3 2 0) fun a hF=>?_
 refine atk 23 (some 29) hF (hS.sx [0,1,3,4,6,7] (rg 4)) rfl (vld 3 8 0) fun a hF=>?_
 refine anp [24,25,26] [0,21,25,32,36] hF (hS.sx [0,1,3,4,6,7] (rg 4)) fun a hF=>?_
 refine atk 27 (some 33) hF (hS.sx [0,1,3,4,6,7] (rg 4)) rfl (vld 2 0 0) fun a hF=>?_
 refine atk 31 (some 37) hF (hS.sx [0,1,3,4,6,7] (rg 4)) rfl (vld 3 8 0) fun a hF=>?_
 refine anp [32,33,34] [0,21,25,33,40] hF (hS.sx [0,1,3,4,6,7] (rg 4)) fun a hF=>?_
 refine atk 35 (some 41) hF (hS.sx [0,1,3,4,6,7] (rg 4)) rfl (vld 2 1 0) fun a hF=>?_
 refine ago 36 hF rfl ?_
 refine bind_split hv48 (fun x51 hx51 hv48=>?_)
 refine wcS 3 (rg 8) hF hS (fun hS=>C_coord_Table_Touches N (T_coord_Table.mk x38.open_) x36.span.Lo x36.span.Hi p40 m41 c42 p43 cs44 b39 (hS.sbK [0]) hx51) ?_
 rintro _ κ w a ⟨cs52,rfl,h2⟩ hF hB
 have hS:=hB _ _ h2
 refine ⟨fun _=>(hS.sx [0,1,3,4,6,7] (rg 4)),?_⟩
 refine anp [37] [0,43] hF (hS.sx [0,1,3,4,6,7] (rg 4)) fun a hF=>?_
 refine and_ ?_
 obtain ⟨cs53,hS⟩:=hS.foldI (ck:=c_coord_Table) (fs:=q_coord_Table) b39 (p40,m41,c42,p43,cs52) x38 [0,1,2] [3,4,5,6,7] [0] (by decide) (by kernel_rfl) (by kernel_rfl)
 obtain ⟨cs54,hS⟩:=hS.foldI (ck:=c_gate_move) (fs:=q_gate_move) b37 () x36 [1] [0,2,3,4,5] [] (by decide) (by kernel_rfl) (by kernel_rfl)
 cases hv48
 exact ⟨_,cs53,cs54,hF.kp [0,43],hS.sp [2,3,1,4,5,0] [1,2,3],trivial⟩
 rintro a w ⟨κ,cs45,cs46,hF,hS,-⟩
 cases hv35
 exact ⟨_,(some b39),cs45,(some b37),cs46,hF.kp [0,43],hS.sp (rg 6) [0,1,2],trivial⟩
 rintro a w ⟨κ,p28,cs29,p31,cs32,hF,hS,-⟩
 refine hK27 _ _ ?_
 refine bif_split H (fun hb H=>?_) (fun hb H=>?_)
 refine cond_t hF (by kernel_rfl) hb ?_
 refine wpIn_ret ?_
 cases H
 exact ret_done hF hS (res0 Tryz.results78) ⟨p28,cs29,p31,cs32,p22,c23,rfl,hS.sp (rg 6) [2]⟩
 refine cond_f hF (by kernel_rfl) hb ?_
 refine wpIn_skip ?_
 refine hK26 _ _ ?_
 refine wpIn_seq_k fun K55 hK55=>?_
 refine wpIn_seq_k fun K56 hK56=>?_
 refine wpIn_region_lit ?_
 refine wl_pure (L':=[(0,pt b25 0),(46,pt b25 29)]) 3 [0,46] hF (by kernel_rfl) fun a hF=>?_
 refine wc (wld hF hS 0 4 0 fun a hF=>?_)
 refine wc (wo_range (KT:=32) (E:=95) (kt:=(kInt .u64)) (agg:=true) (t:=t_gate_call) hF hS (by kernel_rfl) 3 0 rfl (by kernel_rfl) rfl rfl (by kernel_rfl) fun b57 a w hF hS=>?_)
 refine wpListIn_nil ?_
 refine hK56 _ _ ?_
 refine wpIn_block ?_
 refine loop_fuel (n:=N) (fun n a w => ∃κ:Gh,Fr (104) [] [(0,pt b25 0),(48,pt b57 0)] a∧SS Ms κ0 w0 κ w [.box b25 87 [si a1,(13,cs2),(1,[.pointer (pa p28)]),(14,cs6),(1,[.map p8]),(1,cs11),(1,[.map p13]),(1,cs16),(1,[.pointer (pa p31)]),(8,cs20),sl p22 (a21).length c23,(1,cs24)],.tok p22 61 15 (a21).length c23,.ext (optX o_coord_Table p28 cs29 v35.1),.ext (objX p8 (.map m9 c10)),.ext (objX p13 (.map m14 c15)),.ext (optX o_gate_move p31 cs32 v35.2.1),.ext (objX (some b57) (itO p8 c10 (#[])))] [Map.mp (kInt .u64) true t_gate_call p8 m9 c10 a7,Map.mp (kInt .u64) true t_gate_load p13 m14 c15 a12,Ro.mp t_api_Mail p22 c23 a21,It.mp (kInt .u64) m9 (#[]) (mKeys a7)]∧M.gate_Gate_moves_L1 N n a1 a7 a12 a21 v35=some r) ?_ ?_
 exact ⟨_,hF.kp [0,48],hS.sp [1,2,3,4,5,6,0] [1,2,3,0],H⟩
 rintro n a w ⟨κ,hF,hS,H⟩
 rcases n with _|fuel1
 simp [M.gate_Gate_moves_L1] at H
 simp only [M.gate_Gate_moves_L1] at H
 refine wpIn_seq_k fun K58 hK58=>?_
 refine wpIn_region_lit ?_
 refine wc (wo_next (kt:=(kInt .u64)) (agg:=true) (t:=t_gate_call) hF hS (by kernel_rfl) 3 6 0 3 rfl (by kernel_rfl) rfl rfl rfl rfl H ?_ ?_)
 intro H a hF
 refine wp 1 [0,48,50] hF fun a hF=>?_
 refine wpListIn_nil ?_
 refine hK58 _ _ ?_
 refine wpIn_seq_k fun K62 hK62=>?_
 refine cond_f hF (by kernel_rfl) rfl ?_
 refine wpIn_exit ?_
 refine hK55 _ _ ?_
 refine wpIn_seq_k fun K63 hK63=>?_
 refine wpIn_seq_k fun K64 hK64=>?_
 refine wpIn_region_lit ?_
 refine wl_pure (L':=[(0,pt b25 0),(59,pt b25 31)]) 3 [0,59] hF (by kernel_rfl) fun a hF=>?_
 refine wc (wld hF hS 0 6 0 fun a hF=>?_)
 refine wc (wo_range (KT:=32) (E:=138) (kt:=(kInt .u64)) (agg:=true) (t:=t_gate_load) hF hS (by kernel_rfl) 4 1 rfl (by kernel_rfl) rfl rfl (by kernel_rfl) fun b65 a w hF hS=>?_)
 refine wpListIn_nil ?_
 refine hK64 _ _ ?_
 refine wpIn_block ?_
 refine loop_fuel (n:=N) (fun n a w => ∃κ:Gh,Fr (104) [] [(0,pt b25 0),(61,pt b65 0)] a∧SS Ms κ0 w0 κ w [.box b25 87 [si a1,(13,cs2),(1,[.pointer (pa p28)]),(14,cs6),(1,[.map p8]),(1,cs11),(1,[.map p13]),(1,cs16),(1,[.pointer (pa p31)]),(8,cs20),sl p22 (a21).length c23,(1,cs24)],.tok p22 61 15 (a21).length c23,.ext (optX o_coord_Table p28 cs29 v35.1),.ext (objX p8 (.map m9 c10)),.ext (objX p13 (.map m14 c15)),.ext (optX o_gate_move p31 cs32 v35.2.1),.ext (objX (some b65) (itO p13 c15 (#[])))] [Map.mp (kInt .u64) true t_gate_call p8 m9 c10 a7,Map.mp (kInt .u64) true t_gate_load p13 m14 c15 a12,Ro.mp t_api_Mail p22 c23 a21,It.mp (kInt .u64) m14 (#[]) (mKeys a12)]∧M.gate_Gate_moves_L2 N n a1 a7 a12 a21 v35=some r) ?_ ?_
 exact ⟨_,hF.kp [0,61],hS.sp [1,2,3,4,5,6,0] [1,2,3,0],H⟩
 rintro n a w ⟨κ,hF,hS,H⟩
 rcases n with _|fuel2
 simp [M.gate_Gate_moves_L2] at H
 simp only [M.gate_Gate_moves_L2] at H
 refine wpIn_seq_k fun K66 hK66=>?_
 refine wpIn_region_lit ?_
 refine wc (wo_next (kt:=(kInt .u64)) (agg:=true) (t:=t_gate_load) hF hS (by kernel_rfl) 4 6 1 3 rfl (by kernel_rfl) rfl rfl rfl rfl H ?_ ?_)
 intro H a hF
 refine wl_pure (L':=[(0,pt b25 0),(61,pt b65 0),(63,vb false)]) 1 [0,61,63] hF (by kernel_rfl) fun a hF=>?_
 refine wpListIn_nil ?_
 refine hK66 _ _ ?_
 refine wpIn_seq_k fun K70 hK70=>?_
 refine cond_f hF (by kernel_rfl) rfl ?_
 refine wpIn_exit ?_
 refine hK63 _ _ ?_
 refine wpIn_seq_k fun K71 hK71=>?_
 refine bind_split H (fun x72 ho H=>?_)
 obtain ⟨b73,hpq,hS⟩:=hS.optS 5 rfl ho
 rw [hpq] at hS
 try rw [hpq] at hF
 obtain ⟨_,hS⟩:=hS.unfI (ck:=c_gate_move) (fs:=q_gate_move) 5 rfl
 refine wpIn_region_lit ?_
 refine wp 3 [0,73] hF fun a hF=>?_
 refine wc (wld hF hS 1 8 0 fun a hF=>?_)
 refine wp 2 [0,76] hF fun a hF=>?_
 refine wc (wst hF hS 0 5 1 [si 1] (sgN 1 sgNil) fun a w hF hS=>?_)
 refine wpListIn_nil ?_
 obtain ⟨cs74,hS⟩:=hS.foldI (ck:=c_gate_move) (fs:=q_gate_move) b73 () (T_gate_move.mk (T_span_Shard.mk x72.span.Lo x72.span.Hi x72.span.Node) x72.shard x72.to 1) [0] [1,2,3,4,5,6] [] (by decide) (by kernel_rfl) (by kernel_rfl)
 refine hK71 _ _ ?_
 obtain ⟨_,hS⟩:=hS.unfI (ck:=c_gate_move) (fs:=q_gate_move) 0 rfl
 refine rga (fun _=>True) [] ?_
 have hS:=hS.drew
 refine anp [0,1,2,3,9,10,11,17,18,19] [77,80,88,96] hF trivial fun a hF=>?_
 refine any_weakS hS [26] ?_
 refine atk 4 (some 81) hF (hS.sx [0,1,3,4,5,6] (rg 4)) rfl (vld 1 8 0) fun a hF=>?_
 refine anp [5,6,7] [77,84,88,96] hF (hS.sx [0,1,3,4,5,6] (rg 4)) fun a hF=>?_
 refine atk 8 (some 85) hF (hS.sx [0,1,3,4,5,6] (rg 4)) rfl (vld 0 2 0) fun a hF=>?_
 refine atk 12 (some 89) hF (hS.sx [0,1,3,4,5,6] (rg 4)) rfl (vld 1 8 0) fun a hF=>?_
 refine anp [13,14,15] [77,85,92,96] hF (hS.sx [0,1,3,4,5,6] (rg 4)) fun a hF=>?_
 refine atk 16 (some 93) hF (hS.sx [0,1,3,4,5,6] (rg 4)) rfl (vld 0 0 0) fun a hF=>?_
 refine atk 20 (some 97) hF (hS.sx [0,1,3,4,5,6] (rg 4)) rfl (vld 1 8 0) fun a hF=>?_
 refine anp [21,22,23] [77,85,93,100] hF (hS.sx [0,1,3,4,5,6] (rg 4)) fun a hF=>?_
 refine atk 24 (some 101) hF (hS.sx [0,1,3,4,5,6] (rg 4)) rfl (vld 0 1 0) fun a hF=>?_
 refine anp [25] [77,85,102] hF (hS.sx [0,1,3,4,5,6] (rg 4)) fun a hF=>?_
 refine ago 26 hF rfl ?_
 have hS:=hS.add (m:=Ro.mp f_api_Ver.ty none 0 ([]:List T_api_Ver)) (Ro.nil f_api_Ver.ty _ _)
 have hS:=hS.add (m:=Ro.mp (fInt .u64).ty none 0 ([]:List Int)) (Ro.nil (fInt .u64).ty _ _)
 refine bind_split H (fun x75 hx75 H=>?_)
 have hgx750:=hS.segs 1 rfl
 refine wcS 2 [1,2,0,3,4,5,6] hF hS (fun hS=>C_gate_Gate_tell N a1 a21 (((T_gate_move.mk (T_span_Shard.mk x72.span.Lo x72.span.Hi x72.span.Node) x72.shard x72.to 1).span).Node) (T_api_Msg.mk 5 0 1 0 (((T_gate_move.mk (T_span_Shard.mk x72.span.Lo x72.span.Hi x72.span.Node) x72.shard x72.to 1).span).Lo) (((T_gate_move.mk (T_span_Shard.mk x72.span.Lo x72.span.Hi x72.span.Node) x72.shard x72.to 1).span).Hi) ([]:List T_api_Ver) ([]:List Int) (T_api_Cmd.mk 0 0 0 0 0 ByteArray.empty)) (flat [(13,cs2),(1,[.pointer (pa p28)]),(14,cs6),(1,[.map p8]),(1,cs11),(1,[.map p13]),(1,cs16),(1,[pt b73 0]),(8,cs20)]) p22 c23 cs24 none 0 none 0 b25 ((hS.regr 0 [(false,1),(true,9),(false,2)] rfl).sbK [4,1,0]) hx75) ?_
 rintro _ κ w a ⟨p76,c77,rfl,h2⟩ hF hB
 have hS:=(hB _ _ h2).unregrK 0 [(false,1),(true,9),(false,2)] (s':=[si a1,(13,cs2),(1,[.pointer (pa p28)]),(14,cs6),(1,[.map p8]),(1,cs11),(1,[.map p13]),(1,cs16),(1,[pt b73 0]),(8,cs20),sl p76 (x75).length c77,(1,cs24)]) hgx750 rfl
 refine ⟨notE,?_⟩
 refine and_ ?_
 obtain ⟨cs78,hS⟩:=hS.foldI (ck:=c_gate_move) (fs:=q_gate_move) b73 () (T_gate_move.mk (T_span_Shard.mk x72.span.Lo x72.span.Hi x72.span.Node) x72.shard x72.to 1) [2] [0,1,3,4,5,6] [] (by decide) (by kernel_rfl) (by kernel_rfl)
 cases H
 exact ret_done hF hS (res0 Tryz.results78) ⟨p28,cs29,(some b73),cs78,p76,c77,rfl,hS.sp [1,2,3,4,5,0] [0]⟩
 intro x67 cs68 m69 a w H hF hS
 refine wl_pure (L':=[(0,pt b25 0),(61,pt b65 0),(63,vb true)]) 1 [0,61,63] hF (by kernel_rfl) fun a hF=>?_
 refine wpListIn_nil ?_
 refine hK66 _ _ ?_
 refine wpIn_seq_k fun K79 hK79=>?_
 refine cond_t hF (by kernel_rfl) rfl ?_
 refine wpIn_skip ?_
 refine hK79 _ _ ?_
 refine wpIn_block ?_
 refine wpIn_seq_k fun K80 hK80=>?_
 refine wpIn_region_lit ?_
 refine wc (wo_entry (kt:=(kInt .u64)) (agg:=true) (t:=t_gate_load) hF hS (by kernel_rfl) 4 6 3 0 rfl (by kernel_rfl) rfl rfl rfl rfl ?_)
 rintro _ a ⟨⟨p81,c82⟩,rfl,hR⟩ hF
 have hS:=hS.adds hR
 refine wp 1 [0,61,65] hF fun a hF=>?_
 refine wc (wal hF hS [si 0,si 0,si 0,sl none 0 0] (sgN 4 sgNil) fun b83 a w hF hS=>?_)
 refine wc (wst hF hS 0 0 4 [si x67.2.dc,si x67.2.at_,si x67.2.left,sl p81 (x67.2.keys).length c82] (sgN 4 sgNil) fun a w hF hS=>?_)
 refine wpListIn_nil ?_
 refine hK80 _ _ ?_
 refine wpIn_seq_k fun K84 hK84=>?_
 cases H
 intro x59 cs60 m61 a w H hF hS
 refine wl_pure (L':=[(0,pt b25 0),(48,pt b57 0),(50,vb true)]) 1 [0,48,50] hF (by kernel_rfl) fun a hF=>?_
 refine wpListIn_nil ?_
 refine hK58 _ _ ?_
 refine wpIn_seq_k fun K85 hK85=>?_
 refine cond_t hF (by kernel_rfl) rfl ?_
 refine wpIn_skip ?_
 refine hK85 _ _ ?_
 refine wpIn_block ?_
 refine wpIn_seq_k fun K86 hK86=>?_
 refine wpIn_region_lit ?_
 refine wc (wo_entry (kt:=(kInt .u64)) (agg:=true) (t:=t_gate_call) hF hS (by kernel_rfl) 3 6 2 0 rfl (by kernel_rfl) rfl rfl rfl rfl ?_)
 rintro _ a ⟨⟨p87,c88⟩,rfl,hR⟩ hF
 have hS:=hS.adds hR
 refine wp 1 [0,48,52] hF fun a hF=>?_
 refine wc (wal hF hS [si 0,sb false,sg ByteArray.empty,su 0,sl none 0 0] (sgN 5 sgNil) fun b89 a w hF hS=>?_)
 refine wc (wst hF hS 0 0 5 [si x59.2.id,sb x59.2.read,sg x59.2.key,su x59.2.at_,sl p87 (x59.2.writes).length c88] (sgN 5 sgNil) fun a w hF hS=>?_)
 refine wpListIn_nil ?_
 refine hK86 _ _ ?_
 refine wpIn_seq_k fun K90 hK90=>?_
 cases H
set_option maxRecDepth 20000 in
set_option maxHeartbeats 8000000 in
theorem C_gate_Gate_learns (N:Nat){Ms:List Nat}{κ0:Gh}{w0:World}(a1:Int)(a3:Int)(a4:Int)(a6:Bool)(a7:(Option T_stab_Table))(a11:(List (Option T_inbox_Box)))(a14:(List Int))(a16:(Mp Int T_gate_load))(a21:(List Int))(a24:Int)(a25:Bool)(a26:Bool)(a27:Bool)(a28:(List T_api_Mail))(cs2:List Value)(cs5:List Value)(p8:Option Nat)(cs9:List Nat)(cs10:List Value)(p12:List (Option Nat))(cs13:List Nat)(cs15:List Value)(p17:Option Nat)(m18:Array MapEntry)(c19:Nat)(cs20:List Value)(p22:Option Addr)(c23:Nat)(p29:Option Addr)(c30:Nat)(cs31:List Value)(b32:Nat)(hB:SB Ms κ0 w0 [.box b32 87 [si a1,(1,cs2),si a3,si a4,(7,cs5),sb a6,(1,[.pointer (pa p8)]),(3,cs10),(4,(encs fPtr p12)),ei 4 a14,(7,cs15),(1,[.map p17]),(5,cs20),sl p22 (a21).length c23,su a24,sb a25,sb a26,sb a27,sl p29 (a28).length c30,(1,cs31)],.ext (optX o_stab_Table p8 cs9 a7),.ext (arrX o_inbox_Box p12 cs13 a11),.ext (objX p17 (.map m18 c19))] [ml p12 4,ml a14 4,Map.mp (kInt .u64) true t_gate_load p17 m18 c19 a16,Ro.mp (fInt .u64).ty p22 c23 a21,Ro.mp t_api_Mail p29 c30 a28]){r:Unit}(H:M.gate_Gate_learns N a1 a3 a4 a6 a7 a11 a14 a16 a21 a24 a25 a26 a27 a28=some r) :
    Calls Tryz.prog 79 #[pt b32 0] w0 (Post Ms κ0 w0 fun v κ w => ∃(cs39 cs40:List Nat),v = .tuple #[]∧SS Ms κ0 w0 κ w [.box b32 87 [si a1,(1,cs2),si a3,si a4,(7,cs5),sb a6,(1,[.pointer (pa p8)]),(3,cs10),(4,(encs fPtr p12)),ei 4 a14,(7,cs15),(1,[.map p17]),(5,cs20),sl p22 (a21).length c23,su a24,sb a25,sb a26,sb a27,sl p29 (a28).length c30,(1,cs31)],.ext (optX o_stab_Table p8 cs39 a7),.ext (arrX o_inbox_Box p12 cs40 a11),.ext (objX p17 (.map m18 c19))] []):=by
 have hS:=hB.hS
 have hfr:=hS.fresh
 refine enter (N:=(129)) (L:=[(0,pt b32 0)]) Tryz.func79 rfl Tryz.ntmps79 (show 1≤(129) by decide) rfl fun a hF=>?_
 unfold M.gate_Gate_learns at H
 refine wpIn_seq_k fun K33 hK33=>?_
 refine wpIn_seq_k fun K34 hK34=>?_
 refine wpIn_region_lit ?_
 refine bind_split H (fun v36 hv36 H=>?_)
 refine wl_join (fun a w => ∃κ:Gh,Fr (129) [] [(0,pt b32 0),(14,vb v36)] a∧SS Ms κ0 w0 κ w [.box b32 87 [si a1,(1,cs2),si a3,si a4,(7,cs5),sb a6,(1,[.pointer (pa p8)]),(3,cs10),(4,(encs fPtr p12)),ei 4 a14,(7,cs15),(1,[.map p17]),(5,cs20),sl p22 (a21).length c23,su a24,sb a25,sb a26,sb a27,sl p29 (a28).length c30,(1,cs31)],.ext (optX o_stab_Table p8 cs9 a7),.ext (arrX o_inbox_Box p12 cs13 a11),.ext (objX p17 (.map m18 c19))] [ml p12 4,ml a14 4,Map.mp (kInt .u64) true t_gate_load p17 m18 c19 a16,Ro.mp (fInt .u64).ty p22 c23 a21,Ro.mp t_api_Mail p29 c30 a28]∧True) ?_ ?_
 refine wp 3 [0,6] hF fun a hF=>?_
 refine wc (wld hF hS 0 2 0 fun a hF=>?_)
 refine wp 2 [0,9] hF fun a hF=>?_
 refine bif_split hv36 (fun hb hv36=>?_) (fun hb hv36=>?_)
 have hF:=hF.boolv 9 (by kernel_rfl) hb
 refine wp 5 [0,14] hF fun a hF=>?_
 refine wpListIn_nil ?_
 cases hv36
 exact ⟨_,hF.kp [0,14],hS.sp (rg 4) (rg 5),trivial⟩
 have hF:=hF.boolv 9 (by kernel_rfl) hb
 refine wp 3 [0,9,12] hF fun a hF=>?_
 refine wcg hF (wld hF hS 0 17 0 fun a hF=>?_)
 refine wp 1 [0,14] hF fun a hF=>?_
 refine wpListIn_nil ?_
 cases hv36
 exact ⟨_,hF.kp [0,14],hS.sp (rg 4) (rg 5),trivial⟩
 rintro a w ⟨κ,hF,hS,-⟩
 refine hK34 _ _ ?_
 refine bif_split H (fun hb H=>?_) (fun hb H=>?_)
 refine cond_t hF (by kernel_rfl) hb ?_
 refine wpIn_ret ?_
 cases H
 exact ret_done hF hS (res0 Tryz.results79) ⟨cs9,cs13,rfl,hS.sp (rg 4) []⟩
 refine cond_f hF (by kernel_rfl) hb ?_
 refine wpIn_skip ?_
 refine hK33 _ _ ?_
 refine wpIn_seq_k fun K37 hK37=>?_
 refine wpIn_seq_k fun K38 hK38=>?_
 cases H
set_option maxRecDepth 20000 in
set_option maxHeartbeats 8000000 in
theorem C_slices_Index___bool_bool__own0 (N:Nat){Ms:List Nat}{κ0:Gh}{w0:World}(a1:(List Bool))(a4:Bool)(p2:Option Addr)(c3:Nat)(hB:SB Ms κ0 w0 [.ext (ownX fBool 4 p2 c3 a1)] []){r:(Int)}(H:M.slices_Index___bool_bool__own0 N a1 a4=some r) :
    Calls Tryz.prog 113 #[.slice p2 (a1).length c3,vb a4] w0 (Post Ms κ0 w0 fun v κ w=>v=vi r∧SS Ms κ0 w0 κ w [.ext (ownX fBool 4 p2 c3 a1)] []):=by
 have hS:=hB.hS
 have hfr:=hS.fresh
 refine enter (N:=(19)) (L:=[(0,.slice p2 (a1).length c3),(1,vb a4)]) Tryz.func113 rfl Tryz.ntmps113 (show 2≤(19) by decide) rfl fun a hF=>?_
 unfold M.slices_Index___bool_bool__own0 at H
 refine wpIn_seq_k fun K5 hK5=>?_
 refine wpIn_region_lit ?_
 refine wp 1 [0,1] hF fun a hF=>?_
 refine wpListIn_nil ?_
 refine hK5 _ _ ?_
 refine wpIn_seq_k fun K6 hK6=>?_
 refine wpIn_seq_k fun K7 hK7=>?_
 refine wpIn_region_lit ?_
 refine wp 3 [0,1,7,8] hF fun a hF=>?_
 refine wpListIn_nil ?_
 refine hK7 _ _ ?_
 refine wpIn_block ?_
 refine loop_fuel (n:=N) (fun n a w => ∃(κ:Gh) (y58:Int),Fr (19) [] [(0,.slice p2 (a1).length c3),(1,vb a4),(7,vi ((a1).length:Int)),(8,vi y58)] a∧SS Ms κ0 w0 κ w [.ext (ownX fBool 4 p2 c3 a1)] []∧M.slices_Index___bool_bool__own0_L1 N n a1 a4 y58=some r) ?_ ?_
 exact ⟨_,0,hF.kp [0,1,7,8],hS.sp [0] [],H⟩
 rintro n a w ⟨κ,y58,hF,hS,H⟩
 rcases n with _|fuel1
 simp [M.slices_Index___bool_bool__own0_L1] at H
 simp only [M.slices_Index___bool_bool__own0_L1] at H
 refine wpIn_seq_k fun K59 hK59=>?_
 refine wpIn_region_lit ?_
 refine wp 1 [0,1,7,8,9] hF fun a hF=>?_
 refine wpListIn_nil ?_
 refine hK59 _ _ ?_
 refine wpIn_seq_k fun K60 hK60=>?_
 refine bif_split H (fun hb H=>?_) (fun hb H=>?_)
 refine cond_t hF (by kernel_rfl) hb ?_
 refine wpIn_skip ?_
 refine hK60 _ _ ?_
 refine wpIn_seq_k fun K61 hK61=>?_
 refine wpIn_block ?_
 refine wpIn_seq_k fun K62 hK62=>?_
 refine wpIn_region_lit ?_
 refine wp 2 [0,1,5,7,8] hF fun a hF=>?_
 refine wpListIn_nil ?_
 refine hK62 _ _ ?_
 refine wpIn_seq_k fun K63 hK63=>?_
 refine wpIn_region_lit ?_
 refine wl_pure (L':=[(0,.slice p2 (a1).length c3),(1,vb a4),(5,vi y58),(7,vi ((a1).length:Int)),(8,vi y58),(11,vb a4),(12,.slice p2 (a1).length c3),(13,vi y58)]) 3 [0,1,5,7,8,11,12,13] hF (by kernel_rfl) fun a hF=>?_
 refine bind_split H (fun x64 hx64 H=>?_)
 refine wc (wo_indexO hF hS (by kernel_rfl) 0 (sz:=1) rfl rfl rfl rfl rfl hx64 (by kernel_rfl) (by kernel_rfl) fun b65 f66 a hpx64 hF=>?_)
 refine wc (wo_loadO hF hS (by kernel_rfl) 0 (v:=vb x64) rfl rfl hpx64 rfl hx64 rfl (by kernel_rfl) (by kernel_rfl) fun a hF=>?_)
 refine wp 1 [0,1,5,7,8,16] hF fun a hF=>?_
 refine wpListIn_nil ?_
 refine hK63 _ _ ?_
 refine bif_split H (fun hb H=>?_) (fun hb H=>?_)
 refine cond_t hF (by kernel_rfl) hb ?_
 refine wpIn_seq_k fun K67 hK67=>?_
 refine wpIn_region_lit ?_
 refine wp 2 [4] hF fun a hF=>?_
 refine wpListIn_nil ?_
 refine hK67 _ _ ?_
 refine wpIn_ret ?_
 cases H
 exact ret_done hF hS (res1 Tryz.results113 (rvt hF)) ⟨rfl,hS.sp [0] []⟩
 refine cond_f hF (by kernel_rfl) hb ?_
 refine wpIn_skip ?_
 refine hK61 _ _ ?_
 refine wpIn_region_lit ?_
 refine wp 2 [0,1,7,8] hF fun a hF=>?_
 refine wpListIn_nil ?_
 exact ⟨fuel1,Nat.lt_succ_self _,_,IntKind.i64.wrap (y58+1),hF.kp [0,1,7,8],hS.sp [0] [],H⟩
 refine cond_f hF (by kernel_rfl) hb ?_
 refine wpIn_exit ?_
 refine hK6 _ _ ?_
 refine wpIn_seq_k fun K68 hK68=>?_
 refine wpIn_region_lit ?_
 refine wp 1 [4] hF fun a hF=>?_
 refine wpListIn_nil ?_
 refine hK68 _ _ ?_
 refine wpIn_ret ?_
 cases H
 exact ret_done hF hS (res1 Tryz.results113 (rvt hF)) ⟨rfl,hS.sp [0] []⟩
set_option maxRecDepth 20000 in
set_option maxHeartbeats 8000000 in
theorem C_slices_Contains___bool_bool__own0 (N:Nat){Ms:List Nat}{κ0:Gh}{w0:World}(a1:(List Bool))(a4:Bool)(p2:Option Addr)(c3:Nat)(hB:SB Ms κ0 w0 [.ext (ownX fBool 4 p2 c3 a1)] []){r:(Bool)}(H:M.slices_Contains___bool_bool__own0 N a1 a4=some r) :
    Calls Tryz.prog 80 #[.slice p2 (a1).length c3,vb a4] w0 (Post Ms κ0 w0 fun v κ w=>v=vb r∧SS Ms κ0 w0 κ w [.ext (ownX fBool 4 p2 c3 a1)] []):=by
 have hS:=hB.hS
 have hfr:=hS.fresh
 refine enter (N:=(9)) (L:=[(0,.slice p2 (a1).length c3),(1,vb a4)]) Tryz.func80 rfl Tryz.ntmps80 (show 2≤(9) by decide) rfl fun a hF=>?_
 unfold M.slices_Contains___bool_bool__own0 at H
 refine wpIn_seq_k fun K5 hK5=>?_
 refine wpIn_region_lit ?_
 refine wp 1 [0,1] hF fun a hF=>?_
 refine wpListIn_nil ?_
 refine hK5 _ _ ?_
 refine wpIn_seq_k fun K6 hK6=>?_
 refine wpIn_region_lit ?_
 refine wp 2 [5,6] hF fun a hF=>?_
 refine bind_split H (fun x7 hx7 H=>?_)
 refine wc (wcS 1 [0] hF hS (fun hS=>C_slices_Index___bool_bool__own0 N a1 a4 p2 c3 (hS.sbK []) hx7) ?_)
 rintro _ κ w a ⟨rfl,h2⟩ hF hB
 have hS:=hB _ _ h2
 refine wp 2 [4] hF fun a hF=>?_
 refine wpListIn_nil ?_
 refine hK6 _ _ ?_
 refine wpIn_ret ?_
 cases H
 exact ret_done hF hS (res1 Tryz.results80 (rvt hF)) ⟨rfl,hS.sp [0] []⟩
set_option maxRecDepth 20000 in
set_option maxHeartbeats 8000000 in
theorem C_gate_Gate_work (N:Nat){Ms:List Nat}{κ0:Gh}{w0:World}(a1:Int)(a3:Int)(a4:Int)(a6:T_api_Map)(a12:(List Bool))(a16:Bool)(a17:(Option T_stab_Table))(a20:(Option T_order_Log))(a23:(Option T_coord_Table))(a26:Int)(a27:(List (Option T_inbox_Box)))(a30:(List Int))(a31:(List Int))(a33:(Mp Int T_gate_call))(a37:(List T_gate_call))(a40:(Mp Int T_gate_load))(a44:Int)(a45:(Option T_gate_move))(a49:(List Int))(a52:Int)(a53:Bool)(a54:Bool)(a55:Bool)(a56:(List T_api_Mail))(cs2:List Value)(cs5:List Value)(p7:Option Addr)(c8:Nat)(p9:Option Addr)(c10:Nat)(cs11:List Value)(p13:Option Addr)(c14:Nat)(cs15:List Value)(p18:Option Nat)(cs19:List Nat)(p21:Option Nat)(cs22:List Nat)(p24:Option Nat)(cs25:List Nat)(p28:List (Option Nat))(cs29:List Nat)(cs32:List Value)(p34:Option Nat)(m35:Array MapEntry)(c36:Nat)(p38:Option Addr)(c39:Nat)(p41:Option Nat)(m42:Array MapEntry)(c43:Nat)(p46:Option Nat)(cs47:List Nat)(cs48:List Value)(p50:Option Addr)(c51:Nat)(p57:Option Addr)(c58:Nat)(cs59:List Value)(b60:Nat)(hB:SB Ms κ0 w0 [.box b60 87 [si a1,(1,cs2),si a3,si a4,(2,cs5),sl p7 (a6.Cuts).length c8,sl p9 (a6.Nodes).length c10,(1,cs11),sl p13 (a12).length c14,(1,cs15),sb a16,(1,[.pointer (pa p18)]),(1,[.pointer (pa p21)]),(1,[.pointer (pa p24)]),su a26,(4,(encs fPtr p28)),ei 4 a30,ei 4 a31,(1,cs32),(1,[.map p34]),sl p38 (a37).length c39,(1,[.map p41]),su a44,(1,[.pointer (pa p46)]),(3,cs48),sl p50 (a49).length c51,su a52,sb a53,sb a54,sb a55,sl p57 (a56).length c58,(1,cs59)],.tok p57 61 15 (a56).length c58,.ext (ownX fBool 4 p13 c14 a12),.ext (optX o_stab_Table p18 cs19 a17),.ext (optX o_order_Log p21 cs22 a20),.ext (optX o_coord_Table p24 cs25 a23),.ext (arrX o_inbox_Box p28 cs29 a27),.ext (objX p34 (.map m35 c36)),.ext (objX p41 (.map m42 c43)),.ext (optX o_gate_move p46 cs47 a45)] [Ro.mp fStr.ty p7 c8 a6.Cuts,Ro.mp (fInt .i64).ty p9 c10 a6.Nodes,ml p28 4,ml a30 4,ml a31 4,Map.mp (kInt .u64) true t_gate_call p34 m35 c36 a33,Ro.mp t_gate_call p38 c39 a37,Map.mp (kInt .u64) true t_gate_load p41 m42 c43 a40,Ro.mp (fInt .u64).ty p50 c51 a49,Ro.mp t_api_Mail p57 c58 a56]){r:((Option T_stab_Table)×(Option T_order_Log)×(Option T_coord_Table)×(Option T_gate_move)×(List T_api_Mail))}(H:M.gate_Gate_work N a1 a3 a4 a6 a12 a16 a17 a20 a23 a26 a27 a30 a31 a33 a37 a40 a44 a45 a49 a52 a53 a54 a55 a56=some r) :
    Calls Tryz.prog 34 #[pt b60 0] w0 (Post Ms κ0 w0 fun v κ w => ∃(p117:Option Nat) (cs118:List Nat) (p119:Option Nat) (cs120:List Nat) (p121:Option Nat) (cs122:List Nat) (p123:Option Nat) (cs124:List Nat) (p125:Option Addr) (c126:Nat) (cs127:List Nat),v = .tuple #[]∧SS Ms κ0 w0 κ w [.box b60 87 [si a1,(1,cs2),si a3,si a4,(2,cs5),sl p7 (a6.Cuts).length c8,sl p9 (a6.Nodes).length c10,(1,cs11),sl p13 (a12).length c14,(1,cs15),sb a16,(1,[.pointer (pa p117)]),(1,[.pointer (pa p119)]),(1,[.pointer (pa p121)]),su a26,(4,(encs fPtr p28)),ei 4 a30,ei 4 a31,(1,cs32),(1,[.map p34]),sl p38 (a37).length c39,(1,[.map p41]),su a44,(1,[.pointer (pa p123)]),(3,cs48),sl p50 (a49).length c51,su a52,sb a53,sb a54,sb a55,sl p125 (r.2.2.2.2).length c126,(1,cs59)],.tok p125 61 15 (r.2.2.2.2).length c126,.ext (ownX fBool 4 p13 c14 a12),.ext (optX o_stab_Table p117 cs118 r.1),.ext (optX o_order_Log p119 cs120 r.2.1),.ext (optX o_coord_Table p121 cs122 r.2.2.1),.ext (arrX o_inbox_Box p28 cs127 a27),.ext (objX p34 (.map m35 c36)),.ext (objX p41 (.map m42 c43)),.ext (optX o_gate_move p123 cs124 r.2.2.2.1)] [Ro.mp t_api_Mail p125 c126 r.2.2.2.2]):=by
 have hS:=hB.hS
 have hfr:=hS.fresh
 refine enter (N:=(84)) (L:=[(0,pt b60 0)]) Tryz.func34 rfl Tryz.ntmps34 (show 1≤(84) by decide) rfl fun a hF=>?_
 unfold M.gate_Gate_work at H
 refine seq_join (fun a w => ∃(κ:Gh) (p61:Option Nat) (cs62:List Nat) (y63:Option T_stab_Table) (p64:Option Nat) (cs65:List Nat) (y66:Option T_order_Log) (p67:Option Nat) (cs68:List Nat) (y69:Option T_coord_Table) (cs70:List Nat) (p71:Option Nat) (cs72:List Nat) (y73:Option T_gate_move) (y74:List T_api_Mail) (p75:Option Addr) (c76:Nat),Fr (84) [] [(0,pt b60 0)] a∧SS Ms κ0 w0 κ w [.box b60 87 [si a1,(1,cs2),si a3,si a4,(2,cs5),sl p7 (a6.Cuts).length c8,sl p9 (a6.Nodes).length c10,(1,cs11),sl p13 (a12).length c14,(1,cs15),sb a16,(1,[.pointer (pa p61)]),(1,[.pointer (pa p64)]),(1,[.pointer (pa p67)]),su a26,(4,(encs fPtr p28)),ei 4 a30,ei 4 a31,(1,cs32),(1,[.map p34]),sl p38 (a37).length c39,(1,[.map p41]),su a44,(1,[.pointer (pa p71)]),(3,cs48),sl p50 (a49).length c51,su a52,sb a53,sb a54,sb a55,sl p75 (y74).length c76,(1,cs59)],.tok p75 61 15 (y74).length c76,.ext (ownX fBool 4 p13 c14 a12),.ext (optX o_stab_Table p61 cs62 y63),.ext (optX o_order_Log p64 cs65 y66),.ext (optX o_coord_Table p67 cs68 y69),.ext (arrX o_inbox_Box p28 cs70 a27),.ext (objX p34 (.map m35 c36)),.ext (objX p41 (.map m42 c43)),.ext (optX o_gate_move p71 cs72 y73)] [Ro.mp fStr.ty p7 c8 a6.Cuts,Ro.mp (fInt .i64).ty p9 c10 a6.Nodes,ml p28 4,ml a30 4,ml a31 4,Map.mp (kInt .u64) true t_gate_call p34 m35 c36 a33,Ro.mp t_gate_call p38 c39 a37,Map.mp (kInt .u64) true t_gate_load p41 m42 c43 a40,Ro.mp (fInt .u64).ty p50 c51 a49,Ro.mp t_api_Mail p75 c76 y74]∧M.gate_Gate_work_k1 N a1 a3 a4 a6 a12 a16 a26 a27 a30 a31 a33 a37 a40 a44 a49 a52 a53 a54 a55 y63 y66 y69 y73 y74=some r) ?_ ?_
 refine wpIn_seq_k fun K95 hK95=>?_
 refine wpIn_region_lit ?_
 refine wp 3 [0,4] hF fun a hF=>?_
 refine wc (wld hF hS 0 2 0 fun a hF=>?_)
 refine wp 1 [0,6] hF fun a hF=>?_
 refine wpListIn_nil ?_
 refine hK95 _ _ ?_
 refine bif_split H (fun hb H=>?_) (fun hb H=>?_)
 refine cond_t hF (by kernel_rfl) hb ?_
 refine wpIn_seq_k fun K96 hK96=>?_
 refine wpIn_region_lit ?_
 refine wp 1 [0,7] hF fun a hF=>?_
 refine bind_split H (fun x97 hx97 H=>?_)
 have hgx970:=hS.segs 0 rfl
 refine wc (wcS 3 [0,3,4,1,2,5,6,7,8,9] hF hS (fun hS=>C_gate_Gate_ship N a17 a20 a30 a56 (flat [si a1,(1,cs2),si a3,si a4,(2,cs5),sl p7 (a6.Cuts).length c8,sl p9 (a6.Nodes).length c10,(1,cs11),sl p13 (a12).length c14,(1,cs15),sb a16]) p18 cs19 p21 cs22 (flat [(1,[.pointer (pa p24)]),su a26,(4,(encs fPtr p28))]) (flat [ei 4 a31,(1,cs32),(1,[.map p34]),sl p38 (a37).length c39,(1,[.map p41]),su a44,(1,[.pointer (pa p46)]),(3,cs48),sl p50 (a49).length c51,su a52,sb a53,sb a54,sb a55]) p57 c58 cs59 b60 ((hS.regr 0 [(true,11),(false,2),(true,3),(false,1),(true,13),(false,2)] rfl).sbK [3,9]) hx97) ?_)
 rintro _ κ w a ⟨p98,cs99,p100,cs101,rfl,h2⟩ hF hB
 have hS:=(hB _ _ h2).unregrK 0 [(true,11),(false,2),(true,3),(false,1),(true,13),(false,2)] (s':=[si a1,(1,cs2),si a3,si a4,(2,cs5),sl p7 (a6.Cuts).length c8,sl p9 (a6.Nodes).length c10,(1,cs11),sl p13 (a12).length c14,(1,cs15),sb a16,(1,[.pointer (pa p98)]),(1,[.pointer (pa p100)]),(1,[.pointer (pa p24)]),su a26,(4,(encs fPtr p28)),ei 4 a30,ei 4 a31,(1,cs32),(1,[.map p34]),sl p38 (a37).length c39,(1,[.map p41]),su a44,(1,[.pointer (pa p46)]),(3,cs48),sl p50 (a49).length c51,su a52,sb a53,sb a54,sb a55,sl p57 (a56).length c58,(1,cs59)]) hgx970 rfl
 refine wpListIn_nil ?_
 refine hK96 _ _ ?_
 refine wpIn_seq_k fun K102 hK102=>?_
 refine wpIn_region_lit ?_
 refine wp 1 [0,9] hF fun a hF=>?_
 refine bind_split H (fun x103 hx103 H=>?_)
 have hgx1030:=hS.segs 0 rfl
 refine wc (wcS 4 [0,6,8,9,1,2,3,4,5,7] hF hS (fun hS=>C_gate_Gate_load N a1 (T_api_Map.mk a6.Cuts a6.Nodes) a26 a27 a40 a44 a45 a56 (flat [(1,cs2),si a3,si a4,(2,cs5)]) p7 c8 p9 c10 (flat [(1,cs11),sl p13 (a12).length c14,(1,cs15),sb a16,(1,[.pointer (pa p98)]),(1,[.pointer (pa p100)]),(1,[.pointer (pa p24)])]) p28 cs29 (flat [ei 4 a30,ei 4 a31,(1,cs32),(1,[.map p34]),sl p38 (a37).length c39]) p41 m42 c43 p46 cs47 (flat [(3,cs48),sl p50 (a49).length c51,su a52,sb a53,sb a54,sb a55]) p57 c58 cs59 b60 ((hS.regr 0 [(false,1),(true,4),(false,2),(true,7),(false,2),(true,5),(false,3),(true,6),(false,2)] rfl).sbK [0,1,2,7,9]) hx103) ?_)
 rintro _ κ w a ⟨cs104,cs105,rfl,h2⟩ hF hB
 have hS:=((hB _ _ h2).unregrK 0 [(false,1),(true,4),(false,2),(true,7),(false,2),(true,5),(false,3),(true,6),(false,2)] (s':=[si a1,(1,cs2),si a3,si a4,(2,cs5),sl p7 (a6.Cuts).length c8,sl p9 (a6.Nodes).length c10,(1,cs11),sl p13 (a12).length c14,(1,cs15),sb a16,(1,[.pointer (pa p98)]),(1,[.pointer (pa p100)]),(1,[.pointer (pa p24)]),su a26,(4,(encs fPtr p28)),ei 4 a30,ei 4 a31,(1,cs32),(1,[.map p34]),sl p38 (a37).length c39,(1,[.map p41]),su a44,(1,[.pointer (pa p46)]),(3,cs48),sl p50 (a49).length c51,su a52,sb a53,sb a54,sb a55,sl p57 (a56).length c58,(1,cs59)]) hgx1030 rfl).cC (C':=[.box b60 87 [si a1,(1,cs2),si a3,si a4,(2,cs5),sl p7 (a6.Cuts).length c8,sl p9 (a6.Nodes).length c10,(1,cs11),sl p13 (a12).length c14,(1,cs15),sb a16,(1,[.pointer (pa p98)]),(1,[.pointer (pa p100)]),(1,[.pointer (pa p24)]),su a26,(4,(encs fPtr p28)),ei 4 a30,ei 4 a31,(1,cs32),(1,[.map p34]),sl p38 (a37).length c39,(1,[.map p41]),su a44,(1,[.pointer (pa p46)]),(3,cs48),sl p50 (a49).length c51,su a52,sb a53,sb a54,sb a55,sl p57 (a56).length c58,(1,cs59)],.ext (arrX o_inbox_Box p28 cs104 a27),.ext (objX p41 (.map m42 c43)),.ext (optX o_gate_move p46 cs105 a45),.ext (optX o_stab_Table p98 cs99 x97.1),.ext (optX o_order_Log p100 cs101 x97.2),.tok p57 61 15 (a56).length c58,.ext (ownX fBool 4 p13 c14 a12),.ext (optX o_coord_Table p24 cs25 a23),.ext (objX p34 (.map m35 c36))])
 refine wpListIn_nil ?_
 refine hK102 _ _ ?_
 refine wpIn_seq_k fun K106 hK106=>?_
 refine wpIn_region_lit ?_
 refine wp 1 [0,11] hF fun a hF=>?_
 refine bind_split H (fun x107 hx107 H=>?_)
 have hgx1070:=hS.segs 0 rfl
 refine wc (wcS 6 [0,6,8,9,2,3,1,4,5,7] hF hS (fun hS=>C_gate_Gate_moves N a1 a23 a33 a40 a45 a56 (flat [(1,cs2),si a3,si a4,(2,cs5),sl p7 (a6.Cuts).length c8,sl p9 (a6.Nodes).length c10,(1,cs11),sl p13 (a12).length c14,(1,cs15),sb a16,(1,[.pointer (pa p98)]),(1,[.pointer (pa p100)])]) p24 cs25 (flat [su a26,(4,(encs fPtr p28)),ei 4 a30,ei 4 a31,(1,cs32)]) p34 m35 c36 [.slice p38 (a37).length c39] p41 m42 c43 [vu a44] p46 cs105 (flat [(3,cs48),sl p50 (a49).length c51,su a52,sb a53,sb a54,sb a55]) p57 c58 cs59 b60 ((hS.regr 0 [(false,1),(true,12),(false,1),(true,5),(false,5),(true,6),(false,2)] rfl).sbK [5,7,9]) hx107) ?_)
 rintro _ κ w a ⟨p108,cs109,p110,cs111,p112,c113,rfl,h2⟩ hF hB
 have hS:=(hB _ _ h2).unregrK 0 [(false,1),(true,12),(false,1),(true,5),(false,5),(true,6),(false,2)] (s':=[si a1,(1,cs2),si a3,si a4,(2,cs5),sl p7 (a6.Cuts).length c8,sl p9 (a6.Nodes).length c10,(1,cs11),sl p13 (a12).length c14,(1,cs15),sb a16,(1,[.pointer (pa p98)]),(1,[.pointer (pa p100)]),(1,[.pointer (pa p108)]),su a26,(4,(encs fPtr p28)),ei 4 a30,ei 4 a31,(1,cs32),(1,[.map p34]),sl p38 (a37).length c39,(1,[.map p41]),su a44,(1,[.pointer (pa p110)]),(3,cs48),sl p50 (a49).length c51,su a52,sb a53,sb a54,sb a55,sl p112 (x107.2.2).length c113,(1,cs59)]) hgx1070 rfl
 refine wpListIn_nil ?_
 refine hK106 _ _ ?_
 refine wpIn_region_lit ?_
 refine wp 1 [0,13] hF fun a hF=>?_
 refine bind_split H (fun x114 hx114 H=>?_)
 have hgx1140:=hS.segs 0 rfl
 refine wc (wcS 4 [0,7,6,4,1,2,3,5,8,9] hF hS (fun hS=>C_gate_Gate_learns N a1 a3 a4 a16 x97.1 a27 a30 a40 a49 a52 a53 a54 a55 x107.2.2 cs2 (flat [(2,cs5),sl p7 (a6.Cuts).length c8,sl p9 (a6.Nodes).length c10,(1,cs11),sl p13 (a12).length c14,(1,cs15)]) p98 cs99 (flat [(1,[.pointer (pa p100)]),(1,[.pointer (pa p108)]),su a26]) p28 cs104 (flat [ei 4 a31,(1,cs32),(1,[.map p34]),sl p38 (a37).length c39]) p41 m42 c43 (flat [su a44,(1,[.pointer (pa p110)]),(3,cs48)]) p50 c51 p112 c113 cs59 b60 ((hS.regr 0 [(false,4),(true,6),(false,2),(true,3),(false,2),(true,4),(false,1),(true,3),(false,7)] rfl).sbK [3,4,8,9,0]) hx114) ?_)
 rintro _ κ w a ⟨cs115,cs116,rfl,h2⟩ hF hB
 have hS:=((hB _ _ h2).unregrK 0 [(false,4),(true,6),(false,2),(true,3),(false,2),(true,4),(false,1),(true,3),(false,7)] (s':=[si a1,(1,cs2),si a3,si a4,(2,cs5),sl p7 (a6.Cuts).length c8,sl p9 (a6.Nodes).length c10,(1,cs11),sl p13 (a12).length c14,(1,cs15),sb a16,(1,[.pointer (pa p98)]),(1,[.pointer (pa p100)]),(1,[.pointer (pa p108)]),su a26,(4,(encs fPtr p28)),ei 4 a30,ei 4 a31,(1,cs32),(1,[.map p34]),sl p38 (a37).length c39,(1,[.map p41]),su a44,(1,[.pointer (pa p110)]),(3,cs48),sl p50 (a49).length c51,su a52,sb a53,sb a54,sb a55,sl p112 (x107.2.2).length c113,(1,cs59)]) hgx1140 rfl).cC (C':=[.box b60 87 [si a1,(1,cs2),si a3,si a4,(2,cs5),sl p7 (a6.Cuts).length c8,sl p9 (a6.Nodes).length c10,(1,cs11),sl p13 (a12).length c14,(1,cs15),sb a16,(1,[.pointer (pa p98)]),(1,[.pointer (pa p100)]),(1,[.pointer (pa p108)]),su a26,(4,(encs fPtr p28)),ei 4 a30,ei 4 a31,(1,cs32),(1,[.map p34]),sl p38 (a37).length c39,(1,[.map p41]),su a44,(1,[.pointer (pa p110)]),(3,cs48),sl p50 (a49).length c51,su a52,sb a53,sb a54,sb a55,sl p112 (x107.2.2).length c113,(1,cs59)],.ext (optX o_stab_Table p98 cs115 x97.1),.ext (arrX o_inbox_Box p28 cs116 a27),.ext (objX p41 (.map m42 c43)),.tok p112 61 15 (x107.2.2).length c113,.ext (optX o_coord_Table p108 cs109 x107.1),.ext (objX p34 (.map m35 c36)),.ext (optX o_gate_move p110 cs111 x107.2.1),.ext (optX o_order_Log p100 cs101 x97.2),.ext (ownX fBool 4 p13 c14 a12)])
 refine wpListIn_nil ?_
 exact ⟨_,p98,cs115,x97.1,p100,cs101,x97.2,p108,cs109,x107.1,cs116,p110,cs111,x107.2.1,x107.2.2,p112,c113,hF.kp [0],hS.sp [0,4,9,1,8,5,2,6,3,7] [1,2,3,4,5,6,7,8,9,0],H⟩
 refine cond_f hF (by kernel_rfl) hb ?_
 refine wpIn_skip ?_
 exact ⟨_,p18,cs19,a17,p21,cs22,a20,p24,cs25,a23,cs29,p46,cs47,a45,a56,p57,c58,hF.kp [0],hS.sp (rg 10) (rg 10),H⟩
 rintro a w ⟨κ,p61,cs62,y63,p64,cs65,y66,p67,cs68,y69,cs70,p71,cs72,y73,y74,p75,c76,hF,hS,H⟩
 unfold M.gate_Gate_work_k1 at H
 refine seq_join (fun a w => ∃(κ:Gh) (p77:Option Nat) (cs78:List Nat) (y79:Option T_gate_move),Fr (84) [] [(0,pt b60 0)] a∧SS Ms κ0 w0 κ w [.box b60 87 [si a1,(1,cs2),si a3,si a4,(2,cs5),sl p7 (a6.Cuts).length c8,sl p9 (a6.Nodes).length c10,(1,cs11),sl p13 (a12).length c14,(1,cs15),sb a16,(1,[.pointer (pa p61)]),(1,[.pointer (pa p64)]),(1,[.pointer (pa p67)]),su a26,(4,(encs fPtr p28)),ei 4 a30,ei 4 a31,(1,cs32),(1,[.map p34]),sl p38 (a37).length c39,(1,[.map p41]),su a44,(1,[.pointer (pa p77)]),(3,cs48),sl p50 (a49).length c51,su a52,sb a53,sb a54,sb a55,sl p75 (y74).length c76,(1,cs59)],.tok p75 61 15 (y74).length c76,.ext (ownX fBool 4 p13 c14 a12),.ext (optX o_stab_Table p61 cs62 y63),.ext (optX o_order_Log p64 cs65 y66),.ext (optX o_coord_Table p67 cs68 y69),.ext (arrX o_inbox_Box p28 cs70 a27),.ext (objX p34 (.map m35 c36)),.ext (objX p41 (.map m42 c43)),.ext (optX o_gate_move p77 cs78 y79)] [Ro.mp fStr.ty p7 c8 a6.Cuts,Ro.mp (fInt .i64).ty p9 c10 a6.Nodes,ml p28 4,ml a30 4,ml a31 4,Map.mp (kInt .u64) true t_gate_call p34 m35 c36 a33,Ro.mp t_gate_call p38 c39 a37,Map.mp (kInt .u64) true t_gate_load p41 m42 c43 a40,Ro.mp (fInt .u64).ty p50 c51 a49,Ro.mp t_api_Mail p75 c76 y74]∧M.gate_Gate_work_k2 N a1 a3 a4 a6 a12 a16 a26 a27 a30 a31 a33 a37 a40 a44 a49 a52 a53 a54 a55 y63 y66 y69 y74 y79=some r) ?_ ?_
 refine wpIn_seq_k fun K82 hK82=>?_
 refine bind_split H (fun v87 hv87 H=>?_)
 refine code_join (fun a w => ∃(κ:Gh) (p83:Option Nat) (cs84:List Nat),Fr (84) [] [(0,pt b60 0),(33,vb v87.2)] a∧SS Ms κ0 w0 κ w [.box b60 87 [si a1,(1,cs2),si a3,si a4,(2,cs5),sl p7 (a6.Cuts).length c8,sl p9 (a6.Nodes).length c10,(1,cs11),sl p13 (a12).length c14,(1,cs15),sb a16,(1,[.pointer (pa p61)]),(1,[.pointer (pa p64)]),(1,[.pointer (pa p67)]),su a26,(4,(encs fPtr p28)),ei 4 a30,ei 4 a31,(1,cs32),(1,[.map p34]),sl p38 (a37).length c39,(1,[.map p41]),su a44,(1,[.pointer (pa p83)]),(3,cs48),sl p50 (a49).length c51,su a52,sb a53,sb a54,sb a55,sl p75 (y74).length c76,(1,cs59)],.tok p75 61 15 (y74).length c76,.ext (ownX fBool 4 p13 c14 a12),.ext (optX o_stab_Table p61 cs62 y63),.ext (optX o_order_Log p64 cs65 y66),.ext (optX o_coord_Table p67 cs68 y69),.ext (arrX o_inbox_Box p28 cs70 a27),.ext (objX p34 (.map m35 c36)),.ext (objX p41 (.map m42 c43)),.ext (optX o_gate_move p83 cs84 v87.1)] [Ro.mp fStr.ty p7 c8 a6.Cuts,Ro.mp (fInt .i64).ty p9 c10 a6.Nodes,ml p28 4,ml a30 4,ml a31 4,Map.mp (kInt .u64) true t_gate_call p34 m35 c36 a33,Ro.mp t_gate_call p38 c39 a37,Map.mp (kInt .u64) true t_gate_load p41 m42 c43 a40,Ro.mp (fInt .u64).ty p50 c51 a49,Ro.mp t_api_Mail p75 c76 y74]∧True) ?_ ?_
 refine opt_split hv87 (fun ho hv87=>?_) (fun x88 ho hv87=>?_)
 obtain ⟨hpq,hS⟩:=hS.optN 9 rfl ho
 rw [hpq] at hS
 try rw [hpq] at hF
 refine wpIn_region_lit ?_
 refine bind_split hv87 (fun v92 hv92 hv87=>?_)
 refine wl_join (fun a w => ∃κ:Gh,Fr (84) [] [(0,pt b60 0),(33,vb v92)] a∧SS Ms κ0 w0 κ w [.box b60 87 [si a1,(1,cs2),si a3,si a4,(2,cs5),sl p7 (a6.Cuts).length c8,sl p9 (a6.Nodes).length c10,(1,cs11),sl p13 (a12).length c14,(1,cs15),sb a16,(1,[.pointer (pa p61)]),(1,[.pointer (pa p64)]),(1,[.pointer (pa p67)]),su a26,(4,(encs fPtr p28)),ei 4 a30,ei 4 a31,(1,cs32),(1,[.map p34]),sl p38 (a37).length c39,(1,[.map p41]),su a44,(1,[.pointer none]),(3,cs48),sl p50 (a49).length c51,su a52,sb a53,sb a54,sb a55,sl p75 (y74).length c76,(1,cs59)],.tok p75 61 15 (y74).length c76,.ext (ownX fBool 4 p13 c14 a12),.ext (optX o_stab_Table p61 cs62 y63),.ext (optX o_order_Log p64 cs65 y66),.ext (optX o_coord_Table p67 cs68 y69),.ext (arrX o_inbox_Box p28 cs70 a27),.ext (objX p34 (.map m35 c36)),.ext (objX p41 (.map m42 c43))] [Ro.mp fStr.ty p7 c8 a6.Cuts,Ro.mp (fInt .i64).ty p9 c10 a6.Nodes,ml p28 4,ml a30 4,ml a31 4,Map.mp (kInt .u64) true t_gate_call p34 m35 c36 a33,Ro.mp t_gate_call p38 c39 a37,Map.mp (kInt .u64) true t_gate_load p41 m42 c43 a40,Ro.mp (fInt .u64).ty p50 c51 a49,Ro.mp t_api_Mail p75 c76 y74]∧True) ?_ ?_
 refine wp 3 [0,17] hF fun a hF=>?_
 refine wc (wld hF hS 0 10 0 fun a hF=>?_)
 refine wp 1 [0,19] hF fun a hF=>?_
 refine bif_split hv92 (fun hb hv92=>?_) (fun hb hv92=>?_)
 have hF:=hF.boolv 19 (by kernel_rfl) hb
 refine wp 3 [0,19,22] hF fun a hF=>?_
 refine wcg hF (wld hF hS 0 23 0 fun a hF=>?_)
 refine wp 6 [0,26,29] hF fun a hF=>?_
 refine wcg hF (wld hF hS 0 8 0 fun a hF=>?_)
 refine bind_split hv92 (fun x93 hx93 hv92=>?_)
 refine wcg hF (wcS 1 [2,0,1,3,4,5,6,7,8,9] hF hS (fun hS=>C_slices_Contains___bool_bool__own0 N a12 false p13 c14 (hS.sbK []) hx93) ?_)
 rintro _ κ w a ⟨rfl,h2⟩ hF hB
 have hS:=hB _ _ h2
 refine wp 2 [0,33] hF fun a hF=>?_
 refine wpListIn_nil ?_
 cases hv92
 exact ⟨_,hF.kp [0,33],hS.sp [1,2,0,3,4,5,6,7,8] (rg 10),trivial⟩
 have hF:=hF.boolv 19 (by kernel_rfl) hb
 refine wp 14 [0,33] hF fun a hF=>?_
 refine wpListIn_nil ?_
 cases hv92
 exact ⟨_,hF.kp [0,33],hS.sp (rg 9) (rg 10),trivial⟩
 rintro a w ⟨κ,hF,hS,-⟩
 cases hv87
 have hS:=hS.addOpt o_gate_move
 exact ⟨_,none,[],hF.kp [0,33],hS.sp [1,2,3,4,5,6,7,8,9,0] (rg 10),trivial⟩
 obtain ⟨b89,hpq,hS⟩:=hS.optS 9 rfl ho
 rw [hpq] at hS
 try rw [hpq] at hF
 refine wpIn_region_lit ?_
 refine bind_split hv87 (fun v90 hv90 hv87=>?_)
 refine wl_join (fun a w => ∃κ:Gh,Fr (84) [] [(0,pt b60 0),(33,vb false)] a∧SS Ms κ0 w0 κ w [.box b60 87 [si a1,(1,cs2),si a3,si a4,(2,cs5),sl p7 (a6.Cuts).length c8,sl p9 (a6.Nodes).length c10,(1,cs11),sl p13 (a12).length c14,(1,cs15),sb a16,(1,[.pointer (pa p61)]),(1,[.pointer (pa p64)]),(1,[.pointer (pa p67)]),su a26,(4,(encs fPtr p28)),ei 4 a30,ei 4 a31,(1,cs32),(1,[.map p34]),sl p38 (a37).length c39,(1,[.map p41]),su a44,(1,[pt b89 0]),(3,cs48),sl p50 (a49).length c51,su a52,sb a53,sb a54,sb a55,sl p75 (y74).length c76,(1,cs59)],.tok p75 61 15 (y74).length c76,.ext (ownX fBool 4 p13 c14 a12),.ext (optX o_stab_Table p61 cs62 y63),.ext (optX o_order_Log p64 cs65 y66),.ext (optX o_coord_Table p67 cs68 y69),.ext (arrX o_inbox_Box p28 cs70 a27),.ext (objX p34 (.map m35 c36)),.ext (objX p41 (.map m42 c43)),.ext (optX o_gate_move (some b89) cs72 (some x88))] [Ro.mp fStr.ty p7 c8 a6.Cuts,Ro.mp (fInt .i64).ty p9 c10 a6.Nodes,ml p28 4,ml a30 4,ml a31 4,Map.mp (kInt .u64) true t_gate_call p34 m35 c36 a33,Ro.mp t_gate_call p38 c39 a37,Map.mp (kInt .u64) true t_gate_load p41 m42 c43 a40,Ro.mp (fInt .u64).ty p50 c51 a49,Ro.mp t_api_Mail p75 c76 y74]∧True) ?_ ?_
 refine wp 3 [0,17] hF fun a hF=>?_
 refine wc (wld hF hS 0 10 0 fun a hF=>?_)
 refine wp 1 [0,19] hF fun a hF=>?_
 refine bif_split hv90 (fun hb hv90=>?_) (fun hb hv90=>?_)
 have hF:=hF.boolv 19 (by kernel_rfl) hb
 refine wp 3 [0,19,22] hF fun a hF=>?_
 refine wcg hF (wld hF hS 0 23 0 fun a hF=>?_)
 refine wp 10 [0,33] hF fun a hF=>?_
 refine wpListIn_nil ?_
 cases hv90
 exact ⟨_,hF.kp [0,33],hS.sp (rg 10) (rg 10),trivial⟩
 have hF:=hF.boolv 19 (by kernel_rfl) hb
 refine wp 14 [0,33] hF fun a hF=>?_
 refine wpListIn_nil ?_
 cases hv90
 exact ⟨_,hF.kp [0,33],hS.sp (rg 10) (rg 10),trivial⟩
 rintro a w ⟨κ,hF,hS,-⟩
 cases hv87
 exact ⟨_,(some b89),cs72,hF.kp [0,33],hS.sp (rg 10) (rg 10),trivial⟩
 rintro a w ⟨κ,p83,cs84,hF,hS,-⟩
 refine hK82 _ _ ?_
 refine bif_split H (fun hb H=>?_) (fun hb H=>?_)
 refine cond_t hF (by kernel_rfl) hb ?_
 refine wpIn_seq_k fun K94 hK94=>?_
 cases H
 refine cond_f hF (by kernel_rfl) hb ?_
 refine wpIn_skip ?_
 exact ⟨_,p83,cs84,v87.1,hF.kp [0],hS.sp (rg 10) (rg 10),H⟩
 rintro a w ⟨κ,p77,cs78,y79,hF,hS,H⟩
 unfold M.gate_Gate_work_k2 at H
 refine wpIn_seq_k fun K80 hK80=>?_
 refine wpIn_region_lit ?_
 refine bind_split H (fun v81 hv81 H=>?_)
 refine wl_join (fun a w => ∃κ:Gh,Fr (84) [] [(0,pt b60 0),(72,vb false)] a∧SS Ms κ0 w0 κ w [.box b60 87 [si a1,(1,cs2),si a3,si a4,(2,cs5),sl p7 (a6.Cuts).length c8,sl p9 (a6.Nodes).length c10,(1,cs11),sl p13 (a12).length c14,(1,cs15),sb a16,(1,[.pointer (pa p61)]),(1,[.pointer (pa p64)]),(1,[.pointer (pa p67)]),su a26,(4,(encs fPtr p28)),ei 4 a30,ei 4 a31,(1,cs32),(1,[.map p34]),sl p38 (a37).length c39,(1,[.map p41]),su a44,(1,[.pointer (pa p77)]),(3,cs48),sl p50 (a49).length c51,su a52,sb a53,sb a54,sb a55,sl p75 (y74).length c76,(1,cs59)],.tok p75 61 15 (y74).length c76,.ext (ownX fBool 4 p13 c14 a12),.ext (optX o_stab_Table p61 cs62 y63),.ext (optX o_order_Log p64 cs65 y66),.ext (optX o_coord_Table p67 cs68 y69),.ext (arrX o_inbox_Box p28 cs70 a27),.ext (objX p34 (.map m35 c36)),.ext (objX p41 (.map m42 c43)),.ext (optX o_gate_move p77 cs78 y79)] [Ro.mp fStr.ty p7 c8 a6.Cuts,Ro.mp (fInt .i64).ty p9 c10 a6.Nodes,ml p28 4,ml a30 4,ml a31 4,Map.mp (kInt .u64) true t_gate_call p34 m35 c36 a33,Ro.mp t_gate_call p38 c39 a37,Map.mp (kInt .u64) true t_gate_load p41 m42 c43 a40,Ro.mp (fInt .u64).ty p50 c51 a49,Ro.mp t_api_Mail p75 c76 y74]∧True) ?_ ?_
 refine wp 3 [0,52] hF fun a hF=>?_
 refine wc (wld hF hS 0 2 0 fun a hF=>?_)
 refine wp 2 [0,55] hF fun a hF=>?_
 refine bif_split hv81 (fun hb hv81=>?_) (fun hb hv81=>?_)
 have hF:=hF.boolv 55 (by kernel_rfl) hb
 refine wp 3 [0,55,58] hF fun a hF=>?_
 refine wcg hF (wld hF hS 0 10 0 fun a hF=>?_)
 refine wp 3 [0,62] hF fun a hF=>?_
 refine bif_split hv81 (fun hb hv81=>?_) (fun hb hv81=>?_)
 have hF:=hF.boolv 62 (by kernel_rfl) hb
 refine wp 3 [0,62,65] hF fun a hF=>?_
 refine wcg hF (wld hF hS 0 29 0 fun a hF=>?_)
 refine wp 3 [0,69] hF fun a hF=>?_
 refine bif_split hv81 (fun hb hv81=>?_) (fun hb hv81=>?_)
 have hF:=hF.boolv 69 (by kernel_rfl) hb
 refine wp 1 [0,69,70] hF fun a hF=>?_
 cases hv81
 have hF:=hF.boolv 69 (by kernel_rfl) hb
 refine wp 3 [0,72] hF fun a hF=>?_
 refine wpListIn_nil ?_
 cases hv81
 exact ⟨_,hF.kp [0,72],hS.sp (rg 10) (rg 10),trivial⟩
 have hF:=hF.boolv 62 (by kernel_rfl) hb
 refine wp 10 [0,72] hF fun a hF=>?_
 refine wpListIn_nil ?_
 cases hv81
 exact ⟨_,hF.kp [0,72],hS.sp (rg 10) (rg 10),trivial⟩
 have hF:=hF.boolv 55 (by kernel_rfl) hb
 refine wp 17 [0,72] hF fun a hF=>?_
 refine wpListIn_nil ?_
 cases hv81
 exact ⟨_,hF.kp [0,72],hS.sp (rg 10) (rg 10),trivial⟩
 rintro a w ⟨κ,hF,hS,-⟩
 refine hK80 _ _ ?_
 refine cond_f hF (by kernel_rfl) rfl ?_
 refine wpIn_skip ?_
 cases H
 exact ret_done hF hS (res0 Tryz.results34) ⟨p61,cs62,p64,cs65,p67,cs68,p77,cs78,p75,c76,cs70,rfl,hS.sp (rg 10) [9]⟩
end Go.Cf
