/- The walks: each function returns what its model says. Printed by a program of ours. -/
import Derived.Test.YtcplebnnanjngaaGreatZM1
import Derived.Test.YtcplebnnanjngaaGreatZWhp
namespace Go.Cf
open Go Go.Proofs
set_option linter.unusedVariables false
set_option maxRecDepth 20000 in
set_option maxHeartbeats 8000000 in
theorem C_gate_Gate_mail (N:Nat){Ms:List Nat}{κ0:Gh}{w0:World}(a2:(List T_api_Mail))(a7:Int)(a8:T_api_Msg)(cs1:List Value)(p3:Option Addr)(c4:Nat)(cs5:List Value)(p9:Option Addr)(c10:Nat)(p11:Option Addr)(c12:Nat)(b6:Nat)(hB:SB Ms κ0 w0 [.box b6 87 [(42,cs1),sl p3 (a2).length c4,(1,cs5)],.tok p3 61 15 (a2).length c4] [Ro.mp t_api_Mail p3 c4 a2,Ro.mp f_api_Ver.ty p9 c10 a8.Vers,Ro.mp (fInt .u64).ty p11 c12 a8.Vec]){r:((List T_api_Mail))}(H:M.gate_Gate_mail N a2 a7 a8=some r) :
    Calls Tryz.prog 81 #[pt b6 0,vi a7,.agg (flat [si a8.Kind,su a8.Id,su a8.N,su a8.TS,sg a8.Lo,sg a8.Hi,sl p9 (a8.Vers).length c10,sl p11 (a8.Vec).length c12,si a8.Cmd.Kind,si a8.Cmd.DC,si a8.Cmd.Shard,si a8.Cmd.Node,si a8.Cmd.Mode,sg a8.Cmd.Key]).toArray] w0 (Post Ms κ0 w0 fun v κ w => ∃(p19:Option Addr) (c20:Nat),v = .tuple #[]∧SS Ms κ0 w0 κ w [.box b6 87 [(42,cs1),sl p19 (r).length c20,(1,cs5)],.tok p19 61 15 (r).length c20] [Ro.mp t_api_Mail p19 c20 r]):=by
 have hS:=hB.hS
 have hfr:=hS.fresh
 refine enter (N:=(18)) (L:=[(0,pt b6 0),(1,vi a7),(2,.agg (flat [si a8.Kind,su a8.Id,su a8.N,su a8.TS,sg a8.Lo,sg a8.Hi,sl p9 (a8.Vers).length c10,sl p11 (a8.Vec).length c12,si a8.Cmd.Kind,si a8.Cmd.DC,si a8.Cmd.Shard,si a8.Cmd.Node,si a8.Cmd.Mode,sg a8.Cmd.Key]).toArray)]) Tryz.func81 rfl Tryz.ntmps81 (show 3≤(18) by decide) rfl fun a hF=>?_
 unfold M.gate_Gate_mail at H
 refine wpIn_seq_k fun K13 hK13=>?_
 refine wpIn_region_lit ?_
 refine wc (wbx hF hS [si a8.Kind,su a8.Id,su a8.N,su a8.TS,sg a8.Lo,sg a8.Hi,sl p9 (a8.Vers).length c10,sl p11 (a8.Vec).length c12,si a8.Cmd.Kind,si a8.Cmd.DC,si a8.Cmd.Shard,si a8.Cmd.Node,si a8.Cmd.Mode,sg a8.Cmd.Key] (sgN 14 sgNil) fun b14 a w hF hS=>?_)
 refine wpListIn_nil ?_
 refine hK13 _ _ ?_
 refine rgS hS [12] ?_
 have hS:=hS.drew
 refine bind_split H (fun x16 hx16 H=>?_)
 refine anp [0,1,2,3,5] [5,6,9,11] hF (hS.sx [0,1] [0,1,2]) fun a hF=>?_
 refine atk 4 (some 10) hF (hS.sx [0,1] [0,1,2]) rfl (vld 1 1 0) fun a hF=>?_
 refine atk 6 (some 12) hF (hS.sx [0,1] [0,1,2]) rfl (vls 0 0 14) fun a hF=>?_
 refine any_pure [7] [6,10,13] (L':=[(6,pt b6 0),(10,.slice p3 (a2).length c4),(13,.agg (flat [si a7,si a8.Kind,su a8.Id,su a8.N,su a8.TS,sg a8.Lo,sg a8.Hi,sl p9 (a8.Vers).length c10,sl p11 (a8.Vec).length c12,si a8.Cmd.Kind,si a8.Cmd.DC,si a8.Cmd.Shard,si a8.Cmd.Node,si a8.Cmd.Mode,sg a8.Cmd.Key]).toArray)]) (listed':=(bitA 13 255)) (fuel:=5) hF (hS.sx [0,1] [0,1,2]) (by kernel_rfl) (by intro c a w t v h; cases t<;>exact h) (by kernel_rfl) rfl fun a hF=>?_
 refine ago 8 hF rfl ?_
 refine wo_build1 (t:=t_api_Mail) (y:=(T_api_Mail.mk a7 (T_api_Msg.mk a8.Kind a8.Id a8.N a8.TS a8.Lo a8.Hi a8.Vers a8.Vec (T_api_Cmd.mk a8.Cmd.Kind a8.Cmd.DC a8.Cmd.Shard a8.Cmd.Node a8.Cmd.Mode a8.Cmd.Key)))) (v := .agg (flat [si a7,si a8.Kind,su a8.Id,su a8.N,su a8.TS,sg a8.Lo,sg a8.Hi,sl p9 (a8.Vers).length c10,sl p11 (a8.Vec).length c12,si a8.Cmd.Kind,si a8.Cmd.DC,si a8.Cmd.Shard,si a8.Cmd.Node,si a8.Cmd.Mode,sg a8.Cmd.Key]).toArray) (z := .agg (flat [si 0,si 0,su 0,su 0,su 0,sg ByteArray.empty,sg ByteArray.empty,sl none 0 0,sl none 0 0,si 0,si 0,si 0,si 0,si 0,sg ByteArray.empty]).toArray) (cells:=(flat [si a7,si a8.Kind,su a8.Id,su a8.N,su a8.TS,sg a8.Lo,sg a8.Hi,sl p9 (a8.Vers).length c10,sl p11 (a8.Vec).length c12,si a8.Cmd.Kind,si a8.Cmd.DC,si a8.Cmd.Shard,si a8.Cmd.Node,si a8.Cmd.Mode,sg a8.Cmd.Key]).toArray) (E:=61) hF hS (by kernel_rfl) rfl (by kernel_rfl) ⟨(p9,c10,p11,c12),rfl,(hS.pick [1,2] (by kernel_rfl)).ro⟩ (by kernel_rfl) (by kernel_rfl) (by kernel_rfl) (by kernel_rfl) (by kernel_rfl) fun p15 κ a w hF hS=>?_
 refine ⟨fun _=>(hS.sx [1,2] [1,2,3]),?_⟩
 refine ago 9 hF rfl ?_
 refine wo_append (ty:=t_api_Mail) hF hS (by kernel_rfl) 3 1 0 rfl rfl rfl (by kernel_rfl) (by kernel_rfl) rfl rfl rfl hx16 (by kernel_rfl) (i:=Tryz.t61) (z := .agg (flat [si 0,si 0,su 0,su 0,su 0,sg ByteArray.empty,sg ByteArray.empty,sl none 0 0,sl none 0 0,si 0,si 0,si 0,si 0,si 0,sg ByteArray.empty]).toArray) (by kernel_rfl) (by kernel_rfl) (by kernel_rfl) fun p17 c18 κ a w hF hS=>?_
 refine ⟨fun _=>(hS.sx [1,2] [2,3,4]),?_⟩
 refine anp [10,11] [15,17] hF (hS.sx [1,2] [2,3,4]) fun a hF=>?_
 refine ago 12 hF rfl ?_
 refine wst hF hS 2 1 1 [sl p17 (x16).length c18] (sgN 1 sgNil) fun a w hF hS=>?_
 refine ⟨notE,?_⟩
 refine and_ ?_
 cases H
 exact ret_done hF hS (res0 Tryz.results81) ⟨p17,c18,rfl,hS.sp [2,3] [0]⟩
set_option maxRecDepth 20000 in
set_option maxHeartbeats 8000000 in
theorem C_gate_Gate_tell (N:Nat){Ms:List Nat}{κ0:Gh}{w0:World}(a1:Int)(a3:(List T_api_Mail))(a8:Int)(a9:T_api_Msg)(cs2:List Value)(p4:Option Addr)(c5:Nat)(cs6:List Value)(p10:Option Addr)(c11:Nat)(p12:Option Addr)(c13:Nat)(b7:Nat)(hB:SB Ms κ0 w0 [.box b7 87 [si a1,(41,cs2),sl p4 (a3).length c5,(1,cs6)],.tok p4 61 15 (a3).length c5] [Ro.mp t_api_Mail p4 c5 a3,Ro.mp f_api_Ver.ty p10 c11 a9.Vers,Ro.mp (fInt .u64).ty p12 c13 a9.Vec]){r:((List T_api_Mail))}(H:M.gate_Gate_tell N a1 a3 a8 a9=some r) :
    Calls Tryz.prog 54 #[pt b7 0,vi a8,.agg (flat [si a9.Kind,su a9.Id,su a9.N,su a9.TS,sg a9.Lo,sg a9.Hi,sl p10 (a9.Vers).length c11,sl p12 (a9.Vec).length c13,si a9.Cmd.Kind,si a9.Cmd.DC,si a9.Cmd.Shard,si a9.Cmd.Node,si a9.Cmd.Mode,sg a9.Cmd.Key]).toArray] w0 (Post Ms κ0 w0 fun v κ w => ∃(p20:Option Addr) (c21:Nat),v = .tuple #[]∧SS Ms κ0 w0 κ w [.box b7 87 [si a1,(41,cs2),sl p20 (r).length c21,(1,cs6)],.tok p20 61 15 (r).length c21] [Ro.mp t_api_Mail p20 c21 r]):=by
 have hS:=hB.hS
 have hfr:=hS.fresh
 refine enter (N:=(15)) (L:=[(0,pt b7 0),(1,vi a8),(2,.agg (flat [si a9.Kind,su a9.Id,su a9.N,su a9.TS,sg a9.Lo,sg a9.Hi,sl p10 (a9.Vers).length c11,sl p12 (a9.Vec).length c13,si a9.Cmd.Kind,si a9.Cmd.DC,si a9.Cmd.Shard,si a9.Cmd.Node,si a9.Cmd.Mode,sg a9.Cmd.Key]).toArray)]) Tryz.func54 rfl Tryz.ntmps54 (show 3≤(15) by decide) rfl fun a hF=>?_
 unfold M.gate_Gate_tell at H
 refine wpIn_seq_k fun K14 hK14=>?_
 refine wpIn_region_lit ?_
 refine wc (wbx hF hS [si a9.Kind,su a9.Id,su a9.N,su a9.TS,sg a9.Lo,sg a9.Hi,sl p10 (a9.Vers).length c11,sl p12 (a9.Vec).length c13,si a9.Cmd.Kind,si a9.Cmd.DC,si a9.Cmd.Shard,si a9.Cmd.Node,si a9.Cmd.Mode,sg a9.Cmd.Key] (sgN 14 sgNil) fun b15 a w hF hS=>?_)
 refine wpListIn_nil ?_
 refine hK14 _ _ ?_
 refine rga (fun _=>True) [] ?_
 have hS:=hS.drew
 refine anp [0,1,2,3,5] [5,6,9,11] hF trivial fun a hF=>?_
 refine any_weakS hS [8] ?_
 refine atk 4 (some 10) hF (hS.sx [0,1] [0,1,2]) rfl (vld 1 0 0) fun a hF=>?_
 refine atk 7 (some 13) hF (hS.sx [0,1] [0,1,2]) rfl (vls 0 0 14) fun a hF=>?_
 refine ago 6 hF rfl ?_
 refine bind_split H (fun x16 hx16 H=>?_)
 refine wo_callP hF hS (by kernel_rfl) (by kernel_rfl) (C_api_Place N hS.fresh a1 a8 ((hS.pick [] (by kernel_rfl)).ro) hx16) ?_
 rintro _ κ w a ⟨rfl,hR,hN⟩ hF hS hO
 refine ⟨fun _=>(hS.sx [0,1] [0,1,2]),?_⟩
 refine ago 8 hF rfl ?_
 refine bind_split H (fun x17 hx17 H=>?_)
 have hgx170:=hS.segs 1 rfl
 refine wcS 2 [1,2,0] hF hS (fun hS=>C_gate_Gate_mail N a3 x16 (T_api_Msg.mk a9.Kind a9.Id a9.N a9.TS a9.Lo a9.Hi a9.Vers a9.Vec (T_api_Cmd.mk a9.Cmd.Kind a9.Cmd.DC a9.Cmd.Shard a9.Cmd.Node a9.Cmd.Mode a9.Cmd.Key)) (flat [si a1,(41,cs2)]) p4 c5 cs6 p10 c11 p12 c13 b7 ((hS.regr 0 [(true,2),(false,2)] rfl).sbK [0,1,2]) hx17) ?_
 rintro _ κ w a ⟨p18,c19,rfl,h2⟩ hF hB
 have hS:=(hB _ _ h2).unregrK 0 [(true,2),(false,2)] (s':=[si a1,(41,cs2),sl p18 (x17).length c19,(1,cs6)]) hgx170 rfl
 refine ⟨notE,?_⟩
 refine and_ ?_
 cases H
 exact ret_done hF hS (res0 Tryz.results54) ⟨p18,c19,rfl,hS.sp [0,1] [0]⟩
set_option maxRecDepth 20000 in
set_option maxHeartbeats 8000000 in
theorem C_gate_Gate_Sent (N:Nat){Ms:List Nat}{κ0:Gh}{w0:World}(a2:(List T_api_Mail))(cs1:List Value)(p3:Option Addr)(c4:Nat)(cs5:List Value)(b6:Nat)(hB:SB Ms κ0 w0 [.box b6 87 [(42,cs1),sl p3 (a2).length c4,(1,cs5)],.tok p3 61 15 (a2).length c4] [Ro.mp t_api_Mail p3 c4 a2]){r:((List T_api_Mail)×(List T_api_Mail))}(H:M.gate_Gate_Sent N a2=some r) :
    Calls Tryz.prog 16 #[pt b6 0] w0 (Post Ms κ0 w0 fun v κ w => ∃(p13:Option Addr) (c14:Nat) (p15:Option Addr) (c16:Nat),v = .slice p13 (r.1).length c14∧SS Ms κ0 w0 κ w [.box b6 87 [(42,cs1),sl p15 (r.2).length c16,(1,cs5)],.tok p15 61 15 (r.2).length c16,.tok p13 61 15 (r.1).length c14] [Ro.mp t_api_Mail p13 c14 r.1,Ro.mp t_api_Mail p15 c16 r.2]):=by
 have hS:=hB.hS
 have hfr:=hS.fresh
 refine enter (N:=(14)) (L:=[(0,pt b6 0)]) Tryz.func16 rfl Tryz.ntmps16 (show 1≤(14) by decide) rfl fun a hF=>?_
 unfold M.gate_Gate_Sent at H
 refine wpIn_seq_k fun K7 hK7=>?_
 refine wpIn_region_lit ?_
 refine wp 1 [0] hF fun a hF=>?_
 refine wpListIn_nil ?_
 refine hK7 _ _ ?_
 refine wpIn_seq_k fun K8 hK8=>?_
 refine wpIn_seq_k fun K9 hK9=>?_
 refine wpIn_region_lit ?_
 refine wp 2 [0,5] hF fun a hF=>?_
 refine wpListIn_nil ?_
 refine hK9 _ _ ?_
 refine cond_f hF (by kernel_rfl) rfl ?_
 refine wpIn_skip ?_
 refine hK8 _ _ ?_
 refine wpIn_seq_k fun K10 hK10=>?_
 refine wpIn_region_lit ?_
 refine wp 3 [0,8] hF fun a hF=>?_
 refine wc (wld hF hS 0 1 0 fun a hF=>?_)
 refine wp 1 [0,3] hF fun a hF=>?_
 refine wpListIn_nil ?_
 refine hK10 _ _ ?_
 refine wpIn_seq_k fun K11 hK11=>?_
 refine wpIn_region_lit ?_
 refine wp 3 [3,12] hF fun a hF=>?_
 refine wc (wst hF hS 0 1 1 [sl none 0 0] (sgN 1 sgNil) fun a w hF hS=>?_)
 refine wpListIn_nil ?_
 refine hK11 _ _ ?_
 refine wpIn_seq_k fun K12 hK12=>?_
 refine wpIn_region_lit ?_
 refine wp 2 [2] hF fun a hF=>?_
 refine wpListIn_nil ?_
 refine hK12 _ _ ?_
 refine wpIn_ret ?_
 have hS:=hS.add (m:=Ro.mp t_api_Mail none 0 ([]:List T_api_Mail)) (Ro.nil t_api_Mail _ _)
 have hS:=hS.addNil 61 15
 cases H
 exact ret_done hF hS (res1 Tryz.results16 (rvt hF)) ⟨p3,c4,none,0,rfl,hS.sp [1,0,2] [1,0]⟩
set_option maxRecDepth 20000 in
set_option maxHeartbeats 8000000 in
theorem C_gate_Gate_Replies (N:Nat){Ms:List Nat}{κ0:Gh}{w0:World}(a2:(List T_gate_Reply))(cs1:List Value)(p3:Option Addr)(c4:Nat)(b5:Nat)(hB:SB Ms κ0 w0 [.box b5 87 [(43,cs1),sl p3 (a2).length c4],.tok p3 52 13 (a2).length c4] [Ro.mp f_gate_Reply.ty p3 c4 a2]){r:((List T_gate_Reply)×(List T_gate_Reply))}(H:M.gate_Gate_Replies N a2=some r) :
    Calls Tryz.prog 13 #[pt b5 0] w0 (Post Ms κ0 w0 fun v κ w => ∃(p12:Option Addr) (c13:Nat) (p14:Option Addr) (c15:Nat),v = .slice p12 (r.1).length c13∧SS Ms κ0 w0 κ w [.box b5 87 [(43,cs1),sl p14 (r.2).length c15],.tok p14 52 13 (r.2).length c15,.tok p12 52 13 (r.1).length c13] [Ro.mp f_gate_Reply.ty p12 c13 r.1,Ro.mp f_gate_Reply.ty p14 c15 r.2]):=by
 have hS:=hB.hS
 have hfr:=hS.fresh
 refine enter (N:=(14)) (L:=[(0,pt b5 0)]) Tryz.func13 rfl Tryz.ntmps13 (show 1≤(14) by decide) rfl fun a hF=>?_
 unfold M.gate_Gate_Replies at H
 refine wpIn_seq_k fun K6 hK6=>?_
 refine wpIn_region_lit ?_
 refine wp 1 [0] hF fun a hF=>?_
 refine wpListIn_nil ?_
 refine hK6 _ _ ?_
 refine wpIn_seq_k fun K7 hK7=>?_
 refine wpIn_seq_k fun K8 hK8=>?_
 refine wpIn_region_lit ?_
 refine wp 2 [0,5] hF fun a hF=>?_
 refine wpListIn_nil ?_
 refine hK8 _ _ ?_
 refine cond_f hF (by kernel_rfl) rfl ?_
 refine wpIn_skip ?_
 refine hK7 _ _ ?_
 refine wpIn_seq_k fun K9 hK9=>?_
 refine wpIn_region_lit ?_
 refine wp 3 [0,8] hF fun a hF=>?_
 refine wc (wld hF hS 0 1 0 fun a hF=>?_)
 refine wp 1 [0,3] hF fun a hF=>?_
 refine wpListIn_nil ?_
 refine hK9 _ _ ?_
 refine wpIn_seq_k fun K10 hK10=>?_
 refine wpIn_region_lit ?_
 refine wp 3 [3,12] hF fun a hF=>?_
 refine wc (wst hF hS 0 1 1 [sl none 0 0] (sgN 1 sgNil) fun a w hF hS=>?_)
 refine wpListIn_nil ?_
 refine hK10 _ _ ?_
 refine wpIn_seq_k fun K11 hK11=>?_
 refine wpIn_region_lit ?_
 refine wp 2 [2] hF fun a hF=>?_
 refine wpListIn_nil ?_
 refine hK11 _ _ ?_
 refine wpIn_ret ?_
 have hS:=hS.add (m:=Ro.mp f_gate_Reply.ty none 0 ([]:List T_gate_Reply)) (Ro.nil f_gate_Reply.ty _ _)
 have hS:=hS.addNil 52 13
 cases H
 exact ret_done hF hS (res1 Tryz.results13 (rvt hF)) ⟨p3,c4,none,0,rfl,hS.sp [1,0,2] [1,0]⟩
set_option maxRecDepth 20000 in
set_option maxHeartbeats 8000000 in
theorem C_gate_Gate_turn (N:Nat){Ms:List Nat}{κ0:Gh}{w0:World}(a2:T_api_Map)(a9:T_api_Map)(a14:Int)(cs1:List Value)(p3:Option Addr)(c4:Nat)(p5:Option Addr)(c6:Nat)(cs7:List Value)(p10:Option Addr)(c11:Nat)(p12:Option Addr)(c13:Nat)(b8:Nat)(hB:SB Ms κ0 w0 [.box b8 87 [(6,cs1),sl p3 (a2.Cuts).length c4,sl p5 (a2.Nodes).length c6,(36,cs7)]] [Ro.mp fStr.ty p3 c4 a2.Cuts,Ro.mp (fInt .i64).ty p5 c6 a2.Nodes,Ro.mp fStr.ty p10 c11 a9.Cuts,Ro.mp (fInt .i64).ty p12 c13 a9.Nodes]){r:(T_api_Map)}(H:M.gate_Gate_turn N a2 a9 a14=some r) :
    Calls Tryz.prog 59 #[pt b8 0,.agg (flat [sl p10 (a9.Cuts).length c11,sl p12 (a9.Nodes).length c13]).toArray,vi a14] w0 (Post Ms κ0 w0 fun v κ w => ∃(p18:Option Addr) (c19:Nat) (p20:Option Addr) (c21:Nat),v = .tuple #[]∧SS Ms κ0 w0 κ w [.box b8 87 [(6,cs1),sl p18 (r.Cuts).length c19,sl p20 (r.Nodes).length c21,(36,cs7)]] [Ro.mp fStr.ty p18 c19 r.Cuts,Ro.mp (fInt .i64).ty p20 c21 r.Nodes]):=by
 have hS:=hB.hS
 have hfr:=hS.fresh
 refine enter (N:=(12)) (L:=[(0,pt b8 0),(1,.agg (flat [sl p10 (a9.Cuts).length c11,sl p12 (a9.Nodes).length c13]).toArray),(2,vi a14)]) Tryz.func59 rfl Tryz.ntmps59 (show 3≤(12) by decide) rfl fun a hF=>?_
 unfold M.gate_Gate_turn at H
 refine wpIn_seq_k fun K15 hK15=>?_
 refine wpIn_region_lit ?_
 refine wc (wbx hF hS [sl p10 (a9.Cuts).length c11,sl p12 (a9.Nodes).length c13] (sgN 2 sgNil) fun b16 a w hF hS=>?_)
 refine wpListIn_nil ?_
 refine hK15 _ _ ?_
 refine wpIn_seq_k fun K17 hK17=>?_
 refine wpIn_region_lit ?_
 refine wp 2 [0,4,7] hF fun a hF=>?_
 refine wpListIn_nil ?_
 refine hK17 _ _ ?_
 refine bif_split H (fun hb H=>?_) (fun hb H=>?_)
 refine cond_t hF (by kernel_rfl) hb ?_
 refine wpIn_region_lit ?_
 refine wp 1 [4,8] hF fun a hF=>?_
 refine wc (wls hF hS 0 0 2 fun a hF=>?_)
 refine wp 2 [9,11] hF fun a hF=>?_
 refine wc (wst hF hS 1 1 2 [sl p10 (a9.Cuts).length c11,sl p12 (a9.Nodes).length c13] (sgN 2 sgNil) fun a w hF hS=>?_)
 refine wpListIn_nil ?_
 cases H
 exact ret_done hF hS (res0 Tryz.results59) ⟨p10,c11,p12,c13,rfl,hS.sp [1] [2,3]⟩
 refine cond_f hF (by kernel_rfl) hb ?_
 refine wpIn_skip ?_
 cases H
 exact ret_done hF hS (res0 Tryz.results59) ⟨p3,c4,p5,c6,rfl,hS.sp [1] [0,1]⟩
set_option maxRecDepth 20000 in
set_option maxHeartbeats 8000000 in
theorem C_gate_Gate_moving (N:Nat){Ms:List Nat}{κ0:Gh}{w0:World}(a2:(Option T_gate_move))(a7:ByteArray)(cs1:List Value)(p3:Option Nat)(cs4:List Nat)(cs5:List Value)(b6:Nat)(hB:SB Ms κ0 w0 [.box b6 87 [(33,cs1),(1,[.pointer (pa p3)]),(10,cs5)],.ext (optX o_gate_move p3 cs4 a2)] []){r:(Bool×(Option T_gate_move))}(H:M.gate_Gate_moving N a2 a7=some r) :
    Calls Tryz.prog 83 #[pt b6 0,.string (a7)] w0 (Post Ms κ0 w0 fun v κ w => ∃(p19:Option Nat) (cs20:List Nat),v=vb r.1∧SS Ms κ0 w0 κ w [.box b6 87 [(33,cs1),(1,[.pointer (pa p19)]),(10,cs5)],.ext (optX o_gate_move p19 cs20 r.2)] []):=by
 have hS:=hB.hS
 have hfr:=hS.fresh
 refine enter (N:=(30)) (L:=[(0,pt b6 0),(1,.string (a7))]) Tryz.func83 rfl Tryz.ntmps83 (show 2≤(30) by decide) rfl fun a hF=>?_
 unfold M.gate_Gate_moving at H
 refine wpIn_seq_k fun K8 hK8=>?_
 refine wpIn_region_lit ?_
 refine wl_pure (L':=[(0,pt b6 0),(1,.string (a7))]) 1 [0,1] hF (by kernel_rfl) fun a hF=>?_
 refine wpListIn_nil ?_
 refine hK8 _ _ ?_
 refine wpIn_seq_k fun K9 hK9=>?_
 refine bind_split H (fun v14 hv14 H=>?_)
 refine code_join (fun a w => ∃(κ:Gh) (p10:Option Nat) (cs11:List Nat),Fr (30) [] [(4,vb v14.2)] a∧SS Ms κ0 w0 κ w [.box b6 87 [(33,cs1),(1,[.pointer (pa p10)]),(10,cs5)],.ext (optX o_gate_move p10 cs11 v14.1)] []∧True) ?_ ?_
 refine opt_split hv14 (fun ho hv14=>?_) (fun x15 ho hv14=>?_)
 obtain ⟨hpq,hS⟩:=hS.optN 1 rfl ho
 rw [hpq] at hS
 try rw [hpq] at hF
 refine rgS hS [] ?_
 have hS:=hS.drew
 refine anp [0,1,2] [0,1,7] hF (hS.sx [0,1] []) fun a hF=>?_
 refine atk 3 (some 8) hF (hS.sx [0,1] []) rfl (vld 0 1 0) fun a hF=>?_
 refine anp [4,5,6,7,8,9,10,11,12,13,14,15,16,17,18,19,20,21,22,23,24,25] [4] hF (hS.sx [0,1] []) fun a hF=>?_
 refine and_ ?_
 cases hv14
 exact ⟨_,none,[],hF.kp [4],hS.sp [0,1] [],trivial⟩
 obtain ⟨b16,hpq,hS⟩:=hS.optS 1 rfl ho
 rw [hpq] at hS
 try rw [hpq] at hF
 obtain ⟨_,hS⟩:=hS.unfI (ck:=c_gate_move) (fs:=q_gate_move) 1 rfl
 refine rgS hS [] ?_
 have hS:=hS.drew
 refine anp [0,1,2] [0,1,7] hF (hS.sx [0,1] []) fun a hF=>?_
 refine atk 3 (some 8) hF (hS.sx [0,1] []) rfl (vld 1 1 0) fun a hF=>?_
 refine anp [4,5,6,7,8,9,15,16,17] [10,11,14,22] hF (hS.sx [0,1] []) fun a hF=>?_
 refine atk 10 (some 15) hF (hS.sx [0,1] []) rfl (vld 1 1 0) fun a hF=>?_
 refine anp [11,12,13] [10,11,18,22] hF (hS.sx [0,1] []) fun a hF=>?_
 refine atk 14 (some 19) hF (hS.sx [0,1] []) rfl (vld 0 0 0) fun a hF=>?_
 refine atk 18 (some 23) hF (hS.sx [0,1] []) rfl (vld 1 1 0) fun a hF=>?_
 refine anp [19,20,21] [10,11,19,26] hF (hS.sx [0,1] []) fun a hF=>?_
 refine atk 22 (some 27) hF (hS.sx [0,1] []) rfl (vld 0 1 0) fun a hF=>?_
 refine ago 23 hF rfl ?_
 refine bind_split hv14 (fun x17 hx17 hv14=>?_)
 refine wo_callP hF hS (by kernel_rfl) (by kernel_rfl) (C_span_Within N hS.fresh a7 x15.span.Lo x15.span.Hi ((hS.pick [] (by kernel_rfl)).ro) hx17) ?_
 rintro _ κ w a ⟨rfl,hR,hN⟩ hF hS hO
 refine ⟨fun _=>(hS.sx [0,1] []),?_⟩
 refine anp [24,25] [4] hF (hS.sx [0,1] []) fun a hF=>?_
 refine and_ ?_
 obtain ⟨cs18,hS⟩:=hS.foldI (ck:=c_gate_move) (fs:=q_gate_move) b16 () x15 [0] [1] [] (by decide) (by kernel_rfl) (by kernel_rfl)
 cases hv14
 exact ⟨_,(some b16),cs18,hF.kp [4],hS.sp [1,0] [],trivial⟩
 rintro a w ⟨κ,p10,cs11,hF,hS,-⟩
 refine hK9 _ _ ?_
 refine wpIn_ret ?_
 cases H
 exact ret_done hF hS (res1 Tryz.results83 (rvt hF)) ⟨p10,cs11,rfl,hS.sp [0,1] []⟩
end Go.Cf
