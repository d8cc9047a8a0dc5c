/- The walks: each function returns what its model says. Printed by a program of ours. -/
import Derived.Test.YtcplebnnanjngaaGreatZM1
import Derived.Test.YtcplebnnanjngaaGreatZWhs
import Derived.Test.YtcplebnnanjngaaGreatZWho
import Derived.Test.YtcplebnnanjngaaGreatZWhi
import Derived.Test.YtcplebnnanjngaaGreatZWhp
import Derived.Test.YtcplebnnanjngaaGreatZWhc
import Derived.Test.YtcplebnnanjngaaGreatZWhg1
import Derived.Test.YtcplebnnanjngaaGreatZWhg3
import Derived.Test.YtcplebnnanjngaaGreatZWhg5
namespace Go.Cf
open Go Go.Proofs
set_option linter.unusedVariables false
set_option maxRecDepth 20000 in
set_option maxHeartbeats 8000000 in
theorem C_gate_Gate_answered (N:Nat){Ms:List Nat}{κ0:Gh}{w0:World}(a1:Int)(a2:Int)(a4:Int)(a5:Int)(a6:Int)(a7:T_api_Map)(a13:(List Bool))(a17:(Option T_stab_Table))(a20:(Option T_order_Log))(a23:(Option T_coord_Table))(a26:Int)(a27:(List (Option T_inbox_Box)))(a31:(Mp Int Int))(a35:(Mp Int T_gate_call))(a39:(List T_gate_call))(a42:(Mp Int T_gate_load))(a46:Int)(a47:(Option T_gate_move))(a50:Int)(a51:Int)(a52:(List Int))(a56:(List T_api_Mail))(a59:(List T_gate_Reply))(a63:Int)(a64:T_api_Msg)(cs3:List Value)(p8:Option Addr)(c9:Nat)(p10:Option Addr)(c11:Nat)(cs12:List Value)(p14:Option Addr)(c15:Nat)(cs16:List Value)(p18:Option Nat)(cs19:List Nat)(p21:Option Nat)(cs22:List Nat)(p24:Option Nat)(cs25:List Nat)(p28:List (Option Nat))(cs29:List Nat)(cs30:List Value)(p32:Option Nat)(m33:Array MapEntry)(c34:Nat)(p36:Option Nat)(m37:Array MapEntry)(c38:Nat)(p40:Option Addr)(c41:Nat)(p43:Option Nat)(m44:Array MapEntry)(c45:Nat)(p48:Option Nat)(cs49:List Nat)(p53:Option Addr)(c54:Nat)(cs55:List Value)(p57:Option Addr)(c58:Nat)(p60:Option Addr)(c61:Nat)(p65:Option Addr)(c66:Nat)(p67:Option Addr)(c68:Nat)(b62:Nat)(hB:SB Ms κ0 w0 [.box b62 87 [si a1,si a2,(1,cs3),si a4,si a5,si a6,sl p8 (a7.Cuts).length c9,sl p10 (a7.Nodes).length c11,(1,cs12),sl p14 (a13).length c15,(2,cs16),(1,[.pointer (pa p18)]),(1,[.pointer (pa p21)]),(1,[.pointer (pa p24)]),su a26,(4,(encs fPtr p28)),(8,cs30),(1,[.map p32]),(1,[.map p36]),sl p40 (a39).length c41,(1,[.map p43]),su a46,(1,[.pointer (pa p48)]),si a50,si a51,sl p53 (a52).length c54,(5,cs55),sl p57 (a56).length c58,sl p60 (a59).length c61],.tok p40 95 5 (a39).length c41,.tok p57 61 15 (a56).length c58,.tok p60 52 13 (a59).length c61,.ext (ownX fBool 4 p14 c15 a13),.ext (optX o_stab_Table p18 cs19 a17),.ext (optX o_order_Log p21 cs22 a20),.ext (optX o_coord_Table p24 cs25 a23),.ext (arrX o_inbox_Box p28 cs29 a27),.ext (objX p32 (.map m33 c34)),.ext (objX p36 (.map m37 c38)),.ext (objX p43 (.map m44 c45)),.ext (optX o_gate_move p48 cs49 a47)] [Ro.mp fStr.ty p8 c9 a7.Cuts,Ro.mp (fInt .i64).ty p10 c11 a7.Nodes,ml p28 4,Map.mp (kInt .u64) false (fInt .i64).ty p32 m33 c34 a31,Map.mp (kInt .u64) true t_gate_call p36 m37 c38 a35,Ro.mp t_gate_call p40 c41 a39,Map.mp (kInt .u64) true t_gate_load p43 m44 c45 a42,Ro.mp (fInt .u64).ty p53 c54 a52,Ro.mp t_api_Mail p57 c58 a56,Ro.mp f_gate_Reply.ty p60 c61 a59,Ro.mp f_api_Ver.ty p65 c66 a64.Vers,Ro.mp (fInt .u64).ty p67 c68 a64.Vec]){r:(Int×T_api_Map×(Option T_order_Log)×(Option T_coord_Table)×Int×(Mp Int Int)×(Mp Int T_gate_call)×(List T_gate_call)×Int×(Option T_gate_move)×(List T_api_Mail)×(List T_gate_Reply))}(H:M.gate_Gate_answered N a1 a2 a4 a5 a6 a7 a13 a17 a20 a23 a26 a27 a31 a35 a39 a42 a46 a47 a50 a51 a52 a56 a59 a63 a64=some r) :
    Calls Tryz.prog 33 #[pt b62 0,vi a63,.agg (flat [si a64.Kind,su a64.Id,su a64.N,su a64.TS,sg a64.Lo,sg a64.Hi,sl p65 (a64.Vers).length c66,sl p67 (a64.Vec).length c68,si a64.Cmd.Kind,si a64.Cmd.DC,si a64.Cmd.Shard,si a64.Cmd.Node,si a64.Cmd.Mode,sg a64.Cmd.Key]).toArray] w0 (Post Ms κ0 w0 fun v κ w => ∃(p437:Option Addr) (c438:Nat) (p439:Option Addr) (c440:Nat) (p441:Option Nat) (cs442:List Nat) (p443:Option Nat) (cs444:List Nat) (p445:Option Nat) (m446:Array MapEntry) (c447:Nat) (p448:Option Nat) (m449:Array MapEntry) (c450:Nat) (p451:Option Addr) (c452:Nat) (p453:Option Nat) (cs454:List Nat) (p455:Option Addr) (c456:Nat) (p457:Option Addr) (c458:Nat) (cs459 cs460:List Nat),v = .tuple #[]∧SS Ms κ0 w0 κ w [.box b62 87 [si a1,si a2,(1,cs3),si a4,si a5,si r.1,sl p437 (r.2.1.Cuts).length c438,sl p439 (r.2.1.Nodes).length c440,(1,cs12),sl p14 (a13).length c15,(2,cs16),(1,[.pointer (pa p18)]),(1,[.pointer (pa p441)]),(1,[.pointer (pa p443)]),su r.2.2.2.2.1,(4,(encs fPtr p28)),(8,cs30),(1,[.map p445]),(1,[.map p448]),sl p451 (r.2.2.2.2.2.2.2.1).length c452,(1,[.map p43]),su r.2.2.2.2.2.2.2.2.1,(1,[.pointer (pa p453)]),si a50,si a51,sl p53 (a52).length c54,(5,cs55),sl p455 (r.2.2.2.2.2.2.2.2.2.2.1).length c456,sl p457 (r.2.2.2.2.2.2.2.2.2.2.2).length c458],.tok p451 95 5 (r.2.2.2.2.2.2.2.1).length c452,.tok p455 61 15 (r.2.2.2.2.2.2.2.2.2.2.1).length c456,.tok p457 52 13 (r.2.2.2.2.2.2.2.2.2.2.2).length c458,.ext (ownX fBool 4 p14 c15 a13),.ext (optX o_stab_Table p18 cs459 a17),.ext (optX o_order_Log p441 cs442 r.2.2.1),.ext (optX o_coord_Table p443 cs444 r.2.2.2.1),.ext (arrX o_inbox_Box p28 cs460 a27),.ext (objX p445 (.map m446 c447)),.ext (objX p448 (.map m449 c450)),.ext (objX p43 (.map m44 c45)),.ext (optX o_gate_move p453 cs454 r.2.2.2.2.2.2.2.2.2.1)] [Ro.mp fStr.ty p437 c438 r.2.1.Cuts,Ro.mp (fInt .i64).ty p439 c440 r.2.1.Nodes,Map.mp (kInt .u64) false (fInt .i64).ty p445 m446 c447 r.2.2.2.2.2.1,Map.mp (kInt .u64) true t_gate_call p448 m449 c450 r.2.2.2.2.2.2.1,Ro.mp t_gate_call p451 c452 r.2.2.2.2.2.2.2.1,Ro.mp t_api_Mail p455 c456 r.2.2.2.2.2.2.2.2.2.2.1,Ro.mp f_gate_Reply.ty p457 c458 r.2.2.2.2.2.2.2.2.2.2.2]):=by
 have hS:=hB.hS
 have hfr:=hS.fresh
 refine enter (N:=(446)) (L:=[(0,pt b62 0),(1,vi a63),(2,.agg (flat [si a64.Kind,su a64.Id,su a64.N,su a64.TS,sg a64.Lo,sg a64.Hi,sl p65 (a64.Vers).length c66,sl p67 (a64.Vec).length c68,si a64.Cmd.Kind,si a64.Cmd.DC,si a64.Cmd.Shard,si a64.Cmd.Node,si a64.Cmd.Mode,sg a64.Cmd.Key]).toArray)]) Tryz.func33 rfl Tryz.ntmps33 (show 3≤(446) by decide) rfl fun a hF=>?_
 unfold M.gate_Gate_answered at H
 refine wpIn_seq_k fun K69 hK69=>?_
 refine wpIn_region_lit ?_
 refine wc (wbx hF hS [si a64.Kind,su a64.Id,su a64.N,su a64.TS,sg a64.Lo,sg a64.Hi,sl p65 (a64.Vers).length c66,sl p67 (a64.Vec).length c68,si a64.Cmd.Kind,si a64.Cmd.DC,si a64.Cmd.Shard,si a64.Cmd.Node,si a64.Cmd.Mode,sg a64.Cmd.Key] (sgN 14 sgNil) fun b70 a w hF hS=>?_)
 refine wpListIn_nil ?_
 refine hK69 _ _ ?_
 refine wpIn_seq_k fun K71 hK71=>?_
 refine wpIn_region_lit ?_
 refine wp 1 [0,1,5,25] hF fun a hF=>?_
 refine wc (wld hF hS 0 0 0 fun a hF=>?_)
 refine wpListIn_nil ?_
 refine hK71 _ _ ?_
 refine wpIn_block ?_
 refine wpIn_seq_k fun K72 hK72=>?_
 refine wpIn_region_lit ?_
 refine wp 2 [0,1,5,26,27] hF fun a hF=>?_
 refine wpListIn_nil ?_
 refine hK72 _ _ ?_
 refine bif_split H (fun hb H=>?_) (fun hb H=>?_)
 refine cond_t hF (by kernel_rfl) hb ?_
 refine wpIn_seq_k fun K73 hK73=>?_
 cases H
 refine cond_f hF (by kernel_rfl) hb ?_
 refine wpIn_seq_k fun K74 hK74=>?_
 refine wpIn_region_lit ?_
 refine wl_pure (L':=[(0,pt b62 0),(1,vi a63),(5,pt b70 0),(26,vi a64.Kind),(43,vb (a64.Kind==11))]) 2 [0,1,5,26,43] hF (by kernel_rfl) fun a hF=>?_
 refine wpListIn_nil ?_
 refine hK74 _ _ ?_
 refine bif_split H (fun hb H=>?_) (fun hb H=>?_)
 refine cond_t hF (by kernel_rfl) hb ?_
 refine wpIn_seq_k fun K75 hK75=>?_
 refine bind_split H (fun x76 ho H=>?_)
 obtain ⟨b77,hpq,hS⟩:=hS.optS 8 rfl ho
 rw [hpq] at hS
 try rw [hpq] at hF
 obtain ⟨⟨p78,m79,c80,p81,cs82⟩,hS⟩:=hS.unfI (ck:=c_coord_Table) (fs:=q_coord_Table) 8 rfl
 refine rgX hS [0,1,3,4,8,9,10,11,12,13,14,15] ?_
 have hS:=hS.drew
 refine anp [0,1,2,4] [0,1,5,47,49] hF (hS.sx [0,1,3,4,8,9,10,11,12,13,14,15] (rg 13)) fun a hF=>?_
 refine atk 3 (some 48) hF (hS.sx [0,1,3,4,8,9,10,11,12,13,14,15] (rg 13)) rfl (vld 3 13 0) fun a hF=>?_
 refine atk 5 (some 50) hF (hS.sx [0,1,3,4,8,9,10,11,12,13,14,15] (rg 13)) rfl (vld 2 1 0) fun a hF=>?_
 refine ago 6 hF rfl ?_
 refine bind_split H (fun x83 hx83 H=>?_)
 refine wcS 3 (rg 16) hF hS (fun hS=>C_coord_Table_Writes N (T_coord_Table.mk x76.open_) a64.Id p78 m79 c80 p81 cs82 b77 (hS.sbK [0]) hx83) ?_
 rintro _ κ w a ⟨p84,c85,cs86,rfl,h2⟩ hF hB
 have hS:=hB _ _ h2
 refine ⟨fun _=>(hS.sx [0,1,4,5,9,10,11,12,13,14,15,16] [1,2,3,4,5,6,7,8,9,10,11,12,13]),?_⟩
 refine any_pure [7] [0,1,5,6] (L':=[(0,pt b62 0),(1,vi a63),(5,pt b70 0),(6,.slice p84 (x83).length c85)]) (listed':=(bitA 8 255)) (fuel:=0) hF (hS.sx [0,1,4,5,9,10,11,12,13,14,15,16] [1,2,3,4,5,6,7,8,9,10,11,12,13]) (by kernel_rfl) (by intro c a w t v h; cases t<;>exact h) (by kernel_rfl) rfl fun a hF=>?_
 refine and_ ?_
 obtain ⟨cs87,hS⟩:=hS.foldI (ck:=c_coord_Table) (fs:=q_coord_Table) b77 (p78,m79,c80,p81,cs86) x76 [0,1,2] [3,4,5,6,7,8,9,10,11,12,13,14,15,16] [1] (by decide) (by kernel_rfl) (by kernel_rfl)
 refine hK75 _ _ ?_
 refine wpIn_seq_k fun K88 hK88=>?_
 obtain ⟨⟨p89,m90,c91,p92,cs93⟩,hS⟩:=hS.unfI (ck:=c_coord_Table) (fs:=q_coord_Table) 0 rfl
 have hS:=hS.cC (C':=[.box b77 172 [(1,[.map p89])],.ext (objX p89 (.map m90 c91)),.ext (mpX o_coord_entry p92 cs93 x76.open_ none),.tok p84 48 6 (x83).length c85,.box b70 38 [si a64.Kind,su a64.Id,su a64.N,su a64.TS,sg a64.Lo,sg a64.Hi,sl p65 (a64.Vers).length c66,sl p67 (a64.Vec).length c68,si a64.Cmd.Kind,si a64.Cmd.DC,si a64.Cmd.Shard,si a64.Cmd.Node,si a64.Cmd.Mode,sg a64.Cmd.Key],.box b62 87 [si a1,si a2,(1,cs3),si a4,si a5,si a6,sl p8 (a7.Cuts).length c9,sl p10 (a7.Nodes).length c11,(1,cs12),sl p14 (a13).length c15,(2,cs16),(1,[.pointer (pa p18)]),(1,[.pointer (pa p21)]),(1,[pt b77 0]),su a26,(4,(encs fPtr p28)),(8,cs30),(1,[.map p32]),(1,[.map p36]),sl p40 (a39).length c41,(1,[.map p43]),su a46,(1,[.pointer (pa p48)]),si a50,si a51,sl p53 (a52).length c54,(5,cs55),sl p57 (a56).length c58,sl p60 (a59).length c61],.tok p40 95 5 (a39).length c41,.tok p57 61 15 (a56).length c58,.tok p60 52 13 (a59).length c61,.ext (ownX fBool 4 p14 c15 a13),.ext (optX o_stab_Table p18 cs19 a17),.ext (optX o_order_Log p21 cs22 a20),.ext (arrX o_inbox_Box p28 cs29 a27),.ext (objX p32 (.map m33 c34)),.ext (objX p36 (.map m37 c38)),.ext (objX p43 (.map m44 c45)),.ext (optX o_gate_move p48 cs49 a47)])
 refine rgX hS [4,5,9,10,11,12,13,14,15,16] ?_
 have hS:=hS.drew
 refine anp [0,1,2,4,6,7] [0,5,6,55,57,59,60] hF (hS.sx [4,5,9,10,11,12,13,14,15,16] (rg 15)) fun a hF=>?_
 refine atk 3 (some 56) hF (hS.sx [4,5,9,10,11,12,13,14,15,16] (rg 15)) rfl (vld 1 13 0) fun a hF=>?_
 refine atk 5 (some 58) hF (hS.sx [4,5,9,10,11,12,13,14,15,16] (rg 15)) rfl (vld 0 1 0) fun a hF=>?_
 refine atk 8 (some 61) hF (hS.sx [4,5,9,10,11,12,13,14,15,16] (rg 15)) rfl (vld 0 3 0) fun a hF=>?_
 refine ago 9 hF rfl ?_
 refine bind_split H (fun x94 hx94 H=>?_)
 refine wcS 3 (rg 17) hF hS (fun hS=>C_coord_Table_Vote N (T_coord_Table.mk x76.open_) a64.Id a63 a64.TS p89 m90 c91 p92 cs93 b77 (hS.sbK [0]) hx94) ?_
 rintro _ κ w a ⟨p95,m96,c97,p98,cs99,rfl,h2⟩ hF hB
 have hS:=hB _ _ h2
 refine ⟨fun _=>(hS.sx [4,5,9,10,11,12,13,14,15,16] [1,2,3,4,5,6,7,8,9,10,11,12,13,14,15]),?_⟩
 refine anp [10,11,12,13,14,15,16] [0,5,6,7,8,9] hF (hS.sx [4,5,9,10,11,12,13,14,15,16] [1,2,3,4,5,6,7,8,9,10,11,12,13,14,15]) fun a hF=>?_
 refine and_ ?_
 obtain ⟨cs100,hS⟩:=hS.foldI (ck:=c_coord_Table) (fs:=q_coord_Table) b77 (p95,m96,c97,p98,cs99) (T_coord_Table.mk x94.2.2.2.open_) [0,1,2] [3,4,5,6,7,8,9,10,11,12,13,14,15,16] [0] (by decide) (by kernel_rfl) (by kernel_rfl)
 refine hK88 _ _ ?_
 refine wpIn_seq_k fun K101 hK101=>?_
 refine wpIn_seq_k fun K102 hK102=>?_
 refine wpIn_region_lit ?_
 refine bind_split H (fun v104 hv104 H=>?_)
 refine wl_join (fun a w => ∃κ:Gh,Fr (446) [] [(0,pt b62 0),(5,pt b70 0),(6,.slice p84 (x83).length c85),(7,vu x94.1),(71,vb v104)] a∧SS Ms κ0 w0 κ w [.box b70 38 [si a64.Kind,su a64.Id,su a64.N,su a64.TS,sg a64.Lo,sg a64.Hi,sl p65 (a64.Vers).length c66,sl p67 (a64.Vec).length c68,si a64.Cmd.Kind,si a64.Cmd.DC,si a64.Cmd.Shard,si a64.Cmd.Node,si a64.Cmd.Mode,sg a64.Cmd.Key],.box b62 87 [si a1,si a2,(1,cs3),si a4,si a5,si a6,sl p8 (a7.Cuts).length c9,sl p10 (a7.Nodes).length c11,(1,cs12),sl p14 (a13).length c15,(2,cs16),(1,[.pointer (pa p18)]),(1,[.pointer (pa p21)]),(1,[pt b77 0]),su a26,(4,(encs fPtr p28)),(8,cs30),(1,[.map p32]),(1,[.map p36]),sl p40 (a39).length c41,(1,[.map p43]),su a46,(1,[.pointer (pa p48)]),si a50,si a51,sl p53 (a52).length c54,(5,cs55),sl p57 (a56).length c58,sl p60 (a59).length c61],.tok p84 48 6 (x83).length c85,.tok p40 95 5 (a39).length c41,.tok p57 61 15 (a56).length c58,.tok p60 52 13 (a59).length c61,.ext (ownX fBool 4 p14 c15 a13),.ext (optX o_stab_Table p18 cs19 a17),.ext (optX o_order_Log p21 cs22 a20),.ext (optX o_coord_Table (some b77) cs100 (some (T_coord_Table.mk x94.2.2.2.open_))),.ext (arrX o_inbox_Box p28 cs29 a27),.ext (objX p32 (.map m33 c34)),.ext (objX p36 (.map m37 c38)),.ext (objX p43 (.map m44 c45)),.ext (optX o_gate_move p48 cs49 a47)] [Ro.mp fStr.ty p8 c9 a7.Cuts,Ro.mp (fInt .i64).ty p10 c11 a7.Nodes,ml p28 4,Map.mp (kInt .u64) false (fInt .i64).ty p32 m33 c34 a31,Map.mp (kInt .u64) true t_gate_call p36 m37 c38 a35,Ro.mp t_gate_call p40 c41 a39,Map.mp (kInt .u64) true t_gate_load p43 m44 c45 a42,Ro.mp (fInt .u64).ty p53 c54 a52,Ro.mp t_api_Mail p57 c58 a56,Ro.mp f_gate_Reply.ty p60 c61 a59,Ro.mp f_api_Ver.ty p84 c85 x83,Ro.mp f_api_Ver.ty p65 c66 a64.Vers,Ro.mp (fInt .u64).ty p67 c68 a64.Vec]∧True) ?_ ?_
 refine wp 3 [0,5,6,7,8,68] hF fun a hF=>?_
 refine bif_split hv104 (fun hb hv104=>?_) (fun hb hv104=>?_)
 have hF:=hF.boolv 68 (by kernel_rfl) hb
 refine wp 3 [0,5,6,7,71] hF fun a hF=>?_
 refine wpListIn_nil ?_
 cases hv104
 exact ⟨_,hF.kp [0,5,6,7,71],hS.sp [2,3,1,4,5,6,7,8,9,0,10,11,12,13,14] [4,5,6,7,8,9,10,11,12,13,2,14,15],trivial⟩
 have hF:=hF.boolv 68 (by kernel_rfl) hb
 refine wp 3 [0,5,6,7,71] hF fun a hF=>?_
 refine wpListIn_nil ?_
 cases hv104
 exact ⟨_,hF.kp [0,5,6,7,71],hS.sp [2,3,1,4,5,6,7,8,9,0,10,11,12,13,14] [4,5,6,7,8,9,10,11,12,13,2,14,15],trivial⟩
 rintro a w ⟨κ,hF,hS,-⟩
 refine hK102 _ _ ?_
 refine bif_split H (fun hb H=>?_) (fun hb H=>?_)
 refine cond_t hF (by kernel_rfl) hb ?_
 refine wpIn_ret ?_
 cases H
 exact ret_done hF hS (res0 Tryz.results33) ⟨p8,c9,p10,c11,p21,cs22,(some b77),cs100,p32,m33,c34,p36,m37,c38,p40,c41,p48,cs49,p57,c58,p60,c61,cs19,cs29,rfl,hS.sp [1,3,4,5,6,7,8,9,10,11,12,13,14] [0,1,3,4,5,8,9]⟩
 refine cond_f hF (by kernel_rfl) hb ?_
 refine wpIn_skip ?_
 refine hK101 _ _ ?_
 refine wpIn_seq_k fun K105 hK105=>?_
 refine wpIn_region_lit ?_
 refine wp 4 [0,5,6,7,72,75] hF fun a hF=>?_
 refine wc (wld hF hS 1 14 0 fun a hF=>?_)
 refine wp 4 [0,5,6,7,78,80] hF fun a hF=>?_
 refine wc (wst hF hS 1 14 1 [su (if x94.1 > a26 then x94.1 else a26)] (sgN 1 sgNil) fun a w hF hS=>?_)
 refine wpListIn_nil ?_
 refine hK105 _ _ ?_
 refine wpIn_seq_k fun K106 hK106=>?_
 refine rgS hS [10] ?_
 have hS:=hS.drew
 refine anp [0,1,2,3,5] [0,5,6,7,81,84,86] hF (hS.sx [0,1,6,7,8,9,10,11,12,13,14] (rg 13)) fun a hF=>?_
 refine atk 4 (some 85) hF (hS.sx [0,1,6,7,8,9,10,11,12,13,14] (rg 13)) rfl (vld 1 0 0) fun a hF=>?_
 refine atk 6 (some 87) hF (hS.sx [0,1,6,7,8,9,10,11,12,13,14] (rg 13)) rfl (vld 0 1 0) fun a hF=>?_
 refine anp [7,8] [0,5,6,7,89] hF (hS.sx [0,1,6,7,8,9,10,11,12,13,14] (rg 13)) fun a hF=>?_
 refine ago 9 hF rfl ?_
 refine wal hF hS [su 0,si 0,si 0,sl none 0 0] (sgN 4 sgNil) fun b107 a w hF hS=>?_
 refine ⟨fun _=>(hS.sx [1,2,7,8,9,10,11,12,13,14,15] (rg 13)),?_⟩
 refine ago 10 hF rfl ?_
 refine wst hF hS 0 0 4 [su x94.1,si a1,si (IntKind.i64.wrap a64.Id),sl none 0 0] (sgN 4 sgNil) fun a w hF hS=>?_
 refine ⟨notE,?_⟩
 refine and_ ?_
 refine hK106 _ _ ?_
 refine wpIn_seq_k fun K108 hK108=>?_
 refine wpIn_seq_k fun K109 hK109=>?_
 refine wpIn_region_lit ?_
 refine wp 3 [0,5,7,10,90,91,92] hF fun a hF=>?_
 refine wpListIn_nil ?_
 refine hK109 _ _ ?_
 refine wpIn_block ?_
 refine loop_fuel (n:=N) (fun n a w => ∃(κ:Gh) (y160:List T_api_Ver) (p161:Option Addr) (c162:Nat) (y163:Int),Fr (446) [] [(0,pt b62 0),(5,pt b70 0),(7,vu x94.1),(10,pt b107 0),(90,.slice p84 (x83).length c85),(91,vi ((x83).length:Int)),(92,vi y163)] a∧SS Ms κ0 w0 κ w [.box b107 135 [su x94.1,si a1,si (IntKind.i64.wrap a64.Id),sl p161 (y160).length c162],.box b70 38 [si a64.Kind,su a64.Id,su a64.N,su a64.TS,sg a64.Lo,sg a64.Hi,sl p65 (a64.Vers).length c66,sl p67 (a64.Vec).length c68,si a64.Cmd.Kind,si a64.Cmd.DC,si a64.Cmd.Shard,si a64.Cmd.Node,si a64.Cmd.Mode,sg a64.Cmd.Key],.box b62 87 [si a1,si a2,(1,cs3),si a4,si a5,si a6,sl p8 (a7.Cuts).length c9,sl p10 (a7.Nodes).length c11,(1,cs12),sl p14 (a13).length c15,(2,cs16),(1,[.pointer (pa p18)]),(1,[.pointer (pa p21)]),(1,[pt b77 0]),su (if x94.1 > a26 then x94.1 else a26),(4,(encs fPtr p28)),(8,cs30),(1,[.map p32]),(1,[.map p36]),sl p40 (a39).length c41,(1,[.map p43]),su a46,(1,[.pointer (pa p48)]),si a50,si a51,sl p53 (a52).length c54,(5,cs55),sl p57 (a56).length c58,sl p60 (a59).length c61],.tok p161 48 6 (y160).length c162,.tok p84 48 6 (x83).length c85,.tok p40 95 5 (a39).length c41,.tok p57 61 15 (a56).length c58,.tok p60 52 13 (a59).length c61,.ext (ownX fBool 4 p14 c15 a13),.ext (optX o_stab_Table p18 cs19 a17),.ext (optX o_order_Log p21 cs22 a20),.ext (optX o_coord_Table (some b77) cs100 (some (T_coord_Table.mk x94.2.2.2.open_))),.ext (arrX o_inbox_Box p28 cs29 a27),.ext (objX p32 (.map m33 c34)),.ext (objX p36 (.map m37 c38)),.ext (objX p43 (.map m44 c45)),.ext (optX o_gate_move p48 cs49 a47)] [Ro.mp fStr.ty p8 c9 a7.Cuts,Ro.mp (fInt .i64).ty p10 c11 a7.Nodes,ml p28 4,Map.mp (kInt .u64) false (fInt .i64).ty p32 m33 c34 a31,Map.mp (kInt .u64) true t_gate_call p36 m37 c38 a35,Ro.mp t_gate_call p40 c41 a39,Map.mp (kInt .u64) true t_gate_load p43 m44 c45 a42,Ro.mp (fInt .u64).ty p53 c54 a52,Ro.mp t_api_Mail p57 c58 a56,Ro.mp f_gate_Reply.ty p60 c61 a59,Ro.mp f_api_Ver.ty p84 c85 x83,Ro.mp f_api_Ver.ty p161 c162 y160,Ro.mp f_api_Ver.ty p65 c66 a64.Vers,Ro.mp (fInt .u64).ty p67 c68 a64.Vec]∧M.gate_Gate_answered_L1 N n a1 a2 a4 a5 a6 a7 a13 a17 a20 a26 a27 a31 a35 a39 a42 a46 a47 a50 a51 a52 a56 a59 a64 x83 x94 y160 y163=some r) ?_ ?_
 have hS:=hS.add (m:=Ro.mp f_api_Ver.ty none 0 ([]:List T_api_Ver)) (Ro.nil f_api_Ver.ty _ _)
 have hS:=hS.addNil 48 6
 exact ⟨_,([]:List T_api_Ver),none,0,0,hF.kp [0,5,7,10,90,91,92],hS.sp [1,2,3,0,4,5,6,7,8,9,10,11,12,13,14,15,16] [1,2,3,4,5,6,7,8,9,10,11,0,12,13],H⟩
 rintro n a w ⟨κ,y160,p161,c162,y163,hF,hS,H⟩
 rcases n with _|fuel1
 simp [M.gate_Gate_answered_L1] at H
 simp only [M.gate_Gate_answered_L1] at H
 refine wpIn_seq_k fun K164 hK164=>?_
 refine wpIn_region_lit ?_
 refine wl_pure (L':=[(0,pt b62 0),(5,pt b70 0),(7,vu x94.1),(10,pt b107 0),(90,.slice p84 (x83).length c85),(91,vi ((x83).length:Int)),(92,vi y163),(93,vb (decide (y163<((x83).length:Int))))]) 1 [0,5,7,10,90,91,92,93] hF (by kernel_rfl) fun a hF=>?_
 refine wpListIn_nil ?_
 refine hK164 _ _ ?_
 refine wpIn_seq_k fun K165 hK165=>?_
 refine bif_split H (fun hb H=>?_) (fun hb H=>?_)
 refine cond_t hF (by kernel_rfl) hb ?_
 refine wpIn_skip ?_
 refine hK165 _ _ ?_
 refine wpIn_seq_k fun K166 hK166=>?_
 refine wpIn_block ?_
 refine wpIn_seq_k fun K167 hK167=>?_
 refine wpIn_region_lit ?_
 refine bind_split H (fun x168 hx168 H=>?_)
 refine wc (wo_index hF hS (by kernel_rfl) 10 (E:=48) (sz:=6) rfl rfl rfl (by kernel_rfl) rfl hx168 (by kernel_rfl) (by kernel_rfl) fun b169 f170 a hpx168 hF=>?_)
 refine wc (wo_loadRoAgg (t:=f_api_Ver) hF hS (by kernel_rfl) 10 rfl rfl hpx168 rfl hx168 (by kernel_rfl) (by kernel_rfl) (by kernel_rfl) fun a hF=>?_)
 refine wc (wal hF hS [sg ByteArray.empty,sg ByteArray.empty,sb false,su 0,si 0,si 0] (sgN 6 sgNil) fun b171 a w hF hS=>?_)
 refine wc (wst hF hS 0 0 6 [sg x168.Key,sg x168.Val,sb x168.Gone,su x168.TS,si x168.DC,si x168.Tx] (sgN 6 sgNil) fun a w hF hS=>?_)
 refine wpListIn_nil ?_
 refine hK167 _ _ ?_
 refine wpIn_seq_k fun K172 hK172=>?_
 refine rgX hS [1,2,3,9,10,11,12,13,14,15,16,17] ?_
 have hS:=hS.drew
 refine anp [0,2,4] [0,5,7,10,12,90,91,92,96,98,100] hF (hS.sx [1,2,3,9,10,11,12,13,14,15,16,17] (rg 14)) fun a hF=>?_
 refine atk 1 (some 97) hF (hS.sx [1,2,3,9,10,11,12,13,14,15,16,17] (rg 14)) rfl (vld 0 0 0) fun a hF=>?_
 refine anp [6] [0,5,7,10,12,90,91,92,97,98,100,102] hF (hS.sx [1,2,3,9,10,11,12,13,14,15,16,17] (rg 14)) fun a hF=>?_
 refine atk 3 (some 99) hF (hS.sx [1,2,3,9,10,11,12,13,14,15,16,17] (rg 14)) rfl (vld 0 1 0) fun a hF=>?_
 refine atk 5 (some 101) hF (hS.sx [1,2,3,9,10,11,12,13,14,15,16,17] (rg 14)) rfl (vld 0 2 0) fun a hF=>?_
 refine ago 7 hF rfl ?_
 refine wst hF hS 0 3 1 [su x94.1] (sgN 1 sgNil) fun a w hF hS=>?_
 refine ⟨fun _=>(hS.sx [1,2,3,9,10,11,12,13,14,15,16,17] (rg 14)),?_⟩
 refine anp [8] [0,5,7,10,12,90,91,92,99,101,103] hF (hS.sx [1,2,3,9,10,11,12,13,14,15,16,17] (rg 14)) fun a hF=>?_
 refine ago 9 hF rfl ?_
 refine wst hF hS 0 4 1 [si a1] (sgN 1 sgNil) fun a w hF hS=>?_
 refine ⟨fun _=>(hS.sx [1,2,3,9,10,11,12,13,14,15,16,17] (rg 14)),?_⟩
 refine anp [10] [0,5,7,10,12,90,91,92,101,104] hF (hS.sx [1,2,3,9,10,11,12,13,14,15,16,17] (rg 14)) fun a hF=>?_
 refine ago 11 hF rfl ?_
 refine wst hF hS 0 5 1 [si (IntKind.i64.wrap a64.Id)] (sgN 1 sgNil) fun a w hF hS=>?_
 refine ⟨fun _=>(hS.sx [1,2,3,9,10,11,12,13,14,15,16,17] (rg 14)),?_⟩
 refine and_ ?_
 refine hK172 _ _ ?_
 refine wpIn_region_lit ?_
 refine wl_pure (L':=[(0,pt b62 0),(5,pt b70 0),(7,vu x94.1),(10,pt b107 0),(12,pt b171 0),(90,.slice p84 (x83).length c85),(91,vi ((x83).length:Int)),(92,vi y163),(105,pt b107 3)]) 1 [0,5,7,10,12,90,91,92,105] hF (by kernel_rfl) fun a hF=>?_
 refine wc (wld hF hS 1 3 0 fun a hF=>?_)
 refine wc (wls hF hS 0 0 6 fun a hF=>?_)
 refine wc (wo_buildN (t:=f_api_Ver) (z := .agg (flat [sg ByteArray.empty,sg ByteArray.empty,sb false,su 0,si 0,si 0]).toArray) (l:=[(T_api_Ver.mk x168.Key x168.Val x168.Gone x94.1 a1 (IntKind.i64.wrap a64.Id))]) (vs:=[(0,.agg (flat [sg x168.Key,sg x168.Val,sb x168.Gone,su x94.1,si a1,si (IntKind.i64.wrap a64.Id)]).toArray)]) (cells := #[.string (x168.Key),.string (x168.Val),vb x168.Gone,vu x94.1,vi a1,vi (IntKind.i64.wrap a64.Id)]) (E:=48) hF hS (by kernel_rfl) rfl (by kernel_rfl) (by kernel_rfl) rfl (by kernel_rfl) (by kernel_rfl) (by kernel_rfl) (by kernel_rfl) (by kernel_rfl) fun p173 κ a w hF hS=>?_)
 refine bind_split H (fun x174 hx174 H=>?_)
 refine wc (wo_append (ty:=f_api_Ver.ty) hF hS (by kernel_rfl) 5 12 0 rfl rfl rfl (by kernel_rfl) (by kernel_rfl) rfl rfl rfl hx174 (by kernel_rfl) (i:=Tryz.t48) (z := .agg (flat [sg ByteArray.empty,sg ByteArray.empty,sb false,su 0,si 0,si 0]).toArray) (by kernel_rfl) (by kernel_rfl) (by kernel_rfl) fun p175 c176 κ a w hF hS=>?_)
 refine wp 1 [0,5,7,10,90,91,92,109,110] hF fun a hF=>?_
 refine wc (wst hF hS 2 3 1 [sl p175 (x174).length c176] (sgN 1 sgNil) fun a w hF hS=>?_)
 refine wpListIn_nil ?_
 refine hK166 _ _ ?_
 refine wpIn_region_lit ?_
 refine wp 2 [0,5,7,10,90,91,92] hF fun a hF=>?_
 refine wpListIn_nil ?_
 exact ⟨fuel1,Nat.lt_succ_self _,_,x174,p175,c176,IntKind.i64.wrap (y163+1),hF.kp [0,5,7,10,90,91,92],hS.sp [2,3,4,5,6,7,8,9,10,11,12,13,14,15,16,17,18] [2,3,4,5,6,7,8,9,10,11,12,0,14,15],H⟩
 refine cond_f hF (by kernel_rfl) hb ?_
 refine wpIn_exit ?_
 refine hK108 _ _ ?_
 refine wpIn_seq_k fun K177 hK177=>?_
 refine bind_split H (fun x178 ho H=>?_)
 obtain ⟨b179,hpq,hS⟩:=hS.optS 10 rfl ho
 rw [hpq] at hS
 try rw [hpq] at hF
 obtain ⟨⟨p180,c181,p182,c183⟩,hS⟩:=hS.unfI (ck:=c_order_Log) (fs:=q_order_Log) 10 rfl
 refine rgX hS [3,4,5,11,12,13,14,15,16,17,18] ?_
 have hS:=hS.drew
 refine anp [0,1,2] [0,5,7,10,114] hF (hS.sx [3,4,5,11,12,13,14,15,16,17,18] (rg 16)) fun a hF=>?_
 refine atk 3 (some 115) hF (hS.sx [3,4,5,11,12,13,14,15,16,17,18] (rg 16)) rfl (vld 2 12 0) fun a hF=>?_
 refine atk 4 (some 116) hF (hS.sx [3,4,5,11,12,13,14,15,16,17,18] (rg 16)) rfl (vls 0 0 4) fun a hF=>?_
 refine ago 5 hF rfl ?_
 refine bind_split H (fun x184 hx184 H=>?_)
 refine wcS 3 (rg 19) hF hS (fun hS=>C_order_Log_Decide N (T_order_Log.mk x178.list x178.waiting x178.bound) (T_api_Rec.mk x94.1 a1 (IntKind.i64.wrap a64.Id) y160) p180 c181 p182 c183 p161 c162 b179 (hS.sbK [0,1,13]) hx184) ?_
 rintro _ κ w a ⟨p185,c186,p187,c188,rfl,h2⟩ hF hB
 have hS:=hB _ _ h2
 refine ⟨fun _=>(hS.sx [3,4,5,11,12,13,14,15,16,17,18] [2,3,4,5,6,7,8,9,10,11,12,13,14,15,16,17]),?_⟩
 refine and_ ?_
 obtain ⟨cs189,hS⟩:=hS.foldI (ck:=c_order_Log) (fs:=q_order_Log) b179 (p185,c186,p187,c188) (T_order_Log.mk x184.2.list x184.2.waiting x184.2.bound) [0,1,2] [3,4,5,6,7,8,9,10,11,12,13,14,15,16,17,18] [0,1] (by decide) (by kernel_rfl) (by kernel_rfl)
 refine hK177 _ _ ?_
 refine wpIn_seq_k fun K190 hK190=>?_
 refine wpIn_seq_k fun K191 hK191=>?_
 obtain ⟨⟨p192,m193,c194,p195,cs196⟩,hS⟩:=hS.unfI (ck:=c_coord_Table) (fs:=q_coord_Table) 11 rfl
 refine rga (fun _=>True) [] ?_
 have hS:=hS.drew
 refine any_pure [0,1,2,4,8] [0,5,7,10,120,122,126] (L':=[(0,pt b62 0),(5,pt b70 0),(7,vu x94.1),(10,pt b107 0),(120,pt b62 14),(122,pt b70 1),(126,vi 0)]) (listed':=(bitA 9 279)) (fuel:=4) hF trivial (by kernel_rfl) (by intro c a w t v h; cases t<;>exact h) (by kernel_rfl) rfl fun a hF=>?_
 refine any_weakS hS [6] ?_
 refine atk 3 (some 121) hF (hS.sx [0,1,2,3,4,5,6,12,13,14,15,16,17,18] (rg 19)) rfl (vld 6 13 0) fun a hF=>?_
 refine atk 5 (some 123) hF (hS.sx [0,1,2,3,4,5,6,12,13,14,15,16,17,18] (rg 19)) rfl (vld 5 1 0) fun a hF=>?_
 refine ago 6 hF rfl ?_
 refine bind_split H (fun x197 hx197 H=>?_)
 refine wcS 3 (rg 19) hF hS (fun hS=>C_coord_Table_Nodes N (T_coord_Table.mk ((T_coord_Table.mk x94.2.2.2.open_).open_)) a64.Id p192 m193 c194 p195 cs196 b77 (hS.sbK [0]) hx197) ?_
 rintro _ κ w a ⟨p198,c199,cs200,rfl,h2⟩ hF hB
 have hS:=(hB _ _ h2).cC (C':=[.box b77 172 [(1,[.map p192])],.ext (objX p192 (.map m193 c194)),.ext (mpX o_coord_entry p195 cs200 ((T_coord_Table.mk x94.2.2.2.open_).open_) none),.tok p198 3 1 (x197).length c199,.ext (optX o_order_Log (some b179) cs189 (some (T_order_Log.mk x184.2.list x184.2.waiting x184.2.bound))),.box b107 135 [su x94.1,si a1,si (IntKind.i64.wrap a64.Id),sl p161 (y160).length c162],.box b70 38 [si a64.Kind,su a64.Id,su a64.N,su a64.TS,sg a64.Lo,sg a64.Hi,sl p65 (a64.Vers).length c66,sl p67 (a64.Vec).length c68,si a64.Cmd.Kind,si a64.Cmd.DC,si a64.Cmd.Shard,si a64.Cmd.Node,si a64.Cmd.Mode,sg a64.Cmd.Key],.box b62 87 [si a1,si a2,(1,cs3),si a4,si a5,si a6,sl p8 (a7.Cuts).length c9,sl p10 (a7.Nodes).length c11,(1,cs12),sl p14 (a13).length c15,(2,cs16),(1,[.pointer (pa p18)]),(1,[pt b179 0]),(1,[pt b77 0]),su (if x94.1 > a26 then x94.1 else a26),(4,(encs fPtr p28)),(8,cs30),(1,[.map p32]),(1,[.map p36]),sl p40 (a39).length c41,(1,[.map p43]),su a46,(1,[.pointer (pa p48)]),si a50,si a51,sl p53 (a52).length c54,(5,cs55),sl p57 (a56).length c58,sl p60 (a59).length c61],.tok p161 48 6 (y160).length c162,.tok p84 48 6 (x83).length c85,.tok p40 95 5 (a39).length c41,.tok p57 61 15 (a56).length c58,.tok p60 52 13 (a59).length c61,.ext (ownX fBool 4 p14 c15 a13),.ext (optX o_stab_Table p18 cs19 a17),.ext (arrX o_inbox_Box p28 cs29 a27),.ext (objX p32 (.map m33 c34)),.ext (objX p36 (.map m37 c38)),.ext (objX p43 (.map m44 c45)),.ext (optX o_gate_move p48 cs49 a47)])
 refine ⟨notE,?_⟩
 refine anpP [7] [0,5,7,10,124,125,126] hF notE fun a hF=>?_
 have hF:Fr (446) _ [(0,pt b62 0),(5,pt b70 0),(7,vu x94.1),(10,pt b107 0),(124,.slice p198 (x197).length c199),(125,vi ((x197).length:Int)),(126,vi 0)] a:=hF.kp [0,5,7,10,124,125,126]
 refine and_ ?_
 obtain ⟨cs201,hS⟩:=hS.foldI (ck:=c_coord_Table) (fs:=q_coord_Table) b77 (p192,m193,c194,p195,cs200) (T_coord_Table.mk x94.2.2.2.open_) [0,1,2] [3,4,5,6,7,8,9,10,11,12,13,14,15,16,17,18,19] [1] (by decide) (by kernel_rfl) (by kernel_rfl)
 refine hK191 _ _ ?_
 refine wpIn_block ?_
 refine loop_fuel (n:=N) (fun n a w => ∃(κ:Gh) (y252:List T_api_Mail) (p253:Option Addr) (c254:Nat) (y255:Int),Fr (446) [] [(0,pt b62 0),(5,pt b70 0),(7,vu x94.1),(10,pt b107 0),(124,.slice p198 (x197).length c199),(125,vi ((x197).length:Int)),(126,vi y255)] a∧SS Ms κ0 w0 κ w [.box b107 135 [su x94.1,si a1,si (IntKind.i64.wrap a64.Id),sl p161 (y160).length c162],.box b70 38 [si a64.Kind,su a64.Id,su a64.N,su a64.TS,sg a64.Lo,sg a64.Hi,sl p65 (a64.Vers).length c66,sl p67 (a64.Vec).length c68,si a64.Cmd.Kind,si a64.Cmd.DC,si a64.Cmd.Shard,si a64.Cmd.Node,si a64.Cmd.Mode,sg a64.Cmd.Key],.box b62 87 [si a1,si a2,(1,cs3),si a4,si a5,si a6,sl p8 (a7.Cuts).length c9,sl p10 (a7.Nodes).length c11,(1,cs12),sl p14 (a13).length c15,(2,cs16),(1,[.pointer (pa p18)]),(1,[pt b179 0]),(1,[pt b77 0]),su (if x94.1 > a26 then x94.1 else a26),(4,(encs fPtr p28)),(8,cs30),(1,[.map p32]),(1,[.map p36]),sl p40 (a39).length c41,(1,[.map p43]),su a46,(1,[.pointer (pa p48)]),si a50,si a51,sl p53 (a52).length c54,(5,cs55),sl p253 (y252).length c254,sl p60 (a59).length c61],.tok p253 61 15 (y252).length c254,.tok p198 3 1 (x197).length c199,.tok p161 48 6 (y160).length c162,.tok p40 95 5 (a39).length c41,.tok p60 52 13 (a59).length c61,.ext (ownX fBool 4 p14 c15 a13),.ext (optX o_stab_Table p18 cs19 a17),.ext (optX o_order_Log (some b179) cs189 (some (T_order_Log.mk x184.2.list x184.2.waiting x184.2.bound))),.ext (optX o_coord_Table (some b77) cs201 (some (T_coord_Table.mk x94.2.2.2.open_))),.ext (arrX o_inbox_Box p28 cs29 a27),.ext (objX p32 (.map m33 c34)),.ext (objX p36 (.map m37 c38)),.ext (objX p43 (.map m44 c45)),.ext (optX o_gate_move p48 cs49 a47)] [Ro.mp fStr.ty p8 c9 a7.Cuts,Ro.mp (fInt .i64).ty p10 c11 a7.Nodes,ml p28 4,Map.mp (kInt .u64) false (fInt .i64).ty p32 m33 c34 a31,Map.mp (kInt .u64) true t_gate_call p36 m37 c38 a35,Ro.mp t_gate_call p40 c41 a39,Map.mp (kInt .u64) true t_gate_load p43 m44 c45 a42,Ro.mp (fInt .u64).ty p53 c54 a52,Ro.mp t_api_Mail p253 c254 y252,Ro.mp f_gate_Reply.ty p60 c61 a59,Ro.mp (fInt .i64).ty p198 c199 x197,Ro.mp f_api_Ver.ty p161 c162 y160,Ro.mp f_api_Ver.ty p65 c66 a64.Vers,Ro.mp (fInt .u64).ty p67 c68 a64.Vec]∧M.gate_Gate_answered_L2 N n a1 a2 a4 a5 a6 a7 a13 a17 a26 a27 a31 a35 a39 a42 a46 a47 a50 a51 a52 a59 a64 x94 y160 x184 x197 y252 y255=some r) ?_ ?_
 exact ⟨_,a56,p57,c58,0,hF.kp [0,5,7,10,124,125,126],hS.sp [3,4,5,9,1,6,8,10,11,12,2,0,13,14,15,16,17] [6,7,8,9,10,11,12,13,14,15,0,17,18,19],H⟩
 rintro n a w ⟨κ,y252,p253,c254,y255,hF,hS,H⟩
 rcases n with _|fuel2
 simp [M.gate_Gate_answered_L2] at H
 simp only [M.gate_Gate_answered_L2] at H
 refine wpIn_seq_k fun K256 hK256=>?_
 refine wpIn_region_lit ?_
 refine wl_pure (L':=[(0,pt b62 0),(5,pt b70 0),(7,vu x94.1),(10,pt b107 0),(124,.slice p198 (x197).length c199),(125,vi ((x197).length:Int)),(126,vi y255),(127,vb (decide (y255<((x197).length:Int))))]) 1 [0,5,7,10,124,125,126,127] hF (by kernel_rfl) fun a hF=>?_
 refine wpListIn_nil ?_
 refine hK256 _ _ ?_
 refine wpIn_seq_k fun K257 hK257=>?_
 refine bif_split H (fun hb H=>?_) (fun hb H=>?_)
 refine cond_t hF (by kernel_rfl) hb ?_
 refine wpIn_skip ?_
 refine hK257 _ _ ?_
 refine wpIn_seq_k fun K258 hK258=>?_
 refine wpIn_block ?_
 refine wpIn_seq_k fun K259 hK259=>?_
 refine wpIn_region_lit ?_
 refine bind_split H (fun x260 hx260 H=>?_)
 refine wc (wo_index hF hS (by kernel_rfl) 10 (E:=3) (sz:=1) rfl rfl rfl (by kernel_rfl) rfl hx260 (by kernel_rfl) (by kernel_rfl) fun b261 f262 a hpx260 hF=>?_)
 refine wc (wo_loadRo (t:=(fInt .i64)) hF hS (by kernel_rfl) 10 0 (v:=vi x260) rfl rfl hpx260 rfl hx260 (by kernel_rfl) (by kernel_rfl) (by kernel_rfl) fun a hF=>?_)
 refine wp 1 [0,5,7,10,14,124,125,126] hF fun a hF=>?_
 refine wpListIn_nil ?_
 refine hK259 _ _ ?_
 refine wpIn_region_lit ?_
 refine wp 3 [0,5,7,10,124,125,126,130,131,132] hF fun a hF=>?_
 refine wc (wld hF hS 1 1 0 fun a hF=>?_)
 refine wp 2 [0,5,7,10,124,125,126,130,131,135] hF fun a hF=>?_
 have hS:=hS.add (m:=Ro.mp f_api_Ver.ty none 0 ([]:List T_api_Ver)) (Ro.nil f_api_Ver.ty _ _)
 have hS:=hS.add (m:=Ro.mp (fInt .u64).ty none 0 ([]:List Int)) (Ro.nil (fInt .u64).ty _ _)
 refine bind_split H (fun x263 hx263 H=>?_)
 have hgx2630:=hS.segs 2 rfl
 refine wc (wcS 2 [2,3,0,1,4,5,6,7,8,9,10,11,12,13,14,15,16] hF hS (fun hS=>C_gate_Gate_tell N a1 y252 x260 (T_api_Msg.mk 2 a64.Id 0 x94.1 ByteArray.empty ByteArray.empty ([]:List T_api_Ver) ([]:List Int) (T_api_Cmd.mk 0 0 0 0 0 ByteArray.empty)) (flat [si a2,(1,cs3),si a4,si a5,si a6,sl p8 (a7.Cuts).length c9,sl p10 (a7.Nodes).length c11,(1,cs12),sl p14 (a13).length c15,(2,cs16),(1,[.pointer (pa p18)]),(1,[pt b179 0]),(1,[pt b77 0]),su (if x94.1 > a26 then x94.1 else a26),(4,(encs fPtr p28)),(8,cs30),(1,[.map p32]),(1,[.map p36]),sl p40 (a39).length c41,(1,[.map p43]),su a46,(1,[.pointer (pa p48)]),si a50,si a51,sl p53 (a52).length c54,(5,cs55)]) p253 c254 [.slice p60 (a59).length c61] none 0 none 0 b62 ((hS.regr 0 [(false,1),(true,26),(false,2)] rfl).sbK [10,1,0]) hx263) ?_)
 rintro _ κ w a ⟨p264,c265,rfl,h2⟩ hF hB
 have hS:=(hB _ _ h2).unregrK 0 [(false,1),(true,26),(false,2)] (s':=[si a1,si a2,(1,cs3),si a4,si a5,si a6,sl p8 (a7.Cuts).length c9,sl p10 (a7.Nodes).length c11,(1,cs12),sl p14 (a13).length c15,(2,cs16),(1,[.pointer (pa p18)]),(1,[pt b179 0]),(1,[pt b77 0]),su (if x94.1 > a26 then x94.1 else a26),(4,(encs fPtr p28)),(8,cs30),(1,[.map p32]),(1,[.map p36]),sl p40 (a39).length c41,(1,[.map p43]),su a46,(1,[.pointer (pa p48)]),si a50,si a51,sl p53 (a52).length c54,(5,cs55),sl p264 (x263).length c265,sl p60 (a59).length c61]) hgx2630 rfl
 refine wpListIn_nil ?_
 refine hK258 _ _ ?_
 refine wpIn_region_lit ?_
 refine wp 2 [0,5,7,10,124,125,126] hF fun a hF=>?_
 refine wpListIn_nil ?_
 exact ⟨fuel2,Nat.lt_succ_self _,_,x263,p264,c265,IntKind.i64.wrap (y255+1),hF.kp [0,5,7,10,124,125,126],hS.sp [2,3,0,1,4,5,6,7,8,9,10,11,12,13,14,15,16] [3,4,5,6,7,8,9,10,0,12,13,14,15,16],H⟩
 refine cond_f hF (by kernel_rfl) hb ?_
 refine wpIn_exit ?_
 refine hK190 _ _ ?_
 refine rgS hS [24] ?_
 have hS:=hS.drew
 refine bind_split H (fun x266 hx266 H=>?_)
 refine bind_split H (fun x268 hx268 H=>?_)
 refine any_pure [0,1,2,3,5,6,7,9,12,14,16] [138,141,145,147,150,152,154] (L':=[(138,pt b62 0),(141,pt b62 43),(145,pt b62 28),(147,pt b70 1),(150,pt b107 0),(152,pt b107 1),(154,pt b107 2)]) (listed':=(bitA 25 86767)) (fuel:=14) hF (hS.sx [0,1,2,8,9,10,11,12,13,14,15,16] (rg 14)) (by kernel_rfl) (by intro c a w t v h; cases t<;>exact h) (by kernel_rfl) rfl fun a hF=>?_
 refine atk 4 (some 142) hF (hS.sx [0,1,2,8,9,10,11,12,13,14,15,16] (rg 14)) rfl (vld 2 28 0) fun a hF=>?_
 refine atk 8 (some 146) hF (hS.sx [0,1,2,8,9,10,11,12,13,14,15,16] (rg 14)) rfl (vld 2 17 0) fun a hF=>?_
 refine atk 10 (some 148) hF (hS.sx [0,1,2,8,9,10,11,12,13,14,15,16] (rg 14)) rfl (vld 1 1 0) fun a hF=>?_
 obtain ⟨_,rfl,hvx266⟩:=lookup_val (P:=Tryz.prog) (KT:=32) (E:=3) (kt:=(kInt .u64)) (agg:=false) (t:=(fInt .i64).ty) (L:=[(138,pt b62 0),(141,pt b62 43),(142,.slice p60 (a59).length c61),(145,pt b62 28),(146,.map p32),(147,pt b70 1),(148,vu a64.Id),(150,pt b107 0),(152,pt b107 1),(154,pt b107 2)]) (o:=⟨(some 149),(Go.Op.lookup 76 (Go.Operand.tmp 146) (Go.Operand.tmp 148) false),3,"gate.go:372",#[(Go.Edge.mk 8 Go.Ground.data),(Go.Edge.mk 10 Go.Ground.data)],none⟩) hS 3 (k:=a64.Id) (zc:=flat [si 0]) (zm:=0) rfl (by kernel_rfl) (by kernel_rfl) rfl hx266 (by kernel_rfl) (by kernel_rfl) (by kernel_rfl) (fun _ _=>rfl)
 refine atk 11 (some 149) hF (hS.sx [0,1,2,8,9,10,11,12,13,14,15,16] (rg 14)) rfl (fun w hw=>hvx266 8 rfl w hw) fun a hF=>?_
 refine atk 13 (some 151) hF (hS.sx [0,1,2,8,9,10,11,12,13,14,15,16] (rg 14)) rfl (vld 0 0 0) fun a hF=>?_
 refine atk 15 (some 153) hF (hS.sx [0,1,2,8,9,10,11,12,13,14,15,16] (rg 14)) rfl (vld 0 1 0) fun a hF=>?_
 refine atk 17 (some 155) hF (hS.sx [0,1,2,8,9,10,11,12,13,14,15,16] (rg 14)) rfl (vld 0 2 0) fun a hF=>?_
 refine any_pure [18,19] [138,142,157] (L':=[(138,pt b62 0),(142,.slice p60 (a59).length c61),(157,.agg (flat [si x266.1,si 2,sb false,sb false,sg ByteArray.empty,sg ByteArray.empty,sb false,su 0,si 0,si 0,su x94.1,si a1,si (IntKind.i64.wrap a64.Id)]).toArray)]) (listed':=(bitA 25 1048575)) (fuel:=5) hF (hS.sx [0,1,2,8,9,10,11,12,13,14,15,16] (rg 14)) (by kernel_rfl) (by intro c a w t v h; cases t<;>exact h) (by kernel_rfl) rfl fun a hF=>?_
 refine ago 20 hF rfl ?_
 refine wo_buildN (t:=f_gate_Reply) (z := .agg (flat [si 0,si 0,sb false,sb false,sg ByteArray.empty,sg ByteArray.empty,sb false,su 0,si 0,si 0,su 0,si 0,si 0]).toArray) (l:=[(T_gate_Reply.mk x266.1 2 false false (T_api_Ver.mk ByteArray.empty ByteArray.empty false 0 0 0) (T_api_Mark.mk x94.1 a1 (IntKind.i64.wrap a64.Id)))]) (vs:=[(0,.agg (flat [si x266.1,si 2,sb false,sb false,sg ByteArray.empty,sg ByteArray.empty,sb false,su 0,si 0,si 0,su x94.1,si a1,si (IntKind.i64.wrap a64.Id)]).toArray)]) (cells := #[vi x266.1,vi 2,vb false,vb false,.string (ByteArray.empty),.string (ByteArray.empty),vb false,vu 0,vi 0,vi 0,vu x94.1,vi a1,vi (IntKind.i64.wrap a64.Id)]) (E:=52) hF hS (by kernel_rfl) rfl (by kernel_rfl) (by kernel_rfl) rfl (by kernel_rfl) (by kernel_rfl) (by kernel_rfl) (by kernel_rfl) (by kernel_rfl) fun p267 κ a w hF hS=>?_
 refine ⟨fun _=>(hS.sx [1,2,3,9,10,11,12,13,14,15,16,17] [1,2,3,4,5,6,7,8,9,10,11,12,13,14]),?_⟩
 refine ago 21 hF rfl ?_
 refine wo_append (ty:=f_gate_Reply.ty) hF hS (by kernel_rfl) 8 10 0 rfl rfl rfl (by kernel_rfl) (by kernel_rfl) rfl rfl rfl hx268 (by kernel_rfl) (i:=Tryz.t52) (z := .agg (flat [si 0,si 0,sb false,sb false,sg ByteArray.empty,sg ByteArray.empty,sb false,su 0,si 0,si 0,su 0,si 0,si 0]).toArray) (by kernel_rfl) (by kernel_rfl) (by kernel_rfl) fun p269 c270 κ a w hF hS=>?_
 refine ⟨fun _=>(hS.sx [1,2,3,9,10,11,12,13,14,15,16,17] [2,3,4,5,6,7,8,9,10,11,12,13,14,15]),?_⟩
 refine anp [22,23] [159,161] hF (hS.sx [1,2,3,9,10,11,12,13,14,15,16,17] [2,3,4,5,6,7,8,9,10,11,12,13,14,15]) fun a hF=>?_
 refine ago 24 hF rfl ?_
 refine wst hF hS 3 28 1 [sl p269 (x268).length c270] (sgN 1 sgNil) fun a w hF hS=>?_
 refine ⟨notE,?_⟩
 refine and_ ?_
 cases H
 exact ret_done hF hS (res0 Tryz.results33) ⟨p8,c9,p10,c11,(some b179),cs189,(some b77),cs201,p32,m33,c34,p36,m37,c38,p40,c41,p48,cs49,p253,c254,p269,c270,cs19,cs29,rfl,hS.sp [3,7,4,8,9,10,11,12,13,14,15,16,17] [2,3,5,6,7,10,0]⟩
 refine cond_f hF (by kernel_rfl) hb ?_
 refine wpIn_seq_k fun K271 hK271=>?_
 refine wpIn_region_lit ?_
 refine wl_pure (L':=[(0,pt b62 0),(1,vi a63),(5,pt b70 0),(26,vi a64.Kind),(162,vb (a64.Kind==12))]) 2 [0,1,5,26,162] hF (by kernel_rfl) fun a hF=>?_
 refine wpListIn_nil ?_
 refine hK271 _ _ ?_
 refine bif_split H (fun hb H=>?_) (fun hb H=>?_)
 refine cond_t hF (by kernel_rfl) hb ?_
 refine wpIn_seq_k fun K272 hK272=>?_
 refine bind_split H (fun x273 ho H=>?_)
 obtain ⟨b274,hpq,hS⟩:=hS.optS 8 rfl ho
 rw [hpq] at hS
 try rw [hpq] at hF
 obtain ⟨⟨p275,m276,c277,p278,cs279⟩,hS⟩:=hS.unfI (ck:=c_coord_Table) (fs:=q_coord_Table) 8 rfl
 refine rgX hS [3,4,8,9,10,11,12,13,14,15] ?_
 have hS:=hS.drew
 refine anp [0,1,2,4,6] [0,5,167,169,171] hF (hS.sx [3,4,8,9,10,11,12,13,14,15] (rg 13)) fun a hF=>?_
 refine atk 3 (some 168) hF (hS.sx [3,4,8,9,10,11,12,13,14,15] (rg 13)) rfl (vld 1 13 0) fun a hF=>?_
 refine atk 5 (some 170) hF (hS.sx [3,4,8,9,10,11,12,13,14,15] (rg 13)) rfl (vld 0 1 0) fun a hF=>?_
 refine ago 7 hF rfl ?_
 refine bind_split H (fun x280 hx280 H=>?_)
 refine wcS 3 (rg 16) hF hS (fun hS=>C_coord_Table_End N (T_coord_Table.mk x273.open_) a64.Id a63 p275 m276 c277 p278 cs279 b274 (hS.sbK [0]) hx280) ?_
 rintro _ κ w a ⟨p281,m282,c283,p284,cs285,rfl,h2⟩ hF hB
 have hS:=hB _ _ h2
 refine ⟨fun _=>(hS.sx [3,4,8,9,10,11,12,13,14,15] [1,2,3,4,5,6,7,8,9,10,11,12,13]),?_⟩
 refine anp [8,9,10,11,12] [0,5,15] hF (hS.sx [3,4,8,9,10,11,12,13,14,15] [1,2,3,4,5,6,7,8,9,10,11,12,13]) fun a hF=>?_
 refine and_ ?_
 obtain ⟨cs286,hS⟩:=hS.foldI (ck:=c_coord_Table) (fs:=q_coord_Table) b274 (p281,m282,c283,p284,cs285) (T_coord_Table.mk x280.2.2.open_) [0,1,2] [3,4,5,6,7,8,9,10,11,12,13,14,15] [0] (by decide) (by kernel_rfl) (by kernel_rfl)
 refine hK272 _ _ ?_
 refine wpIn_seq_k fun K287 hK287=>?_
 refine wpIn_region_lit ?_
 refine wp 1 [0,5,175] hF fun a hF=>?_
 refine wpListIn_nil ?_
 refine hK287 _ _ ?_
 refine bif_split H (fun hb H=>?_) (fun hb H=>?_)
 refine cond_t hF (by kernel_rfl) hb ?_
 refine wpIn_seq_k fun K288 hK288=>?_
 refine rgS hS [17] ?_
 have hS:=hS.drew
 refine bind_split H (fun x289 hx289 H=>?_)
 refine bind_split H (fun x291 hx291 H=>?_)
 refine any_pure [0,1,2,3,5,6,7,9] [0,5,176,179,183,185] (L':=[(0,pt b62 0),(5,pt b70 0),(176,pt b62 0),(179,pt b62 43),(183,pt b62 28),(185,pt b70 1)]) (listed':=(bitA 18 751)) (fuel:=10) hF (hS.sx [0,1,2,6,7,8,9,10,11,12,13] (rg 14)) (by kernel_rfl) (by intro c a w t v h; cases t<;>exact h) (by kernel_rfl) rfl fun a hF=>?_
 refine atk 4 (some 180) hF (hS.sx [0,1,2,6,7,8,9,10,11,12,13] (rg 14)) rfl (vld 2 28 0) fun a hF=>?_
 refine atk 8 (some 184) hF (hS.sx [0,1,2,6,7,8,9,10,11,12,13] (rg 14)) rfl (vld 2 17 0) fun a hF=>?_
 refine atk 10 (some 186) hF (hS.sx [0,1,2,6,7,8,9,10,11,12,13] (rg 14)) rfl (vld 1 1 0) fun a hF=>?_
 obtain ⟨_,rfl,hvx289⟩:=lookup_val (P:=Tryz.prog) (KT:=32) (E:=3) (kt:=(kInt .u64)) (agg:=false) (t:=(fInt .i64).ty) (L:=[(0,pt b62 0),(5,pt b70 0),(176,pt b62 0),(179,pt b62 43),(180,.slice p60 (a59).length c61),(183,pt b62 28),(184,.map p32),(185,pt b70 1),(186,vu a64.Id)]) (o:=⟨(some 187),(Go.Op.lookup 76 (Go.Operand.tmp 184) (Go.Operand.tmp 186) false),3,"gate.go:375",#[(Go.Edge.mk 8 Go.Ground.data),(Go.Edge.mk 10 Go.Ground.data)],none⟩) hS 5 (k:=a64.Id) (zc:=flat [si 0]) (zm:=0) rfl (by kernel_rfl) (by kernel_rfl) rfl hx289 (by kernel_rfl) (by kernel_rfl) (by kernel_rfl) (fun _ _=>rfl)
 refine atk 11 (some 187) hF (hS.sx [0,1,2,6,7,8,9,10,11,12,13] (rg 14)) rfl (fun w hw=>hvx289 7 rfl w hw) fun a hF=>?_
 refine any_pure [12] [0,5,176,180,188] (L':=[(0,pt b62 0),(5,pt b70 0),(176,pt b62 0),(180,.slice p60 (a59).length c61),(188,.agg (flat [si x289.1,si 3,sb false,sb false,sg ByteArray.empty,sg ByteArray.empty,sb false,su 0,si 0,si 0,su 0,si 0,si 0]).toArray)]) (listed':=(bitA 18 8191)) (fuel:=5) hF (hS.sx [0,1,2,6,7,8,9,10,11,12,13] (rg 14)) (by kernel_rfl) (by intro c a w t v h; cases t<;>exact h) (by kernel_rfl) rfl fun a hF=>?_
 refine ago 13 hF rfl ?_
 refine wo_buildN (t:=f_gate_Reply) (z := .agg (flat [si 0,si 0,sb false,sb false,sg ByteArray.empty,sg ByteArray.empty,sb false,su 0,si 0,si 0,su 0,si 0,si 0]).toArray) (l:=[(T_gate_Reply.mk x289.1 3 false false (T_api_Ver.mk ByteArray.empty ByteArray.empty false 0 0 0) (T_api_Mark.mk 0 0 0))]) (vs:=[(0,.agg (flat [si x289.1,si 3,sb false,sb false,sg ByteArray.empty,sg ByteArray.empty,sb false,su 0,si 0,si 0,su 0,si 0,si 0]).toArray)]) (cells := #[vi x289.1,vi 3,vb false,vb false,.string (ByteArray.empty),.string (ByteArray.empty),vb false,vu 0,vi 0,vi 0,vu 0,vi 0,vi 0]) (E:=52) hF hS (by kernel_rfl) rfl (by kernel_rfl) (by kernel_rfl) rfl (by kernel_rfl) (by kernel_rfl) (by kernel_rfl) (by kernel_rfl) (by kernel_rfl) fun p290 κ a w hF hS=>?_
 refine ⟨fun _=>(hS.sx [1,2,3,7,8,9,10,11,12,13,14] [1,2,3,4,5,6,7,8,9,10,11,12,13,14]),?_⟩
 refine ago 14 hF rfl ?_
 refine wo_append (ty:=f_gate_Reply.ty) hF hS (by kernel_rfl) 6 12 0 rfl rfl rfl (by kernel_rfl) (by kernel_rfl) rfl rfl rfl hx291 (by kernel_rfl) (i:=Tryz.t52) (z := .agg (flat [si 0,si 0,sb false,sb false,sg ByteArray.empty,sg ByteArray.empty,sb false,su 0,si 0,si 0,su 0,si 0,si 0]).toArray) (by kernel_rfl) (by kernel_rfl) (by kernel_rfl) fun p292 c293 κ a w hF hS=>?_
 refine ⟨fun _=>(hS.sx [1,2,3,7,8,9,10,11,12,13,14] [2,3,4,5,6,7,8,9,10,11,12,13,14,15]),?_⟩
 refine any_pure [15,16] [0,5,190,192] (L':=[(0,pt b62 0),(5,pt b70 0),(190,.slice p292 (x291).length c293),(192,pt b62 43)]) (listed':=(bitA 18 131071)) (fuel:=1) hF (hS.sx [1,2,3,7,8,9,10,11,12,13,14] [2,3,4,5,6,7,8,9,10,11,12,13,14,15]) (by kernel_rfl) (by intro c a w t v h; cases t<;>exact h) (by kernel_rfl) rfl fun a hF=>?_
 refine ago 17 hF rfl ?_
 refine wst hF hS 3 28 1 [sl p292 (x291).length c293] (sgN 1 sgNil) fun a w hF hS=>?_
 refine ⟨notE,?_⟩
 refine and_ ?_
 refine hK288 _ _ ?_
 have hS:=hS.cC (C':=[.tok p290 52 13 ([(T_gate_Reply.mk x289.1 3 false false (T_api_Ver.mk ByteArray.empty ByteArray.empty false 0 0 0) (T_api_Mark.mk 0 0 0))]).length 1,.ext (optX o_coord_Table (some b274) cs286 (some (T_coord_Table.mk x280.2.2.open_))),.box b70 38 [si a64.Kind,su a64.Id,su a64.N,su a64.TS,sg a64.Lo,sg a64.Hi,sl p65 (a64.Vers).length c66,sl p67 (a64.Vec).length c68,si a64.Cmd.Kind,si a64.Cmd.DC,si a64.Cmd.Shard,si a64.Cmd.Node,si a64.Cmd.Mode,sg a64.Cmd.Key],.box b62 87 [si a1,si a2,(1,cs3),si a4,si a5,si a6,sl p8 (a7.Cuts).length c9,sl p10 (a7.Nodes).length c11,(1,cs12),sl p14 (a13).length c15,(2,cs16),(1,[.pointer (pa p18)]),(1,[.pointer (pa p21)]),(1,[pt b274 0]),su a26,(4,(encs fPtr p28)),(8,cs30),(1,[.map p32]),(1,[.map p36]),sl p40 (a39).length c41,(1,[.map p43]),su a46,(1,[.pointer (pa p48)]),si a50,si a51,sl p53 (a52).length c54,(5,cs55),sl p57 (a56).length c58,sl p292 (x291).length c293],.tok p40 95 5 (a39).length c41,.tok p57 61 15 (a56).length c58,.tok p292 52 13 (x291).length c293,.ext (ownX fBool 4 p14 c15 a13),.ext (optX o_stab_Table p18 cs19 a17),.ext (optX o_order_Log p21 cs22 a20),.ext (arrX o_inbox_Box p28 cs29 a27),.ext (objX p32 (.map m33 c34)),.ext (objX p36 (.map m37 c38)),.ext (objX p43 (.map m44 c45)),.ext (optX o_gate_move p48 cs49 a47)])
 refine rgX hS [1,2,3,7,8,9,10,12,13,14] ?_
 have hS:=hS.drew
 refine any_pure [0,1,2,4] [195,197] (L':=[(195,pt b62 28),(197,pt b70 1)]) (listed':=(bitA 7 23)) (fuel:=3) hF (hS.sx [1,2,3,7,8,9,10,12,13,14] (rg 16)) (by kernel_rfl) (by intro c a w t v h; cases t<;>exact h) (by kernel_rfl) rfl fun a hF=>?_
 refine atk 3 (some 196) hF (hS.sx [1,2,3,7,8,9,10,12,13,14] (rg 16)) rfl (vld 2 17 0) fun a hF=>?_
 refine atk 5 (some 198) hF (hS.sx [1,2,3,7,8,9,10,12,13,14] (rg 16)) rfl (vld 1 1 0) fun a hF=>?_
 refine ago 6 hF rfl ?_
 refine wo_delete (KT:=32) (E:=3) (kt:=(kInt .u64)) (agg:=false) (t:=(fInt .i64).ty) hF hS (by kernel_rfl) 11 7 (k:=a64.Id) rfl (by kernel_rfl) (by kernel_rfl) rfl rfl (by kernel_rfl) (by kernel_rfl) fun m294 a w hsub hF hS=>?_
 refine ⟨fun _=>(hS.sx [1,2,3,7,8,9,10,12,13,14] [1,2,3,4,5,6,7,8,9,10,11,12,13,14,15,16]),?_⟩
 refine and_ ?_
 cases H
 exact ret_done hF hS (res0 Tryz.results33) ⟨p8,c9,p10,c11,p21,cs22,(some b274),cs286,p32,m294,c34,p36,m37,c38,p40,c41,p48,cs49,p57,c58,p292,c293,cs19,cs29,rfl,hS.sp [3,4,5,6,7,8,9,1,10,11,12,13,14] [5,6,0,9,10,13,1]⟩
 refine cond_f hF (by kernel_rfl) hb ?_
 refine wpIn_skip ?_
 cases H
 exact ret_done hF hS (res0 Tryz.results33) ⟨p8,c9,p10,c11,p21,cs22,(some b274),cs286,p32,m33,c34,p36,m37,c38,p40,c41,p48,cs49,p57,c58,p60,c61,cs19,cs29,rfl,hS.sp [2,3,4,5,6,7,8,0,9,10,11,12,13] [2,3,5,6,7,10,11]⟩
 refine cond_f hF (by kernel_rfl) hb ?_
 refine wpIn_seq_k fun K295 hK295=>?_
 refine wpIn_region_lit ?_
 refine wp 2 [0,1,5,26,199] hF fun a hF=>?_
 refine wpListIn_nil ?_
 refine hK295 _ _ ?_
 refine bif_split H (fun hb H=>?_) (fun hb H=>?_)
 refine cond_t hF (by kernel_rfl) hb ?_
 refine wpIn_seq_k fun K296 hK296=>?_
 cases H
 refine cond_f hF (by kernel_rfl) hb ?_
 refine wpIn_seq_k fun K297 hK297=>?_
 refine wpIn_region_lit ?_
 refine wp 2 [0,1,5,26,251] hF fun a hF=>?_
 refine wpListIn_nil ?_
 refine hK297 _ _ ?_
 refine bif_split H (fun hb H=>?_) (fun hb H=>?_)
 refine cond_t hF (by kernel_rfl) hb ?_
 refine wpIn_seq_k fun K298 hK298=>?_
 cases H
 refine cond_f hF (by kernel_rfl) hb ?_
 refine wpIn_seq_k fun K299 hK299=>?_
 refine wpIn_region_lit ?_
 refine wp 2 [0,1,5,26,327] hF fun a hF=>?_
 refine wpListIn_nil ?_
 refine hK299 _ _ ?_
 refine bif_split H (fun hb H=>?_) (fun hb H=>?_)
 refine cond_t hF (by kernel_rfl) hb ?_
 refine wpIn_region_lit ?_
 refine wp 1 [5,329] hF fun a hF=>?_
 refine wc (wls hF hS 0 0 14 fun a hF=>?_)
 refine bind_split H (fun x300 hx300 H=>?_)
 have hgx3000:=hS.segs 1 rfl
 refine wc (wcS 3 [1,3,13,0,2,4,5,6,7,8,9,10,11,12] hF hS (fun hS=>C_gate_Gate_data N a1 a47 a50 a51 a52 a56 (T_api_Msg.mk a64.Kind a64.Id a64.N a64.TS a64.Lo a64.Hi a64.Vers a64.Vec (T_api_Cmd.mk a64.Cmd.Kind a64.Cmd.DC a64.Cmd.Shard a64.Cmd.Node a64.Cmd.Mode a64.Cmd.Key)) (flat [si a2,(1,cs3),si a4,si a5,si a6,sl p8 (a7.Cuts).length c9,sl p10 (a7.Nodes).length c11,(1,cs12),sl p14 (a13).length c15,(2,cs16),(1,[.pointer (pa p18)]),(1,[.pointer (pa p21)]),(1,[.pointer (pa p24)]),su a26,(4,(encs fPtr p28)),(8,cs30),(1,[.map p32]),(1,[.map p36]),sl p40 (a39).length c41,(1,[.map p43]),su a46]) p48 cs49 p53 c54 cs55 p57 c58 [.slice p60 (a59).length c61] p65 c66 p67 c68 b62 ((hS.regr 0 [(false,1),(true,21),(false,7)] rfl).sbK [7,8,10,11]) hx300) ?_)
 rintro _ κ w a ⟨p301,cs302,p303,c304,rfl,h2⟩ hF hB
 have hS:=(hB _ _ h2).unregrK 0 [(false,1),(true,21),(false,7)] (s':=[si a1,si a2,(1,cs3),si a4,si a5,si a6,sl p8 (a7.Cuts).length c9,sl p10 (a7.Nodes).length c11,(1,cs12),sl p14 (a13).length c15,(2,cs16),(1,[.pointer (pa p18)]),(1,[.pointer (pa p21)]),(1,[.pointer (pa p24)]),su a26,(4,(encs fPtr p28)),(8,cs30),(1,[.map p32]),(1,[.map p36]),sl p40 (a39).length c41,(1,[.map p43]),su a46,(1,[.pointer (pa p301)]),si a50,si a51,sl p53 (a52).length c54,(5,cs55),sl p303 (x300.2).length c304,sl p60 (a59).length c61]) hgx3000 rfl
 refine wpListIn_nil ?_
 cases H
 exact ret_done hF hS (res0 Tryz.results33) ⟨p8,c9,p10,c11,p21,cs22,p24,cs25,p32,m33,c34,p36,m37,c38,p40,c41,p301,cs302,p303,c304,p60,c61,cs19,cs29,rfl,hS.sp [0,4,1,5,6,7,8,9,10,11,12,13,2] [1,2,4,5,6,0,10]⟩
 refine cond_f hF (by kernel_rfl) hb ?_
 refine wpIn_seq_k fun K305 hK305=>?_
 refine wpIn_region_lit ?_
 refine wl_pure (L':=[(0,pt b62 0),(1,vi a63),(5,pt b70 0),(26,vi a64.Kind),(332,vb (a64.Kind==16))]) 2 [0,1,5,26,332] hF (by kernel_rfl) fun a hF=>?_
 refine wpListIn_nil ?_
 refine hK305 _ _ ?_
 refine bif_split H (fun hb H=>?_) (fun hb H=>?_)
 refine cond_t hF (by kernel_rfl) hb ?_
 refine wpIn_seq_k fun K306 hK306=>?_
 refine bind_split H (fun v311 hv311 H=>?_)
 refine code_join (fun a w => ∃(κ:Gh) (p307:Option Nat) (cs308:List Nat),Fr (446) [] [(0,pt b62 0),(359,vb v311.2)] a∧SS Ms κ0 w0 κ w [.box b62 87 [si a1,si a2,(1,cs3),si a4,si a5,si a6,sl p8 (a7.Cuts).length c9,sl p10 (a7.Nodes).length c11,(1,cs12),sl p14 (a13).length c15,(2,cs16),(1,[.pointer (pa p18)]),(1,[.pointer (pa p21)]),(1,[.pointer (pa p24)]),su a26,(4,(encs fPtr p28)),(8,cs30),(1,[.map p32]),(1,[.map p36]),sl p40 (a39).length c41,(1,[.map p43]),su a46,(1,[.pointer (pa p307)]),si a50,si a51,sl p53 (a52).length c54,(5,cs55),sl p57 (a56).length c58,sl p60 (a59).length c61],.tok p40 95 5 (a39).length c41,.tok p57 61 15 (a56).length c58,.tok p60 52 13 (a59).length c61,.ext (ownX fBool 4 p14 c15 a13),.ext (optX o_stab_Table p18 cs19 a17),.ext (optX o_order_Log p21 cs22 a20),.ext (optX o_coord_Table p24 cs25 a23),.ext (arrX o_inbox_Box p28 cs29 a27),.ext (objX p32 (.map m33 c34)),.ext (objX p36 (.map m37 c38)),.ext (objX p43 (.map m44 c45)),.ext (optX o_gate_move p307 cs308 v311.1)] [Ro.mp fStr.ty p8 c9 a7.Cuts,Ro.mp (fInt .i64).ty p10 c11 a7.Nodes,ml p28 4,Map.mp (kInt .u64) false (fInt .i64).ty p32 m33 c34 a31,Map.mp (kInt .u64) true t_gate_call p36 m37 c38 a35,Ro.mp t_gate_call p40 c41 a39,Map.mp (kInt .u64) true t_gate_load p43 m44 c45 a42,Ro.mp (fInt .u64).ty p53 c54 a52,Ro.mp t_api_Mail p57 c58 a56,Ro.mp f_gate_Reply.ty p60 c61 a59]∧True) ?_ ?_
 refine opt_split hv311 (fun ho hv311=>?_) (fun x312 ho hv311=>?_)
 obtain ⟨hpq,hS⟩:=hS.optN 13 rfl ho
 rw [hpq] at hS
 try rw [hpq] at hF
 refine wpIn_region_lit ?_
 refine wp 3 [0,1,336] hF fun a hF=>?_
 refine wc (wld hF hS 1 22 0 fun a hF=>?_)
 refine wp 22 [0,359] hF fun a hF=>?_
 refine wpListIn_nil ?_
 cases hv311
 exact ⟨_,none,[],hF.kp [0,359],hS.sp [1,2,3,4,5,6,7,8,9,10,11,12,13] (rg 10),trivial⟩
 obtain ⟨b313,hpq,hS⟩:=hS.optS 13 rfl ho
 rw [hpq] at hS
 try rw [hpq] at hF
 obtain ⟨_,hS⟩:=hS.unfI (ck:=c_gate_move) (fs:=q_gate_move) 13 rfl
 refine wpIn_region_lit ?_
 refine bind_split hv311 (fun v316 hv316 hv311=>?_)
 refine wl_join (fun a w => ∃(κ:Gh) (cs314:List Nat),Fr (446) [] [(0,pt b62 0),(359,vb v316)] a∧SS Ms κ0 w0 κ w [.box b62 87 [si a1,si a2,(1,cs3),si a4,si a5,si a6,sl p8 (a7.Cuts).length c9,sl p10 (a7.Nodes).length c11,(1,cs12),sl p14 (a13).length c15,(2,cs16),(1,[.pointer (pa p18)]),(1,[.pointer (pa p21)]),(1,[.pointer (pa p24)]),su a26,(4,(encs fPtr p28)),(8,cs30),(1,[.map p32]),(1,[.map p36]),sl p40 (a39).length c41,(1,[.map p43]),su a46,(1,[pt b313 0]),si a50,si a51,sl p53 (a52).length c54,(5,cs55),sl p57 (a56).length c58,sl p60 (a59).length c61],.tok p40 95 5 (a39).length c41,.tok p57 61 15 (a56).length c58,.tok p60 52 13 (a59).length c61,.ext (ownX fBool 4 p14 c15 a13),.ext (optX o_stab_Table p18 cs19 a17),.ext (optX o_order_Log p21 cs22 a20),.ext (optX o_coord_Table p24 cs25 a23),.ext (arrX o_inbox_Box p28 cs29 a27),.ext (objX p32 (.map m33 c34)),.ext (objX p36 (.map m37 c38)),.ext (objX p43 (.map m44 c45)),.ext (optX o_gate_move (some b313) cs314 (some x312))] [Ro.mp fStr.ty p8 c9 a7.Cuts,Ro.mp (fInt .i64).ty p10 c11 a7.Nodes,ml p28 4,Map.mp (kInt .u64) false (fInt .i64).ty p32 m33 c34 a31,Map.mp (kInt .u64) true t_gate_call p36 m37 c38 a35,Ro.mp t_gate_call p40 c41 a39,Map.mp (kInt .u64) true t_gate_load p43 m44 c45 a42,Ro.mp (fInt .u64).ty p53 c54 a52,Ro.mp t_api_Mail p57 c58 a56,Ro.mp f_gate_Reply.ty p60 c61 a59]∧True) ?_ ?_
 refine wp 3 [0,1,336] hF fun a hF=>?_
 refine wc (wld hF hS 2 22 0 fun a hF=>?_)
 refine wp 5 [0,1,339,342] hF fun a hF=>?_
 refine wcg hF (wld hF hS 2 22 0 fun a hF=>?_)
 refine wp 2 [0,1,339,345] hF fun a hF=>?_
 refine wcg hF (wld hF hS 0 5 0 fun a hF=>?_)
 refine wp 3 [0,1,349] hF fun a hF=>?_
 refine bif_split hv316 (fun hb hv316=>?_) (fun hb hv316=>?_)
 have hF:=hF.boolv 349 (by kernel_rfl) hb
 refine wp 4 [0,349,350,353] hF fun a hF=>?_
 refine wcg hF (wld hF hS 2 22 0 fun a hF=>?_)
 refine wp 2 [0,349,350,356] hF fun a hF=>?_
 refine wcg hF (wld hF hS 0 4 0 fun a hF=>?_)
 refine wp 2 [0,359] hF fun a hF=>?_
 obtain ⟨cs317,hS⟩:=hS.foldI (ck:=c_gate_move) (fs:=q_gate_move) b313 () x312 [0] [1,2,3,4,5,6,7,8,9,10,11,12,13] [] (by decide) (by kernel_rfl) (by kernel_rfl)
 refine wpListIn_nil ?_
 cases hv316
 exact ⟨_,cs317,hF.kp [0,359],hS.sp [2,3,4,5,6,7,8,9,10,11,12,13,0] (rg 10),trivial⟩
 have hF:=hF.boolv 349 (by kernel_rfl) hb
 refine wp 10 [0,359] hF fun a hF=>?_
 obtain ⟨cs318,hS⟩:=hS.foldI (ck:=c_gate_move) (fs:=q_gate_move) b313 () x312 [0] [1,2,3,4,5,6,7,8,9,10,11,12,13] [] (by decide) (by kernel_rfl) (by kernel_rfl)
 refine wpListIn_nil ?_
 cases hv316
 exact ⟨_,cs318,hF.kp [0,359],hS.sp [2,3,4,5,6,7,8,9,10,11,12,13,0] (rg 10),trivial⟩
 rintro a w ⟨κ,cs314,hF,hS,-⟩
 cases hv311
 exact ⟨_,(some b313),cs314,hF.kp [0,359],hS.sp (rg 13) (rg 10),trivial⟩
 rintro a w ⟨κ,p307,cs308,hF,hS,-⟩
 refine hK306 _ _ ?_
 refine bif_split H (fun hb H=>?_) (fun hb H=>?_)
 refine cond_t hF (by kernel_rfl) hb ?_
 refine wpIn_seq_k fun K319 hK319=>?_
 refine bind_split H (fun x320 ho H=>?_)
 obtain ⟨b321,hpq,hS⟩:=hS.optS 12 rfl ho
 rw [hpq] at hS
 try rw [hpq] at hF
 obtain ⟨_,hS⟩:=hS.unfI (ck:=c_gate_move) (fs:=q_gate_move) 12 rfl
 refine rgS hS [29] ?_
 have hS:=hS.drew
 refine anp [0,1,2,3,5,6,7,9,10,11,16,17,18] [0,361,364,368,372,379] hF (hS.sx [0,1,5,6,7,8,9,10,11,12] (rg 10)) fun a hF=>?_
 refine atk 4 (some 365) hF (hS.sx [0,1,5,6,7,8,9,10,11,12] (rg 10)) rfl (vls 1 6 2) fun a hF=>?_
 refine atk 8 (some 369) hF (hS.sx [0,1,5,6,7,8,9,10,11,12] (rg 10)) rfl (vld 1 1 0) fun a hF=>?_
 refine atk 12 (some 373) hF (hS.sx [0,1,5,6,7,8,9,10,11,12] (rg 10)) rfl (vld 1 22 0) fun a hF=>?_
 refine anp [13,14] [0,361,365,369,375,379] hF (hS.sx [0,1,5,6,7,8,9,10,11,12] (rg 10)) fun a hF=>?_
 refine atk 15 (some 376) hF (hS.sx [0,1,5,6,7,8,9,10,11,12] (rg 10)) rfl (vld 0 3 0) fun a hF=>?_
 refine atk 19 (some 380) hF (hS.sx [0,1,5,6,7,8,9,10,11,12] (rg 10)) rfl (vld 1 22 0) fun a hF=>?_
 refine anp [20,21] [0,361,365,369,376,382] hF (hS.sx [0,1,5,6,7,8,9,10,11,12] (rg 10)) fun a hF=>?_
 refine atk 22 (some 383) hF (hS.sx [0,1,5,6,7,8,9,10,11,12] (rg 10)) rfl (vld 0 4 0) fun a hF=>?_
 refine ago 23 hF rfl ?_
 refine bind_split H (fun x322 hx322 H=>?_)
 refine wo_callP hF hS (by kernel_rfl) (by kernel_rfl) (C_span_Move N hS.fresh (T_api_Map.mk a7.Cuts a7.Nodes) a2 x320.shard x320.to p8 c9 p10 c11 ((hS.pick [0,1] (by kernel_rfl)).ro) hx322) ?_
 rintro _ κ w a ⟨p323,c324,p325,c326,rfl,hR,hN⟩ hF hS hO
 have hS:=hS.adds hR
 have hS:=hS.addC hO hN
 refine ⟨fun _=>(hS.sx [2,3,7,8,9,10,11,12,13,14] [2,3,4,5,6,7,8,9,10,11]),?_⟩
 refine any_pure [24,25,27,28] [0,360,385,388] (L':=[(0,pt b62 0),(360,.tuple #[.agg (flat [sl p323 (x322.1.Cuts).length c324,sl p325 (x322.1.Nodes).length c326]).toArray,vi x322.2]),(385,.agg (flat [sl p323 (x322.1.Cuts).length c324,sl p325 (x322.1.Nodes).length c326]).toArray),(388,pt b62 6)]) (listed':=(bitA 30 469762047)) (fuel:=2) hF (hS.sx [2,3,7,8,9,10,11,12,13,14] [2,3,4,5,6,7,8,9,10,11]) (by kernel_rfl) (by intro c a w t v h; cases t<;>exact h) (by kernel_rfl) rfl fun a hF=>?_
 refine anpP [26] [0,385,388] hF (fun _=>(hS.sx [2,3,7,8,9,10,11,12,13,14] [2,3,4,5,6,7,8,9,10,11])) fun a hF=>?_
 have hF:Fr (446) _ [(0,pt b62 0),(385,.agg (flat [sl p323 (x322.1.Cuts).length c324,sl p325 (x322.1.Nodes).length c326]).toArray),(388,pt b62 6)] a:=hF.kp [0,385,388]
 refine ago 29 hF rfl ?_
 refine wst hF hS 3 6 2 [sl p323 (x322.1.Cuts).length c324,sl p325 (x322.1.Nodes).length c326] (sgN 2 sgNil) fun a w hF hS=>?_
 refine ⟨notE,?_⟩
 refine and_ ?_
 obtain ⟨cs327,hS⟩:=hS.foldI (ck:=c_gate_move) (fs:=q_gate_move) b321 () x320 [2] [0,1,3,4,5,6,7,8,9,10,11,12,13,14] [] (by decide) (by kernel_rfl) (by kernel_rfl)
 refine hK319 _ _ ?_
 refine wpIn_seq_k fun K328 hK328=>?_
 obtain ⟨_,hS⟩:=hS.unfI (ck:=c_gate_move) (fs:=q_gate_move) 0 rfl
 refine rga (fun _=>True) [] ?_
 have hS:=hS.drew
 refine anp [0,1,2,3,9,10,11,17,18,19] [0,389,392,400,408] hF trivial fun a hF=>?_
 refine any_weakS hS [26] ?_
 refine atk 4 (some 393) hF (hS.sx [0,3,7,8,9,10,11,12,13,14] (rg 12)) rfl (vld 1 22 0) fun a hF=>?_
 refine anp [5,6,7] [0,389,396,400,408] hF (hS.sx [0,3,7,8,9,10,11,12,13,14] (rg 12)) fun a hF=>?_
 refine atk 8 (some 397) hF (hS.sx [0,3,7,8,9,10,11,12,13,14] (rg 12)) rfl (vld 0 2 0) fun a hF=>?_
 refine atk 12 (some 401) hF (hS.sx [0,3,7,8,9,10,11,12,13,14] (rg 12)) rfl (vld 1 22 0) fun a hF=>?_
 refine anp [13,14,15] [0,389,397,404,408] hF (hS.sx [0,3,7,8,9,10,11,12,13,14] (rg 12)) fun a hF=>?_
 refine atk 16 (some 405) hF (hS.sx [0,3,7,8,9,10,11,12,13,14] (rg 12)) rfl (vld 0 0 0) fun a hF=>?_
 refine atk 20 (some 409) hF (hS.sx [0,3,7,8,9,10,11,12,13,14] (rg 12)) rfl (vld 1 22 0) fun a hF=>?_
 refine anp [21,22,23] [0,389,397,405,412] hF (hS.sx [0,3,7,8,9,10,11,12,13,14] (rg 12)) fun a hF=>?_
 refine atk 24 (some 413) hF (hS.sx [0,3,7,8,9,10,11,12,13,14] (rg 12)) rfl (vld 0 1 0) fun a hF=>?_
 refine anp [25] [0,389,397,414] hF (hS.sx [0,3,7,8,9,10,11,12,13,14] (rg 12)) fun a hF=>?_
 refine ago 26 hF rfl ?_
 have hS:=hS.add (m:=Ro.mp f_api_Ver.ty none 0 ([]:List T_api_Ver)) (Ro.nil f_api_Ver.ty _ _)
 have hS:=hS.add (m:=Ro.mp (fInt .u64).ty none 0 ([]:List Int)) (Ro.nil (fInt .u64).ty _ _)
 refine bind_split H (fun x329 hx329 H=>?_)
 have hgx3290:=hS.segs 3 rfl
 refine wcS 2 [3,5,0,1,2,4,6,7,8,9,10,11,12,13,14] hF hS (fun hS=>C_gate_Gate_tell N a1 a56 x320.span.Node (T_api_Msg.mk 7 0 0 0 x320.span.Lo x320.span.Hi ([]:List T_api_Ver) ([]:List Int) (T_api_Cmd.mk 0 0 0 0 0 ByteArray.empty)) (flat [si a2,(1,cs3),si a4,si a5,si a6,sl p323 (x322.1.Cuts).length c324,sl p325 (x322.1.Nodes).length c326,(1,cs12),sl p14 (a13).length c15,(2,cs16),(1,[.pointer (pa p18)]),(1,[.pointer (pa p21)]),(1,[.pointer (pa p24)]),su a26,(4,(encs fPtr p28)),(8,cs30),(1,[.map p32]),(1,[.map p36]),sl p40 (a39).length c41,(1,[.map p43]),su a46,(1,[pt b321 0]),si a50,si a51,sl p53 (a52).length c54,(5,cs55)]) p57 c58 [.slice p60 (a59).length c61] none 0 none 0 b62 ((hS.regr 0 [(false,1),(true,26),(false,2)] rfl).sbK [12,1,0]) hx329) ?_
 rintro _ κ w a ⟨p330,c331,rfl,h2⟩ hF hB
 have hS:=(hB _ _ h2).unregrK 0 [(false,1),(true,26),(false,2)] (s':=[si a1,si a2,(1,cs3),si a4,si a5,si a6,sl p323 (x322.1.Cuts).length c324,sl p325 (x322.1.Nodes).length c326,(1,cs12),sl p14 (a13).length c15,(2,cs16),(1,[.pointer (pa p18)]),(1,[.pointer (pa p21)]),(1,[.pointer (pa p24)]),su a26,(4,(encs fPtr p28)),(8,cs30),(1,[.map p32]),(1,[.map p36]),sl p40 (a39).length c41,(1,[.map p43]),su a46,(1,[pt b321 0]),si a50,si a51,sl p53 (a52).length c54,(5,cs55),sl p330 (x329).length c331,sl p60 (a59).length c61]) hgx3290 rfl
 refine ⟨notE,?_⟩
 refine and_ ?_
 obtain ⟨cs332,hS⟩:=hS.foldI (ck:=c_gate_move) (fs:=q_gate_move) b321 () x320 [2] [0,1,3,4,5,6,7,8,9,10,11,12,13,14] [] (by decide) (by kernel_rfl) (by kernel_rfl)
 refine hK328 _ _ ?_
 refine wpIn_seq_k fun K333 hK333=>?_
 refine wpIn_region_lit ?_
 refine wp 3 [0,418] hF fun a hF=>?_
 refine wc (wst hF hS 1 22 1 [(1,[.pointer none])] (sgN 1 sgNil) fun a w hF hS=>?_)
 refine wpListIn_nil ?_
 refine hK333 _ _ ?_
 refine wpIn_seq_k fun K334 hK334=>?_
 refine wpIn_region_lit ?_
 refine wp 3 [0,421] hF fun a hF=>?_
 refine wc (wld hF hS 1 19 0 fun a hF=>?_)
 refine wp 1 [0,22] hF fun a hF=>?_
 refine wpListIn_nil ?_
 refine hK334 _ _ ?_
 refine wpIn_seq_k fun K335 hK335=>?_
 refine wpIn_region_lit ?_
 refine wp 3 [0,22,425] hF fun a hF=>?_
 refine wc (wst hF hS 1 19 1 [sl none 0 0] (sgN 1 sgNil) fun a w hF hS=>?_)
 refine wpListIn_nil ?_
 refine hK335 _ _ ?_
 refine wpIn_seq_k fun K336 hK336=>?_
 refine wpIn_region_lit ?_
 refine wp 3 [0,426,427,428] hF fun a hF=>?_
 refine wpListIn_nil ?_
 refine hK336 _ _ ?_
 refine wpIn_block ?_
 refine loop_fuel (n:=N) (fun n a w => ∃(κ:Gh) (y387:Int) (p388:Option Nat) (cs389:List Nat) (y390:Option T_coord_Table) (y391:Int) (p392:Option Nat) (m393:Array MapEntry) (c394:Nat) (y395:Mp Int Int) (p396:Option Nat) (m397:Array MapEntry) (c398:Nat) (y399:Mp Int T_gate_call) (y400:List T_gate_call) (p401:Option Addr) (c402:Nat) (y403:Int) (p404:Option Nat) (cs405:List Nat) (y406:Option T_gate_move) (y407:List T_api_Mail) (p408:Option Addr) (c409:Nat) (y410:Int),Fr (446) [] [(0,pt b62 0),(426,.slice p40 (a39).length c41),(427,vi ((a39).length:Int)),(428,vi y410)] a∧SS Ms κ0 w0 κ w [.box b62 87 [si a1,si a2,(1,cs3),si a4,si a5,si y387,sl p323 (x322.1.Cuts).length c324,sl p325 (x322.1.Nodes).length c326,(1,cs12),sl p14 (a13).length c15,(2,cs16),(1,[.pointer (pa p18)]),(1,[.pointer (pa p21)]),(1,[.pointer (pa p388)]),su y391,(4,(encs fPtr p28)),(8,cs30),(1,[.map p392]),(1,[.map p396]),sl p401 (y400).length c402,(1,[.map p43]),su y403,(1,[.pointer (pa p404)]),si a50,si a51,sl p53 (a52).length c54,(5,cs55),sl p408 (y407).length c409,sl p60 (a59).length c61],.tok p401 95 5 (y400).length c402,.tok p408 61 15 (y407).length c409,.tok p323 9 1 (x322.1.Cuts).length c324,.tok p325 3 1 (x322.1.Nodes).length c326,.tok p40 95 5 (a39).length c41,.tok p60 52 13 (a59).length c61,.ext (ownX fBool 4 p14 c15 a13),.ext (optX o_stab_Table p18 cs19 a17),.ext (optX o_order_Log p21 cs22 a20),.ext (optX o_coord_Table p388 cs389 y390),.ext (arrX o_inbox_Box p28 cs29 a27),.ext (objX p392 (.map m393 c394)),.ext (objX p396 (.map m397 c398)),.ext (objX p43 (.map m44 c45)),.ext (optX o_gate_move p404 cs405 y406)] [Ro.mp fStr.ty p323 c324 x322.1.Cuts,Ro.mp (fInt .i64).ty p325 c326 x322.1.Nodes,ml p28 4,Map.mp (kInt .u64) false (fInt .i64).ty p392 m393 c394 y395,Map.mp (kInt .u64) true t_gate_call p396 m397 c398 y399,Ro.mp t_gate_call p401 c402 y400,Map.mp (kInt .u64) true t_gate_load p43 m44 c45 a42,Ro.mp (fInt .u64).ty p53 c54 a52,Ro.mp t_api_Mail p408 c409 y407,Ro.mp f_gate_Reply.ty p60 c61 a59,Ro.mp t_gate_call p40 c41 a39]∧M.gate_Gate_answered_L3 N n a1 a2 a4 a5 a13 a17 a20 a27 a39 a42 a50 a51 a52 a59 x322 y387 y390 y391 y395 y399 y400 y403 y406 y407 y410=some r) ?_ ?_
 have hS:=hS.add (m:=Ro.mp t_gate_call none 0 ([]:List T_gate_call)) (Ro.nil t_gate_call _ _)
 have hS:=hS.addNil 95 5
 have hS:=hS.addOpt o_gate_move
 exact ⟨_,a6,p24,cs25,a23,a26,p32,m33,c34,a31,p36,m37,c38,a35,([]:List T_gate_call),none,0,a46,none,[],none,x329,p330,c331,0,hF.kp [0,426,427,428],hS.sp [3,1,4,5,6,7,8,9,10,11,12,13,14,15,16,0] [4,5,8,9,10,0,12,13,1,15,11],H⟩
 rintro n a w ⟨κ,y387,p388,cs389,y390,y391,p392,m393,c394,y395,p396,m397,c398,y399,y400,p401,c402,y403,p404,cs405,y406,y407,p408,c409,y410,hF,hS,H⟩
 rcases n with _|fuel3
 simp [M.gate_Gate_answered_L3] at H
 simp only [M.gate_Gate_answered_L3] at H
 refine wpIn_seq_k fun K411 hK411=>?_
 refine wpIn_region_lit ?_
 refine wl_pure (L':=[(0,pt b62 0),(426,.slice p40 (a39).length c41),(427,vi ((a39).length:Int)),(428,vi y410),(429,vb (decide (y410<((a39).length:Int))))]) 1 [0,426,427,428,429] hF (by kernel_rfl) fun a hF=>?_
 refine wpListIn_nil ?_
 refine hK411 _ _ ?_
 refine wpIn_seq_k fun K412 hK412=>?_
 refine bif_split H (fun hb H=>?_) (fun hb H=>?_)
 refine cond_t hF (by kernel_rfl) hb ?_
 refine wpIn_skip ?_
 refine hK412 _ _ ?_
 refine wpIn_seq_k fun K413 hK413=>?_
 refine wpIn_block ?_
 refine wpIn_seq_k fun K414 hK414=>?_
 refine wpIn_region_lit ?_
 refine bind_split H (fun x415 hx415 H=>?_)
 refine wc (wo_index hF hS (by kernel_rfl) 10 (E:=95) (sz:=5) rfl rfl rfl (by kernel_rfl) rfl hx415 (by kernel_rfl) (by kernel_rfl) fun b416 f417 a hpx415 hF=>?_)
 obtain ⟨_,⟨⟨p418,c419⟩,rfl,hR⟩,hc⟩:=hS.elem 10 rfl hpx415 hx415
 have hS:=(hS.adds hR).add hc
 refine wc (wo_val hF (by kernel_rfl) (v := .agg (flat [si x415.id,sb x415.read,sg x415.key,su x415.at_,sl p418 (x415.writes).length c419]).toArray) ((val_loadCs 0 0 5 (s:=[si x415.id,sb x415.read,sg x415.key,su x415.at_,sl p418 (x415.writes).length c419]) (s':=[si x415.id,sb x415.read,sg x415.key,su x415.at_,sl p418 (x415.writes).length c419]) (n:=5) rfl rfl rfl (show segGood [si x415.id,sb x415.read,sg x415.key,su x415.at_,sl p418 (x415.writes).length c419] from (sgN 5 sgNil)) (by kernel_rfl) (by kernel_rfl) (by kernel_rfl) (by kernel_rfl) (by kernel_rfl) _ ⟨_,hS⟩)) fun a hF=>?_)
 refine wc (wal hF hS [si 0,sb false,sg ByteArray.empty,su 0,sl none 0 0] (sgN 5 sgNil) fun b420 a w hF hS=>?_)
 refine wc (wst hF hS 0 0 5 [si x415.id,sb x415.read,sg x415.key,su x415.at_,sl p418 (x415.writes).length c419] (sgN 5 sgNil) fun a w hF hS=>?_)
 refine wpListIn_nil ?_
 refine hK414 _ _ ?_
 refine wpIn_region_lit ?_
 refine wp 1 [0,24,426,427,428,432] hF fun a hF=>?_
 refine wc (wls hF hS 0 0 5 fun a hF=>?_)
 refine bind_split H (fun x421 hx421 H=>?_)
 have hgx4210:=hS.segs 1 rfl
 refine wc (wcS 7 [1,2,3,11,13,14,16,0,4,5,6,7,8,9,10,12,15] hF hS (fun hS=>C_gate_Gate_ask N a1 a5 y387 (T_api_Map.mk x322.1.Cuts x322.1.Nodes) y390 y391 y395 y399 y400 y403 y406 y407 (T_gate_call.mk x415.id x415.read x415.key x415.at_ x415.writes) (flat [si a2,(1,cs3),si a4]) p323 c324 p325 c326 (flat [(1,cs12),sl p14 (a13).length c15,(2,cs16),(1,[.pointer (pa p18)]),(1,[.pointer (pa p21)])]) p388 cs389 (flat [(4,(encs fPtr p28)),(8,cs30)]) p392 m393 c394 p396 m397 c398 p401 c402 [.map p43] p404 cs405 (flat [si a50,si a51,sl p53 (a52).length c54,(5,cs55)]) p408 c409 [.slice p60 (a59).length c61] p418 c419 b62 ((hS.regr 0 [(false,1),(true,3),(false,4),(true,5),(false,2),(true,2),(false,6),(true,4),(false,2)] rfl).sbK [2,3,5,6,7,10,1]) hx421) ?_)
 rintro _ κ w a ⟨p422,cs423,p424,m425,c426,p427,m428,c429,p430,c431,p432,cs433,p434,c435,rfl,h2⟩ hF hB
 have hS:=(hB _ _ h2).unregrK 0 [(false,1),(true,3),(false,4),(true,5),(false,2),(true,2),(false,6),(true,4),(false,2)] (s':=[si a1,si a2,(1,cs3),si a4,si a5,si x421.1,sl p323 (x322.1.Cuts).length c324,sl p325 (x322.1.Nodes).length c326,(1,cs12),sl p14 (a13).length c15,(2,cs16),(1,[.pointer (pa p18)]),(1,[.pointer (pa p21)]),(1,[.pointer (pa p422)]),su x421.2.2.1,(4,(encs fPtr p28)),(8,cs30),(1,[.map p424]),(1,[.map p427]),sl p430 (x421.2.2.2.2.2.1).length c431,(1,[.map p43]),su x421.2.2.2.2.2.2.1,(1,[.pointer (pa p432)]),si a50,si a51,sl p53 (a52).length c54,(5,cs55),sl p434 (x421.2.2.2.2.2.2.2.2).length c435,sl p60 (a59).length c61]) hgx4210 rfl
 refine wpListIn_nil ?_
 refine hK413 _ _ ?_
 refine wpIn_region_lit ?_
 refine wp 2 [0,426,427,428] hF fun a hF=>?_
 refine wpListIn_nil ?_
 exact ⟨fuel3,Nat.lt_succ_self _,_,x421.1,p422,cs423,x421.2.1,x421.2.2.1,p424,m425,c426,x421.2.2.2.1,p427,m428,c429,x421.2.2.2.2.1,x421.2.2.2.2.2.1,p430,c431,x421.2.2.2.2.2.2.1,p432,cs433,x421.2.2.2.2.2.2.2.1,x421.2.2.2.2.2.2.2.2,p434,c435,IntKind.i64.wrap (y410+1),hF.kp [0,426,427,428],hS.sp [0,1,2,8,9,10,11,12,13,14,3,15,4,5,16,6] [6,7,8,0,1,2,12,13,3,15,16],H⟩
 refine cond_f hF (by kernel_rfl) hb ?_
 refine wpIn_exit ?_
 cases H
 exact ret_done hF hS (res0 Tryz.results33) ⟨p323,c324,p325,c326,p21,cs22,p388,cs389,p392,m393,c394,p396,m397,c398,p401,c402,p404,cs405,p408,c409,p60,c61,cs19,cs29,rfl,hS.sp [0,1,2,6,7,8,9,10,11,12,13,14,15] [0,1,3,4,5,8,9]⟩
 refine cond_f hF (by kernel_rfl) hb ?_
 refine wpIn_skip ?_
 cases H
 exact ret_done hF hS (res0 Tryz.results33) ⟨p8,c9,p10,c11,p21,cs22,p24,cs25,p32,m33,c34,p36,m37,c38,p40,c41,p307,cs308,p57,c58,p60,c61,cs19,cs29,rfl,hS.sp (rg 13) [0,1,3,4,5,8,9]⟩
 refine cond_f hF (by kernel_rfl) hb ?_
 refine wpIn_seq_k fun K436 hK436=>?_
 refine wpIn_region_lit ?_
 refine wp 2 [0,1,5,436] hF fun a hF=>?_
 refine wpListIn_nil ?_
 refine hK436 _ _ ?_
 refine bif_split H (fun hb H=>?_) (fun hb H=>?_)
 refine cond_t hF (by kernel_rfl) hb ?_
 cases H
 refine cond_f hF (by kernel_rfl) hb ?_
 refine wpIn_skip ?_
 cases H
 exact ret_done hF hS (res0 Tryz.results33) ⟨p8,c9,p10,c11,p21,cs22,p24,cs25,p32,m33,c34,p36,m37,c38,p40,c41,p48,cs49,p57,c58,p60,c61,cs19,cs29,rfl,hS.sp [1,2,3,4,5,6,7,8,9,10,11,12,13] [0,1,3,4,5,8,9]⟩
end Go.Cf
