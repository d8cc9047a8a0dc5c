/- The walks: each function returns what its model says. Printed by a program of ours. -/
import Derived.Test.YtcplebnnanjngaaGreatZM1
import Derived.Test.YtcplebnnanjngaaGreatZWhs
import Derived.Test.YtcplebnnanjngaaGreatZWhp
import Derived.Test.YtcplebnnanjngaaGreatZWhg1
import Derived.Test.YtcplebnnanjngaaGreatZWhg2
namespace Go.Cf
open Go Go.Proofs
set_option linter.unusedVariables false
set_option maxRecDepth 20000 in
set_option maxHeartbeats 8000000 in
theorem C_gate_Gate_ordered (N:Nat){Ms:List Nat}{κ0:Gh}{w0:World}(a1:Int)(a2:Int)(a3:Int)(a4:Int)(a5:Int)(a6:Int)(a7:T_api_Map)(a12:(List Int))(a15:(List Bool))(a18:(List Int))(a21:Bool)(a22:(Option T_stab_Table))(a25:(Option T_order_Log))(a28:(Option T_coord_Table))(a31:Int)(a32:(List (Option T_inbox_Box)))(a35:(List Int))(a36:(List Int))(a37:(Mp Int Int))(a41:(Mp Int T_gate_call))(a45:(List T_gate_call))(a48:(Mp Int T_gate_load))(a53:(Option T_gate_move))(a56:Int)(a57:Int)(a58:(List Int))(a61:(List Int))(a64:Int)(a65:Bool)(a66:Bool)(a67:Bool)(a68:(List T_api_Mail))(a73:T_api_Msg)(p8:Option Addr)(c9:Nat)(p10:Option Addr)(c11:Nat)(p13:Option Addr)(c14:Nat)(p16:Option Addr)(c17:Nat)(p19:Option Addr)(c20:Nat)(p23:Option Nat)(cs24:List Nat)(p26:Option Nat)(cs27:List Nat)(p29:Option Nat)(cs30:List Nat)(p33:List (Option Nat))(cs34:List Nat)(p38:Option Nat)(m39:Array MapEntry)(c40:Nat)(p42:Option Nat)(m43:Array MapEntry)(c44:Nat)(p46:Option Addr)(c47:Nat)(p49:Option Nat)(m50:Array MapEntry)(c51:Nat)(cs52:List Value)(p54:Option Nat)(cs55:List Nat)(p59:Option Addr)(c60:Nat)(p62:Option Addr)(c63:Nat)(p69:Option Addr)(c70:Nat)(cs71:List Value)(p74:Option Addr)(c75:Nat)(p76:Option Addr)(c77:Nat)(b72:Nat)(hB:SB Ms κ0 w0 [.box b72 87 [si a1,si a2,si a3,si a4,si a5,si a6,sl p8 (a7.Cuts).length c9,sl p10 (a7.Nodes).length c11,sl p13 (a12).length c14,sl p16 (a15).length c17,sl p19 (a18).length c20,sb a21,(1,[.pointer (pa p23)]),(1,[.pointer (pa p26)]),(1,[.pointer (pa p29)]),su a31,(4,(encs fPtr p33)),ei 4 a35,ei 4 a36,(1,[.map p38]),(1,[.map p42]),sl p46 (a45).length c47,(1,[.map p49]),(1,cs52),(1,[.pointer (pa p54)]),si a56,si a57,sl p59 (a58).length c60,sl p62 (a61).length c63,su a64,sb a65,sb a66,sb a67,sl p69 (a68).length c70,(1,cs71)],.tok p69 61 15 (a68).length c70,.ext (ownX (fInt .i64) 3 p13 c14 a12),.ext (ownX fBool 4 p16 c17 a15),.ext (ownX (fInt .i64) 3 p19 c20 a18),.ext (optX o_stab_Table p23 cs24 a22),.ext (optX o_order_Log p26 cs27 a25),.ext (optX o_coord_Table p29 cs30 a28),.ext (arrX o_inbox_Box p33 cs34 a32),.ext (objX p38 (.map m39 c40)),.ext (objX p42 (.map m43 c44)),.ext (objX p49 (.map m50 c51)),.ext (optX o_gate_move p54 cs55 a53)] [Ro.mp fStr.ty p8 c9 a7.Cuts,Ro.mp (fInt .i64).ty p10 c11 a7.Nodes,ml p33 4,ml a35 4,ml a36 4,Map.mp (kInt .u64) false (fInt .i64).ty p38 m39 c40 a37,Map.mp (kInt .u64) true t_gate_call p42 m43 c44 a41,Ro.mp t_gate_call p46 c47 a45,Map.mp (kInt .u64) true t_gate_load p49 m50 c51 a48,Ro.mp (fInt .u64).ty p59 c60 a58,Ro.mp (fInt .u64).ty p62 c63 a61,Ro.mp t_api_Mail p69 c70 a68,Ro.mp f_api_Ver.ty p74 c75 a73.Vers,Ro.mp (fInt .u64).ty p76 c77 a73.Vec]){r:(Int×T_api_Map×(List Int)×(List Bool)×(List Int)×Bool×(Option T_gate_move)×(List T_api_Mail))}(H:M.gate_Gate_ordered N a1 a2 a3 a4 a5 a6 a7 a12 a15 a18 a21 a22 a25 a28 a31 a32 a35 a36 a37 a41 a45 a48 a53 a56 a57 a58 a61 a64 a65 a66 a67 a68 a73=some r) :
    Calls Tryz.prog 31 #[pt b72 0,.agg (flat [si a73.Kind,su a73.Id,su a73.N,su a73.TS,sg a73.Lo,sg a73.Hi,sl p74 (a73.Vers).length c75,sl p76 (a73.Vec).length c77,si a73.Cmd.Kind,si a73.Cmd.DC,si a73.Cmd.Shard,si a73.Cmd.Node,si a73.Cmd.Mode,sg a73.Cmd.Key]).toArray] w0 (Post Ms κ0 w0 fun v κ w => ∃(p392:Option Addr) (c393:Nat) (p394:Option Addr) (c395:Nat) (p396:Option Addr) (c397:Nat) (p398:Option Addr) (c399:Nat) (p400:Option Addr) (c401:Nat) (p402:Option Nat) (cs403:List Nat) (p404:Option Addr) (c405:Nat) (cs406 cs407 cs408 cs409:List Nat),v = .tuple #[]∧SS Ms κ0 w0 κ w [.box b72 87 [si a1,si a2,si a3,si r.1,si a5,si a6,sl p392 (r.2.1.Cuts).length c393,sl p394 (r.2.1.Nodes).length c395,sl p396 (r.2.2.1).length c397,sl p398 (r.2.2.2.1).length c399,sl p400 (r.2.2.2.2.1).length c401,sb r.2.2.2.2.2.1,(1,[.pointer (pa p23)]),(1,[.pointer (pa p26)]),(1,[.pointer (pa p29)]),su a31,(4,(encs fPtr p33)),ei 4 a35,ei 4 a36,(1,[.map p38]),(1,[.map p42]),sl p46 (a45).length c47,(1,[.map p49]),(1,cs52),(1,[.pointer (pa p402)]),si a56,si a57,sl p59 (a58).length c60,sl p62 (a61).length c63,su a64,sb a65,sb a66,sb a67,sl p404 (r.2.2.2.2.2.2.2).length c405,(1,cs71)],.tok p404 61 15 (r.2.2.2.2.2.2.2).length c405,.ext (ownX (fInt .i64) 3 p396 c397 r.2.2.1),.ext (ownX fBool 4 p398 c399 r.2.2.2.1),.ext (ownX (fInt .i64) 3 p400 c401 r.2.2.2.2.1),.ext (optX o_stab_Table p23 cs406 a22),.ext (optX o_order_Log p26 cs407 a25),.ext (optX o_coord_Table p29 cs408 a28),.ext (arrX o_inbox_Box p33 cs409 a32),.ext (objX p38 (.map m39 c40)),.ext (objX p42 (.map m43 c44)),.ext (objX p49 (.map m50 c51)),.ext (optX o_gate_move p402 cs403 r.2.2.2.2.2.2.1)] [Ro.mp fStr.ty p392 c393 r.2.1.Cuts,Ro.mp (fInt .i64).ty p394 c395 r.2.1.Nodes,Ro.mp t_api_Mail p404 c405 r.2.2.2.2.2.2.2]):=by
 have hS:=hB.hS
 have hfr:=hS.fresh
 refine enter (N:=(476)) (L:=[(0,pt b72 0),(1,.agg (flat [si a73.Kind,su a73.Id,su a73.N,su a73.TS,sg a73.Lo,sg a73.Hi,sl p74 (a73.Vers).length c75,sl p76 (a73.Vec).length c77,si a73.Cmd.Kind,si a73.Cmd.DC,si a73.Cmd.Shard,si a73.Cmd.Node,si a73.Cmd.Mode,sg a73.Cmd.Key]).toArray)]) Tryz.func31 rfl Tryz.ntmps31 (show 2≤(476) by decide) rfl fun a hF=>?_
 unfold M.gate_Gate_ordered at H
 refine wpIn_seq_k fun K78 hK78=>?_
 refine wpIn_region_lit ?_
 refine wc (wbx hF hS [si a73.Kind,su a73.Id,su a73.N,su a73.TS,sg a73.Lo,sg a73.Hi,sl p74 (a73.Vers).length c75,sl p76 (a73.Vec).length c77,si a73.Cmd.Kind,si a73.Cmd.DC,si a73.Cmd.Shard,si a73.Cmd.Node,si a73.Cmd.Mode,sg a73.Cmd.Key] (sgN 14 sgNil) fun b79 a w hF hS=>?_)
 refine wpListIn_nil ?_
 refine hK78 _ _ ?_
 refine wpIn_seq_k fun K80 hK80=>?_
 refine wpIn_seq_k fun K81 hK81=>?_
 refine bind_split H (fun v83 hv83 H=>?_)
 refine code_join (fun a w => ∃κ:Gh,Fr (476) [] [(0,pt b72 0),(3,pt b79 0),(33,vb v83)] a∧SS Ms κ0 w0 κ w [.box b79 38 [si a73.Kind,su a73.Id,su a73.N,su a73.TS,sg a73.Lo,sg a73.Hi,sl p74 (a73.Vers).length c75,sl p76 (a73.Vec).length c77,si a73.Cmd.Kind,si a73.Cmd.DC,si a73.Cmd.Shard,si a73.Cmd.Node,si a73.Cmd.Mode,sg a73.Cmd.Key],.box b72 87 [si a1,si a2,si a3,si a4,si a5,si a6,sl p8 (a7.Cuts).length c9,sl p10 (a7.Nodes).length c11,sl p13 (a12).length c14,sl p16 (a15).length c17,sl p19 (a18).length c20,sb a21,(1,[.pointer (pa p23)]),(1,[.pointer (pa p26)]),(1,[.pointer (pa p29)]),su a31,(4,(encs fPtr p33)),ei 4 a35,ei 4 a36,(1,[.map p38]),(1,[.map p42]),sl p46 (a45).length c47,(1,[.map p49]),(1,cs52),(1,[.pointer (pa p54)]),si a56,si a57,sl p59 (a58).length c60,sl p62 (a61).length c63,su a64,sb a65,sb a66,sb a67,sl p69 (a68).length c70,(1,cs71)],.tok p69 61 15 (a68).length c70,.ext (ownX (fInt .i64) 3 p13 c14 a12),.ext (ownX fBool 4 p16 c17 a15),.ext (ownX (fInt .i64) 3 p19 c20 a18),.ext (optX o_stab_Table p23 cs24 a22),.ext (optX o_order_Log p26 cs27 a25),.ext (optX o_coord_Table p29 cs30 a28),.ext (arrX o_inbox_Box p33 cs34 a32),.ext (objX p38 (.map m39 c40)),.ext (objX p42 (.map m43 c44)),.ext (objX p49 (.map m50 c51)),.ext (optX o_gate_move p54 cs55 a53)] [Ro.mp fStr.ty p8 c9 a7.Cuts,Ro.mp (fInt .i64).ty p10 c11 a7.Nodes,ml p33 4,ml a35 4,ml a36 4,Map.mp (kInt .u64) false (fInt .i64).ty p38 m39 c40 a37,Map.mp (kInt .u64) true t_gate_call p42 m43 c44 a41,Ro.mp t_gate_call p46 c47 a45,Map.mp (kInt .u64) true t_gate_load p49 m50 c51 a48,Ro.mp (fInt .u64).ty p59 c60 a58,Ro.mp (fInt .u64).ty p62 c63 a61,Ro.mp t_api_Mail p69 c70 a68,Ro.mp f_api_Ver.ty p74 c75 a73.Vers,Ro.mp (fInt .u64).ty p76 c77 a73.Vec]∧True) ?_ ?_
 refine rgS hS [] ?_
 have hS:=hS.drew
 refine anp [0] [0,3,14] hF (hS.sx [0,1,3,4,5,6,7,8,9,10,11,12,13] (rg 14)) fun a hF=>?_
 refine atk 1 (some 15) hF (hS.sx [0,1,3,4,5,6,7,8,9,10,11,12,13] (rg 14)) rfl (vld 0 0 0) fun a hF=>?_
 refine anp [2,3] [0,3,17] hF (hS.sx [0,1,3,4,5,6,7,8,9,10,11,12,13] (rg 14)) fun a hF=>?_
 refine bif_split hv83 (fun hb hv83=>?_) (fun hb hv83=>?_)
 have hF:=hF.boolv 17 (by kernel_rfl) hb
 refine anp [4,5,6] [0,3,17,20] hF (hS.sx [0,1,3,4,5,6,7,8,9,10,11,12,13] (rg 14)) fun a hF=>?_
 refine atk 7 (some 21) hF (hS.sx [0,1,3,4,5,6,7,8,9,10,11,12,13] (rg 14)) rfl (vld 1 2 0) fun a hF=>?_
 refine anp [8,9,10] [0,3,24] hF (hS.sx [0,1,3,4,5,6,7,8,9,10,11,12,13] (rg 14)) fun a hF=>?_
 refine bif_split hv83 (fun hb hv83=>?_) (fun hb hv83=>?_)
 have hF:=hF.boolv 24 (by kernel_rfl) hb
 refine anp [11,13,14,15] [0,3,24,25,29] hF (hS.sx [0,1,3,4,5,6,7,8,9,10,11,12,13] (rg 14)) fun a hF=>?_
 refine atk 12 (some 26) hF (hS.sx [0,1,3,4,5,6,7,8,9,10,11,12,13] (rg 14)) rfl (vld 0 1 0) fun a hF=>?_
 refine atk 16 (some 30) hF (hS.sx [0,1,3,4,5,6,7,8,9,10,11,12,13] (rg 14)) rfl (vld 1 3 0) fun a hF=>?_
 refine anp [17,18,19] [0,3,33] hF (hS.sx [0,1,3,4,5,6,7,8,9,10,11,12,13] (rg 14)) fun a hF=>?_
 refine and_ ?_
 cases hv83
 exact ⟨_,hF.kp [0,3,33],hS.sp (rg 14) (rg 14),trivial⟩
 have hF:=hF.boolv 24 (by kernel_rfl) hb
 refine anp [11,12,13,14,15,16,17,18,19] [0,3,33] hF (hS.sx [0,1,3,4,5,6,7,8,9,10,11,12,13] (rg 14)) fun a hF=>?_
 refine and_ ?_
 cases hv83
 exact ⟨_,hF.kp [0,3,33],hS.sp (rg 14) (rg 14),trivial⟩
 have hF:=hF.boolv 17 (by kernel_rfl) hb
 refine anp [4,5,6,7,8,9,10,11,12,13,14,15,16,17,18,19] [0,3,33] hF (hS.sx [0,1,3,4,5,6,7,8,9,10,11,12,13] (rg 14)) fun a hF=>?_
 refine and_ ?_
 cases hv83
 exact ⟨_,hF.kp [0,3,33],hS.sp (rg 14) (rg 14),trivial⟩
 rintro a w ⟨κ,hF,hS,-⟩
 refine hK81 _ _ ?_
 refine bif_split H (fun hb H=>?_) (fun hb H=>?_)
 refine cond_t hF (by kernel_rfl) hb ?_
 refine wpIn_seq_k fun K84 hK84=>?_
 cases H
 refine cond_f hF (by kernel_rfl) hb ?_
 refine wpIn_skip ?_
 refine hK80 _ _ ?_
 refine wpIn_seq_k fun K85 hK85=>?_
 refine wpIn_seq_k fun K86 hK86=>?_
 refine bind_split H (fun v88 hv88 H=>?_)
 refine code_join (fun a w => ∃κ:Gh,Fr (476) [] [(0,pt b72 0),(3,pt b79 0),(87,vb v88)] a∧SS Ms κ0 w0 κ w [.box b79 38 [si a73.Kind,su a73.Id,su a73.N,su a73.TS,sg a73.Lo,sg a73.Hi,sl p74 (a73.Vers).length c75,sl p76 (a73.Vec).length c77,si a73.Cmd.Kind,si a73.Cmd.DC,si a73.Cmd.Shard,si a73.Cmd.Node,si a73.Cmd.Mode,sg a73.Cmd.Key],.box b72 87 [si a1,si a2,si a3,si a4,si a5,si a6,sl p8 (a7.Cuts).length c9,sl p10 (a7.Nodes).length c11,sl p13 (a12).length c14,sl p16 (a15).length c17,sl p19 (a18).length c20,sb a21,(1,[.pointer (pa p23)]),(1,[.pointer (pa p26)]),(1,[.pointer (pa p29)]),su a31,(4,(encs fPtr p33)),ei 4 a35,ei 4 a36,(1,[.map p38]),(1,[.map p42]),sl p46 (a45).length c47,(1,[.map p49]),(1,cs52),(1,[.pointer (pa p54)]),si a56,si a57,sl p59 (a58).length c60,sl p62 (a61).length c63,su a64,sb a65,sb a66,sb a67,sl p69 (a68).length c70,(1,cs71)],.tok p69 61 15 (a68).length c70,.ext (ownX (fInt .i64) 3 p13 c14 a12),.ext (ownX fBool 4 p16 c17 a15),.ext (ownX (fInt .i64) 3 p19 c20 a18),.ext (optX o_stab_Table p23 cs24 a22),.ext (optX o_order_Log p26 cs27 a25),.ext (optX o_coord_Table p29 cs30 a28),.ext (arrX o_inbox_Box p33 cs34 a32),.ext (objX p38 (.map m39 c40)),.ext (objX p42 (.map m43 c44)),.ext (objX p49 (.map m50 c51)),.ext (optX o_gate_move p54 cs55 a53)] [Ro.mp fStr.ty p8 c9 a7.Cuts,Ro.mp (fInt .i64).ty p10 c11 a7.Nodes,ml p33 4,ml a35 4,ml a36 4,Map.mp (kInt .u64) false (fInt .i64).ty p38 m39 c40 a37,Map.mp (kInt .u64) true t_gate_call p42 m43 c44 a41,Ro.mp t_gate_call p46 c47 a45,Map.mp (kInt .u64) true t_gate_load p49 m50 c51 a48,Ro.mp (fInt .u64).ty p59 c60 a58,Ro.mp (fInt .u64).ty p62 c63 a61,Ro.mp t_api_Mail p69 c70 a68,Ro.mp f_api_Ver.ty p74 c75 a73.Vers,Ro.mp (fInt .u64).ty p76 c77 a73.Vec]∧True) ?_ ?_
 refine rgS hS [] ?_
 have hS:=hS.drew
 refine anp [0] [0,3,52] hF (hS.sx [0,1,3,4,5,6,7,8,9,10,11,12,13] (rg 14)) fun a hF=>?_
 refine atk 1 (some 53) hF (hS.sx [0,1,3,4,5,6,7,8,9,10,11,12,13] (rg 14)) rfl (vld 0 0 0) fun a hF=>?_
 refine anp [2,3] [0,3,55] hF (hS.sx [0,1,3,4,5,6,7,8,9,10,11,12,13] (rg 14)) fun a hF=>?_
 refine bif_split hv88 (fun hb hv88=>?_) (fun hb hv88=>?_)
 have hF:=hF.boolv 55 (by kernel_rfl) hb
 refine anp [4,5,6,7,8,9,10,11,12,13,14,15,16,17,18,19,20,21,22,23,24,25,26,27,28,29,30,31,32,33,34,35] [0,3,87] hF (hS.sx [0,1,3,4,5,6,7,8,9,10,11,12,13] (rg 14)) fun a hF=>?_
 refine and_ ?_
 cases hv88
 exact ⟨_,hF.kp [0,3,87],hS.sp (rg 14) (rg 14),trivial⟩
 have hF:=hF.boolv 55 (by kernel_rfl) hb
 refine anp [4,6,7,8] [0,3,55,56,60] hF (hS.sx [0,1,3,4,5,6,7,8,9,10,11,12,13] (rg 14)) fun a hF=>?_
 refine atk 5 (some 57) hF (hS.sx [0,1,3,4,5,6,7,8,9,10,11,12,13] (rg 14)) rfl (vld 0 1 0) fun a hF=>?_
 refine atk 9 (some 61) hF (hS.sx [0,1,3,4,5,6,7,8,9,10,11,12,13] (rg 14)) rfl (vld 1 3 0) fun a hF=>?_
 refine anp [10,11,12,13] [0,3,65] hF (hS.sx [0,1,3,4,5,6,7,8,9,10,11,12,13] (rg 14)) fun a hF=>?_
 refine bif_split hv88 (fun hb hv88=>?_) (fun hb hv88=>?_)
 have hF:=hF.boolv 65 (by kernel_rfl) hb
 refine anp [14,15,16,17,18,19,20,21,22,23,24,25,26,27,28,29,30,31,32,33,34,35] [0,3,87] hF (hS.sx [0,1,3,4,5,6,7,8,9,10,11,12,13] (rg 14)) fun a hF=>?_
 refine and_ ?_
 cases hv88
 exact ⟨_,hF.kp [0,3,87],hS.sp (rg 14) (rg 14),trivial⟩
 have hF:=hF.boolv 65 (by kernel_rfl) hb
 refine anp [14] [0,3,65,66] hF (hS.sx [0,1,3,4,5,6,7,8,9,10,11,12,13] (rg 14)) fun a hF=>?_
 refine atk 15 (some 67) hF (hS.sx [0,1,3,4,5,6,7,8,9,10,11,12,13] (rg 14)) rfl (vld 0 1 0) fun a hF=>?_
 refine anp [16,17,18] [0,3,70] hF (hS.sx [0,1,3,4,5,6,7,8,9,10,11,12,13] (rg 14)) fun a hF=>?_
 refine bif_split hv88 (fun hb hv88=>?_) (fun hb hv88=>?_)
 have hF:=hF.boolv 70 (by kernel_rfl) hb
 refine anp [19,20,21,22,23,24,25,26,27,28,29,30,31,32,33,34,35] [0,3,87] hF (hS.sx [0,1,3,4,5,6,7,8,9,10,11,12,13] (rg 14)) fun a hF=>?_
 refine and_ ?_
 cases hv88
 exact ⟨_,hF.kp [0,3,87],hS.sp (rg 14) (rg 14),trivial⟩
 have hF:=hF.boolv 70 (by kernel_rfl) hb
 refine anp [19] [0,3,70,71] hF (hS.sx [0,1,3,4,5,6,7,8,9,10,11,12,13] (rg 14)) fun a hF=>?_
 refine atk 20 (some 72) hF (hS.sx [0,1,3,4,5,6,7,8,9,10,11,12,13] (rg 14)) rfl (vld 0 7 0) fun a hF=>?_
 refine anp [21,22,23,24] [0,3,76] hF (hS.sx [0,1,3,4,5,6,7,8,9,10,11,12,13] (rg 14)) fun a hF=>?_
 refine bif_split hv88 (fun hb hv88=>?_) (fun hb hv88=>?_)
 have hF:=hF.boolv 76 (by kernel_rfl) hb
 refine anp [25,26,27,28,29,30,31,32,33,34,35] [0,3,87] hF (hS.sx [0,1,3,4,5,6,7,8,9,10,11,12,13] (rg 14)) fun a hF=>?_
 refine and_ ?_
 cases hv88
 exact ⟨_,hF.kp [0,3,87],hS.sp (rg 14) (rg 14),trivial⟩
 have hF:=hF.boolv 76 (by kernel_rfl) hb
 refine anp [25,26] [0,3,76,78] hF (hS.sx [0,1,3,4,5,6,7,8,9,10,11,12,13] (rg 14)) fun a hF=>?_
 refine atk 27 (some 79) hF (hS.sx [0,1,3,4,5,6,7,8,9,10,11,12,13] (rg 14)) rfl (vld 0 9 0) fun a hF=>?_
 refine anp [28,29,30] [0,3,82] hF (hS.sx [0,1,3,4,5,6,7,8,9,10,11,12,13] (rg 14)) fun a hF=>?_
 refine bif_split hv88 (fun hb hv88=>?_) (fun hb hv88=>?_)
 have hF:=hF.boolv 82 (by kernel_rfl) hb
 refine anp [31,32,33,34,35] [0,3,87] hF (hS.sx [0,1,3,4,5,6,7,8,9,10,11,12,13] (rg 14)) fun a hF=>?_
 refine and_ ?_
 cases hv88
 exact ⟨_,hF.kp [0,3,87],hS.sp (rg 14) (rg 14),trivial⟩
 have hF:=hF.boolv 82 (by kernel_rfl) hb
 refine anp [31,32] [0,3,82,84] hF (hS.sx [0,1,3,4,5,6,7,8,9,10,11,12,13] (rg 14)) fun a hF=>?_
 refine atk 33 (some 85) hF (hS.sx [0,1,3,4,5,6,7,8,9,10,11,12,13] (rg 14)) rfl (vld 0 9 0) fun a hF=>?_
 refine anp [34,35] [0,3,87] hF (hS.sx [0,1,3,4,5,6,7,8,9,10,11,12,13] (rg 14)) fun a hF=>?_
 refine and_ ?_
 cases hv88
 exact ⟨_,hF.kp [0,3,87],hS.sp (rg 14) (rg 14),trivial⟩
 rintro a w ⟨κ,hF,hS,-⟩
 refine hK86 _ _ ?_
 refine bif_split H (fun hb H=>?_) (fun hb H=>?_)
 refine cond_t hF (by kernel_rfl) hb ?_
 refine wpIn_ret ?_
 cases H
 exact ret_done hF hS (res0 Tryz.results31) ⟨p8,c9,p10,c11,p13,c14,p16,c17,p19,c20,p54,cs55,p69,c70,cs24,cs27,cs30,cs34,rfl,hS.sp [1,2,3,4,5,6,7,8,9,10,11,12,13] [0,1,11]⟩
 refine cond_f hF (by kernel_rfl) hb ?_
 refine wpIn_skip ?_
 refine hK85 _ _ ?_
 refine wpIn_seq_k fun K89 hK89=>?_
 refine wpIn_region_lit ?_
 refine wp 2 [0,3,88,89] hF fun a hF=>?_
 refine wc (wld hF hS 0 1 0 fun a hF=>?_)
 refine wp 3 [0,3,91,93] hF fun a hF=>?_
 refine wc (wst hF hS 1 3 1 [si (IntKind.i64.wrap a73.Id)] (sgN 1 sgNil) fun a w hF hS=>?_)
 refine wpListIn_nil ?_
 refine hK89 _ _ ?_
 refine wpIn_seq_k fun K90 hK90=>?_
 refine wpIn_region_lit ?_
 refine wp 1 [0,3,94] hF fun a hF=>?_
 have hS:=hS.add (m:=ml (List.replicate 4 false) 4) (List.length_replicate)
 refine wc (wal hF hS [eb 4 (List.replicate 4 false)] (sgEnc List.length_replicate sgNil) fun b91 a w hF hS=>?_)
 refine wc (wst hF hS 0 0 1 [eb 4 (List.replicate 4 false)] (sgEnc List.length_replicate sgNil) fun a w hF hS=>?_)
 refine wpListIn_nil ?_
 refine hK90 _ _ ?_
 refine wpIn_seq_k fun K92 hK92=>?_
 refine wpIn_seq_k fun K93 hK93=>?_
 refine wpIn_region_lit ?_
 refine wp 1 [0,3,4,95] hF fun a hF=>?_
 refine wpListIn_nil ?_
 refine hK93 _ _ ?_
 refine wpIn_block ?_
 refine loop_fuel (n:=N) (fun n a w => ∃(κ:Gh) (y144:List Bool) (y145:Int),Fr (476) [] [(0,pt b72 0),(3,pt b79 0),(4,pt b91 0),(95,vi y145)] a∧SS Ms κ0 w0 κ w [.box b91 22 [eb 4 y144],.box b79 38 [si a73.Kind,su a73.Id,su a73.N,su a73.TS,sg a73.Lo,sg a73.Hi,sl p74 (a73.Vers).length c75,sl p76 (a73.Vec).length c77,si a73.Cmd.Kind,si a73.Cmd.DC,si a73.Cmd.Shard,si a73.Cmd.Node,si a73.Cmd.Mode,sg a73.Cmd.Key],.box b72 87 [si a1,si a2,si a3,si (IntKind.i64.wrap a73.Id),si a5,si a6,sl p8 (a7.Cuts).length c9,sl p10 (a7.Nodes).length c11,sl p13 (a12).length c14,sl p16 (a15).length c17,sl p19 (a18).length c20,sb a21,(1,[.pointer (pa p23)]),(1,[.pointer (pa p26)]),(1,[.pointer (pa p29)]),su a31,(4,(encs fPtr p33)),ei 4 a35,ei 4 a36,(1,[.map p38]),(1,[.map p42]),sl p46 (a45).length c47,(1,[.map p49]),(1,cs52),(1,[.pointer (pa p54)]),si a56,si a57,sl p59 (a58).length c60,sl p62 (a61).length c63,su a64,sb a65,sb a66,sb a67,sl p69 (a68).length c70,(1,cs71)],.tok p69 61 15 (a68).length c70,.ext (ownX (fInt .i64) 3 p13 c14 a12),.ext (ownX fBool 4 p16 c17 a15),.ext (ownX (fInt .i64) 3 p19 c20 a18),.ext (optX o_stab_Table p23 cs24 a22),.ext (optX o_order_Log p26 cs27 a25),.ext (optX o_coord_Table p29 cs30 a28),.ext (arrX o_inbox_Box p33 cs34 a32),.ext (objX p38 (.map m39 c40)),.ext (objX p42 (.map m43 c44)),.ext (objX p49 (.map m50 c51)),.ext (optX o_gate_move p54 cs55 a53)] [Ro.mp fStr.ty p8 c9 a7.Cuts,Ro.mp (fInt .i64).ty p10 c11 a7.Nodes,ml p33 4,ml a35 4,ml a36 4,Map.mp (kInt .u64) false (fInt .i64).ty p38 m39 c40 a37,Map.mp (kInt .u64) true t_gate_call p42 m43 c44 a41,Ro.mp t_gate_call p46 c47 a45,Map.mp (kInt .u64) true t_gate_load p49 m50 c51 a48,Ro.mp (fInt .u64).ty p59 c60 a58,Ro.mp (fInt .u64).ty p62 c63 a61,Ro.mp t_api_Mail p69 c70 a68,ml y144 4,Ro.mp f_api_Ver.ty p74 c75 a73.Vers,Ro.mp (fInt .u64).ty p76 c77 a73.Vec]∧M.gate_Gate_ordered_L1 N n a1 a2 a3 a5 a6 a7 a12 a15 a18 a21 a22 a25 a28 a31 a32 a35 a36 a37 a41 a45 a48 a53 a56 a57 a58 a61 a64 a65 a66 a67 a68 a73 y144 y145=some r) ?_ ?_
 exact ⟨_,(List.replicate 4 false),0,hF.kp [0,3,4,95],hS.sp (rg 15) [1,2,3,4,5,6,7,8,9,10,11,12,0,13,14],H⟩
 rintro n a w ⟨κ,y144,y145,hF,hS,H⟩
 rcases n with _|fuel1
 simp [M.gate_Gate_ordered_L1] at H
 simp only [M.gate_Gate_ordered_L1] at H
 refine wpIn_seq_k fun K146 hK146=>?_
 refine wpIn_region_lit ?_
 refine wp 1 [0,3,4,95,96] hF fun a hF=>?_
 refine wpListIn_nil ?_
 refine hK146 _ _ ?_
 refine wpIn_seq_k fun K147 hK147=>?_
 refine bif_split H (fun hb H=>?_) (fun hb H=>?_)
 refine cond_t hF (by kernel_rfl) hb ?_
 refine wpIn_skip ?_
 refine hK147 _ _ ?_
 refine wpIn_seq_k fun K148 hK148=>?_
 refine wpIn_block ?_
 refine wpIn_seq_k fun K149 hK149=>?_
 refine wpIn_region_lit ?_
 refine wp 2 [0,3,4,5,95] hF fun a hF=>?_
 refine wpListIn_nil ?_
 refine hK149 _ _ ?_
 refine wpIn_region_lit ?_
 refine wl_pure (L':=[(0,pt b72 0),(3,pt b79 0),(4,pt b91 0),(5,vi y145),(95,vi y145),(98,vi y145),(99,pt b79 7)]) 2 [0,3,4,5,95,98,99] hF (by kernel_rfl) fun a hF=>?_
 refine wc (wld hF hS 1 7 0 fun a hF=>?_)
 refine bind_split H (fun x150 hx150 H=>?_)
 refine wc (wo_index hF hS (by kernel_rfl) 14 (E:=32) (sz:=1) rfl rfl rfl (by kernel_rfl) rfl hx150 (by kernel_rfl) (by kernel_rfl) fun b151 f152 a hpx150 hF=>?_)
 refine wc (wo_loadRo (t:=(fInt .u64)) hF hS (by kernel_rfl) 14 0 (v:=vu x150) rfl rfl hpx150 rfl hx150 (by kernel_rfl) (by kernel_rfl) (by kernel_rfl) fun a hF=>?_)
 refine wl_pure (L':=[(0,pt b72 0),(3,pt b79 0),(4,pt b91 0),(95,vi y145),(98,vi y145),(102,vu x150),(103,vi y145)]) 1 [0,3,4,95,98,102,103] hF (by kernel_rfl) fun a hF=>?_
 refine bind_split H (fun x153 hx153 H=>?_)
 refine wc (wo_val hF (by kernel_rfl) (v:=vu x153) ((val_shr rfl rfl rfl hx153) _) fun a hF=>?_)
 refine wl_pure (L':=[(0,pt b72 0),(3,pt b79 0),(4,pt b91 0),(95,vi y145),(98,vi y145),(106,vb (iAnd .u64 x153 1==1))]) 2 [0,3,4,95,98,106] hF (by kernel_rfl) fun a hF=>?_
 refine bind_split H (fun x154 hx154 H=>?_)
 refine wc (wo_indexArr hF (by kernel_rfl) (E:=4) (sz:=1) (n:=4) rfl rfl (i:=y145) rfl (idx_lt hx154 (hS.get 12 rfl)) (by kernel_rfl) (by kernel_rfl) fun a hF=>?_)
 refine wc (wo_storeA1 (t:=fBool) (y:=(iAnd .u64 x153 1==1)) (v:=vb (iAnd .u64 x153 1==1)) hF hS (by kernel_rfl) 0 0 (s':=[eb 4 (List.set y144 (Int.toNat y145) (iAnd .u64 x153 1==1))]) (C':=[.box b91 22 [eb 4 (List.set y144 (Int.toNat y145) (iAnd .u64 x153 1==1))],.box b79 38 [si a73.Kind,su a73.Id,su a73.N,su a73.TS,sg a73.Lo,sg a73.Hi,sl p74 (a73.Vers).length c75,sl p76 (a73.Vec).length c77,si a73.Cmd.Kind,si a73.Cmd.DC,si a73.Cmd.Shard,si a73.Cmd.Node,si a73.Cmd.Mode,sg a73.Cmd.Key],.box b72 87 [si a1,si a2,si a3,si (IntKind.i64.wrap a73.Id),si a5,si a6,sl p8 (a7.Cuts).length c9,sl p10 (a7.Nodes).length c11,sl p13 (a12).length c14,sl p16 (a15).length c17,sl p19 (a18).length c20,sb a21,(1,[.pointer (pa p23)]),(1,[.pointer (pa p26)]),(1,[.pointer (pa p29)]),su a31,(4,(encs fPtr p33)),ei 4 a35,ei 4 a36,(1,[.map p38]),(1,[.map p42]),sl p46 (a45).length c47,(1,[.map p49]),(1,cs52),(1,[.pointer (pa p54)]),si a56,si a57,sl p59 (a58).length c60,sl p62 (a61).length c63,su a64,sb a65,sb a66,sb a67,sl p69 (a68).length c70,(1,cs71)],.tok p69 61 15 (a68).length c70,.ext (ownX (fInt .i64) 3 p13 c14 a12),.ext (ownX fBool 4 p16 c17 a15),.ext (ownX (fInt .i64) 3 p19 c20 a18),.ext (optX o_stab_Table p23 cs24 a22),.ext (optX o_order_Log p26 cs27 a25),.ext (optX o_coord_Table p29 cs30 a28),.ext (arrX o_inbox_Box p33 cs34 a32),.ext (objX p38 (.map m39 c40)),.ext (objX p42 (.map m43 c44)),.ext (objX p49 (.map m50 c51)),.ext (optX o_gate_move p54 cs55 a53)]) rfl rfl (by kernel_rfl) rfl rfl hx154 rfl rfl (by kernel_rfl) (by kernel_rfl) (by kernel_rfl) (by kernel_rfl) fun a w hF hS=>?_)
 have hS:=hS.add (m:=ml (List.set y144 (Int.toNat y145) (iAnd .u64 x153 1==1)) 4) (List.length_set.trans (hS.get 12 rfl))
 refine wpListIn_nil ?_
 refine hK148 _ _ ?_
 refine wpIn_region_lit ?_
 refine wp 2 [0,3,4,95] hF fun a hF=>?_
 refine wpListIn_nil ?_
 exact ⟨fuel1,Nat.lt_succ_self _,_,(List.set y144 (Int.toNat y145) (iAnd .u64 x153 1==1)),IntKind.i64.wrap (y145+1),hF.kp [0,3,4,95],hS.sp (rg 15) [1,2,3,4,5,6,7,8,9,10,11,12,0,14,15],H⟩
 refine cond_f hF (by kernel_rfl) hb ?_
 refine wpIn_exit ?_
 refine hK92 _ _ ?_
 refine wpIn_seq_k fun K155 hK155=>?_
 refine rgS hS [] ?_
 have hS:=hS.drew
 refine anp [0,1,3,4,5] [0,3,4,110,114] hF (hS.sx [0,1,2,4,5,6,7,8,9,10,11,12,13,14] (rg 15)) fun a hF=>?_
 refine atk 2 (some 111) hF (hS.sx [0,1,2,4,5,6,7,8,9,10,11,12,13,14] (rg 15)) rfl (vld 1 9 0) fun a hF=>?_
 refine atk 6 (some 115) hF (hS.sx [0,1,2,4,5,6,7,8,9,10,11,12,13,14] (rg 15)) rfl (vld 2 0 0) fun a hF=>?_
 refine anp [7,8] [0,3,4,6] hF (hS.sx [0,1,2,4,5,6,7,8,9,10,11,12,13,14] (rg 15)) fun a hF=>?_
 refine and_ ?_
 refine hK155 _ _ ?_
 refine seq_join (fun a w => ∃(κ:Gh) (y156:List ByteArray) (p157:Option Addr) (c158:Nat) (y159:List Int) (p160:Option Addr) (c161:Nat) (p162:Option Nat) (cs163:List Nat) (y164:Option T_gate_move),Fr (476) [] [(0,pt b72 0),(3,pt b79 0)] a∧SS Ms κ0 w0 κ w [.box b72 87 [si a1,si a2,si a3,si (IntKind.i64.wrap a73.Id),si a5,si a6,sl p157 (y156).length c158,sl p160 (y159).length c161,sl p13 (a12).length c14,sl p16 (a15).length c17,sl p19 (a18).length c20,sb a21,(1,[.pointer (pa p23)]),(1,[.pointer (pa p26)]),(1,[.pointer (pa p29)]),su a31,(4,(encs fPtr p33)),ei 4 a35,ei 4 a36,(1,[.map p38]),(1,[.map p42]),sl p46 (a45).length c47,(1,[.map p49]),(1,cs52),(1,[.pointer (pa p162)]),si a56,si a57,sl p59 (a58).length c60,sl p62 (a61).length c63,su a64,sb a65,sb a66,sb a67,sl p69 (a68).length c70,(1,cs71)],.box b79 38 [si a73.Kind,su a73.Id,su a73.N,su a73.TS,sg a73.Lo,sg a73.Hi,sl p74 (a73.Vers).length c75,sl p76 (a73.Vec).length c77,si a73.Cmd.Kind,si a73.Cmd.DC,si a73.Cmd.Shard,si a73.Cmd.Node,si a73.Cmd.Mode,sg a73.Cmd.Key],.tok p69 61 15 (a68).length c70,.ext (ownX (fInt .i64) 3 p13 c14 a12),.ext (ownX fBool 4 p16 c17 a15),.ext (ownX (fInt .i64) 3 p19 c20 a18),.ext (optX o_stab_Table p23 cs24 a22),.ext (optX o_order_Log p26 cs27 a25),.ext (optX o_coord_Table p29 cs30 a28),.ext (arrX o_inbox_Box p33 cs34 a32),.ext (objX p38 (.map m39 c40)),.ext (objX p42 (.map m43 c44)),.ext (objX p49 (.map m50 c51)),.ext (optX o_gate_move p162 cs163 y164)] [Ro.mp fStr.ty p157 c158 y156,Ro.mp (fInt .i64).ty p160 c161 y159,ml p33 4,ml a35 4,ml a36 4,Map.mp (kInt .u64) false (fInt .i64).ty p38 m39 c40 a37,Map.mp (kInt .u64) true t_gate_call p42 m43 c44 a41,Ro.mp t_gate_call p46 c47 a45,Map.mp (kInt .u64) true t_gate_load p49 m50 c51 a48,Ro.mp (fInt .u64).ty p59 c60 a58,Ro.mp (fInt .u64).ty p62 c63 a61,Ro.mp t_api_Mail p69 c70 a68,Ro.mp f_api_Ver.ty p74 c75 a73.Vers,Ro.mp (fInt .u64).ty p76 c77 a73.Vec]∧M.gate_Gate_ordered_k2 N a1 a2 a3 a5 a6 a12 a15 a18 a21 a22 a25 a28 a31 a32 a35 a36 a37 a41 a45 a48 a56 a57 a58 a61 a64 a65 a66 a67 a68 a73 y156 y159 y164=some r) ?_ ?_
 refine wpIn_block ?_
 refine wpIn_seq_k fun K308 hK308=>?_
 refine wpIn_region_lit ?_
 refine bind_split H (fun v310 hv310 H=>?_)
 refine wl_join (fun a w => ∃κ:Gh,Fr (476) [] [(0,pt b72 0),(3,pt b79 0),(4,pt b91 0),(6,vb (a73.Cmd.DC==a1)),(117,vb v310)] a∧SS Ms κ0 w0 κ w [.box b91 22 [eb 4 y144],.box b79 38 [si a73.Kind,su a73.Id,su a73.N,su a73.TS,sg a73.Lo,sg a73.Hi,sl p74 (a73.Vers).length c75,sl p76 (a73.Vec).length c77,si a73.Cmd.Kind,si a73.Cmd.DC,si a73.Cmd.Shard,si a73.Cmd.Node,si a73.Cmd.Mode,sg a73.Cmd.Key],.box b72 87 [si a1,si a2,si a3,si (IntKind.i64.wrap a73.Id),si a5,si a6,sl p8 (a7.Cuts).length c9,sl p10 (a7.Nodes).length c11,sl p13 (a12).length c14,sl p16 (a15).length c17,sl p19 (a18).length c20,sb a21,(1,[.pointer (pa p23)]),(1,[.pointer (pa p26)]),(1,[.pointer (pa p29)]),su a31,(4,(encs fPtr p33)),ei 4 a35,ei 4 a36,(1,[.map p38]),(1,[.map p42]),sl p46 (a45).length c47,(1,[.map p49]),(1,cs52),(1,[.pointer (pa p54)]),si a56,si a57,sl p59 (a58).length c60,sl p62 (a61).length c63,su a64,sb a65,sb a66,sb a67,sl p69 (a68).length c70,(1,cs71)],.tok p69 61 15 (a68).length c70,.ext (ownX (fInt .i64) 3 p13 c14 a12),.ext (ownX fBool 4 p16 c17 a15),.ext (ownX (fInt .i64) 3 p19 c20 a18),.ext (optX o_stab_Table p23 cs24 a22),.ext (optX o_order_Log p26 cs27 a25),.ext (optX o_coord_Table p29 cs30 a28),.ext (arrX o_inbox_Box p33 cs34 a32),.ext (objX p38 (.map m39 c40)),.ext (objX p42 (.map m43 c44)),.ext (objX p49 (.map m50 c51)),.ext (optX o_gate_move p54 cs55 a53)] [Ro.mp fStr.ty p8 c9 a7.Cuts,Ro.mp (fInt .i64).ty p10 c11 a7.Nodes,ml p33 4,ml a35 4,ml a36 4,Map.mp (kInt .u64) false (fInt .i64).ty p38 m39 c40 a37,Map.mp (kInt .u64) true t_gate_call p42 m43 c44 a41,Ro.mp t_gate_call p46 c47 a45,Map.mp (kInt .u64) true t_gate_load p49 m50 c51 a48,Ro.mp (fInt .u64).ty p59 c60 a58,Ro.mp (fInt .u64).ty p62 c63 a61,Ro.mp t_api_Mail p69 c70 a68,ml y144 4,Ro.mp f_api_Ver.ty p74 c75 a73.Vers,Ro.mp (fInt .u64).ty p76 c77 a73.Vec]∧True) ?_ ?_
 refine wp 2 [0,3,4,6,119] hF fun a hF=>?_
 refine wc (wld hF hS 1 8 0 fun a hF=>?_)
 refine wp 2 [0,3,4,6,122] hF fun a hF=>?_
 refine bif_split hv310 (fun hb hv310=>?_) (fun hb hv310=>?_)
 have hF:=hF.boolv 122 (by kernel_rfl) hb
 refine wp 1 [0,3,4,6,122,123] hF fun a hF=>?_
 refine wcg hF (wld hF hS 1 2 0 fun a hF=>?_)
 refine wp 3 [0,3,4,6,127] hF fun a hF=>?_
 refine bif_split hv310 (fun hb hv310=>?_) (fun hb hv310=>?_)
 have hF:=hF.boolv 127 (by kernel_rfl) hb
 refine wp 3 [0,3,4,6,117] hF fun a hF=>?_
 refine wpListIn_nil ?_
 cases hv310
 exact ⟨_,hF.kp [0,3,4,6,117],hS.sp (rg 15) (rg 15),trivial⟩
 have hF:=hF.boolv 127 (by kernel_rfl) hb
 refine wp 3 [0,3,4,6,117] hF fun a hF=>?_
 refine wpListIn_nil ?_
 cases hv310
 exact ⟨_,hF.kp [0,3,4,6,117],hS.sp (rg 15) (rg 15),trivial⟩
 have hF:=hF.boolv 122 (by kernel_rfl) hb
 refine wp 8 [0,3,4,6,117] hF fun a hF=>?_
 refine wpListIn_nil ?_
 cases hv310
 exact ⟨_,hF.kp [0,3,4,6,117],hS.sp (rg 15) (rg 15),trivial⟩
 rintro a w ⟨κ,hF,hS,-⟩
 refine hK308 _ _ ?_
 refine bif_split H (fun hb H=>?_) (fun hb H=>?_)
 refine cond_t hF (by kernel_rfl) hb ?_
 cases H
 refine cond_f hF (by kernel_rfl) hb ?_
 refine wpIn_seq_k fun K311 hK311=>?_
 refine wpIn_region_lit ?_
 refine bind_split H (fun v313 hv313 H=>?_)
 refine wl_join (fun a w => ∃κ:Gh,Fr (476) [] [(0,pt b72 0),(3,pt b79 0),(4,pt b91 0),(6,vb (a73.Cmd.DC==a1)),(133,vb v313)] a∧SS Ms κ0 w0 κ w [.box b91 22 [eb 4 y144],.box b79 38 [si a73.Kind,su a73.Id,su a73.N,su a73.TS,sg a73.Lo,sg a73.Hi,sl p74 (a73.Vers).length c75,sl p76 (a73.Vec).length c77,si a73.Cmd.Kind,si a73.Cmd.DC,si a73.Cmd.Shard,si a73.Cmd.Node,si a73.Cmd.Mode,sg a73.Cmd.Key],.box b72 87 [si a1,si a2,si a3,si (IntKind.i64.wrap a73.Id),si a5,si a6,sl p8 (a7.Cuts).length c9,sl p10 (a7.Nodes).length c11,sl p13 (a12).length c14,sl p16 (a15).length c17,sl p19 (a18).length c20,sb a21,(1,[.pointer (pa p23)]),(1,[.pointer (pa p26)]),(1,[.pointer (pa p29)]),su a31,(4,(encs fPtr p33)),ei 4 a35,ei 4 a36,(1,[.map p38]),(1,[.map p42]),sl p46 (a45).length c47,(1,[.map p49]),(1,cs52),(1,[.pointer (pa p54)]),si a56,si a57,sl p59 (a58).length c60,sl p62 (a61).length c63,su a64,sb a65,sb a66,sb a67,sl p69 (a68).length c70,(1,cs71)],.tok p69 61 15 (a68).length c70,.ext (ownX (fInt .i64) 3 p13 c14 a12),.ext (ownX fBool 4 p16 c17 a15),.ext (ownX (fInt .i64) 3 p19 c20 a18),.ext (optX o_stab_Table p23 cs24 a22),.ext (optX o_order_Log p26 cs27 a25),.ext (optX o_coord_Table p29 cs30 a28),.ext (arrX o_inbox_Box p33 cs34 a32),.ext (objX p38 (.map m39 c40)),.ext (objX p42 (.map m43 c44)),.ext (objX p49 (.map m50 c51)),.ext (optX o_gate_move p54 cs55 a53)] [Ro.mp fStr.ty p8 c9 a7.Cuts,Ro.mp (fInt .i64).ty p10 c11 a7.Nodes,ml p33 4,ml a35 4,ml a36 4,Map.mp (kInt .u64) false (fInt .i64).ty p38 m39 c40 a37,Map.mp (kInt .u64) true t_gate_call p42 m43 c44 a41,Ro.mp t_gate_call p46 c47 a45,Map.mp (kInt .u64) true t_gate_load p49 m50 c51 a48,Ro.mp (fInt .u64).ty p59 c60 a58,Ro.mp (fInt .u64).ty p62 c63 a61,Ro.mp t_api_Mail p69 c70 a68,ml y144 4,Ro.mp f_api_Ver.ty p74 c75 a73.Vers,Ro.mp (fInt .u64).ty p76 c77 a73.Vec]∧True) ?_ ?_
 refine wp 2 [0,3,4,6,135] hF fun a hF=>?_
 refine wc (wld hF hS 1 8 0 fun a hF=>?_)
 refine wp 2 [0,3,4,6,138] hF fun a hF=>?_
 refine bif_split hv313 (fun hb hv313=>?_) (fun hb hv313=>?_)
 have hF:=hF.boolv 138 (by kernel_rfl) hb
 refine wp 1 [0,3,4,6,138,139] hF fun a hF=>?_
 refine wcg hF (wld hF hS 1 2 0 fun a hF=>?_)
 refine wp 3 [0,3,4,6,143] hF fun a hF=>?_
 refine bif_split hv313 (fun hb hv313=>?_) (fun hb hv313=>?_)
 have hF:=hF.boolv 143 (by kernel_rfl) hb
 refine wp 3 [0,3,4,6,143,146] hF fun a hF=>?_
 refine wcg hF (wld hF hS 2 2 0 fun a hF=>?_)
 refine wp 3 [0,3,4,6,133] hF fun a hF=>?_
 refine wpListIn_nil ?_
 cases hv313
 exact ⟨_,hF.kp [0,3,4,6,133],hS.sp (rg 15) (rg 15),trivial⟩
 have hF:=hF.boolv 143 (by kernel_rfl) hb
 refine wp 7 [0,3,4,6,133] hF fun a hF=>?_
 refine wpListIn_nil ?_
 cases hv313
 exact ⟨_,hF.kp [0,3,4,6,133],hS.sp (rg 15) (rg 15),trivial⟩
 have hF:=hF.boolv 138 (by kernel_rfl) hb
 refine wp 12 [0,3,4,6,133] hF fun a hF=>?_
 refine wpListIn_nil ?_
 cases hv313
 exact ⟨_,hF.kp [0,3,4,6,133],hS.sp (rg 15) (rg 15),trivial⟩
 rintro a w ⟨κ,hF,hS,-⟩
 refine hK311 _ _ ?_
 refine bif_split H (fun hb H=>?_) (fun hb H=>?_)
 refine cond_t hF (by kernel_rfl) hb ?_
 cases H
 refine cond_f hF (by kernel_rfl) hb ?_
 refine wpIn_seq_k fun K314 hK314=>?_
 refine wpIn_region_lit ?_
 refine bind_split H (fun v316 hv316 H=>?_)
 refine wl_join (fun a w => ∃κ:Gh,Fr (476) [] [(0,pt b72 0),(3,pt b79 0),(4,pt b91 0),(6,vb (a73.Cmd.DC==a1)),(155,vb v316)] a∧SS Ms κ0 w0 κ w [.box b91 22 [eb 4 y144],.box b79 38 [si a73.Kind,su a73.Id,su a73.N,su a73.TS,sg a73.Lo,sg a73.Hi,sl p74 (a73.Vers).length c75,sl p76 (a73.Vec).length c77,si a73.Cmd.Kind,si a73.Cmd.DC,si a73.Cmd.Shard,si a73.Cmd.Node,si a73.Cmd.Mode,sg a73.Cmd.Key],.box b72 87 [si a1,si a2,si a3,si (IntKind.i64.wrap a73.Id),si a5,si a6,sl p8 (a7.Cuts).length c9,sl p10 (a7.Nodes).length c11,sl p13 (a12).length c14,sl p16 (a15).length c17,sl p19 (a18).length c20,sb a21,(1,[.pointer (pa p23)]),(1,[.pointer (pa p26)]),(1,[.pointer (pa p29)]),su a31,(4,(encs fPtr p33)),ei 4 a35,ei 4 a36,(1,[.map p38]),(1,[.map p42]),sl p46 (a45).length c47,(1,[.map p49]),(1,cs52),(1,[.pointer (pa p54)]),si a56,si a57,sl p59 (a58).length c60,sl p62 (a61).length c63,su a64,sb a65,sb a66,sb a67,sl p69 (a68).length c70,(1,cs71)],.tok p69 61 15 (a68).length c70,.ext (ownX (fInt .i64) 3 p13 c14 a12),.ext (ownX fBool 4 p16 c17 a15),.ext (ownX (fInt .i64) 3 p19 c20 a18),.ext (optX o_stab_Table p23 cs24 a22),.ext (optX o_order_Log p26 cs27 a25),.ext (optX o_coord_Table p29 cs30 a28),.ext (arrX o_inbox_Box p33 cs34 a32),.ext (objX p38 (.map m39 c40)),.ext (objX p42 (.map m43 c44)),.ext (objX p49 (.map m50 c51)),.ext (optX o_gate_move p54 cs55 a53)] [Ro.mp fStr.ty p8 c9 a7.Cuts,Ro.mp (fInt .i64).ty p10 c11 a7.Nodes,ml p33 4,ml a35 4,ml a36 4,Map.mp (kInt .u64) false (fInt .i64).ty p38 m39 c40 a37,Map.mp (kInt .u64) true t_gate_call p42 m43 c44 a41,Ro.mp t_gate_call p46 c47 a45,Map.mp (kInt .u64) true t_gate_load p49 m50 c51 a48,Ro.mp (fInt .u64).ty p59 c60 a58,Ro.mp (fInt .u64).ty p62 c63 a61,Ro.mp t_api_Mail p69 c70 a68,ml y144 4,Ro.mp f_api_Ver.ty p74 c75 a73.Vers,Ro.mp (fInt .u64).ty p76 c77 a73.Vec]∧True) ?_ ?_
 refine wp 2 [0,3,4,6,157] hF fun a hF=>?_
 refine wc (wld hF hS 1 8 0 fun a hF=>?_)
 refine wp 2 [0,3,4,6,160] hF fun a hF=>?_
 refine bif_split hv316 (fun hb hv316=>?_) (fun hb hv316=>?_)
 have hF:=hF.boolv 160 (by kernel_rfl) hb
 refine wp 3 [0,3,4,6,163] hF fun a hF=>?_
 refine bif_split hv316 (fun hb hv316=>?_) (fun hb hv316=>?_)
 have hF:=hF.boolv 163 (by kernel_rfl) hb
 refine wp 3 [0,3,4,6,163,166] hF fun a hF=>?_
 refine wcg hF (wld hF hS 2 2 0 fun a hF=>?_)
 refine wp 3 [0,3,4,6,155] hF fun a hF=>?_
 refine wpListIn_nil ?_
 cases hv316
 exact ⟨_,hF.kp [0,3,4,6,155],hS.sp (rg 15) (rg 15),trivial⟩
 have hF:=hF.boolv 163 (by kernel_rfl) hb
 refine wp 7 [0,3,4,6,155] hF fun a hF=>?_
 refine wpListIn_nil ?_
 cases hv316
 exact ⟨_,hF.kp [0,3,4,6,155],hS.sp (rg 15) (rg 15),trivial⟩
 have hF:=hF.boolv 160 (by kernel_rfl) hb
 refine wp 10 [0,3,4,6,155] hF fun a hF=>?_
 refine wpListIn_nil ?_
 cases hv316
 exact ⟨_,hF.kp [0,3,4,6,155],hS.sp (rg 15) (rg 15),trivial⟩
 rintro a w ⟨κ,hF,hS,-⟩
 refine hK314 _ _ ?_
 refine bif_split H (fun hb H=>?_) (fun hb H=>?_)
 refine cond_t hF (by kernel_rfl) hb ?_
 refine wpIn_seq_k fun K317 hK317=>?_
 cases H
 refine cond_f hF (by kernel_rfl) hb ?_
 refine wpIn_seq_k fun K318 hK318=>?_
 refine wpIn_region_lit ?_
 refine bind_split H (fun v320 hv320 H=>?_)
 refine wl_join (fun a w => ∃κ:Gh,Fr (476) [] [(0,pt b72 0),(3,pt b79 0),(4,pt b91 0),(6,vb (a73.Cmd.DC==a1)),(182,vb v320)] a∧SS Ms κ0 w0 κ w [.box b91 22 [eb 4 y144],.box b79 38 [si a73.Kind,su a73.Id,su a73.N,su a73.TS,sg a73.Lo,sg a73.Hi,sl p74 (a73.Vers).length c75,sl p76 (a73.Vec).length c77,si a73.Cmd.Kind,si a73.Cmd.DC,si a73.Cmd.Shard,si a73.Cmd.Node,si a73.Cmd.Mode,sg a73.Cmd.Key],.box b72 87 [si a1,si a2,si a3,si (IntKind.i64.wrap a73.Id),si a5,si a6,sl p8 (a7.Cuts).length c9,sl p10 (a7.Nodes).length c11,sl p13 (a12).length c14,sl p16 (a15).length c17,sl p19 (a18).length c20,sb a21,(1,[.pointer (pa p23)]),(1,[.pointer (pa p26)]),(1,[.pointer (pa p29)]),su a31,(4,(encs fPtr p33)),ei 4 a35,ei 4 a36,(1,[.map p38]),(1,[.map p42]),sl p46 (a45).length c47,(1,[.map p49]),(1,cs52),(1,[.pointer (pa p54)]),si a56,si a57,sl p59 (a58).length c60,sl p62 (a61).length c63,su a64,sb a65,sb a66,sb a67,sl p69 (a68).length c70,(1,cs71)],.tok p69 61 15 (a68).length c70,.ext (ownX (fInt .i64) 3 p13 c14 a12),.ext (ownX fBool 4 p16 c17 a15),.ext (ownX (fInt .i64) 3 p19 c20 a18),.ext (optX o_stab_Table p23 cs24 a22),.ext (optX o_order_Log p26 cs27 a25),.ext (optX o_coord_Table p29 cs30 a28),.ext (arrX o_inbox_Box p33 cs34 a32),.ext (objX p38 (.map m39 c40)),.ext (objX p42 (.map m43 c44)),.ext (objX p49 (.map m50 c51)),.ext (optX o_gate_move p54 cs55 a53)] [Ro.mp fStr.ty p8 c9 a7.Cuts,Ro.mp (fInt .i64).ty p10 c11 a7.Nodes,ml p33 4,ml a35 4,ml a36 4,Map.mp (kInt .u64) false (fInt .i64).ty p38 m39 c40 a37,Map.mp (kInt .u64) true t_gate_call p42 m43 c44 a41,Ro.mp t_gate_call p46 c47 a45,Map.mp (kInt .u64) true t_gate_load p49 m50 c51 a48,Ro.mp (fInt .u64).ty p59 c60 a58,Ro.mp (fInt .u64).ty p62 c63 a61,Ro.mp t_api_Mail p69 c70 a68,ml y144 4,Ro.mp f_api_Ver.ty p74 c75 a73.Vers,Ro.mp (fInt .u64).ty p76 c77 a73.Vec]∧True) ?_ ?_
 refine wp 2 [0,3,4,6,184] hF fun a hF=>?_
 refine wc (wld hF hS 1 8 0 fun a hF=>?_)
 refine wp 2 [0,3,4,6,187] hF fun a hF=>?_
 refine bif_split hv320 (fun hb hv320=>?_) (fun hb hv320=>?_)
 have hF:=hF.boolv 187 (by kernel_rfl) hb
 refine wp 1 [0,3,4,6,187,188] hF fun a hF=>?_
 refine wcg hF (wld hF hS 1 2 0 fun a hF=>?_)
 refine wp 3 [0,3,4,6,192] hF fun a hF=>?_
 refine bif_split hv320 (fun hb hv320=>?_) (fun hb hv320=>?_)
 have hF:=hF.boolv 192 (by kernel_rfl) hb
 refine wp 3 [0,3,4,6,195] hF fun a hF=>?_
 refine bif_split hv320 (fun hb hv320=>?_) (fun hb hv320=>?_)
 have hF:=hF.boolv 195 (by kernel_rfl) hb
 refine wp 3 [0,3,4,6,195,198] hF fun a hF=>?_
 refine wcg hF (wld hF hS 2 2 0 fun a hF=>?_)
 refine wp 3 [0,3,4,6,182] hF fun a hF=>?_
 refine wpListIn_nil ?_
 cases hv320
 exact ⟨_,hF.kp [0,3,4,6,182],hS.sp (rg 15) (rg 15),trivial⟩
 have hF:=hF.boolv 195 (by kernel_rfl) hb
 refine wp 7 [0,3,4,6,182] hF fun a hF=>?_
 refine wpListIn_nil ?_
 cases hv320
 exact ⟨_,hF.kp [0,3,4,6,182],hS.sp (rg 15) (rg 15),trivial⟩
 have hF:=hF.boolv 192 (by kernel_rfl) hb
 refine wp 10 [0,3,4,6,182] hF fun a hF=>?_
 refine wpListIn_nil ?_
 cases hv320
 exact ⟨_,hF.kp [0,3,4,6,182],hS.sp (rg 15) (rg 15),trivial⟩
 have hF:=hF.boolv 187 (by kernel_rfl) hb
 refine wp 15 [0,3,4,6,182] hF fun a hF=>?_
 refine wpListIn_nil ?_
 cases hv320
 exact ⟨_,hF.kp [0,3,4,6,182],hS.sp (rg 15) (rg 15),trivial⟩
 rintro a w ⟨κ,hF,hS,-⟩
 refine hK318 _ _ ?_
 refine bif_split H (fun hb H=>?_) (fun hb H=>?_)
 refine cond_t hF (by kernel_rfl) hb ?_
 cases H
 refine cond_f hF (by kernel_rfl) hb ?_
 refine wpIn_seq_k fun K321 hK321=>?_
 refine wpIn_region_lit ?_
 refine bind_split H (fun v323 hv323 H=>?_)
 refine wl_join (fun a w => ∃κ:Gh,Fr (476) [] [(0,pt b72 0),(3,pt b79 0),(4,pt b91 0),(6,vb (a73.Cmd.DC==a1)),(208,vb v323)] a∧SS Ms κ0 w0 κ w [.box b91 22 [eb 4 y144],.box b79 38 [si a73.Kind,su a73.Id,su a73.N,su a73.TS,sg a73.Lo,sg a73.Hi,sl p74 (a73.Vers).length c75,sl p76 (a73.Vec).length c77,si a73.Cmd.Kind,si a73.Cmd.DC,si a73.Cmd.Shard,si a73.Cmd.Node,si a73.Cmd.Mode,sg a73.Cmd.Key],.box b72 87 [si a1,si a2,si a3,si (IntKind.i64.wrap a73.Id),si a5,si a6,sl p8 (a7.Cuts).length c9,sl p10 (a7.Nodes).length c11,sl p13 (a12).length c14,sl p16 (a15).length c17,sl p19 (a18).length c20,sb a21,(1,[.pointer (pa p23)]),(1,[.pointer (pa p26)]),(1,[.pointer (pa p29)]),su a31,(4,(encs fPtr p33)),ei 4 a35,ei 4 a36,(1,[.map p38]),(1,[.map p42]),sl p46 (a45).length c47,(1,[.map p49]),(1,cs52),(1,[.pointer (pa p54)]),si a56,si a57,sl p59 (a58).length c60,sl p62 (a61).length c63,su a64,sb a65,sb a66,sb a67,sl p69 (a68).length c70,(1,cs71)],.tok p69 61 15 (a68).length c70,.ext (ownX (fInt .i64) 3 p13 c14 a12),.ext (ownX fBool 4 p16 c17 a15),.ext (ownX (fInt .i64) 3 p19 c20 a18),.ext (optX o_stab_Table p23 cs24 a22),.ext (optX o_order_Log p26 cs27 a25),.ext (optX o_coord_Table p29 cs30 a28),.ext (arrX o_inbox_Box p33 cs34 a32),.ext (objX p38 (.map m39 c40)),.ext (objX p42 (.map m43 c44)),.ext (objX p49 (.map m50 c51)),.ext (optX o_gate_move p54 cs55 a53)] [Ro.mp fStr.ty p8 c9 a7.Cuts,Ro.mp (fInt .i64).ty p10 c11 a7.Nodes,ml p33 4,ml a35 4,ml a36 4,Map.mp (kInt .u64) false (fInt .i64).ty p38 m39 c40 a37,Map.mp (kInt .u64) true t_gate_call p42 m43 c44 a41,Ro.mp t_gate_call p46 c47 a45,Map.mp (kInt .u64) true t_gate_load p49 m50 c51 a48,Ro.mp (fInt .u64).ty p59 c60 a58,Ro.mp (fInt .u64).ty p62 c63 a61,Ro.mp t_api_Mail p69 c70 a68,ml y144 4,Ro.mp f_api_Ver.ty p74 c75 a73.Vers,Ro.mp (fInt .u64).ty p76 c77 a73.Vec]∧True) ?_ ?_
 refine wp 2 [0,3,4,6,210] hF fun a hF=>?_
 refine wc (wld hF hS 1 8 0 fun a hF=>?_)
 refine wp 2 [0,3,4,6,213] hF fun a hF=>?_
 refine bif_split hv323 (fun hb hv323=>?_) (fun hb hv323=>?_)
 have hF:=hF.boolv 213 (by kernel_rfl) hb
 refine wp 1 [0,3,4,6,213,214] hF fun a hF=>?_
 refine wcg hF (wld hF hS 1 2 0 fun a hF=>?_)
 refine wp 3 [0,3,4,6,218] hF fun a hF=>?_
 refine bif_split hv323 (fun hb hv323=>?_) (fun hb hv323=>?_)
 have hF:=hF.boolv 218 (by kernel_rfl) hb
 refine wp 3 [0,3,4,6,208] hF fun a hF=>?_
 refine wpListIn_nil ?_
 cases hv323
 exact ⟨_,hF.kp [0,3,4,6,208],hS.sp (rg 15) (rg 15),trivial⟩
 have hF:=hF.boolv 218 (by kernel_rfl) hb
 refine wp 3 [0,3,4,6,208] hF fun a hF=>?_
 refine wpListIn_nil ?_
 cases hv323
 exact ⟨_,hF.kp [0,3,4,6,208],hS.sp (rg 15) (rg 15),trivial⟩
 have hF:=hF.boolv 213 (by kernel_rfl) hb
 refine wp 8 [0,3,4,6,208] hF fun a hF=>?_
 refine wpListIn_nil ?_
 cases hv323
 exact ⟨_,hF.kp [0,3,4,6,208],hS.sp (rg 15) (rg 15),trivial⟩
 rintro a w ⟨κ,hF,hS,-⟩
 refine hK321 _ _ ?_
 refine bif_split H (fun hb H=>?_) (fun hb H=>?_)
 refine cond_t hF (by kernel_rfl) hb ?_
 refine wpIn_seq_k fun K324 hK324=>?_
 cases H
 refine cond_f hF (by kernel_rfl) hb ?_
 refine wpIn_seq_k fun K325 hK325=>?_
 refine wpIn_region_lit ?_
 refine bind_split H (fun v327 hv327 H=>?_)
 refine wl_join (fun a w => ∃κ:Gh,Fr (476) [] [(0,pt b72 0),(3,pt b79 0),(6,vb (a73.Cmd.DC==a1)),(251,vb v327)] a∧SS Ms κ0 w0 κ w [.box b79 38 [si a73.Kind,su a73.Id,su a73.N,su a73.TS,sg a73.Lo,sg a73.Hi,sl p74 (a73.Vers).length c75,sl p76 (a73.Vec).length c77,si a73.Cmd.Kind,si a73.Cmd.DC,si a73.Cmd.Shard,si a73.Cmd.Node,si a73.Cmd.Mode,sg a73.Cmd.Key],.box b72 87 [si a1,si a2,si a3,si (IntKind.i64.wrap a73.Id),si a5,si a6,sl p8 (a7.Cuts).length c9,sl p10 (a7.Nodes).length c11,sl p13 (a12).length c14,sl p16 (a15).length c17,sl p19 (a18).length c20,sb a21,(1,[.pointer (pa p23)]),(1,[.pointer (pa p26)]),(1,[.pointer (pa p29)]),su a31,(4,(encs fPtr p33)),ei 4 a35,ei 4 a36,(1,[.map p38]),(1,[.map p42]),sl p46 (a45).length c47,(1,[.map p49]),(1,cs52),(1,[.pointer (pa p54)]),si a56,si a57,sl p59 (a58).length c60,sl p62 (a61).length c63,su a64,sb a65,sb a66,sb a67,sl p69 (a68).length c70,(1,cs71)],.tok p69 61 15 (a68).length c70,.ext (ownX (fInt .i64) 3 p13 c14 a12),.ext (ownX fBool 4 p16 c17 a15),.ext (ownX (fInt .i64) 3 p19 c20 a18),.ext (optX o_stab_Table p23 cs24 a22),.ext (optX o_order_Log p26 cs27 a25),.ext (optX o_coord_Table p29 cs30 a28),.ext (arrX o_inbox_Box p33 cs34 a32),.ext (objX p38 (.map m39 c40)),.ext (objX p42 (.map m43 c44)),.ext (objX p49 (.map m50 c51)),.ext (optX o_gate_move p54 cs55 a53)] [Ro.mp fStr.ty p8 c9 a7.Cuts,Ro.mp (fInt .i64).ty p10 c11 a7.Nodes,ml p33 4,ml a35 4,ml a36 4,Map.mp (kInt .u64) false (fInt .i64).ty p38 m39 c40 a37,Map.mp (kInt .u64) true t_gate_call p42 m43 c44 a41,Ro.mp t_gate_call p46 c47 a45,Map.mp (kInt .u64) true t_gate_load p49 m50 c51 a48,Ro.mp (fInt .u64).ty p59 c60 a58,Ro.mp (fInt .u64).ty p62 c63 a61,Ro.mp t_api_Mail p69 c70 a68,Ro.mp f_api_Ver.ty p74 c75 a73.Vers,Ro.mp (fInt .u64).ty p76 c77 a73.Vec]∧True) ?_ ?_
 refine wp 2 [0,3,6,253] hF fun a hF=>?_
 refine wc (wld hF hS 1 8 0 fun a hF=>?_)
 refine wp 2 [0,3,6,256] hF fun a hF=>?_
 refine bif_split hv327 (fun hb hv327=>?_) (fun hb hv327=>?_)
 have hF:=hF.boolv 256 (by kernel_rfl) hb
 refine wp 1 [0,3,6,256,257] hF fun a hF=>?_
 refine wcg hF (wld hF hS 1 2 0 fun a hF=>?_)
 refine wp 3 [0,3,6,251] hF fun a hF=>?_
 refine wpListIn_nil ?_
 cases hv327
 exact ⟨_,hF.kp [0,3,6,251],hS.sp [1,2,3,4,5,6,7,8,9,10,11,12,13,14] [0,1,2,3,4,5,6,7,8,9,10,11,13,14],trivial⟩
 have hF:=hF.boolv 256 (by kernel_rfl) hb
 refine wp 5 [0,3,6,251] hF fun a hF=>?_
 refine wpListIn_nil ?_
 cases hv327
 exact ⟨_,hF.kp [0,3,6,251],hS.sp [1,2,3,4,5,6,7,8,9,10,11,12,13,14] [0,1,2,3,4,5,6,7,8,9,10,11,13,14],trivial⟩
 rintro a w ⟨κ,hF,hS,-⟩
 refine hK325 _ _ ?_
 refine bif_split H (fun hb H=>?_) (fun hb H=>?_)
 refine cond_t hF (by kernel_rfl) hb ?_
 refine wpIn_seq_k fun K328 hK328=>?_
 cases H
 refine cond_f hF (by kernel_rfl) hb ?_
 refine wpIn_seq_k fun K329 hK329=>?_
 refine bind_split H (fun v334 hv334 H=>?_)
 refine code_join (fun a w => ∃(κ:Gh) (p330:Option Nat) (cs331:List Nat),Fr (476) [] [(0,pt b72 0),(3,pt b79 0),(6,vb (a73.Cmd.DC==a1)),(287,vb v334.2)] a∧SS Ms κ0 w0 κ w [.box b79 38 [si a73.Kind,su a73.Id,su a73.N,su a73.TS,sg a73.Lo,sg a73.Hi,sl p74 (a73.Vers).length c75,sl p76 (a73.Vec).length c77,si a73.Cmd.Kind,si a73.Cmd.DC,si a73.Cmd.Shard,si a73.Cmd.Node,si a73.Cmd.Mode,sg a73.Cmd.Key],.box b72 87 [si a1,si a2,si a3,si (IntKind.i64.wrap a73.Id),si a5,si a6,sl p8 (a7.Cuts).length c9,sl p10 (a7.Nodes).length c11,sl p13 (a12).length c14,sl p16 (a15).length c17,sl p19 (a18).length c20,sb a21,(1,[.pointer (pa p23)]),(1,[.pointer (pa p26)]),(1,[.pointer (pa p29)]),su a31,(4,(encs fPtr p33)),ei 4 a35,ei 4 a36,(1,[.map p38]),(1,[.map p42]),sl p46 (a45).length c47,(1,[.map p49]),(1,cs52),(1,[.pointer (pa p330)]),si a56,si a57,sl p59 (a58).length c60,sl p62 (a61).length c63,su a64,sb a65,sb a66,sb a67,sl p69 (a68).length c70,(1,cs71)],.tok p69 61 15 (a68).length c70,.ext (ownX (fInt .i64) 3 p13 c14 a12),.ext (ownX fBool 4 p16 c17 a15),.ext (ownX (fInt .i64) 3 p19 c20 a18),.ext (optX o_stab_Table p23 cs24 a22),.ext (optX o_order_Log p26 cs27 a25),.ext (optX o_coord_Table p29 cs30 a28),.ext (arrX o_inbox_Box p33 cs34 a32),.ext (objX p38 (.map m39 c40)),.ext (objX p42 (.map m43 c44)),.ext (objX p49 (.map m50 c51)),.ext (optX o_gate_move p330 cs331 v334.1)] [Ro.mp fStr.ty p8 c9 a7.Cuts,Ro.mp (fInt .i64).ty p10 c11 a7.Nodes,ml p33 4,ml a35 4,ml a36 4,Map.mp (kInt .u64) false (fInt .i64).ty p38 m39 c40 a37,Map.mp (kInt .u64) true t_gate_call p42 m43 c44 a41,Ro.mp t_gate_call p46 c47 a45,Map.mp (kInt .u64) true t_gate_load p49 m50 c51 a48,Ro.mp (fInt .u64).ty p59 c60 a58,Ro.mp (fInt .u64).ty p62 c63 a61,Ro.mp t_api_Mail p69 c70 a68,Ro.mp f_api_Ver.ty p74 c75 a73.Vers,Ro.mp (fInt .u64).ty p76 c77 a73.Vec]∧True) ?_ ?_
 refine opt_split hv334 (fun ho hv334=>?_) (fun x335 ho hv334=>?_)
 obtain ⟨hpq,hS⟩:=hS.optN 13 rfl ho
 rw [hpq] at hS
 try rw [hpq] at hF
 refine wpIn_region_lit ?_
 refine bind_split hv334 (fun v339 hv339 hv334=>?_)
 refine wl_join (fun a w => ∃κ:Gh,Fr (476) [] [(0,pt b72 0),(3,pt b79 0),(6,vb (a73.Cmd.DC==a1)),(287,vb v339)] a∧SS Ms κ0 w0 κ w [.box b79 38 [si a73.Kind,su a73.Id,su a73.N,su a73.TS,sg a73.Lo,sg a73.Hi,sl p74 (a73.Vers).length c75,sl p76 (a73.Vec).length c77,si a73.Cmd.Kind,si a73.Cmd.DC,si a73.Cmd.Shard,si a73.Cmd.Node,si a73.Cmd.Mode,sg a73.Cmd.Key],.box b72 87 [si a1,si a2,si a3,si (IntKind.i64.wrap a73.Id),si a5,si a6,sl p8 (a7.Cuts).length c9,sl p10 (a7.Nodes).length c11,sl p13 (a12).length c14,sl p16 (a15).length c17,sl p19 (a18).length c20,sb a21,(1,[.pointer (pa p23)]),(1,[.pointer (pa p26)]),(1,[.pointer (pa p29)]),su a31,(4,(encs fPtr p33)),ei 4 a35,ei 4 a36,(1,[.map p38]),(1,[.map p42]),sl p46 (a45).length c47,(1,[.map p49]),(1,cs52),(1,[.pointer none]),si a56,si a57,sl p59 (a58).length c60,sl p62 (a61).length c63,su a64,sb a65,sb a66,sb a67,sl p69 (a68).length c70,(1,cs71)],.tok p69 61 15 (a68).length c70,.ext (ownX (fInt .i64) 3 p13 c14 a12),.ext (ownX fBool 4 p16 c17 a15),.ext (ownX (fInt .i64) 3 p19 c20 a18),.ext (optX o_stab_Table p23 cs24 a22),.ext (optX o_order_Log p26 cs27 a25),.ext (optX o_coord_Table p29 cs30 a28),.ext (arrX o_inbox_Box p33 cs34 a32),.ext (objX p38 (.map m39 c40)),.ext (objX p42 (.map m43 c44)),.ext (objX p49 (.map m50 c51))] [Ro.mp fStr.ty p8 c9 a7.Cuts,Ro.mp (fInt .i64).ty p10 c11 a7.Nodes,ml p33 4,ml a35 4,ml a36 4,Map.mp (kInt .u64) false (fInt .i64).ty p38 m39 c40 a37,Map.mp (kInt .u64) true t_gate_call p42 m43 c44 a41,Ro.mp t_gate_call p46 c47 a45,Map.mp (kInt .u64) true t_gate_load p49 m50 c51 a48,Ro.mp (fInt .u64).ty p59 c60 a58,Ro.mp (fInt .u64).ty p62 c63 a61,Ro.mp t_api_Mail p69 c70 a68,Ro.mp f_api_Ver.ty p74 c75 a73.Vers,Ro.mp (fInt .u64).ty p76 c77 a73.Vec]∧True) ?_ ?_
 refine wp 2 [0,3,6,289] hF fun a hF=>?_
 refine wc (wld hF hS 0 8 0 fun a hF=>?_)
 refine wp 2 [0,3,6,292] hF fun a hF=>?_
 refine bif_split hv339 (fun hb hv339=>?_) (fun hb hv339=>?_)
 have hF:=hF.boolv 292 (by kernel_rfl) hb
 refine wp 3 [0,3,6,295] hF fun a hF=>?_
 refine bif_split hv339 (fun hb hv339=>?_) (fun hb hv339=>?_)
 have hF:=hF.boolv 295 (by kernel_rfl) hb
 refine wp 3 [0,3,6,295,298] hF fun a hF=>?_
 refine wcg hF (wld hF hS 1 24 0 fun a hF=>?_)
 refine wp 3 [0,3,6,287] hF fun a hF=>?_
 refine wpListIn_nil ?_
 cases hv339
 exact ⟨_,hF.kp [0,3,6,287],hS.sp (rg 13) (rg 14),trivial⟩
 have hF:=hF.boolv 295 (by kernel_rfl) hb
 refine wp 7 [0,3,6,287] hF fun a hF=>?_
 refine wpListIn_nil ?_
 cases hv339
 exact ⟨_,hF.kp [0,3,6,287],hS.sp (rg 13) (rg 14),trivial⟩
 have hF:=hF.boolv 292 (by kernel_rfl) hb
 refine wp 10 [0,3,6,287] hF fun a hF=>?_
 refine wpListIn_nil ?_
 cases hv339
 exact ⟨_,hF.kp [0,3,6,287],hS.sp (rg 13) (rg 14),trivial⟩
 rintro a w ⟨κ,hF,hS,-⟩
 cases hv334
 have hS:=hS.addOpt o_gate_move
 exact ⟨_,none,[],hF.kp [0,3,6,287],hS.sp [1,2,3,4,5,6,7,8,9,10,11,12,13,0] (rg 14),trivial⟩
 obtain ⟨b336,hpq,hS⟩:=hS.optS 13 rfl ho
 rw [hpq] at hS
 try rw [hpq] at hF
 refine wpIn_region_lit ?_
 refine bind_split hv334 (fun v337 hv337 hv334=>?_)
 refine wl_join (fun a w => ∃κ:Gh,Fr (476) [] [(0,pt b72 0),(3,pt b79 0),(6,vb (a73.Cmd.DC==a1)),(287,vb false)] a∧SS Ms κ0 w0 κ w [.box b79 38 [si a73.Kind,su a73.Id,su a73.N,su a73.TS,sg a73.Lo,sg a73.Hi,sl p74 (a73.Vers).length c75,sl p76 (a73.Vec).length c77,si a73.Cmd.Kind,si a73.Cmd.DC,si a73.Cmd.Shard,si a73.Cmd.Node,si a73.Cmd.Mode,sg a73.Cmd.Key],.box b72 87 [si a1,si a2,si a3,si (IntKind.i64.wrap a73.Id),si a5,si a6,sl p8 (a7.Cuts).length c9,sl p10 (a7.Nodes).length c11,sl p13 (a12).length c14,sl p16 (a15).length c17,sl p19 (a18).length c20,sb a21,(1,[.pointer (pa p23)]),(1,[.pointer (pa p26)]),(1,[.pointer (pa p29)]),su a31,(4,(encs fPtr p33)),ei 4 a35,ei 4 a36,(1,[.map p38]),(1,[.map p42]),sl p46 (a45).length c47,(1,[.map p49]),(1,cs52),(1,[pt b336 0]),si a56,si a57,sl p59 (a58).length c60,sl p62 (a61).length c63,su a64,sb a65,sb a66,sb a67,sl p69 (a68).length c70,(1,cs71)],.tok p69 61 15 (a68).length c70,.ext (ownX (fInt .i64) 3 p13 c14 a12),.ext (ownX fBool 4 p16 c17 a15),.ext (ownX (fInt .i64) 3 p19 c20 a18),.ext (optX o_stab_Table p23 cs24 a22),.ext (optX o_order_Log p26 cs27 a25),.ext (optX o_coord_Table p29 cs30 a28),.ext (arrX o_inbox_Box p33 cs34 a32),.ext (objX p38 (.map m39 c40)),.ext (objX p42 (.map m43 c44)),.ext (objX p49 (.map m50 c51)),.ext (optX o_gate_move (some b336) cs55 (some x335))] [Ro.mp fStr.ty p8 c9 a7.Cuts,Ro.mp (fInt .i64).ty p10 c11 a7.Nodes,ml p33 4,ml a35 4,ml a36 4,Map.mp (kInt .u64) false (fInt .i64).ty p38 m39 c40 a37,Map.mp (kInt .u64) true t_gate_call p42 m43 c44 a41,Ro.mp t_gate_call p46 c47 a45,Map.mp (kInt .u64) true t_gate_load p49 m50 c51 a48,Ro.mp (fInt .u64).ty p59 c60 a58,Ro.mp (fInt .u64).ty p62 c63 a61,Ro.mp t_api_Mail p69 c70 a68,Ro.mp f_api_Ver.ty p74 c75 a73.Vers,Ro.mp (fInt .u64).ty p76 c77 a73.Vec]∧True) ?_ ?_
 refine wp 2 [0,3,6,289] hF fun a hF=>?_
 refine wc (wld hF hS 0 8 0 fun a hF=>?_)
 refine wp 2 [0,3,6,292] hF fun a hF=>?_
 refine bif_split hv337 (fun hb hv337=>?_) (fun hb hv337=>?_)
 have hF:=hF.boolv 292 (by kernel_rfl) hb
 refine wp 3 [0,3,6,295] hF fun a hF=>?_
 refine bif_split hv337 (fun hb hv337=>?_) (fun hb hv337=>?_)
 have hF:=hF.boolv 295 (by kernel_rfl) hb
 refine wp 3 [0,3,6,295,298] hF fun a hF=>?_
 refine wcg hF (wld hF hS 1 24 0 fun a hF=>?_)
 refine wp 3 [0,3,6,287] hF fun a hF=>?_
 refine wpListIn_nil ?_
 cases hv337
 exact ⟨_,hF.kp [0,3,6,287],hS.sp (rg 14) (rg 14),trivial⟩
 have hF:=hF.boolv 295 (by kernel_rfl) hb
 refine wp 7 [0,3,6,287] hF fun a hF=>?_
 refine wpListIn_nil ?_
 cases hv337
 exact ⟨_,hF.kp [0,3,6,287],hS.sp (rg 14) (rg 14),trivial⟩
 have hF:=hF.boolv 292 (by kernel_rfl) hb
 refine wp 10 [0,3,6,287] hF fun a hF=>?_
 refine wpListIn_nil ?_
 cases hv337
 exact ⟨_,hF.kp [0,3,6,287],hS.sp (rg 14) (rg 14),trivial⟩
 rintro a w ⟨κ,hF,hS,-⟩
 cases hv334
 exact ⟨_,(some b336),cs55,hF.kp [0,3,6,287],hS.sp (rg 14) (rg 14),trivial⟩
 rintro a w ⟨κ,p330,cs331,hF,hS,-⟩
 refine hK329 _ _ ?_
 refine bif_split H (fun hb H=>?_) (fun hb H=>?_)
 refine cond_t hF (by kernel_rfl) hb ?_
 refine rga (fun _=>True) [] ?_
 have hS:=hS.drew
 refine anp [0,1,2,3,5,6,7,9,10,12,13] [0,3,302,305,309,312,315] hF trivial fun a hF=>?_
 refine any_weakS hS [18] ?_
 refine atk 4 (some 306) hF (hS.sx [0,1,3,4,5,6,7,8,9,10,11,12,13] (rg 14)) rfl (vls 1 6 2) fun a hF=>?_
 refine atk 8 (some 310) hF (hS.sx [0,1,3,4,5,6,7,8,9,10,11,12,13] (rg 14)) rfl (vld 1 1 0) fun a hF=>?_
 refine atk 11 (some 313) hF (hS.sx [0,1,3,4,5,6,7,8,9,10,11,12,13] (rg 14)) rfl (vld 0 10 0) fun a hF=>?_
 refine atk 14 (some 316) hF (hS.sx [0,1,3,4,5,6,7,8,9,10,11,12,13] (rg 14)) rfl (vld 0 13 0) fun a hF=>?_
 refine ago 15 hF rfl ?_
 refine bind_split H (fun x340 hx340 H=>?_)
 refine wo_callP hF hS (by kernel_rfl) (by kernel_rfl) (C_span_Split N hS.fresh (T_api_Map.mk a7.Cuts a7.Nodes) a2 a73.Cmd.Shard a73.Cmd.Key p8 c9 p10 c11 ((hS.pick [0,1] (by kernel_rfl)).ro) hx340) ?_
 rintro _ κ w a ⟨p341,c342,p343,c344,rfl,hR,hN⟩ hF hS hO
 have hS:=hS.adds hR
 have hS:=hS.addC hO hN
 refine ⟨fun _=>(hS.sx [2,3,5,6,7,8,9,10,11,12,13,14,15] [2,3,4,5,6,7,8,9,10,11,12,13,14,15]),?_⟩
 refine anp [16,17] [0,3,302,318,319] hF (hS.sx [2,3,5,6,7,8,9,10,11,12,13,14,15] [2,3,4,5,6,7,8,9,10,11,12,13,14,15]) fun a hF=>?_
 refine ago 18 hF rfl ?_
 refine bind_split H (fun x345 hx345 H=>?_)
 have hgx3450:=hS.segs 3 rfl
 refine wcS 1 [3,0,1,2,4,5,6,7,8,9,10,11,12,13,14,15] hF hS (fun hS=>C_gate_Gate_turn N (T_api_Map.mk a7.Cuts a7.Nodes) (T_api_Map.mk x340.1.Cuts x340.1.Nodes) x340.2 (flat [si a1,si a2,si a3,si (IntKind.i64.wrap a73.Id),si a5,si a6]) p8 c9 p10 c11 (flat [sl p13 (a12).length c14,sl p16 (a15).length c17,sl p19 (a18).length c20,sb a21,(1,[.pointer (pa p23)]),(1,[.pointer (pa p26)]),(1,[.pointer (pa p29)]),su a31,(4,(encs fPtr p33)),ei 4 a35,ei 4 a36,(1,[.map p38]),(1,[.map p42]),sl p46 (a45).length c47,(1,[.map p49]),(1,cs52),(1,[.pointer (pa p330)]),si a56,si a57,sl p59 (a58).length c60,sl p62 (a61).length c63,su a64,sb a65,sb a66,sb a67,sl p69 (a68).length c70,(1,cs71)]) p341 c342 p343 c344 b72 ((hS.regr 0 [(true,6),(false,2),(true,27)] rfl).sbK [2,3,0,1]) hx345) ?_
 rintro _ κ w a ⟨p346,c347,p348,c349,rfl,h2⟩ hF hB
 have hS:=(hB _ _ h2).unregrK 0 [(true,6),(false,2),(true,27)] (s':=[si a1,si a2,si a3,si (IntKind.i64.wrap a73.Id),si a5,si a6,sl p346 (x345.Cuts).length c347,sl p348 (x345.Nodes).length c349,sl p13 (a12).length c14,sl p16 (a15).length c17,sl p19 (a18).length c20,sb a21,(1,[.pointer (pa p23)]),(1,[.pointer (pa p26)]),(1,[.pointer (pa p29)]),su a31,(4,(encs fPtr p33)),ei 4 a35,ei 4 a36,(1,[.map p38]),(1,[.map p42]),sl p46 (a45).length c47,(1,[.map p49]),(1,cs52),(1,[.pointer (pa p330)]),si a56,si a57,sl p59 (a58).length c60,sl p62 (a61).length c63,su a64,sb a65,sb a66,sb a67,sl p69 (a68).length c70,(1,cs71)]) hgx3450 rfl
 refine ⟨notE,?_⟩
 refine and_ ?_
 exact ⟨_,x345.Cuts,p346,c347,x345.Nodes,p348,c349,p330,cs331,v334.1,hF.kp [0,3],hS.sp [0,3,4,5,6,7,8,9,10,11,12,13,14,15] [0,1,6,7,8,9,10,11,12,13,14,15,16,17],H⟩
 refine cond_f hF (by kernel_rfl) hb ?_
 refine wpIn_seq_k fun K350 hK350=>?_
 refine bind_split H (fun v355 hv355 H=>?_)
 refine code_join (fun a w => ∃(κ:Gh) (p351:Option Nat) (cs352:List Nat),Fr (476) [] [(0,pt b72 0),(3,pt b79 0),(6,vb (a73.Cmd.DC==a1)),(321,vb v355.2)] a∧SS Ms κ0 w0 κ w [.box b79 38 [si a73.Kind,su a73.Id,su a73.N,su a73.TS,sg a73.Lo,sg a73.Hi,sl p74 (a73.Vers).length c75,sl p76 (a73.Vec).length c77,si a73.Cmd.Kind,si a73.Cmd.DC,si a73.Cmd.Shard,si a73.Cmd.Node,si a73.Cmd.Mode,sg a73.Cmd.Key],.box b72 87 [si a1,si a2,si a3,si (IntKind.i64.wrap a73.Id),si a5,si a6,sl p8 (a7.Cuts).length c9,sl p10 (a7.Nodes).length c11,sl p13 (a12).length c14,sl p16 (a15).length c17,sl p19 (a18).length c20,sb a21,(1,[.pointer (pa p23)]),(1,[.pointer (pa p26)]),(1,[.pointer (pa p29)]),su a31,(4,(encs fPtr p33)),ei 4 a35,ei 4 a36,(1,[.map p38]),(1,[.map p42]),sl p46 (a45).length c47,(1,[.map p49]),(1,cs52),(1,[.pointer (pa p351)]),si a56,si a57,sl p59 (a58).length c60,sl p62 (a61).length c63,su a64,sb a65,sb a66,sb a67,sl p69 (a68).length c70,(1,cs71)],.tok p69 61 15 (a68).length c70,.ext (ownX (fInt .i64) 3 p13 c14 a12),.ext (ownX fBool 4 p16 c17 a15),.ext (ownX (fInt .i64) 3 p19 c20 a18),.ext (optX o_stab_Table p23 cs24 a22),.ext (optX o_order_Log p26 cs27 a25),.ext (optX o_coord_Table p29 cs30 a28),.ext (arrX o_inbox_Box p33 cs34 a32),.ext (objX p38 (.map m39 c40)),.ext (objX p42 (.map m43 c44)),.ext (objX p49 (.map m50 c51)),.ext (optX o_gate_move p351 cs352 v355.1)] [Ro.mp fStr.ty p8 c9 a7.Cuts,Ro.mp (fInt .i64).ty p10 c11 a7.Nodes,ml p33 4,ml a35 4,ml a36 4,Map.mp (kInt .u64) false (fInt .i64).ty p38 m39 c40 a37,Map.mp (kInt .u64) true t_gate_call p42 m43 c44 a41,Ro.mp t_gate_call p46 c47 a45,Map.mp (kInt .u64) true t_gate_load p49 m50 c51 a48,Ro.mp (fInt .u64).ty p59 c60 a58,Ro.mp (fInt .u64).ty p62 c63 a61,Ro.mp t_api_Mail p69 c70 a68,Ro.mp f_api_Ver.ty p74 c75 a73.Vers,Ro.mp (fInt .u64).ty p76 c77 a73.Vec]∧True) ?_ ?_
 refine opt_split hv355 (fun ho hv355=>?_) (fun x356 ho hv355=>?_)
 obtain ⟨hpq,hS⟩:=hS.optN 13 rfl ho
 rw [hpq] at hS
 try rw [hpq] at hF
 refine wpIn_region_lit ?_
 refine bind_split hv355 (fun v360 hv360 hv355=>?_)
 refine wl_join (fun a w => ∃κ:Gh,Fr (476) [] [(0,pt b72 0),(3,pt b79 0),(6,vb (a73.Cmd.DC==a1)),(321,vb v360)] a∧SS Ms κ0 w0 κ w [.box b79 38 [si a73.Kind,su a73.Id,su a73.N,su a73.TS,sg a73.Lo,sg a73.Hi,sl p74 (a73.Vers).length c75,sl p76 (a73.Vec).length c77,si a73.Cmd.Kind,si a73.Cmd.DC,si a73.Cmd.Shard,si a73.Cmd.Node,si a73.Cmd.Mode,sg a73.Cmd.Key],.box b72 87 [si a1,si a2,si a3,si (IntKind.i64.wrap a73.Id),si a5,si a6,sl p8 (a7.Cuts).length c9,sl p10 (a7.Nodes).length c11,sl p13 (a12).length c14,sl p16 (a15).length c17,sl p19 (a18).length c20,sb a21,(1,[.pointer (pa p23)]),(1,[.pointer (pa p26)]),(1,[.pointer (pa p29)]),su a31,(4,(encs fPtr p33)),ei 4 a35,ei 4 a36,(1,[.map p38]),(1,[.map p42]),sl p46 (a45).length c47,(1,[.map p49]),(1,cs52),(1,[.pointer none]),si a56,si a57,sl p59 (a58).length c60,sl p62 (a61).length c63,su a64,sb a65,sb a66,sb a67,sl p69 (a68).length c70,(1,cs71)],.tok p69 61 15 (a68).length c70,.ext (ownX (fInt .i64) 3 p13 c14 a12),.ext (ownX fBool 4 p16 c17 a15),.ext (ownX (fInt .i64) 3 p19 c20 a18),.ext (optX o_stab_Table p23 cs24 a22),.ext (optX o_order_Log p26 cs27 a25),.ext (optX o_coord_Table p29 cs30 a28),.ext (arrX o_inbox_Box p33 cs34 a32),.ext (objX p38 (.map m39 c40)),.ext (objX p42 (.map m43 c44)),.ext (objX p49 (.map m50 c51))] [Ro.mp fStr.ty p8 c9 a7.Cuts,Ro.mp (fInt .i64).ty p10 c11 a7.Nodes,ml p33 4,ml a35 4,ml a36 4,Map.mp (kInt .u64) false (fInt .i64).ty p38 m39 c40 a37,Map.mp (kInt .u64) true t_gate_call p42 m43 c44 a41,Ro.mp t_gate_call p46 c47 a45,Map.mp (kInt .u64) true t_gate_load p49 m50 c51 a48,Ro.mp (fInt .u64).ty p59 c60 a58,Ro.mp (fInt .u64).ty p62 c63 a61,Ro.mp t_api_Mail p69 c70 a68,Ro.mp f_api_Ver.ty p74 c75 a73.Vers,Ro.mp (fInt .u64).ty p76 c77 a73.Vec]∧True) ?_ ?_
 refine wp 2 [0,3,6,323] hF fun a hF=>?_
 refine wc (wld hF hS 0 8 0 fun a hF=>?_)
 refine wp 2 [0,3,6,326] hF fun a hF=>?_
 refine bif_split hv360 (fun hb hv360=>?_) (fun hb hv360=>?_)
 have hF:=hF.boolv 326 (by kernel_rfl) hb
 refine wp 3 [0,3,6,329] hF fun a hF=>?_
 refine bif_split hv360 (fun hb hv360=>?_) (fun hb hv360=>?_)
 have hF:=hF.boolv 329 (by kernel_rfl) hb
 refine wp 3 [0,3,6,329,332] hF fun a hF=>?_
 refine wcg hF (wld hF hS 1 24 0 fun a hF=>?_)
 refine wp 3 [0,3,6,321] hF fun a hF=>?_
 refine wpListIn_nil ?_
 cases hv360
 exact ⟨_,hF.kp [0,3,6,321],hS.sp (rg 13) (rg 14),trivial⟩
 have hF:=hF.boolv 329 (by kernel_rfl) hb
 refine wp 7 [0,3,6,321] hF fun a hF=>?_
 refine wpListIn_nil ?_
 cases hv360
 exact ⟨_,hF.kp [0,3,6,321],hS.sp (rg 13) (rg 14),trivial⟩
 have hF:=hF.boolv 326 (by kernel_rfl) hb
 refine wp 10 [0,3,6,321] hF fun a hF=>?_
 refine wpListIn_nil ?_
 cases hv360
 exact ⟨_,hF.kp [0,3,6,321],hS.sp (rg 13) (rg 14),trivial⟩
 rintro a w ⟨κ,hF,hS,-⟩
 cases hv355
 have hS:=hS.addOpt o_gate_move
 exact ⟨_,none,[],hF.kp [0,3,6,321],hS.sp [1,2,3,4,5,6,7,8,9,10,11,12,13,0] (rg 14),trivial⟩
 obtain ⟨b357,hpq,hS⟩:=hS.optS 13 rfl ho
 rw [hpq] at hS
 try rw [hpq] at hF
 refine wpIn_region_lit ?_
 refine bind_split hv355 (fun v358 hv358 hv355=>?_)
 refine wl_join (fun a w => ∃κ:Gh,Fr (476) [] [(0,pt b72 0),(3,pt b79 0),(6,vb (a73.Cmd.DC==a1)),(321,vb false)] a∧SS Ms κ0 w0 κ w [.box b79 38 [si a73.Kind,su a73.Id,su a73.N,su a73.TS,sg a73.Lo,sg a73.Hi,sl p74 (a73.Vers).length c75,sl p76 (a73.Vec).length c77,si a73.Cmd.Kind,si a73.Cmd.DC,si a73.Cmd.Shard,si a73.Cmd.Node,si a73.Cmd.Mode,sg a73.Cmd.Key],.box b72 87 [si a1,si a2,si a3,si (IntKind.i64.wrap a73.Id),si a5,si a6,sl p8 (a7.Cuts).length c9,sl p10 (a7.Nodes).length c11,sl p13 (a12).length c14,sl p16 (a15).length c17,sl p19 (a18).length c20,sb a21,(1,[.pointer (pa p23)]),(1,[.pointer (pa p26)]),(1,[.pointer (pa p29)]),su a31,(4,(encs fPtr p33)),ei 4 a35,ei 4 a36,(1,[.map p38]),(1,[.map p42]),sl p46 (a45).length c47,(1,[.map p49]),(1,cs52),(1,[pt b357 0]),si a56,si a57,sl p59 (a58).length c60,sl p62 (a61).length c63,su a64,sb a65,sb a66,sb a67,sl p69 (a68).length c70,(1,cs71)],.tok p69 61 15 (a68).length c70,.ext (ownX (fInt .i64) 3 p13 c14 a12),.ext (ownX fBool 4 p16 c17 a15),.ext (ownX (fInt .i64) 3 p19 c20 a18),.ext (optX o_stab_Table p23 cs24 a22),.ext (optX o_order_Log p26 cs27 a25),.ext (optX o_coord_Table p29 cs30 a28),.ext (arrX o_inbox_Box p33 cs34 a32),.ext (objX p38 (.map m39 c40)),.ext (objX p42 (.map m43 c44)),.ext (objX p49 (.map m50 c51)),.ext (optX o_gate_move (some b357) cs331 (some x356))] [Ro.mp fStr.ty p8 c9 a7.Cuts,Ro.mp (fInt .i64).ty p10 c11 a7.Nodes,ml p33 4,ml a35 4,ml a36 4,Map.mp (kInt .u64) false (fInt .i64).ty p38 m39 c40 a37,Map.mp (kInt .u64) true t_gate_call p42 m43 c44 a41,Ro.mp t_gate_call p46 c47 a45,Map.mp (kInt .u64) true t_gate_load p49 m50 c51 a48,Ro.mp (fInt .u64).ty p59 c60 a58,Ro.mp (fInt .u64).ty p62 c63 a61,Ro.mp t_api_Mail p69 c70 a68,Ro.mp f_api_Ver.ty p74 c75 a73.Vers,Ro.mp (fInt .u64).ty p76 c77 a73.Vec]∧True) ?_ ?_
 refine wp 2 [0,3,6,323] hF fun a hF=>?_
 refine wc (wld hF hS 0 8 0 fun a hF=>?_)
 refine wp 2 [0,3,6,326] hF fun a hF=>?_
 refine bif_split hv358 (fun hb hv358=>?_) (fun hb hv358=>?_)
 have hF:=hF.boolv 326 (by kernel_rfl) hb
 refine wp 3 [0,3,6,329] hF fun a hF=>?_
 refine bif_split hv358 (fun hb hv358=>?_) (fun hb hv358=>?_)
 have hF:=hF.boolv 329 (by kernel_rfl) hb
 refine wp 3 [0,3,6,329,332] hF fun a hF=>?_
 refine wcg hF (wld hF hS 1 24 0 fun a hF=>?_)
 refine wp 3 [0,3,6,321] hF fun a hF=>?_
 refine wpListIn_nil ?_
 cases hv358
 exact ⟨_,hF.kp [0,3,6,321],hS.sp (rg 14) (rg 14),trivial⟩
 have hF:=hF.boolv 329 (by kernel_rfl) hb
 refine wp 7 [0,3,6,321] hF fun a hF=>?_
 refine wpListIn_nil ?_
 cases hv358
 exact ⟨_,hF.kp [0,3,6,321],hS.sp (rg 14) (rg 14),trivial⟩
 have hF:=hF.boolv 326 (by kernel_rfl) hb
 refine wp 10 [0,3,6,321] hF fun a hF=>?_
 refine wpListIn_nil ?_
 cases hv358
 exact ⟨_,hF.kp [0,3,6,321],hS.sp (rg 14) (rg 14),trivial⟩
 rintro a w ⟨κ,hF,hS,-⟩
 cases hv355
 exact ⟨_,(some b357),cs331,hF.kp [0,3,6,321],hS.sp (rg 14) (rg 14),trivial⟩
 rintro a w ⟨κ,p351,cs352,hF,hS,-⟩
 refine hK350 _ _ ?_
 refine bif_split H (fun hb H=>?_) (fun hb H=>?_)
 refine cond_t hF (by kernel_rfl) hb ?_
 cases H
 refine cond_f hF (by kernel_rfl) hb ?_
 refine wpIn_seq_k fun K361 hK361=>?_
 refine bind_split H (fun v366 hv366 H=>?_)
 refine code_join (fun a w => ∃(κ:Gh) (p362:Option Nat) (cs363:List Nat),Fr (476) [] [(0,pt b72 0),(3,pt b79 0),(352,vb v366.2)] a∧SS Ms κ0 w0 κ w [.box b79 38 [si a73.Kind,su a73.Id,su a73.N,su a73.TS,sg a73.Lo,sg a73.Hi,sl p74 (a73.Vers).length c75,sl p76 (a73.Vec).length c77,si a73.Cmd.Kind,si a73.Cmd.DC,si a73.Cmd.Shard,si a73.Cmd.Node,si a73.Cmd.Mode,sg a73.Cmd.Key],.box b72 87 [si a1,si a2,si a3,si (IntKind.i64.wrap a73.Id),si a5,si a6,sl p8 (a7.Cuts).length c9,sl p10 (a7.Nodes).length c11,sl p13 (a12).length c14,sl p16 (a15).length c17,sl p19 (a18).length c20,sb a21,(1,[.pointer (pa p23)]),(1,[.pointer (pa p26)]),(1,[.pointer (pa p29)]),su a31,(4,(encs fPtr p33)),ei 4 a35,ei 4 a36,(1,[.map p38]),(1,[.map p42]),sl p46 (a45).length c47,(1,[.map p49]),(1,cs52),(1,[.pointer (pa p362)]),si a56,si a57,sl p59 (a58).length c60,sl p62 (a61).length c63,su a64,sb a65,sb a66,sb a67,sl p69 (a68).length c70,(1,cs71)],.tok p69 61 15 (a68).length c70,.ext (ownX (fInt .i64) 3 p13 c14 a12),.ext (ownX fBool 4 p16 c17 a15),.ext (ownX (fInt .i64) 3 p19 c20 a18),.ext (optX o_stab_Table p23 cs24 a22),.ext (optX o_order_Log p26 cs27 a25),.ext (optX o_coord_Table p29 cs30 a28),.ext (arrX o_inbox_Box p33 cs34 a32),.ext (objX p38 (.map m39 c40)),.ext (objX p42 (.map m43 c44)),.ext (objX p49 (.map m50 c51)),.ext (optX o_gate_move p362 cs363 v366.1)] [Ro.mp fStr.ty p8 c9 a7.Cuts,Ro.mp (fInt .i64).ty p10 c11 a7.Nodes,ml p33 4,ml a35 4,ml a36 4,Map.mp (kInt .u64) false (fInt .i64).ty p38 m39 c40 a37,Map.mp (kInt .u64) true t_gate_call p42 m43 c44 a41,Ro.mp t_gate_call p46 c47 a45,Map.mp (kInt .u64) true t_gate_load p49 m50 c51 a48,Ro.mp (fInt .u64).ty p59 c60 a58,Ro.mp (fInt .u64).ty p62 c63 a61,Ro.mp t_api_Mail p69 c70 a68,Ro.mp f_api_Ver.ty p74 c75 a73.Vers,Ro.mp (fInt .u64).ty p76 c77 a73.Vec]∧True) ?_ ?_
 refine opt_split hv366 (fun ho hv366=>?_) (fun x367 ho hv366=>?_)
 obtain ⟨hpq,hS⟩:=hS.optN 13 rfl ho
 rw [hpq] at hS
 try rw [hpq] at hF
 refine wpIn_region_lit ?_
 refine bind_split hv366 (fun v371 hv371 hv366=>?_)
 refine wl_join (fun a w => ∃κ:Gh,Fr (476) [] [(0,pt b72 0),(3,pt b79 0),(352,vb v371)] a∧SS Ms κ0 w0 κ w [.box b79 38 [si a73.Kind,su a73.Id,su a73.N,su a73.TS,sg a73.Lo,sg a73.Hi,sl p74 (a73.Vers).length c75,sl p76 (a73.Vec).length c77,si a73.Cmd.Kind,si a73.Cmd.DC,si a73.Cmd.Shard,si a73.Cmd.Node,si a73.Cmd.Mode,sg a73.Cmd.Key],.box b72 87 [si a1,si a2,si a3,si (IntKind.i64.wrap a73.Id),si a5,si a6,sl p8 (a7.Cuts).length c9,sl p10 (a7.Nodes).length c11,sl p13 (a12).length c14,sl p16 (a15).length c17,sl p19 (a18).length c20,sb a21,(1,[.pointer (pa p23)]),(1,[.pointer (pa p26)]),(1,[.pointer (pa p29)]),su a31,(4,(encs fPtr p33)),ei 4 a35,ei 4 a36,(1,[.map p38]),(1,[.map p42]),sl p46 (a45).length c47,(1,[.map p49]),(1,cs52),(1,[.pointer none]),si a56,si a57,sl p59 (a58).length c60,sl p62 (a61).length c63,su a64,sb a65,sb a66,sb a67,sl p69 (a68).length c70,(1,cs71)],.tok p69 61 15 (a68).length c70,.ext (ownX (fInt .i64) 3 p13 c14 a12),.ext (ownX fBool 4 p16 c17 a15),.ext (ownX (fInt .i64) 3 p19 c20 a18),.ext (optX o_stab_Table p23 cs24 a22),.ext (optX o_order_Log p26 cs27 a25),.ext (optX o_coord_Table p29 cs30 a28),.ext (arrX o_inbox_Box p33 cs34 a32),.ext (objX p38 (.map m39 c40)),.ext (objX p42 (.map m43 c44)),.ext (objX p49 (.map m50 c51))] [Ro.mp fStr.ty p8 c9 a7.Cuts,Ro.mp (fInt .i64).ty p10 c11 a7.Nodes,ml p33 4,ml a35 4,ml a36 4,Map.mp (kInt .u64) false (fInt .i64).ty p38 m39 c40 a37,Map.mp (kInt .u64) true t_gate_call p42 m43 c44 a41,Ro.mp t_gate_call p46 c47 a45,Map.mp (kInt .u64) true t_gate_load p49 m50 c51 a48,Ro.mp (fInt .u64).ty p59 c60 a58,Ro.mp (fInt .u64).ty p62 c63 a61,Ro.mp t_api_Mail p69 c70 a68,Ro.mp f_api_Ver.ty p74 c75 a73.Vers,Ro.mp (fInt .u64).ty p76 c77 a73.Vec]∧True) ?_ ?_
 refine wp 2 [0,3,6,354] hF fun a hF=>?_
 refine wc (wld hF hS 0 8 0 fun a hF=>?_)
 refine wp 2 [0,3,6,357] hF fun a hF=>?_
 refine bif_split hv371 (fun hb hv371=>?_) (fun hb hv371=>?_)
 have hF:=hF.boolv 357 (by kernel_rfl) hb
 refine wp 3 [0,3,360] hF fun a hF=>?_
 refine bif_split hv371 (fun hb hv371=>?_) (fun hb hv371=>?_)
 have hF:=hF.boolv 360 (by kernel_rfl) hb
 refine wp 3 [0,3,360,363] hF fun a hF=>?_
 refine wcg hF (wld hF hS 1 24 0 fun a hF=>?_)
 refine wp 3 [0,3,352] hF fun a hF=>?_
 refine wpListIn_nil ?_
 cases hv371
 exact ⟨_,hF.kp [0,3,352],hS.sp (rg 13) (rg 14),trivial⟩
 have hF:=hF.boolv 360 (by kernel_rfl) hb
 refine wp 7 [0,3,352] hF fun a hF=>?_
 refine wpListIn_nil ?_
 cases hv371
 exact ⟨_,hF.kp [0,3,352],hS.sp (rg 13) (rg 14),trivial⟩
 have hF:=hF.boolv 357 (by kernel_rfl) hb
 refine wp 10 [0,3,352] hF fun a hF=>?_
 refine wpListIn_nil ?_
 cases hv371
 exact ⟨_,hF.kp [0,3,352],hS.sp (rg 13) (rg 14),trivial⟩
 rintro a w ⟨κ,hF,hS,-⟩
 cases hv366
 have hS:=hS.addOpt o_gate_move
 exact ⟨_,none,[],hF.kp [0,3,352],hS.sp [1,2,3,4,5,6,7,8,9,10,11,12,13,0] (rg 14),trivial⟩
 obtain ⟨b368,hpq,hS⟩:=hS.optS 13 rfl ho
 rw [hpq] at hS
 try rw [hpq] at hF
 refine wpIn_region_lit ?_
 refine bind_split hv366 (fun v369 hv369 hv366=>?_)
 refine wl_join (fun a w => ∃κ:Gh,Fr (476) [] [(0,pt b72 0),(3,pt b79 0),(352,vb false)] a∧SS Ms κ0 w0 κ w [.box b79 38 [si a73.Kind,su a73.Id,su a73.N,su a73.TS,sg a73.Lo,sg a73.Hi,sl p74 (a73.Vers).length c75,sl p76 (a73.Vec).length c77,si a73.Cmd.Kind,si a73.Cmd.DC,si a73.Cmd.Shard,si a73.Cmd.Node,si a73.Cmd.Mode,sg a73.Cmd.Key],.box b72 87 [si a1,si a2,si a3,si (IntKind.i64.wrap a73.Id),si a5,si a6,sl p8 (a7.Cuts).length c9,sl p10 (a7.Nodes).length c11,sl p13 (a12).length c14,sl p16 (a15).length c17,sl p19 (a18).length c20,sb a21,(1,[.pointer (pa p23)]),(1,[.pointer (pa p26)]),(1,[.pointer (pa p29)]),su a31,(4,(encs fPtr p33)),ei 4 a35,ei 4 a36,(1,[.map p38]),(1,[.map p42]),sl p46 (a45).length c47,(1,[.map p49]),(1,cs52),(1,[pt b368 0]),si a56,si a57,sl p59 (a58).length c60,sl p62 (a61).length c63,su a64,sb a65,sb a66,sb a67,sl p69 (a68).length c70,(1,cs71)],.tok p69 61 15 (a68).length c70,.ext (ownX (fInt .i64) 3 p13 c14 a12),.ext (ownX fBool 4 p16 c17 a15),.ext (ownX (fInt .i64) 3 p19 c20 a18),.ext (optX o_stab_Table p23 cs24 a22),.ext (optX o_order_Log p26 cs27 a25),.ext (optX o_coord_Table p29 cs30 a28),.ext (arrX o_inbox_Box p33 cs34 a32),.ext (objX p38 (.map m39 c40)),.ext (objX p42 (.map m43 c44)),.ext (objX p49 (.map m50 c51)),.ext (optX o_gate_move (some b368) cs352 (some x367))] [Ro.mp fStr.ty p8 c9 a7.Cuts,Ro.mp (fInt .i64).ty p10 c11 a7.Nodes,ml p33 4,ml a35 4,ml a36 4,Map.mp (kInt .u64) false (fInt .i64).ty p38 m39 c40 a37,Map.mp (kInt .u64) true t_gate_call p42 m43 c44 a41,Ro.mp t_gate_call p46 c47 a45,Map.mp (kInt .u64) true t_gate_load p49 m50 c51 a48,Ro.mp (fInt .u64).ty p59 c60 a58,Ro.mp (fInt .u64).ty p62 c63 a61,Ro.mp t_api_Mail p69 c70 a68,Ro.mp f_api_Ver.ty p74 c75 a73.Vers,Ro.mp (fInt .u64).ty p76 c77 a73.Vec]∧True) ?_ ?_
 refine wp 2 [0,3,6,354] hF fun a hF=>?_
 refine wc (wld hF hS 0 8 0 fun a hF=>?_)
 refine wp 2 [0,3,6,357] hF fun a hF=>?_
 refine bif_split hv369 (fun hb hv369=>?_) (fun hb hv369=>?_)
 have hF:=hF.boolv 357 (by kernel_rfl) hb
 refine wp 3 [0,3,360] hF fun a hF=>?_
 refine bif_split hv369 (fun hb hv369=>?_) (fun hb hv369=>?_)
 have hF:=hF.boolv 360 (by kernel_rfl) hb
 refine wp 3 [0,3,360,363] hF fun a hF=>?_
 refine wcg hF (wld hF hS 1 24 0 fun a hF=>?_)
 refine wp 3 [0,3,352] hF fun a hF=>?_
 refine wpListIn_nil ?_
 cases hv369
 exact ⟨_,hF.kp [0,3,352],hS.sp (rg 14) (rg 14),trivial⟩
 have hF:=hF.boolv 360 (by kernel_rfl) hb
 refine wp 7 [0,3,352] hF fun a hF=>?_
 refine wpListIn_nil ?_
 cases hv369
 exact ⟨_,hF.kp [0,3,352],hS.sp (rg 14) (rg 14),trivial⟩
 have hF:=hF.boolv 357 (by kernel_rfl) hb
 refine wp 10 [0,3,352] hF fun a hF=>?_
 refine wpListIn_nil ?_
 cases hv369
 exact ⟨_,hF.kp [0,3,352],hS.sp (rg 14) (rg 14),trivial⟩
 rintro a w ⟨κ,hF,hS,-⟩
 cases hv366
 exact ⟨_,(some b368),cs352,hF.kp [0,3,352],hS.sp (rg 14) (rg 14),trivial⟩
 rintro a w ⟨κ,p362,cs363,hF,hS,-⟩
 refine hK361 _ _ ?_
 refine bif_split H (fun hb H=>?_) (fun hb H=>?_)
 refine cond_t hF (by kernel_rfl) hb ?_
 refine wpIn_seq_k fun K372 hK372=>?_
 refine bind_split H (fun v374 hv374 H=>?_)
 refine code_join (fun a w => ∃κ:Gh,Fr (476) [] [(0,pt b72 0),(3,pt b79 0),(9,vi v374)] a∧SS Ms κ0 w0 κ w [.box b79 38 [si a73.Kind,su a73.Id,su a73.N,su a73.TS,sg a73.Lo,sg a73.Hi,sl p74 (a73.Vers).length c75,sl p76 (a73.Vec).length c77,si a73.Cmd.Kind,si a73.Cmd.DC,si a73.Cmd.Shard,si a73.Cmd.Node,si a73.Cmd.Mode,sg a73.Cmd.Key],.box b72 87 [si a1,si a2,si a3,si (IntKind.i64.wrap a73.Id),si a5,si a6,sl p8 (a7.Cuts).length c9,sl p10 (a7.Nodes).length c11,sl p13 (a12).length c14,sl p16 (a15).length c17,sl p19 (a18).length c20,sb a21,(1,[.pointer (pa p23)]),(1,[.pointer (pa p26)]),(1,[.pointer (pa p29)]),su a31,(4,(encs fPtr p33)),ei 4 a35,ei 4 a36,(1,[.map p38]),(1,[.map p42]),sl p46 (a45).length c47,(1,[.map p49]),(1,cs52),(1,[.pointer (pa p362)]),si a56,si a57,sl p59 (a58).length c60,sl p62 (a61).length c63,su a64,sb a65,sb a66,sb a67,sl p69 (a68).length c70,(1,cs71)],.tok p69 61 15 (a68).length c70,.ext (ownX (fInt .i64) 3 p13 c14 a12),.ext (ownX fBool 4 p16 c17 a15),.ext (ownX (fInt .i64) 3 p19 c20 a18),.ext (optX o_stab_Table p23 cs24 a22),.ext (optX o_order_Log p26 cs27 a25),.ext (optX o_coord_Table p29 cs30 a28),.ext (arrX o_inbox_Box p33 cs34 a32),.ext (objX p38 (.map m39 c40)),.ext (objX p42 (.map m43 c44)),.ext (objX p49 (.map m50 c51)),.ext (optX o_gate_move p362 cs363 v366.1)] [Ro.mp fStr.ty p8 c9 a7.Cuts,Ro.mp (fInt .i64).ty p10 c11 a7.Nodes,ml p33 4,ml a35 4,ml a36 4,Map.mp (kInt .u64) false (fInt .i64).ty p38 m39 c40 a37,Map.mp (kInt .u64) true t_gate_call p42 m43 c44 a41,Ro.mp t_gate_call p46 c47 a45,Map.mp (kInt .u64) true t_gate_load p49 m50 c51 a48,Ro.mp (fInt .u64).ty p59 c60 a58,Ro.mp (fInt .u64).ty p62 c63 a61,Ro.mp t_api_Mail p69 c70 a68,Ro.mp f_api_Ver.ty p74 c75 a73.Vers,Ro.mp (fInt .u64).ty p76 c77 a73.Vec]∧True) ?_ ?_
 refine rgS hS [19] ?_
 have hS:=hS.drew
 refine bind_split hv374 (fun x375 hx375 hv374=>?_)
 refine anp [0,1,2,4,5,6,8,9,11,12] [0,3,370,374,377,380] hF (hS.sx [0,1,3,4,5,6,7,8,9,10,11,12,13] (rg 14)) fun a hF=>?_
 refine atk 3 (some 371) hF (hS.sx [0,1,3,4,5,6,7,8,9,10,11,12,13] (rg 14)) rfl (vls 1 6 2) fun a hF=>?_
 refine atk 7 (some 375) hF (hS.sx [0,1,3,4,5,6,7,8,9,10,11,12,13] (rg 14)) rfl (vld 1 1 0) fun a hF=>?_
 refine atk 10 (some 378) hF (hS.sx [0,1,3,4,5,6,7,8,9,10,11,12,13] (rg 14)) rfl (vld 0 10 0) fun a hF=>?_
 refine atk 13 (some 381) hF (hS.sx [0,1,3,4,5,6,7,8,9,10,11,12,13] (rg 14)) rfl (vld 0 11 0) fun a hF=>?_
 refine ago2 14 18 hF rfl rfl ?_ ?_
 refine wo_callP hF hS (by kernel_rfl) (by kernel_rfl) (C_span_Move N hS.fresh (T_api_Map.mk a7.Cuts a7.Nodes) a2 a73.Cmd.Shard a73.Cmd.Node p8 c9 p10 c11 ((hS.pick [0,1] (by kernel_rfl)).ro) hx375) ?_
 rintro _ κ w a ⟨p376,c377,p378,c379,rfl,hR,hN⟩ hF hS hO
 have hS:=hS.adds hR
 have hS:=hS.addC hO hN
 refine ⟨fun _=>(hS.sx [2,3,5,6,7,8,9,10,11,12,13,14,15] [2,3,4,5,6,7,8,9,10,11,12,13,14,15]),?_⟩
 refine any_pure [15,16] [0,3,367,383] (L':=[(0,pt b72 0),(3,pt b79 0),(367,.tuple #[.agg (flat [sl p376 (x375.1.Cuts).length c377,sl p378 (x375.1.Nodes).length c379]).toArray,vi x375.2]),(383,.agg (flat [sl p376 (x375.1.Cuts).length c377,sl p378 (x375.1.Nodes).length c379]).toArray)]) (listed':=(bitA 21 131071)) (fuel:=4) hF (hS.sx [2,3,5,6,7,8,9,10,11,12,13,14,15] [2,3,4,5,6,7,8,9,10,11,12,13,14,15]) (by kernel_rfl) (by intro c a w t v h; cases t<;>exact h) (by kernel_rfl) rfl fun a hF=>?_
 refine anpP [17] [0,3,383,384] hF (fun _=>(hS.sx [2,3,5,6,7,8,9,10,11,12,13,14,15] [2,3,4,5,6,7,8,9,10,11,12,13,14,15])) fun a hF=>?_
 have hF:Fr (476) _ [(0,pt b72 0),(3,pt b79 0),(383,.agg (flat [sl p376 (x375.1.Cuts).length c377,sl p378 (x375.1.Nodes).length c379]).toArray),(384,vi x375.2)] a:=hF.kp [0,3,383,384]
 refine ago 18 hF rfl ?_
 refine wal hF hS [sl none 0 0,sl none 0 0] (sgN 2 sgNil) fun b380 a w hF hS=>?_
 refine ⟨fun _=>(hS.sx [3,4,6,7,8,9,10,11,12,13,14,15,16] [2,3,4,5,6,7,8,9,10,11,12,13,14,15]),?_⟩
 refine ago 19 hF rfl ?_
 refine wst hF hS 0 0 2 [sl p376 (x375.1.Cuts).length c377,sl p378 (x375.1.Nodes).length c379] (sgN 2 sgNil) fun a w hF hS=>?_
 refine ⟨notE,?_⟩
 refine anpP [20] [0,3,9] hF notE fun a hF=>?_
 have hF:Fr (476) _ [(0,pt b72 0),(3,pt b79 0),(9,vi x375.2)] a:=hF.kp [0,3,9]
 refine and_ ?_
 cases hv374
 exact ⟨_,hF.kp [0,3,9],hS.sp [3,4,5,6,7,8,9,10,11,12,13,14,15,16] [2,3,4,5,6,7,8,9,10,11,12,13,14,15],trivial⟩
 refine wal hF hS [sl none 0 0,sl none 0 0] (sgN 2 sgNil) fun b380 a w hF hS=>?_
 refine ⟨fun _=>(hS.sx [1,2,4,5,6,7,8,9,10,11,12,13,14] (rg 14)),?_⟩
 refine ago 14 hF rfl ?_
 refine wo_callP hF hS (by kernel_rfl) (by kernel_rfl) (C_span_Move N hS.fresh (T_api_Map.mk a7.Cuts a7.Nodes) a2 a73.Cmd.Shard a73.Cmd.Node p8 c9 p10 c11 ((hS.pick [0,1] (by kernel_rfl)).ro) hx375) ?_
 rintro _ κ w a ⟨p376,c377,p378,c379,rfl,hR,hN⟩ hF hS hO
 have hS:=hS.adds hR
 have hS:=hS.addC hO hN
 refine ⟨fun _=>(hS.sx [3,4,6,7,8,9,10,11,12,13,14,15,16] [2,3,4,5,6,7,8,9,10,11,12,13,14,15]),?_⟩
 refine any_pure [15,16] [0,3,8,367,383] (L':=[(0,pt b72 0),(3,pt b79 0),(8,pt b380 0),(367,.tuple #[.agg (flat [sl p376 (x375.1.Cuts).length c377,sl p378 (x375.1.Nodes).length c379]).toArray,vi x375.2]),(383,.agg (flat [sl p376 (x375.1.Cuts).length c377,sl p378 (x375.1.Nodes).length c379]).toArray)]) (listed':=(bitA 21 393215)) (fuel:=3) hF (hS.sx [3,4,6,7,8,9,10,11,12,13,14,15,16] [2,3,4,5,6,7,8,9,10,11,12,13,14,15]) (by kernel_rfl) (by intro c a w t v h; cases t<;>exact h) (by kernel_rfl) rfl fun a hF=>?_
 refine anpP [17] [0,3,8,383,384] hF (fun _=>(hS.sx [3,4,6,7,8,9,10,11,12,13,14,15,16] [2,3,4,5,6,7,8,9,10,11,12,13,14,15])) fun a hF=>?_
 have hF:Fr (476) _ [(0,pt b72 0),(3,pt b79 0),(8,pt b380 0),(383,.agg (flat [sl p376 (x375.1.Cuts).length c377,sl p378 (x375.1.Nodes).length c379]).toArray),(384,vi x375.2)] a:=hF.kp [0,3,8,383,384]
 refine ago 19 hF rfl ?_
 refine wst hF hS 2 0 2 [sl p376 (x375.1.Cuts).length c377,sl p378 (x375.1.Nodes).length c379] (sgN 2 sgNil) fun a w hF hS=>?_
 refine ⟨notE,?_⟩
 refine anpP [20] [0,3,9] hF notE fun a hF=>?_
 have hF:Fr (476) _ [(0,pt b72 0),(3,pt b79 0),(9,vi x375.2)] a:=hF.kp [0,3,9]
 refine and_ ?_
 cases hv374
 exact ⟨_,hF.kp [0,3,9],hS.sp [3,4,5,6,7,8,9,10,11,12,13,14,15,16] [2,3,4,5,6,7,8,9,10,11,12,13,14,15],trivial⟩
 rintro a w ⟨κ,hF,hS,-⟩
 refine hK372 _ _ ?_
 refine wpIn_seq_k fun K381 hK381=>?_
 refine wpIn_region_lit ?_
 refine wp 2 [0,3,386] hF fun a hF=>?_
 refine wpListIn_nil ?_
 refine hK381 _ _ ?_
 refine bif_split H (fun hb H=>?_) (fun hb H=>?_)
 refine cond_t hF (by kernel_rfl) hb ?_
 refine wpIn_seq_k fun K382 hK382=>?_
 refine bind_split H (fun v387 hv387 H=>?_)
 refine code_join (fun a w => ∃(κ:Gh) (b383:Nat),Fr (476) [] [(0,pt b72 0),(3,pt b79 0),(10,pt b383 0)] a∧SS Ms κ0 w0 κ w [.box b79 38 [si a73.Kind,su a73.Id,su a73.N,su a73.TS,sg a73.Lo,sg a73.Hi,sl p74 (a73.Vers).length c75,sl p76 (a73.Vec).length c77,si a73.Cmd.Kind,si a73.Cmd.DC,si a73.Cmd.Shard,si a73.Cmd.Node,si a73.Cmd.Mode,sg a73.Cmd.Key],.box b72 87 [si a1,si a2,si a3,si (IntKind.i64.wrap a73.Id),si a5,si a6,sl p8 (a7.Cuts).length c9,sl p10 (a7.Nodes).length c11,sl p13 (a12).length c14,sl p16 (a15).length c17,sl p19 (a18).length c20,sb a21,(1,[.pointer (pa p23)]),(1,[.pointer (pa p26)]),(1,[.pointer (pa p29)]),su a31,(4,(encs fPtr p33)),ei 4 a35,ei 4 a36,(1,[.map p38]),(1,[.map p42]),sl p46 (a45).length c47,(1,[.map p49]),(1,cs52),(1,[.pointer (pa p362)]),si a56,si a57,sl p59 (a58).length c60,sl p62 (a61).length c63,su a64,sb a65,sb a66,sb a67,sl p69 (a68).length c70,(1,cs71)],.box b383 128 [sg v387.1,sg v387.2.1,si v387.2.2],.tok p69 61 15 (a68).length c70,.ext (ownX (fInt .i64) 3 p13 c14 a12),.ext (ownX fBool 4 p16 c17 a15),.ext (ownX (fInt .i64) 3 p19 c20 a18),.ext (optX o_stab_Table p23 cs24 a22),.ext (optX o_order_Log p26 cs27 a25),.ext (optX o_coord_Table p29 cs30 a28),.ext (arrX o_inbox_Box p33 cs34 a32),.ext (objX p38 (.map m39 c40)),.ext (objX p42 (.map m43 c44)),.ext (objX p49 (.map m50 c51)),.ext (optX o_gate_move p362 cs363 v366.1)] [Ro.mp fStr.ty p8 c9 a7.Cuts,Ro.mp (fInt .i64).ty p10 c11 a7.Nodes,ml p33 4,ml a35 4,ml a36 4,Map.mp (kInt .u64) false (fInt .i64).ty p38 m39 c40 a37,Map.mp (kInt .u64) true t_gate_call p42 m43 c44 a41,Ro.mp t_gate_call p46 c47 a45,Map.mp (kInt .u64) true t_gate_load p49 m50 c51 a48,Ro.mp (fInt .u64).ty p59 c60 a58,Ro.mp (fInt .u64).ty p62 c63 a61,Ro.mp t_api_Mail p69 c70 a68,Ro.mp f_api_Ver.ty p74 c75 a73.Vers,Ro.mp (fInt .u64).ty p76 c77 a73.Vec]∧True) ?_ ?_
 refine rgS hS [12] ?_
 have hS:=hS.drew
 refine bind_split hv387 (fun x388 hx388 hv387=>?_)
 refine anp [0,1,2,4,5] [0,3,390,393] hF (hS.sx [0,1,3,4,5,6,7,8,9,10,11,12,13] (rg 14)) fun a hF=>?_
 refine atk 3 (some 391) hF (hS.sx [0,1,3,4,5,6,7,8,9,10,11,12,13] (rg 14)) rfl (vls 1 6 2) fun a hF=>?_
 refine atk 6 (some 394) hF (hS.sx [0,1,3,4,5,6,7,8,9,10,11,12,13] (rg 14)) rfl (vld 0 10 0) fun a hF=>?_
 refine ago2 7 11 hF rfl rfl ?_ ?_
 refine wo_callP hF hS (by kernel_rfl) (by kernel_rfl) (C_span_At N hS.fresh (T_api_Map.mk a7.Cuts a7.Nodes) a73.Cmd.Shard p8 c9 p10 c11 ((hS.pick [0,1] (by kernel_rfl)).ro) hx388) ?_
 rintro _ κ w a ⟨rfl,hR,hN⟩ hF hS hO
 refine ⟨fun _=>(hS.sx [0,1,3,4,5,6,7,8,9,10,11,12,13] (rg 14)),?_⟩
 refine any_pure [8,9] [0,3,387,396] (L':=[(0,pt b72 0),(3,pt b79 0),(387,.tuple #[.agg (flat [sg x388.1.Lo,sg x388.1.Hi,si x388.1.Node]).toArray,vb x388.2]),(396,.agg (flat [sg x388.1.Lo,sg x388.1.Hi,si x388.1.Node]).toArray)]) (listed':=(bitA 14 1023)) (fuel:=4) hF (hS.sx [0,1,3,4,5,6,7,8,9,10,11,12,13] (rg 14)) (by kernel_rfl) (by intro c a w t v h; cases t<;>exact h) (by kernel_rfl) rfl fun a hF=>?_
 refine anpP [10] [0,3,396,397] hF (fun _=>(hS.sx [0,1,3,4,5,6,7,8,9,10,11,12,13] (rg 14))) fun a hF=>?_
 have hF:Fr (476) _ [(0,pt b72 0),(3,pt b79 0),(396,.agg (flat [sg x388.1.Lo,sg x388.1.Hi,si x388.1.Node]).toArray),(397,vb x388.2)] a:=hF.kp [0,3,396,397]
 refine ago 11 hF rfl ?_
 refine wal hF hS [sg ByteArray.empty,sg ByteArray.empty,si 0] (sgN 3 sgNil) fun b389 a w hF hS=>?_
 refine ⟨fun _=>(hS.sx [1,2,4,5,6,7,8,9,10,11,12,13,14] (rg 14)),?_⟩
 refine ago 12 hF rfl ?_
 refine wst hF hS 0 0 3 [sg x388.1.Lo,sg x388.1.Hi,si x388.1.Node] (sgN 3 sgNil) fun a w hF hS=>?_
 refine ⟨notE,?_⟩
 refine anpP [13] [0,3,10] hF notE fun a hF=>?_
 have hF:Fr (476) _ [(0,pt b72 0),(3,pt b79 0),(10,pt b389 0)] a:=hF.kp [0,3,10]
 refine and_ ?_
 cases hv387
 exact ⟨_,b389,hF.kp [0,3,10],hS.sp [1,2,0,3,4,5,6,7,8,9,10,11,12,13,14] (rg 14),trivial⟩
 refine wal hF hS [sg ByteArray.empty,sg ByteArray.empty,si 0] (sgN 3 sgNil) fun b389 a w hF hS=>?_
 refine ⟨fun _=>(hS.sx [1,2,4,5,6,7,8,9,10,11,12,13,14] (rg 14)),?_⟩
 refine ago 7 hF rfl ?_
 refine wo_callP hF hS (by kernel_rfl) (by kernel_rfl) (C_span_At N hS.fresh (T_api_Map.mk a7.Cuts a7.Nodes) a73.Cmd.Shard p8 c9 p10 c11 ((hS.pick [0,1] (by kernel_rfl)).ro) hx388) ?_
 rintro _ κ w a ⟨rfl,hR,hN⟩ hF hS hO
 refine ⟨fun _=>(hS.sx [1,2,4,5,6,7,8,9,10,11,12,13,14] (rg 14)),?_⟩
 refine any_pure [8,9] [0,3,10,387,396] (L':=[(0,pt b72 0),(3,pt b79 0),(10,pt b389 0),(387,.tuple #[.agg (flat [sg x388.1.Lo,sg x388.1.Hi,si x388.1.Node]).toArray,vb x388.2]),(396,.agg (flat [sg x388.1.Lo,sg x388.1.Hi,si x388.1.Node]).toArray)]) (listed':=(bitA 14 3071)) (fuel:=3) hF (hS.sx [1,2,4,5,6,7,8,9,10,11,12,13,14] (rg 14)) (by kernel_rfl) (by intro c a w t v h; cases t<;>exact h) (by kernel_rfl) rfl fun a hF=>?_
 refine anpP [10] [0,3,10,396,397] hF (fun _=>(hS.sx [1,2,4,5,6,7,8,9,10,11,12,13,14] (rg 14))) fun a hF=>?_
 have hF:Fr (476) _ [(0,pt b72 0),(3,pt b79 0),(10,pt b389 0),(396,.agg (flat [sg x388.1.Lo,sg x388.1.Hi,si x388.1.Node]).toArray),(397,vb x388.2)] a:=hF.kp [0,3,10,396,397]
 refine ago 12 hF rfl ?_
 refine wst hF hS 0 0 3 [sg x388.1.Lo,sg x388.1.Hi,si x388.1.Node] (sgN 3 sgNil) fun a w hF hS=>?_
 refine ⟨notE,?_⟩
 refine anpP [13] [0,3,10] hF notE fun a hF=>?_
 have hF:Fr (476) _ [(0,pt b72 0),(3,pt b79 0),(10,pt b389 0)] a:=hF.kp [0,3,10]
 refine and_ ?_
 cases hv387
 exact ⟨_,b389,hF.kp [0,3,10],hS.sp [1,2,0,3,4,5,6,7,8,9,10,11,12,13,14] (rg 14),trivial⟩
 rintro a w ⟨κ,b383,hF,hS,-⟩
 refine hK382 _ _ ?_
 refine wpIn_region_lit ?_
 refine wp 1 [0,3,10,398] hF fun a hF=>?_
 refine wc (wls hF hS 2 0 3 fun a hF=>?_)
 refine wp 2 [0,3,398,399,401] hF fun a hF=>?_
 refine wc (wld hF hS 0 10 0 fun a hF=>?_)
 refine wp 2 [0,3,398,399,402,404] hF fun a hF=>?_
 refine wc (wld hF hS 0 11 0 fun a hF=>?_)
 refine wp 1 [0,3,398,406] hF fun a hF=>?_
 refine wc (wbx hF hS [sg v387.1,sg v387.2.1,si v387.2.2,si a73.Cmd.Shard,si a73.Cmd.Node,si 0] (sgN 6 sgNil) fun b390 a w hF hS=>?_)
 refine wp 2 [0,3,407,409] hF fun a hF=>?_
 refine wc (wst hF hS 2 24 1 [(1,[pt b390 0])] (sgN 1 sgNil) fun a w hF hS=>?_)
 refine wpListIn_nil ?_
 obtain ⟨cs391,hS⟩:=hS.foldI (ck:=c_gate_move) (fs:=q_gate_move) b390 () (T_gate_move.mk (T_span_Shard.mk v387.1 v387.2.1 v387.2.2) a73.Cmd.Shard a73.Cmd.Node 0) [0] [1,2,3,4,5,6,7,8,9,10,11,12,13,14,15] [] (by decide) (by kernel_rfl) (by kernel_rfl)
 exact ⟨_,a7.Cuts,p8,c9,a7.Nodes,p10,c11,(some b390),cs391,(some (T_gate_move.mk (T_span_Shard.mk v387.1 v387.2.1 v387.2.2) a73.Cmd.Shard a73.Cmd.Node 0)),hF.kp [0,3],hS.sp [2,1,4,5,6,7,8,9,10,11,12,13,14,0] (rg 14),H⟩
 refine cond_f hF (by kernel_rfl) hb ?_
 refine wpIn_skip ?_
 exact ⟨_,a7.Cuts,p8,c9,a7.Nodes,p10,c11,p362,cs363,v366.1,hF.kp [0,3],hS.sp [1,0,2,3,4,5,6,7,8,9,10,11,12,13] (rg 14),H⟩
 refine cond_f hF (by kernel_rfl) hb ?_
 refine wpIn_skip ?_
 exact ⟨_,a7.Cuts,p8,c9,a7.Nodes,p10,c11,p362,cs363,v366.1,hF.kp [0,3],hS.sp [1,0,2,3,4,5,6,7,8,9,10,11,12,13] (rg 14),H⟩
 rintro a w ⟨κ,y156,p157,c158,y159,p160,c161,p162,cs163,y164,hF,hS,H⟩
 unfold M.gate_Gate_ordered_k2 at H
 refine wpIn_seq_k fun K165 hK165=>?_
 refine wpIn_region_lit ?_
 refine wp 3 [0,3,412] hF fun a hF=>?_
 refine wc (wst hF hS 0 11 1 [sb true] (sgN 1 sgNil) fun a w hF hS=>?_)
 refine wpListIn_nil ?_
 refine hK165 _ _ ?_
 refine wpIn_seq_k fun K166 hK166=>?_
 refine wpIn_seq_k fun K167 hK167=>?_
 refine wpIn_region_lit ?_
 refine wp 3 [0,3,415] hF fun a hF=>?_
 refine wc (wld hF hS 0 1 0 fun a hF=>?_)
 refine wp 1 [0,3,416,417] hF fun a hF=>?_
 refine wpListIn_nil ?_
 refine hK167 _ _ ?_
 refine wpIn_block ?_
 refine loop_fuel (n:=N) (fun n a w => ∃(κ:Gh) (y218:List Bool) (y219:List Int) (y220:List T_api_Mail) (p221:Option Addr) (c222:Nat) (y223:Int),Fr (476) [] [(0,pt b72 0),(3,pt b79 0),(416,vi a2),(417,vi y223)] a∧SS Ms κ0 w0 κ w [.box b72 87 [si a1,si a2,si a3,si (IntKind.i64.wrap a73.Id),si a5,si a6,sl p157 (y156).length c158,sl p160 (y159).length c161,sl p13 (a12).length c14,sl p16 (y218).length c17,sl p19 (y219).length c20,sb true,(1,[.pointer (pa p23)]),(1,[.pointer (pa p26)]),(1,[.pointer (pa p29)]),su a31,(4,(encs fPtr p33)),ei 4 a35,ei 4 a36,(1,[.map p38]),(1,[.map p42]),sl p46 (a45).length c47,(1,[.map p49]),(1,cs52),(1,[.pointer (pa p162)]),si a56,si a57,sl p59 (a58).length c60,sl p62 (a61).length c63,su a64,sb a65,sb a66,sb a67,sl p221 (y220).length c222,(1,cs71)],.box b79 38 [si a73.Kind,su a73.Id,su a73.N,su a73.TS,sg a73.Lo,sg a73.Hi,sl p74 (a73.Vers).length c75,sl p76 (a73.Vec).length c77,si a73.Cmd.Kind,si a73.Cmd.DC,si a73.Cmd.Shard,si a73.Cmd.Node,si a73.Cmd.Mode,sg a73.Cmd.Key],.tok p221 61 15 (y220).length c222,.ext (ownX (fInt .i64) 3 p13 c14 a12),.ext (ownX fBool 4 p16 c17 y218),.ext (ownX (fInt .i64) 3 p19 c20 y219),.ext (optX o_stab_Table p23 cs24 a22),.ext (optX o_order_Log p26 cs27 a25),.ext (optX o_coord_Table p29 cs30 a28),.ext (arrX o_inbox_Box p33 cs34 a32),.ext (objX p38 (.map m39 c40)),.ext (objX p42 (.map m43 c44)),.ext (objX p49 (.map m50 c51)),.ext (optX o_gate_move p162 cs163 y164)] [Ro.mp fStr.ty p157 c158 y156,Ro.mp (fInt .i64).ty p160 c161 y159,ml p33 4,ml a35 4,ml a36 4,Map.mp (kInt .u64) false (fInt .i64).ty p38 m39 c40 a37,Map.mp (kInt .u64) true t_gate_call p42 m43 c44 a41,Ro.mp t_gate_call p46 c47 a45,Map.mp (kInt .u64) true t_gate_load p49 m50 c51 a48,Ro.mp (fInt .u64).ty p59 c60 a58,Ro.mp (fInt .u64).ty p62 c63 a61,Ro.mp t_api_Mail p221 c222 y220,Ro.mp f_api_Ver.ty p74 c75 a73.Vers,Ro.mp (fInt .u64).ty p76 c77 a73.Vec]∧M.gate_Gate_ordered_L3 N n a1 a2 a3 a5 a6 a12 a22 a25 a28 a31 a32 a35 a36 a37 a41 a45 a48 a56 a57 a58 a61 a64 a65 a66 a67 a73 y156 y159 y164 y218 y219 y220 y223=some r) ?_ ?_
 exact ⟨_,a15,a18,a68,p69,c70,0,hF.kp [0,3,416,417],hS.sp (rg 14) (rg 14),H⟩
 rintro n a w ⟨κ,y218,y219,y220,p221,c222,y223,hF,hS,H⟩
 rcases n with _|fuel3
 simp [M.gate_Gate_ordered_L3] at H
 simp only [M.gate_Gate_ordered_L3] at H
 refine wpIn_seq_k fun K224 hK224=>?_
 refine wpIn_region_lit ?_
 refine wp 1 [0,3,416,417,418] hF fun a hF=>?_
 refine wpListIn_nil ?_
 refine hK224 _ _ ?_
 refine wpIn_seq_k fun K225 hK225=>?_
 refine bif_split H (fun hb H=>?_) (fun hb H=>?_)
 refine cond_t hF (by kernel_rfl) hb ?_
 refine wpIn_skip ?_
 refine hK225 _ _ ?_
 refine wpIn_seq_k fun K226 hK226=>?_
 refine wpIn_block ?_
 refine wpIn_seq_k fun K227 hK227=>?_
 refine wpIn_region_lit ?_
 refine wp 2 [0,3,12,416,417] hF fun a hF=>?_
 refine wpListIn_nil ?_
 refine hK227 _ _ ?_
 refine wpIn_seq_k fun K228 hK228=>?_
 refine rgS hS [23,25] ?_
 have hS:=hS.drew
 refine any_pure [0,1,2,4,5,6,7,10,11,12,14,15,16,18] [0,3,12,416,417,422,424,427,432,436,438] (L':=[(0,pt b72 0),(3,pt b79 0),(12,vi y223),(416,vi a2),(417,vi y223),(422,pt b72 10),(424,vi y223),(427,pt b72 9),(432,pt b72 8),(436,pt b72 0),(438,vi y223)]) (listed':=(bitA 26 384247)) (fuel:=12) hF (hS.sx [0,1,3,4,5,6,7,8,9,10,11,12,13] (rg 14)) (by kernel_rfl) (by intro c a w t v h; cases t<;>exact h) (by kernel_rfl) rfl fun a hF=>?_
 refine anpP [9] [0,3,12,416,417,422,424,427,429,432,436,438] hF (fun _=>(hS.sx [0,1,3,4,5,6,7,8,9,10,11,12,13] (rg 14))) fun a hF=>?_
 have hF:Fr (476) _ [(0,pt b72 0),(3,pt b79 0),(12,vi y223),(416,vi a2),(417,vi y223),(422,pt b72 10),(424,vi y223),(427,pt b72 9),(429,vi y223),(432,pt b72 8),(436,pt b72 0),(438,vi y223)] a:=hF.kp [0,3,12,416,417,422,424,427,429,432,436,438]
 refine atk 3 (some 423) hF (hS.sx [0,1,3,4,5,6,7,8,9,10,11,12,13] (rg 14)) rfl (vld 0 10 0) fun a hF=>?_
 refine atk 8 (some 428) hF (hS.sx [0,1,3,4,5,6,7,8,9,10,11,12,13] (rg 14)) rfl (vld 0 9 0) fun a hF=>?_
 refine atk 13 (some 433) hF (hS.sx [0,1,3,4,5,6,7,8,9,10,11,12,13] (rg 14)) rfl (vld 0 8 0) fun a hF=>?_
 refine atk 17 (some 437) hF (hS.sx [0,1,3,4,5,6,7,8,9,10,11,12,13] (rg 14)) rfl (vld 0 0 0) fun a hF=>?_
 refine ago 19 hF rfl ?_
 refine bind_split H (fun x229 hx229 H=>?_)
 refine wo_callP hF hS (by kernel_rfl) (by kernel_rfl) (C_api_Place N hS.fresh a1 y223 ((hS.pick [] (by kernel_rfl)).ro) hx229) ?_
 rintro _ κ w a ⟨rfl,hR,hN⟩ hF hS hO
 refine ⟨fun _=>(hS.sx [0,1,3,4,5,6,7,8,9,10,11,12,13] (rg 14)),?_⟩
 refine bind_split H (fun x230 hx230 H=>?_)
 obtain ⟨b231,f232,hpx230⟩:=hS.ptrO 3 rfl hx230
 refine atk 20 (some 440) hF (hS.sx [0,1,3,4,5,6,7,8,9,10,11,12,13] (rg 14)) rfl (fun w _=>val_index (E:=3) (sz:=1) rfl hpx230 rfl (by kernel_rfl) rfl hx230 (by kernel_rfl) (by kernel_rfl) w) fun a hF=>?_
 refine atk 21 (some 441) hF (hS.sx [0,1,3,4,5,6,7,8,9,10,11,12,13] (rg 14)) rfl (val_loadO 2 (v:=vi x230) rfl rfl hpx230 rfl hx230 rfl (by kernel_rfl) (by kernel_rfl)) fun a hF=>?_
 refine bind_split H (fun x233 hx233 H=>?_)
 obtain ⟨b234,f235,hpx233⟩:=hS.ptrO 5 rfl hx233
 refine atk 22 (some 442) hF (hS.sx [0,1,3,4,5,6,7,8,9,10,11,12,13] (rg 14)) rfl (fun w _=>val_index (E:=3) (sz:=1) rfl hpx233 rfl (by kernel_rfl) rfl hx233 (by kernel_rfl) (by kernel_rfl) w) fun a hF=>?_
 refine ago 23 hF rfl ?_
 refine wo_storeOL hF hS (by kernel_rfl) 5 (z:=x230) rfl rfl rfl rfl hpx233 hx233 rfl (by kernel_rfl) rfl (by kernel_rfl) (Cf:=(fun nn=>[.box b72 87 [si a1,si a2,si a3,si (IntKind.i64.wrap a73.Id),si a5,si a6,sl p157 (y156).length c158,sl p160 (y159).length c161,sl p13 (a12).length c14,sl p16 (y218).length c17,sl p19 nn c20,sb true,(1,[.pointer (pa p23)]),(1,[.pointer (pa p26)]),(1,[.pointer (pa p29)]),su a31,(4,(encs fPtr p33)),ei 4 a35,ei 4 a36,(1,[.map p38]),(1,[.map p42]),sl p46 (a45).length c47,(1,[.map p49]),(1,cs52),(1,[.pointer (pa p162)]),si a56,si a57,sl p59 (a58).length c60,sl p62 (a61).length c63,su a64,sb a65,sb a66,sb a67,sl p221 (y220).length c222,(1,cs71)],.box b79 38 [si a73.Kind,su a73.Id,su a73.N,su a73.TS,sg a73.Lo,sg a73.Hi,sl p74 (a73.Vers).length c75,sl p76 (a73.Vec).length c77,si a73.Cmd.Kind,si a73.Cmd.DC,si a73.Cmd.Shard,si a73.Cmd.Node,si a73.Cmd.Mode,sg a73.Cmd.Key],.tok p221 61 15 (y220).length c222,.ext (ownX (fInt .i64) 3 p13 c14 a12),.ext (ownX fBool 4 p16 c17 y218),.ext (ownX (fInt .i64) 3 p19 c20 (List.set y219 (Int.toNat y223) x230)),.ext (optX o_stab_Table p23 cs24 a22),.ext (optX o_order_Log p26 cs27 a25),.ext (optX o_coord_Table p29 cs30 a28),.ext (arrX o_inbox_Box p33 cs34 a32),.ext (objX p38 (.map m39 c40)),.ext (objX p42 (.map m43 c44)),.ext (objX p49 (.map m50 c51)),.ext (optX o_gate_move p162 cs163 y164)])) (Lf:=(fun nn=>[(0,pt b72 0),(3,pt b79 0),(12,vi y223),(416,vi a2),(417,vi y223),(422,pt b72 10),(423,.slice p19 nn c20),(424,vi y223),(427,pt b72 9),(428,.slice p16 (y218).length c17),(429,vi y223),(432,pt b72 8),(433,.slice p13 (a12).length c14),(436,pt b72 0),(437,vi a1),(438,vi y223),(439,vi x229),(440,.pointer (some ⟨b231,(f232+Int.toNat x229*1),none⟩)),(441,vi x230)])) [0,3,12,416,417,422,423,424,427,428,429,432,433,436,437,438,439,440,441] (by kernel_rfl) (by kernel_rfl) fun a w hF hS=>?_
 refine ⟨notE,?_⟩
 refine bind_split H (fun x236 hx236 H=>?_)
 obtain ⟨b237,f238,hpx236⟩:=hS.ptrO 4 rfl hx236
 refine atkP 24 (some 443) hF notE rfl (fun w=>val_index (E:=4) (sz:=1) rfl hpx236 rfl (by kernel_rfl) rfl hx236 (by kernel_rfl) (by kernel_rfl) w) fun a hF=>?_
 refine ago 25 hF rfl ?_
 refine wo_storeOL hF hS (by kernel_rfl) 4 (z:=false) rfl rfl rfl rfl hpx236 hx236 rfl (by kernel_rfl) rfl (by kernel_rfl) (Cf:=(fun nn=>[.box b72 87 [si a1,si a2,si a3,si (IntKind.i64.wrap a73.Id),si a5,si a6,sl p157 (y156).length c158,sl p160 (y159).length c161,sl p13 (a12).length c14,sl p16 nn c17,sl p19 ((List.set y219 (Int.toNat y223) x230)).length c20,sb true,(1,[.pointer (pa p23)]),(1,[.pointer (pa p26)]),(1,[.pointer (pa p29)]),su a31,(4,(encs fPtr p33)),ei 4 a35,ei 4 a36,(1,[.map p38]),(1,[.map p42]),sl p46 (a45).length c47,(1,[.map p49]),(1,cs52),(1,[.pointer (pa p162)]),si a56,si a57,sl p59 (a58).length c60,sl p62 (a61).length c63,su a64,sb a65,sb a66,sb a67,sl p221 (y220).length c222,(1,cs71)],.box b79 38 [si a73.Kind,su a73.Id,su a73.N,su a73.TS,sg a73.Lo,sg a73.Hi,sl p74 (a73.Vers).length c75,sl p76 (a73.Vec).length c77,si a73.Cmd.Kind,si a73.Cmd.DC,si a73.Cmd.Shard,si a73.Cmd.Node,si a73.Cmd.Mode,sg a73.Cmd.Key],.tok p221 61 15 (y220).length c222,.ext (ownX (fInt .i64) 3 p13 c14 a12),.ext (ownX fBool 4 p16 c17 (List.set y218 (Int.toNat y223) false)),.ext (ownX (fInt .i64) 3 p19 c20 (List.set y219 (Int.toNat y223) x230)),.ext (optX o_stab_Table p23 cs24 a22),.ext (optX o_order_Log p26 cs27 a25),.ext (optX o_coord_Table p29 cs30 a28),.ext (arrX o_inbox_Box p33 cs34 a32),.ext (objX p38 (.map m39 c40)),.ext (objX p42 (.map m43 c44)),.ext (objX p49 (.map m50 c51)),.ext (optX o_gate_move p162 cs163 y164)])) (Lf:=(fun nn=>[(0,pt b72 0),(3,pt b79 0),(12,vi y223),(416,vi a2),(417,vi y223),(422,pt b72 10),(423,.slice p19 ((List.set y219 (Int.toNat y223) x230)).length c20),(424,vi y223),(427,pt b72 9),(428,.slice p16 nn c17),(429,vi y223),(432,pt b72 8),(433,.slice p13 (a12).length c14),(436,pt b72 0),(437,vi a1),(438,vi y223),(439,vi x229),(440,.pointer (some ⟨b231,(f232+Int.toNat x229*1),none⟩)),(441,vi x230)])) [0,3,12,416,417,422,423,424,427,428,429,432,433,436,437,438,439,440,441] (by kernel_rfl) (by kernel_rfl) fun a w hF hS=>?_
 refine ⟨notE,?_⟩
 refine and_ ?_
 refine hK228 _ _ ?_
 refine rga (fun _=>True) [] ?_
 have hS:=hS.drew
 refine any_pure [0,1,2,4] [0,3,416,417,444,445,446,448] (L':=[(0,pt b72 0),(3,pt b79 0),(416,vi a2),(417,vi y223),(444,pt b72 0),(445,vi y223),(446,pt b79 1),(448,pt b79 7)]) (listed':=(bitA 9 23)) (fuel:=5) hF trivial (by kernel_rfl) (by intro c a w t v h; cases t<;>exact h) (by kernel_rfl) rfl fun a hF=>?_
 refine any_weakS hS [8] ?_
 refine atk 3 (some 447) hF (hS.sx [0,1,3,4,5,6,7,8,9,10,11,12,13] (rg 14)) rfl (vld 1 1 0) fun a hF=>?_
 refine atk 5 (some 449) hF (hS.sx [0,1,3,4,5,6,7,8,9,10,11,12,13] (rg 14)) rfl (vld 1 7 0) fun a hF=>?_
 refine ago 6 hF rfl ?_
 have hS:=hS.add (m:=Ro.mp (fInt .u64).ty none 0 ([]:List Int)) (Ro.nil (fInt .u64).ty _ _)
 have hS:=hS.addNil 32 1
 refine bind_split H (fun x239 hx239 H=>?_)
 refine wo_append (ty:=(fInt .u64).ty) hF hS (by kernel_rfl) 0 0 14 rfl rfl rfl (by kernel_rfl) (by kernel_rfl) rfl rfl rfl hx239 (by kernel_rfl) (i:=Tryz.t32) (z:=vu 0) (by kernel_rfl) (by kernel_rfl) (by kernel_rfl) fun p240 c241 κ a w hF hS=>?_
 refine ⟨fun _=>(hS.sx [1,2,4,5,6,7,8,9,10,11,12,13,14] [2,3,4,5,6,7,8,9,10,11,12,13,14,15]),?_⟩
 refine anp [7] [0,3,416,417,444,445,451] hF (hS.sx [1,2,4,5,6,7,8,9,10,11,12,13,14] [2,3,4,5,6,7,8,9,10,11,12,13,14,15]) fun a hF=>?_
 refine ago 8 hF rfl ?_
 have hS:=hS.add (m:=Ro.mp f_api_Ver.ty none 0 ([]:List T_api_Ver)) (Ro.nil f_api_Ver.ty _ _)
 refine bind_split H (fun x242 hx242 H=>?_)
 have hgx2420:=hS.segs 1 rfl
 refine wcS 2 [1,3,0,2,4,5,6,7,8,9,10,11,12,13,14] hF hS (fun hS=>C_gate_Gate_tell N a1 y220 y223 (T_api_Msg.mk 10 a73.Id 0 0 ByteArray.empty ByteArray.empty ([]:List T_api_Ver) x239 (T_api_Cmd.mk 0 0 0 0 0 ByteArray.empty)) (flat [si a2,si a3,si (IntKind.i64.wrap a73.Id),si a5,si a6,sl p157 (y156).length c158,sl p160 (y159).length c161,sl p13 (a12).length c14,sl p16 ((List.set y218 (Int.toNat y223) false)).length c17,sl p19 ((List.set y219 (Int.toNat y223) x230)).length c20,sb true,(1,[.pointer (pa p23)]),(1,[.pointer (pa p26)]),(1,[.pointer (pa p29)]),su a31,(4,(encs fPtr p33)),ei 4 a35,ei 4 a36,(1,[.map p38]),(1,[.map p42]),sl p46 (a45).length c47,(1,[.map p49]),(1,cs52),(1,[.pointer (pa p162)]),si a56,si a57,sl p59 (a58).length c60,sl p62 (a61).length c63,su a64,sb a65,sb a66,sb a67]) p221 c222 cs71 none 0 p240 c241 b72 ((hS.regr 0 [(false,1),(true,32),(false,2)] rfl).sbK [14,0,1]) hx242) ?_
 rintro _ κ w a ⟨p243,c244,rfl,h2⟩ hF hB
 have hS:=(hB _ _ h2).unregrK 0 [(false,1),(true,32),(false,2)] (s':=[si a1,si a2,si a3,si (IntKind.i64.wrap a73.Id),si a5,si a6,sl p157 (y156).length c158,sl p160 (y159).length c161,sl p13 (a12).length c14,sl p16 ((List.set y218 (Int.toNat y223) false)).length c17,sl p19 ((List.set y219 (Int.toNat y223) x230)).length c20,sb true,(1,[.pointer (pa p23)]),(1,[.pointer (pa p26)]),(1,[.pointer (pa p29)]),su a31,(4,(encs fPtr p33)),ei 4 a35,ei 4 a36,(1,[.map p38]),(1,[.map p42]),sl p46 (a45).length c47,(1,[.map p49]),(1,cs52),(1,[.pointer (pa p162)]),si a56,si a57,sl p59 (a58).length c60,sl p62 (a61).length c63,su a64,sb a65,sb a66,sb a67,sl p243 (x242).length c244,(1,cs71)]) hgx2420 rfl
 refine ⟨notE,?_⟩
 refine and_ ?_
 refine hK226 _ _ ?_
 refine wpIn_region_lit ?_
 refine wp 2 [0,3,416,417] hF fun a hF=>?_
 refine wpListIn_nil ?_
 exact ⟨fuel3,Nat.lt_succ_self _,_,(List.set y218 (Int.toNat y223) false),(List.set y219 (Int.toNat y223) x230),x242,p243,c244,IntKind.i64.wrap (y223+1),hF.kp [0,3,416,417],hS.sp [0,3,1,4,5,6,7,8,9,10,11,12,13,14] [4,5,6,7,8,9,10,11,12,13,14,0,16,17],H⟩
 refine cond_f hF (by kernel_rfl) hb ?_
 refine wpIn_exit ?_
 refine hK166 _ _ ?_
 refine wpIn_seq_k fun K245 hK245=>?_
 refine wpIn_region_lit ?_
 refine wp 3 [0,3,456] hF fun a hF=>?_
 refine wc (wld hF hS 0 8 0 fun a hF=>?_)
 refine wp 2 [0,3,458,459] hF fun a hF=>?_
 refine wpListIn_nil ?_
 refine hK245 _ _ ?_
 refine wpIn_block ?_
 refine loop_fuel (n:=N) (fun n a w => ∃(κ:Gh) (y296:List Int) (y297:Int),Fr (476) [] [(0,pt b72 0),(3,pt b79 0),(458,vi ((a12).length:Int)),(459,vi y297)] a∧SS Ms κ0 w0 κ w [.box b72 87 [si a1,si a2,si a3,si (IntKind.i64.wrap a73.Id),si a5,si a6,sl p157 (y156).length c158,sl p160 (y159).length c161,sl p13 (y296).length c14,sl p16 (y218).length c17,sl p19 (y219).length c20,sb true,(1,[.pointer (pa p23)]),(1,[.pointer (pa p26)]),(1,[.pointer (pa p29)]),su a31,(4,(encs fPtr p33)),ei 4 a35,ei 4 a36,(1,[.map p38]),(1,[.map p42]),sl p46 (a45).length c47,(1,[.map p49]),(1,cs52),(1,[.pointer (pa p162)]),si a56,si a57,sl p59 (a58).length c60,sl p62 (a61).length c63,su a64,sb a65,sb a66,sb a67,sl p221 (y220).length c222,(1,cs71)],.box b79 38 [si a73.Kind,su a73.Id,su a73.N,su a73.TS,sg a73.Lo,sg a73.Hi,sl p74 (a73.Vers).length c75,sl p76 (a73.Vec).length c77,si a73.Cmd.Kind,si a73.Cmd.DC,si a73.Cmd.Shard,si a73.Cmd.Node,si a73.Cmd.Mode,sg a73.Cmd.Key],.tok p221 61 15 (y220).length c222,.ext (ownX (fInt .i64) 3 p13 c14 y296),.ext (ownX fBool 4 p16 c17 y218),.ext (ownX (fInt .i64) 3 p19 c20 y219),.ext (optX o_stab_Table p23 cs24 a22),.ext (optX o_order_Log p26 cs27 a25),.ext (optX o_coord_Table p29 cs30 a28),.ext (arrX o_inbox_Box p33 cs34 a32),.ext (objX p38 (.map m39 c40)),.ext (objX p42 (.map m43 c44)),.ext (objX p49 (.map m50 c51)),.ext (optX o_gate_move p162 cs163 y164)] [Ro.mp fStr.ty p157 c158 y156,Ro.mp (fInt .i64).ty p160 c161 y159,ml p33 4,ml a35 4,ml a36 4,Map.mp (kInt .u64) false (fInt .i64).ty p38 m39 c40 a37,Map.mp (kInt .u64) true t_gate_call p42 m43 c44 a41,Ro.mp t_gate_call p46 c47 a45,Map.mp (kInt .u64) true t_gate_load p49 m50 c51 a48,Ro.mp (fInt .u64).ty p59 c60 a58,Ro.mp (fInt .u64).ty p62 c63 a61,Ro.mp t_api_Mail p221 c222 y220,Ro.mp f_api_Ver.ty p74 c75 a73.Vers,Ro.mp (fInt .u64).ty p76 c77 a73.Vec]∧M.gate_Gate_ordered_L4 N n a1 a2 a3 a5 a6 a12 a22 a25 a28 a31 a32 a35 a36 a37 a41 a45 a48 a56 a57 a58 a61 a64 a65 a66 a67 a73 y156 y159 y164 y218 y219 y220 y296 y297=some r) ?_ ?_
 exact ⟨_,a12,0,hF.kp [0,3,458,459],hS.sp (rg 14) (rg 14),H⟩
 rintro n a w ⟨κ,y296,y297,hF,hS,H⟩
 rcases n with _|fuel4
 simp [M.gate_Gate_ordered_L4] at H
 simp only [M.gate_Gate_ordered_L4] at H
 refine wpIn_seq_k fun K298 hK298=>?_
 refine wpIn_region_lit ?_
 refine wp 1 [0,3,458,459,460] hF fun a hF=>?_
 refine wpListIn_nil ?_
 refine hK298 _ _ ?_
 refine wpIn_seq_k fun K299 hK299=>?_
 refine bif_split H (fun hb H=>?_) (fun hb H=>?_)
 refine cond_t hF (by kernel_rfl) hb ?_
 refine wpIn_skip ?_
 refine hK299 _ _ ?_
 refine wpIn_seq_k fun K300 hK300=>?_
 refine wpIn_block ?_
 refine wpIn_seq_k fun K301 hK301=>?_
 refine wpIn_region_lit ?_
 refine wp 2 [0,3,13,458,459] hF fun a hF=>?_
 refine wpListIn_nil ?_
 refine hK301 _ _ ?_
 refine rgS hS [13] ?_
 have hS:=hS.drew
 refine any_pure [0,1,2,4,5,7,8] [0,3,458,459,464,466,467,470] (L':=[(0,pt b72 0),(3,pt b79 0),(458,vi ((a12).length:Int)),(459,vi y297),(464,pt b72 8),(466,vi y297),(467,pt b79 7),(470,vi (IntKind.i64.wrap (y297+1)))]) (listed':=(bitA 14 439)) (fuel:=7) hF (hS.sx [0,1,3,4,5,6,7,8,9,10,11,12,13] (rg 14)) (by kernel_rfl) (by intro c a w t v h; cases t<;>exact h) (by kernel_rfl) rfl fun a hF=>?_
 refine atk 3 (some 465) hF (hS.sx [0,1,3,4,5,6,7,8,9,10,11,12,13] (rg 14)) rfl (vld 0 8 0) fun a hF=>?_
 refine atk 6 (some 468) hF (hS.sx [0,1,3,4,5,6,7,8,9,10,11,12,13] (rg 14)) rfl (vld 1 7 0) fun a hF=>?_
 refine bind_split H (fun x302 hx302 H=>?_)
 obtain ⟨b303,f304,hpx302⟩:=hS.ptr 13 rfl hx302
 refine atk 9 (some 471) hF (hS.sx [0,1,3,4,5,6,7,8,9,10,11,12,13] (rg 14)) rfl (fun w _=>val_index (E:=32) (sz:=1) rfl hpx302 rfl (by kernel_rfl) rfl hx302 (by kernel_rfl) (by kernel_rfl) w) fun a hF=>?_
 refine atk 10 (some 472) hF (hS.sx [0,1,3,4,5,6,7,8,9,10,11,12,13] (rg 14)) rfl (val_loadRo (t:=(fInt .u64)) 13 0 (v:=vu x302) rfl rfl hpx302 rfl hx302 (by kernel_rfl) (by kernel_rfl) (by kernel_rfl)) fun a hF=>?_
 refine any_pure [11] [0,3,458,459,465,466,473] (L':=[(0,pt b72 0),(3,pt b79 0),(458,vi ((a12).length:Int)),(459,vi y297),(465,.slice p13 (y296).length c14),(466,vi y297),(473,vi (IntKind.i64.wrap x302))]) (listed':=(bitA 14 4095)) (fuel:=2) hF (hS.sx [0,1,3,4,5,6,7,8,9,10,11,12,13] (rg 14)) (by kernel_rfl) (by intro c a w t v h; cases t<;>exact h) (by kernel_rfl) rfl fun a hF=>?_
 refine bind_split H (fun x305 hx305 H=>?_)
 obtain ⟨b306,f307,hpx305⟩:=hS.ptrO 3 rfl hx305
 refine atk 12 (some 474) hF (hS.sx [0,1,3,4,5,6,7,8,9,10,11,12,13] (rg 14)) rfl (fun w _=>val_index (E:=3) (sz:=1) rfl hpx305 rfl (by kernel_rfl) rfl hx305 (by kernel_rfl) (by kernel_rfl) w) fun a hF=>?_
 refine ago 13 hF rfl ?_
 refine wo_storeOL hF hS (by kernel_rfl) 3 (z:=IntKind.i64.wrap x302) rfl rfl rfl rfl hpx305 hx305 rfl (by kernel_rfl) rfl (by kernel_rfl) (Cf:=(fun nn=>[.box b72 87 [si a1,si a2,si a3,si (IntKind.i64.wrap a73.Id),si a5,si a6,sl p157 (y156).length c158,sl p160 (y159).length c161,sl p13 nn c14,sl p16 (y218).length c17,sl p19 (y219).length c20,sb true,(1,[.pointer (pa p23)]),(1,[.pointer (pa p26)]),(1,[.pointer (pa p29)]),su a31,(4,(encs fPtr p33)),ei 4 a35,ei 4 a36,(1,[.map p38]),(1,[.map p42]),sl p46 (a45).length c47,(1,[.map p49]),(1,cs52),(1,[.pointer (pa p162)]),si a56,si a57,sl p59 (a58).length c60,sl p62 (a61).length c63,su a64,sb a65,sb a66,sb a67,sl p221 (y220).length c222,(1,cs71)],.box b79 38 [si a73.Kind,su a73.Id,su a73.N,su a73.TS,sg a73.Lo,sg a73.Hi,sl p74 (a73.Vers).length c75,sl p76 (a73.Vec).length c77,si a73.Cmd.Kind,si a73.Cmd.DC,si a73.Cmd.Shard,si a73.Cmd.Node,si a73.Cmd.Mode,sg a73.Cmd.Key],.tok p221 61 15 (y220).length c222,.ext (ownX (fInt .i64) 3 p13 c14 (List.set y296 (Int.toNat y297) (IntKind.i64.wrap x302))),.ext (ownX fBool 4 p16 c17 y218),.ext (ownX (fInt .i64) 3 p19 c20 y219),.ext (optX o_stab_Table p23 cs24 a22),.ext (optX o_order_Log p26 cs27 a25),.ext (optX o_coord_Table p29 cs30 a28),.ext (arrX o_inbox_Box p33 cs34 a32),.ext (objX p38 (.map m39 c40)),.ext (objX p42 (.map m43 c44)),.ext (objX p49 (.map m50 c51)),.ext (optX o_gate_move p162 cs163 y164)])) (Lf:=(fun nn=>[(0,pt b72 0),(3,pt b79 0),(458,vi ((a12).length:Int)),(459,vi y297),(465,.slice p13 nn c14),(466,vi y297),(473,vi (IntKind.i64.wrap x302))])) [0,3,458,459,465,466,473] (by kernel_rfl) (by kernel_rfl) fun a w hF hS=>?_
 refine ⟨notE,?_⟩
 refine and_ ?_
 refine hK300 _ _ ?_
 refine wpIn_region_lit ?_
 refine wp 2 [0,3,458,459] hF fun a hF=>?_
 refine wpListIn_nil ?_
 exact ⟨fuel4,Nat.lt_succ_self _,_,(List.set y296 (Int.toNat y297) (IntKind.i64.wrap x302)),IntKind.i64.wrap (y297+1),hF.kp [0,3,458,459],hS.sp (rg 14) (rg 14),H⟩
 refine cond_f hF (by kernel_rfl) hb ?_
 refine wpIn_exit ?_
 cases H
 exact ret_done hF hS (res0 Tryz.results31) ⟨p157,c158,p160,c161,p13,c14,p16,c17,p19,c20,p162,cs163,p221,c222,cs24,cs27,cs30,cs34,rfl,hS.sp [0,2,3,4,5,6,7,8,9,10,11,12,13] [0,1,11]⟩
end Go.Cf
