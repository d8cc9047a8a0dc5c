/- The walks: each function returns what its model says. Printed by a program of ours. -/
import Derived.Test.YtcplebnnanjngaaGreatZM1
import Derived.Test.YtcplebnnanjngaaGreatZWhs
import Derived.Test.YtcplebnnanjngaaGreatZWhg9
import Derived.Test.YtcplebnnanjngaaGreatZWhg3
import Derived.Test.YtcplebnnanjngaaGreatZWhg4
import Derived.Test.YtcplebnnanjngaaGreatZWhg6
import Derived.Test.YtcplebnnanjngaaGreatZWhg7
namespace Go.Cf
open Go Go.Proofs
set_option linter.unusedVariables false
set_option maxRecDepth 20000 in
set_option maxHeartbeats 8000000 in
theorem C_gate_Gate_Take (N:Nat){Ms:List Nat}{κ0:Gh}{w0:World}(a1:Int)(a2:Int)(a3:Int)(a4:Int)(a5:Int)(a6:Int)(a7:T_api_Map)(a12:(List Int))(a15:(List Bool))(a18:(List Int))(a21:Bool)(a22:(Option T_stab_Table))(a25:(Option T_order_Log))(a28:(Option T_coord_Table))(a31:Int)(a32:(List (Option T_inbox_Box)))(a35:(List Int))(a36:(List Int))(a37:(Mp Int Int))(a41:(Mp Int T_gate_call))(a45:(List T_gate_call))(a48:(Mp Int T_gate_load))(a52:Int)(a53:(Option T_gate_move))(a56:Int)(a57:Int)(a58:(List Int))(a61:(List Int))(a64:Int)(a65:Bool)(a66:Bool)(a67:Bool)(a68:(List T_api_Mail))(a71:(List T_gate_Reply))(a75:Int)(a76:T_api_Msg)(p8:Option Addr)(c9:Nat)(p10:Option Addr)(c11:Nat)(p13:Option Addr)(c14:Nat)(p16:Option Addr)(c17:Nat)(p19:Option Addr)(c20:Nat)(p23:Option Nat)(cs24:List Nat)(p26:Option Nat)(cs27:List Nat)(p29:Option Nat)(cs30:List Nat)(p33:List (Option Nat))(cs34:List Nat)(p38:Option Nat)(m39:Array MapEntry)(c40:Nat)(p42:Option Nat)(m43:Array MapEntry)(c44:Nat)(p46:Option Addr)(c47:Nat)(p49:Option Nat)(m50:Array MapEntry)(c51:Nat)(p54:Option Nat)(cs55:List Nat)(p59:Option Addr)(c60:Nat)(p62:Option Addr)(c63:Nat)(p69:Option Addr)(c70:Nat)(p72:Option Addr)(c73:Nat)(p77:Option Addr)(c78:Nat)(p79:Option Addr)(c80:Nat)(b74:Nat)(hB:SB Ms κ0 w0 [.box b74 87 [si a1,si a2,si a3,si a4,si a5,si a6,sl p8 (a7.Cuts).length c9,sl p10 (a7.Nodes).length c11,sl p13 (a12).length c14,sl p16 (a15).length c17,sl p19 (a18).length c20,sb a21,(1,[.pointer (pa p23)]),(1,[.pointer (pa p26)]),(1,[.pointer (pa p29)]),su a31,(4,(encs fPtr p33)),ei 4 a35,ei 4 a36,(1,[.map p38]),(1,[.map p42]),sl p46 (a45).length c47,(1,[.map p49]),su a52,(1,[.pointer (pa p54)]),si a56,si a57,sl p59 (a58).length c60,sl p62 (a61).length c63,su a64,sb a65,sb a66,sb a67,sl p69 (a68).length c70,sl p72 (a71).length c73],.tok p46 95 5 (a45).length c47,.tok p69 61 15 (a68).length c70,.tok p72 52 13 (a71).length c73,.ext (ownX (fInt .i64) 3 p13 c14 a12),.ext (ownX fBool 4 p16 c17 a15),.ext (ownX (fInt .i64) 3 p19 c20 a18),.ext (optX o_stab_Table p23 cs24 a22),.ext (optX o_order_Log p26 cs27 a25),.ext (optX o_coord_Table p29 cs30 a28),.ext (arrX o_inbox_Box p33 cs34 a32),.ext (objX p38 (.map m39 c40)),.ext (objX p42 (.map m43 c44)),.ext (objX p49 (.map m50 c51)),.ext (optX o_gate_move p54 cs55 a53)] [Ro.mp fStr.ty p8 c9 a7.Cuts,Ro.mp (fInt .i64).ty p10 c11 a7.Nodes,ml p33 4,ml a35 4,ml a36 4,Map.mp (kInt .u64) false (fInt .i64).ty p38 m39 c40 a37,Map.mp (kInt .u64) true t_gate_call p42 m43 c44 a41,Ro.mp t_gate_call p46 c47 a45,Map.mp (kInt .u64) true t_gate_load p49 m50 c51 a48,Ro.mp (fInt .u64).ty p59 c60 a58,Ro.mp (fInt .u64).ty p62 c63 a61,Ro.mp t_api_Mail p69 c70 a68,Ro.mp f_gate_Reply.ty p72 c73 a71,Ro.mp f_api_Ver.ty p77 c78 a76.Vers,Ro.mp (fInt .u64).ty p79 c80 a76.Vec]){r:(Int×Int×T_api_Map×(List Int)×(List Bool)×(List Int)×Bool×(Option T_stab_Table)×(Option T_order_Log)×(Option T_coord_Table)×Int×(Mp Int Int)×(Mp Int T_gate_call)×(List T_gate_call)×Int×(Option T_gate_move)×(List T_api_Mail)×(List T_gate_Reply))}(H:M.gate_Gate_Take N a1 a2 a3 a4 a5 a6 a7 a12 a15 a18 a21 a22 a25 a28 a31 a32 a35 a36 a37 a41 a45 a48 a52 a53 a56 a57 a58 a61 a64 a65 a66 a67 a68 a71 a75 a76=some r) :
    Calls Tryz.prog 15 #[pt b74 0,vi a75,.agg (flat [si a76.Kind,su a76.Id,su a76.N,su a76.TS,sg a76.Lo,sg a76.Hi,sl p77 (a76.Vers).length c78,sl p79 (a76.Vec).length c80,si a76.Cmd.Kind,si a76.Cmd.DC,si a76.Cmd.Shard,si a76.Cmd.Node,si a76.Cmd.Mode,sg a76.Cmd.Key]).toArray] w0 (Post Ms κ0 w0 fun v κ w => ∃(p199:Option Addr) (c200:Nat) (p201:Option Addr) (c202:Nat) (p203:Option Addr) (c204:Nat) (p205:Option Addr) (c206:Nat) (p207:Option Addr) (c208:Nat) (p209:Option Nat) (cs210:List Nat) (p211:Option Nat) (cs212:List Nat) (p213:Option Nat) (cs214:List Nat) (p215:Option Nat) (m216:Array MapEntry) (c217:Nat) (p218:Option Nat) (m219:Array MapEntry) (c220:Nat) (p221:Option Addr) (c222:Nat) (p223:Option Nat) (cs224:List Nat) (p225:Option Addr) (c226:Nat) (p227:Option Addr) (c228:Nat) (cs229:List Nat),v = .tuple #[]∧SS Ms κ0 w0 κ w [.box b74 87 [si a1,si a2,si a3,si r.1,si a5,si r.2.1,sl p199 (r.2.2.1.Cuts).length c200,sl p201 (r.2.2.1.Nodes).length c202,sl p203 (r.2.2.2.1).length c204,sl p205 (r.2.2.2.2.1).length c206,sl p207 (r.2.2.2.2.2.1).length c208,sb r.2.2.2.2.2.2.1,(1,[.pointer (pa p209)]),(1,[.pointer (pa p211)]),(1,[.pointer (pa p213)]),su r.2.2.2.2.2.2.2.2.2.2.1,(4,(encs fPtr p33)),ei 4 a35,ei 4 a36,(1,[.map p215]),(1,[.map p218]),sl p221 (r.2.2.2.2.2.2.2.2.2.2.2.2.2.1).length c222,(1,[.map p49]),su r.2.2.2.2.2.2.2.2.2.2.2.2.2.2.1,(1,[.pointer (pa p223)]),si a56,si a57,sl p59 (a58).length c60,sl p62 (a61).length c63,su a64,sb a65,sb a66,sb a67,sl p225 (r.2.2.2.2.2.2.2.2.2.2.2.2.2.2.2.2.1).length c226,sl p227 (r.2.2.2.2.2.2.2.2.2.2.2.2.2.2.2.2.2).length c228],.tok p221 95 5 (r.2.2.2.2.2.2.2.2.2.2.2.2.2.1).length c222,.tok p225 61 15 (r.2.2.2.2.2.2.2.2.2.2.2.2.2.2.2.2.1).length c226,.tok p227 52 13 (r.2.2.2.2.2.2.2.2.2.2.2.2.2.2.2.2.2).length c228,.ext (ownX (fInt .i64) 3 p203 c204 r.2.2.2.1),.ext (ownX fBool 4 p205 c206 r.2.2.2.2.1),.ext (ownX (fInt .i64) 3 p207 c208 r.2.2.2.2.2.1),.ext (optX o_stab_Table p209 cs210 r.2.2.2.2.2.2.2.1),.ext (optX o_order_Log p211 cs212 r.2.2.2.2.2.2.2.2.1),.ext (optX o_coord_Table p213 cs214 r.2.2.2.2.2.2.2.2.2.1),.ext (arrX o_inbox_Box p33 cs229 a32),.ext (objX p215 (.map m216 c217)),.ext (objX p218 (.map m219 c220)),.ext (objX p49 (.map m50 c51)),.ext (optX o_gate_move p223 cs224 r.2.2.2.2.2.2.2.2.2.2.2.2.2.2.2.1)] [Ro.mp fStr.ty p199 c200 r.2.2.1.Cuts,Ro.mp (fInt .i64).ty p201 c202 r.2.2.1.Nodes,Map.mp (kInt .u64) false (fInt .i64).ty p215 m216 c217 r.2.2.2.2.2.2.2.2.2.2.2.1,Map.mp (kInt .u64) true t_gate_call p218 m219 c220 r.2.2.2.2.2.2.2.2.2.2.2.2.1,Ro.mp t_gate_call p221 c222 r.2.2.2.2.2.2.2.2.2.2.2.2.2.1,Ro.mp t_api_Mail p225 c226 r.2.2.2.2.2.2.2.2.2.2.2.2.2.2.2.2.1,Ro.mp f_gate_Reply.ty p227 c228 r.2.2.2.2.2.2.2.2.2.2.2.2.2.2.2.2.2]):=by
 have hS:=hB.hS
 have hfr:=hS.fresh
 refine enter (N:=(71)) (L:=[(0,pt b74 0),(1,vi a75),(2,.agg (flat [si a76.Kind,su a76.Id,su a76.N,su a76.TS,sg a76.Lo,sg a76.Hi,sl p77 (a76.Vers).length c78,sl p79 (a76.Vec).length c80,si a76.Cmd.Kind,si a76.Cmd.DC,si a76.Cmd.Shard,si a76.Cmd.Node,si a76.Cmd.Mode,sg a76.Cmd.Key]).toArray)]) Tryz.func15 rfl Tryz.ntmps15 (show 3≤(71) by decide) rfl fun a hF=>?_
 unfold M.gate_Gate_Take at H
 refine wpIn_seq_k fun K81 hK81=>?_
 refine wpIn_region_lit ?_
 refine wc (wbx hF hS [si a76.Kind,su a76.Id,su a76.N,su a76.TS,sg a76.Lo,sg a76.Hi,sl p77 (a76.Vers).length c78,sl p79 (a76.Vec).length c80,si a76.Cmd.Kind,si a76.Cmd.DC,si a76.Cmd.Shard,si a76.Cmd.Node,si a76.Cmd.Mode,sg a76.Cmd.Key] (sgN 14 sgNil) fun b82 a w hF hS=>?_)
 refine wpListIn_nil ?_
 refine hK81 _ _ ?_
 refine wpIn_seq_k fun K83 hK83=>?_
 refine wpIn_seq_k fun K84 hK84=>?_
 refine wpIn_region_lit ?_
 refine bind_split H (fun v86 hv86 H=>?_)
 refine wl_join (fun a w => ∃κ:Gh,Fr (71) [] [(0,pt b74 0),(1,vi a75),(5,pt b82 0),(17,vb v86)] a∧SS Ms κ0 w0 κ w [.box b82 38 [si a76.Kind,su a76.Id,su a76.N,su a76.TS,sg a76.Lo,sg a76.Hi,sl p77 (a76.Vers).length c78,sl p79 (a76.Vec).length c80,si a76.Cmd.Kind,si a76.Cmd.DC,si a76.Cmd.Shard,si a76.Cmd.Node,si a76.Cmd.Mode,sg a76.Cmd.Key],.box b74 87 [si a1,si a2,si a3,si a4,si a5,si a6,sl p8 (a7.Cuts).length c9,sl p10 (a7.Nodes).length c11,sl p13 (a12).length c14,sl p16 (a15).length c17,sl p19 (a18).length c20,sb a21,(1,[.pointer (pa p23)]),(1,[.pointer (pa p26)]),(1,[.pointer (pa p29)]),su a31,(4,(encs fPtr p33)),ei 4 a35,ei 4 a36,(1,[.map p38]),(1,[.map p42]),sl p46 (a45).length c47,(1,[.map p49]),su a52,(1,[.pointer (pa p54)]),si a56,si a57,sl p59 (a58).length c60,sl p62 (a61).length c63,su a64,sb a65,sb a66,sb a67,sl p69 (a68).length c70,sl p72 (a71).length c73],.tok p46 95 5 (a45).length c47,.tok p69 61 15 (a68).length c70,.tok p72 52 13 (a71).length c73,.ext (ownX (fInt .i64) 3 p13 c14 a12),.ext (ownX fBool 4 p16 c17 a15),.ext (ownX (fInt .i64) 3 p19 c20 a18),.ext (optX o_stab_Table p23 cs24 a22),.ext (optX o_order_Log p26 cs27 a25),.ext (optX o_coord_Table p29 cs30 a28),.ext (arrX o_inbox_Box p33 cs34 a32),.ext (objX p38 (.map m39 c40)),.ext (objX p42 (.map m43 c44)),.ext (objX p49 (.map m50 c51)),.ext (optX o_gate_move p54 cs55 a53)] [Ro.mp fStr.ty p8 c9 a7.Cuts,Ro.mp (fInt .i64).ty p10 c11 a7.Nodes,ml p33 4,ml a35 4,ml a36 4,Map.mp (kInt .u64) false (fInt .i64).ty p38 m39 c40 a37,Map.mp (kInt .u64) true t_gate_call p42 m43 c44 a41,Ro.mp t_gate_call p46 c47 a45,Map.mp (kInt .u64) true t_gate_load p49 m50 c51 a48,Ro.mp (fInt .u64).ty p59 c60 a58,Ro.mp (fInt .u64).ty p62 c63 a61,Ro.mp t_api_Mail p69 c70 a68,Ro.mp f_gate_Reply.ty p72 c73 a71,Ro.mp f_api_Ver.ty p77 c78 a76.Vers,Ro.mp (fInt .u64).ty p79 c80 a76.Vec]∧True) ?_ ?_
 refine wp 7 [0,1,5,14] hF fun a hF=>?_
 refine bif_split hv86 (fun hb hv86=>?_) (fun hb hv86=>?_)
 have hF:=hF.boolv 14 (by kernel_rfl) hb
 refine wp 3 [0,1,5,17] hF fun a hF=>?_
 refine wpListIn_nil ?_
 cases hv86
 exact ⟨_,hF.kp [0,1,5,17],hS.sp (rg 16) (rg 15),trivial⟩
 have hF:=hF.boolv 14 (by kernel_rfl) hb
 refine wp 3 [0,1,5,17] hF fun a hF=>?_
 refine wpListIn_nil ?_
 cases hv86
 exact ⟨_,hF.kp [0,1,5,17],hS.sp (rg 16) (rg 15),trivial⟩
 rintro a w ⟨κ,hF,hS,-⟩
 refine hK84 _ _ ?_
 refine bif_split H (fun hb H=>?_) (fun hb H=>?_)
 refine cond_t hF (by kernel_rfl) hb ?_
 refine wpIn_ret ?_
 cases H
 exact ret_done hF hS (res0 Tryz.results15) ⟨p8,c9,p10,c11,p13,c14,p16,c17,p19,c20,p23,cs24,p26,cs27,p29,cs30,p38,m39,c40,p42,m43,c44,p46,c47,p54,cs55,p69,c70,p72,c73,cs34,rfl,hS.sp [1,2,3,4,5,6,7,8,9,10,11,12,13,14,15] [0,1,5,6,7,11,12]⟩
 refine cond_f hF (by kernel_rfl) hb ?_
 refine wpIn_skip ?_
 refine hK83 _ _ ?_
 refine wpIn_seq_k fun K87 hK87=>?_
 refine wpIn_region_lit ?_
 refine wp 9 [0,1,5,6,7] hF fun a hF=>?_
 refine wpListIn_nil ?_
 refine hK87 _ _ ?_
 refine seq_join (fun a w => ∃(κ:Gh) (y88 y89:Int) (y90:List ByteArray) (p91:Option Addr) (c92:Nat) (y93:List Int) (p94:Option Addr) (c95:Nat) (p96:Option Addr) (c97:Nat) (y98:List Int) (p99:Option Addr) (c100:Nat) (y101:List Bool) (p102:Option Addr) (c103:Nat) (y104:List Int) (y105:Bool) (cs106:List Nat) (p107:Option Nat) (cs108:List Nat) (y109:Option T_order_Log) (p110:Option Nat) (cs111:List Nat) (y112:Option T_coord_Table) (y113:Int) (cs114:List Nat) (p115:Option Nat) (m116:Array MapEntry) (c117:Nat) (y118:Mp Int Int) (p119:Option Nat) (m120:Array MapEntry) (c121:Nat) (y122:Mp Int T_gate_call) (y123:List T_gate_call) (p124:Option Addr) (c125:Nat) (y126:Int) (p127:Option Nat) (cs128:List Nat) (y129:Option T_gate_move) (y130:List T_api_Mail) (p131:Option Addr) (c132:Nat) (y133:List T_gate_Reply) (p134:Option Addr) (c135:Nat),Fr (71) [] [(0,pt b74 0)] a∧SS Ms κ0 w0 κ w [.box b74 87 [si a1,si a2,si a3,si y88,si a5,si y89,sl p91 (y90).length c92,sl p94 (y93).length c95,sl p96 (y98).length c97,sl p99 (y101).length c100,sl p102 (y104).length c103,sb y105,(1,[.pointer (pa p23)]),(1,[.pointer (pa p107)]),(1,[.pointer (pa p110)]),su y113,(4,(encs fPtr p33)),ei 4 a35,ei 4 a36,(1,[.map p115]),(1,[.map p119]),sl p124 (y123).length c125,(1,[.map p49]),su y126,(1,[.pointer (pa p127)]),si a56,si a57,sl p59 (a58).length c60,sl p62 (a61).length c63,su a64,sb a65,sb a66,sb a67,sl p131 (y130).length c132,sl p134 (y133).length c135],.tok p124 95 5 (y123).length c125,.tok p131 61 15 (y130).length c132,.tok p134 52 13 (y133).length c135,.ext (ownX (fInt .i64) 3 p96 c97 y98),.ext (ownX fBool 4 p99 c100 y101),.ext (ownX (fInt .i64) 3 p102 c103 y104),.ext (optX o_stab_Table p23 cs106 a22),.ext (optX o_order_Log p107 cs108 y109),.ext (optX o_coord_Table p110 cs111 y112),.ext (arrX o_inbox_Box p33 cs114 a32),.ext (objX p115 (.map m116 c117)),.ext (objX p119 (.map m120 c121)),.ext (objX p49 (.map m50 c51)),.ext (optX o_gate_move p127 cs128 y129)] [Ro.mp fStr.ty p91 c92 y90,Ro.mp (fInt .i64).ty p94 c95 y93,ml p33 4,ml a35 4,ml a36 4,Map.mp (kInt .u64) false (fInt .i64).ty p115 m116 c117 y118,Map.mp (kInt .u64) true t_gate_call p119 m120 c121 y122,Ro.mp t_gate_call p124 c125 y123,Map.mp (kInt .u64) true t_gate_load p49 m50 c51 a48,Ro.mp (fInt .u64).ty p59 c60 a58,Ro.mp (fInt .u64).ty p62 c63 a61,Ro.mp t_api_Mail p131 c132 y130,Ro.mp f_gate_Reply.ty p134 c135 y133]∧M.gate_Gate_Take_k1 N a1 a2 a3 a5 a22 a32 a35 a36 a48 a56 a57 a58 a61 a64 a65 a66 a67 y88 y89 y90 y93 y98 y101 y104 y105 y109 y112 y113 y118 y122 y123 y126 y129 y130 y133=some r) ?_ ?_
 refine wpIn_block ?_
 refine wpIn_seq_k fun K148 hK148=>?_
 refine wpIn_region_lit ?_
 refine wp 3 [0,5,6,7,25] hF fun a hF=>?_
 refine wpListIn_nil ?_
 refine hK148 _ _ ?_
 refine bif_split H (fun hb H=>?_) (fun hb H=>?_)
 refine cond_t hF (by kernel_rfl) hb ?_
 refine wpIn_region_lit ?_
 refine wp 1 [0,5,28] hF fun a hF=>?_
 refine wc (wls hF hS 0 0 14 fun a hF=>?_)
 refine bind_split H (fun x149 hx149 H=>?_)
 refine wc (wcS 13 [1,3,5,6,7,8,9,10,11,12,13,14,15,0,2,4] hF hS (fun hS=>C_gate_Gate_ordered N a1 a2 a3 a4 a5 a6 (T_api_Map.mk a7.Cuts a7.Nodes) a12 a15 a18 a21 a22 a25 a28 a31 a32 a35 a36 a37 a41 a45 a48 a53 a56 a57 a58 a61 a64 a65 a66 a67 a68 (T_api_Msg.mk a76.Kind a76.Id a76.N a76.TS a76.Lo a76.Hi a76.Vers a76.Vec (T_api_Cmd.mk a76.Cmd.Kind a76.Cmd.DC a76.Cmd.Shard a76.Cmd.Node a76.Cmd.Mode a76.Cmd.Key)) p8 c9 p10 c11 p13 c14 p16 c17 p19 c20 p23 cs24 p26 cs27 p29 cs30 p33 cs34 p38 m39 c40 p42 m43 c44 p46 c47 p49 m50 c51 [vu a52] p54 cs55 p59 c60 p62 c63 p69 c70 [.slice p72 (a71).length c73] p77 c78 p79 c80 b74 (hS.sbK [0,1,2,3,4,5,6,7,8,9,10,11,13,14]) hx149) ?_)
 rintro _ κ w a ⟨p150,c151,p152,c153,p154,c155,p156,c157,p158,c159,p160,cs161,p162,c163,cs164,cs165,cs166,cs167,rfl,h2⟩ hF hB
 have hS:=hB _ _ h2
 refine wpListIn_nil ?_
 exact ⟨_,x149.1,a6,x149.2.1.Cuts,p150,c151,x149.2.1.Nodes,p152,c153,p154,c155,x149.2.2.1,p156,c157,x149.2.2.2.1,p158,c159,x149.2.2.2.2.1,x149.2.2.2.2.2.1,cs164,p26,cs165,a25,p29,cs166,a28,a31,cs167,p38,m39,c40,a37,p42,m43,c44,a41,a45,p46,c47,a52,p160,cs161,x149.2.2.2.2.2.2.1,x149.2.2.2.2.2.2.2,p162,c163,a71,p72,c73,hF.kp [0],hS.sp [0,14,1,15,2,3,4,5,6,7,8,9,10,11,12] [0,1,5,6,7,8,9,10,11,12,13,2,15],H⟩
 refine cond_f hF (by kernel_rfl) hb ?_
 refine wpIn_seq_k fun K168 hK168=>?_
 refine wpIn_region_lit ?_
 refine bind_split H (fun v170 hv170 H=>?_)
 refine wl_join (fun a w => ∃κ:Gh,Fr (71) [] [(0,pt b74 0),(5,pt b82 0),(6,vi (IntKind.i64.wrap (Int.tdiv (IntKind.i64.wrap (a75-1)) 5))),(7,vi (IntKind.i64.wrap ((Int.tmod (IntKind.i64.wrap (a75-1)) 5)-1))),(31,vb v170)] a∧SS Ms κ0 w0 κ w [.box b82 38 [si a76.Kind,su a76.Id,su a76.N,su a76.TS,sg a76.Lo,sg a76.Hi,sl p77 (a76.Vers).length c78,sl p79 (a76.Vec).length c80,si a76.Cmd.Kind,si a76.Cmd.DC,si a76.Cmd.Shard,si a76.Cmd.Node,si a76.Cmd.Mode,sg a76.Cmd.Key],.box b74 87 [si a1,si a2,si a3,si a4,si a5,si a6,sl p8 (a7.Cuts).length c9,sl p10 (a7.Nodes).length c11,sl p13 (a12).length c14,sl p16 (a15).length c17,sl p19 (a18).length c20,sb a21,(1,[.pointer (pa p23)]),(1,[.pointer (pa p26)]),(1,[.pointer (pa p29)]),su a31,(4,(encs fPtr p33)),ei 4 a35,ei 4 a36,(1,[.map p38]),(1,[.map p42]),sl p46 (a45).length c47,(1,[.map p49]),su a52,(1,[.pointer (pa p54)]),si a56,si a57,sl p59 (a58).length c60,sl p62 (a61).length c63,su a64,sb a65,sb a66,sb a67,sl p69 (a68).length c70,sl p72 (a71).length c73],.tok p46 95 5 (a45).length c47,.tok p69 61 15 (a68).length c70,.tok p72 52 13 (a71).length c73,.ext (ownX (fInt .i64) 3 p13 c14 a12),.ext (ownX fBool 4 p16 c17 a15),.ext (ownX (fInt .i64) 3 p19 c20 a18),.ext (optX o_stab_Table p23 cs24 a22),.ext (optX o_order_Log p26 cs27 a25),.ext (optX o_coord_Table p29 cs30 a28),.ext (arrX o_inbox_Box p33 cs34 a32),.ext (objX p38 (.map m39 c40)),.ext (objX p42 (.map m43 c44)),.ext (objX p49 (.map m50 c51)),.ext (optX o_gate_move p54 cs55 a53)] [Ro.mp fStr.ty p8 c9 a7.Cuts,Ro.mp (fInt .i64).ty p10 c11 a7.Nodes,ml p33 4,ml a35 4,ml a36 4,Map.mp (kInt .u64) false (fInt .i64).ty p38 m39 c40 a37,Map.mp (kInt .u64) true t_gate_call p42 m43 c44 a41,Ro.mp t_gate_call p46 c47 a45,Map.mp (kInt .u64) true t_gate_load p49 m50 c51 a48,Ro.mp (fInt .u64).ty p59 c60 a58,Ro.mp (fInt .u64).ty p62 c63 a61,Ro.mp t_api_Mail p69 c70 a68,Ro.mp f_gate_Reply.ty p72 c73 a71,Ro.mp f_api_Ver.ty p77 c78 a76.Vers,Ro.mp (fInt .u64).ty p79 c80 a76.Vec]∧True) ?_ ?_
 refine wp 3 [0,5,6,7,34] hF fun a hF=>?_
 refine bif_split hv170 (fun hb hv170=>?_) (fun hb hv170=>?_)
 have hF:=hF.boolv 34 (by kernel_rfl) hb
 refine wp 4 [0,5,6,7,34,35,38] hF fun a hF=>?_
 refine wcg hF (wld hF hS 1 0 0 fun a hF=>?_)
 refine wp 3 [0,5,6,7,31] hF fun a hF=>?_
 refine wpListIn_nil ?_
 cases hv170
 exact ⟨_,hF.kp [0,5,6,7,31],hS.sp (rg 16) (rg 15),trivial⟩
 have hF:=hF.boolv 34 (by kernel_rfl) hb
 refine wp 8 [0,5,6,7,31] hF fun a hF=>?_
 refine wpListIn_nil ?_
 cases hv170
 exact ⟨_,hF.kp [0,5,6,7,31],hS.sp (rg 16) (rg 15),trivial⟩
 rintro a w ⟨κ,hF,hS,-⟩
 refine hK168 _ _ ?_
 refine bif_split H (fun hb H=>?_) (fun hb H=>?_)
 refine cond_t hF (by kernel_rfl) hb ?_
 refine wpIn_region_lit ?_
 refine wp 2 [0,5,42,43] hF fun a hF=>?_
 refine wc (wls hF hS 0 0 14 fun a hF=>?_)
 cases H
 refine cond_f hF (by kernel_rfl) hb ?_
 refine wpIn_seq_k fun K171 hK171=>?_
 refine wpIn_region_lit ?_
 refine bind_split H (fun v173 hv173 H=>?_)
 refine wl_join (fun a w => ∃κ:Gh,Fr (71) [] [(0,pt b74 0),(5,pt b82 0),(7,vi (IntKind.i64.wrap ((Int.tmod (IntKind.i64.wrap (a75-1)) 5)-1))),(46,vb v173)] a∧SS Ms κ0 w0 κ w [.box b82 38 [si a76.Kind,su a76.Id,su a76.N,su a76.TS,sg a76.Lo,sg a76.Hi,sl p77 (a76.Vers).length c78,sl p79 (a76.Vec).length c80,si a76.Cmd.Kind,si a76.Cmd.DC,si a76.Cmd.Shard,si a76.Cmd.Node,si a76.Cmd.Mode,sg a76.Cmd.Key],.box b74 87 [si a1,si a2,si a3,si a4,si a5,si a6,sl p8 (a7.Cuts).length c9,sl p10 (a7.Nodes).length c11,sl p13 (a12).length c14,sl p16 (a15).length c17,sl p19 (a18).length c20,sb a21,(1,[.pointer (pa p23)]),(1,[.pointer (pa p26)]),(1,[.pointer (pa p29)]),su a31,(4,(encs fPtr p33)),ei 4 a35,ei 4 a36,(1,[.map p38]),(1,[.map p42]),sl p46 (a45).length c47,(1,[.map p49]),su a52,(1,[.pointer (pa p54)]),si a56,si a57,sl p59 (a58).length c60,sl p62 (a61).length c63,su a64,sb a65,sb a66,sb a67,sl p69 (a68).length c70,sl p72 (a71).length c73],.tok p46 95 5 (a45).length c47,.tok p69 61 15 (a68).length c70,.tok p72 52 13 (a71).length c73,.ext (ownX (fInt .i64) 3 p13 c14 a12),.ext (ownX fBool 4 p16 c17 a15),.ext (ownX (fInt .i64) 3 p19 c20 a18),.ext (optX o_stab_Table p23 cs24 a22),.ext (optX o_order_Log p26 cs27 a25),.ext (optX o_coord_Table p29 cs30 a28),.ext (arrX o_inbox_Box p33 cs34 a32),.ext (objX p38 (.map m39 c40)),.ext (objX p42 (.map m43 c44)),.ext (objX p49 (.map m50 c51)),.ext (optX o_gate_move p54 cs55 a53)] [Ro.mp fStr.ty p8 c9 a7.Cuts,Ro.mp (fInt .i64).ty p10 c11 a7.Nodes,ml p33 4,ml a35 4,ml a36 4,Map.mp (kInt .u64) false (fInt .i64).ty p38 m39 c40 a37,Map.mp (kInt .u64) true t_gate_call p42 m43 c44 a41,Ro.mp t_gate_call p46 c47 a45,Map.mp (kInt .u64) true t_gate_load p49 m50 c51 a48,Ro.mp (fInt .u64).ty p59 c60 a58,Ro.mp (fInt .u64).ty p62 c63 a61,Ro.mp t_api_Mail p69 c70 a68,Ro.mp f_gate_Reply.ty p72 c73 a71,Ro.mp f_api_Ver.ty p77 c78 a76.Vers,Ro.mp (fInt .u64).ty p79 c80 a76.Vec]∧True) ?_ ?_
 refine wp 4 [0,5,7,47,50] hF fun a hF=>?_
 refine wc (wld hF hS 1 0 0 fun a hF=>?_)
 refine wp 2 [0,5,7,53] hF fun a hF=>?_
 refine bif_split hv173 (fun hb hv173=>?_) (fun hb hv173=>?_)
 have hF:=hF.boolv 53 (by kernel_rfl) hb
 refine wp 4 [0,5,7,57] hF fun a hF=>?_
 refine bif_split hv173 (fun hb hv173=>?_) (fun hb hv173=>?_)
 have hF:=hF.boolv 57 (by kernel_rfl) hb
 refine wp 4 [0,5,7,57,58,61] hF fun a hF=>?_
 refine wcg hF (wld hF hS 1 1 0 fun a hF=>?_)
 refine wp 3 [0,5,7,46] hF fun a hF=>?_
 refine wpListIn_nil ?_
 cases hv173
 exact ⟨_,hF.kp [0,5,7,46],hS.sp (rg 16) (rg 15),trivial⟩
 have hF:=hF.boolv 57 (by kernel_rfl) hb
 refine wp 8 [0,5,7,46] hF fun a hF=>?_
 refine wpListIn_nil ?_
 cases hv173
 exact ⟨_,hF.kp [0,5,7,46],hS.sp (rg 16) (rg 15),trivial⟩
 have hF:=hF.boolv 53 (by kernel_rfl) hb
 refine wp 12 [0,5,7,46] hF fun a hF=>?_
 refine wpListIn_nil ?_
 cases hv173
 exact ⟨_,hF.kp [0,5,7,46],hS.sp (rg 16) (rg 15),trivial⟩
 rintro a w ⟨κ,hF,hS,-⟩
 refine hK171 _ _ ?_
 refine bif_split H (fun hb H=>?_) (fun hb H=>?_)
 refine cond_t hF (by kernel_rfl) hb ?_
 refine wpIn_region_lit ?_
 refine wp 2 [0,5,65,66] hF fun a hF=>?_
 refine wc (wls hF hS 0 0 14 fun a hF=>?_)
 refine bind_split H (fun x174 hx174 H=>?_)
 have hgx1740:=hS.segs 1 rfl
 refine wc (wcS 13 [1,2,3,4,6,8,9,10,11,12,13,14,15,0,5,7] hF hS (fun hS=>C_gate_Gate_answered N a1 a2 a4 a5 a6 (T_api_Map.mk a7.Cuts a7.Nodes) a15 a22 a25 a28 a31 a32 a37 a41 a45 a48 a52 a53 a56 a57 a58 a68 a71 (IntKind.i64.wrap ((Int.tmod (IntKind.i64.wrap (a75-1)) 5)-1)) (T_api_Msg.mk a76.Kind a76.Id a76.N a76.TS a76.Lo a76.Hi a76.Vers a76.Vec (T_api_Cmd.mk a76.Cmd.Kind a76.Cmd.DC a76.Cmd.Shard a76.Cmd.Node a76.Cmd.Mode a76.Cmd.Key)) [vi a3] p8 c9 p10 c11 [.slice p13 (a12).length c14] p16 c17 (flat [sl p19 (a18).length c20,sb a21]) p23 cs24 p26 cs27 p29 cs30 p33 cs34 (flat [ei 4 a35,ei 4 a36]) p38 m39 c40 p42 m43 c44 p46 c47 p49 m50 c51 p54 cs55 p59 c60 (flat [sl p62 (a61).length c63,su a64,sb a65,sb a66,sb a67]) p69 c70 p72 c73 p77 c78 p79 c80 b74 ((hS.regr 0 [(false,10),(true,2),(false,5),(true,2),(false,9),(true,5),(false,2)] rfl).sbK [0,1,2,5,6,7,8,9,11,12,13,14]) hx174) ?_)
 rintro _ κ w a ⟨p175,c176,p177,c178,p179,cs180,p181,cs182,p183,m184,c185,p186,m187,c188,p189,c190,p191,cs192,p193,c194,p195,c196,cs197,cs198,rfl,h2⟩ hF hB
 have hS:=(hB _ _ h2).unregrK 0 [(false,10),(true,2),(false,5),(true,2),(false,9),(true,5),(false,2)] (s':=[si a1,si a2,si a3,si a4,si a5,si x174.1,sl p175 (x174.2.1.Cuts).length c176,sl p177 (x174.2.1.Nodes).length c178,sl p13 (a12).length c14,sl p16 (a15).length c17,sl p19 (a18).length c20,sb a21,(1,[.pointer (pa p23)]),(1,[.pointer (pa p179)]),(1,[.pointer (pa p181)]),su x174.2.2.2.2.1,(4,(encs fPtr p33)),ei 4 a35,ei 4 a36,(1,[.map p183]),(1,[.map p186]),sl p189 (x174.2.2.2.2.2.2.2.1).length c190,(1,[.map p49]),su x174.2.2.2.2.2.2.2.2.1,(1,[.pointer (pa p191)]),si a56,si a57,sl p59 (a58).length c60,sl p62 (a61).length c63,su a64,sb a65,sb a66,sb a67,sl p193 (x174.2.2.2.2.2.2.2.2.2.2.1).length c194,sl p195 (x174.2.2.2.2.2.2.2.2.2.2.2).length c196]) hgx1740 rfl
 refine wpListIn_nil ?_
 exact ⟨_,a4,x174.1,x174.2.1.Cuts,p175,c176,x174.2.1.Nodes,p177,c178,p13,c14,a12,p16,c17,a15,p19,c20,a18,a21,cs197,p179,cs180,x174.2.2.1,p181,cs182,x174.2.2.2.1,x174.2.2.2.2.1,cs198,p183,m184,c185,x174.2.2.2.2.2.1,p186,m187,c188,x174.2.2.2.2.2.2.1,x174.2.2.2.2.2.2.2.1,p189,c190,x174.2.2.2.2.2.2.2.2.1,p191,cs192,x174.2.2.2.2.2.2.2.2.2.1,x174.2.2.2.2.2.2.2.2.2.2.1,p193,c194,x174.2.2.2.2.2.2.2.2.2.2.2,p195,c196,hF.kp [0],hS.sp [0,1,2,3,14,4,15,5,6,7,8,9,10,11,12] [0,1,9,10,11,2,3,4,15,16,17,5,6],H⟩
 refine cond_f hF (by kernel_rfl) hb ?_
 refine wpIn_skip ?_
 exact ⟨_,a4,a6,a7.Cuts,p8,c9,a7.Nodes,p10,c11,p13,c14,a12,p16,c17,a15,p19,c20,a18,a21,cs24,p26,cs27,a25,p29,cs30,a28,a31,cs34,p38,m39,c40,a37,p42,m43,c44,a41,a45,p46,c47,a52,p54,cs55,a53,a68,p69,c70,a71,p72,c73,hF.kp [0],hS.sp [1,2,3,4,5,6,7,8,9,10,11,12,13,14,15] (rg 13),H⟩
 rintro a w ⟨κ,y88,y89,y90,p91,c92,y93,p94,c95,p96,c97,y98,p99,c100,y101,p102,c103,y104,y105,cs106,p107,cs108,y109,p110,cs111,y112,y113,cs114,p115,m116,c117,y118,p119,m120,c121,y122,y123,p124,c125,y126,p127,cs128,y129,y130,p131,c132,y133,p134,c135,hF,hS,H⟩
 unfold M.gate_Gate_Take_k1 at H
 refine wpIn_region_lit ?_
 refine wp 1 [69] hF fun a hF=>?_
 refine bind_split H (fun x136 hx136 H=>?_)
 have hgx1360:=hS.segs 0 rfl
 refine wc (wcS 10 [0,2,5,7,8,9,10,12,13,14,1,3,4,6,11] hF hS (fun hS=>C_gate_Gate_work N a1 a3 y88 (T_api_Map.mk y90 y93) y101 y105 a22 y109 y112 y113 a32 a35 a36 y122 y123 a48 y126 y129 a61 a64 a65 a66 a67 y130 [vi a2] (flat [si a5,si y89]) p91 c92 p94 c95 [.slice p96 (y98).length c97] p99 c100 [.slice p102 (y104).length c103] p23 cs106 p107 cs108 p110 cs111 p33 cs114 [.map p115] p119 m120 c121 p124 c125 p49 m50 c51 p127 cs128 (flat [si a56,si a57,sl p59 (a58).length c60]) p62 c63 p131 c132 [.slice p134 (y133).length c135] b74 ((hS.regr 0 [(false,4),(true,2),(false,19),(true,3),(false,7)] rfl).sbK [0,1,2,3,4,6,7,8,10,11]) hx136) ?_)
 rintro _ κ w a ⟨p137,cs138,p139,cs140,p141,cs142,p143,cs144,p145,c146,cs147,rfl,h2⟩ hF hB
 have hS:=(hB _ _ h2).unregrK 0 [(false,4),(true,2),(false,19),(true,3),(false,7)] (s':=[si a1,si a2,si a3,si y88,si a5,si y89,sl p91 (y90).length c92,sl p94 (y93).length c95,sl p96 (y98).length c97,sl p99 (y101).length c100,sl p102 (y104).length c103,sb y105,(1,[.pointer (pa p137)]),(1,[.pointer (pa p139)]),(1,[.pointer (pa p141)]),su y113,(4,(encs fPtr p33)),ei 4 a35,ei 4 a36,(1,[.map p115]),(1,[.map p119]),sl p124 (y123).length c125,(1,[.map p49]),su y126,(1,[.pointer (pa p143)]),si a56,si a57,sl p59 (a58).length c60,sl p62 (a61).length c63,su a64,sb a65,sb a66,sb a67,sl p145 (x136.2.2.2.2).length c146,sl p134 (y133).length c135]) hgx1360 rfl
 refine wpListIn_nil ?_
 cases H
 exact ret_done hF hS (res0 Tryz.results15) ⟨p91,c92,p94,c95,p96,c97,p99,c100,p102,c103,p137,cs138,p139,cs140,p141,cs142,p115,m116,c117,p119,m120,c121,p124,c125,p143,cs144,p145,c146,p134,c135,cs147,rfl,hS.sp [0,10,1,11,12,2,13,3,4,5,6,14,7,8,9] [1,2,6,7,8,0,13]⟩
set_option maxRecDepth 20000 in
set_option maxHeartbeats 8000000 in
theorem C_gate_Gate_Read (N:Nat){Ms:List Nat}{κ0:Gh}{w0:World}(a1:Int)(a3:Int)(a5:Int)(a6:Int)(a7:T_api_Map)(a13:(Option T_coord_Table))(a16:Int)(a18:(Mp Int Int))(a22:(Mp Int T_gate_call))(a26:(List T_gate_call))(a30:Int)(a31:(Option T_gate_move))(a35:(List T_api_Mail))(a40:Int)(a41:ByteArray)(a42:Int)(cs2:List Value)(cs4:List Value)(p8:Option Addr)(c9:Nat)(p10:Option Addr)(c11:Nat)(cs12:List Value)(p14:Option Nat)(cs15:List Nat)(cs17:List Value)(p19:Option Nat)(m20:Array MapEntry)(c21:Nat)(p23:Option Nat)(m24:Array MapEntry)(c25:Nat)(p27:Option Addr)(c28:Nat)(cs29:List Value)(p32:Option Nat)(cs33:List Nat)(cs34:List Value)(p36:Option Addr)(c37:Nat)(cs38:List Value)(b39:Nat)(hB:SB Ms κ0 w0 [.box b39 87 [si a1,(1,cs2),si a3,(1,cs4),si a5,si a6,sl p8 (a7.Cuts).length c9,sl p10 (a7.Nodes).length c11,(6,cs12),(1,[.pointer (pa p14)]),su a16,(12,cs17),(1,[.map p19]),(1,[.map p23]),sl p27 (a26).length c28,(1,cs29),su a30,(1,[.pointer (pa p32)]),(8,cs34),sl p36 (a35).length c37,(1,cs38)],.tok p27 95 5 (a26).length c28,.tok p36 61 15 (a35).length c37,.ext (optX o_coord_Table p14 cs15 a13),.ext (objX p19 (.map m20 c21)),.ext (objX p23 (.map m24 c25)),.ext (optX o_gate_move p32 cs33 a31)] [Ro.mp fStr.ty p8 c9 a7.Cuts,Ro.mp (fInt .i64).ty p10 c11 a7.Nodes,Map.mp (kInt .u64) false (fInt .i64).ty p19 m20 c21 a18,Map.mp (kInt .u64) true t_gate_call p23 m24 c25 a22,Ro.mp t_gate_call p27 c28 a26,Ro.mp t_api_Mail p36 c37 a35]){r:(Int×Int×(Option T_coord_Table)×Int×(Mp Int Int)×(Mp Int T_gate_call)×(List T_gate_call)×Int×(Option T_gate_move)×(List T_api_Mail))}(H:M.gate_Gate_Read N a1 a3 a5 a6 a7 a13 a16 a18 a22 a26 a30 a31 a35 a40 a41 a42=some r) :
    Calls Tryz.prog 18 #[pt b39 0,vi a40,.string (a41),vu a42] w0 (Post Ms κ0 w0 fun v κ w => ∃(p64:Option Nat) (cs65:List Nat) (p66:Option Nat) (m67:Array MapEntry) (c68:Nat) (p69:Option Nat) (m70:Array MapEntry) (c71:Nat) (p72:Option Addr) (c73:Nat) (p74:Option Nat) (cs75:List Nat) (p76:Option Addr) (c77:Nat),v=vi r.1∧SS Ms κ0 w0 κ w [.box b39 87 [si a1,(1,cs2),si a3,(1,cs4),si a5,si r.2.1,sl p8 (a7.Cuts).length c9,sl p10 (a7.Nodes).length c11,(6,cs12),(1,[.pointer (pa p64)]),su r.2.2.2.1,(12,cs17),(1,[.map p66]),(1,[.map p69]),sl p72 (r.2.2.2.2.2.2.1).length c73,(1,cs29),su r.2.2.2.2.2.2.2.1,(1,[.pointer (pa p74)]),(8,cs34),sl p76 (r.2.2.2.2.2.2.2.2.2).length c77,(1,cs38)],.tok p72 95 5 (r.2.2.2.2.2.2.1).length c73,.tok p76 61 15 (r.2.2.2.2.2.2.2.2.2).length c77,.ext (optX o_coord_Table p64 cs65 r.2.2.1),.ext (objX p66 (.map m67 c68)),.ext (objX p69 (.map m70 c71)),.ext (optX o_gate_move p74 cs75 r.2.2.2.2.2.2.2.2.1)] [Map.mp (kInt .u64) false (fInt .i64).ty p66 m67 c68 r.2.2.2.2.1,Map.mp (kInt .u64) true t_gate_call p69 m70 c71 r.2.2.2.2.2.1,Ro.mp t_gate_call p72 c73 r.2.2.2.2.2.2.1,Ro.mp t_api_Mail p76 c77 r.2.2.2.2.2.2.2.2.2]):=by
 have hS:=hB.hS
 have hfr:=hS.fresh
 refine enter (N:=(24)) (L:=[(0,pt b39 0),(1,vi a40),(2,.string (a41)),(3,vu a42)]) Tryz.func18 rfl Tryz.ntmps18 (show 4≤(24) by decide) rfl fun a hF=>?_
 unfold M.gate_Gate_Read at H
 refine wpIn_seq_k fun K43 hK43=>?_
 refine wpIn_region_lit ?_
 refine wp 1 (rg 4) hF fun a hF=>?_
 refine wpListIn_nil ?_
 refine hK43 _ _ ?_
 refine wpIn_seq_k fun K44 hK44=>?_
 refine wpIn_seq_k fun K45 hK45=>?_
 refine wpIn_region_lit ?_
 refine wp 6 [0,1,2,3,11,14] hF fun a hF=>?_
 refine wcg hF (wld hF hS 0 2 0 fun a hF=>?_)
 refine wp 2 [0,1,2,3,17] hF fun a hF=>?_
 refine wpListIn_nil ?_
 refine hK45 _ _ ?_
 refine bif_split H (fun hb H=>?_) (fun hb H=>?_)
 refine cond_t hF (by kernel_rfl) hb ?_
 refine wpIn_seq_k fun K46 hK46=>?_
 refine wpIn_region_lit ?_
 refine wp 1 [8] hF fun a hF=>?_
 refine wpListIn_nil ?_
 refine hK46 _ _ ?_
 refine wpIn_ret ?_
 cases H
 exact ret_done hF hS (res1 Tryz.results18 (rvt hF)) ⟨p14,cs15,p19,m20,c21,p23,m24,c25,p27,c28,p32,cs33,p36,c37,rfl,hS.sp (rg 7) [2,3,4,5]⟩
 refine cond_f hF (by kernel_rfl) hb ?_
 refine wpIn_skip ?_
 refine hK44 _ _ ?_
 refine wpIn_seq_k fun K47 hK47=>?_
 refine wpIn_region_lit ?_
 refine wp 5 [18,22] hF fun a hF=>?_
 have hS:=hS.add (m:=Ro.mp f_api_Ver.ty none 0 ([]:List T_api_Ver)) (Ro.nil f_api_Ver.ty _ _)
 refine bind_split H (fun x48 hx48 H=>?_)
 have hgx480:=hS.segs 0 rfl
 refine wc (wcS 7 (rg 7) hF hS (fun hS=>C_gate_Gate_ask N a1 a5 a6 (T_api_Map.mk a7.Cuts a7.Nodes) a13 a16 a18 a22 a26 a30 a31 a35 (T_gate_call.mk a40 true a41 a42 ([]:List T_api_Ver)) (flat [(1,cs2),si a3,(1,cs4)]) p8 c9 p10 c11 cs12 p14 cs15 cs17 p19 m20 c21 p23 m24 c25 p27 c28 cs29 p32 cs33 cs34 p36 c37 cs38 none 0 b39 ((hS.regr 0 [(false,1),(true,3),(false,17)] rfl).sbK [1,2,3,4,5,6,0]) hx48) ?_)
 rintro _ κ w a ⟨p49,cs50,p51,m52,c53,p54,m55,c56,p57,c58,p59,cs60,p61,c62,rfl,h2⟩ hF hB
 have hS:=(hB _ _ h2).unregrK 0 [(false,1),(true,3),(false,17)] (s':=[si a1,(1,cs2),si a3,(1,cs4),si a5,si x48.1,sl p8 (a7.Cuts).length c9,sl p10 (a7.Nodes).length c11,(6,cs12),(1,[.pointer (pa p49)]),su x48.2.2.1,(12,cs17),(1,[.map p51]),(1,[.map p54]),sl p57 (x48.2.2.2.2.2.1).length c58,(1,cs29),su x48.2.2.2.2.2.2.1,(1,[.pointer (pa p59)]),(8,cs34),sl p61 (x48.2.2.2.2.2.2.2.2).length c62,(1,cs38)]) hgx480 rfl
 refine wpListIn_nil ?_
 refine hK47 _ _ ?_
 refine wpIn_seq_k fun K63 hK63=>?_
 refine wpIn_region_lit ?_
 refine wp 1 [8] hF fun a hF=>?_
 refine wpListIn_nil ?_
 refine hK63 _ _ ?_
 refine wpIn_ret ?_
 cases H
 exact ret_done hF hS (res1 Tryz.results18 (rvt hF)) ⟨p49,cs50,p51,m52,c53,p54,m55,c56,p57,c58,p59,cs60,p61,c62,rfl,hS.sp (rg 7) (rg 4)⟩
set_option maxRecDepth 20000 in
set_option maxHeartbeats 8000000 in
theorem C_gate_Gate_Commit (N:Nat){Ms:List Nat}{κ0:Gh}{w0:World}(a1:Int)(a3:Int)(a4:Int)(a5:Int)(a6:Int)(a7:T_api_Map)(a13:(List Bool))(a17:Bool)(a18:(Option T_stab_Table))(a21:(Option T_order_Log))(a24:(Option T_coord_Table))(a27:Int)(a28:(List (Option T_inbox_Box)))(a31:(List Int))(a32:(List Int))(a33:(Mp Int Int))(a37:(Mp Int T_gate_call))(a41:(List T_gate_call))(a44:(Mp Int T_gate_load))(a48:Int)(a49:(Option T_gate_move))(a53:(List Int))(a56:Int)(a57:Bool)(a58:Bool)(a59:Bool)(a60:(List T_api_Mail))(a65:Int)(a66:Int)(a67:(List T_api_Ver))(cs2:List Value)(p8:Option Addr)(c9:Nat)(p10:Option Addr)(c11:Nat)(cs12:List Value)(p14:Option Addr)(c15:Nat)(cs16:List Value)(p19:Option Nat)(cs20:List Nat)(p22:Option Nat)(cs23:List Nat)(p25:Option Nat)(cs26:List Nat)(p29:List (Option Nat))(cs30:List Nat)(p34:Option Nat)(m35:Array MapEntry)(c36:Nat)(p38:Option Nat)(m39:Array MapEntry)(c40:Nat)(p42:Option Addr)(c43:Nat)(p45:Option Nat)(m46:Array MapEntry)(c47:Nat)(p50:Option Nat)(cs51:List Nat)(cs52:List Value)(p54:Option Addr)(c55:Nat)(p61:Option Addr)(c62:Nat)(cs63:List Value)(p68:Option Addr)(c69:Nat)(b64:Nat)(hB:SB Ms κ0 w0 [.box b64 87 [si a1,(1,cs2),si a3,si a4,si a5,si a6,sl p8 (a7.Cuts).length c9,sl p10 (a7.Nodes).length c11,(1,cs12),sl p14 (a13).length c15,(1,cs16),sb a17,(1,[.pointer (pa p19)]),(1,[.pointer (pa p22)]),(1,[.pointer (pa p25)]),su a27,(4,(encs fPtr p29)),ei 4 a31,ei 4 a32,(1,[.map p34]),(1,[.map p38]),sl p42 (a41).length c43,(1,[.map p45]),su a48,(1,[.pointer (pa p50)]),(3,cs52),sl p54 (a53).length c55,su a56,sb a57,sb a58,sb a59,sl p61 (a60).length c62,(1,cs63)],.tok p42 95 5 (a41).length c43,.tok p61 61 15 (a60).length c62,.ext (ownX fBool 4 p14 c15 a13),.ext (optX o_stab_Table p19 cs20 a18),.ext (optX o_order_Log p22 cs23 a21),.ext (optX o_coord_Table p25 cs26 a24),.ext (arrX o_inbox_Box p29 cs30 a28),.ext (objX p34 (.map m35 c36)),.ext (objX p38 (.map m39 c40)),.ext (objX p45 (.map m46 c47)),.ext (optX o_gate_move p50 cs51 a49)] [Ro.mp fStr.ty p8 c9 a7.Cuts,Ro.mp (fInt .i64).ty p10 c11 a7.Nodes,ml p29 4,ml a31 4,ml a32 4,Map.mp (kInt .u64) false (fInt .i64).ty p34 m35 c36 a33,Map.mp (kInt .u64) true t_gate_call p38 m39 c40 a37,Ro.mp t_gate_call p42 c43 a41,Map.mp (kInt .u64) true t_gate_load p45 m46 c47 a44,Ro.mp (fInt .u64).ty p54 c55 a53,Ro.mp t_api_Mail p61 c62 a60,Ro.mp f_api_Ver.ty p68 c69 a67]){r:(Int×Int×(Option T_stab_Table)×(Option T_order_Log)×(Option T_coord_Table)×Int×(Mp Int Int)×(Mp Int T_gate_call)×(List T_gate_call)×Int×(Option T_gate_move)×(List T_api_Mail))}(H:M.gate_Gate_Commit N a1 a3 a4 a5 a6 a7 a13 a17 a18 a21 a24 a27 a28 a31 a32 a33 a37 a41 a44 a48 a49 a53 a56 a57 a58 a59 a60 a65 a66 a67=some r) :
    Calls Tryz.prog 17 #[pt b64 0,vi a65,vu a66,.slice p68 (a67).length c69] w0 (Post Ms κ0 w0 fun v κ w => ∃(p118:Option Nat) (cs119:List Nat) (p120:Option Nat) (cs121:List Nat) (p122:Option Nat) (cs123:List Nat) (p124:Option Nat) (m125:Array MapEntry) (c126:Nat) (p127:Option Nat) (m128:Array MapEntry) (c129:Nat) (p130:Option Addr) (c131:Nat) (p132:Option Nat) (cs133:List Nat) (p134:Option Addr) (c135:Nat) (cs136:List Nat),v=vi r.1∧SS Ms κ0 w0 κ w [.box b64 87 [si a1,(1,cs2),si a3,si a4,si a5,si r.2.1,sl p8 (a7.Cuts).length c9,sl p10 (a7.Nodes).length c11,(1,cs12),sl p14 (a13).length c15,(1,cs16),sb a17,(1,[.pointer (pa p118)]),(1,[.pointer (pa p120)]),(1,[.pointer (pa p122)]),su r.2.2.2.2.2.1,(4,(encs fPtr p29)),ei 4 a31,ei 4 a32,(1,[.map p124]),(1,[.map p127]),sl p130 (r.2.2.2.2.2.2.2.2.1).length c131,(1,[.map p45]),su r.2.2.2.2.2.2.2.2.2.1,(1,[.pointer (pa p132)]),(3,cs52),sl p54 (a53).length c55,su a56,sb a57,sb a58,sb a59,sl p134 (r.2.2.2.2.2.2.2.2.2.2.2).length c135,(1,cs63)],.tok p130 95 5 (r.2.2.2.2.2.2.2.2.1).length c131,.tok p134 61 15 (r.2.2.2.2.2.2.2.2.2.2.2).length c135,.ext (ownX fBool 4 p14 c15 a13),.ext (optX o_stab_Table p118 cs119 r.2.2.1),.ext (optX o_order_Log p120 cs121 r.2.2.2.1),.ext (optX o_coord_Table p122 cs123 r.2.2.2.2.1),.ext (arrX o_inbox_Box p29 cs136 a28),.ext (objX p124 (.map m125 c126)),.ext (objX p127 (.map m128 c129)),.ext (objX p45 (.map m46 c47)),.ext (optX o_gate_move p132 cs133 r.2.2.2.2.2.2.2.2.2.2.1)] [Map.mp (kInt .u64) false (fInt .i64).ty p124 m125 c126 r.2.2.2.2.2.2.1,Map.mp (kInt .u64) true t_gate_call p127 m128 c129 r.2.2.2.2.2.2.2.1,Ro.mp t_gate_call p130 c131 r.2.2.2.2.2.2.2.2.1,Ro.mp t_api_Mail p134 c135 r.2.2.2.2.2.2.2.2.2.2.2]):=by
 have hS:=hB.hS
 have hfr:=hS.fresh
 refine enter (N:=(41)) (L:=[(0,pt b64 0),(1,vi a65),(2,vu a66),(3,.slice p68 (a67).length c69)]) Tryz.func17 rfl Tryz.ntmps17 (show 4≤(41) by decide) rfl fun a hF=>?_
 unfold M.gate_Gate_Commit at H
 refine wpIn_seq_k fun K70 hK70=>?_
 refine wpIn_region_lit ?_
 refine wp 1 (rg 4) hF fun a hF=>?_
 refine wpListIn_nil ?_
 refine hK70 _ _ ?_
 refine wpIn_seq_k fun K71 hK71=>?_
 refine wpIn_seq_k fun K72 hK72=>?_
 refine wpIn_region_lit ?_
 refine wp 6 [0,1,2,3,11,14] hF fun a hF=>?_
 refine wcg hF (wld hF hS 0 2 0 fun a hF=>?_)
 refine wp 2 [0,1,2,3,17] hF fun a hF=>?_
 refine wpListIn_nil ?_
 refine hK72 _ _ ?_
 refine bif_split H (fun hb H=>?_) (fun hb H=>?_)
 refine cond_t hF (by kernel_rfl) hb ?_
 refine wpIn_seq_k fun K73 hK73=>?_
 refine wpIn_region_lit ?_
 refine wp 1 [8] hF fun a hF=>?_
 refine wpListIn_nil ?_
 refine hK73 _ _ ?_
 refine wpIn_ret ?_
 cases H
 exact ret_done hF hS (res1 Tryz.results17 (rvt hF)) ⟨p19,cs20,p22,cs23,p25,cs26,p34,m35,c36,p38,m39,c40,p42,c43,p50,cs51,p61,c62,cs30,rfl,hS.sp (rg 12) [5,6,7,10]⟩
 refine cond_f hF (by kernel_rfl) hb ?_
 refine wpIn_skip ?_
 refine hK71 _ _ ?_
 refine wpIn_seq_k fun K74 hK74=>?_
 refine wpIn_seq_k fun K75 hK75=>?_
 refine wpIn_region_lit ?_
 refine bind_split H (fun v77 hv77 H=>?_)
 refine wl_join (fun a w => ∃κ:Gh,Fr (41) [] [(0,pt b64 0),(1,vi a65),(2,vu a66),(3,.slice p68 (a67).length c69),(25,vb v77)] a∧SS Ms κ0 w0 κ w [.box b64 87 [si a1,(1,cs2),si a3,si a4,si a5,si a6,sl p8 (a7.Cuts).length c9,sl p10 (a7.Nodes).length c11,(1,cs12),sl p14 (a13).length c15,(1,cs16),sb a17,(1,[.pointer (pa p19)]),(1,[.pointer (pa p22)]),(1,[.pointer (pa p25)]),su a27,(4,(encs fPtr p29)),ei 4 a31,ei 4 a32,(1,[.map p34]),(1,[.map p38]),sl p42 (a41).length c43,(1,[.map p45]),su a48,(1,[.pointer (pa p50)]),(3,cs52),sl p54 (a53).length c55,su a56,sb a57,sb a58,sb a59,sl p61 (a60).length c62,(1,cs63)],.tok p42 95 5 (a41).length c43,.tok p61 61 15 (a60).length c62,.ext (ownX fBool 4 p14 c15 a13),.ext (optX o_stab_Table p19 cs20 a18),.ext (optX o_order_Log p22 cs23 a21),.ext (optX o_coord_Table p25 cs26 a24),.ext (arrX o_inbox_Box p29 cs30 a28),.ext (objX p34 (.map m35 c36)),.ext (objX p38 (.map m39 c40)),.ext (objX p45 (.map m46 c47)),.ext (optX o_gate_move p50 cs51 a49)] [Ro.mp fStr.ty p8 c9 a7.Cuts,Ro.mp (fInt .i64).ty p10 c11 a7.Nodes,ml p29 4,ml a31 4,ml a32 4,Map.mp (kInt .u64) false (fInt .i64).ty p34 m35 c36 a33,Map.mp (kInt .u64) true t_gate_call p38 m39 c40 a37,Ro.mp t_gate_call p42 c43 a41,Map.mp (kInt .u64) true t_gate_load p45 m46 c47 a44,Ro.mp (fInt .u64).ty p54 c55 a53,Ro.mp t_api_Mail p61 c62 a60,Ro.mp f_api_Ver.ty p68 c69 a67]∧True) ?_ ?_
 refine wp 4 [0,1,2,3,21] hF fun a hF=>?_
 refine bif_split hv77 (fun hb hv77=>?_) (fun hb hv77=>?_)
 have hF:=hF.boolv 21 (by kernel_rfl) hb
 refine wp 4 [0,1,2,3,25] hF fun a hF=>?_
 refine wpListIn_nil ?_
 cases hv77
 exact ⟨_,hF.kp [0,1,2,3,25],hS.sp (rg 12) (rg 12),trivial⟩
 have hF:=hF.boolv 21 (by kernel_rfl) hb
 refine wp 4 [0,1,2,3,25] hF fun a hF=>?_
 refine wpListIn_nil ?_
 cases hv77
 exact ⟨_,hF.kp [0,1,2,3,25],hS.sp (rg 12) (rg 12),trivial⟩
 rintro a w ⟨κ,hF,hS,-⟩
 refine hK75 _ _ ?_
 refine bif_split H (fun hb H=>?_) (fun hb H=>?_)
 refine cond_t hF (by kernel_rfl) hb ?_
 refine wpIn_seq_k fun K78 hK78=>?_
 refine wpIn_region_lit ?_
 refine wp 1 [8] hF fun a hF=>?_
 refine wpListIn_nil ?_
 refine hK78 _ _ ?_
 refine wpIn_ret ?_
 cases H
 exact ret_done hF hS (res1 Tryz.results17 (rvt hF)) ⟨p19,cs20,p22,cs23,p25,cs26,p34,m35,c36,p38,m39,c40,p42,c43,p50,cs51,p61,c62,cs30,rfl,hS.sp (rg 12) [5,6,7,10]⟩
 refine cond_f hF (by kernel_rfl) hb ?_
 refine wpIn_skip ?_
 refine hK74 _ _ ?_
 refine wpIn_seq_k fun K79 hK79=>?_
 refine bind_split H (fun x80 ho H=>?_)
 obtain ⟨b81,hpq,hS⟩:=hS.optS 4 rfl ho
 rw [hpq] at hS
 try rw [hpq] at hF
 obtain ⟨⟨p82,c83⟩,hS⟩:=hS.unfI (ck:=c_stab_Table) (fs:=q_stab_Table) 4 rfl
 refine wpIn_region_lit ?_
 refine wp 6 [0,3,26,27,28,31] hF fun a hF=>?_
 refine wc (wld hF hS 2 12 0 fun a hF=>?_)
 refine bind_split H (fun x84 hx84 H=>?_)
 refine wc (wcS 2 (rg 13) hF hS (fun hS=>C_stab_Table_Stable N (T_stab_Table.mk x80.dc x80.beats (T_vec_Vec.mk x80.got.Epoch x80.got.Has x80.got.T) (T_vec_Vec.mk x80.known.Epoch x80.known.Has x80.known.T) x80.stable) p82 c83 b81 (hS.sbK (rg 4)) hx84) ?_)
 rintro _ κ w a ⟨rfl,h2⟩ hF hB
 have hS:=hB _ _ h2
 refine wl_pure (L':=[(0,pt b64 0),(26,pt b64 0),(27,vi a65),(34,vu (if x84 > a66 then x84 else a66)),(35,.slice p68 (a67).length c69)]) 2 [0,26,27,34,35] hF (by kernel_rfl) fun a hF=>?_
 have hS:=hS.add (m:=Ro.mp f_api_Ver.ty none 0 ([]:List T_api_Ver)) (Ro.nil f_api_Ver.ty _ _)
 have hS:=hS.addNil 48 6
 refine bind_split H (fun x85 hx85 H=>?_)
 refine wc (wo_append (ty:=f_api_Ver.ty) hF hS (by kernel_rfl) 0 0 16 rfl rfl rfl (by kernel_rfl) (by kernel_rfl) rfl rfl rfl hx85 (by kernel_rfl) (i:=Tryz.t48) (z := .agg (flat [sg ByteArray.empty,sg ByteArray.empty,sb false,su 0,si 0,si 0]).toArray) (by kernel_rfl) (by kernel_rfl) (by kernel_rfl) fun p86 c87 κ a w hF hS=>?_)
 refine wp 1 [0,26,37] hF fun a hF=>?_
 refine bind_split H (fun x88 hx88 H=>?_)
 have hgx880:=hS.segs 3 rfl
 refine wc (wcS 7 [3,4,5,8,10,11,13,0,1,2,6,7,9,12] hF hS (fun hS=>C_gate_Gate_ask N a1 a5 a6 (T_api_Map.mk a7.Cuts a7.Nodes) a24 a27 a33 a37 a41 a48 a49 a60 (T_gate_call.mk a65 false ByteArray.empty (if x84 > a66 then x84 else a66) x85) (flat [(1,cs2),si a3,si a4]) p8 c9 p10 c11 (flat [(1,cs12),sl p14 (a13).length c15,(1,cs16),sb a17,(1,[pt b81 0]),(1,[.pointer (pa p22)])]) p25 cs26 (flat [(4,(encs fPtr p29)),ei 4 a31,ei 4 a32]) p34 m35 c36 p38 m39 c40 p42 c43 [.map p45] p50 cs51 (flat [(3,cs52),sl p54 (a53).length c55,su a56,sb a57,sb a58,sb a59]) p61 c62 cs63 p86 c87 b64 ((hS.regr 0 [(false,1),(true,3),(false,4),(true,6),(false,2),(true,3),(false,6),(true,6),(false,2)] rfl).sbK [6,7,11,12,13,16,0]) hx88) ?_)
 rintro _ κ w a ⟨p89,cs90,p91,m92,c93,p94,m95,c96,p97,c98,p99,cs100,p101,c102,rfl,h2⟩ hF hB
 have hS:=((hB _ _ h2).unregrK 0 [(false,1),(true,3),(false,4),(true,6),(false,2),(true,3),(false,6),(true,6),(false,2)] (s':=[si a1,(1,cs2),si a3,si a4,si a5,si x88.1,sl p8 (a7.Cuts).length c9,sl p10 (a7.Nodes).length c11,(1,cs12),sl p14 (a13).length c15,(1,cs16),sb a17,(1,[pt b81 0]),(1,[.pointer (pa p22)]),(1,[.pointer (pa p89)]),su x88.2.2.1,(4,(encs fPtr p29)),ei 4 a31,ei 4 a32,(1,[.map p91]),(1,[.map p94]),sl p97 (x88.2.2.2.2.2.1).length c98,(1,[.map p45]),su x88.2.2.2.2.2.2.1,(1,[.pointer (pa p99)]),(3,cs52),sl p54 (a53).length c55,su a56,sb a57,sb a58,sb a59,sl p101 (x88.2.2.2.2.2.2.2.2).length c102,(1,cs63)]) hgx880 rfl).cC (C':=[.box b64 87 [si a1,(1,cs2),si a3,si a4,si a5,si x88.1,sl p8 (a7.Cuts).length c9,sl p10 (a7.Nodes).length c11,(1,cs12),sl p14 (a13).length c15,(1,cs16),sb a17,(1,[pt b81 0]),(1,[.pointer (pa p22)]),(1,[.pointer (pa p89)]),su x88.2.2.1,(4,(encs fPtr p29)),ei 4 a31,ei 4 a32,(1,[.map p91]),(1,[.map p94]),sl p97 (x88.2.2.2.2.2.1).length c98,(1,[.map p45]),su x88.2.2.2.2.2.2.1,(1,[.pointer (pa p99)]),(3,cs52),sl p54 (a53).length c55,su a56,sb a57,sb a58,sb a59,sl p101 (x88.2.2.2.2.2.2.2.2).length c102,(1,cs63)],.tok p97 95 5 (x88.2.2.2.2.2.1).length c98,.tok p101 61 15 (x88.2.2.2.2.2.2.2.2).length c102,.ext (optX o_coord_Table p89 cs90 x88.2.1),.ext (objX p91 (.map m92 c93)),.ext (objX p94 (.map m95 c96)),.ext (optX o_gate_move p99 cs100 x88.2.2.2.2.2.2.2.1),.tok p86 48 6 (x85).length c87,.box b81 109 [si x80.dc,sl p82 (x80.beats).length c83,si x80.got.Epoch,eb 4 x80.got.Has,(4,(encs (fInt .u64) x80.got.T)),si x80.known.Epoch,eb 4 x80.known.Has,(4,(encs (fInt .u64) x80.known.T)),su x80.stable],.ext (ownX (fInt .u64) 32 p82 c83 x80.beats),.ext (ownX fBool 4 p14 c15 a13),.ext (optX o_order_Log p22 cs23 a21),.ext (arrX o_inbox_Box p29 cs30 a28),.ext (objX p45 (.map m46 c47))])
 refine wpListIn_nil ?_
 obtain ⟨cs103,hS⟩:=hS.foldI (ck:=c_stab_Table) (fs:=q_stab_Table) b81 (p82,c83) x80 [8,9] [0,1,2,3,4,5,6,7,10,11,12,13] [6,7,8,9] (by decide) (by kernel_rfl) (by kernel_rfl)
 refine hK79 _ _ ?_
 refine wpIn_seq_k fun K104 hK104=>?_
 refine wpIn_region_lit ?_
 refine wp 1 [39] hF fun a hF=>?_
 refine bind_split H (fun x105 hx105 H=>?_)
 have hgx1050:=hS.segs 1 rfl
 refine wc (wcS 10 [1,3,9,0,10,4,11,6,12,7,2,5,8] hF hS (fun hS=>C_gate_Gate_work N a1 a3 a4 (T_api_Map.mk a7.Cuts a7.Nodes) a13 a17 (some x80) a21 x88.2.1 x88.2.2.1 a28 a31 a32 x88.2.2.2.2.1 x88.2.2.2.2.2.1 a44 x88.2.2.2.2.2.2.1 x88.2.2.2.2.2.2.2.1 a53 a56 a57 a58 a59 x88.2.2.2.2.2.2.2.2 cs2 (flat [si a5,si x88.1]) p8 c9 p10 c11 cs12 p14 c15 cs16 (some b81) cs103 p22 cs23 p89 cs90 p29 cs30 [.map p91] p94 m95 c96 p97 c98 p45 m46 c47 p99 cs100 cs52 p54 c55 p101 c102 cs63 b64 ((hS.regr 0 [(false,4),(true,2),(false,27)] rfl).sbK [10,11,12,13,14,1,2,18,19,3]) hx105) ?_)
 rintro _ κ w a ⟨p106,cs107,p108,cs109,p110,cs111,p112,cs113,p114,c115,cs116,rfl,h2⟩ hF hB
 have hS:=(hB _ _ h2).unregrK 0 [(false,4),(true,2),(false,27)] (s':=[si a1,(1,cs2),si a3,si a4,si a5,si x88.1,sl p8 (a7.Cuts).length c9,sl p10 (a7.Nodes).length c11,(1,cs12),sl p14 (a13).length c15,(1,cs16),sb a17,(1,[.pointer (pa p106)]),(1,[.pointer (pa p108)]),(1,[.pointer (pa p110)]),su x88.2.2.1,(4,(encs fPtr p29)),ei 4 a31,ei 4 a32,(1,[.map p91]),(1,[.map p94]),sl p97 (x88.2.2.2.2.2.1).length c98,(1,[.map p45]),su x88.2.2.2.2.2.2.1,(1,[.pointer (pa p112)]),(3,cs52),sl p54 (a53).length c55,su a56,sb a57,sb a58,sb a59,sl p114 (x105.2.2.2.2).length c115,(1,cs63)]) hgx1050 rfl
 refine wpListIn_nil ?_
 refine hK104 _ _ ?_
 refine wpIn_seq_k fun K117 hK117=>?_
 refine wpIn_region_lit ?_
 refine wp 1 [8] hF fun a hF=>?_
 refine wpListIn_nil ?_
 refine hK117 _ _ ?_
 refine wpIn_ret ?_
 cases H
 exact ret_done hF hS (res1 Tryz.results17 (rvt hF)) ⟨p106,cs107,p108,cs109,p110,cs111,p91,m92,c93,p94,m95,c96,p97,c98,p112,cs113,p114,c115,cs116,rfl,hS.sp [0,10,1,2,3,4,5,6,11,7,8,9] [1,2,3,0]⟩
end Go.Cf
