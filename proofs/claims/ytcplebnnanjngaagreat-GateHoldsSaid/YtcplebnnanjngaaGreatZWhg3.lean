/- The walks: each function returns what its model says. Printed by a program of ours. -/
import Derived.Test.YtcplebnnanjngaaGreatZM1
import Derived.Test.YtcplebnnanjngaaGreatZWhp
import Derived.Test.YtcplebnnanjngaaGreatZWhc
import Derived.Test.YtcplebnnanjngaaGreatZWhg1
namespace Go.Cf
open Go Go.Proofs
set_option linter.unusedVariables false
set_option maxRecDepth 20000 in
set_option maxHeartbeats 8000000 in
theorem C_gate_Gate_ask_1 (N:Nat){Ms:List Nat}{κ0:Gh}{w0:World}(a1:T_api_Ver)(a3:(Option T_gate_move))(cs2:List Value)(p4:Option Nat)(cs5:List Nat)(cs6:List Value)(b7:Nat)(b8:Nat)(hB:SB Ms κ0 w0 [.box b7 87 [(33,cs2),(1,[.pointer (pa p4)]),(10,cs6)],.ext (optX o_gate_move p4 cs5 a3),.box b8 24 [(1,[pt b7 0])]] []){r:(Bool×(Option T_gate_move))}(H:M.gate_Gate_ask_1 N a1 a3=some r) :
    Calls Tryz.prog 85 #[.agg (flat [sg a1.Key,sg a1.Val,sb a1.Gone,su a1.TS,si a1.DC,si a1.Tx]).toArray,pt b8 0] w0 (Post Ms κ0 w0 fun v κ w => ∃(p15:Option Nat) (cs16:List Nat),v=vb r.1∧SS Ms κ0 w0 κ w [.box b7 87 [(33,cs2),(1,[.pointer (pa p15)]),(10,cs6)],.ext (optX o_gate_move p15 cs16 r.2),.box b8 24 [(1,[pt b7 0])]] []):=by
 have hS:=hB.hS
 have hfr:=hS.fresh
 refine enter (N:=(8)) (L:=[(0,.agg (flat [sg a1.Key,sg a1.Val,sb a1.Gone,su a1.TS,si a1.DC,si a1.Tx]).toArray),(1,pt b8 0)]) Tryz.func85 rfl Tryz.ntmps85 (show 2≤(8) by decide) rfl fun a hF=>?_
 unfold M.gate_Gate_ask_1 at H
 refine wpIn_seq_k fun K9 hK9=>?_
 refine wpIn_region_lit ?_
 refine wc (wbx hF hS [sg a1.Key,sg a1.Val,sb a1.Gone,su a1.TS,si a1.DC,si a1.Tx] (sgN 6 sgNil) fun b10 a w hF hS=>?_)
 refine wp 1 [1,2] hF fun a hF=>?_
 refine wpListIn_nil ?_
 refine hK9 _ _ ?_
 refine wpIn_seq_k fun K11 hK11=>?_
 refine wpIn_region_lit ?_
 refine wc (wld hF hS 3 0 0 fun a hF=>?_)
 refine wp 1 [4,5] hF fun a hF=>?_
 refine wc (wld hF hS 0 0 0 fun a hF=>?_)
 refine bind_split H (fun x12 hx12 H=>?_)
 refine wc (wcS 2 [1,2,0,3] hF hS (fun hS=>C_gate_Gate_moving N a3 a1.Key cs2 p4 cs5 cs6 b7 (hS.sbK []) hx12) ?_)
 rintro _ κ w a ⟨p13,cs14,rfl,h2⟩ hF hB
 have hS:=hB _ _ h2
 refine wp 1 [3] hF fun a hF=>?_
 refine wpListIn_nil ?_
 refine hK11 _ _ ?_
 refine wpIn_ret ?_
 cases H
 exact ret_done hF hS (res1 Tryz.results85 (rvt hF)) ⟨p13,cs14,rfl,hS.sp [0,1,3] []⟩
set_option maxRecDepth 20000 in
set_option maxHeartbeats 8000000 in
theorem C_slices_IndexFunc___api_Ver_api_Ver__c85 (N:Nat){Ms:List Nat}{κ0:Gh}{w0:World}(a1:(List T_api_Ver))(a5:(Option T_gate_move))(p2:Option Addr)(c3:Nat)(cs4:List Value)(p6:Option Nat)(cs7:List Nat)(cs8:List Value)(b9:Nat)(b10:Nat)(hB:SB Ms κ0 w0 [.box b9 87 [(33,cs4),(1,[.pointer (pa p6)]),(10,cs8)],.ext (optX o_gate_move p6 cs7 a5),.box b10 24 [(1,[pt b9 0])]] [Ro.mp f_api_Ver.ty p2 c3 a1]){r:(Int×(Option T_gate_move))}(H:M.slices_IndexFunc___api_Ver_api_Ver__c85 N a1 a5=some r) :
    Calls Tryz.prog 116 #[.slice p2 (a1).length c3,.func (.func 85) #[] #[pt b10 0]] w0 (Post Ms κ0 w0 fun v κ w => ∃(p81:Option Nat) (cs82:List Nat),v=vi r.1∧SS Ms κ0 w0 κ w [.box b9 87 [(33,cs4),(1,[.pointer (pa p81)]),(10,cs8)],.ext (optX o_gate_move p81 cs82 r.2),.box b10 24 [(1,[pt b9 0])]] []):=by
 have hS:=hB.hS
 have hfr:=hS.fresh
 refine enter (N:=(19)) (L:=[(0,.slice p2 (a1).length c3),(1,.func (.func 85) #[] #[pt b10 0])]) Tryz.func116 rfl Tryz.ntmps116 (show 2≤(19) by decide) rfl fun a hF=>?_
 unfold M.slices_IndexFunc___api_Ver_api_Ver__c85 at H
 refine wpIn_seq_k fun K11 hK11=>?_
 refine wpIn_region_lit ?_
 refine wp 1 [0,1] hF fun a hF=>?_
 refine wpListIn_nil ?_
 refine hK11 _ _ ?_
 refine wpIn_seq_k fun K12 hK12=>?_
 refine wpIn_seq_k fun K13 hK13=>?_
 refine wpIn_region_lit ?_
 refine wp 3 [0,1,7,8] hF fun a hF=>?_
 refine wpListIn_nil ?_
 refine hK13 _ _ ?_
 refine wpIn_block ?_
 refine loop_fuel (n:=N) (fun n a w => ∃(κ:Gh) (p64:Option Nat) (cs65:List Nat) (y66:Option T_gate_move) (y67:Int),Fr (19) [] [(0,.slice p2 (a1).length c3),(1,.func (.func 85) #[] #[pt b10 0]),(7,vi ((a1).length:Int)),(8,vi y67)] a∧SS Ms κ0 w0 κ w [.box b9 87 [(33,cs4),(1,[.pointer (pa p64)]),(10,cs8)],.box b10 24 [(1,[pt b9 0])],.ext (optX o_gate_move p64 cs65 y66)] [Ro.mp f_api_Ver.ty p2 c3 a1]∧M.slices_IndexFunc___api_Ver_api_Ver__c85_L1 N n a1 y66 y67=some r) ?_ ?_
 exact ⟨_,p6,cs7,a5,0,hF.kp [0,1,7,8],hS.sp [0,2,1] [0],H⟩
 rintro n a w ⟨κ,p64,cs65,y66,y67,hF,hS,H⟩
 rcases n with _|fuel1
 simp [M.slices_IndexFunc___api_Ver_api_Ver__c85_L1] at H
 simp only [M.slices_IndexFunc___api_Ver_api_Ver__c85_L1] at H
 refine wpIn_seq_k fun K68 hK68=>?_
 refine wpIn_region_lit ?_
 refine wp 1 [0,1,7,8,9] hF fun a hF=>?_
 refine wpListIn_nil ?_
 refine hK68 _ _ ?_
 refine wpIn_seq_k fun K69 hK69=>?_
 refine bif_split H (fun hb H=>?_) (fun hb H=>?_)
 refine cond_t hF (by kernel_rfl) hb ?_
 refine wpIn_skip ?_
 refine hK69 _ _ ?_
 refine wpIn_seq_k fun K70 hK70=>?_
 refine wpIn_block ?_
 refine wpIn_seq_k fun K71 hK71=>?_
 refine wpIn_region_lit ?_
 refine wp 2 [0,1,5,7,8] hF fun a hF=>?_
 refine wpListIn_nil ?_
 refine hK71 _ _ ?_
 refine wpIn_seq_k fun K72 hK72=>?_
 refine wpIn_region_lit ?_
 refine wl_pure (L':=[(0,.slice p2 (a1).length c3),(1,.func (.func 85) #[] #[pt b10 0]),(5,vi y67),(7,vi ((a1).length:Int)),(8,vi y67),(11,.func (.func 85) #[] #[pt b10 0]),(12,.slice p2 (a1).length c3),(13,vi y67)]) 3 [0,1,5,7,8,11,12,13] hF (by kernel_rfl) fun a hF=>?_
 refine bind_split H (fun x73 hx73 H=>?_)
 refine wc (wo_index hF hS (by kernel_rfl) 0 (E:=48) (sz:=6) rfl rfl rfl (by kernel_rfl) rfl hx73 (by kernel_rfl) (by kernel_rfl) fun b74 f75 a hpx73 hF=>?_)
 refine wc (wo_loadRoAgg (t:=f_api_Ver) hF hS (by kernel_rfl) 0 rfl rfl hpx73 rfl hx73 (by kernel_rfl) (by kernel_rfl) (by kernel_rfl) fun a hF=>?_)
 refine bind_split H (fun x76 hx76 H=>?_)
 refine wc (wcS 3 [0,2,1] hF hS (fun hS=>C_gate_Gate_ask_1 N (T_api_Ver.mk x73.Key x73.Val x73.Gone x73.TS x73.DC x73.Tx) y66 cs4 p64 cs65 cs8 b9 b10 (hS.sbK []) hx76) ?_)
 rintro _ κ w a ⟨p77,cs78,rfl,h2⟩ hF hB
 have hS:=hB _ _ h2
 refine wpListIn_nil ?_
 refine hK72 _ _ ?_
 refine bif_split H (fun hb H=>?_) (fun hb H=>?_)
 refine cond_t hF (by kernel_rfl) hb ?_
 refine wpIn_seq_k fun K79 hK79=>?_
 refine wpIn_region_lit ?_
 refine wp 2 [4] hF fun a hF=>?_
 refine wpListIn_nil ?_
 refine hK79 _ _ ?_
 refine wpIn_ret ?_
 cases H
 exact ret_done hF hS (res1 Tryz.results116 (rvt hF)) ⟨p77,cs78,rfl,hS.sp [0,1,2] []⟩
 refine cond_f hF (by kernel_rfl) hb ?_
 refine wpIn_skip ?_
 refine hK70 _ _ ?_
 refine wpIn_region_lit ?_
 refine wp 2 [0,1,7,8] hF fun a hF=>?_
 refine wpListIn_nil ?_
 exact ⟨fuel1,Nat.lt_succ_self _,_,p77,cs78,x76.2,IntKind.i64.wrap (y67+1),hF.kp [0,1,7,8],hS.sp [0,2,1] [0],H⟩
 refine cond_f hF (by kernel_rfl) hb ?_
 refine wpIn_exit ?_
 refine hK12 _ _ ?_
 refine wpIn_seq_k fun K80 hK80=>?_
 refine wpIn_region_lit ?_
 refine wp 1 [4] hF fun a hF=>?_
 refine wpListIn_nil ?_
 refine hK80 _ _ ?_
 refine wpIn_ret ?_
 cases H
 exact ret_done hF hS (res1 Tryz.results116 (rvt hF)) ⟨p64,cs65,rfl,hS.sp [0,2,1] []⟩
set_option maxRecDepth 20000 in
set_option maxHeartbeats 8000000 in
theorem C_slices_ContainsFunc___api_Ver_api_Ver__c85 (N:Nat){Ms:List Nat}{κ0:Gh}{w0:World}(a1:(List T_api_Ver))(a5:(Option T_gate_move))(p2:Option Addr)(c3:Nat)(cs4:List Value)(p6:Option Nat)(cs7:List Nat)(cs8:List Value)(b9:Nat)(b10:Nat)(hB:SB Ms κ0 w0 [.box b9 87 [(33,cs4),(1,[.pointer (pa p6)]),(10,cs8)],.ext (optX o_gate_move p6 cs7 a5),.box b10 24 [(1,[pt b9 0])]] [Ro.mp f_api_Ver.ty p2 c3 a1]){r:(Bool×(Option T_gate_move))}(H:M.slices_ContainsFunc___api_Ver_api_Ver__c85 N a1 a5=some r) :
    Calls Tryz.prog 84 #[.slice p2 (a1).length c3,.func (.func 85) #[] #[pt b10 0]] w0 (Post Ms κ0 w0 fun v κ w => ∃(p16:Option Nat) (cs17:List Nat),v=vb r.1∧SS Ms κ0 w0 κ w [.box b9 87 [(33,cs4),(1,[.pointer (pa p16)]),(10,cs8)],.ext (optX o_gate_move p16 cs17 r.2),.box b10 24 [(1,[pt b9 0])]] []):=by
 have hS:=hB.hS
 have hfr:=hS.fresh
 refine enter (N:=(9)) (L:=[(0,.slice p2 (a1).length c3),(1,.func (.func 85) #[] #[pt b10 0])]) Tryz.func84 rfl Tryz.ntmps84 (show 2≤(9) by decide) rfl fun a hF=>?_
 unfold M.slices_ContainsFunc___api_Ver_api_Ver__c85 at H
 refine wpIn_seq_k fun K11 hK11=>?_
 refine wpIn_region_lit ?_
 refine wp 1 [0,1] hF fun a hF=>?_
 refine wpListIn_nil ?_
 refine hK11 _ _ ?_
 refine wpIn_seq_k fun K12 hK12=>?_
 refine wpIn_region_lit ?_
 refine wp 2 [5,6] hF fun a hF=>?_
 refine bind_split H (fun x13 hx13 H=>?_)
 refine wc (wcS 3 [0,1,2] hF hS (fun hS=>C_slices_IndexFunc___api_Ver_api_Ver__c85 N a1 a5 p2 c3 cs4 p6 cs7 cs8 b9 b10 (hS.sbK [0]) hx13) ?_)
 rintro _ κ w a ⟨p14,cs15,rfl,h2⟩ hF hB
 have hS:=hB _ _ h2
 refine wp 2 [4] hF fun a hF=>?_
 refine wpListIn_nil ?_
 refine hK12 _ _ ?_
 refine wpIn_ret ?_
 cases H
 exact ret_done hF hS (res1 Tryz.results84 (rvt hF)) ⟨p14,cs15,rfl,hS.sp [0,1,2] []⟩
set_option maxRecDepth 20000 in
set_option maxHeartbeats 8000000 in
theorem C_gate_Gate_ask (N:Nat){Ms:List Nat}{κ0:Gh}{w0:World}(a1:Int)(a3:Int)(a4:Int)(a5:T_api_Map)(a11:(Option T_coord_Table))(a14:Int)(a16:(Mp Int Int))(a20:(Mp Int T_gate_call))(a24:(List T_gate_call))(a28:Int)(a29:(Option T_gate_move))(a33:(List T_api_Mail))(a38:T_gate_call)(cs2:List Value)(p6:Option Addr)(c7:Nat)(p8:Option Addr)(c9:Nat)(cs10:List Value)(p12:Option Nat)(cs13:List Nat)(cs15:List Value)(p17:Option Nat)(m18:Array MapEntry)(c19:Nat)(p21:Option Nat)(m22:Array MapEntry)(c23:Nat)(p25:Option Addr)(c26:Nat)(cs27:List Value)(p30:Option Nat)(cs31:List Nat)(cs32:List Value)(p34:Option Addr)(c35:Nat)(cs36:List Value)(p39:Option Addr)(c40:Nat)(b37:Nat)(hB:SB Ms κ0 w0 [.box b37 87 [si a1,(3,cs2),si a3,si a4,sl p6 (a5.Cuts).length c7,sl p8 (a5.Nodes).length c9,(6,cs10),(1,[.pointer (pa p12)]),su a14,(12,cs15),(1,[.map p17]),(1,[.map p21]),sl p25 (a24).length c26,(1,cs27),su a28,(1,[.pointer (pa p30)]),(8,cs32),sl p34 (a33).length c35,(1,cs36)],.tok p25 95 5 (a24).length c26,.tok p34 61 15 (a33).length c35,.ext (optX o_coord_Table p12 cs13 a11),.ext (objX p17 (.map m18 c19)),.ext (objX p21 (.map m22 c23)),.ext (optX o_gate_move p30 cs31 a29)] [Ro.mp fStr.ty p6 c7 a5.Cuts,Ro.mp (fInt .i64).ty p8 c9 a5.Nodes,Map.mp (kInt .u64) false (fInt .i64).ty p17 m18 c19 a16,Map.mp (kInt .u64) true t_gate_call p21 m22 c23 a20,Ro.mp t_gate_call p25 c26 a24,Ro.mp t_api_Mail p34 c35 a33,Ro.mp f_api_Ver.ty p39 c40 a38.writes]){r:(Int×(Option T_coord_Table)×Int×(Mp Int Int)×(Mp Int T_gate_call)×(List T_gate_call)×Int×(Option T_gate_move)×(List T_api_Mail))}(H:M.gate_Gate_ask N a1 a3 a4 a5 a11 a14 a16 a20 a24 a28 a29 a33 a38=some r) :
    Calls Tryz.prog 35 #[pt b37 0,.agg (flat [si a38.id,sb a38.read,sg a38.key,su a38.at_,sl p39 (a38.writes).length c40]).toArray] w0 (Post Ms κ0 w0 fun v κ w => ∃(p171:Option Nat) (cs172:List Nat) (p173:Option Nat) (m174:Array MapEntry) (c175:Nat) (p176:Option Nat) (m177:Array MapEntry) (c178:Nat) (p179:Option Addr) (c180:Nat) (p181:Option Nat) (cs182:List Nat) (p183:Option Addr) (c184:Nat),v = .tuple #[]∧SS Ms κ0 w0 κ w [.box b37 87 [si a1,(3,cs2),si a3,si r.1,sl p6 (a5.Cuts).length c7,sl p8 (a5.Nodes).length c9,(6,cs10),(1,[.pointer (pa p171)]),su r.2.2.1,(12,cs15),(1,[.map p173]),(1,[.map p176]),sl p179 (r.2.2.2.2.2.1).length c180,(1,cs27),su r.2.2.2.2.2.2.1,(1,[.pointer (pa p181)]),(8,cs32),sl p183 (r.2.2.2.2.2.2.2.2).length c184,(1,cs36)],.tok p179 95 5 (r.2.2.2.2.2.1).length c180,.tok p183 61 15 (r.2.2.2.2.2.2.2.2).length c184,.ext (optX o_coord_Table p171 cs172 r.2.1),.ext (objX p173 (.map m174 c175)),.ext (objX p176 (.map m177 c178)),.ext (optX o_gate_move p181 cs182 r.2.2.2.2.2.2.2.1)] [Map.mp (kInt .u64) false (fInt .i64).ty p173 m174 c175 r.2.2.2.1,Map.mp (kInt .u64) true t_gate_call p176 m177 c178 r.2.2.2.2.1,Ro.mp t_gate_call p179 c180 r.2.2.2.2.2.1,Ro.mp t_api_Mail p183 c184 r.2.2.2.2.2.2.2.2]):=by
 have hS:=hB.hS
 have hfr:=hS.fresh
 refine enter (N:=(137)) (L:=[(0,pt b37 0),(1,.agg (flat [si a38.id,sb a38.read,sg a38.key,su a38.at_,sl p39 (a38.writes).length c40]).toArray)]) Tryz.func35 rfl Tryz.ntmps35 (show 2≤(137) by decide) rfl fun a hF=>?_
 unfold M.gate_Gate_ask at H
 refine wpIn_seq_k fun K41 hK41=>?_
 refine wpIn_region_lit ?_
 refine wc (wbx hF hS [(1,[pt b37 0])] (sgN 1 sgNil) fun b42 a w hF hS=>?_)
 refine wc (wbx hF hS [si a38.id,sb a38.read,sg a38.key,su a38.at_,sl p39 (a38.writes).length c40] (sgN 5 sgNil) fun b43 a w hF hS=>?_)
 refine wpListIn_nil ?_
 refine hK41 _ _ ?_
 refine wpIn_seq_k fun K44 hK44=>?_
 refine wpIn_seq_k fun K45 hK45=>?_
 refine wpIn_region_lit ?_
 refine bind_split H (fun v50 hv50 H=>?_)
 refine wl_join (fun a w => ∃(κ:Gh) (p46:Option Nat) (cs47:List Nat),Fr (137) [] [(2,pt b42 0),(3,pt b43 0),(21,vb v50.2)] a∧SS Ms κ0 w0 κ w [.box b37 87 [si a1,(3,cs2),si a3,si a4,sl p6 (a5.Cuts).length c7,sl p8 (a5.Nodes).length c9,(6,cs10),(1,[.pointer (pa p12)]),su a14,(12,cs15),(1,[.map p17]),(1,[.map p21]),sl p25 (a24).length c26,(1,cs27),su a28,(1,[.pointer (pa p46)]),(8,cs32),sl p34 (a33).length c35,(1,cs36)],.box b43 95 [si a38.id,sb a38.read,sg a38.key,su a38.at_,sl p39 (a38.writes).length c40],.box b42 24 [(1,[pt b37 0])],.tok p25 95 5 (a24).length c26,.tok p34 61 15 (a33).length c35,.ext (optX o_coord_Table p12 cs13 a11),.ext (objX p17 (.map m18 c19)),.ext (objX p21 (.map m22 c23)),.ext (optX o_gate_move p46 cs47 v50.1)] [Ro.mp fStr.ty p6 c7 a5.Cuts,Ro.mp (fInt .i64).ty p8 c9 a5.Nodes,Map.mp (kInt .u64) false (fInt .i64).ty p17 m18 c19 a16,Map.mp (kInt .u64) true t_gate_call p21 m22 c23 a20,Ro.mp t_gate_call p25 c26 a24,Ro.mp t_api_Mail p34 c35 a33,Ro.mp f_api_Ver.ty p39 c40 a38.writes]∧True) ?_ ?_
 refine wp 1 [2,3,8] hF fun a hF=>?_
 refine wc (wld hF hS 0 1 0 fun a hF=>?_)
 refine wp 1 [2,3,10] hF fun a hF=>?_
 refine bif_split hv50 (fun hb hv50=>?_) (fun hb hv50=>?_)
 have hF:=hF.boolv 10 (by kernel_rfl) hb
 refine wcg hF (wld hF hS 1 0 0 fun a hF=>?_)
 refine wp 1 [2,3,10,11,12] hF fun a hF=>?_
 refine wcg hF (wld hF hS 0 2 0 fun a hF=>?_)
 refine bind_split hv50 (fun x51 hx51 hv50=>?_)
 have hgx510:=hS.segs 2 rfl
 refine wcg hF (wcS 2 [2,8,0,1,3,4,5,6,7] hF hS (fun hS=>C_gate_Gate_moving N a29 a38.key (flat [si a1,(3,cs2),si a3,si a4,sl p6 (a5.Cuts).length c7,sl p8 (a5.Nodes).length c9,(6,cs10),(1,[.pointer (pa p12)]),su a14,(12,cs15),(1,[.map p17]),(1,[.map p21]),sl p25 (a24).length c26,(1,cs27),su a28]) p30 cs31 (flat [(8,cs32),sl p34 (a33).length c35,(1,cs36)]) b37 ((hS.regr 0 [(true,15),(false,1),(true,3)] rfl).sbK []) hx51) ?_)
 rintro _ κ w a ⟨p52,cs53,rfl,h2⟩ hF hB
 have hS:=(hB _ _ h2).unregrK 0 [(true,15),(false,1),(true,3)] (s':=[si a1,(3,cs2),si a3,si a4,sl p6 (a5.Cuts).length c7,sl p8 (a5.Nodes).length c9,(6,cs10),(1,[.pointer (pa p12)]),su a14,(12,cs15),(1,[.map p17]),(1,[.map p21]),sl p25 (a24).length c26,(1,cs27),su a28,(1,[.pointer (pa p52)]),(8,cs32),sl p34 (a33).length c35,(1,cs36)]) hgx510 rfl
 refine wp 2 [2,3,16] hF fun a hF=>?_
 refine bif_split hv50 (fun hb hv50=>?_) (fun hb hv50=>?_)
 have hF:=hF.boolv 16 (by kernel_rfl) hb
 refine wp 5 [2,3,21] hF fun a hF=>?_
 refine wpListIn_nil ?_
 cases hv50
 exact ⟨_,p52,cs53,hF.kp [2,3,21],hS.sp [0,2,3,4,5,6,7,8,1] (rg 7),trivial⟩
 have hF:=hF.boolv 16 (by kernel_rfl) hb
 refine wl_pure (L':=[(2,pt b42 0),(3,pt b43 0),(16,vb false),(17,pt b43 4)]) 1 [2,3,16,17] hF (by kernel_rfl) fun a hF=>?_
 refine wcg hF (wld hF hS 2 4 0 fun a hF=>?_)
 refine wcg hF (wo_val hF (by kernel_rfl) (v := .func (.func 85) #[] #[pt b42 0]) (val_makeFunc (T':=0) (caps := #[pt b42 0]) rfl (by kernel_rfl) _) fun a hF=>?_)
 refine bind_split hv50 (fun x54 hx54 hv50=>?_)
 have hgx540:=hS.segs 0 rfl
 refine wcg hF (wcS 3 [0,1,3,2,4,5,6,7,8] hF hS (fun hS=>C_slices_ContainsFunc___api_Ver_api_Ver__c85 N a38.writes x51.2 p39 c40 (flat [si a1,(3,cs2),si a3,si a4,sl p6 (a5.Cuts).length c7,sl p8 (a5.Nodes).length c9,(6,cs10),(1,[.pointer (pa p12)]),su a14,(12,cs15),(1,[.map p17]),(1,[.map p21]),sl p25 (a24).length c26,(1,cs27),su a28]) p52 cs53 (flat [(8,cs32),sl p34 (a33).length c35,(1,cs36)]) b37 b42 ((hS.regr 0 [(true,15),(false,1),(true,3)] rfl).sbK [6]) hx54) ?_)
 rintro _ κ w a ⟨p55,cs56,rfl,h2⟩ hF hB
 have hS:=((hB _ _ h2).unregrK 0 [(true,15),(false,1),(true,3)] (s':=[si a1,(3,cs2),si a3,si a4,sl p6 (a5.Cuts).length c7,sl p8 (a5.Nodes).length c9,(6,cs10),(1,[.pointer (pa p12)]),su a14,(12,cs15),(1,[.map p17]),(1,[.map p21]),sl p25 (a24).length c26,(1,cs27),su a28,(1,[.pointer (pa p55)]),(8,cs32),sl p34 (a33).length c35,(1,cs36)]) hgx540 rfl).cC (C':=[.box b37 87 [si a1,(3,cs2),si a3,si a4,sl p6 (a5.Cuts).length c7,sl p8 (a5.Nodes).length c9,(6,cs10),(1,[.pointer (pa p12)]),su a14,(12,cs15),(1,[.map p17]),(1,[.map p21]),sl p25 (a24).length c26,(1,cs27),su a28,(1,[.pointer (pa p55)]),(8,cs32),sl p34 (a33).length c35,(1,cs36)],.ext (optX o_gate_move p55 cs56 x54.2),.box b42 24 [(1,[pt b37 0])],.box b43 95 [si a38.id,sb a38.read,sg a38.key,su a38.at_,sl p39 (a38.writes).length c40],.tok p25 95 5 (a24).length c26,.tok p34 61 15 (a33).length c35,.ext (optX o_coord_Table p12 cs13 a11),.ext (objX p17 (.map m18 c19)),.ext (objX p21 (.map m22 c23))])
 refine wp 1 [2,3,21] hF fun a hF=>?_
 refine wpListIn_nil ?_
 cases hv50
 exact ⟨_,p55,cs56,hF.kp [2,3,21],hS.sp [0,3,2,4,5,6,7,8,1] (rg 7),trivial⟩
 have hF:=hF.boolv 10 (by kernel_rfl) hb
 refine wl_pure (L':=[(2,pt b42 0),(3,pt b43 0),(16,vb false),(17,pt b43 4)]) 7 [2,3,16,17] hF (by kernel_rfl) fun a hF=>?_
 refine wcg hF (wld hF hS 0 4 0 fun a hF=>?_)
 refine wcg hF (wo_val hF (by kernel_rfl) (v := .func (.func 85) #[] #[pt b42 0]) (val_makeFunc (T':=0) (caps := #[pt b42 0]) rfl (by kernel_rfl) _) fun a hF=>?_)
 refine bind_split hv50 (fun x57 hx57 hv50=>?_)
 have hgx570:=hS.segs 2 rfl
 refine wcg hF (wcS 3 [2,8,1,0,3,4,5,6,7] hF hS (fun hS=>C_slices_ContainsFunc___api_Ver_api_Ver__c85 N a38.writes a29 p39 c40 (flat [si a1,(3,cs2),si a3,si a4,sl p6 (a5.Cuts).length c7,sl p8 (a5.Nodes).length c9,(6,cs10),(1,[.pointer (pa p12)]),su a14,(12,cs15),(1,[.map p17]),(1,[.map p21]),sl p25 (a24).length c26,(1,cs27),su a28]) p30 cs31 (flat [(8,cs32),sl p34 (a33).length c35,(1,cs36)]) b37 b42 ((hS.regr 0 [(true,15),(false,1),(true,3)] rfl).sbK [6]) hx57) ?_)
 rintro _ κ w a ⟨p58,cs59,rfl,h2⟩ hF hB
 have hS:=(hB _ _ h2).unregrK 0 [(true,15),(false,1),(true,3)] (s':=[si a1,(3,cs2),si a3,si a4,sl p6 (a5.Cuts).length c7,sl p8 (a5.Nodes).length c9,(6,cs10),(1,[.pointer (pa p12)]),su a14,(12,cs15),(1,[.map p17]),(1,[.map p21]),sl p25 (a24).length c26,(1,cs27),su a28,(1,[.pointer (pa p58)]),(8,cs32),sl p34 (a33).length c35,(1,cs36)]) hgx570 rfl
 refine wp 1 [2,3,21] hF fun a hF=>?_
 refine wpListIn_nil ?_
 cases hv50
 exact ⟨_,p58,cs59,hF.kp [2,3,21],hS.sp [0,3,2,4,5,6,7,8,1] (rg 7),trivial⟩
 rintro a w ⟨κ,p46,cs47,hF,hS,-⟩
 refine hK45 _ _ ?_
 refine bif_split H (fun hb H=>?_) (fun hb H=>?_)
 refine cond_t hF (by kernel_rfl) hb ?_
 refine wpIn_seq_k fun K60 hK60=>?_
 refine rgS hS [10] ?_
 have hS:=hS.drew
 refine bind_split H (fun x62 hx62 H=>?_)
 refine atk 0 (some 22) hF (hS.sx [0,1,2,5,6,7,8] (rg 7)) rfl (vld 2 0 0) fun a hF=>?_
 refine atk 1 (some 23) hF (hS.sx [0,1,2,5,6,7,8] (rg 7)) rfl (vld 2 0 0) fun a hF=>?_
 refine any_pure [2,3] [3,22,25] (L':=[(3,pt b43 0),(22,pt b37 0),(25,pt b37 30)]) (listed':=(bitA 11 15)) (fuel:=7) hF (hS.sx [0,1,2,5,6,7,8] (rg 7)) (by kernel_rfl) (by intro c a w t v h; cases t<;>exact h) (by kernel_rfl) rfl fun a hF=>?_
 refine atk 4 (some 26) hF (hS.sx [0,1,2,5,6,7,8] (rg 7)) rfl (vld 0 12 0) fun a hF=>?_
 refine atk 5 (some 27) hF (hS.sx [0,1,2,5,6,7,8] (rg 7)) rfl (vls 1 0 5) fun a hF=>?_
 refine ago 6 hF rfl ?_
 refine wo_build1 (t:=t_gate_call) (y:=(T_gate_call.mk a38.id a38.read a38.key a38.at_ a38.writes)) (v := .agg (flat [si a38.id,sb a38.read,sg a38.key,su a38.at_,sl p39 (a38.writes).length c40]).toArray) (z := .agg (flat [si 0,sb false,sg ByteArray.empty,su 0,sl none 0 0]).toArray) (cells:=(flat [si a38.id,sb a38.read,sg a38.key,su a38.at_,sl p39 (a38.writes).length c40]).toArray) (E:=95) hF hS (by kernel_rfl) rfl (by kernel_rfl) ⟨(p39,c40),rfl,(hS.pick [6] (by kernel_rfl)).ro⟩ (by kernel_rfl) (by kernel_rfl) (by kernel_rfl) (by kernel_rfl) (by kernel_rfl) fun p61 κ a w hF hS=>?_
 refine ⟨fun _=>(hS.sx [1,2,3,6,7,8,9] [1,2,3,4,5,6,7]),?_⟩
 refine ago 7 hF rfl ?_
 refine wo_append (ty:=t_gate_call) hF hS (by kernel_rfl) 4 5 0 rfl rfl rfl (by kernel_rfl) (by kernel_rfl) rfl rfl rfl hx62 (by kernel_rfl) (i:=Tryz.t95) (z := .agg (flat [si 0,sb false,sg ByteArray.empty,su 0,sl none 0 0]).toArray) (by kernel_rfl) (by kernel_rfl) (by kernel_rfl) fun p63 c64 κ a w hF hS=>?_
 refine ⟨fun _=>(hS.sx [1,2,3,6,7,8,9] [2,3,4,5,6,7,8]),?_⟩
 refine anp [8,9] [29,31] hF (hS.sx [1,2,3,6,7,8,9] [2,3,4,5,6,7,8]) fun a hF=>?_
 refine ago 10 hF rfl ?_
 refine wst hF hS 1 12 1 [sl p63 (x62).length c64] (sgN 1 sgNil) fun a w hF hS=>?_
 refine ⟨notE,?_⟩
 refine and_ ?_
 refine hK60 _ _ ?_
 refine wpIn_ret ?_
 cases H
 exact ret_done hF hS (res0 Tryz.results35) ⟨p12,cs13,p17,m18,c19,p21,m22,c23,p63,c64,p46,cs47,p34,c35,rfl,hS.sp [1,4,5,6,7,8,9] [4,5,0,7]⟩
 refine cond_f hF (by kernel_rfl) hb ?_
 refine wpIn_skip ?_
 refine hK44 _ _ ?_
 refine wpIn_seq_k fun K65 hK65=>?_
 refine wpIn_seq_k fun K66 hK66=>?_
 refine wpIn_region_lit ?_
 refine wp 1 [2,3,32] hF fun a hF=>?_
 refine wc (wld hF hS 1 1 0 fun a hF=>?_)
 refine wpListIn_nil ?_
 refine hK66 _ _ ?_
 refine bif_split H (fun hb H=>?_) (fun hb H=>?_)
 refine cond_t hF (by kernel_rfl) hb ?_
 refine wpIn_seq_k fun K67 hK67=>?_
 refine wpIn_region_lit ?_
 refine wc (wld hF hS 2 0 0 fun a hF=>?_)
 refine wp 2 [2,3,34,36] hF fun a hF=>?_
 refine wc (wld hF hS 0 14 0 fun a hF=>?_)
 refine wl_pure (L':=[(2,pt b42 0),(3,pt b43 0),(38,vu (IntKind.u64.wrap (a28+1))),(40,pt b37 32)]) 3 [2,3,38,40] hF (by kernel_rfl) fun a hF=>?_
 refine wc (wst hF hS 0 14 1 [su (IntKind.u64.wrap (a28+1))] (sgN 1 sgNil) fun a w hF hS=>?_)
 refine wpListIn_nil ?_
 refine hK67 _ _ ?_
 refine wpIn_seq_k fun K68 hK68=>?_
 refine rgX hS [0,1,2,5,6,8] ?_
 have hS:=hS.drew
 refine atk 0 (some 41) hF (hS.sx [0,1,2,5,6,8] (rg 7)) rfl (vld 2 0 0) fun a hF=>?_
 refine anp [1,2] [2,3,43] hF (hS.sx [0,1,2,5,6,8] (rg 7)) fun a hF=>?_
 refine atk 3 (some 44) hF (hS.sx [0,1,2,5,6,8] (rg 7)) rfl (vld 0 11 0) fun a hF=>?_
 refine atk 4 (some 45) hF (hS.sx [0,1,2,5,6,8] (rg 7)) rfl (vld 2 0 0) fun a hF=>?_
 refine any_pure [5,6] [2,3,44,47] (L':=[(2,pt b42 0),(3,pt b43 0),(44,.map p21),(47,pt b37 32)]) (listed':=(bitA 10 127)) (fuel:=3) hF (hS.sx [0,1,2,5,6,8] (rg 7)) (by kernel_rfl) (by intro c a w t v h; cases t<;>exact h) (by kernel_rfl) rfl fun a hF=>?_
 refine atk 7 (some 48) hF (hS.sx [0,1,2,5,6,8] (rg 7)) rfl (vld 0 14 0) fun a hF=>?_
 refine atk 8 (some 49) hF (hS.sx [0,1,2,5,6,8] (rg 7)) rfl (vls 1 0 5) fun a hF=>?_
 refine ago 9 hF rfl ?_
 refine bind_split H (fun x69 hx69 H=>?_)
 refine wo_mapUpdate (KT:=32) (E:=95) (kt:=(kInt .u64)) (agg:=true) (t:=t_gate_call) hF hS (by kernel_rfl) 7 3 (k:=IntKind.u64.wrap (a28+1)) (v:=(T_gate_call.mk a38.id a38.read a38.key a38.at_ a38.writes)) (cs:=flat [si a38.id,sb a38.read,sg a38.key,su a38.at_,sl p39 (a38.writes).length c40]) rfl (by kernel_rfl) (by kernel_rfl) (by kernel_rfl) ⟨(p39,c40),rfl,(hS.pick [6] (by kernel_rfl)).ro⟩ rfl rfl hx69 (by kernel_rfl) (by kernel_rfl) fun m70 c71 a w hF hS=>?_
 refine ⟨fun _=>(hS.sx [0,1,2,5,6,8] [1,2,3,4,5,6,7]),?_⟩
 refine and_ ?_
 refine hK68 _ _ ?_
 refine wpIn_seq_k fun K72 hK72=>?_
 refine rga (fun _=>True) [] ?_
 have hS:=hS.drew
 refine anp [5,12,14] [2,55,62,64] hF trivial fun a hF=>?_
 refine any_weakS hS [17] ?_
 refine atk 0 (some 50) hF (hS.sx [0,1,2,5,6,7,8] (rg 8)) rfl (vld 2 0 0) fun a hF=>?_
 refine atk 1 (some 51) hF (hS.sx [0,1,2,5,6,7,8] (rg 8)) rfl (vld 2 0 0) fun a hF=>?_
 refine anp [2,3] [2,50,53,55,62,64] hF (hS.sx [0,1,2,5,6,7,8] (rg 8)) fun a hF=>?_
 refine atk 4 (some 54) hF (hS.sx [0,1,2,5,6,7,8] (rg 8)) rfl (vls 0 4 2) fun a hF=>?_
 refine atk 6 (some 56) hF (hS.sx [0,1,2,5,6,7,8] (rg 8)) rfl (vld 1 2 0) fun a hF=>?_
 refine atk 8 (some 58) hF (hS.sx [0,1,2,5,6,7,8] (rg 8)) rfl (vld 2 0 0) fun a hF=>?_
 refine anp [9,10] [50,54,56,60,62,64] hF (hS.sx [0,1,2,5,6,7,8] (rg 8)) fun a hF=>?_
 refine atk 11 (some 61) hF (hS.sx [0,1,2,5,6,7,8] (rg 8)) rfl (vld 0 14 0) fun a hF=>?_
 refine atk 13 (some 63) hF (hS.sx [0,1,2,5,6,7,8] (rg 8)) rfl (vld 1 2 0) fun a hF=>?_
 refine atk 15 (some 65) hF (hS.sx [0,1,2,5,6,7,8] (rg 8)) rfl (vld 1 3 0) fun a hF=>?_
 refine anp [16] [50,54,56,66] hF (hS.sx [0,1,2,5,6,7,8] (rg 8)) fun a hF=>?_
 refine ago 7 hF rfl ?_
 refine bind_split H (fun x73 hx73 H=>?_)
 refine wo_callP hF hS (by kernel_rfl) (by kernel_rfl) (C_span_Owner N hS.fresh (T_api_Map.mk a5.Cuts a5.Nodes) a38.key p6 c7 p8 c9 ((hS.pick [1,2] (by kernel_rfl)).ro) hx73) ?_
 rintro _ κ w a ⟨rfl,hR,hN⟩ hF hS hO
 refine ⟨fun _=>(hS.sx [0,1,2,5,6,7,8] (rg 8)),?_⟩
 refine ago 17 hF rfl ?_
 have hS:=hS.add (m:=Ro.mp f_api_Ver.ty none 0 ([]:List T_api_Ver)) (Ro.nil f_api_Ver.ty _ _)
 have hS:=hS.add (m:=Ro.mp (fInt .u64).ty none 0 ([]:List Int)) (Ro.nil (fInt .u64).ty _ _)
 refine bind_split H (fun x74 hx74 H=>?_)
 have hgx740:=hS.segs 0 rfl
 refine wcS 2 [0,4,1,2,3,5,6,7,8] hF hS (fun hS=>C_gate_Gate_tell N a1 a33 x73 (T_api_Msg.mk 3 (IntKind.u64.wrap (a28+1)) 0 a38.at_ a38.key ByteArray.empty ([]:List T_api_Ver) ([]:List Int) (T_api_Cmd.mk 0 0 0 0 0 ByteArray.empty)) (flat [(3,cs2),si a3,si a4,sl p6 (a5.Cuts).length c7,sl p8 (a5.Nodes).length c9,(6,cs10),(1,[.pointer (pa p12)]),su a14,(12,cs15),(1,[.map p17]),(1,[.map p21]),sl p25 (a24).length c26,(1,cs27),su (IntKind.u64.wrap (a28+1)),(1,[.pointer (pa p46)]),(8,cs32)]) p34 c35 cs36 none 0 none 0 b37 ((hS.regr 0 [(false,1),(true,16),(false,2)] rfl).sbK [8,1,0]) hx74) ?_
 rintro _ κ w a ⟨p75,c76,rfl,h2⟩ hF hB
 have hS:=(hB _ _ h2).unregrK 0 [(false,1),(true,16),(false,2)] (s':=[si a1,(3,cs2),si a3,si a4,sl p6 (a5.Cuts).length c7,sl p8 (a5.Nodes).length c9,(6,cs10),(1,[.pointer (pa p12)]),su a14,(12,cs15),(1,[.map p17]),(1,[.map p21]),sl p25 (a24).length c26,(1,cs27),su (IntKind.u64.wrap (a28+1)),(1,[.pointer (pa p46)]),(8,cs32),sl p75 (x74).length c76,(1,cs36)]) hgx740 rfl
 refine ⟨notE,?_⟩
 refine and_ ?_
 refine hK72 _ _ ?_
 refine wpIn_ret ?_
 cases H
 exact ret_done hF hS (res0 Tryz.results35) ⟨p12,cs13,p17,m18,c19,p21,m70,c71,p25,c26,p46,cs47,p75,c76,rfl,hS.sp [0,4,1,5,6,7,8] [6,3,8,0]⟩
 refine cond_f hF (by kernel_rfl) hb ?_
 refine wpIn_skip ?_
 refine hK65 _ _ ?_
 refine wpIn_seq_k fun K77 hK77=>?_
 refine wpIn_region_lit ?_
 refine wc (wld hF hS 2 0 0 fun a hF=>?_)
 refine wp 2 [2,3,68,70] hF fun a hF=>?_
 refine wc (wld hF hS 0 3 0 fun a hF=>?_)
 refine wp 3 [2,3,72,74] hF fun a hF=>?_
 refine wc (wst hF hS 0 3 1 [si (IntKind.i64.wrap (a4+1))] (sgN 1 sgNil) fun a w hF hS=>?_)
 refine wpListIn_nil ?_
 refine hK77 _ _ ?_
 refine wpIn_seq_k fun K78 hK78=>?_
 refine rgS hS [] ?_
 have hS:=hS.drew
 refine atk 0 (some 75) hF (hS.sx [0,1,2,5,6,7,8] (rg 7)) rfl (vld 2 0 0) fun a hF=>?_
 refine anp [1,2] [2,3,77] hF (hS.sx [0,1,2,5,6,7,8] (rg 7)) fun a hF=>?_
 refine atk 3 (some 78) hF (hS.sx [0,1,2,5,6,7,8] (rg 7)) rfl (vld 0 2 0) fun a hF=>?_
 refine anp [4,5] [2,3,80] hF (hS.sx [0,1,2,5,6,7,8] (rg 7)) fun a hF=>?_
 refine atk 6 (some 81) hF (hS.sx [0,1,2,5,6,7,8] (rg 7)) rfl (vld 2 0 0) fun a hF=>?_
 refine anp [7,8] [2,3,80,83] hF (hS.sx [0,1,2,5,6,7,8] (rg 7)) fun a hF=>?_
 refine atk 9 (some 84) hF (hS.sx [0,1,2,5,6,7,8] (rg 7)) rfl (vld 0 3 0) fun a hF=>?_
 refine anp [10,11,12] [2,3,4] hF (hS.sx [0,1,2,5,6,7,8] (rg 7)) fun a hF=>?_
 refine and_ ?_
 refine hK78 _ _ ?_
 refine wpIn_seq_k fun K79 hK79=>?_
 refine rgS hS [10] ?_
 have hS:=hS.drew
 refine anp [5] [2,3,4,92] hF (hS.sx [0,1,2,5,6,7,8] (rg 7)) fun a hF=>?_
 refine atk 0 (some 87) hF (hS.sx [0,1,2,5,6,7,8] (rg 7)) rfl (vld 2 0 0) fun a hF=>?_
 refine atk 1 (some 88) hF (hS.sx [0,1,2,5,6,7,8] (rg 7)) rfl (vld 2 0 0) fun a hF=>?_
 refine anp [2,3] [2,3,4,87,90,92] hF (hS.sx [0,1,2,5,6,7,8] (rg 7)) fun a hF=>?_
 refine atk 4 (some 91) hF (hS.sx [0,1,2,5,6,7,8] (rg 7)) rfl (vld 0 8 0) fun a hF=>?_
 refine atk 6 (some 93) hF (hS.sx [0,1,2,5,6,7,8] (rg 7)) rfl (vld 1 3 0) fun a hF=>?_
 refine anp [7,8,9] [2,3,4,94,96] hF (hS.sx [0,1,2,5,6,7,8] (rg 7)) fun a hF=>?_
 refine ago 10 hF rfl ?_
 refine wst hF hS 0 8 1 [su (if a38.at_ > a14 then a38.at_ else a14)] (sgN 1 sgNil) fun a w hF hS=>?_
 refine ⟨notE,?_⟩
 refine and_ ?_
 refine hK79 _ _ ?_
 refine wpIn_seq_k fun K80 hK80=>?_
 refine rgS hS [] ?_
 have hS:=hS.drew
 refine anp [4] [2,3,4,101] hF (hS.sx [0,1,2,5,6,7,8] (rg 7)) fun a hF=>?_
 refine atk 0 (some 97) hF (hS.sx [0,1,2,5,6,7,8] (rg 7)) rfl (vld 2 0 0) fun a hF=>?_
 refine anp [1,2] [2,3,4,99,101] hF (hS.sx [0,1,2,5,6,7,8] (rg 7)) fun a hF=>?_
 refine atk 3 (some 100) hF (hS.sx [0,1,2,5,6,7,8] (rg 7)) rfl (vls 0 4 2) fun a hF=>?_
 refine atk 5 (some 102) hF (hS.sx [0,1,2,5,6,7,8] (rg 7)) rfl (vld 1 4 0) fun a hF=>?_
 refine ago 6 hF rfl ?_
 refine bind_split H (fun x81 hx81 H=>?_)
 refine wo_callP hF hS (by kernel_rfl) (by kernel_rfl) (C_coord_Shares N hS.fresh (T_api_Map.mk a5.Cuts a5.Nodes) a38.writes p6 c7 p8 c9 p39 c40 ((hS.pick [0,1,6] (by kernel_rfl)).ro) hx81) ?_
 rintro _ κ w a ⟨p82,c83,rfl,hR,hN⟩ hF hS hO
 have hS:=hS.adds hR
 have hS:=hS.addC hO hN
 refine ⟨fun _=>(hS.sx [1,2,3,6,7,8,9] [1,2,3,4,5,6,7]),?_⟩
 refine any_pure [7] [2,3,4,5] (L':=[(2,pt b42 0),(3,pt b43 0),(4,vu (IntKind.u64.wrap ((IntKind.u64.wrap ((IntKind.u64.wrap a3)*2 ^ 16))+(IntKind.u64.wrap (IntKind.i64.wrap (a4+1)))))),(5,.slice p82 (x81).length c83)]) (listed':=(bitA 8 255)) (fuel:=0) hF (hS.sx [1,2,3,6,7,8,9] [1,2,3,4,5,6,7]) (by kernel_rfl) (by intro c a w t v h; cases t<;>exact h) (by kernel_rfl) rfl fun a hF=>?_
 refine and_ ?_
 refine hK80 _ _ ?_
 refine wpIn_seq_k fun K84 hK84=>?_
 refine bind_split H (fun x85 ho H=>?_)
 obtain ⟨b86,hpq,hS⟩:=hS.optS 6 rfl ho
 rw [hpq] at hS
 try rw [hpq] at hF
 obtain ⟨⟨p87,m88,c89,p90,cs91⟩,hS⟩:=hS.unfI (ck:=c_coord_Table) (fs:=q_coord_Table) 6 rfl
 refine rgX hS [4,5,6,9,10,11] ?_
 have hS:=hS.drew
 refine anp [4,5,7] [2,3,4,5,108,109,111] hF (hS.sx [4,5,6,9,10,11] (rg 9)) fun a hF=>?_
 refine atk 0 (some 104) hF (hS.sx [4,5,6,9,10,11] (rg 9)) rfl (vld 2 0 0) fun a hF=>?_
 refine any_pure [1,2] [2,3,4,5,106,108,109,111] (L':=[(2,pt b42 0),(3,pt b43 0),(4,vu (IntKind.u64.wrap ((IntKind.u64.wrap ((IntKind.u64.wrap a3)*2 ^ 16))+(IntKind.u64.wrap (IntKind.i64.wrap (a4+1)))))),(5,.slice p82 (x81).length c83),(106,pt b37 14),(108,vu (IntKind.u64.wrap ((IntKind.u64.wrap ((IntKind.u64.wrap a3)*2 ^ 16))+(IntKind.u64.wrap (IntKind.i64.wrap (a4+1)))))),(109,pt b43 3),(111,.slice p82 (x81).length c83)]) (listed':=(bitA 9 183)) (fuel:=3) hF (hS.sx [4,5,6,9,10,11] (rg 9)) (by kernel_rfl) (by intro c a w t v h; cases t<;>exact h) (by kernel_rfl) rfl fun a hF=>?_
 refine atk 3 (some 107) hF (hS.sx [4,5,6,9,10,11] (rg 9)) rfl (vld 0 7 0) fun a hF=>?_
 refine atk 6 (some 110) hF (hS.sx [4,5,6,9,10,11] (rg 9)) rfl (vld 1 3 0) fun a hF=>?_
 refine ago 8 hF rfl ?_
 refine bind_split H (fun x92 hx92 H=>?_)
 refine wcS 3 (rg 12) hF hS (fun hS=>C_coord_Table_Start N (T_coord_Table.mk x85.open_) (IntKind.u64.wrap ((IntKind.u64.wrap ((IntKind.u64.wrap a3)*2 ^ 16))+(IntKind.u64.wrap (IntKind.i64.wrap (a4+1))))) a38.at_ x81 p87 m88 c89 p90 cs91 p82 c83 b86 (hS.sbK [0,1]) hx92) ?_
 rintro _ κ w a ⟨p93,m94,c95,p96,cs97,rfl,h2⟩ hF hB
 have hS:=hB _ _ h2
 refine ⟨fun _=>(hS.sx [4,5,6,9,10,11] [1,2,3,4,5,6,7,8,9]),?_⟩
 refine and_ ?_
 obtain ⟨cs98,hS⟩:=hS.foldI (ck:=c_coord_Table) (fs:=q_coord_Table) b86 (p93,m94,c95,p96,cs97) (T_coord_Table.mk x92.2.open_) [0,1,2] [3,4,5,6,7,8,9,10,11] [0] (by decide) (by kernel_rfl) (by kernel_rfl)
 refine hK84 _ _ ?_
 refine wpIn_seq_k fun K99 hK99=>?_
 have hS:=hS.cC (C':=[.ext (optX o_coord_Table (some b86) cs98 (some (T_coord_Table.mk x92.2.open_))),.tok p82 141 2 (x81).length c83,.box b37 87 [si a1,(3,cs2),si a3,si (IntKind.i64.wrap (a4+1)),sl p6 (a5.Cuts).length c7,sl p8 (a5.Nodes).length c9,(6,cs10),(1,[pt b86 0]),su (if a38.at_ > a14 then a38.at_ else a14),(12,cs15),(1,[.map p17]),(1,[.map p21]),sl p25 (a24).length c26,(1,cs27),su a28,(1,[.pointer (pa p46)]),(8,cs32),sl p34 (a33).length c35,(1,cs36)],.box b43 95 [si a38.id,sb a38.read,sg a38.key,su a38.at_,sl p39 (a38.writes).length c40],.box b42 24 [(1,[pt b37 0])],.tok p25 95 5 (a24).length c26,.tok p34 61 15 (a33).length c35,.ext (objX p17 (.map m18 c19)),.ext (objX p21 (.map m22 c23)),.ext (optX o_gate_move p46 cs47 v50.1)])
 refine rgX hS [0,2,3,4,8,9] ?_
 have hS:=hS.drew
 refine anp [4,5] [2,3,4,5,117,118] hF (hS.sx [0,2,3,4,8,9] (rg 10)) fun a hF=>?_
 refine atk 0 (some 113) hF (hS.sx [0,2,3,4,8,9] (rg 10)) rfl (vld 3 0 0) fun a hF=>?_
 refine any_pure [1,2] [2,3,4,5,115,117,118] (L':=[(2,pt b42 0),(3,pt b43 0),(4,vu (IntKind.u64.wrap ((IntKind.u64.wrap ((IntKind.u64.wrap a3)*2 ^ 16))+(IntKind.u64.wrap (IntKind.i64.wrap (a4+1)))))),(5,.slice p82 (x81).length c83),(115,pt b37 28),(117,vu (IntKind.u64.wrap ((IntKind.u64.wrap ((IntKind.u64.wrap a3)*2 ^ 16))+(IntKind.u64.wrap (IntKind.i64.wrap (a4+1)))))),(118,pt b43 0)]) (listed':=(bitA 8 55)) (fuel:=3) hF (hS.sx [0,2,3,4,8,9] (rg 10)) (by kernel_rfl) (by intro c a w t v h; cases t<;>exact h) (by kernel_rfl) rfl fun a hF=>?_
 refine atk 3 (some 116) hF (hS.sx [0,2,3,4,8,9] (rg 10)) rfl (vld 1 10 0) fun a hF=>?_
 refine atk 6 (some 119) hF (hS.sx [0,2,3,4,8,9] (rg 10)) rfl (vld 2 0 0) fun a hF=>?_
 refine ago 7 hF rfl ?_
 refine bind_split H (fun x100 hx100 H=>?_)
 refine wo_mapUpdate (KT:=32) (E:=3) (kt:=(kInt .u64)) (agg:=false) (t:=(fInt .i64).ty) hF hS (by kernel_rfl) 7 5 (k:=IntKind.u64.wrap ((IntKind.u64.wrap ((IntKind.u64.wrap a3)*2 ^ 16))+(IntKind.u64.wrap (IntKind.i64.wrap (a4+1))))) (v:=a38.id) (cs:=flat [si a38.id]) rfl (by kernel_rfl) (by kernel_rfl) (by kernel_rfl) rfl rfl rfl hx100 (by kernel_rfl) (by kernel_rfl) fun m101 c102 a w hF hS=>?_
 refine ⟨fun _=>(hS.sx [0,2,3,4,8,9] [1,2,3,4,5,6,7,8,9,10]),?_⟩
 refine and_ ?_
 refine hK99 _ _ ?_
 refine wpIn_seq_k fun K103 hK103=>?_
 refine wpIn_region_lit ?_
 refine wp 3 [2,3,4,120,121,122] hF fun a hF=>?_
 refine wpListIn_nil ?_
 refine hK103 _ _ ?_
 refine wpIn_block ?_
 refine loop_fuel (n:=N) (fun n a w => ∃(κ:Gh) (y154:List T_api_Mail) (p155:Option Addr) (c156:Nat) (y157:Int),Fr (137) [] [(2,pt b42 0),(3,pt b43 0),(4,vu (IntKind.u64.wrap ((IntKind.u64.wrap ((IntKind.u64.wrap a3)*2 ^ 16))+(IntKind.u64.wrap (IntKind.i64.wrap (a4+1)))))),(120,.slice p82 (x81).length c83),(121,vi ((x81).length:Int)),(122,vi y157)] a∧SS Ms κ0 w0 κ w [.box b37 87 [si a1,(3,cs2),si a3,si (IntKind.i64.wrap (a4+1)),sl p6 (a5.Cuts).length c7,sl p8 (a5.Nodes).length c9,(6,cs10),(1,[pt b86 0]),su (if a38.at_ > a14 then a38.at_ else a14),(12,cs15),(1,[.map p17]),(1,[.map p21]),sl p25 (a24).length c26,(1,cs27),su a28,(1,[.pointer (pa p46)]),(8,cs32),sl p155 (y154).length c156,(1,cs36)],.box b43 95 [si a38.id,sb a38.read,sg a38.key,su a38.at_,sl p39 (a38.writes).length c40],.box b42 24 [(1,[pt b37 0])],.tok p155 61 15 (y154).length c156,.tok p82 141 2 (x81).length c83,.tok p25 95 5 (a24).length c26,.ext (optX o_coord_Table (some b86) cs98 (some (T_coord_Table.mk x92.2.open_))),.ext (objX p17 (.map m101 c102)),.ext (objX p21 (.map m22 c23)),.ext (optX o_gate_move p46 cs47 v50.1)] [Ro.mp t_coord_Share p82 c83 x81,Ro.mp fStr.ty p6 c7 a5.Cuts,Ro.mp (fInt .i64).ty p8 c9 a5.Nodes,Map.mp (kInt .u64) false (fInt .i64).ty p17 m101 c102 x100,Map.mp (kInt .u64) true t_gate_call p21 m22 c23 a20,Ro.mp t_gate_call p25 c26 a24,Ro.mp t_api_Mail p155 c156 y154,Ro.mp f_api_Ver.ty p39 c40 a38.writes]∧M.gate_Gate_ask_L1 N n a1 a3 a4 a5 a14 a20 a24 a28 a38 v50 x81 x92 x100 y154 y157=some r) ?_ ?_
 exact ⟨_,a33,p34,c35,0,hF.kp [2,3,4,120,121,122],hS.sp [2,3,4,6,1,5,0,7,8,9] [3,4,5,0,7,8,9,10],H⟩
 rintro n a w ⟨κ,y154,p155,c156,y157,hF,hS,H⟩
 rcases n with _|fuel1
 simp [M.gate_Gate_ask_L1] at H
 simp only [M.gate_Gate_ask_L1] at H
 refine wpIn_seq_k fun K158 hK158=>?_
 refine wpIn_region_lit ?_
 refine wl_pure (L':=[(2,pt b42 0),(3,pt b43 0),(4,vu (IntKind.u64.wrap ((IntKind.u64.wrap ((IntKind.u64.wrap a3)*2 ^ 16))+(IntKind.u64.wrap (IntKind.i64.wrap (a4+1)))))),(120,.slice p82 (x81).length c83),(121,vi ((x81).length:Int)),(122,vi y157),(123,vb (decide (y157<((x81).length:Int))))]) 1 [2,3,4,120,121,122,123] hF (by kernel_rfl) fun a hF=>?_
 refine wpListIn_nil ?_
 refine hK158 _ _ ?_
 refine wpIn_seq_k fun K159 hK159=>?_
 refine bif_split H (fun hb H=>?_) (fun hb H=>?_)
 refine cond_t hF (by kernel_rfl) hb ?_
 refine wpIn_skip ?_
 refine hK159 _ _ ?_
 refine wpIn_seq_k fun K160 hK160=>?_
 refine wpIn_block ?_
 refine wpIn_seq_k fun K161 hK161=>?_
 refine wpIn_region_lit ?_
 refine bind_split H (fun x162 hx162 H=>?_)
 refine wc (wo_index hF hS (by kernel_rfl) 0 (E:=141) (sz:=2) rfl rfl rfl (by kernel_rfl) rfl hx162 (by kernel_rfl) (by kernel_rfl) fun b163 f164 a hpx162 hF=>?_)
 obtain ⟨_,⟨⟨p165,c166⟩,rfl,hR⟩,hc⟩:=hS.elem 0 rfl hpx162 hx162
 have hS:=(hS.adds hR).add hc
 refine wc (wo_val hF (by kernel_rfl) (v := .agg (flat [si x162.Node,sl p165 (x162.Vers).length c166]).toArray) ((val_loadCs 0 0 2 (s:=[si x162.Node,sl p165 (x162.Vers).length c166]) (s':=[si x162.Node,sl p165 (x162.Vers).length c166]) (n:=2) rfl rfl rfl (show segGood [si x162.Node,sl p165 (x162.Vers).length c166] from (sgN 2 sgNil)) (by kernel_rfl) (by kernel_rfl) (by kernel_rfl) (by kernel_rfl) (by kernel_rfl) _ ⟨_,hS⟩)) fun a hF=>?_)
 refine wc (wal hF hS [si 0,sl none 0 0] (sgN 2 sgNil) fun b167 a w hF hS=>?_)
 refine wc (wst hF hS 0 0 2 [si x162.Node,sl p165 (x162.Vers).length c166] (sgN 2 sgNil) fun a w hF hS=>?_)
 refine wpListIn_nil ?_
 refine hK161 _ _ ?_
 refine wpIn_region_lit ?_
 refine wc (wld hF hS 3 0 0 fun a hF=>?_)
 refine wp 1 [2,3,4,7,120,121,122,126,127] hF fun a hF=>?_
 refine wc (wld hF hS 0 0 0 fun a hF=>?_)
 refine wp 2 [2,3,4,7,120,121,122,126,128,129,130] hF fun a hF=>?_
 refine wc (wld hF hS 2 3 0 fun a hF=>?_)
 refine wp 1 [2,3,4,120,121,122,126,128,129,131,132] hF fun a hF=>?_
 refine wc (wld hF hS 0 1 0 fun a hF=>?_)
 refine wp 1 [2,3,4,120,121,122,126,128,134] hF fun a hF=>?_
 have hS:=hS.add (m:=Ro.mp (fInt .u64).ty none 0 ([]:List Int)) (Ro.nil (fInt .u64).ty _ _)
 refine bind_split H (fun x168 hx168 H=>?_)
 have hgx1680:=hS.segs 1 rfl
 refine wc (wcS 2 [1,4,0,2,3,5,6,7,8,9,10] hF hS (fun hS=>C_gate_Gate_tell N a1 y154 x162.Node (T_api_Msg.mk 1 (IntKind.u64.wrap ((IntKind.u64.wrap ((IntKind.u64.wrap a3)*2 ^ 16))+(IntKind.u64.wrap (IntKind.i64.wrap (a4+1))))) 0 a38.at_ ByteArray.empty ByteArray.empty x162.Vers ([]:List Int) (T_api_Cmd.mk 0 0 0 0 0 ByteArray.empty)) (flat [(3,cs2),si a3,si (IntKind.i64.wrap (a4+1)),sl p6 (a5.Cuts).length c7,sl p8 (a5.Nodes).length c9,(6,cs10),(1,[pt b86 0]),su (if a38.at_ > a14 then a38.at_ else a14),(12,cs15),(1,[.map p17]),(1,[.map p21]),sl p25 (a24).length c26,(1,cs27),su a28,(1,[.pointer (pa p46)]),(8,cs32)]) p155 c156 cs36 p165 c166 none 0 b37 ((hS.regr 0 [(false,1),(true,16),(false,2)] rfl).sbK [9,2,0]) hx168) ?_)
 rintro _ κ w a ⟨p169,c170,rfl,h2⟩ hF hB
 have hS:=(hB _ _ h2).unregrK 0 [(false,1),(true,16),(false,2)] (s':=[si a1,(3,cs2),si a3,si (IntKind.i64.wrap (a4+1)),sl p6 (a5.Cuts).length c7,sl p8 (a5.Nodes).length c9,(6,cs10),(1,[pt b86 0]),su (if a38.at_ > a14 then a38.at_ else a14),(12,cs15),(1,[.map p17]),(1,[.map p21]),sl p25 (a24).length c26,(1,cs27),su a28,(1,[.pointer (pa p46)]),(8,cs32),sl p169 (x168).length c170,(1,cs36)]) hgx1680 rfl
 refine wpListIn_nil ?_
 refine hK160 _ _ ?_
 refine wpIn_region_lit ?_
 refine wp 2 [2,3,4,120,121,122] hF fun a hF=>?_
 refine wpListIn_nil ?_
 exact ⟨fuel1,Nat.lt_succ_self _,_,x168,p169,c170,IntKind.i64.wrap (y157+1),hF.kp [2,3,4,120,121,122],hS.sp [0,3,4,1,5,6,7,8,9,10] [4,5,6,7,8,9,0,11],H⟩
 refine cond_f hF (by kernel_rfl) hb ?_
 refine wpIn_exit ?_
 cases H
 exact ret_done hF hS (res0 Tryz.results35) ⟨(some b86),cs98,p17,m101,c102,p21,m22,c23,p25,c26,p46,cs47,p155,c156,rfl,hS.sp [0,5,3,6,7,8,9] [3,4,5,6]⟩
end Go.Cf
