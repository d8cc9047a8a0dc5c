/- The walks: each function returns what its model says. Printed by a program of ours. -/
import Derived.Test.YtcplebnnanjngaaGreatZM1
import Derived.Test.YtcplebnnanjngaaGreatZWhs
import Derived.Test.YtcplebnnanjngaaGreatZWho
import Derived.Test.YtcplebnnanjngaaGreatZWhi
import Derived.Test.YtcplebnnanjngaaGreatZWhp
import Derived.Test.YtcplebnnanjngaaGreatZWhc
namespace Go.Cf
open Go Go.Proofs
set_option linter.unusedVariables false
set_option maxRecDepth 20000 in
set_option maxHeartbeats 8000000 in
theorem C_gate_Gate_empty (N:Nat){Ms:List Nat}{κ0:Gh}{w0:World}(a2:Int)(a3:Int)(a4:Int)(a5:Int)(a6:T_api_Map)(a12:(Option T_order_Log))(a15:(Option T_coord_Table))(a19:(List (Option T_inbox_Box)))(a22:(List Int))(a23:(List Int))(a24:(Mp Int Int))(a28:(Mp Int T_gate_call))(a32:(List T_gate_call))(a35:(Mp Int T_gate_load))(a40:(Option T_gate_move))(a44:Int)(a45:(List Int))(a48:(List Int))(a51:Int)(a52:Bool)(a53:Bool)(a54:Bool)(cs1:List Value)(p7:Option Addr)(c8:Nat)(p9:Option Addr)(c10:Nat)(cs11:List Value)(p13:Option Nat)(cs14:List Nat)(p16:Option Nat)(cs17:List Nat)(cs18:List Value)(p20:List (Option Nat))(cs21:List Nat)(p25:Option Nat)(m26:Array MapEntry)(c27:Nat)(p29:Option Nat)(m30:Array MapEntry)(c31:Nat)(p33:Option Addr)(c34:Nat)(p36:Option Nat)(m37:Array MapEntry)(c38:Nat)(cs39:List Value)(p41:Option Nat)(cs42:List Nat)(cs43:List Value)(p46:Option Addr)(c47:Nat)(p49:Option Addr)(c50:Nat)(cs55:List Value)(b56:Nat)(hB:SB Ms κ0 w0 [.box b56 87 [(2,cs1),si a2,si a3,si a4,si a5,sl p7 (a6.Cuts).length c8,sl p9 (a6.Nodes).length c10,(5,cs11),(1,[.pointer (pa p13)]),(1,[.pointer (pa p16)]),(1,cs18),(4,(encs fPtr p20)),ei 4 a22,ei 4 a23,(1,[.map p25]),(1,[.map p29]),sl p33 (a32).length c34,(1,[.map p36]),(1,cs39),(1,[.pointer (pa p41)]),(1,cs43),si a44,sl p46 (a45).length c47,sl p49 (a48).length c50,su a51,sb a52,sb a53,sb a54,(2,cs55)],.tok p33 95 5 (a32).length c34,.tok p46 32 1 (a45).length c47,.tok p49 32 1 (a48).length c50,.ext (optX o_order_Log p13 cs14 a12),.ext (optX o_coord_Table p16 cs17 a15),.ext (arrX o_inbox_Box p20 cs21 a19),.ext (objX p25 (.map m26 c27)),.ext (objX p29 (.map m30 c31)),.ext (objX p36 (.map m37 c38)),.ext (optX o_gate_move p41 cs42 a40)] [Ro.mp fStr.ty p7 c8 a6.Cuts,Ro.mp (fInt .i64).ty p9 c10 a6.Nodes,ml p20 4,ml a22 4,ml a23 4,Map.mp (kInt .u64) false (fInt .i64).ty p25 m26 c27 a24,Map.mp (kInt .u64) true t_gate_call p29 m30 c31 a28,Ro.mp t_gate_call p33 c34 a32,Map.mp (kInt .u64) true t_gate_load p36 m37 c38 a35,Ro.mp (fInt .u64).ty p46 c47 a45,Ro.mp (fInt .u64).ty p49 c50 a48]){r:(Int×Int×Int×T_api_Map×(Option T_order_Log)×(Option T_coord_Table)×(List (Option T_inbox_Box))×(List Int)×(List Int)×(Mp Int Int)×(Mp Int T_gate_call)×(List T_gate_call)×(Mp Int T_gate_load)×(Option T_gate_move)×Int×(List Int)×(List Int)×Int×Bool×Bool×Bool)}(H:M.gate_Gate_empty N a2 a3 a4 a5 a6 a12 a15 a19 a22 a23 a24 a28 a32 a35 a40 a44 a45 a48 a51 a52 a53 a54=some r) :
    Calls Tryz.prog 24 #[pt b56 0] w0 (Post Ms κ0 w0 fun v κ w => ∃(p140:Option Addr) (c141:Nat) (p142:Option Addr) (c143:Nat) (p144:Option Nat) (cs145:List Nat) (p146:Option Nat) (cs147:List Nat) (p148:List (Option Nat)) (cs149:List Nat) (p150:Option Nat) (m151:Array MapEntry) (c152:Nat) (p153:Option Nat) (m154:Array MapEntry) (c155:Nat) (p156:Option Addr) (c157:Nat) (p158:Option Nat) (m159:Array MapEntry) (c160:Nat) (p161:Option Nat) (cs162:List Nat) (p163:Option Addr) (c164:Nat) (p165:Option Addr) (c166:Nat),v = .tuple #[]∧SS Ms κ0 w0 κ w [.box b56 87 [(2,cs1),si r.1,si a3,si r.2.1,si r.2.2.1,sl p140 (r.2.2.2.1.Cuts).length c141,sl p142 (r.2.2.2.1.Nodes).length c143,(5,cs11),(1,[.pointer (pa p144)]),(1,[.pointer (pa p146)]),(1,cs18),(4,(encs fPtr p148)),ei 4 r.2.2.2.2.2.2.2.1,ei 4 r.2.2.2.2.2.2.2.2.1,(1,[.map p150]),(1,[.map p153]),sl p156 (r.2.2.2.2.2.2.2.2.2.2.2.1).length c157,(1,[.map p158]),(1,cs39),(1,[.pointer (pa p161)]),(1,cs43),si r.2.2.2.2.2.2.2.2.2.2.2.2.2.2.1,sl p163 (r.2.2.2.2.2.2.2.2.2.2.2.2.2.2.2.1).length c164,sl p165 (r.2.2.2.2.2.2.2.2.2.2.2.2.2.2.2.2.1).length c166,su r.2.2.2.2.2.2.2.2.2.2.2.2.2.2.2.2.2.1,sb r.2.2.2.2.2.2.2.2.2.2.2.2.2.2.2.2.2.2.1,sb r.2.2.2.2.2.2.2.2.2.2.2.2.2.2.2.2.2.2.2.1,sb r.2.2.2.2.2.2.2.2.2.2.2.2.2.2.2.2.2.2.2.2,(2,cs55)],.tok p156 95 5 (r.2.2.2.2.2.2.2.2.2.2.2.1).length c157,.tok p163 32 1 (r.2.2.2.2.2.2.2.2.2.2.2.2.2.2.2.1).length c164,.tok p165 32 1 (r.2.2.2.2.2.2.2.2.2.2.2.2.2.2.2.2.1).length c166,.ext (optX o_order_Log p144 cs145 r.2.2.2.2.1),.ext (optX o_coord_Table p146 cs147 r.2.2.2.2.2.1),.ext (arrX o_inbox_Box p148 cs149 r.2.2.2.2.2.2.1),.ext (objX p150 (.map m151 c152)),.ext (objX p153 (.map m154 c155)),.ext (objX p158 (.map m159 c160)),.ext (optX o_gate_move p161 cs162 r.2.2.2.2.2.2.2.2.2.2.2.2.2.1)] [Ro.mp fStr.ty p140 c141 r.2.2.2.1.Cuts,Ro.mp (fInt .i64).ty p142 c143 r.2.2.2.1.Nodes,ml p148 4,ml r.2.2.2.2.2.2.2.1 4,ml r.2.2.2.2.2.2.2.2.1 4,Map.mp (kInt .u64) false (fInt .i64).ty p150 m151 c152 r.2.2.2.2.2.2.2.2.2.1,Map.mp (kInt .u64) true t_gate_call p153 m154 c155 r.2.2.2.2.2.2.2.2.2.2.1,Ro.mp t_gate_call p156 c157 r.2.2.2.2.2.2.2.2.2.2.2.1,Map.mp (kInt .u64) true t_gate_load p158 m159 c160 r.2.2.2.2.2.2.2.2.2.2.2.2.1,Ro.mp (fInt .u64).ty p163 c164 r.2.2.2.2.2.2.2.2.2.2.2.2.2.2.2.1,Ro.mp (fInt .u64).ty p165 c166 r.2.2.2.2.2.2.2.2.2.2.2.2.2.2.2.2.1]):=by
 have hS:=hB.hS
 have hfr:=hS.fresh
 refine enter (N:=(85)) (L:=[(0,pt b56 0)]) Tryz.func24 rfl Tryz.ntmps24 (show 1≤(85) by decide) rfl fun a hF=>?_
 unfold M.gate_Gate_empty at H
 refine wpIn_seq_k fun K57 hK57=>?_
 refine wpIn_region_lit ?_
 refine wp 7 [0,3,4,5,6,9] hF fun a hF=>?_
 refine wc (wld hF hS 0 2 0 fun a hF=>?_)
 refine wp 3 [0,4,5,6,10,11,13] hF fun a hF=>?_
 refine wc (wst hF hS 0 1 1 [si 0] (sgN 1 sgNil) fun a w hF hS=>?_)
 refine wp 2 [0,5,6,10,11,15] hF fun a hF=>?_
 refine wc (wst hF hS 0 3 1 [si a3] (sgN 1 sgNil) fun a w hF hS=>?_)
 refine wp 2 [0,6,11,17] hF fun a hF=>?_
 refine wc (wst hF hS 0 4 1 [si 0] (sgN 1 sgNil) fun a w hF hS=>?_)
 refine wp 2 [0,11,19] hF fun a hF=>?_
 refine wc (wst hF hS 0 5 2 [sl none 0 0,sl none 0 0] (sgN 2 sgNil) fun a w hF hS=>?_)
 refine wpListIn_nil ?_
 refine hK57 _ _ ?_
 refine wpIn_seq_k fun K58 hK58=>?_
 refine wpIn_region_lit ?_
 refine wp 2 [0,20,21] hF fun a hF=>?_
 refine bind_split H (fun x59 hx59 H=>?_)
 refine wc (wcS 0 (rg 11) hF hS (fun hS=>C_order_New N (hS.sbK []) hx59) ?_)
 rintro _ κ w a ⟨b60,p61,c62,p63,c64,rfl,h2⟩ hF hB
 have hS:=hB _ _ h2
 refine bind_split H (fun x65 hx65 H=>?_)
 refine wc (wcS 0 (rg 14) hF hS (fun hS=>C_coord_New N (hS.sbK []) hx65) ?_)
 rintro _ κ w a ⟨b66,p67,m68,c69,p70,cs71,rfl,h2⟩ hF hB
 have hS:=(hB _ _ h2).cC (C':=[.box b66 172 [(1,[.map p67])],.ext (objX p67 (.map m68 c69)),.ext (mpX o_coord_entry p70 cs71 x65.open_ none),.box b60 166 [sl p61 (x59.list).length c62,sl p63 (x59.waiting).length c64,su x59.bound],.tok p61 135 4 (x59.list).length c62,.tok p63 135 4 (x59.waiting).length c64,.box b56 87 [(2,cs1),si 0,si a3,si a3,si 0,sl none 0 0,sl none 0 0,(5,cs11),(1,[.pointer (pa p13)]),(1,[.pointer (pa p16)]),(1,cs18),(4,(encs fPtr p20)),ei 4 a22,ei 4 a23,(1,[.map p25]),(1,[.map p29]),sl p33 (a32).length c34,(1,[.map p36]),(1,cs39),(1,[.pointer (pa p41)]),(1,cs43),si a44,sl p46 (a45).length c47,sl p49 (a48).length c50,su a51,sb a52,sb a53,sb a54,(2,cs55)],.tok p33 95 5 (a32).length c34,.tok p46 32 1 (a45).length c47,.tok p49 32 1 (a48).length c50,.ext (optX o_order_Log p13 cs14 a12),.ext (optX o_coord_Table p16 cs17 a15),.ext (arrX o_inbox_Box p20 cs21 a19),.ext (objX p25 (.map m26 c27)),.ext (objX p29 (.map m30 c31)),.ext (objX p36 (.map m37 c38)),.ext (optX o_gate_move p41 cs42 a40)])
 refine wp 2 [0,21,22,23,25] hF fun a hF=>?_
 refine wc (wst hF hS 6 8 1 [(1,[pt b60 0])] (sgN 1 sgNil) fun a w hF hS=>?_)
 refine wp 2 [0,23,27] hF fun a hF=>?_
 refine wc (wst hF hS 6 9 1 [(1,[pt b66 0])] (sgN 1 sgNil) fun a w hF hS=>?_)
 refine wpListIn_nil ?_
 obtain ⟨cs72,hS⟩:=hS.foldI (ck:=c_order_Log) (fs:=q_order_Log) b60 (p61,c62,p63,c64) (T_order_Log.mk x59.list x59.waiting x59.bound) [3,4,5] [0,1,2,6,7,8,9,10,11,12,13,14,15,16] [1,2] (by decide) (by kernel_rfl) (by kernel_rfl)
 obtain ⟨cs73,hS⟩:=hS.foldI (ck:=c_coord_Table) (fs:=q_coord_Table) b66 (p67,m68,c69,p70,cs71) (T_coord_Table.mk x65.open_) [1,2,3] [0,4,5,6,7,8,9,10,11,12,13,14] [0] (by decide) (by kernel_rfl) (by kernel_rfl)
 refine hK58 _ _ ?_
 refine wpIn_seq_k fun K74 hK74=>?_
 refine wpIn_region_lit ?_
 refine wp 4 [0,29,31] hF fun a hF=>?_
 have hS:=hS.add (m:=ml (List.replicate 4 (none:Option Nat)) 4) (List.length_replicate)
 refine wc (wst hF hS 2 11 1 [(4,(encs fPtr (List.replicate 4 (none:Option Nat))))] (sgEnc List.length_replicate sgNil) fun a w hF hS=>?_)
 refine wpListIn_nil ?_
 refine hK74 _ _ ?_
 refine wpIn_seq_k fun K75 hK75=>?_
 refine wpIn_seq_k fun K76 hK76=>?_
 refine wpIn_region_lit ?_
 refine wp 1 [0,32] hF fun a hF=>?_
 refine wpListIn_nil ?_
 refine hK76 _ _ ?_
 refine wpIn_block ?_
 refine loop_fuel (n:=N) (fun n a w => ∃(κ:Gh) (y127 y128:List Int) (y129:Int),Fr (85) [] [(0,pt b56 0),(32,vi y129)] a∧SS Ms κ0 w0 κ w [.box b56 87 [(2,cs1),si 0,si a3,si a3,si 0,sl none 0 0,sl none 0 0,(5,cs11),(1,[pt b60 0]),(1,[pt b66 0]),(1,cs18),(4,(encs fPtr (List.replicate 4 (none:Option Nat)))),ei 4 y127,ei 4 y128,(1,[.map p25]),(1,[.map p29]),sl p33 (a32).length c34,(1,[.map p36]),(1,cs39),(1,[.pointer (pa p41)]),(1,cs43),si a44,sl p46 (a45).length c47,sl p49 (a48).length c50,su a51,sb a52,sb a53,sb a54,(2,cs55)],.tok p33 95 5 (a32).length c34,.tok p46 32 1 (a45).length c47,.tok p49 32 1 (a48).length c50,.ext (optX o_order_Log (some b60) cs72 (some (T_order_Log.mk x59.list x59.waiting x59.bound))),.ext (optX o_coord_Table (some b66) cs73 (some (T_coord_Table.mk x65.open_))),.ext (arrX o_inbox_Box (List.replicate 4 (none:Option Nat)) [] (List.replicate 4 none)),.ext (objX p25 (.map m26 c27)),.ext (objX p29 (.map m30 c31)),.ext (objX p36 (.map m37 c38)),.ext (optX o_gate_move p41 cs42 a40)] [Ro.mp fStr.ty none 0 ([]:List ByteArray),Ro.mp (fInt .i64).ty none 0 ([]:List Int),ml (List.replicate 4 (none:Option Nat)) 4,ml y127 4,ml y128 4,Map.mp (kInt .u64) false (fInt .i64).ty p25 m26 c27 a24,Map.mp (kInt .u64) true t_gate_call p29 m30 c31 a28,Ro.mp t_gate_call p33 c34 a32,Map.mp (kInt .u64) true t_gate_load p36 m37 c38 a35,Ro.mp (fInt .u64).ty p46 c47 a45,Ro.mp (fInt .u64).ty p49 c50 a48]∧M.gate_Gate_empty_L1 N n a3 a24 a28 a32 a35 a40 a44 a45 a48 a51 a52 a53 a54 x59 x65 y127 y128 y129=some r) ?_ ?_
 have hS:=hS.add (m:=Ro.mp fStr.ty none 0 ([]:List ByteArray)) (Ro.nil fStr.ty _ _)
 have hS:=hS.add (m:=Ro.mp (fInt .i64).ty none 0 ([]:List Int)) (Ro.nil (fInt .i64).ty _ _)
 have hS:=hS.addArr o_inbox_Box 4
 exact ⟨_,a22,a23,0,hF.kp [0,32],hS.sp [3,4,5,6,2,1,0,10,11,12,13] [1,0,2,9,10,11,12,13,14,15,16],H⟩
 rintro n a w ⟨κ,y127,y128,y129,hF,hS,H⟩
 rcases n with _|fuel1
 simp [M.gate_Gate_empty_L1] at H
 simp only [M.gate_Gate_empty_L1] at H
 refine wpIn_seq_k fun K130 hK130=>?_
 refine wpIn_region_lit ?_
 refine wp 1 [0,32,33] hF fun a hF=>?_
 refine wpListIn_nil ?_
 refine hK130 _ _ ?_
 refine wpIn_seq_k fun K131 hK131=>?_
 refine bif_split H (fun hb H=>?_) (fun hb H=>?_)
 refine cond_t hF (by kernel_rfl) hb ?_
 refine wpIn_skip ?_
 refine hK131 _ _ ?_
 refine wpIn_seq_k fun K132 hK132=>?_
 refine wpIn_block ?_
 refine wpIn_seq_k fun K133 hK133=>?_
 refine wpIn_region_lit ?_
 refine wp 2 [0,2,32] hF fun a hF=>?_
 refine wpListIn_nil ?_
 refine hK133 _ _ ?_
 refine rgS hS [7,11] ?_
 have hS:=hS.drew
 refine any_pure [0,1,4,5] [0,2,32,36,40] (L':=[(0,pt b56 0),(2,vi y129),(32,vi y129),(36,vi y129),(40,pt b56 20)]) (listed':=(bitA 12 51)) (fuel:=8) hF (hS.sx [0,4,5,6,7,8,9,10] (rg 11)) (by kernel_rfl) (by intro c a w t v h; cases t<;>exact h) (by kernel_rfl) rfl fun a hF=>?_
 refine anpP [2,3,8,9] [0,32,36,38,40,43] hF (fun _=>(hS.sx [0,4,5,6,7,8,9,10] (rg 11))) fun a hF=>?_
 have hF:Fr (85) _ [(0,pt b56 0),(32,vi y129),(36,vi y129),(38,vi y129),(40,pt b56 20),(43,pt b56 24)] a:=hF.kp [0,32,36,38,40,43]
 refine bind_split H (fun x134 hx134 H=>?_)
 refine atk 6 (some 41) hF (hS.sx [0,4,5,6,7,8,9,10] (rg 11)) rfl (fun w _=>val_indexArr (E:=3) (sz:=1) (n:=4) rfl rfl (i:=y129) rfl (idx_lt hx134 (hS.get 3 rfl)) (by kernel_rfl) (by kernel_rfl) w) fun a hF=>?_
 refine ago 7 hF rfl ?_
 refine wo_storeA1 (t:=(fInt .i64)) (y:=(-1)) (v:=vi (-1)) hF hS (by kernel_rfl) 0 12 (s':=[(2,cs1),si 0,si a3,si a3,si 0,sl none 0 0,sl none 0 0,(5,cs11),(1,[pt b60 0]),(1,[pt b66 0]),(1,cs18),(4,(encs fPtr (List.replicate 4 (none:Option Nat)))),ei 4 (List.set y127 (Int.toNat y129) (-1)),ei 4 y128,(1,[.map p25]),(1,[.map p29]),sl p33 (a32).length c34,(1,[.map p36]),(1,cs39),(1,[.pointer (pa p41)]),(1,cs43),si a44,sl p46 (a45).length c47,sl p49 (a48).length c50,su a51,sb a52,sb a53,sb a54,(2,cs55)]) (C':=[.box b56 87 [(2,cs1),si 0,si a3,si a3,si 0,sl none 0 0,sl none 0 0,(5,cs11),(1,[pt b60 0]),(1,[pt b66 0]),(1,cs18),(4,(encs fPtr (List.replicate 4 (none:Option Nat)))),ei 4 (List.set y127 (Int.toNat y129) (-1)),ei 4 y128,(1,[.map p25]),(1,[.map p29]),sl p33 (a32).length c34,(1,[.map p36]),(1,cs39),(1,[.pointer (pa p41)]),(1,cs43),si a44,sl p46 (a45).length c47,sl p49 (a48).length c50,su a51,sb a52,sb a53,sb a54,(2,cs55)],.tok p33 95 5 (a32).length c34,.tok p46 32 1 (a45).length c47,.tok p49 32 1 (a48).length c50,.ext (optX o_order_Log (some b60) cs72 (some (T_order_Log.mk x59.list x59.waiting x59.bound))),.ext (optX o_coord_Table (some b66) cs73 (some (T_coord_Table.mk x65.open_))),.ext (arrX o_inbox_Box (List.replicate 4 (none:Option Nat)) [] (List.replicate 4 none)),.ext (objX p25 (.map m26 c27)),.ext (objX p29 (.map m30 c31)),.ext (objX p36 (.map m37 c38)),.ext (optX o_gate_move p41 cs42 a40)]) rfl rfl (by kernel_rfl) rfl rfl hx134 rfl rfl (by kernel_rfl) (by kernel_rfl) (by kernel_rfl) (by kernel_rfl) fun a w hF hS=>?_
 have hS:=hS.add (m:=ml (List.set y127 (Int.toNat y129) (-1)) 4) (List.length_set.trans (hS.get 3 rfl))
 refine ⟨notE,?_⟩
 refine ago 10 hF rfl ?_
 refine bind_split H (fun x135 hx135 H=>?_)
 refine wo_indexArr hF (by kernel_rfl) (E:=3) (sz:=1) (n:=4) rfl rfl (i:=y129) rfl (idx_lt hx135 (hS.get 5 rfl)) (by kernel_rfl) (by kernel_rfl) fun a hF=>?_
 refine ⟨notE,?_⟩
 refine ago 11 hF rfl ?_
 refine wo_storeA1 (t:=(fInt .i64)) (y:=0) (v:=vi 0) hF hS (by kernel_rfl) 0 13 (s':=[(2,cs1),si 0,si a3,si a3,si 0,sl none 0 0,sl none 0 0,(5,cs11),(1,[pt b60 0]),(1,[pt b66 0]),(1,cs18),(4,(encs fPtr (List.replicate 4 (none:Option Nat)))),ei 4 (List.set y127 (Int.toNat y129) (-1)),ei 4 (List.set y128 (Int.toNat y129) 0),(1,[.map p25]),(1,[.map p29]),sl p33 (a32).length c34,(1,[.map p36]),(1,cs39),(1,[.pointer (pa p41)]),(1,cs43),si a44,sl p46 (a45).length c47,sl p49 (a48).length c50,su a51,sb a52,sb a53,sb a54,(2,cs55)]) (C':=[.box b56 87 [(2,cs1),si 0,si a3,si a3,si 0,sl none 0 0,sl none 0 0,(5,cs11),(1,[pt b60 0]),(1,[pt b66 0]),(1,cs18),(4,(encs fPtr (List.replicate 4 (none:Option Nat)))),ei 4 (List.set y127 (Int.toNat y129) (-1)),ei 4 (List.set y128 (Int.toNat y129) 0),(1,[.map p25]),(1,[.map p29]),sl p33 (a32).length c34,(1,[.map p36]),(1,cs39),(1,[.pointer (pa p41)]),(1,cs43),si a44,sl p46 (a45).length c47,sl p49 (a48).length c50,su a51,sb a52,sb a53,sb a54,(2,cs55)],.tok p33 95 5 (a32).length c34,.tok p46 32 1 (a45).length c47,.tok p49 32 1 (a48).length c50,.ext (optX o_order_Log (some b60) cs72 (some (T_order_Log.mk x59.list x59.waiting x59.bound))),.ext (optX o_coord_Table (some b66) cs73 (some (T_coord_Table.mk x65.open_))),.ext (arrX o_inbox_Box (List.replicate 4 (none:Option Nat)) [] (List.replicate 4 none)),.ext (objX p25 (.map m26 c27)),.ext (objX p29 (.map m30 c31)),.ext (objX p36 (.map m37 c38)),.ext (optX o_gate_move p41 cs42 a40)]) rfl rfl (by kernel_rfl) rfl rfl hx135 rfl rfl (by kernel_rfl) (by kernel_rfl) (by kernel_rfl) (by kernel_rfl) fun a w hF hS=>?_
 have hS:=hS.add (m:=ml (List.set y128 (Int.toNat y129) 0) 4) (List.length_set.trans (hS.get 5 rfl))
 refine ⟨notE,?_⟩
 refine and_ ?_
 refine hK132 _ _ ?_
 refine wpIn_region_lit ?_
 refine wp 2 [0,32] hF fun a hF=>?_
 refine wpListIn_nil ?_
 exact ⟨fuel1,Nat.lt_succ_self _,_,(List.set y127 (Int.toNat y129) (-1)),(List.set y128 (Int.toNat y129) 0),IntKind.i64.wrap (y129+1),hF.kp [0,32],hS.sp (rg 11) [2,3,4,1,0,7,8,9,10,11,12],H⟩
 refine cond_f hF (by kernel_rfl) hb ?_
 refine wpIn_exit ?_
 refine hK75 _ _ ?_
 refine wpIn_seq_k fun K136 hK136=>?_
 refine wpIn_region_lit ?_
 refine wl_pure (L':=[(0,pt b56 0),(48,pt b56 28)]) 3 [0,48] hF (by kernel_rfl) fun a hF=>?_
 refine wc (wld hF hS 0 14 0 fun a hF=>?_)
 refine wc (wo_clear (KT:=32) (E:=3) (kt:=(kInt .u64)) (agg:=false) (t:=(fInt .i64).ty) hF hS (by kernel_rfl) 7 5 rfl (by kernel_rfl) rfl rfl (by kernel_rfl) fun a w hF hS=>?_)
 refine wpListIn_nil ?_
 refine hK136 _ _ ?_
 refine wpIn_seq_k fun K137 hK137=>?_
 refine wpIn_region_lit ?_
 refine wl_pure (L':=[(0,pt b56 0),(52,pt b56 29)]) 3 [0,52] hF (by kernel_rfl) fun a hF=>?_
 refine wc (wld hF hS 0 15 0 fun a hF=>?_)
 refine wc (wo_clear (KT:=32) (E:=95) (kt:=(kInt .u64)) (agg:=true) (t:=t_gate_call) hF hS (by kernel_rfl) 8 7 rfl (by kernel_rfl) rfl rfl (by kernel_rfl) fun a w hF hS=>?_)
 refine wpListIn_nil ?_
 refine hK137 _ _ ?_
 refine wpIn_seq_k fun K138 hK138=>?_
 refine wpIn_region_lit ?_
 refine wl_pure (L':=[(0,pt b56 0),(56,pt b56 31)]) 3 [0,56] hF (by kernel_rfl) fun a hF=>?_
 refine wc (wld hF hS 0 17 0 fun a hF=>?_)
 refine wc (wo_clear (KT:=32) (E:=138) (kt:=(kInt .u64)) (agg:=true) (t:=t_gate_load) hF hS (by kernel_rfl) 9 10 rfl (by kernel_rfl) rfl rfl (by kernel_rfl) fun a w hF hS=>?_)
 refine wpListIn_nil ?_
 refine hK138 _ _ ?_
 refine wpIn_seq_k fun K139 hK139=>?_
 refine wpIn_region_lit ?_
 refine wp 3 [0,60] hF fun a hF=>?_
 refine wc (wst hF hS 0 16 1 [sl none 0 0] (sgN 1 sgNil) fun a w hF hS=>?_)
 refine wpListIn_nil ?_
 refine hK139 _ _ ?_
 refine wpIn_region_lit ?_
 refine wp 10 [62,63,64,65,66,67,68,70] hF fun a hF=>?_
 refine wc (wst hF hS 0 19 1 [(1,[.pointer none])] (sgN 1 sgNil) fun a w hF hS=>?_)
 refine wp 2 [63,64,65,66,67,68,72] hF fun a hF=>?_
 refine wc (wst hF hS 0 22 1 [sl none 0 0] (sgN 1 sgNil) fun a w hF hS=>?_)
 refine wp 2 [64,65,66,67,68,74] hF fun a hF=>?_
 refine wc (wst hF hS 0 23 1 [sl none 0 0] (sgN 1 sgNil) fun a w hF hS=>?_)
 refine wp 2 [65,66,67,68,76] hF fun a hF=>?_
 refine wc (wst hF hS 0 21 1 [si 0] (sgN 1 sgNil) fun a w hF hS=>?_)
 refine wp 2 [66,67,68,78] hF fun a hF=>?_
 refine wc (wst hF hS 0 24 1 [su 0] (sgN 1 sgNil) fun a w hF hS=>?_)
 refine wp 2 [67,68,80] hF fun a hF=>?_
 refine wc (wst hF hS 0 25 1 [sb false] (sgN 1 sgNil) fun a w hF hS=>?_)
 refine wp 2 [68,82] hF fun a hF=>?_
 refine wc (wst hF hS 0 26 1 [sb false] (sgN 1 sgNil) fun a w hF hS=>?_)
 refine wp 2 [84] hF fun a hF=>?_
 refine wc (wst hF hS 0 27 1 [sb false] (sgN 1 sgNil) fun a w hF hS=>?_)
 refine wpListIn_nil ?_
 have hS:=hS.add (m:=Ro.mp t_gate_call none 0 ([]:List T_gate_call)) (Ro.nil t_gate_call _ _)
 have hS:=hS.add (m:=Ro.mp (fInt .u64).ty none 0 ([]:List Int)) (Ro.nil (fInt .u64).ty _ _)
 have hS:=hS.addNil 95 5
 have hS:=hS.addNil 32 1
 have hS:=hS.addNil 32 1
 have hS:=hS.addOpt o_gate_move
 cases H
 exact ret_done hF hS (res0 Tryz.results24) ⟨none,0,none,0,(some b60),cs72,(some b66),cs73,(List.replicate 4 (none:Option Nat)),[],p25,#[],c27,p29,#[],c31,none,0,p36,#[],c38,none,[],none,0,none,0,rfl,hS.sp [4,3,2,1,8,9,10,11,12,13,0] [5,6,7,8,9,4,3,1,2,0,0]⟩
set_option maxRecDepth 20000 in
set_option maxHeartbeats 8000000 in
theorem C_gate_New (N:Nat){Ms:List Nat}{κ0:Gh}{w0:World}(a1:Int)(a2:Int)(a3:(List Bool))(a4:(List Int))(p5:Option Addr)(c6:Nat)(hB:SB Ms κ0 w0 [] [ml a3 4,Ro.mp (fInt .i64).ty p5 c6 a4]){r:((Option T_gate_Gate)×Int)}(H:M.gate_New N a1 a2 a3 a4=some r) :
    Calls Tryz.prog 7 #[vi a1,vi a2,.agg (flat [eb 4 a3]).toArray,.slice p5 (a4).length c6] w0 (Post Ms κ0 w0 fun v κ w => ∃(p233:Option Nat) (cs234:List Nat),v = .tuple #[.pointer (pa p233),vi r.2]∧SS Ms κ0 w0 κ w [.ext (optX o_gate_Gate p233 cs234 r.1)] []):=by
 have hS:=hB.hS
 have hfr:=hS.fresh
 refine enter (N:=(98)) (L:=[(0,vi a1),(1,vi a2),(2,.agg (flat [eb 4 a3]).toArray),(3,.slice p5 (a4).length c6)]) Tryz.func7 rfl Tryz.ntmps7 (show 4≤(98) by decide) rfl fun a hF=>?_
 unfold M.gate_New at H
 refine wpIn_seq_k fun K7 hK7=>?_
 refine wpIn_region_lit ?_
 refine wc (wbx hF hS [eb 4 a3] (sgEnc (hS.get 0 rfl) sgNil) fun b8 a w hF hS=>?_)
 refine wp 2 [0,1,3,6] hF fun a hF=>?_
 refine wpListIn_nil ?_
 refine hK7 _ _ ?_
 refine wpIn_seq_k fun K9 hK9=>?_
 refine wpIn_region_lit ?_
 refine wp 2 [0,1,3,6,17,18] hF fun a hF=>?_
 refine wc (wls hF hS 0 0 1 fun a hF=>?_)
 refine bind_split H (fun x10 hx10 H=>?_)
 refine wc (wcS 0 [0] hF hS (fun hS=>C_stab_New N a1 a2 a3 (hS.sbK [0]) hx10) ?_)
 rintro _ κ w a ⟨p11,cs12,rfl,h2⟩ hF hB
 have hS:=hB _ _ h2
 refine wp 5 [0,1,3,6,10,11] hF fun a hF=>?_
 refine wpListIn_nil ?_
 refine hK9 _ _ ?_
 refine wpIn_seq_k fun K13 hK13=>?_
 refine wpIn_seq_k fun K14 hK14=>?_
 refine wpIn_region_lit ?_
 refine bind_split H (fun v16 hv16 H=>?_)
 refine wl_join (fun a w => ∃κ:Gh,Fr (98) [] [(0,vi a1),(1,vi a2),(3,.slice p5 (a4).length c6),(6,pt b8 0),(10,.pointer (pa p11)),(29,vb v16)] a∧SS Ms κ0 w0 κ w [.box b8 22 [eb 4 a3],.ext (optX o_stab_Table p11 cs12 x10.1)] [Ro.mp (fInt .i64).ty p5 c6 a4,ml a3 4]∧True) ?_ ?_
 refine wp 3 [0,1,3,6,10,25] hF fun a hF=>?_
 refine bif_split hv16 (fun hb hv16=>?_) (fun hb hv16=>?_)
 have hF:=hF.boolv 25 (by kernel_rfl) hb
 refine wp 4 [0,1,3,6,10,29] hF fun a hF=>?_
 refine wpListIn_nil ?_
 cases hv16
 exact ⟨_,hF.kp [0,1,3,6,10,29],hS.sp [1,0] [1,0],trivial⟩
 have hF:=hF.boolv 25 (by kernel_rfl) hb
 refine wp 4 [0,1,3,6,10,29] hF fun a hF=>?_
 refine wpListIn_nil ?_
 cases hv16
 exact ⟨_,hF.kp [0,1,3,6,10,29],hS.sp [1,0] [1,0],trivial⟩
 rintro a w ⟨κ,hF,hS,-⟩
 refine hK14 _ _ ?_
 refine bif_split H (fun hb H=>?_) (fun hb H=>?_)
 refine cond_t hF (by kernel_rfl) hb ?_
 refine wpIn_seq_k fun K17 hK17=>?_
 refine wpIn_region_lit ?_
 refine wp 2 [8,9] hF fun a hF=>?_
 refine wpListIn_nil ?_
 refine hK17 _ _ ?_
 refine wpIn_ret ?_
 have hS:=hS.addOpt o_gate_Gate
 cases H
 exact ret_done hF hS (res2 Tryz.results7 (rvt hF) (rvt hF)) ⟨none,[],rfl,hS.sp [0] []⟩
 refine cond_f hF (by kernel_rfl) hb ?_
 refine wpIn_skip ?_
 refine hK13 _ _ ?_
 refine wpIn_seq_k fun K18 hK18=>?_
 refine rga (fun _=>True) [] ?_
 have hS:=hS.drew
 refine bind_split H (fun x19 hx19 H=>?_)
 refine bind_split H (fun x22 hx22 H=>?_)
 refine bind_split H (fun x24 hx24 H=>?_)
 refine any_pure [0,1,2,4,6] [0,6,10,30,31,32,34,36] (L':=[(0,vi a1),(6,pt b8 0),(10,.pointer (pa p11)),(30,vi a1),(31,vi a2),(32,.slice p5 (a4).length c6),(34,vi a2),(36,vi a2)]) (listed':=(bitA 14 87)) (fuel:=9) hF trivial (by kernel_rfl) (by intro c a w t v h; cases t<;>exact h) (by kernel_rfl) rfl fun a hF=>?_
 refine bind_split H (fun x30 hx30 H=>?_)
 refine bind_split H (fun x33 hx33 H=>?_)
 refine bind_split H (fun x35 hx35 H=>?_)
 refine any_par [⟨3,33,fun v A F => ∃(p31:Option Addr) (c32:Nat),v = .slice p31 (x30).length c32∧A=[.ext (ownX (fInt .i64) 3 p31 c32 x30)]∧F=[]⟩,⟨5,35,fun v A F => ∃p34:Option Addr,v = .slice p34 (x33).length (x33).length∧A=[.ext (ownX fBool 4 p34 ((x33).length) x33)]∧F=[]⟩,⟨7,37,fun v A F => ∃p36:Option Addr,v = .slice p36 (x35).length (x35).length∧A=[.ext (ownX (fInt .i64) 3 p36 ((x35).length) x35)]∧F=[]⟩,⟨8,38,fun v A F => ∃b37:Nat,v = .map (some b37)∧A=[.ext (objX (some b37) (.map (#[]) 0))]∧F=[Map.mp (kInt .u64) false (fInt .i64).ty (some b37) (#[]) 0 (some [])]⟩,⟨9,39,fun v A F => ∃b38:Nat,v = .map (some b38)∧A=[.ext (objX (some b38) (.map (#[]) 0))]∧F=[Map.mp (kInt .u64) true t_gate_call (some b38) (#[]) 0 (some [])]⟩,⟨10,40,fun v A F => ∃b39:Nat,v = .map (some b39)∧A=[.ext (objX (some b39) (.map (#[]) 0))]∧F=[Map.mp (kInt .u64) true t_gate_load (some b39) (#[]) 0 (some [])]⟩] 3 (L:=[(0,vi a1),(6,pt b8 0),(10,.pointer (pa p11)),(30,vi a1),(31,vi a2),(32,.slice p5 (a4).length c6),(34,vi a2),(36,vi a2)]) (R:=[Ro.mp (fInt .i64).ty p5 c6 a4,ml a3 4]) (C:=[.box b8 22 [eb 4 a3],.ext (optX o_stab_Table p11 cs12 x10.1)]) hF hS (fun s hs=>?_) (show List.Nodup [33,35,37,38,39,40] by decide) (show List.Nodup [3,5,7,8,9,10] by decide) (fun s hs=>?_) (by kernel_rfl) rfl ?_
 simp only [List.mem_cons,List.not_mem_nil,or_false] at hs
 rcases hs with rfl|rfl|rfl|rfl|rfl|rfl
 exact ⟨_,rfl,rfl,rfl,fun L1 R1 C κ a w K hF hS k=>wo_appendO hF (hS.addOwn (fInt .i64) 3) (by kernel_rfl) 0 0 rfl (by kernel_rfl) (by kernel_rfl) rfl rfl rfl rfl hx30 (by kernel_rfl) (i:=Tryz.t3) (z:=vi 0) (by kernel_rfl) (by kernel_rfl) (by kernel_rfl) fun p c κ a w hF hS=>k _ _ _ _ _ _ ⟨p,c,rfl,rfl,rfl⟩ hF hS⟩
 exact ⟨_,rfl,rfl,rfl,fun L1 R1 C κ a w K hF hS k=>wo_makeO (E:=4) (i:=Tryz.t4) (z:=vb false) (zm:=false) (kl := .i64) (kc := .i64) hF hS (by kernel_rfl) fBool rfl (by kernel_rfl) (by kernel_rfl) hx33 (by kernel_rfl) (by kernel_rfl) (by kernel_rfl) (by kernel_rfl) (Nat.le_of_ble_eq_true (by kernel_rfl)) (by kernel_rfl) fun p a w hF hS=>k _ _ _ _ _ _ ⟨p,rfl,rfl,rfl⟩ hF hS⟩
 exact ⟨_,rfl,rfl,rfl,fun L1 R1 C κ a w K hF hS k=>wo_makeO (E:=3) (i:=Tryz.t3) (z:=vi 0) (zm:=0) (kl := .i64) (kc := .i64) hF hS (by kernel_rfl) (fInt .i64) rfl (by kernel_rfl) (by kernel_rfl) hx35 (by kernel_rfl) (by kernel_rfl) (by kernel_rfl) (by kernel_rfl) (Nat.le_of_ble_eq_true (by kernel_rfl)) (by kernel_rfl) fun p a w hF hS=>k _ _ _ _ _ _ ⟨p,rfl,rfl,rfl⟩ hF hS⟩
 exact ⟨_,rfl,rfl,rfl,fun L1 R1 C κ a w K hF hS k=>wo_makeMap hF hS (by kernel_rfl) (kInt .u64) false (fInt .i64).ty rfl fun b a w hF hS=>k _ _ _ _ _ _ ⟨b,rfl,rfl,rfl⟩ hF hS⟩
 exact ⟨_,rfl,rfl,rfl,fun L1 R1 C κ a w K hF hS k=>wo_makeMap hF hS (by kernel_rfl) (kInt .u64) true t_gate_call rfl fun b a w hF hS=>k _ _ _ _ _ _ ⟨b,rfl,rfl,rfl⟩ hF hS⟩
 exact ⟨_,rfl,rfl,rfl,fun L1 R1 C κ a w K hF hS k=>wo_makeMap hF hS (by kernel_rfl) (kInt .u64) true t_gate_load rfl fun b a w hF hS=>k _ _ _ _ _ _ ⟨b,rfl,rfl,rfl⟩ hF hS⟩
 simp only [List.mem_cons,List.not_mem_nil,or_false] at hs
 rcases hs with rfl|rfl|rfl|rfl|rfl|rfl<;>rfl
 intro f κ a w hΦ hF hS
 obtain ⟨p31,c32,ev0,ea0,ef0⟩:=hΦ _ (List.mem_of_getElem? (i:=0) rfl)
 obtain ⟨p34,ev1,ea1,ef1⟩:=hΦ _ (List.mem_of_getElem? (i:=1) rfl)
 obtain ⟨p36,ev2,ea2,ef2⟩:=hΦ _ (List.mem_of_getElem? (i:=2) rfl)
 obtain ⟨b37,ev3,ea3,ef3⟩:=hΦ _ (List.mem_of_getElem? (i:=3) rfl)
 obtain ⟨b38,ev4,ea4,ef4⟩:=hΦ _ (List.mem_of_getElem? (i:=4) rfl)
 obtain ⟨b39,ev5,ea5,ef5⟩:=hΦ _ (List.mem_of_getElem? (i:=5) rfl)
 simp only [List.map_cons,List.map_nil,List.flatMap_cons,List.flatMap_nil,List.append_nil,ev0,ea0,ef0,ev1,ea1,ef1,ev2,ea2,ef2,ev3,ea3,ef3,ev4,ea4,ef4,ev5,ea5,ef5] at hF hS
 have hF:Fr (98) _ [(0,vi a1),(6,pt b8 0),(10,.pointer (pa p11)),(30,vi a1),(31,vi a2),(32,.slice p5 (a4).length c6),(33,.slice p31 (x30).length c32),(34,vi a2),(35,.slice p34 (x33).length (x33).length),(36,vi a2),(37,.slice p36 (x35).length (x35).length),(38,.map (some b37)),(39,.map (some b38)),(40,.map (some b39))] a:=hF.kp [0,6,10,30,31,32,33,34,35,36,37,38,39,40]
 have hS:SS Ms κ0 w0 κ w [.ext (ownX (fInt .i64) 3 p31 c32 x30),.ext (ownX fBool 4 p34 ((x33).length) x33),.ext (ownX (fInt .i64) 3 p36 ((x35).length) x35),.ext (objX (some b37) (.map (#[]) 0)),.ext (objX (some b38) (.map (#[]) 0)),.ext (objX (some b39) (.map (#[]) 0)),.box b8 22 [eb 4 a3],.ext (optX o_stab_Table p11 cs12 x10.1)] [Ro.mp (fInt .i64).ty p5 c6 a4,ml a3 4,Map.mp (kInt .u64) false (fInt .i64).ty (some b37) (#[]) 0 (some []),Map.mp (kInt .u64) true t_gate_call (some b38) (#[]) 0 (some []),Map.mp (kInt .u64) true t_gate_load (some b39) (#[]) 0 (some [])]:=hS
 refine any_weakS hS [] ?_
 refine anp [11] [0,6,10,41] hF (hS.sx (rg 8) (rg 5)) fun a hF=>?_
 refine ago 12 hF rfl ?_
 have hS:=hS.add (m:=ml (List.replicate 4 (none:Option Nat)) 4) (List.length_replicate)
 have hS:=hS.add (m:=ml (List.replicate 4 0) 4) (List.length_replicate)
 refine wbx hF hS [si a1,si a2,si 0,si 0,si 0,si 0,sl none 0 0,sl none 0 0,sl p31 (x30).length c32,sl p34 (x33).length (x33).length,sl p36 (x35).length (x35).length,sb false,(1,[.pointer none]),(1,[.pointer none]),(1,[.pointer none]),su 0,(4,(encs fPtr (List.replicate 4 (none:Option Nat)))),ei 4 (List.replicate 4 0),ei 4 (List.replicate 4 0),(1,[.map (some b37)]),(1,[.map (some b38)]),sl none 0 0,(1,[.map (some b39)]),su 0,(1,[.pointer none]),si 0,si 0,sl none 0 0,sl none 0 0,su 0,sb false,sb false,sb false,sl none 0 0,sl none 0 0] (sgN 16 (sgEnc List.length_replicate (sgEnc List.length_replicate (sgEnc List.length_replicate (sgN 16 sgNil))))) fun b29 a w hF hS=>?_
 refine ⟨fun _=>(hS.sx [1,2,3,4,5,6,7,8] [2,3,4,5,6]),?_⟩
 refine anp [13] [0,6,10,12] hF (hS.sx [1,2,3,4,5,6,7,8] [2,3,4,5,6]) fun a hF=>?_
 refine and_ ?_
 refine hK18 _ _ ?_
 refine wpIn_seq_k fun K40 hK40=>?_
 refine wpIn_seq_k fun K41 hK41=>?_
 refine wpIn_region_lit ?_
 refine wp 3 [0,6,10,12,45] hF fun a hF=>?_
 refine wc (wld hF hS 0 9 0 fun a hF=>?_)
 refine wp 2 [0,6,10,12,47,48] hF fun a hF=>?_
 refine wpListIn_nil ?_
 refine hK41 _ _ ?_
 refine wpIn_block ?_
 refine loop_fuel (n:=N) (fun n a w => ∃(κ:Gh) (y92:List Bool) (y93:Int),Fr (98) [] [(0,vi a1),(6,pt b8 0),(10,.pointer (pa p11)),(12,pt b29 0),(47,vi ((x33).length:Int)),(48,vi y93)] a∧SS Ms κ0 w0 κ w [.box b29 87 [si a1,si a2,si 0,si 0,si 0,si 0,sl none 0 0,sl none 0 0,sl p31 (x30).length c32,sl p34 (y92).length (x33).length,sl p36 (x35).length (x35).length,sb false,(1,[.pointer none]),(1,[.pointer none]),(1,[.pointer none]),su 0,(4,(encs fPtr (List.replicate 4 (none:Option Nat)))),ei 4 (List.replicate 4 0),ei 4 (List.replicate 4 0),(1,[.map (some b37)]),(1,[.map (some b38)]),sl none 0 0,(1,[.map (some b39)]),su 0,(1,[.pointer none]),si 0,si 0,sl none 0 0,sl none 0 0,su 0,sb false,sb false,sb false,sl none 0 0,sl none 0 0],.box b8 22 [eb 4 a3],.ext (ownX (fInt .i64) 3 p31 c32 x30),.ext (ownX fBool 4 p34 ((x33).length) y92),.ext (ownX (fInt .i64) 3 p36 ((x35).length) x35),.ext (arrX o_inbox_Box (List.replicate 4 (none:Option Nat)) [] (List.replicate 4 none)),.ext (objX (some b37) (.map (#[]) 0)),.ext (objX (some b38) (.map (#[]) 0)),.ext (objX (some b39) (.map (#[]) 0)),.ext (optX o_stab_Table p11 cs12 x10.1)] [Ro.mp fStr.ty none 0 ([]:List ByteArray),Ro.mp (fInt .i64).ty none 0 ([]:List Int),ml (List.replicate 4 (none:Option Nat)) 4,ml (List.replicate 4 0) 4,Map.mp (kInt .u64) false (fInt .i64).ty (some b37) (#[]) 0 (some []),Map.mp (kInt .u64) true t_gate_call (some b38) (#[]) 0 (some []),Ro.mp t_gate_call none 0 ([]:List T_gate_call),Map.mp (kInt .u64) true t_gate_load (some b39) (#[]) 0 (some []),Ro.mp (fInt .u64).ty none 0 ([]:List Int),Ro.mp t_api_Mail none 0 ([]:List T_api_Mail),Ro.mp f_gate_Reply.ty none 0 ([]:List T_gate_Reply),ml a3 4]∧M.gate_New_L1 N n a1 a2 a3 x10 x30 x33 x35 y92 y93=some r) ?_ ?_
 have hS:=hS.add (m:=Ro.mp fStr.ty none 0 ([]:List ByteArray)) (Ro.nil fStr.ty _ _)
 have hS:=hS.add (m:=Ro.mp (fInt .i64).ty none 0 ([]:List Int)) (Ro.nil (fInt .i64).ty _ _)
 have hS:=hS.add (m:=Ro.mp t_gate_call none 0 ([]:List T_gate_call)) (Ro.nil t_gate_call _ _)
 have hS:=hS.add (m:=Ro.mp (fInt .u64).ty none 0 ([]:List Int)) (Ro.nil (fInt .u64).ty _ _)
 have hS:=hS.add (m:=Ro.mp t_api_Mail none 0 ([]:List T_api_Mail)) (Ro.nil t_api_Mail _ _)
 have hS:=hS.add (m:=Ro.mp f_gate_Reply.ty none 0 ([]:List T_gate_Reply)) (Ro.nil f_gate_Reply.ty _ _)
 have hS:=hS.addArr o_inbox_Box 4
 exact ⟨_,x33,0,hF.kp [0,6,10,12,47,48],hS.sp [1,8,2,3,4,0,5,6,7,9] [5,4,7,6,10,11,3,12,2,1,0,9],H⟩
 rintro n a w ⟨κ,y92,y93,hF,hS,H⟩
 rcases n with _|fuel1
 simp [M.gate_New_L1] at H
 simp only [M.gate_New_L1] at H
 refine wpIn_seq_k fun K94 hK94=>?_
 refine wpIn_region_lit ?_
 refine wp 1 [0,6,10,12,47,48,49] hF fun a hF=>?_
 refine wpListIn_nil ?_
 refine hK94 _ _ ?_
 refine wpIn_seq_k fun K95 hK95=>?_
 refine bif_split H (fun hb H=>?_) (fun hb H=>?_)
 refine cond_t hF (by kernel_rfl) hb ?_
 refine wpIn_skip ?_
 refine hK95 _ _ ?_
 refine wpIn_seq_k fun K96 hK96=>?_
 refine wpIn_block ?_
 refine wpIn_seq_k fun K97 hK97=>?_
 refine wpIn_region_lit ?_
 refine wp 2 [0,6,10,12,13,47,48] hF fun a hF=>?_
 refine wpListIn_nil ?_
 refine hK97 _ _ ?_
 refine wpIn_region_lit ?_
 refine wp 3 [0,6,10,12,13,47,48,53] hF fun a hF=>?_
 refine wc (wld hF hS 0 9 0 fun a hF=>?_)
 refine wl_pure (L':=[(0,vi a1),(6,pt b8 0),(10,.pointer (pa p11)),(12,pt b29 0),(47,vi ((x33).length:Int)),(48,vi y93),(54,.slice p34 (y92).length (x33).length),(55,vi y93)]) 1 [0,6,10,12,47,48,54,55] hF (by kernel_rfl) fun a hF=>?_
 refine bind_split H (fun x98 hx98 H=>?_)
 refine wc (wo_indexO hF hS (by kernel_rfl) 3 (sz:=1) rfl rfl rfl rfl rfl hx98 (by kernel_rfl) (by kernel_rfl) fun b99 f100 a hpx98 hF=>?_)
 refine wc (wo_storeOL hF hS (by kernel_rfl) 3 (z:=true) rfl rfl rfl rfl hpx98 hx98 rfl (by kernel_rfl) rfl (by kernel_rfl) (Cf:=(fun nn=>[.box b29 87 [si a1,si a2,si 0,si 0,si 0,si 0,sl none 0 0,sl none 0 0,sl p31 (x30).length c32,sl p34 nn (x33).length,sl p36 (x35).length (x35).length,sb false,(1,[.pointer none]),(1,[.pointer none]),(1,[.pointer none]),su 0,(4,(encs fPtr (List.replicate 4 (none:Option Nat)))),ei 4 (List.replicate 4 0),ei 4 (List.replicate 4 0),(1,[.map (some b37)]),(1,[.map (some b38)]),sl none 0 0,(1,[.map (some b39)]),su 0,(1,[.pointer none]),si 0,si 0,sl none 0 0,sl none 0 0,su 0,sb false,sb false,sb false,sl none 0 0,sl none 0 0],.box b8 22 [eb 4 a3],.ext (ownX (fInt .i64) 3 p31 c32 x30),.ext (ownX fBool 4 p34 ((x33).length) (List.set y92 (Int.toNat y93) true)),.ext (ownX (fInt .i64) 3 p36 ((x35).length) x35),.ext (arrX o_inbox_Box (List.replicate 4 (none:Option Nat)) [] (List.replicate 4 none)),.ext (objX (some b37) (.map (#[]) 0)),.ext (objX (some b38) (.map (#[]) 0)),.ext (objX (some b39) (.map (#[]) 0)),.ext (optX o_stab_Table p11 cs12 x10.1)])) (Lf:=(fun nn=>[(0,vi a1),(6,pt b8 0),(10,.pointer (pa p11)),(12,pt b29 0),(47,vi ((x33).length:Int)),(48,vi y93),(54,.slice p34 nn (x33).length),(55,vi y93)])) [0,6,10,12,47,48,54,55] (by kernel_rfl) (by kernel_rfl) fun a w hF hS=>?_)
 refine wpListIn_nil ?_
 refine hK96 _ _ ?_
 refine wpIn_region_lit ?_
 refine wp 2 [0,6,10,12,47,48] hF fun a hF=>?_
 refine wpListIn_nil ?_
 exact ⟨fuel1,Nat.lt_succ_self _,_,(List.set y92 (Int.toNat y93) true),IntKind.i64.wrap (y93+1),hF.kp [0,6,10,12,47,48],hS.sp (rg 10) (rg 12),H⟩
 refine cond_f hF (by kernel_rfl) hb ?_
 refine wpIn_exit ?_
 refine hK40 _ _ ?_
 refine wpIn_seq_k fun K101 hK101=>?_
 refine wpIn_region_lit ?_
 refine wp 1 [0,6,10,12,58] hF fun a hF=>?_
 have hS:=hS.addNil 95 5
 have hS:=hS.addNil 32 1
 have hS:=hS.addNil 32 1
 have hS:=hS.addOpt o_order_Log
 have hS:=hS.addOpt o_coord_Table
 have hS:=hS.addOpt o_gate_move
 refine bind_split H (fun x102 hx102 H=>?_)
 have hgx1020:=hS.segs 6 rfl
 refine wc (wcS 11 [6,5,4,3,2,1,11,12,13,14,0,7,8,9,10,15] hF hS (fun hS=>C_gate_Gate_empty N 0 0 0 0 (T_api_Map.mk ([]:List ByteArray) ([]:List Int)) none none (List.replicate 4 none) (List.replicate 4 0) (List.replicate 4 0) (some []) (some []) ([]:List T_gate_call) (some []) none 0 ([]:List Int) ([]:List Int) 0 false false false (flat [si a1,si a2]) none 0 none 0 (flat [sl p31 (x30).length c32,sl p34 (y92).length (x33).length,sl p36 (x35).length (x35).length,sb false,(1,[.pointer none])]) none [] none [] [vu 0] (List.replicate 4 (none:Option Nat)) [] (some b37) (#[]) 0 (some b38) (#[]) 0 none 0 (some b39) (#[]) 0 [vu 0] none [] [vi 0] none 0 none 0 (flat [sl none 0 0,sl none 0 0]) b29 ((hS.regr 0 [(true,2),(false,6),(true,5),(false,20),(true,2)] rfl).sbK [0,1,2,3,3,4,5,6,7,8,8]) hx102) ?_)
 rintro _ κ w a ⟨p103,c104,p105,c106,p107,cs108,p109,cs110,p111,cs112,p113,m114,c115,p116,m117,c118,p119,c120,p121,m122,c123,p124,cs125,p126,c127,p128,c129,rfl,h2⟩ hF hB
 have hS:=(hB _ _ h2).unregrK 0 [(true,2),(false,6),(true,5),(false,20),(true,2)] (s':=[si a1,si a2,si x102.1,si 0,si x102.2.1,si x102.2.2.1,sl p103 (x102.2.2.2.1.Cuts).length c104,sl p105 (x102.2.2.2.1.Nodes).length c106,sl p31 (x30).length c32,sl p34 (y92).length (x33).length,sl p36 (x35).length (x35).length,sb false,(1,[.pointer none]),(1,[.pointer (pa p107)]),(1,[.pointer (pa p109)]),su 0,(4,(encs fPtr p111)),ei 4 x102.2.2.2.2.2.2.2.1,ei 4 x102.2.2.2.2.2.2.2.2.1,(1,[.map p113]),(1,[.map p116]),sl p119 (x102.2.2.2.2.2.2.2.2.2.2.2.1).length c120,(1,[.map p121]),su 0,(1,[.pointer (pa p124)]),si 0,si x102.2.2.2.2.2.2.2.2.2.2.2.2.2.2.1,sl p126 (x102.2.2.2.2.2.2.2.2.2.2.2.2.2.2.2.1).length c127,sl p128 (x102.2.2.2.2.2.2.2.2.2.2.2.2.2.2.2.2.1).length c129,su x102.2.2.2.2.2.2.2.2.2.2.2.2.2.2.2.2.2.1,sb x102.2.2.2.2.2.2.2.2.2.2.2.2.2.2.2.2.2.2.1,sb x102.2.2.2.2.2.2.2.2.2.2.2.2.2.2.2.2.2.2.2.1,sb x102.2.2.2.2.2.2.2.2.2.2.2.2.2.2.2.2.2.2.2.2,sl none 0 0,sl none 0 0]) hgx1020 rfl
 refine wpListIn_nil ?_
 refine hK101 _ _ ?_
 refine wpIn_seq_k fun K130 hK130=>?_
 refine wpIn_region_lit ?_
 refine wp 4 [0,6,12,61,63] hF fun a hF=>?_
 refine wc (wst hF hS 0 12 1 [(1,[.pointer (pa p11)])] (sgN 1 sgNil) fun a w hF hS=>?_)
 refine wpListIn_nil ?_
 refine hK130 _ _ ?_
 refine seq_join (fun a w => ∃(κ:Gh) (y131:Int) (y132:List ByteArray) (p133:Option Addr) (c134:Nat) (y135:List Int) (p136:Option Addr) (c137:Nat) (p138:List (Option Nat)) (cs139:List Nat) (y140:List (Option T_inbox_Box)) (y141:List Int),Fr (98) [] [(12,pt b29 0)] a∧SS Ms κ0 w0 κ w [.box b29 87 [si a1,si a2,si y131,si 0,si x102.2.1,si x102.2.2.1,sl p133 (y132).length c134,sl p136 (y135).length c137,sl p31 (x30).length c32,sl p34 (y92).length (x33).length,sl p36 (x35).length (x35).length,sb false,(1,[.pointer (pa p11)]),(1,[.pointer (pa p107)]),(1,[.pointer (pa p109)]),su 0,(4,(encs fPtr p138)),ei 4 y141,ei 4 x102.2.2.2.2.2.2.2.2.1,(1,[.map p113]),(1,[.map p116]),sl p119 (x102.2.2.2.2.2.2.2.2.2.2.2.1).length c120,(1,[.map p121]),su 0,(1,[.pointer (pa p124)]),si 0,si x102.2.2.2.2.2.2.2.2.2.2.2.2.2.2.1,sl p126 (x102.2.2.2.2.2.2.2.2.2.2.2.2.2.2.2.1).length c127,sl p128 (x102.2.2.2.2.2.2.2.2.2.2.2.2.2.2.2.2.1).length c129,su x102.2.2.2.2.2.2.2.2.2.2.2.2.2.2.2.2.2.1,sb x102.2.2.2.2.2.2.2.2.2.2.2.2.2.2.2.2.2.2.1,sb x102.2.2.2.2.2.2.2.2.2.2.2.2.2.2.2.2.2.2.2.1,sb x102.2.2.2.2.2.2.2.2.2.2.2.2.2.2.2.2.2.2.2.2,sl none 0 0,sl none 0 0],.tok p119 95 5 (x102.2.2.2.2.2.2.2.2.2.2.2.1).length c120,.tok p126 32 1 (x102.2.2.2.2.2.2.2.2.2.2.2.2.2.2.2.1).length c127,.tok p128 32 1 (x102.2.2.2.2.2.2.2.2.2.2.2.2.2.2.2.2.1).length c129,.ext (ownX (fInt .i64) 3 p31 c32 x30),.ext (ownX fBool 4 p34 ((x33).length) y92),.ext (ownX (fInt .i64) 3 p36 ((x35).length) x35),.ext (optX o_stab_Table p11 cs12 x10.1),.ext (optX o_order_Log p107 cs108 x102.2.2.2.2.1),.ext (optX o_coord_Table p109 cs110 x102.2.2.2.2.2.1),.ext (arrX o_inbox_Box p138 cs139 y140),.ext (objX p113 (.map m114 c115)),.ext (objX p116 (.map m117 c118)),.ext (objX p121 (.map m122 c123)),.ext (optX o_gate_move p124 cs125 x102.2.2.2.2.2.2.2.2.2.2.2.2.2.1)] [Ro.mp fStr.ty p133 c134 y132,Ro.mp (fInt .i64).ty p136 c137 y135,ml p138 4,ml y141 4,ml x102.2.2.2.2.2.2.2.2.1 4,Map.mp (kInt .u64) false (fInt .i64).ty p113 m114 c115 x102.2.2.2.2.2.2.2.2.2.1,Map.mp (kInt .u64) true t_gate_call p116 m117 c118 x102.2.2.2.2.2.2.2.2.2.2.1,Ro.mp t_gate_call p119 c120 x102.2.2.2.2.2.2.2.2.2.2.2.1,Map.mp (kInt .u64) true t_gate_load p121 m122 c123 x102.2.2.2.2.2.2.2.2.2.2.2.2.1,Ro.mp (fInt .u64).ty p126 c127 x102.2.2.2.2.2.2.2.2.2.2.2.2.2.2.2.1,Ro.mp (fInt .u64).ty p128 c129 x102.2.2.2.2.2.2.2.2.2.2.2.2.2.2.2.2.1,Ro.mp t_api_Mail none 0 ([]:List T_api_Mail),Ro.mp f_gate_Reply.ty none 0 ([]:List T_gate_Reply)]∧M.gate_New_k2 N a1 a2 x10 x30 x35 y92 x102 y131 y132 y135 y140 y141=some r) ?_ ?_
 refine wpIn_seq_k fun K144 hK144=>?_
 refine wpIn_region_lit ?_
 refine wl_pure (L':=[(0,vi a1),(6,pt b8 0),(12,pt b29 0),(64,vi a1)]) 1 [0,6,12,64] hF (by kernel_rfl) fun a hF=>?_
 refine bind_split H (fun x145 hx145 H=>?_)
 refine wc (wo_indexArr hF (by kernel_rfl) (E:=4) (sz:=1) (n:=4) rfl rfl (i:=a1) rfl (idx_lt hx145 (hS.get 22 rfl)) (by kernel_rfl) (by kernel_rfl) fun a hF=>?_)
 refine wc (wo_loadA1 (t:=fBool) hF hS (by kernel_rfl) 11 0 (v:=vb x145) rfl rfl rfl rfl hx145 rfl rfl (by kernel_rfl) (by kernel_rfl) fun a hF=>?_)
 refine wpListIn_nil ?_
 refine hK144 _ _ ?_
 refine bif_split H (fun hb H=>?_) (fun hb H=>?_)
 refine cond_t hF (by kernel_rfl) hb ?_
 refine wpIn_seq_k fun K146 hK146=>?_
 refine wpIn_region_lit ?_
 refine wp 2 [0,6,12,67,68] hF fun a hF=>?_
 refine bind_split H (fun x147 hx147 H=>?_)
 refine wc (wo_callP hF hS (by kernel_rfl) (by kernel_rfl) (C_span_Whole N hS.fresh 0 ((hS.pick [] (by kernel_rfl)).ro) hx147) ?_)
 rintro _ κ w a ⟨p148,c149,p150,c151,rfl,hR,hN⟩ hF hS hO
 have hS:=hS.adds hR
 have hS:=hS.addC hO hN
 refine wp 2 [0,6,12,68,69,71] hF fun a hF=>?_
 refine wc (wst hF hS 2 2 1 [si 2] (sgN 1 sgNil) fun a w hF hS=>?_)
 refine wp 2 [0,6,12,69,73] hF fun a hF=>?_
 refine wc (wst hF hS 2 6 2 [sl p148 (x147.Cuts).length c149,sl p150 (x147.Nodes).length c151] (sgN 2 sgNil) fun a w hF hS=>?_)
 refine wpListIn_nil ?_
 refine hK146 _ _ ?_
 refine wpIn_seq_k fun K152 hK152=>?_
 refine wpIn_region_lit ?_
 refine wc (wls hF hS 13 0 1 fun a hF=>?_)
 refine wp 1 [0,12,74,75] hF fun a hF=>?_
 refine wpListIn_nil ?_
 refine hK152 _ _ ?_
 refine wpIn_block ?_
 refine loop_fuel (n:=N) (fun n a w => ∃(κ:Gh) (p203:List (Option Nat)) (cs204:List Nat) (y205:List (Option T_inbox_Box)) (y206:List Int) (y207:Int),Fr (98) [] [(0,vi a1),(12,pt b29 0),(74,.agg (flat [eb 4 a3]).toArray),(75,vi y207)] a∧SS Ms κ0 w0 κ w [.box b29 87 [si a1,si a2,si 2,si 0,si x102.2.1,si x102.2.2.1,sl p148 (x147.Cuts).length c149,sl p150 (x147.Nodes).length c151,sl p31 (x30).length c32,sl p34 (y92).length (x33).length,sl p36 (x35).length (x35).length,sb false,(1,[.pointer (pa p11)]),(1,[.pointer (pa p107)]),(1,[.pointer (pa p109)]),su 0,(4,(encs fPtr p203)),ei 4 y206,ei 4 x102.2.2.2.2.2.2.2.2.1,(1,[.map p113]),(1,[.map p116]),sl p119 (x102.2.2.2.2.2.2.2.2.2.2.2.1).length c120,(1,[.map p121]),su 0,(1,[.pointer (pa p124)]),si 0,si x102.2.2.2.2.2.2.2.2.2.2.2.2.2.2.1,sl p126 (x102.2.2.2.2.2.2.2.2.2.2.2.2.2.2.2.1).length c127,sl p128 (x102.2.2.2.2.2.2.2.2.2.2.2.2.2.2.2.2.1).length c129,su x102.2.2.2.2.2.2.2.2.2.2.2.2.2.2.2.2.2.1,sb x102.2.2.2.2.2.2.2.2.2.2.2.2.2.2.2.2.2.2.1,sb x102.2.2.2.2.2.2.2.2.2.2.2.2.2.2.2.2.2.2.2.1,sb x102.2.2.2.2.2.2.2.2.2.2.2.2.2.2.2.2.2.2.2.2,sl none 0 0,sl none 0 0],.tok p148 9 1 (x147.Cuts).length c149,.tok p150 3 1 (x147.Nodes).length c151,.tok p119 95 5 (x102.2.2.2.2.2.2.2.2.2.2.2.1).length c120,.tok p126 32 1 (x102.2.2.2.2.2.2.2.2.2.2.2.2.2.2.2.1).length c127,.tok p128 32 1 (x102.2.2.2.2.2.2.2.2.2.2.2.2.2.2.2.2.1).length c129,.ext (ownX (fInt .i64) 3 p31 c32 x30),.ext (ownX fBool 4 p34 ((x33).length) y92),.ext (ownX (fInt .i64) 3 p36 ((x35).length) x35),.ext (optX o_stab_Table p11 cs12 x10.1),.ext (optX o_order_Log p107 cs108 x102.2.2.2.2.1),.ext (optX o_coord_Table p109 cs110 x102.2.2.2.2.2.1),.ext (arrX o_inbox_Box p203 cs204 y205),.ext (objX p113 (.map m114 c115)),.ext (objX p116 (.map m117 c118)),.ext (objX p121 (.map m122 c123)),.ext (optX o_gate_move p124 cs125 x102.2.2.2.2.2.2.2.2.2.2.2.2.2.1)] [Ro.mp fStr.ty p148 c149 x147.Cuts,Ro.mp (fInt .i64).ty p150 c151 x147.Nodes,ml p203 4,ml y206 4,ml x102.2.2.2.2.2.2.2.2.1 4,Map.mp (kInt .u64) false (fInt .i64).ty p113 m114 c115 x102.2.2.2.2.2.2.2.2.2.1,Map.mp (kInt .u64) true t_gate_call p116 m117 c118 x102.2.2.2.2.2.2.2.2.2.2.1,Ro.mp t_gate_call p119 c120 x102.2.2.2.2.2.2.2.2.2.2.2.1,Map.mp (kInt .u64) true t_gate_load p121 m122 c123 x102.2.2.2.2.2.2.2.2.2.2.2.2.1,Ro.mp (fInt .u64).ty p126 c127 x102.2.2.2.2.2.2.2.2.2.2.2.2.2.2.2.1,Ro.mp (fInt .u64).ty p128 c129 x102.2.2.2.2.2.2.2.2.2.2.2.2.2.2.2.2.1,Ro.mp t_api_Mail none 0 ([]:List T_api_Mail),Ro.mp f_gate_Reply.ty none 0 ([]:List T_gate_Reply),ml a3 4]∧M.gate_New_L3 N n a1 a2 a3 x10 x30 x35 y92 x102 x147 y205 y206 y207=some r) ?_ ?_
 exact ⟨_,p111,cs112,x102.2.2.2.2.2.2.1,x102.2.2.2.2.2.2.2.1,0,hF.kp [0,12,74,75],hS.sp [2,0,1,3,4,5,14,15,16,17,6,7,8,9,10,11,12] [0,1,4,5,6,7,8,9,10,11,12,22,23,24],H⟩
 rintro n a w ⟨κ,p203,cs204,y205,y206,y207,hF,hS,H⟩
 rcases n with _|fuel3
 simp [M.gate_New_L3] at H
 simp only [M.gate_New_L3] at H
 refine wpIn_seq_k fun K208 hK208=>?_
 refine wpIn_region_lit ?_
 refine wp 1 [0,12,74,75,76] hF fun a hF=>?_
 refine wpListIn_nil ?_
 refine hK208 _ _ ?_
 refine wpIn_seq_k fun K209 hK209=>?_
 refine bif_split H (fun hb H=>?_) (fun hb H=>?_)
 refine cond_t hF (by kernel_rfl) hb ?_
 refine wpIn_skip ?_
 refine hK209 _ _ ?_
 refine seq_join (fun a w => ∃(κ:Gh) (p210:List (Option Nat)) (cs211:List Nat) (y212:List (Option T_inbox_Box)) (y213:List Int),Fr (98) [] [(0,vi a1),(12,pt b29 0),(74,.agg (flat [eb 4 a3]).toArray),(75,vi y207)] a∧SS Ms κ0 w0 κ w [.box b29 87 [si a1,si a2,si 2,si 0,si x102.2.1,si x102.2.2.1,sl p148 (x147.Cuts).length c149,sl p150 (x147.Nodes).length c151,sl p31 (x30).length c32,sl p34 (y92).length (x33).length,sl p36 (x35).length (x35).length,sb false,(1,[.pointer (pa p11)]),(1,[.pointer (pa p107)]),(1,[.pointer (pa p109)]),su 0,(4,(encs fPtr p210)),ei 4 y213,ei 4 x102.2.2.2.2.2.2.2.2.1,(1,[.map p113]),(1,[.map p116]),sl p119 (x102.2.2.2.2.2.2.2.2.2.2.2.1).length c120,(1,[.map p121]),su 0,(1,[.pointer (pa p124)]),si 0,si x102.2.2.2.2.2.2.2.2.2.2.2.2.2.2.1,sl p126 (x102.2.2.2.2.2.2.2.2.2.2.2.2.2.2.2.1).length c127,sl p128 (x102.2.2.2.2.2.2.2.2.2.2.2.2.2.2.2.2.1).length c129,su x102.2.2.2.2.2.2.2.2.2.2.2.2.2.2.2.2.2.1,sb x102.2.2.2.2.2.2.2.2.2.2.2.2.2.2.2.2.2.2.1,sb x102.2.2.2.2.2.2.2.2.2.2.2.2.2.2.2.2.2.2.2.1,sb x102.2.2.2.2.2.2.2.2.2.2.2.2.2.2.2.2.2.2.2.2,sl none 0 0,sl none 0 0],.tok p148 9 1 (x147.Cuts).length c149,.tok p150 3 1 (x147.Nodes).length c151,.tok p119 95 5 (x102.2.2.2.2.2.2.2.2.2.2.2.1).length c120,.tok p126 32 1 (x102.2.2.2.2.2.2.2.2.2.2.2.2.2.2.2.1).length c127,.tok p128 32 1 (x102.2.2.2.2.2.2.2.2.2.2.2.2.2.2.2.2.1).length c129,.ext (ownX (fInt .i64) 3 p31 c32 x30),.ext (ownX fBool 4 p34 ((x33).length) y92),.ext (ownX (fInt .i64) 3 p36 ((x35).length) x35),.ext (optX o_stab_Table p11 cs12 x10.1),.ext (optX o_order_Log p107 cs108 x102.2.2.2.2.1),.ext (optX o_coord_Table p109 cs110 x102.2.2.2.2.2.1),.ext (arrX o_inbox_Box p210 cs211 y212),.ext (objX p113 (.map m114 c115)),.ext (objX p116 (.map m117 c118)),.ext (objX p121 (.map m122 c123)),.ext (optX o_gate_move p124 cs125 x102.2.2.2.2.2.2.2.2.2.2.2.2.2.1)] [Ro.mp fStr.ty p148 c149 x147.Cuts,Ro.mp (fInt .i64).ty p150 c151 x147.Nodes,ml p210 4,ml y213 4,ml x102.2.2.2.2.2.2.2.2.1 4,Map.mp (kInt .u64) false (fInt .i64).ty p113 m114 c115 x102.2.2.2.2.2.2.2.2.2.1,Map.mp (kInt .u64) true t_gate_call p116 m117 c118 x102.2.2.2.2.2.2.2.2.2.2.1,Ro.mp t_gate_call p119 c120 x102.2.2.2.2.2.2.2.2.2.2.2.1,Map.mp (kInt .u64) true t_gate_load p121 m122 c123 x102.2.2.2.2.2.2.2.2.2.2.2.2.1,Ro.mp (fInt .u64).ty p126 c127 x102.2.2.2.2.2.2.2.2.2.2.2.2.2.2.2.1,Ro.mp (fInt .u64).ty p128 c129 x102.2.2.2.2.2.2.2.2.2.2.2.2.2.2.2.2.1,Ro.mp t_api_Mail none 0 ([]:List T_api_Mail),Ro.mp f_gate_Reply.ty none 0 ([]:List T_gate_Reply),ml a3 4]∧M.gate_New_k4 N (M.gate_New_L3 N fuel3) a1 a2 a3 x10 x30 x35 y92 x102 x147 y207 y212 y213=some r) ?_ ?_
 refine wpIn_block ?_
 refine wpIn_seq_k fun K214 hK214=>?_
 refine wpIn_region_lit ?_
 refine wl_pure (L':=[(0,vi a1),(12,pt b29 0),(74,.agg (flat [eb 4 a3]).toArray),(75,vi y207),(77,vi y207)]) 1 [0,12,74,75,77] hF (by kernel_rfl) fun a hF=>?_
 refine bind_split H (fun x215 hx215 H=>?_)
 refine wc (wo_val hF (by kernel_rfl) (v:=vb x215) (val_indexA1 (t:=fBool) (E:=4) (n:=4) (m:=4) rfl (by kernel_rfl) rfl hx215 (hS.get 13 rfl) rfl rfl (by kernel_rfl) (by kernel_rfl) (by kernel_rfl) _) fun a hF=>?_)
 refine wp 2 [0,12,14,15,74,75] hF fun a hF=>?_
 refine wpListIn_nil ?_
 refine hK214 _ _ ?_
 refine wpIn_seq_k fun K216 hK216=>?_
 refine wpIn_region_lit ?_
 refine bind_split H (fun v218 hv218 H=>?_)
 refine wl_join (fun a w => ∃κ:Gh,Fr (98) [] [(0,vi a1),(12,pt b29 0),(14,vi y207),(74,.agg (flat [eb 4 a3]).toArray),(75,vi y207),(84,vb v218)] a∧SS Ms κ0 w0 κ w [.box b29 87 [si a1,si a2,si 2,si 0,si x102.2.1,si x102.2.2.1,sl p148 (x147.Cuts).length c149,sl p150 (x147.Nodes).length c151,sl p31 (x30).length c32,sl p34 (y92).length (x33).length,sl p36 (x35).length (x35).length,sb false,(1,[.pointer (pa p11)]),(1,[.pointer (pa p107)]),(1,[.pointer (pa p109)]),su 0,(4,(encs fPtr p203)),ei 4 y206,ei 4 x102.2.2.2.2.2.2.2.2.1,(1,[.map p113]),(1,[.map p116]),sl p119 (x102.2.2.2.2.2.2.2.2.2.2.2.1).length c120,(1,[.map p121]),su 0,(1,[.pointer (pa p124)]),si 0,si x102.2.2.2.2.2.2.2.2.2.2.2.2.2.2.1,sl p126 (x102.2.2.2.2.2.2.2.2.2.2.2.2.2.2.2.1).length c127,sl p128 (x102.2.2.2.2.2.2.2.2.2.2.2.2.2.2.2.2.1).length c129,su x102.2.2.2.2.2.2.2.2.2.2.2.2.2.2.2.2.2.1,sb x102.2.2.2.2.2.2.2.2.2.2.2.2.2.2.2.2.2.2.1,sb x102.2.2.2.2.2.2.2.2.2.2.2.2.2.2.2.2.2.2.2.1,sb x102.2.2.2.2.2.2.2.2.2.2.2.2.2.2.2.2.2.2.2.2,sl none 0 0,sl none 0 0],.tok p148 9 1 (x147.Cuts).length c149,.tok p150 3 1 (x147.Nodes).length c151,.tok p119 95 5 (x102.2.2.2.2.2.2.2.2.2.2.2.1).length c120,.tok p126 32 1 (x102.2.2.2.2.2.2.2.2.2.2.2.2.2.2.2.1).length c127,.tok p128 32 1 (x102.2.2.2.2.2.2.2.2.2.2.2.2.2.2.2.2.1).length c129,.ext (ownX (fInt .i64) 3 p31 c32 x30),.ext (ownX fBool 4 p34 ((x33).length) y92),.ext (ownX (fInt .i64) 3 p36 ((x35).length) x35),.ext (optX o_stab_Table p11 cs12 x10.1),.ext (optX o_order_Log p107 cs108 x102.2.2.2.2.1),.ext (optX o_coord_Table p109 cs110 x102.2.2.2.2.2.1),.ext (arrX o_inbox_Box p203 cs204 y205),.ext (objX p113 (.map m114 c115)),.ext (objX p116 (.map m117 c118)),.ext (objX p121 (.map m122 c123)),.ext (optX o_gate_move p124 cs125 x102.2.2.2.2.2.2.2.2.2.2.2.2.2.1)] [Ro.mp fStr.ty p148 c149 x147.Cuts,Ro.mp (fInt .i64).ty p150 c151 x147.Nodes,ml p203 4,ml y206 4,ml x102.2.2.2.2.2.2.2.2.1 4,Map.mp (kInt .u64) false (fInt .i64).ty p113 m114 c115 x102.2.2.2.2.2.2.2.2.2.1,Map.mp (kInt .u64) true t_gate_call p116 m117 c118 x102.2.2.2.2.2.2.2.2.2.2.1,Ro.mp t_gate_call p119 c120 x102.2.2.2.2.2.2.2.2.2.2.2.1,Map.mp (kInt .u64) true t_gate_load p121 m122 c123 x102.2.2.2.2.2.2.2.2.2.2.2.2.1,Ro.mp (fInt .u64).ty p126 c127 x102.2.2.2.2.2.2.2.2.2.2.2.2.2.2.2.1,Ro.mp (fInt .u64).ty p128 c129 x102.2.2.2.2.2.2.2.2.2.2.2.2.2.2.2.2.1,Ro.mp t_api_Mail none 0 ([]:List T_api_Mail),Ro.mp f_gate_Reply.ty none 0 ([]:List T_gate_Reply),ml a3 4]∧True) ?_ ?_
 refine wp 2 [0,12,14,74,75,80] hF fun a hF=>?_
 refine bif_split hv218 (fun hb hv218=>?_) (fun hb hv218=>?_)
 have hF:=hF.boolv 80 (by kernel_rfl) hb
 refine wp 4 [0,12,14,74,75,84] hF fun a hF=>?_
 refine wpListIn_nil ?_
 cases hv218
 exact ⟨_,hF.kp [0,12,14,74,75,84],hS.sp (rg 17) (rg 14),trivial⟩
 have hF:=hF.boolv 80 (by kernel_rfl) hb
 refine wp 4 [0,12,14,74,75,84] hF fun a hF=>?_
 refine wpListIn_nil ?_
 cases hv218
 exact ⟨_,hF.kp [0,12,14,74,75,84],hS.sp (rg 17) (rg 14),trivial⟩
 rintro a w ⟨κ,hF,hS,-⟩
 refine hK216 _ _ ?_
 refine bif_split H (fun hb H=>?_) (fun hb H=>?_)
 refine cond_t hF (by kernel_rfl) hb ?_
 refine bind_split H (fun x219 hx219 H=>?_)
 obtain ⟨p220,hpx219⟩:=hS.arrIdx 12 rfl hx219
 have hS:=hS.add (m:=MP.const (idx p203 y207=some p220)) hpx219
 refine rgS hS [8,12] ?_
 have hS:=hS.drew
 refine any_pure [0,1,5,6] [0,12,14,74,75,86,91] (L':=[(0,vi a1),(12,pt b29 0),(14,vi y207),(74,.agg (flat [eb 4 a3]).toArray),(75,vi y207),(86,vi y207),(91,pt b29 16)]) (listed':=(bitA 13 99)) (fuel:=9) hF (hS.sx [0,6,7,8,9,10,11,12,13,14,15,16] (rg 15)) (by kernel_rfl) (by intro c a w t v h; cases t<;>exact h) (by kernel_rfl) rfl fun a hF=>?_
 refine anpP [2,3,9,10] [0,12,74,75,86,88,91,94] hF (fun _=>(hS.sx [0,6,7,8,9,10,11,12,13,14,15,16] (rg 15))) fun a hF=>?_
 have hF:Fr (98) _ [(0,vi a1),(12,pt b29 0),(74,.agg (flat [eb 4 a3]).toArray),(75,vi y207),(86,vi y207),(88,vi y207),(91,pt b29 16),(94,pt b29 20)] a:=hF.kp [0,12,74,75,86,88,91,94]
 refine ago 4 hF rfl ?_
 refine bind_split H (fun x221 hx221 H=>?_)
 refine wcS 0 (rg 17) hF hS (fun hS=>C_inbox_New N 0 (hS.sbK []) hx221) ?_
 rintro _ κ w a ⟨b222,p223,c224,p225,c226,p227,m228,c229,rfl,h2⟩ hF hB
 have hS:=hB _ _ h2
 refine ⟨fun _=>(hS.sx [4,10,11,12,13,14,15,16,17,18,19,20] [2,3,4,5,6,7,8,9,10,11,12,13,14,15,16]),?_⟩
 refine atk 7 (some 92) hF (hS.sx [4,10,11,12,13,14,15,16,17,18,19,20] [2,3,4,5,6,7,8,9,10,11,12,13,14,15,16]) rfl (fun w _=>val_indexArr (E:=81) (sz:=1) (n:=4) rfl rfl (i:=y207) rfl (idx_lt hpx219 (hS.get 5 rfl)) (by kernel_rfl) (by kernel_rfl) w) fun a hF=>?_
 refine ago 8 hF rfl ?_
 obtain ⟨cs230,hS⟩:=hS.foldI (ck:=c_inbox_Box) (fs:=q_inbox_Box) b222 (p223,c224,p225,c226,p227,m228,c229) (T_inbox_Box.mk x221.base x221.list x221.handed x221.done x221.hearts x221.got) [0,3,1,2] [4,5,6,7,8,9,10,11,12,13,14,15,16,17,18,19,20] [0,1] (by decide) (by kernel_rfl) (by kernel_rfl)
 refine wo_storeA1 (t:=fPtr) (y:=(some b222)) (v:=pt b222 0) hF hS (by kernel_rfl) 1 16 (s':=[si a1,si a2,si 2,si 0,si x102.2.1,si x102.2.2.1,sl p148 (x147.Cuts).length c149,sl p150 (x147.Nodes).length c151,sl p31 (x30).length c32,sl p34 (y92).length (x33).length,sl p36 (x35).length (x35).length,sb false,(1,[.pointer (pa p11)]),(1,[.pointer (pa p107)]),(1,[.pointer (pa p109)]),su 0,(4,(encs fPtr (List.set p203 (Int.toNat y207) (some b222)))),ei 4 y206,ei 4 x102.2.2.2.2.2.2.2.2.1,(1,[.map p113]),(1,[.map p116]),sl p119 (x102.2.2.2.2.2.2.2.2.2.2.2.1).length c120,(1,[.map p121]),su 0,(1,[.pointer (pa p124)]),si 0,si x102.2.2.2.2.2.2.2.2.2.2.2.2.2.2.1,sl p126 (x102.2.2.2.2.2.2.2.2.2.2.2.2.2.2.2.1).length c127,sl p128 (x102.2.2.2.2.2.2.2.2.2.2.2.2.2.2.2.2.1).length c129,su x102.2.2.2.2.2.2.2.2.2.2.2.2.2.2.2.2.2.1,sb x102.2.2.2.2.2.2.2.2.2.2.2.2.2.2.2.2.2.2.1,sb x102.2.2.2.2.2.2.2.2.2.2.2.2.2.2.2.2.2.2.2.1,sb x102.2.2.2.2.2.2.2.2.2.2.2.2.2.2.2.2.2.2.2.2,sl none 0 0,sl none 0 0]) (C':=[.ext (optX o_inbox_Box (some b222) cs230 (some (T_inbox_Box.mk x221.base x221.list x221.handed x221.done x221.hearts x221.got))),.box b29 87 [si a1,si a2,si 2,si 0,si x102.2.1,si x102.2.2.1,sl p148 (x147.Cuts).length c149,sl p150 (x147.Nodes).length c151,sl p31 (x30).length c32,sl p34 (y92).length (x33).length,sl p36 (x35).length (x35).length,sb false,(1,[.pointer (pa p11)]),(1,[.pointer (pa p107)]),(1,[.pointer (pa p109)]),su 0,(4,(encs fPtr (List.set p203 (Int.toNat y207) (some b222)))),ei 4 y206,ei 4 x102.2.2.2.2.2.2.2.2.1,(1,[.map p113]),(1,[.map p116]),sl p119 (x102.2.2.2.2.2.2.2.2.2.2.2.1).length c120,(1,[.map p121]),su 0,(1,[.pointer (pa p124)]),si 0,si x102.2.2.2.2.2.2.2.2.2.2.2.2.2.2.1,sl p126 (x102.2.2.2.2.2.2.2.2.2.2.2.2.2.2.2.1).length c127,sl p128 (x102.2.2.2.2.2.2.2.2.2.2.2.2.2.2.2.2.1).length c129,su x102.2.2.2.2.2.2.2.2.2.2.2.2.2.2.2.2.2.1,sb x102.2.2.2.2.2.2.2.2.2.2.2.2.2.2.2.2.2.2.1,sb x102.2.2.2.2.2.2.2.2.2.2.2.2.2.2.2.2.2.2.2.1,sb x102.2.2.2.2.2.2.2.2.2.2.2.2.2.2.2.2.2.2.2.2,sl none 0 0,sl none 0 0],.tok p148 9 1 (x147.Cuts).length c149,.tok p150 3 1 (x147.Nodes).length c151,.tok p119 95 5 (x102.2.2.2.2.2.2.2.2.2.2.2.1).length c120,.tok p126 32 1 (x102.2.2.2.2.2.2.2.2.2.2.2.2.2.2.2.1).length c127,.tok p128 32 1 (x102.2.2.2.2.2.2.2.2.2.2.2.2.2.2.2.2.1).length c129,.ext (ownX (fInt .i64) 3 p31 c32 x30),.ext (ownX fBool 4 p34 ((x33).length) y92),.ext (ownX (fInt .i64) 3 p36 ((x35).length) x35),.ext (optX o_stab_Table p11 cs12 x10.1),.ext (optX o_order_Log p107 cs108 x102.2.2.2.2.1),.ext (optX o_coord_Table p109 cs110 x102.2.2.2.2.2.1),.ext (arrX o_inbox_Box p203 cs204 y205),.ext (objX p113 (.map m114 c115)),.ext (objX p116 (.map m117 c118)),.ext (objX p121 (.map m122 c123)),.ext (optX o_gate_move p124 cs125 x102.2.2.2.2.2.2.2.2.2.2.2.2.2.1)]) rfl rfl (by kernel_rfl) rfl rfl hpx219 rfl rfl (by kernel_rfl) (by kernel_rfl) (by kernel_rfl) (by kernel_rfl) fun a w hF hS=>?_
 have hS:=hS.add (m:=ml (List.set p203 (Int.toNat y207) (some b222)) 4) (List.length_set.trans (hS.get 5 rfl))
 obtain ⟨cs231,hS⟩:=hS.arrSetI 0 13 [1,2,3,4,5,6,7,8,9,10,11,12,14,15,16,17] (by decide) (Int.toNat y207) rfl rfl
 refine ⟨notE,?_⟩
 refine ago 11 hF rfl ?_
 refine bind_split H (fun x232 hx232 H=>?_)
 refine wo_indexArr hF (by kernel_rfl) (E:=3) (sz:=1) (n:=4) rfl rfl (i:=y207) rfl (idx_lt hx232 (hS.get 7 rfl)) (by kernel_rfl) (by kernel_rfl) fun a hF=>?_
 refine ⟨notE,?_⟩
 refine ago 12 hF rfl ?_
 refine wo_storeA1 (t:=(fInt .i64)) (y:=0) (v:=vi 0) hF hS (by kernel_rfl) 1 17 (s':=[si a1,si a2,si 2,si 0,si x102.2.1,si x102.2.2.1,sl p148 (x147.Cuts).length c149,sl p150 (x147.Nodes).length c151,sl p31 (x30).length c32,sl p34 (y92).length (x33).length,sl p36 (x35).length (x35).length,sb false,(1,[.pointer (pa p11)]),(1,[.pointer (pa p107)]),(1,[.pointer (pa p109)]),su 0,(4,(encs fPtr (List.set p203 (Int.toNat y207) (some b222)))),ei 4 (List.set y206 (Int.toNat y207) 0),ei 4 x102.2.2.2.2.2.2.2.2.1,(1,[.map p113]),(1,[.map p116]),sl p119 (x102.2.2.2.2.2.2.2.2.2.2.2.1).length c120,(1,[.map p121]),su 0,(1,[.pointer (pa p124)]),si 0,si x102.2.2.2.2.2.2.2.2.2.2.2.2.2.2.1,sl p126 (x102.2.2.2.2.2.2.2.2.2.2.2.2.2.2.2.1).length c127,sl p128 (x102.2.2.2.2.2.2.2.2.2.2.2.2.2.2.2.2.1).length c129,su x102.2.2.2.2.2.2.2.2.2.2.2.2.2.2.2.2.2.1,sb x102.2.2.2.2.2.2.2.2.2.2.2.2.2.2.2.2.2.2.1,sb x102.2.2.2.2.2.2.2.2.2.2.2.2.2.2.2.2.2.2.2.1,sb x102.2.2.2.2.2.2.2.2.2.2.2.2.2.2.2.2.2.2.2.2,sl none 0 0,sl none 0 0]) (C':=[.ext (arrX o_inbox_Box (List.set p203 (Int.toNat y207) (some b222)) cs231 (List.set y205 (Int.toNat y207) (some (T_inbox_Box.mk x221.base x221.list x221.handed x221.done x221.hearts x221.got)))),.box b29 87 [si a1,si a2,si 2,si 0,si x102.2.1,si x102.2.2.1,sl p148 (x147.Cuts).length c149,sl p150 (x147.Nodes).length c151,sl p31 (x30).length c32,sl p34 (y92).length (x33).length,sl p36 (x35).length (x35).length,sb false,(1,[.pointer (pa p11)]),(1,[.pointer (pa p107)]),(1,[.pointer (pa p109)]),su 0,(4,(encs fPtr (List.set p203 (Int.toNat y207) (some b222)))),ei 4 (List.set y206 (Int.toNat y207) 0),ei 4 x102.2.2.2.2.2.2.2.2.1,(1,[.map p113]),(1,[.map p116]),sl p119 (x102.2.2.2.2.2.2.2.2.2.2.2.1).length c120,(1,[.map p121]),su 0,(1,[.pointer (pa p124)]),si 0,si x102.2.2.2.2.2.2.2.2.2.2.2.2.2.2.1,sl p126 (x102.2.2.2.2.2.2.2.2.2.2.2.2.2.2.2.1).length c127,sl p128 (x102.2.2.2.2.2.2.2.2.2.2.2.2.2.2.2.2.1).length c129,su x102.2.2.2.2.2.2.2.2.2.2.2.2.2.2.2.2.2.1,sb x102.2.2.2.2.2.2.2.2.2.2.2.2.2.2.2.2.2.2.1,sb x102.2.2.2.2.2.2.2.2.2.2.2.2.2.2.2.2.2.2.2.1,sb x102.2.2.2.2.2.2.2.2.2.2.2.2.2.2.2.2.2.2.2.2,sl none 0 0,sl none 0 0],.tok p148 9 1 (x147.Cuts).length c149,.tok p150 3 1 (x147.Nodes).length c151,.tok p119 95 5 (x102.2.2.2.2.2.2.2.2.2.2.2.1).length c120,.tok p126 32 1 (x102.2.2.2.2.2.2.2.2.2.2.2.2.2.2.2.1).length c127,.tok p128 32 1 (x102.2.2.2.2.2.2.2.2.2.2.2.2.2.2.2.2.1).length c129,.ext (ownX (fInt .i64) 3 p31 c32 x30),.ext (ownX fBool 4 p34 ((x33).length) y92),.ext (ownX (fInt .i64) 3 p36 ((x35).length) x35),.ext (optX o_stab_Table p11 cs12 x10.1),.ext (optX o_order_Log p107 cs108 x102.2.2.2.2.1),.ext (optX o_coord_Table p109 cs110 x102.2.2.2.2.2.1),.ext (objX p113 (.map m114 c115)),.ext (objX p116 (.map m117 c118)),.ext (objX p121 (.map m122 c123)),.ext (optX o_gate_move p124 cs125 x102.2.2.2.2.2.2.2.2.2.2.2.2.2.1)]) rfl rfl (by kernel_rfl) rfl rfl hx232 rfl rfl (by kernel_rfl) (by kernel_rfl) (by kernel_rfl) (by kernel_rfl) fun a w hF hS=>?_
 have hS:=hS.add (m:=ml (List.set y206 (Int.toNat y207) 0) 4) (List.length_set.trans (hS.get 7 rfl))
 refine ⟨notE,?_⟩
 refine and_ ?_
 exact ⟨_,(List.set p203 (Int.toNat y207) (some b222)),cs231,(List.set y205 (Int.toNat y207) (some (T_inbox_Box.mk x221.base x221.list x221.handed x221.done x221.hearts x221.got))),(List.set y206 (Int.toNat y207) 0),hF.kp [0,12,74,75],hS.sp [1,2,3,4,5,6,7,8,9,10,11,12,0,13,14,15,16] [5,6,1,0,9,10,11,12,13,14,15,16,17,18],H⟩
 refine cond_f hF (by kernel_rfl) hb ?_
 refine wpIn_skip ?_
 exact ⟨_,p203,cs204,y205,y206,hF.kp [0,12,74,75],hS.sp (rg 17) (rg 14),H⟩
 rintro a w ⟨κ,p210,cs211,y212,y213,hF,hS,H⟩
 unfold M.gate_New_k4 at H
 refine wpIn_region_lit ?_
 refine wp 2 [0,12,74,75] hF fun a hF=>?_
 refine wpListIn_nil ?_
 exact ⟨fuel3,Nat.lt_succ_self _,_,p210,cs211,y212,y213,IntKind.i64.wrap (y207+1),hF.kp [0,12,74,75],hS.sp (rg 17) (rg 14),H⟩
 refine cond_f hF (by kernel_rfl) hb ?_
 refine wpIn_exit ?_
 exact ⟨_,2,x147.Cuts,p148,c149,x147.Nodes,p150,c151,p203,cs204,y205,y206,hF.kp [12],hS.sp [0,3,4,5,6,7,8,9,10,11,12,13,14,15,16] (rg 13),H⟩
 refine cond_f hF (by kernel_rfl) hb ?_
 refine wpIn_skip ?_
 exact ⟨_,x102.1,x102.2.2.2.1.Cuts,p103,c104,x102.2.2.2.1.Nodes,p105,c106,p111,cs112,x102.2.2.2.2.2.2.1,x102.2.2.2.2.2.2.2.1,hF.kp [12],hS.sp [0,1,2,3,12,13,14,15,4,5,6,7,8,9,10] [0,1,2,3,4,5,6,7,8,9,10,20,21],H⟩
 rintro a w ⟨κ,y131,y132,p133,c134,y135,p136,c137,p138,cs139,y140,y141,hF,hS,H⟩
 unfold M.gate_New_k2 at H
 refine wpIn_seq_k fun K142 hK142=>?_
 refine wpIn_region_lit ?_
 refine wp 3 [8,9] hF fun a hF=>?_
 refine wpListIn_nil ?_
 refine hK142 _ _ ?_
 refine wpIn_ret ?_
 have hS:=hS.addNil 61 15
 have hS:=hS.addNil 52 13
 obtain ⟨cs143,hS⟩:=hS.foldI (ck:=c_gate_Gate) (fs:=q_gate_Gate) b29 (p133,c134,p136,c137,p31,c32,p34,(x33).length,p36,(x35).length,p11,cs12,p107,cs108,p109,cs110,p138,cs139,p113,m114,c115,p116,m117,c118,p119,c120,p121,m122,c123,p124,cs125,p126,c127,p128,c129,none,0,none,0) (T_gate_Gate.mk a1 a2 y131 0 x102.2.1 x102.2.2.1 (T_api_Map.mk y132 y135) x30 y92 x35 false x10.1 x102.2.2.2.2.1 x102.2.2.2.2.2.1 0 y140 y141 x102.2.2.2.2.2.2.2.2.1 x102.2.2.2.2.2.2.2.2.2.1 x102.2.2.2.2.2.2.2.2.2.2.1 x102.2.2.2.2.2.2.2.2.2.2.2.1 x102.2.2.2.2.2.2.2.2.2.2.2.2.1 0 x102.2.2.2.2.2.2.2.2.2.2.2.2.2.1 0 x102.2.2.2.2.2.2.2.2.2.2.2.2.2.2.1 x102.2.2.2.2.2.2.2.2.2.2.2.2.2.2.2.1 x102.2.2.2.2.2.2.2.2.2.2.2.2.2.2.2.2.1 x102.2.2.2.2.2.2.2.2.2.2.2.2.2.2.2.2.2.1 x102.2.2.2.2.2.2.2.2.2.2.2.2.2.2.2.2.2.2.1 x102.2.2.2.2.2.2.2.2.2.2.2.2.2.2.2.2.2.2.2.1 x102.2.2.2.2.2.2.2.2.2.2.2.2.2.2.2.2.2.2.2.2 ([]:List T_api_Mail) ([]:List T_gate_Reply)) [2,3,4,5,1,0,6,7,8,9,10,11,12,13,14,15,16] [] (rg 13) (by decide) (by kernel_rfl) (by kernel_rfl)
 cases H
 exact ret_done hF hS (res2 Tryz.results7 (rvt hF) (rvt hF)) ⟨(some b29),cs143,rfl,hS.sp [0] []⟩
end Go.Cf
