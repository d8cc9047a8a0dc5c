/- The walks: each function returns what its model says. Printed by a program of ours. -/
import Derived.Test.YtcplebnnanjngaaGreatZM1
import Derived.Test.YtcplebnnanjngaaGreatZWns
import Derived.Test.YtcplebnnanjngaaGreatZWng3
import Derived.Test.YtcplebnnanjngaaGreatZWng6
import Derived.Test.YtcplebnnanjngaaGreatZWng7
namespace Go.Cf
open Go Go.Proofs
set_option linter.unusedVariables false
set_option maxRecDepth 20000 in
set_option maxHeartbeats 8000000 in
theorem C_gate_Gate_Take (N : Nat) {Ms : List Nat} {κ0 : Gh} {w0 : World} (a1 : Int) (a2 : Int) (a3 : Int) (a4 : Int) (a5 : Int) (a6 : Int) (a7 : T_api_Map) (a12 : (List Int)) (a15 : (List Bool)) (a18 : (List Int)) (a21 : Bool) (a22 : (Option T_stab_Table)) (a25 : (Option T_order_Log)) (a28 : (Option T_coord_Table)) (a31 : Int) (a32 : (List (Option T_inbox_Box))) (a35 : (List Int)) (a36 : (List Int)) (a37 : (Mp Int Int)) (a41 : (Mp Int T_gate_call)) (a45 : (List T_gate_call)) (a48 : (Mp Int T_gate_load)) (a52 : Int) (a53 : (Option T_gate_move)) (a56 : Int) (a57 : Int) (a58 : (List Int)) (a61 : (List Int)) (a64 : Int) (a65 : Bool) (a66 : Bool) (a67 : Bool) (a68 : (List T_api_Mail)) (a71 : (List T_gate_Reply)) (a75 : Int) (a76 : T_api_Msg) (p8 : Option Addr) (c9 : Nat) (p10 : Option Addr) (c11 : Nat) (p13 : Option Addr) (c14 : Nat) (p16 : Option Addr) (c17 : Nat) (p19 : Option Addr) (c20 : Nat) (p23 : Option Nat) (cs24 : List Nat) (p26 : Option Nat) (cs27 : List Nat) (p29 : Option Nat) (cs30 : List Nat) (p33 : List (Option Nat)) (cs34 : List Nat) (p38 : Option Nat) (m39 : Array MapEntry) (c40 : Nat) (p42 : Option Nat) (m43 : Array MapEntry) (c44 : Nat) (p46 : Option Addr) (c47 : Nat) (p49 : Option Nat) (m50 : Array MapEntry) (c51 : Nat) (p54 : Option Nat) (cs55 : List Nat) (p59 : Option Addr) (c60 : Nat) (p62 : Option Addr) (c63 : Nat) (p69 : Option Addr) (c70 : Nat) (p72 : Option Addr) (c73 : Nat) (p77 : Option Addr) (c78 : Nat) (p79 : Option Addr) (c80 : Nat) (b74 : Nat) (hB : SB Ms κ0 w0 [.box b74 87 [si a1, si a2, si a3, si a4, si a5, si a6, sl p8 (a7.Cuts).length c9, sl p10 (a7.Nodes).length c11, sl p13 (a12).length c14, sl p16 (a15).length c17, sl p19 (a18).length c20, sb a21, (1, [.pointer (pa p23)]), (1, [.pointer (pa p26)]), (1, [.pointer (pa p29)]), su a31, (4, (encs fPtr p33)), ei 4 a35, ei 4 a36, (1, [.map p38]), (1, [.map p42]), sl p46 (a45).length c47, (1, [.map p49]), su a52, (1, [.pointer (pa p54)]), si a56, si a57, sl p59 (a58).length c60, sl p62 (a61).length c63, su a64, sb a65, sb a66, sb a67, sl p69 (a68).length c70, sl p72 (a71).length c73], .tok p69 61 15 (a68).length c70, .tok p72 52 13 (a71).length c73, .ext (ownX (fInt .i64) 3 p13 c14 a12), .ext (ownX fBool 4 p16 c17 a15), .ext (ownX (fInt .i64) 3 p19 c20 a18), .ext (optX o_stab_Table p23 cs24 a22), .ext (optX o_order_Log p26 cs27 a25), .ext (optX o_coord_Table p29 cs30 a28), .ext (arrX o_inbox_Box p33 cs34 a32), .ext (objX p38 (.map m39 c40)), .ext (objX p42 (.map m43 c44)), .ext (objX p49 (.map m50 c51)), .ext (optX o_gate_move p54 cs55 a53)] [Ro.mp fStr.ty p8 c9 a7.Cuts, Ro.mp (fInt .i64).ty p10 c11 a7.Nodes, ml p33 4, ml a35 4, ml a36 4, Map.mp (kInt .u64) false (fInt .i64).ty p38 m39 c40 a37, Map.mp (kInt .u64) true t_gate_call p42 m43 c44 a41, Ro.mp t_gate_call p46 c47 a45, Map.mp (kInt .u64) true t_gate_load p49 m50 c51 a48, Ro.mp (fInt .u64).ty p59 c60 a58, Ro.mp (fInt .u64).ty p62 c63 a61, Ro.mp t_api_Mail p69 c70 a68, Ro.mp f_gate_Reply.ty p72 c73 a71, Ro.mp f_api_Ver.ty p77 c78 a76.Vers, Ro.mp (fInt .u64).ty p79 c80 a76.Vec]) {r : ((Option T_stab_Table) × (Option T_order_Log) × (Option T_coord_Table) × Int × (Mp Int Int) × (Option T_gate_move) × (List T_api_Mail) × (List T_gate_Reply))} (H : M.gate_Gate_Take N a1 a2 a3 a4 a5 a6 a7 a12 a15 a18 a21 a22 a25 a28 a31 a32 a35 a36 a37 a41 a45 a48 a52 a53 a56 a57 a58 a61 a64 a65 a66 a67 a68 a71 a75 a76 = some r) :
    Calls Tryz.prog 15 #[pt b74 0, vi a75, .agg (flat [si a76.Kind, su a76.Id, su a76.N, su a76.TS, sg a76.Lo, sg a76.Hi, sl p77 (a76.Vers).length c78, sl p79 (a76.Vec).length c80, si a76.Cmd.Kind, si a76.Cmd.DC, si a76.Cmd.Shard, si a76.Cmd.Node, si a76.Cmd.Mode, sg a76.Cmd.Key]).toArray] w0 (Post Ms κ0 w0 fun v κ w => ∃ (p140 : Option Nat) (cs141 : List Nat) (p142 : Option Nat) (cs143 : List Nat) (p144 : Option Nat) (cs145 : List Nat) (p146 : Option Nat) (m147 : Array MapEntry) (c148 : Nat) (p149 : Option Nat) (cs150 : List Nat) (p151 : Option Addr) (c152 : Nat) (p153 : Option Addr) (c154 : Nat) (cs155 : List Nat), v = .tuple #[] ∧ SS Ms κ0 w0 κ w [.box b74 87 [si a1, si a2, si a3, si a4, si a5, si a6, sl p8 (a7.Cuts).length c9, sl p10 (a7.Nodes).length c11, sl p13 (a12).length c14, sl p16 (a15).length c17, sl p19 (a18).length c20, sb a21, (1, [.pointer (pa p140)]), (1, [.pointer (pa p142)]), (1, [.pointer (pa p144)]), su r.2.2.2.1, (4, (encs fPtr p33)), ei 4 a35, ei 4 a36, (1, [.map p146]), (1, [.map p42]), sl p46 (a45).length c47, (1, [.map p49]), su a52, (1, [.pointer (pa p149)]), si a56, si a57, sl p59 (a58).length c60, sl p62 (a61).length c63, su a64, sb a65, sb a66, sb a67, sl p151 (r.2.2.2.2.2.2.1).length c152, sl p153 (r.2.2.2.2.2.2.2).length c154], .tok p151 61 15 (r.2.2.2.2.2.2.1).length c152, .tok p153 52 13 (r.2.2.2.2.2.2.2).length c154, .ext (ownX (fInt .i64) 3 p13 c14 a12), .ext (ownX fBool 4 p16 c17 a15), .ext (ownX (fInt .i64) 3 p19 c20 a18), .ext (optX o_stab_Table p140 cs141 r.1), .ext (optX o_order_Log p142 cs143 r.2.1), .ext (optX o_coord_Table p144 cs145 r.2.2.1), .ext (arrX o_inbox_Box p33 cs155 a32), .ext (objX p146 (.map m147 c148)), .ext (objX p42 (.map m43 c44)), .ext (objX p49 (.map m50 c51)), .ext (optX o_gate_move p149 cs150 r.2.2.2.2.2.1)] [Map.mp (kInt .u64) false (fInt .i64).ty p146 m147 c148 r.2.2.2.2.1, Ro.mp t_api_Mail p151 c152 r.2.2.2.2.2.2.1, Ro.mp f_gate_Reply.ty p153 c154 r.2.2.2.2.2.2.2]) := by
 have hS := hB.hS
 have hfr := hS.fresh
 refine enter (N := (71)) (L := [(0, pt b74 0), (1, vi a75), (2, .agg (flat [si a76.Kind, su a76.Id, su a76.N, su a76.TS, sg a76.Lo, sg a76.Hi, sl p77 (a76.Vers).length c78, sl p79 (a76.Vec).length c80, si a76.Cmd.Kind, si a76.Cmd.DC, si a76.Cmd.Shard, si a76.Cmd.Node, si a76.Cmd.Mode, sg a76.Cmd.Key]).toArray)]) Tryz.func15 rfl Tryz.ntmps15 (show 3 ≤ (71) by decide) rfl fun a hF => ?_
 unfold M.gate_Gate_Take at H
 refine wpIn_seq_k fun K81 hK81 => ?_
 refine wpIn_region_lit ?_
 refine wc (wbx hF hS [si a76.Kind, su a76.Id, su a76.N, su a76.TS, sg a76.Lo, sg a76.Hi, sl p77 (a76.Vers).length c78, sl p79 (a76.Vec).length c80, si a76.Cmd.Kind, si a76.Cmd.DC, si a76.Cmd.Shard, si a76.Cmd.Node, si a76.Cmd.Mode, sg a76.Cmd.Key] (sgN 14 sgNil) fun b82 a w hF hS => ?_)
 refine wpListIn_nil ?_
 refine hK81 _ _ ?_
 refine wpIn_seq_k fun K83 hK83 => ?_
 refine wpIn_seq_k fun K84 hK84 => ?_
 refine wpIn_region_lit ?_
 refine bind_split H (fun v86 hv86 H => ?_)
 refine wl_join (fun a w => ∃ κ : Gh, Fr (71) [] [(0, pt b74 0), (1, vi a75), (5, pt b82 0), (17, vb v86)] a ∧ SS Ms κ0 w0 κ w [.box b82 38 [si a76.Kind, su a76.Id, su a76.N, su a76.TS, sg a76.Lo, sg a76.Hi, sl p77 (a76.Vers).length c78, sl p79 (a76.Vec).length c80, si a76.Cmd.Kind, si a76.Cmd.DC, si a76.Cmd.Shard, si a76.Cmd.Node, si a76.Cmd.Mode, sg a76.Cmd.Key], .box b74 87 [si a1, si a2, si a3, si a4, si a5, si a6, sl p8 (a7.Cuts).length c9, sl p10 (a7.Nodes).length c11, sl p13 (a12).length c14, sl p16 (a15).length c17, sl p19 (a18).length c20, sb a21, (1, [.pointer (pa p23)]), (1, [.pointer (pa p26)]), (1, [.pointer (pa p29)]), su a31, (4, (encs fPtr p33)), ei 4 a35, ei 4 a36, (1, [.map p38]), (1, [.map p42]), sl p46 (a45).length c47, (1, [.map p49]), su a52, (1, [.pointer (pa p54)]), si a56, si a57, sl p59 (a58).length c60, sl p62 (a61).length c63, su a64, sb a65, sb a66, sb a67, sl p69 (a68).length c70, sl p72 (a71).length c73], .tok p69 61 15 (a68).length c70, .tok p72 52 13 (a71).length c73, .ext (ownX (fInt .i64) 3 p13 c14 a12), .ext (ownX fBool 4 p16 c17 a15), .ext (ownX (fInt .i64) 3 p19 c20 a18), .ext (optX o_stab_Table p23 cs24 a22), .ext (optX o_order_Log p26 cs27 a25), .ext (optX o_coord_Table p29 cs30 a28), .ext (arrX o_inbox_Box p33 cs34 a32), .ext (objX p38 (.map m39 c40)), .ext (objX p42 (.map m43 c44)), .ext (objX p49 (.map m50 c51)), .ext (optX o_gate_move p54 cs55 a53)] [Ro.mp fStr.ty p8 c9 a7.Cuts, Ro.mp (fInt .i64).ty p10 c11 a7.Nodes, ml p33 4, ml a35 4, ml a36 4, Map.mp (kInt .u64) false (fInt .i64).ty p38 m39 c40 a37, Map.mp (kInt .u64) true t_gate_call p42 m43 c44 a41, Ro.mp t_gate_call p46 c47 a45, Map.mp (kInt .u64) true t_gate_load p49 m50 c51 a48, Ro.mp (fInt .u64).ty p59 c60 a58, Ro.mp (fInt .u64).ty p62 c63 a61, Ro.mp t_api_Mail p69 c70 a68, Ro.mp f_gate_Reply.ty p72 c73 a71, Ro.mp f_api_Ver.ty p77 c78 a76.Vers, Ro.mp (fInt .u64).ty p79 c80 a76.Vec] ∧ True) ?_ ?_
 refine wp 7 [0, 1, 5, 14] hF fun a hF => ?_
 refine bif_split hv86 (fun hb hv86 => ?_) (fun hb hv86 => ?_)
 have hF := hF.boolv 14 (by kernel_rfl) hb
 refine wp 3 [0, 1, 5, 17] hF fun a hF => ?_
 refine wpListIn_nil ?_
 cases hv86
 exact ⟨_, hF.kp [0, 1, 5, 17], hS.sp (rg 15) (rg 15), trivial⟩
 have hF := hF.boolv 14 (by kernel_rfl) hb
 refine wp 3 [0, 1, 5, 17] hF fun a hF => ?_
 refine wpListIn_nil ?_
 cases hv86
 exact ⟨_, hF.kp [0, 1, 5, 17], hS.sp (rg 15) (rg 15), trivial⟩
 rintro a w ⟨κ, hF, hS, -⟩
 refine hK84 _ _ ?_
 refine bif_split H (fun hb H => ?_) (fun hb H => ?_)
 refine cond_t hF (by kernel_rfl) hb ?_
 refine wpIn_ret ?_
 cases H
 exact ret_done hF hS (res0 Tryz.results15 ) ⟨p23, cs24, p26, cs27, p29, cs30, p38, m39, c40, p54, cs55, p69, c70, p72, c73, cs34, rfl, hS.sp [1, 2, 3, 4, 5, 6, 7, 8, 9, 10, 11, 12, 13, 14] [5, 11, 12]⟩
 refine cond_f hF (by kernel_rfl) hb ?_
 refine wpIn_skip ?_
 refine hK83 _ _ ?_
 refine wpIn_seq_k fun K87 hK87 => ?_
 refine wpIn_region_lit ?_
 refine wp 9 [0, 1, 5, 6, 7] hF fun a hF => ?_
 refine wpListIn_nil ?_
 refine hK87 _ _ ?_
 refine seq_join (fun a w => ∃ (κ : Gh) (cs88 : List Nat) (p89 : Option Nat) (cs90 : List Nat) (y91 : Option T_order_Log) (p92 : Option Nat) (cs93 : List Nat) (y94 : Option T_coord_Table) (y95 : Int) (cs96 : List Nat) (p97 : Option Nat) (m98 : Array MapEntry) (c99 : Nat) (y100 : Mp Int Int) (cs101 : List Nat) (y102 : List T_api_Mail) (p103 : Option Addr) (c104 : Nat) (y105 : List T_gate_Reply) (p106 : Option Addr) (c107 : Nat), Fr (71) [] [(0, pt b74 0)] a ∧ SS Ms κ0 w0 κ w [.box b74 87 [si a1, si a2, si a3, si a4, si a5, si a6, sl p8 (a7.Cuts).length c9, sl p10 (a7.Nodes).length c11, sl p13 (a12).length c14, sl p16 (a15).length c17, sl p19 (a18).length c20, sb a21, (1, [.pointer (pa p23)]), (1, [.pointer (pa p89)]), (1, [.pointer (pa p92)]), su y95, (4, (encs fPtr p33)), ei 4 a35, ei 4 a36, (1, [.map p97]), (1, [.map p42]), sl p46 (a45).length c47, (1, [.map p49]), su a52, (1, [.pointer (pa p54)]), si a56, si a57, sl p59 (a58).length c60, sl p62 (a61).length c63, su a64, sb a65, sb a66, sb a67, sl p103 (y102).length c104, sl p106 (y105).length c107], .tok p103 61 15 (y102).length c104, .tok p106 52 13 (y105).length c107, .ext (ownX (fInt .i64) 3 p13 c14 a12), .ext (ownX fBool 4 p16 c17 a15), .ext (ownX (fInt .i64) 3 p19 c20 a18), .ext (optX o_stab_Table p23 cs88 a22), .ext (optX o_order_Log p89 cs90 y91), .ext (optX o_coord_Table p92 cs93 y94), .ext (arrX o_inbox_Box p33 cs96 a32), .ext (objX p97 (.map m98 c99)), .ext (objX p42 (.map m43 c44)), .ext (objX p49 (.map m50 c51)), .ext (optX o_gate_move p54 cs101 a53)] [Ro.mp fStr.ty p8 c9 a7.Cuts, Ro.mp (fInt .i64).ty p10 c11 a7.Nodes, ml p33 4, ml a35 4, ml a36 4, Map.mp (kInt .u64) false (fInt .i64).ty p97 m98 c99 y100, Map.mp (kInt .u64) true t_gate_call p42 m43 c44 a41, Ro.mp t_gate_call p46 c47 a45, Map.mp (kInt .u64) true t_gate_load p49 m50 c51 a48, Ro.mp (fInt .u64).ty p59 c60 a58, Ro.mp (fInt .u64).ty p62 c63 a61, Ro.mp t_api_Mail p103 c104 y102, Ro.mp f_gate_Reply.ty p106 c107 y105] ∧ M.gate_Gate_Take_k1 N a1 a2 a3 a4 a5 a6 a7 a12 a15 a18 a21 a22 a32 a35 a36 a41 a45 a48 a52 a53 a56 a57 a58 a61 a64 a65 a66 a67 y91 y94 y95 y100 y102 y105 = some r) ?_ ?_
 refine wpIn_block ?_
 refine wpIn_seq_k fun K118 hK118 => ?_
 refine wpIn_region_lit ?_
 refine wp 3 [0, 5, 6, 7, 25] hF fun a hF => ?_
 refine wpListIn_nil ?_
 refine hK118 _ _ ?_
 refine bif_split H (fun hb H => ?_) (fun hb H => ?_)
 refine cond_t hF (by kernel_rfl) hb ?_
 refine wpIn_region_lit ?_
 refine wp 1 [0, 5, 28] hF fun a hF => ?_
 refine wc (wls hF hS 0 0 14 fun a hF => ?_)
 cases H
 refine cond_f hF (by kernel_rfl) hb ?_
 refine wpIn_seq_k fun K119 hK119 => ?_
 refine wpIn_region_lit ?_
 refine bind_split H (fun v121 hv121 H => ?_)
 refine wl_join (fun a w => ∃ κ : Gh, Fr (71) [] [(0, pt b74 0), (5, pt b82 0), (6, vi (IntKind.i64.wrap (Int.tdiv (IntKind.i64.wrap (a75 - 1)) 5))), (7, vi (IntKind.i64.wrap ((Int.tmod (IntKind.i64.wrap (a75 - 1)) 5) - 1))), (31, vb v121)] a ∧ SS Ms κ0 w0 κ w [.box b82 38 [si a76.Kind, su a76.Id, su a76.N, su a76.TS, sg a76.Lo, sg a76.Hi, sl p77 (a76.Vers).length c78, sl p79 (a76.Vec).length c80, si a76.Cmd.Kind, si a76.Cmd.DC, si a76.Cmd.Shard, si a76.Cmd.Node, si a76.Cmd.Mode, sg a76.Cmd.Key], .box b74 87 [si a1, si a2, si a3, si a4, si a5, si a6, sl p8 (a7.Cuts).length c9, sl p10 (a7.Nodes).length c11, sl p13 (a12).length c14, sl p16 (a15).length c17, sl p19 (a18).length c20, sb a21, (1, [.pointer (pa p23)]), (1, [.pointer (pa p26)]), (1, [.pointer (pa p29)]), su a31, (4, (encs fPtr p33)), ei 4 a35, ei 4 a36, (1, [.map p38]), (1, [.map p42]), sl p46 (a45).length c47, (1, [.map p49]), su a52, (1, [.pointer (pa p54)]), si a56, si a57, sl p59 (a58).length c60, sl p62 (a61).length c63, su a64, sb a65, sb a66, sb a67, sl p69 (a68).length c70, sl p72 (a71).length c73], .tok p69 61 15 (a68).length c70, .tok p72 52 13 (a71).length c73, .ext (ownX (fInt .i64) 3 p13 c14 a12), .ext (ownX fBool 4 p16 c17 a15), .ext (ownX (fInt .i64) 3 p19 c20 a18), .ext (optX o_stab_Table p23 cs24 a22), .ext (optX o_order_Log p26 cs27 a25), .ext (optX o_coord_Table p29 cs30 a28), .ext (arrX o_inbox_Box p33 cs34 a32), .ext (objX p38 (.map m39 c40)), .ext (objX p42 (.map m43 c44)), .ext (objX p49 (.map m50 c51)), .ext (optX o_gate_move p54 cs55 a53)] [Ro.mp fStr.ty p8 c9 a7.Cuts, Ro.mp (fInt .i64).ty p10 c11 a7.Nodes, ml p33 4, ml a35 4, ml a36 4, Map.mp (kInt .u64) false (fInt .i64).ty p38 m39 c40 a37, Map.mp (kInt .u64) true t_gate_call p42 m43 c44 a41, Ro.mp t_gate_call p46 c47 a45, Map.mp (kInt .u64) true t_gate_load p49 m50 c51 a48, Ro.mp (fInt .u64).ty p59 c60 a58, Ro.mp (fInt .u64).ty p62 c63 a61, Ro.mp t_api_Mail p69 c70 a68, Ro.mp f_gate_Reply.ty p72 c73 a71, Ro.mp f_api_Ver.ty p77 c78 a76.Vers, Ro.mp (fInt .u64).ty p79 c80 a76.Vec] ∧ True) ?_ ?_
 refine wp 3 [0, 5, 6, 7, 34] hF fun a hF => ?_
 refine bif_split hv121 (fun hb hv121 => ?_) (fun hb hv121 => ?_)
 have hF := hF.boolv 34 (by kernel_rfl) hb
 refine wp 4 [0, 5, 6, 7, 34, 35, 38] hF fun a hF => ?_
 refine wcg hF (wld hF hS 1 0 0 fun a hF => ?_)
 refine wp 3 [0, 5, 6, 7, 31] hF fun a hF => ?_
 refine wpListIn_nil ?_
 cases hv121
 exact ⟨_, hF.kp [0, 5, 6, 7, 31], hS.sp (rg 15) (rg 15), trivial⟩
 have hF := hF.boolv 34 (by kernel_rfl) hb
 refine wp 8 [0, 5, 6, 7, 31] hF fun a hF => ?_
 refine wpListIn_nil ?_
 cases hv121
 exact ⟨_, hF.kp [0, 5, 6, 7, 31], hS.sp (rg 15) (rg 15), trivial⟩
 rintro a w ⟨κ, hF, hS, -⟩
 refine hK119 _ _ ?_
 refine bif_split H (fun hb H => ?_) (fun hb H => ?_)
 refine cond_t hF (by kernel_rfl) hb ?_
 refine wpIn_region_lit ?_
 refine wp 2 [0, 5, 42, 43] hF fun a hF => ?_
 refine wc (wls hF hS 0 0 14 fun a hF => ?_)
 cases H
 refine cond_f hF (by kernel_rfl) hb ?_
 refine wpIn_seq_k fun K122 hK122 => ?_
 refine wpIn_region_lit ?_
 refine bind_split H (fun v124 hv124 H => ?_)
 refine wl_join (fun a w => ∃ κ : Gh, Fr (71) [] [(0, pt b74 0), (5, pt b82 0), (7, vi (IntKind.i64.wrap ((Int.tmod (IntKind.i64.wrap (a75 - 1)) 5) - 1))), (46, vb v124)] a ∧ SS Ms κ0 w0 κ w [.box b82 38 [si a76.Kind, su a76.Id, su a76.N, su a76.TS, sg a76.Lo, sg a76.Hi, sl p77 (a76.Vers).length c78, sl p79 (a76.Vec).length c80, si a76.Cmd.Kind, si a76.Cmd.DC, si a76.Cmd.Shard, si a76.Cmd.Node, si a76.Cmd.Mode, sg a76.Cmd.Key], .box b74 87 [si a1, si a2, si a3, si a4, si a5, si a6, sl p8 (a7.Cuts).length c9, sl p10 (a7.Nodes).length c11, sl p13 (a12).length c14, sl p16 (a15).length c17, sl p19 (a18).length c20, sb a21, (1, [.pointer (pa p23)]), (1, [.pointer (pa p26)]), (1, [.pointer (pa p29)]), su a31, (4, (encs fPtr p33)), ei 4 a35, ei 4 a36, (1, [.map p38]), (1, [.map p42]), sl p46 (a45).length c47, (1, [.map p49]), su a52, (1, [.pointer (pa p54)]), si a56, si a57, sl p59 (a58).length c60, sl p62 (a61).length c63, su a64, sb a65, sb a66, sb a67, sl p69 (a68).length c70, sl p72 (a71).length c73], .tok p69 61 15 (a68).length c70, .tok p72 52 13 (a71).length c73, .ext (ownX (fInt .i64) 3 p13 c14 a12), .ext (ownX fBool 4 p16 c17 a15), .ext (ownX (fInt .i64) 3 p19 c20 a18), .ext (optX o_stab_Table p23 cs24 a22), .ext (optX o_order_Log p26 cs27 a25), .ext (optX o_coord_Table p29 cs30 a28), .ext (arrX o_inbox_Box p33 cs34 a32), .ext (objX p38 (.map m39 c40)), .ext (objX p42 (.map m43 c44)), .ext (objX p49 (.map m50 c51)), .ext (optX o_gate_move p54 cs55 a53)] [Ro.mp fStr.ty p8 c9 a7.Cuts, Ro.mp (fInt .i64).ty p10 c11 a7.Nodes, ml p33 4, ml a35 4, ml a36 4, Map.mp (kInt .u64) false (fInt .i64).ty p38 m39 c40 a37, Map.mp (kInt .u64) true t_gate_call p42 m43 c44 a41, Ro.mp t_gate_call p46 c47 a45, Map.mp (kInt .u64) true t_gate_load p49 m50 c51 a48, Ro.mp (fInt .u64).ty p59 c60 a58, Ro.mp (fInt .u64).ty p62 c63 a61, Ro.mp t_api_Mail p69 c70 a68, Ro.mp f_gate_Reply.ty p72 c73 a71, Ro.mp f_api_Ver.ty p77 c78 a76.Vers, Ro.mp (fInt .u64).ty p79 c80 a76.Vec] ∧ True) ?_ ?_
 refine wp 4 [0, 5, 7, 47, 50] hF fun a hF => ?_
 refine wc (wld hF hS 1 0 0 fun a hF => ?_)
 refine wp 2 [0, 5, 7, 53] hF fun a hF => ?_
 refine bif_split hv124 (fun hb hv124 => ?_) (fun hb hv124 => ?_)
 have hF := hF.boolv 53 (by kernel_rfl) hb
 refine wp 4 [0, 5, 7, 57] hF fun a hF => ?_
 refine bif_split hv124 (fun hb hv124 => ?_) (fun hb hv124 => ?_)
 have hF := hF.boolv 57 (by kernel_rfl) hb
 refine wp 4 [0, 5, 7, 57, 58, 61] hF fun a hF => ?_
 refine wcg hF (wld hF hS 1 1 0 fun a hF => ?_)
 refine wp 3 [0, 5, 7, 46] hF fun a hF => ?_
 refine wpListIn_nil ?_
 cases hv124
 exact ⟨_, hF.kp [0, 5, 7, 46], hS.sp (rg 15) (rg 15), trivial⟩
 have hF := hF.boolv 57 (by kernel_rfl) hb
 refine wp 8 [0, 5, 7, 46] hF fun a hF => ?_
 refine wpListIn_nil ?_
 cases hv124
 exact ⟨_, hF.kp [0, 5, 7, 46], hS.sp (rg 15) (rg 15), trivial⟩
 have hF := hF.boolv 53 (by kernel_rfl) hb
 refine wp 12 [0, 5, 7, 46] hF fun a hF => ?_
 refine wpListIn_nil ?_
 cases hv124
 exact ⟨_, hF.kp [0, 5, 7, 46], hS.sp (rg 15) (rg 15), trivial⟩
 rintro a w ⟨κ, hF, hS, -⟩
 refine hK122 _ _ ?_
 refine bif_split H (fun hb H => ?_) (fun hb H => ?_)
 refine cond_t hF (by kernel_rfl) hb ?_
 refine wpIn_region_lit ?_
 refine wp 2 [0, 5, 65, 66] hF fun a hF => ?_
 refine wc (wls hF hS 0 0 14 fun a hF => ?_)
 refine bind_split H (fun x125 hx125 H => ?_)
 have hgx1250 := hS.segs 1 rfl
 refine wc (wcS 12 [1, 2, 3, 5, 7, 8, 9, 10, 11, 12, 13, 14, 0, 4, 6] hF hS (fun hS => C_gate_Gate_answered N a1 a2 a4 a5 a6 (T_api_Map.mk a7.Cuts a7.Nodes) a15 a22 a25 a28 a31 a32 a37 a41 a45 a48 a52 a53 a56 a57 a58 a68 a71 (IntKind.i64.wrap ((Int.tmod (IntKind.i64.wrap (a75 - 1)) 5) - 1)) (T_api_Msg.mk a76.Kind a76.Id a76.N a76.TS a76.Lo a76.Hi a76.Vers a76.Vec (T_api_Cmd.mk a76.Cmd.Kind a76.Cmd.DC a76.Cmd.Shard a76.Cmd.Node a76.Cmd.Mode a76.Cmd.Key)) [vi a3] p8 c9 p10 c11 [.slice p13 (a12).length c14] p16 c17 (flat [sl p19 (a18).length c20, sb a21]) p23 cs24 p26 cs27 p29 cs30 p33 cs34 (flat [ei 4 a35, ei 4 a36]) p38 m39 c40 p42 m43 c44 p46 c47 p49 m50 c51 p54 cs55 p59 c60 (flat [sl p62 (a61).length c63, su a64, sb a65, sb a66, sb a67]) p69 c70 p72 c73 p77 c78 p79 c80 b74 ((hS.regr 0 [(false, 10), (true, 2), (false, 5), (true, 2), (false, 9), (true, 5), (false, 2)] rfl).sbK [0, 1, 2, 5, 6, 7, 8, 9, 11, 12, 13, 14]) hx125) ?_)
 rintro _ κ w a ⟨p126, cs127, p128, cs129, p130, m131, c132, p133, c134, p135, c136, cs137, cs138, cs139, rfl, h2⟩ hF hB
 have hS := (hB _ _ h2).unregrK 0 [(false, 10), (true, 2), (false, 5), (true, 2), (false, 9), (true, 5), (false, 2)] (s' := [si a1, si a2, si a3, si a4, si a5, si a6, sl p8 (a7.Cuts).length c9, sl p10 (a7.Nodes).length c11, sl p13 (a12).length c14, sl p16 (a15).length c17, sl p19 (a18).length c20, sb a21, (1, [.pointer (pa p23)]), (1, [.pointer (pa p126)]), (1, [.pointer (pa p128)]), su x125.2.2.1, (4, (encs fPtr p33)), ei 4 a35, ei 4 a36, (1, [.map p130]), (1, [.map p42]), sl p46 (a45).length c47, (1, [.map p49]), su a52, (1, [.pointer (pa p54)]), si a56, si a57, sl p59 (a58).length c60, sl p62 (a61).length c63, su a64, sb a65, sb a66, sb a67, sl p133 (x125.2.2.2.2.1).length c134, sl p135 (x125.2.2.2.2.2).length c136]) hgx1250 rfl
 refine wpListIn_nil ?_
 exact ⟨_, cs137, p126, cs127, x125.1, p128, cs129, x125.2.1, x125.2.2.1, cs138, p130, m131, c132, x125.2.2.2.1, cs139, x125.2.2.2.2.1, p133, c134, x125.2.2.2.2.2, p135, c136, hF.kp [0], hS.sp [0, 1, 2, 13, 3, 14, 4, 5, 6, 7, 8, 9, 10, 11] [3, 4, 5, 6, 7, 0, 9, 10, 11, 12, 13, 1, 2], H⟩
 refine cond_f hF (by kernel_rfl) hb ?_
 refine wpIn_skip ?_
 exact ⟨_, cs24, p26, cs27, a25, p29, cs30, a28, a31, cs34, p38, m39, c40, a37, cs55, a68, p69, c70, a71, p72, c73, hF.kp [0], hS.sp [1, 2, 3, 4, 5, 6, 7, 8, 9, 10, 11, 12, 13, 14] (rg 13), H⟩
 rintro a w ⟨κ, cs88, p89, cs90, y91, p92, cs93, y94, y95, cs96, p97, m98, c99, y100, cs101, y102, p103, c104, y105, p106, c107, hF, hS, H⟩
 unfold M.gate_Gate_Take_k1 at H
 refine wpIn_region_lit ?_
 refine wp 1 [69] hF fun a hF => ?_
 refine bind_split H (fun x108 hx108 H => ?_)
 have hgx1080 := hS.segs 0 rfl
 refine wc (wcS 9 [0, 4, 6, 7, 8, 9, 11, 12, 13, 1, 2, 3, 5, 10] hF hS (fun hS => C_gate_Gate_work N a1 a3 a4 (T_api_Map.mk a7.Cuts a7.Nodes) a15 a21 a22 y91 y94 y95 a32 a35 a36 a41 a45 a48 a52 a53 a61 a64 a65 a66 a67 y102 [vi a2] (flat [si a5, si a6]) p8 c9 p10 c11 [.slice p13 (a12).length c14] p16 c17 [.slice p19 (a18).length c20] p23 cs88 p89 cs90 p92 cs93 p33 cs96 [.map p97] p42 m43 c44 p46 c47 p49 m50 c51 p54 cs101 (flat [si a56, si a57, sl p59 (a58).length c60]) p62 c63 p103 c104 [.slice p106 (y105).length c107] b74 ((hS.regr 0 [(false, 4), (true, 2), (false, 19), (true, 3), (false, 7)] rfl).sbK [0, 1, 2, 3, 4, 6, 7, 8, 10, 11]) hx108) ?_)
 rintro _ κ w a ⟨p109, cs110, p111, cs112, p113, cs114, p115, cs116, cs117, rfl, h2⟩ hF hB
 have hS := (hB _ _ h2).unregrK 0 [(false, 4), (true, 2), (false, 19), (true, 3), (false, 7)] (s' := [si a1, si a2, si a3, si a4, si a5, si a6, sl p8 (a7.Cuts).length c9, sl p10 (a7.Nodes).length c11, sl p13 (a12).length c14, sl p16 (a15).length c17, sl p19 (a18).length c20, sb a21, (1, [.pointer (pa p109)]), (1, [.pointer (pa p111)]), (1, [.pointer (pa p113)]), su y95, (4, (encs fPtr p33)), ei 4 a35, ei 4 a36, (1, [.map p97]), (1, [.map p42]), sl p46 (a45).length c47, (1, [.map p49]), su a52, (1, [.pointer (pa p115)]), si a56, si a57, sl p59 (a58).length c60, sl p62 (a61).length c63, su a64, sb a65, sb a66, sb a67, sl p103 (y102).length c104, sl p106 (y105).length c107]) hgx1080 rfl
 refine wpListIn_nil ?_
 cases H
 exact ret_done hF hS (res0 Tryz.results15 ) ⟨p109, cs110, p111, cs112, p113, cs114, p97, m98, c99, p115, cs116, p103, c104, p106, c107, cs117, rfl, hS.sp [0, 9, 10, 11, 1, 12, 2, 3, 4, 5, 13, 6, 7, 8] [5, 11, 12]⟩
set_option maxRecDepth 20000 in
set_option maxHeartbeats 8000000 in
theorem C_gate_Gate_Commit (N : Nat) {Ms : List Nat} {κ0 : Gh} {w0 : World} (a1 : Int) (a3 : Int) (a4 : Int) (a5 : Int) (a6 : Int) (a7 : T_api_Map) (a13 : (List Bool)) (a17 : Bool) (a18 : (Option T_stab_Table)) (a21 : (Option T_order_Log)) (a24 : (Option T_coord_Table)) (a27 : Int) (a28 : (List (Option T_inbox_Box))) (a31 : (List Int)) (a32 : (List Int)) (a33 : (Mp Int Int)) (a37 : (Mp Int T_gate_call)) (a41 : (List T_gate_call)) (a44 : (Mp Int T_gate_load)) (a48 : Int) (a49 : (Option T_gate_move)) (a53 : (List Int)) (a56 : Int) (a57 : Bool) (a58 : Bool) (a59 : Bool) (a60 : (List T_api_Mail)) (a65 : Int) (a66 : Int) (a67 : (List T_api_Ver)) (cs2 : List Value) (p8 : Option Addr) (c9 : Nat) (p10 : Option Addr) (c11 : Nat) (cs12 : List Value) (p14 : Option Addr) (c15 : Nat) (cs16 : List Value) (p19 : Option Nat) (cs20 : List Nat) (p22 : Option Nat) (cs23 : List Nat) (p25 : Option Nat) (cs26 : List Nat) (p29 : List (Option Nat)) (cs30 : List Nat) (p34 : Option Nat) (m35 : Array MapEntry) (c36 : Nat) (p38 : Option Nat) (m39 : Array MapEntry) (c40 : Nat) (p42 : Option Addr) (c43 : Nat) (p45 : Option Nat) (m46 : Array MapEntry) (c47 : Nat) (p50 : Option Nat) (cs51 : List Nat) (cs52 : List Value) (p54 : Option Addr) (c55 : Nat) (p61 : Option Addr) (c62 : Nat) (cs63 : List Value) (p68 : Option Addr) (c69 : Nat) (b64 : Nat) (hB : SB Ms κ0 w0 [.box b64 87 [si a1, (1, cs2), si a3, si a4, si a5, si a6, sl p8 (a7.Cuts).length c9, sl p10 (a7.Nodes).length c11, (1, cs12), sl p14 (a13).length c15, (1, cs16), sb a17, (1, [.pointer (pa p19)]), (1, [.pointer (pa p22)]), (1, [.pointer (pa p25)]), su a27, (4, (encs fPtr p29)), ei 4 a31, ei 4 a32, (1, [.map p34]), (1, [.map p38]), sl p42 (a41).length c43, (1, [.map p45]), su a48, (1, [.pointer (pa p50)]), (3, cs52), sl p54 (a53).length c55, su a56, sb a57, sb a58, sb a59, sl p61 (a60).length c62, (1, cs63)], .tok p61 61 15 (a60).length c62, .ext (ownX fBool 4 p14 c15 a13), .ext (optX o_stab_Table p19 cs20 a18), .ext (optX o_order_Log p22 cs23 a21), .ext (optX o_coord_Table p25 cs26 a24), .ext (arrX o_inbox_Box p29 cs30 a28), .ext (objX p34 (.map m35 c36)), .ext (objX p38 (.map m39 c40)), .ext (objX p45 (.map m46 c47)), .ext (optX o_gate_move p50 cs51 a49)] [Ro.mp fStr.ty p8 c9 a7.Cuts, Ro.mp (fInt .i64).ty p10 c11 a7.Nodes, ml p29 4, ml a31 4, ml a32 4, Map.mp (kInt .u64) false (fInt .i64).ty p34 m35 c36 a33, Map.mp (kInt .u64) true t_gate_call p38 m39 c40 a37, Ro.mp t_gate_call p42 c43 a41, Map.mp (kInt .u64) true t_gate_load p45 m46 c47 a44, Ro.mp (fInt .u64).ty p54 c55 a53, Ro.mp t_api_Mail p61 c62 a60, Ro.mp f_api_Ver.ty p68 c69 a67]) {r : (Int × Int × (Option T_stab_Table) × (Option T_order_Log) × (Option T_coord_Table) × Int × (Mp Int Int) × (Option T_gate_move) × (List T_api_Mail))} (H : M.gate_Gate_Commit N a1 a3 a4 a5 a6 a7 a13 a17 a18 a21 a24 a27 a28 a31 a32 a33 a37 a41 a44 a48 a49 a53 a56 a57 a58 a59 a60 a65 a66 a67 = some r) :
    Calls Tryz.prog 17 #[pt b64 0, vi a65, vu a66, .slice p68 (a67).length c69] w0 (Post Ms κ0 w0 fun v κ w => ∃ (p111 : Option Nat) (cs112 : List Nat) (p113 : Option Nat) (cs114 : List Nat) (p115 : Option Nat) (cs116 : List Nat) (p117 : Option Nat) (m118 : Array MapEntry) (c119 : Nat) (p120 : Option Nat) (cs121 : List Nat) (p122 : Option Addr) (c123 : Nat) (cs124 : List Nat), v = vi r.1 ∧ SS Ms κ0 w0 κ w [.box b64 87 [si a1, (1, cs2), si a3, si a4, si a5, si r.2.1, sl p8 (a7.Cuts).length c9, sl p10 (a7.Nodes).length c11, (1, cs12), sl p14 (a13).length c15, (1, cs16), sb a17, (1, [.pointer (pa p111)]), (1, [.pointer (pa p113)]), (1, [.pointer (pa p115)]), su r.2.2.2.2.2.1, (4, (encs fPtr p29)), ei 4 a31, ei 4 a32, (1, [.map p117]), (1, [.map p38]), sl p42 (a41).length c43, (1, [.map p45]), su a48, (1, [.pointer (pa p120)]), (3, cs52), sl p54 (a53).length c55, su a56, sb a57, sb a58, sb a59, sl p122 (r.2.2.2.2.2.2.2.2).length c123, (1, cs63)], .tok p122 61 15 (r.2.2.2.2.2.2.2.2).length c123, .ext (ownX fBool 4 p14 c15 a13), .ext (optX o_stab_Table p111 cs112 r.2.2.1), .ext (optX o_order_Log p113 cs114 r.2.2.2.1), .ext (optX o_coord_Table p115 cs116 r.2.2.2.2.1), .ext (arrX o_inbox_Box p29 cs124 a28), .ext (objX p117 (.map m118 c119)), .ext (objX p38 (.map m39 c40)), .ext (objX p45 (.map m46 c47)), .ext (optX o_gate_move p120 cs121 r.2.2.2.2.2.2.2.1)] [Map.mp (kInt .u64) false (fInt .i64).ty p117 m118 c119 r.2.2.2.2.2.2.1, Ro.mp t_api_Mail p122 c123 r.2.2.2.2.2.2.2.2]) := by
 have hS := hB.hS
 have hfr := hS.fresh
 refine enter (N := (41)) (L := [(0, pt b64 0), (1, vi a65), (2, vu a66), (3, .slice p68 (a67).length c69)]) Tryz.func17 rfl Tryz.ntmps17 (show 4 ≤ (41) by decide) rfl fun a hF => ?_
 unfold M.gate_Gate_Commit at H
 refine wpIn_seq_k fun K70 hK70 => ?_
 refine wpIn_region_lit ?_
 refine wp 1 (rg 4) hF fun a hF => ?_
 refine wpListIn_nil ?_
 refine hK70 _ _ ?_
 refine wpIn_seq_k fun K71 hK71 => ?_
 refine wpIn_seq_k fun K72 hK72 => ?_
 refine wpIn_region_lit ?_
 refine wp 6 [0, 1, 2, 3, 11, 14] hF fun a hF => ?_
 refine wcg hF (wld hF hS 0 2 0 fun a hF => ?_)
 refine wp 2 [0, 1, 2, 3, 17] hF fun a hF => ?_
 refine wpListIn_nil ?_
 refine hK72 _ _ ?_
 refine bif_split H (fun hb H => ?_) (fun hb H => ?_)
 refine cond_t hF (by kernel_rfl) hb ?_
 refine wpIn_seq_k fun K73 hK73 => ?_
 refine wpIn_region_lit ?_
 refine wp 1 [8] hF fun a hF => ?_
 refine wpListIn_nil ?_
 refine hK73 _ _ ?_
 refine wpIn_ret ?_
 cases H
 exact ret_done hF hS (res1 Tryz.results17 (rvt hF)) ⟨p19, cs20, p22, cs23, p25, cs26, p34, m35, c36, p50, cs51, p61, c62, cs30, rfl, hS.sp (rg 11) [5, 10]⟩
 refine cond_f hF (by kernel_rfl) hb ?_
 refine wpIn_skip ?_
 refine hK71 _ _ ?_
 refine wpIn_seq_k fun K74 hK74 => ?_
 refine wpIn_seq_k fun K75 hK75 => ?_
 refine wpIn_region_lit ?_
 refine bind_split H (fun v77 hv77 H => ?_)
 refine wl_join (fun a w => ∃ κ : Gh, Fr (41) [] [(0, pt b64 0), (1, vi a65), (2, vu a66), (3, .slice p68 (a67).length c69), (25, vb v77)] a ∧ SS Ms κ0 w0 κ w [.box b64 87 [si a1, (1, cs2), si a3, si a4, si a5, si a6, sl p8 (a7.Cuts).length c9, sl p10 (a7.Nodes).length c11, (1, cs12), sl p14 (a13).length c15, (1, cs16), sb a17, (1, [.pointer (pa p19)]), (1, [.pointer (pa p22)]), (1, [.pointer (pa p25)]), su a27, (4, (encs fPtr p29)), ei 4 a31, ei 4 a32, (1, [.map p34]), (1, [.map p38]), sl p42 (a41).length c43, (1, [.map p45]), su a48, (1, [.pointer (pa p50)]), (3, cs52), sl p54 (a53).length c55, su a56, sb a57, sb a58, sb a59, sl p61 (a60).length c62, (1, cs63)], .tok p61 61 15 (a60).length c62, .ext (ownX fBool 4 p14 c15 a13), .ext (optX o_stab_Table p19 cs20 a18), .ext (optX o_order_Log p22 cs23 a21), .ext (optX o_coord_Table p25 cs26 a24), .ext (arrX o_inbox_Box p29 cs30 a28), .ext (objX p34 (.map m35 c36)), .ext (objX p38 (.map m39 c40)), .ext (objX p45 (.map m46 c47)), .ext (optX o_gate_move p50 cs51 a49)] [Ro.mp fStr.ty p8 c9 a7.Cuts, Ro.mp (fInt .i64).ty p10 c11 a7.Nodes, ml p29 4, ml a31 4, ml a32 4, Map.mp (kInt .u64) false (fInt .i64).ty p34 m35 c36 a33, Map.mp (kInt .u64) true t_gate_call p38 m39 c40 a37, Ro.mp t_gate_call p42 c43 a41, Map.mp (kInt .u64) true t_gate_load p45 m46 c47 a44, Ro.mp (fInt .u64).ty p54 c55 a53, Ro.mp t_api_Mail p61 c62 a60, Ro.mp f_api_Ver.ty p68 c69 a67] ∧ True) ?_ ?_
 refine wp 4 [0, 1, 2, 3, 21] hF fun a hF => ?_
 refine bif_split hv77 (fun hb hv77 => ?_) (fun hb hv77 => ?_)
 have hF := hF.boolv 21 (by kernel_rfl) hb
 refine wp 4 [0, 1, 2, 3, 25] hF fun a hF => ?_
 refine wpListIn_nil ?_
 cases hv77
 exact ⟨_, hF.kp [0, 1, 2, 3, 25], hS.sp (rg 11) (rg 12), trivial⟩
 have hF := hF.boolv 21 (by kernel_rfl) hb
 refine wp 4 [0, 1, 2, 3, 25] hF fun a hF => ?_
 refine wpListIn_nil ?_
 cases hv77
 exact ⟨_, hF.kp [0, 1, 2, 3, 25], hS.sp (rg 11) (rg 12), trivial⟩
 rintro a w ⟨κ, hF, hS, -⟩
 refine hK75 _ _ ?_
 refine bif_split H (fun hb H => ?_) (fun hb H => ?_)
 refine cond_t hF (by kernel_rfl) hb ?_
 refine wpIn_seq_k fun K78 hK78 => ?_
 refine wpIn_region_lit ?_
 refine wp 1 [8] hF fun a hF => ?_
 refine wpListIn_nil ?_
 refine hK78 _ _ ?_
 refine wpIn_ret ?_
 cases H
 exact ret_done hF hS (res1 Tryz.results17 (rvt hF)) ⟨p19, cs20, p22, cs23, p25, cs26, p34, m35, c36, p50, cs51, p61, c62, cs30, rfl, hS.sp (rg 11) [5, 10]⟩
 refine cond_f hF (by kernel_rfl) hb ?_
 refine wpIn_skip ?_
 refine hK74 _ _ ?_
 refine wpIn_seq_k fun K79 hK79 => ?_
 refine bind_split H (fun x80 ho H => ?_)
 obtain ⟨b81, hpq, hS⟩ := hS.optS 3 rfl ho
 have hG10 := hF
 subst hpq
 have hF := hG10
 obtain ⟨⟨p82, c83⟩, hS⟩ := hS.unfI (ck := c_stab_Table) (fs := q_stab_Table) 3 rfl
 refine wpIn_region_lit ?_
 refine wp 6 [0, 3, 26, 27, 28, 31] hF fun a hF => ?_
 refine wc (wld hF hS 2 12 0 fun a hF => ?_)
 refine bind_split H (fun x84 hx84 H => ?_)
 refine wc (wcS 2 (rg 12) hF hS (fun hS => C_stab_Table_Stable N (T_stab_Table.mk x80.dc x80.beats (T_vec_Vec.mk x80.got.Epoch x80.got.Has x80.got.T) (T_vec_Vec.mk x80.known.Epoch x80.known.Has x80.known.T) x80.stable) p82 c83 b81 (hS.sbK (rg 4)) hx84) ?_)
 rintro _ κ w a ⟨rfl, h2⟩ hF hB
 have hS := hB _ _ h2
 refine wl_pure (L' := [(0, pt b64 0), (26, pt b64 0), (27, vi a65), (34, vu (if x84 > a66 then x84 else a66)), (35, .slice p68 (a67).length c69)]) 2 [0, 26, 27, 34, 35] hF (by kernel_rfl) fun a hF => ?_
 have hS := hS.add (m := Ro.mp f_api_Ver.ty none 0 ([] : List T_api_Ver)) (Ro.nil f_api_Ver.ty _ _)
 have hS := hS.addNil 48 6
 refine bind_split H (fun x85 hx85 H => ?_)
 refine wc (wo_append (ty := f_api_Ver.ty) hF hS (by kernel_rfl) 0 0 16 rfl rfl rfl (by kernel_rfl) (by kernel_rfl) rfl rfl rfl hx85 (by kernel_rfl) (i := Tryz.t48) (z := .agg (flat [sg ByteArray.empty, sg ByteArray.empty, sb false, su 0, si 0, si 0]).toArray) (by kernel_rfl) (by kernel_rfl) (by kernel_rfl) fun p86 c87 κ a w hF hS => ?_)
 refine wp 1 [0, 26, 37] hF fun a hF => ?_
 refine bind_split H (fun x88 hx88 H => ?_)
 have hgx880 := hS.segs 3 rfl
 refine wc (wcS 6 [3, 4, 7, 9, 10, 12, 0, 1, 2, 5, 6, 8, 11] hF hS (fun hS => C_gate_Gate_ask N a1 a5 a6 (T_api_Map.mk a7.Cuts a7.Nodes) a24 a27 a33 a37 a41 a48 a49 a60 (T_gate_call.mk a65 false ByteArray.empty (if x84 > a66 then x84 else a66) x85) (flat [(1, cs2), si a3, si a4]) p8 c9 p10 c11 (flat [(1, cs12), sl p14 (a13).length c15, (1, cs16), sb a17, (1, [pt b81 0]), (1, [.pointer (pa p22)])]) p25 cs26 (flat [(4, (encs fPtr p29)), ei 4 a31, ei 4 a32]) p34 m35 c36 p38 m39 c40 p42 c43 [.map p45] p50 cs51 (flat [(3, cs52), sl p54 (a53).length c55, su a56, sb a57, sb a58, sb a59]) p61 c62 cs63 p86 c87 b64 ((hS.regr 0 [(false, 1), (true, 3), (false, 4), (true, 6), (false, 2), (true, 3), (false, 6), (true, 6), (false, 2)] rfl).sbK [6, 7, 11, 12, 13, 16, 0]) hx88) ?_)
 rintro _ κ w a ⟨p89, cs90, p91, m92, c93, p94, cs95, p96, c97, rfl, h2⟩ hF hB
 have hS := ((hB _ _ h2).unregrK 0 [(false, 1), (true, 3), (false, 4), (true, 6), (false, 2), (true, 3), (false, 6), (true, 6), (false, 2)] (s' := [si a1, (1, cs2), si a3, si a4, si a5, si x88.1, sl p8 (a7.Cuts).length c9, sl p10 (a7.Nodes).length c11, (1, cs12), sl p14 (a13).length c15, (1, cs16), sb a17, (1, [pt b81 0]), (1, [.pointer (pa p22)]), (1, [.pointer (pa p89)]), su x88.2.2.1, (4, (encs fPtr p29)), ei 4 a31, ei 4 a32, (1, [.map p91]), (1, [.map p38]), sl p42 (a41).length c43, (1, [.map p45]), su a48, (1, [.pointer (pa p94)]), (3, cs52), sl p54 (a53).length c55, su a56, sb a57, sb a58, sb a59, sl p96 (x88.2.2.2.2.2).length c97, (1, cs63)]) hgx880 rfl).cC (C' := [.box b64 87 [si a1, (1, cs2), si a3, si a4, si a5, si x88.1, sl p8 (a7.Cuts).length c9, sl p10 (a7.Nodes).length c11, (1, cs12), sl p14 (a13).length c15, (1, cs16), sb a17, (1, [pt b81 0]), (1, [.pointer (pa p22)]), (1, [.pointer (pa p89)]), su x88.2.2.1, (4, (encs fPtr p29)), ei 4 a31, ei 4 a32, (1, [.map p91]), (1, [.map p38]), sl p42 (a41).length c43, (1, [.map p45]), su a48, (1, [.pointer (pa p94)]), (3, cs52), sl p54 (a53).length c55, su a56, sb a57, sb a58, sb a59, sl p96 (x88.2.2.2.2.2).length c97, (1, cs63)], .tok p96 61 15 (x88.2.2.2.2.2).length c97, .ext (optX o_coord_Table p89 cs90 x88.2.1), .ext (objX p91 (.map m92 c93)), .ext (objX p38 (.map m39 c40)), .ext (optX o_gate_move p94 cs95 x88.2.2.2.2.1), .tok p86 48 6 (x85).length c87, .box b81 109 [si x80.dc, sl p82 (x80.beats).length c83, si x80.got.Epoch, eb 4 x80.got.Has, (4, (encs (fInt .u64) x80.got.T)), si x80.known.Epoch, eb 4 x80.known.Has, (4, (encs (fInt .u64) x80.known.T)), su x80.stable], .ext (ownX (fInt .u64) 32 p82 c83 x80.beats), .ext (ownX fBool 4 p14 c15 a13), .ext (optX o_order_Log p22 cs23 a21), .ext (arrX o_inbox_Box p29 cs30 a28), .ext (objX p45 (.map m46 c47))])
 refine wpListIn_nil ?_
 obtain ⟨cs98, hS⟩ := hS.foldI (ck := c_stab_Table) (fs := q_stab_Table) b81 (p82, c83) x80 [7, 8] [0, 1, 2, 3, 4, 5, 6, 9, 10, 11, 12] [4, 5, 6, 7] (by decide) (by kernel_rfl) (by kernel_rfl)
 refine hK79 _ _ ?_
 refine wpIn_seq_k fun K99 hK99 => ?_
 refine wpIn_region_lit ?_
 refine wp 1 [39] hF fun a hF => ?_
 refine bind_split H (fun x100 hx100 H => ?_)
 have hgx1000 := hS.segs 1 rfl
 refine wc (wcS 9 [1, 8, 0, 9, 3, 10, 5, 11, 6, 2, 4, 7] hF hS (fun hS => C_gate_Gate_work N a1 a3 a4 (T_api_Map.mk a7.Cuts a7.Nodes) a13 a17 (some x80) a21 x88.2.1 x88.2.2.1 a28 a31 a32 a37 a41 a44 a48 x88.2.2.2.2.1 a53 a56 a57 a58 a59 x88.2.2.2.2.2 cs2 (flat [si a5, si x88.1]) p8 c9 p10 c11 cs12 p14 c15 cs16 (some b81) cs98 p22 cs23 p89 cs90 p29 cs30 [.map p91] p38 m39 c40 p42 c43 p45 m46 c47 p94 cs95 cs52 p54 c55 p96 c97 cs63 b64 ((hS.regr 0 [(false, 4), (true, 2), (false, 27)] rfl).sbK [8, 9, 10, 11, 12, 14, 15, 16, 17, 1]) hx100) ?_)
 rintro _ κ w a ⟨p101, cs102, p103, cs104, p105, cs106, p107, cs108, cs109, rfl, h2⟩ hF hB
 have hS := (hB _ _ h2).unregrK 0 [(false, 4), (true, 2), (false, 27)] (s' := [si a1, (1, cs2), si a3, si a4, si a5, si x88.1, sl p8 (a7.Cuts).length c9, sl p10 (a7.Nodes).length c11, (1, cs12), sl p14 (a13).length c15, (1, cs16), sb a17, (1, [.pointer (pa p101)]), (1, [.pointer (pa p103)]), (1, [.pointer (pa p105)]), su x88.2.2.1, (4, (encs fPtr p29)), ei 4 a31, ei 4 a32, (1, [.map p91]), (1, [.map p38]), sl p42 (a41).length c43, (1, [.map p45]), su a48, (1, [.pointer (pa p107)]), (3, cs52), sl p54 (a53).length c55, su a56, sb a57, sb a58, sb a59, sl p96 (x88.2.2.2.2.2).length c97, (1, cs63)]) hgx1000 rfl
 refine wpListIn_nil ?_
 refine hK99 _ _ ?_
 refine wpIn_seq_k fun K110 hK110 => ?_
 refine wpIn_region_lit ?_
 refine wp 1 [8] hF fun a hF => ?_
 refine wpListIn_nil ?_
 refine hK110 _ _ ?_
 refine wpIn_ret ?_
 cases H
 exact ret_done hF hS (res1 Tryz.results17 (rvt hF)) ⟨p101, cs102, p103, cs104, p105, cs106, p91, m92, c93, p107, cs108, p96, c97, cs109, rfl, hS.sp [0, 9, 1, 2, 3, 4, 5, 10, 6, 7, 8] [0, 1]⟩
end Go.Cf
