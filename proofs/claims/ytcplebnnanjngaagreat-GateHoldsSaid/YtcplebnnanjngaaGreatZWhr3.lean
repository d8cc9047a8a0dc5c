/- The walks: each function returns what its model says. Printed by a program of ours. -/
import Derived.Test.YtcplebnnanjngaaGreatZM1
import Derived.Test.YtcplebnnanjngaaGreatZWhg1
import Derived.Test.YtcplebnnanjngaaGreatZWhg2
import Derived.Test.YtcplebnnanjngaaGreatZWhg9
import Derived.Test.YtcplebnnanjngaaGreatZWhg8
import Derived.Test.YtcplebnnanjngaaGreatZWhr1
namespace Go.Cf
open Go Go.Proofs
set_option linter.unusedVariables false
set_option maxRecDepth 20000 in
set_option maxHeartbeats 8000000 in
theorem C_law22_awake (N:Nat){κ0:Gh}{w0:World}(hfr:Fresh κ0 w0)(hR : ∀m∈([]:List MP),m.p κ0 w0){r:(Bool)}(H:M.law22_awake N=some r) :
    Calls Tryz.prog 14 #[] w0 (Post [] κ0 w0 fun v κ w=>v=vb r∧(∀m∈([]:List MP),m.p κ w)∧NewC w0 κ w []):=by
 have hS:=SS.start hfr hR
 refine enter (N:=(63)) (L:=[]) Tryz.func14 rfl Tryz.ntmps14 (show 0≤(63) by decide) rfl fun a hF=>?_
 unfold M.law22_awake at H
 refine wpIn_seq_k fun K1 hK1=>?_
 refine wpIn_region_lit ?_
 refine wl_pure (L':=[]) 1 [] hF (by kernel_rfl) fun a hF=>?_
 refine wpListIn_nil ?_
 refine hK1 _ _ ?_
 refine wpIn_seq_k fun K2 hK2=>?_
 refine wpIn_region_lit ?_
 refine wc (wo_val hF (by kernel_rfl) (v := .agg (flat [eb 4 ([true,false,false,false])]).toArray) (val_buildA (rows:=[[sb false],[sb false],[sb false],[sb false]]) (vals:=[(0,[sb true])]) (n:=4) (sz:=1) (s':=[sb true,sb false,sb false,sb false]) rfl (by kernel_rfl) (by kernel_rfl) (by kernel_rfl) (by kernel_rfl) (by kernel_rfl) (sgN 1 sgNil) (by kernel_rfl) (by kernel_rfl) _) fun a hF=>?_)
 refine bind_split H (fun x3 hx3 H=>?_)
 refine wc (wo_callP hF hS (by kernel_rfl) (by kernel_rfl) (C_law22_modes N hS.fresh ((hS.pick [] (by kernel_rfl)).ro) hx3) ?_)
 rintro _ κ w a ⟨p4,c5,rfl,hR,hN⟩ hF hS hO
 have hS:=hS.adds hR
 have hS:=hS.addC hO hN
 have hS:=hS.add (m:=ml ([true,false,false,false]) 4) rfl
 refine bind_split H (fun x6 hx6 H=>?_)
 refine wc (wcS 0 [0] hF hS (fun hS=>C_gate_New N 0 1 [true,false,false,false] x3 p4 c5 (hS.sbK [0,1]) hx6) ?_)
 rintro _ κ w a ⟨p7,cs8,rfl,h2⟩ hF hB
 have hS:=hB _ _ h2
 refine wl_pure (L':=[(1,.pointer (pa p7)),(2,vi x6.2)]) 5 [1,2] hF (by kernel_rfl) fun a hF=>?_
 refine wpListIn_nil ?_
 refine hK2 _ _ ?_
 refine wpIn_seq_k fun K9 hK9=>?_
 refine wpIn_seq_k fun K10 hK10=>?_
 refine bind_split H (fun v15 hv15 H=>?_)
 refine code_join (fun a w => ∃(κ:Gh) (p11:Option Nat) (cs12:List Nat),Fr (63) [] [(1,.pointer (pa p11)),(22,vb v15.2)] a∧SS [] κ0 w0 κ w [.ext (optX o_gate_Gate p11 cs12 v15.1)] []∧True) ?_ ?_
 refine opt_split hv15 (fun ho hv15=>?_) (fun x16 ho hv15=>?_)
 obtain ⟨hpq,hS⟩:=hS.optN 0 rfl ho
 rw [hpq] at hS
 try rw [hpq] at hF
 refine wpIn_region_lit ?_
 refine bind_split hv15 (fun v84 hv84 hv15=>?_)
 refine wl_join (fun a w => ∃κ:Gh,Fr (63) [] [(1,.pointer none),(22,vb true)] a∧SS [] κ0 w0 κ w [] []∧True) ?_ ?_
 refine wp 3 [1,12] hF fun a hF=>?_
 refine bif_split hv84 (fun hb hv84=>?_) (fun hb hv84=>?_)
 have hF:=hF.boolv 12 (by kernel_rfl) hb
 refine wp 10 [1,22] hF fun a hF=>?_
 refine wpListIn_nil ?_
 cases hv84
 exact ⟨_,hF.kp [1,22],hS.sp [] [],trivial⟩
 have hF:=hF.boolv 12 (by kernel_rfl) hb
 refine wp 10 [1,22] hF fun a hF=>?_
 refine wpListIn_nil ?_
 cases hv84
 exact ⟨_,hF.kp [1,22],hS.sp [] [],trivial⟩
 rintro a w ⟨κ,hF,hS,-⟩
 cases hv15
 have hS:=hS.addOpt o_gate_Gate
 exact ⟨_,none,[],hF.kp [1,22],hS.sp [0] [],trivial⟩
 obtain ⟨b17,hpq,hS⟩:=hS.optS 0 rfl ho
 rw [hpq] at hS
 try rw [hpq] at hF
 obtain ⟨⟨p18,c19,p20,c21,p22,c23,p24,c25,p26,c27,p28,cs29,p30,cs31,p32,cs33,p34,cs35,p36,m37,c38,p39,m40,c41,p42,c43,p44,m45,c46,p47,cs48,p49,c50,p51,c52,p53,c54,p55,c56⟩,hS⟩:=hS.unfI (ck:=c_gate_Gate) (fs:=q_gate_Gate) 0 rfl
 refine wpIn_region_lit ?_
 refine bind_split hv15 (fun v60 hv60 hv15=>?_)
 refine wl_join (fun a w => ∃(κ:Gh) (cs57:List Nat),Fr (63) [] [(1,pt b17 0),(22,vb v60.2)] a∧SS [] κ0 w0 κ w [.ext (optX o_gate_Gate (some b17) cs57 (some v60.1))] []∧True) ?_ ?_
 refine wp 3 [1,12] hF fun a hF=>?_
 refine bif_split hv60 (fun hb hv60=>?_) (fun hb hv60=>?_)
 have hF:=hF.boolv 12 (by kernel_rfl) hb
 refine wp 10 [1,22] hF fun a hF=>?_
 obtain ⟨cs61,hS⟩:=hS.foldI (ck:=c_gate_Gate) (fs:=q_gate_Gate) b17 (p18,c19,p20,c21,p22,c23,p24,c25,p26,c27,p28,cs29,p30,cs31,p32,cs33,p34,cs35,p36,m37,c38,p39,m40,c41,p42,c43,p44,m45,c46,p47,cs48,p49,c50,p51,c52,p53,c54,p55,c56) x16 (rg 17) [17] (rg 13) (by decide) (by kernel_rfl) (by kernel_rfl)
 refine wpListIn_nil ?_
 cases hv60
 exact ⟨_,cs61,hF.kp [1,22],hS.sp [0] [],trivial⟩
 have hF:=hF.boolv 12 (by kernel_rfl) hb
 refine wl_pure (L':=[(1,pt b17 0),(16,vb false),(17,pt b17 0),(18,.agg (flat [sg (ByteArray.mk #[97]),sg ByteArray.empty,sb false,su 0,si 0,si 0]).toArray)]) 6 [1,16,17,18] hF (by kernel_rfl) fun a hF=>?_
 refine wcg hF (wo_buildN (t:=f_api_Ver) (z := .agg (flat [sg ByteArray.empty,sg ByteArray.empty,sb false,su 0,si 0,si 0]).toArray) (l:=[(T_api_Ver.mk (ByteArray.mk #[97]) ByteArray.empty false 0 0 0)]) (vs:=[(0,.agg (flat [sg (ByteArray.mk #[97]),sg ByteArray.empty,sb false,su 0,si 0,si 0]).toArray)]) (cells := #[.string ((ByteArray.mk #[97])),.string (ByteArray.empty),vb false,vu 0,vi 0,vi 0]) (E:=48) hF hS (by kernel_rfl) rfl (by kernel_rfl) (by kernel_rfl) rfl (by kernel_rfl) (by kernel_rfl) (by kernel_rfl) (by kernel_rfl) (by kernel_rfl) fun p62 κ a w hF hS=>?_)
 refine bind_split hv60 (fun x63 hx63 hv60=>?_)
 have hgx630:=hS.segs 1 rfl
 refine wcg hF (wcS 12 [1,2,5,8,10,11,12,13,14,15,16,17,0,3,4,6,7,9,18] hF hS (fun hS=>C_gate_Gate_Commit N x16.dc x16.role x16.epoch x16.base x16.txs (T_api_Map.mk x16.m.Cuts x16.m.Nodes) x16.agreed x16.owing x16.st x16.log x16.co x16.hi x16.boxes x16.cursor x16.heard x16.calls x16.reads x16.held x16.loads x16.last x16.mv x16.end_ x16.floor x16.floored x16.seeded x16.said x16.out 3 5 [(T_api_Ver.mk (ByteArray.mk #[97]) ByteArray.empty false 0 0 0)] [vi x16.nodes] p18 c19 p20 c21 [.slice p22 (x16.modes).length c23] p24 c25 [.slice p26 (x16.old).length c27] p28 cs29 p30 cs31 p32 cs33 p34 cs35 p36 m37 c38 p39 m40 c41 p42 c43 p44 m45 c46 p47 cs48 (flat [si x16.seedTo,si x16.seeds,sl p49 (x16.cut).length c50]) p51 c52 p53 c54 [.slice p55 (x16.replies).length c56] p62 1 b17 ((hS.regr 0 [(false,25),(true,3),(false,7)] rfl).sbK [1,2,3,4,5,6,7,8,9,11,12,0]) hx63) ?_)
 rintro _ κ w a ⟨p64,cs65,p66,cs67,p68,cs69,p70,m71,c72,p73,m74,c75,p76,c77,p78,cs79,p80,c81,cs82,rfl,h2⟩ hF hB
 have hS:=((hB _ _ h2).unregrK 0 [(false,25),(true,3),(false,7)] (s':=[si x16.dc,si x16.nodes,si x16.role,si x16.epoch,si x16.base,si x63.2.1,sl p18 (x16.m.Cuts).length c19,sl p20 (x16.m.Nodes).length c21,sl p22 (x16.modes).length c23,sl p24 (x16.agreed).length c25,sl p26 (x16.old).length c27,sb x16.owing,(1,[.pointer (pa p64)]),(1,[.pointer (pa p66)]),(1,[.pointer (pa p68)]),su x63.2.2.2.2.2.1,(4,(encs fPtr p34)),ei 4 x16.cursor,ei 4 x16.heard,(1,[.map p70]),(1,[.map p73]),sl p76 (x63.2.2.2.2.2.2.2.2.1).length c77,(1,[.map p44]),su x63.2.2.2.2.2.2.2.2.2.1,(1,[.pointer (pa p78)]),si x16.seedTo,si x16.seeds,sl p49 (x16.cut).length c50,sl p51 (x16.end_).length c52,su x16.floor,sb x16.floored,sb x16.seeded,sb x16.said,sl p80 (x63.2.2.2.2.2.2.2.2.2.2.2).length c81,sl p55 (x16.replies).length c56]) hgx630 rfl).cC (C':=[.box b17 87 [si x16.dc,si x16.nodes,si x16.role,si x16.epoch,si x16.base,si x63.2.1,sl p18 (x16.m.Cuts).length c19,sl p20 (x16.m.Nodes).length c21,sl p22 (x16.modes).length c23,sl p24 (x16.agreed).length c25,sl p26 (x16.old).length c27,sb x16.owing,(1,[.pointer (pa p64)]),(1,[.pointer (pa p66)]),(1,[.pointer (pa p68)]),su x63.2.2.2.2.2.1,(4,(encs fPtr p34)),ei 4 x16.cursor,ei 4 x16.heard,(1,[.map p70]),(1,[.map p73]),sl p76 (x63.2.2.2.2.2.2.2.2.1).length c77,(1,[.map p44]),su x63.2.2.2.2.2.2.2.2.2.1,(1,[.pointer (pa p78)]),si x16.seedTo,si x16.seeds,sl p49 (x16.cut).length c50,sl p51 (x16.end_).length c52,su x16.floor,sb x16.floored,sb x16.seeded,sb x16.said,sl p80 (x63.2.2.2.2.2.2.2.2.2.2.2).length c81,sl p55 (x16.replies).length c56],.tok p76 95 5 (x63.2.2.2.2.2.2.2.2.1).length c77,.tok p80 61 15 (x63.2.2.2.2.2.2.2.2.2.2.2).length c81,.ext (ownX fBool 4 p24 c25 x16.agreed),.ext (optX o_stab_Table p64 cs65 x63.2.2.1),.ext (optX o_order_Log p66 cs67 x63.2.2.2.1),.ext (optX o_coord_Table p68 cs69 x63.2.2.2.2.1),.ext (arrX o_inbox_Box p34 cs82 x16.boxes),.ext (objX p70 (.map m71 c72)),.ext (objX p73 (.map m74 c75)),.ext (objX p44 (.map m45 c46)),.ext (optX o_gate_move p78 cs79 x63.2.2.2.2.2.2.2.2.2.2.1),.tok p62 48 6 ([(T_api_Ver.mk (ByteArray.mk #[97]) ByteArray.empty false 0 0 0)]).length 1,.tok p49 32 1 (x16.cut).length c50,.tok p51 32 1 (x16.end_).length c52,.tok p55 52 13 (x16.replies).length c56,.ext (ownX (fInt .i64) 3 p22 c23 x16.modes),.ext (ownX (fInt .i64) 3 p26 c27 x16.old),.tok p4 3 1 (x3).length c5])
 refine wp 2 [1,22] hF fun a hF=>?_
 obtain ⟨cs83,hS⟩:=hS.foldI (ck:=c_gate_Gate) (fs:=q_gate_Gate) b17 (p18,c19,p20,c21,p22,c23,p24,c25,p26,c27,p64,cs65,p66,cs67,p68,cs69,p34,cs82,p70,m71,c72,p73,m74,c75,p76,c77,p44,m45,c46,p78,cs79,p49,c50,p51,c52,p80,c81,p55,c56) (T_gate_Gate.mk x16.dc x16.nodes x16.role x16.epoch x16.base x63.2.1 (T_api_Map.mk x16.m.Cuts x16.m.Nodes) x16.modes x16.agreed x16.old x16.owing x63.2.2.1 x63.2.2.2.1 x63.2.2.2.2.1 x63.2.2.2.2.2.1 x16.boxes x16.cursor x16.heard x63.2.2.2.2.2.2.1 x63.2.2.2.2.2.2.2.1 x63.2.2.2.2.2.2.2.2.1 x16.loads x63.2.2.2.2.2.2.2.2.2.1 x63.2.2.2.2.2.2.2.2.2.2.1 x16.seedTo x16.seeds x16.cut x16.end_ x16.floor x16.floored x16.seeded x16.said x63.2.2.2.2.2.2.2.2.2.2.2 x16.replies) [0,1,13,14,2,15,16,3,17,4,5,6,7,8,9,10,11] [12,18] [5,6,7,8,9,0,1,2,13,14,15,3,17] (by decide) (by kernel_rfl) (by kernel_rfl)
 refine wpListIn_nil ?_
 cases hv60
 exact ⟨_,cs83,hF.kp [1,22],hS.sp [0] [],trivial⟩
 rintro a w ⟨κ,cs57,hF,hS,-⟩
 cases hv15
 exact ⟨_,(some b17),cs57,hF.kp [1,22],hS.sp [0] [],trivial⟩
 rintro a w ⟨κ,p11,cs12,hF,hS,-⟩
 refine hK10 _ _ ?_
 refine bif_split H (fun hb H=>?_) (fun hb H=>?_)
 refine cond_t hF (by kernel_rfl) hb ?_
 refine wpIn_seq_k fun K85 hK85=>?_
 refine wpIn_region_lit ?_
 refine wp 1 [0] hF fun a hF=>?_
 refine wpListIn_nil ?_
 refine hK85 _ _ ?_
 refine wpIn_ret ?_
 cases H
 exact (ret_done hF hS (res1 Tryz.results14 (rvt hF)) ⟨rfl,(hS.pick [] (by kernel_rfl)).ro,hS.newC [] (by decide) (by kernel_rfl)⟩)
 refine cond_f hF (by kernel_rfl) hb ?_
 refine wpIn_skip ?_
 refine hK9 _ _ ?_
 refine wpIn_seq_k fun K86 hK86=>?_
 refine bind_split H (fun v90 hv90 H=>?_)
 refine code_join (fun a w => ∃(κ:Gh) (p87:Option Nat) (cs88:List Nat),Fr (63) [] [(1,.pointer (pa p87))] a∧SS [] κ0 w0 κ w [.ext (optX o_gate_Gate p87 cs88 v90)] []∧True) ?_ ?_
 refine opt_split hv90 (fun ho hv90=>?_) (fun x91 ho hv90=>?_)
 obtain ⟨hpq,hS⟩:=hS.optN 0 rfl ho
 rw [hpq] at hS
 try rw [hpq] at hF
 refine wpIn_region_lit ?_
 refine wp 2 [1,23,24] hF fun a hF=>?_
 have hS:=hS.add (m:=Ro.mp f_api_Ver.ty none 0 ([]:List T_api_Ver)) (Ro.nil f_api_Ver.ty _ _)
 have hS:=hS.add (m:=Ro.mp (fInt .u64).ty none 0 ([]:List Int)) (Ro.nil (fInt .u64).ty _ _)
 refine bind_split hv90 (fun x165 hx165 hv90=>?_)
 refine wc (wcS 0 [0] hF hS (fun hS=>C_gate_Gate_Take_nil0 N 2 (T_api_Msg.mk 11 1 0 9 ByteArray.empty ByteArray.empty ([]:List T_api_Ver) ([]:List Int) (T_api_Cmd.mk 0 0 0 0 0 ByteArray.empty)) none 0 none 0 (hS.sbK [1,0]) hx165) ?_)
 rintro _ κ w a ⟨rfl,h2⟩ hF hB
 have hS:=hB _ _ h2
 refine wpListIn_nil ?_
 cases hv90
 exact ⟨_,none,[],hF.kp [1],hS.sp [0] [],trivial⟩
 obtain ⟨b92,hpq,hS⟩:=hS.optS 0 rfl ho
 rw [hpq] at hS
 try rw [hpq] at hF
 obtain ⟨⟨p93,c94,p95,c96,p97,c98,p99,c100,p101,c102,p103,cs104,p105,cs106,p107,cs108,p109,cs110,p111,m112,c113,p114,m115,c116,p117,c118,p119,m120,c121,p122,cs123,p124,c125,p126,c127,p128,c129,p130,c131⟩,hS⟩:=hS.unfI (ck:=c_gate_Gate) (fs:=q_gate_Gate) 0 rfl
 refine wpIn_region_lit ?_
 refine wp 2 [1,23,24] hF fun a hF=>?_
 have hS:=hS.add (m:=Ro.mp f_api_Ver.ty none 0 ([]:List T_api_Ver)) (Ro.nil f_api_Ver.ty _ _)
 have hS:=hS.add (m:=Ro.mp (fInt .u64).ty none 0 ([]:List Int)) (Ro.nil (fInt .u64).ty _ _)
 refine bind_split hv90 (fun x132 hx132 hv90=>?_)
 refine wc (wcS 15 [0,1,4,5,6,7,8,9,10,11,12,13,14,15,16,2,3] hF hS (fun hS=>C_gate_Gate_Take N x91.dc x91.nodes x91.role x91.epoch x91.base x91.txs (T_api_Map.mk x91.m.Cuts x91.m.Nodes) x91.modes x91.agreed x91.old x91.owing x91.st x91.log x91.co x91.hi x91.boxes x91.cursor x91.heard x91.calls x91.reads x91.held x91.loads x91.last x91.mv x91.seedTo x91.seeds x91.cut x91.end_ x91.floor x91.floored x91.seeded x91.said x91.out x91.replies 2 (T_api_Msg.mk 11 1 0 9 ByteArray.empty ByteArray.empty ([]:List T_api_Ver) ([]:List Int) (T_api_Cmd.mk 0 0 0 0 0 ByteArray.empty)) p93 c94 p95 c96 p97 c98 p99 c100 p101 c102 p103 cs104 p105 cs106 p107 cs108 p109 cs110 p111 m112 c113 p114 m115 c116 p117 c118 p119 m120 c121 p122 cs123 p124 c125 p126 c127 p128 c129 p130 c131 none 0 none 0 b92 (hS.sbK [2,3,4,5,6,7,8,9,10,11,12,13,14,1,0]) hx132) ?_)
 rintro _ κ w a ⟨p133,c134,p135,c136,p137,c138,p139,c140,p141,c142,p143,cs144,p145,cs146,p147,cs148,p149,m150,c151,p152,m153,c154,p155,c156,p157,cs158,p159,c160,p161,c162,cs163,rfl,h2⟩ hF hB
 have hS:=hB _ _ h2
 refine wpListIn_nil ?_
 obtain ⟨cs164,hS⟩:=hS.foldI (ck:=c_gate_Gate) (fs:=q_gate_Gate) b92 (p133,c134,p135,c136,p137,c138,p139,c140,p141,c142,p143,cs144,p145,cs146,p147,cs148,p109,cs163,p149,m150,c151,p152,m153,c154,p155,c156,p119,m120,c121,p157,cs158,p124,c125,p126,c127,p159,c160,p161,c162) (T_gate_Gate.mk x91.dc x91.nodes x91.role x132.1 x91.base x132.2.1 (T_api_Map.mk x132.2.2.1.Cuts x132.2.2.1.Nodes) x132.2.2.2.1 x132.2.2.2.2.1 x132.2.2.2.2.2.1 x132.2.2.2.2.2.2.1 x132.2.2.2.2.2.2.2.1 x132.2.2.2.2.2.2.2.2.1 x132.2.2.2.2.2.2.2.2.2.1 x132.2.2.2.2.2.2.2.2.2.2.1 x91.boxes x91.cursor x91.heard x132.2.2.2.2.2.2.2.2.2.2.2.1 x132.2.2.2.2.2.2.2.2.2.2.2.2.1 x132.2.2.2.2.2.2.2.2.2.2.2.2.2.1 x91.loads x132.2.2.2.2.2.2.2.2.2.2.2.2.2.2.1 x132.2.2.2.2.2.2.2.2.2.2.2.2.2.2.2.1 x91.seedTo x91.seeds x91.cut x91.end_ x91.floor x91.floored x91.seeded x91.said x132.2.2.2.2.2.2.2.2.2.2.2.2.2.2.2.2.1 x132.2.2.2.2.2.2.2.2.2.2.2.2.2.2.2.2.2) [0,1,15,16,2,3,4,5,6,7,8,9,10,11,12,13,14] [] [0,1,11,12,13,2,3,4,17,18,19,5,6] (by decide) (by kernel_rfl) (by kernel_rfl)
 cases hv90
 exact ⟨_,(some b92),cs164,hF.kp [1],hS.sp [0] [],trivial⟩
 rintro a w ⟨κ,p87,cs88,hF,hS,-⟩
 refine hK86 _ _ ?_
 refine wpIn_seq_k fun K166 hK166=>?_
 refine bind_split H (fun v170 hv170 H=>?_)
 refine code_join (fun a w => ∃(κ:Gh) (p167:Option Nat) (cs168:List Nat),Fr (63) [] [(1,.pointer (pa p167))] a∧SS [] κ0 w0 κ w [.ext (optX o_gate_Gate p167 cs168 v170)] []∧True) ?_ ?_
 refine opt_split hv170 (fun ho hv170=>?_) (fun x171 ho hv170=>?_)
 obtain ⟨hpq,hS⟩:=hS.optN 0 rfl ho
 rw [hpq] at hS
 try rw [hpq] at hF
 refine wpIn_region_lit ?_
 refine wp 2 [1,26,27] hF fun a hF=>?_
 have hS:=hS.add (m:=Ro.mp f_api_Ver.ty none 0 ([]:List T_api_Ver)) (Ro.nil f_api_Ver.ty _ _)
 have hS:=hS.add (m:=Ro.mp (fInt .u64).ty none 0 ([]:List Int)) (Ro.nil (fInt .u64).ty _ _)
 refine bind_split hv170 (fun x245 hx245 hv170=>?_)
 refine wc (wcS 0 [0] hF hS (fun hS=>C_gate_Gate_Take_nil0 N 2 (T_api_Msg.mk 12 1 0 0 ByteArray.empty ByteArray.empty ([]:List T_api_Ver) ([]:List Int) (T_api_Cmd.mk 0 0 0 0 0 ByteArray.empty)) none 0 none 0 (hS.sbK [1,0]) hx245) ?_)
 rintro _ κ w a ⟨rfl,h2⟩ hF hB
 have hS:=hB _ _ h2
 refine wpListIn_nil ?_
 cases hv170
 exact ⟨_,none,[],hF.kp [1],hS.sp [0] [],trivial⟩
 obtain ⟨b172,hpq,hS⟩:=hS.optS 0 rfl ho
 rw [hpq] at hS
 try rw [hpq] at hF
 obtain ⟨⟨p173,c174,p175,c176,p177,c178,p179,c180,p181,c182,p183,cs184,p185,cs186,p187,cs188,p189,cs190,p191,m192,c193,p194,m195,c196,p197,c198,p199,m200,c201,p202,cs203,p204,c205,p206,c207,p208,c209,p210,c211⟩,hS⟩:=hS.unfI (ck:=c_gate_Gate) (fs:=q_gate_Gate) 0 rfl
 refine wpIn_region_lit ?_
 refine wp 2 [1,26,27] hF fun a hF=>?_
 have hS:=hS.add (m:=Ro.mp f_api_Ver.ty none 0 ([]:List T_api_Ver)) (Ro.nil f_api_Ver.ty _ _)
 have hS:=hS.add (m:=Ro.mp (fInt .u64).ty none 0 ([]:List Int)) (Ro.nil (fInt .u64).ty _ _)
 refine bind_split hv170 (fun x212 hx212 hv170=>?_)
 refine wc (wcS 15 [0,1,4,5,6,7,8,9,10,11,12,13,14,15,16,2,3] hF hS (fun hS=>C_gate_Gate_Take N x171.dc x171.nodes x171.role x171.epoch x171.base x171.txs (T_api_Map.mk x171.m.Cuts x171.m.Nodes) x171.modes x171.agreed x171.old x171.owing x171.st x171.log x171.co x171.hi x171.boxes x171.cursor x171.heard x171.calls x171.reads x171.held x171.loads x171.last x171.mv x171.seedTo x171.seeds x171.cut x171.end_ x171.floor x171.floored x171.seeded x171.said x171.out x171.replies 2 (T_api_Msg.mk 12 1 0 0 ByteArray.empty ByteArray.empty ([]:List T_api_Ver) ([]:List Int) (T_api_Cmd.mk 0 0 0 0 0 ByteArray.empty)) p173 c174 p175 c176 p177 c178 p179 c180 p181 c182 p183 cs184 p185 cs186 p187 cs188 p189 cs190 p191 m192 c193 p194 m195 c196 p197 c198 p199 m200 c201 p202 cs203 p204 c205 p206 c207 p208 c209 p210 c211 none 0 none 0 b172 (hS.sbK [2,3,4,5,6,7,8,9,10,11,12,13,14,1,0]) hx212) ?_)
 rintro _ κ w a ⟨p213,c214,p215,c216,p217,c218,p219,c220,p221,c222,p223,cs224,p225,cs226,p227,cs228,p229,m230,c231,p232,m233,c234,p235,c236,p237,cs238,p239,c240,p241,c242,cs243,rfl,h2⟩ hF hB
 have hS:=hB _ _ h2
 refine wpListIn_nil ?_
 obtain ⟨cs244,hS⟩:=hS.foldI (ck:=c_gate_Gate) (fs:=q_gate_Gate) b172 (p213,c214,p215,c216,p217,c218,p219,c220,p221,c222,p223,cs224,p225,cs226,p227,cs228,p189,cs243,p229,m230,c231,p232,m233,c234,p235,c236,p199,m200,c201,p237,cs238,p204,c205,p206,c207,p239,c240,p241,c242) (T_gate_Gate.mk x171.dc x171.nodes x171.role x212.1 x171.base x212.2.1 (T_api_Map.mk x212.2.2.1.Cuts x212.2.2.1.Nodes) x212.2.2.2.1 x212.2.2.2.2.1 x212.2.2.2.2.2.1 x212.2.2.2.2.2.2.1 x212.2.2.2.2.2.2.2.1 x212.2.2.2.2.2.2.2.2.1 x212.2.2.2.2.2.2.2.2.2.1 x212.2.2.2.2.2.2.2.2.2.2.1 x171.boxes x171.cursor x171.heard x212.2.2.2.2.2.2.2.2.2.2.2.1 x212.2.2.2.2.2.2.2.2.2.2.2.2.1 x212.2.2.2.2.2.2.2.2.2.2.2.2.2.1 x171.loads x212.2.2.2.2.2.2.2.2.2.2.2.2.2.2.1 x212.2.2.2.2.2.2.2.2.2.2.2.2.2.2.2.1 x171.seedTo x171.seeds x171.cut x171.end_ x171.floor x171.floored x171.seeded x171.said x212.2.2.2.2.2.2.2.2.2.2.2.2.2.2.2.2.1 x212.2.2.2.2.2.2.2.2.2.2.2.2.2.2.2.2.2) [0,1,15,16,2,3,4,5,6,7,8,9,10,11,12,13,14] [] [0,1,11,12,13,2,3,4,17,18,19,5,6] (by decide) (by kernel_rfl) (by kernel_rfl)
 cases hv170
 exact ⟨_,(some b172),cs244,hF.kp [1],hS.sp [0] [],trivial⟩
 rintro a w ⟨κ,p167,cs168,hF,hS,-⟩
 refine hK166 _ _ ?_
 refine wpIn_seq_k fun K246 hK246=>?_
 refine bind_split H (fun v250 hv250 H=>?_)
 refine code_join (fun a w => ∃(κ:Gh) (p248:Option Addr) (c249:Nat),Fr (63) [] [(3,.slice p248 (v250).length c249)] a∧SS [] κ0 w0 κ w [.tok p248 52 13 (v250).length c249] [Ro.mp f_gate_Reply.ty p248 c249 v250]∧True) ?_ ?_
 refine opt_split hv250 (fun ho hv250=>?_) (fun x251 ho hv250=>?_)
 obtain ⟨hpq,hS⟩:=hS.optN 0 rfl ho
 rw [hpq] at hS
 try rw [hpq] at hF
 refine wpIn_region_lit ?_
 refine wp 1 [29] hF fun a hF=>?_
 refine bind_split hv250 (fun x298 hx298 hv250=>?_)
 refine wc (wcS 0 [0] hF hS (fun hS=>C_gate_Gate_Replies_nil0 N (hS.sbK []) hx298) ?_)
 rintro _ κ w a ⟨p299,c300,rfl,h2⟩ hF hB
 have hS:=hB _ _ h2
 refine wp 1 [3] hF fun a hF=>?_
 refine wpListIn_nil ?_
 cases hv250
 exact ⟨_,p299,c300,hF.kp [3],hS.sp [0] [0],trivial⟩
 obtain ⟨b252,hpq,hS⟩:=hS.optS 0 rfl ho
 rw [hpq] at hS
 try rw [hpq] at hF
 obtain ⟨⟨p253,c254,p255,c256,p257,c258,p259,c260,p261,c262,p263,cs264,p265,cs266,p267,cs268,p269,cs270,p271,m272,c273,p274,m275,c276,p277,c278,p279,m280,c281,p282,cs283,p284,c285,p286,c287,p288,c289,p290,c291⟩,hS⟩:=hS.unfI (ck:=c_gate_Gate) (fs:=q_gate_Gate) 0 rfl
 refine wpIn_region_lit ?_
 refine wp 1 [29] hF fun a hF=>?_
 refine bind_split hv250 (fun x292 hx292 hv250=>?_)
 have hgx2920:=hS.segs 0 rfl
 refine wc (wcS 2 [0,5,1,2,3,4,6,7,8,9,10,11,12,13,14,15,16] hF hS (fun hS=>C_gate_Gate_Replies N x251.replies (flat [si x251.dc,si x251.nodes,si x251.role,si x251.epoch,si x251.base,si x251.txs,sl p253 (x251.m.Cuts).length c254,sl p255 (x251.m.Nodes).length c256,sl p257 (x251.modes).length c258,sl p259 (x251.agreed).length c260,sl p261 (x251.old).length c262,sb x251.owing,(1,[.pointer (pa p263)]),(1,[.pointer (pa p265)]),(1,[.pointer (pa p267)]),su x251.hi,(4,(encs fPtr p269)),ei 4 x251.cursor,ei 4 x251.heard,(1,[.map p271]),(1,[.map p274]),sl p277 (x251.held).length c278,(1,[.map p279]),su x251.last,(1,[.pointer (pa p282)]),si x251.seedTo,si x251.seeds,sl p284 (x251.cut).length c285,sl p286 (x251.end_).length c287,su x251.floor,sb x251.floored,sb x251.seeded,sb x251.said,sl p288 (x251.out).length c289]) p290 c291 b252 ((hS.regr 0 [(true,34),(false,1)] rfl).sbK [12]) hx292) ?_)
 rintro _ κ w a ⟨p293,c294,p295,c296,rfl,h2⟩ hF hB
 have hS:=(hB _ _ h2).unregrK 0 [(true,34),(false,1)] (s':=[si x251.dc,si x251.nodes,si x251.role,si x251.epoch,si x251.base,si x251.txs,sl p253 (x251.m.Cuts).length c254,sl p255 (x251.m.Nodes).length c256,sl p257 (x251.modes).length c258,sl p259 (x251.agreed).length c260,sl p261 (x251.old).length c262,sb x251.owing,(1,[.pointer (pa p263)]),(1,[.pointer (pa p265)]),(1,[.pointer (pa p267)]),su x251.hi,(4,(encs fPtr p269)),ei 4 x251.cursor,ei 4 x251.heard,(1,[.map p271]),(1,[.map p274]),sl p277 (x251.held).length c278,(1,[.map p279]),su x251.last,(1,[.pointer (pa p282)]),si x251.seedTo,si x251.seeds,sl p284 (x251.cut).length c285,sl p286 (x251.end_).length c287,su x251.floor,sb x251.floored,sb x251.seeded,sb x251.said,sl p288 (x251.out).length c289,sl p295 (x292.2).length c296]) hgx2920 rfl
 refine wp 1 [3] hF fun a hF=>?_
 refine wpListIn_nil ?_
 obtain ⟨cs297,hS⟩:=hS.foldI (ck:=c_gate_Gate) (fs:=q_gate_Gate) b252 (p253,c254,p255,c256,p257,c258,p259,c260,p261,c262,p263,cs264,p265,cs266,p267,cs268,p269,cs270,p271,m272,c273,p274,m275,c276,p277,c278,p279,m280,c281,p282,cs283,p284,c285,p286,c287,p288,c289,p295,c296) (T_gate_Gate.mk x251.dc x251.nodes x251.role x251.epoch x251.base x251.txs (T_api_Map.mk x251.m.Cuts x251.m.Nodes) x251.modes x251.agreed x251.old x251.owing x251.st x251.log x251.co x251.hi x251.boxes x251.cursor x251.heard x251.calls x251.reads x251.held x251.loads x251.last x251.mv x251.seedTo x251.seeds x251.cut x251.end_ x251.floor x251.floored x251.seeded x251.said x251.out x292.2) [0,3,4,5,6,1,7,8,9,10,11,12,13,14,15,16,17] [2] [2,3,4,5,6,7,8,9,10,11,12,13,1] (by decide) (by kernel_rfl) (by kernel_rfl)
 cases hv250
 exact ⟨_,p293,c294,hF.kp [3],hS.sp [1] [0],trivial⟩
 rintro a w ⟨κ,p248,c249,hF,hS,-⟩
 refine hK246 _ _ ?_
 refine wpIn_seq_k fun K301 hK301=>?_
 refine wpIn_region_lit ?_
 refine bind_split H (fun v303 hv303 H=>?_)
 refine wl_join (fun a w => ∃κ:Gh,Fr (63) [] [(0,vb v303)] a∧SS [] κ0 w0 κ w [] []∧True) ?_ ?_
 refine wp 4 [3,34] hF fun a hF=>?_
 refine bif_split hv303 (fun hb hv303=>?_) (fun hb hv303=>?_)
 have hF:=hF.boolv 34 (by kernel_rfl) hb
 refine wl_pure (L':=[(3,.slice p248 (v250).length c249),(34,vb true),(35,.slice p248 (v250).length c249)]) 1 [3,34,35] hF (by kernel_rfl) fun a hF=>?_
 refine bind_split hv303 (fun x304 hx304 hv303=>?_)
 refine wcg hF (wo_index hF hS (by kernel_rfl) 0 (E:=52) (sz:=13) rfl rfl rfl (by kernel_rfl) rfl hx304 (by kernel_rfl) (by kernel_rfl) fun b305 f306 a hpx304 hF=>?_)
 refine wl_pure (L':=[(3,.slice p248 (v250).length c249),(34,vb true),(37,.pointer (some ⟨b305,(f306+Int.toNat 0*13)+1,none⟩))]) 1 [3,34,37] hF (by kernel_rfl) fun a hF=>?_
 refine wcg hF (wo_loadRo (t:=f_gate_Reply) hF hS (by kernel_rfl) 0 1 (v:=vi x304.Kind) rfl rfl hpx304 rfl hx304 (by kernel_rfl) (by kernel_rfl) (by kernel_rfl) fun a hF=>?_)
 refine wp 3 [3,41] hF fun a hF=>?_
 refine bif_split hv303 (fun hb hv303=>?_) (fun hb hv303=>?_)
 have hF:=hF.boolv 41 (by kernel_rfl) hb
 refine wl_pure (L':=[(3,.slice p248 (v250).length c249),(41,vb true),(42,.slice p248 (v250).length c249)]) 1 [3,41,42] hF (by kernel_rfl) fun a hF=>?_
 refine bind_split hv303 (fun x307 hx307 hv303=>?_)
 refine wcg hF (wo_index hF hS (by kernel_rfl) 0 (E:=52) (sz:=13) rfl rfl rfl (by kernel_rfl) rfl hx307 (by kernel_rfl) (by kernel_rfl) fun b308 f309 a hpx307 hF=>?_)
 refine wl_pure (L':=[(3,.slice p248 (v250).length c249),(41,vb true),(45,.pointer (some ⟨b308,(f309+Int.toNat 0*13)+10,none⟩))]) 2 [3,41,45] hF (by kernel_rfl) fun a hF=>?_
 refine wcg hF (wo_loadRo (t:=f_gate_Reply) hF hS (by kernel_rfl) 0 10 (v:=vu x307.Mark.TS) rfl rfl hpx307 rfl hx307 (by kernel_rfl) (by kernel_rfl) (by kernel_rfl) fun a hF=>?_)
 refine wp 3 [3,49] hF fun a hF=>?_
 refine bif_split hv303 (fun hb hv303=>?_) (fun hb hv303=>?_)
 have hF:=hF.boolv 49 (by kernel_rfl) hb
 refine wl_pure (L':=[(3,.slice p248 (v250).length c249),(49,vb true),(50,.slice p248 (v250).length c249)]) 1 [3,49,50] hF (by kernel_rfl) fun a hF=>?_
 refine bind_split hv303 (fun x310 hx310 hv303=>?_)
 refine wcg hF (wo_index hF hS (by kernel_rfl) 0 (E:=52) (sz:=13) rfl rfl rfl (by kernel_rfl) rfl hx310 (by kernel_rfl) (by kernel_rfl) fun b311 f312 a hpx310 hF=>?_)
 refine wl_pure (L':=[(3,.slice p248 (v250).length c249),(49,vb true),(52,.pointer (some ⟨b311,(f312+Int.toNat 1*13)+1,none⟩))]) 1 [3,49,52] hF (by kernel_rfl) fun a hF=>?_
 refine wcg hF (wo_loadRo (t:=f_gate_Reply) hF hS (by kernel_rfl) 0 1 (v:=vi x310.Kind) rfl rfl hpx310 rfl hx310 (by kernel_rfl) (by kernel_rfl) (by kernel_rfl) fun a hF=>?_)
 refine wp 3 [3,56] hF fun a hF=>?_
 refine bif_split hv303 (fun hb hv303=>?_) (fun hb hv303=>?_)
 have hF:=hF.boolv 56 (by kernel_rfl) hb
 refine wl_pure (L':=[(56,vb true),(57,.slice p248 (v250).length c249)]) 1 [56,57] hF (by kernel_rfl) fun a hF=>?_
 refine bind_split hv303 (fun x313 hx313 hv303=>?_)
 refine wcg hF (wo_index hF hS (by kernel_rfl) 0 (E:=52) (sz:=13) rfl rfl rfl (by kernel_rfl) rfl hx313 (by kernel_rfl) (by kernel_rfl) fun b314 f315 a hpx313 hF=>?_)
 refine wl_pure (L':=[(56,vb true),(59,.pointer (some ⟨b314,(f315+Int.toNat 1*13),none⟩))]) 1 [56,59] hF (by kernel_rfl) fun a hF=>?_
 refine wcg hF (wo_loadRo (t:=f_gate_Reply) hF hS (by kernel_rfl) 0 0 (v:=vi x313.Call) rfl rfl hpx313 rfl hx313 (by kernel_rfl) (by kernel_rfl) (by kernel_rfl) fun a hF=>?_)
 refine wp 3 [0] hF fun a hF=>?_
 refine wpListIn_nil ?_
 cases hv303
 exact ⟨_,hF.kp [0],hS.sp [] [],trivial⟩
 have hF:=hF.boolv 56 (by kernel_rfl) hb
 refine wp 7 [0] hF fun a hF=>?_
 refine wpListIn_nil ?_
 cases hv303
 exact ⟨_,hF.kp [0],hS.sp [] [],trivial⟩
 have hF:=hF.boolv 49 (by kernel_rfl) hb
 refine wp 14 [0] hF fun a hF=>?_
 refine wpListIn_nil ?_
 cases hv303
 exact ⟨_,hF.kp [0],hS.sp [] [],trivial⟩
 have hF:=hF.boolv 41 (by kernel_rfl) hb
 refine wp 22 [0] hF fun a hF=>?_
 refine wpListIn_nil ?_
 cases hv303
 exact ⟨_,hF.kp [0],hS.sp [] [],trivial⟩
 have hF:=hF.boolv 34 (by kernel_rfl) hb
 refine wp 29 [0] hF fun a hF=>?_
 refine wpListIn_nil ?_
 cases hv303
 exact ⟨_,hF.kp [0],hS.sp [] [],trivial⟩
 rintro a w ⟨κ,hF,hS,-⟩
 refine hK301 _ _ ?_
 refine wpIn_ret ?_
 cases H
 exact (ret_done hF hS (res1 Tryz.results14 (rvt hF)) ⟨rfl,(hS.pick [] (by kernel_rfl)).ro,hS.newC [] (by decide) (by kernel_rfl)⟩)
end Go.Cf
