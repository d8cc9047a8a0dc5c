/- The walks: each function returns what its model says. Printed by a program of ours. -/
import Derived.Test.YtcplebnnanjngaaGreatZM1
import Derived.Test.YtcplebnnanjngaaGreatZWng1
import Derived.Test.YtcplebnnanjngaaGreatZWng2
import Derived.Test.YtcplebnnanjngaaGreatZWng8
import Derived.Test.YtcplebnnanjngaaGreatZWng9
import Derived.Test.YtcplebnnanjngaaGreatZWnr1
namespace Go.Cf
open Go Go.Proofs
set_option linter.unusedVariables false
set_option maxRecDepth 20000 in
set_option maxHeartbeats 8000000 in
theorem C_law22_awake (N : Nat) {κ0 : Gh} {w0 : World} (hfr : Fresh κ0 w0)   (hR : ∀ m ∈ ([] : List MP), m.p κ0 w0) {r : (Bool)} (H : M.law22_awake N  = some r) :
    Calls Tryz.prog 14 #[] w0 (Post [] κ0 w0 fun v κ w => v = vb r ∧ (∀ m ∈ ([] : List MP), m.p κ w) ∧ NewC w0 κ w []) := by
 have hS := SS.start hfr hR
 refine enter (N := (63)) (L := []) Tryz.func14 rfl Tryz.ntmps14 (show 0 ≤ (63) by decide) rfl fun a hF => ?_
 unfold M.law22_awake at H
 refine wpIn_seq_k fun K1 hK1 => ?_
 refine wpIn_region_lit ?_
 refine wl_pure (L' := []) 1 [] hF (by kernel_rfl) fun a hF => ?_
 refine wpListIn_nil ?_
 refine hK1 _ _ ?_
 refine wpIn_seq_k fun K2 hK2 => ?_
 refine wpIn_region_lit ?_
 refine wc (wo_val hF (by kernel_rfl) (v := .agg (flat [eb 4 ([true, false, false, false])]).toArray) (val_buildA (rows := [[sb false], [sb false], [sb false], [sb false]]) (vals := [(0, [sb true])]) (n := 4) (sz := 1) (s' := [sb true, sb false, sb false, sb false]) rfl (by kernel_rfl) (by kernel_rfl) (by kernel_rfl) (by kernel_rfl) (by kernel_rfl) (sgN 1 sgNil) (by kernel_rfl) (by kernel_rfl) _) fun a hF => ?_)
 refine bind_split H (fun x3 hx3 H => ?_)
 refine wc (wo_callP hF hS (by kernel_rfl) (by kernel_rfl) (C_law22_modes N hS.fresh   ((hS.pick [] (by kernel_rfl)).ro) hx3) ?_)
 rintro _ κ w a ⟨p4, c5, rfl, hR, hN⟩ hF hS hO
 have hS := hS.adds hR
 have hS := hS.addC hO hN
 have hS := hS.add (m := ml ([true, false, false, false]) 4) rfl
 refine bind_split H (fun x6 hx6 H => ?_)
 refine wc (wcS 0 [0] hF hS (fun hS => C_gate_New N 0 1 [true, false, false, false] x3 p4 c5  (hS.sbK [0, 1]) hx6) ?_)
 rintro _ κ w a ⟨p7, cs8, rfl, h2⟩ hF hB
 have hS := hB _ _ h2
 refine wl_pure (L' := [(1, .pointer (pa p7)), (2, vi x6.2)]) 5 [1, 2] hF (by kernel_rfl) fun a hF => ?_
 refine wpListIn_nil ?_
 refine hK2 _ _ ?_
 refine wpIn_seq_k fun K9 hK9 => ?_
 refine wpIn_seq_k fun K10 hK10 => ?_
 refine bind_split H (fun v15 hv15 H => ?_)
 refine code_join (fun a w => ∃ (κ : Gh) (p11 : Option Nat) (cs12 : List Nat), Fr (63) [] [(1, .pointer (pa p11)), (22, vb v15.2)] a ∧ SS [] κ0 w0 κ w [.ext (optX o_gate_Gate p11 cs12 v15.1)] [] ∧ True) ?_ ?_
 refine opt_split hv15 (fun ho hv15 => ?_) (fun x16 ho hv15 => ?_)
 obtain ⟨hpq, hS⟩ := hS.optN 0 rfl ho
 have hG4 := hF
 subst hpq
 have hF := hG4
 refine wpIn_region_lit ?_
 refine bind_split hv15 (fun v79 hv79 hv15 => ?_)
 refine wl_join (fun a w => ∃ κ : Gh, Fr (63) [] [(1, .pointer none), (22, vb true)] a ∧ SS [] κ0 w0 κ w [] [] ∧ True) ?_ ?_
 refine wp 3 [1, 12] hF fun a hF => ?_
 refine bif_split hv79 (fun hb hv79 => ?_) (fun hb hv79 => ?_)
 have hF := hF.boolv 12 (by kernel_rfl) hb
 refine wp 10 [1, 22] hF fun a hF => ?_
 refine wpListIn_nil ?_
 cases hv79
 exact ⟨_, hF.kp [1, 22], hS.sp [] [], trivial⟩
 have hF := hF.boolv 12 (by kernel_rfl) hb
 refine wp 10 [1, 22] hF fun a hF => ?_
 refine wpListIn_nil ?_
 cases hv79
 exact ⟨_, hF.kp [1, 22], hS.sp [] [], trivial⟩
 rintro a w ⟨κ, hF, hS, -⟩
 cases hv15
 have hS := hS.addOpt o_gate_Gate
 exact ⟨_, none, [], hF.kp [1, 22], hS.sp [0] [], trivial⟩
 obtain ⟨b17, hpq, hS⟩ := hS.optS 0 rfl ho
 have hG3 := hF
 subst hpq
 have hF := hG3
 obtain ⟨⟨p18, c19, p20, c21, p22, c23, p24, c25, p26, c27, p28, cs29, p30, cs31, p32, cs33, p34, cs35, p36, m37, c38, p39, m40, c41, p42, c43, p44, m45, c46, p47, cs48, p49, c50, p51, c52, p53, c54, p55, c56⟩, hS⟩ := hS.unfI (ck := c_gate_Gate) (fs := q_gate_Gate) 0 rfl
 refine wpIn_region_lit ?_
 refine bind_split hv15 (fun v60 hv60 hv15 => ?_)
 refine wl_join (fun a w => ∃ (κ : Gh) (cs57 : List Nat), Fr (63) [] [(1, pt b17 0), (22, vb v60.2)] a ∧ SS [] κ0 w0 κ w [.ext (optX o_gate_Gate (some b17) cs57 (some v60.1))] [] ∧ True) ?_ ?_
 refine wp 3 [1, 12] hF fun a hF => ?_
 refine bif_split hv60 (fun hb hv60 => ?_) (fun hb hv60 => ?_)
 have hF := hF.boolv 12 (by kernel_rfl) hb
 refine wp 10 [1, 22] hF fun a hF => ?_
 obtain ⟨cs61, hS⟩ := hS.foldI (ck := c_gate_Gate) (fs := q_gate_Gate) b17 (p18, c19, p20, c21, p22, c23, p24, c25, p26, c27, p28, cs29, p30, cs31, p32, cs33, p34, cs35, p36, m37, c38, p39, m40, c41, p42, c43, p44, m45, c46, p47, cs48, p49, c50, p51, c52, p53, c54, p55, c56) x16 (rg 17) [17] (rg 13) (by decide) (by kernel_rfl) (by kernel_rfl)
 refine wpListIn_nil ?_
 cases hv60
 exact ⟨_, cs61, hF.kp [1, 22], hS.sp [0] [], trivial⟩
 have hF := hF.boolv 12 (by kernel_rfl) hb
 refine wl_pure (L' := [(1, pt b17 0), (16, vb false), (17, pt b17 0), (18, .agg (flat [sg (ByteArray.mk #[97]), sg ByteArray.empty, sb false, su 0, si 0, si 0]).toArray)]) 6 [1, 16, 17, 18] hF (by kernel_rfl) fun a hF => ?_
 refine wcg hF (wo_buildN (t := f_api_Ver) (z := .agg (flat [sg ByteArray.empty, sg ByteArray.empty, sb false, su 0, si 0, si 0]).toArray) (l := [(T_api_Ver.mk (ByteArray.mk #[97]) ByteArray.empty false 0 0 0)]) (vs := [(0, .agg (flat [sg (ByteArray.mk #[97]), sg ByteArray.empty, sb false, su 0, si 0, si 0]).toArray)]) (cells := #[.string ((ByteArray.mk #[97])), .string (ByteArray.empty), vb false, vu 0, vi 0, vi 0]) (E := 48) hF hS (by kernel_rfl) rfl (by kernel_rfl) (by kernel_rfl) rfl (by kernel_rfl) (by kernel_rfl) (by kernel_rfl) (by kernel_rfl) (by kernel_rfl) fun p62 κ a w hF hS => ?_)
 refine bind_split hv60 (fun x63 hx63 hv60 => ?_)
 have hgx630 := hS.segs 1 rfl
 refine wcg hF (wcS 11 [1, 5, 8, 10, 11, 12, 13, 14, 15, 16, 17, 0, 2, 3, 4, 6, 7, 9, 18] hF hS (fun hS => C_gate_Gate_Commit N x16.dc x16.role x16.epoch x16.base x16.txs (T_api_Map.mk x16.m.Cuts x16.m.Nodes) x16.agreed x16.owing x16.st x16.log x16.co x16.hi x16.boxes x16.cursor x16.heard x16.calls x16.reads x16.held x16.loads x16.last x16.mv x16.end_ x16.floor x16.floored x16.seeded x16.said x16.out 3 5 [(T_api_Ver.mk (ByteArray.mk #[97]) ByteArray.empty false 0 0 0)] [vi x16.nodes] p18 c19 p20 c21 [.slice p22 (x16.modes).length c23] p24 c25 [.slice p26 (x16.old).length c27] p28 cs29 p30 cs31 p32 cs33 p34 cs35 p36 m37 c38 p39 m40 c41 p42 c43 p44 m45 c46 p47 cs48 (flat [si x16.seedTo, si x16.seeds, sl p49 (x16.cut).length c50]) p51 c52 p53 c54 [.slice p55 (x16.replies).length c56] p62 1 b17 ((hS.regr 0 [(false, 25), (true, 3), (false, 7)] rfl).sbK [1, 2, 3, 4, 5, 6, 7, 8, 9, 11, 12, 0]) hx63) ?_)
 rintro _ κ w a ⟨p64, cs65, p66, cs67, p68, cs69, p70, m71, c72, p73, cs74, p75, c76, cs77, rfl, h2⟩ hF hB
 have hS := ((hB _ _ h2).unregrK 0 [(false, 25), (true, 3), (false, 7)] (s' := [si x16.dc, si x16.nodes, si x16.role, si x16.epoch, si x16.base, si x63.2.1, sl p18 (x16.m.Cuts).length c19, sl p20 (x16.m.Nodes).length c21, sl p22 (x16.modes).length c23, sl p24 (x16.agreed).length c25, sl p26 (x16.old).length c27, sb x16.owing, (1, [.pointer (pa p64)]), (1, [.pointer (pa p66)]), (1, [.pointer (pa p68)]), su x63.2.2.2.2.2.1, (4, (encs fPtr p34)), ei 4 x16.cursor, ei 4 x16.heard, (1, [.map p70]), (1, [.map p39]), sl p42 (x16.held).length c43, (1, [.map p44]), su x16.last, (1, [.pointer (pa p73)]), si x16.seedTo, si x16.seeds, sl p49 (x16.cut).length c50, sl p51 (x16.end_).length c52, su x16.floor, sb x16.floored, sb x16.seeded, sb x16.said, sl p75 (x63.2.2.2.2.2.2.2.2).length c76, sl p55 (x16.replies).length c56]) hgx630 rfl).cC (C' := [.box b17 87 [si x16.dc, si x16.nodes, si x16.role, si x16.epoch, si x16.base, si x63.2.1, sl p18 (x16.m.Cuts).length c19, sl p20 (x16.m.Nodes).length c21, sl p22 (x16.modes).length c23, sl p24 (x16.agreed).length c25, sl p26 (x16.old).length c27, sb x16.owing, (1, [.pointer (pa p64)]), (1, [.pointer (pa p66)]), (1, [.pointer (pa p68)]), su x63.2.2.2.2.2.1, (4, (encs fPtr p34)), ei 4 x16.cursor, ei 4 x16.heard, (1, [.map p70]), (1, [.map p39]), sl p42 (x16.held).length c43, (1, [.map p44]), su x16.last, (1, [.pointer (pa p73)]), si x16.seedTo, si x16.seeds, sl p49 (x16.cut).length c50, sl p51 (x16.end_).length c52, su x16.floor, sb x16.floored, sb x16.seeded, sb x16.said, sl p75 (x63.2.2.2.2.2.2.2.2).length c76, sl p55 (x16.replies).length c56], .tok p75 61 15 (x63.2.2.2.2.2.2.2.2).length c76, .ext (ownX fBool 4 p24 c25 x16.agreed), .ext (optX o_stab_Table p64 cs65 x63.2.2.1), .ext (optX o_order_Log p66 cs67 x63.2.2.2.1), .ext (optX o_coord_Table p68 cs69 x63.2.2.2.2.1), .ext (arrX o_inbox_Box p34 cs77 x16.boxes), .ext (objX p70 (.map m71 c72)), .ext (objX p39 (.map m40 c41)), .ext (objX p44 (.map m45 c46)), .ext (optX o_gate_move p73 cs74 x63.2.2.2.2.2.2.2.1), .tok p62 48 6 ([(T_api_Ver.mk (ByteArray.mk #[97]) ByteArray.empty false 0 0 0)]).length 1, .tok p42 95 5 (x16.held).length c43, .tok p49 32 1 (x16.cut).length c50, .tok p51 32 1 (x16.end_).length c52, .tok p55 52 13 (x16.replies).length c56, .ext (ownX (fInt .i64) 3 p22 c23 x16.modes), .ext (ownX (fInt .i64) 3 p26 c27 x16.old), .tok p4 3 1 (x3).length c5])
 refine wp 2 [1, 22] hF fun a hF => ?_
 obtain ⟨cs78, hS⟩ := hS.foldI (ck := c_gate_Gate) (fs := q_gate_Gate) b17 (p18, c19, p20, c21, p22, c23, p24, c25, p26, c27, p64, cs65, p66, cs67, p68, cs69, p34, cs77, p70, m71, c72, p39, m40, c41, p42, c43, p44, m45, c46, p73, cs74, p49, c50, p51, c52, p75, c76, p55, c56) (T_gate_Gate.mk x16.dc x16.nodes x16.role x16.epoch x16.base x63.2.1 (T_api_Map.mk x16.m.Cuts x16.m.Nodes) x16.modes x16.agreed x16.old x16.owing x63.2.2.1 x63.2.2.2.1 x63.2.2.2.2.1 x63.2.2.2.2.2.1 x16.boxes x16.cursor x16.heard x63.2.2.2.2.2.2.1 x16.reads x16.held x16.loads x16.last x63.2.2.2.2.2.2.2.1 x16.seedTo x16.seeds x16.cut x16.end_ x16.floor x16.floored x16.seeded x16.said x63.2.2.2.2.2.2.2.2 x16.replies) [0, 12, 13, 14, 1, 15, 16, 2, 17, 3, 4, 5, 6, 7, 8, 9, 10] [11, 18] [3, 4, 5, 6, 7, 0, 9, 10, 11, 12, 13, 1, 15] (by decide) (by kernel_rfl) (by kernel_rfl)
 refine wpListIn_nil ?_
 cases hv60
 exact ⟨_, cs78, hF.kp [1, 22], hS.sp [0] [], trivial⟩
 rintro a w ⟨κ, cs57, hF, hS, -⟩
 cases hv15
 exact ⟨_, (some b17), cs57, hF.kp [1, 22], hS.sp [0] [], trivial⟩
 rintro a w ⟨κ, p11, cs12, hF, hS, -⟩
 refine hK10 _ _ ?_
 refine bif_split H (fun hb H => ?_) (fun hb H => ?_)
 refine cond_t hF (by kernel_rfl) hb ?_
 refine wpIn_seq_k fun K80 hK80 => ?_
 refine wpIn_region_lit ?_
 refine wp 1 [0] hF fun a hF => ?_
 refine wpListIn_nil ?_
 refine hK80 _ _ ?_
 refine wpIn_ret ?_
 cases H
 exact (ret_done hF hS (res1 Tryz.results14 (rvt hF)) ⟨rfl, (hS.pick [] (by kernel_rfl)).ro, hS.newC [] (by decide) (by kernel_rfl)⟩)
 refine cond_f hF (by kernel_rfl) hb ?_
 refine wpIn_skip ?_
 refine hK9 _ _ ?_
 refine wpIn_seq_k fun K81 hK81 => ?_
 refine bind_split H (fun v85 hv85 H => ?_)
 refine code_join (fun a w => ∃ (κ : Gh) (p82 : Option Nat) (cs83 : List Nat), Fr (63) [] [(1, .pointer (pa p82))] a ∧ SS [] κ0 w0 κ w [.ext (optX o_gate_Gate p82 cs83 v85)] [] ∧ True) ?_ ?_
 refine opt_split hv85 (fun ho hv85 => ?_) (fun x86 ho hv85 => ?_)
 obtain ⟨hpq, hS⟩ := hS.optN 0 rfl ho
 have hG8 := hF
 subst hpq
 have hF := hG8
 refine wpIn_region_lit ?_
 refine wp 2 [1, 23, 24] hF fun a hF => ?_
 have hS := hS.add (m := Ro.mp f_api_Ver.ty none 0 ([] : List T_api_Ver)) (Ro.nil f_api_Ver.ty _ _)
 have hS := hS.add (m := Ro.mp (fInt .u64).ty none 0 ([] : List Int)) (Ro.nil (fInt .u64).ty _ _)
 refine bind_split hv85 (fun x145 hx145 hv85 => ?_)
 refine wc (wcS 0 [0] hF hS (fun hS => C_gate_Gate_Take_nil0 N 2 (T_api_Msg.mk 11 1 0 9 ByteArray.empty ByteArray.empty ([] : List T_api_Ver) ([] : List Int) (T_api_Cmd.mk 0 0 0 0 0 ByteArray.empty)) none 0 none 0  (hS.sbK [1, 0]) hx145) ?_)
 rintro _ κ w a ⟨rfl, h2⟩ hF hB
 have hS := hB _ _ h2
 refine wpListIn_nil ?_
 cases hv85
 exact ⟨_, none, [], hF.kp [1], hS.sp [0] [], trivial⟩
 obtain ⟨b87, hpq, hS⟩ := hS.optS 0 rfl ho
 have hG7 := hF
 subst hpq
 have hF := hG7
 obtain ⟨⟨p88, c89, p90, c91, p92, c93, p94, c95, p96, c97, p98, cs99, p100, cs101, p102, cs103, p104, cs105, p106, m107, c108, p109, m110, c111, p112, c113, p114, m115, c116, p117, cs118, p119, c120, p121, c122, p123, c124, p125, c126⟩, hS⟩ := hS.unfI (ck := c_gate_Gate) (fs := q_gate_Gate) 0 rfl
 refine wpIn_region_lit ?_
 refine wp 2 [1, 23, 24] hF fun a hF => ?_
 have hS := hS.add (m := Ro.mp f_api_Ver.ty none 0 ([] : List T_api_Ver)) (Ro.nil f_api_Ver.ty _ _)
 have hS := hS.add (m := Ro.mp (fInt .u64).ty none 0 ([] : List Int)) (Ro.nil (fInt .u64).ty _ _)
 refine bind_split hv85 (fun x127 hx127 hv85 => ?_)
 refine wc (wcS 14 [0, 4, 5, 6, 7, 8, 9, 10, 11, 12, 13, 14, 15, 16, 1, 2, 3] hF hS (fun hS => C_gate_Gate_Take N x86.dc x86.nodes x86.role x86.epoch x86.base x86.txs (T_api_Map.mk x86.m.Cuts x86.m.Nodes) x86.modes x86.agreed x86.old x86.owing x86.st x86.log x86.co x86.hi x86.boxes x86.cursor x86.heard x86.calls x86.reads x86.held x86.loads x86.last x86.mv x86.seedTo x86.seeds x86.cut x86.end_ x86.floor x86.floored x86.seeded x86.said x86.out x86.replies 2 (T_api_Msg.mk 11 1 0 9 ByteArray.empty ByteArray.empty ([] : List T_api_Ver) ([] : List Int) (T_api_Cmd.mk 0 0 0 0 0 ByteArray.empty)) p88 c89 p90 c91 p92 c93 p94 c95 p96 c97 p98 cs99 p100 cs101 p102 cs103 p104 cs105 p106 m107 c108 p109 m110 c111 p112 c113 p114 m115 c116 p117 cs118 p119 c120 p121 c122 p123 c124 p125 c126 none 0 none 0 b87 (hS.sbK [2, 3, 4, 5, 6, 7, 8, 9, 10, 11, 12, 13, 14, 1, 0]) hx127) ?_)
 rintro _ κ w a ⟨p128, cs129, p130, cs131, p132, cs133, p134, m135, c136, p137, cs138, p139, c140, p141, c142, cs143, rfl, h2⟩ hF hB
 have hS := hB _ _ h2
 refine wpListIn_nil ?_
 obtain ⟨cs144, hS⟩ := hS.foldI (ck := c_gate_Gate) (fs := q_gate_Gate) b87 (p88, c89, p90, c91, p92, c93, p94, c95, p96, c97, p128, cs129, p130, cs131, p132, cs133, p104, cs143, p134, m135, c136, p109, m110, c111, p112, c113, p114, m115, c116, p137, cs138, p119, c120, p121, c122, p139, c140, p141, c142) (T_gate_Gate.mk x86.dc x86.nodes x86.role x86.epoch x86.base x86.txs (T_api_Map.mk x86.m.Cuts x86.m.Nodes) x86.modes x86.agreed x86.old x86.owing x127.1 x127.2.1 x127.2.2.1 x127.2.2.2.1 x86.boxes x86.cursor x86.heard x127.2.2.2.2.1 x86.reads x86.held x86.loads x86.last x127.2.2.2.2.2.1 x86.seedTo x86.seeds x86.cut x86.end_ x86.floor x86.floored x86.seeded x86.said x127.2.2.2.2.2.2.1 x127.2.2.2.2.2.2.2) [0, 14, 15, 16, 1, 2, 3, 4, 5, 6, 7, 8, 9, 10, 11, 12, 13] [] [5, 6, 7, 8, 9, 0, 11, 12, 13, 14, 15, 1, 2] (by decide) (by kernel_rfl) (by kernel_rfl)
 cases hv85
 exact ⟨_, (some b87), cs144, hF.kp [1], hS.sp [0] [], trivial⟩
 rintro a w ⟨κ, p82, cs83, hF, hS, -⟩
 refine hK81 _ _ ?_
 refine wpIn_seq_k fun K146 hK146 => ?_
 refine bind_split H (fun v150 hv150 H => ?_)
 refine code_join (fun a w => ∃ (κ : Gh) (p147 : Option Nat) (cs148 : List Nat), Fr (63) [] [(1, .pointer (pa p147))] a ∧ SS [] κ0 w0 κ w [.ext (optX o_gate_Gate p147 cs148 v150)] [] ∧ True) ?_ ?_
 refine opt_split hv150 (fun ho hv150 => ?_) (fun x151 ho hv150 => ?_)
 obtain ⟨hpq, hS⟩ := hS.optN 0 rfl ho
 have hG12 := hF
 subst hpq
 have hF := hG12
 refine wpIn_region_lit ?_
 refine wp 2 [1, 26, 27] hF fun a hF => ?_
 have hS := hS.add (m := Ro.mp f_api_Ver.ty none 0 ([] : List T_api_Ver)) (Ro.nil f_api_Ver.ty _ _)
 have hS := hS.add (m := Ro.mp (fInt .u64).ty none 0 ([] : List Int)) (Ro.nil (fInt .u64).ty _ _)
 refine bind_split hv150 (fun x210 hx210 hv150 => ?_)
 refine wc (wcS 0 [0] hF hS (fun hS => C_gate_Gate_Take_nil0 N 2 (T_api_Msg.mk 12 1 0 0 ByteArray.empty ByteArray.empty ([] : List T_api_Ver) ([] : List Int) (T_api_Cmd.mk 0 0 0 0 0 ByteArray.empty)) none 0 none 0  (hS.sbK [1, 0]) hx210) ?_)
 rintro _ κ w a ⟨rfl, h2⟩ hF hB
 have hS := hB _ _ h2
 refine wpListIn_nil ?_
 cases hv150
 exact ⟨_, none, [], hF.kp [1], hS.sp [0] [], trivial⟩
 obtain ⟨b152, hpq, hS⟩ := hS.optS 0 rfl ho
 have hG11 := hF
 subst hpq
 have hF := hG11
 obtain ⟨⟨p153, c154, p155, c156, p157, c158, p159, c160, p161, c162, p163, cs164, p165, cs166, p167, cs168, p169, cs170, p171, m172, c173, p174, m175, c176, p177, c178, p179, m180, c181, p182, cs183, p184, c185, p186, c187, p188, c189, p190, c191⟩, hS⟩ := hS.unfI (ck := c_gate_Gate) (fs := q_gate_Gate) 0 rfl
 refine wpIn_region_lit ?_
 refine wp 2 [1, 26, 27] hF fun a hF => ?_
 have hS := hS.add (m := Ro.mp f_api_Ver.ty none 0 ([] : List T_api_Ver)) (Ro.nil f_api_Ver.ty _ _)
 have hS := hS.add (m := Ro.mp (fInt .u64).ty none 0 ([] : List Int)) (Ro.nil (fInt .u64).ty _ _)
 refine bind_split hv150 (fun x192 hx192 hv150 => ?_)
 refine wc (wcS 14 [0, 4, 5, 6, 7, 8, 9, 10, 11, 12, 13, 14, 15, 16, 1, 2, 3] hF hS (fun hS => C_gate_Gate_Take N x151.dc x151.nodes x151.role x151.epoch x151.base x151.txs (T_api_Map.mk x151.m.Cuts x151.m.Nodes) x151.modes x151.agreed x151.old x151.owing x151.st x151.log x151.co x151.hi x151.boxes x151.cursor x151.heard x151.calls x151.reads x151.held x151.loads x151.last x151.mv x151.seedTo x151.seeds x151.cut x151.end_ x151.floor x151.floored x151.seeded x151.said x151.out x151.replies 2 (T_api_Msg.mk 12 1 0 0 ByteArray.empty ByteArray.empty ([] : List T_api_Ver) ([] : List Int) (T_api_Cmd.mk 0 0 0 0 0 ByteArray.empty)) p153 c154 p155 c156 p157 c158 p159 c160 p161 c162 p163 cs164 p165 cs166 p167 cs168 p169 cs170 p171 m172 c173 p174 m175 c176 p177 c178 p179 m180 c181 p182 cs183 p184 c185 p186 c187 p188 c189 p190 c191 none 0 none 0 b152 (hS.sbK [2, 3, 4, 5, 6, 7, 8, 9, 10, 11, 12, 13, 14, 1, 0]) hx192) ?_)
 rintro _ κ w a ⟨p193, cs194, p195, cs196, p197, cs198, p199, m200, c201, p202, cs203, p204, c205, p206, c207, cs208, rfl, h2⟩ hF hB
 have hS := hB _ _ h2
 refine wpListIn_nil ?_
 obtain ⟨cs209, hS⟩ := hS.foldI (ck := c_gate_Gate) (fs := q_gate_Gate) b152 (p153, c154, p155, c156, p157, c158, p159, c160, p161, c162, p193, cs194, p195, cs196, p197, cs198, p169, cs208, p199, m200, c201, p174, m175, c176, p177, c178, p179, m180, c181, p202, cs203, p184, c185, p186, c187, p204, c205, p206, c207) (T_gate_Gate.mk x151.dc x151.nodes x151.role x151.epoch x151.base x151.txs (T_api_Map.mk x151.m.Cuts x151.m.Nodes) x151.modes x151.agreed x151.old x151.owing x192.1 x192.2.1 x192.2.2.1 x192.2.2.2.1 x151.boxes x151.cursor x151.heard x192.2.2.2.2.1 x151.reads x151.held x151.loads x151.last x192.2.2.2.2.2.1 x151.seedTo x151.seeds x151.cut x151.end_ x151.floor x151.floored x151.seeded x151.said x192.2.2.2.2.2.2.1 x192.2.2.2.2.2.2.2) [0, 14, 15, 16, 1, 2, 3, 4, 5, 6, 7, 8, 9, 10, 11, 12, 13] [] [5, 6, 7, 8, 9, 0, 11, 12, 13, 14, 15, 1, 2] (by decide) (by kernel_rfl) (by kernel_rfl)
 cases hv150
 exact ⟨_, (some b152), cs209, hF.kp [1], hS.sp [0] [], trivial⟩
 rintro a w ⟨κ, p147, cs148, hF, hS, -⟩
 refine hK146 _ _ ?_
 refine wpIn_seq_k fun K211 hK211 => ?_
 refine bind_split H (fun v215 hv215 H => ?_)
 refine code_join (fun a w => ∃ (κ : Gh) (p213 : Option Addr) (c214 : Nat), Fr (63) [] [(3, .slice p213 (v215).length c214)] a ∧ SS [] κ0 w0 κ w [.tok p213 52 13 (v215).length c214] [Ro.mp f_gate_Reply.ty p213 c214 v215] ∧ True) ?_ ?_
 refine opt_split hv215 (fun ho hv215 => ?_) (fun x216 ho hv215 => ?_)
 obtain ⟨hpq, hS⟩ := hS.optN 0 rfl ho
 have hG16 := hF
 subst hpq
 have hF := hG16
 refine wpIn_region_lit ?_
 refine wp 1 [29] hF fun a hF => ?_
 refine bind_split hv215 (fun x263 hx263 hv215 => ?_)
 refine wc (wcS 0 [0] hF hS (fun hS => C_gate_Gate_Replies_nil0 N    (hS.sbK []) hx263) ?_)
 rintro _ κ w a ⟨p264, c265, rfl, h2⟩ hF hB
 have hS := hB _ _ h2
 refine wp 1 [3] hF fun a hF => ?_
 refine wpListIn_nil ?_
 cases hv215
 exact ⟨_, p264, c265, hF.kp [3], hS.sp [0] [0], trivial⟩
 obtain ⟨b217, hpq, hS⟩ := hS.optS 0 rfl ho
 have hG15 := hF
 subst hpq
 have hF := hG15
 obtain ⟨⟨p218, c219, p220, c221, p222, c223, p224, c225, p226, c227, p228, cs229, p230, cs231, p232, cs233, p234, cs235, p236, m237, c238, p239, m240, c241, p242, c243, p244, m245, c246, p247, cs248, p249, c250, p251, c252, p253, c254, p255, c256⟩, hS⟩ := hS.unfI (ck := c_gate_Gate) (fs := q_gate_Gate) 0 rfl
 refine wpIn_region_lit ?_
 refine wp 1 [29] hF fun a hF => ?_
 refine bind_split hv215 (fun x257 hx257 hv215 => ?_)
 have hgx2570 := hS.segs 0 rfl
 refine wc (wcS 2 [0, 5, 1, 2, 3, 4, 6, 7, 8, 9, 10, 11, 12, 13, 14, 15, 16] hF hS (fun hS => C_gate_Gate_Replies N x216.replies (flat [si x216.dc, si x216.nodes, si x216.role, si x216.epoch, si x216.base, si x216.txs, sl p218 (x216.m.Cuts).length c219, sl p220 (x216.m.Nodes).length c221, sl p222 (x216.modes).length c223, sl p224 (x216.agreed).length c225, sl p226 (x216.old).length c227, sb x216.owing, (1, [.pointer (pa p228)]), (1, [.pointer (pa p230)]), (1, [.pointer (pa p232)]), su x216.hi, (4, (encs fPtr p234)), ei 4 x216.cursor, ei 4 x216.heard, (1, [.map p236]), (1, [.map p239]), sl p242 (x216.held).length c243, (1, [.map p244]), su x216.last, (1, [.pointer (pa p247)]), si x216.seedTo, si x216.seeds, sl p249 (x216.cut).length c250, sl p251 (x216.end_).length c252, su x216.floor, sb x216.floored, sb x216.seeded, sb x216.said, sl p253 (x216.out).length c254]) p255 c256 b217 ((hS.regr 0 [(true, 34), (false, 1)] rfl).sbK [12]) hx257) ?_)
 rintro _ κ w a ⟨p258, c259, p260, c261, rfl, h2⟩ hF hB
 have hS := (hB _ _ h2).unregrK 0 [(true, 34), (false, 1)] (s' := [si x216.dc, si x216.nodes, si x216.role, si x216.epoch, si x216.base, si x216.txs, sl p218 (x216.m.Cuts).length c219, sl p220 (x216.m.Nodes).length c221, sl p222 (x216.modes).length c223, sl p224 (x216.agreed).length c225, sl p226 (x216.old).length c227, sb x216.owing, (1, [.pointer (pa p228)]), (1, [.pointer (pa p230)]), (1, [.pointer (pa p232)]), su x216.hi, (4, (encs fPtr p234)), ei 4 x216.cursor, ei 4 x216.heard, (1, [.map p236]), (1, [.map p239]), sl p242 (x216.held).length c243, (1, [.map p244]), su x216.last, (1, [.pointer (pa p247)]), si x216.seedTo, si x216.seeds, sl p249 (x216.cut).length c250, sl p251 (x216.end_).length c252, su x216.floor, sb x216.floored, sb x216.seeded, sb x216.said, sl p253 (x216.out).length c254, sl p260 (x257.2).length c261]) hgx2570 rfl
 refine wp 1 [3] hF fun a hF => ?_
 refine wpListIn_nil ?_
 obtain ⟨cs262, hS⟩ := hS.foldI (ck := c_gate_Gate) (fs := q_gate_Gate) b217 (p218, c219, p220, c221, p222, c223, p224, c225, p226, c227, p228, cs229, p230, cs231, p232, cs233, p234, cs235, p236, m237, c238, p239, m240, c241, p242, c243, p244, m245, c246, p247, cs248, p249, c250, p251, c252, p253, c254, p260, c261) (T_gate_Gate.mk x216.dc x216.nodes x216.role x216.epoch x216.base x216.txs (T_api_Map.mk x216.m.Cuts x216.m.Nodes) x216.modes x216.agreed x216.old x216.owing x216.st x216.log x216.co x216.hi x216.boxes x216.cursor x216.heard x216.calls x216.reads x216.held x216.loads x216.last x216.mv x216.seedTo x216.seeds x216.cut x216.end_ x216.floor x216.floored x216.seeded x216.said x216.out x257.2) [0, 3, 4, 5, 6, 1, 7, 8, 9, 10, 11, 12, 13, 14, 15, 16, 17] [2] [2, 3, 4, 5, 6, 7, 8, 9, 10, 11, 12, 13, 1] (by decide) (by kernel_rfl) (by kernel_rfl)
 cases hv215
 exact ⟨_, p258, c259, hF.kp [3], hS.sp [1] [0], trivial⟩
 rintro a w ⟨κ, p213, c214, hF, hS, -⟩
 refine hK211 _ _ ?_
 refine wpIn_seq_k fun K266 hK266 => ?_
 refine wpIn_region_lit ?_
 refine bind_split H (fun v268 hv268 H => ?_)
 refine wl_join (fun a w => ∃ κ : Gh, Fr (63) [] [(0, vb v268)] a ∧ SS [] κ0 w0 κ w [] [] ∧ True) ?_ ?_
 refine wp 4 [3, 34] hF fun a hF => ?_
 refine bif_split hv268 (fun hb hv268 => ?_) (fun hb hv268 => ?_)
 have hF := hF.boolv 34 (by kernel_rfl) hb
 refine wl_pure (L' := [(3, .slice p213 (v215).length c214), (34, vb true), (35, .slice p213 (v215).length c214)]) 1 [3, 34, 35] hF (by kernel_rfl) fun a hF => ?_
 refine bind_split hv268 (fun x269 hx269 hv268 => ?_)
 refine wcg hF (wo_index hF hS (by kernel_rfl) 0 (E := 52) (sz := 13) rfl rfl rfl (by kernel_rfl) rfl hx269 (by kernel_rfl) (by kernel_rfl) fun b270 f271 a hpx269 hF => ?_)
 refine wl_pure (L' := [(3, .slice p213 (v215).length c214), (34, vb true), (37, .pointer (some ⟨b270, (f271 + Int.toNat 0 * 13) + 1, none⟩))]) 1 [3, 34, 37] hF (by kernel_rfl) fun a hF => ?_
 refine wcg hF (wo_loadRo (t := f_gate_Reply) hF hS (by kernel_rfl) 0 1 (v := vi x269.Kind) rfl rfl hpx269 rfl hx269 (by kernel_rfl) (by kernel_rfl) (by kernel_rfl) fun a hF => ?_)
 refine wp 3 [3, 41] hF fun a hF => ?_
 refine bif_split hv268 (fun hb hv268 => ?_) (fun hb hv268 => ?_)
 have hF := hF.boolv 41 (by kernel_rfl) hb
 refine wl_pure (L' := [(3, .slice p213 (v215).length c214), (41, vb true), (42, .slice p213 (v215).length c214)]) 1 [3, 41, 42] hF (by kernel_rfl) fun a hF => ?_
 refine bind_split hv268 (fun x272 hx272 hv268 => ?_)
 refine wcg hF (wo_index hF hS (by kernel_rfl) 0 (E := 52) (sz := 13) rfl rfl rfl (by kernel_rfl) rfl hx272 (by kernel_rfl) (by kernel_rfl) fun b273 f274 a hpx272 hF => ?_)
 refine wl_pure (L' := [(3, .slice p213 (v215).length c214), (41, vb true), (45, .pointer (some ⟨b273, (f274 + Int.toNat 0 * 13) + 10, none⟩))]) 2 [3, 41, 45] hF (by kernel_rfl) fun a hF => ?_
 refine wcg hF (wo_loadRo (t := f_gate_Reply) hF hS (by kernel_rfl) 0 10 (v := vu x272.Mark.TS) rfl rfl hpx272 rfl hx272 (by kernel_rfl) (by kernel_rfl) (by kernel_rfl) fun a hF => ?_)
 refine wp 3 [3, 49] hF fun a hF => ?_
 refine bif_split hv268 (fun hb hv268 => ?_) (fun hb hv268 => ?_)
 have hF := hF.boolv 49 (by kernel_rfl) hb
 refine wl_pure (L' := [(3, .slice p213 (v215).length c214), (49, vb true), (50, .slice p213 (v215).length c214)]) 1 [3, 49, 50] hF (by kernel_rfl) fun a hF => ?_
 refine bind_split hv268 (fun x275 hx275 hv268 => ?_)
 refine wcg hF (wo_index hF hS (by kernel_rfl) 0 (E := 52) (sz := 13) rfl rfl rfl (by kernel_rfl) rfl hx275 (by kernel_rfl) (by kernel_rfl) fun b276 f277 a hpx275 hF => ?_)
 refine wl_pure (L' := [(3, .slice p213 (v215).length c214), (49, vb true), (52, .pointer (some ⟨b276, (f277 + Int.toNat 1 * 13) + 1, none⟩))]) 1 [3, 49, 52] hF (by kernel_rfl) fun a hF => ?_
 refine wcg hF (wo_loadRo (t := f_gate_Reply) hF hS (by kernel_rfl) 0 1 (v := vi x275.Kind) rfl rfl hpx275 rfl hx275 (by kernel_rfl) (by kernel_rfl) (by kernel_rfl) fun a hF => ?_)
 refine wp 3 [3, 56] hF fun a hF => ?_
 refine bif_split hv268 (fun hb hv268 => ?_) (fun hb hv268 => ?_)
 have hF := hF.boolv 56 (by kernel_rfl) hb
 refine wl_pure (L' := [(56, vb true), (57, .slice p213 (v215).length c214)]) 1 [56, 57] hF (by kernel_rfl) fun a hF => ?_
 refine bind_split hv268 (fun x278 hx278 hv268 => ?_)
 refine wcg hF (wo_index hF hS (by kernel_rfl) 0 (E := 52) (sz := 13) rfl rfl rfl (by kernel_rfl) rfl hx278 (by kernel_rfl) (by kernel_rfl) fun b279 f280 a hpx278 hF => ?_)
 refine wl_pure (L' := [(56, vb true), (59, .pointer (some ⟨b279, (f280 + Int.toNat 1 * 13), none⟩))]) 1 [56, 59] hF (by kernel_rfl) fun a hF => ?_
 refine wcg hF (wo_loadRo (t := f_gate_Reply) hF hS (by kernel_rfl) 0 0 (v := vi x278.Call) rfl rfl hpx278 rfl hx278 (by kernel_rfl) (by kernel_rfl) (by kernel_rfl) fun a hF => ?_)
 refine wp 3 [0] hF fun a hF => ?_
 refine wpListIn_nil ?_
 cases hv268
 exact ⟨_, hF.kp [0], hS.sp [] [], trivial⟩
 have hF := hF.boolv 56 (by kernel_rfl) hb
 refine wp 7 [0] hF fun a hF => ?_
 refine wpListIn_nil ?_
 cases hv268
 exact ⟨_, hF.kp [0], hS.sp [] [], trivial⟩
 have hF := hF.boolv 49 (by kernel_rfl) hb
 refine wp 14 [0] hF fun a hF => ?_
 refine wpListIn_nil ?_
 cases hv268
 exact ⟨_, hF.kp [0], hS.sp [] [], trivial⟩
 have hF := hF.boolv 41 (by kernel_rfl) hb
 refine wp 22 [0] hF fun a hF => ?_
 refine wpListIn_nil ?_
 cases hv268
 exact ⟨_, hF.kp [0], hS.sp [] [], trivial⟩
 have hF := hF.boolv 34 (by kernel_rfl) hb
 refine wp 29 [0] hF fun a hF => ?_
 refine wpListIn_nil ?_
 cases hv268
 exact ⟨_, hF.kp [0], hS.sp [] [], trivial⟩
 rintro a w ⟨κ, hF, hS, -⟩
 refine hK266 _ _ ?_
 refine wpIn_ret ?_
 cases H
 exact (ret_done hF hS (res1 Tryz.results14 (rvt hF)) ⟨rfl, (hS.pick [] (by kernel_rfl)).ro, hS.newC [] (by decide) (by kernel_rfl)⟩)
end Go.Cf
