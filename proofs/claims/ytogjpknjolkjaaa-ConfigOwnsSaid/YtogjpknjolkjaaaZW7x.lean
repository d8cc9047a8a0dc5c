/- The walks: each function returns what its model says. Printed by a program of ours. -/
import Derived.Test.YtogjpknjolkjaaaZM1
import Derived.Test.YtogjpknjolkjaaaZW3
import Derived.Test.YtogjpknjolkjaaaZW1
import Derived.Test.YtogjpknjolkjaaaZW2
import Derived.Test.YtogjpknjolkjaaaZW2b
import Derived.Test.YtogjpknjolkjaaaZW2c
import Derived.Test.YtogjpknjolkjaaaZW6w
import Derived.Test.YtogjpknjolkjaaaZW6x
namespace Go.Cf
open Go Go.Proofs
set_option linter.unusedVariables false
set_option maxRecDepth 20000 in
set_option maxHeartbeats 8000000 in
theorem C_law18_other (N : Nat) {κ0 : Gh} {w0 : World} (hfr : Fresh κ0 w0) (a1 : ByteArray)  (hR : ∀ m ∈ ([] : List MP), m.p κ0 w0) {r : (ByteArray)} (H : M.law18_other N a1 = some r) :
    Calls Try.prog 43 #[.string (a1)] w0 (Post [] κ0 w0 fun v κ w => v = .string (r) ∧ (∀ m ∈ ([] : List MP), m.p κ w) ∧ NewC w0 κ w []) := by
 have hS := SS.start hfr hR
 refine enter (N := (5)) (L := [(0, .string (a1))]) Try.func43 rfl Try.ntmps43 (show 1 ≤ (5) by decide) rfl fun a hF => ?_
 unfold M.law18_other at H
 refine wpIn_seq_k fun K2 hK2 => ?_
 refine wpIn_region_lit ?_
 refine wp 1 [0] hF fun a hF => ?_
 refine wpListIn_nil ?_
 refine hK2 _ _ ?_
 refine wpIn_seq_k fun K3 hK3 => ?_
 refine wpIn_seq_k fun K4 hK4 => ?_
 refine wpIn_region_lit ?_
 refine wp 2 [4] hF fun a hF => ?_
 refine wpListIn_nil ?_
 refine hK4 _ _ ?_
 refine bif_split H (fun hb H => ?_) (fun hb H => ?_)
 refine cond_t hF (by kernel_rfl) hb ?_
 refine wpIn_seq_k fun K5 hK5 => ?_
 refine wpIn_region_lit ?_
 refine wp 1 [2] hF fun a hF => ?_
 refine wpListIn_nil ?_
 refine hK5 _ _ ?_
 refine wpIn_ret ?_
 cases H
 exact (ret_done hF hS (res1 Try.results43 (rvt hF)) ⟨rfl, (hS.pick [] (by kernel_rfl)).ro, hS.newC [] (by decide) (by kernel_rfl)⟩)
 refine cond_f hF (by kernel_rfl) hb ?_
 refine wpIn_skip ?_
 refine hK3 _ _ ?_
 refine wpIn_seq_k fun K6 hK6 => ?_
 refine wpIn_region_lit ?_
 refine wp 1 [2] hF fun a hF => ?_
 refine wpListIn_nil ?_
 refine hK6 _ _ ?_
 refine wpIn_ret ?_
 cases H
 exact (ret_done hF hS (res1 Try.results43 (rvt hF)) ⟨rfl, (hS.pick [] (by kernel_rfl)).ro, hS.newC [] (by decide) (by kernel_rfl)⟩)
set_option maxRecDepth 20000 in
set_option maxHeartbeats 8000000 in
theorem C_law18_ConfigOwns_x (N : Nat) {κ0 : Gh} {w0 : World} (hfr : Fresh κ0 w0) (a1 : T_config_State) (a3 : T_api_Cmd) (cs2 : List Value) (hR : ∀ m ∈ ([ml a1.Members 4, Arr.mp t_api_Map cs2 4 a1.Maps, ml a1.Modes 21] : List MP), m.p κ0 w0) {r : (Bool)} (H : M.law18_ConfigOwns_x N a1 a3 = some r) :
    Calls Try.prog 7 #[.agg (flat [si a1.Pool, si a1.Nodes, eb 4 a1.Members, (8, cs2), ei 21 a1.Modes]).toArray, .agg (flat [si a3.Kind, si a3.DC, si a3.Shard, si a3.Node, si a3.Mode, sg a3.Key]).toArray] w0 (Post [] κ0 w0 fun v κ w => v = vb r ∧ (∀ m ∈ ([] : List MP), m.p κ w) ∧ NewC w0 κ w []) := by
 have hS := SS.start hfr hR
 refine enter (N := (89)) (L := [(0, .agg (flat [si a1.Pool, si a1.Nodes, eb 4 a1.Members, (8, cs2), ei 21 a1.Modes]).toArray), (1, .agg (flat [si a3.Kind, si a3.DC, si a3.Shard, si a3.Node, si a3.Mode, sg a3.Key]).toArray)]) Try.func7 rfl Try.ntmps7 (show 2 ≤ (89) by decide) rfl fun a hF => ?_
 unfold M.law18_ConfigOwns_x at H
 obtain ⟨cs4, cs5, cs6, cs7, hq, hl, rcs4, rcs5, rcs6, rcs7⟩ := ArrP.four (hS.get 1 rfl) zm_api_Map
 have hS := hS.add (m := ml a1.Maps 4) hl
 obtain ⟨⟨p8, c9, p10, c11⟩, rfl, hR⟩ := rcs4
 have hS := hS.adds hR
 obtain ⟨⟨p12, c13, p14, c15⟩, rfl, hR⟩ := rcs5
 have hS := hS.adds hR
 obtain ⟨⟨p16, c17, p18, c19⟩, rfl, hR⟩ := rcs6
 have hS := hS.adds hR
 obtain ⟨⟨p20, c21, p22, c23⟩, rfl, hR⟩ := rcs7
 have hS := hS.adds hR
 subst hq
 have hS : SS _ _ _ _ _ _ [Ro.mp fStr.ty p20 c21 ((a1.Maps.getD 3 zm_api_Map).Cuts), Ro.mp (fInt .i64).ty p22 c23 ((a1.Maps.getD 3 zm_api_Map).Nodes), Ro.mp fStr.ty p16 c17 ((a1.Maps.getD 2 zm_api_Map).Cuts), Ro.mp (fInt .i64).ty p18 c19 ((a1.Maps.getD 2 zm_api_Map).Nodes), Ro.mp fStr.ty p12 c13 ((a1.Maps.getD 1 zm_api_Map).Cuts), Ro.mp (fInt .i64).ty p14 c15 ((a1.Maps.getD 1 zm_api_Map).Nodes), Ro.mp fStr.ty p8 c9 ((a1.Maps.getD 0 zm_api_Map).Cuts), Ro.mp (fInt .i64).ty p10 c11 ((a1.Maps.getD 0 zm_api_Map).Nodes), ml a1.Maps 4, ml a1.Members 4, ml a1.Modes 21] := hS.pick [0, 1, 2, 3, 4, 5, 6, 7, 8, 9, 11] (by kernel_rfl)
 have hF : Fr (89) [] [(0, .agg (flat [si a1.Pool, si a1.Nodes, eb 4 a1.Members, sl p8 ((a1.Maps.getD 0 zm_api_Map).Cuts).length c9, sl p10 ((a1.Maps.getD 0 zm_api_Map).Nodes).length c11, sl p12 ((a1.Maps.getD 1 zm_api_Map).Cuts).length c13, sl p14 ((a1.Maps.getD 1 zm_api_Map).Nodes).length c15, sl p16 ((a1.Maps.getD 2 zm_api_Map).Cuts).length c17, sl p18 ((a1.Maps.getD 2 zm_api_Map).Nodes).length c19, sl p20 ((a1.Maps.getD 3 zm_api_Map).Cuts).length c21, sl p22 ((a1.Maps.getD 3 zm_api_Map).Nodes).length c23, ei 21 a1.Modes]).toArray), (1, .agg (flat [si a3.Kind, si a3.DC, si a3.Shard, si a3.Node, si a3.Mode, sg a3.Key]).toArray)] a := hF.kp [0, 1]
 refine wpIn_seq_k fun K24 hK24 => ?_
 refine wpIn_region_lit ?_
 refine wc (wbx hF hS [si a1.Pool, si a1.Nodes, eb 4 a1.Members, sl p8 ((a1.Maps.getD 0 zm_api_Map).Cuts).length c9, sl p10 ((a1.Maps.getD 0 zm_api_Map).Nodes).length c11, sl p12 ((a1.Maps.getD 1 zm_api_Map).Cuts).length c13, sl p14 ((a1.Maps.getD 1 zm_api_Map).Nodes).length c15, sl p16 ((a1.Maps.getD 2 zm_api_Map).Cuts).length c17, sl p18 ((a1.Maps.getD 2 zm_api_Map).Nodes).length c19, sl p20 ((a1.Maps.getD 3 zm_api_Map).Cuts).length c21, sl p22 ((a1.Maps.getD 3 zm_api_Map).Nodes).length c23, ei 21 a1.Modes] (sgN 2 (sgEnc (hS.get 9 rfl) (sgN 8 (sgEnc (hS.get 10 rfl) sgNil)))) fun b25 a w hF hS => ?_)
 refine wc (wbx hF hS [si a3.Kind, si a3.DC, si a3.Shard, si a3.Node, si a3.Mode, sg a3.Key] (sgN 6 sgNil) fun b26 a w hF hS => ?_)
 refine wl_pure (L' := [(2, pt b25 0), (3, pt b26 0)]) 1 [2, 3] hF (by kernel_rfl) fun a hF => ?_
 refine wpListIn_nil ?_
 refine hK24 _ _ ?_
 refine wpIn_seq_k fun K27 hK27 => ?_
 refine wpIn_seq_k fun K28 hK28 => ?_
 refine wpIn_region_lit ?_
 refine wc (wls hF hS 1 0 12 fun a hF => ?_)
 have hS := hS.add (m := Arr.mp t_api_Map (flat [sl p8 ((a1.Maps.getD 0 zm_api_Map).Cuts).length c9, sl p10 ((a1.Maps.getD 0 zm_api_Map).Nodes).length c11, sl p12 ((a1.Maps.getD 1 zm_api_Map).Cuts).length c13, sl p14 ((a1.Maps.getD 1 zm_api_Map).Nodes).length c15, sl p16 ((a1.Maps.getD 2 zm_api_Map).Cuts).length c17, sl p18 ((a1.Maps.getD 2 zm_api_Map).Nodes).length c19, sl p20 ((a1.Maps.getD 3 zm_api_Map).Cuts).length c21, sl p22 ((a1.Maps.getD 3 zm_api_Map).Nodes).length c23]) 4 [(T_api_Map.mk ((a1.Maps.getD 0 zm_api_Map).Cuts) ((a1.Maps.getD 0 zm_api_Map).Nodes)), (T_api_Map.mk ((a1.Maps.getD 1 zm_api_Map).Cuts) ((a1.Maps.getD 1 zm_api_Map).Nodes)), (T_api_Map.mk ((a1.Maps.getD 2 zm_api_Map).Cuts) ((a1.Maps.getD 2 zm_api_Map).Nodes)), (T_api_Map.mk ((a1.Maps.getD 3 zm_api_Map).Cuts) ((a1.Maps.getD 3 zm_api_Map).Nodes))]) (ArrP.of4 (t := t_api_Map) (show (t_api_Map).rep _ _ (flat [sl p8 ((a1.Maps.getD 0 zm_api_Map).Cuts).length c9, sl p10 ((a1.Maps.getD 0 zm_api_Map).Nodes).length c11]) (T_api_Map.mk ((a1.Maps.getD 0 zm_api_Map).Cuts) ((a1.Maps.getD 0 zm_api_Map).Nodes)) from ⟨(p8, c9, p10, c11), rfl, (hS.pick [6, 7] (by kernel_rfl)).ro⟩) (show (t_api_Map).rep _ _ (flat [sl p12 ((a1.Maps.getD 1 zm_api_Map).Cuts).length c13, sl p14 ((a1.Maps.getD 1 zm_api_Map).Nodes).length c15]) (T_api_Map.mk ((a1.Maps.getD 1 zm_api_Map).Cuts) ((a1.Maps.getD 1 zm_api_Map).Nodes)) from ⟨(p12, c13, p14, c15), rfl, (hS.pick [4, 5] (by kernel_rfl)).ro⟩) (show (t_api_Map).rep _ _ (flat [sl p16 ((a1.Maps.getD 2 zm_api_Map).Cuts).length c17, sl p18 ((a1.Maps.getD 2 zm_api_Map).Nodes).length c19]) (T_api_Map.mk ((a1.Maps.getD 2 zm_api_Map).Cuts) ((a1.Maps.getD 2 zm_api_Map).Nodes)) from ⟨(p16, c17, p18, c19), rfl, (hS.pick [2, 3] (by kernel_rfl)).ro⟩) (show (t_api_Map).rep _ _ (flat [sl p20 ((a1.Maps.getD 3 zm_api_Map).Cuts).length c21, sl p22 ((a1.Maps.getD 3 zm_api_Map).Nodes).length c23]) (T_api_Map.mk ((a1.Maps.getD 3 zm_api_Map).Cuts) ((a1.Maps.getD 3 zm_api_Map).Nodes)) from ⟨(p20, c21, p22, c23), rfl, (hS.pick [0, 1] (by kernel_rfl)).ro⟩) (show (flat [sl p8 ((a1.Maps.getD 0 zm_api_Map).Cuts).length c9, sl p10 ((a1.Maps.getD 0 zm_api_Map).Nodes).length c11]) ++ ((flat [sl p12 ((a1.Maps.getD 1 zm_api_Map).Cuts).length c13, sl p14 ((a1.Maps.getD 1 zm_api_Map).Nodes).length c15]) ++ ((flat [sl p16 ((a1.Maps.getD 2 zm_api_Map).Cuts).length c17, sl p18 ((a1.Maps.getD 2 zm_api_Map).Nodes).length c19]) ++ (flat [sl p20 ((a1.Maps.getD 3 zm_api_Map).Cuts).length c21, sl p22 ((a1.Maps.getD 3 zm_api_Map).Nodes).length c23]))) = _ from by kernel_rfl))
 refine bind_split H (fun x29 hx29 H => ?_)
 refine wc (wo_callP hF hS (by kernel_rfl) (by kernel_rfl) (C_law18_great N hS.fresh (T_config_State.mk a1.Pool a1.Nodes a1.Members [(T_api_Map.mk ((a1.Maps.getD 0 zm_api_Map).Cuts) ((a1.Maps.getD 0 zm_api_Map).Nodes)), (T_api_Map.mk ((a1.Maps.getD 1 zm_api_Map).Cuts) ((a1.Maps.getD 1 zm_api_Map).Nodes)), (T_api_Map.mk ((a1.Maps.getD 2 zm_api_Map).Cuts) ((a1.Maps.getD 2 zm_api_Map).Nodes)), (T_api_Map.mk ((a1.Maps.getD 3 zm_api_Map).Cuts) ((a1.Maps.getD 3 zm_api_Map).Nodes))] a1.Modes) (flat [sl p8 ((a1.Maps.getD 0 zm_api_Map).Cuts).length c9, sl p10 ((a1.Maps.getD 0 zm_api_Map).Nodes).length c11, sl p12 ((a1.Maps.getD 1 zm_api_Map).Cuts).length c13, sl p14 ((a1.Maps.getD 1 zm_api_Map).Nodes).length c15, sl p16 ((a1.Maps.getD 2 zm_api_Map).Cuts).length c17, sl p18 ((a1.Maps.getD 2 zm_api_Map).Nodes).length c19, sl p20 ((a1.Maps.getD 3 zm_api_Map).Cuts).length c21, sl p22 ((a1.Maps.getD 3 zm_api_Map).Nodes).length c23]) ((hS.pick [10, 0, 11] (by kernel_rfl)).ro) hx29) ?_)
 rintro _ κ w a ⟨rfl, hR, hN⟩ hF hS hO
 refine wpListIn_nil ?_
 refine hK28 _ _ ?_
 refine bif_split H (fun hb H => ?_) (fun hb H => ?_)
 refine cond_t hF (by kernel_rfl) hb ?_
 refine wpIn_seq_k fun K30 hK30 => ?_
 refine wpIn_region_lit ?_
 refine bind_split H (fun x31 hx31 H => ?_)
 refine wc (wo_callP hF hS (by kernel_rfl) (by kernel_rfl) (C_law18_awake N hS.fresh   ((hS.pick [] (by kernel_rfl)).ro) hx31) ?_)
 rintro _ κ w a ⟨rfl, hR, hN⟩ hF hS hO
 refine wp 1 [4] hF fun a hF => ?_
 refine wpListIn_nil ?_
 refine hK30 _ _ ?_
 refine wpIn_ret ?_
 cases H
 exact (ret_done hF hS (res1 Try.results7 (rvt hF)) ⟨rfl, (hS.pick [] (by kernel_rfl)).ro, hS.newC [] (by decide) (by kernel_rfl)⟩)
 refine cond_f hF (by kernel_rfl) hb ?_
 refine wpIn_skip ?_
 refine hK27 _ _ ?_
 refine wpIn_seq_k fun K32 hK32 => ?_
 refine wpIn_region_lit ?_
 refine wc (wls hF hS 1 0 12 fun a hF => ?_)
 refine bind_split H (fun x33 hx33 H => ?_)
 refine wc (wo_callP hF hS (by kernel_rfl) (by kernel_rfl) (C_config_Copy_x N hS.fresh (T_config_State.mk a1.Pool a1.Nodes a1.Members [(T_api_Map.mk ((a1.Maps.getD 0 zm_api_Map).Cuts) ((a1.Maps.getD 0 zm_api_Map).Nodes)), (T_api_Map.mk ((a1.Maps.getD 1 zm_api_Map).Cuts) ((a1.Maps.getD 1 zm_api_Map).Nodes)), (T_api_Map.mk ((a1.Maps.getD 2 zm_api_Map).Cuts) ((a1.Maps.getD 2 zm_api_Map).Nodes)), (T_api_Map.mk ((a1.Maps.getD 3 zm_api_Map).Cuts) ((a1.Maps.getD 3 zm_api_Map).Nodes))] a1.Modes) (flat [sl p8 ((a1.Maps.getD 0 zm_api_Map).Cuts).length c9, sl p10 ((a1.Maps.getD 0 zm_api_Map).Nodes).length c11, sl p12 ((a1.Maps.getD 1 zm_api_Map).Cuts).length c13, sl p14 ((a1.Maps.getD 1 zm_api_Map).Nodes).length c15, sl p16 ((a1.Maps.getD 2 zm_api_Map).Cuts).length c17, sl p18 ((a1.Maps.getD 2 zm_api_Map).Nodes).length c19, sl p20 ((a1.Maps.getD 3 zm_api_Map).Cuts).length c21, sl p22 ((a1.Maps.getD 3 zm_api_Map).Nodes).length c23]) ((hS.pick [10, 0, 11] (by kernel_rfl)).ro) hx33) ?_)
 rintro _ κ w a ⟨p34, c35, p36, c37, p38, c39, p40, c41, p42, c43, p44, c45, p46, c47, p48, c49, rfl, hR, hN⟩ hF hS hO
 have hS := hS.adds hR
 have hS := hS.addC hO hN
 have hS := hS.add (m := Arr.mp t_api_Map (flat [sl p34 ((x33.Maps.getD 0 zm_api_Map).Cuts).length c35, sl p36 ((x33.Maps.getD 0 zm_api_Map).Nodes).length c37, sl p38 ((x33.Maps.getD 1 zm_api_Map).Cuts).length c39, sl p40 ((x33.Maps.getD 1 zm_api_Map).Nodes).length c41, sl p42 ((x33.Maps.getD 2 zm_api_Map).Cuts).length c43, sl p44 ((x33.Maps.getD 2 zm_api_Map).Nodes).length c45, sl p46 ((x33.Maps.getD 3 zm_api_Map).Cuts).length c47, sl p48 ((x33.Maps.getD 3 zm_api_Map).Nodes).length c49]) 4 [(T_api_Map.mk ((x33.Maps.getD 0 zm_api_Map).Cuts) ((x33.Maps.getD 0 zm_api_Map).Nodes)), (T_api_Map.mk ((x33.Maps.getD 1 zm_api_Map).Cuts) ((x33.Maps.getD 1 zm_api_Map).Nodes)), (T_api_Map.mk ((x33.Maps.getD 2 zm_api_Map).Cuts) ((x33.Maps.getD 2 zm_api_Map).Nodes)), (T_api_Map.mk ((x33.Maps.getD 3 zm_api_Map).Cuts) ((x33.Maps.getD 3 zm_api_Map).Nodes))]) (ArrP.of4 (t := t_api_Map) (show (t_api_Map).rep _ _ (flat [sl p34 ((x33.Maps.getD 0 zm_api_Map).Cuts).length c35, sl p36 ((x33.Maps.getD 0 zm_api_Map).Nodes).length c37]) (T_api_Map.mk ((x33.Maps.getD 0 zm_api_Map).Cuts) ((x33.Maps.getD 0 zm_api_Map).Nodes)) from ⟨(p34, c35, p36, c37), rfl, (hS.pick [1, 2] (by kernel_rfl)).ro⟩) (show (t_api_Map).rep _ _ (flat [sl p38 ((x33.Maps.getD 1 zm_api_Map).Cuts).length c39, sl p40 ((x33.Maps.getD 1 zm_api_Map).Nodes).length c41]) (T_api_Map.mk ((x33.Maps.getD 1 zm_api_Map).Cuts) ((x33.Maps.getD 1 zm_api_Map).Nodes)) from ⟨(p38, c39, p40, c41), rfl, (hS.pick [3, 4] (by kernel_rfl)).ro⟩) (show (t_api_Map).rep _ _ (flat [sl p42 ((x33.Maps.getD 2 zm_api_Map).Cuts).length c43, sl p44 ((x33.Maps.getD 2 zm_api_Map).Nodes).length c45]) (T_api_Map.mk ((x33.Maps.getD 2 zm_api_Map).Cuts) ((x33.Maps.getD 2 zm_api_Map).Nodes)) from ⟨(p42, c43, p44, c45), rfl, (hS.pick [5, 6] (by kernel_rfl)).ro⟩) (show (t_api_Map).rep _ _ (flat [sl p46 ((x33.Maps.getD 3 zm_api_Map).Cuts).length c47, sl p48 ((x33.Maps.getD 3 zm_api_Map).Nodes).length c49]) (T_api_Map.mk ((x33.Maps.getD 3 zm_api_Map).Cuts) ((x33.Maps.getD 3 zm_api_Map).Nodes)) from ⟨(p46, c47, p48, c49), rfl, (hS.pick [7, 8] (by kernel_rfl)).ro⟩) (show (flat [sl p34 ((x33.Maps.getD 0 zm_api_Map).Cuts).length c35, sl p36 ((x33.Maps.getD 0 zm_api_Map).Nodes).length c37]) ++ ((flat [sl p38 ((x33.Maps.getD 1 zm_api_Map).Cuts).length c39, sl p40 ((x33.Maps.getD 1 zm_api_Map).Nodes).length c41]) ++ ((flat [sl p42 ((x33.Maps.getD 2 zm_api_Map).Cuts).length c43, sl p44 ((x33.Maps.getD 2 zm_api_Map).Nodes).length c45]) ++ (flat [sl p46 ((x33.Maps.getD 3 zm_api_Map).Cuts).length c47, sl p48 ((x33.Maps.getD 3 zm_api_Map).Nodes).length c49]))) = _ from by kernel_rfl))
 refine bind_split H (fun x50 hx50 H => ?_)
 refine wc (wo_callP hF hS (by kernel_rfl) (by kernel_rfl) (C_law18_Told N hS.fresh (T_config_State.mk x33.Pool x33.Nodes x33.Members [(T_api_Map.mk ((x33.Maps.getD 0 zm_api_Map).Cuts) ((x33.Maps.getD 0 zm_api_Map).Nodes)), (T_api_Map.mk ((x33.Maps.getD 1 zm_api_Map).Cuts) ((x33.Maps.getD 1 zm_api_Map).Nodes)), (T_api_Map.mk ((x33.Maps.getD 2 zm_api_Map).Cuts) ((x33.Maps.getD 2 zm_api_Map).Nodes)), (T_api_Map.mk ((x33.Maps.getD 3 zm_api_Map).Cuts) ((x33.Maps.getD 3 zm_api_Map).Nodes))] x33.Modes) (flat [sl p34 ((x33.Maps.getD 0 zm_api_Map).Cuts).length c35, sl p36 ((x33.Maps.getD 0 zm_api_Map).Nodes).length c37, sl p38 ((x33.Maps.getD 1 zm_api_Map).Cuts).length c39, sl p40 ((x33.Maps.getD 1 zm_api_Map).Nodes).length c41, sl p42 ((x33.Maps.getD 2 zm_api_Map).Cuts).length c43, sl p44 ((x33.Maps.getD 2 zm_api_Map).Nodes).length c45, sl p46 ((x33.Maps.getD 3 zm_api_Map).Cuts).length c47, sl p48 ((x33.Maps.getD 3 zm_api_Map).Nodes).length c49]) ((hS.pick [1, 0, 10] (by kernel_rfl)).ro) hx50) ?_)
 rintro _ κ w a ⟨cs51, rfl, hR, hN⟩ hF hS hO
 have hS := hS.adds hR
 have hS := hS.add (m := ml (List.replicate 4 false) 4) (List.length_replicate)
 have hS := hS.add (m := ml (List.replicate 21 0) 21) (List.length_replicate)
 refine wc (wal hF hS [si 0, si 0, eb 4 (List.replicate 4 false), sl none 0 0, sl none 0 0, sl none 0 0, sl none 0 0, sl none 0 0, sl none 0 0, sl none 0 0, sl none 0 0, ei 21 (List.replicate 21 0)] (sgN 2 (sgEnc List.length_replicate (sgN 8 (sgEnc List.length_replicate sgNil)))) fun b52 a w hF hS => ?_)
 refine wc (wst hF hS 0 0 12 [si x50.Pool, si x50.Nodes, eb 4 x50.Members, (8, cs51), ei 21 x50.Modes] (sgN 2 (sgEnc (hS.get 2 rfl) (sgArr (hS.get 3 rfl) (sgEnc (hS.get 4 rfl) sgNil)))) fun a w hF hS => ?_)
 refine wpListIn_nil ?_
 refine hK32 _ _ ?_
 refine wpIn_seq_k fun K53 hK53 => ?_
 refine wpIn_region_lit ?_
 refine wc (wls hF hS 10 0 12 fun a hF => ?_)
 refine wc (wls hF hS 9 0 6 fun a hF => ?_)
 refine snap hS fun κ71 w71 hR71 hf71 hw71 he71 hS => ?_
 have hsi := hS.get 0 rfl
 refine bind_split H (fun x54 hx54 H => ?_)
 refine wc (wo_callP hF hS (by kernel_rfl) (by kernel_rfl) (C_config_Apply_x N hS.fresh (T_config_State.mk a1.Pool a1.Nodes a1.Members [(T_api_Map.mk ((a1.Maps.getD 0 zm_api_Map).Cuts) ((a1.Maps.getD 0 zm_api_Map).Nodes)), (T_api_Map.mk ((a1.Maps.getD 1 zm_api_Map).Cuts) ((a1.Maps.getD 1 zm_api_Map).Nodes)), (T_api_Map.mk ((a1.Maps.getD 2 zm_api_Map).Cuts) ((a1.Maps.getD 2 zm_api_Map).Nodes)), (T_api_Map.mk ((a1.Maps.getD 3 zm_api_Map).Cuts) ((a1.Maps.getD 3 zm_api_Map).Nodes))] a1.Modes) (T_api_Cmd.mk a3.Kind a3.DC a3.Shard a3.Node a3.Mode a3.Key) (flat [sl p8 ((a1.Maps.getD 0 zm_api_Map).Cuts).length c9, sl p10 ((a1.Maps.getD 0 zm_api_Map).Nodes).length c11, sl p12 ((a1.Maps.getD 1 zm_api_Map).Cuts).length c13, sl p14 ((a1.Maps.getD 1 zm_api_Map).Nodes).length c15, sl p16 ((a1.Maps.getD 2 zm_api_Map).Cuts).length c17, sl p18 ((a1.Maps.getD 2 zm_api_Map).Nodes).length c19, sl p20 ((a1.Maps.getD 3 zm_api_Map).Cuts).length c21, sl p22 ((a1.Maps.getD 3 zm_api_Map).Nodes).length c23]) ((hS.pick [27, 17, 28] (by kernel_rfl)).ro) hx54) ?_)
 rintro _ κ w a ⟨p55, c56, p57, c58, p59, c60, p61, c62, p63, c64, p65, c66, p67, c68, p69, c70, rfl, hR, hN⟩ hF hS hO
 have hS := hS.adds hR
 have hS := hS.add (m := MP.old p55 w71) (MP.oldC hsi hN (List.mem_of_getElem? (i := 0) rfl))
 have hS := hS.add (m := MP.old p57 w71) (MP.oldC hsi hN (List.mem_of_getElem? (i := 1) rfl))
 have hS := hS.add (m := MP.old p59 w71) (MP.oldC hsi hN (List.mem_of_getElem? (i := 2) rfl))
 have hS := hS.add (m := MP.old p61 w71) (MP.oldC hsi hN (List.mem_of_getElem? (i := 3) rfl))
 have hS := hS.add (m := MP.old p63 w71) (MP.oldC hsi hN (List.mem_of_getElem? (i := 4) rfl))
 have hS := hS.add (m := MP.old p65 w71) (MP.oldC hsi hN (List.mem_of_getElem? (i := 5) rfl))
 have hS := hS.add (m := MP.old p67 w71) (MP.oldC hsi hN (List.mem_of_getElem? (i := 6) rfl))
 have hS := hS.add (m := MP.old p69 w71) (MP.oldC hsi hN (List.mem_of_getElem? (i := 7) rfl))
 have hS := hS.addC hO hN
 refine wp 3 [2, 5, 24, 25] hF fun a hF => ?_
 refine wc (wal hF hS [si 0, si 0, eb 4 (List.replicate 4 false), sl none 0 0, sl none 0 0, sl none 0 0, sl none 0 0, sl none 0 0, sl none 0 0, sl none 0 0, sl none 0 0, ei 21 (List.replicate 21 0)] (sgN 2 (sgEnc List.length_replicate (sgN 8 (sgEnc List.length_replicate sgNil)))) fun b72 a w hF hS => ?_)
 refine wc (wst hF hS 0 0 12 [si x54.1.Pool, si x54.1.Nodes, eb 4 x54.1.Members, sl p55 ((x54.1.Maps.getD 0 zm_api_Map).Cuts).length c56, sl p57 ((x54.1.Maps.getD 0 zm_api_Map).Nodes).length c58, sl p59 ((x54.1.Maps.getD 1 zm_api_Map).Cuts).length c60, sl p61 ((x54.1.Maps.getD 1 zm_api_Map).Nodes).length c62, sl p63 ((x54.1.Maps.getD 2 zm_api_Map).Cuts).length c64, sl p65 ((x54.1.Maps.getD 2 zm_api_Map).Nodes).length c66, sl p67 ((x54.1.Maps.getD 3 zm_api_Map).Cuts).length c68, sl p69 ((x54.1.Maps.getD 3 zm_api_Map).Nodes).length c70, ei 21 x54.1.Modes] (sgN 2 (sgEnc (hS.get 8 rfl) (sgN 8 (sgEnc (hS.get 17 rfl) sgNil)))) fun a w hF hS => ?_)
 refine wp 1 [2, 5, 6] hF fun a hF => ?_
 refine wpListIn_nil ?_
 refine hK53 _ _ ?_
 refine wpIn_seq_k fun K73 hK73 => ?_
 refine wpIn_region_lit ?_
 refine wc (wls hF hS 19 0 12 fun a hF => ?_)
 have hsi := hS.get 18 rfl
 refine bind_split H (fun x74 hx74 H => ?_)
 refine wc (wo_callP hF hS (by kernel_rfl) (by kernel_rfl) (C_config_Copy_x N hS.fresh (T_config_State.mk a1.Pool a1.Nodes a1.Members [(T_api_Map.mk ((a1.Maps.getD 0 zm_api_Map).Cuts) ((a1.Maps.getD 0 zm_api_Map).Nodes)), (T_api_Map.mk ((a1.Maps.getD 1 zm_api_Map).Cuts) ((a1.Maps.getD 1 zm_api_Map).Nodes)), (T_api_Map.mk ((a1.Maps.getD 2 zm_api_Map).Cuts) ((a1.Maps.getD 2 zm_api_Map).Nodes)), (T_api_Map.mk ((a1.Maps.getD 3 zm_api_Map).Cuts) ((a1.Maps.getD 3 zm_api_Map).Nodes))] a1.Modes) (flat [sl p8 ((a1.Maps.getD 0 zm_api_Map).Cuts).length c9, sl p10 ((a1.Maps.getD 0 zm_api_Map).Nodes).length c11, sl p12 ((a1.Maps.getD 1 zm_api_Map).Cuts).length c13, sl p14 ((a1.Maps.getD 1 zm_api_Map).Nodes).length c15, sl p16 ((a1.Maps.getD 2 zm_api_Map).Cuts).length c17, sl p18 ((a1.Maps.getD 2 zm_api_Map).Nodes).length c19, sl p20 ((a1.Maps.getD 3 zm_api_Map).Cuts).length c21, sl p22 ((a1.Maps.getD 3 zm_api_Map).Nodes).length c23]) ((hS.pick [45, 35, 46] (by kernel_rfl)).ro) hx74) ?_)
 rintro _ κ w a ⟨p75, c76, p77, c78, p79, c80, p81, c82, p83, c84, p85, c86, p87, c88, p89, c90, rfl, hR, hN⟩ hF hS hO
 have hS := hS.adds hR
 have hS := hS.add (m := MP.old p75 w71) (MP.oldC hsi hN (List.mem_of_getElem? (i := 0) rfl))
 have hS := hS.add (m := MP.old p77 w71) (MP.oldC hsi hN (List.mem_of_getElem? (i := 1) rfl))
 have hS := hS.add (m := MP.old p79 w71) (MP.oldC hsi hN (List.mem_of_getElem? (i := 2) rfl))
 have hS := hS.add (m := MP.old p81 w71) (MP.oldC hsi hN (List.mem_of_getElem? (i := 3) rfl))
 have hS := hS.add (m := MP.old p83 w71) (MP.oldC hsi hN (List.mem_of_getElem? (i := 4) rfl))
 have hS := hS.add (m := MP.old p85 w71) (MP.oldC hsi hN (List.mem_of_getElem? (i := 5) rfl))
 have hS := hS.add (m := MP.old p87 w71) (MP.oldC hsi hN (List.mem_of_getElem? (i := 6) rfl))
 have hS := hS.add (m := MP.old p89 w71) (MP.oldC hsi hN (List.mem_of_getElem? (i := 7) rfl))
 have hS := hS.addC hO hN
 refine wc (wal hF hS [si 0, si 0, eb 4 (List.replicate 4 false), sl none 0 0, sl none 0 0, sl none 0 0, sl none 0 0, sl none 0 0, sl none 0 0, sl none 0 0, sl none 0 0, ei 21 (List.replicate 21 0)] (sgN 2 (sgEnc List.length_replicate (sgN 8 (sgEnc List.length_replicate sgNil)))) fun b91 a w hF hS => ?_)
 refine wc (wst hF hS 0 0 12 [si x74.Pool, si x74.Nodes, eb 4 x74.Members, sl p75 ((x74.Maps.getD 0 zm_api_Map).Cuts).length c76, sl p77 ((x74.Maps.getD 0 zm_api_Map).Nodes).length c78, sl p79 ((x74.Maps.getD 1 zm_api_Map).Cuts).length c80, sl p81 ((x74.Maps.getD 1 zm_api_Map).Nodes).length c82, sl p83 ((x74.Maps.getD 2 zm_api_Map).Cuts).length c84, sl p85 ((x74.Maps.getD 2 zm_api_Map).Nodes).length c86, sl p87 ((x74.Maps.getD 3 zm_api_Map).Cuts).length c88, sl p89 ((x74.Maps.getD 3 zm_api_Map).Nodes).length c90, ei 21 x74.Modes] (sgN 2 (sgEnc (hS.get 8 rfl) (sgN 8 (sgEnc (hS.get 17 rfl) sgNil)))) fun a w hF hS => ?_)
 refine wpListIn_nil ?_
 refine hK73 _ _ ?_
 refine wpIn_seq_k fun K92 hK92 => ?_
 refine wpIn_seq_k fun K93 hK93 => ?_
 refine rgS hS [] ?_
 have hS := hS.drew
 refine bind_split H (fun x94 hx94 H => ?_)
 refine bind_split H (fun x96 hx96 H => ?_)
 refine atk 0 (some 28) hF (hS.sx [0, 9, 18, 27, 28] (rg 65)) rfl (vls 0 0 12) fun a hF => ?_
 refine atk 1 (some 29) hF (hS.sx [0, 9, 18, 27, 28] (rg 65)) rfl (vls 4 0 12) fun a hF => ?_
 refine ago 2 hF rfl ?_
 refine wo_callP hF hS (by kernel_rfl) (by kernel_rfl) (C_law18_Told N hS.fresh (T_config_State.mk a1.Pool a1.Nodes a1.Members [(T_api_Map.mk ((a1.Maps.getD 0 zm_api_Map).Cuts) ((a1.Maps.getD 0 zm_api_Map).Nodes)), (T_api_Map.mk ((a1.Maps.getD 1 zm_api_Map).Cuts) ((a1.Maps.getD 1 zm_api_Map).Nodes)), (T_api_Map.mk ((a1.Maps.getD 2 zm_api_Map).Cuts) ((a1.Maps.getD 2 zm_api_Map).Nodes)), (T_api_Map.mk ((a1.Maps.getD 3 zm_api_Map).Cuts) ((a1.Maps.getD 3 zm_api_Map).Nodes))] a1.Modes) (flat [sl p8 ((a1.Maps.getD 0 zm_api_Map).Cuts).length c9, sl p10 ((a1.Maps.getD 0 zm_api_Map).Nodes).length c11, sl p12 ((a1.Maps.getD 1 zm_api_Map).Cuts).length c13, sl p14 ((a1.Maps.getD 1 zm_api_Map).Nodes).length c15, sl p16 ((a1.Maps.getD 2 zm_api_Map).Cuts).length c17, sl p18 ((a1.Maps.getD 2 zm_api_Map).Nodes).length c19, sl p20 ((a1.Maps.getD 3 zm_api_Map).Cuts).length c21, sl p22 ((a1.Maps.getD 3 zm_api_Map).Nodes).length c23]) ((hS.pick [63, 53, 64] (by kernel_rfl)).ro) hx94) ?_
 rintro _ κ w a ⟨cs95, rfl, hR, hN⟩ hF hS hO
 have hS := hS.adds hR
 refine ⟨fun _ => (hS.sx [0, 9, 18, 27, 28] [3, 4, 5, 6, 7, 8, 9, 10, 11, 12, 13, 14, 15, 16, 17, 18, 19, 20, 21, 22, 23, 24, 25, 26, 27, 28, 29, 30, 31, 32, 33, 34, 35, 36, 37, 38, 39, 40, 41, 42, 43, 44, 45, 46, 47, 48, 49, 50, 51, 52, 53, 54, 55, 56, 57, 58, 59, 60, 61, 62, 63, 64, 65, 66, 67]), ?_⟩
 refine ago 3 hF rfl ?_
 have hS := hS.add (m := Arr.mp t_api_Map (flat [sl p75 ((x74.Maps.getD 0 zm_api_Map).Cuts).length c76, sl p77 ((x74.Maps.getD 0 zm_api_Map).Nodes).length c78, sl p79 ((x74.Maps.getD 1 zm_api_Map).Cuts).length c80, sl p81 ((x74.Maps.getD 1 zm_api_Map).Nodes).length c82, sl p83 ((x74.Maps.getD 2 zm_api_Map).Cuts).length c84, sl p85 ((x74.Maps.getD 2 zm_api_Map).Nodes).length c86, sl p87 ((x74.Maps.getD 3 zm_api_Map).Cuts).length c88, sl p89 ((x74.Maps.getD 3 zm_api_Map).Nodes).length c90]) 4 [(T_api_Map.mk ((x74.Maps.getD 0 zm_api_Map).Cuts) ((x74.Maps.getD 0 zm_api_Map).Nodes)), (T_api_Map.mk ((x74.Maps.getD 1 zm_api_Map).Cuts) ((x74.Maps.getD 1 zm_api_Map).Nodes)), (T_api_Map.mk ((x74.Maps.getD 2 zm_api_Map).Cuts) ((x74.Maps.getD 2 zm_api_Map).Nodes)), (T_api_Map.mk ((x74.Maps.getD 3 zm_api_Map).Cuts) ((x74.Maps.getD 3 zm_api_Map).Nodes))]) (ArrP.of4 (t := t_api_Map) (show (t_api_Map).rep _ _ (flat [sl p75 ((x74.Maps.getD 0 zm_api_Map).Cuts).length c76, sl p77 ((x74.Maps.getD 0 zm_api_Map).Nodes).length c78]) (T_api_Map.mk ((x74.Maps.getD 0 zm_api_Map).Cuts) ((x74.Maps.getD 0 zm_api_Map).Nodes)) from ⟨(p75, c76, p77, c78), rfl, (hS.pick [12, 13] (by kernel_rfl)).ro⟩) (show (t_api_Map).rep _ _ (flat [sl p79 ((x74.Maps.getD 1 zm_api_Map).Cuts).length c80, sl p81 ((x74.Maps.getD 1 zm_api_Map).Nodes).length c82]) (T_api_Map.mk ((x74.Maps.getD 1 zm_api_Map).Cuts) ((x74.Maps.getD 1 zm_api_Map).Nodes)) from ⟨(p79, c80, p81, c82), rfl, (hS.pick [14, 15] (by kernel_rfl)).ro⟩) (show (t_api_Map).rep _ _ (flat [sl p83 ((x74.Maps.getD 2 zm_api_Map).Cuts).length c84, sl p85 ((x74.Maps.getD 2 zm_api_Map).Nodes).length c86]) (T_api_Map.mk ((x74.Maps.getD 2 zm_api_Map).Cuts) ((x74.Maps.getD 2 zm_api_Map).Nodes)) from ⟨(p83, c84, p85, c86), rfl, (hS.pick [16, 17] (by kernel_rfl)).ro⟩) (show (t_api_Map).rep _ _ (flat [sl p87 ((x74.Maps.getD 3 zm_api_Map).Cuts).length c88, sl p89 ((x74.Maps.getD 3 zm_api_Map).Nodes).length c90]) (T_api_Map.mk ((x74.Maps.getD 3 zm_api_Map).Cuts) ((x74.Maps.getD 3 zm_api_Map).Nodes)) from ⟨(p87, c88, p89, c90), rfl, (hS.pick [18, 19] (by kernel_rfl)).ro⟩) (show (flat [sl p75 ((x74.Maps.getD 0 zm_api_Map).Cuts).length c76, sl p77 ((x74.Maps.getD 0 zm_api_Map).Nodes).length c78]) ++ ((flat [sl p79 ((x74.Maps.getD 1 zm_api_Map).Cuts).length c80, sl p81 ((x74.Maps.getD 1 zm_api_Map).Nodes).length c82]) ++ ((flat [sl p83 ((x74.Maps.getD 2 zm_api_Map).Cuts).length c84, sl p85 ((x74.Maps.getD 2 zm_api_Map).Nodes).length c86]) ++ (flat [sl p87 ((x74.Maps.getD 3 zm_api_Map).Cuts).length c88, sl p89 ((x74.Maps.getD 3 zm_api_Map).Nodes).length c90]))) = _ from by kernel_rfl))
 refine wo_callP hF hS (by kernel_rfl) (by kernel_rfl) (C_law18_Same N hS.fresh (T_config_State.mk x74.Pool x74.Nodes x74.Members [(T_api_Map.mk ((x74.Maps.getD 0 zm_api_Map).Cuts) ((x74.Maps.getD 0 zm_api_Map).Nodes)), (T_api_Map.mk ((x74.Maps.getD 1 zm_api_Map).Cuts) ((x74.Maps.getD 1 zm_api_Map).Nodes)), (T_api_Map.mk ((x74.Maps.getD 2 zm_api_Map).Cuts) ((x74.Maps.getD 2 zm_api_Map).Nodes)), (T_api_Map.mk ((x74.Maps.getD 3 zm_api_Map).Cuts) ((x74.Maps.getD 3 zm_api_Map).Nodes))] x74.Modes) (T_ref18_State.mk x94.Pool x94.Nodes x94.Members x94.Maps x94.Modes) (flat [sl p75 ((x74.Maps.getD 0 zm_api_Map).Cuts).length c76, sl p77 ((x74.Maps.getD 0 zm_api_Map).Nodes).length c78, sl p79 ((x74.Maps.getD 1 zm_api_Map).Cuts).length c80, sl p81 ((x74.Maps.getD 1 zm_api_Map).Nodes).length c82, sl p83 ((x74.Maps.getD 2 zm_api_Map).Cuts).length c84, sl p85 ((x74.Maps.getD 2 zm_api_Map).Nodes).length c86, sl p87 ((x74.Maps.getD 3 zm_api_Map).Cuts).length c88, sl p89 ((x74.Maps.getD 3 zm_api_Map).Nodes).length c90]) cs95 ((hS.pick [12, 0, 21, 1, 2, 3] (by kernel_rfl)).ro) hx96) ?_
 rintro _ κ w a ⟨rfl, hR, hN⟩ hF hS hO
 refine ⟨fun _ => (hS.sx [0, 9, 18, 27, 28] [4, 5, 6, 7, 8, 9, 10, 11, 12, 13, 14, 15, 16, 17, 18, 19, 20, 21, 22, 23, 24, 25, 26, 27, 28, 29, 30, 31, 32, 33, 34, 35, 36, 37, 38, 39, 40, 41, 42, 43, 44, 45, 46, 47, 48, 49, 50, 51, 52, 53, 54, 55, 56, 57, 58, 59, 60, 61, 62, 63, 64, 65, 66, 67, 68]), ?_⟩
 refine anp [4] [2, 5, 6, 8, 32] hF (hS.sx [0, 9, 18, 27, 28] [4, 5, 6, 7, 8, 9, 10, 11, 12, 13, 14, 15, 16, 17, 18, 19, 20, 21, 22, 23, 24, 25, 26, 27, 28, 29, 30, 31, 32, 33, 34, 35, 36, 37, 38, 39, 40, 41, 42, 43, 44, 45, 46, 47, 48, 49, 50, 51, 52, 53, 54, 55, 56, 57, 58, 59, 60, 61, 62, 63, 64, 65, 66, 67, 68]) fun a hF => ?_
 refine and_ ?_
 refine hK93 _ _ ?_
 refine bif_split H (fun hb H => ?_) (fun hb H => ?_)
 refine cond_t hF (by kernel_rfl) hb ?_
 refine wpIn_seq_k fun K97 hK97 => ?_
 refine wpIn_region_lit ?_
 refine wp 1 [4] hF fun a hF => ?_
 refine wpListIn_nil ?_
 refine hK97 _ _ ?_
 refine wpIn_ret ?_
 cases H
 exact (ret_done hF hS (res1 Try.results7 (rvt hF)) ⟨rfl, (hS.pick [] (by kernel_rfl)).ro, hS.newC [] (by decide) (by kernel_rfl)⟩)
 refine cond_f hF (by kernel_rfl) hb ?_
 refine wpIn_skip ?_
 refine hK92 _ _ ?_
 refine wpIn_seq_k fun K98 hK98 => ?_
 refine wpIn_seq_k fun K99 hK99 => ?_
 refine wpIn_region_lit ?_
 refine wl_pure (L' := [(2, pt b25 0), (5, pt b52 0), (6, pt b72 0), (8, pt b91 0), (33, vi 0)]) 1 [2, 5, 6, 8, 33] hF (by kernel_rfl) fun a hF => ?_
 refine wpListIn_nil ?_
 refine hK99 _ _ ?_
 refine wpIn_block ?_
 refine loop_rounds 25 ?_
 refine round_go ?_
 refine wpIn_seq_k fun K100 hK100 => ?_
 refine wpIn_region_lit ?_
 refine wp 1 [2, 5, 6, 8, 33, 34] hF fun a hF => ?_
 refine wpListIn_nil ?_
 refine hK100 _ _ ?_
 refine wpIn_seq_k fun K101 hK101 => ?_
 refine cond_t hF (by kernel_rfl) rfl ?_
 refine wpIn_skip ?_
 refine hK101 _ _ ?_
 refine wpIn_seq_k fun K102 hK102 => ?_
 refine wpIn_block ?_
 refine wpIn_seq_k fun K103 hK103 => ?_
 refine wpIn_region_lit ?_
 refine wp 2 [2, 5, 6, 8, 9, 33] hF fun a hF => ?_
 refine wpListIn_nil ?_
 refine hK103 _ _ ?_
 refine wpIn_seq_k fun K104 hK104 => ?_
 refine rgS hS [] ?_
 have hS := hS.drew
 refine any_pure [0, 1, 2, 4, 5, 6, 10] [2, 5, 6, 8, 33, 38, 42, 46] (L' := [(2, pt b25 0), (5, pt b52 0), (6, pt b72 0), (8, pt b91 0), (33, vi 0), (38, pt b72 6), (42, pt b91 6), (46, vi 0)]) (listed' := (bitA 11 1143)) (fuel := 4) hF (hS.sx [0, 9, 18, 27, 28] (rg 69)) (by kernel_rfl) (by intro c a w t v h; cases t <;> exact h) (by kernel_rfl) rfl fun a hF => ?_
 refine atk 3 (some 39) hF (hS.sx [0, 9, 18, 27, 28] (rg 69)) rfl (vls 1 3 2) fun a hF => ?_
 refine atk 7 (some 43) hF (hS.sx [0, 9, 18, 27, 28] (rg 69)) rfl (vls 0 3 2) fun a hF => ?_
 refine ago 8 hF rfl ?_
 refine wo_buildB (s := [sl p55 ((x54.1.Maps.getD 0 zm_api_Map).Cuts).length c56, sl p57 ((x54.1.Maps.getD 0 zm_api_Map).Nodes).length c58, sl p75 ((x74.Maps.getD 0 zm_api_Map).Cuts).length c76, sl p77 ((x74.Maps.getD 0 zm_api_Map).Nodes).length c78]) (vs := [(0, .agg (flat [sl p55 ((x54.1.Maps.getD 0 zm_api_Map).Cuts).length c56, sl p57 ((x54.1.Maps.getD 0 zm_api_Map).Nodes).length c58]).toArray), (1, .agg (flat [sl p75 ((x74.Maps.getD 0 zm_api_Map).Cuts).length c76, sl p77 ((x74.Maps.getD 0 zm_api_Map).Nodes).length c78]).toArray)]) (z := .agg (flat [sl none 0 0, sl none 0 0]).toArray) (sz := 2) (E := 25) hF hS (by kernel_rfl) rfl (by kernel_rfl) (show segGood [sl p55 ((x54.1.Maps.getD 0 zm_api_Map).Cuts).length c56, sl p57 ((x54.1.Maps.getD 0 zm_api_Map).Nodes).length c58, sl p75 ((x74.Maps.getD 0 zm_api_Map).Cuts).length c76, sl p77 ((x74.Maps.getD 0 zm_api_Map).Nodes).length c78] from (sgN 4 sgNil)).1 (by kernel_rfl) (by kernel_rfl) (by kernel_rfl) (by kernel_rfl) (by kernel_rfl) fun b106 a w hF hS => ?_
 refine ⟨fun _ => (hS.sx [1, 10, 19, 28, 29] (rg 69)), ?_⟩
 refine any_pure [9] [2, 5, 6, 8, 33, 44, 45, 46] (L' := [(2, pt b25 0), (5, pt b52 0), (6, pt b72 0), (8, pt b91 0), (33, vi 0), (44, .slice (some ⟨b106, 0, none⟩) 2 2), (45, vi 2), (46, vi 0)]) (listed' := (bitA 11 2047)) (fuel := 0) hF (hS.sx [1, 10, 19, 28, 29] (rg 69)) (by kernel_rfl) (by intro c a w t v h; cases t <;> exact h) (by kernel_rfl) rfl fun a hF => ?_
 refine and_ ?_
 refine hK104 _ _ ?_
 refine wpIn_block ?_
 refine loop_rounds 25 ?_
 refine round_go ?_
 refine wpIn_seq_k fun K107 hK107 => ?_
 refine wpIn_region_lit ?_
 refine wp 1 [2, 5, 6, 8, 33, 44, 45, 46, 47] hF fun a hF => ?_
 refine wpListIn_nil ?_
 refine hK107 _ _ ?_
 refine wpIn_seq_k fun K108 hK108 => ?_
 refine cond_t hF (by kernel_rfl) rfl ?_
 refine wpIn_skip ?_
 refine hK108 _ _ ?_
 refine wpIn_seq_k fun K109 hK109 => ?_
 refine wpIn_block ?_
 refine wpIn_seq_k fun K110 hK110 => ?_
 refine wpIn_region_lit ?_
 refine wp 1 [2, 5, 6, 8, 33, 44, 45, 46, 48] hF fun a hF => ?_
 refine wc (wls hF hS 0 0 2 fun a hF => ?_)
 refine wc (wal hF hS [sl none 0 0, sl none 0 0] (sgN 2 sgNil) fun b111 a w hF hS => ?_)
 refine wc (wst hF hS 0 0 2 [sl p55 ((x54.1.Maps.getD 0 zm_api_Map).Cuts).length c56, sl p57 ((x54.1.Maps.getD 0 zm_api_Map).Nodes).length c58] (sgN 2 sgNil) fun a w hF hS => ?_)
 refine wpListIn_nil ?_
 refine hK110 _ _ ?_
 refine wpIn_seq_k fun K112 hK112 => ?_
 refine wpIn_seq_k fun K113 hK113 => ?_
 refine wpIn_region_lit ?_
 refine wp 1 [2, 5, 6, 8, 11, 33, 44, 45, 46, 50] hF fun a hF => ?_
 refine wc (wld hF hS 0 0 0 fun a hF => ?_)
 refine wp 2 [2, 5, 6, 8, 11, 33, 44, 45, 46, 52, 53] hF fun a hF => ?_
 refine wpListIn_nil ?_
 refine hK113 _ _ ?_
 refine wpIn_block ?_
 refine loop_fuel (n := N) (fun n a w => ∃ (κ : Gh) (y164 : List ByteArray) (y165 : Int), Fr (89) [] [(2, pt b25 0), (5, pt b52 0), (6, pt b72 0), (8, pt b91 0), (11, pt b111 0), (33, vi 0), (44, .slice (some ⟨b106, 0, none⟩) 2 2), (45, vi 2), (46, vi 0), (52, vi (((x54.1.Maps.getD 0 zm_api_Map).Cuts).length : Int)), (53, vi y165)] a ∧ SS [] κ0 w0 κ w [.box b111 25 [sl p55 (y164).length c56, sl p57 ((x54.1.Maps.getD 0 zm_api_Map).Nodes).length c58], .box b106 25 [sl p55 (y164).length c56, sl p57 ((x54.1.Maps.getD 0 zm_api_Map).Nodes).length c58, sl p75 ((x74.Maps.getD 0 zm_api_Map).Cuts).length c76, sl p77 ((x74.Maps.getD 0 zm_api_Map).Nodes).length c78], .box b91 56 [si x74.Pool, si x74.Nodes, eb 4 x74.Members, sl p75 ((x74.Maps.getD 0 zm_api_Map).Cuts).length c76, sl p77 ((x74.Maps.getD 0 zm_api_Map).Nodes).length c78, sl p79 ((x74.Maps.getD 1 zm_api_Map).Cuts).length c80, sl p81 ((x74.Maps.getD 1 zm_api_Map).Nodes).length c82, sl p83 ((x74.Maps.getD 2 zm_api_Map).Cuts).length c84, sl p85 ((x74.Maps.getD 2 zm_api_Map).Nodes).length c86, sl p87 ((x74.Maps.getD 3 zm_api_Map).Cuts).length c88, sl p89 ((x74.Maps.getD 3 zm_api_Map).Nodes).length c90, ei 21 x74.Modes], .box b72 56 [si x54.1.Pool, si x54.1.Nodes, eb 4 x54.1.Members, sl p55 (y164).length c56, sl p57 ((x54.1.Maps.getD 0 zm_api_Map).Nodes).length c58, sl p59 ((x54.1.Maps.getD 1 zm_api_Map).Cuts).length c60, sl p61 ((x54.1.Maps.getD 1 zm_api_Map).Nodes).length c62, sl p63 ((x54.1.Maps.getD 2 zm_api_Map).Cuts).length c64, sl p65 ((x54.1.Maps.getD 2 zm_api_Map).Nodes).length c66, sl p67 ((x54.1.Maps.getD 3 zm_api_Map).Cuts).length c68, sl p69 ((x54.1.Maps.getD 3 zm_api_Map).Nodes).length c70, ei 21 x54.1.Modes], .box b52 60 [si x50.Pool, si x50.Nodes, eb 4 x50.Members, (8, cs51), ei 21 x50.Modes], .box b25 56 [si a1.Pool, si a1.Nodes, eb 4 a1.Members, sl p8 ((a1.Maps.getD 0 zm_api_Map).Cuts).length c9, sl p10 ((a1.Maps.getD 0 zm_api_Map).Nodes).length c11, sl p12 ((a1.Maps.getD 1 zm_api_Map).Cuts).length c13, sl p14 ((a1.Maps.getD 1 zm_api_Map).Nodes).length c15, sl p16 ((a1.Maps.getD 2 zm_api_Map).Cuts).length c17, sl p18 ((a1.Maps.getD 2 zm_api_Map).Nodes).length c19, sl p20 ((a1.Maps.getD 3 zm_api_Map).Cuts).length c21, sl p22 ((a1.Maps.getD 3 zm_api_Map).Nodes).length c23, ei 21 a1.Modes], .tok p55 9 1 (y164).length c56, .tok p75 9 1 ((x74.Maps.getD 0 zm_api_Map).Cuts).length c76, .tok p77 3 1 ((x74.Maps.getD 0 zm_api_Map).Nodes).length c78, .tok p79 9 1 ((x74.Maps.getD 1 zm_api_Map).Cuts).length c80, .tok p81 3 1 ((x74.Maps.getD 1 zm_api_Map).Nodes).length c82, .tok p83 9 1 ((x74.Maps.getD 2 zm_api_Map).Cuts).length c84, .tok p85 3 1 ((x74.Maps.getD 2 zm_api_Map).Nodes).length c86, .tok p87 9 1 ((x74.Maps.getD 3 zm_api_Map).Cuts).length c88, .tok p89 3 1 ((x74.Maps.getD 3 zm_api_Map).Nodes).length c90, .tok p57 3 1 ((x54.1.Maps.getD 0 zm_api_Map).Nodes).length c58, .tok p59 9 1 ((x54.1.Maps.getD 1 zm_api_Map).Cuts).length c60, .tok p61 3 1 ((x54.1.Maps.getD 1 zm_api_Map).Nodes).length c62, .tok p63 9 1 ((x54.1.Maps.getD 2 zm_api_Map).Cuts).length c64, .tok p65 3 1 ((x54.1.Maps.getD 2 zm_api_Map).Nodes).length c66, .tok p67 9 1 ((x54.1.Maps.getD 3 zm_api_Map).Cuts).length c68, .tok p69 3 1 ((x54.1.Maps.getD 3 zm_api_Map).Nodes).length c70] [Ro.mp fStr.ty p55 c56 y164, Ro.mp (fInt .i64).ty p57 c58 ((x54.1.Maps.getD 0 zm_api_Map).Nodes), Ro.mp fStr.ty p75 c76 ((x74.Maps.getD 0 zm_api_Map).Cuts), Ro.mp (fInt .i64).ty p77 c78 ((x74.Maps.getD 0 zm_api_Map).Nodes), ml x74.Members 4, Ro.mp fStr.ty p79 c80 ((x74.Maps.getD 1 zm_api_Map).Cuts), Ro.mp (fInt .i64).ty p81 c82 ((x74.Maps.getD 1 zm_api_Map).Nodes), Ro.mp fStr.ty p83 c84 ((x74.Maps.getD 2 zm_api_Map).Cuts), Ro.mp (fInt .i64).ty p85 c86 ((x74.Maps.getD 2 zm_api_Map).Nodes), Ro.mp fStr.ty p87 c88 ((x74.Maps.getD 3 zm_api_Map).Cuts), Ro.mp (fInt .i64).ty p89 c90 ((x74.Maps.getD 3 zm_api_Map).Nodes), ml x74.Modes 21, ml x54.1.Members 4, Ro.mp fStr.ty p59 c60 ((x54.1.Maps.getD 1 zm_api_Map).Cuts), Ro.mp (fInt .i64).ty p61 c62 ((x54.1.Maps.getD 1 zm_api_Map).Nodes), Ro.mp fStr.ty p63 c64 ((x54.1.Maps.getD 2 zm_api_Map).Cuts), Ro.mp (fInt .i64).ty p65 c66 ((x54.1.Maps.getD 2 zm_api_Map).Nodes), Ro.mp fStr.ty p67 c68 ((x54.1.Maps.getD 3 zm_api_Map).Cuts), Ro.mp (fInt .i64).ty p69 c70 ((x54.1.Maps.getD 3 zm_api_Map).Nodes), ml x54.1.Modes 21, ml x50.Members 4, Arr.mp t_api_Map cs51 4 x50.Maps, ml x50.Modes 21, ml a1.Members 4, Ro.mp fStr.ty p8 c9 ((a1.Maps.getD 0 zm_api_Map).Cuts), Ro.mp (fInt .i64).ty p10 c11 ((a1.Maps.getD 0 zm_api_Map).Nodes), Ro.mp fStr.ty p12 c13 ((a1.Maps.getD 1 zm_api_Map).Cuts), Ro.mp (fInt .i64).ty p14 c15 ((a1.Maps.getD 1 zm_api_Map).Nodes), Ro.mp fStr.ty p16 c17 ((a1.Maps.getD 2 zm_api_Map).Cuts), Ro.mp (fInt .i64).ty p18 c19 ((a1.Maps.getD 2 zm_api_Map).Nodes), Ro.mp fStr.ty p20 c21 ((a1.Maps.getD 3 zm_api_Map).Cuts), Ro.mp (fInt .i64).ty p22 c23 ((a1.Maps.getD 3 zm_api_Map).Nodes), ml a1.Modes 21, MP.since κ71 w71, MP.old p55 w71, MP.old p57 w71, MP.old p75 w71, MP.old p77 w71, MP.old p79 w71, MP.old p81 w71, MP.old p83 w71, MP.old p85 w71, MP.old p87 w71, MP.old p89 w71, MP.old p59 w71, MP.old p61 w71, MP.old p63 w71, MP.old p65 w71, MP.old p67 w71, MP.old p69 w71] ∧ M.law18_ConfigOwns_x_L1 N n a1 x50 x54 x74 y164 y165 = some r) ?_ ?_
 exact ⟨_, (x54.1.Maps.getD 0 zm_api_Map).Cuts, 0, hF.kp [2, 5, 6, 8, 11, 33, 44, 45, 46, 52, 53], hS.sp [0, 1, 2, 11, 20, 30, 12, 3, 4, 5, 6, 7, 8, 9, 10, 13, 14, 15, 16, 17, 18, 19] [31, 32, 13, 14, 12, 15, 16, 17, 18, 19, 20, 21, 30, 33, 34, 35, 36, 37, 38, 39, 43, 44, 45, 67, 64, 65, 62, 63, 60, 61, 58, 59, 68, 40, 29, 28, 11, 10, 9, 8, 7, 6, 5, 4, 27, 26, 25, 24, 23, 22], H⟩
 rintro n a w ⟨κ, y164, y165, hF, hS, H⟩
 rcases n with _ | fuel1
 simp [M.law18_ConfigOwns_x_L1] at H
 simp only [M.law18_ConfigOwns_x_L1] at H
 refine wpIn_seq_k fun K166 hK166 => ?_
 refine wpIn_region_lit ?_
 refine wp 1 [2, 5, 6, 8, 11, 33, 44, 45, 46, 52, 53, 54] hF fun a hF => ?_
 refine wpListIn_nil ?_
 refine hK166 _ _ ?_
 refine wpIn_seq_k fun K167 hK167 => ?_
 refine bif_split H (fun hb H => ?_) (fun hb H => ?_)
 refine cond_t hF (by kernel_rfl) hb ?_
 refine wpIn_skip ?_
 refine hK167 _ _ ?_
 refine wpIn_seq_k fun K168 hK168 => ?_
 refine wpIn_block ?_
 refine wpIn_seq_k fun K169 hK169 => ?_
 refine wpIn_region_lit ?_
 refine wp 2 [2, 5, 6, 8, 11, 12, 33, 44, 45, 46, 52, 53] hF fun a hF => ?_
 refine wpListIn_nil ?_
 refine hK169 _ _ ?_
 refine rgS hS [10] ?_
 have hS := hS.drew
 refine any_pure [0, 2, 3, 5] [2, 5, 6, 8, 11, 33, 44, 45, 46, 52, 53, 56, 58, 59, 61] (L' := [(2, pt b25 0), (5, pt b52 0), (6, pt b72 0), (8, pt b91 0), (11, pt b111 0), (33, vi 0), (44, .slice (some ⟨b106, 0, none⟩) 2 2), (45, vi 2), (46, vi 0), (52, vi (((x54.1.Maps.getD 0 zm_api_Map).Cuts).length : Int)), (53, vi y165), (56, pt b111 0), (58, vi y165), (59, pt b111 0), (61, vi y165)]) (listed' := (bitA 11 45)) (fuel := 7) hF (hS.sx (rg 6) (rg 50)) (by kernel_rfl) (by intro c a w t v h; cases t <;> exact h) (by kernel_rfl) rfl fun a hF => ?_
 refine atk 1 (some 57) hF (hS.sx (rg 6) (rg 50)) rfl (vld 0 0 0) fun a hF => ?_
 refine atk 4 (some 60) hF (hS.sx (rg 6) (rg 50)) rfl (vld 0 0 0) fun a hF => ?_
 refine bind_split H (fun x170 hx170 H => ?_)
 obtain ⟨b171, f172, hpx170⟩ := hS.ptr 0 rfl hx170
 refine atk 6 (some 62) hF (hS.sx (rg 6) (rg 50)) rfl (fun w _ => val_index (E := 9) (sz := 1) rfl hpx170 rfl (by kernel_rfl) rfl hx170 (by kernel_rfl) (by kernel_rfl) w) fun a hF => ?_
 refine atk 7 (some 63) hF (hS.sx (rg 6) (rg 50)) rfl (val_loadRo (t := fStr) 0 0 (v := .string (x170)) rfl rfl hpx170 rfl hx170 (by kernel_rfl) (by kernel_rfl) (by kernel_rfl)) fun a hF => ?_
 refine ago 8 hF rfl ?_
 refine bind_split H (fun x173 hx173 H => ?_)
 refine wo_callP hF hS (by kernel_rfl) (by kernel_rfl) (C_law18_other N hS.fresh x170  ((hS.pick [] (by kernel_rfl)).ro) hx173) ?_
 rintro _ κ w a ⟨rfl, hR, hN⟩ hF hS hO
 refine ⟨fun _ => (hS.sx (rg 6) (rg 50)), ?_⟩
 refine bind_split H (fun x174 hx174 H => ?_)
 obtain ⟨b175, f176, hpx174⟩ := hS.ptr 0 rfl hx174
 refine atk 9 (some 65) hF (hS.sx (rg 6) (rg 50)) rfl (fun w _ => val_index (E := 9) (sz := 1) rfl hpx174 rfl (by kernel_rfl) rfl hx174 (by kernel_rfl) (by kernel_rfl) w) fun a hF => ?_
 refine ago 10 hF rfl ?_
 refine wo_storeTokS (t := fStr) (y := x174) (z := x173) (v := .string (x173)) (vs := (flat [sg x173])) (sz := 1) hF hS hfr hf71 hw71 hR71 (by kernel_rfl) 6 0 33 34 0 rfl rfl (by kernel_rfl) rfl rfl rfl hpx174 hx174 rfl (by kernel_rfl) (by kernel_rfl) rfl (show segGood [sg x173] from (sgN 1 sgNil)).2 rfl (by decide) rfl rfl (nfC nfB (nfC nfB (nfC nfB (nfC nfB (nfC nfB (nfC nfB (nfC nfT (nfC nfT (nfC nfT (nfC nfT (nfC nfT (nfC nfT (nfC nfT (nfC nfT (nfC nfT (nfC nfT (nfC nfT (nfC nfT (nfC nfT (nfC nfT (nfC nfT (nfC nfT nfN)))))))))))))))))))))) [2, 3, 4, 26, 23, 24, 21, 22, 19, 20, 17, 18, 27] [1, 2, 3, 4, 5, 6, 7, 8, 9, 10, 11, 12, 13, 14, 15, 16, 17, 18, 19, 34, 35, 36, 37, 38, 39, 40, 41, 42, 43, 44, 45, 46, 47, 48, 49] (Ra := [ml x50.Members 4, Arr.mp t_api_Map cs51 4 x50.Maps, ml x50.Modes 21, ml a1.Members 4, Ro.mp fStr.ty p8 c9 ((a1.Maps.getD 0 zm_api_Map).Cuts), Ro.mp (fInt .i64).ty p10 c11 ((a1.Maps.getD 0 zm_api_Map).Nodes), Ro.mp fStr.ty p12 c13 ((a1.Maps.getD 1 zm_api_Map).Cuts), Ro.mp (fInt .i64).ty p14 c15 ((a1.Maps.getD 1 zm_api_Map).Nodes), Ro.mp fStr.ty p16 c17 ((a1.Maps.getD 2 zm_api_Map).Cuts), Ro.mp (fInt .i64).ty p18 c19 ((a1.Maps.getD 2 zm_api_Map).Nodes), Ro.mp fStr.ty p20 c21 ((a1.Maps.getD 3 zm_api_Map).Cuts), Ro.mp (fInt .i64).ty p22 c23 ((a1.Maps.getD 3 zm_api_Map).Nodes), ml a1.Modes 21]) (Rb := [Ro.mp (fInt .i64).ty p57 c58 ((x54.1.Maps.getD 0 zm_api_Map).Nodes), Ro.mp fStr.ty p75 c76 ((x74.Maps.getD 0 zm_api_Map).Cuts), Ro.mp (fInt .i64).ty p77 c78 ((x74.Maps.getD 0 zm_api_Map).Nodes), ml x74.Members 4, Ro.mp fStr.ty p79 c80 ((x74.Maps.getD 1 zm_api_Map).Cuts), Ro.mp (fInt .i64).ty p81 c82 ((x74.Maps.getD 1 zm_api_Map).Nodes), Ro.mp fStr.ty p83 c84 ((x74.Maps.getD 2 zm_api_Map).Cuts), Ro.mp (fInt .i64).ty p85 c86 ((x74.Maps.getD 2 zm_api_Map).Nodes), Ro.mp fStr.ty p87 c88 ((x74.Maps.getD 3 zm_api_Map).Cuts), Ro.mp (fInt .i64).ty p89 c90 ((x74.Maps.getD 3 zm_api_Map).Nodes), ml x74.Modes 21, ml x54.1.Members 4, Ro.mp fStr.ty p59 c60 ((x54.1.Maps.getD 1 zm_api_Map).Cuts), Ro.mp (fInt .i64).ty p61 c62 ((x54.1.Maps.getD 1 zm_api_Map).Nodes), Ro.mp fStr.ty p63 c64 ((x54.1.Maps.getD 2 zm_api_Map).Cuts), Ro.mp (fInt .i64).ty p65 c66 ((x54.1.Maps.getD 2 zm_api_Map).Nodes), Ro.mp fStr.ty p67 c68 ((x54.1.Maps.getD 3 zm_api_Map).Cuts), Ro.mp (fInt .i64).ty p69 c70 ((x54.1.Maps.getD 3 zm_api_Map).Nodes), ml x54.1.Modes 21, MP.old p55 w71, MP.old p57 w71, MP.old p75 w71, MP.old p77 w71, MP.old p79 w71, MP.old p81 w71, MP.old p83 w71, MP.old p85 w71, MP.old p87 w71, MP.old p89 w71, MP.old p59 w71, MP.old p61 w71, MP.old p63 w71, MP.old p65 w71, MP.old p67 w71, MP.old p69 w71]) rfl rfl (aC (apart_ro (hS.tokApart 6 15 hpx174 rfl rfl (by decide))) (aC (apart_ro (hS.tokApart 6 7 hpx174 rfl rfl (by decide))) (aC (apart_ro (hS.tokApart 6 8 hpx174 rfl rfl (by decide))) (aK (aC (apart_ro (hS.tokApart 6 9 hpx174 rfl rfl (by decide))) (aC (apart_ro (hS.tokApart 6 10 hpx174 rfl rfl (by decide))) (aC (apart_ro (hS.tokApart 6 11 hpx174 rfl rfl (by decide))) (aC (apart_ro (hS.tokApart 6 12 hpx174 rfl rfl (by decide))) (aC (apart_ro (hS.tokApart 6 13 hpx174 rfl rfl (by decide))) (aC (apart_ro (hS.tokApart 6 14 hpx174 rfl rfl (by decide))) (aK (aK (aC (apart_ro (hS.tokApart 6 16 hpx174 rfl rfl (by decide))) (aC (apart_ro (hS.tokApart 6 17 hpx174 rfl rfl (by decide))) (aC (apart_ro (hS.tokApart 6 18 hpx174 rfl rfl (by decide))) (aC (apart_ro (hS.tokApart 6 19 hpx174 rfl rfl (by decide))) (aC (apart_ro (hS.tokApart 6 20 hpx174 rfl rfl (by decide))) (aC (apart_ro (hS.tokApart 6 21 hpx174 rfl rfl (by decide))) (aK (aK (aK (aK (aK (aK (aK (aK (aK (aK (aK (aK (aK (aK (aK (aK (aK aN))))))))))))))))))))))))))))))))))) (Cf := (fun nn => [.box b111 25 [sl p55 nn c56, sl p57 ((x54.1.Maps.getD 0 zm_api_Map).Nodes).length c58], .box b106 25 [sl p55 nn c56, sl p57 ((x54.1.Maps.getD 0 zm_api_Map).Nodes).length c58, sl p75 ((x74.Maps.getD 0 zm_api_Map).Cuts).length c76, sl p77 ((x74.Maps.getD 0 zm_api_Map).Nodes).length c78], .box b91 56 [si x74.Pool, si x74.Nodes, eb 4 x74.Members, sl p75 ((x74.Maps.getD 0 zm_api_Map).Cuts).length c76, sl p77 ((x74.Maps.getD 0 zm_api_Map).Nodes).length c78, sl p79 ((x74.Maps.getD 1 zm_api_Map).Cuts).length c80, sl p81 ((x74.Maps.getD 1 zm_api_Map).Nodes).length c82, sl p83 ((x74.Maps.getD 2 zm_api_Map).Cuts).length c84, sl p85 ((x74.Maps.getD 2 zm_api_Map).Nodes).length c86, sl p87 ((x74.Maps.getD 3 zm_api_Map).Cuts).length c88, sl p89 ((x74.Maps.getD 3 zm_api_Map).Nodes).length c90, ei 21 x74.Modes], .box b72 56 [si x54.1.Pool, si x54.1.Nodes, eb 4 x54.1.Members, sl p55 nn c56, sl p57 ((x54.1.Maps.getD 0 zm_api_Map).Nodes).length c58, sl p59 ((x54.1.Maps.getD 1 zm_api_Map).Cuts).length c60, sl p61 ((x54.1.Maps.getD 1 zm_api_Map).Nodes).length c62, sl p63 ((x54.1.Maps.getD 2 zm_api_Map).Cuts).length c64, sl p65 ((x54.1.Maps.getD 2 zm_api_Map).Nodes).length c66, sl p67 ((x54.1.Maps.getD 3 zm_api_Map).Cuts).length c68, sl p69 ((x54.1.Maps.getD 3 zm_api_Map).Nodes).length c70, ei 21 x54.1.Modes], .box b52 60 [si x50.Pool, si x50.Nodes, eb 4 x50.Members, (8, cs51), ei 21 x50.Modes], .box b25 56 [si a1.Pool, si a1.Nodes, eb 4 a1.Members, sl p8 ((a1.Maps.getD 0 zm_api_Map).Cuts).length c9, sl p10 ((a1.Maps.getD 0 zm_api_Map).Nodes).length c11, sl p12 ((a1.Maps.getD 1 zm_api_Map).Cuts).length c13, sl p14 ((a1.Maps.getD 1 zm_api_Map).Nodes).length c15, sl p16 ((a1.Maps.getD 2 zm_api_Map).Cuts).length c17, sl p18 ((a1.Maps.getD 2 zm_api_Map).Nodes).length c19, sl p20 ((a1.Maps.getD 3 zm_api_Map).Cuts).length c21, sl p22 ((a1.Maps.getD 3 zm_api_Map).Nodes).length c23, ei 21 a1.Modes], .tok p55 9 1 nn c56, .tok p75 9 1 ((x74.Maps.getD 0 zm_api_Map).Cuts).length c76, .tok p77 3 1 ((x74.Maps.getD 0 zm_api_Map).Nodes).length c78, .tok p79 9 1 ((x74.Maps.getD 1 zm_api_Map).Cuts).length c80, .tok p81 3 1 ((x74.Maps.getD 1 zm_api_Map).Nodes).length c82, .tok p83 9 1 ((x74.Maps.getD 2 zm_api_Map).Cuts).length c84, .tok p85 3 1 ((x74.Maps.getD 2 zm_api_Map).Nodes).length c86, .tok p87 9 1 ((x74.Maps.getD 3 zm_api_Map).Cuts).length c88, .tok p89 3 1 ((x74.Maps.getD 3 zm_api_Map).Nodes).length c90, .tok p57 3 1 ((x54.1.Maps.getD 0 zm_api_Map).Nodes).length c58, .tok p59 9 1 ((x54.1.Maps.getD 1 zm_api_Map).Cuts).length c60, .tok p61 3 1 ((x54.1.Maps.getD 1 zm_api_Map).Nodes).length c62, .tok p63 9 1 ((x54.1.Maps.getD 2 zm_api_Map).Cuts).length c64, .tok p65 3 1 ((x54.1.Maps.getD 2 zm_api_Map).Nodes).length c66, .tok p67 9 1 ((x54.1.Maps.getD 3 zm_api_Map).Cuts).length c68, .tok p69 3 1 ((x54.1.Maps.getD 3 zm_api_Map).Nodes).length c70])) (Lf := (fun nn => [(2, pt b25 0), (5, pt b52 0), (6, pt b72 0), (8, pt b91 0), (11, pt b111 0), (33, vi 0), (44, .slice (some ⟨b106, 0, none⟩) 2 2), (45, vi 2), (46, vi 0), (52, vi (((x54.1.Maps.getD 0 zm_api_Map).Cuts).length : Int)), (53, vi y165), (56, pt b111 0), (57, .slice p55 nn c56), (58, vi y165), (59, pt b111 0), (60, .slice p55 nn c56), (61, vi y165), (62, .pointer (some ⟨b171, (f172 + Int.toNat y165 * 1), none⟩)), (63, .string (x170)), (64, .string (x173)), (65, .pointer (some ⟨b175, (f176 + Int.toNat y165 * 1), none⟩))])) [2, 5, 6, 8, 11, 33, 44, 45, 46, 52, 53, 56, 57, 58, 59, 60, 61, 62, 63, 64, 65] rfl (by kernel_rfl) fun a w hF hS => ?_
 refine ⟨notE, ?_⟩
 refine and_ ?_
 refine hK168 _ _ ?_
 refine wpIn_region_lit ?_
 refine wp 2 [2, 5, 6, 8, 11, 33, 44, 45, 46, 52, 53] hF fun a hF => ?_
 refine wpListIn_nil ?_
 exact ⟨fuel1, Nat.lt_succ_self _, _, (List.set y164 (Int.toNat y165) x173), IntKind.i64.wrap (y165 + 1), hF.kp [2, 5, 6, 8, 11, 33, 44, 45, 46, 52, 53], hS.sp (rg 22) [0, 15, 16, 17, 18, 19, 20, 21, 22, 23, 24, 25, 26, 27, 28, 29, 30, 31, 32, 33, 2, 3, 4, 5, 6, 7, 8, 9, 10, 11, 12, 13, 14, 1, 34, 35, 36, 37, 38, 39, 40, 41, 42, 43, 44, 45, 46, 47, 48, 49], H⟩
 refine cond_f hF (by kernel_rfl) hb ?_
 refine wpIn_exit ?_
 refine hK112 _ _ ?_
 refine wpIn_seq_k fun K177 hK177 => ?_
 refine wpIn_region_lit ?_
 refine wp 1 [2, 5, 6, 8, 11, 33, 44, 45, 46, 67] hF fun a hF => ?_
 refine wc (wld hF hS 0 1 0 fun a hF => ?_)
 refine wp 2 [2, 5, 6, 8, 11, 33, 44, 45, 46, 69, 70] hF fun a hF => ?_
 refine wpListIn_nil ?_
 refine hK177 _ _ ?_
 refine wpIn_block ?_
 refine loop_fuel (n := N) (fun n a w => ∃ (κ : Gh) (y228 : List Int) (y229 : Int), Fr (89) [] [(2, pt b25 0), (5, pt b52 0), (6, pt b72 0), (8, pt b91 0), (11, pt b111 0), (33, vi 0), (44, .slice (some ⟨b106, 0, none⟩) 2 2), (45, vi 2), (46, vi 0), (69, vi (((x54.1.Maps.getD 0 zm_api_Map).Nodes).length : Int)), (70, vi y229)] a ∧ SS [] κ0 w0 κ w [.box b111 25 [sl p55 (y164).length c56, sl p57 (y228).length c58], .box b106 25 [sl p55 (y164).length c56, sl p57 (y228).length c58, sl p75 ((x74.Maps.getD 0 zm_api_Map).Cuts).length c76, sl p77 ((x74.Maps.getD 0 zm_api_Map).Nodes).length c78], .box b91 56 [si x74.Pool, si x74.Nodes, eb 4 x74.Members, sl p75 ((x74.Maps.getD 0 zm_api_Map).Cuts).length c76, sl p77 ((x74.Maps.getD 0 zm_api_Map).Nodes).length c78, sl p79 ((x74.Maps.getD 1 zm_api_Map).Cuts).length c80, sl p81 ((x74.Maps.getD 1 zm_api_Map).Nodes).length c82, sl p83 ((x74.Maps.getD 2 zm_api_Map).Cuts).length c84, sl p85 ((x74.Maps.getD 2 zm_api_Map).Nodes).length c86, sl p87 ((x74.Maps.getD 3 zm_api_Map).Cuts).length c88, sl p89 ((x74.Maps.getD 3 zm_api_Map).Nodes).length c90, ei 21 x74.Modes], .box b72 56 [si x54.1.Pool, si x54.1.Nodes, eb 4 x54.1.Members, sl p55 (y164).length c56, sl p57 (y228).length c58, sl p59 ((x54.1.Maps.getD 1 zm_api_Map).Cuts).length c60, sl p61 ((x54.1.Maps.getD 1 zm_api_Map).Nodes).length c62, sl p63 ((x54.1.Maps.getD 2 zm_api_Map).Cuts).length c64, sl p65 ((x54.1.Maps.getD 2 zm_api_Map).Nodes).length c66, sl p67 ((x54.1.Maps.getD 3 zm_api_Map).Cuts).length c68, sl p69 ((x54.1.Maps.getD 3 zm_api_Map).Nodes).length c70, ei 21 x54.1.Modes], .box b52 60 [si x50.Pool, si x50.Nodes, eb 4 x50.Members, (8, cs51), ei 21 x50.Modes], .box b25 56 [si a1.Pool, si a1.Nodes, eb 4 a1.Members, sl p8 ((a1.Maps.getD 0 zm_api_Map).Cuts).length c9, sl p10 ((a1.Maps.getD 0 zm_api_Map).Nodes).length c11, sl p12 ((a1.Maps.getD 1 zm_api_Map).Cuts).length c13, sl p14 ((a1.Maps.getD 1 zm_api_Map).Nodes).length c15, sl p16 ((a1.Maps.getD 2 zm_api_Map).Cuts).length c17, sl p18 ((a1.Maps.getD 2 zm_api_Map).Nodes).length c19, sl p20 ((a1.Maps.getD 3 zm_api_Map).Cuts).length c21, sl p22 ((a1.Maps.getD 3 zm_api_Map).Nodes).length c23, ei 21 a1.Modes], .tok p57 3 1 (y228).length c58, .tok p55 9 1 (y164).length c56, .tok p75 9 1 ((x74.Maps.getD 0 zm_api_Map).Cuts).length c76, .tok p77 3 1 ((x74.Maps.getD 0 zm_api_Map).Nodes).length c78, .tok p79 9 1 ((x74.Maps.getD 1 zm_api_Map).Cuts).length c80, .tok p81 3 1 ((x74.Maps.getD 1 zm_api_Map).Nodes).length c82, .tok p83 9 1 ((x74.Maps.getD 2 zm_api_Map).Cuts).length c84, .tok p85 3 1 ((x74.Maps.getD 2 zm_api_Map).Nodes).length c86, .tok p87 9 1 ((x74.Maps.getD 3 zm_api_Map).Cuts).length c88, .tok p89 3 1 ((x74.Maps.getD 3 zm_api_Map).Nodes).length c90, .tok p59 9 1 ((x54.1.Maps.getD 1 zm_api_Map).Cuts).length c60, .tok p61 3 1 ((x54.1.Maps.getD 1 zm_api_Map).Nodes).length c62, .tok p63 9 1 ((x54.1.Maps.getD 2 zm_api_Map).Cuts).length c64, .tok p65 3 1 ((x54.1.Maps.getD 2 zm_api_Map).Nodes).length c66, .tok p67 9 1 ((x54.1.Maps.getD 3 zm_api_Map).Cuts).length c68, .tok p69 3 1 ((x54.1.Maps.getD 3 zm_api_Map).Nodes).length c70] [Ro.mp fStr.ty p55 c56 y164, Ro.mp (fInt .i64).ty p57 c58 y228, Ro.mp fStr.ty p75 c76 ((x74.Maps.getD 0 zm_api_Map).Cuts), Ro.mp (fInt .i64).ty p77 c78 ((x74.Maps.getD 0 zm_api_Map).Nodes), ml x74.Members 4, Ro.mp fStr.ty p79 c80 ((x74.Maps.getD 1 zm_api_Map).Cuts), Ro.mp (fInt .i64).ty p81 c82 ((x74.Maps.getD 1 zm_api_Map).Nodes), Ro.mp fStr.ty p83 c84 ((x74.Maps.getD 2 zm_api_Map).Cuts), Ro.mp (fInt .i64).ty p85 c86 ((x74.Maps.getD 2 zm_api_Map).Nodes), Ro.mp fStr.ty p87 c88 ((x74.Maps.getD 3 zm_api_Map).Cuts), Ro.mp (fInt .i64).ty p89 c90 ((x74.Maps.getD 3 zm_api_Map).Nodes), ml x74.Modes 21, ml x54.1.Members 4, Ro.mp fStr.ty p59 c60 ((x54.1.Maps.getD 1 zm_api_Map).Cuts), Ro.mp (fInt .i64).ty p61 c62 ((x54.1.Maps.getD 1 zm_api_Map).Nodes), Ro.mp fStr.ty p63 c64 ((x54.1.Maps.getD 2 zm_api_Map).Cuts), Ro.mp (fInt .i64).ty p65 c66 ((x54.1.Maps.getD 2 zm_api_Map).Nodes), Ro.mp fStr.ty p67 c68 ((x54.1.Maps.getD 3 zm_api_Map).Cuts), Ro.mp (fInt .i64).ty p69 c70 ((x54.1.Maps.getD 3 zm_api_Map).Nodes), ml x54.1.Modes 21, ml x50.Members 4, Arr.mp t_api_Map cs51 4 x50.Maps, ml x50.Modes 21, ml a1.Members 4, Ro.mp fStr.ty p8 c9 ((a1.Maps.getD 0 zm_api_Map).Cuts), Ro.mp (fInt .i64).ty p10 c11 ((a1.Maps.getD 0 zm_api_Map).Nodes), Ro.mp fStr.ty p12 c13 ((a1.Maps.getD 1 zm_api_Map).Cuts), Ro.mp (fInt .i64).ty p14 c15 ((a1.Maps.getD 1 zm_api_Map).Nodes), Ro.mp fStr.ty p16 c17 ((a1.Maps.getD 2 zm_api_Map).Cuts), Ro.mp (fInt .i64).ty p18 c19 ((a1.Maps.getD 2 zm_api_Map).Nodes), Ro.mp fStr.ty p20 c21 ((a1.Maps.getD 3 zm_api_Map).Cuts), Ro.mp (fInt .i64).ty p22 c23 ((a1.Maps.getD 3 zm_api_Map).Nodes), ml a1.Modes 21, MP.since κ71 w71, MP.old p55 w71, MP.old p57 w71, MP.old p75 w71, MP.old p77 w71, MP.old p79 w71, MP.old p81 w71, MP.old p83 w71, MP.old p85 w71, MP.old p87 w71, MP.old p89 w71, MP.old p59 w71, MP.old p61 w71, MP.old p63 w71, MP.old p65 w71, MP.old p67 w71, MP.old p69 w71] ∧ M.law18_ConfigOwns_x_L2 N n a1 x50 x54 x74 y164 y228 y229 = some r) ?_ ?_
 exact ⟨_, (x54.1.Maps.getD 0 zm_api_Map).Nodes, 0, hF.kp [2, 5, 6, 8, 11, 33, 44, 45, 46, 69, 70], hS.sp [0, 1, 2, 3, 4, 5, 15, 6, 7, 8, 9, 10, 11, 12, 13, 14, 16, 17, 18, 19, 20, 21] (rg 50), H⟩
 rintro n a w ⟨κ, y228, y229, hF, hS, H⟩
 rcases n with _ | fuel2
 simp [M.law18_ConfigOwns_x_L2] at H
 simp only [M.law18_ConfigOwns_x_L2] at H
 refine wpIn_seq_k fun K230 hK230 => ?_
 refine wpIn_region_lit ?_
 refine wp 1 [2, 5, 6, 8, 11, 33, 44, 45, 46, 69, 70, 71] hF fun a hF => ?_
 refine wpListIn_nil ?_
 refine hK230 _ _ ?_
 refine wpIn_seq_k fun K231 hK231 => ?_
 refine bif_split H (fun hb H => ?_) (fun hb H => ?_)
 refine cond_t hF (by kernel_rfl) hb ?_
 refine wpIn_skip ?_
 refine hK231 _ _ ?_
 refine wpIn_seq_k fun K232 hK232 => ?_
 refine wpIn_block ?_
 refine wpIn_seq_k fun K233 hK233 => ?_
 refine wpIn_region_lit ?_
 refine wp 2 [2, 5, 6, 8, 11, 13, 33, 44, 45, 46, 69, 70] hF fun a hF => ?_
 refine wpListIn_nil ?_
 refine hK233 _ _ ?_
 refine wpIn_region_lit ?_
 refine wp 1 [2, 5, 6, 8, 11, 13, 33, 44, 45, 46, 69, 70, 73] hF fun a hF => ?_
 refine wc (wld hF hS 0 1 0 fun a hF => ?_)
 refine wl_pure (L' := [(2, pt b25 0), (5, pt b52 0), (6, pt b72 0), (8, pt b91 0), (11, pt b111 0), (33, vi 0), (44, .slice (some ⟨b106, 0, none⟩) 2 2), (45, vi 2), (46, vi 0), (69, vi (((x54.1.Maps.getD 0 zm_api_Map).Nodes).length : Int)), (70, vi y229), (74, .slice p57 (y228).length c58), (75, vi y229)]) 1 [2, 5, 6, 8, 11, 33, 44, 45, 46, 69, 70, 74, 75] hF (by kernel_rfl) fun a hF => ?_
 refine bind_split H (fun x234 hx234 H => ?_)
 refine wc (wo_index hF hS (by kernel_rfl) 1 (E := 3) (sz := 1) rfl rfl rfl (by kernel_rfl) rfl hx234 (by kernel_rfl) (by kernel_rfl) fun b235 f236 a hpx234 hF => ?_)
 refine wc (wo_loadRo (t := (fInt .i64)) hF hS (by kernel_rfl) 1 0 (v := vi x234) rfl rfl hpx234 rfl hx234 (by kernel_rfl) (by kernel_rfl) (by kernel_rfl) fun a hF => ?_)
 refine wl_pure (L' := [(2, pt b25 0), (5, pt b52 0), (6, pt b72 0), (8, pt b91 0), (11, pt b111 0), (33, vi 0), (44, .slice (some ⟨b106, 0, none⟩) 2 2), (45, vi 2), (46, vi 0), (69, vi (((x54.1.Maps.getD 0 zm_api_Map).Nodes).length : Int)), (70, vi y229), (74, .slice p57 (y228).length c58), (75, vi y229), (78, vi (IntKind.i64.wrap (x234 + 1)))]) 1 [2, 5, 6, 8, 11, 33, 44, 45, 46, 69, 70, 74, 75, 78] hF (by kernel_rfl) fun a hF => ?_
 refine bind_split H (fun x237 hx237 H => ?_)
 refine wc (wo_index hF hS (by kernel_rfl) 1 (E := 3) (sz := 1) rfl rfl rfl (by kernel_rfl) rfl hx237 (by kernel_rfl) (by kernel_rfl) fun b238 f239 a hpx237 hF => ?_)
 refine wc (wo_storeTokS (t := (fInt .i64)) (y := x237) (z := IntKind.i64.wrap (x234 + 1)) (v := vi (IntKind.i64.wrap (x234 + 1))) (vs := (flat [si (IntKind.i64.wrap (x234 + 1))])) (sz := 1) hF hS hfr hf71 hw71 hR71 (by kernel_rfl) 6 1 33 35 0 rfl rfl (by kernel_rfl) rfl rfl rfl hpx237 hx237 rfl (by kernel_rfl) (by kernel_rfl) rfl (show segGood [si (IntKind.i64.wrap (x234 + 1))] from (sgN 1 sgNil)).2 rfl (by decide) rfl rfl (nfC nfB (nfC nfB (nfC nfB (nfC nfB (nfC nfB (nfC nfB (nfC nfT (nfC nfT (nfC nfT (nfC nfT (nfC nfT (nfC nfT (nfC nfT (nfC nfT (nfC nfT (nfC nfT (nfC nfT (nfC nfT (nfC nfT (nfC nfT (nfC nfT (nfC nfT nfN)))))))))))))))))))))) [2, 3, 4, 26, 23, 24, 21, 22, 19, 20, 17, 18, 27] [0, 2, 3, 4, 5, 6, 7, 8, 9, 10, 11, 12, 13, 14, 15, 16, 17, 18, 19, 34, 35, 36, 37, 38, 39, 40, 41, 42, 43, 44, 45, 46, 47, 48, 49] (Ra := [ml x50.Members 4, Arr.mp t_api_Map cs51 4 x50.Maps, ml x50.Modes 21, ml a1.Members 4, Ro.mp fStr.ty p8 c9 ((a1.Maps.getD 0 zm_api_Map).Cuts), Ro.mp (fInt .i64).ty p10 c11 ((a1.Maps.getD 0 zm_api_Map).Nodes), Ro.mp fStr.ty p12 c13 ((a1.Maps.getD 1 zm_api_Map).Cuts), Ro.mp (fInt .i64).ty p14 c15 ((a1.Maps.getD 1 zm_api_Map).Nodes), Ro.mp fStr.ty p16 c17 ((a1.Maps.getD 2 zm_api_Map).Cuts), Ro.mp (fInt .i64).ty p18 c19 ((a1.Maps.getD 2 zm_api_Map).Nodes), Ro.mp fStr.ty p20 c21 ((a1.Maps.getD 3 zm_api_Map).Cuts), Ro.mp (fInt .i64).ty p22 c23 ((a1.Maps.getD 3 zm_api_Map).Nodes), ml a1.Modes 21]) (Rb := [Ro.mp fStr.ty p55 c56 y164, Ro.mp fStr.ty p75 c76 ((x74.Maps.getD 0 zm_api_Map).Cuts), Ro.mp (fInt .i64).ty p77 c78 ((x74.Maps.getD 0 zm_api_Map).Nodes), ml x74.Members 4, Ro.mp fStr.ty p79 c80 ((x74.Maps.getD 1 zm_api_Map).Cuts), Ro.mp (fInt .i64).ty p81 c82 ((x74.Maps.getD 1 zm_api_Map).Nodes), Ro.mp fStr.ty p83 c84 ((x74.Maps.getD 2 zm_api_Map).Cuts), Ro.mp (fInt .i64).ty p85 c86 ((x74.Maps.getD 2 zm_api_Map).Nodes), Ro.mp fStr.ty p87 c88 ((x74.Maps.getD 3 zm_api_Map).Cuts), Ro.mp (fInt .i64).ty p89 c90 ((x74.Maps.getD 3 zm_api_Map).Nodes), ml x74.Modes 21, ml x54.1.Members 4, Ro.mp fStr.ty p59 c60 ((x54.1.Maps.getD 1 zm_api_Map).Cuts), Ro.mp (fInt .i64).ty p61 c62 ((x54.1.Maps.getD 1 zm_api_Map).Nodes), Ro.mp fStr.ty p63 c64 ((x54.1.Maps.getD 2 zm_api_Map).Cuts), Ro.mp (fInt .i64).ty p65 c66 ((x54.1.Maps.getD 2 zm_api_Map).Nodes), Ro.mp fStr.ty p67 c68 ((x54.1.Maps.getD 3 zm_api_Map).Cuts), Ro.mp (fInt .i64).ty p69 c70 ((x54.1.Maps.getD 3 zm_api_Map).Nodes), ml x54.1.Modes 21, MP.old p55 w71, MP.old p57 w71, MP.old p75 w71, MP.old p77 w71, MP.old p79 w71, MP.old p81 w71, MP.old p83 w71, MP.old p85 w71, MP.old p87 w71, MP.old p89 w71, MP.old p59 w71, MP.old p61 w71, MP.old p63 w71, MP.old p65 w71, MP.old p67 w71, MP.old p69 w71]) rfl rfl (aC (apart_ro (hS.tokApart 6 7 hpx237 rfl rfl (by decide))) (aC (apart_ro (hS.tokApart 6 8 hpx237 rfl rfl (by decide))) (aC (apart_ro (hS.tokApart 6 9 hpx237 rfl rfl (by decide))) (aK (aC (apart_ro (hS.tokApart 6 10 hpx237 rfl rfl (by decide))) (aC (apart_ro (hS.tokApart 6 11 hpx237 rfl rfl (by decide))) (aC (apart_ro (hS.tokApart 6 12 hpx237 rfl rfl (by decide))) (aC (apart_ro (hS.tokApart 6 13 hpx237 rfl rfl (by decide))) (aC (apart_ro (hS.tokApart 6 14 hpx237 rfl rfl (by decide))) (aC (apart_ro (hS.tokApart 6 15 hpx237 rfl rfl (by decide))) (aK (aK (aC (apart_ro (hS.tokApart 6 16 hpx237 rfl rfl (by decide))) (aC (apart_ro (hS.tokApart 6 17 hpx237 rfl rfl (by decide))) (aC (apart_ro (hS.tokApart 6 18 hpx237 rfl rfl (by decide))) (aC (apart_ro (hS.tokApart 6 19 hpx237 rfl rfl (by decide))) (aC (apart_ro (hS.tokApart 6 20 hpx237 rfl rfl (by decide))) (aC (apart_ro (hS.tokApart 6 21 hpx237 rfl rfl (by decide))) (aK (aK (aK (aK (aK (aK (aK (aK (aK (aK (aK (aK (aK (aK (aK (aK (aK aN))))))))))))))))))))))))))))))))))) (Cf := (fun nn => [.box b111 25 [sl p55 (y164).length c56, sl p57 nn c58], .box b106 25 [sl p55 (y164).length c56, sl p57 nn c58, sl p75 ((x74.Maps.getD 0 zm_api_Map).Cuts).length c76, sl p77 ((x74.Maps.getD 0 zm_api_Map).Nodes).length c78], .box b91 56 [si x74.Pool, si x74.Nodes, eb 4 x74.Members, sl p75 ((x74.Maps.getD 0 zm_api_Map).Cuts).length c76, sl p77 ((x74.Maps.getD 0 zm_api_Map).Nodes).length c78, sl p79 ((x74.Maps.getD 1 zm_api_Map).Cuts).length c80, sl p81 ((x74.Maps.getD 1 zm_api_Map).Nodes).length c82, sl p83 ((x74.Maps.getD 2 zm_api_Map).Cuts).length c84, sl p85 ((x74.Maps.getD 2 zm_api_Map).Nodes).length c86, sl p87 ((x74.Maps.getD 3 zm_api_Map).Cuts).length c88, sl p89 ((x74.Maps.getD 3 zm_api_Map).Nodes).length c90, ei 21 x74.Modes], .box b72 56 [si x54.1.Pool, si x54.1.Nodes, eb 4 x54.1.Members, sl p55 (y164).length c56, sl p57 nn c58, sl p59 ((x54.1.Maps.getD 1 zm_api_Map).Cuts).length c60, sl p61 ((x54.1.Maps.getD 1 zm_api_Map).Nodes).length c62, sl p63 ((x54.1.Maps.getD 2 zm_api_Map).Cuts).length c64, sl p65 ((x54.1.Maps.getD 2 zm_api_Map).Nodes).length c66, sl p67 ((x54.1.Maps.getD 3 zm_api_Map).Cuts).length c68, sl p69 ((x54.1.Maps.getD 3 zm_api_Map).Nodes).length c70, ei 21 x54.1.Modes], .box b52 60 [si x50.Pool, si x50.Nodes, eb 4 x50.Members, (8, cs51), ei 21 x50.Modes], .box b25 56 [si a1.Pool, si a1.Nodes, eb 4 a1.Members, sl p8 ((a1.Maps.getD 0 zm_api_Map).Cuts).length c9, sl p10 ((a1.Maps.getD 0 zm_api_Map).Nodes).length c11, sl p12 ((a1.Maps.getD 1 zm_api_Map).Cuts).length c13, sl p14 ((a1.Maps.getD 1 zm_api_Map).Nodes).length c15, sl p16 ((a1.Maps.getD 2 zm_api_Map).Cuts).length c17, sl p18 ((a1.Maps.getD 2 zm_api_Map).Nodes).length c19, sl p20 ((a1.Maps.getD 3 zm_api_Map).Cuts).length c21, sl p22 ((a1.Maps.getD 3 zm_api_Map).Nodes).length c23, ei 21 a1.Modes], .tok p57 3 1 nn c58, .tok p55 9 1 (y164).length c56, .tok p75 9 1 ((x74.Maps.getD 0 zm_api_Map).Cuts).length c76, .tok p77 3 1 ((x74.Maps.getD 0 zm_api_Map).Nodes).length c78, .tok p79 9 1 ((x74.Maps.getD 1 zm_api_Map).Cuts).length c80, .tok p81 3 1 ((x74.Maps.getD 1 zm_api_Map).Nodes).length c82, .tok p83 9 1 ((x74.Maps.getD 2 zm_api_Map).Cuts).length c84, .tok p85 3 1 ((x74.Maps.getD 2 zm_api_Map).Nodes).length c86, .tok p87 9 1 ((x74.Maps.getD 3 zm_api_Map).Cuts).length c88, .tok p89 3 1 ((x74.Maps.getD 3 zm_api_Map).Nodes).length c90, .tok p59 9 1 ((x54.1.Maps.getD 1 zm_api_Map).Cuts).length c60, .tok p61 3 1 ((x54.1.Maps.getD 1 zm_api_Map).Nodes).length c62, .tok p63 9 1 ((x54.1.Maps.getD 2 zm_api_Map).Cuts).length c64, .tok p65 3 1 ((x54.1.Maps.getD 2 zm_api_Map).Nodes).length c66, .tok p67 9 1 ((x54.1.Maps.getD 3 zm_api_Map).Cuts).length c68, .tok p69 3 1 ((x54.1.Maps.getD 3 zm_api_Map).Nodes).length c70])) (Lf := (fun nn => [(2, pt b25 0), (5, pt b52 0), (6, pt b72 0), (8, pt b91 0), (11, pt b111 0), (33, vi 0), (44, .slice (some ⟨b106, 0, none⟩) 2 2), (45, vi 2), (46, vi 0), (69, vi (((x54.1.Maps.getD 0 zm_api_Map).Nodes).length : Int)), (70, vi y229), (74, .slice p57 nn c58), (75, vi y229), (78, vi (IntKind.i64.wrap (x234 + 1))), (79, .pointer (some ⟨b238, (f239 + Int.toNat y229 * 1), none⟩))])) [2, 5, 6, 8, 11, 33, 44, 45, 46, 69, 70, 74, 75, 78, 79] rfl (by kernel_rfl) fun a w hF hS => ?_)
 refine wpListIn_nil ?_
 refine hK232 _ _ ?_
 refine wpIn_region_lit ?_
 refine wp 2 [2, 5, 6, 8, 11, 33, 44, 45, 46, 69, 70] hF fun a hF => ?_
 refine wpListIn_nil ?_
 exact ⟨fuel2, Nat.lt_succ_self _, _, (List.set y228 (Int.toNat y229) (IntKind.i64.wrap (x234 + 1))), IntKind.i64.wrap (y229 + 1), hF.kp [2, 5, 6, 8, 11, 33, 44, 45, 46, 69, 70], hS.sp (rg 22) [15, 0, 16, 17, 18, 19, 20, 21, 22, 23, 24, 25, 26, 27, 28, 29, 30, 31, 32, 33, 2, 3, 4, 5, 6, 7, 8, 9, 10, 11, 12, 13, 14, 1, 34, 35, 36, 37, 38, 39, 40, 41, 42, 43, 44, 45, 46, 47, 48, 49], H⟩
 refine cond_f hF (by kernel_rfl) hb ?_
 refine wpIn_exit ?_
 refine hK109 _ _ ?_
 refine wpIn_region_lit ?_
 refine wl_pure (L' := [(2, pt b25 0), (5, pt b52 0), (6, pt b72 0), (8, pt b91 0), (33, vi 0), (44, .slice (some ⟨b106, 0, none⟩) 2 2), (45, vi 2), (46, vi 1)]) 2 [2, 5, 6, 8, 33, 44, 45, 46] hF (by kernel_rfl) fun a hF => ?_
 refine wpListIn_nil ?_
 refine round_go ?_
 refine wpIn_seq_k fun K240 hK240 => ?_
 refine wpIn_region_lit ?_
 refine wp 1 [2, 5, 6, 8, 33, 44, 45, 46, 47] hF fun a hF => ?_
 refine wpListIn_nil ?_
 refine hK240 _ _ ?_
 refine wpIn_seq_k fun K241 hK241 => ?_
 refine cond_t hF (by kernel_rfl) rfl ?_
 refine wpIn_skip ?_
 refine hK241 _ _ ?_
 refine wpIn_seq_k fun K242 hK242 => ?_
 refine wpIn_block ?_
 refine wpIn_seq_k fun K243 hK243 => ?_
 refine wpIn_region_lit ?_
 refine wp 1 [2, 5, 6, 8, 33, 44, 45, 46, 48] hF fun a hF => ?_
 refine wc (wls hF hS 1 2 2 fun a hF => ?_)
 refine wc (wal hF hS [sl none 0 0, sl none 0 0] (sgN 2 sgNil) fun b244 a w hF hS => ?_)
 refine wc (wst hF hS 0 0 2 [sl p75 ((x74.Maps.getD 0 zm_api_Map).Cuts).length c76, sl p77 ((x74.Maps.getD 0 zm_api_Map).Nodes).length c78] (sgN 2 sgNil) fun a w hF hS => ?_)
 refine wpListIn_nil ?_
 refine hK243 _ _ ?_
 refine wpIn_seq_k fun K245 hK245 => ?_
 refine wpIn_seq_k fun K246 hK246 => ?_
 refine wpIn_region_lit ?_
 refine wp 1 [2, 5, 6, 8, 11, 33, 44, 45, 46, 50] hF fun a hF => ?_
 refine wc (wld hF hS 0 0 0 fun a hF => ?_)
 refine wp 2 [2, 5, 6, 8, 11, 33, 44, 45, 46, 52, 53] hF fun a hF => ?_
 refine wpListIn_nil ?_
 refine hK246 _ _ ?_
 refine wpIn_block ?_
 refine loop_fuel (n := N) (fun n a w => ∃ (κ : Gh) (y297 : List ByteArray) (y298 : Int), Fr (89) [] [(2, pt b25 0), (5, pt b52 0), (6, pt b72 0), (8, pt b91 0), (11, pt b244 0), (33, vi 0), (44, .slice (some ⟨b106, 0, none⟩) 2 2), (45, vi 2), (46, vi 1), (52, vi (((x74.Maps.getD 0 zm_api_Map).Cuts).length : Int)), (53, vi y298)] a ∧ SS [] κ0 w0 κ w [.box b244 25 [sl p75 (y297).length c76, sl p77 ((x74.Maps.getD 0 zm_api_Map).Nodes).length c78], .box b106 25 [sl p55 (y164).length c56, sl p57 (y228).length c58, sl p75 (y297).length c76, sl p77 ((x74.Maps.getD 0 zm_api_Map).Nodes).length c78], .box b91 56 [si x74.Pool, si x74.Nodes, eb 4 x74.Members, sl p75 (y297).length c76, sl p77 ((x74.Maps.getD 0 zm_api_Map).Nodes).length c78, sl p79 ((x74.Maps.getD 1 zm_api_Map).Cuts).length c80, sl p81 ((x74.Maps.getD 1 zm_api_Map).Nodes).length c82, sl p83 ((x74.Maps.getD 2 zm_api_Map).Cuts).length c84, sl p85 ((x74.Maps.getD 2 zm_api_Map).Nodes).length c86, sl p87 ((x74.Maps.getD 3 zm_api_Map).Cuts).length c88, sl p89 ((x74.Maps.getD 3 zm_api_Map).Nodes).length c90, ei 21 x74.Modes], .box b72 56 [si x54.1.Pool, si x54.1.Nodes, eb 4 x54.1.Members, sl p55 (y164).length c56, sl p57 (y228).length c58, sl p59 ((x54.1.Maps.getD 1 zm_api_Map).Cuts).length c60, sl p61 ((x54.1.Maps.getD 1 zm_api_Map).Nodes).length c62, sl p63 ((x54.1.Maps.getD 2 zm_api_Map).Cuts).length c64, sl p65 ((x54.1.Maps.getD 2 zm_api_Map).Nodes).length c66, sl p67 ((x54.1.Maps.getD 3 zm_api_Map).Cuts).length c68, sl p69 ((x54.1.Maps.getD 3 zm_api_Map).Nodes).length c70, ei 21 x54.1.Modes], .box b52 60 [si x50.Pool, si x50.Nodes, eb 4 x50.Members, (8, cs51), ei 21 x50.Modes], .box b25 56 [si a1.Pool, si a1.Nodes, eb 4 a1.Members, sl p8 ((a1.Maps.getD 0 zm_api_Map).Cuts).length c9, sl p10 ((a1.Maps.getD 0 zm_api_Map).Nodes).length c11, sl p12 ((a1.Maps.getD 1 zm_api_Map).Cuts).length c13, sl p14 ((a1.Maps.getD 1 zm_api_Map).Nodes).length c15, sl p16 ((a1.Maps.getD 2 zm_api_Map).Cuts).length c17, sl p18 ((a1.Maps.getD 2 zm_api_Map).Nodes).length c19, sl p20 ((a1.Maps.getD 3 zm_api_Map).Cuts).length c21, sl p22 ((a1.Maps.getD 3 zm_api_Map).Nodes).length c23, ei 21 a1.Modes], .tok p75 9 1 (y297).length c76, .tok p57 3 1 (y228).length c58, .tok p55 9 1 (y164).length c56, .tok p77 3 1 ((x74.Maps.getD 0 zm_api_Map).Nodes).length c78, .tok p79 9 1 ((x74.Maps.getD 1 zm_api_Map).Cuts).length c80, .tok p81 3 1 ((x74.Maps.getD 1 zm_api_Map).Nodes).length c82, .tok p83 9 1 ((x74.Maps.getD 2 zm_api_Map).Cuts).length c84, .tok p85 3 1 ((x74.Maps.getD 2 zm_api_Map).Nodes).length c86, .tok p87 9 1 ((x74.Maps.getD 3 zm_api_Map).Cuts).length c88, .tok p89 3 1 ((x74.Maps.getD 3 zm_api_Map).Nodes).length c90, .tok p59 9 1 ((x54.1.Maps.getD 1 zm_api_Map).Cuts).length c60, .tok p61 3 1 ((x54.1.Maps.getD 1 zm_api_Map).Nodes).length c62, .tok p63 9 1 ((x54.1.Maps.getD 2 zm_api_Map).Cuts).length c64, .tok p65 3 1 ((x54.1.Maps.getD 2 zm_api_Map).Nodes).length c66, .tok p67 9 1 ((x54.1.Maps.getD 3 zm_api_Map).Cuts).length c68, .tok p69 3 1 ((x54.1.Maps.getD 3 zm_api_Map).Nodes).length c70] [Ro.mp fStr.ty p75 c76 y297, Ro.mp (fInt .i64).ty p77 c78 ((x74.Maps.getD 0 zm_api_Map).Nodes), Ro.mp fStr.ty p55 c56 y164, Ro.mp (fInt .i64).ty p57 c58 y228, ml x74.Members 4, Ro.mp fStr.ty p79 c80 ((x74.Maps.getD 1 zm_api_Map).Cuts), Ro.mp (fInt .i64).ty p81 c82 ((x74.Maps.getD 1 zm_api_Map).Nodes), Ro.mp fStr.ty p83 c84 ((x74.Maps.getD 2 zm_api_Map).Cuts), Ro.mp (fInt .i64).ty p85 c86 ((x74.Maps.getD 2 zm_api_Map).Nodes), Ro.mp fStr.ty p87 c88 ((x74.Maps.getD 3 zm_api_Map).Cuts), Ro.mp (fInt .i64).ty p89 c90 ((x74.Maps.getD 3 zm_api_Map).Nodes), ml x74.Modes 21, ml x54.1.Members 4, Ro.mp fStr.ty p59 c60 ((x54.1.Maps.getD 1 zm_api_Map).Cuts), Ro.mp (fInt .i64).ty p61 c62 ((x54.1.Maps.getD 1 zm_api_Map).Nodes), Ro.mp fStr.ty p63 c64 ((x54.1.Maps.getD 2 zm_api_Map).Cuts), Ro.mp (fInt .i64).ty p65 c66 ((x54.1.Maps.getD 2 zm_api_Map).Nodes), Ro.mp fStr.ty p67 c68 ((x54.1.Maps.getD 3 zm_api_Map).Cuts), Ro.mp (fInt .i64).ty p69 c70 ((x54.1.Maps.getD 3 zm_api_Map).Nodes), ml x54.1.Modes 21, ml x50.Members 4, Arr.mp t_api_Map cs51 4 x50.Maps, ml x50.Modes 21, ml a1.Members 4, Ro.mp fStr.ty p8 c9 ((a1.Maps.getD 0 zm_api_Map).Cuts), Ro.mp (fInt .i64).ty p10 c11 ((a1.Maps.getD 0 zm_api_Map).Nodes), Ro.mp fStr.ty p12 c13 ((a1.Maps.getD 1 zm_api_Map).Cuts), Ro.mp (fInt .i64).ty p14 c15 ((a1.Maps.getD 1 zm_api_Map).Nodes), Ro.mp fStr.ty p16 c17 ((a1.Maps.getD 2 zm_api_Map).Cuts), Ro.mp (fInt .i64).ty p18 c19 ((a1.Maps.getD 2 zm_api_Map).Nodes), Ro.mp fStr.ty p20 c21 ((a1.Maps.getD 3 zm_api_Map).Cuts), Ro.mp (fInt .i64).ty p22 c23 ((a1.Maps.getD 3 zm_api_Map).Nodes), ml a1.Modes 21, MP.since κ71 w71, MP.old p75 w71, MP.old p77 w71, MP.old p55 w71, MP.old p57 w71, MP.old p79 w71, MP.old p81 w71, MP.old p83 w71, MP.old p85 w71, MP.old p87 w71, MP.old p89 w71, MP.old p59 w71, MP.old p61 w71, MP.old p63 w71, MP.old p65 w71, MP.old p67 w71, MP.old p69 w71] ∧ M.law18_ConfigOwns_x_L3 N n a1 x50 x54 x74 y164 y228 y297 y298 = some r) ?_ ?_
 exact ⟨_, (x74.Maps.getD 0 zm_api_Map).Cuts, 0, hF.kp [2, 5, 6, 8, 11, 33, 44, 45, 46, 52, 53], hS.sp [0, 2, 3, 4, 5, 6, 9, 7, 8, 10, 11, 12, 13, 14, 15, 16, 17, 18, 19, 20, 21, 22] [2, 3, 0, 1, 4, 5, 6, 7, 8, 9, 10, 11, 12, 13, 14, 15, 16, 17, 18, 19, 20, 21, 22, 23, 24, 25, 26, 27, 28, 29, 30, 31, 32, 33, 36, 37, 34, 35, 38, 39, 40, 41, 42, 43, 44, 45, 46, 47, 48, 49], H⟩
 rintro n a w ⟨κ, y297, y298, hF, hS, H⟩
 rcases n with _ | fuel3
 simp [M.law18_ConfigOwns_x_L3] at H
 simp only [M.law18_ConfigOwns_x_L3] at H
 refine wpIn_seq_k fun K299 hK299 => ?_
 refine wpIn_region_lit ?_
 refine wp 1 [2, 5, 6, 8, 11, 33, 44, 45, 46, 52, 53, 54] hF fun a hF => ?_
 refine wpListIn_nil ?_
 refine hK299 _ _ ?_
 refine wpIn_seq_k fun K300 hK300 => ?_
 refine bif_split H (fun hb H => ?_) (fun hb H => ?_)
 refine cond_t hF (by kernel_rfl) hb ?_
 refine wpIn_skip ?_
 refine hK300 _ _ ?_
 refine wpIn_seq_k fun K301 hK301 => ?_
 refine wpIn_block ?_
 refine wpIn_seq_k fun K302 hK302 => ?_
 refine wpIn_region_lit ?_
 refine wp 2 [2, 5, 6, 8, 11, 12, 33, 44, 45, 46, 52, 53] hF fun a hF => ?_
 refine wpListIn_nil ?_
 refine hK302 _ _ ?_
 refine rgS hS [10] ?_
 have hS := hS.drew
 refine any_pure [0, 2, 3, 5] [2, 5, 6, 8, 11, 33, 44, 45, 46, 52, 53, 56, 58, 59, 61] (L' := [(2, pt b25 0), (5, pt b52 0), (6, pt b72 0), (8, pt b91 0), (11, pt b244 0), (33, vi 0), (44, .slice (some ⟨b106, 0, none⟩) 2 2), (45, vi 2), (46, vi 1), (52, vi (((x74.Maps.getD 0 zm_api_Map).Cuts).length : Int)), (53, vi y298), (56, pt b244 0), (58, vi y298), (59, pt b244 0), (61, vi y298)]) (listed' := (bitA 11 45)) (fuel := 7) hF (hS.sx (rg 6) (rg 50)) (by kernel_rfl) (by intro c a w t v h; cases t <;> exact h) (by kernel_rfl) rfl fun a hF => ?_
 refine atk 1 (some 57) hF (hS.sx (rg 6) (rg 50)) rfl (vld 0 0 0) fun a hF => ?_
 refine atk 4 (some 60) hF (hS.sx (rg 6) (rg 50)) rfl (vld 0 0 0) fun a hF => ?_
 refine bind_split H (fun x303 hx303 H => ?_)
 obtain ⟨b304, f305, hpx303⟩ := hS.ptr 0 rfl hx303
 refine atk 6 (some 62) hF (hS.sx (rg 6) (rg 50)) rfl (fun w _ => val_index (E := 9) (sz := 1) rfl hpx303 rfl (by kernel_rfl) rfl hx303 (by kernel_rfl) (by kernel_rfl) w) fun a hF => ?_
 refine atk 7 (some 63) hF (hS.sx (rg 6) (rg 50)) rfl (val_loadRo (t := fStr) 0 0 (v := .string (x303)) rfl rfl hpx303 rfl hx303 (by kernel_rfl) (by kernel_rfl) (by kernel_rfl)) fun a hF => ?_
 refine ago 8 hF rfl ?_
 refine bind_split H (fun x306 hx306 H => ?_)
 refine wo_callP hF hS (by kernel_rfl) (by kernel_rfl) (C_law18_other N hS.fresh x303  ((hS.pick [] (by kernel_rfl)).ro) hx306) ?_
 rintro _ κ w a ⟨rfl, hR, hN⟩ hF hS hO
 refine ⟨fun _ => (hS.sx (rg 6) (rg 50)), ?_⟩
 refine bind_split H (fun x307 hx307 H => ?_)
 obtain ⟨b308, f309, hpx307⟩ := hS.ptr 0 rfl hx307
 refine atk 9 (some 65) hF (hS.sx (rg 6) (rg 50)) rfl (fun w _ => val_index (E := 9) (sz := 1) rfl hpx307 rfl (by kernel_rfl) rfl hx307 (by kernel_rfl) (by kernel_rfl) w) fun a hF => ?_
 refine ago 10 hF rfl ?_
 refine wo_storeTokS (t := fStr) (y := x307) (z := x306) (v := .string (x306)) (vs := (flat [sg x306])) (sz := 1) hF hS hfr hf71 hw71 hR71 (by kernel_rfl) 6 0 33 34 0 rfl rfl (by kernel_rfl) rfl rfl rfl hpx307 hx307 rfl (by kernel_rfl) (by kernel_rfl) rfl (show segGood [sg x306] from (sgN 1 sgNil)).2 rfl (by decide) rfl rfl (nfC nfB (nfC nfB (nfC nfB (nfC nfB (nfC nfB (nfC nfB (nfC nfT (nfC nfT (nfC nfT (nfC nfT (nfC nfT (nfC nfT (nfC nfT (nfC nfT (nfC nfT (nfC nfT (nfC nfT (nfC nfT (nfC nfT (nfC nfT (nfC nfT (nfC nfT nfN)))))))))))))))))))))) [2, 3, 4, 26, 23, 24, 21, 22, 19, 20, 17, 18, 27] [1, 2, 3, 4, 5, 6, 7, 8, 9, 10, 11, 12, 13, 14, 15, 16, 17, 18, 19, 34, 35, 36, 37, 38, 39, 40, 41, 42, 43, 44, 45, 46, 47, 48, 49] (Ra := [ml x50.Members 4, Arr.mp t_api_Map cs51 4 x50.Maps, ml x50.Modes 21, ml a1.Members 4, Ro.mp fStr.ty p8 c9 ((a1.Maps.getD 0 zm_api_Map).Cuts), Ro.mp (fInt .i64).ty p10 c11 ((a1.Maps.getD 0 zm_api_Map).Nodes), Ro.mp fStr.ty p12 c13 ((a1.Maps.getD 1 zm_api_Map).Cuts), Ro.mp (fInt .i64).ty p14 c15 ((a1.Maps.getD 1 zm_api_Map).Nodes), Ro.mp fStr.ty p16 c17 ((a1.Maps.getD 2 zm_api_Map).Cuts), Ro.mp (fInt .i64).ty p18 c19 ((a1.Maps.getD 2 zm_api_Map).Nodes), Ro.mp fStr.ty p20 c21 ((a1.Maps.getD 3 zm_api_Map).Cuts), Ro.mp (fInt .i64).ty p22 c23 ((a1.Maps.getD 3 zm_api_Map).Nodes), ml a1.Modes 21]) (Rb := [Ro.mp (fInt .i64).ty p77 c78 ((x74.Maps.getD 0 zm_api_Map).Nodes), Ro.mp fStr.ty p55 c56 y164, Ro.mp (fInt .i64).ty p57 c58 y228, ml x74.Members 4, Ro.mp fStr.ty p79 c80 ((x74.Maps.getD 1 zm_api_Map).Cuts), Ro.mp (fInt .i64).ty p81 c82 ((x74.Maps.getD 1 zm_api_Map).Nodes), Ro.mp fStr.ty p83 c84 ((x74.Maps.getD 2 zm_api_Map).Cuts), Ro.mp (fInt .i64).ty p85 c86 ((x74.Maps.getD 2 zm_api_Map).Nodes), Ro.mp fStr.ty p87 c88 ((x74.Maps.getD 3 zm_api_Map).Cuts), Ro.mp (fInt .i64).ty p89 c90 ((x74.Maps.getD 3 zm_api_Map).Nodes), ml x74.Modes 21, ml x54.1.Members 4, Ro.mp fStr.ty p59 c60 ((x54.1.Maps.getD 1 zm_api_Map).Cuts), Ro.mp (fInt .i64).ty p61 c62 ((x54.1.Maps.getD 1 zm_api_Map).Nodes), Ro.mp fStr.ty p63 c64 ((x54.1.Maps.getD 2 zm_api_Map).Cuts), Ro.mp (fInt .i64).ty p65 c66 ((x54.1.Maps.getD 2 zm_api_Map).Nodes), Ro.mp fStr.ty p67 c68 ((x54.1.Maps.getD 3 zm_api_Map).Cuts), Ro.mp (fInt .i64).ty p69 c70 ((x54.1.Maps.getD 3 zm_api_Map).Nodes), ml x54.1.Modes 21, MP.old p75 w71, MP.old p77 w71, MP.old p55 w71, MP.old p57 w71, MP.old p79 w71, MP.old p81 w71, MP.old p83 w71, MP.old p85 w71, MP.old p87 w71, MP.old p89 w71, MP.old p59 w71, MP.old p61 w71, MP.old p63 w71, MP.old p65 w71, MP.old p67 w71, MP.old p69 w71]) rfl rfl (aC (apart_ro (hS.tokApart 6 9 hpx307 rfl rfl (by decide))) (aC (apart_ro (hS.tokApart 6 8 hpx307 rfl rfl (by decide))) (aC (apart_ro (hS.tokApart 6 7 hpx307 rfl rfl (by decide))) (aK (aC (apart_ro (hS.tokApart 6 10 hpx307 rfl rfl (by decide))) (aC (apart_ro (hS.tokApart 6 11 hpx307 rfl rfl (by decide))) (aC (apart_ro (hS.tokApart 6 12 hpx307 rfl rfl (by decide))) (aC (apart_ro (hS.tokApart 6 13 hpx307 rfl rfl (by decide))) (aC (apart_ro (hS.tokApart 6 14 hpx307 rfl rfl (by decide))) (aC (apart_ro (hS.tokApart 6 15 hpx307 rfl rfl (by decide))) (aK (aK (aC (apart_ro (hS.tokApart 6 16 hpx307 rfl rfl (by decide))) (aC (apart_ro (hS.tokApart 6 17 hpx307 rfl rfl (by decide))) (aC (apart_ro (hS.tokApart 6 18 hpx307 rfl rfl (by decide))) (aC (apart_ro (hS.tokApart 6 19 hpx307 rfl rfl (by decide))) (aC (apart_ro (hS.tokApart 6 20 hpx307 rfl rfl (by decide))) (aC (apart_ro (hS.tokApart 6 21 hpx307 rfl rfl (by decide))) (aK (aK (aK (aK (aK (aK (aK (aK (aK (aK (aK (aK (aK (aK (aK (aK (aK aN))))))))))))))))))))))))))))))))))) (Cf := (fun nn => [.box b244 25 [sl p75 nn c76, sl p77 ((x74.Maps.getD 0 zm_api_Map).Nodes).length c78], .box b106 25 [sl p55 (y164).length c56, sl p57 (y228).length c58, sl p75 nn c76, sl p77 ((x74.Maps.getD 0 zm_api_Map).Nodes).length c78], .box b91 56 [si x74.Pool, si x74.Nodes, eb 4 x74.Members, sl p75 nn c76, sl p77 ((x74.Maps.getD 0 zm_api_Map).Nodes).length c78, sl p79 ((x74.Maps.getD 1 zm_api_Map).Cuts).length c80, sl p81 ((x74.Maps.getD 1 zm_api_Map).Nodes).length c82, sl p83 ((x74.Maps.getD 2 zm_api_Map).Cuts).length c84, sl p85 ((x74.Maps.getD 2 zm_api_Map).Nodes).length c86, sl p87 ((x74.Maps.getD 3 zm_api_Map).Cuts).length c88, sl p89 ((x74.Maps.getD 3 zm_api_Map).Nodes).length c90, ei 21 x74.Modes], .box b72 56 [si x54.1.Pool, si x54.1.Nodes, eb 4 x54.1.Members, sl p55 (y164).length c56, sl p57 (y228).length c58, sl p59 ((x54.1.Maps.getD 1 zm_api_Map).Cuts).length c60, sl p61 ((x54.1.Maps.getD 1 zm_api_Map).Nodes).length c62, sl p63 ((x54.1.Maps.getD 2 zm_api_Map).Cuts).length c64, sl p65 ((x54.1.Maps.getD 2 zm_api_Map).Nodes).length c66, sl p67 ((x54.1.Maps.getD 3 zm_api_Map).Cuts).length c68, sl p69 ((x54.1.Maps.getD 3 zm_api_Map).Nodes).length c70, ei 21 x54.1.Modes], .box b52 60 [si x50.Pool, si x50.Nodes, eb 4 x50.Members, (8, cs51), ei 21 x50.Modes], .box b25 56 [si a1.Pool, si a1.Nodes, eb 4 a1.Members, sl p8 ((a1.Maps.getD 0 zm_api_Map).Cuts).length c9, sl p10 ((a1.Maps.getD 0 zm_api_Map).Nodes).length c11, sl p12 ((a1.Maps.getD 1 zm_api_Map).Cuts).length c13, sl p14 ((a1.Maps.getD 1 zm_api_Map).Nodes).length c15, sl p16 ((a1.Maps.getD 2 zm_api_Map).Cuts).length c17, sl p18 ((a1.Maps.getD 2 zm_api_Map).Nodes).length c19, sl p20 ((a1.Maps.getD 3 zm_api_Map).Cuts).length c21, sl p22 ((a1.Maps.getD 3 zm_api_Map).Nodes).length c23, ei 21 a1.Modes], .tok p75 9 1 nn c76, .tok p57 3 1 (y228).length c58, .tok p55 9 1 (y164).length c56, .tok p77 3 1 ((x74.Maps.getD 0 zm_api_Map).Nodes).length c78, .tok p79 9 1 ((x74.Maps.getD 1 zm_api_Map).Cuts).length c80, .tok p81 3 1 ((x74.Maps.getD 1 zm_api_Map).Nodes).length c82, .tok p83 9 1 ((x74.Maps.getD 2 zm_api_Map).Cuts).length c84, .tok p85 3 1 ((x74.Maps.getD 2 zm_api_Map).Nodes).length c86, .tok p87 9 1 ((x74.Maps.getD 3 zm_api_Map).Cuts).length c88, .tok p89 3 1 ((x74.Maps.getD 3 zm_api_Map).Nodes).length c90, .tok p59 9 1 ((x54.1.Maps.getD 1 zm_api_Map).Cuts).length c60, .tok p61 3 1 ((x54.1.Maps.getD 1 zm_api_Map).Nodes).length c62, .tok p63 9 1 ((x54.1.Maps.getD 2 zm_api_Map).Cuts).length c64, .tok p65 3 1 ((x54.1.Maps.getD 2 zm_api_Map).Nodes).length c66, .tok p67 9 1 ((x54.1.Maps.getD 3 zm_api_Map).Cuts).length c68, .tok p69 3 1 ((x54.1.Maps.getD 3 zm_api_Map).Nodes).length c70])) (Lf := (fun nn => [(2, pt b25 0), (5, pt b52 0), (6, pt b72 0), (8, pt b91 0), (11, pt b244 0), (33, vi 0), (44, .slice (some ⟨b106, 0, none⟩) 2 2), (45, vi 2), (46, vi 1), (52, vi (((x74.Maps.getD 0 zm_api_Map).Cuts).length : Int)), (53, vi y298), (56, pt b244 0), (57, .slice p75 nn c76), (58, vi y298), (59, pt b244 0), (60, .slice p75 nn c76), (61, vi y298), (62, .pointer (some ⟨b304, (f305 + Int.toNat y298 * 1), none⟩)), (63, .string (x303)), (64, .string (x306)), (65, .pointer (some ⟨b308, (f309 + Int.toNat y298 * 1), none⟩))])) [2, 5, 6, 8, 11, 33, 44, 45, 46, 52, 53, 56, 57, 58, 59, 60, 61, 62, 63, 64, 65] rfl (by kernel_rfl) fun a w hF hS => ?_
 refine ⟨notE, ?_⟩
 refine and_ ?_
 refine hK301 _ _ ?_
 refine wpIn_region_lit ?_
 refine wp 2 [2, 5, 6, 8, 11, 33, 44, 45, 46, 52, 53] hF fun a hF => ?_
 refine wpListIn_nil ?_
 exact ⟨fuel3, Nat.lt_succ_self _, _, (List.set y297 (Int.toNat y298) x306), IntKind.i64.wrap (y298 + 1), hF.kp [2, 5, 6, 8, 11, 33, 44, 45, 46, 52, 53], hS.sp (rg 22) [0, 15, 16, 17, 18, 19, 20, 21, 22, 23, 24, 25, 26, 27, 28, 29, 30, 31, 32, 33, 2, 3, 4, 5, 6, 7, 8, 9, 10, 11, 12, 13, 14, 1, 34, 35, 36, 37, 38, 39, 40, 41, 42, 43, 44, 45, 46, 47, 48, 49], H⟩
 refine cond_f hF (by kernel_rfl) hb ?_
 refine wpIn_exit ?_
 refine hK245 _ _ ?_
 refine wpIn_seq_k fun K310 hK310 => ?_
 refine wpIn_region_lit ?_
 refine wp 1 [2, 5, 6, 8, 11, 33, 44, 45, 46, 67] hF fun a hF => ?_
 refine wc (wld hF hS 0 1 0 fun a hF => ?_)
 refine wp 2 [2, 5, 6, 8, 11, 33, 44, 45, 46, 69, 70] hF fun a hF => ?_
 refine wpListIn_nil ?_
 refine hK310 _ _ ?_
 refine wpIn_block ?_
 refine loop_fuel (n := N) (fun n a w => ∃ (κ : Gh) (y361 : List Int) (y362 : Int), Fr (89) [] [(2, pt b25 0), (5, pt b52 0), (6, pt b72 0), (8, pt b91 0), (11, pt b244 0), (33, vi 0), (44, .slice (some ⟨b106, 0, none⟩) 2 2), (45, vi 2), (46, vi 1), (69, vi (((x74.Maps.getD 0 zm_api_Map).Nodes).length : Int)), (70, vi y362)] a ∧ SS [] κ0 w0 κ w [.box b244 25 [sl p75 (y297).length c76, sl p77 (y361).length c78], .box b106 25 [sl p55 (y164).length c56, sl p57 (y228).length c58, sl p75 (y297).length c76, sl p77 (y361).length c78], .box b91 56 [si x74.Pool, si x74.Nodes, eb 4 x74.Members, sl p75 (y297).length c76, sl p77 (y361).length c78, sl p79 ((x74.Maps.getD 1 zm_api_Map).Cuts).length c80, sl p81 ((x74.Maps.getD 1 zm_api_Map).Nodes).length c82, sl p83 ((x74.Maps.getD 2 zm_api_Map).Cuts).length c84, sl p85 ((x74.Maps.getD 2 zm_api_Map).Nodes).length c86, sl p87 ((x74.Maps.getD 3 zm_api_Map).Cuts).length c88, sl p89 ((x74.Maps.getD 3 zm_api_Map).Nodes).length c90, ei 21 x74.Modes], .box b72 56 [si x54.1.Pool, si x54.1.Nodes, eb 4 x54.1.Members, sl p55 (y164).length c56, sl p57 (y228).length c58, sl p59 ((x54.1.Maps.getD 1 zm_api_Map).Cuts).length c60, sl p61 ((x54.1.Maps.getD 1 zm_api_Map).Nodes).length c62, sl p63 ((x54.1.Maps.getD 2 zm_api_Map).Cuts).length c64, sl p65 ((x54.1.Maps.getD 2 zm_api_Map).Nodes).length c66, sl p67 ((x54.1.Maps.getD 3 zm_api_Map).Cuts).length c68, sl p69 ((x54.1.Maps.getD 3 zm_api_Map).Nodes).length c70, ei 21 x54.1.Modes], .box b52 60 [si x50.Pool, si x50.Nodes, eb 4 x50.Members, (8, cs51), ei 21 x50.Modes], .box b25 56 [si a1.Pool, si a1.Nodes, eb 4 a1.Members, sl p8 ((a1.Maps.getD 0 zm_api_Map).Cuts).length c9, sl p10 ((a1.Maps.getD 0 zm_api_Map).Nodes).length c11, sl p12 ((a1.Maps.getD 1 zm_api_Map).Cuts).length c13, sl p14 ((a1.Maps.getD 1 zm_api_Map).Nodes).length c15, sl p16 ((a1.Maps.getD 2 zm_api_Map).Cuts).length c17, sl p18 ((a1.Maps.getD 2 zm_api_Map).Nodes).length c19, sl p20 ((a1.Maps.getD 3 zm_api_Map).Cuts).length c21, sl p22 ((a1.Maps.getD 3 zm_api_Map).Nodes).length c23, ei 21 a1.Modes], .tok p77 3 1 (y361).length c78, .tok p75 9 1 (y297).length c76, .tok p57 3 1 (y228).length c58, .tok p55 9 1 (y164).length c56, .tok p79 9 1 ((x74.Maps.getD 1 zm_api_Map).Cuts).length c80, .tok p81 3 1 ((x74.Maps.getD 1 zm_api_Map).Nodes).length c82, .tok p83 9 1 ((x74.Maps.getD 2 zm_api_Map).Cuts).length c84, .tok p85 3 1 ((x74.Maps.getD 2 zm_api_Map).Nodes).length c86, .tok p87 9 1 ((x74.Maps.getD 3 zm_api_Map).Cuts).length c88, .tok p89 3 1 ((x74.Maps.getD 3 zm_api_Map).Nodes).length c90, .tok p59 9 1 ((x54.1.Maps.getD 1 zm_api_Map).Cuts).length c60, .tok p61 3 1 ((x54.1.Maps.getD 1 zm_api_Map).Nodes).length c62, .tok p63 9 1 ((x54.1.Maps.getD 2 zm_api_Map).Cuts).length c64, .tok p65 3 1 ((x54.1.Maps.getD 2 zm_api_Map).Nodes).length c66, .tok p67 9 1 ((x54.1.Maps.getD 3 zm_api_Map).Cuts).length c68, .tok p69 3 1 ((x54.1.Maps.getD 3 zm_api_Map).Nodes).length c70] [Ro.mp fStr.ty p75 c76 y297, Ro.mp (fInt .i64).ty p77 c78 y361, Ro.mp fStr.ty p55 c56 y164, Ro.mp (fInt .i64).ty p57 c58 y228, ml x74.Members 4, Ro.mp fStr.ty p79 c80 ((x74.Maps.getD 1 zm_api_Map).Cuts), Ro.mp (fInt .i64).ty p81 c82 ((x74.Maps.getD 1 zm_api_Map).Nodes), Ro.mp fStr.ty p83 c84 ((x74.Maps.getD 2 zm_api_Map).Cuts), Ro.mp (fInt .i64).ty p85 c86 ((x74.Maps.getD 2 zm_api_Map).Nodes), Ro.mp fStr.ty p87 c88 ((x74.Maps.getD 3 zm_api_Map).Cuts), Ro.mp (fInt .i64).ty p89 c90 ((x74.Maps.getD 3 zm_api_Map).Nodes), ml x74.Modes 21, ml x54.1.Members 4, Ro.mp fStr.ty p59 c60 ((x54.1.Maps.getD 1 zm_api_Map).Cuts), Ro.mp (fInt .i64).ty p61 c62 ((x54.1.Maps.getD 1 zm_api_Map).Nodes), Ro.mp fStr.ty p63 c64 ((x54.1.Maps.getD 2 zm_api_Map).Cuts), Ro.mp (fInt .i64).ty p65 c66 ((x54.1.Maps.getD 2 zm_api_Map).Nodes), Ro.mp fStr.ty p67 c68 ((x54.1.Maps.getD 3 zm_api_Map).Cuts), Ro.mp (fInt .i64).ty p69 c70 ((x54.1.Maps.getD 3 zm_api_Map).Nodes), ml x54.1.Modes 21, ml x50.Members 4, Arr.mp t_api_Map cs51 4 x50.Maps, ml x50.Modes 21, ml a1.Members 4, Ro.mp fStr.ty p8 c9 ((a1.Maps.getD 0 zm_api_Map).Cuts), Ro.mp (fInt .i64).ty p10 c11 ((a1.Maps.getD 0 zm_api_Map).Nodes), Ro.mp fStr.ty p12 c13 ((a1.Maps.getD 1 zm_api_Map).Cuts), Ro.mp (fInt .i64).ty p14 c15 ((a1.Maps.getD 1 zm_api_Map).Nodes), Ro.mp fStr.ty p16 c17 ((a1.Maps.getD 2 zm_api_Map).Cuts), Ro.mp (fInt .i64).ty p18 c19 ((a1.Maps.getD 2 zm_api_Map).Nodes), Ro.mp fStr.ty p20 c21 ((a1.Maps.getD 3 zm_api_Map).Cuts), Ro.mp (fInt .i64).ty p22 c23 ((a1.Maps.getD 3 zm_api_Map).Nodes), ml a1.Modes 21, MP.since κ71 w71, MP.old p75 w71, MP.old p77 w71, MP.old p55 w71, MP.old p57 w71, MP.old p79 w71, MP.old p81 w71, MP.old p83 w71, MP.old p85 w71, MP.old p87 w71, MP.old p89 w71, MP.old p59 w71, MP.old p61 w71, MP.old p63 w71, MP.old p65 w71, MP.old p67 w71, MP.old p69 w71] ∧ M.law18_ConfigOwns_x_L4 N n a1 x50 x54 x74 y164 y228 y297 y361 y362 = some r) ?_ ?_
 exact ⟨_, (x74.Maps.getD 0 zm_api_Map).Nodes, 0, hF.kp [2, 5, 6, 8, 11, 33, 44, 45, 46, 69, 70], hS.sp [0, 1, 2, 3, 4, 5, 9, 6, 7, 8, 10, 11, 12, 13, 14, 15, 16, 17, 18, 19, 20, 21] (rg 50), H⟩
 rintro n a w ⟨κ, y361, y362, hF, hS, H⟩
 rcases n with _ | fuel4
 simp [M.law18_ConfigOwns_x_L4] at H
 simp only [M.law18_ConfigOwns_x_L4] at H
 refine wpIn_seq_k fun K363 hK363 => ?_
 refine wpIn_region_lit ?_
 refine wp 1 [2, 5, 6, 8, 11, 33, 44, 45, 46, 69, 70, 71] hF fun a hF => ?_
 refine wpListIn_nil ?_
 refine hK363 _ _ ?_
 refine wpIn_seq_k fun K364 hK364 => ?_
 refine bif_split H (fun hb H => ?_) (fun hb H => ?_)
 refine cond_t hF (by kernel_rfl) hb ?_
 refine wpIn_skip ?_
 refine hK364 _ _ ?_
 refine wpIn_seq_k fun K365 hK365 => ?_
 refine wpIn_block ?_
 refine wpIn_seq_k fun K366 hK366 => ?_
 refine wpIn_region_lit ?_
 refine wp 2 [2, 5, 6, 8, 11, 13, 33, 44, 45, 46, 69, 70] hF fun a hF => ?_
 refine wpListIn_nil ?_
 refine hK366 _ _ ?_
 refine wpIn_region_lit ?_
 refine wp 1 [2, 5, 6, 8, 11, 13, 33, 44, 45, 46, 69, 70, 73] hF fun a hF => ?_
 refine wc (wld hF hS 0 1 0 fun a hF => ?_)
 refine wl_pure (L' := [(2, pt b25 0), (5, pt b52 0), (6, pt b72 0), (8, pt b91 0), (11, pt b244 0), (33, vi 0), (44, .slice (some ⟨b106, 0, none⟩) 2 2), (45, vi 2), (46, vi 1), (69, vi (((x74.Maps.getD 0 zm_api_Map).Nodes).length : Int)), (70, vi y362), (74, .slice p77 (y361).length c78), (75, vi y362)]) 1 [2, 5, 6, 8, 11, 33, 44, 45, 46, 69, 70, 74, 75] hF (by kernel_rfl) fun a hF => ?_
 refine bind_split H (fun x367 hx367 H => ?_)
 refine wc (wo_index hF hS (by kernel_rfl) 1 (E := 3) (sz := 1) rfl rfl rfl (by kernel_rfl) rfl hx367 (by kernel_rfl) (by kernel_rfl) fun b368 f369 a hpx367 hF => ?_)
 refine wc (wo_loadRo (t := (fInt .i64)) hF hS (by kernel_rfl) 1 0 (v := vi x367) rfl rfl hpx367 rfl hx367 (by kernel_rfl) (by kernel_rfl) (by kernel_rfl) fun a hF => ?_)
 refine wl_pure (L' := [(2, pt b25 0), (5, pt b52 0), (6, pt b72 0), (8, pt b91 0), (11, pt b244 0), (33, vi 0), (44, .slice (some ⟨b106, 0, none⟩) 2 2), (45, vi 2), (46, vi 1), (69, vi (((x74.Maps.getD 0 zm_api_Map).Nodes).length : Int)), (70, vi y362), (74, .slice p77 (y361).length c78), (75, vi y362), (78, vi (IntKind.i64.wrap (x367 + 1)))]) 1 [2, 5, 6, 8, 11, 33, 44, 45, 46, 69, 70, 74, 75, 78] hF (by kernel_rfl) fun a hF => ?_
 refine bind_split H (fun x370 hx370 H => ?_)
 refine wc (wo_index hF hS (by kernel_rfl) 1 (E := 3) (sz := 1) rfl rfl rfl (by kernel_rfl) rfl hx370 (by kernel_rfl) (by kernel_rfl) fun b371 f372 a hpx370 hF => ?_)
 refine wc (wo_storeTokS (t := (fInt .i64)) (y := x370) (z := IntKind.i64.wrap (x367 + 1)) (v := vi (IntKind.i64.wrap (x367 + 1))) (vs := (flat [si (IntKind.i64.wrap (x367 + 1))])) (sz := 1) hF hS hfr hf71 hw71 hR71 (by kernel_rfl) 6 1 33 35 0 rfl rfl (by kernel_rfl) rfl rfl rfl hpx370 hx370 rfl (by kernel_rfl) (by kernel_rfl) rfl (show segGood [si (IntKind.i64.wrap (x367 + 1))] from (sgN 1 sgNil)).2 rfl (by decide) rfl rfl (nfC nfB (nfC nfB (nfC nfB (nfC nfB (nfC nfB (nfC nfB (nfC nfT (nfC nfT (nfC nfT (nfC nfT (nfC nfT (nfC nfT (nfC nfT (nfC nfT (nfC nfT (nfC nfT (nfC nfT (nfC nfT (nfC nfT (nfC nfT (nfC nfT (nfC nfT nfN)))))))))))))))))))))) [2, 3, 4, 26, 23, 24, 21, 22, 19, 20, 17, 18, 27] [0, 2, 3, 4, 5, 6, 7, 8, 9, 10, 11, 12, 13, 14, 15, 16, 17, 18, 19, 34, 35, 36, 37, 38, 39, 40, 41, 42, 43, 44, 45, 46, 47, 48, 49] (Ra := [ml x50.Members 4, Arr.mp t_api_Map cs51 4 x50.Maps, ml x50.Modes 21, ml a1.Members 4, Ro.mp fStr.ty p8 c9 ((a1.Maps.getD 0 zm_api_Map).Cuts), Ro.mp (fInt .i64).ty p10 c11 ((a1.Maps.getD 0 zm_api_Map).Nodes), Ro.mp fStr.ty p12 c13 ((a1.Maps.getD 1 zm_api_Map).Cuts), Ro.mp (fInt .i64).ty p14 c15 ((a1.Maps.getD 1 zm_api_Map).Nodes), Ro.mp fStr.ty p16 c17 ((a1.Maps.getD 2 zm_api_Map).Cuts), Ro.mp (fInt .i64).ty p18 c19 ((a1.Maps.getD 2 zm_api_Map).Nodes), Ro.mp fStr.ty p20 c21 ((a1.Maps.getD 3 zm_api_Map).Cuts), Ro.mp (fInt .i64).ty p22 c23 ((a1.Maps.getD 3 zm_api_Map).Nodes), ml a1.Modes 21]) (Rb := [Ro.mp fStr.ty p75 c76 y297, Ro.mp fStr.ty p55 c56 y164, Ro.mp (fInt .i64).ty p57 c58 y228, ml x74.Members 4, Ro.mp fStr.ty p79 c80 ((x74.Maps.getD 1 zm_api_Map).Cuts), Ro.mp (fInt .i64).ty p81 c82 ((x74.Maps.getD 1 zm_api_Map).Nodes), Ro.mp fStr.ty p83 c84 ((x74.Maps.getD 2 zm_api_Map).Cuts), Ro.mp (fInt .i64).ty p85 c86 ((x74.Maps.getD 2 zm_api_Map).Nodes), Ro.mp fStr.ty p87 c88 ((x74.Maps.getD 3 zm_api_Map).Cuts), Ro.mp (fInt .i64).ty p89 c90 ((x74.Maps.getD 3 zm_api_Map).Nodes), ml x74.Modes 21, ml x54.1.Members 4, Ro.mp fStr.ty p59 c60 ((x54.1.Maps.getD 1 zm_api_Map).Cuts), Ro.mp (fInt .i64).ty p61 c62 ((x54.1.Maps.getD 1 zm_api_Map).Nodes), Ro.mp fStr.ty p63 c64 ((x54.1.Maps.getD 2 zm_api_Map).Cuts), Ro.mp (fInt .i64).ty p65 c66 ((x54.1.Maps.getD 2 zm_api_Map).Nodes), Ro.mp fStr.ty p67 c68 ((x54.1.Maps.getD 3 zm_api_Map).Cuts), Ro.mp (fInt .i64).ty p69 c70 ((x54.1.Maps.getD 3 zm_api_Map).Nodes), ml x54.1.Modes 21, MP.old p75 w71, MP.old p77 w71, MP.old p55 w71, MP.old p57 w71, MP.old p79 w71, MP.old p81 w71, MP.old p83 w71, MP.old p85 w71, MP.old p87 w71, MP.old p89 w71, MP.old p59 w71, MP.old p61 w71, MP.old p63 w71, MP.old p65 w71, MP.old p67 w71, MP.old p69 w71]) rfl rfl (aC (apart_ro (hS.tokApart 6 7 hpx370 rfl rfl (by decide))) (aC (apart_ro (hS.tokApart 6 9 hpx370 rfl rfl (by decide))) (aC (apart_ro (hS.tokApart 6 8 hpx370 rfl rfl (by decide))) (aK (aC (apart_ro (hS.tokApart 6 10 hpx370 rfl rfl (by decide))) (aC (apart_ro (hS.tokApart 6 11 hpx370 rfl rfl (by decide))) (aC (apart_ro (hS.tokApart 6 12 hpx370 rfl rfl (by decide))) (aC (apart_ro (hS.tokApart 6 13 hpx370 rfl rfl (by decide))) (aC (apart_ro (hS.tokApart 6 14 hpx370 rfl rfl (by decide))) (aC (apart_ro (hS.tokApart 6 15 hpx370 rfl rfl (by decide))) (aK (aK (aC (apart_ro (hS.tokApart 6 16 hpx370 rfl rfl (by decide))) (aC (apart_ro (hS.tokApart 6 17 hpx370 rfl rfl (by decide))) (aC (apart_ro (hS.tokApart 6 18 hpx370 rfl rfl (by decide))) (aC (apart_ro (hS.tokApart 6 19 hpx370 rfl rfl (by decide))) (aC (apart_ro (hS.tokApart 6 20 hpx370 rfl rfl (by decide))) (aC (apart_ro (hS.tokApart 6 21 hpx370 rfl rfl (by decide))) (aK (aK (aK (aK (aK (aK (aK (aK (aK (aK (aK (aK (aK (aK (aK (aK (aK aN))))))))))))))))))))))))))))))))))) (Cf := (fun nn => [.box b244 25 [sl p75 (y297).length c76, sl p77 nn c78], .box b106 25 [sl p55 (y164).length c56, sl p57 (y228).length c58, sl p75 (y297).length c76, sl p77 nn c78], .box b91 56 [si x74.Pool, si x74.Nodes, eb 4 x74.Members, sl p75 (y297).length c76, sl p77 nn c78, sl p79 ((x74.Maps.getD 1 zm_api_Map).Cuts).length c80, sl p81 ((x74.Maps.getD 1 zm_api_Map).Nodes).length c82, sl p83 ((x74.Maps.getD 2 zm_api_Map).Cuts).length c84, sl p85 ((x74.Maps.getD 2 zm_api_Map).Nodes).length c86, sl p87 ((x74.Maps.getD 3 zm_api_Map).Cuts).length c88, sl p89 ((x74.Maps.getD 3 zm_api_Map).Nodes).length c90, ei 21 x74.Modes], .box b72 56 [si x54.1.Pool, si x54.1.Nodes, eb 4 x54.1.Members, sl p55 (y164).length c56, sl p57 (y228).length c58, sl p59 ((x54.1.Maps.getD 1 zm_api_Map).Cuts).length c60, sl p61 ((x54.1.Maps.getD 1 zm_api_Map).Nodes).length c62, sl p63 ((x54.1.Maps.getD 2 zm_api_Map).Cuts).length c64, sl p65 ((x54.1.Maps.getD 2 zm_api_Map).Nodes).length c66, sl p67 ((x54.1.Maps.getD 3 zm_api_Map).Cuts).length c68, sl p69 ((x54.1.Maps.getD 3 zm_api_Map).Nodes).length c70, ei 21 x54.1.Modes], .box b52 60 [si x50.Pool, si x50.Nodes, eb 4 x50.Members, (8, cs51), ei 21 x50.Modes], .box b25 56 [si a1.Pool, si a1.Nodes, eb 4 a1.Members, sl p8 ((a1.Maps.getD 0 zm_api_Map).Cuts).length c9, sl p10 ((a1.Maps.getD 0 zm_api_Map).Nodes).length c11, sl p12 ((a1.Maps.getD 1 zm_api_Map).Cuts).length c13, sl p14 ((a1.Maps.getD 1 zm_api_Map).Nodes).length c15, sl p16 ((a1.Maps.getD 2 zm_api_Map).Cuts).length c17, sl p18 ((a1.Maps.getD 2 zm_api_Map).Nodes).length c19, sl p20 ((a1.Maps.getD 3 zm_api_Map).Cuts).length c21, sl p22 ((a1.Maps.getD 3 zm_api_Map).Nodes).length c23, ei 21 a1.Modes], .tok p77 3 1 nn c78, .tok p75 9 1 (y297).length c76, .tok p57 3 1 (y228).length c58, .tok p55 9 1 (y164).length c56, .tok p79 9 1 ((x74.Maps.getD 1 zm_api_Map).Cuts).length c80, .tok p81 3 1 ((x74.Maps.getD 1 zm_api_Map).Nodes).length c82, .tok p83 9 1 ((x74.Maps.getD 2 zm_api_Map).Cuts).length c84, .tok p85 3 1 ((x74.Maps.getD 2 zm_api_Map).Nodes).length c86, .tok p87 9 1 ((x74.Maps.getD 3 zm_api_Map).Cuts).length c88, .tok p89 3 1 ((x74.Maps.getD 3 zm_api_Map).Nodes).length c90, .tok p59 9 1 ((x54.1.Maps.getD 1 zm_api_Map).Cuts).length c60, .tok p61 3 1 ((x54.1.Maps.getD 1 zm_api_Map).Nodes).length c62, .tok p63 9 1 ((x54.1.Maps.getD 2 zm_api_Map).Cuts).length c64, .tok p65 3 1 ((x54.1.Maps.getD 2 zm_api_Map).Nodes).length c66, .tok p67 9 1 ((x54.1.Maps.getD 3 zm_api_Map).Cuts).length c68, .tok p69 3 1 ((x54.1.Maps.getD 3 zm_api_Map).Nodes).length c70])) (Lf := (fun nn => [(2, pt b25 0), (5, pt b52 0), (6, pt b72 0), (8, pt b91 0), (11, pt b244 0), (33, vi 0), (44, .slice (some ⟨b106, 0, none⟩) 2 2), (45, vi 2), (46, vi 1), (69, vi (((x74.Maps.getD 0 zm_api_Map).Nodes).length : Int)), (70, vi y362), (74, .slice p77 nn c78), (75, vi y362), (78, vi (IntKind.i64.wrap (x367 + 1))), (79, .pointer (some ⟨b371, (f372 + Int.toNat y362 * 1), none⟩))])) [2, 5, 6, 8, 11, 33, 44, 45, 46, 69, 70, 74, 75, 78, 79] rfl (by kernel_rfl) fun a w hF hS => ?_)
 refine wpListIn_nil ?_
 refine hK365 _ _ ?_
 refine wpIn_region_lit ?_
 refine wp 2 [2, 5, 6, 8, 11, 33, 44, 45, 46, 69, 70] hF fun a hF => ?_
 refine wpListIn_nil ?_
 exact ⟨fuel4, Nat.lt_succ_self _, _, (List.set y361 (Int.toNat y362) (IntKind.i64.wrap (x367 + 1))), IntKind.i64.wrap (y362 + 1), hF.kp [2, 5, 6, 8, 11, 33, 44, 45, 46, 69, 70], hS.sp (rg 22) [15, 0, 16, 17, 18, 19, 20, 21, 22, 23, 24, 25, 26, 27, 28, 29, 30, 31, 32, 33, 2, 3, 4, 5, 6, 7, 8, 9, 10, 11, 12, 13, 14, 1, 34, 35, 36, 37, 38, 39, 40, 41, 42, 43, 44, 45, 46, 47, 48, 49], H⟩
 refine cond_f hF (by kernel_rfl) hb ?_
 refine wpIn_exit ?_
 refine hK242 _ _ ?_
 refine wpIn_region_lit ?_
 refine wl_pure (L' := [(2, pt b25 0), (5, pt b52 0), (6, pt b72 0), (8, pt b91 0), (33, vi 0), (44, .slice (some ⟨b106, 0, none⟩) 2 2), (45, vi 2), (46, vi 2)]) 2 [2, 5, 6, 8, 33, 44, 45, 46] hF (by kernel_rfl) fun a hF => ?_
 refine wpListIn_nil ?_
 refine round_go ?_
 refine wpIn_seq_k fun K373 hK373 => ?_
 refine wpIn_region_lit ?_
 refine wp 1 [2, 5, 6, 8, 33, 44, 45, 46, 47] hF fun a hF => ?_
 refine wpListIn_nil ?_
 refine hK373 _ _ ?_
 refine wpIn_seq_k fun K374 hK374 => ?_
 refine cond_f hF (by kernel_rfl) rfl ?_
 refine wpIn_exit ?_
 refine hK102 _ _ ?_
 refine wpIn_region_lit ?_
 refine wl_pure (L' := [(2, pt b25 0), (5, pt b52 0), (6, pt b72 0), (8, pt b91 0), (33, vi 1)]) 2 [2, 5, 6, 8, 33] hF (by kernel_rfl) fun a hF => ?_
 refine wpListIn_nil ?_
 refine round_go ?_
 refine wpIn_seq_k fun K375 hK375 => ?_
 refine wpIn_region_lit ?_
 refine wp 1 [2, 5, 6, 8, 33, 34] hF fun a hF => ?_
 refine wpListIn_nil ?_
 refine hK375 _ _ ?_
 refine wpIn_seq_k fun K376 hK376 => ?_
 refine cond_t hF (by kernel_rfl) rfl ?_
 refine wpIn_skip ?_
 refine hK376 _ _ ?_
 refine wpIn_seq_k fun K377 hK377 => ?_
 refine wpIn_block ?_
 refine wpIn_seq_k fun K378 hK378 => ?_
 refine wpIn_region_lit ?_
 refine wp 2 [2, 5, 6, 8, 9, 33] hF fun a hF => ?_
 refine wpListIn_nil ?_
 refine hK378 _ _ ?_
 refine wpIn_seq_k fun K379 hK379 => ?_
 refine rgS hS [] ?_
 have hS := hS.drew
 refine any_pure [0, 1, 2, 4, 5, 6, 10] [2, 5, 6, 8, 33, 38, 42, 46] (L' := [(2, pt b25 0), (5, pt b52 0), (6, pt b72 0), (8, pt b91 0), (33, vi 1), (38, pt b72 8), (42, pt b91 8), (46, vi 0)]) (listed' := (bitA 11 1143)) (fuel := 4) hF (hS.sx (rg 6) (rg 50)) (by kernel_rfl) (by intro c a w t v h; cases t <;> exact h) (by kernel_rfl) rfl fun a hF => ?_
 refine atk 3 (some 39) hF (hS.sx (rg 6) (rg 50)) rfl (vls 3 5 2) fun a hF => ?_
 refine atk 7 (some 43) hF (hS.sx (rg 6) (rg 50)) rfl (vls 2 5 2) fun a hF => ?_
 refine ago 8 hF rfl ?_
 refine wo_buildB (s := [sl p59 ((x54.1.Maps.getD 1 zm_api_Map).Cuts).length c60, sl p61 ((x54.1.Maps.getD 1 zm_api_Map).Nodes).length c62, sl p79 ((x74.Maps.getD 1 zm_api_Map).Cuts).length c80, sl p81 ((x74.Maps.getD 1 zm_api_Map).Nodes).length c82]) (vs := [(0, .agg (flat [sl p59 ((x54.1.Maps.getD 1 zm_api_Map).Cuts).length c60, sl p61 ((x54.1.Maps.getD 1 zm_api_Map).Nodes).length c62]).toArray), (1, .agg (flat [sl p79 ((x74.Maps.getD 1 zm_api_Map).Cuts).length c80, sl p81 ((x74.Maps.getD 1 zm_api_Map).Nodes).length c82]).toArray)]) (z := .agg (flat [sl none 0 0, sl none 0 0]).toArray) (sz := 2) (E := 25) hF hS (by kernel_rfl) rfl (by kernel_rfl) (show segGood [sl p59 ((x54.1.Maps.getD 1 zm_api_Map).Cuts).length c60, sl p61 ((x54.1.Maps.getD 1 zm_api_Map).Nodes).length c62, sl p79 ((x74.Maps.getD 1 zm_api_Map).Cuts).length c80, sl p81 ((x74.Maps.getD 1 zm_api_Map).Nodes).length c82] from (sgN 4 sgNil)).1 (by kernel_rfl) (by kernel_rfl) (by kernel_rfl) (by kernel_rfl) (by kernel_rfl) fun b381 a w hF hS => ?_
 refine ⟨fun _ => (hS.sx [1, 2, 3, 4, 5, 6] (rg 50)), ?_⟩
 refine any_pure [9] [2, 5, 6, 8, 33, 44, 45, 46] (L' := [(2, pt b25 0), (5, pt b52 0), (6, pt b72 0), (8, pt b91 0), (33, vi 1), (44, .slice (some ⟨b381, 0, none⟩) 2 2), (45, vi 2), (46, vi 0)]) (listed' := (bitA 11 2047)) (fuel := 0) hF (hS.sx [1, 2, 3, 4, 5, 6] (rg 50)) (by kernel_rfl) (by intro c a w t v h; cases t <;> exact h) (by kernel_rfl) rfl fun a hF => ?_
 refine and_ ?_
 refine hK379 _ _ ?_
 refine wpIn_block ?_
 refine loop_rounds 25 ?_
 refine round_go ?_
 refine wpIn_seq_k fun K382 hK382 => ?_
 refine wpIn_region_lit ?_
 refine wp 1 [2, 5, 6, 8, 33, 44, 45, 46, 47] hF fun a hF => ?_
 refine wpListIn_nil ?_
 refine hK382 _ _ ?_
 refine wpIn_seq_k fun K383 hK383 => ?_
 refine cond_t hF (by kernel_rfl) rfl ?_
 refine wpIn_skip ?_
 refine hK383 _ _ ?_
 refine wpIn_seq_k fun K384 hK384 => ?_
 refine wpIn_block ?_
 refine wpIn_seq_k fun K385 hK385 => ?_
 refine wpIn_region_lit ?_
 refine wp 1 [2, 5, 6, 8, 33, 44, 45, 46, 48] hF fun a hF => ?_
 refine wc (wls hF hS 0 0 2 fun a hF => ?_)
 refine wc (wal hF hS [sl none 0 0, sl none 0 0] (sgN 2 sgNil) fun b386 a w hF hS => ?_)
 refine wc (wst hF hS 0 0 2 [sl p59 ((x54.1.Maps.getD 1 zm_api_Map).Cuts).length c60, sl p61 ((x54.1.Maps.getD 1 zm_api_Map).Nodes).length c62] (sgN 2 sgNil) fun a w hF hS => ?_)
 refine wpListIn_nil ?_
 refine hK385 _ _ ?_
 refine wpIn_seq_k fun K387 hK387 => ?_
 refine wpIn_seq_k fun K388 hK388 => ?_
 refine wpIn_region_lit ?_
 refine wp 1 [2, 5, 6, 8, 11, 33, 44, 45, 46, 50] hF fun a hF => ?_
 refine wc (wld hF hS 0 0 0 fun a hF => ?_)
 refine wp 2 [2, 5, 6, 8, 11, 33, 44, 45, 46, 52, 53] hF fun a hF => ?_
 refine wpListIn_nil ?_
 refine hK388 _ _ ?_
 refine wpIn_block ?_
 refine loop_fuel (n := N) (fun n a w => ∃ (κ : Gh) (y439 : List ByteArray) (y440 : Int), Fr (89) [] [(2, pt b25 0), (5, pt b52 0), (6, pt b72 0), (8, pt b91 0), (11, pt b386 0), (33, vi 1), (44, .slice (some ⟨b381, 0, none⟩) 2 2), (45, vi 2), (46, vi 0), (52, vi (((x54.1.Maps.getD 1 zm_api_Map).Cuts).length : Int)), (53, vi y440)] a ∧ SS [] κ0 w0 κ w [.box b386 25 [sl p59 (y439).length c60, sl p61 ((x54.1.Maps.getD 1 zm_api_Map).Nodes).length c62], .box b381 25 [sl p59 (y439).length c60, sl p61 ((x54.1.Maps.getD 1 zm_api_Map).Nodes).length c62, sl p79 ((x74.Maps.getD 1 zm_api_Map).Cuts).length c80, sl p81 ((x74.Maps.getD 1 zm_api_Map).Nodes).length c82], .box b91 56 [si x74.Pool, si x74.Nodes, eb 4 x74.Members, sl p75 (y297).length c76, sl p77 (y361).length c78, sl p79 ((x74.Maps.getD 1 zm_api_Map).Cuts).length c80, sl p81 ((x74.Maps.getD 1 zm_api_Map).Nodes).length c82, sl p83 ((x74.Maps.getD 2 zm_api_Map).Cuts).length c84, sl p85 ((x74.Maps.getD 2 zm_api_Map).Nodes).length c86, sl p87 ((x74.Maps.getD 3 zm_api_Map).Cuts).length c88, sl p89 ((x74.Maps.getD 3 zm_api_Map).Nodes).length c90, ei 21 x74.Modes], .box b72 56 [si x54.1.Pool, si x54.1.Nodes, eb 4 x54.1.Members, sl p55 (y164).length c56, sl p57 (y228).length c58, sl p59 (y439).length c60, sl p61 ((x54.1.Maps.getD 1 zm_api_Map).Nodes).length c62, sl p63 ((x54.1.Maps.getD 2 zm_api_Map).Cuts).length c64, sl p65 ((x54.1.Maps.getD 2 zm_api_Map).Nodes).length c66, sl p67 ((x54.1.Maps.getD 3 zm_api_Map).Cuts).length c68, sl p69 ((x54.1.Maps.getD 3 zm_api_Map).Nodes).length c70, ei 21 x54.1.Modes], .box b52 60 [si x50.Pool, si x50.Nodes, eb 4 x50.Members, (8, cs51), ei 21 x50.Modes], .box b25 56 [si a1.Pool, si a1.Nodes, eb 4 a1.Members, sl p8 ((a1.Maps.getD 0 zm_api_Map).Cuts).length c9, sl p10 ((a1.Maps.getD 0 zm_api_Map).Nodes).length c11, sl p12 ((a1.Maps.getD 1 zm_api_Map).Cuts).length c13, sl p14 ((a1.Maps.getD 1 zm_api_Map).Nodes).length c15, sl p16 ((a1.Maps.getD 2 zm_api_Map).Cuts).length c17, sl p18 ((a1.Maps.getD 2 zm_api_Map).Nodes).length c19, sl p20 ((a1.Maps.getD 3 zm_api_Map).Cuts).length c21, sl p22 ((a1.Maps.getD 3 zm_api_Map).Nodes).length c23, ei 21 a1.Modes], .tok p59 9 1 (y439).length c60, .tok p77 3 1 (y361).length c78, .tok p75 9 1 (y297).length c76, .tok p57 3 1 (y228).length c58, .tok p55 9 1 (y164).length c56, .tok p79 9 1 ((x74.Maps.getD 1 zm_api_Map).Cuts).length c80, .tok p81 3 1 ((x74.Maps.getD 1 zm_api_Map).Nodes).length c82, .tok p83 9 1 ((x74.Maps.getD 2 zm_api_Map).Cuts).length c84, .tok p85 3 1 ((x74.Maps.getD 2 zm_api_Map).Nodes).length c86, .tok p87 9 1 ((x74.Maps.getD 3 zm_api_Map).Cuts).length c88, .tok p89 3 1 ((x74.Maps.getD 3 zm_api_Map).Nodes).length c90, .tok p61 3 1 ((x54.1.Maps.getD 1 zm_api_Map).Nodes).length c62, .tok p63 9 1 ((x54.1.Maps.getD 2 zm_api_Map).Cuts).length c64, .tok p65 3 1 ((x54.1.Maps.getD 2 zm_api_Map).Nodes).length c66, .tok p67 9 1 ((x54.1.Maps.getD 3 zm_api_Map).Cuts).length c68, .tok p69 3 1 ((x54.1.Maps.getD 3 zm_api_Map).Nodes).length c70] [Ro.mp fStr.ty p59 c60 y439, Ro.mp (fInt .i64).ty p61 c62 ((x54.1.Maps.getD 1 zm_api_Map).Nodes), Ro.mp fStr.ty p79 c80 ((x74.Maps.getD 1 zm_api_Map).Cuts), Ro.mp (fInt .i64).ty p81 c82 ((x74.Maps.getD 1 zm_api_Map).Nodes), ml x74.Members 4, Ro.mp fStr.ty p75 c76 y297, Ro.mp (fInt .i64).ty p77 c78 y361, Ro.mp fStr.ty p83 c84 ((x74.Maps.getD 2 zm_api_Map).Cuts), Ro.mp (fInt .i64).ty p85 c86 ((x74.Maps.getD 2 zm_api_Map).Nodes), Ro.mp fStr.ty p87 c88 ((x74.Maps.getD 3 zm_api_Map).Cuts), Ro.mp (fInt .i64).ty p89 c90 ((x74.Maps.getD 3 zm_api_Map).Nodes), ml x74.Modes 21, ml x54.1.Members 4, Ro.mp fStr.ty p55 c56 y164, Ro.mp (fInt .i64).ty p57 c58 y228, Ro.mp fStr.ty p63 c64 ((x54.1.Maps.getD 2 zm_api_Map).Cuts), Ro.mp (fInt .i64).ty p65 c66 ((x54.1.Maps.getD 2 zm_api_Map).Nodes), Ro.mp fStr.ty p67 c68 ((x54.1.Maps.getD 3 zm_api_Map).Cuts), Ro.mp (fInt .i64).ty p69 c70 ((x54.1.Maps.getD 3 zm_api_Map).Nodes), ml x54.1.Modes 21, ml x50.Members 4, Arr.mp t_api_Map cs51 4 x50.Maps, ml x50.Modes 21, ml a1.Members 4, Ro.mp fStr.ty p8 c9 ((a1.Maps.getD 0 zm_api_Map).Cuts), Ro.mp (fInt .i64).ty p10 c11 ((a1.Maps.getD 0 zm_api_Map).Nodes), Ro.mp fStr.ty p12 c13 ((a1.Maps.getD 1 zm_api_Map).Cuts), Ro.mp (fInt .i64).ty p14 c15 ((a1.Maps.getD 1 zm_api_Map).Nodes), Ro.mp fStr.ty p16 c17 ((a1.Maps.getD 2 zm_api_Map).Cuts), Ro.mp (fInt .i64).ty p18 c19 ((a1.Maps.getD 2 zm_api_Map).Nodes), Ro.mp fStr.ty p20 c21 ((a1.Maps.getD 3 zm_api_Map).Cuts), Ro.mp (fInt .i64).ty p22 c23 ((a1.Maps.getD 3 zm_api_Map).Nodes), ml a1.Modes 21, MP.since κ71 w71, MP.old p59 w71, MP.old p61 w71, MP.old p79 w71, MP.old p81 w71, MP.old p75 w71, MP.old p77 w71, MP.old p83 w71, MP.old p85 w71, MP.old p87 w71, MP.old p89 w71, MP.old p55 w71, MP.old p57 w71, MP.old p63 w71, MP.old p65 w71, MP.old p67 w71, MP.old p69 w71] ∧ M.law18_ConfigOwns_x_L5 N n a1 x50 x54 x74 y164 y228 y297 y361 y439 y440 = some r) ?_ ?_
 exact ⟨_, (x54.1.Maps.getD 1 zm_api_Map).Cuts, 0, hF.kp [2, 5, 6, 8, 11, 33, 44, 45, 46, 52, 53], hS.sp [0, 1, 4, 5, 6, 7, 18, 8, 9, 10, 11, 12, 13, 14, 15, 16, 17, 19, 20, 21, 22, 23] [13, 14, 5, 6, 4, 0, 1, 7, 8, 9, 10, 11, 12, 2, 3, 15, 16, 17, 18, 19, 20, 21, 22, 23, 24, 25, 26, 27, 28, 29, 30, 31, 32, 33, 44, 45, 38, 39, 34, 35, 40, 41, 42, 43, 36, 37, 46, 47, 48, 49], H⟩
 rintro n a w ⟨κ, y439, y440, hF, hS, H⟩
 rcases n with _ | fuel5
 simp [M.law18_ConfigOwns_x_L5] at H
 simp only [M.law18_ConfigOwns_x_L5] at H
 refine wpIn_seq_k fun K441 hK441 => ?_
 refine wpIn_region_lit ?_
 refine wp 1 [2, 5, 6, 8, 11, 33, 44, 45, 46, 52, 53, 54] hF fun a hF => ?_
 refine wpListIn_nil ?_
 refine hK441 _ _ ?_
 refine wpIn_seq_k fun K442 hK442 => ?_
 refine bif_split H (fun hb H => ?_) (fun hb H => ?_)
 refine cond_t hF (by kernel_rfl) hb ?_
 refine wpIn_skip ?_
 refine hK442 _ _ ?_
 refine wpIn_seq_k fun K443 hK443 => ?_
 refine wpIn_block ?_
 refine wpIn_seq_k fun K444 hK444 => ?_
 refine wpIn_region_lit ?_
 refine wp 2 [2, 5, 6, 8, 11, 12, 33, 44, 45, 46, 52, 53] hF fun a hF => ?_
 refine wpListIn_nil ?_
 refine hK444 _ _ ?_
 refine rgS hS [10] ?_
 have hS := hS.drew
 refine any_pure [0, 2, 3, 5] [2, 5, 6, 8, 11, 33, 44, 45, 46, 52, 53, 56, 58, 59, 61] (L' := [(2, pt b25 0), (5, pt b52 0), (6, pt b72 0), (8, pt b91 0), (11, pt b386 0), (33, vi 1), (44, .slice (some ⟨b381, 0, none⟩) 2 2), (45, vi 2), (46, vi 0), (52, vi (((x54.1.Maps.getD 1 zm_api_Map).Cuts).length : Int)), (53, vi y440), (56, pt b386 0), (58, vi y440), (59, pt b386 0), (61, vi y440)]) (listed' := (bitA 11 45)) (fuel := 7) hF (hS.sx (rg 6) (rg 50)) (by kernel_rfl) (by intro c a w t v h; cases t <;> exact h) (by kernel_rfl) rfl fun a hF => ?_
 refine atk 1 (some 57) hF (hS.sx (rg 6) (rg 50)) rfl (vld 0 0 0) fun a hF => ?_
 refine atk 4 (some 60) hF (hS.sx (rg 6) (rg 50)) rfl (vld 0 0 0) fun a hF => ?_
 refine bind_split H (fun x445 hx445 H => ?_)
 obtain ⟨b446, f447, hpx445⟩ := hS.ptr 0 rfl hx445
 refine atk 6 (some 62) hF (hS.sx (rg 6) (rg 50)) rfl (fun w _ => val_index (E := 9) (sz := 1) rfl hpx445 rfl (by kernel_rfl) rfl hx445 (by kernel_rfl) (by kernel_rfl) w) fun a hF => ?_
 refine atk 7 (some 63) hF (hS.sx (rg 6) (rg 50)) rfl (val_loadRo (t := fStr) 0 0 (v := .string (x445)) rfl rfl hpx445 rfl hx445 (by kernel_rfl) (by kernel_rfl) (by kernel_rfl)) fun a hF => ?_
 refine ago 8 hF rfl ?_
 refine bind_split H (fun x448 hx448 H => ?_)
 refine wo_callP hF hS (by kernel_rfl) (by kernel_rfl) (C_law18_other N hS.fresh x445  ((hS.pick [] (by kernel_rfl)).ro) hx448) ?_
 rintro _ κ w a ⟨rfl, hR, hN⟩ hF hS hO
 refine ⟨fun _ => (hS.sx (rg 6) (rg 50)), ?_⟩
 refine bind_split H (fun x449 hx449 H => ?_)
 obtain ⟨b450, f451, hpx449⟩ := hS.ptr 0 rfl hx449
 refine atk 9 (some 65) hF (hS.sx (rg 6) (rg 50)) rfl (fun w _ => val_index (E := 9) (sz := 1) rfl hpx449 rfl (by kernel_rfl) rfl hx449 (by kernel_rfl) (by kernel_rfl) w) fun a hF => ?_
 refine ago 10 hF rfl ?_
 refine wo_storeTokS (t := fStr) (y := x449) (z := x448) (v := .string (x448)) (vs := (flat [sg x448])) (sz := 1) hF hS hfr hf71 hw71 hR71 (by kernel_rfl) 6 0 33 34 0 rfl rfl (by kernel_rfl) rfl rfl rfl hpx449 hx449 rfl (by kernel_rfl) (by kernel_rfl) rfl (show segGood [sg x448] from (sgN 1 sgNil)).2 rfl (by decide) rfl rfl (nfC nfB (nfC nfB (nfC nfB (nfC nfB (nfC nfB (nfC nfB (nfC nfT (nfC nfT (nfC nfT (nfC nfT (nfC nfT (nfC nfT (nfC nfT (nfC nfT (nfC nfT (nfC nfT (nfC nfT (nfC nfT (nfC nfT (nfC nfT (nfC nfT (nfC nfT nfN)))))))))))))))))))))) [2, 3, 4, 26, 23, 24, 21, 22, 19, 20, 17, 18, 27] [1, 2, 3, 4, 5, 6, 7, 8, 9, 10, 11, 12, 13, 14, 15, 16, 17, 18, 19, 34, 35, 36, 37, 38, 39, 40, 41, 42, 43, 44, 45, 46, 47, 48, 49] (Ra := [ml x50.Members 4, Arr.mp t_api_Map cs51 4 x50.Maps, ml x50.Modes 21, ml a1.Members 4, Ro.mp fStr.ty p8 c9 ((a1.Maps.getD 0 zm_api_Map).Cuts), Ro.mp (fInt .i64).ty p10 c11 ((a1.Maps.getD 0 zm_api_Map).Nodes), Ro.mp fStr.ty p12 c13 ((a1.Maps.getD 1 zm_api_Map).Cuts), Ro.mp (fInt .i64).ty p14 c15 ((a1.Maps.getD 1 zm_api_Map).Nodes), Ro.mp fStr.ty p16 c17 ((a1.Maps.getD 2 zm_api_Map).Cuts), Ro.mp (fInt .i64).ty p18 c19 ((a1.Maps.getD 2 zm_api_Map).Nodes), Ro.mp fStr.ty p20 c21 ((a1.Maps.getD 3 zm_api_Map).Cuts), Ro.mp (fInt .i64).ty p22 c23 ((a1.Maps.getD 3 zm_api_Map).Nodes), ml a1.Modes 21]) (Rb := [Ro.mp (fInt .i64).ty p61 c62 ((x54.1.Maps.getD 1 zm_api_Map).Nodes), Ro.mp fStr.ty p79 c80 ((x74.Maps.getD 1 zm_api_Map).Cuts), Ro.mp (fInt .i64).ty p81 c82 ((x74.Maps.getD 1 zm_api_Map).Nodes), ml x74.Members 4, Ro.mp fStr.ty p75 c76 y297, Ro.mp (fInt .i64).ty p77 c78 y361, Ro.mp fStr.ty p83 c84 ((x74.Maps.getD 2 zm_api_Map).Cuts), Ro.mp (fInt .i64).ty p85 c86 ((x74.Maps.getD 2 zm_api_Map).Nodes), Ro.mp fStr.ty p87 c88 ((x74.Maps.getD 3 zm_api_Map).Cuts), Ro.mp (fInt .i64).ty p89 c90 ((x74.Maps.getD 3 zm_api_Map).Nodes), ml x74.Modes 21, ml x54.1.Members 4, Ro.mp fStr.ty p55 c56 y164, Ro.mp (fInt .i64).ty p57 c58 y228, Ro.mp fStr.ty p63 c64 ((x54.1.Maps.getD 2 zm_api_Map).Cuts), Ro.mp (fInt .i64).ty p65 c66 ((x54.1.Maps.getD 2 zm_api_Map).Nodes), Ro.mp fStr.ty p67 c68 ((x54.1.Maps.getD 3 zm_api_Map).Cuts), Ro.mp (fInt .i64).ty p69 c70 ((x54.1.Maps.getD 3 zm_api_Map).Nodes), ml x54.1.Modes 21, MP.old p59 w71, MP.old p61 w71, MP.old p79 w71, MP.old p81 w71, MP.old p75 w71, MP.old p77 w71, MP.old p83 w71, MP.old p85 w71, MP.old p87 w71, MP.old p89 w71, MP.old p55 w71, MP.old p57 w71, MP.old p63 w71, MP.old p65 w71, MP.old p67 w71, MP.old p69 w71]) rfl rfl (aC (apart_ro (hS.tokApart 6 17 hpx449 rfl rfl (by decide))) (aC (apart_ro (hS.tokApart 6 11 hpx449 rfl rfl (by decide))) (aC (apart_ro (hS.tokApart 6 12 hpx449 rfl rfl (by decide))) (aK (aC (apart_ro (hS.tokApart 6 8 hpx449 rfl rfl (by decide))) (aC (apart_ro (hS.tokApart 6 7 hpx449 rfl rfl (by decide))) (aC (apart_ro (hS.tokApart 6 13 hpx449 rfl rfl (by decide))) (aC (apart_ro (hS.tokApart 6 14 hpx449 rfl rfl (by decide))) (aC (apart_ro (hS.tokApart 6 15 hpx449 rfl rfl (by decide))) (aC (apart_ro (hS.tokApart 6 16 hpx449 rfl rfl (by decide))) (aK (aK (aC (apart_ro (hS.tokApart 6 10 hpx449 rfl rfl (by decide))) (aC (apart_ro (hS.tokApart 6 9 hpx449 rfl rfl (by decide))) (aC (apart_ro (hS.tokApart 6 18 hpx449 rfl rfl (by decide))) (aC (apart_ro (hS.tokApart 6 19 hpx449 rfl rfl (by decide))) (aC (apart_ro (hS.tokApart 6 20 hpx449 rfl rfl (by decide))) (aC (apart_ro (hS.tokApart 6 21 hpx449 rfl rfl (by decide))) (aK (aK (aK (aK (aK (aK (aK (aK (aK (aK (aK (aK (aK (aK (aK (aK (aK aN))))))))))))))))))))))))))))))))))) (Cf := (fun nn => [.box b386 25 [sl p59 nn c60, sl p61 ((x54.1.Maps.getD 1 zm_api_Map).Nodes).length c62], .box b381 25 [sl p59 nn c60, sl p61 ((x54.1.Maps.getD 1 zm_api_Map).Nodes).length c62, sl p79 ((x74.Maps.getD 1 zm_api_Map).Cuts).length c80, sl p81 ((x74.Maps.getD 1 zm_api_Map).Nodes).length c82], .box b91 56 [si x74.Pool, si x74.Nodes, eb 4 x74.Members, sl p75 (y297).length c76, sl p77 (y361).length c78, sl p79 ((x74.Maps.getD 1 zm_api_Map).Cuts).length c80, sl p81 ((x74.Maps.getD 1 zm_api_Map).Nodes).length c82, sl p83 ((x74.Maps.getD 2 zm_api_Map).Cuts).length c84, sl p85 ((x74.Maps.getD 2 zm_api_Map).Nodes).length c86, sl p87 ((x74.Maps.getD 3 zm_api_Map).Cuts).length c88, sl p89 ((x74.Maps.getD 3 zm_api_Map).Nodes).length c90, ei 21 x74.Modes], .box b72 56 [si x54.1.Pool, si x54.1.Nodes, eb 4 x54.1.Members, sl p55 (y164).length c56, sl p57 (y228).length c58, sl p59 nn c60, sl p61 ((x54.1.Maps.getD 1 zm_api_Map).Nodes).length c62, sl p63 ((x54.1.Maps.getD 2 zm_api_Map).Cuts).length c64, sl p65 ((x54.1.Maps.getD 2 zm_api_Map).Nodes).length c66, sl p67 ((x54.1.Maps.getD 3 zm_api_Map).Cuts).length c68, sl p69 ((x54.1.Maps.getD 3 zm_api_Map).Nodes).length c70, ei 21 x54.1.Modes], .box b52 60 [si x50.Pool, si x50.Nodes, eb 4 x50.Members, (8, cs51), ei 21 x50.Modes], .box b25 56 [si a1.Pool, si a1.Nodes, eb 4 a1.Members, sl p8 ((a1.Maps.getD 0 zm_api_Map).Cuts).length c9, sl p10 ((a1.Maps.getD 0 zm_api_Map).Nodes).length c11, sl p12 ((a1.Maps.getD 1 zm_api_Map).Cuts).length c13, sl p14 ((a1.Maps.getD 1 zm_api_Map).Nodes).length c15, sl p16 ((a1.Maps.getD 2 zm_api_Map).Cuts).length c17, sl p18 ((a1.Maps.getD 2 zm_api_Map).Nodes).length c19, sl p20 ((a1.Maps.getD 3 zm_api_Map).Cuts).length c21, sl p22 ((a1.Maps.getD 3 zm_api_Map).Nodes).length c23, ei 21 a1.Modes], .tok p59 9 1 nn c60, .tok p77 3 1 (y361).length c78, .tok p75 9 1 (y297).length c76, .tok p57 3 1 (y228).length c58, .tok p55 9 1 (y164).length c56, .tok p79 9 1 ((x74.Maps.getD 1 zm_api_Map).Cuts).length c80, .tok p81 3 1 ((x74.Maps.getD 1 zm_api_Map).Nodes).length c82, .tok p83 9 1 ((x74.Maps.getD 2 zm_api_Map).Cuts).length c84, .tok p85 3 1 ((x74.Maps.getD 2 zm_api_Map).Nodes).length c86, .tok p87 9 1 ((x74.Maps.getD 3 zm_api_Map).Cuts).length c88, .tok p89 3 1 ((x74.Maps.getD 3 zm_api_Map).Nodes).length c90, .tok p61 3 1 ((x54.1.Maps.getD 1 zm_api_Map).Nodes).length c62, .tok p63 9 1 ((x54.1.Maps.getD 2 zm_api_Map).Cuts).length c64, .tok p65 3 1 ((x54.1.Maps.getD 2 zm_api_Map).Nodes).length c66, .tok p67 9 1 ((x54.1.Maps.getD 3 zm_api_Map).Cuts).length c68, .tok p69 3 1 ((x54.1.Maps.getD 3 zm_api_Map).Nodes).length c70])) (Lf := (fun nn => [(2, pt b25 0), (5, pt b52 0), (6, pt b72 0), (8, pt b91 0), (11, pt b386 0), (33, vi 1), (44, .slice (some ⟨b381, 0, none⟩) 2 2), (45, vi 2), (46, vi 0), (52, vi (((x54.1.Maps.getD 1 zm_api_Map).Cuts).length : Int)), (53, vi y440), (56, pt b386 0), (57, .slice p59 nn c60), (58, vi y440), (59, pt b386 0), (60, .slice p59 nn c60), (61, vi y440), (62, .pointer (some ⟨b446, (f447 + Int.toNat y440 * 1), none⟩)), (63, .string (x445)), (64, .string (x448)), (65, .pointer (some ⟨b450, (f451 + Int.toNat y440 * 1), none⟩))])) [2, 5, 6, 8, 11, 33, 44, 45, 46, 52, 53, 56, 57, 58, 59, 60, 61, 62, 63, 64, 65] rfl (by kernel_rfl) fun a w hF hS => ?_
 refine ⟨notE, ?_⟩
 refine and_ ?_
 refine hK443 _ _ ?_
 refine wpIn_region_lit ?_
 refine wp 2 [2, 5, 6, 8, 11, 33, 44, 45, 46, 52, 53] hF fun a hF => ?_
 refine wpListIn_nil ?_
 exact ⟨fuel5, Nat.lt_succ_self _, _, (List.set y439 (Int.toNat y440) x448), IntKind.i64.wrap (y440 + 1), hF.kp [2, 5, 6, 8, 11, 33, 44, 45, 46, 52, 53], hS.sp (rg 22) [0, 15, 16, 17, 18, 19, 20, 21, 22, 23, 24, 25, 26, 27, 28, 29, 30, 31, 32, 33, 2, 3, 4, 5, 6, 7, 8, 9, 10, 11, 12, 13, 14, 1, 34, 35, 36, 37, 38, 39, 40, 41, 42, 43, 44, 45, 46, 47, 48, 49], H⟩
 refine cond_f hF (by kernel_rfl) hb ?_
 refine wpIn_exit ?_
 refine hK387 _ _ ?_
 refine wpIn_seq_k fun K452 hK452 => ?_
 refine wpIn_region_lit ?_
 refine wp 1 [2, 5, 6, 8, 11, 33, 44, 45, 46, 67] hF fun a hF => ?_
 refine wc (wld hF hS 0 1 0 fun a hF => ?_)
 refine wp 2 [2, 5, 6, 8, 11, 33, 44, 45, 46, 69, 70] hF fun a hF => ?_
 refine wpListIn_nil ?_
 refine hK452 _ _ ?_
 refine wpIn_block ?_
 refine loop_fuel (n := N) (fun n a w => ∃ (κ : Gh) (y503 : List Int) (y504 : Int), Fr (89) [] [(2, pt b25 0), (5, pt b52 0), (6, pt b72 0), (8, pt b91 0), (11, pt b386 0), (33, vi 1), (44, .slice (some ⟨b381, 0, none⟩) 2 2), (45, vi 2), (46, vi 0), (69, vi (((x54.1.Maps.getD 1 zm_api_Map).Nodes).length : Int)), (70, vi y504)] a ∧ SS [] κ0 w0 κ w [.box b386 25 [sl p59 (y439).length c60, sl p61 (y503).length c62], .box b381 25 [sl p59 (y439).length c60, sl p61 (y503).length c62, sl p79 ((x74.Maps.getD 1 zm_api_Map).Cuts).length c80, sl p81 ((x74.Maps.getD 1 zm_api_Map).Nodes).length c82], .box b91 56 [si x74.Pool, si x74.Nodes, eb 4 x74.Members, sl p75 (y297).length c76, sl p77 (y361).length c78, sl p79 ((x74.Maps.getD 1 zm_api_Map).Cuts).length c80, sl p81 ((x74.Maps.getD 1 zm_api_Map).Nodes).length c82, sl p83 ((x74.Maps.getD 2 zm_api_Map).Cuts).length c84, sl p85 ((x74.Maps.getD 2 zm_api_Map).Nodes).length c86, sl p87 ((x74.Maps.getD 3 zm_api_Map).Cuts).length c88, sl p89 ((x74.Maps.getD 3 zm_api_Map).Nodes).length c90, ei 21 x74.Modes], .box b72 56 [si x54.1.Pool, si x54.1.Nodes, eb 4 x54.1.Members, sl p55 (y164).length c56, sl p57 (y228).length c58, sl p59 (y439).length c60, sl p61 (y503).length c62, sl p63 ((x54.1.Maps.getD 2 zm_api_Map).Cuts).length c64, sl p65 ((x54.1.Maps.getD 2 zm_api_Map).Nodes).length c66, sl p67 ((x54.1.Maps.getD 3 zm_api_Map).Cuts).length c68, sl p69 ((x54.1.Maps.getD 3 zm_api_Map).Nodes).length c70, ei 21 x54.1.Modes], .box b52 60 [si x50.Pool, si x50.Nodes, eb 4 x50.Members, (8, cs51), ei 21 x50.Modes], .box b25 56 [si a1.Pool, si a1.Nodes, eb 4 a1.Members, sl p8 ((a1.Maps.getD 0 zm_api_Map).Cuts).length c9, sl p10 ((a1.Maps.getD 0 zm_api_Map).Nodes).length c11, sl p12 ((a1.Maps.getD 1 zm_api_Map).Cuts).length c13, sl p14 ((a1.Maps.getD 1 zm_api_Map).Nodes).length c15, sl p16 ((a1.Maps.getD 2 zm_api_Map).Cuts).length c17, sl p18 ((a1.Maps.getD 2 zm_api_Map).Nodes).length c19, sl p20 ((a1.Maps.getD 3 zm_api_Map).Cuts).length c21, sl p22 ((a1.Maps.getD 3 zm_api_Map).Nodes).length c23, ei 21 a1.Modes], .tok p61 3 1 (y503).length c62, .tok p59 9 1 (y439).length c60, .tok p77 3 1 (y361).length c78, .tok p75 9 1 (y297).length c76, .tok p57 3 1 (y228).length c58, .tok p55 9 1 (y164).length c56, .tok p79 9 1 ((x74.Maps.getD 1 zm_api_Map).Cuts).length c80, .tok p81 3 1 ((x74.Maps.getD 1 zm_api_Map).Nodes).length c82, .tok p83 9 1 ((x74.Maps.getD 2 zm_api_Map).Cuts).length c84, .tok p85 3 1 ((x74.Maps.getD 2 zm_api_Map).Nodes).length c86, .tok p87 9 1 ((x74.Maps.getD 3 zm_api_Map).Cuts).length c88, .tok p89 3 1 ((x74.Maps.getD 3 zm_api_Map).Nodes).length c90, .tok p63 9 1 ((x54.1.Maps.getD 2 zm_api_Map).Cuts).length c64, .tok p65 3 1 ((x54.1.Maps.getD 2 zm_api_Map).Nodes).length c66, .tok p67 9 1 ((x54.1.Maps.getD 3 zm_api_Map).Cuts).length c68, .tok p69 3 1 ((x54.1.Maps.getD 3 zm_api_Map).Nodes).length c70] [Ro.mp fStr.ty p59 c60 y439, Ro.mp (fInt .i64).ty p61 c62 y503, Ro.mp fStr.ty p79 c80 ((x74.Maps.getD 1 zm_api_Map).Cuts), Ro.mp (fInt .i64).ty p81 c82 ((x74.Maps.getD 1 zm_api_Map).Nodes), ml x74.Members 4, Ro.mp fStr.ty p75 c76 y297, Ro.mp (fInt .i64).ty p77 c78 y361, Ro.mp fStr.ty p83 c84 ((x74.Maps.getD 2 zm_api_Map).Cuts), Ro.mp (fInt .i64).ty p85 c86 ((x74.Maps.getD 2 zm_api_Map).Nodes), Ro.mp fStr.ty p87 c88 ((x74.Maps.getD 3 zm_api_Map).Cuts), Ro.mp (fInt .i64).ty p89 c90 ((x74.Maps.getD 3 zm_api_Map).Nodes), ml x74.Modes 21, ml x54.1.Members 4, Ro.mp fStr.ty p55 c56 y164, Ro.mp (fInt .i64).ty p57 c58 y228, Ro.mp fStr.ty p63 c64 ((x54.1.Maps.getD 2 zm_api_Map).Cuts), Ro.mp (fInt .i64).ty p65 c66 ((x54.1.Maps.getD 2 zm_api_Map).Nodes), Ro.mp fStr.ty p67 c68 ((x54.1.Maps.getD 3 zm_api_Map).Cuts), Ro.mp (fInt .i64).ty p69 c70 ((x54.1.Maps.getD 3 zm_api_Map).Nodes), ml x54.1.Modes 21, ml x50.Members 4, Arr.mp t_api_Map cs51 4 x50.Maps, ml x50.Modes 21, ml a1.Members 4, Ro.mp fStr.ty p8 c9 ((a1.Maps.getD 0 zm_api_Map).Cuts), Ro.mp (fInt .i64).ty p10 c11 ((a1.Maps.getD 0 zm_api_Map).Nodes), Ro.mp fStr.ty p12 c13 ((a1.Maps.getD 1 zm_api_Map).Cuts), Ro.mp (fInt .i64).ty p14 c15 ((a1.Maps.getD 1 zm_api_Map).Nodes), Ro.mp fStr.ty p16 c17 ((a1.Maps.getD 2 zm_api_Map).Cuts), Ro.mp (fInt .i64).ty p18 c19 ((a1.Maps.getD 2 zm_api_Map).Nodes), Ro.mp fStr.ty p20 c21 ((a1.Maps.getD 3 zm_api_Map).Cuts), Ro.mp (fInt .i64).ty p22 c23 ((a1.Maps.getD 3 zm_api_Map).Nodes), ml a1.Modes 21, MP.since κ71 w71, MP.old p59 w71, MP.old p61 w71, MP.old p79 w71, MP.old p81 w71, MP.old p75 w71, MP.old p77 w71, MP.old p83 w71, MP.old p85 w71, MP.old p87 w71, MP.old p89 w71, MP.old p55 w71, MP.old p57 w71, MP.old p63 w71, MP.old p65 w71, MP.old p67 w71, MP.old p69 w71] ∧ M.law18_ConfigOwns_x_L6 N n a1 x50 x54 x74 y164 y228 y297 y361 y439 y503 y504 = some r) ?_ ?_
 exact ⟨_, (x54.1.Maps.getD 1 zm_api_Map).Nodes, 0, hF.kp [2, 5, 6, 8, 11, 33, 44, 45, 46, 69, 70], hS.sp [0, 1, 2, 3, 4, 5, 17, 6, 7, 8, 9, 10, 11, 12, 13, 14, 15, 16, 18, 19, 20, 21] (rg 50), H⟩
 rintro n a w ⟨κ, y503, y504, hF, hS, H⟩
 rcases n with _ | fuel6
 simp [M.law18_ConfigOwns_x_L6] at H
 simp only [M.law18_ConfigOwns_x_L6] at H
 refine wpIn_seq_k fun K505 hK505 => ?_
 refine wpIn_region_lit ?_
 refine wp 1 [2, 5, 6, 8, 11, 33, 44, 45, 46, 69, 70, 71] hF fun a hF => ?_
 refine wpListIn_nil ?_
 refine hK505 _ _ ?_
 refine wpIn_seq_k fun K506 hK506 => ?_
 refine bif_split H (fun hb H => ?_) (fun hb H => ?_)
 refine cond_t hF (by kernel_rfl) hb ?_
 refine wpIn_skip ?_
 refine hK506 _ _ ?_
 refine wpIn_seq_k fun K507 hK507 => ?_
 refine wpIn_block ?_
 refine wpIn_seq_k fun K508 hK508 => ?_
 refine wpIn_region_lit ?_
 refine wp 2 [2, 5, 6, 8, 11, 13, 33, 44, 45, 46, 69, 70] hF fun a hF => ?_
 refine wpListIn_nil ?_
 refine hK508 _ _ ?_
 refine wpIn_region_lit ?_
 refine wp 1 [2, 5, 6, 8, 11, 13, 33, 44, 45, 46, 69, 70, 73] hF fun a hF => ?_
 refine wc (wld hF hS 0 1 0 fun a hF => ?_)
 refine wl_pure (L' := [(2, pt b25 0), (5, pt b52 0), (6, pt b72 0), (8, pt b91 0), (11, pt b386 0), (33, vi 1), (44, .slice (some ⟨b381, 0, none⟩) 2 2), (45, vi 2), (46, vi 0), (69, vi (((x54.1.Maps.getD 1 zm_api_Map).Nodes).length : Int)), (70, vi y504), (74, .slice p61 (y503).length c62), (75, vi y504)]) 1 [2, 5, 6, 8, 11, 33, 44, 45, 46, 69, 70, 74, 75] hF (by kernel_rfl) fun a hF => ?_
 refine bind_split H (fun x509 hx509 H => ?_)
 refine wc (wo_index hF hS (by kernel_rfl) 1 (E := 3) (sz := 1) rfl rfl rfl (by kernel_rfl) rfl hx509 (by kernel_rfl) (by kernel_rfl) fun b510 f511 a hpx509 hF => ?_)
 refine wc (wo_loadRo (t := (fInt .i64)) hF hS (by kernel_rfl) 1 0 (v := vi x509) rfl rfl hpx509 rfl hx509 (by kernel_rfl) (by kernel_rfl) (by kernel_rfl) fun a hF => ?_)
 refine wl_pure (L' := [(2, pt b25 0), (5, pt b52 0), (6, pt b72 0), (8, pt b91 0), (11, pt b386 0), (33, vi 1), (44, .slice (some ⟨b381, 0, none⟩) 2 2), (45, vi 2), (46, vi 0), (69, vi (((x54.1.Maps.getD 1 zm_api_Map).Nodes).length : Int)), (70, vi y504), (74, .slice p61 (y503).length c62), (75, vi y504), (78, vi (IntKind.i64.wrap (x509 + 1)))]) 1 [2, 5, 6, 8, 11, 33, 44, 45, 46, 69, 70, 74, 75, 78] hF (by kernel_rfl) fun a hF => ?_
 refine bind_split H (fun x512 hx512 H => ?_)
 refine wc (wo_index hF hS (by kernel_rfl) 1 (E := 3) (sz := 1) rfl rfl rfl (by kernel_rfl) rfl hx512 (by kernel_rfl) (by kernel_rfl) fun b513 f514 a hpx512 hF => ?_)
 refine wc (wo_storeTokS (t := (fInt .i64)) (y := x512) (z := IntKind.i64.wrap (x509 + 1)) (v := vi (IntKind.i64.wrap (x509 + 1))) (vs := (flat [si (IntKind.i64.wrap (x509 + 1))])) (sz := 1) hF hS hfr hf71 hw71 hR71 (by kernel_rfl) 6 1 33 35 0 rfl rfl (by kernel_rfl) rfl rfl rfl hpx512 hx512 rfl (by kernel_rfl) (by kernel_rfl) rfl (show segGood [si (IntKind.i64.wrap (x509 + 1))] from (sgN 1 sgNil)).2 rfl (by decide) rfl rfl (nfC nfB (nfC nfB (nfC nfB (nfC nfB (nfC nfB (nfC nfB (nfC nfT (nfC nfT (nfC nfT (nfC nfT (nfC nfT (nfC nfT (nfC nfT (nfC nfT (nfC nfT (nfC nfT (nfC nfT (nfC nfT (nfC nfT (nfC nfT (nfC nfT (nfC nfT nfN)))))))))))))))))))))) [2, 3, 4, 26, 23, 24, 21, 22, 19, 20, 17, 18, 27] [0, 2, 3, 4, 5, 6, 7, 8, 9, 10, 11, 12, 13, 14, 15, 16, 17, 18, 19, 34, 35, 36, 37, 38, 39, 40, 41, 42, 43, 44, 45, 46, 47, 48, 49] (Ra := [ml x50.Members 4, Arr.mp t_api_Map cs51 4 x50.Maps, ml x50.Modes 21, ml a1.Members 4, Ro.mp fStr.ty p8 c9 ((a1.Maps.getD 0 zm_api_Map).Cuts), Ro.mp (fInt .i64).ty p10 c11 ((a1.Maps.getD 0 zm_api_Map).Nodes), Ro.mp fStr.ty p12 c13 ((a1.Maps.getD 1 zm_api_Map).Cuts), Ro.mp (fInt .i64).ty p14 c15 ((a1.Maps.getD 1 zm_api_Map).Nodes), Ro.mp fStr.ty p16 c17 ((a1.Maps.getD 2 zm_api_Map).Cuts), Ro.mp (fInt .i64).ty p18 c19 ((a1.Maps.getD 2 zm_api_Map).Nodes), Ro.mp fStr.ty p20 c21 ((a1.Maps.getD 3 zm_api_Map).Cuts), Ro.mp (fInt .i64).ty p22 c23 ((a1.Maps.getD 3 zm_api_Map).Nodes), ml a1.Modes 21]) (Rb := [Ro.mp fStr.ty p59 c60 y439, Ro.mp fStr.ty p79 c80 ((x74.Maps.getD 1 zm_api_Map).Cuts), Ro.mp (fInt .i64).ty p81 c82 ((x74.Maps.getD 1 zm_api_Map).Nodes), ml x74.Members 4, Ro.mp fStr.ty p75 c76 y297, Ro.mp (fInt .i64).ty p77 c78 y361, Ro.mp fStr.ty p83 c84 ((x74.Maps.getD 2 zm_api_Map).Cuts), Ro.mp (fInt .i64).ty p85 c86 ((x74.Maps.getD 2 zm_api_Map).Nodes), Ro.mp fStr.ty p87 c88 ((x74.Maps.getD 3 zm_api_Map).Cuts), Ro.mp (fInt .i64).ty p89 c90 ((x74.Maps.getD 3 zm_api_Map).Nodes), ml x74.Modes 21, ml x54.1.Members 4, Ro.mp fStr.ty p55 c56 y164, Ro.mp (fInt .i64).ty p57 c58 y228, Ro.mp fStr.ty p63 c64 ((x54.1.Maps.getD 2 zm_api_Map).Cuts), Ro.mp (fInt .i64).ty p65 c66 ((x54.1.Maps.getD 2 zm_api_Map).Nodes), Ro.mp fStr.ty p67 c68 ((x54.1.Maps.getD 3 zm_api_Map).Cuts), Ro.mp (fInt .i64).ty p69 c70 ((x54.1.Maps.getD 3 zm_api_Map).Nodes), ml x54.1.Modes 21, MP.old p59 w71, MP.old p61 w71, MP.old p79 w71, MP.old p81 w71, MP.old p75 w71, MP.old p77 w71, MP.old p83 w71, MP.old p85 w71, MP.old p87 w71, MP.old p89 w71, MP.old p55 w71, MP.old p57 w71, MP.old p63 w71, MP.old p65 w71, MP.old p67 w71, MP.old p69 w71]) rfl rfl (aC (apart_ro (hS.tokApart 6 7 hpx512 rfl rfl (by decide))) (aC (apart_ro (hS.tokApart 6 12 hpx512 rfl rfl (by decide))) (aC (apart_ro (hS.tokApart 6 13 hpx512 rfl rfl (by decide))) (aK (aC (apart_ro (hS.tokApart 6 9 hpx512 rfl rfl (by decide))) (aC (apart_ro (hS.tokApart 6 8 hpx512 rfl rfl (by decide))) (aC (apart_ro (hS.tokApart 6 14 hpx512 rfl rfl (by decide))) (aC (apart_ro (hS.tokApart 6 15 hpx512 rfl rfl (by decide))) (aC (apart_ro (hS.tokApart 6 16 hpx512 rfl rfl (by decide))) (aC (apart_ro (hS.tokApart 6 17 hpx512 rfl rfl (by decide))) (aK (aK (aC (apart_ro (hS.tokApart 6 11 hpx512 rfl rfl (by decide))) (aC (apart_ro (hS.tokApart 6 10 hpx512 rfl rfl (by decide))) (aC (apart_ro (hS.tokApart 6 18 hpx512 rfl rfl (by decide))) (aC (apart_ro (hS.tokApart 6 19 hpx512 rfl rfl (by decide))) (aC (apart_ro (hS.tokApart 6 20 hpx512 rfl rfl (by decide))) (aC (apart_ro (hS.tokApart 6 21 hpx512 rfl rfl (by decide))) (aK (aK (aK (aK (aK (aK (aK (aK (aK (aK (aK (aK (aK (aK (aK (aK (aK aN))))))))))))))))))))))))))))))))))) (Cf := (fun nn => [.box b386 25 [sl p59 (y439).length c60, sl p61 nn c62], .box b381 25 [sl p59 (y439).length c60, sl p61 nn c62, sl p79 ((x74.Maps.getD 1 zm_api_Map).Cuts).length c80, sl p81 ((x74.Maps.getD 1 zm_api_Map).Nodes).length c82], .box b91 56 [si x74.Pool, si x74.Nodes, eb 4 x74.Members, sl p75 (y297).length c76, sl p77 (y361).length c78, sl p79 ((x74.Maps.getD 1 zm_api_Map).Cuts).length c80, sl p81 ((x74.Maps.getD 1 zm_api_Map).Nodes).length c82, sl p83 ((x74.Maps.getD 2 zm_api_Map).Cuts).length c84, sl p85 ((x74.Maps.getD 2 zm_api_Map).Nodes).length c86, sl p87 ((x74.Maps.getD 3 zm_api_Map).Cuts).length c88, sl p89 ((x74.Maps.getD 3 zm_api_Map).Nodes).length c90, ei 21 x74.Modes], .box b72 56 [si x54.1.Pool, si x54.1.Nodes, eb 4 x54.1.Members, sl p55 (y164).length c56, sl p57 (y228).length c58, sl p59 (y439).length c60, sl p61 nn c62, sl p63 ((x54.1.Maps.getD 2 zm_api_Map).Cuts).length c64, sl p65 ((x54.1.Maps.getD 2 zm_api_Map).Nodes).length c66, sl p67 ((x54.1.Maps.getD 3 zm_api_Map).Cuts).length c68, sl p69 ((x54.1.Maps.getD 3 zm_api_Map).Nodes).length c70, ei 21 x54.1.Modes], .box b52 60 [si x50.Pool, si x50.Nodes, eb 4 x50.Members, (8, cs51), ei 21 x50.Modes], .box b25 56 [si a1.Pool, si a1.Nodes, eb 4 a1.Members, sl p8 ((a1.Maps.getD 0 zm_api_Map).Cuts).length c9, sl p10 ((a1.Maps.getD 0 zm_api_Map).Nodes).length c11, sl p12 ((a1.Maps.getD 1 zm_api_Map).Cuts).length c13, sl p14 ((a1.Maps.getD 1 zm_api_Map).Nodes).length c15, sl p16 ((a1.Maps.getD 2 zm_api_Map).Cuts).length c17, sl p18 ((a1.Maps.getD 2 zm_api_Map).Nodes).length c19, sl p20 ((a1.Maps.getD 3 zm_api_Map).Cuts).length c21, sl p22 ((a1.Maps.getD 3 zm_api_Map).Nodes).length c23, ei 21 a1.Modes], .tok p61 3 1 nn c62, .tok p59 9 1 (y439).length c60, .tok p77 3 1 (y361).length c78, .tok p75 9 1 (y297).length c76, .tok p57 3 1 (y228).length c58, .tok p55 9 1 (y164).length c56, .tok p79 9 1 ((x74.Maps.getD 1 zm_api_Map).Cuts).length c80, .tok p81 3 1 ((x74.Maps.getD 1 zm_api_Map).Nodes).length c82, .tok p83 9 1 ((x74.Maps.getD 2 zm_api_Map).Cuts).length c84, .tok p85 3 1 ((x74.Maps.getD 2 zm_api_Map).Nodes).length c86, .tok p87 9 1 ((x74.Maps.getD 3 zm_api_Map).Cuts).length c88, .tok p89 3 1 ((x74.Maps.getD 3 zm_api_Map).Nodes).length c90, .tok p63 9 1 ((x54.1.Maps.getD 2 zm_api_Map).Cuts).length c64, .tok p65 3 1 ((x54.1.Maps.getD 2 zm_api_Map).Nodes).length c66, .tok p67 9 1 ((x54.1.Maps.getD 3 zm_api_Map).Cuts).length c68, .tok p69 3 1 ((x54.1.Maps.getD 3 zm_api_Map).Nodes).length c70])) (Lf := (fun nn => [(2, pt b25 0), (5, pt b52 0), (6, pt b72 0), (8, pt b91 0), (11, pt b386 0), (33, vi 1), (44, .slice (some ⟨b381, 0, none⟩) 2 2), (45, vi 2), (46, vi 0), (69, vi (((x54.1.Maps.getD 1 zm_api_Map).Nodes).length : Int)), (70, vi y504), (74, .slice p61 nn c62), (75, vi y504), (78, vi (IntKind.i64.wrap (x509 + 1))), (79, .pointer (some ⟨b513, (f514 + Int.toNat y504 * 1), none⟩))])) [2, 5, 6, 8, 11, 33, 44, 45, 46, 69, 70, 74, 75, 78, 79] rfl (by kernel_rfl) fun a w hF hS => ?_)
 refine wpListIn_nil ?_
 refine hK507 _ _ ?_
 refine wpIn_region_lit ?_
 refine wp 2 [2, 5, 6, 8, 11, 33, 44, 45, 46, 69, 70] hF fun a hF => ?_
 refine wpListIn_nil ?_
 exact ⟨fuel6, Nat.lt_succ_self _, _, (List.set y503 (Int.toNat y504) (IntKind.i64.wrap (x509 + 1))), IntKind.i64.wrap (y504 + 1), hF.kp [2, 5, 6, 8, 11, 33, 44, 45, 46, 69, 70], hS.sp (rg 22) [15, 0, 16, 17, 18, 19, 20, 21, 22, 23, 24, 25, 26, 27, 28, 29, 30, 31, 32, 33, 2, 3, 4, 5, 6, 7, 8, 9, 10, 11, 12, 13, 14, 1, 34, 35, 36, 37, 38, 39, 40, 41, 42, 43, 44, 45, 46, 47, 48, 49], H⟩
 refine cond_f hF (by kernel_rfl) hb ?_
 refine wpIn_exit ?_
 refine hK384 _ _ ?_
 refine wpIn_region_lit ?_
 refine wl_pure (L' := [(2, pt b25 0), (5, pt b52 0), (6, pt b72 0), (8, pt b91 0), (33, vi 1), (44, .slice (some ⟨b381, 0, none⟩) 2 2), (45, vi 2), (46, vi 1)]) 2 [2, 5, 6, 8, 33, 44, 45, 46] hF (by kernel_rfl) fun a hF => ?_
 refine wpListIn_nil ?_
 refine round_go ?_
 refine wpIn_seq_k fun K515 hK515 => ?_
 refine wpIn_region_lit ?_
 refine wp 1 [2, 5, 6, 8, 33, 44, 45, 46, 47] hF fun a hF => ?_
 refine wpListIn_nil ?_
 refine hK515 _ _ ?_
 refine wpIn_seq_k fun K516 hK516 => ?_
 refine cond_t hF (by kernel_rfl) rfl ?_
 refine wpIn_skip ?_
 refine hK516 _ _ ?_
 refine wpIn_seq_k fun K517 hK517 => ?_
 refine wpIn_block ?_
 refine wpIn_seq_k fun K518 hK518 => ?_
 refine wpIn_region_lit ?_
 refine wp 1 [2, 5, 6, 8, 33, 44, 45, 46, 48] hF fun a hF => ?_
 refine wc (wls hF hS 1 2 2 fun a hF => ?_)
 refine wc (wal hF hS [sl none 0 0, sl none 0 0] (sgN 2 sgNil) fun b519 a w hF hS => ?_)
 refine wc (wst hF hS 0 0 2 [sl p79 ((x74.Maps.getD 1 zm_api_Map).Cuts).length c80, sl p81 ((x74.Maps.getD 1 zm_api_Map).Nodes).length c82] (sgN 2 sgNil) fun a w hF hS => ?_)
 refine wpListIn_nil ?_
 refine hK518 _ _ ?_
 refine wpIn_seq_k fun K520 hK520 => ?_
 refine wpIn_seq_k fun K521 hK521 => ?_
 refine wpIn_region_lit ?_
 refine wp 1 [2, 5, 6, 8, 11, 33, 44, 45, 46, 50] hF fun a hF => ?_
 refine wc (wld hF hS 0 0 0 fun a hF => ?_)
 refine wp 2 [2, 5, 6, 8, 11, 33, 44, 45, 46, 52, 53] hF fun a hF => ?_
 refine wpListIn_nil ?_
 refine hK521 _ _ ?_
 refine wpIn_block ?_
 refine loop_fuel (n := N) (fun n a w => ∃ (κ : Gh) (y572 : List ByteArray) (y573 : Int), Fr (89) [] [(2, pt b25 0), (5, pt b52 0), (6, pt b72 0), (8, pt b91 0), (11, pt b519 0), (33, vi 1), (44, .slice (some ⟨b381, 0, none⟩) 2 2), (45, vi 2), (46, vi 1), (52, vi (((x74.Maps.getD 1 zm_api_Map).Cuts).length : Int)), (53, vi y573)] a ∧ SS [] κ0 w0 κ w [.box b519 25 [sl p79 (y572).length c80, sl p81 ((x74.Maps.getD 1 zm_api_Map).Nodes).length c82], .box b381 25 [sl p59 (y439).length c60, sl p61 (y503).length c62, sl p79 (y572).length c80, sl p81 ((x74.Maps.getD 1 zm_api_Map).Nodes).length c82], .box b91 56 [si x74.Pool, si x74.Nodes, eb 4 x74.Members, sl p75 (y297).length c76, sl p77 (y361).length c78, sl p79 (y572).length c80, sl p81 ((x74.Maps.getD 1 zm_api_Map).Nodes).length c82, sl p83 ((x74.Maps.getD 2 zm_api_Map).Cuts).length c84, sl p85 ((x74.Maps.getD 2 zm_api_Map).Nodes).length c86, sl p87 ((x74.Maps.getD 3 zm_api_Map).Cuts).length c88, sl p89 ((x74.Maps.getD 3 zm_api_Map).Nodes).length c90, ei 21 x74.Modes], .box b72 56 [si x54.1.Pool, si x54.1.Nodes, eb 4 x54.1.Members, sl p55 (y164).length c56, sl p57 (y228).length c58, sl p59 (y439).length c60, sl p61 (y503).length c62, sl p63 ((x54.1.Maps.getD 2 zm_api_Map).Cuts).length c64, sl p65 ((x54.1.Maps.getD 2 zm_api_Map).Nodes).length c66, sl p67 ((x54.1.Maps.getD 3 zm_api_Map).Cuts).length c68, sl p69 ((x54.1.Maps.getD 3 zm_api_Map).Nodes).length c70, ei 21 x54.1.Modes], .box b52 60 [si x50.Pool, si x50.Nodes, eb 4 x50.Members, (8, cs51), ei 21 x50.Modes], .box b25 56 [si a1.Pool, si a1.Nodes, eb 4 a1.Members, sl p8 ((a1.Maps.getD 0 zm_api_Map).Cuts).length c9, sl p10 ((a1.Maps.getD 0 zm_api_Map).Nodes).length c11, sl p12 ((a1.Maps.getD 1 zm_api_Map).Cuts).length c13, sl p14 ((a1.Maps.getD 1 zm_api_Map).Nodes).length c15, sl p16 ((a1.Maps.getD 2 zm_api_Map).Cuts).length c17, sl p18 ((a1.Maps.getD 2 zm_api_Map).Nodes).length c19, sl p20 ((a1.Maps.getD 3 zm_api_Map).Cuts).length c21, sl p22 ((a1.Maps.getD 3 zm_api_Map).Nodes).length c23, ei 21 a1.Modes], .tok p79 9 1 (y572).length c80, .tok p61 3 1 (y503).length c62, .tok p59 9 1 (y439).length c60, .tok p77 3 1 (y361).length c78, .tok p75 9 1 (y297).length c76, .tok p57 3 1 (y228).length c58, .tok p55 9 1 (y164).length c56, .tok p81 3 1 ((x74.Maps.getD 1 zm_api_Map).Nodes).length c82, .tok p83 9 1 ((x74.Maps.getD 2 zm_api_Map).Cuts).length c84, .tok p85 3 1 ((x74.Maps.getD 2 zm_api_Map).Nodes).length c86, .tok p87 9 1 ((x74.Maps.getD 3 zm_api_Map).Cuts).length c88, .tok p89 3 1 ((x74.Maps.getD 3 zm_api_Map).Nodes).length c90, .tok p63 9 1 ((x54.1.Maps.getD 2 zm_api_Map).Cuts).length c64, .tok p65 3 1 ((x54.1.Maps.getD 2 zm_api_Map).Nodes).length c66, .tok p67 9 1 ((x54.1.Maps.getD 3 zm_api_Map).Cuts).length c68, .tok p69 3 1 ((x54.1.Maps.getD 3 zm_api_Map).Nodes).length c70] [Ro.mp fStr.ty p79 c80 y572, Ro.mp (fInt .i64).ty p81 c82 ((x74.Maps.getD 1 zm_api_Map).Nodes), Ro.mp fStr.ty p59 c60 y439, Ro.mp (fInt .i64).ty p61 c62 y503, ml x74.Members 4, Ro.mp fStr.ty p75 c76 y297, Ro.mp (fInt .i64).ty p77 c78 y361, Ro.mp fStr.ty p83 c84 ((x74.Maps.getD 2 zm_api_Map).Cuts), Ro.mp (fInt .i64).ty p85 c86 ((x74.Maps.getD 2 zm_api_Map).Nodes), Ro.mp fStr.ty p87 c88 ((x74.Maps.getD 3 zm_api_Map).Cuts), Ro.mp (fInt .i64).ty p89 c90 ((x74.Maps.getD 3 zm_api_Map).Nodes), ml x74.Modes 21, ml x54.1.Members 4, Ro.mp fStr.ty p55 c56 y164, Ro.mp (fInt .i64).ty p57 c58 y228, Ro.mp fStr.ty p63 c64 ((x54.1.Maps.getD 2 zm_api_Map).Cuts), Ro.mp (fInt .i64).ty p65 c66 ((x54.1.Maps.getD 2 zm_api_Map).Nodes), Ro.mp fStr.ty p67 c68 ((x54.1.Maps.getD 3 zm_api_Map).Cuts), Ro.mp (fInt .i64).ty p69 c70 ((x54.1.Maps.getD 3 zm_api_Map).Nodes), ml x54.1.Modes 21, ml x50.Members 4, Arr.mp t_api_Map cs51 4 x50.Maps, ml x50.Modes 21, ml a1.Members 4, Ro.mp fStr.ty p8 c9 ((a1.Maps.getD 0 zm_api_Map).Cuts), Ro.mp (fInt .i64).ty p10 c11 ((a1.Maps.getD 0 zm_api_Map).Nodes), Ro.mp fStr.ty p12 c13 ((a1.Maps.getD 1 zm_api_Map).Cuts), Ro.mp (fInt .i64).ty p14 c15 ((a1.Maps.getD 1 zm_api_Map).Nodes), Ro.mp fStr.ty p16 c17 ((a1.Maps.getD 2 zm_api_Map).Cuts), Ro.mp (fInt .i64).ty p18 c19 ((a1.Maps.getD 2 zm_api_Map).Nodes), Ro.mp fStr.ty p20 c21 ((a1.Maps.getD 3 zm_api_Map).Cuts), Ro.mp (fInt .i64).ty p22 c23 ((a1.Maps.getD 3 zm_api_Map).Nodes), ml a1.Modes 21, MP.since κ71 w71, MP.old p79 w71, MP.old p81 w71, MP.old p59 w71, MP.old p61 w71, MP.old p75 w71, MP.old p77 w71, MP.old p83 w71, MP.old p85 w71, MP.old p87 w71, MP.old p89 w71, MP.old p55 w71, MP.old p57 w71, MP.old p63 w71, MP.old p65 w71, MP.old p67 w71, MP.old p69 w71] ∧ M.law18_ConfigOwns_x_L7 N n a1 x50 x54 x74 y164 y228 y297 y361 y439 y503 y572 y573 = some r) ?_ ?_
 exact ⟨_, (x74.Maps.getD 1 zm_api_Map).Cuts, 0, hF.kp [2, 5, 6, 8, 11, 33, 44, 45, 46, 52, 53], hS.sp [0, 2, 3, 4, 5, 6, 13, 7, 8, 9, 10, 11, 12, 14, 15, 16, 17, 18, 19, 20, 21, 22] [2, 3, 0, 1, 4, 5, 6, 7, 8, 9, 10, 11, 12, 13, 14, 15, 16, 17, 18, 19, 20, 21, 22, 23, 24, 25, 26, 27, 28, 29, 30, 31, 32, 33, 36, 37, 34, 35, 38, 39, 40, 41, 42, 43, 44, 45, 46, 47, 48, 49], H⟩
 rintro n a w ⟨κ, y572, y573, hF, hS, H⟩
 rcases n with _ | fuel7
 simp [M.law18_ConfigOwns_x_L7] at H
 simp only [M.law18_ConfigOwns_x_L7] at H
 refine wpIn_seq_k fun K574 hK574 => ?_
 refine wpIn_region_lit ?_
 refine wp 1 [2, 5, 6, 8, 11, 33, 44, 45, 46, 52, 53, 54] hF fun a hF => ?_
 refine wpListIn_nil ?_
 refine hK574 _ _ ?_
 refine wpIn_seq_k fun K575 hK575 => ?_
 refine bif_split H (fun hb H => ?_) (fun hb H => ?_)
 refine cond_t hF (by kernel_rfl) hb ?_
 refine wpIn_skip ?_
 refine hK575 _ _ ?_
 refine wpIn_seq_k fun K576 hK576 => ?_
 refine wpIn_block ?_
 refine wpIn_seq_k fun K577 hK577 => ?_
 refine wpIn_region_lit ?_
 refine wp 2 [2, 5, 6, 8, 11, 12, 33, 44, 45, 46, 52, 53] hF fun a hF => ?_
 refine wpListIn_nil ?_
 refine hK577 _ _ ?_
 refine rgS hS [10] ?_
 have hS := hS.drew
 refine any_pure [0, 2, 3, 5] [2, 5, 6, 8, 11, 33, 44, 45, 46, 52, 53, 56, 58, 59, 61] (L' := [(2, pt b25 0), (5, pt b52 0), (6, pt b72 0), (8, pt b91 0), (11, pt b519 0), (33, vi 1), (44, .slice (some ⟨b381, 0, none⟩) 2 2), (45, vi 2), (46, vi 1), (52, vi (((x74.Maps.getD 1 zm_api_Map).Cuts).length : Int)), (53, vi y573), (56, pt b519 0), (58, vi y573), (59, pt b519 0), (61, vi y573)]) (listed' := (bitA 11 45)) (fuel := 7) hF (hS.sx (rg 6) (rg 50)) (by kernel_rfl) (by intro c a w t v h; cases t <;> exact h) (by kernel_rfl) rfl fun a hF => ?_
 refine atk 1 (some 57) hF (hS.sx (rg 6) (rg 50)) rfl (vld 0 0 0) fun a hF => ?_
 refine atk 4 (some 60) hF (hS.sx (rg 6) (rg 50)) rfl (vld 0 0 0) fun a hF => ?_
 refine bind_split H (fun x578 hx578 H => ?_)
 obtain ⟨b579, f580, hpx578⟩ := hS.ptr 0 rfl hx578
 refine atk 6 (some 62) hF (hS.sx (rg 6) (rg 50)) rfl (fun w _ => val_index (E := 9) (sz := 1) rfl hpx578 rfl (by kernel_rfl) rfl hx578 (by kernel_rfl) (by kernel_rfl) w) fun a hF => ?_
 refine atk 7 (some 63) hF (hS.sx (rg 6) (rg 50)) rfl (val_loadRo (t := fStr) 0 0 (v := .string (x578)) rfl rfl hpx578 rfl hx578 (by kernel_rfl) (by kernel_rfl) (by kernel_rfl)) fun a hF => ?_
 refine ago 8 hF rfl ?_
 refine bind_split H (fun x581 hx581 H => ?_)
 refine wo_callP hF hS (by kernel_rfl) (by kernel_rfl) (C_law18_other N hS.fresh x578  ((hS.pick [] (by kernel_rfl)).ro) hx581) ?_
 rintro _ κ w a ⟨rfl, hR, hN⟩ hF hS hO
 refine ⟨fun _ => (hS.sx (rg 6) (rg 50)), ?_⟩
 refine bind_split H (fun x582 hx582 H => ?_)
 obtain ⟨b583, f584, hpx582⟩ := hS.ptr 0 rfl hx582
 refine atk 9 (some 65) hF (hS.sx (rg 6) (rg 50)) rfl (fun w _ => val_index (E := 9) (sz := 1) rfl hpx582 rfl (by kernel_rfl) rfl hx582 (by kernel_rfl) (by kernel_rfl) w) fun a hF => ?_
 refine ago 10 hF rfl ?_
 refine wo_storeTokS (t := fStr) (y := x582) (z := x581) (v := .string (x581)) (vs := (flat [sg x581])) (sz := 1) hF hS hfr hf71 hw71 hR71 (by kernel_rfl) 6 0 33 34 0 rfl rfl (by kernel_rfl) rfl rfl rfl hpx582 hx582 rfl (by kernel_rfl) (by kernel_rfl) rfl (show segGood [sg x581] from (sgN 1 sgNil)).2 rfl (by decide) rfl rfl (nfC nfB (nfC nfB (nfC nfB (nfC nfB (nfC nfB (nfC nfB (nfC nfT (nfC nfT (nfC nfT (nfC nfT (nfC nfT (nfC nfT (nfC nfT (nfC nfT (nfC nfT (nfC nfT (nfC nfT (nfC nfT (nfC nfT (nfC nfT (nfC nfT (nfC nfT nfN)))))))))))))))))))))) [2, 3, 4, 26, 23, 24, 21, 22, 19, 20, 17, 18, 27] [1, 2, 3, 4, 5, 6, 7, 8, 9, 10, 11, 12, 13, 14, 15, 16, 17, 18, 19, 34, 35, 36, 37, 38, 39, 40, 41, 42, 43, 44, 45, 46, 47, 48, 49] (Ra := [ml x50.Members 4, Arr.mp t_api_Map cs51 4 x50.Maps, ml x50.Modes 21, ml a1.Members 4, Ro.mp fStr.ty p8 c9 ((a1.Maps.getD 0 zm_api_Map).Cuts), Ro.mp (fInt .i64).ty p10 c11 ((a1.Maps.getD 0 zm_api_Map).Nodes), Ro.mp fStr.ty p12 c13 ((a1.Maps.getD 1 zm_api_Map).Cuts), Ro.mp (fInt .i64).ty p14 c15 ((a1.Maps.getD 1 zm_api_Map).Nodes), Ro.mp fStr.ty p16 c17 ((a1.Maps.getD 2 zm_api_Map).Cuts), Ro.mp (fInt .i64).ty p18 c19 ((a1.Maps.getD 2 zm_api_Map).Nodes), Ro.mp fStr.ty p20 c21 ((a1.Maps.getD 3 zm_api_Map).Cuts), Ro.mp (fInt .i64).ty p22 c23 ((a1.Maps.getD 3 zm_api_Map).Nodes), ml a1.Modes 21]) (Rb := [Ro.mp (fInt .i64).ty p81 c82 ((x74.Maps.getD 1 zm_api_Map).Nodes), Ro.mp fStr.ty p59 c60 y439, Ro.mp (fInt .i64).ty p61 c62 y503, ml x74.Members 4, Ro.mp fStr.ty p75 c76 y297, Ro.mp (fInt .i64).ty p77 c78 y361, Ro.mp fStr.ty p83 c84 ((x74.Maps.getD 2 zm_api_Map).Cuts), Ro.mp (fInt .i64).ty p85 c86 ((x74.Maps.getD 2 zm_api_Map).Nodes), Ro.mp fStr.ty p87 c88 ((x74.Maps.getD 3 zm_api_Map).Cuts), Ro.mp (fInt .i64).ty p89 c90 ((x74.Maps.getD 3 zm_api_Map).Nodes), ml x74.Modes 21, ml x54.1.Members 4, Ro.mp fStr.ty p55 c56 y164, Ro.mp (fInt .i64).ty p57 c58 y228, Ro.mp fStr.ty p63 c64 ((x54.1.Maps.getD 2 zm_api_Map).Cuts), Ro.mp (fInt .i64).ty p65 c66 ((x54.1.Maps.getD 2 zm_api_Map).Nodes), Ro.mp fStr.ty p67 c68 ((x54.1.Maps.getD 3 zm_api_Map).Cuts), Ro.mp (fInt .i64).ty p69 c70 ((x54.1.Maps.getD 3 zm_api_Map).Nodes), ml x54.1.Modes 21, MP.old p79 w71, MP.old p81 w71, MP.old p59 w71, MP.old p61 w71, MP.old p75 w71, MP.old p77 w71, MP.old p83 w71, MP.old p85 w71, MP.old p87 w71, MP.old p89 w71, MP.old p55 w71, MP.old p57 w71, MP.old p63 w71, MP.old p65 w71, MP.old p67 w71, MP.old p69 w71]) rfl rfl (aC (apart_ro (hS.tokApart 6 13 hpx582 rfl rfl (by decide))) (aC (apart_ro (hS.tokApart 6 8 hpx582 rfl rfl (by decide))) (aC (apart_ro (hS.tokApart 6 7 hpx582 rfl rfl (by decide))) (aK (aC (apart_ro (hS.tokApart 6 10 hpx582 rfl rfl (by decide))) (aC (apart_ro (hS.tokApart 6 9 hpx582 rfl rfl (by decide))) (aC (apart_ro (hS.tokApart 6 14 hpx582 rfl rfl (by decide))) (aC (apart_ro (hS.tokApart 6 15 hpx582 rfl rfl (by decide))) (aC (apart_ro (hS.tokApart 6 16 hpx582 rfl rfl (by decide))) (aC (apart_ro (hS.tokApart 6 17 hpx582 rfl rfl (by decide))) (aK (aK (aC (apart_ro (hS.tokApart 6 12 hpx582 rfl rfl (by decide))) (aC (apart_ro (hS.tokApart 6 11 hpx582 rfl rfl (by decide))) (aC (apart_ro (hS.tokApart 6 18 hpx582 rfl rfl (by decide))) (aC (apart_ro (hS.tokApart 6 19 hpx582 rfl rfl (by decide))) (aC (apart_ro (hS.tokApart 6 20 hpx582 rfl rfl (by decide))) (aC (apart_ro (hS.tokApart 6 21 hpx582 rfl rfl (by decide))) (aK (aK (aK (aK (aK (aK (aK (aK (aK (aK (aK (aK (aK (aK (aK (aK (aK aN))))))))))))))))))))))))))))))))))) (Cf := (fun nn => [.box b519 25 [sl p79 nn c80, sl p81 ((x74.Maps.getD 1 zm_api_Map).Nodes).length c82], .box b381 25 [sl p59 (y439).length c60, sl p61 (y503).length c62, sl p79 nn c80, sl p81 ((x74.Maps.getD 1 zm_api_Map).Nodes).length c82], .box b91 56 [si x74.Pool, si x74.Nodes, eb 4 x74.Members, sl p75 (y297).length c76, sl p77 (y361).length c78, sl p79 nn c80, sl p81 ((x74.Maps.getD 1 zm_api_Map).Nodes).length c82, sl p83 ((x74.Maps.getD 2 zm_api_Map).Cuts).length c84, sl p85 ((x74.Maps.getD 2 zm_api_Map).Nodes).length c86, sl p87 ((x74.Maps.getD 3 zm_api_Map).Cuts).length c88, sl p89 ((x74.Maps.getD 3 zm_api_Map).Nodes).length c90, ei 21 x74.Modes], .box b72 56 [si x54.1.Pool, si x54.1.Nodes, eb 4 x54.1.Members, sl p55 (y164).length c56, sl p57 (y228).length c58, sl p59 (y439).length c60, sl p61 (y503).length c62, sl p63 ((x54.1.Maps.getD 2 zm_api_Map).Cuts).length c64, sl p65 ((x54.1.Maps.getD 2 zm_api_Map).Nodes).length c66, sl p67 ((x54.1.Maps.getD 3 zm_api_Map).Cuts).length c68, sl p69 ((x54.1.Maps.getD 3 zm_api_Map).Nodes).length c70, ei 21 x54.1.Modes], .box b52 60 [si x50.Pool, si x50.Nodes, eb 4 x50.Members, (8, cs51), ei 21 x50.Modes], .box b25 56 [si a1.Pool, si a1.Nodes, eb 4 a1.Members, sl p8 ((a1.Maps.getD 0 zm_api_Map).Cuts).length c9, sl p10 ((a1.Maps.getD 0 zm_api_Map).Nodes).length c11, sl p12 ((a1.Maps.getD 1 zm_api_Map).Cuts).length c13, sl p14 ((a1.Maps.getD 1 zm_api_Map).Nodes).length c15, sl p16 ((a1.Maps.getD 2 zm_api_Map).Cuts).length c17, sl p18 ((a1.Maps.getD 2 zm_api_Map).Nodes).length c19, sl p20 ((a1.Maps.getD 3 zm_api_Map).Cuts).length c21, sl p22 ((a1.Maps.getD 3 zm_api_Map).Nodes).length c23, ei 21 a1.Modes], .tok p79 9 1 nn c80, .tok p61 3 1 (y503).length c62, .tok p59 9 1 (y439).length c60, .tok p77 3 1 (y361).length c78, .tok p75 9 1 (y297).length c76, .tok p57 3 1 (y228).length c58, .tok p55 9 1 (y164).length c56, .tok p81 3 1 ((x74.Maps.getD 1 zm_api_Map).Nodes).length c82, .tok p83 9 1 ((x74.Maps.getD 2 zm_api_Map).Cuts).length c84, .tok p85 3 1 ((x74.Maps.getD 2 zm_api_Map).Nodes).length c86, .tok p87 9 1 ((x74.Maps.getD 3 zm_api_Map).Cuts).length c88, .tok p89 3 1 ((x74.Maps.getD 3 zm_api_Map).Nodes).length c90, .tok p63 9 1 ((x54.1.Maps.getD 2 zm_api_Map).Cuts).length c64, .tok p65 3 1 ((x54.1.Maps.getD 2 zm_api_Map).Nodes).length c66, .tok p67 9 1 ((x54.1.Maps.getD 3 zm_api_Map).Cuts).length c68, .tok p69 3 1 ((x54.1.Maps.getD 3 zm_api_Map).Nodes).length c70])) (Lf := (fun nn => [(2, pt b25 0), (5, pt b52 0), (6, pt b72 0), (8, pt b91 0), (11, pt b519 0), (33, vi 1), (44, .slice (some ⟨b381, 0, none⟩) 2 2), (45, vi 2), (46, vi 1), (52, vi (((x74.Maps.getD 1 zm_api_Map).Cuts).length : Int)), (53, vi y573), (56, pt b519 0), (57, .slice p79 nn c80), (58, vi y573), (59, pt b519 0), (60, .slice p79 nn c80), (61, vi y573), (62, .pointer (some ⟨b579, (f580 + Int.toNat y573 * 1), none⟩)), (63, .string (x578)), (64, .string (x581)), (65, .pointer (some ⟨b583, (f584 + Int.toNat y573 * 1), none⟩))])) [2, 5, 6, 8, 11, 33, 44, 45, 46, 52, 53, 56, 57, 58, 59, 60, 61, 62, 63, 64, 65] rfl (by kernel_rfl) fun a w hF hS => ?_
 refine ⟨notE, ?_⟩
 refine and_ ?_
 refine hK576 _ _ ?_
 refine wpIn_region_lit ?_
 refine wp 2 [2, 5, 6, 8, 11, 33, 44, 45, 46, 52, 53] hF fun a hF => ?_
 refine wpListIn_nil ?_
 exact ⟨fuel7, Nat.lt_succ_self _, _, (List.set y572 (Int.toNat y573) x581), IntKind.i64.wrap (y573 + 1), hF.kp [2, 5, 6, 8, 11, 33, 44, 45, 46, 52, 53], hS.sp (rg 22) [0, 15, 16, 17, 18, 19, 20, 21, 22, 23, 24, 25, 26, 27, 28, 29, 30, 31, 32, 33, 2, 3, 4, 5, 6, 7, 8, 9, 10, 11, 12, 13, 14, 1, 34, 35, 36, 37, 38, 39, 40, 41, 42, 43, 44, 45, 46, 47, 48, 49], H⟩
 refine cond_f hF (by kernel_rfl) hb ?_
 refine wpIn_exit ?_
 refine hK520 _ _ ?_
 refine wpIn_seq_k fun K585 hK585 => ?_
 refine wpIn_region_lit ?_
 refine wp 1 [2, 5, 6, 8, 11, 33, 44, 45, 46, 67] hF fun a hF => ?_
 refine wc (wld hF hS 0 1 0 fun a hF => ?_)
 refine wp 2 [2, 5, 6, 8, 11, 33, 44, 45, 46, 69, 70] hF fun a hF => ?_
 refine wpListIn_nil ?_
 refine hK585 _ _ ?_
 refine wpIn_block ?_
 refine loop_fuel (n := N) (fun n a w => ∃ (κ : Gh) (y636 : List Int) (y637 : Int), Fr (89) [] [(2, pt b25 0), (5, pt b52 0), (6, pt b72 0), (8, pt b91 0), (11, pt b519 0), (33, vi 1), (44, .slice (some ⟨b381, 0, none⟩) 2 2), (45, vi 2), (46, vi 1), (69, vi (((x74.Maps.getD 1 zm_api_Map).Nodes).length : Int)), (70, vi y637)] a ∧ SS [] κ0 w0 κ w [.box b519 25 [sl p79 (y572).length c80, sl p81 (y636).length c82], .box b381 25 [sl p59 (y439).length c60, sl p61 (y503).length c62, sl p79 (y572).length c80, sl p81 (y636).length c82], .box b91 56 [si x74.Pool, si x74.Nodes, eb 4 x74.Members, sl p75 (y297).length c76, sl p77 (y361).length c78, sl p79 (y572).length c80, sl p81 (y636).length c82, sl p83 ((x74.Maps.getD 2 zm_api_Map).Cuts).length c84, sl p85 ((x74.Maps.getD 2 zm_api_Map).Nodes).length c86, sl p87 ((x74.Maps.getD 3 zm_api_Map).Cuts).length c88, sl p89 ((x74.Maps.getD 3 zm_api_Map).Nodes).length c90, ei 21 x74.Modes], .box b72 56 [si x54.1.Pool, si x54.1.Nodes, eb 4 x54.1.Members, sl p55 (y164).length c56, sl p57 (y228).length c58, sl p59 (y439).length c60, sl p61 (y503).length c62, sl p63 ((x54.1.Maps.getD 2 zm_api_Map).Cuts).length c64, sl p65 ((x54.1.Maps.getD 2 zm_api_Map).Nodes).length c66, sl p67 ((x54.1.Maps.getD 3 zm_api_Map).Cuts).length c68, sl p69 ((x54.1.Maps.getD 3 zm_api_Map).Nodes).length c70, ei 21 x54.1.Modes], .box b52 60 [si x50.Pool, si x50.Nodes, eb 4 x50.Members, (8, cs51), ei 21 x50.Modes], .box b25 56 [si a1.Pool, si a1.Nodes, eb 4 a1.Members, sl p8 ((a1.Maps.getD 0 zm_api_Map).Cuts).length c9, sl p10 ((a1.Maps.getD 0 zm_api_Map).Nodes).length c11, sl p12 ((a1.Maps.getD 1 zm_api_Map).Cuts).length c13, sl p14 ((a1.Maps.getD 1 zm_api_Map).Nodes).length c15, sl p16 ((a1.Maps.getD 2 zm_api_Map).Cuts).length c17, sl p18 ((a1.Maps.getD 2 zm_api_Map).Nodes).length c19, sl p20 ((a1.Maps.getD 3 zm_api_Map).Cuts).length c21, sl p22 ((a1.Maps.getD 3 zm_api_Map).Nodes).length c23, ei 21 a1.Modes], .tok p81 3 1 (y636).length c82, .tok p79 9 1 (y572).length c80, .tok p61 3 1 (y503).length c62, .tok p59 9 1 (y439).length c60, .tok p77 3 1 (y361).length c78, .tok p75 9 1 (y297).length c76, .tok p57 3 1 (y228).length c58, .tok p55 9 1 (y164).length c56, .tok p83 9 1 ((x74.Maps.getD 2 zm_api_Map).Cuts).length c84, .tok p85 3 1 ((x74.Maps.getD 2 zm_api_Map).Nodes).length c86, .tok p87 9 1 ((x74.Maps.getD 3 zm_api_Map).Cuts).length c88, .tok p89 3 1 ((x74.Maps.getD 3 zm_api_Map).Nodes).length c90, .tok p63 9 1 ((x54.1.Maps.getD 2 zm_api_Map).Cuts).length c64, .tok p65 3 1 ((x54.1.Maps.getD 2 zm_api_Map).Nodes).length c66, .tok p67 9 1 ((x54.1.Maps.getD 3 zm_api_Map).Cuts).length c68, .tok p69 3 1 ((x54.1.Maps.getD 3 zm_api_Map).Nodes).length c70] [Ro.mp fStr.ty p79 c80 y572, Ro.mp (fInt .i64).ty p81 c82 y636, Ro.mp fStr.ty p59 c60 y439, Ro.mp (fInt .i64).ty p61 c62 y503, ml x74.Members 4, Ro.mp fStr.ty p75 c76 y297, Ro.mp (fInt .i64).ty p77 c78 y361, Ro.mp fStr.ty p83 c84 ((x74.Maps.getD 2 zm_api_Map).Cuts), Ro.mp (fInt .i64).ty p85 c86 ((x74.Maps.getD 2 zm_api_Map).Nodes), Ro.mp fStr.ty p87 c88 ((x74.Maps.getD 3 zm_api_Map).Cuts), Ro.mp (fInt .i64).ty p89 c90 ((x74.Maps.getD 3 zm_api_Map).Nodes), ml x74.Modes 21, ml x54.1.Members 4, Ro.mp fStr.ty p55 c56 y164, Ro.mp (fInt .i64).ty p57 c58 y228, Ro.mp fStr.ty p63 c64 ((x54.1.Maps.getD 2 zm_api_Map).Cuts), Ro.mp (fInt .i64).ty p65 c66 ((x54.1.Maps.getD 2 zm_api_Map).Nodes), Ro.mp fStr.ty p67 c68 ((x54.1.Maps.getD 3 zm_api_Map).Cuts), Ro.mp (fInt .i64).ty p69 c70 ((x54.1.Maps.getD 3 zm_api_Map).Nodes), ml x54.1.Modes 21, ml x50.Members 4, Arr.mp t_api_Map cs51 4 x50.Maps, ml x50.Modes 21, ml a1.Members 4, Ro.mp fStr.ty p8 c9 ((a1.Maps.getD 0 zm_api_Map).Cuts), Ro.mp (fInt .i64).ty p10 c11 ((a1.Maps.getD 0 zm_api_Map).Nodes), Ro.mp fStr.ty p12 c13 ((a1.Maps.getD 1 zm_api_Map).Cuts), Ro.mp (fInt .i64).ty p14 c15 ((a1.Maps.getD 1 zm_api_Map).Nodes), Ro.mp fStr.ty p16 c17 ((a1.Maps.getD 2 zm_api_Map).Cuts), Ro.mp (fInt .i64).ty p18 c19 ((a1.Maps.getD 2 zm_api_Map).Nodes), Ro.mp fStr.ty p20 c21 ((a1.Maps.getD 3 zm_api_Map).Cuts), Ro.mp (fInt .i64).ty p22 c23 ((a1.Maps.getD 3 zm_api_Map).Nodes), ml a1.Modes 21, MP.since κ71 w71, MP.old p79 w71, MP.old p81 w71, MP.old p59 w71, MP.old p61 w71, MP.old p75 w71, MP.old p77 w71, MP.old p83 w71, MP.old p85 w71, MP.old p87 w71, MP.old p89 w71, MP.old p55 w71, MP.old p57 w71, MP.old p63 w71, MP.old p65 w71, MP.old p67 w71, MP.old p69 w71] ∧ M.law18_ConfigOwns_x_L8 N n a1 x50 x54 x74 y164 y228 y297 y361 y439 y503 y572 y636 y637 = some r) ?_ ?_
 exact ⟨_, (x74.Maps.getD 1 zm_api_Map).Nodes, 0, hF.kp [2, 5, 6, 8, 11, 33, 44, 45, 46, 69, 70], hS.sp [0, 1, 2, 3, 4, 5, 13, 6, 7, 8, 9, 10, 11, 12, 14, 15, 16, 17, 18, 19, 20, 21] (rg 50), H⟩
 rintro n a w ⟨κ, y636, y637, hF, hS, H⟩
 rcases n with _ | fuel8
 simp [M.law18_ConfigOwns_x_L8] at H
 simp only [M.law18_ConfigOwns_x_L8] at H
 refine wpIn_seq_k fun K638 hK638 => ?_
 refine wpIn_region_lit ?_
 refine wp 1 [2, 5, 6, 8, 11, 33, 44, 45, 46, 69, 70, 71] hF fun a hF => ?_
 refine wpListIn_nil ?_
 refine hK638 _ _ ?_
 refine wpIn_seq_k fun K639 hK639 => ?_
 refine bif_split H (fun hb H => ?_) (fun hb H => ?_)
 refine cond_t hF (by kernel_rfl) hb ?_
 refine wpIn_skip ?_
 refine hK639 _ _ ?_
 refine wpIn_seq_k fun K640 hK640 => ?_
 refine wpIn_block ?_
 refine wpIn_seq_k fun K641 hK641 => ?_
 refine wpIn_region_lit ?_
 refine wp 2 [2, 5, 6, 8, 11, 13, 33, 44, 45, 46, 69, 70] hF fun a hF => ?_
 refine wpListIn_nil ?_
 refine hK641 _ _ ?_
 refine wpIn_region_lit ?_
 refine wp 1 [2, 5, 6, 8, 11, 13, 33, 44, 45, 46, 69, 70, 73] hF fun a hF => ?_
 refine wc (wld hF hS 0 1 0 fun a hF => ?_)
 refine wl_pure (L' := [(2, pt b25 0), (5, pt b52 0), (6, pt b72 0), (8, pt b91 0), (11, pt b519 0), (33, vi 1), (44, .slice (some ⟨b381, 0, none⟩) 2 2), (45, vi 2), (46, vi 1), (69, vi (((x74.Maps.getD 1 zm_api_Map).Nodes).length : Int)), (70, vi y637), (74, .slice p81 (y636).length c82), (75, vi y637)]) 1 [2, 5, 6, 8, 11, 33, 44, 45, 46, 69, 70, 74, 75] hF (by kernel_rfl) fun a hF => ?_
 refine bind_split H (fun x642 hx642 H => ?_)
 refine wc (wo_index hF hS (by kernel_rfl) 1 (E := 3) (sz := 1) rfl rfl rfl (by kernel_rfl) rfl hx642 (by kernel_rfl) (by kernel_rfl) fun b643 f644 a hpx642 hF => ?_)
 refine wc (wo_loadRo (t := (fInt .i64)) hF hS (by kernel_rfl) 1 0 (v := vi x642) rfl rfl hpx642 rfl hx642 (by kernel_rfl) (by kernel_rfl) (by kernel_rfl) fun a hF => ?_)
 refine wl_pure (L' := [(2, pt b25 0), (5, pt b52 0), (6, pt b72 0), (8, pt b91 0), (11, pt b519 0), (33, vi 1), (44, .slice (some ⟨b381, 0, none⟩) 2 2), (45, vi 2), (46, vi 1), (69, vi (((x74.Maps.getD 1 zm_api_Map).Nodes).length : Int)), (70, vi y637), (74, .slice p81 (y636).length c82), (75, vi y637), (78, vi (IntKind.i64.wrap (x642 + 1)))]) 1 [2, 5, 6, 8, 11, 33, 44, 45, 46, 69, 70, 74, 75, 78] hF (by kernel_rfl) fun a hF => ?_
 refine bind_split H (fun x645 hx645 H => ?_)
 refine wc (wo_index hF hS (by kernel_rfl) 1 (E := 3) (sz := 1) rfl rfl rfl (by kernel_rfl) rfl hx645 (by kernel_rfl) (by kernel_rfl) fun b646 f647 a hpx645 hF => ?_)
 refine wc (wo_storeTokS (t := (fInt .i64)) (y := x645) (z := IntKind.i64.wrap (x642 + 1)) (v := vi (IntKind.i64.wrap (x642 + 1))) (vs := (flat [si (IntKind.i64.wrap (x642 + 1))])) (sz := 1) hF hS hfr hf71 hw71 hR71 (by kernel_rfl) 6 1 33 35 0 rfl rfl (by kernel_rfl) rfl rfl rfl hpx645 hx645 rfl (by kernel_rfl) (by kernel_rfl) rfl (show segGood [si (IntKind.i64.wrap (x642 + 1))] from (sgN 1 sgNil)).2 rfl (by decide) rfl rfl (nfC nfB (nfC nfB (nfC nfB (nfC nfB (nfC nfB (nfC nfB (nfC nfT (nfC nfT (nfC nfT (nfC nfT (nfC nfT (nfC nfT (nfC nfT (nfC nfT (nfC nfT (nfC nfT (nfC nfT (nfC nfT (nfC nfT (nfC nfT (nfC nfT (nfC nfT nfN)))))))))))))))))))))) [2, 3, 4, 26, 23, 24, 21, 22, 19, 20, 17, 18, 27] [0, 2, 3, 4, 5, 6, 7, 8, 9, 10, 11, 12, 13, 14, 15, 16, 17, 18, 19, 34, 35, 36, 37, 38, 39, 40, 41, 42, 43, 44, 45, 46, 47, 48, 49] (Ra := [ml x50.Members 4, Arr.mp t_api_Map cs51 4 x50.Maps, ml x50.Modes 21, ml a1.Members 4, Ro.mp fStr.ty p8 c9 ((a1.Maps.getD 0 zm_api_Map).Cuts), Ro.mp (fInt .i64).ty p10 c11 ((a1.Maps.getD 0 zm_api_Map).Nodes), Ro.mp fStr.ty p12 c13 ((a1.Maps.getD 1 zm_api_Map).Cuts), Ro.mp (fInt .i64).ty p14 c15 ((a1.Maps.getD 1 zm_api_Map).Nodes), Ro.mp fStr.ty p16 c17 ((a1.Maps.getD 2 zm_api_Map).Cuts), Ro.mp (fInt .i64).ty p18 c19 ((a1.Maps.getD 2 zm_api_Map).Nodes), Ro.mp fStr.ty p20 c21 ((a1.Maps.getD 3 zm_api_Map).Cuts), Ro.mp (fInt .i64).ty p22 c23 ((a1.Maps.getD 3 zm_api_Map).Nodes), ml a1.Modes 21]) (Rb := [Ro.mp fStr.ty p79 c80 y572, Ro.mp fStr.ty p59 c60 y439, Ro.mp (fInt .i64).ty p61 c62 y503, ml x74.Members 4, Ro.mp fStr.ty p75 c76 y297, Ro.mp (fInt .i64).ty p77 c78 y361, Ro.mp fStr.ty p83 c84 ((x74.Maps.getD 2 zm_api_Map).Cuts), Ro.mp (fInt .i64).ty p85 c86 ((x74.Maps.getD 2 zm_api_Map).Nodes), Ro.mp fStr.ty p87 c88 ((x74.Maps.getD 3 zm_api_Map).Cuts), Ro.mp (fInt .i64).ty p89 c90 ((x74.Maps.getD 3 zm_api_Map).Nodes), ml x74.Modes 21, ml x54.1.Members 4, Ro.mp fStr.ty p55 c56 y164, Ro.mp (fInt .i64).ty p57 c58 y228, Ro.mp fStr.ty p63 c64 ((x54.1.Maps.getD 2 zm_api_Map).Cuts), Ro.mp (fInt .i64).ty p65 c66 ((x54.1.Maps.getD 2 zm_api_Map).Nodes), Ro.mp fStr.ty p67 c68 ((x54.1.Maps.getD 3 zm_api_Map).Cuts), Ro.mp (fInt .i64).ty p69 c70 ((x54.1.Maps.getD 3 zm_api_Map).Nodes), ml x54.1.Modes 21, MP.old p79 w71, MP.old p81 w71, MP.old p59 w71, MP.old p61 w71, MP.old p75 w71, MP.old p77 w71, MP.old p83 w71, MP.old p85 w71, MP.old p87 w71, MP.old p89 w71, MP.old p55 w71, MP.old p57 w71, MP.old p63 w71, MP.old p65 w71, MP.old p67 w71, MP.old p69 w71]) rfl rfl (aC (apart_ro (hS.tokApart 6 7 hpx645 rfl rfl (by decide))) (aC (apart_ro (hS.tokApart 6 9 hpx645 rfl rfl (by decide))) (aC (apart_ro (hS.tokApart 6 8 hpx645 rfl rfl (by decide))) (aK (aC (apart_ro (hS.tokApart 6 11 hpx645 rfl rfl (by decide))) (aC (apart_ro (hS.tokApart 6 10 hpx645 rfl rfl (by decide))) (aC (apart_ro (hS.tokApart 6 14 hpx645 rfl rfl (by decide))) (aC (apart_ro (hS.tokApart 6 15 hpx645 rfl rfl (by decide))) (aC (apart_ro (hS.tokApart 6 16 hpx645 rfl rfl (by decide))) (aC (apart_ro (hS.tokApart 6 17 hpx645 rfl rfl (by decide))) (aK (aK (aC (apart_ro (hS.tokApart 6 13 hpx645 rfl rfl (by decide))) (aC (apart_ro (hS.tokApart 6 12 hpx645 rfl rfl (by decide))) (aC (apart_ro (hS.tokApart 6 18 hpx645 rfl rfl (by decide))) (aC (apart_ro (hS.tokApart 6 19 hpx645 rfl rfl (by decide))) (aC (apart_ro (hS.tokApart 6 20 hpx645 rfl rfl (by decide))) (aC (apart_ro (hS.tokApart 6 21 hpx645 rfl rfl (by decide))) (aK (aK (aK (aK (aK (aK (aK (aK (aK (aK (aK (aK (aK (aK (aK (aK (aK aN))))))))))))))))))))))))))))))))))) (Cf := (fun nn => [.box b519 25 [sl p79 (y572).length c80, sl p81 nn c82], .box b381 25 [sl p59 (y439).length c60, sl p61 (y503).length c62, sl p79 (y572).length c80, sl p81 nn c82], .box b91 56 [si x74.Pool, si x74.Nodes, eb 4 x74.Members, sl p75 (y297).length c76, sl p77 (y361).length c78, sl p79 (y572).length c80, sl p81 nn c82, sl p83 ((x74.Maps.getD 2 zm_api_Map).Cuts).length c84, sl p85 ((x74.Maps.getD 2 zm_api_Map).Nodes).length c86, sl p87 ((x74.Maps.getD 3 zm_api_Map).Cuts).length c88, sl p89 ((x74.Maps.getD 3 zm_api_Map).Nodes).length c90, ei 21 x74.Modes], .box b72 56 [si x54.1.Pool, si x54.1.Nodes, eb 4 x54.1.Members, sl p55 (y164).length c56, sl p57 (y228).length c58, sl p59 (y439).length c60, sl p61 (y503).length c62, sl p63 ((x54.1.Maps.getD 2 zm_api_Map).Cuts).length c64, sl p65 ((x54.1.Maps.getD 2 zm_api_Map).Nodes).length c66, sl p67 ((x54.1.Maps.getD 3 zm_api_Map).Cuts).length c68, sl p69 ((x54.1.Maps.getD 3 zm_api_Map).Nodes).length c70, ei 21 x54.1.Modes], .box b52 60 [si x50.Pool, si x50.Nodes, eb 4 x50.Members, (8, cs51), ei 21 x50.Modes], .box b25 56 [si a1.Pool, si a1.Nodes, eb 4 a1.Members, sl p8 ((a1.Maps.getD 0 zm_api_Map).Cuts).length c9, sl p10 ((a1.Maps.getD 0 zm_api_Map).Nodes).length c11, sl p12 ((a1.Maps.getD 1 zm_api_Map).Cuts).length c13, sl p14 ((a1.Maps.getD 1 zm_api_Map).Nodes).length c15, sl p16 ((a1.Maps.getD 2 zm_api_Map).Cuts).length c17, sl p18 ((a1.Maps.getD 2 zm_api_Map).Nodes).length c19, sl p20 ((a1.Maps.getD 3 zm_api_Map).Cuts).length c21, sl p22 ((a1.Maps.getD 3 zm_api_Map).Nodes).length c23, ei 21 a1.Modes], .tok p81 3 1 nn c82, .tok p79 9 1 (y572).length c80, .tok p61 3 1 (y503).length c62, .tok p59 9 1 (y439).length c60, .tok p77 3 1 (y361).length c78, .tok p75 9 1 (y297).length c76, .tok p57 3 1 (y228).length c58, .tok p55 9 1 (y164).length c56, .tok p83 9 1 ((x74.Maps.getD 2 zm_api_Map).Cuts).length c84, .tok p85 3 1 ((x74.Maps.getD 2 zm_api_Map).Nodes).length c86, .tok p87 9 1 ((x74.Maps.getD 3 zm_api_Map).Cuts).length c88, .tok p89 3 1 ((x74.Maps.getD 3 zm_api_Map).Nodes).length c90, .tok p63 9 1 ((x54.1.Maps.getD 2 zm_api_Map).Cuts).length c64, .tok p65 3 1 ((x54.1.Maps.getD 2 zm_api_Map).Nodes).length c66, .tok p67 9 1 ((x54.1.Maps.getD 3 zm_api_Map).Cuts).length c68, .tok p69 3 1 ((x54.1.Maps.getD 3 zm_api_Map).Nodes).length c70])) (Lf := (fun nn => [(2, pt b25 0), (5, pt b52 0), (6, pt b72 0), (8, pt b91 0), (11, pt b519 0), (33, vi 1), (44, .slice (some ⟨b381, 0, none⟩) 2 2), (45, vi 2), (46, vi 1), (69, vi (((x74.Maps.getD 1 zm_api_Map).Nodes).length : Int)), (70, vi y637), (74, .slice p81 nn c82), (75, vi y637), (78, vi (IntKind.i64.wrap (x642 + 1))), (79, .pointer (some ⟨b646, (f647 + Int.toNat y637 * 1), none⟩))])) [2, 5, 6, 8, 11, 33, 44, 45, 46, 69, 70, 74, 75, 78, 79] rfl (by kernel_rfl) fun a w hF hS => ?_)
 refine wpListIn_nil ?_
 refine hK640 _ _ ?_
 refine wpIn_region_lit ?_
 refine wp 2 [2, 5, 6, 8, 11, 33, 44, 45, 46, 69, 70] hF fun a hF => ?_
 refine wpListIn_nil ?_
 exact ⟨fuel8, Nat.lt_succ_self _, _, (List.set y636 (Int.toNat y637) (IntKind.i64.wrap (x642 + 1))), IntKind.i64.wrap (y637 + 1), hF.kp [2, 5, 6, 8, 11, 33, 44, 45, 46, 69, 70], hS.sp (rg 22) [15, 0, 16, 17, 18, 19, 20, 21, 22, 23, 24, 25, 26, 27, 28, 29, 30, 31, 32, 33, 2, 3, 4, 5, 6, 7, 8, 9, 10, 11, 12, 13, 14, 1, 34, 35, 36, 37, 38, 39, 40, 41, 42, 43, 44, 45, 46, 47, 48, 49], H⟩
 refine cond_f hF (by kernel_rfl) hb ?_
 refine wpIn_exit ?_
 refine hK517 _ _ ?_
 refine wpIn_region_lit ?_
 refine wl_pure (L' := [(2, pt b25 0), (5, pt b52 0), (6, pt b72 0), (8, pt b91 0), (33, vi 1), (44, .slice (some ⟨b381, 0, none⟩) 2 2), (45, vi 2), (46, vi 2)]) 2 [2, 5, 6, 8, 33, 44, 45, 46] hF (by kernel_rfl) fun a hF => ?_
 refine wpListIn_nil ?_
 refine round_go ?_
 refine wpIn_seq_k fun K648 hK648 => ?_
 refine wpIn_region_lit ?_
 refine wp 1 [2, 5, 6, 8, 33, 44, 45, 46, 47] hF fun a hF => ?_
 refine wpListIn_nil ?_
 refine hK648 _ _ ?_
 refine wpIn_seq_k fun K649 hK649 => ?_
 refine cond_f hF (by kernel_rfl) rfl ?_
 refine wpIn_exit ?_
 refine hK377 _ _ ?_
 refine wpIn_region_lit ?_
 refine wl_pure (L' := [(2, pt b25 0), (5, pt b52 0), (6, pt b72 0), (8, pt b91 0), (33, vi 2)]) 2 [2, 5, 6, 8, 33] hF (by kernel_rfl) fun a hF => ?_
 refine wpListIn_nil ?_
 refine round_go ?_
 refine wpIn_seq_k fun K650 hK650 => ?_
 refine wpIn_region_lit ?_
 refine wp 1 [2, 5, 6, 8, 33, 34] hF fun a hF => ?_
 refine wpListIn_nil ?_
 refine hK650 _ _ ?_
 refine wpIn_seq_k fun K651 hK651 => ?_
 refine cond_t hF (by kernel_rfl) rfl ?_
 refine wpIn_skip ?_
 refine hK651 _ _ ?_
 refine wpIn_seq_k fun K652 hK652 => ?_
 refine wpIn_block ?_
 refine wpIn_seq_k fun K653 hK653 => ?_
 refine wpIn_region_lit ?_
 refine wp 2 [2, 5, 6, 8, 9, 33] hF fun a hF => ?_
 refine wpListIn_nil ?_
 refine hK653 _ _ ?_
 refine wpIn_seq_k fun K654 hK654 => ?_
 refine rgS hS [] ?_
 have hS := hS.drew
 refine any_pure [0, 1, 2, 4, 5, 6, 10] [2, 5, 6, 8, 33, 38, 42, 46] (L' := [(2, pt b25 0), (5, pt b52 0), (6, pt b72 0), (8, pt b91 0), (33, vi 2), (38, pt b72 10), (42, pt b91 10), (46, vi 0)]) (listed' := (bitA 11 1143)) (fuel := 4) hF (hS.sx (rg 6) (rg 50)) (by kernel_rfl) (by intro c a w t v h; cases t <;> exact h) (by kernel_rfl) rfl fun a hF => ?_
 refine atk 3 (some 39) hF (hS.sx (rg 6) (rg 50)) rfl (vls 3 7 2) fun a hF => ?_
 refine atk 7 (some 43) hF (hS.sx (rg 6) (rg 50)) rfl (vls 2 7 2) fun a hF => ?_
 refine ago 8 hF rfl ?_
 refine wo_buildB (s := [sl p63 ((x54.1.Maps.getD 2 zm_api_Map).Cuts).length c64, sl p65 ((x54.1.Maps.getD 2 zm_api_Map).Nodes).length c66, sl p83 ((x74.Maps.getD 2 zm_api_Map).Cuts).length c84, sl p85 ((x74.Maps.getD 2 zm_api_Map).Nodes).length c86]) (vs := [(0, .agg (flat [sl p63 ((x54.1.Maps.getD 2 zm_api_Map).Cuts).length c64, sl p65 ((x54.1.Maps.getD 2 zm_api_Map).Nodes).length c66]).toArray), (1, .agg (flat [sl p83 ((x74.Maps.getD 2 zm_api_Map).Cuts).length c84, sl p85 ((x74.Maps.getD 2 zm_api_Map).Nodes).length c86]).toArray)]) (z := .agg (flat [sl none 0 0, sl none 0 0]).toArray) (sz := 2) (E := 25) hF hS (by kernel_rfl) rfl (by kernel_rfl) (show segGood [sl p63 ((x54.1.Maps.getD 2 zm_api_Map).Cuts).length c64, sl p65 ((x54.1.Maps.getD 2 zm_api_Map).Nodes).length c66, sl p83 ((x74.Maps.getD 2 zm_api_Map).Cuts).length c84, sl p85 ((x74.Maps.getD 2 zm_api_Map).Nodes).length c86] from (sgN 4 sgNil)).1 (by kernel_rfl) (by kernel_rfl) (by kernel_rfl) (by kernel_rfl) (by kernel_rfl) fun b656 a w hF hS => ?_
 refine ⟨fun _ => (hS.sx [1, 2, 3, 4, 5, 6] (rg 50)), ?_⟩
 refine any_pure [9] [2, 5, 6, 8, 33, 44, 45, 46] (L' := [(2, pt b25 0), (5, pt b52 0), (6, pt b72 0), (8, pt b91 0), (33, vi 2), (44, .slice (some ⟨b656, 0, none⟩) 2 2), (45, vi 2), (46, vi 0)]) (listed' := (bitA 11 2047)) (fuel := 0) hF (hS.sx [1, 2, 3, 4, 5, 6] (rg 50)) (by kernel_rfl) (by intro c a w t v h; cases t <;> exact h) (by kernel_rfl) rfl fun a hF => ?_
 refine and_ ?_
 refine hK654 _ _ ?_
 refine wpIn_block ?_
 refine loop_rounds 25 ?_
 refine round_go ?_
 refine wpIn_seq_k fun K657 hK657 => ?_
 refine wpIn_region_lit ?_
 refine wp 1 [2, 5, 6, 8, 33, 44, 45, 46, 47] hF fun a hF => ?_
 refine wpListIn_nil ?_
 refine hK657 _ _ ?_
 refine wpIn_seq_k fun K658 hK658 => ?_
 refine cond_t hF (by kernel_rfl) rfl ?_
 refine wpIn_skip ?_
 refine hK658 _ _ ?_
 refine wpIn_seq_k fun K659 hK659 => ?_
 refine wpIn_block ?_
 refine wpIn_seq_k fun K660 hK660 => ?_
 refine wpIn_region_lit ?_
 refine wp 1 [2, 5, 6, 8, 33, 44, 45, 46, 48] hF fun a hF => ?_
 refine wc (wls hF hS 0 0 2 fun a hF => ?_)
 refine wc (wal hF hS [sl none 0 0, sl none 0 0] (sgN 2 sgNil) fun b661 a w hF hS => ?_)
 refine wc (wst hF hS 0 0 2 [sl p63 ((x54.1.Maps.getD 2 zm_api_Map).Cuts).length c64, sl p65 ((x54.1.Maps.getD 2 zm_api_Map).Nodes).length c66] (sgN 2 sgNil) fun a w hF hS => ?_)
 refine wpListIn_nil ?_
 refine hK660 _ _ ?_
 refine wpIn_seq_k fun K662 hK662 => ?_
 refine wpIn_seq_k fun K663 hK663 => ?_
 refine wpIn_region_lit ?_
 refine wp 1 [2, 5, 6, 8, 11, 33, 44, 45, 46, 50] hF fun a hF => ?_
 refine wc (wld hF hS 0 0 0 fun a hF => ?_)
 refine wp 2 [2, 5, 6, 8, 11, 33, 44, 45, 46, 52, 53] hF fun a hF => ?_
 refine wpListIn_nil ?_
 refine hK663 _ _ ?_
 refine wpIn_block ?_
 refine loop_fuel (n := N) (fun n a w => ∃ (κ : Gh) (y714 : List ByteArray) (y715 : Int), Fr (89) [] [(2, pt b25 0), (5, pt b52 0), (6, pt b72 0), (8, pt b91 0), (11, pt b661 0), (33, vi 2), (44, .slice (some ⟨b656, 0, none⟩) 2 2), (45, vi 2), (46, vi 0), (52, vi (((x54.1.Maps.getD 2 zm_api_Map).Cuts).length : Int)), (53, vi y715)] a ∧ SS [] κ0 w0 κ w [.box b661 25 [sl p63 (y714).length c64, sl p65 ((x54.1.Maps.getD 2 zm_api_Map).Nodes).length c66], .box b656 25 [sl p63 (y714).length c64, sl p65 ((x54.1.Maps.getD 2 zm_api_Map).Nodes).length c66, sl p83 ((x74.Maps.getD 2 zm_api_Map).Cuts).length c84, sl p85 ((x74.Maps.getD 2 zm_api_Map).Nodes).length c86], .box b91 56 [si x74.Pool, si x74.Nodes, eb 4 x74.Members, sl p75 (y297).length c76, sl p77 (y361).length c78, sl p79 (y572).length c80, sl p81 (y636).length c82, sl p83 ((x74.Maps.getD 2 zm_api_Map).Cuts).length c84, sl p85 ((x74.Maps.getD 2 zm_api_Map).Nodes).length c86, sl p87 ((x74.Maps.getD 3 zm_api_Map).Cuts).length c88, sl p89 ((x74.Maps.getD 3 zm_api_Map).Nodes).length c90, ei 21 x74.Modes], .box b72 56 [si x54.1.Pool, si x54.1.Nodes, eb 4 x54.1.Members, sl p55 (y164).length c56, sl p57 (y228).length c58, sl p59 (y439).length c60, sl p61 (y503).length c62, sl p63 (y714).length c64, sl p65 ((x54.1.Maps.getD 2 zm_api_Map).Nodes).length c66, sl p67 ((x54.1.Maps.getD 3 zm_api_Map).Cuts).length c68, sl p69 ((x54.1.Maps.getD 3 zm_api_Map).Nodes).length c70, ei 21 x54.1.Modes], .box b52 60 [si x50.Pool, si x50.Nodes, eb 4 x50.Members, (8, cs51), ei 21 x50.Modes], .box b25 56 [si a1.Pool, si a1.Nodes, eb 4 a1.Members, sl p8 ((a1.Maps.getD 0 zm_api_Map).Cuts).length c9, sl p10 ((a1.Maps.getD 0 zm_api_Map).Nodes).length c11, sl p12 ((a1.Maps.getD 1 zm_api_Map).Cuts).length c13, sl p14 ((a1.Maps.getD 1 zm_api_Map).Nodes).length c15, sl p16 ((a1.Maps.getD 2 zm_api_Map).Cuts).length c17, sl p18 ((a1.Maps.getD 2 zm_api_Map).Nodes).length c19, sl p20 ((a1.Maps.getD 3 zm_api_Map).Cuts).length c21, sl p22 ((a1.Maps.getD 3 zm_api_Map).Nodes).length c23, ei 21 a1.Modes], .tok p63 9 1 (y714).length c64, .tok p81 3 1 (y636).length c82, .tok p79 9 1 (y572).length c80, .tok p61 3 1 (y503).length c62, .tok p59 9 1 (y439).length c60, .tok p77 3 1 (y361).length c78, .tok p75 9 1 (y297).length c76, .tok p57 3 1 (y228).length c58, .tok p55 9 1 (y164).length c56, .tok p83 9 1 ((x74.Maps.getD 2 zm_api_Map).Cuts).length c84, .tok p85 3 1 ((x74.Maps.getD 2 zm_api_Map).Nodes).length c86, .tok p87 9 1 ((x74.Maps.getD 3 zm_api_Map).Cuts).length c88, .tok p89 3 1 ((x74.Maps.getD 3 zm_api_Map).Nodes).length c90, .tok p65 3 1 ((x54.1.Maps.getD 2 zm_api_Map).Nodes).length c66, .tok p67 9 1 ((x54.1.Maps.getD 3 zm_api_Map).Cuts).length c68, .tok p69 3 1 ((x54.1.Maps.getD 3 zm_api_Map).Nodes).length c70] [Ro.mp fStr.ty p63 c64 y714, Ro.mp (fInt .i64).ty p65 c66 ((x54.1.Maps.getD 2 zm_api_Map).Nodes), Ro.mp fStr.ty p83 c84 ((x74.Maps.getD 2 zm_api_Map).Cuts), Ro.mp (fInt .i64).ty p85 c86 ((x74.Maps.getD 2 zm_api_Map).Nodes), ml x74.Members 4, Ro.mp fStr.ty p75 c76 y297, Ro.mp (fInt .i64).ty p77 c78 y361, Ro.mp fStr.ty p79 c80 y572, Ro.mp (fInt .i64).ty p81 c82 y636, Ro.mp fStr.ty p87 c88 ((x74.Maps.getD 3 zm_api_Map).Cuts), Ro.mp (fInt .i64).ty p89 c90 ((x74.Maps.getD 3 zm_api_Map).Nodes), ml x74.Modes 21, ml x54.1.Members 4, Ro.mp fStr.ty p55 c56 y164, Ro.mp (fInt .i64).ty p57 c58 y228, Ro.mp fStr.ty p59 c60 y439, Ro.mp (fInt .i64).ty p61 c62 y503, Ro.mp fStr.ty p67 c68 ((x54.1.Maps.getD 3 zm_api_Map).Cuts), Ro.mp (fInt .i64).ty p69 c70 ((x54.1.Maps.getD 3 zm_api_Map).Nodes), ml x54.1.Modes 21, ml x50.Members 4, Arr.mp t_api_Map cs51 4 x50.Maps, ml x50.Modes 21, ml a1.Members 4, Ro.mp fStr.ty p8 c9 ((a1.Maps.getD 0 zm_api_Map).Cuts), Ro.mp (fInt .i64).ty p10 c11 ((a1.Maps.getD 0 zm_api_Map).Nodes), Ro.mp fStr.ty p12 c13 ((a1.Maps.getD 1 zm_api_Map).Cuts), Ro.mp (fInt .i64).ty p14 c15 ((a1.Maps.getD 1 zm_api_Map).Nodes), Ro.mp fStr.ty p16 c17 ((a1.Maps.getD 2 zm_api_Map).Cuts), Ro.mp (fInt .i64).ty p18 c19 ((a1.Maps.getD 2 zm_api_Map).Nodes), Ro.mp fStr.ty p20 c21 ((a1.Maps.getD 3 zm_api_Map).Cuts), Ro.mp (fInt .i64).ty p22 c23 ((a1.Maps.getD 3 zm_api_Map).Nodes), ml a1.Modes 21, MP.since κ71 w71, MP.old p63 w71, MP.old p65 w71, MP.old p83 w71, MP.old p85 w71, MP.old p75 w71, MP.old p77 w71, MP.old p79 w71, MP.old p81 w71, MP.old p87 w71, MP.old p89 w71, MP.old p55 w71, MP.old p57 w71, MP.old p59 w71, MP.old p61 w71, MP.old p67 w71, MP.old p69 w71] ∧ M.law18_ConfigOwns_x_L9 N n a1 x50 x54 x74 y164 y228 y297 y361 y439 y503 y572 y636 y714 y715 = some r) ?_ ?_
 exact ⟨_, (x54.1.Maps.getD 2 zm_api_Map).Cuts, 0, hF.kp [2, 5, 6, 8, 11, 33, 44, 45, 46, 52, 53], hS.sp [0, 1, 4, 5, 6, 7, 20, 8, 9, 10, 11, 12, 13, 14, 15, 16, 17, 18, 19, 21, 22, 23] [15, 16, 7, 8, 4, 5, 6, 0, 1, 9, 10, 11, 12, 13, 14, 2, 3, 17, 18, 19, 20, 21, 22, 23, 24, 25, 26, 27, 28, 29, 30, 31, 32, 33, 46, 47, 40, 41, 38, 39, 34, 35, 42, 43, 44, 45, 36, 37, 48, 49], H⟩
 rintro n a w ⟨κ, y714, y715, hF, hS, H⟩
 rcases n with _ | fuel9
 simp [M.law18_ConfigOwns_x_L9] at H
 simp only [M.law18_ConfigOwns_x_L9] at H
 refine wpIn_seq_k fun K716 hK716 => ?_
 refine wpIn_region_lit ?_
 refine wp 1 [2, 5, 6, 8, 11, 33, 44, 45, 46, 52, 53, 54] hF fun a hF => ?_
 refine wpListIn_nil ?_
 refine hK716 _ _ ?_
 refine wpIn_seq_k fun K717 hK717 => ?_
 refine bif_split H (fun hb H => ?_) (fun hb H => ?_)
 refine cond_t hF (by kernel_rfl) hb ?_
 refine wpIn_skip ?_
 refine hK717 _ _ ?_
 refine wpIn_seq_k fun K718 hK718 => ?_
 refine wpIn_block ?_
 refine wpIn_seq_k fun K719 hK719 => ?_
 refine wpIn_region_lit ?_
 refine wp 2 [2, 5, 6, 8, 11, 12, 33, 44, 45, 46, 52, 53] hF fun a hF => ?_
 refine wpListIn_nil ?_
 refine hK719 _ _ ?_
 refine rgS hS [10] ?_
 have hS := hS.drew
 refine any_pure [0, 2, 3, 5] [2, 5, 6, 8, 11, 33, 44, 45, 46, 52, 53, 56, 58, 59, 61] (L' := [(2, pt b25 0), (5, pt b52 0), (6, pt b72 0), (8, pt b91 0), (11, pt b661 0), (33, vi 2), (44, .slice (some ⟨b656, 0, none⟩) 2 2), (45, vi 2), (46, vi 0), (52, vi (((x54.1.Maps.getD 2 zm_api_Map).Cuts).length : Int)), (53, vi y715), (56, pt b661 0), (58, vi y715), (59, pt b661 0), (61, vi y715)]) (listed' := (bitA 11 45)) (fuel := 7) hF (hS.sx (rg 6) (rg 50)) (by kernel_rfl) (by intro c a w t v h; cases t <;> exact h) (by kernel_rfl) rfl fun a hF => ?_
 refine atk 1 (some 57) hF (hS.sx (rg 6) (rg 50)) rfl (vld 0 0 0) fun a hF => ?_
 refine atk 4 (some 60) hF (hS.sx (rg 6) (rg 50)) rfl (vld 0 0 0) fun a hF => ?_
 refine bind_split H (fun x720 hx720 H => ?_)
 obtain ⟨b721, f722, hpx720⟩ := hS.ptr 0 rfl hx720
 refine atk 6 (some 62) hF (hS.sx (rg 6) (rg 50)) rfl (fun w _ => val_index (E := 9) (sz := 1) rfl hpx720 rfl (by kernel_rfl) rfl hx720 (by kernel_rfl) (by kernel_rfl) w) fun a hF => ?_
 refine atk 7 (some 63) hF (hS.sx (rg 6) (rg 50)) rfl (val_loadRo (t := fStr) 0 0 (v := .string (x720)) rfl rfl hpx720 rfl hx720 (by kernel_rfl) (by kernel_rfl) (by kernel_rfl)) fun a hF => ?_
 refine ago 8 hF rfl ?_
 refine bind_split H (fun x723 hx723 H => ?_)
 refine wo_callP hF hS (by kernel_rfl) (by kernel_rfl) (C_law18_other N hS.fresh x720  ((hS.pick [] (by kernel_rfl)).ro) hx723) ?_
 rintro _ κ w a ⟨rfl, hR, hN⟩ hF hS hO
 refine ⟨fun _ => (hS.sx (rg 6) (rg 50)), ?_⟩
 refine bind_split H (fun x724 hx724 H => ?_)
 obtain ⟨b725, f726, hpx724⟩ := hS.ptr 0 rfl hx724
 refine atk 9 (some 65) hF (hS.sx (rg 6) (rg 50)) rfl (fun w _ => val_index (E := 9) (sz := 1) rfl hpx724 rfl (by kernel_rfl) rfl hx724 (by kernel_rfl) (by kernel_rfl) w) fun a hF => ?_
 refine ago 10 hF rfl ?_
 refine wo_storeTokS (t := fStr) (y := x724) (z := x723) (v := .string (x723)) (vs := (flat [sg x723])) (sz := 1) hF hS hfr hf71 hw71 hR71 (by kernel_rfl) 6 0 33 34 0 rfl rfl (by kernel_rfl) rfl rfl rfl hpx724 hx724 rfl (by kernel_rfl) (by kernel_rfl) rfl (show segGood [sg x723] from (sgN 1 sgNil)).2 rfl (by decide) rfl rfl (nfC nfB (nfC nfB (nfC nfB (nfC nfB (nfC nfB (nfC nfB (nfC nfT (nfC nfT (nfC nfT (nfC nfT (nfC nfT (nfC nfT (nfC nfT (nfC nfT (nfC nfT (nfC nfT (nfC nfT (nfC nfT (nfC nfT (nfC nfT (nfC nfT (nfC nfT nfN)))))))))))))))))))))) [2, 3, 4, 26, 23, 24, 21, 22, 19, 20, 17, 18, 27] [1, 2, 3, 4, 5, 6, 7, 8, 9, 10, 11, 12, 13, 14, 15, 16, 17, 18, 19, 34, 35, 36, 37, 38, 39, 40, 41, 42, 43, 44, 45, 46, 47, 48, 49] (Ra := [ml x50.Members 4, Arr.mp t_api_Map cs51 4 x50.Maps, ml x50.Modes 21, ml a1.Members 4, Ro.mp fStr.ty p8 c9 ((a1.Maps.getD 0 zm_api_Map).Cuts), Ro.mp (fInt .i64).ty p10 c11 ((a1.Maps.getD 0 zm_api_Map).Nodes), Ro.mp fStr.ty p12 c13 ((a1.Maps.getD 1 zm_api_Map).Cuts), Ro.mp (fInt .i64).ty p14 c15 ((a1.Maps.getD 1 zm_api_Map).Nodes), Ro.mp fStr.ty p16 c17 ((a1.Maps.getD 2 zm_api_Map).Cuts), Ro.mp (fInt .i64).ty p18 c19 ((a1.Maps.getD 2 zm_api_Map).Nodes), Ro.mp fStr.ty p20 c21 ((a1.Maps.getD 3 zm_api_Map).Cuts), Ro.mp (fInt .i64).ty p22 c23 ((a1.Maps.getD 3 zm_api_Map).Nodes), ml a1.Modes 21]) (Rb := [Ro.mp (fInt .i64).ty p65 c66 ((x54.1.Maps.getD 2 zm_api_Map).Nodes), Ro.mp fStr.ty p83 c84 ((x74.Maps.getD 2 zm_api_Map).Cuts), Ro.mp (fInt .i64).ty p85 c86 ((x74.Maps.getD 2 zm_api_Map).Nodes), ml x74.Members 4, Ro.mp fStr.ty p75 c76 y297, Ro.mp (fInt .i64).ty p77 c78 y361, Ro.mp fStr.ty p79 c80 y572, Ro.mp (fInt .i64).ty p81 c82 y636, Ro.mp fStr.ty p87 c88 ((x74.Maps.getD 3 zm_api_Map).Cuts), Ro.mp (fInt .i64).ty p89 c90 ((x74.Maps.getD 3 zm_api_Map).Nodes), ml x74.Modes 21, ml x54.1.Members 4, Ro.mp fStr.ty p55 c56 y164, Ro.mp (fInt .i64).ty p57 c58 y228, Ro.mp fStr.ty p59 c60 y439, Ro.mp (fInt .i64).ty p61 c62 y503, Ro.mp fStr.ty p67 c68 ((x54.1.Maps.getD 3 zm_api_Map).Cuts), Ro.mp (fInt .i64).ty p69 c70 ((x54.1.Maps.getD 3 zm_api_Map).Nodes), ml x54.1.Modes 21, MP.old p63 w71, MP.old p65 w71, MP.old p83 w71, MP.old p85 w71, MP.old p75 w71, MP.old p77 w71, MP.old p79 w71, MP.old p81 w71, MP.old p87 w71, MP.old p89 w71, MP.old p55 w71, MP.old p57 w71, MP.old p59 w71, MP.old p61 w71, MP.old p67 w71, MP.old p69 w71]) rfl rfl (aC (apart_ro (hS.tokApart 6 19 hpx724 rfl rfl (by decide))) (aC (apart_ro (hS.tokApart 6 15 hpx724 rfl rfl (by decide))) (aC (apart_ro (hS.tokApart 6 16 hpx724 rfl rfl (by decide))) (aK (aC (apart_ro (hS.tokApart 6 12 hpx724 rfl rfl (by decide))) (aC (apart_ro (hS.tokApart 6 11 hpx724 rfl rfl (by decide))) (aC (apart_ro (hS.tokApart 6 8 hpx724 rfl rfl (by decide))) (aC (apart_ro (hS.tokApart 6 7 hpx724 rfl rfl (by decide))) (aC (apart_ro (hS.tokApart 6 17 hpx724 rfl rfl (by decide))) (aC (apart_ro (hS.tokApart 6 18 hpx724 rfl rfl (by decide))) (aK (aK (aC (apart_ro (hS.tokApart 6 14 hpx724 rfl rfl (by decide))) (aC (apart_ro (hS.tokApart 6 13 hpx724 rfl rfl (by decide))) (aC (apart_ro (hS.tokApart 6 10 hpx724 rfl rfl (by decide))) (aC (apart_ro (hS.tokApart 6 9 hpx724 rfl rfl (by decide))) (aC (apart_ro (hS.tokApart 6 20 hpx724 rfl rfl (by decide))) (aC (apart_ro (hS.tokApart 6 21 hpx724 rfl rfl (by decide))) (aK (aK (aK (aK (aK (aK (aK (aK (aK (aK (aK (aK (aK (aK (aK (aK (aK aN))))))))))))))))))))))))))))))))))) (Cf := (fun nn => [.box b661 25 [sl p63 nn c64, sl p65 ((x54.1.Maps.getD 2 zm_api_Map).Nodes).length c66], .box b656 25 [sl p63 nn c64, sl p65 ((x54.1.Maps.getD 2 zm_api_Map).Nodes).length c66, sl p83 ((x74.Maps.getD 2 zm_api_Map).Cuts).length c84, sl p85 ((x74.Maps.getD 2 zm_api_Map).Nodes).length c86], .box b91 56 [si x74.Pool, si x74.Nodes, eb 4 x74.Members, sl p75 (y297).length c76, sl p77 (y361).length c78, sl p79 (y572).length c80, sl p81 (y636).length c82, sl p83 ((x74.Maps.getD 2 zm_api_Map).Cuts).length c84, sl p85 ((x74.Maps.getD 2 zm_api_Map).Nodes).length c86, sl p87 ((x74.Maps.getD 3 zm_api_Map).Cuts).length c88, sl p89 ((x74.Maps.getD 3 zm_api_Map).Nodes).length c90, ei 21 x74.Modes], .box b72 56 [si x54.1.Pool, si x54.1.Nodes, eb 4 x54.1.Members, sl p55 (y164).length c56, sl p57 (y228).length c58, sl p59 (y439).length c60, sl p61 (y503).length c62, sl p63 nn c64, sl p65 ((x54.1.Maps.getD 2 zm_api_Map).Nodes).length c66, sl p67 ((x54.1.Maps.getD 3 zm_api_Map).Cuts).length c68, sl p69 ((x54.1.Maps.getD 3 zm_api_Map).Nodes).length c70, ei 21 x54.1.Modes], .box b52 60 [si x50.Pool, si x50.Nodes, eb 4 x50.Members, (8, cs51), ei 21 x50.Modes], .box b25 56 [si a1.Pool, si a1.Nodes, eb 4 a1.Members, sl p8 ((a1.Maps.getD 0 zm_api_Map).Cuts).length c9, sl p10 ((a1.Maps.getD 0 zm_api_Map).Nodes).length c11, sl p12 ((a1.Maps.getD 1 zm_api_Map).Cuts).length c13, sl p14 ((a1.Maps.getD 1 zm_api_Map).Nodes).length c15, sl p16 ((a1.Maps.getD 2 zm_api_Map).Cuts).length c17, sl p18 ((a1.Maps.getD 2 zm_api_Map).Nodes).length c19, sl p20 ((a1.Maps.getD 3 zm_api_Map).Cuts).length c21, sl p22 ((a1.Maps.getD 3 zm_api_Map).Nodes).length c23, ei 21 a1.Modes], .tok p63 9 1 nn c64, .tok p81 3 1 (y636).length c82, .tok p79 9 1 (y572).length c80, .tok p61 3 1 (y503).length c62, .tok p59 9 1 (y439).length c60, .tok p77 3 1 (y361).length c78, .tok p75 9 1 (y297).length c76, .tok p57 3 1 (y228).length c58, .tok p55 9 1 (y164).length c56, .tok p83 9 1 ((x74.Maps.getD 2 zm_api_Map).Cuts).length c84, .tok p85 3 1 ((x74.Maps.getD 2 zm_api_Map).Nodes).length c86, .tok p87 9 1 ((x74.Maps.getD 3 zm_api_Map).Cuts).length c88, .tok p89 3 1 ((x74.Maps.getD 3 zm_api_Map).Nodes).length c90, .tok p65 3 1 ((x54.1.Maps.getD 2 zm_api_Map).Nodes).length c66, .tok p67 9 1 ((x54.1.Maps.getD 3 zm_api_Map).Cuts).length c68, .tok p69 3 1 ((x54.1.Maps.getD 3 zm_api_Map).Nodes).length c70])) (Lf := (fun nn => [(2, pt b25 0), (5, pt b52 0), (6, pt b72 0), (8, pt b91 0), (11, pt b661 0), (33, vi 2), (44, .slice (some ⟨b656, 0, none⟩) 2 2), (45, vi 2), (46, vi 0), (52, vi (((x54.1.Maps.getD 2 zm_api_Map).Cuts).length : Int)), (53, vi y715), (56, pt b661 0), (57, .slice p63 nn c64), (58, vi y715), (59, pt b661 0), (60, .slice p63 nn c64), (61, vi y715), (62, .pointer (some ⟨b721, (f722 + Int.toNat y715 * 1), none⟩)), (63, .string (x720)), (64, .string (x723)), (65, .pointer (some ⟨b725, (f726 + Int.toNat y715 * 1), none⟩))])) [2, 5, 6, 8, 11, 33, 44, 45, 46, 52, 53, 56, 57, 58, 59, 60, 61, 62, 63, 64, 65] rfl (by kernel_rfl) fun a w hF hS => ?_
 refine ⟨notE, ?_⟩
 refine and_ ?_
 refine hK718 _ _ ?_
 refine wpIn_region_lit ?_
 refine wp 2 [2, 5, 6, 8, 11, 33, 44, 45, 46, 52, 53] hF fun a hF => ?_
 refine wpListIn_nil ?_
 exact ⟨fuel9, Nat.lt_succ_self _, _, (List.set y714 (Int.toNat y715) x723), IntKind.i64.wrap (y715 + 1), hF.kp [2, 5, 6, 8, 11, 33, 44, 45, 46, 52, 53], hS.sp (rg 22) [0, 15, 16, 17, 18, 19, 20, 21, 22, 23, 24, 25, 26, 27, 28, 29, 30, 31, 32, 33, 2, 3, 4, 5, 6, 7, 8, 9, 10, 11, 12, 13, 14, 1, 34, 35, 36, 37, 38, 39, 40, 41, 42, 43, 44, 45, 46, 47, 48, 49], H⟩
 refine cond_f hF (by kernel_rfl) hb ?_
 refine wpIn_exit ?_
 refine hK662 _ _ ?_
 refine wpIn_seq_k fun K727 hK727 => ?_
 refine wpIn_region_lit ?_
 refine wp 1 [2, 5, 6, 8, 11, 33, 44, 45, 46, 67] hF fun a hF => ?_
 refine wc (wld hF hS 0 1 0 fun a hF => ?_)
 refine wp 2 [2, 5, 6, 8, 11, 33, 44, 45, 46, 69, 70] hF fun a hF => ?_
 refine wpListIn_nil ?_
 refine hK727 _ _ ?_
 refine wpIn_block ?_
 refine loop_fuel (n := N) (fun n a w => ∃ (κ : Gh) (y778 : List Int) (y779 : Int), Fr (89) [] [(2, pt b25 0), (5, pt b52 0), (6, pt b72 0), (8, pt b91 0), (11, pt b661 0), (33, vi 2), (44, .slice (some ⟨b656, 0, none⟩) 2 2), (45, vi 2), (46, vi 0), (69, vi (((x54.1.Maps.getD 2 zm_api_Map).Nodes).length : Int)), (70, vi y779)] a ∧ SS [] κ0 w0 κ w [.box b661 25 [sl p63 (y714).length c64, sl p65 (y778).length c66], .box b656 25 [sl p63 (y714).length c64, sl p65 (y778).length c66, sl p83 ((x74.Maps.getD 2 zm_api_Map).Cuts).length c84, sl p85 ((x74.Maps.getD 2 zm_api_Map).Nodes).length c86], .box b91 56 [si x74.Pool, si x74.Nodes, eb 4 x74.Members, sl p75 (y297).length c76, sl p77 (y361).length c78, sl p79 (y572).length c80, sl p81 (y636).length c82, sl p83 ((x74.Maps.getD 2 zm_api_Map).Cuts).length c84, sl p85 ((x74.Maps.getD 2 zm_api_Map).Nodes).length c86, sl p87 ((x74.Maps.getD 3 zm_api_Map).Cuts).length c88, sl p89 ((x74.Maps.getD 3 zm_api_Map).Nodes).length c90, ei 21 x74.Modes], .box b72 56 [si x54.1.Pool, si x54.1.Nodes, eb 4 x54.1.Members, sl p55 (y164).length c56, sl p57 (y228).length c58, sl p59 (y439).length c60, sl p61 (y503).length c62, sl p63 (y714).length c64, sl p65 (y778).length c66, sl p67 ((x54.1.Maps.getD 3 zm_api_Map).Cuts).length c68, sl p69 ((x54.1.Maps.getD 3 zm_api_Map).Nodes).length c70, ei 21 x54.1.Modes], .box b52 60 [si x50.Pool, si x50.Nodes, eb 4 x50.Members, (8, cs51), ei 21 x50.Modes], .box b25 56 [si a1.Pool, si a1.Nodes, eb 4 a1.Members, sl p8 ((a1.Maps.getD 0 zm_api_Map).Cuts).length c9, sl p10 ((a1.Maps.getD 0 zm_api_Map).Nodes).length c11, sl p12 ((a1.Maps.getD 1 zm_api_Map).Cuts).length c13, sl p14 ((a1.Maps.getD 1 zm_api_Map).Nodes).length c15, sl p16 ((a1.Maps.getD 2 zm_api_Map).Cuts).length c17, sl p18 ((a1.Maps.getD 2 zm_api_Map).Nodes).length c19, sl p20 ((a1.Maps.getD 3 zm_api_Map).Cuts).length c21, sl p22 ((a1.Maps.getD 3 zm_api_Map).Nodes).length c23, ei 21 a1.Modes], .tok p65 3 1 (y778).length c66, .tok p63 9 1 (y714).length c64, .tok p81 3 1 (y636).length c82, .tok p79 9 1 (y572).length c80, .tok p61 3 1 (y503).length c62, .tok p59 9 1 (y439).length c60, .tok p77 3 1 (y361).length c78, .tok p75 9 1 (y297).length c76, .tok p57 3 1 (y228).length c58, .tok p55 9 1 (y164).length c56, .tok p83 9 1 ((x74.Maps.getD 2 zm_api_Map).Cuts).length c84, .tok p85 3 1 ((x74.Maps.getD 2 zm_api_Map).Nodes).length c86, .tok p87 9 1 ((x74.Maps.getD 3 zm_api_Map).Cuts).length c88, .tok p89 3 1 ((x74.Maps.getD 3 zm_api_Map).Nodes).length c90, .tok p67 9 1 ((x54.1.Maps.getD 3 zm_api_Map).Cuts).length c68, .tok p69 3 1 ((x54.1.Maps.getD 3 zm_api_Map).Nodes).length c70] [Ro.mp fStr.ty p63 c64 y714, Ro.mp (fInt .i64).ty p65 c66 y778, Ro.mp fStr.ty p83 c84 ((x74.Maps.getD 2 zm_api_Map).Cuts), Ro.mp (fInt .i64).ty p85 c86 ((x74.Maps.getD 2 zm_api_Map).Nodes), ml x74.Members 4, Ro.mp fStr.ty p75 c76 y297, Ro.mp (fInt .i64).ty p77 c78 y361, Ro.mp fStr.ty p79 c80 y572, Ro.mp (fInt .i64).ty p81 c82 y636, Ro.mp fStr.ty p87 c88 ((x74.Maps.getD 3 zm_api_Map).Cuts), Ro.mp (fInt .i64).ty p89 c90 ((x74.Maps.getD 3 zm_api_Map).Nodes), ml x74.Modes 21, ml x54.1.Members 4, Ro.mp fStr.ty p55 c56 y164, Ro.mp (fInt .i64).ty p57 c58 y228, Ro.mp fStr.ty p59 c60 y439, Ro.mp (fInt .i64).ty p61 c62 y503, Ro.mp fStr.ty p67 c68 ((x54.1.Maps.getD 3 zm_api_Map).Cuts), Ro.mp (fInt .i64).ty p69 c70 ((x54.1.Maps.getD 3 zm_api_Map).Nodes), ml x54.1.Modes 21, ml x50.Members 4, Arr.mp t_api_Map cs51 4 x50.Maps, ml x50.Modes 21, ml a1.Members 4, Ro.mp fStr.ty p8 c9 ((a1.Maps.getD 0 zm_api_Map).Cuts), Ro.mp (fInt .i64).ty p10 c11 ((a1.Maps.getD 0 zm_api_Map).Nodes), Ro.mp fStr.ty p12 c13 ((a1.Maps.getD 1 zm_api_Map).Cuts), Ro.mp (fInt .i64).ty p14 c15 ((a1.Maps.getD 1 zm_api_Map).Nodes), Ro.mp fStr.ty p16 c17 ((a1.Maps.getD 2 zm_api_Map).Cuts), Ro.mp (fInt .i64).ty p18 c19 ((a1.Maps.getD 2 zm_api_Map).Nodes), Ro.mp fStr.ty p20 c21 ((a1.Maps.getD 3 zm_api_Map).Cuts), Ro.mp (fInt .i64).ty p22 c23 ((a1.Maps.getD 3 zm_api_Map).Nodes), ml a1.Modes 21, MP.since κ71 w71, MP.old p63 w71, MP.old p65 w71, MP.old p83 w71, MP.old p85 w71, MP.old p75 w71, MP.old p77 w71, MP.old p79 w71, MP.old p81 w71, MP.old p87 w71, MP.old p89 w71, MP.old p55 w71, MP.old p57 w71, MP.old p59 w71, MP.old p61 w71, MP.old p67 w71, MP.old p69 w71] ∧ M.law18_ConfigOwns_x_L10 N n a1 x50 x54 x74 y164 y228 y297 y361 y439 y503 y572 y636 y714 y778 y779 = some r) ?_ ?_
 exact ⟨_, (x54.1.Maps.getD 2 zm_api_Map).Nodes, 0, hF.kp [2, 5, 6, 8, 11, 33, 44, 45, 46, 69, 70], hS.sp [0, 1, 2, 3, 4, 5, 19, 6, 7, 8, 9, 10, 11, 12, 13, 14, 15, 16, 17, 18, 20, 21] (rg 50), H⟩
 rintro n a w ⟨κ, y778, y779, hF, hS, H⟩
 rcases n with _ | fuel10
 simp [M.law18_ConfigOwns_x_L10] at H
 simp only [M.law18_ConfigOwns_x_L10] at H
 refine wpIn_seq_k fun K780 hK780 => ?_
 refine wpIn_region_lit ?_
 refine wp 1 [2, 5, 6, 8, 11, 33, 44, 45, 46, 69, 70, 71] hF fun a hF => ?_
 refine wpListIn_nil ?_
 refine hK780 _ _ ?_
 refine wpIn_seq_k fun K781 hK781 => ?_
 refine bif_split H (fun hb H => ?_) (fun hb H => ?_)
 refine cond_t hF (by kernel_rfl) hb ?_
 refine wpIn_skip ?_
 refine hK781 _ _ ?_
 refine wpIn_seq_k fun K782 hK782 => ?_
 refine wpIn_block ?_
 refine wpIn_seq_k fun K783 hK783 => ?_
 refine wpIn_region_lit ?_
 refine wp 2 [2, 5, 6, 8, 11, 13, 33, 44, 45, 46, 69, 70] hF fun a hF => ?_
 refine wpListIn_nil ?_
 refine hK783 _ _ ?_
 refine wpIn_region_lit ?_
 refine wp 1 [2, 5, 6, 8, 11, 13, 33, 44, 45, 46, 69, 70, 73] hF fun a hF => ?_
 refine wc (wld hF hS 0 1 0 fun a hF => ?_)
 refine wl_pure (L' := [(2, pt b25 0), (5, pt b52 0), (6, pt b72 0), (8, pt b91 0), (11, pt b661 0), (33, vi 2), (44, .slice (some ⟨b656, 0, none⟩) 2 2), (45, vi 2), (46, vi 0), (69, vi (((x54.1.Maps.getD 2 zm_api_Map).Nodes).length : Int)), (70, vi y779), (74, .slice p65 (y778).length c66), (75, vi y779)]) 1 [2, 5, 6, 8, 11, 33, 44, 45, 46, 69, 70, 74, 75] hF (by kernel_rfl) fun a hF => ?_
 refine bind_split H (fun x784 hx784 H => ?_)
 refine wc (wo_index hF hS (by kernel_rfl) 1 (E := 3) (sz := 1) rfl rfl rfl (by kernel_rfl) rfl hx784 (by kernel_rfl) (by kernel_rfl) fun b785 f786 a hpx784 hF => ?_)
 refine wc (wo_loadRo (t := (fInt .i64)) hF hS (by kernel_rfl) 1 0 (v := vi x784) rfl rfl hpx784 rfl hx784 (by kernel_rfl) (by kernel_rfl) (by kernel_rfl) fun a hF => ?_)
 refine wl_pure (L' := [(2, pt b25 0), (5, pt b52 0), (6, pt b72 0), (8, pt b91 0), (11, pt b661 0), (33, vi 2), (44, .slice (some ⟨b656, 0, none⟩) 2 2), (45, vi 2), (46, vi 0), (69, vi (((x54.1.Maps.getD 2 zm_api_Map).Nodes).length : Int)), (70, vi y779), (74, .slice p65 (y778).length c66), (75, vi y779), (78, vi (IntKind.i64.wrap (x784 + 1)))]) 1 [2, 5, 6, 8, 11, 33, 44, 45, 46, 69, 70, 74, 75, 78] hF (by kernel_rfl) fun a hF => ?_
 refine bind_split H (fun x787 hx787 H => ?_)
 refine wc (wo_index hF hS (by kernel_rfl) 1 (E := 3) (sz := 1) rfl rfl rfl (by kernel_rfl) rfl hx787 (by kernel_rfl) (by kernel_rfl) fun b788 f789 a hpx787 hF => ?_)
 refine wc (wo_storeTokS (t := (fInt .i64)) (y := x787) (z := IntKind.i64.wrap (x784 + 1)) (v := vi (IntKind.i64.wrap (x784 + 1))) (vs := (flat [si (IntKind.i64.wrap (x784 + 1))])) (sz := 1) hF hS hfr hf71 hw71 hR71 (by kernel_rfl) 6 1 33 35 0 rfl rfl (by kernel_rfl) rfl rfl rfl hpx787 hx787 rfl (by kernel_rfl) (by kernel_rfl) rfl (show segGood [si (IntKind.i64.wrap (x784 + 1))] from (sgN 1 sgNil)).2 rfl (by decide) rfl rfl (nfC nfB (nfC nfB (nfC nfB (nfC nfB (nfC nfB (nfC nfB (nfC nfT (nfC nfT (nfC nfT (nfC nfT (nfC nfT (nfC nfT (nfC nfT (nfC nfT (nfC nfT (nfC nfT (nfC nfT (nfC nfT (nfC nfT (nfC nfT (nfC nfT (nfC nfT nfN)))))))))))))))))))))) [2, 3, 4, 26, 23, 24, 21, 22, 19, 20, 17, 18, 27] [0, 2, 3, 4, 5, 6, 7, 8, 9, 10, 11, 12, 13, 14, 15, 16, 17, 18, 19, 34, 35, 36, 37, 38, 39, 40, 41, 42, 43, 44, 45, 46, 47, 48, 49] (Ra := [ml x50.Members 4, Arr.mp t_api_Map cs51 4 x50.Maps, ml x50.Modes 21, ml a1.Members 4, Ro.mp fStr.ty p8 c9 ((a1.Maps.getD 0 zm_api_Map).Cuts), Ro.mp (fInt .i64).ty p10 c11 ((a1.Maps.getD 0 zm_api_Map).Nodes), Ro.mp fStr.ty p12 c13 ((a1.Maps.getD 1 zm_api_Map).Cuts), Ro.mp (fInt .i64).ty p14 c15 ((a1.Maps.getD 1 zm_api_Map).Nodes), Ro.mp fStr.ty p16 c17 ((a1.Maps.getD 2 zm_api_Map).Cuts), Ro.mp (fInt .i64).ty p18 c19 ((a1.Maps.getD 2 zm_api_Map).Nodes), Ro.mp fStr.ty p20 c21 ((a1.Maps.getD 3 zm_api_Map).Cuts), Ro.mp (fInt .i64).ty p22 c23 ((a1.Maps.getD 3 zm_api_Map).Nodes), ml a1.Modes 21]) (Rb := [Ro.mp fStr.ty p63 c64 y714, Ro.mp fStr.ty p83 c84 ((x74.Maps.getD 2 zm_api_Map).Cuts), Ro.mp (fInt .i64).ty p85 c86 ((x74.Maps.getD 2 zm_api_Map).Nodes), ml x74.Members 4, Ro.mp fStr.ty p75 c76 y297, Ro.mp (fInt .i64).ty p77 c78 y361, Ro.mp fStr.ty p79 c80 y572, Ro.mp (fInt .i64).ty p81 c82 y636, Ro.mp fStr.ty p87 c88 ((x74.Maps.getD 3 zm_api_Map).Cuts), Ro.mp (fInt .i64).ty p89 c90 ((x74.Maps.getD 3 zm_api_Map).Nodes), ml x74.Modes 21, ml x54.1.Members 4, Ro.mp fStr.ty p55 c56 y164, Ro.mp (fInt .i64).ty p57 c58 y228, Ro.mp fStr.ty p59 c60 y439, Ro.mp (fInt .i64).ty p61 c62 y503, Ro.mp fStr.ty p67 c68 ((x54.1.Maps.getD 3 zm_api_Map).Cuts), Ro.mp (fInt .i64).ty p69 c70 ((x54.1.Maps.getD 3 zm_api_Map).Nodes), ml x54.1.Modes 21, MP.old p63 w71, MP.old p65 w71, MP.old p83 w71, MP.old p85 w71, MP.old p75 w71, MP.old p77 w71, MP.old p79 w71, MP.old p81 w71, MP.old p87 w71, MP.old p89 w71, MP.old p55 w71, MP.old p57 w71, MP.old p59 w71, MP.old p61 w71, MP.old p67 w71, MP.old p69 w71]) rfl rfl (aC (apart_ro (hS.tokApart 6 7 hpx787 rfl rfl (by decide))) (aC (apart_ro (hS.tokApart 6 16 hpx787 rfl rfl (by decide))) (aC (apart_ro (hS.tokApart 6 17 hpx787 rfl rfl (by decide))) (aK (aC (apart_ro (hS.tokApart 6 13 hpx787 rfl rfl (by decide))) (aC (apart_ro (hS.tokApart 6 12 hpx787 rfl rfl (by decide))) (aC (apart_ro (hS.tokApart 6 9 hpx787 rfl rfl (by decide))) (aC (apart_ro (hS.tokApart 6 8 hpx787 rfl rfl (by decide))) (aC (apart_ro (hS.tokApart 6 18 hpx787 rfl rfl (by decide))) (aC (apart_ro (hS.tokApart 6 19 hpx787 rfl rfl (by decide))) (aK (aK (aC (apart_ro (hS.tokApart 6 15 hpx787 rfl rfl (by decide))) (aC (apart_ro (hS.tokApart 6 14 hpx787 rfl rfl (by decide))) (aC (apart_ro (hS.tokApart 6 11 hpx787 rfl rfl (by decide))) (aC (apart_ro (hS.tokApart 6 10 hpx787 rfl rfl (by decide))) (aC (apart_ro (hS.tokApart 6 20 hpx787 rfl rfl (by decide))) (aC (apart_ro (hS.tokApart 6 21 hpx787 rfl rfl (by decide))) (aK (aK (aK (aK (aK (aK (aK (aK (aK (aK (aK (aK (aK (aK (aK (aK (aK aN))))))))))))))))))))))))))))))))))) (Cf := (fun nn => [.box b661 25 [sl p63 (y714).length c64, sl p65 nn c66], .box b656 25 [sl p63 (y714).length c64, sl p65 nn c66, sl p83 ((x74.Maps.getD 2 zm_api_Map).Cuts).length c84, sl p85 ((x74.Maps.getD 2 zm_api_Map).Nodes).length c86], .box b91 56 [si x74.Pool, si x74.Nodes, eb 4 x74.Members, sl p75 (y297).length c76, sl p77 (y361).length c78, sl p79 (y572).length c80, sl p81 (y636).length c82, sl p83 ((x74.Maps.getD 2 zm_api_Map).Cuts).length c84, sl p85 ((x74.Maps.getD 2 zm_api_Map).Nodes).length c86, sl p87 ((x74.Maps.getD 3 zm_api_Map).Cuts).length c88, sl p89 ((x74.Maps.getD 3 zm_api_Map).Nodes).length c90, ei 21 x74.Modes], .box b72 56 [si x54.1.Pool, si x54.1.Nodes, eb 4 x54.1.Members, sl p55 (y164).length c56, sl p57 (y228).length c58, sl p59 (y439).length c60, sl p61 (y503).length c62, sl p63 (y714).length c64, sl p65 nn c66, sl p67 ((x54.1.Maps.getD 3 zm_api_Map).Cuts).length c68, sl p69 ((x54.1.Maps.getD 3 zm_api_Map).Nodes).length c70, ei 21 x54.1.Modes], .box b52 60 [si x50.Pool, si x50.Nodes, eb 4 x50.Members, (8, cs51), ei 21 x50.Modes], .box b25 56 [si a1.Pool, si a1.Nodes, eb 4 a1.Members, sl p8 ((a1.Maps.getD 0 zm_api_Map).Cuts).length c9, sl p10 ((a1.Maps.getD 0 zm_api_Map).Nodes).length c11, sl p12 ((a1.Maps.getD 1 zm_api_Map).Cuts).length c13, sl p14 ((a1.Maps.getD 1 zm_api_Map).Nodes).length c15, sl p16 ((a1.Maps.getD 2 zm_api_Map).Cuts).length c17, sl p18 ((a1.Maps.getD 2 zm_api_Map).Nodes).length c19, sl p20 ((a1.Maps.getD 3 zm_api_Map).Cuts).length c21, sl p22 ((a1.Maps.getD 3 zm_api_Map).Nodes).length c23, ei 21 a1.Modes], .tok p65 3 1 nn c66, .tok p63 9 1 (y714).length c64, .tok p81 3 1 (y636).length c82, .tok p79 9 1 (y572).length c80, .tok p61 3 1 (y503).length c62, .tok p59 9 1 (y439).length c60, .tok p77 3 1 (y361).length c78, .tok p75 9 1 (y297).length c76, .tok p57 3 1 (y228).length c58, .tok p55 9 1 (y164).length c56, .tok p83 9 1 ((x74.Maps.getD 2 zm_api_Map).Cuts).length c84, .tok p85 3 1 ((x74.Maps.getD 2 zm_api_Map).Nodes).length c86, .tok p87 9 1 ((x74.Maps.getD 3 zm_api_Map).Cuts).length c88, .tok p89 3 1 ((x74.Maps.getD 3 zm_api_Map).Nodes).length c90, .tok p67 9 1 ((x54.1.Maps.getD 3 zm_api_Map).Cuts).length c68, .tok p69 3 1 ((x54.1.Maps.getD 3 zm_api_Map).Nodes).length c70])) (Lf := (fun nn => [(2, pt b25 0), (5, pt b52 0), (6, pt b72 0), (8, pt b91 0), (11, pt b661 0), (33, vi 2), (44, .slice (some ⟨b656, 0, none⟩) 2 2), (45, vi 2), (46, vi 0), (69, vi (((x54.1.Maps.getD 2 zm_api_Map).Nodes).length : Int)), (70, vi y779), (74, .slice p65 nn c66), (75, vi y779), (78, vi (IntKind.i64.wrap (x784 + 1))), (79, .pointer (some ⟨b788, (f789 + Int.toNat y779 * 1), none⟩))])) [2, 5, 6, 8, 11, 33, 44, 45, 46, 69, 70, 74, 75, 78, 79] rfl (by kernel_rfl) fun a w hF hS => ?_)
 refine wpListIn_nil ?_
 refine hK782 _ _ ?_
 refine wpIn_region_lit ?_
 refine wp 2 [2, 5, 6, 8, 11, 33, 44, 45, 46, 69, 70] hF fun a hF => ?_
 refine wpListIn_nil ?_
 exact ⟨fuel10, Nat.lt_succ_self _, _, (List.set y778 (Int.toNat y779) (IntKind.i64.wrap (x784 + 1))), IntKind.i64.wrap (y779 + 1), hF.kp [2, 5, 6, 8, 11, 33, 44, 45, 46, 69, 70], hS.sp (rg 22) [15, 0, 16, 17, 18, 19, 20, 21, 22, 23, 24, 25, 26, 27, 28, 29, 30, 31, 32, 33, 2, 3, 4, 5, 6, 7, 8, 9, 10, 11, 12, 13, 14, 1, 34, 35, 36, 37, 38, 39, 40, 41, 42, 43, 44, 45, 46, 47, 48, 49], H⟩
 refine cond_f hF (by kernel_rfl) hb ?_
 refine wpIn_exit ?_
 refine hK659 _ _ ?_
 refine wpIn_region_lit ?_
 refine wl_pure (L' := [(2, pt b25 0), (5, pt b52 0), (6, pt b72 0), (8, pt b91 0), (33, vi 2), (44, .slice (some ⟨b656, 0, none⟩) 2 2), (45, vi 2), (46, vi 1)]) 2 [2, 5, 6, 8, 33, 44, 45, 46] hF (by kernel_rfl) fun a hF => ?_
 refine wpListIn_nil ?_
 refine round_go ?_
 refine wpIn_seq_k fun K790 hK790 => ?_
 refine wpIn_region_lit ?_
 refine wp 1 [2, 5, 6, 8, 33, 44, 45, 46, 47] hF fun a hF => ?_
 refine wpListIn_nil ?_
 refine hK790 _ _ ?_
 refine wpIn_seq_k fun K791 hK791 => ?_
 refine cond_t hF (by kernel_rfl) rfl ?_
 refine wpIn_skip ?_
 refine hK791 _ _ ?_
 refine wpIn_seq_k fun K792 hK792 => ?_
 refine wpIn_block ?_
 refine wpIn_seq_k fun K793 hK793 => ?_
 refine wpIn_region_lit ?_
 refine wp 1 [2, 5, 6, 8, 33, 44, 45, 46, 48] hF fun a hF => ?_
 refine wc (wls hF hS 1 2 2 fun a hF => ?_)
 refine wc (wal hF hS [sl none 0 0, sl none 0 0] (sgN 2 sgNil) fun b794 a w hF hS => ?_)
 refine wc (wst hF hS 0 0 2 [sl p83 ((x74.Maps.getD 2 zm_api_Map).Cuts).length c84, sl p85 ((x74.Maps.getD 2 zm_api_Map).Nodes).length c86] (sgN 2 sgNil) fun a w hF hS => ?_)
 refine wpListIn_nil ?_
 refine hK793 _ _ ?_
 refine wpIn_seq_k fun K795 hK795 => ?_
 refine wpIn_seq_k fun K796 hK796 => ?_
 refine wpIn_region_lit ?_
 refine wp 1 [2, 5, 6, 8, 11, 33, 44, 45, 46, 50] hF fun a hF => ?_
 refine wc (wld hF hS 0 0 0 fun a hF => ?_)
 refine wp 2 [2, 5, 6, 8, 11, 33, 44, 45, 46, 52, 53] hF fun a hF => ?_
 refine wpListIn_nil ?_
 refine hK796 _ _ ?_
 refine wpIn_block ?_
 refine loop_fuel (n := N) (fun n a w => ∃ (κ : Gh) (y847 : List ByteArray) (y848 : Int), Fr (89) [] [(2, pt b25 0), (5, pt b52 0), (6, pt b72 0), (8, pt b91 0), (11, pt b794 0), (33, vi 2), (44, .slice (some ⟨b656, 0, none⟩) 2 2), (45, vi 2), (46, vi 1), (52, vi (((x74.Maps.getD 2 zm_api_Map).Cuts).length : Int)), (53, vi y848)] a ∧ SS [] κ0 w0 κ w [.box b794 25 [sl p83 (y847).length c84, sl p85 ((x74.Maps.getD 2 zm_api_Map).Nodes).length c86], .box b656 25 [sl p63 (y714).length c64, sl p65 (y778).length c66, sl p83 (y847).length c84, sl p85 ((x74.Maps.getD 2 zm_api_Map).Nodes).length c86], .box b91 56 [si x74.Pool, si x74.Nodes, eb 4 x74.Members, sl p75 (y297).length c76, sl p77 (y361).length c78, sl p79 (y572).length c80, sl p81 (y636).length c82, sl p83 (y847).length c84, sl p85 ((x74.Maps.getD 2 zm_api_Map).Nodes).length c86, sl p87 ((x74.Maps.getD 3 zm_api_Map).Cuts).length c88, sl p89 ((x74.Maps.getD 3 zm_api_Map).Nodes).length c90, ei 21 x74.Modes], .box b72 56 [si x54.1.Pool, si x54.1.Nodes, eb 4 x54.1.Members, sl p55 (y164).length c56, sl p57 (y228).length c58, sl p59 (y439).length c60, sl p61 (y503).length c62, sl p63 (y714).length c64, sl p65 (y778).length c66, sl p67 ((x54.1.Maps.getD 3 zm_api_Map).Cuts).length c68, sl p69 ((x54.1.Maps.getD 3 zm_api_Map).Nodes).length c70, ei 21 x54.1.Modes], .box b52 60 [si x50.Pool, si x50.Nodes, eb 4 x50.Members, (8, cs51), ei 21 x50.Modes], .box b25 56 [si a1.Pool, si a1.Nodes, eb 4 a1.Members, sl p8 ((a1.Maps.getD 0 zm_api_Map).Cuts).length c9, sl p10 ((a1.Maps.getD 0 zm_api_Map).Nodes).length c11, sl p12 ((a1.Maps.getD 1 zm_api_Map).Cuts).length c13, sl p14 ((a1.Maps.getD 1 zm_api_Map).Nodes).length c15, sl p16 ((a1.Maps.getD 2 zm_api_Map).Cuts).length c17, sl p18 ((a1.Maps.getD 2 zm_api_Map).Nodes).length c19, sl p20 ((a1.Maps.getD 3 zm_api_Map).Cuts).length c21, sl p22 ((a1.Maps.getD 3 zm_api_Map).Nodes).length c23, ei 21 a1.Modes], .tok p83 9 1 (y847).length c84, .tok p65 3 1 (y778).length c66, .tok p63 9 1 (y714).length c64, .tok p81 3 1 (y636).length c82, .tok p79 9 1 (y572).length c80, .tok p61 3 1 (y503).length c62, .tok p59 9 1 (y439).length c60, .tok p77 3 1 (y361).length c78, .tok p75 9 1 (y297).length c76, .tok p57 3 1 (y228).length c58, .tok p55 9 1 (y164).length c56, .tok p85 3 1 ((x74.Maps.getD 2 zm_api_Map).Nodes).length c86, .tok p87 9 1 ((x74.Maps.getD 3 zm_api_Map).Cuts).length c88, .tok p89 3 1 ((x74.Maps.getD 3 zm_api_Map).Nodes).length c90, .tok p67 9 1 ((x54.1.Maps.getD 3 zm_api_Map).Cuts).length c68, .tok p69 3 1 ((x54.1.Maps.getD 3 zm_api_Map).Nodes).length c70] [Ro.mp fStr.ty p83 c84 y847, Ro.mp (fInt .i64).ty p85 c86 ((x74.Maps.getD 2 zm_api_Map).Nodes), Ro.mp fStr.ty p63 c64 y714, Ro.mp (fInt .i64).ty p65 c66 y778, ml x74.Members 4, Ro.mp fStr.ty p75 c76 y297, Ro.mp (fInt .i64).ty p77 c78 y361, Ro.mp fStr.ty p79 c80 y572, Ro.mp (fInt .i64).ty p81 c82 y636, Ro.mp fStr.ty p87 c88 ((x74.Maps.getD 3 zm_api_Map).Cuts), Ro.mp (fInt .i64).ty p89 c90 ((x74.Maps.getD 3 zm_api_Map).Nodes), ml x74.Modes 21, ml x54.1.Members 4, Ro.mp fStr.ty p55 c56 y164, Ro.mp (fInt .i64).ty p57 c58 y228, Ro.mp fStr.ty p59 c60 y439, Ro.mp (fInt .i64).ty p61 c62 y503, Ro.mp fStr.ty p67 c68 ((x54.1.Maps.getD 3 zm_api_Map).Cuts), Ro.mp (fInt .i64).ty p69 c70 ((x54.1.Maps.getD 3 zm_api_Map).Nodes), ml x54.1.Modes 21, ml x50.Members 4, Arr.mp t_api_Map cs51 4 x50.Maps, ml x50.Modes 21, ml a1.Members 4, Ro.mp fStr.ty p8 c9 ((a1.Maps.getD 0 zm_api_Map).Cuts), Ro.mp (fInt .i64).ty p10 c11 ((a1.Maps.getD 0 zm_api_Map).Nodes), Ro.mp fStr.ty p12 c13 ((a1.Maps.getD 1 zm_api_Map).Cuts), Ro.mp (fInt .i64).ty p14 c15 ((a1.Maps.getD 1 zm_api_Map).Nodes), Ro.mp fStr.ty p16 c17 ((a1.Maps.getD 2 zm_api_Map).Cuts), Ro.mp (fInt .i64).ty p18 c19 ((a1.Maps.getD 2 zm_api_Map).Nodes), Ro.mp fStr.ty p20 c21 ((a1.Maps.getD 3 zm_api_Map).Cuts), Ro.mp (fInt .i64).ty p22 c23 ((a1.Maps.getD 3 zm_api_Map).Nodes), ml a1.Modes 21, MP.since κ71 w71, MP.old p83 w71, MP.old p85 w71, MP.old p63 w71, MP.old p65 w71, MP.old p75 w71, MP.old p77 w71, MP.old p79 w71, MP.old p81 w71, MP.old p87 w71, MP.old p89 w71, MP.old p55 w71, MP.old p57 w71, MP.old p59 w71, MP.old p61 w71, MP.old p67 w71, MP.old p69 w71] ∧ M.law18_ConfigOwns_x_L11 N n a1 x50 x54 x74 y164 y228 y297 y361 y439 y503 y572 y636 y714 y778 y847 y848 = some r) ?_ ?_
 exact ⟨_, (x74.Maps.getD 2 zm_api_Map).Cuts, 0, hF.kp [2, 5, 6, 8, 11, 33, 44, 45, 46, 52, 53], hS.sp [0, 2, 3, 4, 5, 6, 17, 7, 8, 9, 10, 11, 12, 13, 14, 15, 16, 18, 19, 20, 21, 22] [2, 3, 0, 1, 4, 5, 6, 7, 8, 9, 10, 11, 12, 13, 14, 15, 16, 17, 18, 19, 20, 21, 22, 23, 24, 25, 26, 27, 28, 29, 30, 31, 32, 33, 36, 37, 34, 35, 38, 39, 40, 41, 42, 43, 44, 45, 46, 47, 48, 49], H⟩
 rintro n a w ⟨κ, y847, y848, hF, hS, H⟩
 rcases n with _ | fuel11
 simp [M.law18_ConfigOwns_x_L11] at H
 simp only [M.law18_ConfigOwns_x_L11] at H
 refine wpIn_seq_k fun K849 hK849 => ?_
 refine wpIn_region_lit ?_
 refine wp 1 [2, 5, 6, 8, 11, 33, 44, 45, 46, 52, 53, 54] hF fun a hF => ?_
 refine wpListIn_nil ?_
 refine hK849 _ _ ?_
 refine wpIn_seq_k fun K850 hK850 => ?_
 refine bif_split H (fun hb H => ?_) (fun hb H => ?_)
 refine cond_t hF (by kernel_rfl) hb ?_
 refine wpIn_skip ?_
 refine hK850 _ _ ?_
 refine wpIn_seq_k fun K851 hK851 => ?_
 refine wpIn_block ?_
 refine wpIn_seq_k fun K852 hK852 => ?_
 refine wpIn_region_lit ?_
 refine wp 2 [2, 5, 6, 8, 11, 12, 33, 44, 45, 46, 52, 53] hF fun a hF => ?_
 refine wpListIn_nil ?_
 refine hK852 _ _ ?_
 refine rgS hS [10] ?_
 have hS := hS.drew
 refine any_pure [0, 2, 3, 5] [2, 5, 6, 8, 11, 33, 44, 45, 46, 52, 53, 56, 58, 59, 61] (L' := [(2, pt b25 0), (5, pt b52 0), (6, pt b72 0), (8, pt b91 0), (11, pt b794 0), (33, vi 2), (44, .slice (some ⟨b656, 0, none⟩) 2 2), (45, vi 2), (46, vi 1), (52, vi (((x74.Maps.getD 2 zm_api_Map).Cuts).length : Int)), (53, vi y848), (56, pt b794 0), (58, vi y848), (59, pt b794 0), (61, vi y848)]) (listed' := (bitA 11 45)) (fuel := 7) hF (hS.sx (rg 6) (rg 50)) (by kernel_rfl) (by intro c a w t v h; cases t <;> exact h) (by kernel_rfl) rfl fun a hF => ?_
 refine atk 1 (some 57) hF (hS.sx (rg 6) (rg 50)) rfl (vld 0 0 0) fun a hF => ?_
 refine atk 4 (some 60) hF (hS.sx (rg 6) (rg 50)) rfl (vld 0 0 0) fun a hF => ?_
 refine bind_split H (fun x853 hx853 H => ?_)
 obtain ⟨b854, f855, hpx853⟩ := hS.ptr 0 rfl hx853
 refine atk 6 (some 62) hF (hS.sx (rg 6) (rg 50)) rfl (fun w _ => val_index (E := 9) (sz := 1) rfl hpx853 rfl (by kernel_rfl) rfl hx853 (by kernel_rfl) (by kernel_rfl) w) fun a hF => ?_
 refine atk 7 (some 63) hF (hS.sx (rg 6) (rg 50)) rfl (val_loadRo (t := fStr) 0 0 (v := .string (x853)) rfl rfl hpx853 rfl hx853 (by kernel_rfl) (by kernel_rfl) (by kernel_rfl)) fun a hF => ?_
 refine ago 8 hF rfl ?_
 refine bind_split H (fun x856 hx856 H => ?_)
 refine wo_callP hF hS (by kernel_rfl) (by kernel_rfl) (C_law18_other N hS.fresh x853  ((hS.pick [] (by kernel_rfl)).ro) hx856) ?_
 rintro _ κ w a ⟨rfl, hR, hN⟩ hF hS hO
 refine ⟨fun _ => (hS.sx (rg 6) (rg 50)), ?_⟩
 refine bind_split H (fun x857 hx857 H => ?_)
 obtain ⟨b858, f859, hpx857⟩ := hS.ptr 0 rfl hx857
 refine atk 9 (some 65) hF (hS.sx (rg 6) (rg 50)) rfl (fun w _ => val_index (E := 9) (sz := 1) rfl hpx857 rfl (by kernel_rfl) rfl hx857 (by kernel_rfl) (by kernel_rfl) w) fun a hF => ?_
 refine ago 10 hF rfl ?_
 refine wo_storeTokS (t := fStr) (y := x857) (z := x856) (v := .string (x856)) (vs := (flat [sg x856])) (sz := 1) hF hS hfr hf71 hw71 hR71 (by kernel_rfl) 6 0 33 34 0 rfl rfl (by kernel_rfl) rfl rfl rfl hpx857 hx857 rfl (by kernel_rfl) (by kernel_rfl) rfl (show segGood [sg x856] from (sgN 1 sgNil)).2 rfl (by decide) rfl rfl (nfC nfB (nfC nfB (nfC nfB (nfC nfB (nfC nfB (nfC nfB (nfC nfT (nfC nfT (nfC nfT (nfC nfT (nfC nfT (nfC nfT (nfC nfT (nfC nfT (nfC nfT (nfC nfT (nfC nfT (nfC nfT (nfC nfT (nfC nfT (nfC nfT (nfC nfT nfN)))))))))))))))))))))) [2, 3, 4, 26, 23, 24, 21, 22, 19, 20, 17, 18, 27] [1, 2, 3, 4, 5, 6, 7, 8, 9, 10, 11, 12, 13, 14, 15, 16, 17, 18, 19, 34, 35, 36, 37, 38, 39, 40, 41, 42, 43, 44, 45, 46, 47, 48, 49] (Ra := [ml x50.Members 4, Arr.mp t_api_Map cs51 4 x50.Maps, ml x50.Modes 21, ml a1.Members 4, Ro.mp fStr.ty p8 c9 ((a1.Maps.getD 0 zm_api_Map).Cuts), Ro.mp (fInt .i64).ty p10 c11 ((a1.Maps.getD 0 zm_api_Map).Nodes), Ro.mp fStr.ty p12 c13 ((a1.Maps.getD 1 zm_api_Map).Cuts), Ro.mp (fInt .i64).ty p14 c15 ((a1.Maps.getD 1 zm_api_Map).Nodes), Ro.mp fStr.ty p16 c17 ((a1.Maps.getD 2 zm_api_Map).Cuts), Ro.mp (fInt .i64).ty p18 c19 ((a1.Maps.getD 2 zm_api_Map).Nodes), Ro.mp fStr.ty p20 c21 ((a1.Maps.getD 3 zm_api_Map).Cuts), Ro.mp (fInt .i64).ty p22 c23 ((a1.Maps.getD 3 zm_api_Map).Nodes), ml a1.Modes 21]) (Rb := [Ro.mp (fInt .i64).ty p85 c86 ((x74.Maps.getD 2 zm_api_Map).Nodes), Ro.mp fStr.ty p63 c64 y714, Ro.mp (fInt .i64).ty p65 c66 y778, ml x74.Members 4, Ro.mp fStr.ty p75 c76 y297, Ro.mp (fInt .i64).ty p77 c78 y361, Ro.mp fStr.ty p79 c80 y572, Ro.mp (fInt .i64).ty p81 c82 y636, Ro.mp fStr.ty p87 c88 ((x74.Maps.getD 3 zm_api_Map).Cuts), Ro.mp (fInt .i64).ty p89 c90 ((x74.Maps.getD 3 zm_api_Map).Nodes), ml x74.Modes 21, ml x54.1.Members 4, Ro.mp fStr.ty p55 c56 y164, Ro.mp (fInt .i64).ty p57 c58 y228, Ro.mp fStr.ty p59 c60 y439, Ro.mp (fInt .i64).ty p61 c62 y503, Ro.mp fStr.ty p67 c68 ((x54.1.Maps.getD 3 zm_api_Map).Cuts), Ro.mp (fInt .i64).ty p69 c70 ((x54.1.Maps.getD 3 zm_api_Map).Nodes), ml x54.1.Modes 21, MP.old p83 w71, MP.old p85 w71, MP.old p63 w71, MP.old p65 w71, MP.old p75 w71, MP.old p77 w71, MP.old p79 w71, MP.old p81 w71, MP.old p87 w71, MP.old p89 w71, MP.old p55 w71, MP.old p57 w71, MP.old p59 w71, MP.old p61 w71, MP.old p67 w71, MP.old p69 w71]) rfl rfl (aC (apart_ro (hS.tokApart 6 17 hpx857 rfl rfl (by decide))) (aC (apart_ro (hS.tokApart 6 8 hpx857 rfl rfl (by decide))) (aC (apart_ro (hS.tokApart 6 7 hpx857 rfl rfl (by decide))) (aK (aC (apart_ro (hS.tokApart 6 14 hpx857 rfl rfl (by decide))) (aC (apart_ro (hS.tokApart 6 13 hpx857 rfl rfl (by decide))) (aC (apart_ro (hS.tokApart 6 10 hpx857 rfl rfl (by decide))) (aC (apart_ro (hS.tokApart 6 9 hpx857 rfl rfl (by decide))) (aC (apart_ro (hS.tokApart 6 18 hpx857 rfl rfl (by decide))) (aC (apart_ro (hS.tokApart 6 19 hpx857 rfl rfl (by decide))) (aK (aK (aC (apart_ro (hS.tokApart 6 16 hpx857 rfl rfl (by decide))) (aC (apart_ro (hS.tokApart 6 15 hpx857 rfl rfl (by decide))) (aC (apart_ro (hS.tokApart 6 12 hpx857 rfl rfl (by decide))) (aC (apart_ro (hS.tokApart 6 11 hpx857 rfl rfl (by decide))) (aC (apart_ro (hS.tokApart 6 20 hpx857 rfl rfl (by decide))) (aC (apart_ro (hS.tokApart 6 21 hpx857 rfl rfl (by decide))) (aK (aK (aK (aK (aK (aK (aK (aK (aK (aK (aK (aK (aK (aK (aK (aK (aK aN))))))))))))))))))))))))))))))))))) (Cf := (fun nn => [.box b794 25 [sl p83 nn c84, sl p85 ((x74.Maps.getD 2 zm_api_Map).Nodes).length c86], .box b656 25 [sl p63 (y714).length c64, sl p65 (y778).length c66, sl p83 nn c84, sl p85 ((x74.Maps.getD 2 zm_api_Map).Nodes).length c86], .box b91 56 [si x74.Pool, si x74.Nodes, eb 4 x74.Members, sl p75 (y297).length c76, sl p77 (y361).length c78, sl p79 (y572).length c80, sl p81 (y636).length c82, sl p83 nn c84, sl p85 ((x74.Maps.getD 2 zm_api_Map).Nodes).length c86, sl p87 ((x74.Maps.getD 3 zm_api_Map).Cuts).length c88, sl p89 ((x74.Maps.getD 3 zm_api_Map).Nodes).length c90, ei 21 x74.Modes], .box b72 56 [si x54.1.Pool, si x54.1.Nodes, eb 4 x54.1.Members, sl p55 (y164).length c56, sl p57 (y228).length c58, sl p59 (y439).length c60, sl p61 (y503).length c62, sl p63 (y714).length c64, sl p65 (y778).length c66, sl p67 ((x54.1.Maps.getD 3 zm_api_Map).Cuts).length c68, sl p69 ((x54.1.Maps.getD 3 zm_api_Map).Nodes).length c70, ei 21 x54.1.Modes], .box b52 60 [si x50.Pool, si x50.Nodes, eb 4 x50.Members, (8, cs51), ei 21 x50.Modes], .box b25 56 [si a1.Pool, si a1.Nodes, eb 4 a1.Members, sl p8 ((a1.Maps.getD 0 zm_api_Map).Cuts).length c9, sl p10 ((a1.Maps.getD 0 zm_api_Map).Nodes).length c11, sl p12 ((a1.Maps.getD 1 zm_api_Map).Cuts).length c13, sl p14 ((a1.Maps.getD 1 zm_api_Map).Nodes).length c15, sl p16 ((a1.Maps.getD 2 zm_api_Map).Cuts).length c17, sl p18 ((a1.Maps.getD 2 zm_api_Map).Nodes).length c19, sl p20 ((a1.Maps.getD 3 zm_api_Map).Cuts).length c21, sl p22 ((a1.Maps.getD 3 zm_api_Map).Nodes).length c23, ei 21 a1.Modes], .tok p83 9 1 nn c84, .tok p65 3 1 (y778).length c66, .tok p63 9 1 (y714).length c64, .tok p81 3 1 (y636).length c82, .tok p79 9 1 (y572).length c80, .tok p61 3 1 (y503).length c62, .tok p59 9 1 (y439).length c60, .tok p77 3 1 (y361).length c78, .tok p75 9 1 (y297).length c76, .tok p57 3 1 (y228).length c58, .tok p55 9 1 (y164).length c56, .tok p85 3 1 ((x74.Maps.getD 2 zm_api_Map).Nodes).length c86, .tok p87 9 1 ((x74.Maps.getD 3 zm_api_Map).Cuts).length c88, .tok p89 3 1 ((x74.Maps.getD 3 zm_api_Map).Nodes).length c90, .tok p67 9 1 ((x54.1.Maps.getD 3 zm_api_Map).Cuts).length c68, .tok p69 3 1 ((x54.1.Maps.getD 3 zm_api_Map).Nodes).length c70])) (Lf := (fun nn => [(2, pt b25 0), (5, pt b52 0), (6, pt b72 0), (8, pt b91 0), (11, pt b794 0), (33, vi 2), (44, .slice (some ⟨b656, 0, none⟩) 2 2), (45, vi 2), (46, vi 1), (52, vi (((x74.Maps.getD 2 zm_api_Map).Cuts).length : Int)), (53, vi y848), (56, pt b794 0), (57, .slice p83 nn c84), (58, vi y848), (59, pt b794 0), (60, .slice p83 nn c84), (61, vi y848), (62, .pointer (some ⟨b854, (f855 + Int.toNat y848 * 1), none⟩)), (63, .string (x853)), (64, .string (x856)), (65, .pointer (some ⟨b858, (f859 + Int.toNat y848 * 1), none⟩))])) [2, 5, 6, 8, 11, 33, 44, 45, 46, 52, 53, 56, 57, 58, 59, 60, 61, 62, 63, 64, 65] rfl (by kernel_rfl) fun a w hF hS => ?_
 refine ⟨notE, ?_⟩
 refine and_ ?_
 refine hK851 _ _ ?_
 refine wpIn_region_lit ?_
 refine wp 2 [2, 5, 6, 8, 11, 33, 44, 45, 46, 52, 53] hF fun a hF => ?_
 refine wpListIn_nil ?_
 exact ⟨fuel11, Nat.lt_succ_self _, _, (List.set y847 (Int.toNat y848) x856), IntKind.i64.wrap (y848 + 1), hF.kp [2, 5, 6, 8, 11, 33, 44, 45, 46, 52, 53], hS.sp (rg 22) [0, 15, 16, 17, 18, 19, 20, 21, 22, 23, 24, 25, 26, 27, 28, 29, 30, 31, 32, 33, 2, 3, 4, 5, 6, 7, 8, 9, 10, 11, 12, 13, 14, 1, 34, 35, 36, 37, 38, 39, 40, 41, 42, 43, 44, 45, 46, 47, 48, 49], H⟩
 refine cond_f hF (by kernel_rfl) hb ?_
 refine wpIn_exit ?_
 refine hK795 _ _ ?_
 refine wpIn_seq_k fun K860 hK860 => ?_
 refine wpIn_region_lit ?_
 refine wp 1 [2, 5, 6, 8, 11, 33, 44, 45, 46, 67] hF fun a hF => ?_
 refine wc (wld hF hS 0 1 0 fun a hF => ?_)
 refine wp 2 [2, 5, 6, 8, 11, 33, 44, 45, 46, 69, 70] hF fun a hF => ?_
 refine wpListIn_nil ?_
 refine hK860 _ _ ?_
 refine wpIn_block ?_
 refine loop_fuel (n := N) (fun n a w => ∃ (κ : Gh) (y911 : List Int) (y912 : Int), Fr (89) [] [(2, pt b25 0), (5, pt b52 0), (6, pt b72 0), (8, pt b91 0), (11, pt b794 0), (33, vi 2), (44, .slice (some ⟨b656, 0, none⟩) 2 2), (45, vi 2), (46, vi 1), (69, vi (((x74.Maps.getD 2 zm_api_Map).Nodes).length : Int)), (70, vi y912)] a ∧ SS [] κ0 w0 κ w [.box b794 25 [sl p83 (y847).length c84, sl p85 (y911).length c86], .box b656 25 [sl p63 (y714).length c64, sl p65 (y778).length c66, sl p83 (y847).length c84, sl p85 (y911).length c86], .box b91 56 [si x74.Pool, si x74.Nodes, eb 4 x74.Members, sl p75 (y297).length c76, sl p77 (y361).length c78, sl p79 (y572).length c80, sl p81 (y636).length c82, sl p83 (y847).length c84, sl p85 (y911).length c86, sl p87 ((x74.Maps.getD 3 zm_api_Map).Cuts).length c88, sl p89 ((x74.Maps.getD 3 zm_api_Map).Nodes).length c90, ei 21 x74.Modes], .box b72 56 [si x54.1.Pool, si x54.1.Nodes, eb 4 x54.1.Members, sl p55 (y164).length c56, sl p57 (y228).length c58, sl p59 (y439).length c60, sl p61 (y503).length c62, sl p63 (y714).length c64, sl p65 (y778).length c66, sl p67 ((x54.1.Maps.getD 3 zm_api_Map).Cuts).length c68, sl p69 ((x54.1.Maps.getD 3 zm_api_Map).Nodes).length c70, ei 21 x54.1.Modes], .box b52 60 [si x50.Pool, si x50.Nodes, eb 4 x50.Members, (8, cs51), ei 21 x50.Modes], .box b25 56 [si a1.Pool, si a1.Nodes, eb 4 a1.Members, sl p8 ((a1.Maps.getD 0 zm_api_Map).Cuts).length c9, sl p10 ((a1.Maps.getD 0 zm_api_Map).Nodes).length c11, sl p12 ((a1.Maps.getD 1 zm_api_Map).Cuts).length c13, sl p14 ((a1.Maps.getD 1 zm_api_Map).Nodes).length c15, sl p16 ((a1.Maps.getD 2 zm_api_Map).Cuts).length c17, sl p18 ((a1.Maps.getD 2 zm_api_Map).Nodes).length c19, sl p20 ((a1.Maps.getD 3 zm_api_Map).Cuts).length c21, sl p22 ((a1.Maps.getD 3 zm_api_Map).Nodes).length c23, ei 21 a1.Modes], .tok p85 3 1 (y911).length c86, .tok p83 9 1 (y847).length c84, .tok p65 3 1 (y778).length c66, .tok p63 9 1 (y714).length c64, .tok p81 3 1 (y636).length c82, .tok p79 9 1 (y572).length c80, .tok p61 3 1 (y503).length c62, .tok p59 9 1 (y439).length c60, .tok p77 3 1 (y361).length c78, .tok p75 9 1 (y297).length c76, .tok p57 3 1 (y228).length c58, .tok p55 9 1 (y164).length c56, .tok p87 9 1 ((x74.Maps.getD 3 zm_api_Map).Cuts).length c88, .tok p89 3 1 ((x74.Maps.getD 3 zm_api_Map).Nodes).length c90, .tok p67 9 1 ((x54.1.Maps.getD 3 zm_api_Map).Cuts).length c68, .tok p69 3 1 ((x54.1.Maps.getD 3 zm_api_Map).Nodes).length c70] [Ro.mp fStr.ty p83 c84 y847, Ro.mp (fInt .i64).ty p85 c86 y911, Ro.mp fStr.ty p63 c64 y714, Ro.mp (fInt .i64).ty p65 c66 y778, ml x74.Members 4, Ro.mp fStr.ty p75 c76 y297, Ro.mp (fInt .i64).ty p77 c78 y361, Ro.mp fStr.ty p79 c80 y572, Ro.mp (fInt .i64).ty p81 c82 y636, Ro.mp fStr.ty p87 c88 ((x74.Maps.getD 3 zm_api_Map).Cuts), Ro.mp (fInt .i64).ty p89 c90 ((x74.Maps.getD 3 zm_api_Map).Nodes), ml x74.Modes 21, ml x54.1.Members 4, Ro.mp fStr.ty p55 c56 y164, Ro.mp (fInt .i64).ty p57 c58 y228, Ro.mp fStr.ty p59 c60 y439, Ro.mp (fInt .i64).ty p61 c62 y503, Ro.mp fStr.ty p67 c68 ((x54.1.Maps.getD 3 zm_api_Map).Cuts), Ro.mp (fInt .i64).ty p69 c70 ((x54.1.Maps.getD 3 zm_api_Map).Nodes), ml x54.1.Modes 21, ml x50.Members 4, Arr.mp t_api_Map cs51 4 x50.Maps, ml x50.Modes 21, ml a1.Members 4, Ro.mp fStr.ty p8 c9 ((a1.Maps.getD 0 zm_api_Map).Cuts), Ro.mp (fInt .i64).ty p10 c11 ((a1.Maps.getD 0 zm_api_Map).Nodes), Ro.mp fStr.ty p12 c13 ((a1.Maps.getD 1 zm_api_Map).Cuts), Ro.mp (fInt .i64).ty p14 c15 ((a1.Maps.getD 1 zm_api_Map).Nodes), Ro.mp fStr.ty p16 c17 ((a1.Maps.getD 2 zm_api_Map).Cuts), Ro.mp (fInt .i64).ty p18 c19 ((a1.Maps.getD 2 zm_api_Map).Nodes), Ro.mp fStr.ty p20 c21 ((a1.Maps.getD 3 zm_api_Map).Cuts), Ro.mp (fInt .i64).ty p22 c23 ((a1.Maps.getD 3 zm_api_Map).Nodes), ml a1.Modes 21, MP.since κ71 w71, MP.old p83 w71, MP.old p85 w71, MP.old p63 w71, MP.old p65 w71, MP.old p75 w71, MP.old p77 w71, MP.old p79 w71, MP.old p81 w71, MP.old p87 w71, MP.old p89 w71, MP.old p55 w71, MP.old p57 w71, MP.old p59 w71, MP.old p61 w71, MP.old p67 w71, MP.old p69 w71] ∧ M.law18_ConfigOwns_x_L12 N n a1 x50 x54 x74 y164 y228 y297 y361 y439 y503 y572 y636 y714 y778 y847 y911 y912 = some r) ?_ ?_
 exact ⟨_, (x74.Maps.getD 2 zm_api_Map).Nodes, 0, hF.kp [2, 5, 6, 8, 11, 33, 44, 45, 46, 69, 70], hS.sp [0, 1, 2, 3, 4, 5, 17, 6, 7, 8, 9, 10, 11, 12, 13, 14, 15, 16, 18, 19, 20, 21] (rg 50), H⟩
 rintro n a w ⟨κ, y911, y912, hF, hS, H⟩
 rcases n with _ | fuel12
 simp [M.law18_ConfigOwns_x_L12] at H
 simp only [M.law18_ConfigOwns_x_L12] at H
 refine wpIn_seq_k fun K913 hK913 => ?_
 refine wpIn_region_lit ?_
 refine wp 1 [2, 5, 6, 8, 11, 33, 44, 45, 46, 69, 70, 71] hF fun a hF => ?_
 refine wpListIn_nil ?_
 refine hK913 _ _ ?_
 refine wpIn_seq_k fun K914 hK914 => ?_
 refine bif_split H (fun hb H => ?_) (fun hb H => ?_)
 refine cond_t hF (by kernel_rfl) hb ?_
 refine wpIn_skip ?_
 refine hK914 _ _ ?_
 refine wpIn_seq_k fun K915 hK915 => ?_
 refine wpIn_block ?_
 refine wpIn_seq_k fun K916 hK916 => ?_
 refine wpIn_region_lit ?_
 refine wp 2 [2, 5, 6, 8, 11, 13, 33, 44, 45, 46, 69, 70] hF fun a hF => ?_
 refine wpListIn_nil ?_
 refine hK916 _ _ ?_
 refine wpIn_region_lit ?_
 refine wp 1 [2, 5, 6, 8, 11, 13, 33, 44, 45, 46, 69, 70, 73] hF fun a hF => ?_
 refine wc (wld hF hS 0 1 0 fun a hF => ?_)
 refine wl_pure (L' := [(2, pt b25 0), (5, pt b52 0), (6, pt b72 0), (8, pt b91 0), (11, pt b794 0), (33, vi 2), (44, .slice (some ⟨b656, 0, none⟩) 2 2), (45, vi 2), (46, vi 1), (69, vi (((x74.Maps.getD 2 zm_api_Map).Nodes).length : Int)), (70, vi y912), (74, .slice p85 (y911).length c86), (75, vi y912)]) 1 [2, 5, 6, 8, 11, 33, 44, 45, 46, 69, 70, 74, 75] hF (by kernel_rfl) fun a hF => ?_
 refine bind_split H (fun x917 hx917 H => ?_)
 refine wc (wo_index hF hS (by kernel_rfl) 1 (E := 3) (sz := 1) rfl rfl rfl (by kernel_rfl) rfl hx917 (by kernel_rfl) (by kernel_rfl) fun b918 f919 a hpx917 hF => ?_)
 refine wc (wo_loadRo (t := (fInt .i64)) hF hS (by kernel_rfl) 1 0 (v := vi x917) rfl rfl hpx917 rfl hx917 (by kernel_rfl) (by kernel_rfl) (by kernel_rfl) fun a hF => ?_)
 refine wl_pure (L' := [(2, pt b25 0), (5, pt b52 0), (6, pt b72 0), (8, pt b91 0), (11, pt b794 0), (33, vi 2), (44, .slice (some ⟨b656, 0, none⟩) 2 2), (45, vi 2), (46, vi 1), (69, vi (((x74.Maps.getD 2 zm_api_Map).Nodes).length : Int)), (70, vi y912), (74, .slice p85 (y911).length c86), (75, vi y912), (78, vi (IntKind.i64.wrap (x917 + 1)))]) 1 [2, 5, 6, 8, 11, 33, 44, 45, 46, 69, 70, 74, 75, 78] hF (by kernel_rfl) fun a hF => ?_
 refine bind_split H (fun x920 hx920 H => ?_)
 refine wc (wo_index hF hS (by kernel_rfl) 1 (E := 3) (sz := 1) rfl rfl rfl (by kernel_rfl) rfl hx920 (by kernel_rfl) (by kernel_rfl) fun b921 f922 a hpx920 hF => ?_)
 refine wc (wo_storeTokS (t := (fInt .i64)) (y := x920) (z := IntKind.i64.wrap (x917 + 1)) (v := vi (IntKind.i64.wrap (x917 + 1))) (vs := (flat [si (IntKind.i64.wrap (x917 + 1))])) (sz := 1) hF hS hfr hf71 hw71 hR71 (by kernel_rfl) 6 1 33 35 0 rfl rfl (by kernel_rfl) rfl rfl rfl hpx920 hx920 rfl (by kernel_rfl) (by kernel_rfl) rfl (show segGood [si (IntKind.i64.wrap (x917 + 1))] from (sgN 1 sgNil)).2 rfl (by decide) rfl rfl (nfC nfB (nfC nfB (nfC nfB (nfC nfB (nfC nfB (nfC nfB (nfC nfT (nfC nfT (nfC nfT (nfC nfT (nfC nfT (nfC nfT (nfC nfT (nfC nfT (nfC nfT (nfC nfT (nfC nfT (nfC nfT (nfC nfT (nfC nfT (nfC nfT (nfC nfT nfN)))))))))))))))))))))) [2, 3, 4, 26, 23, 24, 21, 22, 19, 20, 17, 18, 27] [0, 2, 3, 4, 5, 6, 7, 8, 9, 10, 11, 12, 13, 14, 15, 16, 17, 18, 19, 34, 35, 36, 37, 38, 39, 40, 41, 42, 43, 44, 45, 46, 47, 48, 49] (Ra := [ml x50.Members 4, Arr.mp t_api_Map cs51 4 x50.Maps, ml x50.Modes 21, ml a1.Members 4, Ro.mp fStr.ty p8 c9 ((a1.Maps.getD 0 zm_api_Map).Cuts), Ro.mp (fInt .i64).ty p10 c11 ((a1.Maps.getD 0 zm_api_Map).Nodes), Ro.mp fStr.ty p12 c13 ((a1.Maps.getD 1 zm_api_Map).Cuts), Ro.mp (fInt .i64).ty p14 c15 ((a1.Maps.getD 1 zm_api_Map).Nodes), Ro.mp fStr.ty p16 c17 ((a1.Maps.getD 2 zm_api_Map).Cuts), Ro.mp (fInt .i64).ty p18 c19 ((a1.Maps.getD 2 zm_api_Map).Nodes), Ro.mp fStr.ty p20 c21 ((a1.Maps.getD 3 zm_api_Map).Cuts), Ro.mp (fInt .i64).ty p22 c23 ((a1.Maps.getD 3 zm_api_Map).Nodes), ml a1.Modes 21]) (Rb := [Ro.mp fStr.ty p83 c84 y847, Ro.mp fStr.ty p63 c64 y714, Ro.mp (fInt .i64).ty p65 c66 y778, ml x74.Members 4, Ro.mp fStr.ty p75 c76 y297, Ro.mp (fInt .i64).ty p77 c78 y361, Ro.mp fStr.ty p79 c80 y572, Ro.mp (fInt .i64).ty p81 c82 y636, Ro.mp fStr.ty p87 c88 ((x74.Maps.getD 3 zm_api_Map).Cuts), Ro.mp (fInt .i64).ty p89 c90 ((x74.Maps.getD 3 zm_api_Map).Nodes), ml x74.Modes 21, ml x54.1.Members 4, Ro.mp fStr.ty p55 c56 y164, Ro.mp (fInt .i64).ty p57 c58 y228, Ro.mp fStr.ty p59 c60 y439, Ro.mp (fInt .i64).ty p61 c62 y503, Ro.mp fStr.ty p67 c68 ((x54.1.Maps.getD 3 zm_api_Map).Cuts), Ro.mp (fInt .i64).ty p69 c70 ((x54.1.Maps.getD 3 zm_api_Map).Nodes), ml x54.1.Modes 21, MP.old p83 w71, MP.old p85 w71, MP.old p63 w71, MP.old p65 w71, MP.old p75 w71, MP.old p77 w71, MP.old p79 w71, MP.old p81 w71, MP.old p87 w71, MP.old p89 w71, MP.old p55 w71, MP.old p57 w71, MP.old p59 w71, MP.old p61 w71, MP.old p67 w71, MP.old p69 w71]) rfl rfl (aC (apart_ro (hS.tokApart 6 7 hpx920 rfl rfl (by decide))) (aC (apart_ro (hS.tokApart 6 9 hpx920 rfl rfl (by decide))) (aC (apart_ro (hS.tokApart 6 8 hpx920 rfl rfl (by decide))) (aK (aC (apart_ro (hS.tokApart 6 15 hpx920 rfl rfl (by decide))) (aC (apart_ro (hS.tokApart 6 14 hpx920 rfl rfl (by decide))) (aC (apart_ro (hS.tokApart 6 11 hpx920 rfl rfl (by decide))) (aC (apart_ro (hS.tokApart 6 10 hpx920 rfl rfl (by decide))) (aC (apart_ro (hS.tokApart 6 18 hpx920 rfl rfl (by decide))) (aC (apart_ro (hS.tokApart 6 19 hpx920 rfl rfl (by decide))) (aK (aK (aC (apart_ro (hS.tokApart 6 17 hpx920 rfl rfl (by decide))) (aC (apart_ro (hS.tokApart 6 16 hpx920 rfl rfl (by decide))) (aC (apart_ro (hS.tokApart 6 13 hpx920 rfl rfl (by decide))) (aC (apart_ro (hS.tokApart 6 12 hpx920 rfl rfl (by decide))) (aC (apart_ro (hS.tokApart 6 20 hpx920 rfl rfl (by decide))) (aC (apart_ro (hS.tokApart 6 21 hpx920 rfl rfl (by decide))) (aK (aK (aK (aK (aK (aK (aK (aK (aK (aK (aK (aK (aK (aK (aK (aK (aK aN))))))))))))))))))))))))))))))))))) (Cf := (fun nn => [.box b794 25 [sl p83 (y847).length c84, sl p85 nn c86], .box b656 25 [sl p63 (y714).length c64, sl p65 (y778).length c66, sl p83 (y847).length c84, sl p85 nn c86], .box b91 56 [si x74.Pool, si x74.Nodes, eb 4 x74.Members, sl p75 (y297).length c76, sl p77 (y361).length c78, sl p79 (y572).length c80, sl p81 (y636).length c82, sl p83 (y847).length c84, sl p85 nn c86, sl p87 ((x74.Maps.getD 3 zm_api_Map).Cuts).length c88, sl p89 ((x74.Maps.getD 3 zm_api_Map).Nodes).length c90, ei 21 x74.Modes], .box b72 56 [si x54.1.Pool, si x54.1.Nodes, eb 4 x54.1.Members, sl p55 (y164).length c56, sl p57 (y228).length c58, sl p59 (y439).length c60, sl p61 (y503).length c62, sl p63 (y714).length c64, sl p65 (y778).length c66, sl p67 ((x54.1.Maps.getD 3 zm_api_Map).Cuts).length c68, sl p69 ((x54.1.Maps.getD 3 zm_api_Map).Nodes).length c70, ei 21 x54.1.Modes], .box b52 60 [si x50.Pool, si x50.Nodes, eb 4 x50.Members, (8, cs51), ei 21 x50.Modes], .box b25 56 [si a1.Pool, si a1.Nodes, eb 4 a1.Members, sl p8 ((a1.Maps.getD 0 zm_api_Map).Cuts).length c9, sl p10 ((a1.Maps.getD 0 zm_api_Map).Nodes).length c11, sl p12 ((a1.Maps.getD 1 zm_api_Map).Cuts).length c13, sl p14 ((a1.Maps.getD 1 zm_api_Map).Nodes).length c15, sl p16 ((a1.Maps.getD 2 zm_api_Map).Cuts).length c17, sl p18 ((a1.Maps.getD 2 zm_api_Map).Nodes).length c19, sl p20 ((a1.Maps.getD 3 zm_api_Map).Cuts).length c21, sl p22 ((a1.Maps.getD 3 zm_api_Map).Nodes).length c23, ei 21 a1.Modes], .tok p85 3 1 nn c86, .tok p83 9 1 (y847).length c84, .tok p65 3 1 (y778).length c66, .tok p63 9 1 (y714).length c64, .tok p81 3 1 (y636).length c82, .tok p79 9 1 (y572).length c80, .tok p61 3 1 (y503).length c62, .tok p59 9 1 (y439).length c60, .tok p77 3 1 (y361).length c78, .tok p75 9 1 (y297).length c76, .tok p57 3 1 (y228).length c58, .tok p55 9 1 (y164).length c56, .tok p87 9 1 ((x74.Maps.getD 3 zm_api_Map).Cuts).length c88, .tok p89 3 1 ((x74.Maps.getD 3 zm_api_Map).Nodes).length c90, .tok p67 9 1 ((x54.1.Maps.getD 3 zm_api_Map).Cuts).length c68, .tok p69 3 1 ((x54.1.Maps.getD 3 zm_api_Map).Nodes).length c70])) (Lf := (fun nn => [(2, pt b25 0), (5, pt b52 0), (6, pt b72 0), (8, pt b91 0), (11, pt b794 0), (33, vi 2), (44, .slice (some ⟨b656, 0, none⟩) 2 2), (45, vi 2), (46, vi 1), (69, vi (((x74.Maps.getD 2 zm_api_Map).Nodes).length : Int)), (70, vi y912), (74, .slice p85 nn c86), (75, vi y912), (78, vi (IntKind.i64.wrap (x917 + 1))), (79, .pointer (some ⟨b921, (f922 + Int.toNat y912 * 1), none⟩))])) [2, 5, 6, 8, 11, 33, 44, 45, 46, 69, 70, 74, 75, 78, 79] rfl (by kernel_rfl) fun a w hF hS => ?_)
 refine wpListIn_nil ?_
 refine hK915 _ _ ?_
 refine wpIn_region_lit ?_
 refine wp 2 [2, 5, 6, 8, 11, 33, 44, 45, 46, 69, 70] hF fun a hF => ?_
 refine wpListIn_nil ?_
 exact ⟨fuel12, Nat.lt_succ_self _, _, (List.set y911 (Int.toNat y912) (IntKind.i64.wrap (x917 + 1))), IntKind.i64.wrap (y912 + 1), hF.kp [2, 5, 6, 8, 11, 33, 44, 45, 46, 69, 70], hS.sp (rg 22) [15, 0, 16, 17, 18, 19, 20, 21, 22, 23, 24, 25, 26, 27, 28, 29, 30, 31, 32, 33, 2, 3, 4, 5, 6, 7, 8, 9, 10, 11, 12, 13, 14, 1, 34, 35, 36, 37, 38, 39, 40, 41, 42, 43, 44, 45, 46, 47, 48, 49], H⟩
 refine cond_f hF (by kernel_rfl) hb ?_
 refine wpIn_exit ?_
 refine hK792 _ _ ?_
 refine wpIn_region_lit ?_
 refine wl_pure (L' := [(2, pt b25 0), (5, pt b52 0), (6, pt b72 0), (8, pt b91 0), (33, vi 2), (44, .slice (some ⟨b656, 0, none⟩) 2 2), (45, vi 2), (46, vi 2)]) 2 [2, 5, 6, 8, 33, 44, 45, 46] hF (by kernel_rfl) fun a hF => ?_
 refine wpListIn_nil ?_
 refine round_go ?_
 refine wpIn_seq_k fun K923 hK923 => ?_
 refine wpIn_region_lit ?_
 refine wp 1 [2, 5, 6, 8, 33, 44, 45, 46, 47] hF fun a hF => ?_
 refine wpListIn_nil ?_
 refine hK923 _ _ ?_
 refine wpIn_seq_k fun K924 hK924 => ?_
 refine cond_f hF (by kernel_rfl) rfl ?_
 refine wpIn_exit ?_
 refine hK652 _ _ ?_
 refine wpIn_region_lit ?_
 refine wl_pure (L' := [(2, pt b25 0), (5, pt b52 0), (6, pt b72 0), (8, pt b91 0), (33, vi 3)]) 2 [2, 5, 6, 8, 33] hF (by kernel_rfl) fun a hF => ?_
 refine wpListIn_nil ?_
 refine round_go ?_
 refine wpIn_seq_k fun K925 hK925 => ?_
 refine wpIn_region_lit ?_
 refine wp 1 [2, 5, 6, 8, 33, 34] hF fun a hF => ?_
 refine wpListIn_nil ?_
 refine hK925 _ _ ?_
 refine wpIn_seq_k fun K926 hK926 => ?_
 refine cond_t hF (by kernel_rfl) rfl ?_
 refine wpIn_skip ?_
 refine hK926 _ _ ?_
 refine wpIn_seq_k fun K927 hK927 => ?_
 refine wpIn_block ?_
 refine wpIn_seq_k fun K928 hK928 => ?_
 refine wpIn_region_lit ?_
 refine wp 2 [2, 5, 6, 8, 9, 33] hF fun a hF => ?_
 refine wpListIn_nil ?_
 refine hK928 _ _ ?_
 refine wpIn_seq_k fun K929 hK929 => ?_
 refine rgS hS [] ?_
 have hS := hS.drew
 refine any_pure [0, 1, 2, 4, 5, 6, 10] [2, 5, 6, 8, 33, 38, 42, 46] (L' := [(2, pt b25 0), (5, pt b52 0), (6, pt b72 0), (8, pt b91 0), (33, vi 3), (38, pt b72 12), (42, pt b91 12), (46, vi 0)]) (listed' := (bitA 11 1143)) (fuel := 4) hF (hS.sx (rg 6) (rg 50)) (by kernel_rfl) (by intro c a w t v h; cases t <;> exact h) (by kernel_rfl) rfl fun a hF => ?_
 refine atk 3 (some 39) hF (hS.sx (rg 6) (rg 50)) rfl (vls 3 9 2) fun a hF => ?_
 refine atk 7 (some 43) hF (hS.sx (rg 6) (rg 50)) rfl (vls 2 9 2) fun a hF => ?_
 refine ago 8 hF rfl ?_
 refine wo_buildB (s := [sl p67 ((x54.1.Maps.getD 3 zm_api_Map).Cuts).length c68, sl p69 ((x54.1.Maps.getD 3 zm_api_Map).Nodes).length c70, sl p87 ((x74.Maps.getD 3 zm_api_Map).Cuts).length c88, sl p89 ((x74.Maps.getD 3 zm_api_Map).Nodes).length c90]) (vs := [(0, .agg (flat [sl p67 ((x54.1.Maps.getD 3 zm_api_Map).Cuts).length c68, sl p69 ((x54.1.Maps.getD 3 zm_api_Map).Nodes).length c70]).toArray), (1, .agg (flat [sl p87 ((x74.Maps.getD 3 zm_api_Map).Cuts).length c88, sl p89 ((x74.Maps.getD 3 zm_api_Map).Nodes).length c90]).toArray)]) (z := .agg (flat [sl none 0 0, sl none 0 0]).toArray) (sz := 2) (E := 25) hF hS (by kernel_rfl) rfl (by kernel_rfl) (show segGood [sl p67 ((x54.1.Maps.getD 3 zm_api_Map).Cuts).length c68, sl p69 ((x54.1.Maps.getD 3 zm_api_Map).Nodes).length c70, sl p87 ((x74.Maps.getD 3 zm_api_Map).Cuts).length c88, sl p89 ((x74.Maps.getD 3 zm_api_Map).Nodes).length c90] from (sgN 4 sgNil)).1 (by kernel_rfl) (by kernel_rfl) (by kernel_rfl) (by kernel_rfl) (by kernel_rfl) fun b931 a w hF hS => ?_
 refine ⟨fun _ => (hS.sx [1, 2, 3, 4, 5, 6] (rg 50)), ?_⟩
 refine any_pure [9] [2, 5, 6, 8, 33, 44, 45, 46] (L' := [(2, pt b25 0), (5, pt b52 0), (6, pt b72 0), (8, pt b91 0), (33, vi 3), (44, .slice (some ⟨b931, 0, none⟩) 2 2), (45, vi 2), (46, vi 0)]) (listed' := (bitA 11 2047)) (fuel := 0) hF (hS.sx [1, 2, 3, 4, 5, 6] (rg 50)) (by kernel_rfl) (by intro c a w t v h; cases t <;> exact h) (by kernel_rfl) rfl fun a hF => ?_
 refine and_ ?_
 refine hK929 _ _ ?_
 refine wpIn_block ?_
 refine loop_rounds 25 ?_
 refine round_go ?_
 refine wpIn_seq_k fun K932 hK932 => ?_
 refine wpIn_region_lit ?_
 refine wp 1 [2, 5, 6, 8, 33, 44, 45, 46, 47] hF fun a hF => ?_
 refine wpListIn_nil ?_
 refine hK932 _ _ ?_
 refine wpIn_seq_k fun K933 hK933 => ?_
 refine cond_t hF (by kernel_rfl) rfl ?_
 refine wpIn_skip ?_
 refine hK933 _ _ ?_
 refine wpIn_seq_k fun K934 hK934 => ?_
 refine wpIn_block ?_
 refine wpIn_seq_k fun K935 hK935 => ?_
 refine wpIn_region_lit ?_
 refine wp 1 [2, 5, 6, 8, 33, 44, 45, 46, 48] hF fun a hF => ?_
 refine wc (wls hF hS 0 0 2 fun a hF => ?_)
 refine wc (wal hF hS [sl none 0 0, sl none 0 0] (sgN 2 sgNil) fun b936 a w hF hS => ?_)
 refine wc (wst hF hS 0 0 2 [sl p67 ((x54.1.Maps.getD 3 zm_api_Map).Cuts).length c68, sl p69 ((x54.1.Maps.getD 3 zm_api_Map).Nodes).length c70] (sgN 2 sgNil) fun a w hF hS => ?_)
 refine wpListIn_nil ?_
 refine hK935 _ _ ?_
 refine wpIn_seq_k fun K937 hK937 => ?_
 refine wpIn_seq_k fun K938 hK938 => ?_
 refine wpIn_region_lit ?_
 refine wp 1 [2, 5, 6, 8, 11, 33, 44, 45, 46, 50] hF fun a hF => ?_
 refine wc (wld hF hS 0 0 0 fun a hF => ?_)
 refine wp 2 [2, 5, 6, 8, 11, 33, 44, 45, 46, 52, 53] hF fun a hF => ?_
 refine wpListIn_nil ?_
 refine hK938 _ _ ?_
 refine wpIn_block ?_
 refine loop_fuel (n := N) (fun n a w => ∃ (κ : Gh) (y989 : List ByteArray) (y990 : Int), Fr (89) [] [(2, pt b25 0), (5, pt b52 0), (6, pt b72 0), (8, pt b91 0), (11, pt b936 0), (33, vi 3), (44, .slice (some ⟨b931, 0, none⟩) 2 2), (45, vi 2), (46, vi 0), (52, vi (((x54.1.Maps.getD 3 zm_api_Map).Cuts).length : Int)), (53, vi y990)] a ∧ SS [] κ0 w0 κ w [.box b936 25 [sl p67 (y989).length c68, sl p69 ((x54.1.Maps.getD 3 zm_api_Map).Nodes).length c70], .box b931 25 [sl p67 (y989).length c68, sl p69 ((x54.1.Maps.getD 3 zm_api_Map).Nodes).length c70, sl p87 ((x74.Maps.getD 3 zm_api_Map).Cuts).length c88, sl p89 ((x74.Maps.getD 3 zm_api_Map).Nodes).length c90], .box b91 56 [si x74.Pool, si x74.Nodes, eb 4 x74.Members, sl p75 (y297).length c76, sl p77 (y361).length c78, sl p79 (y572).length c80, sl p81 (y636).length c82, sl p83 (y847).length c84, sl p85 (y911).length c86, sl p87 ((x74.Maps.getD 3 zm_api_Map).Cuts).length c88, sl p89 ((x74.Maps.getD 3 zm_api_Map).Nodes).length c90, ei 21 x74.Modes], .box b72 56 [si x54.1.Pool, si x54.1.Nodes, eb 4 x54.1.Members, sl p55 (y164).length c56, sl p57 (y228).length c58, sl p59 (y439).length c60, sl p61 (y503).length c62, sl p63 (y714).length c64, sl p65 (y778).length c66, sl p67 (y989).length c68, sl p69 ((x54.1.Maps.getD 3 zm_api_Map).Nodes).length c70, ei 21 x54.1.Modes], .box b52 60 [si x50.Pool, si x50.Nodes, eb 4 x50.Members, (8, cs51), ei 21 x50.Modes], .box b25 56 [si a1.Pool, si a1.Nodes, eb 4 a1.Members, sl p8 ((a1.Maps.getD 0 zm_api_Map).Cuts).length c9, sl p10 ((a1.Maps.getD 0 zm_api_Map).Nodes).length c11, sl p12 ((a1.Maps.getD 1 zm_api_Map).Cuts).length c13, sl p14 ((a1.Maps.getD 1 zm_api_Map).Nodes).length c15, sl p16 ((a1.Maps.getD 2 zm_api_Map).Cuts).length c17, sl p18 ((a1.Maps.getD 2 zm_api_Map).Nodes).length c19, sl p20 ((a1.Maps.getD 3 zm_api_Map).Cuts).length c21, sl p22 ((a1.Maps.getD 3 zm_api_Map).Nodes).length c23, ei 21 a1.Modes], .tok p67 9 1 (y989).length c68, .tok p85 3 1 (y911).length c86, .tok p83 9 1 (y847).length c84, .tok p65 3 1 (y778).length c66, .tok p63 9 1 (y714).length c64, .tok p81 3 1 (y636).length c82, .tok p79 9 1 (y572).length c80, .tok p61 3 1 (y503).length c62, .tok p59 9 1 (y439).length c60, .tok p77 3 1 (y361).length c78, .tok p75 9 1 (y297).length c76, .tok p57 3 1 (y228).length c58, .tok p55 9 1 (y164).length c56, .tok p87 9 1 ((x74.Maps.getD 3 zm_api_Map).Cuts).length c88, .tok p89 3 1 ((x74.Maps.getD 3 zm_api_Map).Nodes).length c90, .tok p69 3 1 ((x54.1.Maps.getD 3 zm_api_Map).Nodes).length c70] [Ro.mp fStr.ty p67 c68 y989, Ro.mp (fInt .i64).ty p69 c70 ((x54.1.Maps.getD 3 zm_api_Map).Nodes), Ro.mp fStr.ty p87 c88 ((x74.Maps.getD 3 zm_api_Map).Cuts), Ro.mp (fInt .i64).ty p89 c90 ((x74.Maps.getD 3 zm_api_Map).Nodes), ml x74.Members 4, Ro.mp fStr.ty p75 c76 y297, Ro.mp (fInt .i64).ty p77 c78 y361, Ro.mp fStr.ty p79 c80 y572, Ro.mp (fInt .i64).ty p81 c82 y636, Ro.mp fStr.ty p83 c84 y847, Ro.mp (fInt .i64).ty p85 c86 y911, ml x74.Modes 21, ml x54.1.Members 4, Ro.mp fStr.ty p55 c56 y164, Ro.mp (fInt .i64).ty p57 c58 y228, Ro.mp fStr.ty p59 c60 y439, Ro.mp (fInt .i64).ty p61 c62 y503, Ro.mp fStr.ty p63 c64 y714, Ro.mp (fInt .i64).ty p65 c66 y778, ml x54.1.Modes 21, ml x50.Members 4, Arr.mp t_api_Map cs51 4 x50.Maps, ml x50.Modes 21, ml a1.Members 4, Ro.mp fStr.ty p8 c9 ((a1.Maps.getD 0 zm_api_Map).Cuts), Ro.mp (fInt .i64).ty p10 c11 ((a1.Maps.getD 0 zm_api_Map).Nodes), Ro.mp fStr.ty p12 c13 ((a1.Maps.getD 1 zm_api_Map).Cuts), Ro.mp (fInt .i64).ty p14 c15 ((a1.Maps.getD 1 zm_api_Map).Nodes), Ro.mp fStr.ty p16 c17 ((a1.Maps.getD 2 zm_api_Map).Cuts), Ro.mp (fInt .i64).ty p18 c19 ((a1.Maps.getD 2 zm_api_Map).Nodes), Ro.mp fStr.ty p20 c21 ((a1.Maps.getD 3 zm_api_Map).Cuts), Ro.mp (fInt .i64).ty p22 c23 ((a1.Maps.getD 3 zm_api_Map).Nodes), ml a1.Modes 21, MP.since κ71 w71, MP.old p67 w71, MP.old p69 w71, MP.old p87 w71, MP.old p89 w71, MP.old p75 w71, MP.old p77 w71, MP.old p79 w71, MP.old p81 w71, MP.old p83 w71, MP.old p85 w71, MP.old p55 w71, MP.old p57 w71, MP.old p59 w71, MP.old p61 w71, MP.old p63 w71, MP.old p65 w71] ∧ M.law18_ConfigOwns_x_L13 N n a1 x50 x54 x74 y164 y228 y297 y361 y439 y503 y572 y636 y714 y778 y847 y911 y989 y990 = some r) ?_ ?_
 exact ⟨_, (x54.1.Maps.getD 3 zm_api_Map).Cuts, 0, hF.kp [2, 5, 6, 8, 11, 33, 44, 45, 46, 52, 53], hS.sp [0, 1, 4, 5, 6, 7, 22, 8, 9, 10, 11, 12, 13, 14, 15, 16, 17, 18, 19, 20, 21, 23] [17, 18, 9, 10, 4, 5, 6, 7, 8, 0, 1, 11, 12, 13, 14, 15, 16, 2, 3, 19, 20, 21, 22, 23, 24, 25, 26, 27, 28, 29, 30, 31, 32, 33, 48, 49, 42, 43, 38, 39, 40, 41, 34, 35, 44, 45, 46, 47, 36, 37], H⟩
 rintro n a w ⟨κ, y989, y990, hF, hS, H⟩
 rcases n with _ | fuel13
 simp [M.law18_ConfigOwns_x_L13] at H
 simp only [M.law18_ConfigOwns_x_L13] at H
 refine wpIn_seq_k fun K991 hK991 => ?_
 refine wpIn_region_lit ?_
 refine wp 1 [2, 5, 6, 8, 11, 33, 44, 45, 46, 52, 53, 54] hF fun a hF => ?_
 refine wpListIn_nil ?_
 refine hK991 _ _ ?_
 refine wpIn_seq_k fun K992 hK992 => ?_
 refine bif_split H (fun hb H => ?_) (fun hb H => ?_)
 refine cond_t hF (by kernel_rfl) hb ?_
 refine wpIn_skip ?_
 refine hK992 _ _ ?_
 refine wpIn_seq_k fun K993 hK993 => ?_
 refine wpIn_block ?_
 refine wpIn_seq_k fun K994 hK994 => ?_
 refine wpIn_region_lit ?_
 refine wp 2 [2, 5, 6, 8, 11, 12, 33, 44, 45, 46, 52, 53] hF fun a hF => ?_
 refine wpListIn_nil ?_
 refine hK994 _ _ ?_
 refine rgS hS [10] ?_
 have hS := hS.drew
 refine any_pure [0, 2, 3, 5] [2, 5, 6, 8, 11, 33, 44, 45, 46, 52, 53, 56, 58, 59, 61] (L' := [(2, pt b25 0), (5, pt b52 0), (6, pt b72 0), (8, pt b91 0), (11, pt b936 0), (33, vi 3), (44, .slice (some ⟨b931, 0, none⟩) 2 2), (45, vi 2), (46, vi 0), (52, vi (((x54.1.Maps.getD 3 zm_api_Map).Cuts).length : Int)), (53, vi y990), (56, pt b936 0), (58, vi y990), (59, pt b936 0), (61, vi y990)]) (listed' := (bitA 11 45)) (fuel := 7) hF (hS.sx (rg 6) (rg 50)) (by kernel_rfl) (by intro c a w t v h; cases t <;> exact h) (by kernel_rfl) rfl fun a hF => ?_
 refine atk 1 (some 57) hF (hS.sx (rg 6) (rg 50)) rfl (vld 0 0 0) fun a hF => ?_
 refine atk 4 (some 60) hF (hS.sx (rg 6) (rg 50)) rfl (vld 0 0 0) fun a hF => ?_
 refine bind_split H (fun x995 hx995 H => ?_)
 obtain ⟨b996, f997, hpx995⟩ := hS.ptr 0 rfl hx995
 refine atk 6 (some 62) hF (hS.sx (rg 6) (rg 50)) rfl (fun w _ => val_index (E := 9) (sz := 1) rfl hpx995 rfl (by kernel_rfl) rfl hx995 (by kernel_rfl) (by kernel_rfl) w) fun a hF => ?_
 refine atk 7 (some 63) hF (hS.sx (rg 6) (rg 50)) rfl (val_loadRo (t := fStr) 0 0 (v := .string (x995)) rfl rfl hpx995 rfl hx995 (by kernel_rfl) (by kernel_rfl) (by kernel_rfl)) fun a hF => ?_
 refine ago 8 hF rfl ?_
 refine bind_split H (fun x998 hx998 H => ?_)
 refine wo_callP hF hS (by kernel_rfl) (by kernel_rfl) (C_law18_other N hS.fresh x995  ((hS.pick [] (by kernel_rfl)).ro) hx998) ?_
 rintro _ κ w a ⟨rfl, hR, hN⟩ hF hS hO
 refine ⟨fun _ => (hS.sx (rg 6) (rg 50)), ?_⟩
 refine bind_split H (fun x999 hx999 H => ?_)
 obtain ⟨b1000, f1001, hpx999⟩ := hS.ptr 0 rfl hx999
 refine atk 9 (some 65) hF (hS.sx (rg 6) (rg 50)) rfl (fun w _ => val_index (E := 9) (sz := 1) rfl hpx999 rfl (by kernel_rfl) rfl hx999 (by kernel_rfl) (by kernel_rfl) w) fun a hF => ?_
 refine ago 10 hF rfl ?_
 refine wo_storeTokS (t := fStr) (y := x999) (z := x998) (v := .string (x998)) (vs := (flat [sg x998])) (sz := 1) hF hS hfr hf71 hw71 hR71 (by kernel_rfl) 6 0 33 34 0 rfl rfl (by kernel_rfl) rfl rfl rfl hpx999 hx999 rfl (by kernel_rfl) (by kernel_rfl) rfl (show segGood [sg x998] from (sgN 1 sgNil)).2 rfl (by decide) rfl rfl (nfC nfB (nfC nfB (nfC nfB (nfC nfB (nfC nfB (nfC nfB (nfC nfT (nfC nfT (nfC nfT (nfC nfT (nfC nfT (nfC nfT (nfC nfT (nfC nfT (nfC nfT (nfC nfT (nfC nfT (nfC nfT (nfC nfT (nfC nfT (nfC nfT (nfC nfT nfN)))))))))))))))))))))) [2, 3, 4, 26, 23, 24, 21, 22, 19, 20, 17, 18, 27] [1, 2, 3, 4, 5, 6, 7, 8, 9, 10, 11, 12, 13, 14, 15, 16, 17, 18, 19, 34, 35, 36, 37, 38, 39, 40, 41, 42, 43, 44, 45, 46, 47, 48, 49] (Ra := [ml x50.Members 4, Arr.mp t_api_Map cs51 4 x50.Maps, ml x50.Modes 21, ml a1.Members 4, Ro.mp fStr.ty p8 c9 ((a1.Maps.getD 0 zm_api_Map).Cuts), Ro.mp (fInt .i64).ty p10 c11 ((a1.Maps.getD 0 zm_api_Map).Nodes), Ro.mp fStr.ty p12 c13 ((a1.Maps.getD 1 zm_api_Map).Cuts), Ro.mp (fInt .i64).ty p14 c15 ((a1.Maps.getD 1 zm_api_Map).Nodes), Ro.mp fStr.ty p16 c17 ((a1.Maps.getD 2 zm_api_Map).Cuts), Ro.mp (fInt .i64).ty p18 c19 ((a1.Maps.getD 2 zm_api_Map).Nodes), Ro.mp fStr.ty p20 c21 ((a1.Maps.getD 3 zm_api_Map).Cuts), Ro.mp (fInt .i64).ty p22 c23 ((a1.Maps.getD 3 zm_api_Map).Nodes), ml a1.Modes 21]) (Rb := [Ro.mp (fInt .i64).ty p69 c70 ((x54.1.Maps.getD 3 zm_api_Map).Nodes), Ro.mp fStr.ty p87 c88 ((x74.Maps.getD 3 zm_api_Map).Cuts), Ro.mp (fInt .i64).ty p89 c90 ((x74.Maps.getD 3 zm_api_Map).Nodes), ml x74.Members 4, Ro.mp fStr.ty p75 c76 y297, Ro.mp (fInt .i64).ty p77 c78 y361, Ro.mp fStr.ty p79 c80 y572, Ro.mp (fInt .i64).ty p81 c82 y636, Ro.mp fStr.ty p83 c84 y847, Ro.mp (fInt .i64).ty p85 c86 y911, ml x74.Modes 21, ml x54.1.Members 4, Ro.mp fStr.ty p55 c56 y164, Ro.mp (fInt .i64).ty p57 c58 y228, Ro.mp fStr.ty p59 c60 y439, Ro.mp (fInt .i64).ty p61 c62 y503, Ro.mp fStr.ty p63 c64 y714, Ro.mp (fInt .i64).ty p65 c66 y778, ml x54.1.Modes 21, MP.old p67 w71, MP.old p69 w71, MP.old p87 w71, MP.old p89 w71, MP.old p75 w71, MP.old p77 w71, MP.old p79 w71, MP.old p81 w71, MP.old p83 w71, MP.old p85 w71, MP.old p55 w71, MP.old p57 w71, MP.old p59 w71, MP.old p61 w71, MP.old p63 w71, MP.old p65 w71]) rfl rfl (aC (apart_ro (hS.tokApart 6 21 hpx999 rfl rfl (by decide))) (aC (apart_ro (hS.tokApart 6 19 hpx999 rfl rfl (by decide))) (aC (apart_ro (hS.tokApart 6 20 hpx999 rfl rfl (by decide))) (aK (aC (apart_ro (hS.tokApart 6 16 hpx999 rfl rfl (by decide))) (aC (apart_ro (hS.tokApart 6 15 hpx999 rfl rfl (by decide))) (aC (apart_ro (hS.tokApart 6 12 hpx999 rfl rfl (by decide))) (aC (apart_ro (hS.tokApart 6 11 hpx999 rfl rfl (by decide))) (aC (apart_ro (hS.tokApart 6 8 hpx999 rfl rfl (by decide))) (aC (apart_ro (hS.tokApart 6 7 hpx999 rfl rfl (by decide))) (aK (aK (aC (apart_ro (hS.tokApart 6 18 hpx999 rfl rfl (by decide))) (aC (apart_ro (hS.tokApart 6 17 hpx999 rfl rfl (by decide))) (aC (apart_ro (hS.tokApart 6 14 hpx999 rfl rfl (by decide))) (aC (apart_ro (hS.tokApart 6 13 hpx999 rfl rfl (by decide))) (aC (apart_ro (hS.tokApart 6 10 hpx999 rfl rfl (by decide))) (aC (apart_ro (hS.tokApart 6 9 hpx999 rfl rfl (by decide))) (aK (aK (aK (aK (aK (aK (aK (aK (aK (aK (aK (aK (aK (aK (aK (aK (aK aN))))))))))))))))))))))))))))))))))) (Cf := (fun nn => [.box b936 25 [sl p67 nn c68, sl p69 ((x54.1.Maps.getD 3 zm_api_Map).Nodes).length c70], .box b931 25 [sl p67 nn c68, sl p69 ((x54.1.Maps.getD 3 zm_api_Map).Nodes).length c70, sl p87 ((x74.Maps.getD 3 zm_api_Map).Cuts).length c88, sl p89 ((x74.Maps.getD 3 zm_api_Map).Nodes).length c90], .box b91 56 [si x74.Pool, si x74.Nodes, eb 4 x74.Members, sl p75 (y297).length c76, sl p77 (y361).length c78, sl p79 (y572).length c80, sl p81 (y636).length c82, sl p83 (y847).length c84, sl p85 (y911).length c86, sl p87 ((x74.Maps.getD 3 zm_api_Map).Cuts).length c88, sl p89 ((x74.Maps.getD 3 zm_api_Map).Nodes).length c90, ei 21 x74.Modes], .box b72 56 [si x54.1.Pool, si x54.1.Nodes, eb 4 x54.1.Members, sl p55 (y164).length c56, sl p57 (y228).length c58, sl p59 (y439).length c60, sl p61 (y503).length c62, sl p63 (y714).length c64, sl p65 (y778).length c66, sl p67 nn c68, sl p69 ((x54.1.Maps.getD 3 zm_api_Map).Nodes).length c70, ei 21 x54.1.Modes], .box b52 60 [si x50.Pool, si x50.Nodes, eb 4 x50.Members, (8, cs51), ei 21 x50.Modes], .box b25 56 [si a1.Pool, si a1.Nodes, eb 4 a1.Members, sl p8 ((a1.Maps.getD 0 zm_api_Map).Cuts).length c9, sl p10 ((a1.Maps.getD 0 zm_api_Map).Nodes).length c11, sl p12 ((a1.Maps.getD 1 zm_api_Map).Cuts).length c13, sl p14 ((a1.Maps.getD 1 zm_api_Map).Nodes).length c15, sl p16 ((a1.Maps.getD 2 zm_api_Map).Cuts).length c17, sl p18 ((a1.Maps.getD 2 zm_api_Map).Nodes).length c19, sl p20 ((a1.Maps.getD 3 zm_api_Map).Cuts).length c21, sl p22 ((a1.Maps.getD 3 zm_api_Map).Nodes).length c23, ei 21 a1.Modes], .tok p67 9 1 nn c68, .tok p85 3 1 (y911).length c86, .tok p83 9 1 (y847).length c84, .tok p65 3 1 (y778).length c66, .tok p63 9 1 (y714).length c64, .tok p81 3 1 (y636).length c82, .tok p79 9 1 (y572).length c80, .tok p61 3 1 (y503).length c62, .tok p59 9 1 (y439).length c60, .tok p77 3 1 (y361).length c78, .tok p75 9 1 (y297).length c76, .tok p57 3 1 (y228).length c58, .tok p55 9 1 (y164).length c56, .tok p87 9 1 ((x74.Maps.getD 3 zm_api_Map).Cuts).length c88, .tok p89 3 1 ((x74.Maps.getD 3 zm_api_Map).Nodes).length c90, .tok p69 3 1 ((x54.1.Maps.getD 3 zm_api_Map).Nodes).length c70])) (Lf := (fun nn => [(2, pt b25 0), (5, pt b52 0), (6, pt b72 0), (8, pt b91 0), (11, pt b936 0), (33, vi 3), (44, .slice (some ⟨b931, 0, none⟩) 2 2), (45, vi 2), (46, vi 0), (52, vi (((x54.1.Maps.getD 3 zm_api_Map).Cuts).length : Int)), (53, vi y990), (56, pt b936 0), (57, .slice p67 nn c68), (58, vi y990), (59, pt b936 0), (60, .slice p67 nn c68), (61, vi y990), (62, .pointer (some ⟨b996, (f997 + Int.toNat y990 * 1), none⟩)), (63, .string (x995)), (64, .string (x998)), (65, .pointer (some ⟨b1000, (f1001 + Int.toNat y990 * 1), none⟩))])) [2, 5, 6, 8, 11, 33, 44, 45, 46, 52, 53, 56, 57, 58, 59, 60, 61, 62, 63, 64, 65] rfl (by kernel_rfl) fun a w hF hS => ?_
 refine ⟨notE, ?_⟩
 refine and_ ?_
 refine hK993 _ _ ?_
 refine wpIn_region_lit ?_
 refine wp 2 [2, 5, 6, 8, 11, 33, 44, 45, 46, 52, 53] hF fun a hF => ?_
 refine wpListIn_nil ?_
 exact ⟨fuel13, Nat.lt_succ_self _, _, (List.set y989 (Int.toNat y990) x998), IntKind.i64.wrap (y990 + 1), hF.kp [2, 5, 6, 8, 11, 33, 44, 45, 46, 52, 53], hS.sp (rg 22) [0, 15, 16, 17, 18, 19, 20, 21, 22, 23, 24, 25, 26, 27, 28, 29, 30, 31, 32, 33, 2, 3, 4, 5, 6, 7, 8, 9, 10, 11, 12, 13, 14, 1, 34, 35, 36, 37, 38, 39, 40, 41, 42, 43, 44, 45, 46, 47, 48, 49], H⟩
 refine cond_f hF (by kernel_rfl) hb ?_
 refine wpIn_exit ?_
 refine hK937 _ _ ?_
 refine wpIn_seq_k fun K1002 hK1002 => ?_
 refine wpIn_region_lit ?_
 refine wp 1 [2, 5, 6, 8, 11, 33, 44, 45, 46, 67] hF fun a hF => ?_
 refine wc (wld hF hS 0 1 0 fun a hF => ?_)
 refine wp 2 [2, 5, 6, 8, 11, 33, 44, 45, 46, 69, 70] hF fun a hF => ?_
 refine wpListIn_nil ?_
 refine hK1002 _ _ ?_
 refine wpIn_block ?_
 refine loop_fuel (n := N) (fun n a w => ∃ (κ : Gh) (y1053 : List Int) (y1054 : Int), Fr (89) [] [(2, pt b25 0), (5, pt b52 0), (6, pt b72 0), (8, pt b91 0), (11, pt b936 0), (33, vi 3), (44, .slice (some ⟨b931, 0, none⟩) 2 2), (45, vi 2), (46, vi 0), (69, vi (((x54.1.Maps.getD 3 zm_api_Map).Nodes).length : Int)), (70, vi y1054)] a ∧ SS [] κ0 w0 κ w [.box b936 25 [sl p67 (y989).length c68, sl p69 (y1053).length c70], .box b931 25 [sl p67 (y989).length c68, sl p69 (y1053).length c70, sl p87 ((x74.Maps.getD 3 zm_api_Map).Cuts).length c88, sl p89 ((x74.Maps.getD 3 zm_api_Map).Nodes).length c90], .box b91 56 [si x74.Pool, si x74.Nodes, eb 4 x74.Members, sl p75 (y297).length c76, sl p77 (y361).length c78, sl p79 (y572).length c80, sl p81 (y636).length c82, sl p83 (y847).length c84, sl p85 (y911).length c86, sl p87 ((x74.Maps.getD 3 zm_api_Map).Cuts).length c88, sl p89 ((x74.Maps.getD 3 zm_api_Map).Nodes).length c90, ei 21 x74.Modes], .box b72 56 [si x54.1.Pool, si x54.1.Nodes, eb 4 x54.1.Members, sl p55 (y164).length c56, sl p57 (y228).length c58, sl p59 (y439).length c60, sl p61 (y503).length c62, sl p63 (y714).length c64, sl p65 (y778).length c66, sl p67 (y989).length c68, sl p69 (y1053).length c70, ei 21 x54.1.Modes], .box b52 60 [si x50.Pool, si x50.Nodes, eb 4 x50.Members, (8, cs51), ei 21 x50.Modes], .box b25 56 [si a1.Pool, si a1.Nodes, eb 4 a1.Members, sl p8 ((a1.Maps.getD 0 zm_api_Map).Cuts).length c9, sl p10 ((a1.Maps.getD 0 zm_api_Map).Nodes).length c11, sl p12 ((a1.Maps.getD 1 zm_api_Map).Cuts).length c13, sl p14 ((a1.Maps.getD 1 zm_api_Map).Nodes).length c15, sl p16 ((a1.Maps.getD 2 zm_api_Map).Cuts).length c17, sl p18 ((a1.Maps.getD 2 zm_api_Map).Nodes).length c19, sl p20 ((a1.Maps.getD 3 zm_api_Map).Cuts).length c21, sl p22 ((a1.Maps.getD 3 zm_api_Map).Nodes).length c23, ei 21 a1.Modes], .tok p69 3 1 (y1053).length c70, .tok p67 9 1 (y989).length c68, .tok p85 3 1 (y911).length c86, .tok p83 9 1 (y847).length c84, .tok p65 3 1 (y778).length c66, .tok p63 9 1 (y714).length c64, .tok p81 3 1 (y636).length c82, .tok p79 9 1 (y572).length c80, .tok p61 3 1 (y503).length c62, .tok p59 9 1 (y439).length c60, .tok p77 3 1 (y361).length c78, .tok p75 9 1 (y297).length c76, .tok p57 3 1 (y228).length c58, .tok p55 9 1 (y164).length c56, .tok p87 9 1 ((x74.Maps.getD 3 zm_api_Map).Cuts).length c88, .tok p89 3 1 ((x74.Maps.getD 3 zm_api_Map).Nodes).length c90] [Ro.mp fStr.ty p67 c68 y989, Ro.mp (fInt .i64).ty p69 c70 y1053, Ro.mp fStr.ty p87 c88 ((x74.Maps.getD 3 zm_api_Map).Cuts), Ro.mp (fInt .i64).ty p89 c90 ((x74.Maps.getD 3 zm_api_Map).Nodes), ml x74.Members 4, Ro.mp fStr.ty p75 c76 y297, Ro.mp (fInt .i64).ty p77 c78 y361, Ro.mp fStr.ty p79 c80 y572, Ro.mp (fInt .i64).ty p81 c82 y636, Ro.mp fStr.ty p83 c84 y847, Ro.mp (fInt .i64).ty p85 c86 y911, ml x74.Modes 21, ml x54.1.Members 4, Ro.mp fStr.ty p55 c56 y164, Ro.mp (fInt .i64).ty p57 c58 y228, Ro.mp fStr.ty p59 c60 y439, Ro.mp (fInt .i64).ty p61 c62 y503, Ro.mp fStr.ty p63 c64 y714, Ro.mp (fInt .i64).ty p65 c66 y778, ml x54.1.Modes 21, ml x50.Members 4, Arr.mp t_api_Map cs51 4 x50.Maps, ml x50.Modes 21, ml a1.Members 4, Ro.mp fStr.ty p8 c9 ((a1.Maps.getD 0 zm_api_Map).Cuts), Ro.mp (fInt .i64).ty p10 c11 ((a1.Maps.getD 0 zm_api_Map).Nodes), Ro.mp fStr.ty p12 c13 ((a1.Maps.getD 1 zm_api_Map).Cuts), Ro.mp (fInt .i64).ty p14 c15 ((a1.Maps.getD 1 zm_api_Map).Nodes), Ro.mp fStr.ty p16 c17 ((a1.Maps.getD 2 zm_api_Map).Cuts), Ro.mp (fInt .i64).ty p18 c19 ((a1.Maps.getD 2 zm_api_Map).Nodes), Ro.mp fStr.ty p20 c21 ((a1.Maps.getD 3 zm_api_Map).Cuts), Ro.mp (fInt .i64).ty p22 c23 ((a1.Maps.getD 3 zm_api_Map).Nodes), ml a1.Modes 21, MP.since κ71 w71, MP.old p67 w71, MP.old p69 w71, MP.old p87 w71, MP.old p89 w71, MP.old p75 w71, MP.old p77 w71, MP.old p79 w71, MP.old p81 w71, MP.old p83 w71, MP.old p85 w71, MP.old p55 w71, MP.old p57 w71, MP.old p59 w71, MP.old p61 w71, MP.old p63 w71, MP.old p65 w71] ∧ M.law18_ConfigOwns_x_L14 N n a1 x50 x54 x74 y164 y228 y297 y361 y439 y503 y572 y636 y714 y778 y847 y911 y989 y1053 y1054 = some r) ?_ ?_
 exact ⟨_, (x54.1.Maps.getD 3 zm_api_Map).Nodes, 0, hF.kp [2, 5, 6, 8, 11, 33, 44, 45, 46, 69, 70], hS.sp [0, 1, 2, 3, 4, 5, 21, 6, 7, 8, 9, 10, 11, 12, 13, 14, 15, 16, 17, 18, 19, 20] (rg 50), H⟩
 rintro n a w ⟨κ, y1053, y1054, hF, hS, H⟩
 rcases n with _ | fuel14
 simp [M.law18_ConfigOwns_x_L14] at H
 simp only [M.law18_ConfigOwns_x_L14] at H
 refine wpIn_seq_k fun K1055 hK1055 => ?_
 refine wpIn_region_lit ?_
 refine wp 1 [2, 5, 6, 8, 11, 33, 44, 45, 46, 69, 70, 71] hF fun a hF => ?_
 refine wpListIn_nil ?_
 refine hK1055 _ _ ?_
 refine wpIn_seq_k fun K1056 hK1056 => ?_
 refine bif_split H (fun hb H => ?_) (fun hb H => ?_)
 refine cond_t hF (by kernel_rfl) hb ?_
 refine wpIn_skip ?_
 refine hK1056 _ _ ?_
 refine wpIn_seq_k fun K1057 hK1057 => ?_
 refine wpIn_block ?_
 refine wpIn_seq_k fun K1058 hK1058 => ?_
 refine wpIn_region_lit ?_
 refine wp 2 [2, 5, 6, 8, 11, 13, 33, 44, 45, 46, 69, 70] hF fun a hF => ?_
 refine wpListIn_nil ?_
 refine hK1058 _ _ ?_
 refine wpIn_region_lit ?_
 refine wp 1 [2, 5, 6, 8, 11, 13, 33, 44, 45, 46, 69, 70, 73] hF fun a hF => ?_
 refine wc (wld hF hS 0 1 0 fun a hF => ?_)
 refine wl_pure (L' := [(2, pt b25 0), (5, pt b52 0), (6, pt b72 0), (8, pt b91 0), (11, pt b936 0), (33, vi 3), (44, .slice (some ⟨b931, 0, none⟩) 2 2), (45, vi 2), (46, vi 0), (69, vi (((x54.1.Maps.getD 3 zm_api_Map).Nodes).length : Int)), (70, vi y1054), (74, .slice p69 (y1053).length c70), (75, vi y1054)]) 1 [2, 5, 6, 8, 11, 33, 44, 45, 46, 69, 70, 74, 75] hF (by kernel_rfl) fun a hF => ?_
 refine bind_split H (fun x1059 hx1059 H => ?_)
 refine wc (wo_index hF hS (by kernel_rfl) 1 (E := 3) (sz := 1) rfl rfl rfl (by kernel_rfl) rfl hx1059 (by kernel_rfl) (by kernel_rfl) fun b1060 f1061 a hpx1059 hF => ?_)
 refine wc (wo_loadRo (t := (fInt .i64)) hF hS (by kernel_rfl) 1 0 (v := vi x1059) rfl rfl hpx1059 rfl hx1059 (by kernel_rfl) (by kernel_rfl) (by kernel_rfl) fun a hF => ?_)
 refine wl_pure (L' := [(2, pt b25 0), (5, pt b52 0), (6, pt b72 0), (8, pt b91 0), (11, pt b936 0), (33, vi 3), (44, .slice (some ⟨b931, 0, none⟩) 2 2), (45, vi 2), (46, vi 0), (69, vi (((x54.1.Maps.getD 3 zm_api_Map).Nodes).length : Int)), (70, vi y1054), (74, .slice p69 (y1053).length c70), (75, vi y1054), (78, vi (IntKind.i64.wrap (x1059 + 1)))]) 1 [2, 5, 6, 8, 11, 33, 44, 45, 46, 69, 70, 74, 75, 78] hF (by kernel_rfl) fun a hF => ?_
 refine bind_split H (fun x1062 hx1062 H => ?_)
 refine wc (wo_index hF hS (by kernel_rfl) 1 (E := 3) (sz := 1) rfl rfl rfl (by kernel_rfl) rfl hx1062 (by kernel_rfl) (by kernel_rfl) fun b1063 f1064 a hpx1062 hF => ?_)
 refine wc (wo_storeTokS (t := (fInt .i64)) (y := x1062) (z := IntKind.i64.wrap (x1059 + 1)) (v := vi (IntKind.i64.wrap (x1059 + 1))) (vs := (flat [si (IntKind.i64.wrap (x1059 + 1))])) (sz := 1) hF hS hfr hf71 hw71 hR71 (by kernel_rfl) 6 1 33 35 0 rfl rfl (by kernel_rfl) rfl rfl rfl hpx1062 hx1062 rfl (by kernel_rfl) (by kernel_rfl) rfl (show segGood [si (IntKind.i64.wrap (x1059 + 1))] from (sgN 1 sgNil)).2 rfl (by decide) rfl rfl (nfC nfB (nfC nfB (nfC nfB (nfC nfB (nfC nfB (nfC nfB (nfC nfT (nfC nfT (nfC nfT (nfC nfT (nfC nfT (nfC nfT (nfC nfT (nfC nfT (nfC nfT (nfC nfT (nfC nfT (nfC nfT (nfC nfT (nfC nfT (nfC nfT (nfC nfT nfN)))))))))))))))))))))) [2, 3, 4, 26, 23, 24, 21, 22, 19, 20, 17, 18, 27] [0, 2, 3, 4, 5, 6, 7, 8, 9, 10, 11, 12, 13, 14, 15, 16, 17, 18, 19, 34, 35, 36, 37, 38, 39, 40, 41, 42, 43, 44, 45, 46, 47, 48, 49] (Ra := [ml x50.Members 4, Arr.mp t_api_Map cs51 4 x50.Maps, ml x50.Modes 21, ml a1.Members 4, Ro.mp fStr.ty p8 c9 ((a1.Maps.getD 0 zm_api_Map).Cuts), Ro.mp (fInt .i64).ty p10 c11 ((a1.Maps.getD 0 zm_api_Map).Nodes), Ro.mp fStr.ty p12 c13 ((a1.Maps.getD 1 zm_api_Map).Cuts), Ro.mp (fInt .i64).ty p14 c15 ((a1.Maps.getD 1 zm_api_Map).Nodes), Ro.mp fStr.ty p16 c17 ((a1.Maps.getD 2 zm_api_Map).Cuts), Ro.mp (fInt .i64).ty p18 c19 ((a1.Maps.getD 2 zm_api_Map).Nodes), Ro.mp fStr.ty p20 c21 ((a1.Maps.getD 3 zm_api_Map).Cuts), Ro.mp (fInt .i64).ty p22 c23 ((a1.Maps.getD 3 zm_api_Map).Nodes), ml a1.Modes 21]) (Rb := [Ro.mp fStr.ty p67 c68 y989, Ro.mp fStr.ty p87 c88 ((x74.Maps.getD 3 zm_api_Map).Cuts), Ro.mp (fInt .i64).ty p89 c90 ((x74.Maps.getD 3 zm_api_Map).Nodes), ml x74.Members 4, Ro.mp fStr.ty p75 c76 y297, Ro.mp (fInt .i64).ty p77 c78 y361, Ro.mp fStr.ty p79 c80 y572, Ro.mp (fInt .i64).ty p81 c82 y636, Ro.mp fStr.ty p83 c84 y847, Ro.mp (fInt .i64).ty p85 c86 y911, ml x74.Modes 21, ml x54.1.Members 4, Ro.mp fStr.ty p55 c56 y164, Ro.mp (fInt .i64).ty p57 c58 y228, Ro.mp fStr.ty p59 c60 y439, Ro.mp (fInt .i64).ty p61 c62 y503, Ro.mp fStr.ty p63 c64 y714, Ro.mp (fInt .i64).ty p65 c66 y778, ml x54.1.Modes 21, MP.old p67 w71, MP.old p69 w71, MP.old p87 w71, MP.old p89 w71, MP.old p75 w71, MP.old p77 w71, MP.old p79 w71, MP.old p81 w71, MP.old p83 w71, MP.old p85 w71, MP.old p55 w71, MP.old p57 w71, MP.old p59 w71, MP.old p61 w71, MP.old p63 w71, MP.old p65 w71]) rfl rfl (aC (apart_ro (hS.tokApart 6 7 hpx1062 rfl rfl (by decide))) (aC (apart_ro (hS.tokApart 6 20 hpx1062 rfl rfl (by decide))) (aC (apart_ro (hS.tokApart 6 21 hpx1062 rfl rfl (by decide))) (aK (aC (apart_ro (hS.tokApart 6 17 hpx1062 rfl rfl (by decide))) (aC (apart_ro (hS.tokApart 6 16 hpx1062 rfl rfl (by decide))) (aC (apart_ro (hS.tokApart 6 13 hpx1062 rfl rfl (by decide))) (aC (apart_ro (hS.tokApart 6 12 hpx1062 rfl rfl (by decide))) (aC (apart_ro (hS.tokApart 6 9 hpx1062 rfl rfl (by decide))) (aC (apart_ro (hS.tokApart 6 8 hpx1062 rfl rfl (by decide))) (aK (aK (aC (apart_ro (hS.tokApart 6 19 hpx1062 rfl rfl (by decide))) (aC (apart_ro (hS.tokApart 6 18 hpx1062 rfl rfl (by decide))) (aC (apart_ro (hS.tokApart 6 15 hpx1062 rfl rfl (by decide))) (aC (apart_ro (hS.tokApart 6 14 hpx1062 rfl rfl (by decide))) (aC (apart_ro (hS.tokApart 6 11 hpx1062 rfl rfl (by decide))) (aC (apart_ro (hS.tokApart 6 10 hpx1062 rfl rfl (by decide))) (aK (aK (aK (aK (aK (aK (aK (aK (aK (aK (aK (aK (aK (aK (aK (aK (aK aN))))))))))))))))))))))))))))))))))) (Cf := (fun nn => [.box b936 25 [sl p67 (y989).length c68, sl p69 nn c70], .box b931 25 [sl p67 (y989).length c68, sl p69 nn c70, sl p87 ((x74.Maps.getD 3 zm_api_Map).Cuts).length c88, sl p89 ((x74.Maps.getD 3 zm_api_Map).Nodes).length c90], .box b91 56 [si x74.Pool, si x74.Nodes, eb 4 x74.Members, sl p75 (y297).length c76, sl p77 (y361).length c78, sl p79 (y572).length c80, sl p81 (y636).length c82, sl p83 (y847).length c84, sl p85 (y911).length c86, sl p87 ((x74.Maps.getD 3 zm_api_Map).Cuts).length c88, sl p89 ((x74.Maps.getD 3 zm_api_Map).Nodes).length c90, ei 21 x74.Modes], .box b72 56 [si x54.1.Pool, si x54.1.Nodes, eb 4 x54.1.Members, sl p55 (y164).length c56, sl p57 (y228).length c58, sl p59 (y439).length c60, sl p61 (y503).length c62, sl p63 (y714).length c64, sl p65 (y778).length c66, sl p67 (y989).length c68, sl p69 nn c70, ei 21 x54.1.Modes], .box b52 60 [si x50.Pool, si x50.Nodes, eb 4 x50.Members, (8, cs51), ei 21 x50.Modes], .box b25 56 [si a1.Pool, si a1.Nodes, eb 4 a1.Members, sl p8 ((a1.Maps.getD 0 zm_api_Map).Cuts).length c9, sl p10 ((a1.Maps.getD 0 zm_api_Map).Nodes).length c11, sl p12 ((a1.Maps.getD 1 zm_api_Map).Cuts).length c13, sl p14 ((a1.Maps.getD 1 zm_api_Map).Nodes).length c15, sl p16 ((a1.Maps.getD 2 zm_api_Map).Cuts).length c17, sl p18 ((a1.Maps.getD 2 zm_api_Map).Nodes).length c19, sl p20 ((a1.Maps.getD 3 zm_api_Map).Cuts).length c21, sl p22 ((a1.Maps.getD 3 zm_api_Map).Nodes).length c23, ei 21 a1.Modes], .tok p69 3 1 nn c70, .tok p67 9 1 (y989).length c68, .tok p85 3 1 (y911).length c86, .tok p83 9 1 (y847).length c84, .tok p65 3 1 (y778).length c66, .tok p63 9 1 (y714).length c64, .tok p81 3 1 (y636).length c82, .tok p79 9 1 (y572).length c80, .tok p61 3 1 (y503).length c62, .tok p59 9 1 (y439).length c60, .tok p77 3 1 (y361).length c78, .tok p75 9 1 (y297).length c76, .tok p57 3 1 (y228).length c58, .tok p55 9 1 (y164).length c56, .tok p87 9 1 ((x74.Maps.getD 3 zm_api_Map).Cuts).length c88, .tok p89 3 1 ((x74.Maps.getD 3 zm_api_Map).Nodes).length c90])) (Lf := (fun nn => [(2, pt b25 0), (5, pt b52 0), (6, pt b72 0), (8, pt b91 0), (11, pt b936 0), (33, vi 3), (44, .slice (some ⟨b931, 0, none⟩) 2 2), (45, vi 2), (46, vi 0), (69, vi (((x54.1.Maps.getD 3 zm_api_Map).Nodes).length : Int)), (70, vi y1054), (74, .slice p69 nn c70), (75, vi y1054), (78, vi (IntKind.i64.wrap (x1059 + 1))), (79, .pointer (some ⟨b1063, (f1064 + Int.toNat y1054 * 1), none⟩))])) [2, 5, 6, 8, 11, 33, 44, 45, 46, 69, 70, 74, 75, 78, 79] rfl (by kernel_rfl) fun a w hF hS => ?_)
 refine wpListIn_nil ?_
 refine hK1057 _ _ ?_
 refine wpIn_region_lit ?_
 refine wp 2 [2, 5, 6, 8, 11, 33, 44, 45, 46, 69, 70] hF fun a hF => ?_
 refine wpListIn_nil ?_
 exact ⟨fuel14, Nat.lt_succ_self _, _, (List.set y1053 (Int.toNat y1054) (IntKind.i64.wrap (x1059 + 1))), IntKind.i64.wrap (y1054 + 1), hF.kp [2, 5, 6, 8, 11, 33, 44, 45, 46, 69, 70], hS.sp (rg 22) [15, 0, 16, 17, 18, 19, 20, 21, 22, 23, 24, 25, 26, 27, 28, 29, 30, 31, 32, 33, 2, 3, 4, 5, 6, 7, 8, 9, 10, 11, 12, 13, 14, 1, 34, 35, 36, 37, 38, 39, 40, 41, 42, 43, 44, 45, 46, 47, 48, 49], H⟩
 refine cond_f hF (by kernel_rfl) hb ?_
 refine wpIn_exit ?_
 refine hK934 _ _ ?_
 refine wpIn_region_lit ?_
 refine wl_pure (L' := [(2, pt b25 0), (5, pt b52 0), (6, pt b72 0), (8, pt b91 0), (33, vi 3), (44, .slice (some ⟨b931, 0, none⟩) 2 2), (45, vi 2), (46, vi 1)]) 2 [2, 5, 6, 8, 33, 44, 45, 46] hF (by kernel_rfl) fun a hF => ?_
 refine wpListIn_nil ?_
 refine round_go ?_
 refine wpIn_seq_k fun K1065 hK1065 => ?_
 refine wpIn_region_lit ?_
 refine wp 1 [2, 5, 6, 8, 33, 44, 45, 46, 47] hF fun a hF => ?_
 refine wpListIn_nil ?_
 refine hK1065 _ _ ?_
 refine wpIn_seq_k fun K1066 hK1066 => ?_
 refine cond_t hF (by kernel_rfl) rfl ?_
 refine wpIn_skip ?_
 refine hK1066 _ _ ?_
 refine wpIn_seq_k fun K1067 hK1067 => ?_
 refine wpIn_block ?_
 refine wpIn_seq_k fun K1068 hK1068 => ?_
 refine wpIn_region_lit ?_
 refine wp 1 [2, 5, 6, 8, 33, 44, 45, 46, 48] hF fun a hF => ?_
 refine wc (wls hF hS 1 2 2 fun a hF => ?_)
 refine wc (wal hF hS [sl none 0 0, sl none 0 0] (sgN 2 sgNil) fun b1069 a w hF hS => ?_)
 refine wc (wst hF hS 0 0 2 [sl p87 ((x74.Maps.getD 3 zm_api_Map).Cuts).length c88, sl p89 ((x74.Maps.getD 3 zm_api_Map).Nodes).length c90] (sgN 2 sgNil) fun a w hF hS => ?_)
 refine wpListIn_nil ?_
 refine hK1068 _ _ ?_
 refine wpIn_seq_k fun K1070 hK1070 => ?_
 refine wpIn_seq_k fun K1071 hK1071 => ?_
 refine wpIn_region_lit ?_
 refine wp 1 [2, 5, 6, 8, 11, 33, 44, 45, 46, 50] hF fun a hF => ?_
 refine wc (wld hF hS 0 0 0 fun a hF => ?_)
 refine wp 2 [2, 5, 6, 8, 11, 33, 44, 45, 46, 52, 53] hF fun a hF => ?_
 refine wpListIn_nil ?_
 refine hK1071 _ _ ?_
 refine wpIn_block ?_
 refine loop_fuel (n := N) (fun n a w => ∃ (κ : Gh) (y1122 : List ByteArray) (y1123 : Int), Fr (89) [] [(2, pt b25 0), (5, pt b52 0), (6, pt b72 0), (8, pt b91 0), (11, pt b1069 0), (33, vi 3), (44, .slice (some ⟨b931, 0, none⟩) 2 2), (45, vi 2), (46, vi 1), (52, vi (((x74.Maps.getD 3 zm_api_Map).Cuts).length : Int)), (53, vi y1123)] a ∧ SS [] κ0 w0 κ w [.box b1069 25 [sl p87 (y1122).length c88, sl p89 ((x74.Maps.getD 3 zm_api_Map).Nodes).length c90], .box b931 25 [sl p67 (y989).length c68, sl p69 (y1053).length c70, sl p87 (y1122).length c88, sl p89 ((x74.Maps.getD 3 zm_api_Map).Nodes).length c90], .box b91 56 [si x74.Pool, si x74.Nodes, eb 4 x74.Members, sl p75 (y297).length c76, sl p77 (y361).length c78, sl p79 (y572).length c80, sl p81 (y636).length c82, sl p83 (y847).length c84, sl p85 (y911).length c86, sl p87 (y1122).length c88, sl p89 ((x74.Maps.getD 3 zm_api_Map).Nodes).length c90, ei 21 x74.Modes], .box b72 56 [si x54.1.Pool, si x54.1.Nodes, eb 4 x54.1.Members, sl p55 (y164).length c56, sl p57 (y228).length c58, sl p59 (y439).length c60, sl p61 (y503).length c62, sl p63 (y714).length c64, sl p65 (y778).length c66, sl p67 (y989).length c68, sl p69 (y1053).length c70, ei 21 x54.1.Modes], .box b52 60 [si x50.Pool, si x50.Nodes, eb 4 x50.Members, (8, cs51), ei 21 x50.Modes], .box b25 56 [si a1.Pool, si a1.Nodes, eb 4 a1.Members, sl p8 ((a1.Maps.getD 0 zm_api_Map).Cuts).length c9, sl p10 ((a1.Maps.getD 0 zm_api_Map).Nodes).length c11, sl p12 ((a1.Maps.getD 1 zm_api_Map).Cuts).length c13, sl p14 ((a1.Maps.getD 1 zm_api_Map).Nodes).length c15, sl p16 ((a1.Maps.getD 2 zm_api_Map).Cuts).length c17, sl p18 ((a1.Maps.getD 2 zm_api_Map).Nodes).length c19, sl p20 ((a1.Maps.getD 3 zm_api_Map).Cuts).length c21, sl p22 ((a1.Maps.getD 3 zm_api_Map).Nodes).length c23, ei 21 a1.Modes], .tok p87 9 1 (y1122).length c88, .tok p69 3 1 (y1053).length c70, .tok p67 9 1 (y989).length c68, .tok p85 3 1 (y911).length c86, .tok p83 9 1 (y847).length c84, .tok p65 3 1 (y778).length c66, .tok p63 9 1 (y714).length c64, .tok p81 3 1 (y636).length c82, .tok p79 9 1 (y572).length c80, .tok p61 3 1 (y503).length c62, .tok p59 9 1 (y439).length c60, .tok p77 3 1 (y361).length c78, .tok p75 9 1 (y297).length c76, .tok p57 3 1 (y228).length c58, .tok p55 9 1 (y164).length c56, .tok p89 3 1 ((x74.Maps.getD 3 zm_api_Map).Nodes).length c90] [Ro.mp fStr.ty p87 c88 y1122, Ro.mp (fInt .i64).ty p89 c90 ((x74.Maps.getD 3 zm_api_Map).Nodes), Ro.mp fStr.ty p67 c68 y989, Ro.mp (fInt .i64).ty p69 c70 y1053, ml x74.Members 4, Ro.mp fStr.ty p75 c76 y297, Ro.mp (fInt .i64).ty p77 c78 y361, Ro.mp fStr.ty p79 c80 y572, Ro.mp (fInt .i64).ty p81 c82 y636, Ro.mp fStr.ty p83 c84 y847, Ro.mp (fInt .i64).ty p85 c86 y911, ml x74.Modes 21, ml x54.1.Members 4, Ro.mp fStr.ty p55 c56 y164, Ro.mp (fInt .i64).ty p57 c58 y228, Ro.mp fStr.ty p59 c60 y439, Ro.mp (fInt .i64).ty p61 c62 y503, Ro.mp fStr.ty p63 c64 y714, Ro.mp (fInt .i64).ty p65 c66 y778, ml x54.1.Modes 21, ml x50.Members 4, Arr.mp t_api_Map cs51 4 x50.Maps, ml x50.Modes 21, ml a1.Members 4, Ro.mp fStr.ty p8 c9 ((a1.Maps.getD 0 zm_api_Map).Cuts), Ro.mp (fInt .i64).ty p10 c11 ((a1.Maps.getD 0 zm_api_Map).Nodes), Ro.mp fStr.ty p12 c13 ((a1.Maps.getD 1 zm_api_Map).Cuts), Ro.mp (fInt .i64).ty p14 c15 ((a1.Maps.getD 1 zm_api_Map).Nodes), Ro.mp fStr.ty p16 c17 ((a1.Maps.getD 2 zm_api_Map).Cuts), Ro.mp (fInt .i64).ty p18 c19 ((a1.Maps.getD 2 zm_api_Map).Nodes), Ro.mp fStr.ty p20 c21 ((a1.Maps.getD 3 zm_api_Map).Cuts), Ro.mp (fInt .i64).ty p22 c23 ((a1.Maps.getD 3 zm_api_Map).Nodes), ml a1.Modes 21, MP.since κ71 w71, MP.old p87 w71, MP.old p89 w71, MP.old p67 w71, MP.old p69 w71, MP.old p75 w71, MP.old p77 w71, MP.old p79 w71, MP.old p81 w71, MP.old p83 w71, MP.old p85 w71, MP.old p55 w71, MP.old p57 w71, MP.old p59 w71, MP.old p61 w71, MP.old p63 w71, MP.old p65 w71] ∧ M.law18_ConfigOwns_x_L15 N n a1 x50 x54 x74 y164 y228 y297 y361 y439 y503 y572 y636 y714 y778 y847 y911 y989 y1053 y1122 y1123 = some r) ?_ ?_
 exact ⟨_, (x74.Maps.getD 3 zm_api_Map).Cuts, 0, hF.kp [2, 5, 6, 8, 11, 33, 44, 45, 46, 52, 53], hS.sp [0, 2, 3, 4, 5, 6, 21, 7, 8, 9, 10, 11, 12, 13, 14, 15, 16, 17, 18, 19, 20, 22] [2, 3, 0, 1, 4, 5, 6, 7, 8, 9, 10, 11, 12, 13, 14, 15, 16, 17, 18, 19, 20, 21, 22, 23, 24, 25, 26, 27, 28, 29, 30, 31, 32, 33, 36, 37, 34, 35, 38, 39, 40, 41, 42, 43, 44, 45, 46, 47, 48, 49], H⟩
 rintro n a w ⟨κ, y1122, y1123, hF, hS, H⟩
 rcases n with _ | fuel15
 simp [M.law18_ConfigOwns_x_L15] at H
 simp only [M.law18_ConfigOwns_x_L15] at H
 refine wpIn_seq_k fun K1124 hK1124 => ?_
 refine wpIn_region_lit ?_
 refine wp 1 [2, 5, 6, 8, 11, 33, 44, 45, 46, 52, 53, 54] hF fun a hF => ?_
 refine wpListIn_nil ?_
 refine hK1124 _ _ ?_
 refine wpIn_seq_k fun K1125 hK1125 => ?_
 refine bif_split H (fun hb H => ?_) (fun hb H => ?_)
 refine cond_t hF (by kernel_rfl) hb ?_
 refine wpIn_skip ?_
 refine hK1125 _ _ ?_
 refine wpIn_seq_k fun K1126 hK1126 => ?_
 refine wpIn_block ?_
 refine wpIn_seq_k fun K1127 hK1127 => ?_
 refine wpIn_region_lit ?_
 refine wp 2 [2, 5, 6, 8, 11, 12, 33, 44, 45, 46, 52, 53] hF fun a hF => ?_
 refine wpListIn_nil ?_
 refine hK1127 _ _ ?_
 refine rgS hS [10] ?_
 have hS := hS.drew
 refine any_pure [0, 2, 3, 5] [2, 5, 6, 8, 11, 33, 44, 45, 46, 52, 53, 56, 58, 59, 61] (L' := [(2, pt b25 0), (5, pt b52 0), (6, pt b72 0), (8, pt b91 0), (11, pt b1069 0), (33, vi 3), (44, .slice (some ⟨b931, 0, none⟩) 2 2), (45, vi 2), (46, vi 1), (52, vi (((x74.Maps.getD 3 zm_api_Map).Cuts).length : Int)), (53, vi y1123), (56, pt b1069 0), (58, vi y1123), (59, pt b1069 0), (61, vi y1123)]) (listed' := (bitA 11 45)) (fuel := 7) hF (hS.sx (rg 6) (rg 50)) (by kernel_rfl) (by intro c a w t v h; cases t <;> exact h) (by kernel_rfl) rfl fun a hF => ?_
 refine atk 1 (some 57) hF (hS.sx (rg 6) (rg 50)) rfl (vld 0 0 0) fun a hF => ?_
 refine atk 4 (some 60) hF (hS.sx (rg 6) (rg 50)) rfl (vld 0 0 0) fun a hF => ?_
 refine bind_split H (fun x1128 hx1128 H => ?_)
 obtain ⟨b1129, f1130, hpx1128⟩ := hS.ptr 0 rfl hx1128
 refine atk 6 (some 62) hF (hS.sx (rg 6) (rg 50)) rfl (fun w _ => val_index (E := 9) (sz := 1) rfl hpx1128 rfl (by kernel_rfl) rfl hx1128 (by kernel_rfl) (by kernel_rfl) w) fun a hF => ?_
 refine atk 7 (some 63) hF (hS.sx (rg 6) (rg 50)) rfl (val_loadRo (t := fStr) 0 0 (v := .string (x1128)) rfl rfl hpx1128 rfl hx1128 (by kernel_rfl) (by kernel_rfl) (by kernel_rfl)) fun a hF => ?_
 refine ago 8 hF rfl ?_
 refine bind_split H (fun x1131 hx1131 H => ?_)
 refine wo_callP hF hS (by kernel_rfl) (by kernel_rfl) (C_law18_other N hS.fresh x1128  ((hS.pick [] (by kernel_rfl)).ro) hx1131) ?_
 rintro _ κ w a ⟨rfl, hR, hN⟩ hF hS hO
 refine ⟨fun _ => (hS.sx (rg 6) (rg 50)), ?_⟩
 refine bind_split H (fun x1132 hx1132 H => ?_)
 obtain ⟨b1133, f1134, hpx1132⟩ := hS.ptr 0 rfl hx1132
 refine atk 9 (some 65) hF (hS.sx (rg 6) (rg 50)) rfl (fun w _ => val_index (E := 9) (sz := 1) rfl hpx1132 rfl (by kernel_rfl) rfl hx1132 (by kernel_rfl) (by kernel_rfl) w) fun a hF => ?_
 refine ago 10 hF rfl ?_
 refine wo_storeTokS (t := fStr) (y := x1132) (z := x1131) (v := .string (x1131)) (vs := (flat [sg x1131])) (sz := 1) hF hS hfr hf71 hw71 hR71 (by kernel_rfl) 6 0 33 34 0 rfl rfl (by kernel_rfl) rfl rfl rfl hpx1132 hx1132 rfl (by kernel_rfl) (by kernel_rfl) rfl (show segGood [sg x1131] from (sgN 1 sgNil)).2 rfl (by decide) rfl rfl (nfC nfB (nfC nfB (nfC nfB (nfC nfB (nfC nfB (nfC nfB (nfC nfT (nfC nfT (nfC nfT (nfC nfT (nfC nfT (nfC nfT (nfC nfT (nfC nfT (nfC nfT (nfC nfT (nfC nfT (nfC nfT (nfC nfT (nfC nfT (nfC nfT (nfC nfT nfN)))))))))))))))))))))) [2, 3, 4, 26, 23, 24, 21, 22, 19, 20, 17, 18, 27] [1, 2, 3, 4, 5, 6, 7, 8, 9, 10, 11, 12, 13, 14, 15, 16, 17, 18, 19, 34, 35, 36, 37, 38, 39, 40, 41, 42, 43, 44, 45, 46, 47, 48, 49] (Ra := [ml x50.Members 4, Arr.mp t_api_Map cs51 4 x50.Maps, ml x50.Modes 21, ml a1.Members 4, Ro.mp fStr.ty p8 c9 ((a1.Maps.getD 0 zm_api_Map).Cuts), Ro.mp (fInt .i64).ty p10 c11 ((a1.Maps.getD 0 zm_api_Map).Nodes), Ro.mp fStr.ty p12 c13 ((a1.Maps.getD 1 zm_api_Map).Cuts), Ro.mp (fInt .i64).ty p14 c15 ((a1.Maps.getD 1 zm_api_Map).Nodes), Ro.mp fStr.ty p16 c17 ((a1.Maps.getD 2 zm_api_Map).Cuts), Ro.mp (fInt .i64).ty p18 c19 ((a1.Maps.getD 2 zm_api_Map).Nodes), Ro.mp fStr.ty p20 c21 ((a1.Maps.getD 3 zm_api_Map).Cuts), Ro.mp (fInt .i64).ty p22 c23 ((a1.Maps.getD 3 zm_api_Map).Nodes), ml a1.Modes 21]) (Rb := [Ro.mp (fInt .i64).ty p89 c90 ((x74.Maps.getD 3 zm_api_Map).Nodes), Ro.mp fStr.ty p67 c68 y989, Ro.mp (fInt .i64).ty p69 c70 y1053, ml x74.Members 4, Ro.mp fStr.ty p75 c76 y297, Ro.mp (fInt .i64).ty p77 c78 y361, Ro.mp fStr.ty p79 c80 y572, Ro.mp (fInt .i64).ty p81 c82 y636, Ro.mp fStr.ty p83 c84 y847, Ro.mp (fInt .i64).ty p85 c86 y911, ml x74.Modes 21, ml x54.1.Members 4, Ro.mp fStr.ty p55 c56 y164, Ro.mp (fInt .i64).ty p57 c58 y228, Ro.mp fStr.ty p59 c60 y439, Ro.mp (fInt .i64).ty p61 c62 y503, Ro.mp fStr.ty p63 c64 y714, Ro.mp (fInt .i64).ty p65 c66 y778, ml x54.1.Modes 21, MP.old p87 w71, MP.old p89 w71, MP.old p67 w71, MP.old p69 w71, MP.old p75 w71, MP.old p77 w71, MP.old p79 w71, MP.old p81 w71, MP.old p83 w71, MP.old p85 w71, MP.old p55 w71, MP.old p57 w71, MP.old p59 w71, MP.old p61 w71, MP.old p63 w71, MP.old p65 w71]) rfl rfl (aC (apart_ro (hS.tokApart 6 21 hpx1132 rfl rfl (by decide))) (aC (apart_ro (hS.tokApart 6 8 hpx1132 rfl rfl (by decide))) (aC (apart_ro (hS.tokApart 6 7 hpx1132 rfl rfl (by decide))) (aK (aC (apart_ro (hS.tokApart 6 18 hpx1132 rfl rfl (by decide))) (aC (apart_ro (hS.tokApart 6 17 hpx1132 rfl rfl (by decide))) (aC (apart_ro (hS.tokApart 6 14 hpx1132 rfl rfl (by decide))) (aC (apart_ro (hS.tokApart 6 13 hpx1132 rfl rfl (by decide))) (aC (apart_ro (hS.tokApart 6 10 hpx1132 rfl rfl (by decide))) (aC (apart_ro (hS.tokApart 6 9 hpx1132 rfl rfl (by decide))) (aK (aK (aC (apart_ro (hS.tokApart 6 20 hpx1132 rfl rfl (by decide))) (aC (apart_ro (hS.tokApart 6 19 hpx1132 rfl rfl (by decide))) (aC (apart_ro (hS.tokApart 6 16 hpx1132 rfl rfl (by decide))) (aC (apart_ro (hS.tokApart 6 15 hpx1132 rfl rfl (by decide))) (aC (apart_ro (hS.tokApart 6 12 hpx1132 rfl rfl (by decide))) (aC (apart_ro (hS.tokApart 6 11 hpx1132 rfl rfl (by decide))) (aK (aK (aK (aK (aK (aK (aK (aK (aK (aK (aK (aK (aK (aK (aK (aK (aK aN))))))))))))))))))))))))))))))))))) (Cf := (fun nn => [.box b1069 25 [sl p87 nn c88, sl p89 ((x74.Maps.getD 3 zm_api_Map).Nodes).length c90], .box b931 25 [sl p67 (y989).length c68, sl p69 (y1053).length c70, sl p87 nn c88, sl p89 ((x74.Maps.getD 3 zm_api_Map).Nodes).length c90], .box b91 56 [si x74.Pool, si x74.Nodes, eb 4 x74.Members, sl p75 (y297).length c76, sl p77 (y361).length c78, sl p79 (y572).length c80, sl p81 (y636).length c82, sl p83 (y847).length c84, sl p85 (y911).length c86, sl p87 nn c88, sl p89 ((x74.Maps.getD 3 zm_api_Map).Nodes).length c90, ei 21 x74.Modes], .box b72 56 [si x54.1.Pool, si x54.1.Nodes, eb 4 x54.1.Members, sl p55 (y164).length c56, sl p57 (y228).length c58, sl p59 (y439).length c60, sl p61 (y503).length c62, sl p63 (y714).length c64, sl p65 (y778).length c66, sl p67 (y989).length c68, sl p69 (y1053).length c70, ei 21 x54.1.Modes], .box b52 60 [si x50.Pool, si x50.Nodes, eb 4 x50.Members, (8, cs51), ei 21 x50.Modes], .box b25 56 [si a1.Pool, si a1.Nodes, eb 4 a1.Members, sl p8 ((a1.Maps.getD 0 zm_api_Map).Cuts).length c9, sl p10 ((a1.Maps.getD 0 zm_api_Map).Nodes).length c11, sl p12 ((a1.Maps.getD 1 zm_api_Map).Cuts).length c13, sl p14 ((a1.Maps.getD 1 zm_api_Map).Nodes).length c15, sl p16 ((a1.Maps.getD 2 zm_api_Map).Cuts).length c17, sl p18 ((a1.Maps.getD 2 zm_api_Map).Nodes).length c19, sl p20 ((a1.Maps.getD 3 zm_api_Map).Cuts).length c21, sl p22 ((a1.Maps.getD 3 zm_api_Map).Nodes).length c23, ei 21 a1.Modes], .tok p87 9 1 nn c88, .tok p69 3 1 (y1053).length c70, .tok p67 9 1 (y989).length c68, .tok p85 3 1 (y911).length c86, .tok p83 9 1 (y847).length c84, .tok p65 3 1 (y778).length c66, .tok p63 9 1 (y714).length c64, .tok p81 3 1 (y636).length c82, .tok p79 9 1 (y572).length c80, .tok p61 3 1 (y503).length c62, .tok p59 9 1 (y439).length c60, .tok p77 3 1 (y361).length c78, .tok p75 9 1 (y297).length c76, .tok p57 3 1 (y228).length c58, .tok p55 9 1 (y164).length c56, .tok p89 3 1 ((x74.Maps.getD 3 zm_api_Map).Nodes).length c90])) (Lf := (fun nn => [(2, pt b25 0), (5, pt b52 0), (6, pt b72 0), (8, pt b91 0), (11, pt b1069 0), (33, vi 3), (44, .slice (some ⟨b931, 0, none⟩) 2 2), (45, vi 2), (46, vi 1), (52, vi (((x74.Maps.getD 3 zm_api_Map).Cuts).length : Int)), (53, vi y1123), (56, pt b1069 0), (57, .slice p87 nn c88), (58, vi y1123), (59, pt b1069 0), (60, .slice p87 nn c88), (61, vi y1123), (62, .pointer (some ⟨b1129, (f1130 + Int.toNat y1123 * 1), none⟩)), (63, .string (x1128)), (64, .string (x1131)), (65, .pointer (some ⟨b1133, (f1134 + Int.toNat y1123 * 1), none⟩))])) [2, 5, 6, 8, 11, 33, 44, 45, 46, 52, 53, 56, 57, 58, 59, 60, 61, 62, 63, 64, 65] rfl (by kernel_rfl) fun a w hF hS => ?_
 refine ⟨notE, ?_⟩
 refine and_ ?_
 refine hK1126 _ _ ?_
 refine wpIn_region_lit ?_
 refine wp 2 [2, 5, 6, 8, 11, 33, 44, 45, 46, 52, 53] hF fun a hF => ?_
 refine wpListIn_nil ?_
 exact ⟨fuel15, Nat.lt_succ_self _, _, (List.set y1122 (Int.toNat y1123) x1131), IntKind.i64.wrap (y1123 + 1), hF.kp [2, 5, 6, 8, 11, 33, 44, 45, 46, 52, 53], hS.sp (rg 22) [0, 15, 16, 17, 18, 19, 20, 21, 22, 23, 24, 25, 26, 27, 28, 29, 30, 31, 32, 33, 2, 3, 4, 5, 6, 7, 8, 9, 10, 11, 12, 13, 14, 1, 34, 35, 36, 37, 38, 39, 40, 41, 42, 43, 44, 45, 46, 47, 48, 49], H⟩
 refine cond_f hF (by kernel_rfl) hb ?_
 refine wpIn_exit ?_
 refine hK1070 _ _ ?_
 refine wpIn_seq_k fun K1135 hK1135 => ?_
 refine wpIn_region_lit ?_
 refine wp 1 [2, 5, 6, 8, 11, 33, 44, 45, 46, 67] hF fun a hF => ?_
 refine wc (wld hF hS 0 1 0 fun a hF => ?_)
 refine wp 2 [2, 5, 6, 8, 11, 33, 44, 45, 46, 69, 70] hF fun a hF => ?_
 refine wpListIn_nil ?_
 refine hK1135 _ _ ?_
 refine wpIn_block ?_
 refine loop_fuel (n := N) (fun n a w => ∃ (κ : Gh) (y1186 : List Int) (y1187 : Int), Fr (89) [] [(2, pt b25 0), (5, pt b52 0), (6, pt b72 0), (8, pt b91 0), (11, pt b1069 0), (33, vi 3), (44, .slice (some ⟨b931, 0, none⟩) 2 2), (45, vi 2), (46, vi 1), (69, vi (((x74.Maps.getD 3 zm_api_Map).Nodes).length : Int)), (70, vi y1187)] a ∧ SS [] κ0 w0 κ w [.box b1069 25 [sl p87 (y1122).length c88, sl p89 (y1186).length c90], .box b931 25 [sl p67 (y989).length c68, sl p69 (y1053).length c70, sl p87 (y1122).length c88, sl p89 (y1186).length c90], .box b91 56 [si x74.Pool, si x74.Nodes, eb 4 x74.Members, sl p75 (y297).length c76, sl p77 (y361).length c78, sl p79 (y572).length c80, sl p81 (y636).length c82, sl p83 (y847).length c84, sl p85 (y911).length c86, sl p87 (y1122).length c88, sl p89 (y1186).length c90, ei 21 x74.Modes], .box b72 56 [si x54.1.Pool, si x54.1.Nodes, eb 4 x54.1.Members, sl p55 (y164).length c56, sl p57 (y228).length c58, sl p59 (y439).length c60, sl p61 (y503).length c62, sl p63 (y714).length c64, sl p65 (y778).length c66, sl p67 (y989).length c68, sl p69 (y1053).length c70, ei 21 x54.1.Modes], .box b52 60 [si x50.Pool, si x50.Nodes, eb 4 x50.Members, (8, cs51), ei 21 x50.Modes], .box b25 56 [si a1.Pool, si a1.Nodes, eb 4 a1.Members, sl p8 ((a1.Maps.getD 0 zm_api_Map).Cuts).length c9, sl p10 ((a1.Maps.getD 0 zm_api_Map).Nodes).length c11, sl p12 ((a1.Maps.getD 1 zm_api_Map).Cuts).length c13, sl p14 ((a1.Maps.getD 1 zm_api_Map).Nodes).length c15, sl p16 ((a1.Maps.getD 2 zm_api_Map).Cuts).length c17, sl p18 ((a1.Maps.getD 2 zm_api_Map).Nodes).length c19, sl p20 ((a1.Maps.getD 3 zm_api_Map).Cuts).length c21, sl p22 ((a1.Maps.getD 3 zm_api_Map).Nodes).length c23, ei 21 a1.Modes], .tok p89 3 1 (y1186).length c90, .tok p87 9 1 (y1122).length c88, .tok p69 3 1 (y1053).length c70, .tok p67 9 1 (y989).length c68, .tok p85 3 1 (y911).length c86, .tok p83 9 1 (y847).length c84, .tok p65 3 1 (y778).length c66, .tok p63 9 1 (y714).length c64, .tok p81 3 1 (y636).length c82, .tok p79 9 1 (y572).length c80, .tok p61 3 1 (y503).length c62, .tok p59 9 1 (y439).length c60, .tok p77 3 1 (y361).length c78, .tok p75 9 1 (y297).length c76, .tok p57 3 1 (y228).length c58, .tok p55 9 1 (y164).length c56] [Ro.mp fStr.ty p87 c88 y1122, Ro.mp (fInt .i64).ty p89 c90 y1186, Ro.mp fStr.ty p67 c68 y989, Ro.mp (fInt .i64).ty p69 c70 y1053, ml x74.Members 4, Ro.mp fStr.ty p75 c76 y297, Ro.mp (fInt .i64).ty p77 c78 y361, Ro.mp fStr.ty p79 c80 y572, Ro.mp (fInt .i64).ty p81 c82 y636, Ro.mp fStr.ty p83 c84 y847, Ro.mp (fInt .i64).ty p85 c86 y911, ml x74.Modes 21, ml x54.1.Members 4, Ro.mp fStr.ty p55 c56 y164, Ro.mp (fInt .i64).ty p57 c58 y228, Ro.mp fStr.ty p59 c60 y439, Ro.mp (fInt .i64).ty p61 c62 y503, Ro.mp fStr.ty p63 c64 y714, Ro.mp (fInt .i64).ty p65 c66 y778, ml x54.1.Modes 21, ml x50.Members 4, Arr.mp t_api_Map cs51 4 x50.Maps, ml x50.Modes 21, ml a1.Members 4, Ro.mp fStr.ty p8 c9 ((a1.Maps.getD 0 zm_api_Map).Cuts), Ro.mp (fInt .i64).ty p10 c11 ((a1.Maps.getD 0 zm_api_Map).Nodes), Ro.mp fStr.ty p12 c13 ((a1.Maps.getD 1 zm_api_Map).Cuts), Ro.mp (fInt .i64).ty p14 c15 ((a1.Maps.getD 1 zm_api_Map).Nodes), Ro.mp fStr.ty p16 c17 ((a1.Maps.getD 2 zm_api_Map).Cuts), Ro.mp (fInt .i64).ty p18 c19 ((a1.Maps.getD 2 zm_api_Map).Nodes), Ro.mp fStr.ty p20 c21 ((a1.Maps.getD 3 zm_api_Map).Cuts), Ro.mp (fInt .i64).ty p22 c23 ((a1.Maps.getD 3 zm_api_Map).Nodes), ml a1.Modes 21, MP.since κ71 w71, MP.old p87 w71, MP.old p89 w71, MP.old p67 w71, MP.old p69 w71, MP.old p75 w71, MP.old p77 w71, MP.old p79 w71, MP.old p81 w71, MP.old p83 w71, MP.old p85 w71, MP.old p55 w71, MP.old p57 w71, MP.old p59 w71, MP.old p61 w71, MP.old p63 w71, MP.old p65 w71] ∧ M.law18_ConfigOwns_x_L16 N n a1 x50 x54 x74 y164 y228 y297 y361 y439 y503 y572 y636 y714 y778 y847 y911 y989 y1053 y1122 y1186 y1187 = some r) ?_ ?_
 exact ⟨_, (x74.Maps.getD 3 zm_api_Map).Nodes, 0, hF.kp [2, 5, 6, 8, 11, 33, 44, 45, 46, 69, 70], hS.sp [0, 1, 2, 3, 4, 5, 21, 6, 7, 8, 9, 10, 11, 12, 13, 14, 15, 16, 17, 18, 19, 20] (rg 50), H⟩
 rintro n a w ⟨κ, y1186, y1187, hF, hS, H⟩
 rcases n with _ | fuel16
 simp [M.law18_ConfigOwns_x_L16] at H
 simp only [M.law18_ConfigOwns_x_L16] at H
 refine wpIn_seq_k fun K1188 hK1188 => ?_
 refine wpIn_region_lit ?_
 refine wp 1 [2, 5, 6, 8, 11, 33, 44, 45, 46, 69, 70, 71] hF fun a hF => ?_
 refine wpListIn_nil ?_
 refine hK1188 _ _ ?_
 refine wpIn_seq_k fun K1189 hK1189 => ?_
 refine bif_split H (fun hb H => ?_) (fun hb H => ?_)
 refine cond_t hF (by kernel_rfl) hb ?_
 refine wpIn_skip ?_
 refine hK1189 _ _ ?_
 refine wpIn_seq_k fun K1190 hK1190 => ?_
 refine wpIn_block ?_
 refine wpIn_seq_k fun K1191 hK1191 => ?_
 refine wpIn_region_lit ?_
 refine wp 2 [2, 5, 6, 8, 11, 13, 33, 44, 45, 46, 69, 70] hF fun a hF => ?_
 refine wpListIn_nil ?_
 refine hK1191 _ _ ?_
 refine wpIn_region_lit ?_
 refine wp 1 [2, 5, 6, 8, 11, 13, 33, 44, 45, 46, 69, 70, 73] hF fun a hF => ?_
 refine wc (wld hF hS 0 1 0 fun a hF => ?_)
 refine wl_pure (L' := [(2, pt b25 0), (5, pt b52 0), (6, pt b72 0), (8, pt b91 0), (11, pt b1069 0), (33, vi 3), (44, .slice (some ⟨b931, 0, none⟩) 2 2), (45, vi 2), (46, vi 1), (69, vi (((x74.Maps.getD 3 zm_api_Map).Nodes).length : Int)), (70, vi y1187), (74, .slice p89 (y1186).length c90), (75, vi y1187)]) 1 [2, 5, 6, 8, 11, 33, 44, 45, 46, 69, 70, 74, 75] hF (by kernel_rfl) fun a hF => ?_
 refine bind_split H (fun x1192 hx1192 H => ?_)
 refine wc (wo_index hF hS (by kernel_rfl) 1 (E := 3) (sz := 1) rfl rfl rfl (by kernel_rfl) rfl hx1192 (by kernel_rfl) (by kernel_rfl) fun b1193 f1194 a hpx1192 hF => ?_)
 refine wc (wo_loadRo (t := (fInt .i64)) hF hS (by kernel_rfl) 1 0 (v := vi x1192) rfl rfl hpx1192 rfl hx1192 (by kernel_rfl) (by kernel_rfl) (by kernel_rfl) fun a hF => ?_)
 refine wl_pure (L' := [(2, pt b25 0), (5, pt b52 0), (6, pt b72 0), (8, pt b91 0), (11, pt b1069 0), (33, vi 3), (44, .slice (some ⟨b931, 0, none⟩) 2 2), (45, vi 2), (46, vi 1), (69, vi (((x74.Maps.getD 3 zm_api_Map).Nodes).length : Int)), (70, vi y1187), (74, .slice p89 (y1186).length c90), (75, vi y1187), (78, vi (IntKind.i64.wrap (x1192 + 1)))]) 1 [2, 5, 6, 8, 11, 33, 44, 45, 46, 69, 70, 74, 75, 78] hF (by kernel_rfl) fun a hF => ?_
 refine bind_split H (fun x1195 hx1195 H => ?_)
 refine wc (wo_index hF hS (by kernel_rfl) 1 (E := 3) (sz := 1) rfl rfl rfl (by kernel_rfl) rfl hx1195 (by kernel_rfl) (by kernel_rfl) fun b1196 f1197 a hpx1195 hF => ?_)
 refine wc (wo_storeTokS (t := (fInt .i64)) (y := x1195) (z := IntKind.i64.wrap (x1192 + 1)) (v := vi (IntKind.i64.wrap (x1192 + 1))) (vs := (flat [si (IntKind.i64.wrap (x1192 + 1))])) (sz := 1) hF hS hfr hf71 hw71 hR71 (by kernel_rfl) 6 1 33 35 0 rfl rfl (by kernel_rfl) rfl rfl rfl hpx1195 hx1195 rfl (by kernel_rfl) (by kernel_rfl) rfl (show segGood [si (IntKind.i64.wrap (x1192 + 1))] from (sgN 1 sgNil)).2 rfl (by decide) rfl rfl (nfC nfB (nfC nfB (nfC nfB (nfC nfB (nfC nfB (nfC nfB (nfC nfT (nfC nfT (nfC nfT (nfC nfT (nfC nfT (nfC nfT (nfC nfT (nfC nfT (nfC nfT (nfC nfT (nfC nfT (nfC nfT (nfC nfT (nfC nfT (nfC nfT (nfC nfT nfN)))))))))))))))))))))) [2, 3, 4, 26, 23, 24, 21, 22, 19, 20, 17, 18, 27] [0, 2, 3, 4, 5, 6, 7, 8, 9, 10, 11, 12, 13, 14, 15, 16, 17, 18, 19, 34, 35, 36, 37, 38, 39, 40, 41, 42, 43, 44, 45, 46, 47, 48, 49] (Ra := [ml x50.Members 4, Arr.mp t_api_Map cs51 4 x50.Maps, ml x50.Modes 21, ml a1.Members 4, Ro.mp fStr.ty p8 c9 ((a1.Maps.getD 0 zm_api_Map).Cuts), Ro.mp (fInt .i64).ty p10 c11 ((a1.Maps.getD 0 zm_api_Map).Nodes), Ro.mp fStr.ty p12 c13 ((a1.Maps.getD 1 zm_api_Map).Cuts), Ro.mp (fInt .i64).ty p14 c15 ((a1.Maps.getD 1 zm_api_Map).Nodes), Ro.mp fStr.ty p16 c17 ((a1.Maps.getD 2 zm_api_Map).Cuts), Ro.mp (fInt .i64).ty p18 c19 ((a1.Maps.getD 2 zm_api_Map).Nodes), Ro.mp fStr.ty p20 c21 ((a1.Maps.getD 3 zm_api_Map).Cuts), Ro.mp (fInt .i64).ty p22 c23 ((a1.Maps.getD 3 zm_api_Map).Nodes), ml a1.Modes 21]) (Rb := [Ro.mp fStr.ty p87 c88 y1122, Ro.mp fStr.ty p67 c68 y989, Ro.mp (fInt .i64).ty p69 c70 y1053, ml x74.Members 4, Ro.mp fStr.ty p75 c76 y297, Ro.mp (fInt .i64).ty p77 c78 y361, Ro.mp fStr.ty p79 c80 y572, Ro.mp (fInt .i64).ty p81 c82 y636, Ro.mp fStr.ty p83 c84 y847, Ro.mp (fInt .i64).ty p85 c86 y911, ml x74.Modes 21, ml x54.1.Members 4, Ro.mp fStr.ty p55 c56 y164, Ro.mp (fInt .i64).ty p57 c58 y228, Ro.mp fStr.ty p59 c60 y439, Ro.mp (fInt .i64).ty p61 c62 y503, Ro.mp fStr.ty p63 c64 y714, Ro.mp (fInt .i64).ty p65 c66 y778, ml x54.1.Modes 21, MP.old p87 w71, MP.old p89 w71, MP.old p67 w71, MP.old p69 w71, MP.old p75 w71, MP.old p77 w71, MP.old p79 w71, MP.old p81 w71, MP.old p83 w71, MP.old p85 w71, MP.old p55 w71, MP.old p57 w71, MP.old p59 w71, MP.old p61 w71, MP.old p63 w71, MP.old p65 w71]) rfl rfl (aC (apart_ro (hS.tokApart 6 7 hpx1195 rfl rfl (by decide))) (aC (apart_ro (hS.tokApart 6 9 hpx1195 rfl rfl (by decide))) (aC (apart_ro (hS.tokApart 6 8 hpx1195 rfl rfl (by decide))) (aK (aC (apart_ro (hS.tokApart 6 19 hpx1195 rfl rfl (by decide))) (aC (apart_ro (hS.tokApart 6 18 hpx1195 rfl rfl (by decide))) (aC (apart_ro (hS.tokApart 6 15 hpx1195 rfl rfl (by decide))) (aC (apart_ro (hS.tokApart 6 14 hpx1195 rfl rfl (by decide))) (aC (apart_ro (hS.tokApart 6 11 hpx1195 rfl rfl (by decide))) (aC (apart_ro (hS.tokApart 6 10 hpx1195 rfl rfl (by decide))) (aK (aK (aC (apart_ro (hS.tokApart 6 21 hpx1195 rfl rfl (by decide))) (aC (apart_ro (hS.tokApart 6 20 hpx1195 rfl rfl (by decide))) (aC (apart_ro (hS.tokApart 6 17 hpx1195 rfl rfl (by decide))) (aC (apart_ro (hS.tokApart 6 16 hpx1195 rfl rfl (by decide))) (aC (apart_ro (hS.tokApart 6 13 hpx1195 rfl rfl (by decide))) (aC (apart_ro (hS.tokApart 6 12 hpx1195 rfl rfl (by decide))) (aK (aK (aK (aK (aK (aK (aK (aK (aK (aK (aK (aK (aK (aK (aK (aK (aK aN))))))))))))))))))))))))))))))))))) (Cf := (fun nn => [.box b1069 25 [sl p87 (y1122).length c88, sl p89 nn c90], .box b931 25 [sl p67 (y989).length c68, sl p69 (y1053).length c70, sl p87 (y1122).length c88, sl p89 nn c90], .box b91 56 [si x74.Pool, si x74.Nodes, eb 4 x74.Members, sl p75 (y297).length c76, sl p77 (y361).length c78, sl p79 (y572).length c80, sl p81 (y636).length c82, sl p83 (y847).length c84, sl p85 (y911).length c86, sl p87 (y1122).length c88, sl p89 nn c90, ei 21 x74.Modes], .box b72 56 [si x54.1.Pool, si x54.1.Nodes, eb 4 x54.1.Members, sl p55 (y164).length c56, sl p57 (y228).length c58, sl p59 (y439).length c60, sl p61 (y503).length c62, sl p63 (y714).length c64, sl p65 (y778).length c66, sl p67 (y989).length c68, sl p69 (y1053).length c70, ei 21 x54.1.Modes], .box b52 60 [si x50.Pool, si x50.Nodes, eb 4 x50.Members, (8, cs51), ei 21 x50.Modes], .box b25 56 [si a1.Pool, si a1.Nodes, eb 4 a1.Members, sl p8 ((a1.Maps.getD 0 zm_api_Map).Cuts).length c9, sl p10 ((a1.Maps.getD 0 zm_api_Map).Nodes).length c11, sl p12 ((a1.Maps.getD 1 zm_api_Map).Cuts).length c13, sl p14 ((a1.Maps.getD 1 zm_api_Map).Nodes).length c15, sl p16 ((a1.Maps.getD 2 zm_api_Map).Cuts).length c17, sl p18 ((a1.Maps.getD 2 zm_api_Map).Nodes).length c19, sl p20 ((a1.Maps.getD 3 zm_api_Map).Cuts).length c21, sl p22 ((a1.Maps.getD 3 zm_api_Map).Nodes).length c23, ei 21 a1.Modes], .tok p89 3 1 nn c90, .tok p87 9 1 (y1122).length c88, .tok p69 3 1 (y1053).length c70, .tok p67 9 1 (y989).length c68, .tok p85 3 1 (y911).length c86, .tok p83 9 1 (y847).length c84, .tok p65 3 1 (y778).length c66, .tok p63 9 1 (y714).length c64, .tok p81 3 1 (y636).length c82, .tok p79 9 1 (y572).length c80, .tok p61 3 1 (y503).length c62, .tok p59 9 1 (y439).length c60, .tok p77 3 1 (y361).length c78, .tok p75 9 1 (y297).length c76, .tok p57 3 1 (y228).length c58, .tok p55 9 1 (y164).length c56])) (Lf := (fun nn => [(2, pt b25 0), (5, pt b52 0), (6, pt b72 0), (8, pt b91 0), (11, pt b1069 0), (33, vi 3), (44, .slice (some ⟨b931, 0, none⟩) 2 2), (45, vi 2), (46, vi 1), (69, vi (((x74.Maps.getD 3 zm_api_Map).Nodes).length : Int)), (70, vi y1187), (74, .slice p89 nn c90), (75, vi y1187), (78, vi (IntKind.i64.wrap (x1192 + 1))), (79, .pointer (some ⟨b1196, (f1197 + Int.toNat y1187 * 1), none⟩))])) [2, 5, 6, 8, 11, 33, 44, 45, 46, 69, 70, 74, 75, 78, 79] rfl (by kernel_rfl) fun a w hF hS => ?_)
 refine wpListIn_nil ?_
 refine hK1190 _ _ ?_
 refine wpIn_region_lit ?_
 refine wp 2 [2, 5, 6, 8, 11, 33, 44, 45, 46, 69, 70] hF fun a hF => ?_
 refine wpListIn_nil ?_
 exact ⟨fuel16, Nat.lt_succ_self _, _, (List.set y1186 (Int.toNat y1187) (IntKind.i64.wrap (x1192 + 1))), IntKind.i64.wrap (y1187 + 1), hF.kp [2, 5, 6, 8, 11, 33, 44, 45, 46, 69, 70], hS.sp (rg 22) [15, 0, 16, 17, 18, 19, 20, 21, 22, 23, 24, 25, 26, 27, 28, 29, 30, 31, 32, 33, 2, 3, 4, 5, 6, 7, 8, 9, 10, 11, 12, 13, 14, 1, 34, 35, 36, 37, 38, 39, 40, 41, 42, 43, 44, 45, 46, 47, 48, 49], H⟩
 refine cond_f hF (by kernel_rfl) hb ?_
 refine wpIn_exit ?_
 refine hK1067 _ _ ?_
 refine wpIn_region_lit ?_
 refine wl_pure (L' := [(2, pt b25 0), (5, pt b52 0), (6, pt b72 0), (8, pt b91 0), (33, vi 3), (44, .slice (some ⟨b931, 0, none⟩) 2 2), (45, vi 2), (46, vi 2)]) 2 [2, 5, 6, 8, 33, 44, 45, 46] hF (by kernel_rfl) fun a hF => ?_
 refine wpListIn_nil ?_
 refine round_go ?_
 refine wpIn_seq_k fun K1198 hK1198 => ?_
 refine wpIn_region_lit ?_
 refine wp 1 [2, 5, 6, 8, 33, 44, 45, 46, 47] hF fun a hF => ?_
 refine wpListIn_nil ?_
 refine hK1198 _ _ ?_
 refine wpIn_seq_k fun K1199 hK1199 => ?_
 refine cond_f hF (by kernel_rfl) rfl ?_
 refine wpIn_exit ?_
 refine hK927 _ _ ?_
 refine wpIn_region_lit ?_
 refine wl_pure (L' := [(2, pt b25 0), (5, pt b52 0), (6, pt b72 0), (8, pt b91 0), (33, vi 4)]) 2 [2, 5, 6, 8, 33] hF (by kernel_rfl) fun a hF => ?_
 refine wpListIn_nil ?_
 refine round_go ?_
 refine wpIn_seq_k fun K1200 hK1200 => ?_
 refine wpIn_region_lit ?_
 refine wp 1 [2, 5, 6, 8, 33, 34] hF fun a hF => ?_
 refine wpListIn_nil ?_
 refine hK1200 _ _ ?_
 refine wpIn_seq_k fun K1201 hK1201 => ?_
 refine cond_f hF (by kernel_rfl) rfl ?_
 refine wpIn_exit ?_
 refine hK98 _ _ ?_
 refine wpIn_seq_k fun K1202 hK1202 => ?_
 refine wpIn_region_lit ?_
 refine bind_split H (fun v1204 hv1204 H => ?_)
 refine wl_join (fun a w => ∃ κ : Gh, Fr (89) [] [(4, vb v1204)] a ∧ SS [] κ0 w0 κ w [] [] ∧ True) ?_ ?_
 refine bind_split hv1204 (fun x1205 hx1205 hv1204 => ?_)
 refine wc (wo_callP hF hS (by kernel_rfl) (by kernel_rfl) (C_law18_awake N hS.fresh   ((hS.pick [] (by kernel_rfl)).ro) hx1205) ?_)
 rintro _ κ w a ⟨rfl, hR, hN⟩ hF hS hO
 refine wp 1 [2, 5, 84] hF fun a hF => ?_
 refine bif_split hv1204 (fun hb hv1204 => ?_) (fun hb hv1204 => ?_)
 have hF := hF.boolv 84 (by kernel_rfl) hb
 refine wcg hF (wls hF hS 5 0 12 fun a hF => ?_)
 refine wcg hF (wls hF hS 4 0 5 fun a hF => ?_)
 have hS := hS.add (m := Arr.mp t_api_Map (flat [sl p8 ((a1.Maps.getD 0 zm_api_Map).Cuts).length c9, sl p10 ((a1.Maps.getD 0 zm_api_Map).Nodes).length c11, sl p12 ((a1.Maps.getD 1 zm_api_Map).Cuts).length c13, sl p14 ((a1.Maps.getD 1 zm_api_Map).Nodes).length c15, sl p16 ((a1.Maps.getD 2 zm_api_Map).Cuts).length c17, sl p18 ((a1.Maps.getD 2 zm_api_Map).Nodes).length c19, sl p20 ((a1.Maps.getD 3 zm_api_Map).Cuts).length c21, sl p22 ((a1.Maps.getD 3 zm_api_Map).Nodes).length c23]) 4 [(T_api_Map.mk ((a1.Maps.getD 0 zm_api_Map).Cuts) ((a1.Maps.getD 0 zm_api_Map).Nodes)), (T_api_Map.mk ((a1.Maps.getD 1 zm_api_Map).Cuts) ((a1.Maps.getD 1 zm_api_Map).Nodes)), (T_api_Map.mk ((a1.Maps.getD 2 zm_api_Map).Cuts) ((a1.Maps.getD 2 zm_api_Map).Nodes)), (T_api_Map.mk ((a1.Maps.getD 3 zm_api_Map).Cuts) ((a1.Maps.getD 3 zm_api_Map).Nodes))]) (ArrP.of4 (t := t_api_Map) (show (t_api_Map).rep _ _ (flat [sl p8 ((a1.Maps.getD 0 zm_api_Map).Cuts).length c9, sl p10 ((a1.Maps.getD 0 zm_api_Map).Nodes).length c11]) (T_api_Map.mk ((a1.Maps.getD 0 zm_api_Map).Cuts) ((a1.Maps.getD 0 zm_api_Map).Nodes)) from ⟨(p8, c9, p10, c11), rfl, (hS.pick [24, 25] (by kernel_rfl)).ro⟩) (show (t_api_Map).rep _ _ (flat [sl p12 ((a1.Maps.getD 1 zm_api_Map).Cuts).length c13, sl p14 ((a1.Maps.getD 1 zm_api_Map).Nodes).length c15]) (T_api_Map.mk ((a1.Maps.getD 1 zm_api_Map).Cuts) ((a1.Maps.getD 1 zm_api_Map).Nodes)) from ⟨(p12, c13, p14, c15), rfl, (hS.pick [26, 27] (by kernel_rfl)).ro⟩) (show (t_api_Map).rep _ _ (flat [sl p16 ((a1.Maps.getD 2 zm_api_Map).Cuts).length c17, sl p18 ((a1.Maps.getD 2 zm_api_Map).Nodes).length c19]) (T_api_Map.mk ((a1.Maps.getD 2 zm_api_Map).Cuts) ((a1.Maps.getD 2 zm_api_Map).Nodes)) from ⟨(p16, c17, p18, c19), rfl, (hS.pick [28, 29] (by kernel_rfl)).ro⟩) (show (t_api_Map).rep _ _ (flat [sl p20 ((a1.Maps.getD 3 zm_api_Map).Cuts).length c21, sl p22 ((a1.Maps.getD 3 zm_api_Map).Nodes).length c23]) (T_api_Map.mk ((a1.Maps.getD 3 zm_api_Map).Cuts) ((a1.Maps.getD 3 zm_api_Map).Nodes)) from ⟨(p20, c21, p22, c23), rfl, (hS.pick [30, 31] (by kernel_rfl)).ro⟩) (show (flat [sl p8 ((a1.Maps.getD 0 zm_api_Map).Cuts).length c9, sl p10 ((a1.Maps.getD 0 zm_api_Map).Nodes).length c11]) ++ ((flat [sl p12 ((a1.Maps.getD 1 zm_api_Map).Cuts).length c13, sl p14 ((a1.Maps.getD 1 zm_api_Map).Nodes).length c15]) ++ ((flat [sl p16 ((a1.Maps.getD 2 zm_api_Map).Cuts).length c17, sl p18 ((a1.Maps.getD 2 zm_api_Map).Nodes).length c19]) ++ (flat [sl p20 ((a1.Maps.getD 3 zm_api_Map).Cuts).length c21, sl p22 ((a1.Maps.getD 3 zm_api_Map).Nodes).length c23]))) = _ from by kernel_rfl))
 refine bind_split hv1204 (fun x1206 hx1206 hv1204 => ?_)
 refine wcg hF (wo_callP hF hS (by kernel_rfl) (by kernel_rfl) (C_law18_Same N hS.fresh (T_config_State.mk a1.Pool a1.Nodes a1.Members [(T_api_Map.mk ((a1.Maps.getD 0 zm_api_Map).Cuts) ((a1.Maps.getD 0 zm_api_Map).Nodes)), (T_api_Map.mk ((a1.Maps.getD 1 zm_api_Map).Cuts) ((a1.Maps.getD 1 zm_api_Map).Nodes)), (T_api_Map.mk ((a1.Maps.getD 2 zm_api_Map).Cuts) ((a1.Maps.getD 2 zm_api_Map).Nodes)), (T_api_Map.mk ((a1.Maps.getD 3 zm_api_Map).Cuts) ((a1.Maps.getD 3 zm_api_Map).Nodes))] a1.Modes) (T_ref18_State.mk x50.Pool x50.Nodes x50.Members x50.Maps x50.Modes) (flat [sl p8 ((a1.Maps.getD 0 zm_api_Map).Cuts).length c9, sl p10 ((a1.Maps.getD 0 zm_api_Map).Nodes).length c11, sl p12 ((a1.Maps.getD 1 zm_api_Map).Cuts).length c13, sl p14 ((a1.Maps.getD 1 zm_api_Map).Nodes).length c15, sl p16 ((a1.Maps.getD 2 zm_api_Map).Cuts).length c17, sl p18 ((a1.Maps.getD 2 zm_api_Map).Nodes).length c19, sl p20 ((a1.Maps.getD 3 zm_api_Map).Cuts).length c21, sl p22 ((a1.Maps.getD 3 zm_api_Map).Nodes).length c23]) cs51 ((hS.pick [24, 0, 33, 21, 22, 23] (by kernel_rfl)).ro) hx1206) ?_)
 rintro _ κ w a ⟨rfl, hR, hN⟩ hF hS hO
 refine wp 2 [4] hF fun a hF => ?_
 refine wpListIn_nil ?_
 cases hv1204
 exact ⟨_, hF.kp [4], hS.sp [] [], trivial⟩
 have hF := hF.boolv 84 (by kernel_rfl) hb
 refine wp 5 [4] hF fun a hF => ?_
 refine wpListIn_nil ?_
 cases hv1204
 exact ⟨_, hF.kp [4], hS.sp [] [], trivial⟩
 rintro a w ⟨κ, hF, hS, -⟩
 refine hK1202 _ _ ?_
 refine wpIn_ret ?_
 cases H
 exact (ret_done hF hS (res1 Try.results7 (rvt hF)) ⟨rfl, (hS.pick [] (by kernel_rfl)).ro, hS.newC [] (by decide) (by kernel_rfl)⟩)
end Go.Cf
