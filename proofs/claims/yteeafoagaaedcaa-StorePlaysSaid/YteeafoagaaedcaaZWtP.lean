/- The walks: each function returns what its model says. Printed by a program of ours. -/
import Derived.Test.YteeafoagaaedcaaZMtP
import Derived.Test.YteeafoagaaedcaaZWs3
import Derived.Test.YteeafoagaaedcaaZWt1
import Derived.Test.YteeafoagaaedcaaZWt2
import Derived.Test.YteeafoagaaedcaaZWt3
import Derived.Test.YteeafoagaaedcaaZWt4
namespace Go.Cf
open Go Go.Proofs
set_option linter.unusedVariables false
set_option maxRecDepth 20000 in
set_option maxHeartbeats 8000000 in
theorem C_law10_StorePlays (N : Nat) {κ0 : Gh} {w0 : World} (hfr : Fresh κ0 w0) (a1 : (List T_law10_Op)) (p2 : Option Addr) (c3 : Nat) (hR : ∀ m ∈ ([Ro.mp t_law10_Op p2 c3 a1] : List MP), m.p κ0 w0) {r : (Bool)} (H : M.law10_StorePlays N a1 = some r) :
    Calls Try.prog 12 #[.slice p2 (a1).length c3] w0 (Post [] κ0 w0 fun v κ w => v = vb r ∧ (∀ m ∈ ([] : List MP), m.p κ w) ∧ NewC w0 κ w []) := by
 have hS := SS.start hfr hR
 refine enter (N := (172)) (L := [(0, .slice p2 (a1).length c3)]) Try.func12 rfl Try.ntmps12 (show 1 ≤ (172) by decide) rfl fun a hF => ?_
 unfold M.law10_StorePlays at H
 refine wpIn_seq_k fun K4 hK4 => ?_
 refine wpIn_region_lit ?_
 refine wp 1 [0] hF fun a hF => ?_
 refine wpListIn_nil ?_
 refine hK4 _ _ ?_
 refine wpIn_seq_k fun K5 hK5 => ?_
 refine wpIn_region_lit ?_
 refine bind_split H (fun x6 hx6 H => ?_)
 refine wc (wcS 0 [] hF hS (fun hS => C_store_New N    ⟨rfl, hS.pick [] (by kernel_rfl)⟩ hx6) ?_)
 rintro _ κ w a ⟨b7, p8, m9, c10, rfl, h2⟩ hF hB
 have hS := hB _ _ h2
 refine wp 1 [0, 15, 16] hF fun a hF => ?_
 refine wc (wbx hF hS [sl none 0 0, su 0] (sgN 2 sgNil) fun b11 a w hF hS => ?_)
 refine wp 2 [0, 3, 4] hF fun a hF => ?_
 refine wpListIn_nil ?_
 refine hK5 _ _ ?_
 refine wpIn_seq_k fun K12 hK12 => ?_
 refine wpIn_seq_k fun K13 hK13 => ?_
 refine wpIn_region_lit ?_
 refine wp 2 [0, 3, 4, 19] hF fun a hF => ?_
 refine wpListIn_nil ?_
 refine hK13 _ _ ?_
 refine cond_f hF (by kernel_rfl) rfl ?_
 refine wpIn_skip ?_
 refine hK12 _ _ ?_
 refine wpIn_seq_k fun K14 hK14 => ?_
 refine wpIn_seq_k fun K15 hK15 => ?_
 refine wpIn_region_lit ?_
 refine wp 1 [0, 3, 4, 5] hF fun a hF => ?_
 refine wpListIn_nil ?_
 refine hK15 _ _ ?_
 refine wpIn_block ?_
 refine loop_fuel (n := N) (fun n a w => ∃ (κ : Gh) (y66 : List T_ref10_Chain) (p67 : Option Addr) (c68 : Nat) (y69 : Int) (p70 : Option Nat) (m71 : Array MapEntry) (c72 : Nat) (y73 : Mp ByteArray (List T_api_Ver)) (y74 y75 : Int), Fr (172) [] [(0, .slice p2 (a1).length c3), (3, pt b7 0), (4, pt b11 0), (5, vi y75)] a ∧ SS [] κ0 w0 κ w [.box b11 82 [sl p67 (y66).length c68, su y69], .box b7 130 [(1, [.map p70]), su y74], .tok p67 145 2 (y66).length c68, .ext (objX p70 (.map m71 c72))] [Ro.mp t_law10_Op p2 c3 a1, Map.mp kStr false (tSl f_api_Ver.ty) p70 m71 c72 y73, Ro.mp t_ref10_Chain p67 c68 y66] ∧ M.law10_StorePlays_L1 N n a1 y66 y69 y73 y74 y75 = some r) ?_ ?_
 have hS := hS.add (m := Ro.mp t_ref10_Chain none 0 ([] : List T_ref10_Chain)) (Ro.nil t_ref10_Chain _ _)
 have hS := hS.addNil 145 2
 exact ⟨_, ([] : List T_ref10_Chain), none, 0, 0, p8, m9, c10, x6.chains, x6.floor, 0, hF.kp [0, 3, 4, 5], hS.sp [1, 2, 0, 3] [2, 1, 0], H⟩
 rintro n a w ⟨κ, y66, p67, c68, y69, p70, m71, c72, y73, y74, y75, hF, hS, H⟩
 rcases n with _ | fuel1
 simp [M.law10_StorePlays_L1] at H
 simp only [M.law10_StorePlays_L1] at H
 refine wpIn_seq_k fun K76 hK76 => ?_
 refine wpIn_seq_k fun K77 hK77 => ?_
 refine wpIn_region_lit ?_
 refine bind_split H (fun v79 hv79 H => ?_)
 refine wl_join (fun a w => ∃ κ : Gh, Fr (172) [] [(0, .slice p2 (a1).length c3), (3, pt b7 0), (4, pt b11 0), (5, vi y75), (27, vb v79)] a ∧ SS [] κ0 w0 κ w [.box b11 82 [sl p67 (y66).length c68, su y69], .box b7 130 [(1, [.map p70]), su y74], .tok p67 145 2 (y66).length c68, .ext (objX p70 (.map m71 c72))] [Ro.mp t_law10_Op p2 c3 a1, Map.mp kStr false (tSl f_api_Ver.ty) p70 m71 c72 y73, Ro.mp t_ref10_Chain p67 c68 y66] ∧ True) ?_ ?_
 refine wp 5 [0, 3, 4, 5, 24] hF fun a hF => ?_
 refine bif_split hv79 (fun hb hv79 => ?_) (fun hb hv79 => ?_)
 have hF := hF.boolv 24 (by kernel_rfl) hb
 refine wp 3 [0, 3, 4, 5, 27] hF fun a hF => ?_
 refine wpListIn_nil ?_
 cases hv79
 exact ⟨_, hF.kp [0, 3, 4, 5, 27], hS.sp (rg 4) [0, 1, 2], trivial⟩
 have hF := hF.boolv 24 (by kernel_rfl) hb
 refine wp 3 [0, 3, 4, 5, 27] hF fun a hF => ?_
 refine wpListIn_nil ?_
 cases hv79
 exact ⟨_, hF.kp [0, 3, 4, 5, 27], hS.sp (rg 4) [0, 1, 2], trivial⟩
 rintro a w ⟨κ, hF, hS, -⟩
 refine hK77 _ _ ?_
 refine bif_split H (fun hb H => ?_) (fun hb H => ?_)
 refine cond_t hF (by kernel_rfl) hb ?_
 refine wpIn_skip ?_
 refine hK76 _ _ ?_
 refine wpIn_seq_k fun K80 hK80 => ?_
 refine wpIn_block ?_
 refine wpIn_seq_k fun K81 hK81 => ?_
 refine wpIn_region_lit ?_
 refine wl_pure (L' := [(0, .slice p2 (a1).length c3), (3, pt b7 0), (4, pt b11 0), (5, vi y75), (30, .slice p2 (a1).length c3), (31, vi y75)]) 2 [0, 3, 4, 5, 30, 31] hF (by kernel_rfl) fun a hF => ?_
 refine bind_split H (fun x82 hx82 H => ?_)
 refine wc (wo_index hF hS (by kernel_rfl) 0 (E := 84) (sz := 5) rfl rfl rfl (by kernel_rfl) rfl hx82 (by kernel_rfl) (by kernel_rfl) fun b83 f84 a hpx82 hF => ?_)
 obtain ⟨_, ⟨⟨p85, c86⟩, rfl, hR⟩, hc⟩ := hS.elem 0 rfl hpx82 hx82
 have hS := (hS.adds hR).add hc
 refine wc (wo_val hF (by kernel_rfl) (v := .agg (flat [si x82.Kind, sl p85 (x82.Vers).length c86, sg x82.Lo, sg x82.Hi, su x82.T]).toArray) ((val_loadCs 0 0 5 (s := [si x82.Kind, sl p85 (x82.Vers).length c86, sg x82.Lo, sg x82.Hi, su x82.T]) (s' := [si x82.Kind, sl p85 (x82.Vers).length c86, sg x82.Lo, sg x82.Hi, su x82.T]) (n := 5) rfl rfl rfl (show segGood [si x82.Kind, sl p85 (x82.Vers).length c86, sg x82.Lo, sg x82.Hi, su x82.T] from (sgN 5 sgNil)) (by kernel_rfl) (by kernel_rfl) (by kernel_rfl) (by kernel_rfl) (by kernel_rfl) w ⟨_, hS⟩)) fun a hF => ?_)
 refine wc (wal hF hS [si 0, sl none 0 0, sg ByteArray.empty, sg ByteArray.empty, su 0] (sgN 5 sgNil) fun b87 a w hF hS => ?_)
 refine wc (wst hF hS 0 0 5 [si x82.Kind, sl p85 (x82.Vers).length c86, sg x82.Lo, sg x82.Hi, su x82.T] (sgN 5 sgNil) fun a w hF hS => ?_)
 refine wpListIn_nil ?_
 refine hK81 _ _ ?_
 refine seq_join (fun a w => ∃ (κ : Gh) (y88 : List T_ref10_Chain) (p89 : Option Addr) (c90 : Nat) (y91 : Int) (p92 : Option Nat) (m93 : Array MapEntry) (c94 : Nat) (y95 : Mp ByteArray (List T_api_Ver)) (y96 : Int), Fr (172) [] [(0, .slice p2 (a1).length c3), (3, pt b7 0), (4, pt b11 0), (5, vi y75)] a ∧ SS [] κ0 w0 κ w [.box b11 82 [sl p89 (y88).length c90, su y91], .box b7 130 [(1, [.map p92]), su y96], .tok p89 145 2 (y88).length c90, .ext (objX p92 (.map m93 c94))] [Ro.mp t_law10_Op p2 c3 a1, Map.mp kStr false (tSl f_api_Ver.ty) p92 m93 c94 y95, Ro.mp t_ref10_Chain p89 c90 y88] ∧ M.law10_StorePlays_k2 N (M.law10_StorePlays_L1 N fuel1) a1 y75 y88 y91 y95 y96 = some r) ?_ ?_
 refine wpIn_seq_k fun K107 hK107 => ?_
 refine wpIn_region_lit ?_
 refine wp 1 [0, 3, 4, 5, 6, 34] hF fun a hF => ?_
 refine wc (wld hF hS 0 0 0 fun a hF => ?_)
 refine wpListIn_nil ?_
 refine hK107 _ _ ?_
 refine wpIn_block ?_
 refine wpIn_seq_k fun K108 hK108 => ?_
 refine wpIn_region_lit ?_
 refine wp 2 [0, 3, 4, 5, 6, 35, 50] hF fun a hF => ?_
 refine wpListIn_nil ?_
 refine hK108 _ _ ?_
 refine bif_split H (fun hb H => ?_) (fun hb H => ?_)
 refine cond_t hF (by kernel_rfl) hb ?_
 refine wpIn_seq_k fun K109 hK109 => ?_
 refine wpIn_region_lit ?_
 refine wp 1 [0, 3, 4, 5, 52] hF fun a hF => ?_
 refine wc (wld hF hS 0 1 0 fun a hF => ?_)
 refine bind_split H (fun x110 hx110 H => ?_)
 refine wc (wo_callP hF hS (by kernel_rfl) (by kernel_rfl) (C_law10_few N hS.fresh x82.Vers 3 p85 c86 ((hS.pick [1] (by kernel_rfl)).ro) hx110) ?_)
 rintro _ κ w a ⟨p111, c112, rfl, hR, hN⟩ hF hS hO
 have hS := hS.adds hR
 refine wp 2 [0, 3, 4, 5, 54, 55, 56] hF fun a hF => ?_
 refine wpListIn_nil ?_
 refine hK109 _ _ ?_
 refine wpIn_block ?_
 refine loop_fuel (n := N) (fun n a w => ∃ (κ : Gh) (y163 : List T_ref10_Chain) (p164 : Option Addr) (c165 : Nat) (y166 : Int) (p167 : Option Nat) (m168 : Array MapEntry) (c169 : Nat) (y170 : Mp ByteArray (List T_api_Ver)) (y171 y172 : Int), Fr (172) [] [(0, .slice p2 (a1).length c3), (3, pt b7 0), (4, pt b11 0), (5, vi y75), (54, .slice p111 (x110).length c112), (55, vi ((x110).length : Int)), (56, vi y172)] a ∧ SS [] κ0 w0 κ w [.box b11 82 [sl p164 (y163).length c165, su y166], .box b7 130 [(1, [.map p167]), su y171], .tok p164 145 2 (y163).length c165, .ext (objX p167 (.map m168 c169))] [Ro.mp t_law10_Op p2 c3 a1, Map.mp kStr false (tSl f_api_Ver.ty) p167 m168 c169 y170, Ro.mp f_api_Ver.ty p111 c112 x110, Ro.mp t_ref10_Chain p164 c165 y163] ∧ M.law10_StorePlays_L3 N (M.law10_StorePlays_L1 N fuel1) n a1 y75 x110 y163 y166 y170 y171 y172 = some r) ?_ ?_
 exact ⟨_, y66, p67, c68, y69, p70, m71, c72, y73, y74, 0, hF.kp [0, 3, 4, 5, 54, 55, 56], hS.sp [1, 2, 3, 4] [3, 4, 0, 5], H⟩
 rintro n a w ⟨κ, y163, p164, c165, y166, p167, m168, c169, y170, y171, y172, hF, hS, H⟩
 rcases n with _ | fuel3
 simp [M.law10_StorePlays_L3] at H
 simp only [M.law10_StorePlays_L3] at H
 refine wpIn_seq_k fun K173 hK173 => ?_
 refine wpIn_region_lit ?_
 refine wl_pure (L' := [(0, .slice p2 (a1).length c3), (3, pt b7 0), (4, pt b11 0), (5, vi y75), (54, .slice p111 (x110).length c112), (55, vi ((x110).length : Int)), (56, vi y172), (57, vb (decide (y172 < ((x110).length : Int))))]) 1 [0, 3, 4, 5, 54, 55, 56, 57] hF (by kernel_rfl) fun a hF => ?_
 refine wpListIn_nil ?_
 refine hK173 _ _ ?_
 refine wpIn_seq_k fun K174 hK174 => ?_
 refine bif_split H (fun hb H => ?_) (fun hb H => ?_)
 refine cond_t hF (by kernel_rfl) hb ?_
 refine wpIn_skip ?_
 refine hK174 _ _ ?_
 refine wpIn_seq_k fun K175 hK175 => ?_
 refine wpIn_block ?_
 refine wpIn_seq_k fun K176 hK176 => ?_
 refine wpIn_region_lit ?_
 refine bind_split H (fun x177 hx177 H => ?_)
 refine wc (wo_index hF hS (by kernel_rfl) 2 (E := 37) (sz := 6) rfl rfl rfl (by kernel_rfl) rfl hx177 (by kernel_rfl) (by kernel_rfl) fun b178 f179 a hpx177 hF => ?_)
 refine wc (wo_loadRoAgg (t := f_api_Ver) hF hS (by kernel_rfl) 2 rfl rfl hpx177 rfl hx177 (by kernel_rfl) (by kernel_rfl) (by kernel_rfl) fun a hF => ?_)
 refine wc (wal hF hS [sg ByteArray.empty, sg ByteArray.empty, sb false, su 0, si 0, si 0] (sgN 6 sgNil) fun b180 a w hF hS => ?_)
 refine wc (wst hF hS 0 0 6 [sg x177.Key, sg x177.Val, sb x177.Gone, su x177.TS, si x177.DC, si x177.Tx] (sgN 6 sgNil) fun a w hF hS => ?_)
 refine wpListIn_nil ?_
 refine hK176 _ _ ?_
 refine wpIn_seq_k fun K181 hK181 => ?_
 refine bind_split H (fun v192 hv192 H => ?_)
 refine code_join (fun a w => ∃ (κ : Gh) (p183 : Option Addr) (c184 : Nat) (p186 : Option Nat) (m187 : Array MapEntry) (c188 : Nat), Fr (172) [] [(0, .slice p2 (a1).length c3), (3, pt b7 0), (4, pt b11 0), (5, vi y75), (54, .slice p111 (x110).length c112), (55, vi ((x110).length : Int)), (56, vi y172), (73, vb v192.2.2.2.2)] a ∧ SS [] κ0 w0 κ w [.box b11 82 [sl p183 (v192.1).length c184, su v192.2.1], .box b7 130 [(1, [.map p186]), su v192.2.2.2.1], .tok p183 145 2 (v192.1).length c184, .ext (objX p186 (.map m187 c188))] [Ro.mp t_law10_Op p2 c3 a1, Map.mp kStr false (tSl f_api_Ver.ty) p186 m187 c188 v192.2.2.1, Ro.mp f_api_Ver.ty p111 c112 x110, Ro.mp t_ref10_Chain p183 c184 v192.1] ∧ True) ?_ ?_
 refine rgX hS [0] ?_
 have hS := hS.drew
 refine anp [0, 3] [0, 3, 4, 5, 8, 54, 55, 56, 60, 63] hF (hS.sx [0] (rg 4)) fun a hF => ?_
 refine atk 1 (some 61) hF (hS.sx [0] (rg 4)) rfl (vls 0 0 6) fun a hF => ?_
 refine atk 4 (some 64) hF (hS.sx [0] (rg 4)) rfl (vls 0 0 6) fun a hF => ?_
 refine ago 2 hF rfl ?_
 refine bind_split hv192 (fun x193 hx193 hv192 => ?_)
 refine wcS 2 [2, 4, 0, 1, 3] hF hS (fun hS => C_store_Store_Put N (T_store_Store.mk y170 y171) (T_api_Ver.mk x177.Key x177.Val x177.Gone x177.TS x177.DC x177.Tx) p167 m168 c169 b7 ⟨rfl, hS.pick [1] (by kernel_rfl)⟩ hx193) ?_
 rintro _ κ w a ⟨p194, m195, c196, rfl, h2⟩ hF hB
 have hS := hB _ _ h2
 refine ⟨fun _ => (hS.sx [2] [1, 2, 3, 4]), ?_⟩
 refine ago 5 hF rfl ?_
 refine bind_split hv192 (fun x197 hx197 hv192 => ?_)
 refine wcS 2 [3, 4, 0, 1, 2] hF hS (fun hS => C_ref10_Store_Put N (T_ref10_Store.mk y163 y166) (T_api_Ver.mk x177.Key x177.Val x177.Gone x177.TS x177.DC x177.Tx) p164 c165 b11 ⟨rfl, hS.pick [4] (by kernel_rfl)⟩ hx197) ?_
 rintro _ κ w a ⟨p198, c199, rfl, h2⟩ hF hB
 have hS := (hB _ _ h2).cC (C' := [.box b11 82 [sl p198 (x197.2.Chains).length c199, su x197.2.Floor], .tok p198 145 2 (x197.2.Chains).length c199, .box b7 130 [(1, [.map p194]), su x193.2.floor], .ext (objX p194 (.map m195 c196)), .box b180 37 [sg x177.Key, sg x177.Val, sb x177.Gone, su x177.TS, si x177.DC, si x177.Tx]])
 refine ⟨fun _ => (hS.sx [4] [2, 3, 4, 5]), ?_⟩
 refine anp [6, 7] [0, 3, 4, 5, 8, 54, 55, 56, 67] hF (hS.sx [4] [2, 3, 4, 5]) fun a hF => ?_
 refine bif_split hv192 (fun hb hv192 => ?_) (fun hb hv192 => ?_)
 have hF := hF.boolv 67 (by kernel_rfl) hb
 refine anp [8, 9, 10, 11, 12, 13] [0, 3, 4, 5, 54, 55, 56, 73] hF (hS.sx [4] [2, 3, 4, 5]) fun a hF => ?_
 refine and_ ?_
 cases hv192
 exact ⟨_, p198, c199, p194, m195, c196, hF.kp [0, 3, 4, 5, 54, 55, 56, 73], hS.sp [0, 2, 1, 3] [2, 1, 4, 0], trivial⟩
 have hF := hF.boolv 67 (by kernel_rfl) hb
 refine atk 8 (some 68) hF (hS.sx [4] [2, 3, 4, 5]) rfl (vls 0 0 6) fun a hF => ?_
 refine atk 10 (some 70) hF (hS.sx [4] [2, 3, 4, 5]) rfl (vls 0 0 6) fun a hF => ?_
 refine ago 9 hF rfl ?_
 refine bind_split hv192 (fun x200 hx200 hv192 => ?_)
 refine wo_callP hF hS (by kernel_rfl) (by kernel_rfl) (C_store_Check N hS.fresh (T_api_Ver.mk x177.Key x177.Val x177.Gone x177.TS x177.DC x177.Tx)  ((hS.pick [] (by kernel_rfl)).ro) hx200) ?_
 rintro _ κ w a ⟨rfl, hR, hN⟩ hF hS hO
 refine ⟨fun _ => (hS.sx [4] [2, 3, 4, 5]), ?_⟩
 refine ago 11 hF rfl ?_
 refine bind_split hv192 (fun x201 hx201 hv192 => ?_)
 refine wo_callP hF hS (by kernel_rfl) (by kernel_rfl) (C_ref10_Check N hS.fresh (T_api_Ver.mk x177.Key x177.Val x177.Gone x177.TS x177.DC x177.Tx)  ((hS.pick [] (by kernel_rfl)).ro) hx201) ?_
 rintro _ κ w a ⟨rfl, hR, hN⟩ hF hS hO
 refine ⟨fun _ => (hS.sx [4] [2, 3, 4, 5]), ?_⟩
 refine anp [12, 13] [0, 3, 4, 5, 54, 55, 56, 73] hF (hS.sx [4] [2, 3, 4, 5]) fun a hF => ?_
 refine and_ ?_
 cases hv192
 exact ⟨_, p198, c199, p194, m195, c196, hF.kp [0, 3, 4, 5, 54, 55, 56, 73], hS.sp [0, 2, 1, 3] [2, 1, 4, 0], trivial⟩
 rintro a w ⟨κ, p183, c184, p186, m187, c188, hF, hS, -⟩
 refine hK181 _ _ ?_
 refine bif_split H (fun hb H => ?_) (fun hb H => ?_)
 refine cond_t hF (by kernel_rfl) hb ?_
 refine wpIn_seq_k fun K202 hK202 => ?_
 refine wpIn_region_lit ?_
 refine wp 1 [2] hF fun a hF => ?_
 refine wpListIn_nil ?_
 refine hK202 _ _ ?_
 refine wpIn_ret ?_
 cases H
 exact (ret_done hF hS (res1 Try.results12 (rvt hF)) ⟨rfl, (hS.pick [] (by kernel_rfl)).ro, hS.newC [] (by decide) (by kernel_rfl)⟩)
 refine cond_f hF (by kernel_rfl) hb ?_
 refine wpIn_skip ?_
 refine hK175 _ _ ?_
 refine wpIn_region_lit ?_
 refine wp 2 [0, 3, 4, 5, 54, 55, 56] hF fun a hF => ?_
 refine wpListIn_nil ?_
 exact ⟨fuel3, Nat.lt_succ_self _, _, v192.1, p183, c184, v192.2.1, p186, m187, c188, v192.2.2.1, v192.2.2.2.1, IntKind.i64.wrap (y172 + 1), hF.kp [0, 3, 4, 5, 54, 55, 56], hS.sp (rg 4) (rg 4), H⟩
 refine cond_f hF (by kernel_rfl) hb ?_
 refine wpIn_exit ?_
 exact ⟨_, y163, p164, c165, y166, p167, m168, c169, y170, y171, hF.kp [0, 3, 4, 5], hS.sp (rg 4) [0, 1, 3], H⟩
 refine cond_f hF (by kernel_rfl) hb ?_
 refine wpIn_seq_k fun K203 hK203 => ?_
 refine wpIn_region_lit ?_
 refine wl_pure (L' := [(0, .slice p2 (a1).length c3), (3, pt b7 0), (4, pt b11 0), (5, vi y75), (6, pt b87 0), (35, vi x82.Kind), (75, vb (x82.Kind == 1))]) 2 [0, 3, 4, 5, 6, 35, 75] hF (by kernel_rfl) fun a hF => ?_
 refine wpListIn_nil ?_
 refine hK203 _ _ ?_
 refine bif_split H (fun hb H => ?_) (fun hb H => ?_)
 refine cond_t hF (by kernel_rfl) hb ?_
 refine wpIn_seq_k fun K204 hK204 => ?_
 refine rgX hS [0] ?_
 have hS := hS.drew
 refine anp [0, 1, 5, 6] [0, 3, 4, 5, 77, 78, 82, 83] hF (hS.sx [0] (rg 5)) fun a hF => ?_
 refine atk 2 (some 79) hF (hS.sx [0] (rg 5)) rfl (vld 0 1 0) fun a hF => ?_
 refine atk 7 (some 84) hF (hS.sx [0] (rg 5)) rfl (vld 0 1 0) fun a hF => ?_
 refine ago 3 hF rfl ?_
 refine bind_split H (fun x205 hx205 H => ?_)
 refine wo_callP hF hS (by kernel_rfl) (by kernel_rfl) (C_law10_few N hS.fresh x82.Vers 20 p85 c86 ((hS.pick [1] (by kernel_rfl)).ro) hx205) ?_
 rintro _ κ w a ⟨p206, c207, rfl, hR, hN⟩ hF hS hO
 have hS := hS.adds hR
 refine ⟨fun _ => (hS.sx [0] [1, 2, 3, 4, 5]), ?_⟩
 refine ago 4 hF rfl ?_
 refine bind_split H (fun x208 hx208 H => ?_)
 refine wcS 2 [2, 4, 0, 1, 3] hF hS (fun hS => C_store_Store_Load N (T_store_Store.mk y73 y74) x205 p70 m71 c72 p206 c207 b7 ⟨rfl, hS.pick [4, 0] (by kernel_rfl)⟩ hx208) ?_
 rintro _ κ w a ⟨p209, m210, c211, rfl, h2⟩ hF hB
 have hS := hB _ _ h2
 refine ⟨fun _ => (hS.sx [2] [2, 3, 4, 5, 6]), ?_⟩
 refine ago 8 hF rfl ?_
 refine bind_split H (fun x212 hx212 H => ?_)
 refine wo_callP hF hS (by kernel_rfl) (by kernel_rfl) (C_law10_few N hS.fresh x82.Vers 20 p85 c86 ((hS.pick [3] (by kernel_rfl)).ro) hx212) ?_
 rintro _ κ w a ⟨p213, c214, rfl, hR, hN⟩ hF hS hO
 have hS := hS.adds hR
 refine ⟨fun _ => (hS.sx [2] [3, 4, 5, 6, 7]), ?_⟩
 refine ago 9 hF rfl ?_
 refine bind_split H (fun x215 hx215 H => ?_)
 refine wcS 2 [3, 4, 0, 1, 2] hF hS (fun hS => C_ref10_Store_Load N (T_ref10_Store.mk y66 y69) x212 p67 c68 p213 c214 b11 ⟨rfl, hS.pick [7, 0] (by kernel_rfl)⟩ hx215) ?_
 rintro _ κ w a ⟨p216, c217, rfl, h2⟩ hF hB
 have hS := (hB _ _ h2).cC (C' := [.box b11 82 [sl p216 (x215.2.Chains).length c217, su x215.2.Floor], .tok p216 145 2 (x215.2.Chains).length c217, .box b7 130 [(1, [.map p209]), su x208.2.floor], .ext (objX p209 (.map m210 c211)), .box b87 84 [si x82.Kind, sl p85 (x82.Vers).length c86, sg x82.Lo, sg x82.Hi, su x82.T]])
 refine ⟨fun _ => (hS.sx [4] [4, 5, 6, 7, 8]), ?_⟩
 refine anp [10] [0, 3, 4, 5, 87] hF (hS.sx [4] [4, 5, 6, 7, 8]) fun a hF => ?_
 refine and_ ?_
 refine hK204 _ _ ?_
 refine bif_split H (fun hb H => ?_) (fun hb H => ?_)
 refine cond_t hF (by kernel_rfl) hb ?_
 refine wpIn_seq_k fun K218 hK218 => ?_
 refine wpIn_region_lit ?_
 refine wp 1 [2] hF fun a hF => ?_
 refine wpListIn_nil ?_
 refine hK218 _ _ ?_
 refine wpIn_ret ?_
 cases H
 exact (ret_done hF hS (res1 Try.results12 (rvt hF)) ⟨rfl, (hS.pick [] (by kernel_rfl)).ro, hS.newC [] (by decide) (by kernel_rfl)⟩)
 refine cond_f hF (by kernel_rfl) hb ?_
 refine wpIn_skip ?_
 exact ⟨_, x215.2.Chains, p216, c217, x215.2.Floor, p209, m210, c211, x208.2.chains, x208.2.floor, hF.kp [0, 3, 4, 5], hS.sp [0, 2, 1, 3] [6, 2, 0], H⟩
 refine cond_f hF (by kernel_rfl) hb ?_
 refine wpIn_seq_k fun K219 hK219 => ?_
 refine wpIn_region_lit ?_
 refine wp 2 [0, 3, 4, 5, 6, 35, 88] hF fun a hF => ?_
 refine wpListIn_nil ?_
 refine hK219 _ _ ?_
 refine bif_split H (fun hb H => ?_) (fun hb H => ?_)
 refine cond_t hF (by kernel_rfl) hb ?_
 refine wpIn_seq_k fun K220 hK220 => ?_
 refine wpIn_region_lit ?_
 refine wp 2 [0, 3, 4, 5, 6, 91, 92] hF fun a hF => ?_
 refine wc (wld hF hS 0 2 0 fun a hF => ?_)
 refine wp 1 [0, 3, 4, 5, 6, 91, 93, 94] hF fun a hF => ?_
 refine wc (wld hF hS 0 4 0 fun a hF => ?_)
 refine bind_split H (fun x221 hx221 H => ?_)
 refine wc (wcS 2 [2, 4, 0, 1, 3] hF hS (fun hS => C_store_Store_Get N (T_store_Store.mk y73 y74) x82.Lo x82.T p70 m71 c72 b7 ⟨rfl, hS.pick [3] (by kernel_rfl)⟩ hx221) ?_)
 rintro _ κ w a ⟨rfl, h2⟩ hF hB
 have hS := hB _ _ h2
 refine wp 4 [0, 3, 4, 5, 6, 97, 98, 99] hF fun a hF => ?_
 refine wc (wal hF hS [sg ByteArray.empty, sg ByteArray.empty, sb false, su 0, si 0, si 0] (sgN 6 sgNil) fun b222 a w hF hS => ?_)
 refine wc (wst hF hS 0 0 6 [sg x221.1.Key, sg x221.1.Val, sb x221.1.Gone, su x221.1.TS, si x221.1.DC, si x221.1.Tx] (sgN 6 sgNil) fun a w hF hS => ?_)
 refine wp 2 [0, 3, 4, 5, 6, 9, 10, 11] hF fun a hF => ?_
 refine wpListIn_nil ?_
 refine hK220 _ _ ?_
 refine wpIn_seq_k fun K223 hK223 => ?_
 refine wpIn_region_lit ?_
 refine wp 2 [0, 3, 4, 5, 6, 9, 10, 11, 101, 102] hF fun a hF => ?_
 refine wc (wld hF hS 3 2 0 fun a hF => ?_)
 refine wp 1 [0, 3, 4, 5, 9, 10, 11, 101, 103, 104] hF fun a hF => ?_
 refine wc (wld hF hS 3 4 0 fun a hF => ?_)
 refine bind_split H (fun x224 hx224 H => ?_)
 refine wc (wcS 1 [4, 0, 1, 2, 3, 5] hF hS (fun hS => C_ref10_Store_Get N (T_ref10_Store.mk y66 y69) x82.Lo x82.T p67 c68 b11 ⟨rfl, hS.pick [4] (by kernel_rfl)⟩ hx224) ?_)
 rintro _ κ w a ⟨rfl, h2⟩ hF hB
 have hS := (hB _ _ h2).cC (C' := [.box b11 82 [sl p67 (y66).length c68, su y69], .box b222 37 [sg x221.1.Key, sg x221.1.Val, sb x221.1.Gone, su x221.1.TS, si x221.1.DC, si x221.1.Tx], .box b7 130 [(1, [.map p70]), su y74], .ext (objX p70 (.map m71 c72)), .box b87 84 [si x82.Kind, sl p85 (x82.Vers).length c86, sg x82.Lo, sg x82.Hi, su x82.T], .tok p67 145 2 (y66).length c68])
 refine wp 4 [0, 3, 4, 5, 9, 10, 11, 107, 108, 109] hF fun a hF => ?_
 refine wc (wal hF hS [sg ByteArray.empty, sg ByteArray.empty, sb false, su 0, si 0, si 0] (sgN 6 sgNil) fun b225 a w hF hS => ?_)
 refine wc (wst hF hS 0 0 6 [sg x224.1.Key, sg x224.1.Val, sb x224.1.Gone, su x224.1.TS, si x224.1.DC, si x224.1.Tx] (sgN 6 sgNil) fun a w hF hS => ?_)
 refine wl_pure (L' := [(0, .slice p2 (a1).length c3), (3, pt b7 0), (4, pt b11 0), (5, vi y75), (9, pt b222 0), (10, vb x221.2.1), (11, vi x221.2.2), (12, pt b225 0), (13, vb x224.2.1), (14, vi x224.2.2)]) 2 [0, 3, 4, 5, 9, 10, 11, 12, 13, 14] hF (by kernel_rfl) fun a hF => ?_
 refine wpListIn_nil ?_
 refine hK223 _ _ ?_
 refine wpIn_seq_k fun K226 hK226 => ?_
 refine wpIn_region_lit ?_
 refine bind_split H (fun v228 hv228 H => ?_)
 refine wl_join (fun a w => ∃ κ : Gh, Fr (172) [] [(0, .slice p2 (a1).length c3), (3, pt b7 0), (4, pt b11 0), (5, vi y75), (122, vb v228)] a ∧ SS [] κ0 w0 κ w [.box b11 82 [sl p67 (y66).length c68, su y69], .box b7 130 [(1, [.map p70]), su y74], .tok p67 145 2 (y66).length c68, .ext (objX p70 (.map m71 c72))] [Ro.mp t_law10_Op p2 c3 a1, Map.mp kStr false (tSl f_api_Ver.ty) p70 m71 c72 y73, Ro.mp t_ref10_Chain p67 c68 y66] ∧ True) ?_ ?_
 refine wc (wls hF hS 2 0 6 fun a hF => ?_)
 refine wc (wls hF hS 0 0 6 fun a hF => ?_)
 refine wc (wo_val hF (by kernel_rfl) (v := vb (!(cEq (flat [sg x221.1.Key, sg x221.1.Val, sb x221.1.Gone, su x221.1.TS, si x221.1.DC, si x221.1.Tx]) (flat [sg x224.1.Key, sg x224.1.Val, sb x224.1.Gone, su x224.1.TS, si x224.1.DC, si x224.1.Tx])))) ((val_eq (neg := true) (xs := (flat [sg x221.1.Key, sg x221.1.Val, sb x221.1.Gone, su x221.1.TS, si x221.1.DC, si x221.1.Tx])) (ys := (flat [sg x224.1.Key, sg x224.1.Val, sb x224.1.Gone, su x224.1.TS, si x224.1.DC, si x224.1.Tx])) (ks := [.str, .str, .bool, .int .u64, .int .i64, .int .i64]) 20 (by decide) rfl (by kernel_rfl) (by kernel_rfl) (by kernel_rfl) (by kernel_rfl) (by kernel_rfl) (by kernel_rfl) (by kernel_rfl)) _) fun a hF => ?_)
 refine wp 1 [0, 3, 4, 5, 10, 11, 13, 14, 113] hF fun a hF => ?_
 refine bif_split hv228 (fun hb hv228 => ?_) (fun hb hv228 => ?_)
 have hF := hF.boolv 113 (by kernel_rfl) hb
 refine wp 9 [0, 3, 4, 5, 122] hF fun a hF => ?_
 refine wpListIn_nil ?_
 cases hv228
 exact ⟨_, hF.kp [0, 3, 4, 5, 122], hS.sp [1, 3, 6, 4] [2, 3, 4], trivial⟩
 have hF := hF.boolv 113 (by kernel_rfl) hb
 refine wp 5 [0, 3, 4, 5, 11, 14, 118] hF fun a hF => ?_
 refine bif_split hv228 (fun hb hv228 => ?_) (fun hb hv228 => ?_)
 have hF := hF.boolv 118 (by kernel_rfl) hb
 refine wp 4 [0, 3, 4, 5, 122] hF fun a hF => ?_
 refine wpListIn_nil ?_
 cases hv228
 exact ⟨_, hF.kp [0, 3, 4, 5, 122], hS.sp [1, 3, 6, 4] [2, 3, 4], trivial⟩
 have hF := hF.boolv 118 (by kernel_rfl) hb
 refine wp 4 [0, 3, 4, 5, 122] hF fun a hF => ?_
 refine wpListIn_nil ?_
 cases hv228
 exact ⟨_, hF.kp [0, 3, 4, 5, 122], hS.sp [1, 3, 6, 4] [2, 3, 4], trivial⟩
 rintro a w ⟨κ, hF, hS, -⟩
 refine hK226 _ _ ?_
 refine bif_split H (fun hb H => ?_) (fun hb H => ?_)
 refine cond_t hF (by kernel_rfl) hb ?_
 refine wpIn_seq_k fun K229 hK229 => ?_
 refine wpIn_region_lit ?_
 refine wp 1 [2] hF fun a hF => ?_
 refine wpListIn_nil ?_
 refine hK229 _ _ ?_
 refine wpIn_ret ?_
 cases H
 exact (ret_done hF hS (res1 Try.results12 (rvt hF)) ⟨rfl, (hS.pick [] (by kernel_rfl)).ro, hS.newC [] (by decide) (by kernel_rfl)⟩)
 refine cond_f hF (by kernel_rfl) hb ?_
 refine wpIn_skip ?_
 exact ⟨_, y66, p67, c68, y69, p70, m71, c72, y73, y74, hF.kp [0, 3, 4, 5], hS.sp (rg 4) [0, 1, 2], H⟩
 refine cond_f hF (by kernel_rfl) hb ?_
 refine wpIn_seq_k fun K230 hK230 => ?_
 refine wpIn_region_lit ?_
 refine wl_pure (L' := [(0, .slice p2 (a1).length c3), (3, pt b7 0), (4, pt b11 0), (5, vi y75), (6, pt b87 0), (35, vi x82.Kind), (123, vb (x82.Kind == 3))]) 2 [0, 3, 4, 5, 6, 35, 123] hF (by kernel_rfl) fun a hF => ?_
 refine wpListIn_nil ?_
 refine hK230 _ _ ?_
 refine bif_split H (fun hb H => ?_) (fun hb H => ?_)
 refine cond_t hF (by kernel_rfl) hb ?_
 refine wpIn_seq_k fun K231 hK231 => ?_
 refine rgX hS [0] ?_
 have hS := hS.drew
 refine anp [0, 1, 3, 6, 7, 9] [0, 3, 4, 5, 125, 126, 128, 131, 132, 134] hF (hS.sx [0] (rg 5)) fun a hF => ?_
 refine atk 2 (some 127) hF (hS.sx [0] (rg 5)) rfl (vld 0 2 0) fun a hF => ?_
 refine atk 4 (some 129) hF (hS.sx [0] (rg 5)) rfl (vld 0 3 0) fun a hF => ?_
 refine atk 8 (some 133) hF (hS.sx [0] (rg 5)) rfl (vld 0 2 0) fun a hF => ?_
 refine atk 10 (some 135) hF (hS.sx [0] (rg 5)) rfl (vld 0 3 0) fun a hF => ?_
 refine ago 5 hF rfl ?_
 refine bind_split H (fun x232 hx232 H => ?_)
 refine wcS 2 [2, 4, 0, 1, 3] hF hS (fun hS => C_store_Store_Drop N (T_store_Store.mk y73 y74) x82.Lo x82.Hi p70 m71 c72 b7 ⟨rfl, hS.pick [3] (by kernel_rfl)⟩ hx232) ?_
 rintro _ κ w a ⟨p233, m234, c235, rfl, h2⟩ hF hB
 have hS := hB _ _ h2
 refine ⟨fun _ => (hS.sx [2] [1, 2, 3, 4, 5]), ?_⟩
 refine ago 11 hF rfl ?_
 refine bind_split H (fun x236 hx236 H => ?_)
 refine wcS 2 [3, 4, 0, 1, 2] hF hS (fun hS => C_ref10_Store_Drop N (T_ref10_Store.mk y66 y69) x82.Lo x82.Hi p67 c68 b11 ⟨rfl, hS.pick [5] (by kernel_rfl)⟩ hx236) ?_
 rintro _ κ w a ⟨p237, c238, rfl, h2⟩ hF hB
 have hS := (hB _ _ h2).cC (C' := [.box b11 82 [sl p237 (x236.2.Chains).length c238, su x236.2.Floor], .tok p237 145 2 (x236.2.Chains).length c238, .box b7 130 [(1, [.map p233]), su x232.2.floor], .ext (objX p233 (.map m234 c235)), .box b87 84 [si x82.Kind, sl p85 (x82.Vers).length c86, sg x82.Lo, sg x82.Hi, su x82.T]])
 refine ⟨fun _ => (hS.sx [4] [2, 3, 4, 5, 6]), ?_⟩
 refine anp [12] [0, 3, 4, 5, 137] hF (hS.sx [4] [2, 3, 4, 5, 6]) fun a hF => ?_
 refine and_ ?_
 refine hK231 _ _ ?_
 refine bif_split H (fun hb H => ?_) (fun hb H => ?_)
 refine cond_t hF (by kernel_rfl) hb ?_
 refine wpIn_seq_k fun K239 hK239 => ?_
 refine wpIn_region_lit ?_
 refine wp 1 [2] hF fun a hF => ?_
 refine wpListIn_nil ?_
 refine hK239 _ _ ?_
 refine wpIn_ret ?_
 cases H
 exact (ret_done hF hS (res1 Try.results12 (rvt hF)) ⟨rfl, (hS.pick [] (by kernel_rfl)).ro, hS.newC [] (by decide) (by kernel_rfl)⟩)
 refine cond_f hF (by kernel_rfl) hb ?_
 refine wpIn_skip ?_
 exact ⟨_, x236.2.Chains, p237, c238, x236.2.Floor, p233, m234, c235, x232.2.chains, x232.2.floor, hF.kp [0, 3, 4, 5], hS.sp [0, 2, 1, 3] [4, 1, 0], H⟩
 refine cond_f hF (by kernel_rfl) hb ?_
 refine wpIn_seq_k fun K240 hK240 => ?_
 refine wpIn_region_lit ?_
 refine wl_pure (L' := [(0, .slice p2 (a1).length c3), (3, pt b7 0), (4, pt b11 0), (5, vi y75), (6, pt b87 0), (138, vb (x82.Kind == 4))]) 2 [0, 3, 4, 5, 6, 138] hF (by kernel_rfl) fun a hF => ?_
 refine wpListIn_nil ?_
 refine hK240 _ _ ?_
 refine bif_split H (fun hb H => ?_) (fun hb H => ?_)
 refine cond_t hF (by kernel_rfl) hb ?_
 refine wpIn_seq_k fun K241 hK241 => ?_
 refine rgX hS [0] ?_
 have hS := hS.drew
 refine anp [0, 1, 4, 5] [0, 3, 4, 5, 140, 141, 144, 145] hF (hS.sx [0] (rg 5)) fun a hF => ?_
 refine atk 2 (some 142) hF (hS.sx [0] (rg 5)) rfl (vld 0 4 0) fun a hF => ?_
 refine atk 6 (some 146) hF (hS.sx [0] (rg 5)) rfl (vld 0 4 0) fun a hF => ?_
 refine ago 3 hF rfl ?_
 refine bind_split H (fun x242 hx242 H => ?_)
 refine wcS 2 [2, 4, 0, 1, 3] hF hS (fun hS => C_store_Store_Trim N (T_store_Store.mk y73 y74) x82.T p70 m71 c72 b7 ⟨rfl, hS.pick [3] (by kernel_rfl)⟩ hx242) ?_
 rintro _ κ w a ⟨p243, m244, c245, rfl, h2⟩ hF hB
 have hS := hB _ _ h2
 refine ⟨fun _ => (hS.sx [2] [1, 2, 3, 4, 5]), ?_⟩
 refine ago 7 hF rfl ?_
 refine bind_split H (fun x246 hx246 H => ?_)
 refine wcS 2 [3, 4, 0, 1, 2] hF hS (fun hS => C_ref10_Store_Trim N (T_ref10_Store.mk y66 y69) x82.T p67 c68 b11 ⟨rfl, hS.pick [5] (by kernel_rfl)⟩ hx246) ?_
 rintro _ κ w a ⟨p247, c248, rfl, h2⟩ hF hB
 have hS := (hB _ _ h2).cC (C' := [.box b11 82 [sl p247 (x246.2.Chains).length c248, su x246.2.Floor], .tok p247 145 2 (x246.2.Chains).length c248, .box b7 130 [(1, [.map p243]), su x242.2.floor], .ext (objX p243 (.map m244 c245)), .box b87 84 [si x82.Kind, sl p85 (x82.Vers).length c86, sg x82.Lo, sg x82.Hi, su x82.T]])
 refine ⟨fun _ => (hS.sx [4] [2, 3, 4, 5, 6]), ?_⟩
 refine anp [8] [0, 3, 4, 5, 148] hF (hS.sx [4] [2, 3, 4, 5, 6]) fun a hF => ?_
 refine and_ ?_
 refine hK241 _ _ ?_
 refine bif_split H (fun hb H => ?_) (fun hb H => ?_)
 refine cond_t hF (by kernel_rfl) hb ?_
 refine wpIn_seq_k fun K249 hK249 => ?_
 refine wpIn_region_lit ?_
 refine wp 1 [2] hF fun a hF => ?_
 refine wpListIn_nil ?_
 refine hK249 _ _ ?_
 refine wpIn_ret ?_
 cases H
 exact (ret_done hF hS (res1 Try.results12 (rvt hF)) ⟨rfl, (hS.pick [] (by kernel_rfl)).ro, hS.newC [] (by decide) (by kernel_rfl)⟩)
 refine cond_f hF (by kernel_rfl) hb ?_
 refine wpIn_skip ?_
 exact ⟨_, x246.2.Chains, p247, c248, x246.2.Floor, p243, m244, c245, x242.2.chains, x242.2.floor, hF.kp [0, 3, 4, 5], hS.sp [0, 2, 1, 3] [4, 1, 0], H⟩
 refine cond_f hF (by kernel_rfl) hb ?_
 refine wpIn_seq_k fun K250 hK250 => ?_
 refine rgS hS [] ?_
 have hS := hS.drew
 refine bind_split H (fun x251 hx251 H => ?_)
 refine bind_split H (fun x254 hx254 H => ?_)
 refine bind_split H (fun x257 hx257 H => ?_)
 refine anp [0, 1, 3, 6, 7, 9] [0, 3, 4, 5, 36, 37, 39, 42, 43, 45] hF (hS.sx [0, 1, 2, 4] (rg 5)) fun a hF => ?_
 refine atk 2 (some 38) hF (hS.sx [0, 1, 2, 4] (rg 5)) rfl (vld 0 2 0) fun a hF => ?_
 refine atk 4 (some 40) hF (hS.sx [0, 1, 2, 4] (rg 5)) rfl (vld 0 3 0) fun a hF => ?_
 refine atk 8 (some 44) hF (hS.sx [0, 1, 2, 4] (rg 5)) rfl (vld 0 2 0) fun a hF => ?_
 refine atk 10 (some 46) hF (hS.sx [0, 1, 2, 4] (rg 5)) rfl (vld 0 3 0) fun a hF => ?_
 refine ago 5 hF rfl ?_
 refine wcS 2 [2, 4, 0, 1, 3] hF hS (fun hS => C_law10_All N (T_store_Store.mk y73 y74) x82.Lo x82.Hi p70 m71 c72 b7 ⟨rfl, hS.pick [3] (by kernel_rfl)⟩ hx251) ?_
 rintro _ κ w a ⟨p252, c253, rfl, h2⟩ hF hB
 have hS := hB _ _ h2
 refine ⟨fun _ => (hS.sx [3, 4, 0, 1] [1, 2, 3, 4, 5]), ?_⟩
 refine ago 11 hF rfl ?_
 refine wcS 1 [4, 0, 1, 2, 3, 5] hF hS (fun hS => C_ref10_Store_All N (T_ref10_Store.mk y66 y69) x82.Lo x82.Hi p67 c68 b11 ⟨rfl, hS.pick [5] (by kernel_rfl)⟩ hx254) ?_
 rintro _ κ w a ⟨p255, c256, rfl, h2⟩ hF hB
 have hS := (hB _ _ h2).cC (C' := [.box b11 82 [sl p67 (y66).length c68, su y69], .tok p255 37 6 (x254).length c256, .box b7 130 [(1, [.map p70]), su y74], .ext (objX p70 (.map m71 c72)), .tok p252 37 6 (x251).length c253, .box b87 84 [si x82.Kind, sl p85 (x82.Vers).length c86, sg x82.Lo, sg x82.Hi, su x82.T], .tok p67 145 2 (y66).length c68])
 refine ⟨fun _ => (hS.sx [5, 0, 2, 3] [2, 3, 4, 5, 6]), ?_⟩
 refine ago 12 hF rfl ?_
 refine wo_callP hF hS (by kernel_rfl) (by kernel_rfl) (C_ref04_SameVers N hS.fresh x251 x254 p252 c253 p255 c256 ((hS.pick [1, 0] (by kernel_rfl)).ro) hx257) ?_
 rintro _ κ w a ⟨rfl, hR, hN⟩ hF hS hO
 refine ⟨fun _ => (hS.sx [5, 0, 2, 3] [2, 3, 4, 5, 6]), ?_⟩
 refine anp [13] [0, 3, 4, 5, 49] hF (hS.sx [5, 0, 2, 3] [2, 3, 4, 5, 6]) fun a hF => ?_
 refine and_ ?_
 refine hK250 _ _ ?_
 refine bif_split H (fun hb H => ?_) (fun hb H => ?_)
 refine cond_t hF (by kernel_rfl) hb ?_
 refine wpIn_seq_k fun K258 hK258 => ?_
 refine wpIn_region_lit ?_
 refine wp 1 [2] hF fun a hF => ?_
 refine wpListIn_nil ?_
 refine hK258 _ _ ?_
 refine wpIn_ret ?_
 cases H
 exact (ret_done hF hS (res1 Try.results12 (rvt hF)) ⟨rfl, (hS.pick [] (by kernel_rfl)).ro, hS.newC [] (by decide) (by kernel_rfl)⟩)
 refine cond_f hF (by kernel_rfl) hb ?_
 refine wpIn_skip ?_
 exact ⟨_, y66, p67, c68, y69, p70, m71, c72, y73, y74, hF.kp [0, 3, 4, 5], hS.sp [0, 2, 6, 3] [4, 5, 6], H⟩
 rintro a w ⟨κ, y88, p89, c90, y91, p92, m93, c94, y95, y96, hF, hS, H⟩
 unfold M.law10_StorePlays_k2 at H
 refine wpIn_seq_k fun K97 hK97 => ?_
 refine bind_split H (fun v99 hv99 H => ?_)
 refine code_join (fun a w => ∃ κ : Gh, Fr (172) [] [(0, .slice p2 (a1).length c3), (3, pt b7 0), (4, pt b11 0), (5, vi y75), (163, vb v99)] a ∧ SS [] κ0 w0 κ w [.box b7 130 [(1, [.map p92]), su y96], .box b11 82 [sl p89 (y88).length c90, su y91], .tok p89 145 2 (y88).length c90, .ext (objX p92 (.map m93 c94))] [Ro.mp t_law10_Op p2 c3 a1, Map.mp kStr false (tSl f_api_Ver.ty) p92 m93 c94 y95, Ro.mp t_ref10_Chain p89 c90 y88] ∧ True) ?_ ?_
 refine rgS hS [] ?_
 have hS := hS.drew
 refine bind_split hv99 (fun x100 hx100 hv99 => ?_)
 refine bif_split hv99 (fun hb101 hv99 => ?_) (fun hb101 hv99 => ?_)
 refine anp [0, 2, 3, 4] [0, 3, 4, 5, 149, 153] hF (hS.sx [0, 1, 3] [0, 1, 2]) fun a hF => ?_
 refine atk 5 (some 154) hF (hS.sx [0, 1, 3] [0, 1, 2]) rfl (vld 0 1 0) fun a hF => ?_
 refine ago 1 hF rfl ?_
 refine wcS 2 [1, 3, 0, 2] hF hS (fun hS => C_store_Store_Floor N (T_store_Store.mk y95 y96) p92 m93 c94 b7 ⟨rfl, hS.pick [1] (by kernel_rfl)⟩ hx100) ?_
 rintro _ κ w a ⟨rfl, h2⟩ hF hB
 have hS := hB _ _ h2
 refine ⟨fun _ => (hS.sx [2, 0, 1] [0, 1, 2]), ?_⟩
 refine anp [6, 7] [0, 3, 4, 5, 156] hF (hS.sx [2, 0, 1] [0, 1, 2]) fun a hF => ?_
 have hF := hF.boolv 156 (by kernel_rfl) hb101
 refine anp [8, 9, 10, 11, 12, 13, 14] [0, 3, 4, 5, 163] hF (hS.sx [2, 0, 1] [0, 1, 2]) fun a hF => ?_
 refine and_ ?_
 cases hv99
 exact ⟨_, hF.kp [0, 3, 4, 5, 163], hS.sp [0, 2, 3, 1] [0, 1, 2], trivial⟩
 refine bind_split hv99 (fun x102 hx102 hv99 => ?_)
 refine bind_split hv99 (fun x103 hx103 hv99 => ?_)
 refine anp [0, 2, 3, 4] [0, 3, 4, 5, 149, 153] hF (hS.sx [0, 1, 3] [0, 1, 2]) fun a hF => ?_
 refine atk 5 (some 154) hF (hS.sx [0, 1, 3] [0, 1, 2]) rfl (vld 0 1 0) fun a hF => ?_
 refine ago 1 hF rfl ?_
 refine wcS 2 [1, 3, 0, 2] hF hS (fun hS => C_store_Store_Floor N (T_store_Store.mk y95 y96) p92 m93 c94 b7 ⟨rfl, hS.pick [1] (by kernel_rfl)⟩ hx100) ?_
 rintro _ κ w a ⟨rfl, h2⟩ hF hB
 have hS := hB _ _ h2
 refine ⟨fun _ => (hS.sx [2, 0, 1] [0, 1, 2]), ?_⟩
 refine anp [6, 7] [0, 3, 4, 5, 156] hF (hS.sx [2, 0, 1] [0, 1, 2]) fun a hF => ?_
 have hF := hF.boolv 156 (by kernel_rfl) hb101
 refine anp [8, 10] [0, 3, 4, 5, 156, 157, 159] hF (hS.sx [2, 0, 1] [0, 1, 2]) fun a hF => ?_
 refine ago 9 hF rfl ?_
 refine wcS 2 (rg 4) hF hS (fun hS => C_store_Store_Len N (T_store_Store.mk y95 y96) p92 m93 c94 b7 ⟨rfl, hS.pick [1] (by kernel_rfl)⟩ hx102) ?_
 rintro _ κ w a ⟨rfl, h2⟩ hF hB
 have hS := (hB _ _ h2).cC (C' := [.box b7 130 [(1, [.map p92]), su y96], .ext (objX p92 (.map m93 c94)), .box b11 82 [sl p89 (y88).length c90, su y91], .tok p89 145 2 (y88).length c90])
 refine ⟨fun _ => (hS.sx [2, 0, 1] [0, 1, 2]), ?_⟩
 refine ago 11 hF rfl ?_
 refine wcS 1 [2, 0, 1, 3] hF hS (fun hS => C_ref10_Store_All N (T_ref10_Store.mk y88 y91) (ByteArray.mk #[]) (ByteArray.mk #[]) p89 c90 b11 ⟨rfl, hS.pick [2] (by kernel_rfl)⟩ hx103) ?_
 rintro _ κ w a ⟨p104, c105, rfl, h2⟩ hF hB
 have hS := hB _ _ h2
 refine ⟨fun _ => (hS.sx [0, 2, 3] [1, 2, 3]), ?_⟩
 refine anp [12, 13, 14] [0, 3, 4, 5, 163] hF (hS.sx [0, 2, 3] [1, 2, 3]) fun a hF => ?_
 refine and_ ?_
 cases hv99
 exact ⟨_, hF.kp [0, 3, 4, 5, 163], hS.sp [2, 0, 4, 3] [1, 2, 3], trivial⟩
 rintro a w ⟨κ, hF, hS, -⟩
 refine hK97 _ _ ?_
 refine bif_split H (fun hb H => ?_) (fun hb H => ?_)
 refine cond_t hF (by kernel_rfl) hb ?_
 refine wpIn_seq_k fun K106 hK106 => ?_
 refine wpIn_region_lit ?_
 refine wp 1 [2] hF fun a hF => ?_
 refine wpListIn_nil ?_
 refine hK106 _ _ ?_
 refine wpIn_ret ?_
 cases H
 exact (ret_done hF hS (res1 Try.results12 (rvt hF)) ⟨rfl, (hS.pick [] (by kernel_rfl)).ro, hS.newC [] (by decide) (by kernel_rfl)⟩)
 refine cond_f hF (by kernel_rfl) hb ?_
 refine wpIn_skip ?_
 refine hK80 _ _ ?_
 refine wpIn_region_lit ?_
 refine wp 3 [0, 3, 4, 5] hF fun a hF => ?_
 refine wpListIn_nil ?_
 exact ⟨fuel1, Nat.lt_succ_self _, _, y88, p89, c90, y91, p92, m93, c94, y95, y96, IntKind.i64.wrap (y75 + 1), hF.kp [0, 3, 4, 5], hS.sp [1, 0, 2, 3] [0, 1, 2], H⟩
 refine cond_f hF (by kernel_rfl) hb ?_
 refine wpIn_exit ?_
 refine hK14 _ _ ?_
 refine wpIn_seq_k fun K259 hK259 => ?_
 refine wpIn_region_lit ?_
 refine bind_split H (fun v261 hv261 H => ?_)
 refine wl_join (fun a w => ∃ κ : Gh, Fr (172) [] [(2, vb v261)] a ∧ SS [] κ0 w0 κ w [] [] ∧ True) ?_ ?_
 refine bind_split hv261 (fun x262 hx262 hv261 => ?_)
 refine wc (wo_callP hF hS (by kernel_rfl) (by kernel_rfl) (C_law10_awake N hS.fresh   ((hS.pick [] (by kernel_rfl)).ro) hx262) ?_)
 rintro _ κ w a ⟨rfl, hR, hN⟩ hF hS hO
 refine wp 1 [3, 4, 165] hF fun a hF => ?_
 refine bif_split hv261 (fun hb hv261 => ?_) (fun hb hv261 => ?_)
 have hF := hF.boolv 165 (by kernel_rfl) hb
 refine wp 1 [4, 165, 166] hF fun a hF => ?_
 refine bind_split hv261 (fun x263 hx263 hv261 => ?_)
 refine wcg hF (wcS 2 [1, 3, 0, 2] hF hS (fun hS => C_law10_All N (T_store_Store.mk y73 y74) (ByteArray.mk #[]) (ByteArray.mk #[]) p70 m71 c72 b7 ⟨rfl, hS.pick [1] (by kernel_rfl)⟩ hx263) ?_)
 rintro _ κ w a ⟨p264, c265, rfl, h2⟩ hF hB
 have hS := hB _ _ h2
 refine wp 1 [165, 167, 168] hF fun a hF => ?_
 refine bind_split hv261 (fun x266 hx266 hv261 => ?_)
 refine wcg hF (wcS 1 [3, 0, 1, 2, 4] hF hS (fun hS => C_ref10_Store_All N (T_ref10_Store.mk y66 y69) (ByteArray.mk #[]) (ByteArray.mk #[]) p67 c68 b11 ⟨rfl, hS.pick [3] (by kernel_rfl)⟩ hx266) ?_)
 rintro _ κ w a ⟨p267, c268, rfl, h2⟩ hF hB
 have hS := (hB _ _ h2).cC (C' := [.box b11 82 [sl p67 (y66).length c68, su y69], .tok p267 37 6 (x266).length c268, .box b7 130 [(1, [.map p70]), su y74], .ext (objX p70 (.map m71 c72)), .tok p264 37 6 (x263).length c265, .tok p67 145 2 (y66).length c68])
 refine bind_split hv261 (fun x269 hx269 hv261 => ?_)
 refine wcg hF (wo_callP hF hS (by kernel_rfl) (by kernel_rfl) (C_ref04_SameVers N hS.fresh x263 x266 p264 c265 p267 c268 ((hS.pick [1, 0] (by kernel_rfl)).ro) hx269) ?_)
 rintro _ κ w a ⟨rfl, hR, hN⟩ hF hS hO
 refine wp 2 [2] hF fun a hF => ?_
 refine wpListIn_nil ?_
 cases hv261
 exact ⟨_, hF.kp [2], hS.sp [] [], trivial⟩
 have hF := hF.boolv 165 (by kernel_rfl) hb
 refine wp 7 [2] hF fun a hF => ?_
 refine wpListIn_nil ?_
 cases hv261
 exact ⟨_, hF.kp [2], hS.sp [] [], trivial⟩
 rintro a w ⟨κ, hF, hS, -⟩
 refine hK259 _ _ ?_
 refine wpIn_ret ?_
 cases H
 exact (ret_done hF hS (res1 Try.results12 (rvt hF)) ⟨rfl, (hS.pick [] (by kernel_rfl)).ro, hS.newC [] (by decide) (by kernel_rfl)⟩)
end Go.Cf
