/- The walks: each function returns what its model says. Printed by a program of ours. -/
import Derived.Test.YteeafoagaaedcaaZM1
import Derived.Test.YteeafoagaaedcaaZWs1
import Derived.Test.YteeafoagaaedcaaZSrt
namespace Go.Cf
open Go Go.Proofs
set_option linter.unusedVariables false
set_option maxRecDepth 20000 in
set_option maxHeartbeats 1000000 in
theorem C_maps_Keys_map_string_api_Ver_string_api_Ver_ (N : Nat) {κ0 : Gh} {w0 : World} (hfr : Fresh κ0 w0) (a1 : (Mp ByteArray T_api_Ver)) (p2 : Option Nat) (m3 : Array MapEntry) (c4 : Nat) (hR : ∀ m ∈ ([Map.mp kStr true f_api_Ver.ty p2 m3 c4 a1] : List MP), m.p κ0 w0) {r : Unit} (H : M.maps_Keys_map_string_api_Ver_string_api_Ver_ N a1 = some r) :
    Calls Try.prog 76 #[.map p2] w0 (Post [] κ0 w0 fun v κ w => ∃ b900 : Nat, v = .func (.func 113) #[] #[pt b900 0] ∧ (∀ m ∈ ([] : List MP), m.p κ w) ∧ NewC w0 κ w [.box b900 30 [(1, [.map p2])]]) := by
 have hS := SS.start hfr hR
 refine enter (N := (4)) (L := [(0, .map p2)]) Try.func76 rfl Try.ntmps76 (show 1 ≤ (4) by decide) rfl fun a hF => ?_
 unfold M.maps_Keys_map_string_api_Ver_string_api_Ver_ at H
 refine wpIn_seq_k fun K5 hK5 => ?_
 refine wpIn_region_lit ?_
 refine wc (wbx hF hS [(1, [.map p2])] (sgN 1 sgNil) fun b6 a w hF hS => ?_)
 refine wl_pure (L' := [(1, pt b6 0)]) 1 [1] hF (by kernel_rfl) fun a hF => ?_
 refine wpListIn_nil ?_
 refine hK5 _ _ ?_
 refine wpIn_seq_k fun K7 hK7 => ?_
 refine wpIn_region_lit ?_
 refine wc (wo_val hF (by kernel_rfl) (v := .func (.func 113) #[] #[pt b6 0]) (val_makeFunc (T' := 0) (caps := #[pt b6 0]) rfl (by kernel_rfl) _) fun a hF => ?_)
 refine wp 1 [2] hF fun a hF => ?_
 refine wpListIn_nil ?_
 refine hK7 _ _ ?_
 refine wpIn_ret ?_
 cases H
 exact (ret_done hF hS (res1 Try.results76 (rvt hF)) ⟨b6, rfl, (hS.pick [] rfl).ro, hS.newC [0] (by decide) (by kernel_rfl)⟩)
set_option maxRecDepth 20000 in
set_option maxHeartbeats 1000000 in
theorem C_session_Session_Writes (N : Nat) {Ms : List Nat} {κ0 : Gh} {w0 : World} (a1 : T_session_Session) (p2 : Option Nat) (m3 : Array MapEntry) (c4 : Nat) (p5 : Option Nat) (m6 : Array MapEntry) (c7 : Nat) (b8 : Nat) (hB : SB Ms κ0 w0 [.box b8 121 [su a1.snap, su a1.dep, sb a1.open_, (1, [.map p2]), (1, [.map p5])], .ext (objX p2 (.map m3 c4)), .ext (objX p5 (.map m6 c7))] [Map.mp kStr true f_api_Ver.ty p2 m3 c4 a1.writes, Map.mp kStr true f_api_Ver.ty p5 m6 c7 a1.cache]) {r : ((List T_api_Ver))} (H : M.session_Session_Writes N a1 = some r) :
    Calls Try.prog 24 #[pt b8 0] w0 (Post Ms κ0 w0 fun v κ w => ∃ (p88 : Option Addr) (c89 : Nat), v = .slice p88 (r).length c89 ∧ SS Ms κ0 w0 κ w [.box b8 121 [su a1.snap, su a1.dep, sb a1.open_, (1, [.map p2]), (1, [.map p5])], .ext (objX p2 (.map m3 c4)), .ext (objX p5 (.map m6 c7)), .tok p88 37 6 (r).length c89] [Ro.mp f_api_Ver.ty p88 c89 r]) := by
 have hS := hB.hS
 have hfr := hS.fresh
 refine enter (N := (37)) (L := [(0, pt b8 0)]) Try.func24 rfl Try.ntmps24 (show 1 ≤ (37) by decide) rfl fun a hF => ?_
 unfold M.session_Session_Writes at H
 refine wpIn_seq_k fun K9 hK9 => ?_
 refine wpIn_region_lit ?_
 refine wp 1 [0] hF fun a hF => ?_
 refine wpListIn_nil ?_
 refine hK9 _ _ ?_
 refine wpIn_seq_k fun K10 hK10 => ?_
 refine wpIn_seq_k fun K11 hK11 => ?_
 refine wpIn_region_lit ?_
 refine wp 6 [0, 8, 11] hF fun a hF => ?_
 refine wcg hF (wld hF hS 0 2 0 fun a hF => ?_)
 refine wp 2 [0, 14] hF fun a hF => ?_
 refine wpListIn_nil ?_
 refine hK11 _ _ ?_
 refine bif_split H (fun hb H => ?_) (fun hb H => ?_)
 refine cond_t hF (by kernel_rfl) hb ?_
 refine wpIn_seq_k fun K12 hK12 => ?_
 refine wpIn_region_lit ?_
 refine wp 1 [2] hF fun a hF => ?_
 refine wpListIn_nil ?_
 refine hK12 _ _ ?_
 refine wpIn_ret ?_
 have hS := hS.add (m := Ro.mp f_api_Ver.ty none 0 ([] : List T_api_Ver)) (Ro.nil f_api_Ver.ty _ _)
 have hS := hS.addNil 37 6
 cases H
 exact ret_done hF hS (res1 Try.results24 (rvt hF)) ⟨none, 0, rfl, hS.sp [1, 2, 3, 0] [0]⟩
 refine cond_f hF (by kernel_rfl) hb ?_
 refine wpIn_skip ?_
 refine hK10 _ _ ?_
 refine wpIn_seq_k fun K13 hK13 => ?_
 refine wpIn_region_lit ?_
 refine wp 1 [0, 3] hF fun a hF => ?_
 refine wpListIn_nil ?_
 refine hK13 _ _ ?_
 refine wpIn_seq_k fun K14 hK14 => ?_
 refine wpIn_seq_k fun K15 hK15 => ?_
 refine wpIn_region_lit ?_
 refine wp 3 [0, 3, 17] hF fun a hF => ?_
 refine wc (wld hF hS 0 3 0 fun a hF => ?_)
 refine bind_split H (fun x16 hx16 H => ?_)
 refine wc (wo_callP hF hS (by kernel_rfl) (by kernel_rfl) (C_maps_Keys_map_string_api_Ver_string_api_Ver_ N hS.fresh a1.writes p2 m3 c4 ((hS.pick [0] (by kernel_rfl)).ro) hx16) ?_)
 rintro _ κ w a ⟨b17, rfl, hR, hN⟩ hF hS hO
 have hS := hS.addC hO hN
 refine bind_split H (fun x18 hx18 H => ?_)
 refine wc (wo_callP hF hS (by kernel_rfl) (by kernel_rfl) (C_Sorted113 hS.fresh b17 p2 m3 c4 a1.writes (hS.ck 0 rfl).1 (fun b hb => ((hS.ck 2 rfl) b hb).1) (hS.get 0 rfl) hx18) ?_)
 rintro _ κ w a ⟨p19, c20, rfl, hR, hN⟩ hF hS hO
 have hS := hS.adds hR
 have hS := hS.addC hO hN
 refine wp 2 [0, 3, 20, 21, 22] hF fun a hF => ?_
 refine wpListIn_nil ?_
 refine hK15 _ _ ?_
 refine wpIn_block ?_
 refine loop_fuel (n := N) (fun n a w => ∃ (κ : Gh) (y71 : List T_api_Ver) (p72 : Option Addr) (c73 : Nat) (y74 : Int), Fr (37) [] [(0, pt b8 0), (3, .slice p72 (y71).length c73), (20, .slice p19 (x18).length c20), (21, vi ((x18).length : Int)), (22, vi y74)] a ∧ SS Ms κ0 w0 κ w [.box b8 121 [su a1.snap, su a1.dep, sb a1.open_, (1, [.map p2]), (1, [.map p5])], .tok p72 37 6 (y71).length c73, .tok p19 9 1 (x18).length c20, .ext (objX p2 (.map m3 c4)), .ext (objX p5 (.map m6 c7))] [Map.mp kStr true f_api_Ver.ty p2 m3 c4 a1.writes, Map.mp kStr true f_api_Ver.ty p5 m6 c7 a1.cache, Ro.mp f_api_Ver.ty p72 c73 y71, Ro.mp fStr.ty p19 c20 x18] ∧ M.session_Session_Writes_L1 N n a1 x18 y71 y74 = some r) ?_ ?_
 have hS := hS.add (m := Ro.mp f_api_Ver.ty none 0 ([] : List T_api_Ver)) (Ro.nil f_api_Ver.ty _ _)
 have hS := hS.addNil 37 6
 exact ⟨_, ([] : List T_api_Ver), none, 0, 0, hF.kp [0, 3, 20, 21, 22], hS.sp [3, 0, 1, 4, 5] [2, 3, 0, 1], H⟩
 rintro n a w ⟨κ, y71, p72, c73, y74, hF, hS, H⟩
 rcases n with _ | fuel1
 simp [M.session_Session_Writes_L1] at H
 simp only [M.session_Session_Writes_L1] at H
 refine wpIn_seq_k fun K75 hK75 => ?_
 refine wpIn_region_lit ?_
 refine wl_pure (L' := [(0, pt b8 0), (3, .slice p72 (y71).length c73), (20, .slice p19 (x18).length c20), (21, vi ((x18).length : Int)), (22, vi y74), (23, vb (decide (y74 < ((x18).length : Int))))]) 1 [0, 3, 20, 21, 22, 23] hF (by kernel_rfl) fun a hF => ?_
 refine wpListIn_nil ?_
 refine hK75 _ _ ?_
 refine wpIn_seq_k fun K76 hK76 => ?_
 refine bif_split H (fun hb H => ?_) (fun hb H => ?_)
 refine cond_t hF (by kernel_rfl) hb ?_
 refine wpIn_skip ?_
 refine hK76 _ _ ?_
 refine wpIn_seq_k fun K77 hK77 => ?_
 refine wpIn_block ?_
 refine wpIn_seq_k fun K78 hK78 => ?_
 refine wpIn_region_lit ?_
 refine bind_split H (fun x79 hx79 H => ?_)
 refine wc (wo_index hF hS (by kernel_rfl) 3 (E := 9) (sz := 1) rfl rfl rfl (by kernel_rfl) rfl hx79 (by kernel_rfl) (by kernel_rfl) fun b80 f81 a hpx79 hF => ?_)
 refine wc (wo_loadRo (t := fStr) hF hS (by kernel_rfl) 3 0 (v := .string (x79)) rfl rfl hpx79 rfl hx79 (by kernel_rfl) (by kernel_rfl) (by kernel_rfl) fun a hF => ?_)
 refine wp 1 [0, 3, 5, 20, 21, 22] hF fun a hF => ?_
 refine wpListIn_nil ?_
 refine hK78 _ _ ?_
 refine wpIn_region_lit ?_
 refine wp 4 [0, 5, 20, 21, 22, 26, 29] hF fun a hF => ?_
 refine wc (wld hF hS 0 3 0 fun a hF => ?_)
 refine wl_pure (L' := [(0, pt b8 0), (20, .slice p19 (x18).length c20), (21, vi ((x18).length : Int)), (22, vi y74), (26, .slice p72 (y71).length c73), (30, .map p2), (31, .string (x79))]) 1 [0, 20, 21, 22, 26, 30, 31] hF (by kernel_rfl) fun a hF => ?_
 refine bind_split H (fun x82 hx82 H => ?_)
 refine wc (wo_lookup (KT := 9) (E := 37) (kt := kStr) (agg := true) (t := f_api_Ver.ty) hF hS (by kernel_rfl) 3 0 (k := x79) (zc := flat [sg ByteArray.empty, sg ByteArray.empty, sb false, su 0, si 0, si 0]) (zm := (T_api_Ver.mk ByteArray.empty ByteArray.empty false 0 0 0)) rfl (by kernel_rfl) (by kernel_rfl) rfl rfl hx82 (by kernel_rfl) (by kernel_rfl) (by kernel_rfl) (fun _ _ => rfl) ?_)
 rintro _ a rfl hF
 refine wc (wo_buildN (t := f_api_Ver) (z := .agg (flat [sg ByteArray.empty, sg ByteArray.empty, sb false, su 0, si 0, si 0]).toArray) (l := [(T_api_Ver.mk x82.1.Key x82.1.Val x82.1.Gone x82.1.TS x82.1.DC x82.1.Tx)]) (vs := [(0, .agg (flat [sg x82.1.Key, sg x82.1.Val, sb x82.1.Gone, su x82.1.TS, si x82.1.DC, si x82.1.Tx]).toArray)]) (cells := #[.string (x82.1.Key), .string (x82.1.Val), vb x82.1.Gone, vu x82.1.TS, vi x82.1.DC, vi x82.1.Tx]) (E := 37) hF hS (by kernel_rfl) rfl (by kernel_rfl) (by kernel_rfl) rfl (by kernel_rfl) (by kernel_rfl) (by kernel_rfl) (by kernel_rfl) (by kernel_rfl) fun p83 κ a w hF hS => ?_)
 refine bind_split H (fun x84 hx84 H => ?_)
 refine wc (wo_append (ty := f_api_Ver.ty) hF hS (by kernel_rfl) 2 3 0 rfl rfl rfl (by kernel_rfl) (by kernel_rfl) rfl rfl rfl hx84 (by kernel_rfl) (i := Try.t37) (z := .agg (flat [sg ByteArray.empty, sg ByteArray.empty, sb false, su 0, si 0, si 0]).toArray) (by kernel_rfl) (by kernel_rfl) (by kernel_rfl) fun p85 c86 κ a w hF hS => ?_)
 refine wp 1 [0, 3, 20, 21, 22] hF fun a hF => ?_
 refine wpListIn_nil ?_
 refine hK77 _ _ ?_
 refine wpIn_region_lit ?_
 refine wp 2 [0, 3, 20, 21, 22] hF fun a hF => ?_
 refine wpListIn_nil ?_
 exact ⟨fuel1, Nat.lt_succ_self _, _, x84, p85, c86, IntKind.i64.wrap (y74 + 1), hF.kp [0, 3, 20, 21, 22], hS.sp [1, 2, 3, 4, 5] [2, 3, 0, 5], H⟩
 refine cond_f hF (by kernel_rfl) hb ?_
 refine wpIn_exit ?_
 refine hK14 _ _ ?_
 refine wpIn_seq_k fun K87 hK87 => ?_
 refine wpIn_region_lit ?_
 refine wp 2 [2] hF fun a hF => ?_
 refine wpListIn_nil ?_
 refine hK87 _ _ ?_
 refine wpIn_ret ?_
 cases H
 exact ret_done hF hS (res1 Try.results24 (rvt hF)) ⟨p72, c73, rfl, hS.sp [0, 3, 4, 1] [2]⟩
set_option maxRecDepth 20000 in
set_option maxHeartbeats 1000000 in
theorem C_law15_awake (N : Nat) {κ0 : Gh} {w0 : World} (hfr : Fresh κ0 w0)   (hR : ∀ m ∈ ([] : List MP), m.p κ0 w0) {r : (Bool)} (H : M.law15_awake N  = some r) :
    Calls Try.prog 25 #[] w0 (Post [] κ0 w0 fun v κ w => v = vb r ∧ (∀ m ∈ ([] : List MP), m.p κ w) ∧ NewC w0 κ w []) := by
 have hS := SS.start hfr hR
 refine enter (N := (29)) (L := []) Try.func25 rfl Try.ntmps25 (show 0 ≤ (29) by decide) rfl fun a hF => ?_
 unfold M.law15_awake at H
 refine wpIn_seq_k fun K1 hK1 => ?_
 refine wpIn_region_lit ?_
 refine wp 1 [] hF fun a hF => ?_
 refine wpListIn_nil ?_
 refine hK1 _ _ ?_
 refine wpIn_seq_k fun K2 hK2 => ?_
 refine wpIn_region_lit ?_
 refine bind_split H (fun x3 hx3 H => ?_)
 refine wc (wcS 0 [] hF hS (fun hS => C_session_New N    ⟨rfl, hS.pick [] (by kernel_rfl)⟩ hx3) ?_)
 rintro _ κ w a ⟨b4, p5, m6, c7, p8, m9, c10, rfl, h2⟩ hF hB
 have hS := hB _ _ h2
 refine wp 1 [1] hF fun a hF => ?_
 refine wpListIn_nil ?_
 refine hK2 _ _ ?_
 refine wpIn_seq_k fun K11 hK11 => ?_
 refine wpIn_seq_k fun K12 hK12 => ?_
 refine wpIn_region_lit ?_
 refine wp 2 [1, 6] hF fun a hF => ?_
 refine wpListIn_nil ?_
 refine hK12 _ _ ?_
 refine cond_f hF (by kernel_rfl) rfl ?_
 refine wpIn_skip ?_
 refine hK11 _ _ ?_
 refine wpIn_seq_k fun K13 hK13 => ?_
 refine wpIn_region_lit ?_
 refine wp 1 [1, 8] hF fun a hF => ?_
 refine bind_split H (fun x14 hx14 H => ?_)
 refine wc (wcS 3 [0, 1, 2] hF hS (fun hS => C_session_Session_Begin N (T_session_Session.mk x3.snap x3.dep x3.open_ x3.writes x3.cache) 5 p5 m6 c7 p8 m9 c10 b4 ⟨rfl, hS.pick [0, 1] (by kernel_rfl)⟩ hx14) ?_)
 rintro _ κ w a ⟨p15, m16, c17, p18, m19, c20, rfl, h2⟩ hF hB
 have hS := hB _ _ h2
 refine wp 5 [1, 2, 3] hF fun a hF => ?_
 refine wpListIn_nil ?_
 refine hK13 _ _ ?_
 refine wpIn_seq_k fun K21 hK21 => ?_
 refine wpIn_region_lit ?_
 refine bind_split H (fun v23 hv23 H => ?_)
 refine wl_join (fun a w => ∃ κ : Gh, Fr (29) [] [(0, vb v23)] a ∧ SS [] κ0 w0 κ w [] [] ∧ True) ?_ ?_
 refine wp 3 [1, 3, 14] hF fun a hF => ?_
 refine bif_split hv23 (fun hb hv23 => ?_) (fun hb hv23 => ?_)
 have hF := hF.boolv 14 (by kernel_rfl) hb
 refine wp 4 [1, 18] hF fun a hF => ?_
 refine bif_split hv23 (fun hb hv23 => ?_) (fun hb hv23 => ?_)
 have hF := hF.boolv 18 (by kernel_rfl) hb
 refine wp 1 [1, 18, 19] hF fun a hF => ?_
 refine bind_split hv23 (fun x24 hx24 hv23 => ?_)
 refine wcg hF (wcS 3 [0, 1, 2] hF hS (fun hS => C_session_Session_Write N (T_session_Session.mk x14.2.2.snap x14.2.2.dep x14.2.2.open_ x14.2.2.writes x14.2.2.cache) (ByteArray.mk #[97]) (ByteArray.mk #[120]) false p15 m16 c17 p18 m19 c20 b4 ⟨rfl, hS.pick [0, 1] (by kernel_rfl)⟩ hx24) ?_)
 rintro _ κ w a ⟨p25, m26, c27, p28, m29, c30, rfl, h2⟩ hF hB
 have hS := hB _ _ h2
 refine wp 3 [1, 23] hF fun a hF => ?_
 refine bif_split hv23 (fun hb hv23 => ?_) (fun hb hv23 => ?_)
 have hF := hF.boolv 23 (by kernel_rfl) hb
 refine wp 1 [23, 24] hF fun a hF => ?_
 refine bind_split hv23 (fun x31 hx31 hv23 => ?_)
 refine wcg hF (wcS 3 [0, 1, 2] hF hS (fun hS => C_session_Session_Writes N (T_session_Session.mk x24.2.snap x24.2.dep x24.2.open_ x24.2.writes x24.2.cache) p25 m26 c27 p28 m29 c30 b4 ⟨rfl, hS.pick [0, 1] (by kernel_rfl)⟩ hx31) ?_)
 rintro _ κ w a ⟨p32, c33, rfl, h2⟩ hF hB
 have hS := hB _ _ h2
 refine wp 4 [0] hF fun a hF => ?_
 refine wpListIn_nil ?_
 cases hv23
 exact ⟨_, hF.kp [0], hS.sp [] [], trivial⟩
 have hF := hF.boolv 23 (by kernel_rfl) hb
 refine wp 6 [0] hF fun a hF => ?_
 refine wpListIn_nil ?_
 cases hv23
 exact ⟨_, hF.kp [0], hS.sp [] [], trivial⟩
 have hF := hF.boolv 18 (by kernel_rfl) hb
 refine wp 11 [0] hF fun a hF => ?_
 refine wpListIn_nil ?_
 cases hv23
 exact ⟨_, hF.kp [0], hS.sp [] [], trivial⟩
 have hF := hF.boolv 14 (by kernel_rfl) hb
 refine wp 15 [0] hF fun a hF => ?_
 refine wpListIn_nil ?_
 cases hv23
 exact ⟨_, hF.kp [0], hS.sp [] [], trivial⟩
 rintro a w ⟨κ, hF, hS, -⟩
 refine hK21 _ _ ?_
 refine wpIn_ret ?_
 cases H
 exact (ret_done hF hS (res1 Try.results25 (rvt hF)) ⟨rfl, (hS.pick [] (by kernel_rfl)).ro, hS.newC [] (by decide) (by kernel_rfl)⟩)
end Go.Cf
