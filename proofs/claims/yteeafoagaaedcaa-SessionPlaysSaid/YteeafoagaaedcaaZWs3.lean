/- The walks: each function returns what its model says. Printed by a program of ours. -/
import Derived.Test.YteeafoagaaedcaaZM1
namespace Go.Cf
open Go Go.Proofs
set_option linter.unusedVariables false
set_option maxRecDepth 20000 in
set_option maxHeartbeats 1000000 in
theorem C_ref15_has (N : Nat) {κ0 : Gh} {w0 : World} (hfr : Fresh κ0 w0) (a1 : (List T_api_Ver)) (a4 : ByteArray) (p2 : Option Addr) (c3 : Nat) (hR : ∀ m ∈ ([Ro.mp f_api_Ver.ty p2 c3 a1] : List MP), m.p κ0 w0) {r : (T_api_Ver × Bool)} (H : M.ref15_has N a1 a4 = some r) :
    Calls Try.prog 77 #[.slice p2 (a1).length c3, .string (a4)] w0 (Post [] κ0 w0 fun v κ w => v = .tuple #[.agg (flat [sg r.1.Key, sg r.1.Val, sb r.1.Gone, su r.1.TS, si r.1.DC, si r.1.Tx]).toArray, vb r.2] ∧ (∀ m ∈ ([] : List MP), m.p κ w) ∧ NewC w0 κ w []) := by
 have hS := SS.start hfr hR
 refine enter (N := (25)) (L := [(0, .slice p2 (a1).length c3), (1, .string (a4))]) Try.func77 rfl Try.ntmps77 (show 2 ≤ (25) by decide) rfl fun a hF => ?_
 unfold M.ref15_has at H
 refine wpIn_seq_k fun K5 hK5 => ?_
 refine wpIn_region_lit ?_
 refine wc (wal hF hS [sg ByteArray.empty, sg ByteArray.empty, sb false, su 0, si 0, si 0] (sgN 6 sgNil) fun b6 a w hF hS => ?_)
 refine wp 1 [0, 1, 4] hF fun a hF => ?_
 refine wpListIn_nil ?_
 refine hK5 _ _ ?_
 refine wpIn_seq_k fun K7 hK7 => ?_
 refine wpIn_seq_k fun K8 hK8 => ?_
 refine wpIn_region_lit ?_
 refine wp 1 [0, 1, 4, 6] hF fun a hF => ?_
 refine wpListIn_nil ?_
 refine hK8 _ _ ?_
 refine wpIn_block ?_
 refine loop_fuel (n := N) (fun n a w => ∃ (κ : Gh) (y59 : Int), Fr (25) [] [(0, .slice p2 (a1).length c3), (1, .string (a4)), (4, pt b6 0), (6, vi y59)] a ∧ SS [] κ0 w0 κ w [.box b6 37 [sg ByteArray.empty, sg ByteArray.empty, sb false, su 0, si 0, si 0]] [Ro.mp f_api_Ver.ty p2 c3 a1] ∧ M.ref15_has_L1 N n a1 a4 y59 = some r) ?_ ?_
 exact ⟨_, 0, hF.kp [0, 1, 4, 6], hS.sp [0] [0], H⟩
 rintro n a w ⟨κ, y59, hF, hS, H⟩
 rcases n with _ | fuel1
 simp [M.ref15_has_L1] at H
 simp only [M.ref15_has_L1] at H
 refine wpIn_seq_k fun K60 hK60 => ?_
 refine wpIn_seq_k fun K61 hK61 => ?_
 refine wpIn_region_lit ?_
 refine wp 4 [0, 1, 4, 6, 10] hF fun a hF => ?_
 refine wpListIn_nil ?_
 refine hK61 _ _ ?_
 refine bif_split H (fun hb H => ?_) (fun hb H => ?_)
 refine cond_t hF (by kernel_rfl) hb ?_
 refine wpIn_skip ?_
 refine hK60 _ _ ?_
 refine wpIn_seq_k fun K62 hK62 => ?_
 refine wpIn_block ?_
 refine wpIn_seq_k fun K63 hK63 => ?_
 refine wpIn_region_lit ?_
 refine wl_pure (L' := [(0, .slice p2 (a1).length c3), (1, .string (a4)), (4, pt b6 0), (6, vi y59), (13, .slice p2 (a1).length c3), (14, vi y59)]) 2 [0, 1, 4, 6, 13, 14] hF (by kernel_rfl) fun a hF => ?_
 refine bind_split H (fun x64 hx64 H => ?_)
 refine wc (wo_index hF hS (by kernel_rfl) 0 (E := 37) (sz := 6) rfl rfl rfl (by kernel_rfl) rfl hx64 (by kernel_rfl) (by kernel_rfl) fun b65 f66 a hpx64 hF => ?_)
 refine wl_pure (L' := [(0, .slice p2 (a1).length c3), (1, .string (a4)), (4, pt b6 0), (6, vi y59), (16, .pointer (some ⟨b65, (f66 + Int.toNat y59 * 6), none⟩))]) 1 [0, 1, 4, 6, 16] hF (by kernel_rfl) fun a hF => ?_
 refine wc (wo_loadRo (t := f_api_Ver) hF hS (by kernel_rfl) 0 0 (v := .string (x64.Key)) rfl rfl hpx64 rfl hx64 (by kernel_rfl) (by kernel_rfl) (by kernel_rfl) fun a hF => ?_)
 refine wp 2 [0, 1, 4, 6, 19] hF fun a hF => ?_
 refine wpListIn_nil ?_
 refine hK63 _ _ ?_
 refine bif_split H (fun hb H => ?_) (fun hb H => ?_)
 refine cond_t hF (by kernel_rfl) hb ?_
 refine wpIn_seq_k fun K67 hK67 => ?_
 refine wpIn_region_lit ?_
 refine wl_pure (L' := [(4, pt b6 0), (20, .slice p2 (a1).length c3), (21, vi y59)]) 2 [4, 20, 21] hF (by kernel_rfl) fun a hF => ?_
 refine bind_split H (fun x68 hx68 H => ?_)
 refine wc (wo_index hF hS (by kernel_rfl) 0 (E := 37) (sz := 6) rfl rfl rfl (by kernel_rfl) rfl hx68 (by kernel_rfl) (by kernel_rfl) fun b69 f70 a hpx68 hF => ?_)
 refine wc (wo_loadRoAgg (t := f_api_Ver) hF hS (by kernel_rfl) 0 rfl rfl hpx68 rfl hx68 (by kernel_rfl) (by kernel_rfl) (by kernel_rfl) fun a hF => ?_)
 refine wc (wst hF hS 0 0 6 [sg x68.Key, sg x68.Val, sb x68.Gone, su x68.TS, si x68.DC, si x68.Tx] (sgN 6 sgNil) fun a w hF hS => ?_)
 refine wp 1 [4, 5] hF fun a hF => ?_
 refine wpListIn_nil ?_
 refine hK67 _ _ ?_
 refine wpIn_ret ?_
 have hS' := hS
 cases H
 exact (ret_done hF hS (res2 Try.results77 (rvs hF hS' 0 0 6) (rvt hF)) ⟨rfl, (hS.pick [] (by kernel_rfl)).ro, hS.newC [] (by decide) (by kernel_rfl)⟩)
 refine cond_f hF (by kernel_rfl) hb ?_
 refine wpIn_skip ?_
 refine hK62 _ _ ?_
 refine wpIn_region_lit ?_
 refine wp 3 [0, 1, 4, 6] hF fun a hF => ?_
 refine wpListIn_nil ?_
 exact ⟨fuel1, Nat.lt_succ_self _, _, IntKind.i64.wrap (y59 + 1), hF.kp [0, 1, 4, 6], hS.sp [0] [0], H⟩
 refine cond_f hF (by kernel_rfl) hb ?_
 refine wpIn_exit ?_
 refine hK7 _ _ ?_
 refine wpIn_seq_k fun K71 hK71 => ?_
 refine wpIn_region_lit ?_
 refine wp 1 [4, 24] hF fun a hF => ?_
 refine wc (wst hF hS 0 0 6 [sg ByteArray.empty, sg ByteArray.empty, sb false, su 0, si 0, si 0] (sgN 6 sgNil) fun a w hF hS => ?_)
 refine wp 1 [4, 5] hF fun a hF => ?_
 refine wpListIn_nil ?_
 refine hK71 _ _ ?_
 refine wpIn_ret ?_
 have hS' := hS
 cases H
 exact (ret_done hF hS (res2 Try.results77 (rvs hF hS' 0 0 6) (rvt hF)) ⟨rfl, (hS.pick [] (by kernel_rfl)).ro, hS.newC [] (by decide) (by kernel_rfl)⟩)
set_option maxRecDepth 20000 in
set_option maxHeartbeats 1000000 in
theorem C_ref15_put (N : Nat) {κ0 : Gh} {w0 : World} (hfr : Fresh κ0 w0) (a1 : (List T_api_Ver)) (a4 : T_api_Ver) (p2 : Option Addr) (c3 : Nat) (hR : ∀ m ∈ ([Ro.mp f_api_Ver.ty p2 c3 a1] : List MP), m.p κ0 w0) {r : ((List T_api_Ver))} (H : M.ref15_put N a1 a4 = some r) :
    Calls Try.prog 78 #[.slice p2 (a1).length c3, .agg (flat [sg a4.Key, sg a4.Val, sb a4.Gone, su a4.TS, si a4.DC, si a4.Tx]).toArray] w0 (Post [] κ0 w0 fun v κ w => ∃ (p106 : Option Addr) (c107 : Nat), v = .slice p106 (r).length c107 ∧ (∀ m ∈ ([Ro.mp f_api_Ver.ty p106 c107 r] : List MP), m.p κ w) ∧ NewC w0 κ w [.tok p106 37 6 (r).length c107]) := by
 have hS := SS.start hfr hR
 refine enter (N := (52)) (L := [(0, .slice p2 (a1).length c3), (1, .agg (flat [sg a4.Key, sg a4.Val, sb a4.Gone, su a4.TS, si a4.DC, si a4.Tx]).toArray)]) Try.func78 rfl Try.ntmps78 (show 2 ≤ (52) by decide) rfl fun a hF => ?_
 unfold M.ref15_put at H
 refine wpIn_seq_k fun K5 hK5 => ?_
 refine wpIn_region_lit ?_
 refine wc (wbx hF hS [sg a4.Key, sg a4.Val, sb a4.Gone, su a4.TS, si a4.DC, si a4.Tx] (sgN 6 sgNil) fun b6 a w hF hS => ?_)
 refine wp 1 [0, 3] hF fun a hF => ?_
 refine wpListIn_nil ?_
 refine hK5 _ _ ?_
 refine wpIn_seq_k fun K7 hK7 => ?_
 refine wpIn_region_lit ?_
 refine wp 1 [0, 3, 5] hF fun a hF => ?_
 refine wpListIn_nil ?_
 refine hK7 _ _ ?_
 refine wpIn_seq_k fun K8 hK8 => ?_
 refine wpIn_region_lit ?_
 refine wp 1 [0, 3, 5, 6] hF fun a hF => ?_
 refine wpListIn_nil ?_
 refine hK8 _ _ ?_
 refine wpIn_seq_k fun K9 hK9 => ?_
 refine wpIn_seq_k fun K10 hK10 => ?_
 refine wpIn_region_lit ?_
 refine wp 1 [0, 3, 5, 6, 7] hF fun a hF => ?_
 refine wpListIn_nil ?_
 refine hK10 _ _ ?_
 refine wpIn_block ?_
 refine loop_fuel (n := N) (fun n a w => ∃ (κ : Gh) (y61 : List T_api_Ver) (p62 : Option Addr) (c63 : Nat) (y64 : Bool) (y65 : Int), Fr (52) [] [(0, .slice p2 (a1).length c3), (3, pt b6 0), (5, .slice p62 (y61).length c63), (6, vb y64), (7, vi y65)] a ∧ SS [] κ0 w0 κ w [.box b6 37 [sg a4.Key, sg a4.Val, sb a4.Gone, su a4.TS, si a4.DC, si a4.Tx], .tok p62 37 6 (y61).length c63] [Ro.mp f_api_Ver.ty p2 c3 a1, Ro.mp f_api_Ver.ty p62 c63 y61] ∧ M.ref15_put_L1 N n a1 a4 y61 y64 y65 = some r) ?_ ?_
 have hS := hS.add (m := Ro.mp f_api_Ver.ty none 0 ([] : List T_api_Ver)) (Ro.nil f_api_Ver.ty _ _)
 have hS := hS.addNil 37 6
 exact ⟨_, ([] : List T_api_Ver), none, 0, false, 0, hF.kp [0, 3, 5, 6, 7], hS.sp [1, 0] [1, 0], H⟩
 rintro n a w ⟨κ, y61, p62, c63, y64, y65, hF, hS, H⟩
 rcases n with _ | fuel1
 simp [M.ref15_put_L1] at H
 simp only [M.ref15_put_L1] at H
 refine wpIn_seq_k fun K66 hK66 => ?_
 refine wpIn_seq_k fun K67 hK67 => ?_
 refine wpIn_region_lit ?_
 refine wp 4 [0, 3, 5, 6, 7, 11] hF fun a hF => ?_
 refine wpListIn_nil ?_
 refine hK67 _ _ ?_
 refine bif_split H (fun hb H => ?_) (fun hb H => ?_)
 refine cond_t hF (by kernel_rfl) hb ?_
 refine wpIn_skip ?_
 refine hK66 _ _ ?_
 refine seq_join (fun a w => ∃ (κ : Gh) (y68 : List T_api_Ver) (p69 : Option Addr) (c70 : Nat) (y71 : Bool), Fr (52) [] [(0, .slice p2 (a1).length c3), (3, pt b6 0), (5, .slice p69 (y68).length c70), (6, vb y71), (7, vi y65)] a ∧ SS [] κ0 w0 κ w [.box b6 37 [sg a4.Key, sg a4.Val, sb a4.Gone, su a4.TS, si a4.DC, si a4.Tx], .tok p69 37 6 (y68).length c70] [Ro.mp f_api_Ver.ty p2 c3 a1, Ro.mp f_api_Ver.ty p69 c70 y68] ∧ M.ref15_put_k2 N (M.ref15_put_L1 N fuel1) a1 a4 y65 y68 y71 = some r) ?_ ?_
 refine wpIn_block ?_
 refine seq_join (fun a w => ∃ (κ : Gh) (y72 : List T_api_Ver) (p73 : Option Addr) (c74 : Nat) (y75 : Bool), Fr (52) [] [(0, .slice p2 (a1).length c3), (3, pt b6 0), (5, .slice p73 (y72).length c74), (6, vb y75), (7, vi y65)] a ∧ SS [] κ0 w0 κ w [.box b6 37 [sg a4.Key, sg a4.Val, sb a4.Gone, su a4.TS, si a4.DC, si a4.Tx], .tok p73 37 6 (y72).length c74] [Ro.mp f_api_Ver.ty p2 c3 a1, Ro.mp f_api_Ver.ty p73 c74 y72] ∧ M.ref15_put_k3 N (M.ref15_put_L1 N fuel1) a1 a4 y65 y72 y75 = some r) ?_ ?_
 refine wpIn_seq_k fun K87 hK87 => ?_
 refine bind_split H (fun v89 hv89 H => ?_)
 refine code_join (fun a w => ∃ κ : Gh, Fr (52) [] [(0, .slice p2 (a1).length c3), (3, pt b6 0), (5, .slice p62 (y61).length c63), (6, vb y64), (7, vi y65), (25, vb v89)] a ∧ SS [] κ0 w0 κ w [.box b6 37 [sg a4.Key, sg a4.Val, sb a4.Gone, su a4.TS, si a4.DC, si a4.Tx], .tok p62 37 6 (y61).length c63] [Ro.mp f_api_Ver.ty p2 c3 a1, Ro.mp f_api_Ver.ty p62 c63 y61] ∧ True) ?_ ?_
 refine rgS hS [] ?_
 have hS := hS.drew
 refine anp [0, 1, 2] [0, 3, 5, 6, 7, 16] hF (hS.sx [0] [0, 1]) fun a hF => ?_
 refine bif_split hv89 (fun hb hv89 => ?_) (fun hb hv89 => ?_)
 have hF := hF.boolv 16 (by kernel_rfl) hb
 refine any_pure [3, 5, 6] [0, 3, 5, 6, 7, 16, 17, 19, 20] (L' := [(0, .slice p2 (a1).length c3), (3, pt b6 0), (5, .slice p62 (y61).length c63), (6, vb y64), (7, vi y65), (16, vb true), (17, pt b6 0), (19, .slice p2 (a1).length c3), (20, vi y65)]) (listed' := (bitA 12 111)) (fuel := 6) hF (hS.sx [0] [0, 1]) (by kernel_rfl) (by intro c a w t v h; cases t <;> exact h) (by kernel_rfl) rfl fun a hF => ?_
 refine atk 4 (some 18) hF (hS.sx [0] [0, 1]) rfl (vld 0 0 0) fun a hF => ?_
 refine bind_split hv89 (fun x90 hx90 hv89 => ?_)
 obtain ⟨b91, f92, hpx90⟩ := hS.ptr 0 rfl hx90
 refine atk 7 (some 21) hF (hS.sx [0] [0, 1]) rfl (fun w _ => val_index (E := 37) (sz := 6) rfl hpx90 rfl (by kernel_rfl) rfl hx90 (by kernel_rfl) (by kernel_rfl) w) fun a hF => ?_
 refine any_pure [8] [0, 3, 5, 6, 7, 16, 18, 22] (L' := [(0, .slice p2 (a1).length c3), (3, pt b6 0), (5, .slice p62 (y61).length c63), (6, vb y64), (7, vi y65), (16, vb true), (18, .string (a4.Key)), (22, .pointer (some ⟨b91, (f92 + Int.toNat y65 * 6), none⟩))]) (listed' := (bitA 12 511)) (fuel := 3) hF (hS.sx [0] [0, 1]) (by kernel_rfl) (by intro c a w t v h; cases t <;> exact h) (by kernel_rfl) rfl fun a hF => ?_
 refine atk 9 (some 23) hF (hS.sx [0] [0, 1]) rfl (val_loadRo (t := f_api_Ver) 0 0 (v := .string (x90.Key)) rfl rfl hpx90 rfl hx90 (by kernel_rfl) (by kernel_rfl) (by kernel_rfl)) fun a hF => ?_
 refine anp [10, 11] [0, 3, 5, 6, 7, 25] hF (hS.sx [0] [0, 1]) fun a hF => ?_
 refine and_ ?_
 cases hv89
 exact ⟨_, hF.kp [0, 3, 5, 6, 7, 25], hS.sp [0, 1] [0, 1], trivial⟩
 have hF := hF.boolv 16 (by kernel_rfl) hb
 refine anp [3, 4, 5, 6, 7, 8, 9, 10, 11] [0, 3, 5, 6, 7, 25] hF (hS.sx [0] [0, 1]) fun a hF => ?_
 refine and_ ?_
 cases hv89
 exact ⟨_, hF.kp [0, 3, 5, 6, 7, 25], hS.sp [0, 1] [0, 1], trivial⟩
 rintro a w ⟨κ, hF, hS, -⟩
 refine hK87 _ _ ?_
 refine bif_split H (fun hb H => ?_) (fun hb H => ?_)
 refine cond_t hF (by kernel_rfl) hb ?_
 refine wpIn_region_lit ?_
 refine wl_pure (L' := [(0, .slice p2 (a1).length c3), (3, pt b6 0), (7, vi y65), (26, .slice p62 (y61).length c63)]) 1 [0, 3, 7, 26] hF (by kernel_rfl) fun a hF => ?_
 refine wc (wls hF hS 0 0 6 fun a hF => ?_)
 refine wc (wo_buildN (t := f_api_Ver) (z := .agg (flat [sg ByteArray.empty, sg ByteArray.empty, sb false, su 0, si 0, si 0]).toArray) (l := [(T_api_Ver.mk a4.Key a4.Val a4.Gone a4.TS a4.DC a4.Tx)]) (vs := [(0, .agg (flat [sg a4.Key, sg a4.Val, sb a4.Gone, su a4.TS, si a4.DC, si a4.Tx]).toArray)]) (cells := #[.string (a4.Key), .string (a4.Val), vb a4.Gone, vu a4.TS, vi a4.DC, vi a4.Tx]) (E := 37) hF hS (by kernel_rfl) rfl (by kernel_rfl) (by kernel_rfl) rfl (by kernel_rfl) (by kernel_rfl) (by kernel_rfl) (by kernel_rfl) (by kernel_rfl) fun p93 κ a w hF hS => ?_)
 refine bind_split H (fun x94 hx94 H => ?_)
 refine wc (wo_append (ty := f_api_Ver.ty) hF hS (by kernel_rfl) 2 2 0 rfl rfl rfl (by kernel_rfl) (by kernel_rfl) rfl rfl rfl hx94 (by kernel_rfl) (i := Try.t37) (z := .agg (flat [sg ByteArray.empty, sg ByteArray.empty, sb false, su 0, si 0, si 0]).toArray) (by kernel_rfl) (by kernel_rfl) (by kernel_rfl) fun p95 c96 κ a w hF hS => ?_)
 refine wp 2 [0, 3, 5, 6, 7] hF fun a hF => ?_
 refine wpListIn_nil ?_
 exact ⟨_, x94, p95, c96, true, hF.kp [0, 3, 5, 6, 7], hS.sp [1, 2] [2, 0], H⟩
 refine cond_f hF (by kernel_rfl) hb ?_
 refine wpIn_skip ?_
 exact ⟨_, y61, p62, c63, y64, hF.kp [0, 3, 5, 6, 7], hS.sp [0, 1] [0, 1], H⟩
 rintro a w ⟨κ, y72, p73, c74, y75, hF, hS, H⟩
 unfold M.ref15_put_k3 at H
 refine wpIn_seq_k fun K76 hK76 => ?_
 refine rgS hS [] ?_
 have hS := hS.drew
 refine any_pure [0, 1, 5] [0, 3, 5, 6, 7, 30, 31, 35] (L' := [(0, .slice p2 (a1).length c3), (3, pt b6 0), (5, .slice p73 (y72).length c74), (6, vb y75), (7, vi y65), (30, .slice p2 (a1).length c3), (31, vi y65), (35, pt b6 0)]) (listed' := (bitA 8 35)) (fuel := 5) hF (hS.sx [0] [0, 1]) (by kernel_rfl) (by intro c a w t v h; cases t <;> exact h) (by kernel_rfl) rfl fun a hF => ?_
 refine bind_split H (fun x77 hx77 H => ?_)
 obtain ⟨b78, f79, hpx77⟩ := hS.ptr 0 rfl hx77
 refine atk 2 (some 32) hF (hS.sx [0] [0, 1]) rfl (fun w _ => val_index (E := 37) (sz := 6) rfl hpx77 rfl (by kernel_rfl) rfl hx77 (by kernel_rfl) (by kernel_rfl) w) fun a hF => ?_
 refine any_pure [3] [0, 3, 5, 6, 7, 33, 35] (L' := [(0, .slice p2 (a1).length c3), (3, pt b6 0), (5, .slice p73 (y72).length c74), (6, vb y75), (7, vi y65), (33, .pointer (some ⟨b78, (f79 + Int.toNat y65 * 6), none⟩)), (35, pt b6 0)]) (listed' := (bitA 8 47)) (fuel := 3) hF (hS.sx [0] [0, 1]) (by kernel_rfl) (by intro c a w t v h; cases t <;> exact h) (by kernel_rfl) rfl fun a hF => ?_
 refine atk 4 (some 34) hF (hS.sx [0] [0, 1]) rfl (val_loadRo (t := f_api_Ver) 0 0 (v := .string (x77.Key)) rfl rfl hpx77 rfl hx77 (by kernel_rfl) (by kernel_rfl) (by kernel_rfl)) fun a hF => ?_
 refine atk 6 (some 36) hF (hS.sx [0] [0, 1]) rfl (vld 0 0 0) fun a hF => ?_
 refine anp [7] [0, 3, 5, 6, 7, 37] hF (hS.sx [0] [0, 1]) fun a hF => ?_
 refine and_ ?_
 refine hK76 _ _ ?_
 refine bif_split H (fun hb H => ?_) (fun hb H => ?_)
 refine cond_t hF (by kernel_rfl) hb ?_
 refine wpIn_region_lit ?_
 refine wl_pure (L' := [(0, .slice p2 (a1).length c3), (3, pt b6 0), (6, vb y75), (7, vi y65), (38, .slice p73 (y72).length c74), (39, .slice p2 (a1).length c3), (40, vi y65)]) 3 [0, 3, 6, 7, 38, 39, 40] hF (by kernel_rfl) fun a hF => ?_
 refine bind_split H (fun x80 hx80 H => ?_)
 refine wc (wo_index hF hS (by kernel_rfl) 0 (E := 37) (sz := 6) rfl rfl rfl (by kernel_rfl) rfl hx80 (by kernel_rfl) (by kernel_rfl) fun b81 f82 a hpx80 hF => ?_)
 refine wc (wo_loadRoAgg (t := f_api_Ver) hF hS (by kernel_rfl) 0 rfl rfl hpx80 rfl hx80 (by kernel_rfl) (by kernel_rfl) (by kernel_rfl) fun a hF => ?_)
 refine wc (wo_buildN (t := f_api_Ver) (z := .agg (flat [sg ByteArray.empty, sg ByteArray.empty, sb false, su 0, si 0, si 0]).toArray) (l := [(T_api_Ver.mk x80.Key x80.Val x80.Gone x80.TS x80.DC x80.Tx)]) (vs := [(0, .agg (flat [sg x80.Key, sg x80.Val, sb x80.Gone, su x80.TS, si x80.DC, si x80.Tx]).toArray)]) (cells := #[.string (x80.Key), .string (x80.Val), vb x80.Gone, vu x80.TS, vi x80.DC, vi x80.Tx]) (E := 37) hF hS (by kernel_rfl) rfl (by kernel_rfl) (by kernel_rfl) rfl (by kernel_rfl) (by kernel_rfl) (by kernel_rfl) (by kernel_rfl) (by kernel_rfl) fun p83 κ a w hF hS => ?_)
 refine bind_split H (fun x84 hx84 H => ?_)
 refine wc (wo_append (ty := f_api_Ver.ty) hF hS (by kernel_rfl) 2 2 0 rfl rfl rfl (by kernel_rfl) (by kernel_rfl) rfl rfl rfl hx84 (by kernel_rfl) (i := Try.t37) (z := .agg (flat [sg ByteArray.empty, sg ByteArray.empty, sb false, su 0, si 0, si 0]).toArray) (by kernel_rfl) (by kernel_rfl) (by kernel_rfl) fun p85 c86 κ a w hF hS => ?_)
 refine wp 1 [0, 3, 5, 6, 7] hF fun a hF => ?_
 refine wpListIn_nil ?_
 exact ⟨_, x84, p85, c86, y75, hF.kp [0, 3, 5, 6, 7], hS.sp [1, 2] [2, 0], H⟩
 refine cond_f hF (by kernel_rfl) hb ?_
 refine wpIn_skip ?_
 exact ⟨_, y72, p73, c74, y75, hF.kp [0, 3, 5, 6, 7], hS.sp [0, 1] [0, 1], H⟩
 rintro a w ⟨κ, y68, p69, c70, y71, hF, hS, H⟩
 unfold M.ref15_put_k2 at H
 refine wpIn_region_lit ?_
 refine wp 3 [0, 3, 5, 6, 7] hF fun a hF => ?_
 refine wpListIn_nil ?_
 exact ⟨fuel1, Nat.lt_succ_self _, _, y68, p69, c70, y71, IntKind.i64.wrap (y65 + 1), hF.kp [0, 3, 5, 6, 7], hS.sp [0, 1] [0, 1], H⟩
 refine cond_f hF (by kernel_rfl) hb ?_
 refine wpIn_exit ?_
 refine hK9 _ _ ?_
 refine seq_join (fun a w => ∃ (κ : Gh) (y97 : List T_api_Ver) (p98 : Option Addr) (c99 : Nat), Fr (52) [] [(5, .slice p98 (y97).length c99)] a ∧ SS [] κ0 w0 κ w [.tok p98 37 6 (y97).length c99] [Ro.mp f_api_Ver.ty p98 c99 y97] ∧ M.ref15_put_k4 N y97 = some r) ?_ ?_
 refine wpIn_seq_k fun K101 hK101 => ?_
 refine wpIn_region_lit ?_
 refine wp 2 [3, 5, 46] hF fun a hF => ?_
 refine wpListIn_nil ?_
 refine hK101 _ _ ?_
 refine bif_split H (fun hb H => ?_) (fun hb H => ?_)
 refine cond_t hF (by kernel_rfl) hb ?_
 refine wpIn_region_lit ?_
 refine wl_pure (L' := [(3, pt b6 0), (47, .slice p62 (y61).length c63)]) 1 [3, 47] hF (by kernel_rfl) fun a hF => ?_
 refine wc (wls hF hS 0 0 6 fun a hF => ?_)
 refine wc (wo_buildN (t := f_api_Ver) (z := .agg (flat [sg ByteArray.empty, sg ByteArray.empty, sb false, su 0, si 0, si 0]).toArray) (l := [(T_api_Ver.mk a4.Key a4.Val a4.Gone a4.TS a4.DC a4.Tx)]) (vs := [(0, .agg (flat [sg a4.Key, sg a4.Val, sb a4.Gone, su a4.TS, si a4.DC, si a4.Tx]).toArray)]) (cells := #[.string (a4.Key), .string (a4.Val), vb a4.Gone, vu a4.TS, vi a4.DC, vi a4.Tx]) (E := 37) hF hS (by kernel_rfl) rfl (by kernel_rfl) (by kernel_rfl) rfl (by kernel_rfl) (by kernel_rfl) (by kernel_rfl) (by kernel_rfl) (by kernel_rfl) fun p102 κ a w hF hS => ?_)
 refine bind_split H (fun x103 hx103 H => ?_)
 refine wc (wo_append (ty := f_api_Ver.ty) hF hS (by kernel_rfl) 2 2 0 rfl rfl rfl (by kernel_rfl) (by kernel_rfl) rfl rfl rfl hx103 (by kernel_rfl) (i := Try.t37) (z := .agg (flat [sg ByteArray.empty, sg ByteArray.empty, sb false, su 0, si 0, si 0]).toArray) (by kernel_rfl) (by kernel_rfl) (by kernel_rfl) fun p104 c105 κ a w hF hS => ?_)
 refine wp 1 [5] hF fun a hF => ?_
 refine wpListIn_nil ?_
 exact ⟨_, x103, p104, c105, hF.kp [5], hS.sp [2] [0], H⟩
 refine cond_f hF (by kernel_rfl) hb ?_
 refine wpIn_skip ?_
 exact ⟨_, y61, p62, c63, hF.kp [5], hS.sp [1] [1], H⟩
 rintro a w ⟨κ, y97, p98, c99, hF, hS, H⟩
 unfold M.ref15_put_k4 at H
 refine wpIn_seq_k fun K100 hK100 => ?_
 refine wpIn_region_lit ?_
 refine wp 2 [4] hF fun a hF => ?_
 refine wpListIn_nil ?_
 refine hK100 _ _ ?_
 refine wpIn_ret ?_
 cases H
 exact (ret_done hF hS (res1 Try.results78 (rvt hF)) ⟨p98, c99, rfl, (hS.pick [0] (by kernel_rfl)).ro, hS.newC [0] (by decide) (by kernel_rfl)⟩)
set_option maxRecDepth 20000 in
set_option maxHeartbeats 1000000 in
theorem C_ref15_Session_Low (N : Nat) {Ms : List Nat} {κ0 : Gh} {w0 : World} (a1 : T_ref15_Session) (p2 : Option Addr) (c3 : Nat) (p4 : Option Addr) (c5 : Nat) (b6 : Nat) (hB : SB Ms κ0 w0 [.box b6 47 [su a1.Snap, su a1.Dep, sb a1.Opened, sl p2 (a1.Writes).length c3, sl p4 (a1.Cache).length c5]] [Ro.mp f_api_Ver.ty p2 c3 a1.Writes, Ro.mp f_api_Ver.ty p4 c5 a1.Cache]) {r : (Int)} (H : M.ref15_Session_Low N a1 = some r) :
    Calls Try.prog 38 #[pt b6 0] w0 (Post Ms κ0 w0 fun v κ w => v = vu r ∧ SS Ms κ0 w0 κ w [.box b6 47 [su a1.Snap, su a1.Dep, sb a1.Opened, sl p2 (a1.Writes).length c3, sl p4 (a1.Cache).length c5]] []) := by
 have hS := hB.hS
 have hfr := hS.fresh
 refine enter (N := (20)) (L := [(0, pt b6 0)]) Try.func38 rfl Try.ntmps38 (show 1 ≤ (20) by decide) rfl fun a hF => ?_
 unfold M.ref15_Session_Low at H
 refine wpIn_seq_k fun K7 hK7 => ?_
 refine wpIn_region_lit ?_
 refine wp 1 [0] hF fun a hF => ?_
 refine wpListIn_nil ?_
 refine hK7 _ _ ?_
 refine wpIn_seq_k fun K8 hK8 => ?_
 refine wpIn_seq_k fun K9 hK9 => ?_
 refine rgS hS [] ?_
 have hS := hS.drew
 refine anp [0, 1, 2, 4, 5, 6] [0, 5, 9] hF (hS.sx [0] [0, 1]) fun a hF => ?_
 refine atk 3 (some 6) hF (hS.sx [0] [0, 1]) rfl (vld 0 1 0) fun a hF => ?_
 refine atk 7 (some 10) hF (hS.sx [0] [0, 1]) rfl (vld 0 0 0) fun a hF => ?_
 refine anp [8] [0, 11] hF (hS.sx [0] [0, 1]) fun a hF => ?_
 refine and_ ?_
 refine hK9 _ _ ?_
 refine bif_split H (fun hb H => ?_) (fun hb H => ?_)
 refine cond_t hF (by kernel_rfl) hb ?_
 refine wpIn_seq_k fun K10 hK10 => ?_
 refine wpIn_region_lit ?_
 refine wp 3 [14] hF fun a hF => ?_
 refine wc (wld hF hS 0 1 0 fun a hF => ?_)
 refine wp 1 [2] hF fun a hF => ?_
 refine wpListIn_nil ?_
 refine hK10 _ _ ?_
 refine wpIn_ret ?_
 cases H
 exact ret_done hF hS (res1 Try.results38 (rvt hF)) ⟨rfl, hS.sp [0] []⟩
 refine cond_f hF (by kernel_rfl) hb ?_
 refine wpIn_skip ?_
 refine hK8 _ _ ?_
 refine wpIn_seq_k fun K11 hK11 => ?_
 refine wpIn_region_lit ?_
 refine wp 3 [18] hF fun a hF => ?_
 refine wc (wld hF hS 0 0 0 fun a hF => ?_)
 refine wp 1 [2] hF fun a hF => ?_
 refine wpListIn_nil ?_
 refine hK11 _ _ ?_
 refine wpIn_ret ?_
 cases H
 exact ret_done hF hS (res1 Try.results38 (rvt hF)) ⟨rfl, hS.sp [0] []⟩
set_option maxRecDepth 20000 in
set_option maxHeartbeats 1000000 in
theorem C_ref15_Session_Begin (N : Nat) {Ms : List Nat} {κ0 : Gh} {w0 : World} (a1 : T_ref15_Session) (a7 : Int) (p2 : Option Addr) (c3 : Nat) (p4 : Option Addr) (c5 : Nat) (b6 : Nat) (hB : SB Ms κ0 w0 [.box b6 47 [su a1.Snap, su a1.Dep, sb a1.Opened, sl p2 (a1.Writes).length c3, sl p4 (a1.Cache).length c5], .tok p2 37 6 (a1.Writes).length c3, .tok p4 37 6 (a1.Cache).length c5] [Ro.mp f_api_Ver.ty p2 c3 a1.Writes, Ro.mp f_api_Ver.ty p4 c5 a1.Cache]) {r : (Int × Int × T_ref15_Session)} (H : M.ref15_Session_Begin N a1 a7 = some r) :
    Calls Try.prog 30 #[pt b6 0, vu a7] w0 (Post Ms κ0 w0 fun v κ w => ∃ (p90 : Option Addr) (c91 : Nat) (p92 : Option Addr) (c93 : Nat), v = .tuple #[vu r.1, vi r.2.1] ∧ SS Ms κ0 w0 κ w [.box b6 47 [su r.2.2.Snap, su r.2.2.Dep, sb r.2.2.Opened, sl p90 (r.2.2.Writes).length c91, sl p92 (r.2.2.Cache).length c93], .tok p90 37 6 (r.2.2.Writes).length c91, .tok p92 37 6 (r.2.2.Cache).length c93] [Ro.mp f_api_Ver.ty p90 c91 r.2.2.Writes, Ro.mp f_api_Ver.ty p92 c93 r.2.2.Cache]) := by
 have hS := hB.hS
 have hfr := hS.fresh
 refine enter (N := (68)) (L := [(0, pt b6 0), (1, vu a7)]) Try.func30 rfl Try.ntmps30 (show 2 ≤ (68) by decide) rfl fun a hF => ?_
 unfold M.ref15_Session_Begin at H
 refine wpIn_seq_k fun K8 hK8 => ?_
 refine wpIn_region_lit ?_
 refine wp 2 [0, 1] hF fun a hF => ?_
 refine wpListIn_nil ?_
 refine hK8 _ _ ?_
 refine wpIn_seq_k fun K9 hK9 => ?_
 refine wpIn_seq_k fun K10 hK10 => ?_
 refine wpIn_region_lit ?_
 refine wp 3 [0, 1, 10] hF fun a hF => ?_
 refine wc (wld hF hS 0 2 0 fun a hF => ?_)
 refine wpListIn_nil ?_
 refine hK10 _ _ ?_
 refine bif_split H (fun hb H => ?_) (fun hb H => ?_)
 refine cond_t hF (by kernel_rfl) hb ?_
 refine wpIn_seq_k fun K11 hK11 => ?_
 refine wpIn_region_lit ?_
 refine wp 2 [4, 5] hF fun a hF => ?_
 refine wpListIn_nil ?_
 refine hK11 _ _ ?_
 refine wpIn_ret ?_
 cases H
 exact ret_done hF hS (res2 Try.results30 (rvt hF) (rvt hF)) ⟨p2, c3, p4, c5, rfl, hS.sp [0, 1, 2] [0, 1]⟩
 refine cond_f hF (by kernel_rfl) hb ?_
 refine wpIn_skip ?_
 refine hK9 _ _ ?_
 refine wpIn_seq_k fun K12 hK12 => ?_
 refine wpIn_region_lit ?_
 refine wp 4 [0, 1, 13, 15] hF fun a hF => ?_
 refine wc (wst hF hS 0 2 1 [sb true] (sgN 1 sgNil) fun a w hF hS => ?_)
 refine wp 2 [0, 1, 17] hF fun a hF => ?_
 refine wc (wst hF hS 0 3 1 [sl none 0 0] (sgN 1 sgNil) fun a w hF hS => ?_)
 refine wpListIn_nil ?_
 refine hK12 _ _ ?_
 refine seq_join (fun a w => ∃ (κ : Gh) (y13 : Int), Fr (68) [] [(0, pt b6 0)] a ∧ SS Ms κ0 w0 κ w [.box b6 47 [su y13, su a1.Dep, sb true, sl none 0 0, sl p4 (a1.Cache).length c5], .tok p4 37 6 (a1.Cache).length c5] [Ro.mp f_api_Ver.ty none 0 ([] : List T_api_Ver), Ro.mp f_api_Ver.ty p4 c5 a1.Cache] ∧ M.ref15_Session_Begin_k1 N a1 y13 = some r) ?_ ?_
 refine wpIn_seq_k fun K89 hK89 => ?_
 refine wpIn_region_lit ?_
 refine wp 4 [0, 1, 18, 21] hF fun a hF => ?_
 refine wc (wld hF hS 0 0 0 fun a hF => ?_)
 refine wp 1 [0, 1, 23] hF fun a hF => ?_
 refine wpListIn_nil ?_
 refine hK89 _ _ ?_
 refine bif_split H (fun hb H => ?_) (fun hb H => ?_)
 refine cond_t hF (by kernel_rfl) hb ?_
 refine wpIn_region_lit ?_
 refine wp 4 [0, 25, 27] hF fun a hF => ?_
 refine wc (wst hF hS 0 0 1 [su a7] (sgN 1 sgNil) fun a w hF hS => ?_)
 refine wpListIn_nil ?_
 have hS := hS.add (m := Ro.mp f_api_Ver.ty none 0 ([] : List T_api_Ver)) (Ro.nil f_api_Ver.ty _ _)
 exact ⟨_, a7, hF.kp [0], hS.sp [0, 2] [0, 2], H⟩
 refine cond_f hF (by kernel_rfl) hb ?_
 refine wpIn_skip ?_
 have hS := hS.add (m := Ro.mp f_api_Ver.ty none 0 ([] : List T_api_Ver)) (Ro.nil f_api_Ver.ty _ _)
 exact ⟨_, a1.Snap, hF.kp [0], hS.sp [0, 2] [0, 2], H⟩
 rintro a w ⟨κ, y13, hF, hS, H⟩
 unfold M.ref15_Session_Begin_k1 at H
 refine wpIn_seq_k fun K14 hK14 => ?_
 refine wpIn_region_lit ?_
 refine wp 1 [0, 6] hF fun a hF => ?_
 refine wpListIn_nil ?_
 refine hK14 _ _ ?_
 refine wpIn_seq_k fun K15 hK15 => ?_
 refine wpIn_seq_k fun K16 hK16 => ?_
 refine wpIn_region_lit ?_
 refine wp 1 [0, 6, 7] hF fun a hF => ?_
 refine wpListIn_nil ?_
 refine hK16 _ _ ?_
 refine wpIn_block ?_
 refine loop_fuel (n := N) (fun n a w => ∃ (κ : Gh) (y67 : List T_api_Ver) (p68 : Option Addr) (c69 : Nat) (y70 : Int), Fr (68) [] [(0, pt b6 0), (6, .slice p68 (y67).length c69), (7, vi y70)] a ∧ SS Ms κ0 w0 κ w [.box b6 47 [su y13, su a1.Dep, sb true, sl none 0 0, sl p4 (a1.Cache).length c5], .tok p68 37 6 (y67).length c69, .tok p4 37 6 (a1.Cache).length c5] [Ro.mp f_api_Ver.ty p68 c69 y67, Ro.mp f_api_Ver.ty none 0 ([] : List T_api_Ver), Ro.mp f_api_Ver.ty p4 c5 a1.Cache] ∧ M.ref15_Session_Begin_L2 N n a1 y13 y67 y70 = some r) ?_ ?_
 have hS := hS.addNil 37 6
 exact ⟨_, ([] : List T_api_Ver), none, 0, 0, hF.kp [0, 6, 7], hS.sp [1, 0, 2] [0, 0, 1], H⟩
 rintro n a w ⟨κ, y67, p68, c69, y70, hF, hS, H⟩
 rcases n with _ | fuel2
 simp [M.ref15_Session_Begin_L2] at H
 simp only [M.ref15_Session_Begin_L2] at H
 refine wpIn_seq_k fun K71 hK71 => ?_
 refine wpIn_seq_k fun K72 hK72 => ?_
 refine wpIn_region_lit ?_
 refine wp 4 [0, 6, 7, 28, 31] hF fun a hF => ?_
 refine wc (wld hF hS 0 4 0 fun a hF => ?_)
 refine wp 2 [0, 6, 7, 34] hF fun a hF => ?_
 refine wpListIn_nil ?_
 refine hK72 _ _ ?_
 refine bif_split H (fun hb H => ?_) (fun hb H => ?_)
 refine cond_t hF (by kernel_rfl) hb ?_
 refine wpIn_skip ?_
 refine hK71 _ _ ?_
 refine seq_join (fun a w => ∃ (κ : Gh) (y73 : List T_api_Ver) (p74 : Option Addr) (c75 : Nat), Fr (68) [] [(0, pt b6 0), (6, .slice p74 (y73).length c75), (7, vi y70)] a ∧ SS Ms κ0 w0 κ w [.box b6 47 [su y13, su a1.Dep, sb true, sl none 0 0, sl p4 (a1.Cache).length c5], .tok p74 37 6 (y73).length c75, .tok p4 37 6 (a1.Cache).length c5] [Ro.mp f_api_Ver.ty p74 c75 y73, Ro.mp f_api_Ver.ty none 0 ([] : List T_api_Ver), Ro.mp f_api_Ver.ty p4 c5 a1.Cache] ∧ M.ref15_Session_Begin_k3 N (M.ref15_Session_Begin_L2 N fuel2) a1 y13 y70 y73 = some r) ?_ ?_
 refine wpIn_block ?_
 refine wpIn_seq_k fun K76 hK76 => ?_
 refine rgS hS [] ?_
 have hS := hS.drew
 refine any_pure [0, 1, 2, 4, 8, 9, 10] [0, 6, 7, 39, 41, 47] (L' := [(0, pt b6 0), (6, .slice p68 (y67).length c69), (7, vi y70), (39, pt b6 4), (41, vi y70), (47, pt b6 0)]) (listed' := (bitA 13 1815)) (fuel := 6) hF (hS.sx [0] [0, 1, 2]) (by kernel_rfl) (by intro c a w t v h; cases t <;> exact h) (by kernel_rfl) rfl fun a hF => ?_
 refine atk 3 (some 40) hF (hS.sx [0] [0, 1, 2]) rfl (vld 0 4 0) fun a hF => ?_
 refine bind_split H (fun x77 hx77 H => ?_)
 obtain ⟨b78, f79, hpx77⟩ := hS.ptr 2 rfl hx77
 refine atk 5 (some 42) hF (hS.sx [0] [0, 1, 2]) rfl (fun w _ => val_index (E := 37) (sz := 6) rfl hpx77 rfl (by kernel_rfl) rfl hx77 (by kernel_rfl) (by kernel_rfl) w) fun a hF => ?_
 refine any_pure [6] [0, 6, 7, 43, 47] (L' := [(0, pt b6 0), (6, .slice p68 (y67).length c69), (7, vi y70), (43, .pointer (some ⟨b78, (f79 + Int.toNat y70 * 6) + 3, none⟩)), (47, pt b6 0)]) (listed' := (bitA 13 1919)) (fuel := 3) hF (hS.sx [0] [0, 1, 2]) (by kernel_rfl) (by intro c a w t v h; cases t <;> exact h) (by kernel_rfl) rfl fun a hF => ?_
 refine atk 7 (some 44) hF (hS.sx [0] [0, 1, 2]) rfl (val_loadRo (t := f_api_Ver) 2 3 (v := vu x77.TS) rfl rfl hpx77 rfl hx77 (by kernel_rfl) (by kernel_rfl) (by kernel_rfl)) fun a hF => ?_
 refine atk 11 (some 48) hF (hS.sx [0] [0, 1, 2]) rfl (vld 0 0 0) fun a hF => ?_
 refine anp [12] [0, 6, 7, 49] hF (hS.sx [0] [0, 1, 2]) fun a hF => ?_
 refine and_ ?_
 refine hK76 _ _ ?_
 refine bif_split H (fun hb H => ?_) (fun hb H => ?_)
 refine cond_t hF (by kernel_rfl) hb ?_
 refine wpIn_region_lit ?_
 refine wp 4 [0, 7, 50, 53] hF fun a hF => ?_
 refine wc (wld hF hS 0 4 0 fun a hF => ?_)
 refine wl_pure (L' := [(0, pt b6 0), (7, vi y70), (50, .slice p68 (y67).length c69), (54, .slice p4 (a1.Cache).length c5), (55, vi y70)]) 1 [0, 7, 50, 54, 55] hF (by kernel_rfl) fun a hF => ?_
 refine bind_split H (fun x80 hx80 H => ?_)
 refine wc (wo_index hF hS (by kernel_rfl) 2 (E := 37) (sz := 6) rfl rfl rfl (by kernel_rfl) rfl hx80 (by kernel_rfl) (by kernel_rfl) fun b81 f82 a hpx80 hF => ?_)
 refine wc (wo_loadRoAgg (t := f_api_Ver) hF hS (by kernel_rfl) 2 rfl rfl hpx80 rfl hx80 (by kernel_rfl) (by kernel_rfl) (by kernel_rfl) fun a hF => ?_)
 refine wc (wo_buildN (t := f_api_Ver) (z := .agg (flat [sg ByteArray.empty, sg ByteArray.empty, sb false, su 0, si 0, si 0]).toArray) (l := [(T_api_Ver.mk x80.Key x80.Val x80.Gone x80.TS x80.DC x80.Tx)]) (vs := [(0, .agg (flat [sg x80.Key, sg x80.Val, sb x80.Gone, su x80.TS, si x80.DC, si x80.Tx]).toArray)]) (cells := #[.string (x80.Key), .string (x80.Val), vb x80.Gone, vu x80.TS, vi x80.DC, vi x80.Tx]) (E := 37) hF hS (by kernel_rfl) rfl (by kernel_rfl) (by kernel_rfl) rfl (by kernel_rfl) (by kernel_rfl) (by kernel_rfl) (by kernel_rfl) (by kernel_rfl) fun p83 κ a w hF hS => ?_)
 refine bind_split H (fun x84 hx84 H => ?_)
 refine wc (wo_append (ty := f_api_Ver.ty) hF hS (by kernel_rfl) 2 1 0 rfl rfl rfl (by kernel_rfl) (by kernel_rfl) rfl rfl rfl hx84 (by kernel_rfl) (i := Try.t37) (z := .agg (flat [sg ByteArray.empty, sg ByteArray.empty, sb false, su 0, si 0, si 0]).toArray) (by kernel_rfl) (by kernel_rfl) (by kernel_rfl) fun p85 c86 κ a w hF hS => ?_)
 refine wp 1 [0, 6, 7] hF fun a hF => ?_
 refine wpListIn_nil ?_
 exact ⟨_, x84, p85, c86, hF.kp [0, 6, 7], hS.sp [1, 2, 3] [0, 3, 4], H⟩
 refine cond_f hF (by kernel_rfl) hb ?_
 refine wpIn_skip ?_
 exact ⟨_, y67, p68, c69, hF.kp [0, 6, 7], hS.sp [0, 1, 2] [0, 1, 2], H⟩
 rintro a w ⟨κ, y73, p74, c75, hF, hS, H⟩
 unfold M.ref15_Session_Begin_k3 at H
 refine wpIn_region_lit ?_
 refine wp 3 [0, 6, 7] hF fun a hF => ?_
 refine wpListIn_nil ?_
 exact ⟨fuel2, Nat.lt_succ_self _, _, y73, p74, c75, IntKind.i64.wrap (y70 + 1), hF.kp [0, 6, 7], hS.sp [0, 1, 2] [0, 1, 2], H⟩
 refine cond_f hF (by kernel_rfl) hb ?_
 refine wpIn_exit ?_
 refine hK15 _ _ ?_
 refine wpIn_seq_k fun K87 hK87 => ?_
 refine wpIn_region_lit ?_
 refine wp 4 [0, 61, 63] hF fun a hF => ?_
 refine wc (wst hF hS 0 4 1 [sl p68 (y67).length c69] (sgN 1 sgNil) fun a w hF hS => ?_)
 refine wpListIn_nil ?_
 refine hK87 _ _ ?_
 refine wpIn_seq_k fun K88 hK88 => ?_
 refine wpIn_region_lit ?_
 refine wp 3 [66] hF fun a hF => ?_
 refine wc (wld hF hS 0 0 0 fun a hF => ?_)
 refine wp 2 [4, 5] hF fun a hF => ?_
 refine wpListIn_nil ?_
 refine hK88 _ _ ?_
 refine wpIn_ret ?_
 have hS := hS.addNil 37 6
 cases H
 exact ret_done hF hS (res2 Try.results30 (rvt hF) (rvt hF)) ⟨none, 0, p68, c69, rfl, hS.sp [1, 0, 2] [1, 0]⟩
set_option maxRecDepth 20000 in
set_option maxHeartbeats 1000000 in
theorem C_ref15_Session_Write (N : Nat) {Ms : List Nat} {κ0 : Gh} {w0 : World} (a1 : T_ref15_Session) (a7 : ByteArray) (a8 : ByteArray) (a9 : Bool) (p2 : Option Addr) (c3 : Nat) (p4 : Option Addr) (c5 : Nat) (b6 : Nat) (hB : SB Ms κ0 w0 [.box b6 47 [su a1.Snap, su a1.Dep, sb a1.Opened, sl p2 (a1.Writes).length c3, sl p4 (a1.Cache).length c5], .tok p2 37 6 (a1.Writes).length c3, .tok p4 37 6 (a1.Cache).length c5] [Ro.mp f_api_Ver.ty p2 c3 a1.Writes, Ro.mp f_api_Ver.ty p4 c5 a1.Cache]) {r : (Int × T_ref15_Session)} (H : M.ref15_Session_Write N a1 a7 a8 a9 = some r) :
    Calls Try.prog 31 #[pt b6 0, .string (a7), .string (a8), vb a9] w0 (Post Ms κ0 w0 fun v κ w => ∃ (p37 : Option Addr) (c38 : Nat) (p39 : Option Addr) (c40 : Nat), v = vi r.1 ∧ SS Ms κ0 w0 κ w [.box b6 47 [su r.2.Snap, su r.2.Dep, sb r.2.Opened, sl p37 (r.2.Writes).length c38, sl p39 (r.2.Cache).length c40], .tok p37 37 6 (r.2.Writes).length c38, .tok p39 37 6 (r.2.Cache).length c40] [Ro.mp f_api_Ver.ty p37 c38 r.2.Writes, Ro.mp f_api_Ver.ty p39 c40 r.2.Cache]) := by
 have hS := hB.hS
 have hfr := hS.fresh
 refine enter (N := (64)) (L := [(0, pt b6 0), (1, .string (a7)), (2, .string (a8)), (3, vb a9)]) Try.func31 rfl Try.ntmps31 (show 4 ≤ (64) by decide) rfl fun a hF => ?_
 unfold M.ref15_Session_Write at H
 refine wpIn_seq_k fun K10 hK10 => ?_
 refine wpIn_region_lit ?_
 refine wp 1 (rg 4) hF fun a hF => ?_
 refine wpListIn_nil ?_
 refine hK10 _ _ ?_
 refine wpIn_seq_k fun K11 hK11 => ?_
 refine wpIn_seq_k fun K12 hK12 => ?_
 refine wpIn_region_lit ?_
 refine wp 3 [0, 1, 2, 3, 13] hF fun a hF => ?_
 refine wc (wld hF hS 0 2 0 fun a hF => ?_)
 refine wp 1 [0, 1, 2, 3, 15] hF fun a hF => ?_
 refine wpListIn_nil ?_
 refine hK12 _ _ ?_
 refine bif_split H (fun hb H => ?_) (fun hb H => ?_)
 refine cond_t hF (by kernel_rfl) hb ?_
 refine wpIn_seq_k fun K13 hK13 => ?_
 refine wpIn_region_lit ?_
 refine wp 1 [8] hF fun a hF => ?_
 refine wpListIn_nil ?_
 refine hK13 _ _ ?_
 refine wpIn_ret ?_
 cases H
 exact ret_done hF hS (res1 Try.results31 (rvt hF)) ⟨p2, c3, p4, c5, rfl, hS.sp [0, 1, 2] [0, 1]⟩
 refine cond_f hF (by kernel_rfl) hb ?_
 refine wpIn_skip ?_
 refine hK11 _ _ ?_
 refine wpIn_seq_k fun K14 hK14 => ?_
 refine wpIn_seq_k fun K15 hK15 => ?_
 refine wpIn_region_lit ?_
 refine bind_split H (fun v17 hv17 H => ?_)
 refine wl_join (fun a w => ∃ κ : Gh, Fr (64) [] [(0, pt b6 0), (1, .string (a7)), (2, .string (a8)), (3, vb a9), (23, vb v17)] a ∧ SS Ms κ0 w0 κ w [.box b6 47 [su a1.Snap, su a1.Dep, sb a1.Opened, sl p2 (a1.Writes).length c3, sl p4 (a1.Cache).length c5], .tok p2 37 6 (a1.Writes).length c3, .tok p4 37 6 (a1.Cache).length c5] [Ro.mp f_api_Ver.ty p2 c3 a1.Writes, Ro.mp f_api_Ver.ty p4 c5 a1.Cache] ∧ True) ?_ ?_
 refine wp 4 [0, 1, 2, 3, 19] hF fun a hF => ?_
 refine bif_split hv17 (fun hb hv17 => ?_) (fun hb hv17 => ?_)
 have hF := hF.boolv 19 (by kernel_rfl) hb
 refine wp 4 [0, 1, 2, 3, 23] hF fun a hF => ?_
 refine wpListIn_nil ?_
 cases hv17
 exact ⟨_, hF.kp [0, 1, 2, 3, 23], hS.sp [0, 1, 2] [0, 1], trivial⟩
 have hF := hF.boolv 19 (by kernel_rfl) hb
 refine wp 4 [0, 1, 2, 3, 23] hF fun a hF => ?_
 refine wpListIn_nil ?_
 cases hv17
 exact ⟨_, hF.kp [0, 1, 2, 3, 23], hS.sp [0, 1, 2] [0, 1], trivial⟩
 rintro a w ⟨κ, hF, hS, -⟩
 refine hK15 _ _ ?_
 refine bif_split H (fun hb H => ?_) (fun hb H => ?_)
 refine cond_t hF (by kernel_rfl) hb ?_
 refine wpIn_seq_k fun K18 hK18 => ?_
 refine wpIn_region_lit ?_
 refine wp 1 [8] hF fun a hF => ?_
 refine wpListIn_nil ?_
 refine hK18 _ _ ?_
 refine wpIn_ret ?_
 cases H
 exact ret_done hF hS (res1 Try.results31 (rvt hF)) ⟨p2, c3, p4, c5, rfl, hS.sp [0, 1, 2] [0, 1]⟩
 refine cond_f hF (by kernel_rfl) hb ?_
 refine wpIn_skip ?_
 refine hK14 _ _ ?_
 refine wpIn_seq_k fun K19 hK19 => ?_
 refine wpIn_seq_k fun K20 hK20 => ?_
 refine wpIn_region_lit ?_
 refine bind_split H (fun v22 hv22 H => ?_)
 refine wl_join (fun a w => ∃ κ : Gh, Fr (64) [] [(0, pt b6 0), (1, .string (a7)), (2, .string (a8)), (3, vb a9), (32, vb v22)] a ∧ SS Ms κ0 w0 κ w [.box b6 47 [su a1.Snap, su a1.Dep, sb a1.Opened, sl p2 (a1.Writes).length c3, sl p4 (a1.Cache).length c5], .tok p2 37 6 (a1.Writes).length c3, .tok p4 37 6 (a1.Cache).length c5] [Ro.mp f_api_Ver.ty p2 c3 a1.Writes, Ro.mp f_api_Ver.ty p4 c5 a1.Cache] ∧ True) ?_ ?_
 refine wp 3 [0, 1, 2, 3, 26] hF fun a hF => ?_
 refine bif_split hv22 (fun hb hv22 => ?_) (fun hb hv22 => ?_)
 have hF := hF.boolv 26 (by kernel_rfl) hb
 refine wp 6 [0, 1, 2, 3, 32] hF fun a hF => ?_
 refine wpListIn_nil ?_
 cases hv22
 exact ⟨_, hF.kp [0, 1, 2, 3, 32], hS.sp [0, 1, 2] [0, 1], trivial⟩
 have hF := hF.boolv 26 (by kernel_rfl) hb
 refine wp 2 [0, 1, 2, 3, 26, 28] hF fun a hF => ?_
 refine bif_split hv22 (fun hb hv22 => ?_) (fun hb hv22 => ?_)
 have hF := hF.boolv 28 (by kernel_rfl) hb
 refine wp 4 [0, 1, 2, 3, 32] hF fun a hF => ?_
 refine wpListIn_nil ?_
 cases hv22
 exact ⟨_, hF.kp [0, 1, 2, 3, 32], hS.sp [0, 1, 2] [0, 1], trivial⟩
 have hF := hF.boolv 28 (by kernel_rfl) hb
 refine wp 4 [0, 1, 2, 3, 32] hF fun a hF => ?_
 refine wpListIn_nil ?_
 cases hv22
 exact ⟨_, hF.kp [0, 1, 2, 3, 32], hS.sp [0, 1, 2] [0, 1], trivial⟩
 rintro a w ⟨κ, hF, hS, -⟩
 refine hK20 _ _ ?_
 refine bif_split H (fun hb H => ?_) (fun hb H => ?_)
 refine cond_t hF (by kernel_rfl) hb ?_
 refine wpIn_seq_k fun K23 hK23 => ?_
 refine wpIn_region_lit ?_
 refine wp 1 [8] hF fun a hF => ?_
 refine wpListIn_nil ?_
 refine hK23 _ _ ?_
 refine wpIn_ret ?_
 cases H
 exact ret_done hF hS (res1 Try.results31 (rvt hF)) ⟨p2, c3, p4, c5, rfl, hS.sp [0, 1, 2] [0, 1]⟩
 refine cond_f hF (by kernel_rfl) hb ?_
 refine wpIn_skip ?_
 refine hK19 _ _ ?_
 refine wpIn_seq_k fun K24 hK24 => ?_
 refine wpIn_seq_k fun K25 hK25 => ?_
 refine wpIn_region_lit ?_
 refine wp 3 [0, 1, 2, 3, 36] hF fun a hF => ?_
 refine wc (wld hF hS 0 3 0 fun a hF => ?_)
 refine wp 1 [0, 1, 2, 3, 37, 38] hF fun a hF => ?_
 refine bind_split H (fun x26 hx26 H => ?_)
 refine wc (wo_callP hF hS (by kernel_rfl) (by kernel_rfl) (C_ref15_has N hS.fresh a1.Writes a7 p2 c3 ((hS.pick [0] (by kernel_rfl)).ro) hx26) ?_)
 rintro _ κ w a ⟨rfl, hR, hN⟩ hF hS hO
 refine wp 3 [0, 1, 2, 3, 40, 41] hF fun a hF => ?_
 refine wc (wal hF hS [sg ByteArray.empty, sg ByteArray.empty, sb false, su 0, si 0, si 0] (sgN 6 sgNil) fun b27 a w hF hS => ?_)
 refine wc (wst hF hS 0 0 6 [sg x26.1.Key, sg x26.1.Val, sb x26.1.Gone, su x26.1.TS, si x26.1.DC, si x26.1.Tx] (sgN 6 sgNil) fun a w hF hS => ?_)
 refine wp 1 [0, 1, 2, 3, 10] hF fun a hF => ?_
 refine wpListIn_nil ?_
 refine hK25 _ _ ?_
 refine wpIn_seq_k fun K28 hK28 => ?_
 refine wpIn_region_lit ?_
 refine bind_split H (fun v30 hv30 H => ?_)
 refine wl_join (fun a w => ∃ κ : Gh, Fr (64) [] [(0, pt b6 0), (1, .string (a7)), (2, .string (a8)), (3, vb a9), (51, vb v30)] a ∧ SS Ms κ0 w0 κ w [.box b6 47 [su a1.Snap, su a1.Dep, sb a1.Opened, sl p2 (a1.Writes).length c3, sl p4 (a1.Cache).length c5], .tok p2 37 6 (a1.Writes).length c3, .tok p4 37 6 (a1.Cache).length c5] [Ro.mp f_api_Ver.ty p2 c3 a1.Writes, Ro.mp f_api_Ver.ty p4 c5 a1.Cache] ∧ True) ?_ ?_
 refine wp 3 [0, 1, 2, 3, 44] hF fun a hF => ?_
 refine bif_split hv30 (fun hb hv30 => ?_) (fun hb hv30 => ?_)
 have hF := hF.boolv 44 (by kernel_rfl) hb
 refine wp 3 [0, 1, 2, 3, 44, 47] hF fun a hF => ?_
 refine wcg hF (wld hF hS 1 3 0 fun a hF => ?_)
 refine wp 3 [0, 1, 2, 3, 51] hF fun a hF => ?_
 refine wpListIn_nil ?_
 cases hv30
 exact ⟨_, hF.kp [0, 1, 2, 3, 51], hS.sp [1, 2, 3] [0, 1], trivial⟩
 have hF := hF.boolv 44 (by kernel_rfl) hb
 refine wp 7 [0, 1, 2, 3, 51] hF fun a hF => ?_
 refine wpListIn_nil ?_
 cases hv30
 exact ⟨_, hF.kp [0, 1, 2, 3, 51], hS.sp [1, 2, 3] [0, 1], trivial⟩
 rintro a w ⟨κ, hF, hS, -⟩
 refine hK28 _ _ ?_
 refine bif_split H (fun hb H => ?_) (fun hb H => ?_)
 refine cond_t hF (by kernel_rfl) hb ?_
 refine wpIn_seq_k fun K31 hK31 => ?_
 refine wpIn_region_lit ?_
 refine wp 1 [8] hF fun a hF => ?_
 refine wpListIn_nil ?_
 refine hK31 _ _ ?_
 refine wpIn_ret ?_
 cases H
 exact ret_done hF hS (res1 Try.results31 (rvt hF)) ⟨p2, c3, p4, c5, rfl, hS.sp [0, 1, 2] [0, 1]⟩
 refine cond_f hF (by kernel_rfl) hb ?_
 refine wpIn_skip ?_
 refine hK24 _ _ ?_
 refine wpIn_seq_k fun K32 hK32 => ?_
 refine wpIn_region_lit ?_
 refine wp 4 [1, 2, 3, 52, 55] hF fun a hF => ?_
 refine wc (wld hF hS 0 3 0 fun a hF => ?_)
 refine wp 4 [52, 56, 60] hF fun a hF => ?_
 refine bind_split H (fun x33 hx33 H => ?_)
 refine wc (wo_callP hF hS (by kernel_rfl) (by kernel_rfl) (C_ref15_put N hS.fresh a1.Writes (T_api_Ver.mk a7 a8 a9 0 0 0) p2 c3 ((hS.pick [0] (by kernel_rfl)).ro) hx33) ?_)
 rintro _ κ w a ⟨p34, c35, rfl, hR, hN⟩ hF hS hO
 have hS := hS.adds hR
 have hS := hS.addC hO hN
 refine wp 2 [61, 63] hF fun a hF => ?_
 refine wc (wst hF hS 1 3 1 [sl p34 (x33).length c35] (sgN 1 sgNil) fun a w hF hS => ?_)
 refine wpListIn_nil ?_
 refine hK32 _ _ ?_
 refine wpIn_seq_k fun K36 hK36 => ?_
 refine wpIn_region_lit ?_
 refine wp 1 [8] hF fun a hF => ?_
 refine wpListIn_nil ?_
 refine hK36 _ _ ?_
 refine wpIn_ret ?_
 cases H
 exact ret_done hF hS (res1 Try.results31 (rvt hF)) ⟨p34, c35, p4, c5, rfl, hS.sp [1, 0, 3] [0, 2]⟩
set_option maxRecDepth 20000 in
set_option maxHeartbeats 1000000 in
theorem C_ref15_Session_Commit (N : Nat) {Ms : List Nat} {κ0 : Gh} {w0 : World} (a1 : T_ref15_Session) (a7 : T_api_Mark) (p2 : Option Addr) (c3 : Nat) (p4 : Option Addr) (c5 : Nat) (b6 : Nat) (hB : SB Ms κ0 w0 [.box b6 47 [su a1.Snap, su a1.Dep, sb a1.Opened, sl p2 (a1.Writes).length c3, sl p4 (a1.Cache).length c5], .tok p2 37 6 (a1.Writes).length c3, .tok p4 37 6 (a1.Cache).length c5] [Ro.mp f_api_Ver.ty p2 c3 a1.Writes, Ro.mp f_api_Ver.ty p4 c5 a1.Cache]) {r : (Int × T_ref15_Session)} (H : M.ref15_Session_Commit N a1 a7 = some r) :
    Calls Try.prog 33 #[pt b6 0, .agg (flat [su a7.TS, si a7.DC, si a7.Tx]).toArray] w0 (Post Ms κ0 w0 fun v κ w => ∃ (p88 : Option Addr) (c89 : Nat) (p90 : Option Addr) (c91 : Nat), v = vi r.1 ∧ SS Ms κ0 w0 κ w [.box b6 47 [su r.2.Snap, su r.2.Dep, sb r.2.Opened, sl p88 (r.2.Writes).length c89, sl p90 (r.2.Cache).length c91], .tok p88 37 6 (r.2.Writes).length c89, .tok p90 37 6 (r.2.Cache).length c91] [Ro.mp f_api_Ver.ty p88 c89 r.2.Writes, Ro.mp f_api_Ver.ty p90 c91 r.2.Cache]) := by
 have hS := hB.hS
 have hfr := hS.fresh
 refine enter (N := (62)) (L := [(0, pt b6 0), (1, .agg (flat [su a7.TS, si a7.DC, si a7.Tx]).toArray)]) Try.func33 rfl Try.ntmps33 (show 2 ≤ (62) by decide) rfl fun a hF => ?_
 unfold M.ref15_Session_Commit at H
 refine wpIn_seq_k fun K8 hK8 => ?_
 refine wpIn_region_lit ?_
 refine wc (wbx hF hS [su a7.TS, si a7.DC, si a7.Tx] (sgN 3 sgNil) fun b9 a w hF hS => ?_)
 refine wp 1 [0, 3] hF fun a hF => ?_
 refine wpListIn_nil ?_
 refine hK8 _ _ ?_
 refine wpIn_seq_k fun K10 hK10 => ?_
 refine wpIn_seq_k fun K11 hK11 => ?_
 refine wpIn_region_lit ?_
 refine wp 3 [0, 3, 9] hF fun a hF => ?_
 refine wc (wld hF hS 1 2 0 fun a hF => ?_)
 refine wp 1 [0, 3, 11] hF fun a hF => ?_
 refine wpListIn_nil ?_
 refine hK11 _ _ ?_
 refine bif_split H (fun hb H => ?_) (fun hb H => ?_)
 refine cond_t hF (by kernel_rfl) hb ?_
 refine wpIn_seq_k fun K12 hK12 => ?_
 refine wpIn_region_lit ?_
 refine wp 1 [4] hF fun a hF => ?_
 refine wpListIn_nil ?_
 refine hK12 _ _ ?_
 refine wpIn_ret ?_
 cases H
 exact ret_done hF hS (res1 Try.results33 (rvt hF)) ⟨p2, c3, p4, c5, rfl, hS.sp [1, 2, 3] [0, 1]⟩
 refine cond_f hF (by kernel_rfl) hb ?_
 refine wpIn_skip ?_
 refine hK10 _ _ ?_
 refine wpIn_seq_k fun K13 hK13 => ?_
 refine wpIn_seq_k fun K14 hK14 => ?_
 refine rgS hS [] ?_
 have hS := hS.drew
 refine anp [0, 2] [0, 3, 12, 14] hF (hS.sx [0, 1] [0, 1]) fun a hF => ?_
 refine atk 1 (some 13) hF (hS.sx [0, 1] [0, 1]) rfl (vld 0 0 0) fun a hF => ?_
 refine ago 3 hF rfl ?_
 refine bind_split H (fun x15 hx15 H => ?_)
 refine wcS 1 [1, 0, 2, 3] hF hS (fun hS => C_ref15_Session_Low N (T_ref15_Session.mk a1.Snap a1.Dep a1.Opened a1.Writes a1.Cache) p2 c3 p4 c5 b6 ⟨rfl, hS.pick [0, 1] (by kernel_rfl)⟩ hx15) ?_
 rintro _ κ w a ⟨rfl, h2⟩ hF hB
 have hS := hB _ _ h2
 refine ⟨fun _ => (hS.sx [1, 0] [0, 1]), ?_⟩
 refine anp [4] [0, 3, 16] hF (hS.sx [1, 0] [0, 1]) fun a hF => ?_
 refine and_ ?_
 refine hK14 _ _ ?_
 refine bif_split H (fun hb H => ?_) (fun hb H => ?_)
 refine cond_t hF (by kernel_rfl) hb ?_
 refine wpIn_seq_k fun K16 hK16 => ?_
 refine wpIn_region_lit ?_
 refine wp 1 [4] hF fun a hF => ?_
 refine wpListIn_nil ?_
 refine hK16 _ _ ?_
 refine wpIn_ret ?_
 cases H
 exact ret_done hF hS (res1 Try.results33 (rvt hF)) ⟨p2, c3, p4, c5, rfl, hS.sp [0, 2, 3] [0, 1]⟩
 refine cond_f hF (by kernel_rfl) hb ?_
 refine wpIn_skip ?_
 refine hK13 _ _ ?_
 refine wpIn_seq_k fun K17 hK17 => ?_
 refine wpIn_seq_k fun K18 hK18 => ?_
 refine wpIn_region_lit ?_
 refine wp 1 [0, 3, 5] hF fun a hF => ?_
 refine wpListIn_nil ?_
 refine hK18 _ _ ?_
 refine wpIn_block ?_
 refine loop_fuel (n := N) (fun n a w => ∃ (κ : Gh) (y69 : List T_api_Ver) (p70 : Option Addr) (c71 : Nat) (y72 : Int), Fr (62) [] [(0, pt b6 0), (3, pt b9 0), (5, vi y72)] a ∧ SS Ms κ0 w0 κ w [.box b6 47 [su a1.Snap, su a1.Dep, sb a1.Opened, sl p2 (a1.Writes).length c3, sl p70 (y69).length c71], .box b9 32 [su a7.TS, si a7.DC, si a7.Tx], .tok p70 37 6 (y69).length c71, .tok p2 37 6 (a1.Writes).length c3] [Ro.mp f_api_Ver.ty p2 c3 a1.Writes, Ro.mp f_api_Ver.ty p70 c71 y69] ∧ M.ref15_Session_Commit_L1 N n a1 a7 y69 y72 = some r) ?_ ?_
 exact ⟨_, a1.Cache, p4, c5, 0, hF.kp [0, 3, 5], hS.sp [0, 1, 3, 2] [0, 1], H⟩
 rintro n a w ⟨κ, y69, p70, c71, y72, hF, hS, H⟩
 rcases n with _ | fuel1
 simp [M.ref15_Session_Commit_L1] at H
 simp only [M.ref15_Session_Commit_L1] at H
 refine wpIn_seq_k fun K73 hK73 => ?_
 refine wpIn_seq_k fun K74 hK74 => ?_
 refine wpIn_region_lit ?_
 refine wp 4 [0, 3, 5, 17, 20] hF fun a hF => ?_
 refine wc (wld hF hS 0 3 0 fun a hF => ?_)
 refine wp 2 [0, 3, 5, 23] hF fun a hF => ?_
 refine wpListIn_nil ?_
 refine hK74 _ _ ?_
 refine bif_split H (fun hb H => ?_) (fun hb H => ?_)
 refine cond_t hF (by kernel_rfl) hb ?_
 refine wpIn_skip ?_
 refine hK73 _ _ ?_
 refine wpIn_seq_k fun K75 hK75 => ?_
 refine wpIn_block ?_
 refine wpIn_seq_k fun K76 hK76 => ?_
 refine wpIn_region_lit ?_
 refine wp 3 [0, 3, 5, 28] hF fun a hF => ?_
 refine wc (wld hF hS 0 3 0 fun a hF => ?_)
 refine wl_pure (L' := [(0, pt b6 0), (3, pt b9 0), (5, vi y72), (29, .slice p2 (a1.Writes).length c3), (30, vi y72)]) 1 [0, 3, 5, 29, 30] hF (by kernel_rfl) fun a hF => ?_
 refine bind_split H (fun x77 hx77 H => ?_)
 refine wc (wo_index hF hS (by kernel_rfl) 0 (E := 37) (sz := 6) rfl rfl rfl (by kernel_rfl) rfl hx77 (by kernel_rfl) (by kernel_rfl) fun b78 f79 a hpx77 hF => ?_)
 refine wc (wo_loadRoAgg (t := f_api_Ver) hF hS (by kernel_rfl) 0 rfl rfl hpx77 rfl hx77 (by kernel_rfl) (by kernel_rfl) (by kernel_rfl) fun a hF => ?_)
 refine wc (wal hF hS [sg ByteArray.empty, sg ByteArray.empty, sb false, su 0, si 0, si 0] (sgN 6 sgNil) fun b80 a w hF hS => ?_)
 refine wc (wst hF hS 0 0 6 [sg x77.Key, sg x77.Val, sb x77.Gone, su x77.TS, si x77.DC, si x77.Tx] (sgN 6 sgNil) fun a w hF hS => ?_)
 refine wpListIn_nil ?_
 refine hK76 _ _ ?_
 refine wpIn_seq_k fun K81 hK81 => ?_
 refine rgX hS [1, 2] ?_
 have hS := hS.drew
 refine anp [0, 2, 4] [0, 3, 5, 6, 33, 35, 37] hF (hS.sx [1, 2] [0, 1]) fun a hF => ?_
 refine atk 1 (some 34) hF (hS.sx [1, 2] [0, 1]) rfl (vld 1 0 0) fun a hF => ?_
 refine anp [6] [0, 3, 5, 6, 34, 35, 37, 39] hF (hS.sx [1, 2] [0, 1]) fun a hF => ?_
 refine atk 3 (some 36) hF (hS.sx [1, 2] [0, 1]) rfl (vld 1 1 0) fun a hF => ?_
 refine atk 5 (some 38) hF (hS.sx [1, 2] [0, 1]) rfl (vld 1 2 0) fun a hF => ?_
 refine ago 7 hF rfl ?_
 refine wst hF hS 0 3 1 [su a7.TS] (sgN 1 sgNil) fun a w hF hS => ?_
 refine ⟨fun _ => (hS.sx [1, 2] [0, 1]), ?_⟩
 refine anp [8] [0, 3, 5, 6, 36, 38, 40] hF (hS.sx [1, 2] [0, 1]) fun a hF => ?_
 refine ago 9 hF rfl ?_
 refine wst hF hS 0 4 1 [si a7.DC] (sgN 1 sgNil) fun a w hF hS => ?_
 refine ⟨fun _ => (hS.sx [1, 2] [0, 1]), ?_⟩
 refine anp [10] [0, 3, 5, 6, 38, 41] hF (hS.sx [1, 2] [0, 1]) fun a hF => ?_
 refine ago 11 hF rfl ?_
 refine wst hF hS 0 5 1 [si a7.Tx] (sgN 1 sgNil) fun a w hF hS => ?_
 refine ⟨fun _ => (hS.sx [1, 2] [0, 1]), ?_⟩
 refine and_ ?_
 refine hK81 _ _ ?_
 refine rgS hS [9] ?_
 have hS := hS.drew
 refine anp (rg 4) [0, 3, 5, 6, 42, 45] hF (hS.sx [0, 1, 2] [0, 1]) fun a hF => ?_
 refine atk 4 (some 46) hF (hS.sx [0, 1, 2] [0, 1]) rfl (vld 1 4 0) fun a hF => ?_
 refine atk 5 (some 47) hF (hS.sx [0, 1, 2] [0, 1]) rfl (vls 0 0 6) fun a hF => ?_
 refine ago 6 hF rfl ?_
 refine bind_split H (fun x82 hx82 H => ?_)
 refine wo_callP hF hS (by kernel_rfl) (by kernel_rfl) (C_ref15_put N hS.fresh y69 (T_api_Ver.mk x77.Key x77.Val x77.Gone a7.TS a7.DC a7.Tx) p70 c71 ((hS.pick [1] (by kernel_rfl)).ro) hx82) ?_
 rintro _ κ w a ⟨p83, c84, rfl, hR, hN⟩ hF hS hO
 have hS := hS.adds hR
 have hS := hS.addC hO hN
 refine ⟨fun _ => (hS.sx [1, 2, 3] [1, 2]), ?_⟩
 refine anp [7, 8] [0, 3, 5, 48, 50] hF (hS.sx [1, 2, 3] [1, 2]) fun a hF => ?_
 refine ago 9 hF rfl ?_
 refine wst hF hS 2 4 1 [sl p83 (x82).length c84] (sgN 1 sgNil) fun a w hF hS => ?_
 refine ⟨notE, ?_⟩
 refine and_ ?_
 refine hK75 _ _ ?_
 refine wpIn_region_lit ?_
 refine wp 3 [0, 3, 5] hF fun a hF => ?_
 refine wpListIn_nil ?_
 exact ⟨fuel1, Nat.lt_succ_self _, _, x82, p83, c84, IntKind.i64.wrap (y72 + 1), hF.kp [0, 3, 5], hS.sp [2, 3, 0, 5] [1, 0], H⟩
 refine cond_f hF (by kernel_rfl) hb ?_
 refine wpIn_exit ?_
 refine hK17 _ _ ?_
 refine wpIn_seq_k fun K85 hK85 => ?_
 refine wpIn_region_lit ?_
 refine wp 2 [0, 51, 52] hF fun a hF => ?_
 refine wc (wld hF hS 1 0 0 fun a hF => ?_)
 refine wp 2 [0, 53, 55] hF fun a hF => ?_
 refine wc (wst hF hS 0 1 1 [su a7.TS] (sgN 1 sgNil) fun a w hF hS => ?_)
 refine wpListIn_nil ?_
 refine hK85 _ _ ?_
 refine wpIn_seq_k fun K86 hK86 => ?_
 refine wpIn_region_lit ?_
 refine wp 4 [57, 59] hF fun a hF => ?_
 refine wc (wst hF hS 0 2 1 [sb false] (sgN 1 sgNil) fun a w hF hS => ?_)
 refine wp 2 [61] hF fun a hF => ?_
 refine wc (wst hF hS 0 3 1 [sl none 0 0] (sgN 1 sgNil) fun a w hF hS => ?_)
 refine wpListIn_nil ?_
 refine hK86 _ _ ?_
 refine wpIn_seq_k fun K87 hK87 => ?_
 refine wpIn_region_lit ?_
 refine wp 1 [4] hF fun a hF => ?_
 refine wpListIn_nil ?_
 refine hK87 _ _ ?_
 refine wpIn_ret ?_
 have hS := hS.add (m := Ro.mp f_api_Ver.ty none 0 ([] : List T_api_Ver)) (Ro.nil f_api_Ver.ty _ _)
 have hS := hS.addNil 37 6
 cases H
 exact ret_done hF hS (res1 Try.results33 (rvt hF)) ⟨none, 0, p70, c71, rfl, hS.sp [1, 0, 3] [0, 2]⟩
set_option maxRecDepth 20000 in
set_option maxHeartbeats 1000000 in
theorem C_ref15_Session_Close (N : Nat) {Ms : List Nat} {κ0 : Gh} {w0 : World} (a1 : T_ref15_Session) (p2 : Option Addr) (c3 : Nat) (p4 : Option Addr) (c5 : Nat) (b6 : Nat) (hB : SB Ms κ0 w0 [.box b6 47 [su a1.Snap, su a1.Dep, sb a1.Opened, sl p2 (a1.Writes).length c3, sl p4 (a1.Cache).length c5], .tok p2 37 6 (a1.Writes).length c3, .tok p4 37 6 (a1.Cache).length c5] [Ro.mp f_api_Ver.ty p2 c3 a1.Writes, Ro.mp f_api_Ver.ty p4 c5 a1.Cache]) {r : (Int × T_ref15_Session)} (H : M.ref15_Session_Close N a1 = some r) :
    Calls Try.prog 35 #[pt b6 0] w0 (Post Ms κ0 w0 fun v κ w => ∃ (p13 : Option Addr) (c14 : Nat) (p15 : Option Addr) (c16 : Nat), v = vi r.1 ∧ SS Ms κ0 w0 κ w [.box b6 47 [su r.2.Snap, su r.2.Dep, sb r.2.Opened, sl p13 (r.2.Writes).length c14, sl p15 (r.2.Cache).length c16], .tok p13 37 6 (r.2.Writes).length c14, .tok p15 37 6 (r.2.Cache).length c16] [Ro.mp f_api_Ver.ty p13 c14 r.2.Writes, Ro.mp f_api_Ver.ty p15 c16 r.2.Cache]) := by
 have hS := hB.hS
 have hfr := hS.fresh
 refine enter (N := (14)) (L := [(0, pt b6 0)]) Try.func35 rfl Try.ntmps35 (show 1 ≤ (14) by decide) rfl fun a hF => ?_
 unfold M.ref15_Session_Close at H
 refine wpIn_seq_k fun K7 hK7 => ?_
 refine wpIn_region_lit ?_
 refine wp 1 [0] hF fun a hF => ?_
 refine wpListIn_nil ?_
 refine hK7 _ _ ?_
 refine wpIn_seq_k fun K8 hK8 => ?_
 refine wpIn_seq_k fun K9 hK9 => ?_
 refine wpIn_region_lit ?_
 refine wp 3 [0, 5] hF fun a hF => ?_
 refine wc (wld hF hS 0 2 0 fun a hF => ?_)
 refine wp 1 [0, 7] hF fun a hF => ?_
 refine wpListIn_nil ?_
 refine hK9 _ _ ?_
 refine bif_split H (fun hb H => ?_) (fun hb H => ?_)
 refine cond_t hF (by kernel_rfl) hb ?_
 refine wpIn_seq_k fun K10 hK10 => ?_
 refine wpIn_region_lit ?_
 refine wp 1 [2] hF fun a hF => ?_
 refine wpListIn_nil ?_
 refine hK10 _ _ ?_
 refine wpIn_ret ?_
 cases H
 exact ret_done hF hS (res1 Try.results35 (rvt hF)) ⟨p2, c3, p4, c5, rfl, hS.sp [0, 1, 2] [0, 1]⟩
 refine cond_f hF (by kernel_rfl) hb ?_
 refine wpIn_skip ?_
 refine hK8 _ _ ?_
 refine wpIn_seq_k fun K11 hK11 => ?_
 refine wpIn_region_lit ?_
 refine wp 4 [9, 11] hF fun a hF => ?_
 refine wc (wst hF hS 0 2 1 [sb false] (sgN 1 sgNil) fun a w hF hS => ?_)
 refine wp 2 [13] hF fun a hF => ?_
 refine wc (wst hF hS 0 3 1 [sl none 0 0] (sgN 1 sgNil) fun a w hF hS => ?_)
 refine wpListIn_nil ?_
 refine hK11 _ _ ?_
 refine wpIn_seq_k fun K12 hK12 => ?_
 refine wpIn_region_lit ?_
 refine wp 1 [2] hF fun a hF => ?_
 refine wpListIn_nil ?_
 refine hK12 _ _ ?_
 refine wpIn_ret ?_
 have hS := hS.add (m := Ro.mp f_api_Ver.ty none 0 ([] : List T_api_Ver)) (Ro.nil f_api_Ver.ty _ _)
 have hS := hS.addNil 37 6
 cases H
 exact ret_done hF hS (res1 Try.results35 (rvt hF)) ⟨none, 0, p4, c5, rfl, hS.sp [1, 0, 3] [0, 2]⟩
set_option maxRecDepth 20000 in
set_option maxHeartbeats 1000000 in
theorem C_ref15_Session_Look (N : Nat) {Ms : List Nat} {κ0 : Gh} {w0 : World} (a1 : T_ref15_Session) (a7 : ByteArray) (p2 : Option Addr) (c3 : Nat) (p4 : Option Addr) (c5 : Nat) (b6 : Nat) (hB : SB Ms κ0 w0 [.box b6 47 [su a1.Snap, su a1.Dep, sb a1.Opened, sl p2 (a1.Writes).length c3, sl p4 (a1.Cache).length c5]] [Ro.mp f_api_Ver.ty p2 c3 a1.Writes, Ro.mp f_api_Ver.ty p4 c5 a1.Cache]) {r : (T_api_Ver × Int)} (H : M.ref15_Session_Look N a1 a7 = some r) :
    Calls Try.prog 37 #[pt b6 0, .string (a7)] w0 (Post Ms κ0 w0 fun v κ w => v = .tuple #[.agg (flat [sg r.1.Key, sg r.1.Val, sb r.1.Gone, su r.1.TS, si r.1.DC, si r.1.Tx]).toArray, vi r.2] ∧ SS Ms κ0 w0 κ w [.box b6 47 [su a1.Snap, su a1.Dep, sb a1.Opened, sl p2 (a1.Writes).length c3, sl p4 (a1.Cache).length c5]] []) := by
 have hS := hB.hS
 have hfr := hS.fresh
 refine enter (N := (39)) (L := [(0, pt b6 0), (1, .string (a7))]) Try.func37 rfl Try.ntmps37 (show 2 ≤ (39) by decide) rfl fun a hF => ?_
 unfold M.ref15_Session_Look at H
 refine wpIn_seq_k fun K8 hK8 => ?_
 refine wpIn_region_lit ?_
 refine wc (wal hF hS [sg ByteArray.empty, sg ByteArray.empty, sb false, su 0, si 0, si 0] (sgN 6 sgNil) fun b9 a w hF hS => ?_)
 refine wp 1 [0, 1, 4] hF fun a hF => ?_
 refine wpListIn_nil ?_
 refine hK8 _ _ ?_
 refine wpIn_seq_k fun K10 hK10 => ?_
 refine wpIn_seq_k fun K11 hK11 => ?_
 refine wpIn_region_lit ?_
 refine wp 3 [0, 1, 4, 12] hF fun a hF => ?_
 refine wc (wld hF hS 1 2 0 fun a hF => ?_)
 refine wp 1 [0, 1, 4, 14] hF fun a hF => ?_
 refine wpListIn_nil ?_
 refine hK11 _ _ ?_
 refine bif_split H (fun hb H => ?_) (fun hb H => ?_)
 refine cond_t hF (by kernel_rfl) hb ?_
 refine wpIn_seq_k fun K12 hK12 => ?_
 refine wpIn_region_lit ?_
 refine wp 1 [4, 15] hF fun a hF => ?_
 refine wc (wst hF hS 0 0 6 [sg ByteArray.empty, sg ByteArray.empty, sb false, su 0, si 0, si 0] (sgN 6 sgNil) fun a w hF hS => ?_)
 refine wp 1 [4, 5] hF fun a hF => ?_
 refine wpListIn_nil ?_
 refine hK12 _ _ ?_
 refine wpIn_ret ?_
 have hS' := hS
 cases H
 exact ret_done hF hS (res2 Try.results37 (rvs hF hS' 0 0 6) (rvt hF)) ⟨rfl, hS.sp [1] []⟩
 refine cond_f hF (by kernel_rfl) hb ?_
 refine wpIn_skip ?_
 refine hK10 _ _ ?_
 refine wpIn_seq_k fun K13 hK13 => ?_
 refine wpIn_seq_k fun K14 hK14 => ?_
 refine wpIn_region_lit ?_
 refine wp 3 [0, 1, 4, 19] hF fun a hF => ?_
 refine wc (wld hF hS 1 3 0 fun a hF => ?_)
 refine wp 1 [0, 1, 4, 20, 21] hF fun a hF => ?_
 refine bind_split H (fun x15 hx15 H => ?_)
 refine wc (wo_callP hF hS (by kernel_rfl) (by kernel_rfl) (C_ref15_has N hS.fresh a1.Writes a7 p2 c3 ((hS.pick [0] (by kernel_rfl)).ro) hx15) ?_)
 rintro _ κ w a ⟨rfl, hR, hN⟩ hF hS hO
 refine wp 3 [0, 1, 4, 23, 24] hF fun a hF => ?_
 refine wc (wal hF hS [sg ByteArray.empty, sg ByteArray.empty, sb false, su 0, si 0, si 0] (sgN 6 sgNil) fun b16 a w hF hS => ?_)
 refine wc (wst hF hS 0 0 6 [sg x15.1.Key, sg x15.1.Val, sb x15.1.Gone, su x15.1.TS, si x15.1.DC, si x15.1.Tx] (sgN 6 sgNil) fun a w hF hS => ?_)
 refine wp 1 [0, 1, 4, 6, 7] hF fun a hF => ?_
 refine wpListIn_nil ?_
 refine hK14 _ _ ?_
 refine wpIn_seq_k fun K17 hK17 => ?_
 refine wpIn_region_lit ?_
 refine wp 1 [0, 1, 4, 6, 25] hF fun a hF => ?_
 refine wpListIn_nil ?_
 refine hK17 _ _ ?_
 refine bif_split H (fun hb H => ?_) (fun hb H => ?_)
 refine cond_t hF (by kernel_rfl) hb ?_
 refine wpIn_seq_k fun K18 hK18 => ?_
 refine wpIn_region_lit ?_
 refine wc (wls hF hS 0 0 6 fun a hF => ?_)
 refine wc (wst hF hS 1 0 6 [sg x15.1.Key, sg x15.1.Val, sb x15.1.Gone, su x15.1.TS, si x15.1.DC, si x15.1.Tx] (sgN 6 sgNil) fun a w hF hS => ?_)
 refine wp 1 [4, 5] hF fun a hF => ?_
 refine wpListIn_nil ?_
 refine hK18 _ _ ?_
 refine wpIn_ret ?_
 have hS' := hS
 cases H
 exact ret_done hF hS (res2 Try.results37 (rvs hF hS' 1 0 6) (rvt hF)) ⟨rfl, hS.sp [2] []⟩
 refine cond_f hF (by kernel_rfl) hb ?_
 refine wpIn_skip ?_
 refine hK13 _ _ ?_
 refine wpIn_seq_k fun K19 hK19 => ?_
 refine wpIn_seq_k fun K20 hK20 => ?_
 refine wpIn_region_lit ?_
 refine wp 3 [1, 4, 30] hF fun a hF => ?_
 refine wc (wld hF hS 2 4 0 fun a hF => ?_)
 refine wp 1 [4, 31, 32] hF fun a hF => ?_
 refine bind_split H (fun x21 hx21 H => ?_)
 refine wc (wo_callP hF hS (by kernel_rfl) (by kernel_rfl) (C_ref15_has N hS.fresh a1.Cache a7 p4 c5 ((hS.pick [1] (by kernel_rfl)).ro) hx21) ?_)
 rintro _ κ w a ⟨rfl, hR, hN⟩ hF hS hO
 refine wp 3 [4, 34, 35] hF fun a hF => ?_
 refine wc (wal hF hS [sg ByteArray.empty, sg ByteArray.empty, sb false, su 0, si 0, si 0] (sgN 6 sgNil) fun b22 a w hF hS => ?_)
 refine wc (wst hF hS 0 0 6 [sg x21.1.Key, sg x21.1.Val, sb x21.1.Gone, su x21.1.TS, si x21.1.DC, si x21.1.Tx] (sgN 6 sgNil) fun a w hF hS => ?_)
 refine wp 1 [4, 8, 9] hF fun a hF => ?_
 refine wpListIn_nil ?_
 refine hK20 _ _ ?_
 refine wpIn_seq_k fun K23 hK23 => ?_
 refine wpIn_region_lit ?_
 refine wp 1 [4, 8, 36] hF fun a hF => ?_
 refine wpListIn_nil ?_
 refine hK23 _ _ ?_
 refine bif_split H (fun hb H => ?_) (fun hb H => ?_)
 refine cond_t hF (by kernel_rfl) hb ?_
 refine wpIn_seq_k fun K24 hK24 => ?_
 refine wpIn_region_lit ?_
 refine wc (wls hF hS 0 0 6 fun a hF => ?_)
 refine wc (wst hF hS 2 0 6 [sg x21.1.Key, sg x21.1.Val, sb x21.1.Gone, su x21.1.TS, si x21.1.DC, si x21.1.Tx] (sgN 6 sgNil) fun a w hF hS => ?_)
 refine wp 1 [4, 5] hF fun a hF => ?_
 refine wpListIn_nil ?_
 refine hK24 _ _ ?_
 refine wpIn_ret ?_
 have hS' := hS
 cases H
 exact ret_done hF hS (res2 Try.results37 (rvs hF hS' 2 0 6) (rvt hF)) ⟨rfl, hS.sp [3] []⟩
 refine cond_f hF (by kernel_rfl) hb ?_
 refine wpIn_skip ?_
 refine hK19 _ _ ?_
 refine wpIn_seq_k fun K25 hK25 => ?_
 refine wpIn_region_lit ?_
 refine wp 1 [4, 38] hF fun a hF => ?_
 refine wc (wst hF hS 2 0 6 [sg ByteArray.empty, sg ByteArray.empty, sb false, su 0, si 0, si 0] (sgN 6 sgNil) fun a w hF hS => ?_)
 refine wp 1 [4, 5] hF fun a hF => ?_
 refine wpListIn_nil ?_
 refine hK25 _ _ ?_
 refine wpIn_ret ?_
 have hS' := hS
 cases H
 exact ret_done hF hS (res2 Try.results37 (rvs hF hS' 2 0 6) (rvt hF)) ⟨rfl, hS.sp [3] []⟩
set_option maxRecDepth 20000 in
set_option maxHeartbeats 1000000 in
theorem C_ref04_SameVers (N : Nat) {κ0 : Gh} {w0 : World} (hfr : Fresh κ0 w0) (a1 : (List T_api_Ver)) (a4 : (List T_api_Ver)) (p2 : Option Addr) (c3 : Nat) (p5 : Option Addr) (c6 : Nat) (hR : ∀ m ∈ ([Ro.mp f_api_Ver.ty p2 c3 a1, Ro.mp f_api_Ver.ty p5 c6 a4] : List MP), m.p κ0 w0) {r : (Bool)} (H : M.ref04_SameVers N a1 a4 = some r) :
    Calls Try.prog 39 #[.slice p2 (a1).length c3, .slice p5 (a4).length c6] w0 (Post [] κ0 w0 fun v κ w => v = vb r ∧ (∀ m ∈ ([] : List MP), m.p κ w) ∧ NewC w0 κ w []) := by
 have hS := SS.start hfr hR
 refine enter (N := (26)) (L := [(0, .slice p2 (a1).length c3), (1, .slice p5 (a4).length c6)]) Try.func39 rfl Try.ntmps39 (show 2 ≤ (26) by decide) rfl fun a hF => ?_
 unfold M.ref04_SameVers at H
 refine wpIn_seq_k fun K7 hK7 => ?_
 refine wpIn_region_lit ?_
 refine wp 1 [0, 1] hF fun a hF => ?_
 refine wpListIn_nil ?_
 refine hK7 _ _ ?_
 refine wpIn_seq_k fun K8 hK8 => ?_
 refine wpIn_seq_k fun K9 hK9 => ?_
 refine wpIn_region_lit ?_
 refine wp 5 [0, 1, 10] hF fun a hF => ?_
 refine wpListIn_nil ?_
 refine hK9 _ _ ?_
 refine bif_split H (fun hb H => ?_) (fun hb H => ?_)
 refine cond_t hF (by kernel_rfl) hb ?_
 refine wpIn_seq_k fun K10 hK10 => ?_
 refine wpIn_region_lit ?_
 refine wp 1 [4] hF fun a hF => ?_
 refine wpListIn_nil ?_
 refine hK10 _ _ ?_
 refine wpIn_ret ?_
 cases H
 exact (ret_done hF hS (res1 Try.results39 (rvt hF)) ⟨rfl, (hS.pick [] (by kernel_rfl)).ro, hS.newC [] (by decide) (by kernel_rfl)⟩)
 refine cond_f hF (by kernel_rfl) hb ?_
 refine wpIn_skip ?_
 refine hK8 _ _ ?_
 refine wpIn_seq_k fun K11 hK11 => ?_
 refine wpIn_seq_k fun K12 hK12 => ?_
 refine wpIn_region_lit ?_
 refine wp 1 [0, 1, 5] hF fun a hF => ?_
 refine wpListIn_nil ?_
 refine hK12 _ _ ?_
 refine wpIn_block ?_
 refine loop_fuel (n := N) (fun n a w => ∃ (κ : Gh) (y63 : Int), Fr (26) [] [(0, .slice p2 (a1).length c3), (1, .slice p5 (a4).length c6), (5, vi y63)] a ∧ SS [] κ0 w0 κ w [] [Ro.mp f_api_Ver.ty p2 c3 a1, Ro.mp f_api_Ver.ty p5 c6 a4] ∧ M.ref04_SameVers_L1 N n a1 a4 y63 = some r) ?_ ?_
 exact ⟨_, 0, hF.kp [0, 1, 5], hS.sp [] [0, 1], H⟩
 rintro n a w ⟨κ, y63, hF, hS, H⟩
 rcases n with _ | fuel1
 simp [M.ref04_SameVers_L1] at H
 simp only [M.ref04_SameVers_L1] at H
 refine wpIn_seq_k fun K64 hK64 => ?_
 refine wpIn_seq_k fun K65 hK65 => ?_
 refine wpIn_region_lit ?_
 refine wp 4 [0, 1, 5, 14] hF fun a hF => ?_
 refine wpListIn_nil ?_
 refine hK65 _ _ ?_
 refine bif_split H (fun hb H => ?_) (fun hb H => ?_)
 refine cond_t hF (by kernel_rfl) hb ?_
 refine wpIn_skip ?_
 refine hK64 _ _ ?_
 refine wpIn_seq_k fun K66 hK66 => ?_
 refine wpIn_block ?_
 refine wpIn_seq_k fun K67 hK67 => ?_
 refine rgS hS [] ?_
 have hS := hS.drew
 refine any_pure [0, 1, 4, 5] [0, 1, 5, 17, 18, 21, 22] (L' := [(0, .slice p2 (a1).length c3), (1, .slice p5 (a4).length c6), (5, vi y63), (17, .slice p2 (a1).length c3), (18, vi y63), (21, .slice p5 (a4).length c6), (22, vi y63)]) (listed' := (bitA 9 51)) (fuel := 5) hF (hS.sx [] [0, 1]) (by kernel_rfl) (by intro c a w t v h; cases t <;> exact h) (by kernel_rfl) rfl fun a hF => ?_
 refine bind_split H (fun x68 hx68 H => ?_)
 obtain ⟨b69, f70, hpx68⟩ := hS.ptr 0 rfl hx68
 refine atk 2 (some 19) hF (hS.sx [] [0, 1]) rfl (fun w _ => val_index (E := 37) (sz := 6) rfl hpx68 rfl (by kernel_rfl) rfl hx68 (by kernel_rfl) (by kernel_rfl) w) fun a hF => ?_
 refine atk 3 (some 20) hF (hS.sx [] [0, 1]) rfl (val_loadRoAgg (t := f_api_Ver) 0 rfl rfl hpx68 rfl hx68 (by kernel_rfl) (by kernel_rfl) (by kernel_rfl)) fun a hF => ?_
 refine bind_split H (fun x71 hx71 H => ?_)
 obtain ⟨b72, f73, hpx71⟩ := hS.ptr 1 rfl hx71
 refine atk 6 (some 23) hF (hS.sx [] [0, 1]) rfl (fun w _ => val_index (E := 37) (sz := 6) rfl hpx71 rfl (by kernel_rfl) rfl hx71 (by kernel_rfl) (by kernel_rfl) w) fun a hF => ?_
 refine atk 7 (some 24) hF (hS.sx [] [0, 1]) rfl (val_loadRoAgg (t := f_api_Ver) 1 rfl rfl hpx71 rfl hx71 (by kernel_rfl) (by kernel_rfl) (by kernel_rfl)) fun a hF => ?_
 refine atk 8 (some 25) hF (hS.sx [] [0, 1]) rfl (fun w _ => (val_eq (neg := true) (xs := (flat [sg x68.Key, sg x68.Val, sb x68.Gone, su x68.TS, si x68.DC, si x68.Tx])) (ys := (flat [sg x71.Key, sg x71.Val, sb x71.Gone, su x71.TS, si x71.DC, si x71.Tx])) (ks := [.str, .str, .bool, .int .u64, .int .i64, .int .i64]) 20 (by decide) rfl (by kernel_rfl) (by kernel_rfl) (by kernel_rfl) (by kernel_rfl) (by kernel_rfl) (by kernel_rfl) (by kernel_rfl)) w) fun a hF => ?_
 refine and_ ?_
 refine hK67 _ _ ?_
 refine bif_split H (fun hb H => ?_) (fun hb H => ?_)
 refine cond_t hF (by kernel_rfl) hb ?_
 refine wpIn_seq_k fun K74 hK74 => ?_
 refine wpIn_region_lit ?_
 refine wp 1 [4] hF fun a hF => ?_
 refine wpListIn_nil ?_
 refine hK74 _ _ ?_
 refine wpIn_ret ?_
 cases H
 exact (ret_done hF hS (res1 Try.results39 (rvt hF)) ⟨rfl, (hS.pick [] (by kernel_rfl)).ro, hS.newC [] (by decide) (by kernel_rfl)⟩)
 refine cond_f hF (by kernel_rfl) hb ?_
 refine wpIn_skip ?_
 refine hK66 _ _ ?_
 refine wpIn_region_lit ?_
 refine wp 3 [0, 1, 5] hF fun a hF => ?_
 refine wpListIn_nil ?_
 exact ⟨fuel1, Nat.lt_succ_self _, _, IntKind.i64.wrap (y63 + 1), hF.kp [0, 1, 5], hS.sp [] [0, 1], H⟩
 refine cond_f hF (by kernel_rfl) hb ?_
 refine wpIn_exit ?_
 refine hK11 _ _ ?_
 refine wpIn_seq_k fun K75 hK75 => ?_
 refine wpIn_region_lit ?_
 refine wp 1 [4] hF fun a hF => ?_
 refine wpListIn_nil ?_
 refine hK75 _ _ ?_
 refine wpIn_ret ?_
 cases H
 exact (ret_done hF hS (res1 Try.results39 (rvt hF)) ⟨rfl, (hS.pick [] (by kernel_rfl)).ro, hS.newC [] (by decide) (by kernel_rfl)⟩)
end Go.Cf
