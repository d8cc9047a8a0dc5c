/- The walks: each function returns what its model says. Printed by a program of ours. -/
import Derived.Test.YtcplebnnanjngaaGreatZM1
namespace Go.Cf
open Go Go.Proofs
set_option linter.unusedVariables false
set_option maxRecDepth 20000 in
set_option maxHeartbeats 8000000 in
theorem C_law20_Few (N : Nat) {κ0 : Gh} {w0 : World} (hfr : Fresh κ0 w0) (a1 : T_api_Msg) (p2 : Option Addr) (c3 : Nat) (p4 : Option Addr) (c5 : Nat) (hR : ∀ m ∈ ([Ro.mp f_api_Ver.ty p2 c3 a1.Vers, Ro.mp (fInt .u64).ty p4 c5 a1.Vec] : List MP), m.p κ0 w0) {r : (T_api_Msg)} (H : M.law20_Few N a1 = some r) :
    Calls Tryz.prog 27 #[.agg (flat [si a1.Kind, su a1.Id, su a1.N, su a1.TS, sg a1.Lo, sg a1.Hi, sl p2 (a1.Vers).length c3, sl p4 (a1.Vec).length c5, si a1.Cmd.Kind, si a1.Cmd.DC, si a1.Cmd.Shard, si a1.Cmd.Node, si a1.Cmd.Mode, sg a1.Cmd.Key]).toArray] w0 (Post [] κ0 w0 fun v κ w => ∃ (p18 : Option Addr) (c19 : Nat) (p20 : Option Addr) (c21 : Nat), v = .agg (flat [si r.Kind, su r.Id, su r.N, su r.TS, sg r.Lo, sg r.Hi, sl p18 (r.Vers).length c19, sl p20 (r.Vec).length c21, si r.Cmd.Kind, si r.Cmd.DC, si r.Cmd.Shard, si r.Cmd.Node, si r.Cmd.Mode, sg r.Cmd.Key]).toArray ∧ (∀ m ∈ ([Ro.mp f_api_Ver.ty p18 c19 r.Vers, Ro.mp (fInt .u64).ty p20 c21 r.Vec] : List MP), m.p κ w) ∧ NewC w0 κ w []) := by
 have hS := SS.start hfr hR
 refine enter (N := (20)) (L := [(0, .agg (flat [si a1.Kind, su a1.Id, su a1.N, su a1.TS, sg a1.Lo, sg a1.Hi, sl p2 (a1.Vers).length c3, sl p4 (a1.Vec).length c5, si a1.Cmd.Kind, si a1.Cmd.DC, si a1.Cmd.Shard, si a1.Cmd.Node, si a1.Cmd.Mode, sg a1.Cmd.Key]).toArray)]) Tryz.func27 rfl Tryz.ntmps27 (show 1 ≤ (20) by decide) rfl fun a hF => ?_
 unfold M.law20_Few at H
 refine wpIn_seq_k fun K6 hK6 => ?_
 refine wpIn_region_lit ?_
 refine wc (wbx hF hS [si a1.Kind, su a1.Id, su a1.N, su a1.TS, sg a1.Lo, sg a1.Hi, sl p2 (a1.Vers).length c3, sl p4 (a1.Vec).length c5, si a1.Cmd.Kind, si a1.Cmd.DC, si a1.Cmd.Shard, si a1.Cmd.Node, si a1.Cmd.Mode, sg a1.Cmd.Key] (sgN 14 sgNil) fun b7 a w hF hS => ?_)
 refine wc (wal hF hS [si 0, su 0, su 0, su 0, sg ByteArray.empty, sg ByteArray.empty, sl none 0 0, sl none 0 0, si 0, si 0, si 0, si 0, si 0, sg ByteArray.empty] (sgN 14 sgNil) fun b8 a w hF hS => ?_)
 refine wpListIn_nil ?_
 refine hK6 _ _ ?_
 refine wpIn_seq_k fun K9 hK9 => ?_
 refine wpIn_region_lit ?_
 refine wp 1 [1, 2, 3] hF fun a hF => ?_
 refine wc (wld hF hS 1 6 0 fun a hF => ?_)
 refine wp 1 [1, 2, 4, 5] hF fun a hF => ?_
 refine wc (wld hF hS 1 6 0 fun a hF => ?_)
 refine wl_pure (L' := [(1, pt b7 0), (2, pt b8 0), (4, .slice p2 (a1.Vers).length c3), (8, vi (if 12 < ((a1.Vers).length : Int) then 12 else ((a1.Vers).length : Int)))]) 2 [1, 2, 4, 8] hF (by kernel_rfl) fun a hF => ?_
 refine bind_split H (fun x10 hx10 H => ?_)
 refine wc (wo_slice hF hS (by kernel_rfl) 0 (E := 48) (lo := 0) (hi := (if 12 < ((a1.Vers).length : Int) then 12 else ((a1.Vers).length : Int))) rfl rfl rfl (by kernel_rfl) rfl ⟨_, rfl⟩ hx10 (by kernel_rfl) (by kernel_rfl) fun p11 c12 a hF hS => ?_)
 refine wp 1 [1, 2, 9, 10] hF fun a hF => ?_
 refine wc (wst hF hS 1 6 1 [sl p11 (x10).length c12] (sgN 1 sgNil) fun a w hF hS => ?_)
 refine wpListIn_nil ?_
 refine hK9 _ _ ?_
 refine wpIn_seq_k fun K13 hK13 => ?_
 refine wpIn_region_lit ?_
 refine wp 1 [1, 2, 11] hF fun a hF => ?_
 refine wc (wld hF hS 1 7 0 fun a hF => ?_)
 refine wp 1 [1, 2, 12, 13] hF fun a hF => ?_
 refine wc (wld hF hS 1 7 0 fun a hF => ?_)
 refine wl_pure (L' := [(1, pt b7 0), (2, pt b8 0), (12, .slice p4 (a1.Vec).length c5), (16, vi (if 40 < ((a1.Vec).length : Int) then 40 else ((a1.Vec).length : Int)))]) 2 [1, 2, 12, 16] hF (by kernel_rfl) fun a hF => ?_
 refine bind_split H (fun x14 hx14 H => ?_)
 refine wc (wo_slice hF hS (by kernel_rfl) 2 (E := 32) (lo := 0) (hi := (if 40 < ((a1.Vec).length : Int) then 40 else ((a1.Vec).length : Int))) rfl rfl rfl (by kernel_rfl) rfl ⟨_, rfl⟩ hx14 (by kernel_rfl) (by kernel_rfl) fun p15 c16 a hF hS => ?_)
 refine wp 1 [1, 2, 17, 18] hF fun a hF => ?_
 refine wc (wst hF hS 1 7 1 [sl p15 (x14).length c16] (sgN 1 sgNil) fun a w hF hS => ?_)
 refine wpListIn_nil ?_
 refine hK13 _ _ ?_
 refine wpIn_seq_k fun K17 hK17 => ?_
 refine wpIn_region_lit ?_
 refine wc (wls hF hS 1 0 14 fun a hF => ?_)
 refine wc (wst hF hS 0 0 14 [si a1.Kind, su a1.Id, su a1.N, su a1.TS, sg a1.Lo, sg a1.Hi, sl p11 (x10).length c12, sl p15 (x14).length c16, si a1.Cmd.Kind, si a1.Cmd.DC, si a1.Cmd.Shard, si a1.Cmd.Node, si a1.Cmd.Mode, sg a1.Cmd.Key] (sgN 14 sgNil) fun a w hF hS => ?_)
 refine wpListIn_nil ?_
 refine hK17 _ _ ?_
 refine wpIn_ret ?_
 have hS' := hS
 cases H
 exact (ret_done hF hS (res1 Tryz.results27 (rvs hF hS' 0 0 14)) ⟨p11, c12, p15, c16, rfl, (hS.pick [1, 0] (by kernel_rfl)).ro, hS.newC [] (by decide) (by kernel_rfl)⟩)
set_option maxRecDepth 20000 in
set_option maxHeartbeats 8000000 in
theorem C_law22_few (N : Nat) {κ0 : Gh} {w0 : World} (hfr : Fresh κ0 w0) (a1 : T_law22_Op) (p2 : Option Addr) (c3 : Nat) (p4 : Option Addr) (c5 : Nat) (p6 : Option Addr) (c7 : Nat) (hR : ∀ m ∈ ([Ro.mp f_api_Ver.ty p2 c3 a1.Msg.Vers, Ro.mp (fInt .u64).ty p4 c5 a1.Msg.Vec, Ro.mp f_api_Ver.ty p6 c7 a1.Writes] : List MP), m.p κ0 w0) {r : (T_law22_Op)} (H : M.law22_few N a1 = some r) :
    Calls Tryz.prog 9 #[.agg (flat [si a1.Kind, si a1.From, si a1.Call, si a1.Msg.Kind, su a1.Msg.Id, su a1.Msg.N, su a1.Msg.TS, sg a1.Msg.Lo, sg a1.Msg.Hi, sl p2 (a1.Msg.Vers).length c3, sl p4 (a1.Msg.Vec).length c5, si a1.Msg.Cmd.Kind, si a1.Msg.Cmd.DC, si a1.Msg.Cmd.Shard, si a1.Msg.Cmd.Node, si a1.Msg.Cmd.Mode, sg a1.Msg.Cmd.Key, sg a1.Key, su a1.T, sl p6 (a1.Writes).length c7]).toArray] w0 (Post [] κ0 w0 fun v κ w => ∃ (p22 : Option Addr) (c23 : Nat) (p24 : Option Addr) (c25 : Nat) (p26 : Option Addr) (c27 : Nat), v = .agg (flat [si r.Kind, si r.From, si r.Call, si r.Msg.Kind, su r.Msg.Id, su r.Msg.N, su r.Msg.TS, sg r.Msg.Lo, sg r.Msg.Hi, sl p22 (r.Msg.Vers).length c23, sl p24 (r.Msg.Vec).length c25, si r.Msg.Cmd.Kind, si r.Msg.Cmd.DC, si r.Msg.Cmd.Shard, si r.Msg.Cmd.Node, si r.Msg.Cmd.Mode, sg r.Msg.Cmd.Key, sg r.Key, su r.T, sl p26 (r.Writes).length c27]).toArray ∧ (∀ m ∈ ([Ro.mp f_api_Ver.ty p22 c23 r.Msg.Vers, Ro.mp (fInt .u64).ty p24 c25 r.Msg.Vec, Ro.mp f_api_Ver.ty p26 c27 r.Writes] : List MP), m.p κ w) ∧ NewC w0 κ w []) := by
 have hS := SS.start hfr hR
 refine enter (N := (16)) (L := [(0, .agg (flat [si a1.Kind, si a1.From, si a1.Call, si a1.Msg.Kind, su a1.Msg.Id, su a1.Msg.N, su a1.Msg.TS, sg a1.Msg.Lo, sg a1.Msg.Hi, sl p2 (a1.Msg.Vers).length c3, sl p4 (a1.Msg.Vec).length c5, si a1.Msg.Cmd.Kind, si a1.Msg.Cmd.DC, si a1.Msg.Cmd.Shard, si a1.Msg.Cmd.Node, si a1.Msg.Cmd.Mode, sg a1.Msg.Cmd.Key, sg a1.Key, su a1.T, sl p6 (a1.Writes).length c7]).toArray)]) Tryz.func9 rfl Tryz.ntmps9 (show 1 ≤ (16) by decide) rfl fun a hF => ?_
 unfold M.law22_few at H
 refine wpIn_seq_k fun K8 hK8 => ?_
 refine wpIn_region_lit ?_
 refine wc (wbx hF hS [si a1.Kind, si a1.From, si a1.Call, si a1.Msg.Kind, su a1.Msg.Id, su a1.Msg.N, su a1.Msg.TS, sg a1.Msg.Lo, sg a1.Msg.Hi, sl p2 (a1.Msg.Vers).length c3, sl p4 (a1.Msg.Vec).length c5, si a1.Msg.Cmd.Kind, si a1.Msg.Cmd.DC, si a1.Msg.Cmd.Shard, si a1.Msg.Cmd.Node, si a1.Msg.Cmd.Mode, sg a1.Msg.Cmd.Key, sg a1.Key, su a1.T, sl p6 (a1.Writes).length c7] (sgN 20 sgNil) fun b9 a w hF hS => ?_)
 refine wc (wal hF hS [si 0, si 0, si 0, si 0, su 0, su 0, su 0, sg ByteArray.empty, sg ByteArray.empty, sl none 0 0, sl none 0 0, si 0, si 0, si 0, si 0, si 0, sg ByteArray.empty, sg ByteArray.empty, su 0, sl none 0 0] (sgN 20 sgNil) fun b10 a w hF hS => ?_)
 refine wpListIn_nil ?_
 refine hK8 _ _ ?_
 refine wpIn_seq_k fun K11 hK11 => ?_
 refine wpIn_region_lit ?_
 refine wp 1 [1, 2, 3] hF fun a hF => ?_
 refine wc (wls hF hS 1 3 14 fun a hF => ?_)
 refine bind_split H (fun x12 hx12 H => ?_)
 refine wc (wo_callP hF hS (by kernel_rfl) (by kernel_rfl) (C_law20_Few N hS.fresh (T_api_Msg.mk a1.Msg.Kind a1.Msg.Id a1.Msg.N a1.Msg.TS a1.Msg.Lo a1.Msg.Hi a1.Msg.Vers a1.Msg.Vec (T_api_Cmd.mk a1.Msg.Cmd.Kind a1.Msg.Cmd.DC a1.Msg.Cmd.Shard a1.Msg.Cmd.Node a1.Msg.Cmd.Mode a1.Msg.Cmd.Key)) p2 c3 p4 c5 ((hS.pick [0, 1] (by kernel_rfl)).ro) hx12) ?_)
 rintro _ κ w a ⟨p13, c14, p15, c16, rfl, hR, hN⟩ hF hS hO
 have hS := hS.adds hR
 refine wp 1 [1, 2, 5, 6] hF fun a hF => ?_
 refine wc (wst hF hS 1 3 14 [si x12.Kind, su x12.Id, su x12.N, su x12.TS, sg x12.Lo, sg x12.Hi, sl p13 (x12.Vers).length c14, sl p15 (x12.Vec).length c16, si x12.Cmd.Kind, si x12.Cmd.DC, si x12.Cmd.Shard, si x12.Cmd.Node, si x12.Cmd.Mode, sg x12.Cmd.Key] (sgN 14 sgNil) fun a w hF hS => ?_)
 refine wpListIn_nil ?_
 refine hK11 _ _ ?_
 refine wpIn_seq_k fun K17 hK17 => ?_
 refine wpIn_region_lit ?_
 refine wp 1 [1, 2, 7] hF fun a hF => ?_
 refine wc (wld hF hS 1 19 0 fun a hF => ?_)
 refine wp 1 [1, 2, 8, 9] hF fun a hF => ?_
 refine wc (wld hF hS 1 19 0 fun a hF => ?_)
 refine wl_pure (L' := [(1, pt b9 0), (2, pt b10 0), (8, .slice p6 (a1.Writes).length c7), (12, vi (if 12 < ((a1.Writes).length : Int) then 12 else ((a1.Writes).length : Int)))]) 2 [1, 2, 8, 12] hF (by kernel_rfl) fun a hF => ?_
 refine bind_split H (fun x18 hx18 H => ?_)
 refine wc (wo_slice hF hS (by kernel_rfl) 4 (E := 48) (lo := 0) (hi := (if 12 < ((a1.Writes).length : Int) then 12 else ((a1.Writes).length : Int))) rfl rfl rfl (by kernel_rfl) rfl ⟨_, rfl⟩ hx18 (by kernel_rfl) (by kernel_rfl) fun p19 c20 a hF hS => ?_)
 refine wp 1 [1, 2, 13, 14] hF fun a hF => ?_
 refine wc (wst hF hS 1 19 1 [sl p19 (x18).length c20] (sgN 1 sgNil) fun a w hF hS => ?_)
 refine wpListIn_nil ?_
 refine hK17 _ _ ?_
 refine wpIn_seq_k fun K21 hK21 => ?_
 refine wpIn_region_lit ?_
 refine wc (wls hF hS 1 0 20 fun a hF => ?_)
 refine wc (wst hF hS 0 0 20 [si a1.Kind, si a1.From, si a1.Call, si x12.Kind, su x12.Id, su x12.N, su x12.TS, sg x12.Lo, sg x12.Hi, sl p13 (x12.Vers).length c14, sl p15 (x12.Vec).length c16, si x12.Cmd.Kind, si x12.Cmd.DC, si x12.Cmd.Shard, si x12.Cmd.Node, si x12.Cmd.Mode, sg x12.Cmd.Key, sg a1.Key, su a1.T, sl p19 (x18).length c20] (sgN 20 sgNil) fun a w hF hS => ?_)
 refine wpListIn_nil ?_
 refine hK21 _ _ ?_
 refine wpIn_ret ?_
 have hS' := hS
 cases H
 exact (ret_done hF hS (res1 Tryz.results9 (rvs hF hS' 0 0 20)) ⟨p13, c14, p15, c16, p19, c20, rfl, (hS.pick [1, 2, 0] (by kernel_rfl)).ro, hS.newC [] (by decide) (by kernel_rfl)⟩)
set_option maxRecDepth 20000 in
set_option maxHeartbeats 8000000 in
theorem C_law22_modes (N : Nat) {κ0 : Gh} {w0 : World} (hfr : Fresh κ0 w0)   (hR : ∀ m ∈ ([] : List MP), m.p κ0 w0) {r : ((List Int))} (H : M.law22_modes N  = some r) :
    Calls Tryz.prog 8 #[] w0 (Post [] κ0 w0 fun v κ w => ∃ (p67 : Option Addr) (c68 : Nat), v = .slice p67 (r).length c68 ∧ (∀ m ∈ ([Ro.mp (fInt .i64).ty p67 c68 r] : List MP), m.p κ w) ∧ NewC w0 κ w [.tok p67 3 1 (r).length c68]) := by
 have hS := SS.start hfr hR
 refine enter (N := (14)) (L := []) Tryz.func8 rfl Tryz.ntmps8 (show 0 ≤ (14) by decide) rfl fun a hF => ?_
 unfold M.law22_modes at H
 refine wpIn_seq_k fun K1 hK1 => ?_
 refine wpIn_region_lit ?_
 refine wl_pure (L' := []) 1 [] hF (by kernel_rfl) fun a hF => ?_
 refine wpListIn_nil ?_
 refine hK1 _ _ ?_
 refine wpIn_seq_k fun K2 hK2 => ?_
 refine wpIn_region_lit ?_
 refine bind_split H (fun x3 hx3 H => ?_)
 refine wc (wo_makeO (E := 3) (i := Tryz.t3) (z := vi 0) (zm := 0) (kl := .i64) (kc := .i64) hF hS (by kernel_rfl) (fInt .i64) rfl (by kernel_rfl) (by kernel_rfl) hx3 (by kernel_rfl) (by kernel_rfl) (by kernel_rfl) (by kernel_rfl) (Nat.le_of_ble_eq_true (by kernel_rfl)) (by kernel_rfl) fun p4 a w hF hS => ?_)
 refine wp 1 [1] hF fun a hF => ?_
 refine wpListIn_nil ?_
 refine hK2 _ _ ?_
 refine wpIn_seq_k fun K5 hK5 => ?_
 refine wpIn_seq_k fun K6 hK6 => ?_
 refine wpIn_region_lit ?_
 refine wp 3 [1, 5, 6] hF fun a hF => ?_
 refine wpListIn_nil ?_
 refine hK6 _ _ ?_
 refine wpIn_block ?_
 refine loop_fuel (n := N) (fun n a w => ∃ (κ : Gh) (y57 : List Int) (y58 : Int), Fr (14) [] [(1, .slice p4 (y57).length (x3).length), (5, vi ((x3).length : Int)), (6, vi y58)] a ∧ SS [] κ0 w0 κ w [.ext (ownX (fInt .i64) 3 p4 ((x3).length) y57)] [] ∧ M.law22_modes_L1 N n x3 y57 y58 = some r) ?_ ?_
 exact ⟨_, x3, 0, hF.kp [1, 5, 6], hS.sp [0] [], H⟩
 rintro n a w ⟨κ, y57, y58, hF, hS, H⟩
 rcases n with _ | fuel1
 simp [M.law22_modes_L1] at H
 simp only [M.law22_modes_L1] at H
 refine wpIn_seq_k fun K59 hK59 => ?_
 refine wpIn_region_lit ?_
 refine wp 1 [1, 5, 6, 7] hF fun a hF => ?_
 refine wpListIn_nil ?_
 refine hK59 _ _ ?_
 refine wpIn_seq_k fun K60 hK60 => ?_
 refine bif_split H (fun hb H => ?_) (fun hb H => ?_)
 refine cond_t hF (by kernel_rfl) hb ?_
 refine wpIn_skip ?_
 refine hK60 _ _ ?_
 refine wpIn_seq_k fun K61 hK61 => ?_
 refine wpIn_block ?_
 refine wpIn_seq_k fun K62 hK62 => ?_
 refine wpIn_region_lit ?_
 refine wp 2 [1, 2, 5, 6] hF fun a hF => ?_
 refine wpListIn_nil ?_
 refine hK62 _ _ ?_
 refine wpIn_region_lit ?_
 refine wl_pure (L' := [(1, .slice p4 (y57).length (x3).length), (5, vi ((x3).length : Int)), (6, vi y58), (9, .slice p4 (y57).length (x3).length), (10, vi y58)]) 2 [1, 5, 6, 9, 10] hF (by kernel_rfl) fun a hF => ?_
 refine bind_split H (fun x63 hx63 H => ?_)
 refine wc (wo_indexO hF hS (by kernel_rfl) 0 (sz := 1) rfl rfl rfl rfl rfl hx63 (by kernel_rfl) (by kernel_rfl) fun b64 f65 a hpx63 hF => ?_)
 refine wc (wo_storeOL hF hS (by kernel_rfl) 0 (z := 2) rfl rfl rfl rfl hpx63 hx63 rfl (by kernel_rfl) rfl (by kernel_rfl) (Cf := (fun nn => [.ext (ownX (fInt .i64) 3 p4 ((x3).length) (List.set y57 (Int.toNat y58) 2))])) (Lf := (fun nn => [(1, .slice p4 nn (x3).length), (5, vi ((x3).length : Int)), (6, vi y58), (9, .slice p4 nn (x3).length), (10, vi y58)])) [1, 5, 6, 9, 10] (by kernel_rfl) (by kernel_rfl) fun a w hF hS => ?_)
 refine wpListIn_nil ?_
 refine hK61 _ _ ?_
 refine wpIn_region_lit ?_
 refine wp 2 [1, 5, 6] hF fun a hF => ?_
 refine wpListIn_nil ?_
 exact ⟨fuel1, Nat.lt_succ_self _, _, (List.set y57 (Int.toNat y58) 2), IntKind.i64.wrap (y58 + 1), hF.kp [1, 5, 6], hS.sp [0] [], H⟩
 refine cond_f hF (by kernel_rfl) hb ?_
 refine wpIn_exit ?_
 refine hK5 _ _ ?_
 refine wpIn_seq_k fun K66 hK66 => ?_
 refine wpIn_region_lit ?_
 refine wp 2 [0] hF fun a hF => ?_
 refine wpListIn_nil ?_
 refine hK66 _ _ ?_
 refine wpIn_ret ?_
 obtain ⟨κ, hS⟩ := hS.pubO 0 rfl
 cases H
 exact (ret_done hF hS (res1 Tryz.results8 (rvt hF)) ⟨p4, (x3).length, rfl, (hS.pick [0] (by kernel_rfl)).ro, hS.newC [0] (by decide) (by kernel_rfl)⟩)
end Go.Cf
