/- The walks: each function returns what its model says. Printed by a program of ours. -/
import Derived.Test.YtogjpknjolkjaaaZM1
import Derived.Test.YtogjpknjolkjaaaZW1
import Derived.Test.YtogjpknjolkjaaaZW2
import Derived.Test.YtogjpknjolkjaaaZW2b
import Derived.Test.YtogjpknjolkjaaaZW2c
import Derived.Test.YtogjpknjolkjaaaZW3
namespace Go.Cf
open Go Go.Proofs
set_option linter.unusedVariables false
set_option maxRecDepth 20000 in
set_option maxHeartbeats 8000000 in
theorem C_config_Copy_x (N : Nat) {κ0 : Gh} {w0 : World} (hfr : Fresh κ0 w0) (a1 : T_config_State) (cs2 : List Value) (hR : ∀ m ∈ ([ml a1.Members 4, Arr.mp t_api_Map cs2 4 a1.Maps, ml a1.Modes 21] : List MP), m.p κ0 w0) {r : (T_config_State)} (H : M.config_Copy_x N a1 = some r) :
    Calls Try.prog 40 #[.agg (flat [si a1.Pool, si a1.Nodes, eb 4 a1.Members, (8, cs2), ei 21 a1.Modes]).toArray] w0 (Post [] κ0 w0 fun v κ w => ∃ (p71 : Option Addr) (c72 : Nat) (p73 : Option Addr) (c74 : Nat) (p75 : Option Addr) (c76 : Nat) (p77 : Option Addr) (c78 : Nat) (p79 : Option Addr) (c80 : Nat) (p81 : Option Addr) (c82 : Nat) (p83 : Option Addr) (c84 : Nat) (p85 : Option Addr) (c86 : Nat), v = .agg (flat [si r.Pool, si r.Nodes, eb 4 r.Members, sl p71 ((r.Maps.getD 0 zm_api_Map).Cuts).length c72, sl p73 ((r.Maps.getD 0 zm_api_Map).Nodes).length c74, sl p75 ((r.Maps.getD 1 zm_api_Map).Cuts).length c76, sl p77 ((r.Maps.getD 1 zm_api_Map).Nodes).length c78, sl p79 ((r.Maps.getD 2 zm_api_Map).Cuts).length c80, sl p81 ((r.Maps.getD 2 zm_api_Map).Nodes).length c82, sl p83 ((r.Maps.getD 3 zm_api_Map).Cuts).length c84, sl p85 ((r.Maps.getD 3 zm_api_Map).Nodes).length c86, ei 21 r.Modes]).toArray ∧ (∀ m ∈ ([ml r.Members 4, Ro.mp fStr.ty p71 c72 ((r.Maps.getD 0 zm_api_Map).Cuts), Ro.mp (fInt .i64).ty p73 c74 ((r.Maps.getD 0 zm_api_Map).Nodes), Ro.mp fStr.ty p75 c76 ((r.Maps.getD 1 zm_api_Map).Cuts), Ro.mp (fInt .i64).ty p77 c78 ((r.Maps.getD 1 zm_api_Map).Nodes), Ro.mp fStr.ty p79 c80 ((r.Maps.getD 2 zm_api_Map).Cuts), Ro.mp (fInt .i64).ty p81 c82 ((r.Maps.getD 2 zm_api_Map).Nodes), Ro.mp fStr.ty p83 c84 ((r.Maps.getD 3 zm_api_Map).Cuts), Ro.mp (fInt .i64).ty p85 c86 ((r.Maps.getD 3 zm_api_Map).Nodes), ml r.Modes 21] : List MP), m.p κ w) ∧ NewC w0 κ w [.tok p71 9 1 ((r.Maps.getD 0 zm_api_Map).Cuts).length c72, .tok p73 3 1 ((r.Maps.getD 0 zm_api_Map).Nodes).length c74, .tok p75 9 1 ((r.Maps.getD 1 zm_api_Map).Cuts).length c76, .tok p77 3 1 ((r.Maps.getD 1 zm_api_Map).Nodes).length c78, .tok p79 9 1 ((r.Maps.getD 2 zm_api_Map).Cuts).length c80, .tok p81 3 1 ((r.Maps.getD 2 zm_api_Map).Nodes).length c82, .tok p83 9 1 ((r.Maps.getD 3 zm_api_Map).Cuts).length c84, .tok p85 3 1 ((r.Maps.getD 3 zm_api_Map).Nodes).length c86]) := by
 have hS := SS.start hfr hR
 refine enter (N := (18)) (L := [(0, .agg (flat [si a1.Pool, si a1.Nodes, eb 4 a1.Members, (8, cs2), ei 21 a1.Modes]).toArray)]) Try.func40 rfl Try.ntmps40 (show 1 ≤ (18) by decide) rfl fun a hF => ?_
 unfold M.config_Copy_x at H
 obtain ⟨cs3, cs4, cs5, cs6, hq, hl, rcs3, rcs4, rcs5, rcs6⟩ := ArrP.four (hS.get 1 rfl) zm_api_Map
 have hS := hS.add (m := ml a1.Maps 4) hl
 obtain ⟨⟨p7, c8, p9, c10⟩, rfl, hR⟩ := rcs3
 have hS := hS.adds hR
 obtain ⟨⟨p11, c12, p13, c14⟩, rfl, hR⟩ := rcs4
 have hS := hS.adds hR
 obtain ⟨⟨p15, c16, p17, c18⟩, rfl, hR⟩ := rcs5
 have hS := hS.adds hR
 obtain ⟨⟨p19, c20, p21, c22⟩, rfl, hR⟩ := rcs6
 have hS := hS.adds hR
 subst hq
 have hS : SS _ _ _ _ _ _ [Ro.mp fStr.ty p19 c20 ((a1.Maps.getD 3 zm_api_Map).Cuts), Ro.mp (fInt .i64).ty p21 c22 ((a1.Maps.getD 3 zm_api_Map).Nodes), Ro.mp fStr.ty p15 c16 ((a1.Maps.getD 2 zm_api_Map).Cuts), Ro.mp (fInt .i64).ty p17 c18 ((a1.Maps.getD 2 zm_api_Map).Nodes), Ro.mp fStr.ty p11 c12 ((a1.Maps.getD 1 zm_api_Map).Cuts), Ro.mp (fInt .i64).ty p13 c14 ((a1.Maps.getD 1 zm_api_Map).Nodes), Ro.mp fStr.ty p7 c8 ((a1.Maps.getD 0 zm_api_Map).Cuts), Ro.mp (fInt .i64).ty p9 c10 ((a1.Maps.getD 0 zm_api_Map).Nodes), ml a1.Maps 4, ml a1.Members 4, ml a1.Modes 21] := hS.pick [0, 1, 2, 3, 4, 5, 6, 7, 8, 9, 11] (by kernel_rfl)
 have hF : Fr (18) [] [(0, .agg (flat [si a1.Pool, si a1.Nodes, eb 4 a1.Members, sl p7 ((a1.Maps.getD 0 zm_api_Map).Cuts).length c8, sl p9 ((a1.Maps.getD 0 zm_api_Map).Nodes).length c10, sl p11 ((a1.Maps.getD 1 zm_api_Map).Cuts).length c12, sl p13 ((a1.Maps.getD 1 zm_api_Map).Nodes).length c14, sl p15 ((a1.Maps.getD 2 zm_api_Map).Cuts).length c16, sl p17 ((a1.Maps.getD 2 zm_api_Map).Nodes).length c18, sl p19 ((a1.Maps.getD 3 zm_api_Map).Cuts).length c20, sl p21 ((a1.Maps.getD 3 zm_api_Map).Nodes).length c22, ei 21 a1.Modes]).toArray)] a := hF.kp [0]
 refine wpIn_seq_k fun K23 hK23 => ?_
 refine wpIn_region_lit ?_
 refine wc (wbx hF hS [si a1.Pool, si a1.Nodes, eb 4 a1.Members, sl p7 ((a1.Maps.getD 0 zm_api_Map).Cuts).length c8, sl p9 ((a1.Maps.getD 0 zm_api_Map).Nodes).length c10, sl p11 ((a1.Maps.getD 1 zm_api_Map).Cuts).length c12, sl p13 ((a1.Maps.getD 1 zm_api_Map).Nodes).length c14, sl p15 ((a1.Maps.getD 2 zm_api_Map).Cuts).length c16, sl p17 ((a1.Maps.getD 2 zm_api_Map).Nodes).length c18, sl p19 ((a1.Maps.getD 3 zm_api_Map).Cuts).length c20, sl p21 ((a1.Maps.getD 3 zm_api_Map).Nodes).length c22, ei 21 a1.Modes] (sgN 2 (sgEnc (hS.get 9 rfl) (sgN 8 (sgEnc (hS.get 10 rfl) sgNil)))) fun b24 a w hF hS => ?_)
 have hS := hS.add (m := ml (List.replicate 4 false) 4) (List.length_replicate)
 have hS := hS.add (m := ml (List.replicate 21 0) 21) (List.length_replicate)
 refine wc (wal hF hS [si 0, si 0, eb 4 (List.replicate 4 false), sl none 0 0, sl none 0 0, sl none 0 0, sl none 0 0, sl none 0 0, sl none 0 0, sl none 0 0, sl none 0 0, ei 21 (List.replicate 21 0)] (sgN 2 (sgEnc List.length_replicate (sgN 8 (sgEnc List.length_replicate sgNil)))) fun b25 a w hF hS => ?_)
 refine wpListIn_nil ?_
 refine hK23 _ _ ?_
 refine wpIn_seq_k fun K26 hK26 => ?_
 refine wpIn_seq_k fun K27 hK27 => ?_
 refine wpIn_region_lit ?_
 refine wp 1 [1, 2, 5] hF fun a hF => ?_
 refine wc (wls hF hS 1 3 8 fun a hF => ?_)
 refine wl_pure (L' := [(1, pt b24 0), (2, pt b25 0), (6, .agg (flat [sl p7 ((a1.Maps.getD 0 zm_api_Map).Cuts).length c8, sl p9 ((a1.Maps.getD 0 zm_api_Map).Nodes).length c10, sl p11 ((a1.Maps.getD 1 zm_api_Map).Cuts).length c12, sl p13 ((a1.Maps.getD 1 zm_api_Map).Nodes).length c14, sl p15 ((a1.Maps.getD 2 zm_api_Map).Cuts).length c16, sl p17 ((a1.Maps.getD 2 zm_api_Map).Nodes).length c18, sl p19 ((a1.Maps.getD 3 zm_api_Map).Cuts).length c20, sl p21 ((a1.Maps.getD 3 zm_api_Map).Nodes).length c22]).toArray), (7, vi 0)]) 1 [1, 2, 6, 7] hF (by kernel_rfl) fun a hF => ?_
 refine wpListIn_nil ?_
 refine hK27 _ _ ?_
 refine wpIn_block ?_
 refine loop_rounds 25 ?_
 refine round_go ?_
 refine wpIn_seq_k fun K28 hK28 => ?_
 refine wpIn_region_lit ?_
 refine wp 1 [1, 2, 6, 7, 8] hF fun a hF => ?_
 refine wpListIn_nil ?_
 refine hK28 _ _ ?_
 refine wpIn_seq_k fun K29 hK29 => ?_
 refine cond_t hF (by kernel_rfl) rfl ?_
 refine wpIn_skip ?_
 refine hK29 _ _ ?_
 refine wpIn_seq_k fun K30 hK30 => ?_
 refine wpIn_block ?_
 refine wpIn_seq_k fun K31 hK31 => ?_
 refine wpIn_region_lit ?_
 refine wp 2 [1, 2, 6, 7, 9, 10] hF fun a hF => ?_
 refine wc (wal hF hS [sl none 0 0, sl none 0 0] (sgN 2 sgNil) fun b32 a w hF hS => ?_)
 refine wp 1 [1, 2, 3, 4, 6, 7, 10] hF fun a hF => ?_
 refine wc (wst hF hS 0 0 2 [sl p7 ((a1.Maps.getD 0 zm_api_Map).Cuts).length c8, sl p9 ((a1.Maps.getD 0 zm_api_Map).Nodes).length c10] (sgN 2 sgNil) fun a w hF hS => ?_)
 refine wpListIn_nil ?_
 refine hK31 _ _ ?_
 refine wpIn_region_lit ?_
 refine wp 1 [1, 2, 4, 6, 7, 11] hF fun a hF => ?_
 refine wc (wls hF hS 0 0 2 fun a hF => ?_)
 refine bind_split H (fun x33 hx33 H => ?_)
 refine wc (wo_callP hF hS (by kernel_rfl) (by kernel_rfl) (C_span_Copy N hS.fresh (T_api_Map.mk ((a1.Maps.getD 0 zm_api_Map).Cuts) ((a1.Maps.getD 0 zm_api_Map).Nodes)) p7 c8 p9 c10 ((hS.pick [8, 9] (by kernel_rfl)).ro) hx33) ?_)
 rintro _ κ w a ⟨p34, c35, p36, c37, rfl, hR, hN⟩ hF hS hO
 have hS := hS.adds hR
 have hS := hS.addC hO hN
 refine wp 2 [1, 2, 6, 7, 13, 15] hF fun a hF => ?_
 refine wc (wst hF hS 4 3 2 [sl p34 (x33.Cuts).length c35, sl p36 (x33.Nodes).length c37] (sgN 2 sgNil) fun a w hF hS => ?_)
 refine wpListIn_nil ?_
 refine hK30 _ _ ?_
 refine wpIn_region_lit ?_
 refine wl_pure (L' := [(1, pt b24 0), (2, pt b25 0), (6, .agg (flat [sl p7 ((a1.Maps.getD 0 zm_api_Map).Cuts).length c8, sl p9 ((a1.Maps.getD 0 zm_api_Map).Nodes).length c10, sl p11 ((a1.Maps.getD 1 zm_api_Map).Cuts).length c12, sl p13 ((a1.Maps.getD 1 zm_api_Map).Nodes).length c14, sl p15 ((a1.Maps.getD 2 zm_api_Map).Cuts).length c16, sl p17 ((a1.Maps.getD 2 zm_api_Map).Nodes).length c18, sl p19 ((a1.Maps.getD 3 zm_api_Map).Cuts).length c20, sl p21 ((a1.Maps.getD 3 zm_api_Map).Nodes).length c22]).toArray), (7, vi 1)]) 2 [1, 2, 6, 7] hF (by kernel_rfl) fun a hF => ?_
 refine wpListIn_nil ?_
 refine round_go ?_
 refine wpIn_seq_k fun K38 hK38 => ?_
 refine wpIn_region_lit ?_
 refine wp 1 [1, 2, 6, 7, 8] hF fun a hF => ?_
 refine wpListIn_nil ?_
 refine hK38 _ _ ?_
 refine wpIn_seq_k fun K39 hK39 => ?_
 refine cond_t hF (by kernel_rfl) rfl ?_
 refine wpIn_skip ?_
 refine hK39 _ _ ?_
 refine wpIn_seq_k fun K40 hK40 => ?_
 refine wpIn_block ?_
 refine wpIn_seq_k fun K41 hK41 => ?_
 refine wpIn_region_lit ?_
 refine wp 2 [1, 2, 6, 7, 9, 10] hF fun a hF => ?_
 refine wc (wal hF hS [sl none 0 0, sl none 0 0] (sgN 2 sgNil) fun b42 a w hF hS => ?_)
 refine wp 1 [1, 2, 3, 4, 6, 7, 10] hF fun a hF => ?_
 refine wc (wst hF hS 0 0 2 [sl p11 ((a1.Maps.getD 1 zm_api_Map).Cuts).length c12, sl p13 ((a1.Maps.getD 1 zm_api_Map).Nodes).length c14] (sgN 2 sgNil) fun a w hF hS => ?_)
 refine wpListIn_nil ?_
 refine hK41 _ _ ?_
 refine wpIn_region_lit ?_
 refine wp 1 [1, 2, 4, 6, 7, 11] hF fun a hF => ?_
 refine wc (wls hF hS 0 0 2 fun a hF => ?_)
 refine bind_split H (fun x43 hx43 H => ?_)
 refine wc (wo_callP hF hS (by kernel_rfl) (by kernel_rfl) (C_span_Copy N hS.fresh (T_api_Map.mk ((a1.Maps.getD 1 zm_api_Map).Cuts) ((a1.Maps.getD 1 zm_api_Map).Nodes)) p11 c12 p13 c14 ((hS.pick [8, 9] (by kernel_rfl)).ro) hx43) ?_)
 rintro _ κ w a ⟨p44, c45, p46, c47, rfl, hR, hN⟩ hF hS hO
 have hS := hS.adds hR
 have hS := hS.addC hO hN
 refine wp 2 [1, 2, 6, 7, 13, 15] hF fun a hF => ?_
 refine wc (wst hF hS 7 5 2 [sl p44 (x43.Cuts).length c45, sl p46 (x43.Nodes).length c47] (sgN 2 sgNil) fun a w hF hS => ?_)
 refine wpListIn_nil ?_
 refine hK40 _ _ ?_
 refine wpIn_region_lit ?_
 refine wl_pure (L' := [(1, pt b24 0), (2, pt b25 0), (6, .agg (flat [sl p7 ((a1.Maps.getD 0 zm_api_Map).Cuts).length c8, sl p9 ((a1.Maps.getD 0 zm_api_Map).Nodes).length c10, sl p11 ((a1.Maps.getD 1 zm_api_Map).Cuts).length c12, sl p13 ((a1.Maps.getD 1 zm_api_Map).Nodes).length c14, sl p15 ((a1.Maps.getD 2 zm_api_Map).Cuts).length c16, sl p17 ((a1.Maps.getD 2 zm_api_Map).Nodes).length c18, sl p19 ((a1.Maps.getD 3 zm_api_Map).Cuts).length c20, sl p21 ((a1.Maps.getD 3 zm_api_Map).Nodes).length c22]).toArray), (7, vi 2)]) 2 [1, 2, 6, 7] hF (by kernel_rfl) fun a hF => ?_
 refine wpListIn_nil ?_
 refine round_go ?_
 refine wpIn_seq_k fun K48 hK48 => ?_
 refine wpIn_region_lit ?_
 refine wp 1 [1, 2, 6, 7, 8] hF fun a hF => ?_
 refine wpListIn_nil ?_
 refine hK48 _ _ ?_
 refine wpIn_seq_k fun K49 hK49 => ?_
 refine cond_t hF (by kernel_rfl) rfl ?_
 refine wpIn_skip ?_
 refine hK49 _ _ ?_
 refine wpIn_seq_k fun K50 hK50 => ?_
 refine wpIn_block ?_
 refine wpIn_seq_k fun K51 hK51 => ?_
 refine wpIn_region_lit ?_
 refine wp 2 [1, 2, 6, 7, 9, 10] hF fun a hF => ?_
 refine wc (wal hF hS [sl none 0 0, sl none 0 0] (sgN 2 sgNil) fun b52 a w hF hS => ?_)
 refine wp 1 [1, 2, 3, 4, 6, 7, 10] hF fun a hF => ?_
 refine wc (wst hF hS 0 0 2 [sl p15 ((a1.Maps.getD 2 zm_api_Map).Cuts).length c16, sl p17 ((a1.Maps.getD 2 zm_api_Map).Nodes).length c18] (sgN 2 sgNil) fun a w hF hS => ?_)
 refine wpListIn_nil ?_
 refine hK51 _ _ ?_
 refine wpIn_region_lit ?_
 refine wp 1 [1, 2, 4, 6, 7, 11] hF fun a hF => ?_
 refine wc (wls hF hS 0 0 2 fun a hF => ?_)
 refine bind_split H (fun x53 hx53 H => ?_)
 refine wc (wo_callP hF hS (by kernel_rfl) (by kernel_rfl) (C_span_Copy N hS.fresh (T_api_Map.mk ((a1.Maps.getD 2 zm_api_Map).Cuts) ((a1.Maps.getD 2 zm_api_Map).Nodes)) p15 c16 p17 c18 ((hS.pick [8, 9] (by kernel_rfl)).ro) hx53) ?_)
 rintro _ κ w a ⟨p54, c55, p56, c57, rfl, hR, hN⟩ hF hS hO
 have hS := hS.adds hR
 have hS := hS.addC hO hN
 refine wp 2 [1, 2, 6, 7, 13, 15] hF fun a hF => ?_
 refine wc (wst hF hS 10 7 2 [sl p54 (x53.Cuts).length c55, sl p56 (x53.Nodes).length c57] (sgN 2 sgNil) fun a w hF hS => ?_)
 refine wpListIn_nil ?_
 refine hK50 _ _ ?_
 refine wpIn_region_lit ?_
 refine wl_pure (L' := [(1, pt b24 0), (2, pt b25 0), (6, .agg (flat [sl p7 ((a1.Maps.getD 0 zm_api_Map).Cuts).length c8, sl p9 ((a1.Maps.getD 0 zm_api_Map).Nodes).length c10, sl p11 ((a1.Maps.getD 1 zm_api_Map).Cuts).length c12, sl p13 ((a1.Maps.getD 1 zm_api_Map).Nodes).length c14, sl p15 ((a1.Maps.getD 2 zm_api_Map).Cuts).length c16, sl p17 ((a1.Maps.getD 2 zm_api_Map).Nodes).length c18, sl p19 ((a1.Maps.getD 3 zm_api_Map).Cuts).length c20, sl p21 ((a1.Maps.getD 3 zm_api_Map).Nodes).length c22]).toArray), (7, vi 3)]) 2 [1, 2, 6, 7] hF (by kernel_rfl) fun a hF => ?_
 refine wpListIn_nil ?_
 refine round_go ?_
 refine wpIn_seq_k fun K58 hK58 => ?_
 refine wpIn_region_lit ?_
 refine wp 1 [1, 2, 6, 7, 8] hF fun a hF => ?_
 refine wpListIn_nil ?_
 refine hK58 _ _ ?_
 refine wpIn_seq_k fun K59 hK59 => ?_
 refine cond_t hF (by kernel_rfl) rfl ?_
 refine wpIn_skip ?_
 refine hK59 _ _ ?_
 refine wpIn_seq_k fun K60 hK60 => ?_
 refine wpIn_block ?_
 refine wpIn_seq_k fun K61 hK61 => ?_
 refine wpIn_region_lit ?_
 refine wp 2 [1, 2, 6, 7, 9, 10] hF fun a hF => ?_
 refine wc (wal hF hS [sl none 0 0, sl none 0 0] (sgN 2 sgNil) fun b62 a w hF hS => ?_)
 refine wp 1 [1, 2, 3, 4, 6, 7, 10] hF fun a hF => ?_
 refine wc (wst hF hS 0 0 2 [sl p19 ((a1.Maps.getD 3 zm_api_Map).Cuts).length c20, sl p21 ((a1.Maps.getD 3 zm_api_Map).Nodes).length c22] (sgN 2 sgNil) fun a w hF hS => ?_)
 refine wpListIn_nil ?_
 refine hK61 _ _ ?_
 refine wpIn_region_lit ?_
 refine wp 1 [1, 2, 4, 6, 7, 11] hF fun a hF => ?_
 refine wc (wls hF hS 0 0 2 fun a hF => ?_)
 refine bind_split H (fun x63 hx63 H => ?_)
 refine wc (wo_callP hF hS (by kernel_rfl) (by kernel_rfl) (C_span_Copy N hS.fresh (T_api_Map.mk ((a1.Maps.getD 3 zm_api_Map).Cuts) ((a1.Maps.getD 3 zm_api_Map).Nodes)) p19 c20 p21 c22 ((hS.pick [8, 9] (by kernel_rfl)).ro) hx63) ?_)
 rintro _ κ w a ⟨p64, c65, p66, c67, rfl, hR, hN⟩ hF hS hO
 have hS := hS.adds hR
 have hS := hS.addC hO hN
 refine wp 2 [1, 2, 6, 7, 13, 15] hF fun a hF => ?_
 refine wc (wst hF hS 13 9 2 [sl p64 (x63.Cuts).length c65, sl p66 (x63.Nodes).length c67] (sgN 2 sgNil) fun a w hF hS => ?_)
 refine wpListIn_nil ?_
 refine hK60 _ _ ?_
 refine wpIn_region_lit ?_
 refine wl_pure (L' := [(1, pt b24 0), (2, pt b25 0), (6, .agg (flat [sl p7 ((a1.Maps.getD 0 zm_api_Map).Cuts).length c8, sl p9 ((a1.Maps.getD 0 zm_api_Map).Nodes).length c10, sl p11 ((a1.Maps.getD 1 zm_api_Map).Cuts).length c12, sl p13 ((a1.Maps.getD 1 zm_api_Map).Nodes).length c14, sl p15 ((a1.Maps.getD 2 zm_api_Map).Cuts).length c16, sl p17 ((a1.Maps.getD 2 zm_api_Map).Nodes).length c18, sl p19 ((a1.Maps.getD 3 zm_api_Map).Cuts).length c20, sl p21 ((a1.Maps.getD 3 zm_api_Map).Nodes).length c22]).toArray), (7, vi 4)]) 2 [1, 2, 6, 7] hF (by kernel_rfl) fun a hF => ?_
 refine wpListIn_nil ?_
 refine round_go ?_
 refine wpIn_seq_k fun K68 hK68 => ?_
 refine wpIn_region_lit ?_
 refine wp 1 [1, 2, 6, 7, 8] hF fun a hF => ?_
 refine wpListIn_nil ?_
 refine hK68 _ _ ?_
 refine wpIn_seq_k fun K69 hK69 => ?_
 refine cond_f hF (by kernel_rfl) rfl ?_
 refine wpIn_exit ?_
 refine hK26 _ _ ?_
 refine wpIn_seq_k fun K70 hK70 => ?_
 refine wpIn_region_lit ?_
 refine wc (wls hF hS 13 0 12 fun a hF => ?_)
 refine wc (wst hF hS 12 0 12 [si a1.Pool, si a1.Nodes, eb 4 a1.Members, sl p34 (x33.Cuts).length c35, sl p36 (x33.Nodes).length c37, sl p44 (x43.Cuts).length c45, sl p46 (x43.Nodes).length c47, sl p54 (x53.Cuts).length c55, sl p56 (x53.Nodes).length c57, sl p64 (x63.Cuts).length c65, sl p66 (x63.Nodes).length c67, ei 21 a1.Modes] (sgN 2 (sgEnc (hS.get 19 rfl) (sgN 8 (sgEnc (hS.get 20 rfl) sgNil)))) fun a w hF hS => ?_)
 refine wpListIn_nil ?_
 refine hK70 _ _ ?_
 refine wpIn_ret ?_
 have hS' := hS
 cases H
 exact (ret_done hF hS (res1 Try.results40 (rvs hF hS' 12 0 12)) ⟨p34, c35, p36, c37, p44, c45, p46, c47, p54, c55, p56, c57, p64, c65, p66, c67, rfl, (hS.pick [19, 6, 7, 4, 5, 2, 3, 0, 1, 20] (by kernel_rfl)).ro, hS.newC [9, 10, 6, 7, 3, 4, 0, 1] (by decide) (by kernel_rfl)⟩)
set_option maxRecDepth 20000 in
set_option maxHeartbeats 8000000 in
theorem C_config_State_both_x (N : Nat) {Ms : List Nat} {κ0 : Gh} {w0 : World} (a2 : (List Int)) (a4 : Int) (cs1 : List Value) (b3 : Nat) (hB : SB Ms κ0 w0 [.box b3 56 [(14, cs1), ei 21 a2]] [ml a2 21]) {r : ((List Int))} (H : M.config_State_both_x N a2 a4 = some r) :
    Calls Try.prog 81 #[pt b3 0, vi a4] w0 (Post Ms κ0 w0 fun v κ w => v = .tuple #[] ∧ SS Ms κ0 w0 κ w [.box b3 56 [(14, cs1), ei 21 r]] [ml r 21]) := by
 have hS := hB.hS
 have hfr := hS.fresh
 refine enter (N := (16)) (L := [(0, pt b3 0), (1, vi a4)]) Try.func81 rfl Try.ntmps81 (show 2 ≤ (16) by decide) rfl fun a hF => ?_
 unfold M.config_State_both_x at H
 refine wpIn_seq_k fun K5 hK5 => ?_
 refine wpIn_region_lit ?_
 refine wp 1 [0, 1, 4] hF fun a hF => ?_
 refine wpListIn_nil ?_
 refine hK5 _ _ ?_
 refine wpIn_block ?_
 refine loop_fuel (n := N) (fun n a w => ∃ (κ : Gh) (y56 : List Int) (y57 : Int), Fr (16) [] [(0, pt b3 0), (1, vi a4), (4, vi y57)] a ∧ SS Ms κ0 w0 κ w [.box b3 56 [(14, cs1), ei 21 y56]] [ml y56 21] ∧ M.config_State_both_x_L1 N n a4 y56 y57 = some r) ?_ ?_
 exact ⟨_, a2, (-1), hF.kp [0, 1, 4], hS.sp [0] [0], H⟩
 rintro n a w ⟨κ, y56, y57, hF, hS, H⟩
 rcases n with _ | fuel1
 simp [M.config_State_both_x_L1] at H
 simp only [M.config_State_both_x_L1] at H
 refine wpIn_seq_k fun K58 hK58 => ?_
 refine wpIn_seq_k fun K59 hK59 => ?_
 refine wpIn_region_lit ?_
 refine wp 2 [0, 1, 4, 6] hF fun a hF => ?_
 refine wpListIn_nil ?_
 refine hK59 _ _ ?_
 refine bif_split H (fun hb H => ?_) (fun hb H => ?_)
 refine cond_t hF (by kernel_rfl) hb ?_
 refine wpIn_skip ?_
 refine hK58 _ _ ?_
 refine wpIn_seq_k fun K60 hK60 => ?_
 refine wpIn_block ?_
 refine rgS hS [7] ?_
 have hS := hS.drew
 refine any_pure [0, 1, 2, 4, 5] [0, 1, 4, 10, 11, 14] (L' := [(0, pt b3 0), (1, vi a4), (4, vi y57), (10, vi a4), (11, vi y57), (14, pt b3 14)]) (listed' := (bitA 8 55)) (fuel := 3) hF (hS.sx [0] [0]) (by kernel_rfl) (by intro c a w t v h; cases t <;> exact h) (by kernel_rfl) rfl fun a hF => ?_
 refine ago 3 hF rfl ?_
 refine bind_split H (fun x61 hx61 H => ?_)
 refine wo_callP hF hS (by kernel_rfl) (by kernel_rfl) (C_api_Place N hS.fresh a4 y57  ((hS.pick [] (by kernel_rfl)).ro) hx61) ?_
 rintro _ κ w a ⟨rfl, hR, hN⟩ hF hS hO
 refine ⟨fun _ => (hS.sx [0] [0]), ?_⟩
 refine bind_split H (fun x62 hx62 H => ?_)
 refine atk 6 (some 15) hF (hS.sx [0] [0]) rfl (fun w _ => val_indexArr (E := 3) (sz := 1) (n := 21) rfl rfl (i := x61) rfl (idx_lt hx62 (hS.get 0 rfl)) (by kernel_rfl) (by kernel_rfl) w) fun a hF => ?_
 refine ago 7 hF rfl ?_
 refine wo_storeA1 (t := (fInt .i64)) (y := 2) (v := vi 2) hF hS (by kernel_rfl) 0 1 (s' := [(14, cs1), ei 21 (List.set y56 (Int.toNat x61) 2)]) (C' := [.box b3 56 [(14, cs1), ei 21 (List.set y56 (Int.toNat x61) 2)]]) rfl rfl (by kernel_rfl) rfl rfl hx62 rfl rfl (by kernel_rfl) (by kernel_rfl) (by kernel_rfl) (by kernel_rfl) fun a w hF hS => ?_
 have hS := hS.add (m := ml (List.set y56 (Int.toNat x61) 2) 21) (List.length_set.trans (hS.get 0 rfl))
 refine ⟨notE, ?_⟩
 refine and_ ?_
 refine hK60 _ _ ?_
 refine wpIn_region_lit ?_
 refine wp 3 [0, 1, 4] hF fun a hF => ?_
 refine wpListIn_nil ?_
 exact ⟨fuel1, Nat.lt_succ_self _, _, (List.set y56 (Int.toNat x61) 2), IntKind.i64.wrap (y57 + 1), hF.kp [0, 1, 4], hS.sp [0] [0], H⟩
 refine cond_f hF (by kernel_rfl) hb ?_
 refine wpIn_exit ?_
 cases H
 exact ret_done hF hS (res0 Try.results81 ) ⟨rfl, hS.sp [0] [0]⟩
set_option maxRecDepth 20000 in
set_option maxHeartbeats 8000000 in
theorem C_config_State_any_x (N : Nat) {Ms : List Nat} {κ0 : Gh} {w0 : World} (a2 : (List Int)) (a4 : Int) (cs1 : List Value) (b3 : Nat) (hB : SB Ms κ0 w0 [.box b3 56 [(14, cs1), ei 21 a2]] [ml a2 21]) {r : (Bool)} (H : M.config_State_any_x N a2 a4 = some r) :
    Calls Try.prog 110 #[pt b3 0, vi a4] w0 (Post Ms κ0 w0 fun v κ w => v = vb r ∧ SS Ms κ0 w0 κ w [.box b3 56 [(14, cs1), ei 21 a2]] []) := by
 have hS := hB.hS
 have hfr := hS.fresh
 refine enter (N := (18)) (L := [(0, pt b3 0), (1, vi a4)]) Try.func110 rfl Try.ntmps110 (show 2 ≤ (18) by decide) rfl fun a hF => ?_
 unfold M.config_State_any_x at H
 refine wpIn_seq_k fun K5 hK5 => ?_
 refine wpIn_region_lit ?_
 refine wp 1 [0, 1] hF fun a hF => ?_
 refine wpListIn_nil ?_
 refine hK5 _ _ ?_
 refine wpIn_seq_k fun K6 hK6 => ?_
 refine wpIn_seq_k fun K7 hK7 => ?_
 refine wpIn_region_lit ?_
 refine wp 3 [1, 9] hF fun a hF => ?_
 refine wc (wls hF hS 0 1 1 fun a hF => ?_)
 refine wp 1 [1, 10, 11] hF fun a hF => ?_
 refine wpListIn_nil ?_
 refine hK7 _ _ ?_
 refine wpIn_block ?_
 refine loop_fuel (n := N) (fun n a w => ∃ (κ : Gh) (y58 : Int), Fr (18) [] [(1, vi a4), (10, .agg (flat [ei 21 a2]).toArray), (11, vi y58)] a ∧ SS Ms κ0 w0 κ w [.box b3 56 [(14, cs1), ei 21 a2]] [ml a2 21] ∧ M.config_State_any_x_L1 N n a2 a4 y58 = some r) ?_ ?_
 exact ⟨_, 0, hF.kp [1, 10, 11], hS.sp [0] [0], H⟩
 rintro n a w ⟨κ, y58, hF, hS, H⟩
 rcases n with _ | fuel1
 simp [M.config_State_any_x_L1] at H
 simp only [M.config_State_any_x_L1] at H
 refine wpIn_seq_k fun K59 hK59 => ?_
 refine wpIn_region_lit ?_
 refine wl_pure (L' := [(1, vi a4), (10, .agg (flat [ei 21 a2]).toArray), (11, vi y58), (12, vb (decide (y58 < 21)))]) 1 [1, 10, 11, 12] hF (by kernel_rfl) fun a hF => ?_
 refine wpListIn_nil ?_
 refine hK59 _ _ ?_
 refine wpIn_seq_k fun K60 hK60 => ?_
 refine bif_split H (fun hb H => ?_) (fun hb H => ?_)
 refine cond_t hF (by kernel_rfl) hb ?_
 refine wpIn_skip ?_
 refine hK60 _ _ ?_
 refine wpIn_seq_k fun K61 hK61 => ?_
 refine wpIn_block ?_
 refine wpIn_seq_k fun K62 hK62 => ?_
 refine wpIn_region_lit ?_
 refine bind_split H (fun x63 hx63 H => ?_)
 refine wc (wo_val hF (by kernel_rfl) (v := vi x63) (val_indexA1 (t := (fInt .i64)) (E := 3) (n := 21) (m := 21) rfl (by kernel_rfl) rfl hx63 (hS.get 0 rfl) rfl rfl (by kernel_rfl) (by kernel_rfl) (by kernel_rfl) _) fun a hF => ?_)
 refine wp 1 [1, 6, 10, 11] hF fun a hF => ?_
 refine wpListIn_nil ?_
 refine hK62 _ _ ?_
 refine wpIn_seq_k fun K64 hK64 => ?_
 refine wpIn_region_lit ?_
 refine wp 3 [1, 10, 11, 16] hF fun a hF => ?_
 refine wpListIn_nil ?_
 refine hK64 _ _ ?_
 refine bif_split H (fun hb H => ?_) (fun hb H => ?_)
 refine cond_t hF (by kernel_rfl) hb ?_
 refine wpIn_seq_k fun K65 hK65 => ?_
 refine wpIn_region_lit ?_
 refine wp 1 [4] hF fun a hF => ?_
 refine wpListIn_nil ?_
 refine hK65 _ _ ?_
 refine wpIn_ret ?_
 cases H
 exact ret_done hF hS (res1 Try.results110 (rvt hF)) ⟨rfl, hS.sp [0] []⟩
 refine cond_f hF (by kernel_rfl) hb ?_
 refine wpIn_skip ?_
 refine hK61 _ _ ?_
 refine wpIn_region_lit ?_
 refine wp 2 [1, 10, 11] hF fun a hF => ?_
 refine wpListIn_nil ?_
 exact ⟨fuel1, Nat.lt_succ_self _, _, IntKind.i64.wrap (y58 + 1), hF.kp [1, 10, 11], hS.sp [0] [0], H⟩
 refine cond_f hF (by kernel_rfl) hb ?_
 refine wpIn_exit ?_
 refine hK6 _ _ ?_
 refine wpIn_seq_k fun K66 hK66 => ?_
 refine wpIn_region_lit ?_
 refine wp 1 [4] hF fun a hF => ?_
 refine wpListIn_nil ?_
 refine hK66 _ _ ?_
 refine wpIn_ret ?_
 cases H
 exact ret_done hF hS (res1 Try.results110 (rvt hF)) ⟨rfl, hS.sp [0] []⟩
set_option maxRecDepth 20000 in
set_option maxHeartbeats 8000000 in
theorem C_config_State_speak_x (N : Nat) {Ms : List Nat} {κ0 : Gh} {w0 : World} (a2 : Int) (a4 : (List Int)) (a6 : T_api_Cmd) (cs1 : List Value) (cs3 : List Value) (b5 : Nat) (hB : SB Ms κ0 w0 [.box b5 56 [(1, cs1), si a2, (12, cs3), ei 21 a4]] [ml a4 21]) {r : (Int × (List Int))} (H : M.config_State_speak_x N a2 a4 a6 = some r) :
    Calls Try.prog 82 #[pt b5 0, .agg (flat [si a6.Kind, si a6.DC, si a6.Shard, si a6.Node, si a6.Mode, sg a6.Key]).toArray] w0 (Post Ms κ0 w0 fun v κ w => v = vi r.1 ∧ SS Ms κ0 w0 κ w [.box b5 56 [(1, cs1), si a2, (12, cs3), ei 21 r.2]] [ml r.2 21]) := by
 have hS := hB.hS
 have hfr := hS.fresh
 refine enter (N := (96)) (L := [(0, pt b5 0), (1, .agg (flat [si a6.Kind, si a6.DC, si a6.Shard, si a6.Node, si a6.Mode, sg a6.Key]).toArray)]) Try.func82 rfl Try.ntmps82 (show 2 ≤ (96) by decide) rfl fun a hF => ?_
 unfold M.config_State_speak_x at H
 refine wpIn_seq_k fun K7 hK7 => ?_
 refine wpIn_region_lit ?_
 refine wc (wbx hF hS [si a6.Kind, si a6.DC, si a6.Shard, si a6.Node, si a6.Mode, sg a6.Key] (sgN 6 sgNil) fun b8 a w hF hS => ?_)
 refine wp 1 [0, 3] hF fun a hF => ?_
 refine wpListIn_nil ?_
 refine hK7 _ _ ?_
 refine wpIn_seq_k fun K9 hK9 => ?_
 refine wpIn_seq_k fun K10 hK10 => ?_
 refine bind_split H (fun v12 hv12 H => ?_)
 refine code_join (fun a w => ∃ κ : Gh, Fr (96) [] [(0, pt b5 0), (3, pt b8 0), (32, vb v12)] a ∧ SS Ms κ0 w0 κ w [.box b8 58 [si a6.Kind, si a6.DC, si a6.Shard, si a6.Node, si a6.Mode, sg a6.Key], .box b5 56 [(1, cs1), si a2, (12, cs3), ei 21 a4]] [ml a4 21] ∧ True) ?_ ?_
 refine rgS hS [] ?_
 have hS := hS.drew
 refine anp [0] [0, 3, 6] hF (hS.sx [0, 1] [0]) fun a hF => ?_
 refine atk 1 (some 7) hF (hS.sx [0, 1] [0]) rfl (vld 0 3 0) fun a hF => ?_
 refine anp [2, 3] [0, 3, 9] hF (hS.sx [0, 1] [0]) fun a hF => ?_
 refine bif_split hv12 (fun hb hv12 => ?_) (fun hb hv12 => ?_)
 have hF := hF.boolv 9 (by kernel_rfl) hb
 refine anp [4, 5, 6, 7, 8, 9, 10, 11, 12, 13, 14, 15, 16, 17, 18, 19, 20, 21, 22, 23, 24, 25, 26] [0, 3, 32] hF (hS.sx [0, 1] [0]) fun a hF => ?_
 refine and_ ?_
 cases hv12
 exact ⟨_, hF.kp [0, 3, 32], hS.sp [0, 1] [0], trivial⟩
 have hF := hF.boolv 9 (by kernel_rfl) hb
 refine anp [4, 6, 7, 8] [0, 3, 9, 10, 14] hF (hS.sx [0, 1] [0]) fun a hF => ?_
 refine atk 5 (some 11) hF (hS.sx [0, 1] [0]) rfl (vld 0 3 0) fun a hF => ?_
 refine atk 9 (some 15) hF (hS.sx [0, 1] [0]) rfl (vld 1 1 0) fun a hF => ?_
 refine anp [10, 11, 12] [0, 3, 18] hF (hS.sx [0, 1] [0]) fun a hF => ?_
 refine bif_split hv12 (fun hb hv12 => ?_) (fun hb hv12 => ?_)
 have hF := hF.boolv 18 (by kernel_rfl) hb
 refine anp [13, 14, 15, 16, 17, 18, 19, 20, 21, 22, 23, 24, 25, 26] [0, 3, 32] hF (hS.sx [0, 1] [0]) fun a hF => ?_
 refine and_ ?_
 cases hv12
 exact ⟨_, hF.kp [0, 3, 32], hS.sp [0, 1] [0], trivial⟩
 have hF := hF.boolv 18 (by kernel_rfl) hb
 refine anp [13] [0, 3, 18, 19] hF (hS.sx [0, 1] [0]) fun a hF => ?_
 refine atk 14 (some 20) hF (hS.sx [0, 1] [0]) rfl (vld 0 3 0) fun a hF => ?_
 refine anp [15, 16, 17] [0, 3, 23] hF (hS.sx [0, 1] [0]) fun a hF => ?_
 refine bif_split hv12 (fun hb hv12 => ?_) (fun hb hv12 => ?_)
 have hF := hF.boolv 23 (by kernel_rfl) hb
 refine anp [18, 19, 20, 21, 22, 23, 24, 25, 26] [0, 3, 32] hF (hS.sx [0, 1] [0]) fun a hF => ?_
 refine and_ ?_
 cases hv12
 exact ⟨_, hF.kp [0, 3, 32], hS.sp [0, 1] [0], trivial⟩
 have hF := hF.boolv 23 (by kernel_rfl) hb
 refine anp [18] [0, 3, 23, 24] hF (hS.sx [0, 1] [0]) fun a hF => ?_
 refine atk 19 (some 25) hF (hS.sx [0, 1] [0]) rfl (vld 0 4 0) fun a hF => ?_
 refine anp [20, 21, 22] [0, 3, 28] hF (hS.sx [0, 1] [0]) fun a hF => ?_
 refine bif_split hv12 (fun hb hv12 => ?_) (fun hb hv12 => ?_)
 have hF := hF.boolv 28 (by kernel_rfl) hb
 refine anp [23, 24, 25, 26] [0, 3, 32] hF (hS.sx [0, 1] [0]) fun a hF => ?_
 refine and_ ?_
 cases hv12
 exact ⟨_, hF.kp [0, 3, 32], hS.sp [0, 1] [0], trivial⟩
 have hF := hF.boolv 28 (by kernel_rfl) hb
 refine anp [23] [0, 3, 28, 29] hF (hS.sx [0, 1] [0]) fun a hF => ?_
 refine atk 24 (some 30) hF (hS.sx [0, 1] [0]) rfl (vld 0 4 0) fun a hF => ?_
 refine anp [25, 26] [0, 3, 32] hF (hS.sx [0, 1] [0]) fun a hF => ?_
 refine and_ ?_
 cases hv12
 exact ⟨_, hF.kp [0, 3, 32], hS.sp [0, 1] [0], trivial⟩
 rintro a w ⟨κ, hF, hS, -⟩
 refine hK10 _ _ ?_
 refine bif_split H (fun hb H => ?_) (fun hb H => ?_)
 refine cond_t hF (by kernel_rfl) hb ?_
 refine wpIn_seq_k fun K13 hK13 => ?_
 refine wpIn_region_lit ?_
 refine wp 1 [4] hF fun a hF => ?_
 refine wpListIn_nil ?_
 refine hK13 _ _ ?_
 refine wpIn_ret ?_
 cases H
 exact ret_done hF hS (res1 Try.results82 (rvt hF)) ⟨rfl, hS.sp [1] [0]⟩
 refine cond_f hF (by kernel_rfl) hb ?_
 refine wpIn_skip ?_
 refine hK9 _ _ ?_
 refine wpIn_seq_k fun K14 hK14 => ?_
 refine wpIn_region_lit ?_
 refine wp 1 [0, 3, 33] hF fun a hF => ?_
 refine wc (wld hF hS 0 1 0 fun a hF => ?_)
 refine wp 1 [0, 3, 34, 35] hF fun a hF => ?_
 refine wc (wld hF hS 0 3 0 fun a hF => ?_)
 refine wp 1 [0, 3, 34, 37] hF fun a hF => ?_
 refine bind_split H (fun x15 hx15 H => ?_)
 refine wc (wo_callP hF hS (by kernel_rfl) (by kernel_rfl) (C_api_Place N hS.fresh a6.DC (IntKind.i64.wrap (a6.Node - 1))  ((hS.pick [] (by kernel_rfl)).ro) hx15) ?_)
 rintro _ κ w a ⟨rfl, hR, hN⟩ hF hS hO
 refine wp 1 [0, 3, 5] hF fun a hF => ?_
 refine wpListIn_nil ?_
 refine hK14 _ _ ?_
 refine wpIn_seq_k fun K16 hK16 => ?_
 refine wpIn_block ?_
 refine wpIn_seq_k fun K17 hK17 => ?_
 refine rgS hS [] ?_
 have hS := hS.drew
 refine any_pure [0, 1, 2, 3, 6] [0, 3, 5, 41, 43, 46] (L' := [(0, pt b5 0), (3, pt b8 0), (5, vi x15), (41, vi x15), (43, pt b5 14), (46, pt b8 4)]) (listed' := (bitA 10 79)) (fuel := 5) hF (hS.sx [0, 1] [0]) (by kernel_rfl) (by intro c a w t v h; cases t <;> exact h) (by kernel_rfl) rfl fun a hF => ?_
 refine bind_split H (fun x18 hx18 H => ?_)
 refine atk 4 (some 44) hF (hS.sx [0, 1] [0]) rfl (fun w _ => val_indexArr (E := 3) (sz := 1) (n := 21) rfl rfl (i := x15) rfl (idx_lt hx18 (hS.get 0 rfl)) (by kernel_rfl) (by kernel_rfl) w) fun a hF => ?_
 refine atk 5 (some 45) hF (hS.sx [0, 1] [0]) rfl (val_loadA1 (t := (fInt .i64)) 1 3 (v := vi x18) rfl rfl rfl rfl hx18 rfl rfl (by kernel_rfl) (by kernel_rfl)) fun a hF => ?_
 refine atk 7 (some 47) hF (hS.sx [0, 1] [0]) rfl (vld 0 4 0) fun a hF => ?_
 refine anp [8, 9] [0, 3, 5, 39] hF (hS.sx [0, 1] [0]) fun a hF => ?_
 refine and_ ?_
 refine hK17 _ _ ?_
 refine bif_split H (fun hb H => ?_) (fun hb H => ?_)
 refine cond_t hF (by kernel_rfl) hb ?_
 refine wpIn_seq_k fun K19 hK19 => ?_
 refine wpIn_region_lit ?_
 refine wp 1 [4] hF fun a hF => ?_
 refine wpListIn_nil ?_
 refine hK19 _ _ ?_
 refine wpIn_ret ?_
 cases H
 exact ret_done hF hS (res1 Try.results82 (rvt hF)) ⟨rfl, hS.sp [1] [0]⟩
 refine cond_f hF (by kernel_rfl) hb ?_
 refine seq_join (fun a w => ∃ (κ : Gh) (y20 : Bool), Fr (96) [] [(0, pt b5 0), (3, pt b8 0), (5, vi x15), (49, vb y20)] a ∧ SS Ms κ0 w0 κ w [.box b8 58 [si a6.Kind, si a6.DC, si a6.Shard, si a6.Node, si a6.Mode, sg a6.Key], .box b5 56 [(1, cs1), si a2, (12, cs3), ei 21 a4]] [ml a4 21] ∧ M.config_State_speak_x_k1 N a2 a4 a6 x15 y20 = some r) ?_ ?_
 refine wpIn_seq_k fun K34 hK34 => ?_
 refine wpIn_region_lit ?_
 refine bind_split H (fun v36 hv36 H => ?_)
 refine wl_join (fun a w => ∃ κ : Gh, Fr (96) [] [(0, pt b5 0), (3, pt b8 0), (5, vi x15), (49, vb v36)] a ∧ SS Ms κ0 w0 κ w [.box b8 58 [si a6.Kind, si a6.DC, si a6.Shard, si a6.Node, si a6.Mode, sg a6.Key], .box b5 56 [(1, cs1), si a2, (12, cs3), ei 21 a4]] [ml a4 21] ∧ True) ?_ ?_
 refine wl_pure (L' := [(0, pt b5 0), (3, pt b8 0), (5, vi x15), (51, vi x15), (53, pt b5 14)]) 4 [0, 3, 5, 51, 53] hF (by kernel_rfl) fun a hF => ?_
 refine bind_split hv36 (fun x37 hx37 hv36 => ?_)
 refine wc (wo_indexArr hF (by kernel_rfl) (E := 3) (sz := 1) (n := 21) rfl rfl (i := x15) rfl (idx_lt hx37 (hS.get 0 rfl)) (by kernel_rfl) (by kernel_rfl) fun a hF => ?_)
 refine wc (wo_loadA1 (t := (fInt .i64)) hF hS (by kernel_rfl) 1 3 (v := vi x37) rfl rfl rfl rfl hx37 rfl rfl (by kernel_rfl) (by kernel_rfl) fun a hF => ?_)
 refine wp 2 [0, 3, 5, 57] hF fun a hF => ?_
 refine bif_split hv36 (fun hb hv36 => ?_) (fun hb hv36 => ?_)
 have hF := hF.boolv 57 (by kernel_rfl) hb
 refine wp 1 [0, 3, 5, 57, 58] hF fun a hF => ?_
 refine wcg hF (wld hF hS 0 4 0 fun a hF => ?_)
 refine wp 3 [0, 3, 5, 49] hF fun a hF => ?_
 refine wpListIn_nil ?_
 cases hv36
 exact ⟨_, hF.kp [0, 3, 5, 49], hS.sp [0, 1] [0], trivial⟩
 have hF := hF.boolv 57 (by kernel_rfl) hb
 refine wp 5 [0, 3, 5, 49] hF fun a hF => ?_
 refine wpListIn_nil ?_
 cases hv36
 exact ⟨_, hF.kp [0, 3, 5, 49], hS.sp [0, 1] [0], trivial⟩
 rintro a w ⟨κ, hF, hS, -⟩
 refine hK34 _ _ ?_
 refine bif_split H (fun hb H => ?_) (fun hb H => ?_)
 refine cond_t hF (by kernel_rfl) hb ?_
 refine wpIn_skip ?_
 exact ⟨_, v36, hF.kp [0, 3, 5, 49], hS.sp [0, 1] [0], H⟩
 refine cond_f hF (by kernel_rfl) hb ?_
 refine wpIn_region_lit ?_
 refine bind_split H (fun v39 hv39 H => ?_)
 refine wl_join (fun a w => ∃ κ : Gh, Fr (96) [] [(0, pt b5 0), (3, pt b8 0), (5, vi x15), (49, vb v39)] a ∧ SS Ms κ0 w0 κ w [.box b8 58 [si a6.Kind, si a6.DC, si a6.Shard, si a6.Node, si a6.Mode, sg a6.Key], .box b5 56 [(1, cs1), si a2, (12, cs3), ei 21 a4]] [ml a4 21] ∧ True) ?_ ?_
 refine wl_pure (L' := [(0, pt b5 0), (3, pt b8 0), (5, vi x15), (63, vi x15), (65, pt b5 14)]) 4 [0, 3, 5, 63, 65] hF (by kernel_rfl) fun a hF => ?_
 refine bind_split hv39 (fun x40 hx40 hv39 => ?_)
 refine wc (wo_indexArr hF (by kernel_rfl) (E := 3) (sz := 1) (n := 21) rfl rfl (i := x15) rfl (idx_lt hx40 (hS.get 0 rfl)) (by kernel_rfl) (by kernel_rfl) fun a hF => ?_)
 refine wc (wo_loadA1 (t := (fInt .i64)) hF hS (by kernel_rfl) 1 3 (v := vi x40) rfl rfl rfl rfl hx40 rfl rfl (by kernel_rfl) (by kernel_rfl) fun a hF => ?_)
 refine wp 2 [0, 3, 5, 69] hF fun a hF => ?_
 refine bif_split hv39 (fun hb hv39 => ?_) (fun hb hv39 => ?_)
 have hF := hF.boolv 69 (by kernel_rfl) hb
 refine wp 1 [0, 3, 5, 69, 70] hF fun a hF => ?_
 refine wcg hF (wld hF hS 0 4 0 fun a hF => ?_)
 refine wp 3 [0, 3, 5, 49] hF fun a hF => ?_
 refine wpListIn_nil ?_
 cases hv39
 exact ⟨_, hF.kp [0, 3, 5, 49], hS.sp [0, 1] [0], trivial⟩
 have hF := hF.boolv 69 (by kernel_rfl) hb
 refine wp 5 [0, 3, 5, 49] hF fun a hF => ?_
 refine wpListIn_nil ?_
 cases hv39
 exact ⟨_, hF.kp [0, 3, 5, 49], hS.sp [0, 1] [0], trivial⟩
 rintro a w ⟨κ, hF, hS, -⟩
 exact ⟨_, v39, hF.kp [0, 3, 5, 49], hS.sp [0, 1] [0], H⟩
 rintro a w ⟨κ, y20, hF, hS, H⟩
 unfold M.config_State_speak_x_k1 at H
 refine bif_split H (fun hb H => ?_) (fun hb H => ?_)
 refine cond_t hF (by kernel_rfl) hb ?_
 refine wpIn_seq_k fun K21 hK21 => ?_
 refine wpIn_region_lit ?_
 refine wp 1 [4] hF fun a hF => ?_
 refine wpListIn_nil ?_
 refine hK21 _ _ ?_
 refine wpIn_ret ?_
 cases H
 exact ret_done hF hS (res1 Try.results82 (rvt hF)) ⟨rfl, hS.sp [1] [0]⟩
 refine cond_f hF (by kernel_rfl) hb ?_
 refine seq_join (fun a w => ∃ (κ : Gh) (y22 : Bool), Fr (96) [] [(0, pt b5 0), (3, pt b8 0), (5, vi x15), (74, vb y22)] a ∧ SS Ms κ0 w0 κ w [.box b5 56 [(1, cs1), si a2, (12, cs3), ei 21 a4], .box b8 58 [si a6.Kind, si a6.DC, si a6.Shard, si a6.Node, si a6.Mode, sg a6.Key]] [ml a4 21] ∧ M.config_State_speak_x_k2 N a2 a4 a6 x15 y22 = some r) ?_ ?_
 refine wpIn_seq_k fun K27 hK27 => ?_
 refine wpIn_region_lit ?_
 refine bind_split H (fun v29 hv29 H => ?_)
 refine wl_join (fun a w => ∃ κ : Gh, Fr (96) [] [(0, pt b5 0), (3, pt b8 0), (5, vi x15), (74, vb v29)] a ∧ SS Ms κ0 w0 κ w [.box b5 56 [(1, cs1), si a2, (12, cs3), ei 21 a4], .box b8 58 [si a6.Kind, si a6.DC, si a6.Shard, si a6.Node, si a6.Mode, sg a6.Key]] [ml a4 21] ∧ True) ?_ ?_
 refine wp 1 [0, 3, 5, 75] hF fun a hF => ?_
 refine wc (wld hF hS 0 4 0 fun a hF => ?_)
 refine wp 2 [0, 3, 5, 78] hF fun a hF => ?_
 refine bif_split hv29 (fun hb hv29 => ?_) (fun hb hv29 => ?_)
 have hF := hF.boolv 78 (by kernel_rfl) hb
 refine wp 1 [0, 3, 5, 78, 79] hF fun a hF => ?_
 refine bind_split hv29 (fun x30 hx30 hv29 => ?_)
 have hgx300 := hS.segs 1 rfl
 refine wcg hF (wcS 1 [1, 0] hF hS (fun hS => C_config_State_any_x N a4 1 (flat [(1, cs1), si a2, (12, cs3)]) b5 ⟨rfl, (hS.regr 0 [(true, 3), (false, 1)] rfl).pick [0] (by kernel_rfl)⟩ hx30) ?_)
 rintro _ κ w a ⟨rfl, h2⟩ hF hB
 have hS := (hB _ _ h2).unregr 0 [(true, 3), (false, 1)] (s' := [(1, cs1), si a2, (12, cs3), ei 21 a4]) hgx300 rfl rfl
 refine wp 2 [0, 3, 5, 74] hF fun a hF => ?_
 refine wpListIn_nil ?_
 cases hv29
 exact ⟨_, hF.kp [0, 3, 5, 74], hS.sp [0, 1] [0], trivial⟩
 have hF := hF.boolv 78 (by kernel_rfl) hb
 refine wp 4 [0, 3, 5, 74] hF fun a hF => ?_
 refine wpListIn_nil ?_
 cases hv29
 exact ⟨_, hF.kp [0, 3, 5, 74], hS.sp [1, 0] [0], trivial⟩
 rintro a w ⟨κ, hF, hS, -⟩
 refine hK27 _ _ ?_
 refine bif_split H (fun hb H => ?_) (fun hb H => ?_)
 refine cond_t hF (by kernel_rfl) hb ?_
 refine wpIn_skip ?_
 exact ⟨_, v29, hF.kp [0, 3, 5, 74], hS.sp [0, 1] [0], H⟩
 refine cond_f hF (by kernel_rfl) hb ?_
 refine wpIn_region_lit ?_
 refine bind_split H (fun v32 hv32 H => ?_)
 refine wl_join (fun a w => ∃ κ : Gh, Fr (96) [] [(0, pt b5 0), (3, pt b8 0), (5, vi x15), (74, vb v32)] a ∧ SS Ms κ0 w0 κ w [.box b5 56 [(1, cs1), si a2, (12, cs3), ei 21 a4], .box b8 58 [si a6.Kind, si a6.DC, si a6.Shard, si a6.Node, si a6.Mode, sg a6.Key]] [ml a4 21] ∧ True) ?_ ?_
 refine wp 1 [0, 3, 5, 82] hF fun a hF => ?_
 refine wc (wld hF hS 1 4 0 fun a hF => ?_)
 refine wp 2 [0, 3, 5, 85] hF fun a hF => ?_
 refine bif_split hv32 (fun hb hv32 => ?_) (fun hb hv32 => ?_)
 have hF := hF.boolv 85 (by kernel_rfl) hb
 refine wp 1 [0, 3, 5, 85, 86] hF fun a hF => ?_
 refine bind_split hv32 (fun x33 hx33 hv32 => ?_)
 have hgx330 := hS.segs 0 rfl
 refine wcg hF (wcS 1 [0, 1] hF hS (fun hS => C_config_State_any_x N a4 3 (flat [(1, cs1), si a2, (12, cs3)]) b5 ⟨rfl, (hS.regr 0 [(true, 3), (false, 1)] rfl).pick [0] (by kernel_rfl)⟩ hx33) ?_)
 rintro _ κ w a ⟨rfl, h2⟩ hF hB
 have hS := (hB _ _ h2).unregr 0 [(true, 3), (false, 1)] (s' := [(1, cs1), si a2, (12, cs3), ei 21 a4]) hgx330 rfl rfl
 refine wp 2 [0, 3, 5, 74] hF fun a hF => ?_
 refine wpListIn_nil ?_
 cases hv32
 exact ⟨_, hF.kp [0, 3, 5, 74], hS.sp [0, 1] [0], trivial⟩
 have hF := hF.boolv 85 (by kernel_rfl) hb
 refine wp 4 [0, 3, 5, 74] hF fun a hF => ?_
 refine wpListIn_nil ?_
 cases hv32
 exact ⟨_, hF.kp [0, 3, 5, 74], hS.sp [0, 1] [0], trivial⟩
 rintro a w ⟨κ, hF, hS, -⟩
 exact ⟨_, v32, hF.kp [0, 3, 5, 74], hS.sp [0, 1] [0], H⟩
 rintro a w ⟨κ, y22, hF, hS, H⟩
 unfold M.config_State_speak_x_k2 at H
 refine bif_split H (fun hb H => ?_) (fun hb H => ?_)
 refine cond_t hF (by kernel_rfl) hb ?_
 refine wpIn_seq_k fun K23 hK23 => ?_
 refine wpIn_region_lit ?_
 refine wp 1 [4] hF fun a hF => ?_
 refine wpListIn_nil ?_
 refine hK23 _ _ ?_
 refine wpIn_ret ?_
 cases H
 exact ret_done hF hS (res1 Try.results82 (rvt hF)) ⟨rfl, hS.sp [0] [0]⟩
 refine cond_f hF (by kernel_rfl) hb ?_
 refine wpIn_skip ?_
 refine hK16 _ _ ?_
 refine wpIn_seq_k fun K24 hK24 => ?_
 refine rgS hS [7] ?_
 have hS := hS.drew
 refine any_pure [0, 1, 2, 4, 5] [90, 91, 94] (L' := [(90, vi x15), (91, pt b8 4), (94, pt b5 14)]) (listed' := (bitA 8 55)) (fuel := 3) hF (hS.sx [0, 1] [0]) (by kernel_rfl) (by intro c a w t v h; cases t <;> exact h) (by kernel_rfl) rfl fun a hF => ?_
 refine atk 3 (some 92) hF (hS.sx [0, 1] [0]) rfl (vld 1 4 0) fun a hF => ?_
 refine bind_split H (fun x25 hx25 H => ?_)
 refine atk 6 (some 95) hF (hS.sx [0, 1] [0]) rfl (fun w _ => val_indexArr (E := 3) (sz := 1) (n := 21) rfl rfl (i := x15) rfl (idx_lt hx25 (hS.get 0 rfl)) (by kernel_rfl) (by kernel_rfl) w) fun a hF => ?_
 refine ago 7 hF rfl ?_
 refine wo_storeA1 (t := (fInt .i64)) (y := a6.Mode) (v := vi a6.Mode) hF hS (by kernel_rfl) 0 3 (s' := [(1, cs1), si a2, (12, cs3), ei 21 (List.set a4 (Int.toNat x15) a6.Mode)]) (C' := [.box b5 56 [(1, cs1), si a2, (12, cs3), ei 21 (List.set a4 (Int.toNat x15) a6.Mode)], .box b8 58 [si a6.Kind, si a6.DC, si a6.Shard, si a6.Node, si a6.Mode, sg a6.Key]]) rfl rfl (by kernel_rfl) rfl rfl hx25 rfl rfl (by kernel_rfl) (by kernel_rfl) (by kernel_rfl) (by kernel_rfl) fun a w hF hS => ?_
 have hS := hS.add (m := ml (List.set a4 (Int.toNat x15) a6.Mode) 21) (List.length_set.trans (hS.get 0 rfl))
 refine ⟨notE, ?_⟩
 refine and_ ?_
 refine hK24 _ _ ?_
 refine wpIn_seq_k fun K26 hK26 => ?_
 refine wpIn_region_lit ?_
 refine wp 1 [4] hF fun a hF => ?_
 refine wpListIn_nil ?_
 refine hK26 _ _ ?_
 refine wpIn_ret ?_
 cases H
 exact ret_done hF hS (res1 Try.results82 (rvt hF)) ⟨rfl, hS.sp [0] [0]⟩
set_option maxRecDepth 20000 in
set_option maxHeartbeats 8000000 in
theorem C_config_Apply_x (N : Nat) {κ0 : Gh} {w0 : World} (hfr : Fresh κ0 w0) (a1 : T_config_State) (a3 : T_api_Cmd) (cs2 : List Value) (hR : ∀ m ∈ ([ml a1.Members 4, Arr.mp t_api_Map cs2 4 a1.Maps, ml a1.Modes 21] : List MP), m.p κ0 w0) {r : (T_config_State × Int)} (H : M.config_Apply_x N a1 a3 = some r) :
    Calls Try.prog 41 #[.agg (flat [si a1.Pool, si a1.Nodes, eb 4 a1.Members, (8, cs2), ei 21 a1.Modes]).toArray, .agg (flat [si a3.Kind, si a3.DC, si a3.Shard, si a3.Node, si a3.Mode, sg a3.Key]).toArray] w0 (Post [] κ0 w0 fun v κ w => ∃ (p279 : Option Addr) (c280 : Nat) (p281 : Option Addr) (c282 : Nat) (p283 : Option Addr) (c284 : Nat) (p285 : Option Addr) (c286 : Nat) (p287 : Option Addr) (c288 : Nat) (p289 : Option Addr) (c290 : Nat) (p291 : Option Addr) (c292 : Nat) (p293 : Option Addr) (c294 : Nat), v = .tuple #[.agg (flat [si r.1.Pool, si r.1.Nodes, eb 4 r.1.Members, sl p279 ((r.1.Maps.getD 0 zm_api_Map).Cuts).length c280, sl p281 ((r.1.Maps.getD 0 zm_api_Map).Nodes).length c282, sl p283 ((r.1.Maps.getD 1 zm_api_Map).Cuts).length c284, sl p285 ((r.1.Maps.getD 1 zm_api_Map).Nodes).length c286, sl p287 ((r.1.Maps.getD 2 zm_api_Map).Cuts).length c288, sl p289 ((r.1.Maps.getD 2 zm_api_Map).Nodes).length c290, sl p291 ((r.1.Maps.getD 3 zm_api_Map).Cuts).length c292, sl p293 ((r.1.Maps.getD 3 zm_api_Map).Nodes).length c294, ei 21 r.1.Modes]).toArray, vi r.2] ∧ (∀ m ∈ ([ml r.1.Members 4, Ro.mp fStr.ty p279 c280 ((r.1.Maps.getD 0 zm_api_Map).Cuts), Ro.mp (fInt .i64).ty p281 c282 ((r.1.Maps.getD 0 zm_api_Map).Nodes), Ro.mp fStr.ty p283 c284 ((r.1.Maps.getD 1 zm_api_Map).Cuts), Ro.mp (fInt .i64).ty p285 c286 ((r.1.Maps.getD 1 zm_api_Map).Nodes), Ro.mp fStr.ty p287 c288 ((r.1.Maps.getD 2 zm_api_Map).Cuts), Ro.mp (fInt .i64).ty p289 c290 ((r.1.Maps.getD 2 zm_api_Map).Nodes), Ro.mp fStr.ty p291 c292 ((r.1.Maps.getD 3 zm_api_Map).Cuts), Ro.mp (fInt .i64).ty p293 c294 ((r.1.Maps.getD 3 zm_api_Map).Nodes), ml r.1.Modes 21] : List MP), m.p κ w) ∧ NewC w0 κ w [.tok p279 9 1 ((r.1.Maps.getD 0 zm_api_Map).Cuts).length c280, .tok p281 3 1 ((r.1.Maps.getD 0 zm_api_Map).Nodes).length c282, .tok p283 9 1 ((r.1.Maps.getD 1 zm_api_Map).Cuts).length c284, .tok p285 3 1 ((r.1.Maps.getD 1 zm_api_Map).Nodes).length c286, .tok p287 9 1 ((r.1.Maps.getD 2 zm_api_Map).Cuts).length c288, .tok p289 3 1 ((r.1.Maps.getD 2 zm_api_Map).Nodes).length c290, .tok p291 9 1 ((r.1.Maps.getD 3 zm_api_Map).Cuts).length c292, .tok p293 3 1 ((r.1.Maps.getD 3 zm_api_Map).Nodes).length c294]) := by
 have hS := SS.start hfr hR
 refine enter (N := (135)) (L := [(0, .agg (flat [si a1.Pool, si a1.Nodes, eb 4 a1.Members, (8, cs2), ei 21 a1.Modes]).toArray), (1, .agg (flat [si a3.Kind, si a3.DC, si a3.Shard, si a3.Node, si a3.Mode, sg a3.Key]).toArray)]) Try.func41 rfl Try.ntmps41 (show 2 ≤ (135) by decide) rfl fun a hF => ?_
 unfold M.config_Apply_x at H
 obtain ⟨cs4, cs5, cs6, cs7, hq, hl, rcs4, rcs5, rcs6, rcs7⟩ := ArrP.four (hS.get 1 rfl) zm_api_Map
 have hS := hS.add (m := ml a1.Maps 4) hl
 obtain ⟨⟨p8, c9, p10, c11⟩, rfl, hR⟩ := rcs4
 have hS := hS.adds hR
 obtain ⟨⟨p12, c13, p14, c15⟩, rfl, hR⟩ := rcs5
 have hS := hS.adds hR
 obtain ⟨⟨p16, c17, p18, c19⟩, rfl, hR⟩ := rcs6
 have hS := hS.adds hR
 obtain ⟨⟨p20, c21, p22, c23⟩, rfl, hR⟩ := rcs7
 have hS := hS.adds hR
 subst hq
 have hS : SS _ _ _ _ _ _ [Ro.mp fStr.ty p20 c21 ((a1.Maps.getD 3 zm_api_Map).Cuts), Ro.mp (fInt .i64).ty p22 c23 ((a1.Maps.getD 3 zm_api_Map).Nodes), Ro.mp fStr.ty p16 c17 ((a1.Maps.getD 2 zm_api_Map).Cuts), Ro.mp (fInt .i64).ty p18 c19 ((a1.Maps.getD 2 zm_api_Map).Nodes), Ro.mp fStr.ty p12 c13 ((a1.Maps.getD 1 zm_api_Map).Cuts), Ro.mp (fInt .i64).ty p14 c15 ((a1.Maps.getD 1 zm_api_Map).Nodes), Ro.mp fStr.ty p8 c9 ((a1.Maps.getD 0 zm_api_Map).Cuts), Ro.mp (fInt .i64).ty p10 c11 ((a1.Maps.getD 0 zm_api_Map).Nodes), ml a1.Maps 4, ml a1.Members 4, ml a1.Modes 21] := hS.pick [0, 1, 2, 3, 4, 5, 6, 7, 8, 9, 11] (by kernel_rfl)
 have hF : Fr (135) [] [(0, .agg (flat [si a1.Pool, si a1.Nodes, eb 4 a1.Members, sl p8 ((a1.Maps.getD 0 zm_api_Map).Cuts).length c9, sl p10 ((a1.Maps.getD 0 zm_api_Map).Nodes).length c11, sl p12 ((a1.Maps.getD 1 zm_api_Map).Cuts).length c13, sl p14 ((a1.Maps.getD 1 zm_api_Map).Nodes).length c15, sl p16 ((a1.Maps.getD 2 zm_api_Map).Cuts).length c17, sl p18 ((a1.Maps.getD 2 zm_api_Map).Nodes).length c19, sl p20 ((a1.Maps.getD 3 zm_api_Map).Cuts).length c21, sl p22 ((a1.Maps.getD 3 zm_api_Map).Nodes).length c23, ei 21 a1.Modes]).toArray), (1, .agg (flat [si a3.Kind, si a3.DC, si a3.Shard, si a3.Node, si a3.Mode, sg a3.Key]).toArray)] a := hF.kp [0, 1]
 refine wpIn_seq_k fun K24 hK24 => ?_
 refine wpIn_region_lit ?_
 refine wc (wbx hF hS [si a1.Pool, si a1.Nodes, eb 4 a1.Members, sl p8 ((a1.Maps.getD 0 zm_api_Map).Cuts).length c9, sl p10 ((a1.Maps.getD 0 zm_api_Map).Nodes).length c11, sl p12 ((a1.Maps.getD 1 zm_api_Map).Cuts).length c13, sl p14 ((a1.Maps.getD 1 zm_api_Map).Nodes).length c15, sl p16 ((a1.Maps.getD 2 zm_api_Map).Cuts).length c17, sl p18 ((a1.Maps.getD 2 zm_api_Map).Nodes).length c19, sl p20 ((a1.Maps.getD 3 zm_api_Map).Cuts).length c21, sl p22 ((a1.Maps.getD 3 zm_api_Map).Nodes).length c23, ei 21 a1.Modes] (sgN 2 (sgEnc (hS.get 9 rfl) (sgN 8 (sgEnc (hS.get 10 rfl) sgNil)))) fun b25 a w hF hS => ?_)
 refine wc (wbx hF hS [si a3.Kind, si a3.DC, si a3.Shard, si a3.Node, si a3.Mode, sg a3.Key] (sgN 6 sgNil) fun b26 a w hF hS => ?_)
 have hS := hS.add (m := ml (List.replicate 4 false) 4) (List.length_replicate)
 have hS := hS.add (m := ml (List.replicate 21 0) 21) (List.length_replicate)
 refine wc (wal hF hS [si 0, si 0, eb 4 (List.replicate 4 false), sl none 0 0, sl none 0 0, sl none 0 0, sl none 0 0, sl none 0 0, sl none 0 0, sl none 0 0, sl none 0 0, ei 21 (List.replicate 21 0)] (sgN 2 (sgEnc List.length_replicate (sgN 8 (sgEnc List.length_replicate sgNil)))) fun b27 a w hF hS => ?_)
 refine wp 1 [2, 3, 4] hF fun a hF => ?_
 refine wpListIn_nil ?_
 refine hK24 _ _ ?_
 refine wpIn_seq_k fun K28 hK28 => ?_
 refine wpIn_region_lit ?_
 refine wc (wls hF hS 2 0 12 fun a hF => ?_)
 have hS := hS.add (m := Arr.mp t_api_Map (flat [sl p8 ((a1.Maps.getD 0 zm_api_Map).Cuts).length c9, sl p10 ((a1.Maps.getD 0 zm_api_Map).Nodes).length c11, sl p12 ((a1.Maps.getD 1 zm_api_Map).Cuts).length c13, sl p14 ((a1.Maps.getD 1 zm_api_Map).Nodes).length c15, sl p16 ((a1.Maps.getD 2 zm_api_Map).Cuts).length c17, sl p18 ((a1.Maps.getD 2 zm_api_Map).Nodes).length c19, sl p20 ((a1.Maps.getD 3 zm_api_Map).Cuts).length c21, sl p22 ((a1.Maps.getD 3 zm_api_Map).Nodes).length c23]) 4 [(T_api_Map.mk ((a1.Maps.getD 0 zm_api_Map).Cuts) ((a1.Maps.getD 0 zm_api_Map).Nodes)), (T_api_Map.mk ((a1.Maps.getD 1 zm_api_Map).Cuts) ((a1.Maps.getD 1 zm_api_Map).Nodes)), (T_api_Map.mk ((a1.Maps.getD 2 zm_api_Map).Cuts) ((a1.Maps.getD 2 zm_api_Map).Nodes)), (T_api_Map.mk ((a1.Maps.getD 3 zm_api_Map).Cuts) ((a1.Maps.getD 3 zm_api_Map).Nodes))]) (ArrP.of4 (t := t_api_Map) (show (t_api_Map).rep _ _ (flat [sl p8 ((a1.Maps.getD 0 zm_api_Map).Cuts).length c9, sl p10 ((a1.Maps.getD 0 zm_api_Map).Nodes).length c11]) (T_api_Map.mk ((a1.Maps.getD 0 zm_api_Map).Cuts) ((a1.Maps.getD 0 zm_api_Map).Nodes)) from ⟨(p8, c9, p10, c11), rfl, (hS.pick [8, 9] (by kernel_rfl)).ro⟩) (show (t_api_Map).rep _ _ (flat [sl p12 ((a1.Maps.getD 1 zm_api_Map).Cuts).length c13, sl p14 ((a1.Maps.getD 1 zm_api_Map).Nodes).length c15]) (T_api_Map.mk ((a1.Maps.getD 1 zm_api_Map).Cuts) ((a1.Maps.getD 1 zm_api_Map).Nodes)) from ⟨(p12, c13, p14, c15), rfl, (hS.pick [6, 7] (by kernel_rfl)).ro⟩) (show (t_api_Map).rep _ _ (flat [sl p16 ((a1.Maps.getD 2 zm_api_Map).Cuts).length c17, sl p18 ((a1.Maps.getD 2 zm_api_Map).Nodes).length c19]) (T_api_Map.mk ((a1.Maps.getD 2 zm_api_Map).Cuts) ((a1.Maps.getD 2 zm_api_Map).Nodes)) from ⟨(p16, c17, p18, c19), rfl, (hS.pick [4, 5] (by kernel_rfl)).ro⟩) (show (t_api_Map).rep _ _ (flat [sl p20 ((a1.Maps.getD 3 zm_api_Map).Cuts).length c21, sl p22 ((a1.Maps.getD 3 zm_api_Map).Nodes).length c23]) (T_api_Map.mk ((a1.Maps.getD 3 zm_api_Map).Cuts) ((a1.Maps.getD 3 zm_api_Map).Nodes)) from ⟨(p20, c21, p22, c23), rfl, (hS.pick [2, 3] (by kernel_rfl)).ro⟩) (show (flat [sl p8 ((a1.Maps.getD 0 zm_api_Map).Cuts).length c9, sl p10 ((a1.Maps.getD 0 zm_api_Map).Nodes).length c11]) ++ ((flat [sl p12 ((a1.Maps.getD 1 zm_api_Map).Cuts).length c13, sl p14 ((a1.Maps.getD 1 zm_api_Map).Nodes).length c15]) ++ ((flat [sl p16 ((a1.Maps.getD 2 zm_api_Map).Cuts).length c17, sl p18 ((a1.Maps.getD 2 zm_api_Map).Nodes).length c19]) ++ (flat [sl p20 ((a1.Maps.getD 3 zm_api_Map).Cuts).length c21, sl p22 ((a1.Maps.getD 3 zm_api_Map).Nodes).length c23]))) = _ from by kernel_rfl))
 refine bind_split H (fun x29 hx29 H => ?_)
 refine wc (wo_callP hF hS (by kernel_rfl) (by kernel_rfl) (C_config_Copy_x N hS.fresh (T_config_State.mk a1.Pool a1.Nodes a1.Members [(T_api_Map.mk ((a1.Maps.getD 0 zm_api_Map).Cuts) ((a1.Maps.getD 0 zm_api_Map).Nodes)), (T_api_Map.mk ((a1.Maps.getD 1 zm_api_Map).Cuts) ((a1.Maps.getD 1 zm_api_Map).Nodes)), (T_api_Map.mk ((a1.Maps.getD 2 zm_api_Map).Cuts) ((a1.Maps.getD 2 zm_api_Map).Nodes)), (T_api_Map.mk ((a1.Maps.getD 3 zm_api_Map).Cuts) ((a1.Maps.getD 3 zm_api_Map).Nodes))] a1.Modes) (flat [sl p8 ((a1.Maps.getD 0 zm_api_Map).Cuts).length c9, sl p10 ((a1.Maps.getD 0 zm_api_Map).Nodes).length c11, sl p12 ((a1.Maps.getD 1 zm_api_Map).Cuts).length c13, sl p14 ((a1.Maps.getD 1 zm_api_Map).Nodes).length c15, sl p16 ((a1.Maps.getD 2 zm_api_Map).Cuts).length c17, sl p18 ((a1.Maps.getD 2 zm_api_Map).Nodes).length c19, sl p20 ((a1.Maps.getD 3 zm_api_Map).Cuts).length c21, sl p22 ((a1.Maps.getD 3 zm_api_Map).Nodes).length c23]) ((hS.pick [12, 0, 13] (by kernel_rfl)).ro) hx29) ?_)
 rintro _ κ w a ⟨p30, c31, p32, c33, p34, c35, p36, c37, p38, c39, p40, c41, p42, c43, p44, c45, rfl, hR, hN⟩ hF hS hO
 have hS := hS.adds hR
 have hS := hS.addC hO hN
 refine wc (wal hF hS [si 0, si 0, eb 4 (List.replicate 4 false), sl none 0 0, sl none 0 0, sl none 0 0, sl none 0 0, sl none 0 0, sl none 0 0, sl none 0 0, sl none 0 0, ei 21 (List.replicate 21 0)] (sgN 2 (sgEnc List.length_replicate (sgN 8 (sgEnc List.length_replicate sgNil)))) fun b46 a w hF hS => ?_)
 refine wc (wst hF hS 0 0 12 [si x29.Pool, si x29.Nodes, eb 4 x29.Members, sl p30 ((x29.Maps.getD 0 zm_api_Map).Cuts).length c31, sl p32 ((x29.Maps.getD 0 zm_api_Map).Nodes).length c33, sl p34 ((x29.Maps.getD 1 zm_api_Map).Cuts).length c35, sl p36 ((x29.Maps.getD 1 zm_api_Map).Nodes).length c37, sl p38 ((x29.Maps.getD 2 zm_api_Map).Cuts).length c39, sl p40 ((x29.Maps.getD 2 zm_api_Map).Nodes).length c41, sl p42 ((x29.Maps.getD 3 zm_api_Map).Cuts).length c43, sl p44 ((x29.Maps.getD 3 zm_api_Map).Nodes).length c45, ei 21 x29.Modes] (sgN 2 (sgEnc (hS.get 0 rfl) (sgN 8 (sgEnc (hS.get 9 rfl) sgNil)))) fun a w hF hS => ?_)
 refine wpListIn_nil ?_
 refine hK28 _ _ ?_
 refine wpIn_seq_k fun K47 hK47 => ?_
 refine wpIn_seq_k fun K48 hK48 => ?_
 refine wpIn_region_lit ?_
 refine bind_split H (fun v50 hv50 H => ?_)
 refine wl_join (fun a w => ∃ κ : Gh, Fr (135) [] [(3, pt b26 0), (4, pt b27 0), (6, pt b46 0), (18, vb v50)] a ∧ SS [] κ0 w0 κ w [.box b46 56 [si x29.Pool, si x29.Nodes, eb 4 x29.Members, sl p30 ((x29.Maps.getD 0 zm_api_Map).Cuts).length c31, sl p32 ((x29.Maps.getD 0 zm_api_Map).Nodes).length c33, sl p34 ((x29.Maps.getD 1 zm_api_Map).Cuts).length c35, sl p36 ((x29.Maps.getD 1 zm_api_Map).Nodes).length c37, sl p38 ((x29.Maps.getD 2 zm_api_Map).Cuts).length c39, sl p40 ((x29.Maps.getD 2 zm_api_Map).Nodes).length c41, sl p42 ((x29.Maps.getD 3 zm_api_Map).Cuts).length c43, sl p44 ((x29.Maps.getD 3 zm_api_Map).Nodes).length c45, ei 21 x29.Modes], .box b27 56 [si 0, si 0, eb 4 (List.replicate 4 false), sl none 0 0, sl none 0 0, sl none 0 0, sl none 0 0, sl none 0 0, sl none 0 0, sl none 0 0, sl none 0 0, ei 21 (List.replicate 21 0)], .box b26 58 [si a3.Kind, si a3.DC, si a3.Shard, si a3.Node, si a3.Mode, sg a3.Key], .tok p30 9 1 ((x29.Maps.getD 0 zm_api_Map).Cuts).length c31, .tok p32 3 1 ((x29.Maps.getD 0 zm_api_Map).Nodes).length c33, .tok p34 9 1 ((x29.Maps.getD 1 zm_api_Map).Cuts).length c35, .tok p36 3 1 ((x29.Maps.getD 1 zm_api_Map).Nodes).length c37, .tok p38 9 1 ((x29.Maps.getD 2 zm_api_Map).Cuts).length c39, .tok p40 3 1 ((x29.Maps.getD 2 zm_api_Map).Nodes).length c41, .tok p42 9 1 ((x29.Maps.getD 3 zm_api_Map).Cuts).length c43, .tok p44 3 1 ((x29.Maps.getD 3 zm_api_Map).Nodes).length c45] [ml x29.Members 4, Ro.mp fStr.ty p30 c31 ((x29.Maps.getD 0 zm_api_Map).Cuts), Ro.mp (fInt .i64).ty p32 c33 ((x29.Maps.getD 0 zm_api_Map).Nodes), Ro.mp fStr.ty p34 c35 ((x29.Maps.getD 1 zm_api_Map).Cuts), Ro.mp (fInt .i64).ty p36 c37 ((x29.Maps.getD 1 zm_api_Map).Nodes), Ro.mp fStr.ty p38 c39 ((x29.Maps.getD 2 zm_api_Map).Cuts), Ro.mp (fInt .i64).ty p40 c41 ((x29.Maps.getD 2 zm_api_Map).Nodes), Ro.mp fStr.ty p42 c43 ((x29.Maps.getD 3 zm_api_Map).Cuts), Ro.mp (fInt .i64).ty p44 c45 ((x29.Maps.getD 3 zm_api_Map).Nodes), ml x29.Modes 21, ml (List.replicate 4 false) 4, Ro.mp fStr.ty none 0 ([] : List ByteArray), Ro.mp (fInt .i64).ty none 0 ([] : List Int), ml (List.replicate 21 0) 21] ∧ True) ?_ ?_
 refine wp 1 [3, 4, 6, 11] hF fun a hF => ?_
 refine wc (wld hF hS 10 0 0 fun a hF => ?_)
 refine wp 2 [3, 4, 6, 14] hF fun a hF => ?_
 refine bif_split hv50 (fun hb hv50 => ?_) (fun hb hv50 => ?_)
 have hF := hF.boolv 14 (by kernel_rfl) hb
 refine wp 4 [3, 4, 6, 18] hF fun a hF => ?_
 refine wpListIn_nil ?_
 cases hv50
 have hS := hS.add (m := Ro.mp fStr.ty none 0 ([] : List ByteArray)) (Ro.nil fStr.ty _ _)
 have hS := hS.add (m := Ro.mp (fInt .i64).ty none 0 ([] : List Int)) (Ro.nil (fInt .i64).ty _ _)
 exact ⟨_, hF.kp [3, 4, 6, 18], hS.sp [0, 9, 10, 1, 2, 3, 4, 5, 6, 7, 8] [2, 3, 4, 5, 6, 7, 8, 9, 10, 11, 14, 1, 0, 13], trivial⟩
 have hF := hF.boolv 14 (by kernel_rfl) hb
 refine wp 1 [3, 4, 6, 14, 15] hF fun a hF => ?_
 refine wcg hF (wld hF hS 10 0 0 fun a hF => ?_)
 refine wp 2 [3, 4, 6, 18] hF fun a hF => ?_
 refine wpListIn_nil ?_
 cases hv50
 have hS := hS.add (m := Ro.mp fStr.ty none 0 ([] : List ByteArray)) (Ro.nil fStr.ty _ _)
 have hS := hS.add (m := Ro.mp (fInt .i64).ty none 0 ([] : List Int)) (Ro.nil (fInt .i64).ty _ _)
 exact ⟨_, hF.kp [3, 4, 6, 18], hS.sp [0, 9, 10, 1, 2, 3, 4, 5, 6, 7, 8] [2, 3, 4, 5, 6, 7, 8, 9, 10, 11, 14, 1, 0, 13], trivial⟩
 rintro a w ⟨κ, hF, hS, -⟩
 refine hK48 _ _ ?_
 refine bif_split H (fun hb H => ?_) (fun hb H => ?_)
 refine cond_t hF (by kernel_rfl) hb ?_
 refine wpIn_seq_k fun K51 hK51 => ?_
 refine wpIn_region_lit ?_
 refine wp 1 [4, 19] hF fun a hF => ?_
 refine wc (wst hF hS 1 0 12 [si 0, si 0, eb 4 (List.replicate 4 false), sl none 0 0, sl none 0 0, sl none 0 0, sl none 0 0, sl none 0 0, sl none 0 0, sl none 0 0, sl none 0 0, ei 21 (List.replicate 21 0)] (sgN 2 (sgEnc List.length_replicate (sgN 8 (sgEnc List.length_replicate sgNil)))) fun a w hF hS => ?_)
 refine wp 1 [4, 5] hF fun a hF => ?_
 refine wpListIn_nil ?_
 refine hK51 _ _ ?_
 refine wpIn_ret ?_
 have hS' := hS
 have hS := hS.addNil 9 1
 have hS := hS.addNil 3 1
 have hS := hS.addNil 9 1
 have hS := hS.addNil 3 1
 have hS := hS.addNil 9 1
 have hS := hS.addNil 3 1
 have hS := hS.addNil 9 1
 have hS := hS.addNil 3 1
 cases H
 exact (ret_done hF hS (res2 Try.results41 (rvs hF hS' 1 0 12) (rvt hF)) ⟨none, 0, none, 0, none, 0, none, 0, none, 0, none, 0, none, 0, none, 0, rfl, (hS.pick [10, 11, 12, 11, 12, 11, 12, 11, 12, 13] (by kernel_rfl)).ro, hS.newC [7, 6, 5, 4, 3, 2, 1, 0] (by decide) (by kernel_rfl)⟩)
 refine cond_f hF (by kernel_rfl) hb ?_
 refine wpIn_skip ?_
 refine hK47 _ _ ?_
 refine wpIn_seq_k fun K52 hK52 => ?_
 refine wpIn_seq_k fun K53 hK53 => ?_
 refine wpIn_region_lit ?_
 refine bind_split H (fun v55 hv55 H => ?_)
 refine wl_join (fun a w => ∃ κ : Gh, Fr (135) [] [(3, pt b26 0), (4, pt b27 0), (6, pt b46 0), (34, vb v55)] a ∧ SS [] κ0 w0 κ w [.box b46 56 [si x29.Pool, si x29.Nodes, eb 4 x29.Members, sl p30 ((x29.Maps.getD 0 zm_api_Map).Cuts).length c31, sl p32 ((x29.Maps.getD 0 zm_api_Map).Nodes).length c33, sl p34 ((x29.Maps.getD 1 zm_api_Map).Cuts).length c35, sl p36 ((x29.Maps.getD 1 zm_api_Map).Nodes).length c37, sl p38 ((x29.Maps.getD 2 zm_api_Map).Cuts).length c39, sl p40 ((x29.Maps.getD 2 zm_api_Map).Nodes).length c41, sl p42 ((x29.Maps.getD 3 zm_api_Map).Cuts).length c43, sl p44 ((x29.Maps.getD 3 zm_api_Map).Nodes).length c45, ei 21 x29.Modes], .box b27 56 [si 0, si 0, eb 4 (List.replicate 4 false), sl none 0 0, sl none 0 0, sl none 0 0, sl none 0 0, sl none 0 0, sl none 0 0, sl none 0 0, sl none 0 0, ei 21 (List.replicate 21 0)], .box b26 58 [si a3.Kind, si a3.DC, si a3.Shard, si a3.Node, si a3.Mode, sg a3.Key], .tok p30 9 1 ((x29.Maps.getD 0 zm_api_Map).Cuts).length c31, .tok p32 3 1 ((x29.Maps.getD 0 zm_api_Map).Nodes).length c33, .tok p34 9 1 ((x29.Maps.getD 1 zm_api_Map).Cuts).length c35, .tok p36 3 1 ((x29.Maps.getD 1 zm_api_Map).Nodes).length c37, .tok p38 9 1 ((x29.Maps.getD 2 zm_api_Map).Cuts).length c39, .tok p40 3 1 ((x29.Maps.getD 2 zm_api_Map).Nodes).length c41, .tok p42 9 1 ((x29.Maps.getD 3 zm_api_Map).Cuts).length c43, .tok p44 3 1 ((x29.Maps.getD 3 zm_api_Map).Nodes).length c45] [ml x29.Members 4, Ro.mp fStr.ty p30 c31 ((x29.Maps.getD 0 zm_api_Map).Cuts), Ro.mp (fInt .i64).ty p32 c33 ((x29.Maps.getD 0 zm_api_Map).Nodes), Ro.mp fStr.ty p34 c35 ((x29.Maps.getD 1 zm_api_Map).Cuts), Ro.mp (fInt .i64).ty p36 c37 ((x29.Maps.getD 1 zm_api_Map).Nodes), Ro.mp fStr.ty p38 c39 ((x29.Maps.getD 2 zm_api_Map).Cuts), Ro.mp (fInt .i64).ty p40 c41 ((x29.Maps.getD 2 zm_api_Map).Nodes), Ro.mp fStr.ty p42 c43 ((x29.Maps.getD 3 zm_api_Map).Cuts), Ro.mp (fInt .i64).ty p44 c45 ((x29.Maps.getD 3 zm_api_Map).Nodes), ml x29.Modes 21, ml (List.replicate 4 false) 4, Ro.mp fStr.ty none 0 ([] : List ByteArray), Ro.mp (fInt .i64).ty none 0 ([] : List Int), ml (List.replicate 21 0) 21] ∧ True) ?_ ?_
 refine wp 1 [3, 4, 6, 20] hF fun a hF => ?_
 refine wc (wld hF hS 2 1 0 fun a hF => ?_)
 refine wp 2 [3, 4, 6, 23] hF fun a hF => ?_
 refine bif_split hv55 (fun hb hv55 => ?_) (fun hb hv55 => ?_)
 have hF := hF.boolv 23 (by kernel_rfl) hb
 refine wp 11 [3, 4, 6, 34] hF fun a hF => ?_
 refine wpListIn_nil ?_
 cases hv55
 exact ⟨_, hF.kp [3, 4, 6, 34], hS.sp (rg 11) (rg 14), trivial⟩
 have hF := hF.boolv 23 (by kernel_rfl) hb
 refine wp 1 [3, 4, 6, 23, 24] hF fun a hF => ?_
 refine wcg hF (wld hF hS 2 1 0 fun a hF => ?_)
 refine wp 3 [3, 4, 6, 28] hF fun a hF => ?_
 refine bif_split hv55 (fun hb hv55 => ?_) (fun hb hv55 => ?_)
 have hF := hF.boolv 28 (by kernel_rfl) hb
 refine wp 6 [3, 4, 6, 34] hF fun a hF => ?_
 refine wpListIn_nil ?_
 cases hv55
 exact ⟨_, hF.kp [3, 4, 6, 34], hS.sp (rg 11) (rg 14), trivial⟩
 have hF := hF.boolv 28 (by kernel_rfl) hb
 refine wp 1 [3, 4, 6, 28, 29] hF fun a hF => ?_
 refine wcg hF (wld hF hS 2 1 0 fun a hF => ?_)
 refine wp 1 [3, 4, 6, 28, 30, 31] hF fun a hF => ?_
 refine wcg hF (wld hF hS 0 0 0 fun a hF => ?_)
 refine wp 2 [3, 4, 6, 34] hF fun a hF => ?_
 refine wpListIn_nil ?_
 cases hv55
 exact ⟨_, hF.kp [3, 4, 6, 34], hS.sp (rg 11) (rg 14), trivial⟩
 rintro a w ⟨κ, hF, hS, -⟩
 refine hK53 _ _ ?_
 refine bif_split H (fun hb H => ?_) (fun hb H => ?_)
 refine cond_t hF (by kernel_rfl) hb ?_
 refine wpIn_seq_k fun K56 hK56 => ?_
 refine wpIn_region_lit ?_
 refine wp 1 [4, 35] hF fun a hF => ?_
 refine wc (wst hF hS 1 0 12 [si 0, si 0, eb 4 (List.replicate 4 false), sl none 0 0, sl none 0 0, sl none 0 0, sl none 0 0, sl none 0 0, sl none 0 0, sl none 0 0, sl none 0 0, ei 21 (List.replicate 21 0)] (sgN 2 (sgEnc List.length_replicate (sgN 8 (sgEnc List.length_replicate sgNil)))) fun a w hF hS => ?_)
 refine wp 1 [4, 5] hF fun a hF => ?_
 refine wpListIn_nil ?_
 refine hK56 _ _ ?_
 refine wpIn_ret ?_
 have hS' := hS
 have hS := hS.addNil 9 1
 have hS := hS.addNil 3 1
 have hS := hS.addNil 9 1
 have hS := hS.addNil 3 1
 have hS := hS.addNil 9 1
 have hS := hS.addNil 3 1
 have hS := hS.addNil 9 1
 have hS := hS.addNil 3 1
 cases H
 exact (ret_done hF hS (res2 Try.results41 (rvs hF hS' 1 0 12) (rvt hF)) ⟨none, 0, none, 0, none, 0, none, 0, none, 0, none, 0, none, 0, none, 0, rfl, (hS.pick [10, 11, 12, 11, 12, 11, 12, 11, 12, 13] (by kernel_rfl)).ro, hS.newC [7, 6, 5, 4, 3, 2, 1, 0] (by decide) (by kernel_rfl)⟩)
 refine cond_f hF (by kernel_rfl) hb ?_
 refine wpIn_skip ?_
 refine hK52 _ _ ?_
 refine wpIn_seq_k fun K57 hK57 => ?_
 refine wpIn_seq_k fun K58 hK58 => ?_
 refine wpIn_region_lit ?_
 refine wp 1 [3, 4, 6, 36] hF fun a hF => ?_
 refine wc (wld hF hS 2 0 0 fun a hF => ?_)
 refine wp 1 [3, 4, 6, 38] hF fun a hF => ?_
 refine wpListIn_nil ?_
 refine hK58 _ _ ?_
 refine bif_split H (fun hb H => ?_) (fun hb H => ?_)
 refine cond_t hF (by kernel_rfl) hb ?_
 refine wpIn_seq_k fun K59 hK59 => ?_
 refine wpIn_seq_k fun K60 hK60 => ?_
 refine wpIn_region_lit ?_
 refine wp 1 [3, 4, 6, 39] hF fun a hF => ?_
 refine wc (wld hF hS 2 1 0 fun a hF => ?_)
 refine wl_pure (L' := [(3, pt b26 0), (4, pt b27 0), (6, pt b46 0), (40, vi a3.DC), (41, pt b46 2)]) 1 [3, 4, 6, 40, 41] hF (by kernel_rfl) fun a hF => ?_
 refine bind_split H (fun x61 hx61 H => ?_)
 refine wc (wo_indexArr hF (by kernel_rfl) (E := 4) (sz := 1) (n := 4) rfl rfl (i := a3.DC) rfl (idx_lt hx61 (hS.get 0 rfl)) (by kernel_rfl) (by kernel_rfl) fun a hF => ?_)
 refine wc (wo_loadA1 (t := fBool) hF hS (by kernel_rfl) 0 2 (v := vb x61) rfl rfl rfl rfl hx61 rfl rfl (by kernel_rfl) (by kernel_rfl) fun a hF => ?_)
 refine wpListIn_nil ?_
 refine hK60 _ _ ?_
 refine bif_split H (fun hb H => ?_) (fun hb H => ?_)
 refine cond_t hF (by kernel_rfl) hb ?_
 refine wpIn_seq_k fun K62 hK62 => ?_
 refine wpIn_region_lit ?_
 refine wp 1 [4, 44] hF fun a hF => ?_
 refine wc (wst hF hS 1 0 12 [si 0, si 0, eb 4 (List.replicate 4 false), sl none 0 0, sl none 0 0, sl none 0 0, sl none 0 0, sl none 0 0, sl none 0 0, sl none 0 0, sl none 0 0, ei 21 (List.replicate 21 0)] (sgN 2 (sgEnc List.length_replicate (sgN 8 (sgEnc List.length_replicate sgNil)))) fun a w hF hS => ?_)
 refine wp 1 [4, 5] hF fun a hF => ?_
 refine wpListIn_nil ?_
 refine hK62 _ _ ?_
 refine wpIn_ret ?_
 have hS' := hS
 have hS := hS.addNil 9 1
 have hS := hS.addNil 3 1
 have hS := hS.addNil 9 1
 have hS := hS.addNil 3 1
 have hS := hS.addNil 9 1
 have hS := hS.addNil 3 1
 have hS := hS.addNil 9 1
 have hS := hS.addNil 3 1
 cases H
 exact (ret_done hF hS (res2 Try.results41 (rvs hF hS' 1 0 12) (rvt hF)) ⟨none, 0, none, 0, none, 0, none, 0, none, 0, none, 0, none, 0, none, 0, rfl, (hS.pick [10, 11, 12, 11, 12, 11, 12, 11, 12, 13] (by kernel_rfl)).ro, hS.newC [7, 6, 5, 4, 3, 2, 1, 0] (by decide) (by kernel_rfl)⟩)
 refine cond_f hF (by kernel_rfl) hb ?_
 refine wpIn_skip ?_
 refine hK59 _ _ ?_
 refine wpIn_seq_k fun K63 hK63 => ?_
 refine wpIn_region_lit ?_
 refine wp 1 [3, 4, 6, 45] hF fun a hF => ?_
 refine wc (wld hF hS 2 1 0 fun a hF => ?_)
 refine wl_pure (L' := [(3, pt b26 0), (4, pt b27 0), (6, pt b46 0), (46, vi a3.DC), (47, pt b46 2)]) 1 [3, 4, 6, 46, 47] hF (by kernel_rfl) fun a hF => ?_
 refine bind_split H (fun x64 hx64 H => ?_)
 refine wc (wo_indexArr hF (by kernel_rfl) (E := 4) (sz := 1) (n := 4) rfl rfl (i := a3.DC) rfl (idx_lt hx64 (hS.get 0 rfl)) (by kernel_rfl) (by kernel_rfl) fun a hF => ?_)
 refine wc (wo_storeA1 (t := fBool) (y := true) (v := vb true) hF hS (by kernel_rfl) 0 2 (s' := [si x29.Pool, si x29.Nodes, eb 4 (List.set x29.Members (Int.toNat a3.DC) true), sl p30 ((x29.Maps.getD 0 zm_api_Map).Cuts).length c31, sl p32 ((x29.Maps.getD 0 zm_api_Map).Nodes).length c33, sl p34 ((x29.Maps.getD 1 zm_api_Map).Cuts).length c35, sl p36 ((x29.Maps.getD 1 zm_api_Map).Nodes).length c37, sl p38 ((x29.Maps.getD 2 zm_api_Map).Cuts).length c39, sl p40 ((x29.Maps.getD 2 zm_api_Map).Nodes).length c41, sl p42 ((x29.Maps.getD 3 zm_api_Map).Cuts).length c43, sl p44 ((x29.Maps.getD 3 zm_api_Map).Nodes).length c45, ei 21 x29.Modes]) (C' := [.box b46 56 [si x29.Pool, si x29.Nodes, eb 4 (List.set x29.Members (Int.toNat a3.DC) true), sl p30 ((x29.Maps.getD 0 zm_api_Map).Cuts).length c31, sl p32 ((x29.Maps.getD 0 zm_api_Map).Nodes).length c33, sl p34 ((x29.Maps.getD 1 zm_api_Map).Cuts).length c35, sl p36 ((x29.Maps.getD 1 zm_api_Map).Nodes).length c37, sl p38 ((x29.Maps.getD 2 zm_api_Map).Cuts).length c39, sl p40 ((x29.Maps.getD 2 zm_api_Map).Nodes).length c41, sl p42 ((x29.Maps.getD 3 zm_api_Map).Cuts).length c43, sl p44 ((x29.Maps.getD 3 zm_api_Map).Nodes).length c45, ei 21 x29.Modes], .box b27 56 [si 0, si 0, eb 4 (List.replicate 4 false), sl none 0 0, sl none 0 0, sl none 0 0, sl none 0 0, sl none 0 0, sl none 0 0, sl none 0 0, sl none 0 0, ei 21 (List.replicate 21 0)], .box b26 58 [si a3.Kind, si a3.DC, si a3.Shard, si a3.Node, si a3.Mode, sg a3.Key], .tok p30 9 1 ((x29.Maps.getD 0 zm_api_Map).Cuts).length c31, .tok p32 3 1 ((x29.Maps.getD 0 zm_api_Map).Nodes).length c33, .tok p34 9 1 ((x29.Maps.getD 1 zm_api_Map).Cuts).length c35, .tok p36 3 1 ((x29.Maps.getD 1 zm_api_Map).Nodes).length c37, .tok p38 9 1 ((x29.Maps.getD 2 zm_api_Map).Cuts).length c39, .tok p40 3 1 ((x29.Maps.getD 2 zm_api_Map).Nodes).length c41, .tok p42 9 1 ((x29.Maps.getD 3 zm_api_Map).Cuts).length c43, .tok p44 3 1 ((x29.Maps.getD 3 zm_api_Map).Nodes).length c45]) rfl rfl (by kernel_rfl) rfl rfl hx64 rfl rfl (by kernel_rfl) (by kernel_rfl) (by kernel_rfl) (by kernel_rfl) fun a w hF hS => ?_)
 have hS := hS.add (m := ml (List.set x29.Members (Int.toNat a3.DC) true) 4) (List.length_set.trans (hS.get 0 rfl))
 refine wpListIn_nil ?_
 refine hK63 _ _ ?_
 refine wpIn_seq_k fun K65 hK65 => ?_
 refine bif_split H (fun hb H => ?_) (fun _ H => ?_)
 have he : a3.DC = 0 := eq_of_beq hb
 try rw [he] at hF
 try rw [he] at hS
 refine rgS hS [5] ?_
 have hS := hS.drew
 refine anp [0, 3] [3, 4, 6, 49, 52] hF (hS.sx [0, 1, 2] (rg 15)) fun a hF => ?_
 refine atk 1 (some 50) hF (hS.sx [0, 1, 2] (rg 15)) rfl (vld 2 1 0) fun a hF => ?_
 refine ago 2 hF rfl ?_
 refine bind_split H (fun x66 hx66 H => ?_)
 refine wo_callP hF hS (by kernel_rfl) (by kernel_rfl) (C_span_Whole N hS.fresh 0  ((hS.pick [] (by kernel_rfl)).ro) hx66) ?_
 rintro _ κ w a ⟨p67, c68, p69, c70, rfl, hR, hN⟩ hF hS hO
 have hS := hS.adds hR
 have hS := hS.addC hO hN
 refine ⟨fun _ => (hS.sx [2, 3, 4] [2, 3, 4, 5, 6, 7, 8, 9, 10, 11, 12, 13, 14, 15, 16]), ?_⟩
 refine anp [4] [3, 4, 6, 51, 53] hF (hS.sx [2, 3, 4] [2, 3, 4, 5, 6, 7, 8, 9, 10, 11, 12, 13, 14, 15, 16]) fun a hF => ?_
 refine ago 5 hF rfl ?_
 refine wst hF hS 2 3 2 [sl p67 (x66.Cuts).length c68, sl p69 (x66.Nodes).length c70] (sgN 2 sgNil) fun a w hF hS => ?_
 refine ⟨notE, ?_⟩
 refine and_ ?_
 refine hK65 _ _ ?_
 refine wpIn_seq_k fun K71 hK71 => ?_
 refine wpIn_region_lit ?_
 refine wp 1 [4, 6, 54] hF fun a hF => ?_
 refine wc (wld hF hS 4 1 0 fun a hF => ?_)
 refine bind_split H (fun x72 hx72 H => ?_)
 have hgx720 := hS.segs 2 rfl
 refine wc (wcS 1 [2, 0, 1, 3, 4, 5, 6, 7, 8, 9, 10, 11, 12] hF hS (fun hS => C_config_State_both_x N x29.Modes 0 (flat [si x29.Pool, si x29.Nodes, eb 4 (List.set x29.Members (Int.toNat 0) true), sl p67 (x66.Cuts).length c68, sl p69 (x66.Nodes).length c70, sl p34 ((x29.Maps.getD 1 zm_api_Map).Cuts).length c35, sl p36 ((x29.Maps.getD 1 zm_api_Map).Nodes).length c37, sl p38 ((x29.Maps.getD 2 zm_api_Map).Cuts).length c39, sl p40 ((x29.Maps.getD 2 zm_api_Map).Nodes).length c41, sl p42 ((x29.Maps.getD 3 zm_api_Map).Cuts).length c43, sl p44 ((x29.Maps.getD 3 zm_api_Map).Nodes).length c45]) b46 ⟨rfl, (hS.regr 0 [(true, 11), (false, 1)] rfl).pick [12] (by kernel_rfl)⟩ hx72) ?_)
 rintro _ κ w a ⟨rfl, h2⟩ hF hB
 have hS := (hB _ _ h2).unregr 0 [(true, 11), (false, 1)] (s' := [si x29.Pool, si x29.Nodes, eb 4 (List.set x29.Members (Int.toNat 0) true), sl p67 (x66.Cuts).length c68, sl p69 (x66.Nodes).length c70, sl p34 ((x29.Maps.getD 1 zm_api_Map).Cuts).length c35, sl p36 ((x29.Maps.getD 1 zm_api_Map).Nodes).length c37, sl p38 ((x29.Maps.getD 2 zm_api_Map).Cuts).length c39, sl p40 ((x29.Maps.getD 2 zm_api_Map).Nodes).length c41, sl p42 ((x29.Maps.getD 3 zm_api_Map).Cuts).length c43, sl p44 ((x29.Maps.getD 3 zm_api_Map).Nodes).length c45, ei 21 x72]) hgx720 rfl rfl
 refine wpListIn_nil ?_
 refine hK71 _ _ ?_
 refine wpIn_seq_k fun K73 hK73 => ?_
 refine wpIn_region_lit ?_
 refine wc (wls hF hS 0 0 12 fun a hF => ?_)
 refine wc (wst hF hS 3 0 12 [si x29.Pool, si x29.Nodes, eb 4 (List.set x29.Members (Int.toNat 0) true), sl p67 (x66.Cuts).length c68, sl p69 (x66.Nodes).length c70, sl p34 ((x29.Maps.getD 1 zm_api_Map).Cuts).length c35, sl p36 ((x29.Maps.getD 1 zm_api_Map).Nodes).length c37, sl p38 ((x29.Maps.getD 2 zm_api_Map).Cuts).length c39, sl p40 ((x29.Maps.getD 2 zm_api_Map).Nodes).length c41, sl p42 ((x29.Maps.getD 3 zm_api_Map).Cuts).length c43, sl p44 ((x29.Maps.getD 3 zm_api_Map).Nodes).length c45, ei 21 x72] (sgN 2 (sgEnc (hS.get 3 rfl) (sgN 8 (sgEnc (hS.get 0 rfl) sgNil)))) fun a w hF hS => ?_)
 refine wp 1 [4, 5] hF fun a hF => ?_
 refine wpListIn_nil ?_
 refine hK73 _ _ ?_
 refine wpIn_ret ?_
 have hS' := hS
 cases H
 exact (ret_done hF hS (res2 Try.results41 (rvs hF hS' 3 0 12) (rvt hF)) ⟨p67, c68, p69, c70, p34, c35, p36, c37, p38, c39, p40, c41, p42, c43, p44, c45, rfl, (hS.pick [3, 1, 2, 7, 8, 9, 10, 11, 12, 0] (by kernel_rfl)).ro, hS.newC [1, 2, 7, 8, 9, 10, 11, 12] (by decide) (by kernel_rfl)⟩)
 refine bif_split H (fun hb H => ?_) (fun _ H => ?_)
 have he : a3.DC = 1 := eq_of_beq hb
 try rw [he] at hF
 try rw [he] at hS
 refine rgS hS [5] ?_
 have hS := hS.drew
 refine anp [0, 3] [3, 4, 6, 49, 52] hF (hS.sx [0, 1, 2] (rg 15)) fun a hF => ?_
 refine atk 1 (some 50) hF (hS.sx [0, 1, 2] (rg 15)) rfl (vld 2 1 0) fun a hF => ?_
 refine ago 2 hF rfl ?_
 refine bind_split H (fun x74 hx74 H => ?_)
 refine wo_callP hF hS (by kernel_rfl) (by kernel_rfl) (C_span_Whole N hS.fresh 0  ((hS.pick [] (by kernel_rfl)).ro) hx74) ?_
 rintro _ κ w a ⟨p75, c76, p77, c78, rfl, hR, hN⟩ hF hS hO
 have hS := hS.adds hR
 have hS := hS.addC hO hN
 refine ⟨fun _ => (hS.sx [2, 3, 4] [2, 3, 4, 5, 6, 7, 8, 9, 10, 11, 12, 13, 14, 15, 16]), ?_⟩
 refine anp [4] [3, 4, 6, 51, 53] hF (hS.sx [2, 3, 4] [2, 3, 4, 5, 6, 7, 8, 9, 10, 11, 12, 13, 14, 15, 16]) fun a hF => ?_
 refine ago 5 hF rfl ?_
 refine wst hF hS 2 5 2 [sl p75 (x74.Cuts).length c76, sl p77 (x74.Nodes).length c78] (sgN 2 sgNil) fun a w hF hS => ?_
 refine ⟨notE, ?_⟩
 refine and_ ?_
 refine hK65 _ _ ?_
 refine wpIn_seq_k fun K79 hK79 => ?_
 refine wpIn_region_lit ?_
 refine wp 1 [4, 6, 54] hF fun a hF => ?_
 refine wc (wld hF hS 4 1 0 fun a hF => ?_)
 refine bind_split H (fun x80 hx80 H => ?_)
 have hgx800 := hS.segs 2 rfl
 refine wc (wcS 1 [2, 0, 1, 3, 4, 5, 6, 7, 8, 9, 10, 11, 12] hF hS (fun hS => C_config_State_both_x N x29.Modes 1 (flat [si x29.Pool, si x29.Nodes, eb 4 (List.set x29.Members (Int.toNat 1) true), sl p30 ((x29.Maps.getD 0 zm_api_Map).Cuts).length c31, sl p32 ((x29.Maps.getD 0 zm_api_Map).Nodes).length c33, sl p75 (x74.Cuts).length c76, sl p77 (x74.Nodes).length c78, sl p38 ((x29.Maps.getD 2 zm_api_Map).Cuts).length c39, sl p40 ((x29.Maps.getD 2 zm_api_Map).Nodes).length c41, sl p42 ((x29.Maps.getD 3 zm_api_Map).Cuts).length c43, sl p44 ((x29.Maps.getD 3 zm_api_Map).Nodes).length c45]) b46 ⟨rfl, (hS.regr 0 [(true, 11), (false, 1)] rfl).pick [12] (by kernel_rfl)⟩ hx80) ?_)
 rintro _ κ w a ⟨rfl, h2⟩ hF hB
 have hS := (hB _ _ h2).unregr 0 [(true, 11), (false, 1)] (s' := [si x29.Pool, si x29.Nodes, eb 4 (List.set x29.Members (Int.toNat 1) true), sl p30 ((x29.Maps.getD 0 zm_api_Map).Cuts).length c31, sl p32 ((x29.Maps.getD 0 zm_api_Map).Nodes).length c33, sl p75 (x74.Cuts).length c76, sl p77 (x74.Nodes).length c78, sl p38 ((x29.Maps.getD 2 zm_api_Map).Cuts).length c39, sl p40 ((x29.Maps.getD 2 zm_api_Map).Nodes).length c41, sl p42 ((x29.Maps.getD 3 zm_api_Map).Cuts).length c43, sl p44 ((x29.Maps.getD 3 zm_api_Map).Nodes).length c45, ei 21 x80]) hgx800 rfl rfl
 refine wpListIn_nil ?_
 refine hK79 _ _ ?_
 refine wpIn_seq_k fun K81 hK81 => ?_
 refine wpIn_region_lit ?_
 refine wc (wls hF hS 0 0 12 fun a hF => ?_)
 refine wc (wst hF hS 3 0 12 [si x29.Pool, si x29.Nodes, eb 4 (List.set x29.Members (Int.toNat 1) true), sl p30 ((x29.Maps.getD 0 zm_api_Map).Cuts).length c31, sl p32 ((x29.Maps.getD 0 zm_api_Map).Nodes).length c33, sl p75 (x74.Cuts).length c76, sl p77 (x74.Nodes).length c78, sl p38 ((x29.Maps.getD 2 zm_api_Map).Cuts).length c39, sl p40 ((x29.Maps.getD 2 zm_api_Map).Nodes).length c41, sl p42 ((x29.Maps.getD 3 zm_api_Map).Cuts).length c43, sl p44 ((x29.Maps.getD 3 zm_api_Map).Nodes).length c45, ei 21 x80] (sgN 2 (sgEnc (hS.get 3 rfl) (sgN 8 (sgEnc (hS.get 0 rfl) sgNil)))) fun a w hF hS => ?_)
 refine wp 1 [4, 5] hF fun a hF => ?_
 refine wpListIn_nil ?_
 refine hK81 _ _ ?_
 refine wpIn_ret ?_
 have hS' := hS
 cases H
 exact (ret_done hF hS (res2 Try.results41 (rvs hF hS' 3 0 12) (rvt hF)) ⟨p30, c31, p32, c33, p75, c76, p77, c78, p38, c39, p40, c41, p42, c43, p44, c45, rfl, (hS.pick [3, 5, 6, 1, 2, 9, 10, 11, 12, 0] (by kernel_rfl)).ro, hS.newC [5, 6, 1, 2, 9, 10, 11, 12] (by decide) (by kernel_rfl)⟩)
 refine bif_split H (fun hb H => ?_) (fun _ H => ?_)
 have he : a3.DC = 2 := eq_of_beq hb
 try rw [he] at hF
 try rw [he] at hS
 refine rgS hS [5] ?_
 have hS := hS.drew
 refine anp [0, 3] [3, 4, 6, 49, 52] hF (hS.sx [0, 1, 2] (rg 15)) fun a hF => ?_
 refine atk 1 (some 50) hF (hS.sx [0, 1, 2] (rg 15)) rfl (vld 2 1 0) fun a hF => ?_
 refine ago 2 hF rfl ?_
 refine bind_split H (fun x82 hx82 H => ?_)
 refine wo_callP hF hS (by kernel_rfl) (by kernel_rfl) (C_span_Whole N hS.fresh 0  ((hS.pick [] (by kernel_rfl)).ro) hx82) ?_
 rintro _ κ w a ⟨p83, c84, p85, c86, rfl, hR, hN⟩ hF hS hO
 have hS := hS.adds hR
 have hS := hS.addC hO hN
 refine ⟨fun _ => (hS.sx [2, 3, 4] [2, 3, 4, 5, 6, 7, 8, 9, 10, 11, 12, 13, 14, 15, 16]), ?_⟩
 refine anp [4] [3, 4, 6, 51, 53] hF (hS.sx [2, 3, 4] [2, 3, 4, 5, 6, 7, 8, 9, 10, 11, 12, 13, 14, 15, 16]) fun a hF => ?_
 refine ago 5 hF rfl ?_
 refine wst hF hS 2 7 2 [sl p83 (x82.Cuts).length c84, sl p85 (x82.Nodes).length c86] (sgN 2 sgNil) fun a w hF hS => ?_
 refine ⟨notE, ?_⟩
 refine and_ ?_
 refine hK65 _ _ ?_
 refine wpIn_seq_k fun K87 hK87 => ?_
 refine wpIn_region_lit ?_
 refine wp 1 [4, 6, 54] hF fun a hF => ?_
 refine wc (wld hF hS 4 1 0 fun a hF => ?_)
 refine bind_split H (fun x88 hx88 H => ?_)
 have hgx880 := hS.segs 2 rfl
 refine wc (wcS 1 [2, 0, 1, 3, 4, 5, 6, 7, 8, 9, 10, 11, 12] hF hS (fun hS => C_config_State_both_x N x29.Modes 2 (flat [si x29.Pool, si x29.Nodes, eb 4 (List.set x29.Members (Int.toNat 2) true), sl p30 ((x29.Maps.getD 0 zm_api_Map).Cuts).length c31, sl p32 ((x29.Maps.getD 0 zm_api_Map).Nodes).length c33, sl p34 ((x29.Maps.getD 1 zm_api_Map).Cuts).length c35, sl p36 ((x29.Maps.getD 1 zm_api_Map).Nodes).length c37, sl p83 (x82.Cuts).length c84, sl p85 (x82.Nodes).length c86, sl p42 ((x29.Maps.getD 3 zm_api_Map).Cuts).length c43, sl p44 ((x29.Maps.getD 3 zm_api_Map).Nodes).length c45]) b46 ⟨rfl, (hS.regr 0 [(true, 11), (false, 1)] rfl).pick [12] (by kernel_rfl)⟩ hx88) ?_)
 rintro _ κ w a ⟨rfl, h2⟩ hF hB
 have hS := (hB _ _ h2).unregr 0 [(true, 11), (false, 1)] (s' := [si x29.Pool, si x29.Nodes, eb 4 (List.set x29.Members (Int.toNat 2) true), sl p30 ((x29.Maps.getD 0 zm_api_Map).Cuts).length c31, sl p32 ((x29.Maps.getD 0 zm_api_Map).Nodes).length c33, sl p34 ((x29.Maps.getD 1 zm_api_Map).Cuts).length c35, sl p36 ((x29.Maps.getD 1 zm_api_Map).Nodes).length c37, sl p83 (x82.Cuts).length c84, sl p85 (x82.Nodes).length c86, sl p42 ((x29.Maps.getD 3 zm_api_Map).Cuts).length c43, sl p44 ((x29.Maps.getD 3 zm_api_Map).Nodes).length c45, ei 21 x88]) hgx880 rfl rfl
 refine wpListIn_nil ?_
 refine hK87 _ _ ?_
 refine wpIn_seq_k fun K89 hK89 => ?_
 refine wpIn_region_lit ?_
 refine wc (wls hF hS 0 0 12 fun a hF => ?_)
 refine wc (wst hF hS 3 0 12 [si x29.Pool, si x29.Nodes, eb 4 (List.set x29.Members (Int.toNat 2) true), sl p30 ((x29.Maps.getD 0 zm_api_Map).Cuts).length c31, sl p32 ((x29.Maps.getD 0 zm_api_Map).Nodes).length c33, sl p34 ((x29.Maps.getD 1 zm_api_Map).Cuts).length c35, sl p36 ((x29.Maps.getD 1 zm_api_Map).Nodes).length c37, sl p83 (x82.Cuts).length c84, sl p85 (x82.Nodes).length c86, sl p42 ((x29.Maps.getD 3 zm_api_Map).Cuts).length c43, sl p44 ((x29.Maps.getD 3 zm_api_Map).Nodes).length c45, ei 21 x88] (sgN 2 (sgEnc (hS.get 3 rfl) (sgN 8 (sgEnc (hS.get 0 rfl) sgNil)))) fun a w hF hS => ?_)
 refine wp 1 [4, 5] hF fun a hF => ?_
 refine wpListIn_nil ?_
 refine hK89 _ _ ?_
 refine wpIn_ret ?_
 have hS' := hS
 cases H
 exact (ret_done hF hS (res2 Try.results41 (rvs hF hS' 3 0 12) (rvt hF)) ⟨p30, c31, p32, c33, p34, c35, p36, c37, p83, c84, p85, c86, p42, c43, p44, c45, rfl, (hS.pick [3, 5, 6, 7, 8, 1, 2, 11, 12, 0] (by kernel_rfl)).ro, hS.newC [5, 6, 7, 8, 1, 2, 11, 12] (by decide) (by kernel_rfl)⟩)
 refine bif_split H (fun hb H => ?_) (fun _ H => ?_)
 have he : a3.DC = 3 := eq_of_beq hb
 try rw [he] at hF
 try rw [he] at hS
 refine rgS hS [5] ?_
 have hS := hS.drew
 refine anp [0, 3] [3, 4, 6, 49, 52] hF (hS.sx [0, 1, 2] (rg 15)) fun a hF => ?_
 refine atk 1 (some 50) hF (hS.sx [0, 1, 2] (rg 15)) rfl (vld 2 1 0) fun a hF => ?_
 refine ago 2 hF rfl ?_
 refine bind_split H (fun x90 hx90 H => ?_)
 refine wo_callP hF hS (by kernel_rfl) (by kernel_rfl) (C_span_Whole N hS.fresh 0  ((hS.pick [] (by kernel_rfl)).ro) hx90) ?_
 rintro _ κ w a ⟨p91, c92, p93, c94, rfl, hR, hN⟩ hF hS hO
 have hS := hS.adds hR
 have hS := hS.addC hO hN
 refine ⟨fun _ => (hS.sx [2, 3, 4] [2, 3, 4, 5, 6, 7, 8, 9, 10, 11, 12, 13, 14, 15, 16]), ?_⟩
 refine anp [4] [3, 4, 6, 51, 53] hF (hS.sx [2, 3, 4] [2, 3, 4, 5, 6, 7, 8, 9, 10, 11, 12, 13, 14, 15, 16]) fun a hF => ?_
 refine ago 5 hF rfl ?_
 refine wst hF hS 2 9 2 [sl p91 (x90.Cuts).length c92, sl p93 (x90.Nodes).length c94] (sgN 2 sgNil) fun a w hF hS => ?_
 refine ⟨notE, ?_⟩
 refine and_ ?_
 refine hK65 _ _ ?_
 refine wpIn_seq_k fun K95 hK95 => ?_
 refine wpIn_region_lit ?_
 refine wp 1 [4, 6, 54] hF fun a hF => ?_
 refine wc (wld hF hS 4 1 0 fun a hF => ?_)
 refine bind_split H (fun x96 hx96 H => ?_)
 have hgx960 := hS.segs 2 rfl
 refine wc (wcS 1 [2, 0, 1, 3, 4, 5, 6, 7, 8, 9, 10, 11, 12] hF hS (fun hS => C_config_State_both_x N x29.Modes 3 (flat [si x29.Pool, si x29.Nodes, eb 4 (List.set x29.Members (Int.toNat 3) true), sl p30 ((x29.Maps.getD 0 zm_api_Map).Cuts).length c31, sl p32 ((x29.Maps.getD 0 zm_api_Map).Nodes).length c33, sl p34 ((x29.Maps.getD 1 zm_api_Map).Cuts).length c35, sl p36 ((x29.Maps.getD 1 zm_api_Map).Nodes).length c37, sl p38 ((x29.Maps.getD 2 zm_api_Map).Cuts).length c39, sl p40 ((x29.Maps.getD 2 zm_api_Map).Nodes).length c41, sl p91 (x90.Cuts).length c92, sl p93 (x90.Nodes).length c94]) b46 ⟨rfl, (hS.regr 0 [(true, 11), (false, 1)] rfl).pick [12] (by kernel_rfl)⟩ hx96) ?_)
 rintro _ κ w a ⟨rfl, h2⟩ hF hB
 have hS := (hB _ _ h2).unregr 0 [(true, 11), (false, 1)] (s' := [si x29.Pool, si x29.Nodes, eb 4 (List.set x29.Members (Int.toNat 3) true), sl p30 ((x29.Maps.getD 0 zm_api_Map).Cuts).length c31, sl p32 ((x29.Maps.getD 0 zm_api_Map).Nodes).length c33, sl p34 ((x29.Maps.getD 1 zm_api_Map).Cuts).length c35, sl p36 ((x29.Maps.getD 1 zm_api_Map).Nodes).length c37, sl p38 ((x29.Maps.getD 2 zm_api_Map).Cuts).length c39, sl p40 ((x29.Maps.getD 2 zm_api_Map).Nodes).length c41, sl p91 (x90.Cuts).length c92, sl p93 (x90.Nodes).length c94, ei 21 x96]) hgx960 rfl rfl
 refine wpListIn_nil ?_
 refine hK95 _ _ ?_
 refine wpIn_seq_k fun K97 hK97 => ?_
 refine wpIn_region_lit ?_
 refine wc (wls hF hS 0 0 12 fun a hF => ?_)
 refine wc (wst hF hS 3 0 12 [si x29.Pool, si x29.Nodes, eb 4 (List.set x29.Members (Int.toNat 3) true), sl p30 ((x29.Maps.getD 0 zm_api_Map).Cuts).length c31, sl p32 ((x29.Maps.getD 0 zm_api_Map).Nodes).length c33, sl p34 ((x29.Maps.getD 1 zm_api_Map).Cuts).length c35, sl p36 ((x29.Maps.getD 1 zm_api_Map).Nodes).length c37, sl p38 ((x29.Maps.getD 2 zm_api_Map).Cuts).length c39, sl p40 ((x29.Maps.getD 2 zm_api_Map).Nodes).length c41, sl p91 (x90.Cuts).length c92, sl p93 (x90.Nodes).length c94, ei 21 x96] (sgN 2 (sgEnc (hS.get 3 rfl) (sgN 8 (sgEnc (hS.get 0 rfl) sgNil)))) fun a w hF hS => ?_)
 refine wp 1 [4, 5] hF fun a hF => ?_
 refine wpListIn_nil ?_
 refine hK97 _ _ ?_
 refine wpIn_ret ?_
 have hS' := hS
 cases H
 exact (ret_done hF hS (res2 Try.results41 (rvs hF hS' 3 0 12) (rvt hF)) ⟨p30, c31, p32, c33, p34, c35, p36, c37, p38, c39, p40, c41, p91, c92, p93, c94, rfl, (hS.pick [3, 5, 6, 7, 8, 9, 10, 1, 2, 0] (by kernel_rfl)).ro, hS.newC [5, 6, 7, 8, 9, 10, 1, 2] (by decide) (by kernel_rfl)⟩)
 cases H
 refine cond_f hF (by kernel_rfl) hb ?_
 refine wpIn_skip ?_
 refine hK57 _ _ ?_
 refine wpIn_seq_k fun K98 hK98 => ?_
 refine wpIn_seq_k fun K99 hK99 => ?_
 refine wpIn_region_lit ?_
 refine wp 1 [3, 4, 6, 58] hF fun a hF => ?_
 refine wc (wld hF hS 2 1 0 fun a hF => ?_)
 refine wl_pure (L' := [(3, pt b26 0), (4, pt b27 0), (6, pt b46 0), (59, vi a3.DC), (60, pt b46 2)]) 1 [3, 4, 6, 59, 60] hF (by kernel_rfl) fun a hF => ?_
 refine bind_split H (fun x100 hx100 H => ?_)
 refine wc (wo_indexArr hF (by kernel_rfl) (E := 4) (sz := 1) (n := 4) rfl rfl (i := a3.DC) rfl (idx_lt hx100 (hS.get 0 rfl)) (by kernel_rfl) (by kernel_rfl) fun a hF => ?_)
 refine wc (wo_loadA1 (t := fBool) hF hS (by kernel_rfl) 0 2 (v := vb x100) rfl rfl rfl rfl hx100 rfl rfl (by kernel_rfl) (by kernel_rfl) fun a hF => ?_)
 refine wl_pure (L' := [(3, pt b26 0), (4, pt b27 0), (6, pt b46 0), (63, vb (!x100))]) 1 [3, 4, 6, 63] hF (by kernel_rfl) fun a hF => ?_
 refine wpListIn_nil ?_
 refine hK99 _ _ ?_
 refine bif_split H (fun hb H => ?_) (fun hb H => ?_)
 refine cond_t hF (by kernel_rfl) hb ?_
 refine wpIn_seq_k fun K101 hK101 => ?_
 refine wpIn_region_lit ?_
 refine wp 1 [4, 64] hF fun a hF => ?_
 refine wc (wst hF hS 1 0 12 [si 0, si 0, eb 4 (List.replicate 4 false), sl none 0 0, sl none 0 0, sl none 0 0, sl none 0 0, sl none 0 0, sl none 0 0, sl none 0 0, sl none 0 0, ei 21 (List.replicate 21 0)] (sgN 2 (sgEnc List.length_replicate (sgN 8 (sgEnc List.length_replicate sgNil)))) fun a w hF hS => ?_)
 refine wp 1 [4, 5] hF fun a hF => ?_
 refine wpListIn_nil ?_
 refine hK101 _ _ ?_
 refine wpIn_ret ?_
 have hS' := hS
 have hS := hS.addNil 9 1
 have hS := hS.addNil 3 1
 have hS := hS.addNil 9 1
 have hS := hS.addNil 3 1
 have hS := hS.addNil 9 1
 have hS := hS.addNil 3 1
 have hS := hS.addNil 9 1
 have hS := hS.addNil 3 1
 cases H
 exact (ret_done hF hS (res2 Try.results41 (rvs hF hS' 1 0 12) (rvt hF)) ⟨none, 0, none, 0, none, 0, none, 0, none, 0, none, 0, none, 0, none, 0, rfl, (hS.pick [10, 11, 12, 11, 12, 11, 12, 11, 12, 13] (by kernel_rfl)).ro, hS.newC [7, 6, 5, 4, 3, 2, 1, 0] (by decide) (by kernel_rfl)⟩)
 refine cond_f hF (by kernel_rfl) hb ?_
 refine wpIn_skip ?_
 refine hK98 _ _ ?_
 refine wpIn_seq_k fun K102 hK102 => ?_
 refine bif_split H (fun hb H => ?_) (fun _ H => ?_)
 have he : a3.DC = 0 := eq_of_beq hb
 try rw [he] at hF
 try rw [he] at hS
 refine wpIn_region_lit ?_
 refine wp 1 [3, 4, 6, 65] hF fun a hF => ?_
 refine wc (wld hF hS 2 1 0 fun a hF => ?_)
 refine wp 2 [3, 4, 6, 68] hF fun a hF => ?_
 refine wc (wls hF hS 0 3 2 fun a hF => ?_)
 refine wc (wal hF hS [sl none 0 0, sl none 0 0] (sgN 2 sgNil) fun b103 a w hF hS => ?_)
 refine wc (wst hF hS 0 0 2 [sl p30 ((x29.Maps.getD 0 zm_api_Map).Cuts).length c31, sl p32 ((x29.Maps.getD 0 zm_api_Map).Nodes).length c33] (sgN 2 sgNil) fun a w hF hS => ?_)
 refine wp 1 [3, 4, 6, 7, 8] hF fun a hF => ?_
 refine wpListIn_nil ?_
 refine hK102 _ _ ?_
 refine seq_join (fun a w => ∃ (κ : Gh) (y104 : List Bool) (y105 : List Int) (y106 : List ByteArray) (p107 : Option Addr) (c108 : Nat) (y109 : List Int) (p110 : Option Addr) (c111 : Nat) (y112 : Int), Fr (135) [] [(3, pt b26 0), (4, pt b27 0), (6, pt b46 0), (7, pt b103 0), (8, vi y112)] a ∧ SS [] κ0 w0 κ w [.box b46 56 [si x29.Pool, si x29.Nodes, eb 4 y104, sl p30 ((x29.Maps.getD 0 zm_api_Map).Cuts).length c31, sl p32 ((x29.Maps.getD 0 zm_api_Map).Nodes).length c33, sl p34 ((x29.Maps.getD 1 zm_api_Map).Cuts).length c35, sl p36 ((x29.Maps.getD 1 zm_api_Map).Nodes).length c37, sl p38 ((x29.Maps.getD 2 zm_api_Map).Cuts).length c39, sl p40 ((x29.Maps.getD 2 zm_api_Map).Nodes).length c41, sl p42 ((x29.Maps.getD 3 zm_api_Map).Cuts).length c43, sl p44 ((x29.Maps.getD 3 zm_api_Map).Nodes).length c45, ei 21 y105], .box b103 25 [sl p107 (y106).length c108, sl p110 (y109).length c111], .box b27 56 [si 0, si 0, eb 4 (List.replicate 4 false), sl none 0 0, sl none 0 0, sl none 0 0, sl none 0 0, sl none 0 0, sl none 0 0, sl none 0 0, sl none 0 0, ei 21 (List.replicate 21 0)], .box b26 58 [si a3.Kind, si 0, si a3.Shard, si a3.Node, si a3.Mode, sg a3.Key], .tok p107 9 1 (y106).length c108, .tok p110 3 1 (y109).length c111, .tok p34 9 1 ((x29.Maps.getD 1 zm_api_Map).Cuts).length c35, .tok p36 3 1 ((x29.Maps.getD 1 zm_api_Map).Nodes).length c37, .tok p38 9 1 ((x29.Maps.getD 2 zm_api_Map).Cuts).length c39, .tok p40 3 1 ((x29.Maps.getD 2 zm_api_Map).Nodes).length c41, .tok p42 9 1 ((x29.Maps.getD 3 zm_api_Map).Cuts).length c43, .tok p44 3 1 ((x29.Maps.getD 3 zm_api_Map).Nodes).length c45] [ml y104 4, Ro.mp fStr.ty p30 c31 ((x29.Maps.getD 0 zm_api_Map).Cuts), Ro.mp (fInt .i64).ty p32 c33 ((x29.Maps.getD 0 zm_api_Map).Nodes), Ro.mp fStr.ty p34 c35 ((x29.Maps.getD 1 zm_api_Map).Cuts), Ro.mp (fInt .i64).ty p36 c37 ((x29.Maps.getD 1 zm_api_Map).Nodes), Ro.mp fStr.ty p38 c39 ((x29.Maps.getD 2 zm_api_Map).Cuts), Ro.mp (fInt .i64).ty p40 c41 ((x29.Maps.getD 2 zm_api_Map).Nodes), Ro.mp fStr.ty p42 c43 ((x29.Maps.getD 3 zm_api_Map).Cuts), Ro.mp (fInt .i64).ty p44 c45 ((x29.Maps.getD 3 zm_api_Map).Nodes), ml y105 21, Ro.mp fStr.ty p107 c108 y106, Ro.mp (fInt .i64).ty p110 c111 y109, ml (List.replicate 4 false) 4, Ro.mp fStr.ty none 0 ([] : List ByteArray), Ro.mp (fInt .i64).ty none 0 ([] : List Int), ml (List.replicate 21 0) 21] ∧ M.config_Apply_x_k1 N a3 x29 y104 y105 y106 y109 y112 = some r) ?_ ?_
 refine wpIn_seq_k fun K118 hK118 => ?_
 refine wpIn_region_lit ?_
 refine wp 1 [3, 4, 6, 7, 8, 70] hF fun a hF => ?_
 refine wc (wld hF hS 3 0 0 fun a hF => ?_)
 refine wpListIn_nil ?_
 refine hK118 _ _ ?_
 refine wpIn_block ?_
 refine wpIn_seq_k fun K119 hK119 => ?_
 refine wpIn_region_lit ?_
 refine wp 2 [3, 4, 6, 7, 8, 71, 74] hF fun a hF => ?_
 refine wpListIn_nil ?_
 refine hK119 _ _ ?_
 refine bif_split H (fun hb H => ?_) (fun hb H => ?_)
 refine cond_t hF (by kernel_rfl) hb ?_
 refine wpIn_seq_k fun K120 hK120 => ?_
 refine wpIn_seq_k fun K121 hK121 => ?_
 refine wpIn_region_lit ?_
 refine wc (wls hF hS 1 0 12 fun a hF => ?_)
 have hS := hS.add (m := Arr.mp t_api_Map (flat [sl p30 ((x29.Maps.getD 0 zm_api_Map).Cuts).length c31, sl p32 ((x29.Maps.getD 0 zm_api_Map).Nodes).length c33, sl p34 ((x29.Maps.getD 1 zm_api_Map).Cuts).length c35, sl p36 ((x29.Maps.getD 1 zm_api_Map).Nodes).length c37, sl p38 ((x29.Maps.getD 2 zm_api_Map).Cuts).length c39, sl p40 ((x29.Maps.getD 2 zm_api_Map).Nodes).length c41, sl p42 ((x29.Maps.getD 3 zm_api_Map).Cuts).length c43, sl p44 ((x29.Maps.getD 3 zm_api_Map).Nodes).length c45]) 4 [(T_api_Map.mk ((x29.Maps.getD 0 zm_api_Map).Cuts) ((x29.Maps.getD 0 zm_api_Map).Nodes)), (T_api_Map.mk ((x29.Maps.getD 1 zm_api_Map).Cuts) ((x29.Maps.getD 1 zm_api_Map).Nodes)), (T_api_Map.mk ((x29.Maps.getD 2 zm_api_Map).Cuts) ((x29.Maps.getD 2 zm_api_Map).Nodes)), (T_api_Map.mk ((x29.Maps.getD 3 zm_api_Map).Cuts) ((x29.Maps.getD 3 zm_api_Map).Nodes))]) (ArrP.of4 (t := t_api_Map) (show (t_api_Map).rep _ _ (flat [sl p30 ((x29.Maps.getD 0 zm_api_Map).Cuts).length c31, sl p32 ((x29.Maps.getD 0 zm_api_Map).Nodes).length c33]) (T_api_Map.mk ((x29.Maps.getD 0 zm_api_Map).Cuts) ((x29.Maps.getD 0 zm_api_Map).Nodes)) from ⟨(p30, c31, p32, c33), rfl, (hS.pick [1, 2] (by kernel_rfl)).ro⟩) (show (t_api_Map).rep _ _ (flat [sl p34 ((x29.Maps.getD 1 zm_api_Map).Cuts).length c35, sl p36 ((x29.Maps.getD 1 zm_api_Map).Nodes).length c37]) (T_api_Map.mk ((x29.Maps.getD 1 zm_api_Map).Cuts) ((x29.Maps.getD 1 zm_api_Map).Nodes)) from ⟨(p34, c35, p36, c37), rfl, (hS.pick [3, 4] (by kernel_rfl)).ro⟩) (show (t_api_Map).rep _ _ (flat [sl p38 ((x29.Maps.getD 2 zm_api_Map).Cuts).length c39, sl p40 ((x29.Maps.getD 2 zm_api_Map).Nodes).length c41]) (T_api_Map.mk ((x29.Maps.getD 2 zm_api_Map).Cuts) ((x29.Maps.getD 2 zm_api_Map).Nodes)) from ⟨(p38, c39, p40, c41), rfl, (hS.pick [5, 6] (by kernel_rfl)).ro⟩) (show (t_api_Map).rep _ _ (flat [sl p42 ((x29.Maps.getD 3 zm_api_Map).Cuts).length c43, sl p44 ((x29.Maps.getD 3 zm_api_Map).Nodes).length c45]) (T_api_Map.mk ((x29.Maps.getD 3 zm_api_Map).Cuts) ((x29.Maps.getD 3 zm_api_Map).Nodes)) from ⟨(p42, c43, p44, c45), rfl, (hS.pick [7, 8] (by kernel_rfl)).ro⟩) (show (flat [sl p30 ((x29.Maps.getD 0 zm_api_Map).Cuts).length c31, sl p32 ((x29.Maps.getD 0 zm_api_Map).Nodes).length c33]) ++ ((flat [sl p34 ((x29.Maps.getD 1 zm_api_Map).Cuts).length c35, sl p36 ((x29.Maps.getD 1 zm_api_Map).Nodes).length c37]) ++ ((flat [sl p38 ((x29.Maps.getD 2 zm_api_Map).Cuts).length c39, sl p40 ((x29.Maps.getD 2 zm_api_Map).Nodes).length c41]) ++ (flat [sl p42 ((x29.Maps.getD 3 zm_api_Map).Cuts).length c43, sl p44 ((x29.Maps.getD 3 zm_api_Map).Nodes).length c45]))) = _ from by kernel_rfl))
 refine bind_split H (fun x122 hx122 H => ?_)
 refine wc (wo_callP hF hS (by kernel_rfl) (by kernel_rfl) (C_config_Count N hS.fresh (T_config_State.mk x29.Pool x29.Nodes x29.Members [(T_api_Map.mk ((x29.Maps.getD 0 zm_api_Map).Cuts) ((x29.Maps.getD 0 zm_api_Map).Nodes)), (T_api_Map.mk ((x29.Maps.getD 1 zm_api_Map).Cuts) ((x29.Maps.getD 1 zm_api_Map).Nodes)), (T_api_Map.mk ((x29.Maps.getD 2 zm_api_Map).Cuts) ((x29.Maps.getD 2 zm_api_Map).Nodes)), (T_api_Map.mk ((x29.Maps.getD 3 zm_api_Map).Cuts) ((x29.Maps.getD 3 zm_api_Map).Nodes))] x29.Modes) (flat [sl p30 ((x29.Maps.getD 0 zm_api_Map).Cuts).length c31, sl p32 ((x29.Maps.getD 0 zm_api_Map).Nodes).length c33, sl p34 ((x29.Maps.getD 1 zm_api_Map).Cuts).length c35, sl p36 ((x29.Maps.getD 1 zm_api_Map).Nodes).length c37, sl p38 ((x29.Maps.getD 2 zm_api_Map).Cuts).length c39, sl p40 ((x29.Maps.getD 2 zm_api_Map).Nodes).length c41, sl p42 ((x29.Maps.getD 3 zm_api_Map).Cuts).length c43, sl p44 ((x29.Maps.getD 3 zm_api_Map).Nodes).length c45]) ((hS.pick [1, 0, 10] (by kernel_rfl)).ro) hx122) ?_)
 rintro _ κ w a ⟨rfl, hR, hN⟩ hF hS hO
 refine wp 1 [3, 4, 6, 7, 8, 78] hF fun a hF => ?_
 refine wpListIn_nil ?_
 refine hK121 _ _ ?_
 refine bif_split H (fun hb H => ?_) (fun hb H => ?_)
 refine cond_t hF (by kernel_rfl) hb ?_
 refine wpIn_seq_k fun K123 hK123 => ?_
 refine wpIn_region_lit ?_
 refine wp 1 [4, 79] hF fun a hF => ?_
 refine wc (wst hF hS 2 0 12 [si 0, si 0, eb 4 (List.replicate 4 false), sl none 0 0, sl none 0 0, sl none 0 0, sl none 0 0, sl none 0 0, sl none 0 0, sl none 0 0, sl none 0 0, ei 21 (List.replicate 21 0)] (sgN 2 (sgEnc List.length_replicate (sgN 8 (sgEnc List.length_replicate sgNil)))) fun a w hF hS => ?_)
 refine wp 1 [4, 5] hF fun a hF => ?_
 refine wpListIn_nil ?_
 refine hK123 _ _ ?_
 refine wpIn_ret ?_
 have hS' := hS
 have hS := hS.addNil 9 1
 have hS := hS.addNil 3 1
 have hS := hS.addNil 9 1
 have hS := hS.addNil 3 1
 have hS := hS.addNil 9 1
 have hS := hS.addNil 3 1
 have hS := hS.addNil 9 1
 have hS := hS.addNil 3 1
 cases H
 exact (ret_done hF hS (res2 Try.results41 (rvs hF hS' 2 0 12) (rvt hF)) ⟨none, 0, none, 0, none, 0, none, 0, none, 0, none, 0, none, 0, none, 0, rfl, (hS.pick [11, 12, 13, 12, 13, 12, 13, 12, 13, 14] (by kernel_rfl)).ro, hS.newC [7, 6, 5, 4, 3, 2, 1, 0] (by decide) (by kernel_rfl)⟩)
 refine cond_f hF (by kernel_rfl) hb ?_
 refine wpIn_skip ?_
 refine hK120 _ _ ?_
 refine wpIn_seq_k fun K124 hK124 => ?_
 refine wpIn_region_lit ?_
 refine wp 1 [3, 4, 6, 7, 8, 80] hF fun a hF => ?_
 refine wc (wld hF hS 3 1 0 fun a hF => ?_)
 refine wl_pure (L' := [(3, pt b26 0), (4, pt b27 0), (6, pt b46 0), (7, pt b103 0), (8, vi 0), (81, vi 0), (82, pt b46 2)]) 1 [3, 4, 6, 7, 8, 81, 82] hF (by kernel_rfl) fun a hF => ?_
 refine bind_split H (fun x125 hx125 H => ?_)
 refine wc (wo_indexArr hF (by kernel_rfl) (E := 4) (sz := 1) (n := 4) rfl rfl (i := 0) rfl (idx_lt hx125 (hS.get 1 rfl)) (by kernel_rfl) (by kernel_rfl) fun a hF => ?_)
 refine wc (wo_storeA1 (t := fBool) (y := false) (v := vb false) hF hS (by kernel_rfl) 1 2 (s' := [si x29.Pool, si x29.Nodes, eb 4 (List.set x29.Members (Int.toNat 0) false), sl p30 ((x29.Maps.getD 0 zm_api_Map).Cuts).length c31, sl p32 ((x29.Maps.getD 0 zm_api_Map).Nodes).length c33, sl p34 ((x29.Maps.getD 1 zm_api_Map).Cuts).length c35, sl p36 ((x29.Maps.getD 1 zm_api_Map).Nodes).length c37, sl p38 ((x29.Maps.getD 2 zm_api_Map).Cuts).length c39, sl p40 ((x29.Maps.getD 2 zm_api_Map).Nodes).length c41, sl p42 ((x29.Maps.getD 3 zm_api_Map).Cuts).length c43, sl p44 ((x29.Maps.getD 3 zm_api_Map).Nodes).length c45, ei 21 x29.Modes]) (C' := [.box b103 25 [sl p30 ((x29.Maps.getD 0 zm_api_Map).Cuts).length c31, sl p32 ((x29.Maps.getD 0 zm_api_Map).Nodes).length c33], .box b46 56 [si x29.Pool, si x29.Nodes, eb 4 (List.set x29.Members (Int.toNat 0) false), sl p30 ((x29.Maps.getD 0 zm_api_Map).Cuts).length c31, sl p32 ((x29.Maps.getD 0 zm_api_Map).Nodes).length c33, sl p34 ((x29.Maps.getD 1 zm_api_Map).Cuts).length c35, sl p36 ((x29.Maps.getD 1 zm_api_Map).Nodes).length c37, sl p38 ((x29.Maps.getD 2 zm_api_Map).Cuts).length c39, sl p40 ((x29.Maps.getD 2 zm_api_Map).Nodes).length c41, sl p42 ((x29.Maps.getD 3 zm_api_Map).Cuts).length c43, sl p44 ((x29.Maps.getD 3 zm_api_Map).Nodes).length c45, ei 21 x29.Modes], .box b27 56 [si 0, si 0, eb 4 (List.replicate 4 false), sl none 0 0, sl none 0 0, sl none 0 0, sl none 0 0, sl none 0 0, sl none 0 0, sl none 0 0, sl none 0 0, ei 21 (List.replicate 21 0)], .box b26 58 [si a3.Kind, si 0, si a3.Shard, si a3.Node, si a3.Mode, sg a3.Key], .tok p30 9 1 ((x29.Maps.getD 0 zm_api_Map).Cuts).length c31, .tok p32 3 1 ((x29.Maps.getD 0 zm_api_Map).Nodes).length c33, .tok p34 9 1 ((x29.Maps.getD 1 zm_api_Map).Cuts).length c35, .tok p36 3 1 ((x29.Maps.getD 1 zm_api_Map).Nodes).length c37, .tok p38 9 1 ((x29.Maps.getD 2 zm_api_Map).Cuts).length c39, .tok p40 3 1 ((x29.Maps.getD 2 zm_api_Map).Nodes).length c41, .tok p42 9 1 ((x29.Maps.getD 3 zm_api_Map).Cuts).length c43, .tok p44 3 1 ((x29.Maps.getD 3 zm_api_Map).Nodes).length c45]) rfl rfl (by kernel_rfl) rfl rfl hx125 rfl rfl (by kernel_rfl) (by kernel_rfl) (by kernel_rfl) (by kernel_rfl) fun a w hF hS => ?_)
 have hS := hS.add (m := ml (List.set x29.Members (Int.toNat 0) false) 4) (List.length_set.trans (hS.get 1 rfl))
 refine wpListIn_nil ?_
 refine hK124 _ _ ?_
 refine wpIn_seq_k fun K126 hK126 => ?_
 refine wpIn_region_lit ?_
 refine wp 1 [3, 4, 6, 7, 8, 84] hF fun a hF => ?_
 refine wc (wst hF hS 0 0 2 [sl none 0 0, sl none 0 0] (sgN 2 sgNil) fun a w hF hS => ?_)
 refine wpListIn_nil ?_
 refine hK126 _ _ ?_
 refine wpIn_region_lit ?_
 refine wp 1 [3, 4, 6, 7, 8, 85] hF fun a hF => ?_
 refine wc (wld hF hS 3 1 0 fun a hF => ?_)
 refine bind_split H (fun x127 hx127 H => ?_)
 have hgx1270 := hS.segs 1 rfl
 refine wc (wcS 1 [1, 0, 2, 3, 4, 5, 6, 7, 8, 9, 10, 11] hF hS (fun hS => C_config_State_both_x N x29.Modes 0 (flat [si x29.Pool, si x29.Nodes, eb 4 (List.set x29.Members (Int.toNat 0) false), sl p30 ((x29.Maps.getD 0 zm_api_Map).Cuts).length c31, sl p32 ((x29.Maps.getD 0 zm_api_Map).Nodes).length c33, sl p34 ((x29.Maps.getD 1 zm_api_Map).Cuts).length c35, sl p36 ((x29.Maps.getD 1 zm_api_Map).Nodes).length c37, sl p38 ((x29.Maps.getD 2 zm_api_Map).Cuts).length c39, sl p40 ((x29.Maps.getD 2 zm_api_Map).Nodes).length c41, sl p42 ((x29.Maps.getD 3 zm_api_Map).Cuts).length c43, sl p44 ((x29.Maps.getD 3 zm_api_Map).Nodes).length c45]) b46 ⟨rfl, (hS.regr 0 [(true, 11), (false, 1)] rfl).pick [11] (by kernel_rfl)⟩ hx127) ?_)
 rintro _ κ w a ⟨rfl, h2⟩ hF hB
 have hS := (hB _ _ h2).unregr 0 [(true, 11), (false, 1)] (s' := [si x29.Pool, si x29.Nodes, eb 4 (List.set x29.Members (Int.toNat 0) false), sl p30 ((x29.Maps.getD 0 zm_api_Map).Cuts).length c31, sl p32 ((x29.Maps.getD 0 zm_api_Map).Nodes).length c33, sl p34 ((x29.Maps.getD 1 zm_api_Map).Cuts).length c35, sl p36 ((x29.Maps.getD 1 zm_api_Map).Nodes).length c37, sl p38 ((x29.Maps.getD 2 zm_api_Map).Cuts).length c39, sl p40 ((x29.Maps.getD 2 zm_api_Map).Nodes).length c41, sl p42 ((x29.Maps.getD 3 zm_api_Map).Cuts).length c43, sl p44 ((x29.Maps.getD 3 zm_api_Map).Nodes).length c45, ei 21 x127]) hgx1270 rfl rfl
 refine wpListIn_nil ?_
 have hS := hS.addNil 9 1
 have hS := hS.addNil 3 1
 exact ⟨_, (List.set x29.Members (Int.toNat 0) false), x127, ([] : List ByteArray), none, 0, ([] : List Int), none, 0, 0, hF.kp [3, 4, 6, 7, 8], hS.sp [2, 3, 4, 5, 1, 0, 8, 9, 10, 11, 12, 13] [1, 4, 5, 6, 7, 8, 9, 10, 11, 0, 14, 15, 13, 14, 15, 16], H⟩
 refine cond_f hF (by kernel_rfl) hb ?_
 refine wpIn_seq_k fun K128 hK128 => ?_
 refine wpIn_region_lit ?_
 refine wp 2 [3, 4, 6, 7, 71, 88] hF fun a hF => ?_
 refine wpListIn_nil ?_
 refine hK128 _ _ ?_
 refine bif_split H (fun hb H => ?_) (fun hb H => ?_)
 refine cond_t hF (by kernel_rfl) hb ?_
 refine wpIn_region_lit ?_
 refine wc (wls hF hS 0 0 2 fun a hF => ?_)
 refine wp 1 [3, 4, 6, 7, 91, 92] hF fun a hF => ?_
 refine wc (wld hF hS 1 1 0 fun a hF => ?_)
 refine wp 1 [3, 4, 6, 7, 91, 93, 94] hF fun a hF => ?_
 refine wc (wld hF hS 3 2 0 fun a hF => ?_)
 refine wp 1 [3, 4, 6, 7, 91, 93, 95, 96] hF fun a hF => ?_
 refine wc (wld hF hS 3 5 0 fun a hF => ?_)
 refine bind_split H (fun x129 hx129 H => ?_)
 refine wc (wo_callP hF hS (by kernel_rfl) (by kernel_rfl) (C_span_Split N hS.fresh (T_api_Map.mk ((x29.Maps.getD 0 zm_api_Map).Cuts) ((x29.Maps.getD 0 zm_api_Map).Nodes)) x29.Nodes a3.Shard a3.Key p30 c31 p32 c33 ((hS.pick [1, 2] (by kernel_rfl)).ro) hx129) ?_)
 rintro _ κ w a ⟨p130, c131, p132, c133, rfl, hR, hN⟩ hF hS hO
 have hS := hS.adds hR
 have hS := hS.addC hO hN
 refine wp 3 [3, 4, 6, 7, 99, 100] hF fun a hF => ?_
 refine wc (wst hF hS 2 0 2 [sl p130 (x129.1.Cuts).length c131, sl p132 (x129.1.Nodes).length c133] (sgN 2 sgNil) fun a w hF hS => ?_)
 refine wp 1 [3, 4, 6, 7, 8] hF fun a hF => ?_
 refine wpListIn_nil ?_
 exact ⟨_, x29.Members, x29.Modes, x129.1.Cuts, p130, c131, x129.1.Nodes, p132, c133, x129.2, hF.kp [3, 4, 6, 7, 8], hS.sp [3, 2, 4, 5, 0, 1, 8, 9, 10, 11, 12, 13] [2, 3, 4, 5, 6, 7, 8, 9, 10, 11, 0, 1, 12, 13, 14, 15], H⟩
 refine cond_f hF (by kernel_rfl) hb ?_
 refine wpIn_seq_k fun K134 hK134 => ?_
 refine wpIn_region_lit ?_
 refine wp 2 [3, 4, 6, 7, 71, 101] hF fun a hF => ?_
 refine wpListIn_nil ?_
 refine hK134 _ _ ?_
 refine bif_split H (fun hb H => ?_) (fun hb H => ?_)
 refine cond_t hF (by kernel_rfl) hb ?_
 refine wpIn_region_lit ?_
 refine wc (wls hF hS 0 0 2 fun a hF => ?_)
 refine wp 1 [3, 4, 6, 7, 104, 105] hF fun a hF => ?_
 refine wc (wld hF hS 1 1 0 fun a hF => ?_)
 refine wp 1 [3, 4, 6, 7, 104, 106, 107] hF fun a hF => ?_
 refine wc (wld hF hS 3 2 0 fun a hF => ?_)
 refine bind_split H (fun x135 hx135 H => ?_)
 refine wc (wo_callP hF hS (by kernel_rfl) (by kernel_rfl) (C_span_Merge N hS.fresh (T_api_Map.mk ((x29.Maps.getD 0 zm_api_Map).Cuts) ((x29.Maps.getD 0 zm_api_Map).Nodes)) x29.Nodes a3.Shard p30 c31 p32 c33 ((hS.pick [1, 2] (by kernel_rfl)).ro) hx135) ?_)
 rintro _ κ w a ⟨p136, c137, p138, c139, rfl, hR, hN⟩ hF hS hO
 have hS := hS.adds hR
 have hS := hS.addC hO hN
 refine wp 3 [3, 4, 6, 7, 110, 111] hF fun a hF => ?_
 refine wc (wst hF hS 2 0 2 [sl p136 (x135.1.Cuts).length c137, sl p138 (x135.1.Nodes).length c139] (sgN 2 sgNil) fun a w hF hS => ?_)
 refine wp 1 [3, 4, 6, 7, 8] hF fun a hF => ?_
 refine wpListIn_nil ?_
 exact ⟨_, x29.Members, x29.Modes, x135.1.Cuts, p136, c137, x135.1.Nodes, p138, c139, x135.2, hF.kp [3, 4, 6, 7, 8], hS.sp [3, 2, 4, 5, 0, 1, 8, 9, 10, 11, 12, 13] [2, 3, 4, 5, 6, 7, 8, 9, 10, 11, 0, 1, 12, 13, 14, 15], H⟩
 refine cond_f hF (by kernel_rfl) hb ?_
 refine wpIn_seq_k fun K140 hK140 => ?_
 refine wpIn_region_lit ?_
 refine wp 2 [3, 4, 6, 7, 112] hF fun a hF => ?_
 refine wpListIn_nil ?_
 refine hK140 _ _ ?_
 refine bif_split H (fun hb H => ?_) (fun hb H => ?_)
 refine cond_t hF (by kernel_rfl) hb ?_
 refine wpIn_region_lit ?_
 refine wc (wls hF hS 0 0 2 fun a hF => ?_)
 refine wp 1 [3, 4, 6, 7, 115, 116] hF fun a hF => ?_
 refine wc (wld hF hS 1 1 0 fun a hF => ?_)
 refine wp 1 [3, 4, 6, 7, 115, 117, 118] hF fun a hF => ?_
 refine wc (wld hF hS 3 2 0 fun a hF => ?_)
 refine wp 1 [3, 4, 6, 7, 115, 117, 119, 120] hF fun a hF => ?_
 refine wc (wld hF hS 3 3 0 fun a hF => ?_)
 refine bind_split H (fun x141 hx141 H => ?_)
 refine wc (wo_callP hF hS (by kernel_rfl) (by kernel_rfl) (C_span_Move N hS.fresh (T_api_Map.mk ((x29.Maps.getD 0 zm_api_Map).Cuts) ((x29.Maps.getD 0 zm_api_Map).Nodes)) x29.Nodes a3.Shard a3.Node p30 c31 p32 c33 ((hS.pick [1, 2] (by kernel_rfl)).ro) hx141) ?_)
 rintro _ κ w a ⟨p142, c143, p144, c145, rfl, hR, hN⟩ hF hS hO
 have hS := hS.adds hR
 have hS := hS.addC hO hN
 refine wp 3 [3, 4, 6, 7, 123, 124] hF fun a hF => ?_
 refine wc (wst hF hS 2 0 2 [sl p142 (x141.1.Cuts).length c143, sl p144 (x141.1.Nodes).length c145] (sgN 2 sgNil) fun a w hF hS => ?_)
 refine wp 1 [3, 4, 6, 7, 8] hF fun a hF => ?_
 refine wpListIn_nil ?_
 exact ⟨_, x29.Members, x29.Modes, x141.1.Cuts, p142, c143, x141.1.Nodes, p144, c145, x141.2, hF.kp [3, 4, 6, 7, 8], hS.sp [3, 2, 4, 5, 0, 1, 8, 9, 10, 11, 12, 13] [2, 3, 4, 5, 6, 7, 8, 9, 10, 11, 0, 1, 12, 13, 14, 15], H⟩
 refine cond_f hF (by kernel_rfl) hb ?_
 refine wpIn_region_lit ?_
 refine wc (wls hF hS 3 0 6 fun a hF => ?_)
 refine bind_split H (fun x146 hx146 H => ?_)
 have hgx1460 := hS.segs 1 rfl
 refine wc (wcS 1 [1, 0, 2, 3, 4, 5, 6, 7, 8, 9, 10, 11] hF hS (fun hS => C_config_State_speak_x N x29.Nodes x29.Modes (T_api_Cmd.mk a3.Kind 0 a3.Shard a3.Node a3.Mode a3.Key) [vi x29.Pool] (flat [eb 4 x29.Members, sl p30 ((x29.Maps.getD 0 zm_api_Map).Cuts).length c31, sl p32 ((x29.Maps.getD 0 zm_api_Map).Nodes).length c33, sl p34 ((x29.Maps.getD 1 zm_api_Map).Cuts).length c35, sl p36 ((x29.Maps.getD 1 zm_api_Map).Nodes).length c37, sl p38 ((x29.Maps.getD 2 zm_api_Map).Cuts).length c39, sl p40 ((x29.Maps.getD 2 zm_api_Map).Nodes).length c41, sl p42 ((x29.Maps.getD 3 zm_api_Map).Cuts).length c43, sl p44 ((x29.Maps.getD 3 zm_api_Map).Nodes).length c45]) b46 ⟨rfl, (hS.regr 0 [(false, 2), (true, 9), (false, 1)] rfl).pick [9] (by kernel_rfl)⟩ hx146) ?_)
 rintro _ κ w a ⟨rfl, h2⟩ hF hB
 have hS := (hB _ _ h2).unregr 0 [(false, 2), (true, 9), (false, 1)] (s' := [si x29.Pool, si x29.Nodes, eb 4 x29.Members, sl p30 ((x29.Maps.getD 0 zm_api_Map).Cuts).length c31, sl p32 ((x29.Maps.getD 0 zm_api_Map).Nodes).length c33, sl p34 ((x29.Maps.getD 1 zm_api_Map).Cuts).length c35, sl p36 ((x29.Maps.getD 1 zm_api_Map).Nodes).length c37, sl p38 ((x29.Maps.getD 2 zm_api_Map).Cuts).length c39, sl p40 ((x29.Maps.getD 2 zm_api_Map).Nodes).length c41, sl p42 ((x29.Maps.getD 3 zm_api_Map).Cuts).length c43, sl p44 ((x29.Maps.getD 3 zm_api_Map).Nodes).length c45, ei 21 x146.2]) hgx1460 rfl rfl
 refine wp 1 [3, 4, 6, 7, 8] hF fun a hF => ?_
 refine wpListIn_nil ?_
 exact ⟨_, x29.Members, x146.2, (x29.Maps.getD 0 zm_api_Map).Cuts, p30, c31, (x29.Maps.getD 0 zm_api_Map).Nodes, p32, c33, x146.1, hF.kp [3, 4, 6, 7, 8], hS.sp (rg 12) [1, 2, 3, 4, 5, 6, 7, 8, 9, 0, 2, 3, 11, 12, 13, 14], H⟩
 rintro a w ⟨κ, y104, y105, y106, p107, c108, y109, p110, c111, y112, hF, hS, H⟩
 unfold M.config_Apply_x_k1 at H
 refine wpIn_seq_k fun K113 hK113 => ?_
 refine wpIn_seq_k fun K114 hK114 => ?_
 refine wpIn_region_lit ?_
 refine wp 2 [3, 4, 6, 7, 8, 126] hF fun a hF => ?_
 refine wpListIn_nil ?_
 refine hK114 _ _ ?_
 refine bif_split H (fun hb H => ?_) (fun hb H => ?_)
 refine cond_t hF (by kernel_rfl) hb ?_
 refine wpIn_seq_k fun K115 hK115 => ?_
 refine wpIn_region_lit ?_
 refine wp 2 [4, 127, 128] hF fun a hF => ?_
 refine wc (wst hF hS 2 0 12 [si 0, si 0, eb 4 (List.replicate 4 false), sl none 0 0, sl none 0 0, sl none 0 0, sl none 0 0, sl none 0 0, sl none 0 0, sl none 0 0, sl none 0 0, ei 21 (List.replicate 21 0)] (sgN 2 (sgEnc List.length_replicate (sgN 8 (sgEnc List.length_replicate sgNil)))) fun a w hF hS => ?_)
 refine wp 1 [4, 5] hF fun a hF => ?_
 refine wpListIn_nil ?_
 refine hK115 _ _ ?_
 refine wpIn_ret ?_
 have hS' := hS
 have hS := hS.addNil 9 1
 have hS := hS.addNil 3 1
 have hS := hS.addNil 9 1
 have hS := hS.addNil 3 1
 have hS := hS.addNil 9 1
 have hS := hS.addNil 3 1
 have hS := hS.addNil 9 1
 have hS := hS.addNil 3 1
 cases H
 exact (ret_done hF hS (res2 Try.results41 (rvs hF hS' 2 0 12) (rvt hF)) ⟨none, 0, none, 0, none, 0, none, 0, none, 0, none, 0, none, 0, none, 0, rfl, (hS.pick [12, 13, 14, 13, 14, 13, 14, 13, 14, 15] (by kernel_rfl)).ro, hS.newC [7, 6, 5, 4, 3, 2, 1, 0] (by decide) (by kernel_rfl)⟩)
 refine cond_f hF (by kernel_rfl) hb ?_
 refine wpIn_skip ?_
 refine hK113 _ _ ?_
 refine wpIn_seq_k fun K116 hK116 => ?_
 refine wpIn_region_lit ?_
 refine wp 1 [4, 6, 7, 129] hF fun a hF => ?_
 refine wc (wld hF hS 3 1 0 fun a hF => ?_)
 refine wc (wls hF hS 1 0 2 fun a hF => ?_)
 refine wp 2 [4, 6, 131, 133] hF fun a hF => ?_
 refine wc (wst hF hS 0 3 2 [sl p107 (y106).length c108, sl p110 (y109).length c111] (sgN 2 sgNil) fun a w hF hS => ?_)
 refine wpListIn_nil ?_
 refine hK116 _ _ ?_
 refine wpIn_seq_k fun K117 hK117 => ?_
 refine wpIn_region_lit ?_
 refine wc (wls hF hS 0 0 12 fun a hF => ?_)
 refine wc (wst hF hS 2 0 12 [si x29.Pool, si x29.Nodes, eb 4 y104, sl p107 (y106).length c108, sl p110 (y109).length c111, sl p34 ((x29.Maps.getD 1 zm_api_Map).Cuts).length c35, sl p36 ((x29.Maps.getD 1 zm_api_Map).Nodes).length c37, sl p38 ((x29.Maps.getD 2 zm_api_Map).Cuts).length c39, sl p40 ((x29.Maps.getD 2 zm_api_Map).Nodes).length c41, sl p42 ((x29.Maps.getD 3 zm_api_Map).Cuts).length c43, sl p44 ((x29.Maps.getD 3 zm_api_Map).Nodes).length c45, ei 21 y105] (sgN 2 (sgEnc (hS.get 0 rfl) (sgN 8 (sgEnc (hS.get 9 rfl) sgNil)))) fun a w hF hS => ?_)
 refine wp 1 [4, 5] hF fun a hF => ?_
 refine wpListIn_nil ?_
 refine hK117 _ _ ?_
 refine wpIn_ret ?_
 have hS' := hS
 cases H
 exact (ret_done hF hS (res2 Try.results41 (rvs hF hS' 2 0 12) (rvt hF)) ⟨p107, c108, p110, c111, p34, c35, p36, c37, p38, c39, p40, c41, p42, c43, p44, c45, rfl, (hS.pick [0, 10, 11, 3, 4, 5, 6, 7, 8, 9] (by kernel_rfl)).ro, hS.newC [4, 5, 6, 7, 8, 9, 10, 11] (by decide) (by kernel_rfl)⟩)
 refine bif_split H (fun hb H => ?_) (fun _ H => ?_)
 have he : a3.DC = 1 := eq_of_beq hb
 try rw [he] at hF
 try rw [he] at hS
 refine wpIn_region_lit ?_
 refine wp 1 [3, 4, 6, 65] hF fun a hF => ?_
 refine wc (wld hF hS 2 1 0 fun a hF => ?_)
 refine wp 2 [3, 4, 6, 68] hF fun a hF => ?_
 refine wc (wls hF hS 0 5 2 fun a hF => ?_)
 refine wc (wal hF hS [sl none 0 0, sl none 0 0] (sgN 2 sgNil) fun b147 a w hF hS => ?_)
 refine wc (wst hF hS 0 0 2 [sl p34 ((x29.Maps.getD 1 zm_api_Map).Cuts).length c35, sl p36 ((x29.Maps.getD 1 zm_api_Map).Nodes).length c37] (sgN 2 sgNil) fun a w hF hS => ?_)
 refine wp 1 [3, 4, 6, 7, 8] hF fun a hF => ?_
 refine wpListIn_nil ?_
 refine hK102 _ _ ?_
 refine seq_join (fun a w => ∃ (κ : Gh) (y148 : List Bool) (y149 : List Int) (y150 : List ByteArray) (p151 : Option Addr) (c152 : Nat) (y153 : List Int) (p154 : Option Addr) (c155 : Nat) (y156 : Int), Fr (135) [] [(3, pt b26 0), (4, pt b27 0), (6, pt b46 0), (7, pt b147 0), (8, vi y156)] a ∧ SS [] κ0 w0 κ w [.box b46 56 [si x29.Pool, si x29.Nodes, eb 4 y148, sl p30 ((x29.Maps.getD 0 zm_api_Map).Cuts).length c31, sl p32 ((x29.Maps.getD 0 zm_api_Map).Nodes).length c33, sl p34 ((x29.Maps.getD 1 zm_api_Map).Cuts).length c35, sl p36 ((x29.Maps.getD 1 zm_api_Map).Nodes).length c37, sl p38 ((x29.Maps.getD 2 zm_api_Map).Cuts).length c39, sl p40 ((x29.Maps.getD 2 zm_api_Map).Nodes).length c41, sl p42 ((x29.Maps.getD 3 zm_api_Map).Cuts).length c43, sl p44 ((x29.Maps.getD 3 zm_api_Map).Nodes).length c45, ei 21 y149], .box b147 25 [sl p151 (y150).length c152, sl p154 (y153).length c155], .box b27 56 [si 0, si 0, eb 4 (List.replicate 4 false), sl none 0 0, sl none 0 0, sl none 0 0, sl none 0 0, sl none 0 0, sl none 0 0, sl none 0 0, sl none 0 0, ei 21 (List.replicate 21 0)], .box b26 58 [si a3.Kind, si 1, si a3.Shard, si a3.Node, si a3.Mode, sg a3.Key], .tok p151 9 1 (y150).length c152, .tok p154 3 1 (y153).length c155, .tok p30 9 1 ((x29.Maps.getD 0 zm_api_Map).Cuts).length c31, .tok p32 3 1 ((x29.Maps.getD 0 zm_api_Map).Nodes).length c33, .tok p38 9 1 ((x29.Maps.getD 2 zm_api_Map).Cuts).length c39, .tok p40 3 1 ((x29.Maps.getD 2 zm_api_Map).Nodes).length c41, .tok p42 9 1 ((x29.Maps.getD 3 zm_api_Map).Cuts).length c43, .tok p44 3 1 ((x29.Maps.getD 3 zm_api_Map).Nodes).length c45] [ml y148 4, Ro.mp fStr.ty p30 c31 ((x29.Maps.getD 0 zm_api_Map).Cuts), Ro.mp (fInt .i64).ty p32 c33 ((x29.Maps.getD 0 zm_api_Map).Nodes), Ro.mp fStr.ty p34 c35 ((x29.Maps.getD 1 zm_api_Map).Cuts), Ro.mp (fInt .i64).ty p36 c37 ((x29.Maps.getD 1 zm_api_Map).Nodes), Ro.mp fStr.ty p38 c39 ((x29.Maps.getD 2 zm_api_Map).Cuts), Ro.mp (fInt .i64).ty p40 c41 ((x29.Maps.getD 2 zm_api_Map).Nodes), Ro.mp fStr.ty p42 c43 ((x29.Maps.getD 3 zm_api_Map).Cuts), Ro.mp (fInt .i64).ty p44 c45 ((x29.Maps.getD 3 zm_api_Map).Nodes), ml y149 21, Ro.mp fStr.ty p151 c152 y150, Ro.mp (fInt .i64).ty p154 c155 y153, ml (List.replicate 4 false) 4, Ro.mp fStr.ty none 0 ([] : List ByteArray), Ro.mp (fInt .i64).ty none 0 ([] : List Int), ml (List.replicate 21 0) 21] ∧ M.config_Apply_x_k2 N a3 x29 y148 y149 y150 y153 y156 = some r) ?_ ?_
 refine wpIn_seq_k fun K162 hK162 => ?_
 refine wpIn_region_lit ?_
 refine wp 1 [3, 4, 6, 7, 8, 70] hF fun a hF => ?_
 refine wc (wld hF hS 3 0 0 fun a hF => ?_)
 refine wpListIn_nil ?_
 refine hK162 _ _ ?_
 refine wpIn_block ?_
 refine wpIn_seq_k fun K163 hK163 => ?_
 refine wpIn_region_lit ?_
 refine wp 2 [3, 4, 6, 7, 8, 71, 74] hF fun a hF => ?_
 refine wpListIn_nil ?_
 refine hK163 _ _ ?_
 refine bif_split H (fun hb H => ?_) (fun hb H => ?_)
 refine cond_t hF (by kernel_rfl) hb ?_
 refine wpIn_seq_k fun K164 hK164 => ?_
 refine wpIn_seq_k fun K165 hK165 => ?_
 refine wpIn_region_lit ?_
 refine wc (wls hF hS 1 0 12 fun a hF => ?_)
 have hS := hS.add (m := Arr.mp t_api_Map (flat [sl p30 ((x29.Maps.getD 0 zm_api_Map).Cuts).length c31, sl p32 ((x29.Maps.getD 0 zm_api_Map).Nodes).length c33, sl p34 ((x29.Maps.getD 1 zm_api_Map).Cuts).length c35, sl p36 ((x29.Maps.getD 1 zm_api_Map).Nodes).length c37, sl p38 ((x29.Maps.getD 2 zm_api_Map).Cuts).length c39, sl p40 ((x29.Maps.getD 2 zm_api_Map).Nodes).length c41, sl p42 ((x29.Maps.getD 3 zm_api_Map).Cuts).length c43, sl p44 ((x29.Maps.getD 3 zm_api_Map).Nodes).length c45]) 4 [(T_api_Map.mk ((x29.Maps.getD 0 zm_api_Map).Cuts) ((x29.Maps.getD 0 zm_api_Map).Nodes)), (T_api_Map.mk ((x29.Maps.getD 1 zm_api_Map).Cuts) ((x29.Maps.getD 1 zm_api_Map).Nodes)), (T_api_Map.mk ((x29.Maps.getD 2 zm_api_Map).Cuts) ((x29.Maps.getD 2 zm_api_Map).Nodes)), (T_api_Map.mk ((x29.Maps.getD 3 zm_api_Map).Cuts) ((x29.Maps.getD 3 zm_api_Map).Nodes))]) (ArrP.of4 (t := t_api_Map) (show (t_api_Map).rep _ _ (flat [sl p30 ((x29.Maps.getD 0 zm_api_Map).Cuts).length c31, sl p32 ((x29.Maps.getD 0 zm_api_Map).Nodes).length c33]) (T_api_Map.mk ((x29.Maps.getD 0 zm_api_Map).Cuts) ((x29.Maps.getD 0 zm_api_Map).Nodes)) from ⟨(p30, c31, p32, c33), rfl, (hS.pick [1, 2] (by kernel_rfl)).ro⟩) (show (t_api_Map).rep _ _ (flat [sl p34 ((x29.Maps.getD 1 zm_api_Map).Cuts).length c35, sl p36 ((x29.Maps.getD 1 zm_api_Map).Nodes).length c37]) (T_api_Map.mk ((x29.Maps.getD 1 zm_api_Map).Cuts) ((x29.Maps.getD 1 zm_api_Map).Nodes)) from ⟨(p34, c35, p36, c37), rfl, (hS.pick [3, 4] (by kernel_rfl)).ro⟩) (show (t_api_Map).rep _ _ (flat [sl p38 ((x29.Maps.getD 2 zm_api_Map).Cuts).length c39, sl p40 ((x29.Maps.getD 2 zm_api_Map).Nodes).length c41]) (T_api_Map.mk ((x29.Maps.getD 2 zm_api_Map).Cuts) ((x29.Maps.getD 2 zm_api_Map).Nodes)) from ⟨(p38, c39, p40, c41), rfl, (hS.pick [5, 6] (by kernel_rfl)).ro⟩) (show (t_api_Map).rep _ _ (flat [sl p42 ((x29.Maps.getD 3 zm_api_Map).Cuts).length c43, sl p44 ((x29.Maps.getD 3 zm_api_Map).Nodes).length c45]) (T_api_Map.mk ((x29.Maps.getD 3 zm_api_Map).Cuts) ((x29.Maps.getD 3 zm_api_Map).Nodes)) from ⟨(p42, c43, p44, c45), rfl, (hS.pick [7, 8] (by kernel_rfl)).ro⟩) (show (flat [sl p30 ((x29.Maps.getD 0 zm_api_Map).Cuts).length c31, sl p32 ((x29.Maps.getD 0 zm_api_Map).Nodes).length c33]) ++ ((flat [sl p34 ((x29.Maps.getD 1 zm_api_Map).Cuts).length c35, sl p36 ((x29.Maps.getD 1 zm_api_Map).Nodes).length c37]) ++ ((flat [sl p38 ((x29.Maps.getD 2 zm_api_Map).Cuts).length c39, sl p40 ((x29.Maps.getD 2 zm_api_Map).Nodes).length c41]) ++ (flat [sl p42 ((x29.Maps.getD 3 zm_api_Map).Cuts).length c43, sl p44 ((x29.Maps.getD 3 zm_api_Map).Nodes).length c45]))) = _ from by kernel_rfl))
 refine bind_split H (fun x166 hx166 H => ?_)
 refine wc (wo_callP hF hS (by kernel_rfl) (by kernel_rfl) (C_config_Count N hS.fresh (T_config_State.mk x29.Pool x29.Nodes x29.Members [(T_api_Map.mk ((x29.Maps.getD 0 zm_api_Map).Cuts) ((x29.Maps.getD 0 zm_api_Map).Nodes)), (T_api_Map.mk ((x29.Maps.getD 1 zm_api_Map).Cuts) ((x29.Maps.getD 1 zm_api_Map).Nodes)), (T_api_Map.mk ((x29.Maps.getD 2 zm_api_Map).Cuts) ((x29.Maps.getD 2 zm_api_Map).Nodes)), (T_api_Map.mk ((x29.Maps.getD 3 zm_api_Map).Cuts) ((x29.Maps.getD 3 zm_api_Map).Nodes))] x29.Modes) (flat [sl p30 ((x29.Maps.getD 0 zm_api_Map).Cuts).length c31, sl p32 ((x29.Maps.getD 0 zm_api_Map).Nodes).length c33, sl p34 ((x29.Maps.getD 1 zm_api_Map).Cuts).length c35, sl p36 ((x29.Maps.getD 1 zm_api_Map).Nodes).length c37, sl p38 ((x29.Maps.getD 2 zm_api_Map).Cuts).length c39, sl p40 ((x29.Maps.getD 2 zm_api_Map).Nodes).length c41, sl p42 ((x29.Maps.getD 3 zm_api_Map).Cuts).length c43, sl p44 ((x29.Maps.getD 3 zm_api_Map).Nodes).length c45]) ((hS.pick [1, 0, 10] (by kernel_rfl)).ro) hx166) ?_)
 rintro _ κ w a ⟨rfl, hR, hN⟩ hF hS hO
 refine wp 1 [3, 4, 6, 7, 8, 78] hF fun a hF => ?_
 refine wpListIn_nil ?_
 refine hK165 _ _ ?_
 refine bif_split H (fun hb H => ?_) (fun hb H => ?_)
 refine cond_t hF (by kernel_rfl) hb ?_
 refine wpIn_seq_k fun K167 hK167 => ?_
 refine wpIn_region_lit ?_
 refine wp 1 [4, 79] hF fun a hF => ?_
 refine wc (wst hF hS 2 0 12 [si 0, si 0, eb 4 (List.replicate 4 false), sl none 0 0, sl none 0 0, sl none 0 0, sl none 0 0, sl none 0 0, sl none 0 0, sl none 0 0, sl none 0 0, ei 21 (List.replicate 21 0)] (sgN 2 (sgEnc List.length_replicate (sgN 8 (sgEnc List.length_replicate sgNil)))) fun a w hF hS => ?_)
 refine wp 1 [4, 5] hF fun a hF => ?_
 refine wpListIn_nil ?_
 refine hK167 _ _ ?_
 refine wpIn_ret ?_
 have hS' := hS
 have hS := hS.addNil 9 1
 have hS := hS.addNil 3 1
 have hS := hS.addNil 9 1
 have hS := hS.addNil 3 1
 have hS := hS.addNil 9 1
 have hS := hS.addNil 3 1
 have hS := hS.addNil 9 1
 have hS := hS.addNil 3 1
 cases H
 exact (ret_done hF hS (res2 Try.results41 (rvs hF hS' 2 0 12) (rvt hF)) ⟨none, 0, none, 0, none, 0, none, 0, none, 0, none, 0, none, 0, none, 0, rfl, (hS.pick [11, 12, 13, 12, 13, 12, 13, 12, 13, 14] (by kernel_rfl)).ro, hS.newC [7, 6, 5, 4, 3, 2, 1, 0] (by decide) (by kernel_rfl)⟩)
 refine cond_f hF (by kernel_rfl) hb ?_
 refine wpIn_skip ?_
 refine hK164 _ _ ?_
 refine wpIn_seq_k fun K168 hK168 => ?_
 refine wpIn_region_lit ?_
 refine wp 1 [3, 4, 6, 7, 8, 80] hF fun a hF => ?_
 refine wc (wld hF hS 3 1 0 fun a hF => ?_)
 refine wl_pure (L' := [(3, pt b26 0), (4, pt b27 0), (6, pt b46 0), (7, pt b147 0), (8, vi 0), (81, vi 1), (82, pt b46 2)]) 1 [3, 4, 6, 7, 8, 81, 82] hF (by kernel_rfl) fun a hF => ?_
 refine bind_split H (fun x169 hx169 H => ?_)
 refine wc (wo_indexArr hF (by kernel_rfl) (E := 4) (sz := 1) (n := 4) rfl rfl (i := 1) rfl (idx_lt hx169 (hS.get 1 rfl)) (by kernel_rfl) (by kernel_rfl) fun a hF => ?_)
 refine wc (wo_storeA1 (t := fBool) (y := false) (v := vb false) hF hS (by kernel_rfl) 1 2 (s' := [si x29.Pool, si x29.Nodes, eb 4 (List.set x29.Members (Int.toNat 1) false), sl p30 ((x29.Maps.getD 0 zm_api_Map).Cuts).length c31, sl p32 ((x29.Maps.getD 0 zm_api_Map).Nodes).length c33, sl p34 ((x29.Maps.getD 1 zm_api_Map).Cuts).length c35, sl p36 ((x29.Maps.getD 1 zm_api_Map).Nodes).length c37, sl p38 ((x29.Maps.getD 2 zm_api_Map).Cuts).length c39, sl p40 ((x29.Maps.getD 2 zm_api_Map).Nodes).length c41, sl p42 ((x29.Maps.getD 3 zm_api_Map).Cuts).length c43, sl p44 ((x29.Maps.getD 3 zm_api_Map).Nodes).length c45, ei 21 x29.Modes]) (C' := [.box b147 25 [sl p34 ((x29.Maps.getD 1 zm_api_Map).Cuts).length c35, sl p36 ((x29.Maps.getD 1 zm_api_Map).Nodes).length c37], .box b46 56 [si x29.Pool, si x29.Nodes, eb 4 (List.set x29.Members (Int.toNat 1) false), sl p30 ((x29.Maps.getD 0 zm_api_Map).Cuts).length c31, sl p32 ((x29.Maps.getD 0 zm_api_Map).Nodes).length c33, sl p34 ((x29.Maps.getD 1 zm_api_Map).Cuts).length c35, sl p36 ((x29.Maps.getD 1 zm_api_Map).Nodes).length c37, sl p38 ((x29.Maps.getD 2 zm_api_Map).Cuts).length c39, sl p40 ((x29.Maps.getD 2 zm_api_Map).Nodes).length c41, sl p42 ((x29.Maps.getD 3 zm_api_Map).Cuts).length c43, sl p44 ((x29.Maps.getD 3 zm_api_Map).Nodes).length c45, ei 21 x29.Modes], .box b27 56 [si 0, si 0, eb 4 (List.replicate 4 false), sl none 0 0, sl none 0 0, sl none 0 0, sl none 0 0, sl none 0 0, sl none 0 0, sl none 0 0, sl none 0 0, ei 21 (List.replicate 21 0)], .box b26 58 [si a3.Kind, si 1, si a3.Shard, si a3.Node, si a3.Mode, sg a3.Key], .tok p30 9 1 ((x29.Maps.getD 0 zm_api_Map).Cuts).length c31, .tok p32 3 1 ((x29.Maps.getD 0 zm_api_Map).Nodes).length c33, .tok p34 9 1 ((x29.Maps.getD 1 zm_api_Map).Cuts).length c35, .tok p36 3 1 ((x29.Maps.getD 1 zm_api_Map).Nodes).length c37, .tok p38 9 1 ((x29.Maps.getD 2 zm_api_Map).Cuts).length c39, .tok p40 3 1 ((x29.Maps.getD 2 zm_api_Map).Nodes).length c41, .tok p42 9 1 ((x29.Maps.getD 3 zm_api_Map).Cuts).length c43, .tok p44 3 1 ((x29.Maps.getD 3 zm_api_Map).Nodes).length c45]) rfl rfl (by kernel_rfl) rfl rfl hx169 rfl rfl (by kernel_rfl) (by kernel_rfl) (by kernel_rfl) (by kernel_rfl) fun a w hF hS => ?_)
 have hS := hS.add (m := ml (List.set x29.Members (Int.toNat 1) false) 4) (List.length_set.trans (hS.get 1 rfl))
 refine wpListIn_nil ?_
 refine hK168 _ _ ?_
 refine wpIn_seq_k fun K170 hK170 => ?_
 refine wpIn_region_lit ?_
 refine wp 1 [3, 4, 6, 7, 8, 84] hF fun a hF => ?_
 refine wc (wst hF hS 0 0 2 [sl none 0 0, sl none 0 0] (sgN 2 sgNil) fun a w hF hS => ?_)
 refine wpListIn_nil ?_
 refine hK170 _ _ ?_
 refine wpIn_region_lit ?_
 refine wp 1 [3, 4, 6, 7, 8, 85] hF fun a hF => ?_
 refine wc (wld hF hS 3 1 0 fun a hF => ?_)
 refine bind_split H (fun x171 hx171 H => ?_)
 have hgx1710 := hS.segs 1 rfl
 refine wc (wcS 1 [1, 0, 2, 3, 4, 5, 6, 7, 8, 9, 10, 11] hF hS (fun hS => C_config_State_both_x N x29.Modes 1 (flat [si x29.Pool, si x29.Nodes, eb 4 (List.set x29.Members (Int.toNat 1) false), sl p30 ((x29.Maps.getD 0 zm_api_Map).Cuts).length c31, sl p32 ((x29.Maps.getD 0 zm_api_Map).Nodes).length c33, sl p34 ((x29.Maps.getD 1 zm_api_Map).Cuts).length c35, sl p36 ((x29.Maps.getD 1 zm_api_Map).Nodes).length c37, sl p38 ((x29.Maps.getD 2 zm_api_Map).Cuts).length c39, sl p40 ((x29.Maps.getD 2 zm_api_Map).Nodes).length c41, sl p42 ((x29.Maps.getD 3 zm_api_Map).Cuts).length c43, sl p44 ((x29.Maps.getD 3 zm_api_Map).Nodes).length c45]) b46 ⟨rfl, (hS.regr 0 [(true, 11), (false, 1)] rfl).pick [11] (by kernel_rfl)⟩ hx171) ?_)
 rintro _ κ w a ⟨rfl, h2⟩ hF hB
 have hS := (hB _ _ h2).unregr 0 [(true, 11), (false, 1)] (s' := [si x29.Pool, si x29.Nodes, eb 4 (List.set x29.Members (Int.toNat 1) false), sl p30 ((x29.Maps.getD 0 zm_api_Map).Cuts).length c31, sl p32 ((x29.Maps.getD 0 zm_api_Map).Nodes).length c33, sl p34 ((x29.Maps.getD 1 zm_api_Map).Cuts).length c35, sl p36 ((x29.Maps.getD 1 zm_api_Map).Nodes).length c37, sl p38 ((x29.Maps.getD 2 zm_api_Map).Cuts).length c39, sl p40 ((x29.Maps.getD 2 zm_api_Map).Nodes).length c41, sl p42 ((x29.Maps.getD 3 zm_api_Map).Cuts).length c43, sl p44 ((x29.Maps.getD 3 zm_api_Map).Nodes).length c45, ei 21 x171]) hgx1710 rfl rfl
 refine wpListIn_nil ?_
 have hS := hS.addNil 9 1
 have hS := hS.addNil 3 1
 exact ⟨_, (List.set x29.Members (Int.toNat 1) false), x171, ([] : List ByteArray), none, 0, ([] : List Int), none, 0, 0, hF.kp [3, 4, 6, 7, 8], hS.sp [2, 3, 4, 5, 1, 0, 6, 7, 10, 11, 12, 13] [1, 4, 5, 6, 7, 8, 9, 10, 11, 0, 14, 15, 13, 14, 15, 16], H⟩
 refine cond_f hF (by kernel_rfl) hb ?_
 refine wpIn_seq_k fun K172 hK172 => ?_
 refine wpIn_region_lit ?_
 refine wp 2 [3, 4, 6, 7, 71, 88] hF fun a hF => ?_
 refine wpListIn_nil ?_
 refine hK172 _ _ ?_
 refine bif_split H (fun hb H => ?_) (fun hb H => ?_)
 refine cond_t hF (by kernel_rfl) hb ?_
 refine wpIn_region_lit ?_
 refine wc (wls hF hS 0 0 2 fun a hF => ?_)
 refine wp 1 [3, 4, 6, 7, 91, 92] hF fun a hF => ?_
 refine wc (wld hF hS 1 1 0 fun a hF => ?_)
 refine wp 1 [3, 4, 6, 7, 91, 93, 94] hF fun a hF => ?_
 refine wc (wld hF hS 3 2 0 fun a hF => ?_)
 refine wp 1 [3, 4, 6, 7, 91, 93, 95, 96] hF fun a hF => ?_
 refine wc (wld hF hS 3 5 0 fun a hF => ?_)
 refine bind_split H (fun x173 hx173 H => ?_)
 refine wc (wo_callP hF hS (by kernel_rfl) (by kernel_rfl) (C_span_Split N hS.fresh (T_api_Map.mk ((x29.Maps.getD 1 zm_api_Map).Cuts) ((x29.Maps.getD 1 zm_api_Map).Nodes)) x29.Nodes a3.Shard a3.Key p34 c35 p36 c37 ((hS.pick [3, 4] (by kernel_rfl)).ro) hx173) ?_)
 rintro _ κ w a ⟨p174, c175, p176, c177, rfl, hR, hN⟩ hF hS hO
 have hS := hS.adds hR
 have hS := hS.addC hO hN
 refine wp 3 [3, 4, 6, 7, 99, 100] hF fun a hF => ?_
 refine wc (wst hF hS 2 0 2 [sl p174 (x173.1.Cuts).length c175, sl p176 (x173.1.Nodes).length c177] (sgN 2 sgNil) fun a w hF hS => ?_)
 refine wp 1 [3, 4, 6, 7, 8] hF fun a hF => ?_
 refine wpListIn_nil ?_
 exact ⟨_, x29.Members, x29.Modes, x173.1.Cuts, p174, c175, x173.1.Nodes, p176, c177, x173.2, hF.kp [3, 4, 6, 7, 8], hS.sp [3, 2, 4, 5, 0, 1, 6, 7, 10, 11, 12, 13] [2, 3, 4, 5, 6, 7, 8, 9, 10, 11, 0, 1, 12, 13, 14, 15], H⟩
 refine cond_f hF (by kernel_rfl) hb ?_
 refine wpIn_seq_k fun K178 hK178 => ?_
 refine wpIn_region_lit ?_
 refine wp 2 [3, 4, 6, 7, 71, 101] hF fun a hF => ?_
 refine wpListIn_nil ?_
 refine hK178 _ _ ?_
 refine bif_split H (fun hb H => ?_) (fun hb H => ?_)
 refine cond_t hF (by kernel_rfl) hb ?_
 refine wpIn_region_lit ?_
 refine wc (wls hF hS 0 0 2 fun a hF => ?_)
 refine wp 1 [3, 4, 6, 7, 104, 105] hF fun a hF => ?_
 refine wc (wld hF hS 1 1 0 fun a hF => ?_)
 refine wp 1 [3, 4, 6, 7, 104, 106, 107] hF fun a hF => ?_
 refine wc (wld hF hS 3 2 0 fun a hF => ?_)
 refine bind_split H (fun x179 hx179 H => ?_)
 refine wc (wo_callP hF hS (by kernel_rfl) (by kernel_rfl) (C_span_Merge N hS.fresh (T_api_Map.mk ((x29.Maps.getD 1 zm_api_Map).Cuts) ((x29.Maps.getD 1 zm_api_Map).Nodes)) x29.Nodes a3.Shard p34 c35 p36 c37 ((hS.pick [3, 4] (by kernel_rfl)).ro) hx179) ?_)
 rintro _ κ w a ⟨p180, c181, p182, c183, rfl, hR, hN⟩ hF hS hO
 have hS := hS.adds hR
 have hS := hS.addC hO hN
 refine wp 3 [3, 4, 6, 7, 110, 111] hF fun a hF => ?_
 refine wc (wst hF hS 2 0 2 [sl p180 (x179.1.Cuts).length c181, sl p182 (x179.1.Nodes).length c183] (sgN 2 sgNil) fun a w hF hS => ?_)
 refine wp 1 [3, 4, 6, 7, 8] hF fun a hF => ?_
 refine wpListIn_nil ?_
 exact ⟨_, x29.Members, x29.Modes, x179.1.Cuts, p180, c181, x179.1.Nodes, p182, c183, x179.2, hF.kp [3, 4, 6, 7, 8], hS.sp [3, 2, 4, 5, 0, 1, 6, 7, 10, 11, 12, 13] [2, 3, 4, 5, 6, 7, 8, 9, 10, 11, 0, 1, 12, 13, 14, 15], H⟩
 refine cond_f hF (by kernel_rfl) hb ?_
 refine wpIn_seq_k fun K184 hK184 => ?_
 refine wpIn_region_lit ?_
 refine wp 2 [3, 4, 6, 7, 112] hF fun a hF => ?_
 refine wpListIn_nil ?_
 refine hK184 _ _ ?_
 refine bif_split H (fun hb H => ?_) (fun hb H => ?_)
 refine cond_t hF (by kernel_rfl) hb ?_
 refine wpIn_region_lit ?_
 refine wc (wls hF hS 0 0 2 fun a hF => ?_)
 refine wp 1 [3, 4, 6, 7, 115, 116] hF fun a hF => ?_
 refine wc (wld hF hS 1 1 0 fun a hF => ?_)
 refine wp 1 [3, 4, 6, 7, 115, 117, 118] hF fun a hF => ?_
 refine wc (wld hF hS 3 2 0 fun a hF => ?_)
 refine wp 1 [3, 4, 6, 7, 115, 117, 119, 120] hF fun a hF => ?_
 refine wc (wld hF hS 3 3 0 fun a hF => ?_)
 refine bind_split H (fun x185 hx185 H => ?_)
 refine wc (wo_callP hF hS (by kernel_rfl) (by kernel_rfl) (C_span_Move N hS.fresh (T_api_Map.mk ((x29.Maps.getD 1 zm_api_Map).Cuts) ((x29.Maps.getD 1 zm_api_Map).Nodes)) x29.Nodes a3.Shard a3.Node p34 c35 p36 c37 ((hS.pick [3, 4] (by kernel_rfl)).ro) hx185) ?_)
 rintro _ κ w a ⟨p186, c187, p188, c189, rfl, hR, hN⟩ hF hS hO
 have hS := hS.adds hR
 have hS := hS.addC hO hN
 refine wp 3 [3, 4, 6, 7, 123, 124] hF fun a hF => ?_
 refine wc (wst hF hS 2 0 2 [sl p186 (x185.1.Cuts).length c187, sl p188 (x185.1.Nodes).length c189] (sgN 2 sgNil) fun a w hF hS => ?_)
 refine wp 1 [3, 4, 6, 7, 8] hF fun a hF => ?_
 refine wpListIn_nil ?_
 exact ⟨_, x29.Members, x29.Modes, x185.1.Cuts, p186, c187, x185.1.Nodes, p188, c189, x185.2, hF.kp [3, 4, 6, 7, 8], hS.sp [3, 2, 4, 5, 0, 1, 6, 7, 10, 11, 12, 13] [2, 3, 4, 5, 6, 7, 8, 9, 10, 11, 0, 1, 12, 13, 14, 15], H⟩
 refine cond_f hF (by kernel_rfl) hb ?_
 refine wpIn_region_lit ?_
 refine wc (wls hF hS 3 0 6 fun a hF => ?_)
 refine bind_split H (fun x190 hx190 H => ?_)
 have hgx1900 := hS.segs 1 rfl
 refine wc (wcS 1 [1, 0, 2, 3, 4, 5, 6, 7, 8, 9, 10, 11] hF hS (fun hS => C_config_State_speak_x N x29.Nodes x29.Modes (T_api_Cmd.mk a3.Kind 1 a3.Shard a3.Node a3.Mode a3.Key) [vi x29.Pool] (flat [eb 4 x29.Members, sl p30 ((x29.Maps.getD 0 zm_api_Map).Cuts).length c31, sl p32 ((x29.Maps.getD 0 zm_api_Map).Nodes).length c33, sl p34 ((x29.Maps.getD 1 zm_api_Map).Cuts).length c35, sl p36 ((x29.Maps.getD 1 zm_api_Map).Nodes).length c37, sl p38 ((x29.Maps.getD 2 zm_api_Map).Cuts).length c39, sl p40 ((x29.Maps.getD 2 zm_api_Map).Nodes).length c41, sl p42 ((x29.Maps.getD 3 zm_api_Map).Cuts).length c43, sl p44 ((x29.Maps.getD 3 zm_api_Map).Nodes).length c45]) b46 ⟨rfl, (hS.regr 0 [(false, 2), (true, 9), (false, 1)] rfl).pick [9] (by kernel_rfl)⟩ hx190) ?_)
 rintro _ κ w a ⟨rfl, h2⟩ hF hB
 have hS := (hB _ _ h2).unregr 0 [(false, 2), (true, 9), (false, 1)] (s' := [si x29.Pool, si x29.Nodes, eb 4 x29.Members, sl p30 ((x29.Maps.getD 0 zm_api_Map).Cuts).length c31, sl p32 ((x29.Maps.getD 0 zm_api_Map).Nodes).length c33, sl p34 ((x29.Maps.getD 1 zm_api_Map).Cuts).length c35, sl p36 ((x29.Maps.getD 1 zm_api_Map).Nodes).length c37, sl p38 ((x29.Maps.getD 2 zm_api_Map).Cuts).length c39, sl p40 ((x29.Maps.getD 2 zm_api_Map).Nodes).length c41, sl p42 ((x29.Maps.getD 3 zm_api_Map).Cuts).length c43, sl p44 ((x29.Maps.getD 3 zm_api_Map).Nodes).length c45, ei 21 x190.2]) hgx1900 rfl rfl
 refine wp 1 [3, 4, 6, 7, 8] hF fun a hF => ?_
 refine wpListIn_nil ?_
 exact ⟨_, x29.Members, x190.2, (x29.Maps.getD 1 zm_api_Map).Cuts, p34, c35, (x29.Maps.getD 1 zm_api_Map).Nodes, p36, c37, x190.1, hF.kp [3, 4, 6, 7, 8], hS.sp [0, 1, 2, 3, 6, 7, 4, 5, 8, 9, 10, 11] [1, 2, 3, 4, 5, 6, 7, 8, 9, 0, 4, 5, 11, 12, 13, 14], H⟩
 rintro a w ⟨κ, y148, y149, y150, p151, c152, y153, p154, c155, y156, hF, hS, H⟩
 unfold M.config_Apply_x_k2 at H
 refine wpIn_seq_k fun K157 hK157 => ?_
 refine wpIn_seq_k fun K158 hK158 => ?_
 refine wpIn_region_lit ?_
 refine wp 2 [3, 4, 6, 7, 8, 126] hF fun a hF => ?_
 refine wpListIn_nil ?_
 refine hK158 _ _ ?_
 refine bif_split H (fun hb H => ?_) (fun hb H => ?_)
 refine cond_t hF (by kernel_rfl) hb ?_
 refine wpIn_seq_k fun K159 hK159 => ?_
 refine wpIn_region_lit ?_
 refine wp 2 [4, 127, 128] hF fun a hF => ?_
 refine wc (wst hF hS 2 0 12 [si 0, si 0, eb 4 (List.replicate 4 false), sl none 0 0, sl none 0 0, sl none 0 0, sl none 0 0, sl none 0 0, sl none 0 0, sl none 0 0, sl none 0 0, ei 21 (List.replicate 21 0)] (sgN 2 (sgEnc List.length_replicate (sgN 8 (sgEnc List.length_replicate sgNil)))) fun a w hF hS => ?_)
 refine wp 1 [4, 5] hF fun a hF => ?_
 refine wpListIn_nil ?_
 refine hK159 _ _ ?_
 refine wpIn_ret ?_
 have hS' := hS
 have hS := hS.addNil 9 1
 have hS := hS.addNil 3 1
 have hS := hS.addNil 9 1
 have hS := hS.addNil 3 1
 have hS := hS.addNil 9 1
 have hS := hS.addNil 3 1
 have hS := hS.addNil 9 1
 have hS := hS.addNil 3 1
 cases H
 exact (ret_done hF hS (res2 Try.results41 (rvs hF hS' 2 0 12) (rvt hF)) ⟨none, 0, none, 0, none, 0, none, 0, none, 0, none, 0, none, 0, none, 0, rfl, (hS.pick [12, 13, 14, 13, 14, 13, 14, 13, 14, 15] (by kernel_rfl)).ro, hS.newC [7, 6, 5, 4, 3, 2, 1, 0] (by decide) (by kernel_rfl)⟩)
 refine cond_f hF (by kernel_rfl) hb ?_
 refine wpIn_skip ?_
 refine hK157 _ _ ?_
 refine wpIn_seq_k fun K160 hK160 => ?_
 refine wpIn_region_lit ?_
 refine wp 1 [4, 6, 7, 129] hF fun a hF => ?_
 refine wc (wld hF hS 3 1 0 fun a hF => ?_)
 refine wc (wls hF hS 1 0 2 fun a hF => ?_)
 refine wp 2 [4, 6, 131, 133] hF fun a hF => ?_
 refine wc (wst hF hS 0 5 2 [sl p151 (y150).length c152, sl p154 (y153).length c155] (sgN 2 sgNil) fun a w hF hS => ?_)
 refine wpListIn_nil ?_
 refine hK160 _ _ ?_
 refine wpIn_seq_k fun K161 hK161 => ?_
 refine wpIn_region_lit ?_
 refine wc (wls hF hS 0 0 12 fun a hF => ?_)
 refine wc (wst hF hS 2 0 12 [si x29.Pool, si x29.Nodes, eb 4 y148, sl p30 ((x29.Maps.getD 0 zm_api_Map).Cuts).length c31, sl p32 ((x29.Maps.getD 0 zm_api_Map).Nodes).length c33, sl p151 (y150).length c152, sl p154 (y153).length c155, sl p38 ((x29.Maps.getD 2 zm_api_Map).Cuts).length c39, sl p40 ((x29.Maps.getD 2 zm_api_Map).Nodes).length c41, sl p42 ((x29.Maps.getD 3 zm_api_Map).Cuts).length c43, sl p44 ((x29.Maps.getD 3 zm_api_Map).Nodes).length c45, ei 21 y149] (sgN 2 (sgEnc (hS.get 0 rfl) (sgN 8 (sgEnc (hS.get 9 rfl) sgNil)))) fun a w hF hS => ?_)
 refine wp 1 [4, 5] hF fun a hF => ?_
 refine wpListIn_nil ?_
 refine hK161 _ _ ?_
 refine wpIn_ret ?_
 have hS' := hS
 cases H
 exact (ret_done hF hS (res2 Try.results41 (rvs hF hS' 2 0 12) (rvt hF)) ⟨p30, c31, p32, c33, p151, c152, p154, c155, p38, c39, p40, c41, p42, c43, p44, c45, rfl, (hS.pick [0, 1, 2, 10, 11, 5, 6, 7, 8, 9] (by kernel_rfl)).ro, hS.newC [6, 7, 4, 5, 8, 9, 10, 11] (by decide) (by kernel_rfl)⟩)
 refine bif_split H (fun hb H => ?_) (fun _ H => ?_)
 have he : a3.DC = 2 := eq_of_beq hb
 try rw [he] at hF
 try rw [he] at hS
 refine wpIn_region_lit ?_
 refine wp 1 [3, 4, 6, 65] hF fun a hF => ?_
 refine wc (wld hF hS 2 1 0 fun a hF => ?_)
 refine wp 2 [3, 4, 6, 68] hF fun a hF => ?_
 refine wc (wls hF hS 0 7 2 fun a hF => ?_)
 refine wc (wal hF hS [sl none 0 0, sl none 0 0] (sgN 2 sgNil) fun b191 a w hF hS => ?_)
 refine wc (wst hF hS 0 0 2 [sl p38 ((x29.Maps.getD 2 zm_api_Map).Cuts).length c39, sl p40 ((x29.Maps.getD 2 zm_api_Map).Nodes).length c41] (sgN 2 sgNil) fun a w hF hS => ?_)
 refine wp 1 [3, 4, 6, 7, 8] hF fun a hF => ?_
 refine wpListIn_nil ?_
 refine hK102 _ _ ?_
 refine seq_join (fun a w => ∃ (κ : Gh) (y192 : List Bool) (y193 : List Int) (y194 : List ByteArray) (p195 : Option Addr) (c196 : Nat) (y197 : List Int) (p198 : Option Addr) (c199 : Nat) (y200 : Int), Fr (135) [] [(3, pt b26 0), (4, pt b27 0), (6, pt b46 0), (7, pt b191 0), (8, vi y200)] a ∧ SS [] κ0 w0 κ w [.box b46 56 [si x29.Pool, si x29.Nodes, eb 4 y192, sl p30 ((x29.Maps.getD 0 zm_api_Map).Cuts).length c31, sl p32 ((x29.Maps.getD 0 zm_api_Map).Nodes).length c33, sl p34 ((x29.Maps.getD 1 zm_api_Map).Cuts).length c35, sl p36 ((x29.Maps.getD 1 zm_api_Map).Nodes).length c37, sl p38 ((x29.Maps.getD 2 zm_api_Map).Cuts).length c39, sl p40 ((x29.Maps.getD 2 zm_api_Map).Nodes).length c41, sl p42 ((x29.Maps.getD 3 zm_api_Map).Cuts).length c43, sl p44 ((x29.Maps.getD 3 zm_api_Map).Nodes).length c45, ei 21 y193], .box b191 25 [sl p195 (y194).length c196, sl p198 (y197).length c199], .box b27 56 [si 0, si 0, eb 4 (List.replicate 4 false), sl none 0 0, sl none 0 0, sl none 0 0, sl none 0 0, sl none 0 0, sl none 0 0, sl none 0 0, sl none 0 0, ei 21 (List.replicate 21 0)], .box b26 58 [si a3.Kind, si 2, si a3.Shard, si a3.Node, si a3.Mode, sg a3.Key], .tok p195 9 1 (y194).length c196, .tok p198 3 1 (y197).length c199, .tok p30 9 1 ((x29.Maps.getD 0 zm_api_Map).Cuts).length c31, .tok p32 3 1 ((x29.Maps.getD 0 zm_api_Map).Nodes).length c33, .tok p34 9 1 ((x29.Maps.getD 1 zm_api_Map).Cuts).length c35, .tok p36 3 1 ((x29.Maps.getD 1 zm_api_Map).Nodes).length c37, .tok p42 9 1 ((x29.Maps.getD 3 zm_api_Map).Cuts).length c43, .tok p44 3 1 ((x29.Maps.getD 3 zm_api_Map).Nodes).length c45] [ml y192 4, Ro.mp fStr.ty p30 c31 ((x29.Maps.getD 0 zm_api_Map).Cuts), Ro.mp (fInt .i64).ty p32 c33 ((x29.Maps.getD 0 zm_api_Map).Nodes), Ro.mp fStr.ty p34 c35 ((x29.Maps.getD 1 zm_api_Map).Cuts), Ro.mp (fInt .i64).ty p36 c37 ((x29.Maps.getD 1 zm_api_Map).Nodes), Ro.mp fStr.ty p38 c39 ((x29.Maps.getD 2 zm_api_Map).Cuts), Ro.mp (fInt .i64).ty p40 c41 ((x29.Maps.getD 2 zm_api_Map).Nodes), Ro.mp fStr.ty p42 c43 ((x29.Maps.getD 3 zm_api_Map).Cuts), Ro.mp (fInt .i64).ty p44 c45 ((x29.Maps.getD 3 zm_api_Map).Nodes), ml y193 21, Ro.mp fStr.ty p195 c196 y194, Ro.mp (fInt .i64).ty p198 c199 y197, ml (List.replicate 4 false) 4, Ro.mp fStr.ty none 0 ([] : List ByteArray), Ro.mp (fInt .i64).ty none 0 ([] : List Int), ml (List.replicate 21 0) 21] ∧ M.config_Apply_x_k3 N a3 x29 y192 y193 y194 y197 y200 = some r) ?_ ?_
 refine wpIn_seq_k fun K206 hK206 => ?_
 refine wpIn_region_lit ?_
 refine wp 1 [3, 4, 6, 7, 8, 70] hF fun a hF => ?_
 refine wc (wld hF hS 3 0 0 fun a hF => ?_)
 refine wpListIn_nil ?_
 refine hK206 _ _ ?_
 refine wpIn_block ?_
 refine wpIn_seq_k fun K207 hK207 => ?_
 refine wpIn_region_lit ?_
 refine wp 2 [3, 4, 6, 7, 8, 71, 74] hF fun a hF => ?_
 refine wpListIn_nil ?_
 refine hK207 _ _ ?_
 refine bif_split H (fun hb H => ?_) (fun hb H => ?_)
 refine cond_t hF (by kernel_rfl) hb ?_
 refine wpIn_seq_k fun K208 hK208 => ?_
 refine wpIn_seq_k fun K209 hK209 => ?_
 refine wpIn_region_lit ?_
 refine wc (wls hF hS 1 0 12 fun a hF => ?_)
 have hS := hS.add (m := Arr.mp t_api_Map (flat [sl p30 ((x29.Maps.getD 0 zm_api_Map).Cuts).length c31, sl p32 ((x29.Maps.getD 0 zm_api_Map).Nodes).length c33, sl p34 ((x29.Maps.getD 1 zm_api_Map).Cuts).length c35, sl p36 ((x29.Maps.getD 1 zm_api_Map).Nodes).length c37, sl p38 ((x29.Maps.getD 2 zm_api_Map).Cuts).length c39, sl p40 ((x29.Maps.getD 2 zm_api_Map).Nodes).length c41, sl p42 ((x29.Maps.getD 3 zm_api_Map).Cuts).length c43, sl p44 ((x29.Maps.getD 3 zm_api_Map).Nodes).length c45]) 4 [(T_api_Map.mk ((x29.Maps.getD 0 zm_api_Map).Cuts) ((x29.Maps.getD 0 zm_api_Map).Nodes)), (T_api_Map.mk ((x29.Maps.getD 1 zm_api_Map).Cuts) ((x29.Maps.getD 1 zm_api_Map).Nodes)), (T_api_Map.mk ((x29.Maps.getD 2 zm_api_Map).Cuts) ((x29.Maps.getD 2 zm_api_Map).Nodes)), (T_api_Map.mk ((x29.Maps.getD 3 zm_api_Map).Cuts) ((x29.Maps.getD 3 zm_api_Map).Nodes))]) (ArrP.of4 (t := t_api_Map) (show (t_api_Map).rep _ _ (flat [sl p30 ((x29.Maps.getD 0 zm_api_Map).Cuts).length c31, sl p32 ((x29.Maps.getD 0 zm_api_Map).Nodes).length c33]) (T_api_Map.mk ((x29.Maps.getD 0 zm_api_Map).Cuts) ((x29.Maps.getD 0 zm_api_Map).Nodes)) from ⟨(p30, c31, p32, c33), rfl, (hS.pick [1, 2] (by kernel_rfl)).ro⟩) (show (t_api_Map).rep _ _ (flat [sl p34 ((x29.Maps.getD 1 zm_api_Map).Cuts).length c35, sl p36 ((x29.Maps.getD 1 zm_api_Map).Nodes).length c37]) (T_api_Map.mk ((x29.Maps.getD 1 zm_api_Map).Cuts) ((x29.Maps.getD 1 zm_api_Map).Nodes)) from ⟨(p34, c35, p36, c37), rfl, (hS.pick [3, 4] (by kernel_rfl)).ro⟩) (show (t_api_Map).rep _ _ (flat [sl p38 ((x29.Maps.getD 2 zm_api_Map).Cuts).length c39, sl p40 ((x29.Maps.getD 2 zm_api_Map).Nodes).length c41]) (T_api_Map.mk ((x29.Maps.getD 2 zm_api_Map).Cuts) ((x29.Maps.getD 2 zm_api_Map).Nodes)) from ⟨(p38, c39, p40, c41), rfl, (hS.pick [5, 6] (by kernel_rfl)).ro⟩) (show (t_api_Map).rep _ _ (flat [sl p42 ((x29.Maps.getD 3 zm_api_Map).Cuts).length c43, sl p44 ((x29.Maps.getD 3 zm_api_Map).Nodes).length c45]) (T_api_Map.mk ((x29.Maps.getD 3 zm_api_Map).Cuts) ((x29.Maps.getD 3 zm_api_Map).Nodes)) from ⟨(p42, c43, p44, c45), rfl, (hS.pick [7, 8] (by kernel_rfl)).ro⟩) (show (flat [sl p30 ((x29.Maps.getD 0 zm_api_Map).Cuts).length c31, sl p32 ((x29.Maps.getD 0 zm_api_Map).Nodes).length c33]) ++ ((flat [sl p34 ((x29.Maps.getD 1 zm_api_Map).Cuts).length c35, sl p36 ((x29.Maps.getD 1 zm_api_Map).Nodes).length c37]) ++ ((flat [sl p38 ((x29.Maps.getD 2 zm_api_Map).Cuts).length c39, sl p40 ((x29.Maps.getD 2 zm_api_Map).Nodes).length c41]) ++ (flat [sl p42 ((x29.Maps.getD 3 zm_api_Map).Cuts).length c43, sl p44 ((x29.Maps.getD 3 zm_api_Map).Nodes).length c45]))) = _ from by kernel_rfl))
 refine bind_split H (fun x210 hx210 H => ?_)
 refine wc (wo_callP hF hS (by kernel_rfl) (by kernel_rfl) (C_config_Count N hS.fresh (T_config_State.mk x29.Pool x29.Nodes x29.Members [(T_api_Map.mk ((x29.Maps.getD 0 zm_api_Map).Cuts) ((x29.Maps.getD 0 zm_api_Map).Nodes)), (T_api_Map.mk ((x29.Maps.getD 1 zm_api_Map).Cuts) ((x29.Maps.getD 1 zm_api_Map).Nodes)), (T_api_Map.mk ((x29.Maps.getD 2 zm_api_Map).Cuts) ((x29.Maps.getD 2 zm_api_Map).Nodes)), (T_api_Map.mk ((x29.Maps.getD 3 zm_api_Map).Cuts) ((x29.Maps.getD 3 zm_api_Map).Nodes))] x29.Modes) (flat [sl p30 ((x29.Maps.getD 0 zm_api_Map).Cuts).length c31, sl p32 ((x29.Maps.getD 0 zm_api_Map).Nodes).length c33, sl p34 ((x29.Maps.getD 1 zm_api_Map).Cuts).length c35, sl p36 ((x29.Maps.getD 1 zm_api_Map).Nodes).length c37, sl p38 ((x29.Maps.getD 2 zm_api_Map).Cuts).length c39, sl p40 ((x29.Maps.getD 2 zm_api_Map).Nodes).length c41, sl p42 ((x29.Maps.getD 3 zm_api_Map).Cuts).length c43, sl p44 ((x29.Maps.getD 3 zm_api_Map).Nodes).length c45]) ((hS.pick [1, 0, 10] (by kernel_rfl)).ro) hx210) ?_)
 rintro _ κ w a ⟨rfl, hR, hN⟩ hF hS hO
 refine wp 1 [3, 4, 6, 7, 8, 78] hF fun a hF => ?_
 refine wpListIn_nil ?_
 refine hK209 _ _ ?_
 refine bif_split H (fun hb H => ?_) (fun hb H => ?_)
 refine cond_t hF (by kernel_rfl) hb ?_
 refine wpIn_seq_k fun K211 hK211 => ?_
 refine wpIn_region_lit ?_
 refine wp 1 [4, 79] hF fun a hF => ?_
 refine wc (wst hF hS 2 0 12 [si 0, si 0, eb 4 (List.replicate 4 false), sl none 0 0, sl none 0 0, sl none 0 0, sl none 0 0, sl none 0 0, sl none 0 0, sl none 0 0, sl none 0 0, ei 21 (List.replicate 21 0)] (sgN 2 (sgEnc List.length_replicate (sgN 8 (sgEnc List.length_replicate sgNil)))) fun a w hF hS => ?_)
 refine wp 1 [4, 5] hF fun a hF => ?_
 refine wpListIn_nil ?_
 refine hK211 _ _ ?_
 refine wpIn_ret ?_
 have hS' := hS
 have hS := hS.addNil 9 1
 have hS := hS.addNil 3 1
 have hS := hS.addNil 9 1
 have hS := hS.addNil 3 1
 have hS := hS.addNil 9 1
 have hS := hS.addNil 3 1
 have hS := hS.addNil 9 1
 have hS := hS.addNil 3 1
 cases H
 exact (ret_done hF hS (res2 Try.results41 (rvs hF hS' 2 0 12) (rvt hF)) ⟨none, 0, none, 0, none, 0, none, 0, none, 0, none, 0, none, 0, none, 0, rfl, (hS.pick [11, 12, 13, 12, 13, 12, 13, 12, 13, 14] (by kernel_rfl)).ro, hS.newC [7, 6, 5, 4, 3, 2, 1, 0] (by decide) (by kernel_rfl)⟩)
 refine cond_f hF (by kernel_rfl) hb ?_
 refine wpIn_skip ?_
 refine hK208 _ _ ?_
 refine wpIn_seq_k fun K212 hK212 => ?_
 refine wpIn_region_lit ?_
 refine wp 1 [3, 4, 6, 7, 8, 80] hF fun a hF => ?_
 refine wc (wld hF hS 3 1 0 fun a hF => ?_)
 refine wl_pure (L' := [(3, pt b26 0), (4, pt b27 0), (6, pt b46 0), (7, pt b191 0), (8, vi 0), (81, vi 2), (82, pt b46 2)]) 1 [3, 4, 6, 7, 8, 81, 82] hF (by kernel_rfl) fun a hF => ?_
 refine bind_split H (fun x213 hx213 H => ?_)
 refine wc (wo_indexArr hF (by kernel_rfl) (E := 4) (sz := 1) (n := 4) rfl rfl (i := 2) rfl (idx_lt hx213 (hS.get 1 rfl)) (by kernel_rfl) (by kernel_rfl) fun a hF => ?_)
 refine wc (wo_storeA1 (t := fBool) (y := false) (v := vb false) hF hS (by kernel_rfl) 1 2 (s' := [si x29.Pool, si x29.Nodes, eb 4 (List.set x29.Members (Int.toNat 2) false), sl p30 ((x29.Maps.getD 0 zm_api_Map).Cuts).length c31, sl p32 ((x29.Maps.getD 0 zm_api_Map).Nodes).length c33, sl p34 ((x29.Maps.getD 1 zm_api_Map).Cuts).length c35, sl p36 ((x29.Maps.getD 1 zm_api_Map).Nodes).length c37, sl p38 ((x29.Maps.getD 2 zm_api_Map).Cuts).length c39, sl p40 ((x29.Maps.getD 2 zm_api_Map).Nodes).length c41, sl p42 ((x29.Maps.getD 3 zm_api_Map).Cuts).length c43, sl p44 ((x29.Maps.getD 3 zm_api_Map).Nodes).length c45, ei 21 x29.Modes]) (C' := [.box b191 25 [sl p38 ((x29.Maps.getD 2 zm_api_Map).Cuts).length c39, sl p40 ((x29.Maps.getD 2 zm_api_Map).Nodes).length c41], .box b46 56 [si x29.Pool, si x29.Nodes, eb 4 (List.set x29.Members (Int.toNat 2) false), sl p30 ((x29.Maps.getD 0 zm_api_Map).Cuts).length c31, sl p32 ((x29.Maps.getD 0 zm_api_Map).Nodes).length c33, sl p34 ((x29.Maps.getD 1 zm_api_Map).Cuts).length c35, sl p36 ((x29.Maps.getD 1 zm_api_Map).Nodes).length c37, sl p38 ((x29.Maps.getD 2 zm_api_Map).Cuts).length c39, sl p40 ((x29.Maps.getD 2 zm_api_Map).Nodes).length c41, sl p42 ((x29.Maps.getD 3 zm_api_Map).Cuts).length c43, sl p44 ((x29.Maps.getD 3 zm_api_Map).Nodes).length c45, ei 21 x29.Modes], .box b27 56 [si 0, si 0, eb 4 (List.replicate 4 false), sl none 0 0, sl none 0 0, sl none 0 0, sl none 0 0, sl none 0 0, sl none 0 0, sl none 0 0, sl none 0 0, ei 21 (List.replicate 21 0)], .box b26 58 [si a3.Kind, si 2, si a3.Shard, si a3.Node, si a3.Mode, sg a3.Key], .tok p30 9 1 ((x29.Maps.getD 0 zm_api_Map).Cuts).length c31, .tok p32 3 1 ((x29.Maps.getD 0 zm_api_Map).Nodes).length c33, .tok p34 9 1 ((x29.Maps.getD 1 zm_api_Map).Cuts).length c35, .tok p36 3 1 ((x29.Maps.getD 1 zm_api_Map).Nodes).length c37, .tok p38 9 1 ((x29.Maps.getD 2 zm_api_Map).Cuts).length c39, .tok p40 3 1 ((x29.Maps.getD 2 zm_api_Map).Nodes).length c41, .tok p42 9 1 ((x29.Maps.getD 3 zm_api_Map).Cuts).length c43, .tok p44 3 1 ((x29.Maps.getD 3 zm_api_Map).Nodes).length c45]) rfl rfl (by kernel_rfl) rfl rfl hx213 rfl rfl (by kernel_rfl) (by kernel_rfl) (by kernel_rfl) (by kernel_rfl) fun a w hF hS => ?_)
 have hS := hS.add (m := ml (List.set x29.Members (Int.toNat 2) false) 4) (List.length_set.trans (hS.get 1 rfl))
 refine wpListIn_nil ?_
 refine hK212 _ _ ?_
 refine wpIn_seq_k fun K214 hK214 => ?_
 refine wpIn_region_lit ?_
 refine wp 1 [3, 4, 6, 7, 8, 84] hF fun a hF => ?_
 refine wc (wst hF hS 0 0 2 [sl none 0 0, sl none 0 0] (sgN 2 sgNil) fun a w hF hS => ?_)
 refine wpListIn_nil ?_
 refine hK214 _ _ ?_
 refine wpIn_region_lit ?_
 refine wp 1 [3, 4, 6, 7, 8, 85] hF fun a hF => ?_
 refine wc (wld hF hS 3 1 0 fun a hF => ?_)
 refine bind_split H (fun x215 hx215 H => ?_)
 have hgx2150 := hS.segs 1 rfl
 refine wc (wcS 1 [1, 0, 2, 3, 4, 5, 6, 7, 8, 9, 10, 11] hF hS (fun hS => C_config_State_both_x N x29.Modes 2 (flat [si x29.Pool, si x29.Nodes, eb 4 (List.set x29.Members (Int.toNat 2) false), sl p30 ((x29.Maps.getD 0 zm_api_Map).Cuts).length c31, sl p32 ((x29.Maps.getD 0 zm_api_Map).Nodes).length c33, sl p34 ((x29.Maps.getD 1 zm_api_Map).Cuts).length c35, sl p36 ((x29.Maps.getD 1 zm_api_Map).Nodes).length c37, sl p38 ((x29.Maps.getD 2 zm_api_Map).Cuts).length c39, sl p40 ((x29.Maps.getD 2 zm_api_Map).Nodes).length c41, sl p42 ((x29.Maps.getD 3 zm_api_Map).Cuts).length c43, sl p44 ((x29.Maps.getD 3 zm_api_Map).Nodes).length c45]) b46 ⟨rfl, (hS.regr 0 [(true, 11), (false, 1)] rfl).pick [11] (by kernel_rfl)⟩ hx215) ?_)
 rintro _ κ w a ⟨rfl, h2⟩ hF hB
 have hS := (hB _ _ h2).unregr 0 [(true, 11), (false, 1)] (s' := [si x29.Pool, si x29.Nodes, eb 4 (List.set x29.Members (Int.toNat 2) false), sl p30 ((x29.Maps.getD 0 zm_api_Map).Cuts).length c31, sl p32 ((x29.Maps.getD 0 zm_api_Map).Nodes).length c33, sl p34 ((x29.Maps.getD 1 zm_api_Map).Cuts).length c35, sl p36 ((x29.Maps.getD 1 zm_api_Map).Nodes).length c37, sl p38 ((x29.Maps.getD 2 zm_api_Map).Cuts).length c39, sl p40 ((x29.Maps.getD 2 zm_api_Map).Nodes).length c41, sl p42 ((x29.Maps.getD 3 zm_api_Map).Cuts).length c43, sl p44 ((x29.Maps.getD 3 zm_api_Map).Nodes).length c45, ei 21 x215]) hgx2150 rfl rfl
 refine wpListIn_nil ?_
 have hS := hS.addNil 9 1
 have hS := hS.addNil 3 1
 exact ⟨_, (List.set x29.Members (Int.toNat 2) false), x215, ([] : List ByteArray), none, 0, ([] : List Int), none, 0, 0, hF.kp [3, 4, 6, 7, 8], hS.sp [2, 3, 4, 5, 1, 0, 6, 7, 8, 9, 12, 13] [1, 4, 5, 6, 7, 8, 9, 10, 11, 0, 14, 15, 13, 14, 15, 16], H⟩
 refine cond_f hF (by kernel_rfl) hb ?_
 refine wpIn_seq_k fun K216 hK216 => ?_
 refine wpIn_region_lit ?_
 refine wp 2 [3, 4, 6, 7, 71, 88] hF fun a hF => ?_
 refine wpListIn_nil ?_
 refine hK216 _ _ ?_
 refine bif_split H (fun hb H => ?_) (fun hb H => ?_)
 refine cond_t hF (by kernel_rfl) hb ?_
 refine wpIn_region_lit ?_
 refine wc (wls hF hS 0 0 2 fun a hF => ?_)
 refine wp 1 [3, 4, 6, 7, 91, 92] hF fun a hF => ?_
 refine wc (wld hF hS 1 1 0 fun a hF => ?_)
 refine wp 1 [3, 4, 6, 7, 91, 93, 94] hF fun a hF => ?_
 refine wc (wld hF hS 3 2 0 fun a hF => ?_)
 refine wp 1 [3, 4, 6, 7, 91, 93, 95, 96] hF fun a hF => ?_
 refine wc (wld hF hS 3 5 0 fun a hF => ?_)
 refine bind_split H (fun x217 hx217 H => ?_)
 refine wc (wo_callP hF hS (by kernel_rfl) (by kernel_rfl) (C_span_Split N hS.fresh (T_api_Map.mk ((x29.Maps.getD 2 zm_api_Map).Cuts) ((x29.Maps.getD 2 zm_api_Map).Nodes)) x29.Nodes a3.Shard a3.Key p38 c39 p40 c41 ((hS.pick [5, 6] (by kernel_rfl)).ro) hx217) ?_)
 rintro _ κ w a ⟨p218, c219, p220, c221, rfl, hR, hN⟩ hF hS hO
 have hS := hS.adds hR
 have hS := hS.addC hO hN
 refine wp 3 [3, 4, 6, 7, 99, 100] hF fun a hF => ?_
 refine wc (wst hF hS 2 0 2 [sl p218 (x217.1.Cuts).length c219, sl p220 (x217.1.Nodes).length c221] (sgN 2 sgNil) fun a w hF hS => ?_)
 refine wp 1 [3, 4, 6, 7, 8] hF fun a hF => ?_
 refine wpListIn_nil ?_
 exact ⟨_, x29.Members, x29.Modes, x217.1.Cuts, p218, c219, x217.1.Nodes, p220, c221, x217.2, hF.kp [3, 4, 6, 7, 8], hS.sp [3, 2, 4, 5, 0, 1, 6, 7, 8, 9, 12, 13] [2, 3, 4, 5, 6, 7, 8, 9, 10, 11, 0, 1, 12, 13, 14, 15], H⟩
 refine cond_f hF (by kernel_rfl) hb ?_
 refine wpIn_seq_k fun K222 hK222 => ?_
 refine wpIn_region_lit ?_
 refine wp 2 [3, 4, 6, 7, 71, 101] hF fun a hF => ?_
 refine wpListIn_nil ?_
 refine hK222 _ _ ?_
 refine bif_split H (fun hb H => ?_) (fun hb H => ?_)
 refine cond_t hF (by kernel_rfl) hb ?_
 refine wpIn_region_lit ?_
 refine wc (wls hF hS 0 0 2 fun a hF => ?_)
 refine wp 1 [3, 4, 6, 7, 104, 105] hF fun a hF => ?_
 refine wc (wld hF hS 1 1 0 fun a hF => ?_)
 refine wp 1 [3, 4, 6, 7, 104, 106, 107] hF fun a hF => ?_
 refine wc (wld hF hS 3 2 0 fun a hF => ?_)
 refine bind_split H (fun x223 hx223 H => ?_)
 refine wc (wo_callP hF hS (by kernel_rfl) (by kernel_rfl) (C_span_Merge N hS.fresh (T_api_Map.mk ((x29.Maps.getD 2 zm_api_Map).Cuts) ((x29.Maps.getD 2 zm_api_Map).Nodes)) x29.Nodes a3.Shard p38 c39 p40 c41 ((hS.pick [5, 6] (by kernel_rfl)).ro) hx223) ?_)
 rintro _ κ w a ⟨p224, c225, p226, c227, rfl, hR, hN⟩ hF hS hO
 have hS := hS.adds hR
 have hS := hS.addC hO hN
 refine wp 3 [3, 4, 6, 7, 110, 111] hF fun a hF => ?_
 refine wc (wst hF hS 2 0 2 [sl p224 (x223.1.Cuts).length c225, sl p226 (x223.1.Nodes).length c227] (sgN 2 sgNil) fun a w hF hS => ?_)
 refine wp 1 [3, 4, 6, 7, 8] hF fun a hF => ?_
 refine wpListIn_nil ?_
 exact ⟨_, x29.Members, x29.Modes, x223.1.Cuts, p224, c225, x223.1.Nodes, p226, c227, x223.2, hF.kp [3, 4, 6, 7, 8], hS.sp [3, 2, 4, 5, 0, 1, 6, 7, 8, 9, 12, 13] [2, 3, 4, 5, 6, 7, 8, 9, 10, 11, 0, 1, 12, 13, 14, 15], H⟩
 refine cond_f hF (by kernel_rfl) hb ?_
 refine wpIn_seq_k fun K228 hK228 => ?_
 refine wpIn_region_lit ?_
 refine wp 2 [3, 4, 6, 7, 112] hF fun a hF => ?_
 refine wpListIn_nil ?_
 refine hK228 _ _ ?_
 refine bif_split H (fun hb H => ?_) (fun hb H => ?_)
 refine cond_t hF (by kernel_rfl) hb ?_
 refine wpIn_region_lit ?_
 refine wc (wls hF hS 0 0 2 fun a hF => ?_)
 refine wp 1 [3, 4, 6, 7, 115, 116] hF fun a hF => ?_
 refine wc (wld hF hS 1 1 0 fun a hF => ?_)
 refine wp 1 [3, 4, 6, 7, 115, 117, 118] hF fun a hF => ?_
 refine wc (wld hF hS 3 2 0 fun a hF => ?_)
 refine wp 1 [3, 4, 6, 7, 115, 117, 119, 120] hF fun a hF => ?_
 refine wc (wld hF hS 3 3 0 fun a hF => ?_)
 refine bind_split H (fun x229 hx229 H => ?_)
 refine wc (wo_callP hF hS (by kernel_rfl) (by kernel_rfl) (C_span_Move N hS.fresh (T_api_Map.mk ((x29.Maps.getD 2 zm_api_Map).Cuts) ((x29.Maps.getD 2 zm_api_Map).Nodes)) x29.Nodes a3.Shard a3.Node p38 c39 p40 c41 ((hS.pick [5, 6] (by kernel_rfl)).ro) hx229) ?_)
 rintro _ κ w a ⟨p230, c231, p232, c233, rfl, hR, hN⟩ hF hS hO
 have hS := hS.adds hR
 have hS := hS.addC hO hN
 refine wp 3 [3, 4, 6, 7, 123, 124] hF fun a hF => ?_
 refine wc (wst hF hS 2 0 2 [sl p230 (x229.1.Cuts).length c231, sl p232 (x229.1.Nodes).length c233] (sgN 2 sgNil) fun a w hF hS => ?_)
 refine wp 1 [3, 4, 6, 7, 8] hF fun a hF => ?_
 refine wpListIn_nil ?_
 exact ⟨_, x29.Members, x29.Modes, x229.1.Cuts, p230, c231, x229.1.Nodes, p232, c233, x229.2, hF.kp [3, 4, 6, 7, 8], hS.sp [3, 2, 4, 5, 0, 1, 6, 7, 8, 9, 12, 13] [2, 3, 4, 5, 6, 7, 8, 9, 10, 11, 0, 1, 12, 13, 14, 15], H⟩
 refine cond_f hF (by kernel_rfl) hb ?_
 refine wpIn_region_lit ?_
 refine wc (wls hF hS 3 0 6 fun a hF => ?_)
 refine bind_split H (fun x234 hx234 H => ?_)
 have hgx2340 := hS.segs 1 rfl
 refine wc (wcS 1 [1, 0, 2, 3, 4, 5, 6, 7, 8, 9, 10, 11] hF hS (fun hS => C_config_State_speak_x N x29.Nodes x29.Modes (T_api_Cmd.mk a3.Kind 2 a3.Shard a3.Node a3.Mode a3.Key) [vi x29.Pool] (flat [eb 4 x29.Members, sl p30 ((x29.Maps.getD 0 zm_api_Map).Cuts).length c31, sl p32 ((x29.Maps.getD 0 zm_api_Map).Nodes).length c33, sl p34 ((x29.Maps.getD 1 zm_api_Map).Cuts).length c35, sl p36 ((x29.Maps.getD 1 zm_api_Map).Nodes).length c37, sl p38 ((x29.Maps.getD 2 zm_api_Map).Cuts).length c39, sl p40 ((x29.Maps.getD 2 zm_api_Map).Nodes).length c41, sl p42 ((x29.Maps.getD 3 zm_api_Map).Cuts).length c43, sl p44 ((x29.Maps.getD 3 zm_api_Map).Nodes).length c45]) b46 ⟨rfl, (hS.regr 0 [(false, 2), (true, 9), (false, 1)] rfl).pick [9] (by kernel_rfl)⟩ hx234) ?_)
 rintro _ κ w a ⟨rfl, h2⟩ hF hB
 have hS := (hB _ _ h2).unregr 0 [(false, 2), (true, 9), (false, 1)] (s' := [si x29.Pool, si x29.Nodes, eb 4 x29.Members, sl p30 ((x29.Maps.getD 0 zm_api_Map).Cuts).length c31, sl p32 ((x29.Maps.getD 0 zm_api_Map).Nodes).length c33, sl p34 ((x29.Maps.getD 1 zm_api_Map).Cuts).length c35, sl p36 ((x29.Maps.getD 1 zm_api_Map).Nodes).length c37, sl p38 ((x29.Maps.getD 2 zm_api_Map).Cuts).length c39, sl p40 ((x29.Maps.getD 2 zm_api_Map).Nodes).length c41, sl p42 ((x29.Maps.getD 3 zm_api_Map).Cuts).length c43, sl p44 ((x29.Maps.getD 3 zm_api_Map).Nodes).length c45, ei 21 x234.2]) hgx2340 rfl rfl
 refine wp 1 [3, 4, 6, 7, 8] hF fun a hF => ?_
 refine wpListIn_nil ?_
 exact ⟨_, x29.Members, x234.2, (x29.Maps.getD 2 zm_api_Map).Cuts, p38, c39, (x29.Maps.getD 2 zm_api_Map).Nodes, p40, c41, x234.1, hF.kp [3, 4, 6, 7, 8], hS.sp [0, 1, 2, 3, 8, 9, 4, 5, 6, 7, 10, 11] [1, 2, 3, 4, 5, 6, 7, 8, 9, 0, 6, 7, 11, 12, 13, 14], H⟩
 rintro a w ⟨κ, y192, y193, y194, p195, c196, y197, p198, c199, y200, hF, hS, H⟩
 unfold M.config_Apply_x_k3 at H
 refine wpIn_seq_k fun K201 hK201 => ?_
 refine wpIn_seq_k fun K202 hK202 => ?_
 refine wpIn_region_lit ?_
 refine wp 2 [3, 4, 6, 7, 8, 126] hF fun a hF => ?_
 refine wpListIn_nil ?_
 refine hK202 _ _ ?_
 refine bif_split H (fun hb H => ?_) (fun hb H => ?_)
 refine cond_t hF (by kernel_rfl) hb ?_
 refine wpIn_seq_k fun K203 hK203 => ?_
 refine wpIn_region_lit ?_
 refine wp 2 [4, 127, 128] hF fun a hF => ?_
 refine wc (wst hF hS 2 0 12 [si 0, si 0, eb 4 (List.replicate 4 false), sl none 0 0, sl none 0 0, sl none 0 0, sl none 0 0, sl none 0 0, sl none 0 0, sl none 0 0, sl none 0 0, ei 21 (List.replicate 21 0)] (sgN 2 (sgEnc List.length_replicate (sgN 8 (sgEnc List.length_replicate sgNil)))) fun a w hF hS => ?_)
 refine wp 1 [4, 5] hF fun a hF => ?_
 refine wpListIn_nil ?_
 refine hK203 _ _ ?_
 refine wpIn_ret ?_
 have hS' := hS
 have hS := hS.addNil 9 1
 have hS := hS.addNil 3 1
 have hS := hS.addNil 9 1
 have hS := hS.addNil 3 1
 have hS := hS.addNil 9 1
 have hS := hS.addNil 3 1
 have hS := hS.addNil 9 1
 have hS := hS.addNil 3 1
 cases H
 exact (ret_done hF hS (res2 Try.results41 (rvs hF hS' 2 0 12) (rvt hF)) ⟨none, 0, none, 0, none, 0, none, 0, none, 0, none, 0, none, 0, none, 0, rfl, (hS.pick [12, 13, 14, 13, 14, 13, 14, 13, 14, 15] (by kernel_rfl)).ro, hS.newC [7, 6, 5, 4, 3, 2, 1, 0] (by decide) (by kernel_rfl)⟩)
 refine cond_f hF (by kernel_rfl) hb ?_
 refine wpIn_skip ?_
 refine hK201 _ _ ?_
 refine wpIn_seq_k fun K204 hK204 => ?_
 refine wpIn_region_lit ?_
 refine wp 1 [4, 6, 7, 129] hF fun a hF => ?_
 refine wc (wld hF hS 3 1 0 fun a hF => ?_)
 refine wc (wls hF hS 1 0 2 fun a hF => ?_)
 refine wp 2 [4, 6, 131, 133] hF fun a hF => ?_
 refine wc (wst hF hS 0 7 2 [sl p195 (y194).length c196, sl p198 (y197).length c199] (sgN 2 sgNil) fun a w hF hS => ?_)
 refine wpListIn_nil ?_
 refine hK204 _ _ ?_
 refine wpIn_seq_k fun K205 hK205 => ?_
 refine wpIn_region_lit ?_
 refine wc (wls hF hS 0 0 12 fun a hF => ?_)
 refine wc (wst hF hS 2 0 12 [si x29.Pool, si x29.Nodes, eb 4 y192, sl p30 ((x29.Maps.getD 0 zm_api_Map).Cuts).length c31, sl p32 ((x29.Maps.getD 0 zm_api_Map).Nodes).length c33, sl p34 ((x29.Maps.getD 1 zm_api_Map).Cuts).length c35, sl p36 ((x29.Maps.getD 1 zm_api_Map).Nodes).length c37, sl p195 (y194).length c196, sl p198 (y197).length c199, sl p42 ((x29.Maps.getD 3 zm_api_Map).Cuts).length c43, sl p44 ((x29.Maps.getD 3 zm_api_Map).Nodes).length c45, ei 21 y193] (sgN 2 (sgEnc (hS.get 0 rfl) (sgN 8 (sgEnc (hS.get 9 rfl) sgNil)))) fun a w hF hS => ?_)
 refine wp 1 [4, 5] hF fun a hF => ?_
 refine wpListIn_nil ?_
 refine hK205 _ _ ?_
 refine wpIn_ret ?_
 have hS' := hS
 cases H
 exact (ret_done hF hS (res2 Try.results41 (rvs hF hS' 2 0 12) (rvt hF)) ⟨p30, c31, p32, c33, p34, c35, p36, c37, p195, c196, p198, c199, p42, c43, p44, c45, rfl, (hS.pick [0, 1, 2, 3, 4, 10, 11, 7, 8, 9] (by kernel_rfl)).ro, hS.newC [6, 7, 8, 9, 4, 5, 10, 11] (by decide) (by kernel_rfl)⟩)
 refine bif_split H (fun hb H => ?_) (fun _ H => ?_)
 have he : a3.DC = 3 := eq_of_beq hb
 try rw [he] at hF
 try rw [he] at hS
 refine wpIn_region_lit ?_
 refine wp 1 [3, 4, 6, 65] hF fun a hF => ?_
 refine wc (wld hF hS 2 1 0 fun a hF => ?_)
 refine wp 2 [3, 4, 6, 68] hF fun a hF => ?_
 refine wc (wls hF hS 0 9 2 fun a hF => ?_)
 refine wc (wal hF hS [sl none 0 0, sl none 0 0] (sgN 2 sgNil) fun b235 a w hF hS => ?_)
 refine wc (wst hF hS 0 0 2 [sl p42 ((x29.Maps.getD 3 zm_api_Map).Cuts).length c43, sl p44 ((x29.Maps.getD 3 zm_api_Map).Nodes).length c45] (sgN 2 sgNil) fun a w hF hS => ?_)
 refine wp 1 [3, 4, 6, 7, 8] hF fun a hF => ?_
 refine wpListIn_nil ?_
 refine hK102 _ _ ?_
 refine seq_join (fun a w => ∃ (κ : Gh) (y236 : List Bool) (y237 : List Int) (y238 : List ByteArray) (p239 : Option Addr) (c240 : Nat) (y241 : List Int) (p242 : Option Addr) (c243 : Nat) (y244 : Int), Fr (135) [] [(3, pt b26 0), (4, pt b27 0), (6, pt b46 0), (7, pt b235 0), (8, vi y244)] a ∧ SS [] κ0 w0 κ w [.box b46 56 [si x29.Pool, si x29.Nodes, eb 4 y236, sl p30 ((x29.Maps.getD 0 zm_api_Map).Cuts).length c31, sl p32 ((x29.Maps.getD 0 zm_api_Map).Nodes).length c33, sl p34 ((x29.Maps.getD 1 zm_api_Map).Cuts).length c35, sl p36 ((x29.Maps.getD 1 zm_api_Map).Nodes).length c37, sl p38 ((x29.Maps.getD 2 zm_api_Map).Cuts).length c39, sl p40 ((x29.Maps.getD 2 zm_api_Map).Nodes).length c41, sl p42 ((x29.Maps.getD 3 zm_api_Map).Cuts).length c43, sl p44 ((x29.Maps.getD 3 zm_api_Map).Nodes).length c45, ei 21 y237], .box b235 25 [sl p239 (y238).length c240, sl p242 (y241).length c243], .box b27 56 [si 0, si 0, eb 4 (List.replicate 4 false), sl none 0 0, sl none 0 0, sl none 0 0, sl none 0 0, sl none 0 0, sl none 0 0, sl none 0 0, sl none 0 0, ei 21 (List.replicate 21 0)], .box b26 58 [si a3.Kind, si 3, si a3.Shard, si a3.Node, si a3.Mode, sg a3.Key], .tok p239 9 1 (y238).length c240, .tok p242 3 1 (y241).length c243, .tok p30 9 1 ((x29.Maps.getD 0 zm_api_Map).Cuts).length c31, .tok p32 3 1 ((x29.Maps.getD 0 zm_api_Map).Nodes).length c33, .tok p34 9 1 ((x29.Maps.getD 1 zm_api_Map).Cuts).length c35, .tok p36 3 1 ((x29.Maps.getD 1 zm_api_Map).Nodes).length c37, .tok p38 9 1 ((x29.Maps.getD 2 zm_api_Map).Cuts).length c39, .tok p40 3 1 ((x29.Maps.getD 2 zm_api_Map).Nodes).length c41] [ml y236 4, Ro.mp fStr.ty p30 c31 ((x29.Maps.getD 0 zm_api_Map).Cuts), Ro.mp (fInt .i64).ty p32 c33 ((x29.Maps.getD 0 zm_api_Map).Nodes), Ro.mp fStr.ty p34 c35 ((x29.Maps.getD 1 zm_api_Map).Cuts), Ro.mp (fInt .i64).ty p36 c37 ((x29.Maps.getD 1 zm_api_Map).Nodes), Ro.mp fStr.ty p38 c39 ((x29.Maps.getD 2 zm_api_Map).Cuts), Ro.mp (fInt .i64).ty p40 c41 ((x29.Maps.getD 2 zm_api_Map).Nodes), Ro.mp fStr.ty p42 c43 ((x29.Maps.getD 3 zm_api_Map).Cuts), Ro.mp (fInt .i64).ty p44 c45 ((x29.Maps.getD 3 zm_api_Map).Nodes), ml y237 21, Ro.mp fStr.ty p239 c240 y238, Ro.mp (fInt .i64).ty p242 c243 y241, ml (List.replicate 4 false) 4, Ro.mp fStr.ty none 0 ([] : List ByteArray), Ro.mp (fInt .i64).ty none 0 ([] : List Int), ml (List.replicate 21 0) 21] ∧ M.config_Apply_x_k4 N a3 x29 y236 y237 y238 y241 y244 = some r) ?_ ?_
 refine wpIn_seq_k fun K250 hK250 => ?_
 refine wpIn_region_lit ?_
 refine wp 1 [3, 4, 6, 7, 8, 70] hF fun a hF => ?_
 refine wc (wld hF hS 3 0 0 fun a hF => ?_)
 refine wpListIn_nil ?_
 refine hK250 _ _ ?_
 refine wpIn_block ?_
 refine wpIn_seq_k fun K251 hK251 => ?_
 refine wpIn_region_lit ?_
 refine wp 2 [3, 4, 6, 7, 8, 71, 74] hF fun a hF => ?_
 refine wpListIn_nil ?_
 refine hK251 _ _ ?_
 refine bif_split H (fun hb H => ?_) (fun hb H => ?_)
 refine cond_t hF (by kernel_rfl) hb ?_
 refine wpIn_seq_k fun K252 hK252 => ?_
 refine wpIn_seq_k fun K253 hK253 => ?_
 refine wpIn_region_lit ?_
 refine wc (wls hF hS 1 0 12 fun a hF => ?_)
 have hS := hS.add (m := Arr.mp t_api_Map (flat [sl p30 ((x29.Maps.getD 0 zm_api_Map).Cuts).length c31, sl p32 ((x29.Maps.getD 0 zm_api_Map).Nodes).length c33, sl p34 ((x29.Maps.getD 1 zm_api_Map).Cuts).length c35, sl p36 ((x29.Maps.getD 1 zm_api_Map).Nodes).length c37, sl p38 ((x29.Maps.getD 2 zm_api_Map).Cuts).length c39, sl p40 ((x29.Maps.getD 2 zm_api_Map).Nodes).length c41, sl p42 ((x29.Maps.getD 3 zm_api_Map).Cuts).length c43, sl p44 ((x29.Maps.getD 3 zm_api_Map).Nodes).length c45]) 4 [(T_api_Map.mk ((x29.Maps.getD 0 zm_api_Map).Cuts) ((x29.Maps.getD 0 zm_api_Map).Nodes)), (T_api_Map.mk ((x29.Maps.getD 1 zm_api_Map).Cuts) ((x29.Maps.getD 1 zm_api_Map).Nodes)), (T_api_Map.mk ((x29.Maps.getD 2 zm_api_Map).Cuts) ((x29.Maps.getD 2 zm_api_Map).Nodes)), (T_api_Map.mk ((x29.Maps.getD 3 zm_api_Map).Cuts) ((x29.Maps.getD 3 zm_api_Map).Nodes))]) (ArrP.of4 (t := t_api_Map) (show (t_api_Map).rep _ _ (flat [sl p30 ((x29.Maps.getD 0 zm_api_Map).Cuts).length c31, sl p32 ((x29.Maps.getD 0 zm_api_Map).Nodes).length c33]) (T_api_Map.mk ((x29.Maps.getD 0 zm_api_Map).Cuts) ((x29.Maps.getD 0 zm_api_Map).Nodes)) from ⟨(p30, c31, p32, c33), rfl, (hS.pick [1, 2] (by kernel_rfl)).ro⟩) (show (t_api_Map).rep _ _ (flat [sl p34 ((x29.Maps.getD 1 zm_api_Map).Cuts).length c35, sl p36 ((x29.Maps.getD 1 zm_api_Map).Nodes).length c37]) (T_api_Map.mk ((x29.Maps.getD 1 zm_api_Map).Cuts) ((x29.Maps.getD 1 zm_api_Map).Nodes)) from ⟨(p34, c35, p36, c37), rfl, (hS.pick [3, 4] (by kernel_rfl)).ro⟩) (show (t_api_Map).rep _ _ (flat [sl p38 ((x29.Maps.getD 2 zm_api_Map).Cuts).length c39, sl p40 ((x29.Maps.getD 2 zm_api_Map).Nodes).length c41]) (T_api_Map.mk ((x29.Maps.getD 2 zm_api_Map).Cuts) ((x29.Maps.getD 2 zm_api_Map).Nodes)) from ⟨(p38, c39, p40, c41), rfl, (hS.pick [5, 6] (by kernel_rfl)).ro⟩) (show (t_api_Map).rep _ _ (flat [sl p42 ((x29.Maps.getD 3 zm_api_Map).Cuts).length c43, sl p44 ((x29.Maps.getD 3 zm_api_Map).Nodes).length c45]) (T_api_Map.mk ((x29.Maps.getD 3 zm_api_Map).Cuts) ((x29.Maps.getD 3 zm_api_Map).Nodes)) from ⟨(p42, c43, p44, c45), rfl, (hS.pick [7, 8] (by kernel_rfl)).ro⟩) (show (flat [sl p30 ((x29.Maps.getD 0 zm_api_Map).Cuts).length c31, sl p32 ((x29.Maps.getD 0 zm_api_Map).Nodes).length c33]) ++ ((flat [sl p34 ((x29.Maps.getD 1 zm_api_Map).Cuts).length c35, sl p36 ((x29.Maps.getD 1 zm_api_Map).Nodes).length c37]) ++ ((flat [sl p38 ((x29.Maps.getD 2 zm_api_Map).Cuts).length c39, sl p40 ((x29.Maps.getD 2 zm_api_Map).Nodes).length c41]) ++ (flat [sl p42 ((x29.Maps.getD 3 zm_api_Map).Cuts).length c43, sl p44 ((x29.Maps.getD 3 zm_api_Map).Nodes).length c45]))) = _ from by kernel_rfl))
 refine bind_split H (fun x254 hx254 H => ?_)
 refine wc (wo_callP hF hS (by kernel_rfl) (by kernel_rfl) (C_config_Count N hS.fresh (T_config_State.mk x29.Pool x29.Nodes x29.Members [(T_api_Map.mk ((x29.Maps.getD 0 zm_api_Map).Cuts) ((x29.Maps.getD 0 zm_api_Map).Nodes)), (T_api_Map.mk ((x29.Maps.getD 1 zm_api_Map).Cuts) ((x29.Maps.getD 1 zm_api_Map).Nodes)), (T_api_Map.mk ((x29.Maps.getD 2 zm_api_Map).Cuts) ((x29.Maps.getD 2 zm_api_Map).Nodes)), (T_api_Map.mk ((x29.Maps.getD 3 zm_api_Map).Cuts) ((x29.Maps.getD 3 zm_api_Map).Nodes))] x29.Modes) (flat [sl p30 ((x29.Maps.getD 0 zm_api_Map).Cuts).length c31, sl p32 ((x29.Maps.getD 0 zm_api_Map).Nodes).length c33, sl p34 ((x29.Maps.getD 1 zm_api_Map).Cuts).length c35, sl p36 ((x29.Maps.getD 1 zm_api_Map).Nodes).length c37, sl p38 ((x29.Maps.getD 2 zm_api_Map).Cuts).length c39, sl p40 ((x29.Maps.getD 2 zm_api_Map).Nodes).length c41, sl p42 ((x29.Maps.getD 3 zm_api_Map).Cuts).length c43, sl p44 ((x29.Maps.getD 3 zm_api_Map).Nodes).length c45]) ((hS.pick [1, 0, 10] (by kernel_rfl)).ro) hx254) ?_)
 rintro _ κ w a ⟨rfl, hR, hN⟩ hF hS hO
 refine wp 1 [3, 4, 6, 7, 8, 78] hF fun a hF => ?_
 refine wpListIn_nil ?_
 refine hK253 _ _ ?_
 refine bif_split H (fun hb H => ?_) (fun hb H => ?_)
 refine cond_t hF (by kernel_rfl) hb ?_
 refine wpIn_seq_k fun K255 hK255 => ?_
 refine wpIn_region_lit ?_
 refine wp 1 [4, 79] hF fun a hF => ?_
 refine wc (wst hF hS 2 0 12 [si 0, si 0, eb 4 (List.replicate 4 false), sl none 0 0, sl none 0 0, sl none 0 0, sl none 0 0, sl none 0 0, sl none 0 0, sl none 0 0, sl none 0 0, ei 21 (List.replicate 21 0)] (sgN 2 (sgEnc List.length_replicate (sgN 8 (sgEnc List.length_replicate sgNil)))) fun a w hF hS => ?_)
 refine wp 1 [4, 5] hF fun a hF => ?_
 refine wpListIn_nil ?_
 refine hK255 _ _ ?_
 refine wpIn_ret ?_
 have hS' := hS
 have hS := hS.addNil 9 1
 have hS := hS.addNil 3 1
 have hS := hS.addNil 9 1
 have hS := hS.addNil 3 1
 have hS := hS.addNil 9 1
 have hS := hS.addNil 3 1
 have hS := hS.addNil 9 1
 have hS := hS.addNil 3 1
 cases H
 exact (ret_done hF hS (res2 Try.results41 (rvs hF hS' 2 0 12) (rvt hF)) ⟨none, 0, none, 0, none, 0, none, 0, none, 0, none, 0, none, 0, none, 0, rfl, (hS.pick [11, 12, 13, 12, 13, 12, 13, 12, 13, 14] (by kernel_rfl)).ro, hS.newC [7, 6, 5, 4, 3, 2, 1, 0] (by decide) (by kernel_rfl)⟩)
 refine cond_f hF (by kernel_rfl) hb ?_
 refine wpIn_skip ?_
 refine hK252 _ _ ?_
 refine wpIn_seq_k fun K256 hK256 => ?_
 refine wpIn_region_lit ?_
 refine wp 1 [3, 4, 6, 7, 8, 80] hF fun a hF => ?_
 refine wc (wld hF hS 3 1 0 fun a hF => ?_)
 refine wl_pure (L' := [(3, pt b26 0), (4, pt b27 0), (6, pt b46 0), (7, pt b235 0), (8, vi 0), (81, vi 3), (82, pt b46 2)]) 1 [3, 4, 6, 7, 8, 81, 82] hF (by kernel_rfl) fun a hF => ?_
 refine bind_split H (fun x257 hx257 H => ?_)
 refine wc (wo_indexArr hF (by kernel_rfl) (E := 4) (sz := 1) (n := 4) rfl rfl (i := 3) rfl (idx_lt hx257 (hS.get 1 rfl)) (by kernel_rfl) (by kernel_rfl) fun a hF => ?_)
 refine wc (wo_storeA1 (t := fBool) (y := false) (v := vb false) hF hS (by kernel_rfl) 1 2 (s' := [si x29.Pool, si x29.Nodes, eb 4 (List.set x29.Members (Int.toNat 3) false), sl p30 ((x29.Maps.getD 0 zm_api_Map).Cuts).length c31, sl p32 ((x29.Maps.getD 0 zm_api_Map).Nodes).length c33, sl p34 ((x29.Maps.getD 1 zm_api_Map).Cuts).length c35, sl p36 ((x29.Maps.getD 1 zm_api_Map).Nodes).length c37, sl p38 ((x29.Maps.getD 2 zm_api_Map).Cuts).length c39, sl p40 ((x29.Maps.getD 2 zm_api_Map).Nodes).length c41, sl p42 ((x29.Maps.getD 3 zm_api_Map).Cuts).length c43, sl p44 ((x29.Maps.getD 3 zm_api_Map).Nodes).length c45, ei 21 x29.Modes]) (C' := [.box b235 25 [sl p42 ((x29.Maps.getD 3 zm_api_Map).Cuts).length c43, sl p44 ((x29.Maps.getD 3 zm_api_Map).Nodes).length c45], .box b46 56 [si x29.Pool, si x29.Nodes, eb 4 (List.set x29.Members (Int.toNat 3) false), sl p30 ((x29.Maps.getD 0 zm_api_Map).Cuts).length c31, sl p32 ((x29.Maps.getD 0 zm_api_Map).Nodes).length c33, sl p34 ((x29.Maps.getD 1 zm_api_Map).Cuts).length c35, sl p36 ((x29.Maps.getD 1 zm_api_Map).Nodes).length c37, sl p38 ((x29.Maps.getD 2 zm_api_Map).Cuts).length c39, sl p40 ((x29.Maps.getD 2 zm_api_Map).Nodes).length c41, sl p42 ((x29.Maps.getD 3 zm_api_Map).Cuts).length c43, sl p44 ((x29.Maps.getD 3 zm_api_Map).Nodes).length c45, ei 21 x29.Modes], .box b27 56 [si 0, si 0, eb 4 (List.replicate 4 false), sl none 0 0, sl none 0 0, sl none 0 0, sl none 0 0, sl none 0 0, sl none 0 0, sl none 0 0, sl none 0 0, ei 21 (List.replicate 21 0)], .box b26 58 [si a3.Kind, si 3, si a3.Shard, si a3.Node, si a3.Mode, sg a3.Key], .tok p30 9 1 ((x29.Maps.getD 0 zm_api_Map).Cuts).length c31, .tok p32 3 1 ((x29.Maps.getD 0 zm_api_Map).Nodes).length c33, .tok p34 9 1 ((x29.Maps.getD 1 zm_api_Map).Cuts).length c35, .tok p36 3 1 ((x29.Maps.getD 1 zm_api_Map).Nodes).length c37, .tok p38 9 1 ((x29.Maps.getD 2 zm_api_Map).Cuts).length c39, .tok p40 3 1 ((x29.Maps.getD 2 zm_api_Map).Nodes).length c41, .tok p42 9 1 ((x29.Maps.getD 3 zm_api_Map).Cuts).length c43, .tok p44 3 1 ((x29.Maps.getD 3 zm_api_Map).Nodes).length c45]) rfl rfl (by kernel_rfl) rfl rfl hx257 rfl rfl (by kernel_rfl) (by kernel_rfl) (by kernel_rfl) (by kernel_rfl) fun a w hF hS => ?_)
 have hS := hS.add (m := ml (List.set x29.Members (Int.toNat 3) false) 4) (List.length_set.trans (hS.get 1 rfl))
 refine wpListIn_nil ?_
 refine hK256 _ _ ?_
 refine wpIn_seq_k fun K258 hK258 => ?_
 refine wpIn_region_lit ?_
 refine wp 1 [3, 4, 6, 7, 8, 84] hF fun a hF => ?_
 refine wc (wst hF hS 0 0 2 [sl none 0 0, sl none 0 0] (sgN 2 sgNil) fun a w hF hS => ?_)
 refine wpListIn_nil ?_
 refine hK258 _ _ ?_
 refine wpIn_region_lit ?_
 refine wp 1 [3, 4, 6, 7, 8, 85] hF fun a hF => ?_
 refine wc (wld hF hS 3 1 0 fun a hF => ?_)
 refine bind_split H (fun x259 hx259 H => ?_)
 have hgx2590 := hS.segs 1 rfl
 refine wc (wcS 1 [1, 0, 2, 3, 4, 5, 6, 7, 8, 9, 10, 11] hF hS (fun hS => C_config_State_both_x N x29.Modes 3 (flat [si x29.Pool, si x29.Nodes, eb 4 (List.set x29.Members (Int.toNat 3) false), sl p30 ((x29.Maps.getD 0 zm_api_Map).Cuts).length c31, sl p32 ((x29.Maps.getD 0 zm_api_Map).Nodes).length c33, sl p34 ((x29.Maps.getD 1 zm_api_Map).Cuts).length c35, sl p36 ((x29.Maps.getD 1 zm_api_Map).Nodes).length c37, sl p38 ((x29.Maps.getD 2 zm_api_Map).Cuts).length c39, sl p40 ((x29.Maps.getD 2 zm_api_Map).Nodes).length c41, sl p42 ((x29.Maps.getD 3 zm_api_Map).Cuts).length c43, sl p44 ((x29.Maps.getD 3 zm_api_Map).Nodes).length c45]) b46 ⟨rfl, (hS.regr 0 [(true, 11), (false, 1)] rfl).pick [11] (by kernel_rfl)⟩ hx259) ?_)
 rintro _ κ w a ⟨rfl, h2⟩ hF hB
 have hS := (hB _ _ h2).unregr 0 [(true, 11), (false, 1)] (s' := [si x29.Pool, si x29.Nodes, eb 4 (List.set x29.Members (Int.toNat 3) false), sl p30 ((x29.Maps.getD 0 zm_api_Map).Cuts).length c31, sl p32 ((x29.Maps.getD 0 zm_api_Map).Nodes).length c33, sl p34 ((x29.Maps.getD 1 zm_api_Map).Cuts).length c35, sl p36 ((x29.Maps.getD 1 zm_api_Map).Nodes).length c37, sl p38 ((x29.Maps.getD 2 zm_api_Map).Cuts).length c39, sl p40 ((x29.Maps.getD 2 zm_api_Map).Nodes).length c41, sl p42 ((x29.Maps.getD 3 zm_api_Map).Cuts).length c43, sl p44 ((x29.Maps.getD 3 zm_api_Map).Nodes).length c45, ei 21 x259]) hgx2590 rfl rfl
 refine wpListIn_nil ?_
 have hS := hS.addNil 9 1
 have hS := hS.addNil 3 1
 exact ⟨_, (List.set x29.Members (Int.toNat 3) false), x259, ([] : List ByteArray), none, 0, ([] : List Int), none, 0, 0, hF.kp [3, 4, 6, 7, 8], hS.sp [2, 3, 4, 5, 1, 0, 6, 7, 8, 9, 10, 11] [1, 4, 5, 6, 7, 8, 9, 10, 11, 0, 14, 15, 13, 14, 15, 16], H⟩
 refine cond_f hF (by kernel_rfl) hb ?_
 refine wpIn_seq_k fun K260 hK260 => ?_
 refine wpIn_region_lit ?_
 refine wp 2 [3, 4, 6, 7, 71, 88] hF fun a hF => ?_
 refine wpListIn_nil ?_
 refine hK260 _ _ ?_
 refine bif_split H (fun hb H => ?_) (fun hb H => ?_)
 refine cond_t hF (by kernel_rfl) hb ?_
 refine wpIn_region_lit ?_
 refine wc (wls hF hS 0 0 2 fun a hF => ?_)
 refine wp 1 [3, 4, 6, 7, 91, 92] hF fun a hF => ?_
 refine wc (wld hF hS 1 1 0 fun a hF => ?_)
 refine wp 1 [3, 4, 6, 7, 91, 93, 94] hF fun a hF => ?_
 refine wc (wld hF hS 3 2 0 fun a hF => ?_)
 refine wp 1 [3, 4, 6, 7, 91, 93, 95, 96] hF fun a hF => ?_
 refine wc (wld hF hS 3 5 0 fun a hF => ?_)
 refine bind_split H (fun x261 hx261 H => ?_)
 refine wc (wo_callP hF hS (by kernel_rfl) (by kernel_rfl) (C_span_Split N hS.fresh (T_api_Map.mk ((x29.Maps.getD 3 zm_api_Map).Cuts) ((x29.Maps.getD 3 zm_api_Map).Nodes)) x29.Nodes a3.Shard a3.Key p42 c43 p44 c45 ((hS.pick [7, 8] (by kernel_rfl)).ro) hx261) ?_)
 rintro _ κ w a ⟨p262, c263, p264, c265, rfl, hR, hN⟩ hF hS hO
 have hS := hS.adds hR
 have hS := hS.addC hO hN
 refine wp 3 [3, 4, 6, 7, 99, 100] hF fun a hF => ?_
 refine wc (wst hF hS 2 0 2 [sl p262 (x261.1.Cuts).length c263, sl p264 (x261.1.Nodes).length c265] (sgN 2 sgNil) fun a w hF hS => ?_)
 refine wp 1 [3, 4, 6, 7, 8] hF fun a hF => ?_
 refine wpListIn_nil ?_
 exact ⟨_, x29.Members, x29.Modes, x261.1.Cuts, p262, c263, x261.1.Nodes, p264, c265, x261.2, hF.kp [3, 4, 6, 7, 8], hS.sp [3, 2, 4, 5, 0, 1, 6, 7, 8, 9, 10, 11] [2, 3, 4, 5, 6, 7, 8, 9, 10, 11, 0, 1, 12, 13, 14, 15], H⟩
 refine cond_f hF (by kernel_rfl) hb ?_
 refine wpIn_seq_k fun K266 hK266 => ?_
 refine wpIn_region_lit ?_
 refine wp 2 [3, 4, 6, 7, 71, 101] hF fun a hF => ?_
 refine wpListIn_nil ?_
 refine hK266 _ _ ?_
 refine bif_split H (fun hb H => ?_) (fun hb H => ?_)
 refine cond_t hF (by kernel_rfl) hb ?_
 refine wpIn_region_lit ?_
 refine wc (wls hF hS 0 0 2 fun a hF => ?_)
 refine wp 1 [3, 4, 6, 7, 104, 105] hF fun a hF => ?_
 refine wc (wld hF hS 1 1 0 fun a hF => ?_)
 refine wp 1 [3, 4, 6, 7, 104, 106, 107] hF fun a hF => ?_
 refine wc (wld hF hS 3 2 0 fun a hF => ?_)
 refine bind_split H (fun x267 hx267 H => ?_)
 refine wc (wo_callP hF hS (by kernel_rfl) (by kernel_rfl) (C_span_Merge N hS.fresh (T_api_Map.mk ((x29.Maps.getD 3 zm_api_Map).Cuts) ((x29.Maps.getD 3 zm_api_Map).Nodes)) x29.Nodes a3.Shard p42 c43 p44 c45 ((hS.pick [7, 8] (by kernel_rfl)).ro) hx267) ?_)
 rintro _ κ w a ⟨p268, c269, p270, c271, rfl, hR, hN⟩ hF hS hO
 have hS := hS.adds hR
 have hS := hS.addC hO hN
 refine wp 3 [3, 4, 6, 7, 110, 111] hF fun a hF => ?_
 refine wc (wst hF hS 2 0 2 [sl p268 (x267.1.Cuts).length c269, sl p270 (x267.1.Nodes).length c271] (sgN 2 sgNil) fun a w hF hS => ?_)
 refine wp 1 [3, 4, 6, 7, 8] hF fun a hF => ?_
 refine wpListIn_nil ?_
 exact ⟨_, x29.Members, x29.Modes, x267.1.Cuts, p268, c269, x267.1.Nodes, p270, c271, x267.2, hF.kp [3, 4, 6, 7, 8], hS.sp [3, 2, 4, 5, 0, 1, 6, 7, 8, 9, 10, 11] [2, 3, 4, 5, 6, 7, 8, 9, 10, 11, 0, 1, 12, 13, 14, 15], H⟩
 refine cond_f hF (by kernel_rfl) hb ?_
 refine wpIn_seq_k fun K272 hK272 => ?_
 refine wpIn_region_lit ?_
 refine wp 2 [3, 4, 6, 7, 112] hF fun a hF => ?_
 refine wpListIn_nil ?_
 refine hK272 _ _ ?_
 refine bif_split H (fun hb H => ?_) (fun hb H => ?_)
 refine cond_t hF (by kernel_rfl) hb ?_
 refine wpIn_region_lit ?_
 refine wc (wls hF hS 0 0 2 fun a hF => ?_)
 refine wp 1 [3, 4, 6, 7, 115, 116] hF fun a hF => ?_
 refine wc (wld hF hS 1 1 0 fun a hF => ?_)
 refine wp 1 [3, 4, 6, 7, 115, 117, 118] hF fun a hF => ?_
 refine wc (wld hF hS 3 2 0 fun a hF => ?_)
 refine wp 1 [3, 4, 6, 7, 115, 117, 119, 120] hF fun a hF => ?_
 refine wc (wld hF hS 3 3 0 fun a hF => ?_)
 refine bind_split H (fun x273 hx273 H => ?_)
 refine wc (wo_callP hF hS (by kernel_rfl) (by kernel_rfl) (C_span_Move N hS.fresh (T_api_Map.mk ((x29.Maps.getD 3 zm_api_Map).Cuts) ((x29.Maps.getD 3 zm_api_Map).Nodes)) x29.Nodes a3.Shard a3.Node p42 c43 p44 c45 ((hS.pick [7, 8] (by kernel_rfl)).ro) hx273) ?_)
 rintro _ κ w a ⟨p274, c275, p276, c277, rfl, hR, hN⟩ hF hS hO
 have hS := hS.adds hR
 have hS := hS.addC hO hN
 refine wp 3 [3, 4, 6, 7, 123, 124] hF fun a hF => ?_
 refine wc (wst hF hS 2 0 2 [sl p274 (x273.1.Cuts).length c275, sl p276 (x273.1.Nodes).length c277] (sgN 2 sgNil) fun a w hF hS => ?_)
 refine wp 1 [3, 4, 6, 7, 8] hF fun a hF => ?_
 refine wpListIn_nil ?_
 exact ⟨_, x29.Members, x29.Modes, x273.1.Cuts, p274, c275, x273.1.Nodes, p276, c277, x273.2, hF.kp [3, 4, 6, 7, 8], hS.sp [3, 2, 4, 5, 0, 1, 6, 7, 8, 9, 10, 11] [2, 3, 4, 5, 6, 7, 8, 9, 10, 11, 0, 1, 12, 13, 14, 15], H⟩
 refine cond_f hF (by kernel_rfl) hb ?_
 refine wpIn_region_lit ?_
 refine wc (wls hF hS 3 0 6 fun a hF => ?_)
 refine bind_split H (fun x278 hx278 H => ?_)
 have hgx2780 := hS.segs 1 rfl
 refine wc (wcS 1 [1, 0, 2, 3, 4, 5, 6, 7, 8, 9, 10, 11] hF hS (fun hS => C_config_State_speak_x N x29.Nodes x29.Modes (T_api_Cmd.mk a3.Kind 3 a3.Shard a3.Node a3.Mode a3.Key) [vi x29.Pool] (flat [eb 4 x29.Members, sl p30 ((x29.Maps.getD 0 zm_api_Map).Cuts).length c31, sl p32 ((x29.Maps.getD 0 zm_api_Map).Nodes).length c33, sl p34 ((x29.Maps.getD 1 zm_api_Map).Cuts).length c35, sl p36 ((x29.Maps.getD 1 zm_api_Map).Nodes).length c37, sl p38 ((x29.Maps.getD 2 zm_api_Map).Cuts).length c39, sl p40 ((x29.Maps.getD 2 zm_api_Map).Nodes).length c41, sl p42 ((x29.Maps.getD 3 zm_api_Map).Cuts).length c43, sl p44 ((x29.Maps.getD 3 zm_api_Map).Nodes).length c45]) b46 ⟨rfl, (hS.regr 0 [(false, 2), (true, 9), (false, 1)] rfl).pick [9] (by kernel_rfl)⟩ hx278) ?_)
 rintro _ κ w a ⟨rfl, h2⟩ hF hB
 have hS := (hB _ _ h2).unregr 0 [(false, 2), (true, 9), (false, 1)] (s' := [si x29.Pool, si x29.Nodes, eb 4 x29.Members, sl p30 ((x29.Maps.getD 0 zm_api_Map).Cuts).length c31, sl p32 ((x29.Maps.getD 0 zm_api_Map).Nodes).length c33, sl p34 ((x29.Maps.getD 1 zm_api_Map).Cuts).length c35, sl p36 ((x29.Maps.getD 1 zm_api_Map).Nodes).length c37, sl p38 ((x29.Maps.getD 2 zm_api_Map).Cuts).length c39, sl p40 ((x29.Maps.getD 2 zm_api_Map).Nodes).length c41, sl p42 ((x29.Maps.getD 3 zm_api_Map).Cuts).length c43, sl p44 ((x29.Maps.getD 3 zm_api_Map).Nodes).length c45, ei 21 x278.2]) hgx2780 rfl rfl
 refine wp 1 [3, 4, 6, 7, 8] hF fun a hF => ?_
 refine wpListIn_nil ?_
 exact ⟨_, x29.Members, x278.2, (x29.Maps.getD 3 zm_api_Map).Cuts, p42, c43, (x29.Maps.getD 3 zm_api_Map).Nodes, p44, c45, x278.1, hF.kp [3, 4, 6, 7, 8], hS.sp [0, 1, 2, 3, 10, 11, 4, 5, 6, 7, 8, 9] [1, 2, 3, 4, 5, 6, 7, 8, 9, 0, 8, 9, 11, 12, 13, 14], H⟩
 rintro a w ⟨κ, y236, y237, y238, p239, c240, y241, p242, c243, y244, hF, hS, H⟩
 unfold M.config_Apply_x_k4 at H
 refine wpIn_seq_k fun K245 hK245 => ?_
 refine wpIn_seq_k fun K246 hK246 => ?_
 refine wpIn_region_lit ?_
 refine wp 2 [3, 4, 6, 7, 8, 126] hF fun a hF => ?_
 refine wpListIn_nil ?_
 refine hK246 _ _ ?_
 refine bif_split H (fun hb H => ?_) (fun hb H => ?_)
 refine cond_t hF (by kernel_rfl) hb ?_
 refine wpIn_seq_k fun K247 hK247 => ?_
 refine wpIn_region_lit ?_
 refine wp 2 [4, 127, 128] hF fun a hF => ?_
 refine wc (wst hF hS 2 0 12 [si 0, si 0, eb 4 (List.replicate 4 false), sl none 0 0, sl none 0 0, sl none 0 0, sl none 0 0, sl none 0 0, sl none 0 0, sl none 0 0, sl none 0 0, ei 21 (List.replicate 21 0)] (sgN 2 (sgEnc List.length_replicate (sgN 8 (sgEnc List.length_replicate sgNil)))) fun a w hF hS => ?_)
 refine wp 1 [4, 5] hF fun a hF => ?_
 refine wpListIn_nil ?_
 refine hK247 _ _ ?_
 refine wpIn_ret ?_
 have hS' := hS
 have hS := hS.addNil 9 1
 have hS := hS.addNil 3 1
 have hS := hS.addNil 9 1
 have hS := hS.addNil 3 1
 have hS := hS.addNil 9 1
 have hS := hS.addNil 3 1
 have hS := hS.addNil 9 1
 have hS := hS.addNil 3 1
 cases H
 exact (ret_done hF hS (res2 Try.results41 (rvs hF hS' 2 0 12) (rvt hF)) ⟨none, 0, none, 0, none, 0, none, 0, none, 0, none, 0, none, 0, none, 0, rfl, (hS.pick [12, 13, 14, 13, 14, 13, 14, 13, 14, 15] (by kernel_rfl)).ro, hS.newC [7, 6, 5, 4, 3, 2, 1, 0] (by decide) (by kernel_rfl)⟩)
 refine cond_f hF (by kernel_rfl) hb ?_
 refine wpIn_skip ?_
 refine hK245 _ _ ?_
 refine wpIn_seq_k fun K248 hK248 => ?_
 refine wpIn_region_lit ?_
 refine wp 1 [4, 6, 7, 129] hF fun a hF => ?_
 refine wc (wld hF hS 3 1 0 fun a hF => ?_)
 refine wc (wls hF hS 1 0 2 fun a hF => ?_)
 refine wp 2 [4, 6, 131, 133] hF fun a hF => ?_
 refine wc (wst hF hS 0 9 2 [sl p239 (y238).length c240, sl p242 (y241).length c243] (sgN 2 sgNil) fun a w hF hS => ?_)
 refine wpListIn_nil ?_
 refine hK248 _ _ ?_
 refine wpIn_seq_k fun K249 hK249 => ?_
 refine wpIn_region_lit ?_
 refine wc (wls hF hS 0 0 12 fun a hF => ?_)
 refine wc (wst hF hS 2 0 12 [si x29.Pool, si x29.Nodes, eb 4 y236, sl p30 ((x29.Maps.getD 0 zm_api_Map).Cuts).length c31, sl p32 ((x29.Maps.getD 0 zm_api_Map).Nodes).length c33, sl p34 ((x29.Maps.getD 1 zm_api_Map).Cuts).length c35, sl p36 ((x29.Maps.getD 1 zm_api_Map).Nodes).length c37, sl p38 ((x29.Maps.getD 2 zm_api_Map).Cuts).length c39, sl p40 ((x29.Maps.getD 2 zm_api_Map).Nodes).length c41, sl p239 (y238).length c240, sl p242 (y241).length c243, ei 21 y237] (sgN 2 (sgEnc (hS.get 0 rfl) (sgN 8 (sgEnc (hS.get 9 rfl) sgNil)))) fun a w hF hS => ?_)
 refine wp 1 [4, 5] hF fun a hF => ?_
 refine wpListIn_nil ?_
 refine hK249 _ _ ?_
 refine wpIn_ret ?_
 have hS' := hS
 cases H
 exact (ret_done hF hS (res2 Try.results41 (rvs hF hS' 2 0 12) (rvt hF)) ⟨p30, c31, p32, c33, p34, c35, p36, c37, p38, c39, p40, c41, p239, c240, p242, c243, rfl, (hS.pick [0, 1, 2, 3, 4, 5, 6, 10, 11, 9] (by kernel_rfl)).ro, hS.newC [6, 7, 8, 9, 10, 11, 4, 5] (by decide) (by kernel_rfl)⟩)
 cases H
end Go.Cf
