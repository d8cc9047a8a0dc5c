/- The walks: each function returns what its model says. Printed by a program of ours. -/
import Derived.Test.YtjohablgnnbelaaZM1
import Derived.Test.YtjohablgnnbelaaZW1
import Derived.Test.YtjohablgnnbelaaZW2
import Derived.Test.YtjohablgnnbelaaZW2b
import Derived.Test.YtjohablgnnbelaaZW2c
import Derived.Test.YtjohablgnnbelaaZW3
namespace Go.Cf
open Go Go.Proofs
set_option linter.unusedVariables false
set_option maxRecDepth 20000 in
set_option maxHeartbeats 1000000 in
theorem C_config_Copy (N : Nat) {κ0 : Gh} {w0 : World} (hfr : Fresh κ0 w0) (a1 : T_config_State) (cs2 : List Value) (hR : ∀ m ∈ ([ml a1.Members 4, Arr.mp t_api_Map cs2 4 a1.Maps, ml a1.Modes 21] : List MP), m.p κ0 w0) {r : (T_config_State)} (H : M.config_Copy N a1 = some r) :
    Calls Try.prog 57 #[.agg (flat [si a1.Pool, si a1.Nodes, eb 4 a1.Members, (8, cs2), ei 21 a1.Modes]).toArray] w0 (Post [] κ0 w0 fun v κ w => ∃ cs78 : List Value, v = .agg (flat [si r.Pool, si r.Nodes, eb 4 r.Members, (8, cs78), ei 21 r.Modes]).toArray ∧ (∀ m ∈ ([ml r.Members 4, Arr.mp t_api_Map cs78 4 r.Maps, ml r.Modes 21] : List MP), m.p κ w) ∧ NewC w0 κ w []) := by
 have hS := SS.start hfr hR
 refine enter (N := (18)) (L := [(0, .agg (flat [si a1.Pool, si a1.Nodes, eb 4 a1.Members, (8, cs2), ei 21 a1.Modes]).toArray)]) Try.func57 rfl Try.ntmps57 (show 1 ≤ (18) by decide) rfl fun a hF => ?_
 unfold M.config_Copy at H
 refine wpIn_seq_k fun K3 hK3 => ?_
 refine wpIn_region_lit ?_
 refine wc (wbx hF hS [si a1.Pool, si a1.Nodes, eb 4 a1.Members, (8, cs2), ei 21 a1.Modes] (sgN 2 (sgEnc (hS.get 0 rfl) (sgArr (hS.get 1 rfl) (sgEnc (hS.get 2 rfl) sgNil)))) fun b4 a w hF hS => ?_)
 have hS := hS.add (m := ml (List.replicate 4 false) 4) (List.length_replicate)
 have hS := hS.add (m := Arr.mp t_api_Map ((List.replicate 4 (flat [sl none 0 0, sl none 0 0])).flatten) 4 (List.replicate 4 (T_api_Map.mk ([] : List ByteArray) ([] : List Int)))) (Arr.zero _ _ _ _ _ z_api_Map)
 have hS := hS.add (m := ml (List.replicate 21 0) 21) (List.length_replicate)
 refine wc (wal hF hS [si 0, si 0, eb 4 (List.replicate 4 false), (8, (List.replicate 4 (flat [sl none 0 0, sl none 0 0])).flatten), ei 21 (List.replicate 21 0)] (sgN 2 (sgEnc List.length_replicate (sgArr (hS.get 1 rfl) (sgEnc List.length_replicate sgNil)))) fun b5 a w hF hS => ?_)
 refine wpListIn_nil ?_
 refine hK3 _ _ ?_
 refine wpIn_seq_k fun K6 hK6 => ?_
 refine wpIn_seq_k fun K7 hK7 => ?_
 refine wpIn_region_lit ?_
 refine wp 1 [1, 2, 5] hF fun a hF => ?_
 refine wc (wls hF hS 1 3 1 fun a hF => ?_)
 refine wp 1 [1, 2, 6, 7] hF fun a hF => ?_
 refine wpListIn_nil ?_
 refine hK7 _ _ ?_
 refine wpIn_block ?_
 refine loop_fuel (n := N) (fun n a w => ∃ (κ : Gh) (y58 : List T_api_Map) (cs59 : List Value) (y60 : Int), Fr (18) [] [(1, pt b4 0), (2, pt b5 0), (6, .agg (flat [(8, cs2)]).toArray), (7, vi y60)] a ∧ SS [] κ0 w0 κ w [.box b5 30 [si 0, si 0, eb 4 (List.replicate 4 false), (8, (List.replicate 4 (flat [sl none 0 0, sl none 0 0])).flatten), ei 21 (List.replicate 21 0)], .box b4 30 [si a1.Pool, si a1.Nodes, eb 4 a1.Members, (8, cs59), ei 21 a1.Modes]] [Arr.mp t_api_Map cs2 4 a1.Maps, ml (List.replicate 4 false) 4, Arr.mp t_api_Map ((List.replicate 4 (flat [sl none 0 0, sl none 0 0])).flatten) 4 (List.replicate 4 (T_api_Map.mk ([] : List ByteArray) ([] : List Int))), ml (List.replicate 21 0) 21, ml a1.Members 4, Arr.mp t_api_Map cs59 4 y58, ml a1.Modes 21] ∧ M.config_Copy_L1 N n a1 y58 y60 = some r) ?_ ?_
 exact ⟨_, a1.Maps, cs2, 0, hF.kp [1, 2, 6, 7], hS.sp [0, 1] [4, 2, 1, 0, 3, 4, 5], H⟩
 rintro n a w ⟨κ, y58, cs59, y60, hF, hS, H⟩
 rcases n with _ | fuel1
 simp [M.config_Copy_L1] at H
 simp only [M.config_Copy_L1] at H
 refine wpIn_seq_k fun K61 hK61 => ?_
 refine wpIn_region_lit ?_
 refine wp 1 [1, 2, 6, 7, 8] hF fun a hF => ?_
 refine wpListIn_nil ?_
 refine hK61 _ _ ?_
 refine wpIn_seq_k fun K62 hK62 => ?_
 refine bif_split H (fun hb H => ?_) (fun hb H => ?_)
 refine cond_t hF (by kernel_rfl) hb ?_
 refine wpIn_skip ?_
 refine hK62 _ _ ?_
 refine wpIn_seq_k fun K63 hK63 => ?_
 refine wpIn_block ?_
 refine wpIn_seq_k fun K64 hK64 => ?_
 refine wpIn_region_lit ?_
 refine wl_pure (L' := [(1, pt b4 0), (2, pt b5 0), (6, .agg (flat [(8, cs2)]).toArray), (7, vi y60), (9, vi y60)]) 1 [1, 2, 6, 7, 9] hF (by kernel_rfl) fun a hF => ?_
 refine bind_split H (fun x65 hx65 H => ?_)
 refine wc (wo_val hF (by kernel_rfl) (val_indexATy (t := t_api_Map) (E := 26) (n := 4) (m := 8) (cs := cs2) rfl (by kernel_rfl) rfl (idx_lt hx65 (hS.get 0 rfl : ArrP _ _ _ _ _ _).1) (by kernel_rfl) (by kernel_rfl) (by kernel_rfl) _) ?_)
 obtain ⟨⟨p66, c67, p68, c69⟩, hq, hR⟩ := (hS.get 0 rfl : ArrP _ _ _ _ _ _).2.2.2 _ _ (idx_some hx65).2.2
 rw [show (List.take _ (List.drop _ _)) = _ from hq]
 intro a hF
 have hS := hS.adds hR
 refine wc (wal hF hS [sl none 0 0, sl none 0 0] (sgN 2 sgNil) fun b70 a w hF hS => ?_)
 refine wp 1 [1, 2, 3, 4, 6, 7, 10] hF fun a hF => ?_
 refine wc (wst hF hS 0 0 2 [sl p66 (x65.Cuts).length c67, sl p68 (x65.Nodes).length c69] (sgN 2 sgNil) fun a w hF hS => ?_)
 refine wpListIn_nil ?_
 refine hK64 _ _ ?_
 refine wpIn_region_lit ?_
 refine wp 1 [1, 2, 4, 6, 7, 11] hF fun a hF => ?_
 refine wc (wls hF hS 0 0 2 fun a hF => ?_)
 refine bind_split H (fun x71 hx71 H => ?_)
 refine wc (wo_callP hF hS (by kernel_rfl) (by kernel_rfl) (C_span_Copy N hS.fresh (T_api_Map.mk x65.Cuts x65.Nodes) p66 c67 p68 c69 ((hS.pick [0, 1] (by kernel_rfl)).ro) hx71) ?_)
 rintro _ κ w a ⟨p72, c73, p74, c75, rfl, hR, hN⟩ hF hS hO
 have hS := hS.adds hR
 have hS := hS.addC hO hN
 refine wl_pure (L' := [(1, pt b4 0), (2, pt b5 0), (6, .agg (flat [(8, cs2)]).toArray), (7, vi y60), (11, vi y60), (13, .agg (flat [sl p72 (x71.Cuts).length c73, sl p74 (x71.Nodes).length c75]).toArray), (14, pt b4 6)]) 1 [1, 2, 6, 7, 11, 13, 14] hF (by kernel_rfl) fun a hF => ?_
 refine bind_split H (fun x76 hx76 H => ?_)
 refine wc (wo_indexArr hF (by kernel_rfl) (E := 26) (sz := 2) (n := 4) rfl rfl (i := y60) rfl (idx_lt hx76 ((hS.get 9 rfl : ArrP _ _ _ _ _ _).1)) (by kernel_rfl) (by kernel_rfl) fun a hF => ?_)
 refine wc (wo_storeATy (t := t_api_Map) (n := 4) (new := (flat [sl p72 (x71.Cuts).length c73, sl p74 (x71.Nodes).length c75])) (y := (T_api_Map.mk x71.Cuts x71.Nodes)) (v := .agg (flat [sl p72 (x71.Cuts).length c73, sl p74 (x71.Nodes).length c75]).toArray) hF hS (by kernel_rfl) 4 3 9 (s' := [si a1.Pool, si a1.Nodes, eb 4 a1.Members, (8, (splice cs59 (Int.toNat y60 * 2) (flat [sl p72 (x71.Cuts).length c73, sl p74 (x71.Nodes).length c75]))), ei 21 a1.Modes]) (C' := [.tok p72 9 1 (x71.Cuts).length c73, .tok p74 3 1 (x71.Nodes).length c75, .box b70 26 [sl p66 (x65.Cuts).length c67, sl p68 (x65.Nodes).length c69], .box b5 30 [si 0, si 0, eb 4 (List.replicate 4 false), (8, (List.replicate 4 (flat [sl none 0 0, sl none 0 0])).flatten), ei 21 (List.replicate 21 0)], .box b4 30 [si a1.Pool, si a1.Nodes, eb 4 a1.Members, (8, (splice cs59 (Int.toNat y60 * 2) (flat [sl p72 (x71.Cuts).length c73, sl p74 (x71.Nodes).length c75]))), ei 21 a1.Modes]]) rfl rfl (by kernel_rfl) (by kernel_rfl) rfl rfl rfl hx76 ⟨(p72, c73, p74, c75), rfl, (hS.pick [0, 1] (by kernel_rfl)).ro⟩ (by kernel_rfl) (by kernel_rfl) (by kernel_rfl) (by kernel_rfl) (by kernel_rfl) fun a w hF hS => ?_)
 refine wpListIn_nil ?_
 refine hK63 _ _ ?_
 refine wpIn_region_lit ?_
 refine wp 2 [1, 2, 6, 7] hF fun a hF => ?_
 refine wpListIn_nil ?_
 exact ⟨fuel1, Nat.lt_succ_self _, _, (List.set y58 (Int.toNat y60) (T_api_Map.mk x71.Cuts x71.Nodes)), (splice cs59 (Int.toNat y60 * 2) (flat [sl p72 (x71.Cuts).length c73, sl p74 (x71.Nodes).length c75])), IntKind.i64.wrap (y60 + 1), hF.kp [1, 2, 6, 7], hS.sp [3, 4] [5, 6, 7, 8, 9, 0, 11], H⟩
 refine cond_f hF (by kernel_rfl) hb ?_
 refine wpIn_exit ?_
 refine hK6 _ _ ?_
 refine wpIn_seq_k fun K77 hK77 => ?_
 refine wpIn_region_lit ?_
 refine wc (wls hF hS 1 0 5 fun a hF => ?_)
 refine wc (wst hF hS 0 0 5 [si a1.Pool, si a1.Nodes, eb 4 a1.Members, (8, cs59), ei 21 a1.Modes] (sgN 2 (sgEnc (hS.get 4 rfl) (sgArr (hS.get 5 rfl) (sgEnc (hS.get 6 rfl) sgNil)))) fun a w hF hS => ?_)
 refine wpListIn_nil ?_
 refine hK77 _ _ ?_
 refine wpIn_ret ?_
 have hS' := hS
 cases H
 exact (ret_done hF hS (res1 Try.results57 (rvs hF hS' 0 0 5)) ⟨cs59, rfl, (hS.pick [4, 5, 6] (by kernel_rfl)).ro, hS.newC [] (by decide) (by kernel_rfl)⟩)
set_option maxRecDepth 20000 in
set_option maxHeartbeats 1000000 in
theorem C_config_State_both (N : Nat) {Ms : List Nat} {κ0 : Gh} {w0 : World} (a1 : T_config_State) (a4 : Int) (cs2 : List Value) (b3 : Nat) (hB : SB Ms κ0 w0 [.box b3 30 [si a1.Pool, si a1.Nodes, eb 4 a1.Members, (8, cs2), ei 21 a1.Modes]] [ml a1.Members 4, Arr.mp t_api_Map cs2 4 a1.Maps, ml a1.Modes 21]) {r : (T_config_State)} (H : M.config_State_both N a1 a4 = some r) :
    Calls Try.prog 81 #[pt b3 0, vi a4] w0 (Post Ms κ0 w0 fun v κ w => ∃ cs63 : List Value, v = .tuple #[] ∧ SS Ms κ0 w0 κ w [.box b3 30 [si r.Pool, si r.Nodes, eb 4 r.Members, (8, cs63), ei 21 r.Modes]] [ml r.Members 4, Arr.mp t_api_Map cs63 4 r.Maps, ml r.Modes 21]) := by
 have hS := hB.hS
 have hfr := hS.fresh
 refine enter (N := (16)) (L := [(0, pt b3 0), (1, vi a4)]) Try.func81 rfl Try.ntmps81 (show 2 ≤ (16) by decide) rfl fun a hF => ?_
 unfold M.config_State_both at H
 refine wpIn_seq_k fun K5 hK5 => ?_
 refine wpIn_region_lit ?_
 refine wp 1 [0, 1, 4] hF fun a hF => ?_
 refine wpListIn_nil ?_
 refine hK5 _ _ ?_
 refine wpIn_block ?_
 refine loop_fuel (n := N) (fun n a w => ∃ (κ : Gh) (y56 : List Int) (y57 : Int), Fr (16) [] [(0, pt b3 0), (1, vi a4), (4, vi y57)] a ∧ SS Ms κ0 w0 κ w [.box b3 30 [si a1.Pool, si a1.Nodes, eb 4 a1.Members, (8, cs2), ei 21 y56]] [ml a1.Members 4, Arr.mp t_api_Map cs2 4 a1.Maps, ml y56 21] ∧ M.config_State_both_L1 N n a1 a4 y56 y57 = some r) ?_ ?_
 exact ⟨_, a1.Modes, (-1), hF.kp [0, 1, 4], hS.sp [0] [0, 1, 2], H⟩
 rintro n a w ⟨κ, y56, y57, hF, hS, H⟩
 rcases n with _ | fuel1
 simp [M.config_State_both_L1] at H
 simp only [M.config_State_both_L1] at H
 refine wpIn_seq_k fun K58 hK58 => ?_
 refine wpIn_seq_k fun K59 hK59 => ?_
 refine wpIn_region_lit ?_
 refine wp 2 [0, 1, 4, 6] hF fun a hF => ?_
 refine wpListIn_nil ?_
 refine hK59 _ _ ?_
 refine bif_split H (fun hb H => ?_) (fun hb H => ?_)
 refine cond_t hF (by kernel_rfl) hb ?_
 refine wpIn_skip ?_
 refine hK58 _ _ ?_
 refine wpIn_seq_k fun K60 hK60 => ?_
 refine wpIn_block ?_
 refine rgS hS [7] ?_
 have hS := hS.drew
 refine any_pure [0, 1, 2, 4, 5] [0, 1, 4, 10, 11, 14] (L' := [(0, pt b3 0), (1, vi a4), (4, vi y57), (10, vi a4), (11, vi y57), (14, pt b3 14)]) (listed' := (bitA 8 55)) (fuel := 3) hF (hS.sx [0] [0, 1, 2]) (by kernel_rfl) (by intro c a w t v h; cases t <;> exact h) (by kernel_rfl) rfl fun a hF => ?_
 refine ago 3 hF rfl ?_
 refine bind_split H (fun x61 hx61 H => ?_)
 refine wo_callP hF hS (by kernel_rfl) (by kernel_rfl) (C_api_Place N hS.fresh a4 y57  ((hS.pick [] (by kernel_rfl)).ro) hx61) ?_
 rintro _ κ w a ⟨rfl, hR, hN⟩ hF hS hO
 refine ⟨fun _ => (hS.sx [0] [0, 1, 2]), ?_⟩
 refine bind_split H (fun x62 hx62 H => ?_)
 refine atk 6 (some 15) hF (hS.sx [0] [0, 1, 2]) rfl (fun w _ => val_indexArr (E := 3) (sz := 1) (n := 21) rfl rfl (i := x61) rfl (idx_lt hx62 (hS.get 2 rfl)) (by kernel_rfl) (by kernel_rfl) w) fun a hF => ?_
 refine ago 7 hF rfl ?_
 refine wo_storeA1 (t := (fInt .i64)) (y := 2) (v := vi 2) hF hS (by kernel_rfl) 0 4 (s' := [si a1.Pool, si a1.Nodes, eb 4 a1.Members, (8, cs2), ei 21 (List.set y56 (Int.toNat x61) 2)]) (C' := [.box b3 30 [si a1.Pool, si a1.Nodes, eb 4 a1.Members, (8, cs2), ei 21 (List.set y56 (Int.toNat x61) 2)]]) rfl rfl (by kernel_rfl) rfl rfl hx62 rfl rfl (by kernel_rfl) (by kernel_rfl) (by kernel_rfl) (by kernel_rfl) fun a w hF hS => ?_
 have hS := hS.add (m := ml (List.set y56 (Int.toNat x61) 2) 21) (List.length_set.trans (hS.get 2 rfl))
 refine ⟨notE, ?_⟩
 refine and_ ?_
 refine hK60 _ _ ?_
 refine wpIn_region_lit ?_
 refine wp 3 [0, 1, 4] hF fun a hF => ?_
 refine wpListIn_nil ?_
 exact ⟨fuel1, Nat.lt_succ_self _, _, (List.set y56 (Int.toNat x61) 2), IntKind.i64.wrap (y57 + 1), hF.kp [0, 1, 4], hS.sp [0] [1, 2, 0], H⟩
 refine cond_f hF (by kernel_rfl) hb ?_
 refine wpIn_exit ?_
 cases H
 exact ret_done hF hS (res0 Try.results81 ) ⟨cs2, rfl, hS.sp [0] [0, 1, 2]⟩
set_option maxRecDepth 20000 in
set_option maxHeartbeats 1000000 in
theorem C_config_State_any (N : Nat) {Ms : List Nat} {κ0 : Gh} {w0 : World} (a1 : T_config_State) (a4 : Int) (cs2 : List Value) (b3 : Nat) (hB : SB Ms κ0 w0 [.box b3 30 [si a1.Pool, si a1.Nodes, eb 4 a1.Members, (8, cs2), ei 21 a1.Modes]] [ml a1.Members 4, Arr.mp t_api_Map cs2 4 a1.Maps, ml a1.Modes 21]) {r : (Bool)} (H : M.config_State_any N a1 a4 = some r) :
    Calls Try.prog 94 #[pt b3 0, vi a4] w0 (Post Ms κ0 w0 fun v κ w => v = vb r ∧ SS Ms κ0 w0 κ w [.box b3 30 [si a1.Pool, si a1.Nodes, eb 4 a1.Members, (8, cs2), ei 21 a1.Modes]] []) := by
 have hS := hB.hS
 have hfr := hS.fresh
 refine enter (N := (18)) (L := [(0, pt b3 0), (1, vi a4)]) Try.func94 rfl Try.ntmps94 (show 2 ≤ (18) by decide) rfl fun a hF => ?_
 unfold M.config_State_any at H
 refine wpIn_seq_k fun K5 hK5 => ?_
 refine wpIn_region_lit ?_
 refine wp 1 [0, 1] hF fun a hF => ?_
 refine wpListIn_nil ?_
 refine hK5 _ _ ?_
 refine wpIn_seq_k fun K6 hK6 => ?_
 refine wpIn_seq_k fun K7 hK7 => ?_
 refine wpIn_region_lit ?_
 refine wp 3 [1, 9] hF fun a hF => ?_
 refine wc (wls hF hS 0 4 1 fun a hF => ?_)
 refine wp 1 [1, 10, 11] hF fun a hF => ?_
 refine wpListIn_nil ?_
 refine hK7 _ _ ?_
 refine wpIn_block ?_
 refine loop_fuel (n := N) (fun n a w => ∃ (κ : Gh) (y58 : Int), Fr (18) [] [(1, vi a4), (10, .agg (flat [ei 21 a1.Modes]).toArray), (11, vi y58)] a ∧ SS Ms κ0 w0 κ w [.box b3 30 [si a1.Pool, si a1.Nodes, eb 4 a1.Members, (8, cs2), ei 21 a1.Modes]] [ml a1.Modes 21, ml a1.Members 4, Arr.mp t_api_Map cs2 4 a1.Maps] ∧ M.config_State_any_L1 N n a1 a4 y58 = some r) ?_ ?_
 exact ⟨_, 0, hF.kp [1, 10, 11], hS.sp [0] [2, 0, 1], H⟩
 rintro n a w ⟨κ, y58, hF, hS, H⟩
 rcases n with _ | fuel1
 simp [M.config_State_any_L1] at H
 simp only [M.config_State_any_L1] at H
 refine wpIn_seq_k fun K59 hK59 => ?_
 refine wpIn_region_lit ?_
 refine wl_pure (L' := [(1, vi a4), (10, .agg (flat [ei 21 a1.Modes]).toArray), (11, vi y58), (12, vb (decide (y58 < 21)))]) 1 [1, 10, 11, 12] hF (by kernel_rfl) fun a hF => ?_
 refine wpListIn_nil ?_
 refine hK59 _ _ ?_
 refine wpIn_seq_k fun K60 hK60 => ?_
 refine bif_split H (fun hb H => ?_) (fun hb H => ?_)
 refine cond_t hF (by kernel_rfl) hb ?_
 refine wpIn_skip ?_
 refine hK60 _ _ ?_
 refine wpIn_seq_k fun K61 hK61 => ?_
 refine wpIn_block ?_
 refine wpIn_seq_k fun K62 hK62 => ?_
 refine wpIn_region_lit ?_
 refine bind_split H (fun x63 hx63 H => ?_)
 refine wc (wo_val hF (by kernel_rfl) (v := vi x63) (val_indexA1 (t := (fInt .i64)) (E := 3) (n := 21) (m := 21) rfl (by kernel_rfl) rfl hx63 (hS.get 0 rfl) rfl rfl (by kernel_rfl) (by kernel_rfl) (by kernel_rfl) _) fun a hF => ?_)
 refine wp 1 [1, 6, 10, 11] hF fun a hF => ?_
 refine wpListIn_nil ?_
 refine hK62 _ _ ?_
 refine wpIn_seq_k fun K64 hK64 => ?_
 refine wpIn_region_lit ?_
 refine wp 3 [1, 10, 11, 16] hF fun a hF => ?_
 refine wpListIn_nil ?_
 refine hK64 _ _ ?_
 refine bif_split H (fun hb H => ?_) (fun hb H => ?_)
 refine cond_t hF (by kernel_rfl) hb ?_
 refine wpIn_seq_k fun K65 hK65 => ?_
 refine wpIn_region_lit ?_
 refine wp 1 [4] hF fun a hF => ?_
 refine wpListIn_nil ?_
 refine hK65 _ _ ?_
 refine wpIn_ret ?_
 cases H
 exact ret_done hF hS (res1 Try.results94 (rvt hF)) ⟨rfl, hS.sp [0] []⟩
 refine cond_f hF (by kernel_rfl) hb ?_
 refine wpIn_skip ?_
 refine hK61 _ _ ?_
 refine wpIn_region_lit ?_
 refine wp 2 [1, 10, 11] hF fun a hF => ?_
 refine wpListIn_nil ?_
 exact ⟨fuel1, Nat.lt_succ_self _, _, IntKind.i64.wrap (y58 + 1), hF.kp [1, 10, 11], hS.sp [0] [0, 1, 2], H⟩
 refine cond_f hF (by kernel_rfl) hb ?_
 refine wpIn_exit ?_
 refine hK6 _ _ ?_
 refine wpIn_seq_k fun K66 hK66 => ?_
 refine wpIn_region_lit ?_
 refine wp 1 [4] hF fun a hF => ?_
 refine wpListIn_nil ?_
 refine hK66 _ _ ?_
 refine wpIn_ret ?_
 cases H
 exact ret_done hF hS (res1 Try.results94 (rvt hF)) ⟨rfl, hS.sp [0] []⟩
set_option maxRecDepth 20000 in
set_option maxHeartbeats 1000000 in
theorem C_config_State_speak (N : Nat) {Ms : List Nat} {κ0 : Gh} {w0 : World} (a1 : T_config_State) (a4 : T_api_Cmd) (cs2 : List Value) (b3 : Nat) (hB : SB Ms κ0 w0 [.box b3 30 [si a1.Pool, si a1.Nodes, eb 4 a1.Members, (8, cs2), ei 21 a1.Modes]] [ml a1.Members 4, Arr.mp t_api_Map cs2 4 a1.Maps, ml a1.Modes 21]) {r : (Int × T_config_State)} (H : M.config_State_speak N a1 a4 = some r) :
    Calls Try.prog 82 #[pt b3 0, .agg (flat [si a4.Kind, si a4.DC, si a4.Shard, si a4.Node, si a4.Mode, sg a4.Key]).toArray] w0 (Post Ms κ0 w0 fun v κ w => ∃ cs39 : List Value, v = vi r.1 ∧ SS Ms κ0 w0 κ w [.box b3 30 [si r.2.Pool, si r.2.Nodes, eb 4 r.2.Members, (8, cs39), ei 21 r.2.Modes]] [ml r.2.Members 4, Arr.mp t_api_Map cs39 4 r.2.Maps, ml r.2.Modes 21]) := by
 have hS := hB.hS
 have hfr := hS.fresh
 refine enter (N := (96)) (L := [(0, pt b3 0), (1, .agg (flat [si a4.Kind, si a4.DC, si a4.Shard, si a4.Node, si a4.Mode, sg a4.Key]).toArray)]) Try.func82 rfl Try.ntmps82 (show 2 ≤ (96) by decide) rfl fun a hF => ?_
 unfold M.config_State_speak at H
 refine wpIn_seq_k fun K5 hK5 => ?_
 refine wpIn_region_lit ?_
 refine wc (wbx hF hS [si a4.Kind, si a4.DC, si a4.Shard, si a4.Node, si a4.Mode, sg a4.Key] (sgN 6 sgNil) fun b6 a w hF hS => ?_)
 refine wp 1 [0, 3] hF fun a hF => ?_
 refine wpListIn_nil ?_
 refine hK5 _ _ ?_
 refine wpIn_seq_k fun K7 hK7 => ?_
 refine wpIn_seq_k fun K8 hK8 => ?_
 refine bind_split H (fun v10 hv10 H => ?_)
 refine code_join (fun a w => ∃ κ : Gh, Fr (96) [] [(0, pt b3 0), (3, pt b6 0), (32, vb v10)] a ∧ SS Ms κ0 w0 κ w [.box b6 72 [si a4.Kind, si a4.DC, si a4.Shard, si a4.Node, si a4.Mode, sg a4.Key], .box b3 30 [si a1.Pool, si a1.Nodes, eb 4 a1.Members, (8, cs2), ei 21 a1.Modes]] [ml a1.Members 4, Arr.mp t_api_Map cs2 4 a1.Maps, ml a1.Modes 21] ∧ True) ?_ ?_
 refine rgS hS [] ?_
 have hS := hS.drew
 refine anp [0] [0, 3, 6] hF (hS.sx [0, 1] [0, 1, 2]) fun a hF => ?_
 refine atk 1 (some 7) hF (hS.sx [0, 1] [0, 1, 2]) rfl (vld 0 3 0) fun a hF => ?_
 refine anp [2, 3] [0, 3, 9] hF (hS.sx [0, 1] [0, 1, 2]) fun a hF => ?_
 refine bif_split hv10 (fun hb hv10 => ?_) (fun hb hv10 => ?_)
 have hF := hF.boolv 9 (by kernel_rfl) hb
 refine anp [4, 5, 6, 7, 8, 9, 10, 11, 12, 13, 14, 15, 16, 17, 18, 19, 20, 21, 22, 23, 24, 25, 26] [0, 3, 32] hF (hS.sx [0, 1] [0, 1, 2]) fun a hF => ?_
 refine and_ ?_
 cases hv10
 exact ⟨_, hF.kp [0, 3, 32], hS.sp [0, 1] [0, 1, 2], trivial⟩
 have hF := hF.boolv 9 (by kernel_rfl) hb
 refine anp [4, 6, 7, 8] [0, 3, 9, 10, 14] hF (hS.sx [0, 1] [0, 1, 2]) fun a hF => ?_
 refine atk 5 (some 11) hF (hS.sx [0, 1] [0, 1, 2]) rfl (vld 0 3 0) fun a hF => ?_
 refine atk 9 (some 15) hF (hS.sx [0, 1] [0, 1, 2]) rfl (vld 1 1 0) fun a hF => ?_
 refine anp [10, 11, 12] [0, 3, 18] hF (hS.sx [0, 1] [0, 1, 2]) fun a hF => ?_
 refine bif_split hv10 (fun hb hv10 => ?_) (fun hb hv10 => ?_)
 have hF := hF.boolv 18 (by kernel_rfl) hb
 refine anp [13, 14, 15, 16, 17, 18, 19, 20, 21, 22, 23, 24, 25, 26] [0, 3, 32] hF (hS.sx [0, 1] [0, 1, 2]) fun a hF => ?_
 refine and_ ?_
 cases hv10
 exact ⟨_, hF.kp [0, 3, 32], hS.sp [0, 1] [0, 1, 2], trivial⟩
 have hF := hF.boolv 18 (by kernel_rfl) hb
 refine anp [13] [0, 3, 18, 19] hF (hS.sx [0, 1] [0, 1, 2]) fun a hF => ?_
 refine atk 14 (some 20) hF (hS.sx [0, 1] [0, 1, 2]) rfl (vld 0 3 0) fun a hF => ?_
 refine anp [15, 16, 17] [0, 3, 23] hF (hS.sx [0, 1] [0, 1, 2]) fun a hF => ?_
 refine bif_split hv10 (fun hb hv10 => ?_) (fun hb hv10 => ?_)
 have hF := hF.boolv 23 (by kernel_rfl) hb
 refine anp [18, 19, 20, 21, 22, 23, 24, 25, 26] [0, 3, 32] hF (hS.sx [0, 1] [0, 1, 2]) fun a hF => ?_
 refine and_ ?_
 cases hv10
 exact ⟨_, hF.kp [0, 3, 32], hS.sp [0, 1] [0, 1, 2], trivial⟩
 have hF := hF.boolv 23 (by kernel_rfl) hb
 refine anp [18] [0, 3, 23, 24] hF (hS.sx [0, 1] [0, 1, 2]) fun a hF => ?_
 refine atk 19 (some 25) hF (hS.sx [0, 1] [0, 1, 2]) rfl (vld 0 4 0) fun a hF => ?_
 refine anp [20, 21, 22] [0, 3, 28] hF (hS.sx [0, 1] [0, 1, 2]) fun a hF => ?_
 refine bif_split hv10 (fun hb hv10 => ?_) (fun hb hv10 => ?_)
 have hF := hF.boolv 28 (by kernel_rfl) hb
 refine anp [23, 24, 25, 26] [0, 3, 32] hF (hS.sx [0, 1] [0, 1, 2]) fun a hF => ?_
 refine and_ ?_
 cases hv10
 exact ⟨_, hF.kp [0, 3, 32], hS.sp [0, 1] [0, 1, 2], trivial⟩
 have hF := hF.boolv 28 (by kernel_rfl) hb
 refine anp [23] [0, 3, 28, 29] hF (hS.sx [0, 1] [0, 1, 2]) fun a hF => ?_
 refine atk 24 (some 30) hF (hS.sx [0, 1] [0, 1, 2]) rfl (vld 0 4 0) fun a hF => ?_
 refine anp [25, 26] [0, 3, 32] hF (hS.sx [0, 1] [0, 1, 2]) fun a hF => ?_
 refine and_ ?_
 cases hv10
 exact ⟨_, hF.kp [0, 3, 32], hS.sp [0, 1] [0, 1, 2], trivial⟩
 rintro a w ⟨κ, hF, hS, -⟩
 refine hK8 _ _ ?_
 refine bif_split H (fun hb H => ?_) (fun hb H => ?_)
 refine cond_t hF (by kernel_rfl) hb ?_
 refine wpIn_seq_k fun K11 hK11 => ?_
 refine wpIn_region_lit ?_
 refine wp 1 [4] hF fun a hF => ?_
 refine wpListIn_nil ?_
 refine hK11 _ _ ?_
 refine wpIn_ret ?_
 cases H
 exact ret_done hF hS (res1 Try.results82 (rvt hF)) ⟨cs2, rfl, hS.sp [1] [0, 1, 2]⟩
 refine cond_f hF (by kernel_rfl) hb ?_
 refine wpIn_skip ?_
 refine hK7 _ _ ?_
 refine wpIn_seq_k fun K12 hK12 => ?_
 refine wpIn_region_lit ?_
 refine wp 1 [0, 3, 33] hF fun a hF => ?_
 refine wc (wld hF hS 0 1 0 fun a hF => ?_)
 refine wp 1 [0, 3, 34, 35] hF fun a hF => ?_
 refine wc (wld hF hS 0 3 0 fun a hF => ?_)
 refine wp 1 [0, 3, 34, 37] hF fun a hF => ?_
 refine bind_split H (fun x13 hx13 H => ?_)
 refine wc (wo_callP hF hS (by kernel_rfl) (by kernel_rfl) (C_api_Place N hS.fresh a4.DC (IntKind.i64.wrap (a4.Node - 1))  ((hS.pick [] (by kernel_rfl)).ro) hx13) ?_)
 rintro _ κ w a ⟨rfl, hR, hN⟩ hF hS hO
 refine wp 1 [0, 3, 5] hF fun a hF => ?_
 refine wpListIn_nil ?_
 refine hK12 _ _ ?_
 refine wpIn_seq_k fun K14 hK14 => ?_
 refine wpIn_block ?_
 refine wpIn_seq_k fun K15 hK15 => ?_
 refine rgS hS [] ?_
 have hS := hS.drew
 refine any_pure [0, 1, 2, 3, 6] [0, 3, 5, 41, 43, 46] (L' := [(0, pt b3 0), (3, pt b6 0), (5, vi x13), (41, vi x13), (43, pt b3 14), (46, pt b6 4)]) (listed' := (bitA 10 79)) (fuel := 5) hF (hS.sx [0, 1] [0, 1, 2]) (by kernel_rfl) (by intro c a w t v h; cases t <;> exact h) (by kernel_rfl) rfl fun a hF => ?_
 refine bind_split H (fun x16 hx16 H => ?_)
 refine atk 4 (some 44) hF (hS.sx [0, 1] [0, 1, 2]) rfl (fun w _ => val_indexArr (E := 3) (sz := 1) (n := 21) rfl rfl (i := x13) rfl (idx_lt hx16 (hS.get 2 rfl)) (by kernel_rfl) (by kernel_rfl) w) fun a hF => ?_
 refine atk 5 (some 45) hF (hS.sx [0, 1] [0, 1, 2]) rfl (val_loadA1 (t := (fInt .i64)) 1 4 (v := vi x16) rfl rfl rfl rfl hx16 rfl rfl (by kernel_rfl) (by kernel_rfl)) fun a hF => ?_
 refine atk 7 (some 47) hF (hS.sx [0, 1] [0, 1, 2]) rfl (vld 0 4 0) fun a hF => ?_
 refine anp [8, 9] [0, 3, 5, 39] hF (hS.sx [0, 1] [0, 1, 2]) fun a hF => ?_
 refine and_ ?_
 refine hK15 _ _ ?_
 refine bif_split H (fun hb H => ?_) (fun hb H => ?_)
 refine cond_t hF (by kernel_rfl) hb ?_
 refine wpIn_seq_k fun K17 hK17 => ?_
 refine wpIn_region_lit ?_
 refine wp 1 [4] hF fun a hF => ?_
 refine wpListIn_nil ?_
 refine hK17 _ _ ?_
 refine wpIn_ret ?_
 cases H
 exact ret_done hF hS (res1 Try.results82 (rvt hF)) ⟨cs2, rfl, hS.sp [1] [0, 1, 2]⟩
 refine cond_f hF (by kernel_rfl) hb ?_
 refine seq_join (fun a w => ∃ (κ : Gh) (y18 : Bool), Fr (96) [] [(0, pt b3 0), (3, pt b6 0), (5, vi x13), (49, vb y18)] a ∧ SS Ms κ0 w0 κ w [.box b6 72 [si a4.Kind, si a4.DC, si a4.Shard, si a4.Node, si a4.Mode, sg a4.Key], .box b3 30 [si a1.Pool, si a1.Nodes, eb 4 a1.Members, (8, cs2), ei 21 a1.Modes]] [ml a1.Members 4, Arr.mp t_api_Map cs2 4 a1.Maps, ml a1.Modes 21] ∧ M.config_State_speak_k1 N a1 a4 x13 y18 = some r) ?_ ?_
 refine wpIn_seq_k fun K32 hK32 => ?_
 refine wpIn_region_lit ?_
 refine bind_split H (fun v34 hv34 H => ?_)
 refine wl_join (fun a w => ∃ κ : Gh, Fr (96) [] [(0, pt b3 0), (3, pt b6 0), (5, vi x13), (49, vb v34)] a ∧ SS Ms κ0 w0 κ w [.box b6 72 [si a4.Kind, si a4.DC, si a4.Shard, si a4.Node, si a4.Mode, sg a4.Key], .box b3 30 [si a1.Pool, si a1.Nodes, eb 4 a1.Members, (8, cs2), ei 21 a1.Modes]] [ml a1.Members 4, Arr.mp t_api_Map cs2 4 a1.Maps, ml a1.Modes 21] ∧ True) ?_ ?_
 refine wl_pure (L' := [(0, pt b3 0), (3, pt b6 0), (5, vi x13), (51, vi x13), (53, pt b3 14)]) 4 [0, 3, 5, 51, 53] hF (by kernel_rfl) fun a hF => ?_
 refine bind_split hv34 (fun x35 hx35 hv34 => ?_)
 refine wc (wo_indexArr hF (by kernel_rfl) (E := 3) (sz := 1) (n := 21) rfl rfl (i := x13) rfl (idx_lt hx35 (hS.get 2 rfl)) (by kernel_rfl) (by kernel_rfl) fun a hF => ?_)
 refine wc (wo_loadA1 (t := (fInt .i64)) hF hS (by kernel_rfl) 1 4 (v := vi x35) rfl rfl rfl rfl hx35 rfl rfl (by kernel_rfl) (by kernel_rfl) fun a hF => ?_)
 refine wp 2 [0, 3, 5, 57] hF fun a hF => ?_
 refine bif_split hv34 (fun hb hv34 => ?_) (fun hb hv34 => ?_)
 have hF := hF.boolv 57 (by kernel_rfl) hb
 refine wp 1 [0, 3, 5, 57, 58] hF fun a hF => ?_
 refine wcg hF (wld hF hS 0 4 0 fun a hF => ?_)
 refine wp 3 [0, 3, 5, 49] hF fun a hF => ?_
 refine wpListIn_nil ?_
 cases hv34
 exact ⟨_, hF.kp [0, 3, 5, 49], hS.sp [0, 1] [0, 1, 2], trivial⟩
 have hF := hF.boolv 57 (by kernel_rfl) hb
 refine wp 5 [0, 3, 5, 49] hF fun a hF => ?_
 refine wpListIn_nil ?_
 cases hv34
 exact ⟨_, hF.kp [0, 3, 5, 49], hS.sp [0, 1] [0, 1, 2], trivial⟩
 rintro a w ⟨κ, hF, hS, -⟩
 refine hK32 _ _ ?_
 refine bif_split H (fun hb H => ?_) (fun hb H => ?_)
 refine cond_t hF (by kernel_rfl) hb ?_
 refine wpIn_skip ?_
 exact ⟨_, v34, hF.kp [0, 3, 5, 49], hS.sp [0, 1] [0, 1, 2], H⟩
 refine cond_f hF (by kernel_rfl) hb ?_
 refine wpIn_region_lit ?_
 refine bind_split H (fun v37 hv37 H => ?_)
 refine wl_join (fun a w => ∃ κ : Gh, Fr (96) [] [(0, pt b3 0), (3, pt b6 0), (5, vi x13), (49, vb v37)] a ∧ SS Ms κ0 w0 κ w [.box b6 72 [si a4.Kind, si a4.DC, si a4.Shard, si a4.Node, si a4.Mode, sg a4.Key], .box b3 30 [si a1.Pool, si a1.Nodes, eb 4 a1.Members, (8, cs2), ei 21 a1.Modes]] [ml a1.Members 4, Arr.mp t_api_Map cs2 4 a1.Maps, ml a1.Modes 21] ∧ True) ?_ ?_
 refine wl_pure (L' := [(0, pt b3 0), (3, pt b6 0), (5, vi x13), (63, vi x13), (65, pt b3 14)]) 4 [0, 3, 5, 63, 65] hF (by kernel_rfl) fun a hF => ?_
 refine bind_split hv37 (fun x38 hx38 hv37 => ?_)
 refine wc (wo_indexArr hF (by kernel_rfl) (E := 3) (sz := 1) (n := 21) rfl rfl (i := x13) rfl (idx_lt hx38 (hS.get 2 rfl)) (by kernel_rfl) (by kernel_rfl) fun a hF => ?_)
 refine wc (wo_loadA1 (t := (fInt .i64)) hF hS (by kernel_rfl) 1 4 (v := vi x38) rfl rfl rfl rfl hx38 rfl rfl (by kernel_rfl) (by kernel_rfl) fun a hF => ?_)
 refine wp 2 [0, 3, 5, 69] hF fun a hF => ?_
 refine bif_split hv37 (fun hb hv37 => ?_) (fun hb hv37 => ?_)
 have hF := hF.boolv 69 (by kernel_rfl) hb
 refine wp 1 [0, 3, 5, 69, 70] hF fun a hF => ?_
 refine wcg hF (wld hF hS 0 4 0 fun a hF => ?_)
 refine wp 3 [0, 3, 5, 49] hF fun a hF => ?_
 refine wpListIn_nil ?_
 cases hv37
 exact ⟨_, hF.kp [0, 3, 5, 49], hS.sp [0, 1] [0, 1, 2], trivial⟩
 have hF := hF.boolv 69 (by kernel_rfl) hb
 refine wp 5 [0, 3, 5, 49] hF fun a hF => ?_
 refine wpListIn_nil ?_
 cases hv37
 exact ⟨_, hF.kp [0, 3, 5, 49], hS.sp [0, 1] [0, 1, 2], trivial⟩
 rintro a w ⟨κ, hF, hS, -⟩
 exact ⟨_, v37, hF.kp [0, 3, 5, 49], hS.sp [0, 1] [0, 1, 2], H⟩
 rintro a w ⟨κ, y18, hF, hS, H⟩
 unfold M.config_State_speak_k1 at H
 refine bif_split H (fun hb H => ?_) (fun hb H => ?_)
 refine cond_t hF (by kernel_rfl) hb ?_
 refine wpIn_seq_k fun K19 hK19 => ?_
 refine wpIn_region_lit ?_
 refine wp 1 [4] hF fun a hF => ?_
 refine wpListIn_nil ?_
 refine hK19 _ _ ?_
 refine wpIn_ret ?_
 cases H
 exact ret_done hF hS (res1 Try.results82 (rvt hF)) ⟨cs2, rfl, hS.sp [1] [0, 1, 2]⟩
 refine cond_f hF (by kernel_rfl) hb ?_
 refine seq_join (fun a w => ∃ (κ : Gh) (y20 : Bool), Fr (96) [] [(0, pt b3 0), (3, pt b6 0), (5, vi x13), (74, vb y20)] a ∧ SS Ms κ0 w0 κ w [.box b3 30 [si a1.Pool, si a1.Nodes, eb 4 a1.Members, (8, cs2), ei 21 a1.Modes], .box b6 72 [si a4.Kind, si a4.DC, si a4.Shard, si a4.Node, si a4.Mode, sg a4.Key]] [ml a1.Members 4, Arr.mp t_api_Map cs2 4 a1.Maps, ml a1.Modes 21] ∧ M.config_State_speak_k2 N a1 a4 x13 y20 = some r) ?_ ?_
 refine wpIn_seq_k fun K25 hK25 => ?_
 refine wpIn_region_lit ?_
 refine bind_split H (fun v27 hv27 H => ?_)
 refine wl_join (fun a w => ∃ κ : Gh, Fr (96) [] [(0, pt b3 0), (3, pt b6 0), (5, vi x13), (74, vb v27)] a ∧ SS Ms κ0 w0 κ w [.box b3 30 [si a1.Pool, si a1.Nodes, eb 4 a1.Members, (8, cs2), ei 21 a1.Modes], .box b6 72 [si a4.Kind, si a4.DC, si a4.Shard, si a4.Node, si a4.Mode, sg a4.Key]] [ml a1.Members 4, Arr.mp t_api_Map cs2 4 a1.Maps, ml a1.Modes 21] ∧ True) ?_ ?_
 refine wp 1 [0, 3, 5, 75] hF fun a hF => ?_
 refine wc (wld hF hS 0 4 0 fun a hF => ?_)
 refine wp 2 [0, 3, 5, 78] hF fun a hF => ?_
 refine bif_split hv27 (fun hb hv27 => ?_) (fun hb hv27 => ?_)
 have hF := hF.boolv 78 (by kernel_rfl) hb
 refine wp 1 [0, 3, 5, 78, 79] hF fun a hF => ?_
 refine bind_split hv27 (fun x28 hx28 hv27 => ?_)
 refine wcg hF (wcS 1 [1, 0] hF hS (fun hS => C_config_State_any N (T_config_State.mk a1.Pool a1.Nodes a1.Members a1.Maps a1.Modes) 1 cs2 b3 ⟨rfl, hS.pick [0, 1, 2] (by kernel_rfl)⟩ hx28) ?_)
 rintro _ κ w a ⟨rfl, h2⟩ hF hB
 have hS := hB _ _ h2
 refine wp 2 [0, 3, 5, 74] hF fun a hF => ?_
 refine wpListIn_nil ?_
 cases hv27
 exact ⟨_, hF.kp [0, 3, 5, 74], hS.sp [0, 1] [0, 1, 2], trivial⟩
 have hF := hF.boolv 78 (by kernel_rfl) hb
 refine wp 4 [0, 3, 5, 74] hF fun a hF => ?_
 refine wpListIn_nil ?_
 cases hv27
 exact ⟨_, hF.kp [0, 3, 5, 74], hS.sp [1, 0] [0, 1, 2], trivial⟩
 rintro a w ⟨κ, hF, hS, -⟩
 refine hK25 _ _ ?_
 refine bif_split H (fun hb H => ?_) (fun hb H => ?_)
 refine cond_t hF (by kernel_rfl) hb ?_
 refine wpIn_skip ?_
 exact ⟨_, v27, hF.kp [0, 3, 5, 74], hS.sp [0, 1] [0, 1, 2], H⟩
 refine cond_f hF (by kernel_rfl) hb ?_
 refine wpIn_region_lit ?_
 refine bind_split H (fun v30 hv30 H => ?_)
 refine wl_join (fun a w => ∃ κ : Gh, Fr (96) [] [(0, pt b3 0), (3, pt b6 0), (5, vi x13), (74, vb v30)] a ∧ SS Ms κ0 w0 κ w [.box b3 30 [si a1.Pool, si a1.Nodes, eb 4 a1.Members, (8, cs2), ei 21 a1.Modes], .box b6 72 [si a4.Kind, si a4.DC, si a4.Shard, si a4.Node, si a4.Mode, sg a4.Key]] [ml a1.Members 4, Arr.mp t_api_Map cs2 4 a1.Maps, ml a1.Modes 21] ∧ True) ?_ ?_
 refine wp 1 [0, 3, 5, 82] hF fun a hF => ?_
 refine wc (wld hF hS 1 4 0 fun a hF => ?_)
 refine wp 2 [0, 3, 5, 85] hF fun a hF => ?_
 refine bif_split hv30 (fun hb hv30 => ?_) (fun hb hv30 => ?_)
 have hF := hF.boolv 85 (by kernel_rfl) hb
 refine wp 1 [0, 3, 5, 85, 86] hF fun a hF => ?_
 refine bind_split hv30 (fun x31 hx31 hv30 => ?_)
 refine wcg hF (wcS 1 [0, 1] hF hS (fun hS => C_config_State_any N (T_config_State.mk a1.Pool a1.Nodes a1.Members a1.Maps a1.Modes) 3 cs2 b3 ⟨rfl, hS.pick [0, 1, 2] (by kernel_rfl)⟩ hx31) ?_)
 rintro _ κ w a ⟨rfl, h2⟩ hF hB
 have hS := hB _ _ h2
 refine wp 2 [0, 3, 5, 74] hF fun a hF => ?_
 refine wpListIn_nil ?_
 cases hv30
 exact ⟨_, hF.kp [0, 3, 5, 74], hS.sp [0, 1] [0, 1, 2], trivial⟩
 have hF := hF.boolv 85 (by kernel_rfl) hb
 refine wp 4 [0, 3, 5, 74] hF fun a hF => ?_
 refine wpListIn_nil ?_
 cases hv30
 exact ⟨_, hF.kp [0, 3, 5, 74], hS.sp [0, 1] [0, 1, 2], trivial⟩
 rintro a w ⟨κ, hF, hS, -⟩
 exact ⟨_, v30, hF.kp [0, 3, 5, 74], hS.sp [0, 1] [0, 1, 2], H⟩
 rintro a w ⟨κ, y20, hF, hS, H⟩
 unfold M.config_State_speak_k2 at H
 refine bif_split H (fun hb H => ?_) (fun hb H => ?_)
 refine cond_t hF (by kernel_rfl) hb ?_
 refine wpIn_seq_k fun K21 hK21 => ?_
 refine wpIn_region_lit ?_
 refine wp 1 [4] hF fun a hF => ?_
 refine wpListIn_nil ?_
 refine hK21 _ _ ?_
 refine wpIn_ret ?_
 cases H
 exact ret_done hF hS (res1 Try.results82 (rvt hF)) ⟨cs2, rfl, hS.sp [0] [0, 1, 2]⟩
 refine cond_f hF (by kernel_rfl) hb ?_
 refine wpIn_skip ?_
 refine hK14 _ _ ?_
 refine wpIn_seq_k fun K22 hK22 => ?_
 refine rgS hS [7] ?_
 have hS := hS.drew
 refine any_pure [0, 1, 2, 4, 5] [90, 91, 94] (L' := [(90, vi x13), (91, pt b6 4), (94, pt b3 14)]) (listed' := (bitA 8 55)) (fuel := 3) hF (hS.sx [0, 1] [0, 1, 2]) (by kernel_rfl) (by intro c a w t v h; cases t <;> exact h) (by kernel_rfl) rfl fun a hF => ?_
 refine atk 3 (some 92) hF (hS.sx [0, 1] [0, 1, 2]) rfl (vld 1 4 0) fun a hF => ?_
 refine bind_split H (fun x23 hx23 H => ?_)
 refine atk 6 (some 95) hF (hS.sx [0, 1] [0, 1, 2]) rfl (fun w _ => val_indexArr (E := 3) (sz := 1) (n := 21) rfl rfl (i := x13) rfl (idx_lt hx23 (hS.get 2 rfl)) (by kernel_rfl) (by kernel_rfl) w) fun a hF => ?_
 refine ago 7 hF rfl ?_
 refine wo_storeA1 (t := (fInt .i64)) (y := a4.Mode) (v := vi a4.Mode) hF hS (by kernel_rfl) 0 4 (s' := [si a1.Pool, si a1.Nodes, eb 4 a1.Members, (8, cs2), ei 21 (List.set a1.Modes (Int.toNat x13) a4.Mode)]) (C' := [.box b3 30 [si a1.Pool, si a1.Nodes, eb 4 a1.Members, (8, cs2), ei 21 (List.set a1.Modes (Int.toNat x13) a4.Mode)], .box b6 72 [si a4.Kind, si a4.DC, si a4.Shard, si a4.Node, si a4.Mode, sg a4.Key]]) rfl rfl (by kernel_rfl) rfl rfl hx23 rfl rfl (by kernel_rfl) (by kernel_rfl) (by kernel_rfl) (by kernel_rfl) fun a w hF hS => ?_
 have hS := hS.add (m := ml (List.set a1.Modes (Int.toNat x13) a4.Mode) 21) (List.length_set.trans (hS.get 2 rfl))
 refine ⟨notE, ?_⟩
 refine and_ ?_
 refine hK22 _ _ ?_
 refine wpIn_seq_k fun K24 hK24 => ?_
 refine wpIn_region_lit ?_
 refine wp 1 [4] hF fun a hF => ?_
 refine wpListIn_nil ?_
 refine hK24 _ _ ?_
 refine wpIn_ret ?_
 cases H
 exact ret_done hF hS (res1 Try.results82 (rvt hF)) ⟨cs2, rfl, hS.sp [0] [1, 2, 0]⟩
set_option maxRecDepth 20000 in
set_option maxHeartbeats 1000000 in
theorem C_config_Apply (N : Nat) {κ0 : Gh} {w0 : World} (hfr : Fresh κ0 w0) (a1 : T_config_State) (a3 : T_api_Cmd) (cs2 : List Value) (hR : ∀ m ∈ ([ml a1.Members 4, Arr.mp t_api_Map cs2 4 a1.Maps, ml a1.Modes 21] : List MP), m.p κ0 w0) {r : (T_config_State × Int)} (H : M.config_Apply N a1 a3 = some r) :
    Calls Try.prog 54 #[.agg (flat [si a1.Pool, si a1.Nodes, eb 4 a1.Members, (8, cs2), ei 21 a1.Modes]).toArray, .agg (flat [si a3.Kind, si a3.DC, si a3.Shard, si a3.Node, si a3.Mode, sg a3.Key]).toArray] w0 (Post [] κ0 w0 fun v κ w => ∃ cs102 : List Value, v = .tuple #[.agg (flat [si r.1.Pool, si r.1.Nodes, eb 4 r.1.Members, (8, cs102), ei 21 r.1.Modes]).toArray, vi r.2] ∧ (∀ m ∈ ([ml r.1.Members 4, Arr.mp t_api_Map cs102 4 r.1.Maps, ml r.1.Modes 21] : List MP), m.p κ w) ∧ NewC w0 κ w []) := by
 have hS := SS.start hfr hR
 refine enter (N := (135)) (L := [(0, .agg (flat [si a1.Pool, si a1.Nodes, eb 4 a1.Members, (8, cs2), ei 21 a1.Modes]).toArray), (1, .agg (flat [si a3.Kind, si a3.DC, si a3.Shard, si a3.Node, si a3.Mode, sg a3.Key]).toArray)]) Try.func54 rfl Try.ntmps54 (show 2 ≤ (135) by decide) rfl fun a hF => ?_
 unfold M.config_Apply at H
 refine wpIn_seq_k fun K4 hK4 => ?_
 refine wpIn_region_lit ?_
 refine wc (wbx hF hS [si a1.Pool, si a1.Nodes, eb 4 a1.Members, (8, cs2), ei 21 a1.Modes] (sgN 2 (sgEnc (hS.get 0 rfl) (sgArr (hS.get 1 rfl) (sgEnc (hS.get 2 rfl) sgNil)))) fun b5 a w hF hS => ?_)
 refine wc (wbx hF hS [si a3.Kind, si a3.DC, si a3.Shard, si a3.Node, si a3.Mode, sg a3.Key] (sgN 6 sgNil) fun b6 a w hF hS => ?_)
 have hS := hS.add (m := ml (List.replicate 4 false) 4) (List.length_replicate)
 have hS := hS.add (m := Arr.mp t_api_Map ((List.replicate 4 (flat [sl none 0 0, sl none 0 0])).flatten) 4 (List.replicate 4 (T_api_Map.mk ([] : List ByteArray) ([] : List Int)))) (Arr.zero _ _ _ _ _ z_api_Map)
 have hS := hS.add (m := ml (List.replicate 21 0) 21) (List.length_replicate)
 refine wc (wal hF hS [si 0, si 0, eb 4 (List.replicate 4 false), (8, (List.replicate 4 (flat [sl none 0 0, sl none 0 0])).flatten), ei 21 (List.replicate 21 0)] (sgN 2 (sgEnc List.length_replicate (sgArr (hS.get 1 rfl) (sgEnc List.length_replicate sgNil)))) fun b7 a w hF hS => ?_)
 refine wp 1 [2, 3, 4] hF fun a hF => ?_
 refine wpListIn_nil ?_
 refine hK4 _ _ ?_
 refine wpIn_seq_k fun K8 hK8 => ?_
 refine wpIn_region_lit ?_
 refine wc (wls hF hS 2 0 5 fun a hF => ?_)
 refine bind_split H (fun x9 hx9 H => ?_)
 refine wc (wo_callP hF hS (by kernel_rfl) (by kernel_rfl) (C_config_Copy N hS.fresh (T_config_State.mk a1.Pool a1.Nodes a1.Members a1.Maps a1.Modes) cs2 ((hS.pick [3, 4, 5] (by kernel_rfl)).ro) hx9) ?_)
 rintro _ κ w a ⟨cs10, rfl, hR, hN⟩ hF hS hO
 have hS := hS.adds hR
 refine wc (wal hF hS [si 0, si 0, eb 4 (List.replicate 4 false), (8, (List.replicate 4 (flat [sl none 0 0, sl none 0 0])).flatten), ei 21 (List.replicate 21 0)] (sgN 2 (sgEnc List.length_replicate (sgArr (hS.get 4 rfl) (sgEnc List.length_replicate sgNil)))) fun b11 a w hF hS => ?_)
 refine wc (wst hF hS 0 0 5 [si x9.Pool, si x9.Nodes, eb 4 x9.Members, (8, cs10), ei 21 x9.Modes] (sgN 2 (sgEnc (hS.get 0 rfl) (sgArr (hS.get 1 rfl) (sgEnc (hS.get 2 rfl) sgNil)))) fun a w hF hS => ?_)
 refine wpListIn_nil ?_
 refine hK8 _ _ ?_
 refine wpIn_seq_k fun K12 hK12 => ?_
 refine wpIn_seq_k fun K13 hK13 => ?_
 refine wpIn_region_lit ?_
 refine bind_split H (fun v15 hv15 H => ?_)
 refine wl_join (fun a w => ∃ κ : Gh, Fr (135) [] [(3, pt b6 0), (4, pt b7 0), (6, pt b11 0), (18, vb v15)] a ∧ SS [] κ0 w0 κ w [.box b11 30 [si x9.Pool, si x9.Nodes, eb 4 x9.Members, (8, cs10), ei 21 x9.Modes], .box b7 30 [si 0, si 0, eb 4 (List.replicate 4 false), (8, (List.replicate 4 (flat [sl none 0 0, sl none 0 0])).flatten), ei 21 (List.replicate 21 0)], .box b6 72 [si a3.Kind, si a3.DC, si a3.Shard, si a3.Node, si a3.Mode, sg a3.Key]] [ml x9.Members 4, Arr.mp t_api_Map cs10 4 x9.Maps, ml x9.Modes 21, ml (List.replicate 4 false) 4, Arr.mp t_api_Map ((List.replicate 4 (flat [sl none 0 0, sl none 0 0])).flatten) 4 (List.replicate 4 (T_api_Map.mk ([] : List ByteArray) ([] : List Int))), ml (List.replicate 21 0) 21] ∧ True) ?_ ?_
 refine wp 1 [3, 4, 6, 11] hF fun a hF => ?_
 refine wc (wld hF hS 2 0 0 fun a hF => ?_)
 refine wp 2 [3, 4, 6, 14] hF fun a hF => ?_
 refine bif_split hv15 (fun hb hv15 => ?_) (fun hb hv15 => ?_)
 have hF := hF.boolv 14 (by kernel_rfl) hb
 refine wp 4 [3, 4, 6, 18] hF fun a hF => ?_
 refine wpListIn_nil ?_
 cases hv15
 exact ⟨_, hF.kp [3, 4, 6, 18], hS.sp [0, 1, 2] [0, 1, 2, 5, 4, 3], trivial⟩
 have hF := hF.boolv 14 (by kernel_rfl) hb
 refine wp 1 [3, 4, 6, 14, 15] hF fun a hF => ?_
 refine wcg hF (wld hF hS 2 0 0 fun a hF => ?_)
 refine wp 2 [3, 4, 6, 18] hF fun a hF => ?_
 refine wpListIn_nil ?_
 cases hv15
 exact ⟨_, hF.kp [3, 4, 6, 18], hS.sp [0, 1, 2] [0, 1, 2, 5, 4, 3], trivial⟩
 rintro a w ⟨κ, hF, hS, -⟩
 refine hK13 _ _ ?_
 refine bif_split H (fun hb H => ?_) (fun hb H => ?_)
 refine cond_t hF (by kernel_rfl) hb ?_
 refine wpIn_seq_k fun K16 hK16 => ?_
 refine wpIn_region_lit ?_
 refine wp 1 [4, 19] hF fun a hF => ?_
 refine wc (wst hF hS 1 0 5 [si 0, si 0, eb 4 (List.replicate 4 false), (8, (List.replicate 4 (flat [sl none 0 0, sl none 0 0])).flatten), ei 21 (List.replicate 21 0)] (sgN 2 (sgEnc List.length_replicate (sgArr (hS.get 4 rfl) (sgEnc List.length_replicate sgNil)))) fun a w hF hS => ?_)
 refine wp 1 [4, 5] hF fun a hF => ?_
 refine wpListIn_nil ?_
 refine hK16 _ _ ?_
 refine wpIn_ret ?_
 have hS' := hS
 cases H
 exact (ret_done hF hS (res2 Try.results54 (rvs hF hS' 1 0 5) (rvt hF)) ⟨(List.replicate 4 (flat [sl none 0 0, sl none 0 0])).flatten, rfl, (hS.pick [3, 4, 5] (by kernel_rfl)).ro, hS.newC [] (by decide) (by kernel_rfl)⟩)
 refine cond_f hF (by kernel_rfl) hb ?_
 refine wpIn_skip ?_
 refine hK12 _ _ ?_
 refine wpIn_seq_k fun K17 hK17 => ?_
 refine wpIn_seq_k fun K18 hK18 => ?_
 refine wpIn_region_lit ?_
 refine bind_split H (fun v20 hv20 H => ?_)
 refine wl_join (fun a w => ∃ κ : Gh, Fr (135) [] [(3, pt b6 0), (4, pt b7 0), (6, pt b11 0), (34, vb v20)] a ∧ SS [] κ0 w0 κ w [.box b11 30 [si x9.Pool, si x9.Nodes, eb 4 x9.Members, (8, cs10), ei 21 x9.Modes], .box b7 30 [si 0, si 0, eb 4 (List.replicate 4 false), (8, (List.replicate 4 (flat [sl none 0 0, sl none 0 0])).flatten), ei 21 (List.replicate 21 0)], .box b6 72 [si a3.Kind, si a3.DC, si a3.Shard, si a3.Node, si a3.Mode, sg a3.Key]] [ml x9.Members 4, Arr.mp t_api_Map cs10 4 x9.Maps, ml x9.Modes 21, ml (List.replicate 4 false) 4, Arr.mp t_api_Map ((List.replicate 4 (flat [sl none 0 0, sl none 0 0])).flatten) 4 (List.replicate 4 (T_api_Map.mk ([] : List ByteArray) ([] : List Int))), ml (List.replicate 21 0) 21] ∧ True) ?_ ?_
 refine wp 1 [3, 4, 6, 20] hF fun a hF => ?_
 refine wc (wld hF hS 2 1 0 fun a hF => ?_)
 refine wp 2 [3, 4, 6, 23] hF fun a hF => ?_
 refine bif_split hv20 (fun hb hv20 => ?_) (fun hb hv20 => ?_)
 have hF := hF.boolv 23 (by kernel_rfl) hb
 refine wp 11 [3, 4, 6, 34] hF fun a hF => ?_
 refine wpListIn_nil ?_
 cases hv20
 exact ⟨_, hF.kp [3, 4, 6, 34], hS.sp [0, 1, 2] (rg 6), trivial⟩
 have hF := hF.boolv 23 (by kernel_rfl) hb
 refine wp 1 [3, 4, 6, 23, 24] hF fun a hF => ?_
 refine wcg hF (wld hF hS 2 1 0 fun a hF => ?_)
 refine wp 3 [3, 4, 6, 28] hF fun a hF => ?_
 refine bif_split hv20 (fun hb hv20 => ?_) (fun hb hv20 => ?_)
 have hF := hF.boolv 28 (by kernel_rfl) hb
 refine wp 6 [3, 4, 6, 34] hF fun a hF => ?_
 refine wpListIn_nil ?_
 cases hv20
 exact ⟨_, hF.kp [3, 4, 6, 34], hS.sp [0, 1, 2] (rg 6), trivial⟩
 have hF := hF.boolv 28 (by kernel_rfl) hb
 refine wp 1 [3, 4, 6, 28, 29] hF fun a hF => ?_
 refine wcg hF (wld hF hS 2 1 0 fun a hF => ?_)
 refine wp 1 [3, 4, 6, 28, 30, 31] hF fun a hF => ?_
 refine wcg hF (wld hF hS 0 0 0 fun a hF => ?_)
 refine wp 2 [3, 4, 6, 34] hF fun a hF => ?_
 refine wpListIn_nil ?_
 cases hv20
 exact ⟨_, hF.kp [3, 4, 6, 34], hS.sp [0, 1, 2] (rg 6), trivial⟩
 rintro a w ⟨κ, hF, hS, -⟩
 refine hK18 _ _ ?_
 refine bif_split H (fun hb H => ?_) (fun hb H => ?_)
 refine cond_t hF (by kernel_rfl) hb ?_
 refine wpIn_seq_k fun K21 hK21 => ?_
 refine wpIn_region_lit ?_
 refine wp 1 [4, 35] hF fun a hF => ?_
 refine wc (wst hF hS 1 0 5 [si 0, si 0, eb 4 (List.replicate 4 false), (8, (List.replicate 4 (flat [sl none 0 0, sl none 0 0])).flatten), ei 21 (List.replicate 21 0)] (sgN 2 (sgEnc List.length_replicate (sgArr (hS.get 4 rfl) (sgEnc List.length_replicate sgNil)))) fun a w hF hS => ?_)
 refine wp 1 [4, 5] hF fun a hF => ?_
 refine wpListIn_nil ?_
 refine hK21 _ _ ?_
 refine wpIn_ret ?_
 have hS' := hS
 cases H
 exact (ret_done hF hS (res2 Try.results54 (rvs hF hS' 1 0 5) (rvt hF)) ⟨(List.replicate 4 (flat [sl none 0 0, sl none 0 0])).flatten, rfl, (hS.pick [3, 4, 5] (by kernel_rfl)).ro, hS.newC [] (by decide) (by kernel_rfl)⟩)
 refine cond_f hF (by kernel_rfl) hb ?_
 refine wpIn_skip ?_
 refine hK17 _ _ ?_
 refine wpIn_seq_k fun K22 hK22 => ?_
 refine wpIn_seq_k fun K23 hK23 => ?_
 refine wpIn_region_lit ?_
 refine wp 1 [3, 4, 6, 36] hF fun a hF => ?_
 refine wc (wld hF hS 2 0 0 fun a hF => ?_)
 refine wp 1 [3, 4, 6, 38] hF fun a hF => ?_
 refine wpListIn_nil ?_
 refine hK23 _ _ ?_
 refine bif_split H (fun hb H => ?_) (fun hb H => ?_)
 refine cond_t hF (by kernel_rfl) hb ?_
 refine wpIn_seq_k fun K24 hK24 => ?_
 refine wpIn_seq_k fun K25 hK25 => ?_
 refine wpIn_region_lit ?_
 refine wp 1 [3, 4, 6, 39] hF fun a hF => ?_
 refine wc (wld hF hS 2 1 0 fun a hF => ?_)
 refine wl_pure (L' := [(3, pt b6 0), (4, pt b7 0), (6, pt b11 0), (40, vi a3.DC), (41, pt b11 2)]) 1 [3, 4, 6, 40, 41] hF (by kernel_rfl) fun a hF => ?_
 refine bind_split H (fun x26 hx26 H => ?_)
 refine wc (wo_indexArr hF (by kernel_rfl) (E := 4) (sz := 1) (n := 4) rfl rfl (i := a3.DC) rfl (idx_lt hx26 (hS.get 0 rfl)) (by kernel_rfl) (by kernel_rfl) fun a hF => ?_)
 refine wc (wo_loadA1 (t := fBool) hF hS (by kernel_rfl) 0 2 (v := vb x26) rfl rfl rfl rfl hx26 rfl rfl (by kernel_rfl) (by kernel_rfl) fun a hF => ?_)
 refine wpListIn_nil ?_
 refine hK25 _ _ ?_
 refine bif_split H (fun hb H => ?_) (fun hb H => ?_)
 refine cond_t hF (by kernel_rfl) hb ?_
 refine wpIn_seq_k fun K27 hK27 => ?_
 refine wpIn_region_lit ?_
 refine wp 1 [4, 44] hF fun a hF => ?_
 refine wc (wst hF hS 1 0 5 [si 0, si 0, eb 4 (List.replicate 4 false), (8, (List.replicate 4 (flat [sl none 0 0, sl none 0 0])).flatten), ei 21 (List.replicate 21 0)] (sgN 2 (sgEnc List.length_replicate (sgArr (hS.get 4 rfl) (sgEnc List.length_replicate sgNil)))) fun a w hF hS => ?_)
 refine wp 1 [4, 5] hF fun a hF => ?_
 refine wpListIn_nil ?_
 refine hK27 _ _ ?_
 refine wpIn_ret ?_
 have hS' := hS
 cases H
 exact (ret_done hF hS (res2 Try.results54 (rvs hF hS' 1 0 5) (rvt hF)) ⟨(List.replicate 4 (flat [sl none 0 0, sl none 0 0])).flatten, rfl, (hS.pick [3, 4, 5] (by kernel_rfl)).ro, hS.newC [] (by decide) (by kernel_rfl)⟩)
 refine cond_f hF (by kernel_rfl) hb ?_
 refine wpIn_skip ?_
 refine hK24 _ _ ?_
 refine wpIn_seq_k fun K28 hK28 => ?_
 refine wpIn_region_lit ?_
 refine wp 1 [3, 4, 6, 45] hF fun a hF => ?_
 refine wc (wld hF hS 2 1 0 fun a hF => ?_)
 refine wl_pure (L' := [(3, pt b6 0), (4, pt b7 0), (6, pt b11 0), (46, vi a3.DC), (47, pt b11 2)]) 1 [3, 4, 6, 46, 47] hF (by kernel_rfl) fun a hF => ?_
 refine bind_split H (fun x29 hx29 H => ?_)
 refine wc (wo_indexArr hF (by kernel_rfl) (E := 4) (sz := 1) (n := 4) rfl rfl (i := a3.DC) rfl (idx_lt hx29 (hS.get 0 rfl)) (by kernel_rfl) (by kernel_rfl) fun a hF => ?_)
 refine wc (wo_storeA1 (t := fBool) (y := true) (v := vb true) hF hS (by kernel_rfl) 0 2 (s' := [si x9.Pool, si x9.Nodes, eb 4 (List.set x9.Members (Int.toNat a3.DC) true), (8, cs10), ei 21 x9.Modes]) (C' := [.box b11 30 [si x9.Pool, si x9.Nodes, eb 4 (List.set x9.Members (Int.toNat a3.DC) true), (8, cs10), ei 21 x9.Modes], .box b7 30 [si 0, si 0, eb 4 (List.replicate 4 false), (8, (List.replicate 4 (flat [sl none 0 0, sl none 0 0])).flatten), ei 21 (List.replicate 21 0)], .box b6 72 [si a3.Kind, si a3.DC, si a3.Shard, si a3.Node, si a3.Mode, sg a3.Key]]) rfl rfl (by kernel_rfl) rfl rfl hx29 rfl rfl (by kernel_rfl) (by kernel_rfl) (by kernel_rfl) (by kernel_rfl) fun a w hF hS => ?_)
 have hS := hS.add (m := ml (List.set x9.Members (Int.toNat a3.DC) true) 4) (List.length_set.trans (hS.get 0 rfl))
 refine wpListIn_nil ?_
 refine hK28 _ _ ?_
 refine wpIn_seq_k fun K30 hK30 => ?_
 refine rgS hS [5] ?_
 have hS := hS.drew
 refine any_pure [0, 3] [3, 4, 6, 49, 52] (L' := [(3, pt b6 0), (4, pt b7 0), (6, pt b11 0), (49, pt b6 1), (52, pt b11 6)]) (listed' := #[true, false, false, true, false, false]) (fuel := 4) hF (hS.sx [0, 1, 2] (rg 7)) (by kernel_rfl) (by intro c a w t v h; cases t <;> exact h) (by kernel_rfl) rfl fun a hF => ?_
 refine atk 1 (some 50) hF (hS.sx [0, 1, 2] (rg 7)) rfl (vld 2 1 0) fun a hF => ?_
 refine ago 2 hF rfl ?_
 refine bind_split H (fun x31 hx31 H => ?_)
 refine wo_callP hF hS (by kernel_rfl) (by kernel_rfl) (C_span_Whole N hS.fresh 0  ((hS.pick [] (by kernel_rfl)).ro) hx31) ?_
 rintro _ κ w a ⟨p32, c33, p34, c35, rfl, hR, hN⟩ hF hS hO
 have hS := hS.adds hR
 have hS := hS.addC hO hN
 refine ⟨fun _ => (hS.sx [2, 3, 4] [2, 3, 4, 5, 6, 7, 8]), ?_⟩
 refine bind_split H (fun x36 hx36 H => ?_)
 refine atk 4 (some 53) hF (hS.sx [2, 3, 4] [2, 3, 4, 5, 6, 7, 8]) rfl (fun w _ => val_indexArr (E := 26) (sz := 2) (n := 4) rfl rfl (i := a3.DC) rfl (idx_lt hx36 ((hS.get 4 rfl : ArrP _ _ _ _ _ _).1)) (by kernel_rfl) (by kernel_rfl) w) fun a hF => ?_
 refine ago 5 hF rfl ?_
 refine wo_storeATy (t := t_api_Map) (n := 4) (new := (flat [sl p32 (x31.Cuts).length c33, sl p34 (x31.Nodes).length c35])) (y := (T_api_Map.mk x31.Cuts x31.Nodes)) (v := .agg (flat [sl p32 (x31.Cuts).length c33, sl p34 (x31.Nodes).length c35]).toArray) hF hS (by kernel_rfl) 2 3 4 (s' := [si x9.Pool, si x9.Nodes, eb 4 (List.set x9.Members (Int.toNat a3.DC) true), (8, (splice cs10 (Int.toNat a3.DC * 2) (flat [sl p32 (x31.Cuts).length c33, sl p34 (x31.Nodes).length c35]))), ei 21 x9.Modes]) (C' := [.tok p32 9 1 (x31.Cuts).length c33, .tok p34 3 1 (x31.Nodes).length c35, .box b11 30 [si x9.Pool, si x9.Nodes, eb 4 (List.set x9.Members (Int.toNat a3.DC) true), (8, (splice cs10 (Int.toNat a3.DC * 2) (flat [sl p32 (x31.Cuts).length c33, sl p34 (x31.Nodes).length c35]))), ei 21 x9.Modes], .box b7 30 [si 0, si 0, eb 4 (List.replicate 4 false), (8, (List.replicate 4 (flat [sl none 0 0, sl none 0 0])).flatten), ei 21 (List.replicate 21 0)], .box b6 72 [si a3.Kind, si a3.DC, si a3.Shard, si a3.Node, si a3.Mode, sg a3.Key]]) rfl rfl (by kernel_rfl) (by kernel_rfl) rfl rfl rfl hx36 ⟨(p32, c33, p34, c35), rfl, (hS.pick [0, 1] (by kernel_rfl)).ro⟩ (by kernel_rfl) (by kernel_rfl) (by kernel_rfl) (by kernel_rfl) (by kernel_rfl) fun a w hF hS => ?_
 refine ⟨notE, ?_⟩
 refine and_ ?_
 refine hK30 _ _ ?_
 refine wpIn_seq_k fun K37 hK37 => ?_
 refine wpIn_region_lit ?_
 refine wp 1 [4, 6, 54] hF fun a hF => ?_
 refine wc (wld hF hS 4 1 0 fun a hF => ?_)
 refine bind_split H (fun x38 hx38 H => ?_)
 refine wc (wcS 1 [2, 0, 1, 3, 4] hF hS (fun hS => C_config_State_both N (T_config_State.mk x9.Pool x9.Nodes (List.set x9.Members (Int.toNat a3.DC) true) (List.set x9.Maps (Int.toNat a3.DC) (T_api_Map.mk x31.Cuts x31.Nodes)) x9.Modes) a3.DC (splice cs10 (Int.toNat a3.DC * 2) (flat [sl p32 (x31.Cuts).length c33, sl p34 (x31.Nodes).length c35])) b11 ⟨rfl, hS.pick [3, 0, 6] (by kernel_rfl)⟩ hx38) ?_)
 rintro _ κ w a ⟨cs39, rfl, h2⟩ hF hB
 have hS := hB _ _ h2
 refine wpListIn_nil ?_
 refine hK37 _ _ ?_
 refine wpIn_seq_k fun K40 hK40 => ?_
 refine wpIn_region_lit ?_
 refine wc (wls hF hS 0 0 5 fun a hF => ?_)
 refine wc (wst hF hS 3 0 5 [si x38.Pool, si x38.Nodes, eb 4 x38.Members, (8, cs39), ei 21 x38.Modes] (sgN 2 (sgEnc (hS.get 0 rfl) (sgArr (hS.get 1 rfl) (sgEnc (hS.get 2 rfl) sgNil)))) fun a w hF hS => ?_)
 refine wp 1 [4, 5] hF fun a hF => ?_
 refine wpListIn_nil ?_
 refine hK40 _ _ ?_
 refine wpIn_ret ?_
 have hS' := hS
 cases H
 exact (ret_done hF hS (res2 Try.results54 (rvs hF hS' 3 0 5) (rvt hF)) ⟨cs39, rfl, (hS.pick [0, 1, 2] (by kernel_rfl)).ro, hS.newC [] (by decide) (by kernel_rfl)⟩)
 refine cond_f hF (by kernel_rfl) hb ?_
 refine wpIn_skip ?_
 refine hK22 _ _ ?_
 refine wpIn_seq_k fun K41 hK41 => ?_
 refine wpIn_seq_k fun K42 hK42 => ?_
 refine wpIn_region_lit ?_
 refine wp 1 [3, 4, 6, 58] hF fun a hF => ?_
 refine wc (wld hF hS 2 1 0 fun a hF => ?_)
 refine wl_pure (L' := [(3, pt b6 0), (4, pt b7 0), (6, pt b11 0), (59, vi a3.DC), (60, pt b11 2)]) 1 [3, 4, 6, 59, 60] hF (by kernel_rfl) fun a hF => ?_
 refine bind_split H (fun x43 hx43 H => ?_)
 refine wc (wo_indexArr hF (by kernel_rfl) (E := 4) (sz := 1) (n := 4) rfl rfl (i := a3.DC) rfl (idx_lt hx43 (hS.get 0 rfl)) (by kernel_rfl) (by kernel_rfl) fun a hF => ?_)
 refine wc (wo_loadA1 (t := fBool) hF hS (by kernel_rfl) 0 2 (v := vb x43) rfl rfl rfl rfl hx43 rfl rfl (by kernel_rfl) (by kernel_rfl) fun a hF => ?_)
 refine wp 1 [3, 4, 6, 63] hF fun a hF => ?_
 refine wpListIn_nil ?_
 refine hK42 _ _ ?_
 refine bif_split H (fun hb H => ?_) (fun hb H => ?_)
 refine cond_t hF (by kernel_rfl) hb ?_
 refine wpIn_seq_k fun K44 hK44 => ?_
 refine wpIn_region_lit ?_
 refine wp 1 [4, 64] hF fun a hF => ?_
 refine wc (wst hF hS 1 0 5 [si 0, si 0, eb 4 (List.replicate 4 false), (8, (List.replicate 4 (flat [sl none 0 0, sl none 0 0])).flatten), ei 21 (List.replicate 21 0)] (sgN 2 (sgEnc List.length_replicate (sgArr (hS.get 4 rfl) (sgEnc List.length_replicate sgNil)))) fun a w hF hS => ?_)
 refine wp 1 [4, 5] hF fun a hF => ?_
 refine wpListIn_nil ?_
 refine hK44 _ _ ?_
 refine wpIn_ret ?_
 have hS' := hS
 cases H
 exact (ret_done hF hS (res2 Try.results54 (rvs hF hS' 1 0 5) (rvt hF)) ⟨(List.replicate 4 (flat [sl none 0 0, sl none 0 0])).flatten, rfl, (hS.pick [3, 4, 5] (by kernel_rfl)).ro, hS.newC [] (by decide) (by kernel_rfl)⟩)
 refine cond_f hF (by kernel_rfl) hb ?_
 refine wpIn_skip ?_
 refine hK41 _ _ ?_
 refine wpIn_seq_k fun K45 hK45 => ?_
 refine wpIn_region_lit ?_
 refine wp 1 [3, 4, 6, 65] hF fun a hF => ?_
 refine wc (wld hF hS 2 1 0 fun a hF => ?_)
 refine wl_pure (L' := [(3, pt b6 0), (4, pt b7 0), (6, pt b11 0), (66, vi a3.DC), (67, pt b11 6)]) 1 [3, 4, 6, 66, 67] hF (by kernel_rfl) fun a hF => ?_
 refine bind_split H (fun x46 hx46 H => ?_)
 refine wc (wo_indexArr hF (by kernel_rfl) (E := 26) (sz := 2) (n := 4) rfl rfl (i := a3.DC) rfl (idx_lt hx46 ((hS.get 1 rfl : ArrP _ _ _ _ _ _).1)) (by kernel_rfl) (by kernel_rfl) fun a hF => ?_)
 refine wc (wo_loadATy (t := t_api_Map) (n := 4) hF hS (by kernel_rfl) 0 3 1 rfl rfl rfl rfl rfl hx46 (by kernel_rfl) (by kernel_rfl) (by kernel_rfl) (by kernel_rfl) ?_)
 rintro _ a ⟨⟨p47, c48, p49, c50⟩, rfl, hR⟩ hF
 have hS := hS.adds hR
 refine wc (wal hF hS [sl none 0 0, sl none 0 0] (sgN 2 sgNil) fun b51 a w hF hS => ?_)
 refine wc (wst hF hS 0 0 2 [sl p47 (x46.Cuts).length c48, sl p49 (x46.Nodes).length c50] (sgN 2 sgNil) fun a w hF hS => ?_)
 refine wp 1 [3, 4, 6, 7, 8] hF fun a hF => ?_
 refine wpListIn_nil ?_
 refine hK45 _ _ ?_
 refine seq_join (fun a w => ∃ (κ : Gh) (y52 y53 : Int) (y54 : List Bool) (y55 : List T_api_Map) (cs56 : List Value) (y57 : List Int) (y58 : List ByteArray) (p59 : Option Addr) (c60 : Nat) (y61 : List Int) (p62 : Option Addr) (c63 : Nat) (y64 : Int), Fr (135) [] [(3, pt b6 0), (4, pt b7 0), (6, pt b11 0), (7, pt b51 0), (8, vi y64)] a ∧ SS [] κ0 w0 κ w [.box b11 30 [si y52, si y53, eb 4 y54, (8, cs56), ei 21 y57], .box b51 26 [sl p59 (y58).length c60, sl p62 (y61).length c63], .box b7 30 [si 0, si 0, eb 4 (List.replicate 4 false), (8, (List.replicate 4 (flat [sl none 0 0, sl none 0 0])).flatten), ei 21 (List.replicate 21 0)], .box b6 72 [si a3.Kind, si a3.DC, si a3.Shard, si a3.Node, si a3.Mode, sg a3.Key]] [ml y54 4, Arr.mp t_api_Map cs56 4 y55, ml y57 21, Ro.mp fStr.ty p59 c60 y58, Ro.mp (fInt .i64).ty p62 c63 y61, ml (List.replicate 4 false) 4, Arr.mp t_api_Map ((List.replicate 4 (flat [sl none 0 0, sl none 0 0])).flatten) 4 (List.replicate 4 (T_api_Map.mk ([] : List ByteArray) ([] : List Int))), ml (List.replicate 21 0) 21] ∧ M.config_Apply_k1 N a3 y52 y53 y54 y55 y57 y58 y61 y64 = some r) ?_ ?_
 refine wpIn_seq_k fun K71 hK71 => ?_
 refine wpIn_region_lit ?_
 refine wp 1 [3, 4, 6, 7, 8, 70] hF fun a hF => ?_
 refine wc (wld hF hS 3 0 0 fun a hF => ?_)
 refine wpListIn_nil ?_
 refine hK71 _ _ ?_
 refine wpIn_block ?_
 refine wpIn_seq_k fun K72 hK72 => ?_
 refine wpIn_region_lit ?_
 refine wp 2 [3, 4, 6, 7, 8, 71, 74] hF fun a hF => ?_
 refine wpListIn_nil ?_
 refine hK72 _ _ ?_
 refine bif_split H (fun hb H => ?_) (fun hb H => ?_)
 refine cond_t hF (by kernel_rfl) hb ?_
 refine wpIn_seq_k fun K73 hK73 => ?_
 refine wpIn_seq_k fun K74 hK74 => ?_
 refine wpIn_region_lit ?_
 refine wc (wls hF hS 1 0 5 fun a hF => ?_)
 refine bind_split H (fun x75 hx75 H => ?_)
 refine wc (wo_callP hF hS (by kernel_rfl) (by kernel_rfl) (C_config_Count N hS.fresh (T_config_State.mk x9.Pool x9.Nodes x9.Members x9.Maps x9.Modes) cs10 ((hS.pick [2, 3, 4] (by kernel_rfl)).ro) hx75) ?_)
 rintro _ κ w a ⟨rfl, hR, hN⟩ hF hS hO
 refine wp 1 [3, 4, 6, 7, 8, 78] hF fun a hF => ?_
 refine wpListIn_nil ?_
 refine hK74 _ _ ?_
 refine bif_split H (fun hb H => ?_) (fun hb H => ?_)
 refine cond_t hF (by kernel_rfl) hb ?_
 refine wpIn_seq_k fun K76 hK76 => ?_
 refine wpIn_region_lit ?_
 refine wp 1 [4, 79] hF fun a hF => ?_
 refine wc (wst hF hS 2 0 5 [si 0, si 0, eb 4 (List.replicate 4 false), (8, (List.replicate 4 (flat [sl none 0 0, sl none 0 0])).flatten), ei 21 (List.replicate 21 0)] (sgN 2 (sgEnc List.length_replicate (sgArr (hS.get 6 rfl) (sgEnc List.length_replicate sgNil)))) fun a w hF hS => ?_)
 refine wp 1 [4, 5] hF fun a hF => ?_
 refine wpListIn_nil ?_
 refine hK76 _ _ ?_
 refine wpIn_ret ?_
 have hS' := hS
 cases H
 exact (ret_done hF hS (res2 Try.results54 (rvs hF hS' 2 0 5) (rvt hF)) ⟨(List.replicate 4 (flat [sl none 0 0, sl none 0 0])).flatten, rfl, (hS.pick [5, 6, 7] (by kernel_rfl)).ro, hS.newC [] (by decide) (by kernel_rfl)⟩)
 refine cond_f hF (by kernel_rfl) hb ?_
 refine wpIn_skip ?_
 refine hK73 _ _ ?_
 refine wpIn_seq_k fun K77 hK77 => ?_
 refine wpIn_region_lit ?_
 refine wp 1 [3, 4, 6, 7, 8, 80] hF fun a hF => ?_
 refine wc (wld hF hS 3 1 0 fun a hF => ?_)
 refine wl_pure (L' := [(3, pt b6 0), (4, pt b7 0), (6, pt b11 0), (7, pt b51 0), (8, vi 0), (81, vi a3.DC), (82, pt b11 2)]) 1 [3, 4, 6, 7, 8, 81, 82] hF (by kernel_rfl) fun a hF => ?_
 refine bind_split H (fun x78 hx78 H => ?_)
 refine wc (wo_indexArr hF (by kernel_rfl) (E := 4) (sz := 1) (n := 4) rfl rfl (i := a3.DC) rfl (idx_lt hx78 (hS.get 2 rfl)) (by kernel_rfl) (by kernel_rfl) fun a hF => ?_)
 refine wc (wo_storeA1 (t := fBool) (y := false) (v := vb false) hF hS (by kernel_rfl) 1 2 (s' := [si x9.Pool, si x9.Nodes, eb 4 (List.set x9.Members (Int.toNat a3.DC) false), (8, cs10), ei 21 x9.Modes]) (C' := [.box b51 26 [sl p47 (x46.Cuts).length c48, sl p49 (x46.Nodes).length c50], .box b11 30 [si x9.Pool, si x9.Nodes, eb 4 (List.set x9.Members (Int.toNat a3.DC) false), (8, cs10), ei 21 x9.Modes], .box b7 30 [si 0, si 0, eb 4 (List.replicate 4 false), (8, (List.replicate 4 (flat [sl none 0 0, sl none 0 0])).flatten), ei 21 (List.replicate 21 0)], .box b6 72 [si a3.Kind, si a3.DC, si a3.Shard, si a3.Node, si a3.Mode, sg a3.Key]]) rfl rfl (by kernel_rfl) rfl rfl hx78 rfl rfl (by kernel_rfl) (by kernel_rfl) (by kernel_rfl) (by kernel_rfl) fun a w hF hS => ?_)
 have hS := hS.add (m := ml (List.set x9.Members (Int.toNat a3.DC) false) 4) (List.length_set.trans (hS.get 2 rfl))
 refine wpListIn_nil ?_
 refine hK77 _ _ ?_
 refine wpIn_seq_k fun K79 hK79 => ?_
 refine wpIn_region_lit ?_
 refine wp 1 [3, 4, 6, 7, 8, 84] hF fun a hF => ?_
 refine wc (wst hF hS 0 0 2 [sl none 0 0, sl none 0 0] (sgN 2 sgNil) fun a w hF hS => ?_)
 refine wpListIn_nil ?_
 refine hK79 _ _ ?_
 refine wpIn_region_lit ?_
 refine wp 1 [3, 4, 6, 7, 8, 85] hF fun a hF => ?_
 refine wc (wld hF hS 3 1 0 fun a hF => ?_)
 refine bind_split H (fun x80 hx80 H => ?_)
 refine wc (wcS 1 [1, 0, 2, 3] hF hS (fun hS => C_config_State_both N (T_config_State.mk x9.Pool x9.Nodes (List.set x9.Members (Int.toNat a3.DC) false) x9.Maps x9.Modes) a3.DC cs10 b11 ⟨rfl, hS.pick [0, 4, 5] (by kernel_rfl)⟩ hx80) ?_)
 rintro _ κ w a ⟨cs81, rfl, h2⟩ hF hB
 have hS := hB _ _ h2
 refine wpListIn_nil ?_
 have hS := hS.add (m := Ro.mp fStr.ty none 0 ([] : List ByteArray)) (Ro.nil fStr.ty _ _)
 have hS := hS.add (m := Ro.mp (fInt .i64).ty none 0 ([] : List Int)) (Ro.nil (fInt .i64).ty _ _)
 exact ⟨_, x80.Pool, x80.Nodes, x80.Members, x80.Maps, cs81, x80.Modes, ([] : List ByteArray), none, 0, ([] : List Int), none, 0, 0, hF.kp [3, 4, 6, 7, 8], hS.sp (rg 4) [2, 3, 4, 1, 0, 11, 12, 13], H⟩
 refine cond_f hF (by kernel_rfl) hb ?_
 refine wpIn_seq_k fun K82 hK82 => ?_
 refine wpIn_region_lit ?_
 refine wp 2 [3, 4, 6, 7, 71, 88] hF fun a hF => ?_
 refine wpListIn_nil ?_
 refine hK82 _ _ ?_
 refine bif_split H (fun hb H => ?_) (fun hb H => ?_)
 refine cond_t hF (by kernel_rfl) hb ?_
 refine wpIn_region_lit ?_
 refine wc (wls hF hS 0 0 2 fun a hF => ?_)
 refine wp 1 [3, 4, 6, 7, 91, 92] hF fun a hF => ?_
 refine wc (wld hF hS 1 1 0 fun a hF => ?_)
 refine wp 1 [3, 4, 6, 7, 91, 93, 94] hF fun a hF => ?_
 refine wc (wld hF hS 3 2 0 fun a hF => ?_)
 refine wp 1 [3, 4, 6, 7, 91, 93, 95, 96] hF fun a hF => ?_
 refine wc (wld hF hS 3 5 0 fun a hF => ?_)
 refine bind_split H (fun x83 hx83 H => ?_)
 refine wc (wo_callP hF hS (by kernel_rfl) (by kernel_rfl) (C_span_Split N hS.fresh (T_api_Map.mk x46.Cuts x46.Nodes) x9.Nodes a3.Shard a3.Key p47 c48 p49 c50 ((hS.pick [0, 1] (by kernel_rfl)).ro) hx83) ?_)
 rintro _ κ w a ⟨p84, c85, p86, c87, rfl, hR, hN⟩ hF hS hO
 have hS := hS.adds hR
 have hS := hS.addC hO hN
 refine wp 3 [3, 4, 6, 7, 99, 100] hF fun a hF => ?_
 refine wc (wst hF hS 2 0 2 [sl p84 (x83.1.Cuts).length c85, sl p86 (x83.1.Nodes).length c87] (sgN 2 sgNil) fun a w hF hS => ?_)
 refine wp 1 [3, 4, 6, 7, 8] hF fun a hF => ?_
 refine wpListIn_nil ?_
 exact ⟨_, x9.Pool, x9.Nodes, x9.Members, x9.Maps, cs10, x9.Modes, x83.1.Cuts, p84, c85, x83.1.Nodes, p86, c87, x83.2, hF.kp [3, 4, 6, 7, 8], hS.sp [3, 2, 4, 5] [4, 5, 6, 0, 1, 7, 8, 9], H⟩
 refine cond_f hF (by kernel_rfl) hb ?_
 refine wpIn_seq_k fun K88 hK88 => ?_
 refine wpIn_region_lit ?_
 refine wp 2 [3, 4, 6, 7, 71, 101] hF fun a hF => ?_
 refine wpListIn_nil ?_
 refine hK88 _ _ ?_
 refine bif_split H (fun hb H => ?_) (fun hb H => ?_)
 refine cond_t hF (by kernel_rfl) hb ?_
 refine wpIn_region_lit ?_
 refine wc (wls hF hS 0 0 2 fun a hF => ?_)
 refine wp 1 [3, 4, 6, 7, 104, 105] hF fun a hF => ?_
 refine wc (wld hF hS 1 1 0 fun a hF => ?_)
 refine wp 1 [3, 4, 6, 7, 104, 106, 107] hF fun a hF => ?_
 refine wc (wld hF hS 3 2 0 fun a hF => ?_)
 refine bind_split H (fun x89 hx89 H => ?_)
 refine wc (wo_callP hF hS (by kernel_rfl) (by kernel_rfl) (C_span_Merge N hS.fresh (T_api_Map.mk x46.Cuts x46.Nodes) x9.Nodes a3.Shard p47 c48 p49 c50 ((hS.pick [0, 1] (by kernel_rfl)).ro) hx89) ?_)
 rintro _ κ w a ⟨p90, c91, p92, c93, rfl, hR, hN⟩ hF hS hO
 have hS := hS.adds hR
 have hS := hS.addC hO hN
 refine wp 3 [3, 4, 6, 7, 110, 111] hF fun a hF => ?_
 refine wc (wst hF hS 2 0 2 [sl p90 (x89.1.Cuts).length c91, sl p92 (x89.1.Nodes).length c93] (sgN 2 sgNil) fun a w hF hS => ?_)
 refine wp 1 [3, 4, 6, 7, 8] hF fun a hF => ?_
 refine wpListIn_nil ?_
 exact ⟨_, x9.Pool, x9.Nodes, x9.Members, x9.Maps, cs10, x9.Modes, x89.1.Cuts, p90, c91, x89.1.Nodes, p92, c93, x89.2, hF.kp [3, 4, 6, 7, 8], hS.sp [3, 2, 4, 5] [4, 5, 6, 0, 1, 7, 8, 9], H⟩
 refine cond_f hF (by kernel_rfl) hb ?_
 refine wpIn_seq_k fun K94 hK94 => ?_
 refine wpIn_region_lit ?_
 refine wp 2 [3, 4, 6, 7, 112] hF fun a hF => ?_
 refine wpListIn_nil ?_
 refine hK94 _ _ ?_
 refine bif_split H (fun hb H => ?_) (fun hb H => ?_)
 refine cond_t hF (by kernel_rfl) hb ?_
 refine wpIn_region_lit ?_
 refine wc (wls hF hS 0 0 2 fun a hF => ?_)
 refine wp 1 [3, 4, 6, 7, 115, 116] hF fun a hF => ?_
 refine wc (wld hF hS 1 1 0 fun a hF => ?_)
 refine wp 1 [3, 4, 6, 7, 115, 117, 118] hF fun a hF => ?_
 refine wc (wld hF hS 3 2 0 fun a hF => ?_)
 refine wp 1 [3, 4, 6, 7, 115, 117, 119, 120] hF fun a hF => ?_
 refine wc (wld hF hS 3 3 0 fun a hF => ?_)
 refine bind_split H (fun x95 hx95 H => ?_)
 refine wc (wo_callP hF hS (by kernel_rfl) (by kernel_rfl) (C_span_Move N hS.fresh (T_api_Map.mk x46.Cuts x46.Nodes) x9.Nodes a3.Shard a3.Node p47 c48 p49 c50 ((hS.pick [0, 1] (by kernel_rfl)).ro) hx95) ?_)
 rintro _ κ w a ⟨p96, c97, p98, c99, rfl, hR, hN⟩ hF hS hO
 have hS := hS.adds hR
 have hS := hS.addC hO hN
 refine wp 3 [3, 4, 6, 7, 123, 124] hF fun a hF => ?_
 refine wc (wst hF hS 2 0 2 [sl p96 (x95.1.Cuts).length c97, sl p98 (x95.1.Nodes).length c99] (sgN 2 sgNil) fun a w hF hS => ?_)
 refine wp 1 [3, 4, 6, 7, 8] hF fun a hF => ?_
 refine wpListIn_nil ?_
 exact ⟨_, x9.Pool, x9.Nodes, x9.Members, x9.Maps, cs10, x9.Modes, x95.1.Cuts, p96, c97, x95.1.Nodes, p98, c99, x95.2, hF.kp [3, 4, 6, 7, 8], hS.sp [3, 2, 4, 5] [4, 5, 6, 0, 1, 7, 8, 9], H⟩
 refine cond_f hF (by kernel_rfl) hb ?_
 refine wpIn_region_lit ?_
 refine wc (wls hF hS 3 0 6 fun a hF => ?_)
 refine bind_split H (fun x100 hx100 H => ?_)
 refine wc (wcS 1 [1, 0, 2, 3] hF hS (fun hS => C_config_State_speak N (T_config_State.mk x9.Pool x9.Nodes x9.Members x9.Maps x9.Modes) (T_api_Cmd.mk a3.Kind a3.DC a3.Shard a3.Node a3.Mode a3.Key) cs10 b11 ⟨rfl, hS.pick [2, 3, 4] (by kernel_rfl)⟩ hx100) ?_)
 rintro _ κ w a ⟨cs101, rfl, h2⟩ hF hB
 have hS := hB _ _ h2
 refine wp 1 [3, 4, 6, 7, 8] hF fun a hF => ?_
 refine wpListIn_nil ?_
 exact ⟨_, x100.2.Pool, x100.2.Nodes, x100.2.Members, x100.2.Maps, cs101, x100.2.Modes, x46.Cuts, p47, c48, x46.Nodes, p49, c50, x100.1, hF.kp [3, 4, 6, 7, 8], hS.sp (rg 4) [0, 1, 2, 3, 4, 8, 9, 10], H⟩
 rintro a w ⟨κ, y52, y53, y54, y55, cs56, y57, y58, p59, c60, y61, p62, c63, y64, hF, hS, H⟩
 unfold M.config_Apply_k1 at H
 refine wpIn_seq_k fun K65 hK65 => ?_
 refine wpIn_seq_k fun K66 hK66 => ?_
 refine wpIn_region_lit ?_
 refine wp 2 [3, 4, 6, 7, 8, 126] hF fun a hF => ?_
 refine wpListIn_nil ?_
 refine hK66 _ _ ?_
 refine bif_split H (fun hb H => ?_) (fun hb H => ?_)
 refine cond_t hF (by kernel_rfl) hb ?_
 refine wpIn_seq_k fun K67 hK67 => ?_
 refine wpIn_region_lit ?_
 refine wp 2 [4, 127, 128] hF fun a hF => ?_
 refine wc (wst hF hS 2 0 5 [si 0, si 0, eb 4 (List.replicate 4 false), (8, (List.replicate 4 (flat [sl none 0 0, sl none 0 0])).flatten), ei 21 (List.replicate 21 0)] (sgN 2 (sgEnc List.length_replicate (sgArr (hS.get 6 rfl) (sgEnc List.length_replicate sgNil)))) fun a w hF hS => ?_)
 refine wp 1 [4, 5] hF fun a hF => ?_
 refine wpListIn_nil ?_
 refine hK67 _ _ ?_
 refine wpIn_ret ?_
 have hS' := hS
 cases H
 exact (ret_done hF hS (res2 Try.results54 (rvs hF hS' 2 0 5) (rvt hF)) ⟨(List.replicate 4 (flat [sl none 0 0, sl none 0 0])).flatten, rfl, (hS.pick [5, 6, 7] (by kernel_rfl)).ro, hS.newC [] (by decide) (by kernel_rfl)⟩)
 refine cond_f hF (by kernel_rfl) hb ?_
 refine wpIn_skip ?_
 refine hK65 _ _ ?_
 refine wpIn_seq_k fun K68 hK68 => ?_
 refine wpIn_region_lit ?_
 refine wp 1 [4, 6, 7, 129] hF fun a hF => ?_
 refine wc (wld hF hS 3 1 0 fun a hF => ?_)
 refine wc (wls hF hS 1 0 2 fun a hF => ?_)
 refine wl_pure (L' := [(4, pt b7 0), (6, pt b11 0), (130, vi a3.DC), (131, .agg (flat [sl p59 (y58).length c60, sl p62 (y61).length c63]).toArray), (132, pt b11 6)]) 1 [4, 6, 130, 131, 132] hF (by kernel_rfl) fun a hF => ?_
 refine bind_split H (fun x69 hx69 H => ?_)
 refine wc (wo_indexArr hF (by kernel_rfl) (E := 26) (sz := 2) (n := 4) rfl rfl (i := a3.DC) rfl (idx_lt hx69 ((hS.get 1 rfl : ArrP _ _ _ _ _ _).1)) (by kernel_rfl) (by kernel_rfl) fun a hF => ?_)
 refine wc (wo_storeATy (t := t_api_Map) (n := 4) (new := (flat [sl p59 (y58).length c60, sl p62 (y61).length c63])) (y := (T_api_Map.mk y58 y61)) (v := .agg (flat [sl p59 (y58).length c60, sl p62 (y61).length c63]).toArray) hF hS (by kernel_rfl) 0 3 1 (s' := [si y52, si y53, eb 4 y54, (8, (splice cs56 (Int.toNat a3.DC * 2) (flat [sl p59 (y58).length c60, sl p62 (y61).length c63]))), ei 21 y57]) (C' := [.box b11 30 [si y52, si y53, eb 4 y54, (8, (splice cs56 (Int.toNat a3.DC * 2) (flat [sl p59 (y58).length c60, sl p62 (y61).length c63]))), ei 21 y57], .box b51 26 [sl p59 (y58).length c60, sl p62 (y61).length c63], .box b7 30 [si 0, si 0, eb 4 (List.replicate 4 false), (8, (List.replicate 4 (flat [sl none 0 0, sl none 0 0])).flatten), ei 21 (List.replicate 21 0)], .box b6 72 [si a3.Kind, si a3.DC, si a3.Shard, si a3.Node, si a3.Mode, sg a3.Key]]) rfl rfl (by kernel_rfl) (by kernel_rfl) rfl rfl rfl hx69 ⟨(p59, c60, p62, c63), rfl, (hS.pick [3, 4] (by kernel_rfl)).ro⟩ (by kernel_rfl) (by kernel_rfl) (by kernel_rfl) (by kernel_rfl) (by kernel_rfl) fun a w hF hS => ?_)
 refine wpListIn_nil ?_
 refine hK68 _ _ ?_
 refine wpIn_seq_k fun K70 hK70 => ?_
 refine wpIn_region_lit ?_
 refine wc (wls hF hS 0 0 5 fun a hF => ?_)
 refine wc (wst hF hS 2 0 5 [si y52, si y53, eb 4 y54, (8, (splice cs56 (Int.toNat a3.DC * 2) (flat [sl p59 (y58).length c60, sl p62 (y61).length c63]))), ei 21 y57] (sgN 2 (sgEnc (hS.get 1 rfl) (sgArr (hS.get 0 rfl) (sgEnc (hS.get 3 rfl) sgNil)))) fun a w hF hS => ?_)
 refine wp 1 [4, 5] hF fun a hF => ?_
 refine wpListIn_nil ?_
 refine hK70 _ _ ?_
 refine wpIn_ret ?_
 have hS' := hS
 cases H
 exact (ret_done hF hS (res2 Try.results54 (rvs hF hS' 2 0 5) (rvt hF)) ⟨(splice cs56 (Int.toNat a3.DC * 2) (flat [sl p59 (y58).length c60, sl p62 (y61).length c63])), rfl, (hS.pick [1, 0, 3] (by kernel_rfl)).ro, hS.newC [] (by decide) (by kernel_rfl)⟩)
set_option maxRecDepth 20000 in
set_option maxHeartbeats 1000000 in
theorem C_config_Plain (N : Nat) {κ0 : Gh} {w0 : World} (hfr : Fresh κ0 w0) (a1 : T_api_Cmd)  (hR : ∀ m ∈ ([] : List MP), m.p κ0 w0) {r : (T_api_Cmd)} (H : M.config_Plain N a1 = some r) :
    Calls Try.prog 61 #[.agg (flat [si a1.Kind, si a1.DC, si a1.Shard, si a1.Node, si a1.Mode, sg a1.Key]).toArray] w0 (Post [] κ0 w0 fun v κ w => v = .agg (flat [si r.Kind, si r.DC, si r.Shard, si r.Node, si r.Mode, sg r.Key]).toArray ∧ (∀ m ∈ ([] : List MP), m.p κ w) ∧ NewC w0 κ w []) := by
 have hS := SS.start hfr hR
 refine enter (N := (52)) (L := [(0, .agg (flat [si a1.Kind, si a1.DC, si a1.Shard, si a1.Node, si a1.Mode, sg a1.Key]).toArray)]) Try.func61 rfl Try.ntmps61 (show 1 ≤ (52) by decide) rfl fun a hF => ?_
 unfold M.config_Plain at H
 refine wpIn_seq_k fun K2 hK2 => ?_
 refine wpIn_region_lit ?_
 refine wc (wbx hF hS [si a1.Kind, si a1.DC, si a1.Shard, si a1.Node, si a1.Mode, sg a1.Key] (sgN 6 sgNil) fun b3 a w hF hS => ?_)
 refine wc (wal hF hS [si 0, si 0, si 0, si 0, si 0, sg ByteArray.empty] (sgN 6 sgNil) fun b4 a w hF hS => ?_)
 refine wpListIn_nil ?_
 refine hK2 _ _ ?_
 refine wpIn_seq_k fun K5 hK5 => ?_
 refine wpIn_seq_k fun K6 hK6 => ?_
 refine wpIn_region_lit ?_
 refine wp 1 [1, 2, 3] hF fun a hF => ?_
 refine wc (wld hF hS 1 0 0 fun a hF => ?_)
 refine wpListIn_nil ?_
 refine hK6 _ _ ?_
 refine wpIn_block ?_
 refine wpIn_seq_k fun K7 hK7 => ?_
 refine wpIn_region_lit ?_
 refine wp 2 [1, 2, 4, 5] hF fun a hF => ?_
 refine wpListIn_nil ?_
 refine hK7 _ _ ?_
 refine bif_split H (fun hb H => ?_) (fun hb H => ?_)
 refine cond_t hF (by kernel_rfl) hb ?_
 refine wpIn_seq_k fun K8 hK8 => ?_
 refine wpIn_region_lit ?_
 refine wp 1 [1, 2, 7] hF fun a hF => ?_
 refine wc (wld hF hS 1 0 0 fun a hF => ?_)
 refine wp 1 [1, 2, 8, 9] hF fun a hF => ?_
 refine wc (wld hF hS 1 1 0 fun a hF => ?_)
 refine wp 1 [1, 2, 8, 10, 11] hF fun a hF => ?_
 refine wc (wld hF hS 1 2 0 fun a hF => ?_)
 refine wp 1 [2, 8, 10, 12, 13] hF fun a hF => ?_
 refine wc (wld hF hS 1 5 0 fun a hF => ?_)
 refine wp 1 [2, 15] hF fun a hF => ?_
 refine wc (wst hF hS 0 0 6 [si a1.Kind, si a1.DC, si a1.Shard, si 0, si 0, sg a1.Key] (sgN 6 sgNil) fun a w hF hS => ?_)
 refine wpListIn_nil ?_
 refine hK8 _ _ ?_
 refine wpIn_ret ?_
 have hS' := hS
 cases H
 exact (ret_done hF hS (res1 Try.results61 (rvs hF hS' 0 0 6)) ⟨rfl, (hS.pick [] (by kernel_rfl)).ro, hS.newC [] (by decide) (by kernel_rfl)⟩)
 refine cond_f hF (by kernel_rfl) hb ?_
 refine wpIn_seq_k fun K9 hK9 => ?_
 refine wpIn_region_lit ?_
 refine wp 2 [1, 2, 4, 16] hF fun a hF => ?_
 refine wpListIn_nil ?_
 refine hK9 _ _ ?_
 refine bif_split H (fun hb H => ?_) (fun hb H => ?_)
 refine cond_t hF (by kernel_rfl) hb ?_
 refine wpIn_seq_k fun K10 hK10 => ?_
 refine wpIn_region_lit ?_
 refine wp 1 [1, 2, 18] hF fun a hF => ?_
 refine wc (wld hF hS 1 0 0 fun a hF => ?_)
 refine wp 1 [1, 2, 19, 20] hF fun a hF => ?_
 refine wc (wld hF hS 1 1 0 fun a hF => ?_)
 refine wp 1 [2, 19, 21, 22] hF fun a hF => ?_
 refine wc (wld hF hS 1 2 0 fun a hF => ?_)
 refine wp 1 [2, 24] hF fun a hF => ?_
 refine wc (wst hF hS 0 0 6 [si a1.Kind, si a1.DC, si a1.Shard, si 0, si 0, sg ByteArray.empty] (sgN 6 sgNil) fun a w hF hS => ?_)
 refine wpListIn_nil ?_
 refine hK10 _ _ ?_
 refine wpIn_ret ?_
 have hS' := hS
 cases H
 exact (ret_done hF hS (res1 Try.results61 (rvs hF hS' 0 0 6)) ⟨rfl, (hS.pick [] (by kernel_rfl)).ro, hS.newC [] (by decide) (by kernel_rfl)⟩)
 refine cond_f hF (by kernel_rfl) hb ?_
 refine wpIn_seq_k fun K11 hK11 => ?_
 refine wpIn_region_lit ?_
 refine wp 2 [1, 2, 4, 25] hF fun a hF => ?_
 refine wpListIn_nil ?_
 refine hK11 _ _ ?_
 refine bif_split H (fun hb H => ?_) (fun hb H => ?_)
 refine cond_t hF (by kernel_rfl) hb ?_
 refine wpIn_seq_k fun K12 hK12 => ?_
 refine wpIn_region_lit ?_
 refine wp 1 [1, 2, 27] hF fun a hF => ?_
 refine wc (wld hF hS 1 0 0 fun a hF => ?_)
 refine wp 1 [1, 2, 28, 29] hF fun a hF => ?_
 refine wc (wld hF hS 1 1 0 fun a hF => ?_)
 refine wp 1 [1, 2, 28, 30, 31] hF fun a hF => ?_
 refine wc (wld hF hS 1 2 0 fun a hF => ?_)
 refine wp 1 [2, 28, 30, 32, 33] hF fun a hF => ?_
 refine wc (wld hF hS 1 3 0 fun a hF => ?_)
 refine wp 1 [2, 35] hF fun a hF => ?_
 refine wc (wst hF hS 0 0 6 [si a1.Kind, si a1.DC, si a1.Shard, si a1.Node, si 0, sg ByteArray.empty] (sgN 6 sgNil) fun a w hF hS => ?_)
 refine wpListIn_nil ?_
 refine hK12 _ _ ?_
 refine wpIn_ret ?_
 have hS' := hS
 cases H
 exact (ret_done hF hS (res1 Try.results61 (rvs hF hS' 0 0 6)) ⟨rfl, (hS.pick [] (by kernel_rfl)).ro, hS.newC [] (by decide) (by kernel_rfl)⟩)
 refine cond_f hF (by kernel_rfl) hb ?_
 refine wpIn_seq_k fun K13 hK13 => ?_
 refine wpIn_region_lit ?_
 refine wp 2 [1, 2, 36] hF fun a hF => ?_
 refine wpListIn_nil ?_
 refine hK13 _ _ ?_
 refine bif_split H (fun hb H => ?_) (fun hb H => ?_)
 refine cond_t hF (by kernel_rfl) hb ?_
 refine wpIn_seq_k fun K14 hK14 => ?_
 refine wpIn_region_lit ?_
 refine wp 1 [1, 2, 38] hF fun a hF => ?_
 refine wc (wld hF hS 1 0 0 fun a hF => ?_)
 refine wp 1 [1, 2, 39, 40] hF fun a hF => ?_
 refine wc (wld hF hS 1 1 0 fun a hF => ?_)
 refine wp 1 [1, 2, 39, 41, 42] hF fun a hF => ?_
 refine wc (wld hF hS 1 3 0 fun a hF => ?_)
 refine wp 1 [2, 39, 41, 43, 44] hF fun a hF => ?_
 refine wc (wld hF hS 1 4 0 fun a hF => ?_)
 refine wp 1 [2, 46] hF fun a hF => ?_
 refine wc (wst hF hS 0 0 6 [si a1.Kind, si a1.DC, si 0, si a1.Node, si a1.Mode, sg ByteArray.empty] (sgN 6 sgNil) fun a w hF hS => ?_)
 refine wpListIn_nil ?_
 refine hK14 _ _ ?_
 refine wpIn_ret ?_
 have hS' := hS
 cases H
 exact (ret_done hF hS (res1 Try.results61 (rvs hF hS' 0 0 6)) ⟨rfl, (hS.pick [] (by kernel_rfl)).ro, hS.newC [] (by decide) (by kernel_rfl)⟩)
 refine cond_f hF (by kernel_rfl) hb ?_
 refine wpIn_skip ?_
 refine hK5 _ _ ?_
 refine wpIn_seq_k fun K15 hK15 => ?_
 refine wpIn_region_lit ?_
 refine wp 1 [1, 2, 47] hF fun a hF => ?_
 refine wc (wld hF hS 1 0 0 fun a hF => ?_)
 refine wp 1 [2, 48, 49] hF fun a hF => ?_
 refine wc (wld hF hS 1 1 0 fun a hF => ?_)
 refine wp 1 [2, 51] hF fun a hF => ?_
 refine wc (wst hF hS 0 0 6 [si a1.Kind, si a1.DC, si 0, si 0, si 0, sg ByteArray.empty] (sgN 6 sgNil) fun a w hF hS => ?_)
 refine wpListIn_nil ?_
 refine hK15 _ _ ?_
 refine wpIn_ret ?_
 have hS' := hS
 cases H
 exact (ret_done hF hS (res1 Try.results61 (rvs hF hS' 0 0 6)) ⟨rfl, (hS.pick [] (by kernel_rfl)).ro, hS.newC [] (by decide) (by kernel_rfl)⟩)
end Go.Cf
