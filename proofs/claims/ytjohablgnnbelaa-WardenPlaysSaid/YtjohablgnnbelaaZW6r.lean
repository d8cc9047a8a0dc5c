/- The walks: each function returns what its model says. Printed by a program of ours. -/
import Derived.Test.YtjohablgnnbelaaZM1
import Derived.Test.YtjohablgnnbelaaZW2
import Derived.Test.YtjohablgnnbelaaZW2b
import Derived.Test.YtjohablgnnbelaaZW3
namespace Go.Cf
open Go Go.Proofs
set_option linter.unusedVariables false
set_option maxRecDepth 20000 in
set_option maxHeartbeats 1000000 in
theorem C_ref18_Plain (N : Nat) {κ0 : Gh} {w0 : World} (hfr : Fresh κ0 w0) (a1 : T_api_Cmd)  (hR : ∀ m ∈ ([] : List MP), m.p κ0 w0) {r : (T_api_Cmd)} (H : M.ref18_Plain N a1 = some r) :
    Calls Try.prog 62 #[.agg (flat [si a1.Kind, si a1.DC, si a1.Shard, si a1.Node, si a1.Mode, sg a1.Key]).toArray] w0 (Post [] κ0 w0 fun v κ w => v = .agg (flat [si r.Kind, si r.DC, si r.Shard, si r.Node, si r.Mode, sg r.Key]).toArray ∧ (∀ m ∈ ([] : List MP), m.p κ w) ∧ NewC w0 κ w []) := by
 have hS := SS.start hfr hR
 refine enter (N := (49)) (L := [(0, .agg (flat [si a1.Kind, si a1.DC, si a1.Shard, si a1.Node, si a1.Mode, sg a1.Key]).toArray)]) Try.func62 rfl Try.ntmps62 (show 1 ≤ (49) by decide) rfl fun a hF => ?_
 unfold M.ref18_Plain at H
 refine wpIn_seq_k fun K2 hK2 => ?_
 refine wpIn_region_lit ?_
 refine wc (wbx hF hS [si a1.Kind, si a1.DC, si a1.Shard, si a1.Node, si a1.Mode, sg a1.Key] (sgN 6 sgNil) fun b3 a w hF hS => ?_)
 refine wc (wal hF hS [si 0, si 0, si 0, si 0, si 0, sg ByteArray.empty] (sgN 6 sgNil) fun b4 a w hF hS => ?_)
 refine wpListIn_nil ?_
 refine hK2 _ _ ?_
 refine wpIn_seq_k fun K5 hK5 => ?_
 refine wpIn_region_lit ?_
 refine wp 1 [1, 2, 4] hF fun a hF => ?_
 refine wc (wld hF hS 1 0 0 fun a hF => ?_)
 refine wp 1 [1, 2, 5, 6] hF fun a hF => ?_
 refine wc (wld hF hS 1 1 0 fun a hF => ?_)
 refine wp 1 [1, 2, 8] hF fun a hF => ?_
 refine wc (wal hF hS [si 0, si 0, si 0, si 0, si 0, sg ByteArray.empty] (sgN 6 sgNil) fun b6 a w hF hS => ?_)
 refine wc (wst hF hS 0 0 6 [si a1.Kind, si a1.DC, si 0, si 0, si 0, sg ByteArray.empty] (sgN 6 sgNil) fun a w hF hS => ?_)
 refine wpListIn_nil ?_
 refine hK5 _ _ ?_
 refine seq_join (fun a w => ∃ (κ : Gh) (y7 : Int), Fr (49) [] [(1, pt b3 0), (2, pt b4 0), (3, pt b6 0)] a ∧ SS [] κ0 w0 κ w [.box b6 72 [si a1.Kind, si a1.DC, si y7, si 0, si 0, sg ByteArray.empty], .box b4 72 [si 0, si 0, si 0, si 0, si 0, sg ByteArray.empty], .box b3 72 [si a1.Kind, si a1.DC, si a1.Shard, si a1.Node, si a1.Mode, sg a1.Key]] [] ∧ M.ref18_Plain_k1 N a1 y7 = some r) ?_ ?_
 refine wpIn_seq_k fun K17 hK17 => ?_
 refine wpIn_region_lit ?_
 refine bind_split H (fun v19 hv19 H => ?_)
 refine wl_join (fun a w => ∃ κ : Gh, Fr (49) [] [(1, pt b3 0), (2, pt b4 0), (3, pt b6 0), (21, vb v19)] a ∧ SS [] κ0 w0 κ w [.box b6 72 [si a1.Kind, si a1.DC, si 0, si 0, si 0, sg ByteArray.empty], .box b4 72 [si 0, si 0, si 0, si 0, si 0, sg ByteArray.empty], .box b3 72 [si a1.Kind, si a1.DC, si a1.Shard, si a1.Node, si a1.Mode, sg a1.Key]] [] ∧ True) ?_ ?_
 refine wp 1 [1, 2, 3, 9] hF fun a hF => ?_
 refine wc (wld hF hS 2 0 0 fun a hF => ?_)
 refine wp 2 [1, 2, 3, 12] hF fun a hF => ?_
 refine bif_split hv19 (fun hb hv19 => ?_) (fun hb hv19 => ?_)
 have hF := hF.boolv 12 (by kernel_rfl) hb
 refine wp 9 [1, 2, 3, 21] hF fun a hF => ?_
 refine wpListIn_nil ?_
 cases hv19
 exact ⟨_, hF.kp [1, 2, 3, 21], hS.sp [0, 1, 2] [], trivial⟩
 have hF := hF.boolv 12 (by kernel_rfl) hb
 refine wp 1 [1, 2, 3, 12, 13] hF fun a hF => ?_
 refine wcg hF (wld hF hS 2 0 0 fun a hF => ?_)
 refine wp 3 [1, 2, 3, 17] hF fun a hF => ?_
 refine bif_split hv19 (fun hb hv19 => ?_) (fun hb hv19 => ?_)
 have hF := hF.boolv 17 (by kernel_rfl) hb
 refine wp 4 [1, 2, 3, 21] hF fun a hF => ?_
 refine wpListIn_nil ?_
 cases hv19
 exact ⟨_, hF.kp [1, 2, 3, 21], hS.sp [0, 1, 2] [], trivial⟩
 have hF := hF.boolv 17 (by kernel_rfl) hb
 refine wp 1 [1, 2, 3, 17, 18] hF fun a hF => ?_
 refine wcg hF (wld hF hS 2 0 0 fun a hF => ?_)
 refine wp 2 [1, 2, 3, 21] hF fun a hF => ?_
 refine wpListIn_nil ?_
 cases hv19
 exact ⟨_, hF.kp [1, 2, 3, 21], hS.sp [0, 1, 2] [], trivial⟩
 rintro a w ⟨κ, hF, hS, -⟩
 refine hK17 _ _ ?_
 refine bif_split H (fun hb H => ?_) (fun hb H => ?_)
 refine cond_t hF (by kernel_rfl) hb ?_
 refine wpIn_region_lit ?_
 refine wp 1 [1, 2, 3, 22] hF fun a hF => ?_
 refine wc (wld hF hS 2 2 0 fun a hF => ?_)
 refine wp 1 [1, 2, 3, 23, 24] hF fun a hF => ?_
 refine wc (wst hF hS 0 2 1 [si a1.Shard] (sgN 1 sgNil) fun a w hF hS => ?_)
 refine wpListIn_nil ?_
 exact ⟨_, a1.Shard, hF.kp [1, 2, 3], hS.sp [0, 1, 2] [], H⟩
 refine cond_f hF (by kernel_rfl) hb ?_
 refine wpIn_skip ?_
 exact ⟨_, 0, hF.kp [1, 2, 3], hS.sp [0, 1, 2] [], H⟩
 rintro a w ⟨κ, y7, hF, hS, H⟩
 unfold M.ref18_Plain_k1 at H
 refine seq_join (fun a w => ∃ (κ : Gh) (y8 : ByteArray), Fr (49) [] [(1, pt b3 0), (2, pt b4 0), (3, pt b6 0)] a ∧ SS [] κ0 w0 κ w [.box b6 72 [si a1.Kind, si a1.DC, si y7, si 0, si 0, sg y8], .box b4 72 [si 0, si 0, si 0, si 0, si 0, sg ByteArray.empty], .box b3 72 [si a1.Kind, si a1.DC, si a1.Shard, si a1.Node, si a1.Mode, sg a1.Key]] [] ∧ M.ref18_Plain_k2 N a1 y7 y8 = some r) ?_ ?_
 refine wpIn_seq_k fun K16 hK16 => ?_
 refine wpIn_region_lit ?_
 refine wp 1 [1, 2, 3, 25] hF fun a hF => ?_
 refine wc (wld hF hS 2 0 0 fun a hF => ?_)
 refine wp 1 [1, 2, 3, 27] hF fun a hF => ?_
 refine wpListIn_nil ?_
 refine hK16 _ _ ?_
 refine bif_split H (fun hb H => ?_) (fun hb H => ?_)
 refine cond_t hF (by kernel_rfl) hb ?_
 refine wpIn_region_lit ?_
 refine wp 1 [1, 2, 3, 28] hF fun a hF => ?_
 refine wc (wld hF hS 2 5 0 fun a hF => ?_)
 refine wp 1 [1, 2, 3, 29, 30] hF fun a hF => ?_
 refine wc (wst hF hS 0 5 1 [sg a1.Key] (sgN 1 sgNil) fun a w hF hS => ?_)
 refine wpListIn_nil ?_
 exact ⟨_, a1.Key, hF.kp [1, 2, 3], hS.sp [0, 1, 2] [], H⟩
 refine cond_f hF (by kernel_rfl) hb ?_
 refine wpIn_skip ?_
 exact ⟨_, ByteArray.empty, hF.kp [1, 2, 3], hS.sp [0, 1, 2] [], H⟩
 rintro a w ⟨κ, y8, hF, hS, H⟩
 unfold M.ref18_Plain_k2 at H
 refine seq_join (fun a w => ∃ (κ : Gh) (y9 : Int), Fr (49) [] [(1, pt b3 0), (2, pt b4 0), (3, pt b6 0)] a ∧ SS [] κ0 w0 κ w [.box b6 72 [si a1.Kind, si a1.DC, si y7, si y9, si 0, sg y8], .box b4 72 [si 0, si 0, si 0, si 0, si 0, sg ByteArray.empty], .box b3 72 [si a1.Kind, si a1.DC, si a1.Shard, si a1.Node, si a1.Mode, sg a1.Key]] [] ∧ M.ref18_Plain_k3 N a1 y7 y8 y9 = some r) ?_ ?_
 refine wpIn_seq_k fun K13 hK13 => ?_
 refine wpIn_region_lit ?_
 refine bind_split H (fun v15 hv15 H => ?_)
 refine wl_join (fun a w => ∃ κ : Gh, Fr (49) [] [(1, pt b3 0), (2, pt b4 0), (3, pt b6 0), (38, vb v15)] a ∧ SS [] κ0 w0 κ w [.box b6 72 [si a1.Kind, si a1.DC, si y7, si 0, si 0, sg y8], .box b4 72 [si 0, si 0, si 0, si 0, si 0, sg ByteArray.empty], .box b3 72 [si a1.Kind, si a1.DC, si a1.Shard, si a1.Node, si a1.Mode, sg a1.Key]] [] ∧ True) ?_ ?_
 refine wp 1 [1, 2, 3, 31] hF fun a hF => ?_
 refine wc (wld hF hS 2 0 0 fun a hF => ?_)
 refine wp 2 [1, 2, 3, 34] hF fun a hF => ?_
 refine bif_split hv15 (fun hb hv15 => ?_) (fun hb hv15 => ?_)
 have hF := hF.boolv 34 (by kernel_rfl) hb
 refine wp 4 [1, 2, 3, 38] hF fun a hF => ?_
 refine wpListIn_nil ?_
 cases hv15
 exact ⟨_, hF.kp [1, 2, 3, 38], hS.sp [0, 1, 2] [], trivial⟩
 have hF := hF.boolv 34 (by kernel_rfl) hb
 refine wp 1 [1, 2, 3, 34, 35] hF fun a hF => ?_
 refine wcg hF (wld hF hS 2 0 0 fun a hF => ?_)
 refine wp 2 [1, 2, 3, 38] hF fun a hF => ?_
 refine wpListIn_nil ?_
 cases hv15
 exact ⟨_, hF.kp [1, 2, 3, 38], hS.sp [0, 1, 2] [], trivial⟩
 rintro a w ⟨κ, hF, hS, -⟩
 refine hK13 _ _ ?_
 refine bif_split H (fun hb H => ?_) (fun hb H => ?_)
 refine cond_t hF (by kernel_rfl) hb ?_
 refine wpIn_region_lit ?_
 refine wp 1 [1, 2, 3, 39] hF fun a hF => ?_
 refine wc (wld hF hS 2 3 0 fun a hF => ?_)
 refine wp 1 [1, 2, 3, 40, 41] hF fun a hF => ?_
 refine wc (wst hF hS 0 3 1 [si a1.Node] (sgN 1 sgNil) fun a w hF hS => ?_)
 refine wpListIn_nil ?_
 exact ⟨_, a1.Node, hF.kp [1, 2, 3], hS.sp [0, 1, 2] [], H⟩
 refine cond_f hF (by kernel_rfl) hb ?_
 refine wpIn_skip ?_
 exact ⟨_, 0, hF.kp [1, 2, 3], hS.sp [0, 1, 2] [], H⟩
 rintro a w ⟨κ, y9, hF, hS, H⟩
 unfold M.ref18_Plain_k3 at H
 refine seq_join (fun a w => ∃ (κ : Gh) (y10 : Int), Fr (49) [] [(2, pt b4 0), (3, pt b6 0)] a ∧ SS [] κ0 w0 κ w [.box b6 72 [si a1.Kind, si a1.DC, si y7, si y9, si y10, sg y8], .box b4 72 [si 0, si 0, si 0, si 0, si 0, sg ByteArray.empty]] [] ∧ M.ref18_Plain_k4 N a1 y7 y8 y9 y10 = some r) ?_ ?_
 refine wpIn_seq_k fun K12 hK12 => ?_
 refine wpIn_region_lit ?_
 refine wp 1 [1, 2, 3, 42] hF fun a hF => ?_
 refine wc (wld hF hS 2 0 0 fun a hF => ?_)
 refine wp 1 [1, 2, 3, 44] hF fun a hF => ?_
 refine wpListIn_nil ?_
 refine hK12 _ _ ?_
 refine bif_split H (fun hb H => ?_) (fun hb H => ?_)
 refine cond_t hF (by kernel_rfl) hb ?_
 refine wpIn_region_lit ?_
 refine wp 1 [2, 3, 45] hF fun a hF => ?_
 refine wc (wld hF hS 2 4 0 fun a hF => ?_)
 refine wp 1 [2, 3, 46, 47] hF fun a hF => ?_
 refine wc (wst hF hS 0 4 1 [si a1.Mode] (sgN 1 sgNil) fun a w hF hS => ?_)
 refine wpListIn_nil ?_
 exact ⟨_, a1.Mode, hF.kp [2, 3], hS.sp [0, 1] [], H⟩
 refine cond_f hF (by kernel_rfl) hb ?_
 refine wpIn_skip ?_
 exact ⟨_, 0, hF.kp [2, 3], hS.sp [0, 1] [], H⟩
 rintro a w ⟨κ, y10, hF, hS, H⟩
 unfold M.ref18_Plain_k4 at H
 refine wpIn_seq_k fun K11 hK11 => ?_
 refine wpIn_region_lit ?_
 refine wc (wls hF hS 0 0 6 fun a hF => ?_)
 refine wc (wst hF hS 1 0 6 [si a1.Kind, si a1.DC, si y7, si y9, si y10, sg y8] (sgN 6 sgNil) fun a w hF hS => ?_)
 refine wpListIn_nil ?_
 refine hK11 _ _ ?_
 refine wpIn_ret ?_
 have hS' := hS
 cases H
 exact (ret_done hF hS (res1 Try.results62 (rvs hF hS' 1 0 6)) ⟨rfl, (hS.pick [] (by kernel_rfl)).ro, hS.newC [] (by decide) (by kernel_rfl)⟩)
set_option maxRecDepth 20000 in
set_option maxHeartbeats 1000000 in
theorem C_ref18_Gate (N : Nat) {κ0 : Gh} {w0 : World} (hfr : Fresh κ0 w0) (a1 : Int)  (hR : ∀ m ∈ ([] : List MP), m.p κ0 w0) {r : (Int)} (H : M.ref18_Gate N a1 = some r) :
    Calls Try.prog 91 #[vi a1] w0 (Post [] κ0 w0 fun v κ w => v = vi r ∧ (∀ m ∈ ([] : List MP), m.p κ w) ∧ NewC w0 κ w []) := by
 have hS := SS.start hfr hR
 refine enter (N := (6)) (L := [(0, vi a1)]) Try.func91 rfl Try.ntmps91 (show 1 ≤ (6) by decide) rfl fun a hF => ?_
 unfold M.ref18_Gate at H
 refine wpIn_seq_k fun K2 hK2 => ?_
 refine wpIn_region_lit ?_
 refine wp 1 [0] hF fun a hF => ?_
 refine wpListIn_nil ?_
 refine hK2 _ _ ?_
 refine wpIn_seq_k fun K3 hK3 => ?_
 refine wpIn_region_lit ?_
 refine wp 4 [2] hF fun a hF => ?_
 refine wpListIn_nil ?_
 refine hK3 _ _ ?_
 refine wpIn_ret ?_
 cases H
 exact (ret_done hF hS (res1 Try.results91 (rvt hF)) ⟨rfl, (hS.pick [] (by kernel_rfl)).ro, hS.newC [] (by decide) (by kernel_rfl)⟩)
set_option maxRecDepth 20000 in
set_option maxHeartbeats 1000000 in
theorem C_ref18_some (N : Nat) {κ0 : Gh} {w0 : World} (hfr : Fresh κ0 w0) (a1 : T_ref18_State) (a3 : Int) (cs2 : List Value) (hR : ∀ m ∈ ([ml a1.Members 4, Arr.mp t_api_Map cs2 4 a1.Maps, ml a1.Modes 21] : List MP), m.p κ0 w0) {r : (Bool)} (H : M.ref18_some N a1 a3 = some r) :
    Calls Try.prog 95 #[.agg (flat [si a1.Pool, si a1.Nodes, eb 4 a1.Members, (8, cs2), ei 21 a1.Modes]).toArray, vi a3] w0 (Post [] κ0 w0 fun v κ w => v = vb r ∧ (∀ m ∈ ([] : List MP), m.p κ w) ∧ NewC w0 κ w []) := by
 have hS := SS.start hfr hR
 refine enter (N := (16)) (L := [(0, .agg (flat [si a1.Pool, si a1.Nodes, eb 4 a1.Members, (8, cs2), ei 21 a1.Modes]).toArray), (1, vi a3)]) Try.func95 rfl Try.ntmps95 (show 2 ≤ (16) by decide) rfl fun a hF => ?_
 unfold M.ref18_some at H
 refine wpIn_seq_k fun K4 hK4 => ?_
 refine wpIn_region_lit ?_
 refine wc (wbx hF hS [si a1.Pool, si a1.Nodes, eb 4 a1.Members, (8, cs2), ei 21 a1.Modes] (sgN 2 (sgEnc (hS.get 0 rfl) (sgArr (hS.get 1 rfl) (sgEnc (hS.get 2 rfl) sgNil)))) fun b5 a w hF hS => ?_)
 refine wp 1 [1, 2] hF fun a hF => ?_
 refine wpListIn_nil ?_
 refine hK4 _ _ ?_
 refine wpIn_seq_k fun K6 hK6 => ?_
 refine wpIn_seq_k fun K7 hK7 => ?_
 refine wpIn_region_lit ?_
 refine wp 1 [1, 2, 5] hF fun a hF => ?_
 refine wpListIn_nil ?_
 refine hK7 _ _ ?_
 refine wpIn_block ?_
 refine loop_fuel (n := N) (fun n a w => ∃ (κ : Gh) (y58 : Int), Fr (16) [] [(1, vi a3), (2, pt b5 0), (5, vi y58)] a ∧ SS [] κ0 w0 κ w [.box b5 34 [si a1.Pool, si a1.Nodes, eb 4 a1.Members, (8, cs2), ei 21 a1.Modes]] [ml a1.Members 4, Arr.mp t_api_Map cs2 4 a1.Maps, ml a1.Modes 21] ∧ M.ref18_some_L1 N n a1 a3 y58 = some r) ?_ ?_
 exact ⟨_, 0, hF.kp [1, 2, 5], hS.sp [0] [0, 1, 2], H⟩
 rintro n a w ⟨κ, y58, hF, hS, H⟩
 rcases n with _ | fuel1
 simp [M.ref18_some_L1] at H
 simp only [M.ref18_some_L1] at H
 refine wpIn_seq_k fun K59 hK59 => ?_
 refine wpIn_seq_k fun K60 hK60 => ?_
 refine wpIn_region_lit ?_
 refine wp 2 [1, 2, 5, 7] hF fun a hF => ?_
 refine wpListIn_nil ?_
 refine hK60 _ _ ?_
 refine bif_split H (fun hb H => ?_) (fun hb H => ?_)
 refine cond_t hF (by kernel_rfl) hb ?_
 refine wpIn_skip ?_
 refine hK59 _ _ ?_
 refine wpIn_seq_k fun K61 hK61 => ?_
 refine wpIn_block ?_
 refine wpIn_seq_k fun K62 hK62 => ?_
 refine wpIn_region_lit ?_
 refine wl_pure (L' := [(1, vi a3), (2, pt b5 0), (5, vi y58), (10, vi y58), (11, pt b5 14)]) 2 [1, 2, 5, 10, 11] hF (by kernel_rfl) fun a hF => ?_
 refine bind_split H (fun x63 hx63 H => ?_)
 refine wc (wo_indexArr hF (by kernel_rfl) (E := 3) (sz := 1) (n := 21) rfl rfl (i := y58) rfl (idx_lt hx63 (hS.get 2 rfl)) (by kernel_rfl) (by kernel_rfl) fun a hF => ?_)
 refine wc (wo_loadA1 (t := (fInt .i64)) hF hS (by kernel_rfl) 0 4 (v := vi x63) rfl rfl rfl rfl hx63 rfl rfl (by kernel_rfl) (by kernel_rfl) fun a hF => ?_)
 refine wp 2 [1, 2, 5, 15] hF fun a hF => ?_
 refine wpListIn_nil ?_
 refine hK62 _ _ ?_
 refine bif_split H (fun hb H => ?_) (fun hb H => ?_)
 refine cond_t hF (by kernel_rfl) hb ?_
 refine wpIn_seq_k fun K64 hK64 => ?_
 refine wpIn_region_lit ?_
 refine wp 1 [4] hF fun a hF => ?_
 refine wpListIn_nil ?_
 refine hK64 _ _ ?_
 refine wpIn_ret ?_
 cases H
 exact (ret_done hF hS (res1 Try.results95 (rvt hF)) ⟨rfl, (hS.pick [] (by kernel_rfl)).ro, hS.newC [] (by decide) (by kernel_rfl)⟩)
 refine cond_f hF (by kernel_rfl) hb ?_
 refine wpIn_skip ?_
 refine hK61 _ _ ?_
 refine wpIn_region_lit ?_
 refine wp 3 [1, 2, 5] hF fun a hF => ?_
 refine wpListIn_nil ?_
 exact ⟨fuel1, Nat.lt_succ_self _, _, IntKind.i64.wrap (y58 + 1), hF.kp [1, 2, 5], hS.sp [0] [0, 1, 2], H⟩
 refine cond_f hF (by kernel_rfl) hb ?_
 refine wpIn_exit ?_
 refine hK6 _ _ ?_
 refine wpIn_seq_k fun K65 hK65 => ?_
 refine wpIn_region_lit ?_
 refine wp 1 [4] hF fun a hF => ?_
 refine wpListIn_nil ?_
 refine hK65 _ _ ?_
 refine wpIn_ret ?_
 cases H
 exact (ret_done hF hS (res1 Try.results95 (rvt hF)) ⟨rfl, (hS.pick [] (by kernel_rfl)).ro, hS.newC [] (by decide) (by kernel_rfl)⟩)
set_option maxRecDepth 20000 in
set_option maxHeartbeats 1000000 in
theorem C_ref18_both (N : Nat) {κ0 : Gh} {w0 : World} (hfr : Fresh κ0 w0) (a1 : T_ref18_State) (a3 : Int) (cs2 : List Value) (hR : ∀ m ∈ ([ml a1.Members 4, Arr.mp t_api_Map cs2 4 a1.Maps, ml a1.Modes 21] : List MP), m.p κ0 w0) {r : (T_ref18_State)} (H : M.ref18_both N a1 a3 = some r) :
    Calls Try.prog 83 #[.agg (flat [si a1.Pool, si a1.Nodes, eb 4 a1.Members, (8, cs2), ei 21 a1.Modes]).toArray, vi a3] w0 (Post [] κ0 w0 fun v κ w => ∃ cs68 : List Value, v = .agg (flat [si r.Pool, si r.Nodes, eb 4 r.Members, (8, cs68), ei 21 r.Modes]).toArray ∧ (∀ m ∈ ([ml r.Members 4, Arr.mp t_api_Map cs68 4 r.Maps, ml r.Modes 21] : List MP), m.p κ w) ∧ NewC w0 κ w []) := by
 have hS := SS.start hfr hR
 refine enter (N := (19)) (L := [(0, .agg (flat [si a1.Pool, si a1.Nodes, eb 4 a1.Members, (8, cs2), ei 21 a1.Modes]).toArray), (1, vi a3)]) Try.func83 rfl Try.ntmps83 (show 2 ≤ (19) by decide) rfl fun a hF => ?_
 unfold M.ref18_both at H
 refine wpIn_seq_k fun K4 hK4 => ?_
 refine wpIn_region_lit ?_
 refine wc (wbx hF hS [si a1.Pool, si a1.Nodes, eb 4 a1.Members, (8, cs2), ei 21 a1.Modes] (sgN 2 (sgEnc (hS.get 0 rfl) (sgArr (hS.get 1 rfl) (sgEnc (hS.get 2 rfl) sgNil)))) fun b5 a w hF hS => ?_)
 have hS := hS.add (m := ml (List.replicate 4 false) 4) (List.length_replicate)
 have hS := hS.add (m := Arr.mp t_api_Map ((List.replicate 4 (flat [sl none 0 0, sl none 0 0])).flatten) 4 (List.replicate 4 (T_api_Map.mk ([] : List ByteArray) ([] : List Int)))) (Arr.zero _ _ _ _ _ z_api_Map)
 have hS := hS.add (m := ml (List.replicate 21 0) 21) (List.length_replicate)
 refine wc (wal hF hS [si 0, si 0, eb 4 (List.replicate 4 false), (8, (List.replicate 4 (flat [sl none 0 0, sl none 0 0])).flatten), ei 21 (List.replicate 21 0)] (sgN 2 (sgEnc List.length_replicate (sgArr (hS.get 1 rfl) (sgEnc List.length_replicate sgNil)))) fun b6 a w hF hS => ?_)
 refine wpListIn_nil ?_
 refine hK4 _ _ ?_
 refine wpIn_seq_k fun K7 hK7 => ?_
 refine wpIn_seq_k fun K8 hK8 => ?_
 refine wpIn_region_lit ?_
 refine wp 1 [1, 2, 4, 6] hF fun a hF => ?_
 refine bind_split H (fun x9 hx9 H => ?_)
 refine wc (wo_callP hF hS (by kernel_rfl) (by kernel_rfl) (C_ref18_Gate N hS.fresh a3  ((hS.pick [] (by kernel_rfl)).ro) hx9) ?_)
 rintro _ κ w a ⟨rfl, hR, hN⟩ hF hS hO
 refine wp 1 [1, 2, 4, 5] hF fun a hF => ?_
 refine wpListIn_nil ?_
 refine hK8 _ _ ?_
 refine wpIn_block ?_
 refine loop_fuel (n := N) (fun n a w => ∃ (κ : Gh) (y60 : List Int) (y61 : Int), Fr (19) [] [(1, vi a3), (2, pt b5 0), (4, pt b6 0), (5, vi y61)] a ∧ SS [] κ0 w0 κ w [.box b6 34 [si 0, si 0, eb 4 (List.replicate 4 false), (8, (List.replicate 4 (flat [sl none 0 0, sl none 0 0])).flatten), ei 21 (List.replicate 21 0)], .box b5 34 [si a1.Pool, si a1.Nodes, eb 4 a1.Members, (8, cs2), ei 21 y60]] [ml (List.replicate 4 false) 4, Arr.mp t_api_Map ((List.replicate 4 (flat [sl none 0 0, sl none 0 0])).flatten) 4 (List.replicate 4 (T_api_Map.mk ([] : List ByteArray) ([] : List Int))), ml (List.replicate 21 0) 21, ml a1.Members 4, Arr.mp t_api_Map cs2 4 a1.Maps, ml y60 21] ∧ M.ref18_both_L1 N n a1 a3 y60 y61 = some r) ?_ ?_
 exact ⟨_, a1.Modes, x9, hF.kp [1, 2, 4, 5], hS.sp [0, 1] [2, 1, 0, 3, 4, 5], H⟩
 rintro n a w ⟨κ, y60, y61, hF, hS, H⟩
 rcases n with _ | fuel1
 simp [M.ref18_both_L1] at H
 simp only [M.ref18_both_L1] at H
 refine wpIn_seq_k fun K62 hK62 => ?_
 refine wpIn_seq_k fun K63 hK63 => ?_
 refine wpIn_region_lit ?_
 refine wp 2 [1, 2, 4, 5, 8, 9] hF fun a hF => ?_
 refine bind_split H (fun x64 hx64 H => ?_)
 refine wc (wo_callP hF hS (by kernel_rfl) (by kernel_rfl) (C_ref18_Gate N hS.fresh a3  ((hS.pick [] (by kernel_rfl)).ro) hx64) ?_)
 rintro _ κ w a ⟨rfl, hR, hN⟩ hF hS hO
 refine wp 2 [1, 2, 4, 5, 12] hF fun a hF => ?_
 refine wpListIn_nil ?_
 refine hK63 _ _ ?_
 refine bif_split H (fun hb H => ?_) (fun hb H => ?_)
 refine cond_t hF (by kernel_rfl) hb ?_
 refine wpIn_skip ?_
 refine hK62 _ _ ?_
 refine wpIn_seq_k fun K65 hK65 => ?_
 refine wpIn_block ?_
 refine wpIn_region_lit ?_
 refine wl_pure (L' := [(1, vi a3), (2, pt b5 0), (4, pt b6 0), (5, vi y61), (15, vi y61), (16, pt b5 14)]) 2 [1, 2, 4, 5, 15, 16] hF (by kernel_rfl) fun a hF => ?_
 refine bind_split H (fun x66 hx66 H => ?_)
 refine wc (wo_indexArr hF (by kernel_rfl) (E := 3) (sz := 1) (n := 21) rfl rfl (i := y61) rfl (idx_lt hx66 (hS.get 5 rfl)) (by kernel_rfl) (by kernel_rfl) fun a hF => ?_)
 refine wc (wo_storeA1 (t := (fInt .i64)) (y := 2) (v := vi 2) hF hS (by kernel_rfl) 1 4 (s' := [si a1.Pool, si a1.Nodes, eb 4 a1.Members, (8, cs2), ei 21 (List.set y60 (Int.toNat y61) 2)]) (C' := [.box b6 34 [si 0, si 0, eb 4 (List.replicate 4 false), (8, (List.replicate 4 (flat [sl none 0 0, sl none 0 0])).flatten), ei 21 (List.replicate 21 0)], .box b5 34 [si a1.Pool, si a1.Nodes, eb 4 a1.Members, (8, cs2), ei 21 (List.set y60 (Int.toNat y61) 2)]]) rfl rfl (by kernel_rfl) rfl rfl hx66 rfl rfl (by kernel_rfl) (by kernel_rfl) (by kernel_rfl) (by kernel_rfl) fun a w hF hS => ?_)
 have hS := hS.add (m := ml (List.set y60 (Int.toNat y61) 2) 21) (List.length_set.trans (hS.get 5 rfl))
 refine wpListIn_nil ?_
 refine hK65 _ _ ?_
 refine wpIn_region_lit ?_
 refine wp 3 [1, 2, 4, 5] hF fun a hF => ?_
 refine wpListIn_nil ?_
 exact ⟨fuel1, Nat.lt_succ_self _, _, (List.set y60 (Int.toNat y61) 2), IntKind.i64.wrap (y61 + 1), hF.kp [1, 2, 4, 5], hS.sp [0, 1] [1, 2, 3, 4, 5, 0], H⟩
 refine cond_f hF (by kernel_rfl) hb ?_
 refine wpIn_exit ?_
 refine hK7 _ _ ?_
 refine wpIn_seq_k fun K67 hK67 => ?_
 refine wpIn_region_lit ?_
 refine wc (wls hF hS 1 0 5 fun a hF => ?_)
 refine wc (wst hF hS 0 0 5 [si a1.Pool, si a1.Nodes, eb 4 a1.Members, (8, cs2), ei 21 y60] (sgN 2 (sgEnc (hS.get 3 rfl) (sgArr (hS.get 4 rfl) (sgEnc (hS.get 5 rfl) sgNil)))) fun a w hF hS => ?_)
 refine wpListIn_nil ?_
 refine hK67 _ _ ?_
 refine wpIn_ret ?_
 have hS' := hS
 cases H
 exact (ret_done hF hS (res1 Try.results83 (rvs hF hS' 0 0 5)) ⟨cs2, rfl, (hS.pick [3, 4, 5] (by kernel_rfl)).ro, hS.newC [] (by decide) (by kernel_rfl)⟩)
set_option maxRecDepth 20000 in
set_option maxHeartbeats 1000000 in
theorem C_ref18_speak (N : Nat) {κ0 : Gh} {w0 : World} (hfr : Fresh κ0 w0) (a1 : T_ref18_State) (a3 : T_api_Cmd) (cs2 : List Value) (hR : ∀ m ∈ ([ml a1.Members 4, Arr.mp t_api_Map cs2 4 a1.Maps, ml a1.Modes 21] : List MP), m.p κ0 w0) {r : (T_ref18_State × Int)} (H : M.ref18_speak N a1 a3 = some r) :
    Calls Try.prog 84 #[.agg (flat [si a1.Pool, si a1.Nodes, eb 4 a1.Members, (8, cs2), ei 21 a1.Modes]).toArray, .agg (flat [si a3.Kind, si a3.DC, si a3.Shard, si a3.Node, si a3.Mode, sg a3.Key]).toArray] w0 (Post [] κ0 w0 fun v κ w => ∃ cs38 : List Value, v = .tuple #[.agg (flat [si r.1.Pool, si r.1.Nodes, eb 4 r.1.Members, (8, cs38), ei 21 r.1.Modes]).toArray, vi r.2] ∧ (∀ m ∈ ([ml r.1.Members 4, Arr.mp t_api_Map cs38 4 r.1.Maps, ml r.1.Modes 21] : List MP), m.p κ w) ∧ NewC w0 κ w []) := by
 have hS := SS.start hfr hR
 refine enter (N := (93)) (L := [(0, .agg (flat [si a1.Pool, si a1.Nodes, eb 4 a1.Members, (8, cs2), ei 21 a1.Modes]).toArray), (1, .agg (flat [si a3.Kind, si a3.DC, si a3.Shard, si a3.Node, si a3.Mode, sg a3.Key]).toArray)]) Try.func84 rfl Try.ntmps84 (show 2 ≤ (93) by decide) rfl fun a hF => ?_
 unfold M.ref18_speak at H
 refine wpIn_seq_k fun K4 hK4 => ?_
 refine wpIn_region_lit ?_
 refine wc (wbx hF hS [si a1.Pool, si a1.Nodes, eb 4 a1.Members, (8, cs2), ei 21 a1.Modes] (sgN 2 (sgEnc (hS.get 0 rfl) (sgArr (hS.get 1 rfl) (sgEnc (hS.get 2 rfl) sgNil)))) fun b5 a w hF hS => ?_)
 refine wc (wbx hF hS [si a3.Kind, si a3.DC, si a3.Shard, si a3.Node, si a3.Mode, sg a3.Key] (sgN 6 sgNil) fun b6 a w hF hS => ?_)
 have hS := hS.add (m := ml (List.replicate 4 false) 4) (List.length_replicate)
 have hS := hS.add (m := Arr.mp t_api_Map ((List.replicate 4 (flat [sl none 0 0, sl none 0 0])).flatten) 4 (List.replicate 4 (T_api_Map.mk ([] : List ByteArray) ([] : List Int)))) (Arr.zero _ _ _ _ _ z_api_Map)
 have hS := hS.add (m := ml (List.replicate 21 0) 21) (List.length_replicate)
 refine wc (wal hF hS [si 0, si 0, eb 4 (List.replicate 4 false), (8, (List.replicate 4 (flat [sl none 0 0, sl none 0 0])).flatten), ei 21 (List.replicate 21 0)] (sgN 2 (sgEnc List.length_replicate (sgArr (hS.get 1 rfl) (sgEnc List.length_replicate sgNil)))) fun b7 a w hF hS => ?_)
 refine wp 1 [2, 3, 4] hF fun a hF => ?_
 refine wpListIn_nil ?_
 refine hK4 _ _ ?_
 refine wpIn_seq_k fun K8 hK8 => ?_
 refine wpIn_seq_k fun K9 hK9 => ?_
 refine wpIn_region_lit ?_
 refine bind_split H (fun v11 hv11 H => ?_)
 refine wl_join (fun a w => ∃ κ : Gh, Fr (93) [] [(2, pt b5 0), (3, pt b6 0), (4, pt b7 0), (31, vb v11)] a ∧ SS [] κ0 w0 κ w [.box b7 34 [si 0, si 0, eb 4 (List.replicate 4 false), (8, (List.replicate 4 (flat [sl none 0 0, sl none 0 0])).flatten), ei 21 (List.replicate 21 0)], .box b6 72 [si a3.Kind, si a3.DC, si a3.Shard, si a3.Node, si a3.Mode, sg a3.Key], .box b5 34 [si a1.Pool, si a1.Nodes, eb 4 a1.Members, (8, cs2), ei 21 a1.Modes]] [ml (List.replicate 4 false) 4, Arr.mp t_api_Map ((List.replicate 4 (flat [sl none 0 0, sl none 0 0])).flatten) 4 (List.replicate 4 (T_api_Map.mk ([] : List ByteArray) ([] : List Int))), ml (List.replicate 21 0) 21, ml a1.Members 4, Arr.mp t_api_Map cs2 4 a1.Maps, ml a1.Modes 21] ∧ True) ?_ ?_
 refine wp 1 [2, 3, 4, 7] hF fun a hF => ?_
 refine wc (wld hF hS 1 3 0 fun a hF => ?_)
 refine wp 2 [2, 3, 4, 10] hF fun a hF => ?_
 refine bif_split hv11 (fun hb hv11 => ?_) (fun hb hv11 => ?_)
 have hF := hF.boolv 10 (by kernel_rfl) hb
 refine wp 21 [2, 3, 4, 31] hF fun a hF => ?_
 refine wpListIn_nil ?_
 cases hv11
 exact ⟨_, hF.kp [2, 3, 4, 31], hS.sp [0, 1, 2] [2, 1, 0, 3, 4, 5], trivial⟩
 have hF := hF.boolv 10 (by kernel_rfl) hb
 refine wp 1 [2, 3, 4, 10, 11] hF fun a hF => ?_
 refine wcg hF (wld hF hS 1 3 0 fun a hF => ?_)
 refine wp 1 [2, 3, 4, 10, 12, 13] hF fun a hF => ?_
 refine wcg hF (wld hF hS 2 1 0 fun a hF => ?_)
 refine wp 3 [2, 3, 4, 17] hF fun a hF => ?_
 refine bif_split hv11 (fun hb hv11 => ?_) (fun hb hv11 => ?_)
 have hF := hF.boolv 17 (by kernel_rfl) hb
 refine wp 14 [2, 3, 4, 31] hF fun a hF => ?_
 refine wpListIn_nil ?_
 cases hv11
 exact ⟨_, hF.kp [2, 3, 4, 31], hS.sp [0, 1, 2] [2, 1, 0, 3, 4, 5], trivial⟩
 have hF := hF.boolv 17 (by kernel_rfl) hb
 refine wp 1 [2, 3, 4, 17, 18] hF fun a hF => ?_
 refine wcg hF (wld hF hS 1 3 0 fun a hF => ?_)
 refine wp 3 [2, 3, 4, 22] hF fun a hF => ?_
 refine bif_split hv11 (fun hb hv11 => ?_) (fun hb hv11 => ?_)
 have hF := hF.boolv 22 (by kernel_rfl) hb
 refine wp 9 [2, 3, 4, 31] hF fun a hF => ?_
 refine wpListIn_nil ?_
 cases hv11
 exact ⟨_, hF.kp [2, 3, 4, 31], hS.sp [0, 1, 2] [2, 1, 0, 3, 4, 5], trivial⟩
 have hF := hF.boolv 22 (by kernel_rfl) hb
 refine wp 1 [2, 3, 4, 22, 23] hF fun a hF => ?_
 refine wcg hF (wld hF hS 1 4 0 fun a hF => ?_)
 refine wp 3 [2, 3, 4, 27] hF fun a hF => ?_
 refine bif_split hv11 (fun hb hv11 => ?_) (fun hb hv11 => ?_)
 have hF := hF.boolv 27 (by kernel_rfl) hb
 refine wp 4 [2, 3, 4, 31] hF fun a hF => ?_
 refine wpListIn_nil ?_
 cases hv11
 exact ⟨_, hF.kp [2, 3, 4, 31], hS.sp [0, 1, 2] [2, 1, 0, 3, 4, 5], trivial⟩
 have hF := hF.boolv 27 (by kernel_rfl) hb
 refine wp 1 [2, 3, 4, 27, 28] hF fun a hF => ?_
 refine wcg hF (wld hF hS 1 4 0 fun a hF => ?_)
 refine wp 2 [2, 3, 4, 31] hF fun a hF => ?_
 refine wpListIn_nil ?_
 cases hv11
 exact ⟨_, hF.kp [2, 3, 4, 31], hS.sp [0, 1, 2] [2, 1, 0, 3, 4, 5], trivial⟩
 rintro a w ⟨κ, hF, hS, -⟩
 refine hK9 _ _ ?_
 refine bif_split H (fun hb H => ?_) (fun hb H => ?_)
 refine cond_t hF (by kernel_rfl) hb ?_
 refine wpIn_seq_k fun K12 hK12 => ?_
 refine wpIn_region_lit ?_
 refine wp 1 [4, 32] hF fun a hF => ?_
 refine wc (wst hF hS 0 0 5 [si 0, si 0, eb 4 (List.replicate 4 false), (8, (List.replicate 4 (flat [sl none 0 0, sl none 0 0])).flatten), ei 21 (List.replicate 21 0)] (sgN 2 (sgEnc List.length_replicate (sgArr (hS.get 1 rfl) (sgEnc List.length_replicate sgNil)))) fun a w hF hS => ?_)
 refine wp 1 [4, 5] hF fun a hF => ?_
 refine wpListIn_nil ?_
 refine hK12 _ _ ?_
 refine wpIn_ret ?_
 have hS' := hS
 cases H
 exact (ret_done hF hS (res2 Try.results84 (rvs hF hS' 0 0 5) (rvt hF)) ⟨(List.replicate 4 (flat [sl none 0 0, sl none 0 0])).flatten, rfl, (hS.pick [0, 1, 2] (by kernel_rfl)).ro, hS.newC [] (by decide) (by kernel_rfl)⟩)
 refine cond_f hF (by kernel_rfl) hb ?_
 refine wpIn_skip ?_
 refine hK8 _ _ ?_
 refine wpIn_seq_k fun K13 hK13 => ?_
 refine rgS hS [] ?_
 have hS := hS.drew
 refine anp [0, 3] [2, 3, 4, 33, 36] hF (hS.sx [0, 1, 2] (rg 6)) fun a hF => ?_
 refine atk 1 (some 34) hF (hS.sx [0, 1, 2] (rg 6)) rfl (vld 1 1 0) fun a hF => ?_
 refine atk 4 (some 37) hF (hS.sx [0, 1, 2] (rg 6)) rfl (vld 1 3 0) fun a hF => ?_
 refine ago 2 hF rfl ?_
 refine bind_split H (fun x14 hx14 H => ?_)
 refine wo_callP hF hS (by kernel_rfl) (by kernel_rfl) (C_ref18_Gate N hS.fresh a3.DC  ((hS.pick [] (by kernel_rfl)).ro) hx14) ?_
 rintro _ κ w a ⟨rfl, hR, hN⟩ hF hS hO
 refine ⟨fun _ => (hS.sx [0, 1, 2] (rg 6)), ?_⟩
 refine anp [5, 6] [2, 3, 4, 6] hF (hS.sx [0, 1, 2] (rg 6)) fun a hF => ?_
 refine and_ ?_
 refine hK13 _ _ ?_
 refine wpIn_seq_k fun K15 hK15 => ?_
 refine wpIn_seq_k fun K16 hK16 => ?_
 refine rgS hS [] ?_
 have hS := hS.drew
 refine any_pure [0, 1, 4] [2, 3, 4, 6, 39, 40, 43] (L' := [(2, pt b5 0), (3, pt b6 0), (4, pt b7 0), (6, vi (IntKind.i64.wrap (x14 + a3.Node))), (39, vi (IntKind.i64.wrap (x14 + a3.Node))), (40, pt b5 14), (43, pt b6 4)]) (listed' := (bitA 7 19)) (fuel := 4) hF (hS.sx [0, 1, 2] (rg 6)) (by kernel_rfl) (by intro c a w t v h; cases t <;> exact h) (by kernel_rfl) rfl fun a hF => ?_
 refine bind_split H (fun x17 hx17 H => ?_)
 refine atk 2 (some 41) hF (hS.sx [0, 1, 2] (rg 6)) rfl (fun w _ => val_indexArr (E := 3) (sz := 1) (n := 21) rfl rfl (i := IntKind.i64.wrap (x14 + a3.Node)) rfl (idx_lt hx17 (hS.get 5 rfl)) (by kernel_rfl) (by kernel_rfl) w) fun a hF => ?_
 refine atk 3 (some 42) hF (hS.sx [0, 1, 2] (rg 6)) rfl (val_loadA1 (t := (fInt .i64)) 2 4 (v := vi x17) rfl rfl rfl rfl hx17 rfl rfl (by kernel_rfl) (by kernel_rfl)) fun a hF => ?_
 refine atk 5 (some 44) hF (hS.sx [0, 1, 2] (rg 6)) rfl (vld 1 4 0) fun a hF => ?_
 refine anp [6] [2, 3, 4, 6, 45] hF (hS.sx [0, 1, 2] (rg 6)) fun a hF => ?_
 refine and_ ?_
 refine hK16 _ _ ?_
 refine bif_split H (fun hb H => ?_) (fun hb H => ?_)
 refine cond_t hF (by kernel_rfl) hb ?_
 refine wpIn_seq_k fun K18 hK18 => ?_
 refine wpIn_region_lit ?_
 refine wp 1 [4, 46] hF fun a hF => ?_
 refine wc (wst hF hS 0 0 5 [si 0, si 0, eb 4 (List.replicate 4 false), (8, (List.replicate 4 (flat [sl none 0 0, sl none 0 0])).flatten), ei 21 (List.replicate 21 0)] (sgN 2 (sgEnc List.length_replicate (sgArr (hS.get 1 rfl) (sgEnc List.length_replicate sgNil)))) fun a w hF hS => ?_)
 refine wp 1 [4, 5] hF fun a hF => ?_
 refine wpListIn_nil ?_
 refine hK18 _ _ ?_
 refine wpIn_ret ?_
 have hS' := hS
 cases H
 exact (ret_done hF hS (res2 Try.results84 (rvs hF hS' 0 0 5) (rvt hF)) ⟨(List.replicate 4 (flat [sl none 0 0, sl none 0 0])).flatten, rfl, (hS.pick [0, 1, 2] (by kernel_rfl)).ro, hS.newC [] (by decide) (by kernel_rfl)⟩)
 refine cond_f hF (by kernel_rfl) hb ?_
 refine wpIn_skip ?_
 refine hK15 _ _ ?_
 refine wpIn_seq_k fun K19 hK19 => ?_
 refine wpIn_seq_k fun K20 hK20 => ?_
 refine wpIn_region_lit ?_
 refine bind_split H (fun v22 hv22 H => ?_)
 refine wl_join (fun a w => ∃ κ : Gh, Fr (93) [] [(2, pt b5 0), (3, pt b6 0), (4, pt b7 0), (6, vi (IntKind.i64.wrap (x14 + a3.Node))), (68, vb v22)] a ∧ SS [] κ0 w0 κ w [.box b7 34 [si 0, si 0, eb 4 (List.replicate 4 false), (8, (List.replicate 4 (flat [sl none 0 0, sl none 0 0])).flatten), ei 21 (List.replicate 21 0)], .box b6 72 [si a3.Kind, si a3.DC, si a3.Shard, si a3.Node, si a3.Mode, sg a3.Key], .box b5 34 [si a1.Pool, si a1.Nodes, eb 4 a1.Members, (8, cs2), ei 21 a1.Modes]] [ml (List.replicate 4 false) 4, Arr.mp t_api_Map ((List.replicate 4 (flat [sl none 0 0, sl none 0 0])).flatten) 4 (List.replicate 4 (T_api_Map.mk ([] : List ByteArray) ([] : List Int))), ml (List.replicate 21 0) 21, ml a1.Members 4, Arr.mp t_api_Map cs2 4 a1.Maps, ml a1.Modes 21] ∧ True) ?_ ?_
 refine wl_pure (L' := [(2, pt b5 0), (3, pt b6 0), (4, pt b7 0), (6, vi (IntKind.i64.wrap (x14 + a3.Node))), (47, vi (IntKind.i64.wrap (x14 + a3.Node))), (48, pt b5 14)]) 2 [2, 3, 4, 6, 47, 48] hF (by kernel_rfl) fun a hF => ?_
 refine bind_split hv22 (fun x23 hx23 hv22 => ?_)
 refine wc (wo_indexArr hF (by kernel_rfl) (E := 3) (sz := 1) (n := 21) rfl rfl (i := IntKind.i64.wrap (x14 + a3.Node)) rfl (idx_lt hx23 (hS.get 5 rfl)) (by kernel_rfl) (by kernel_rfl) fun a hF => ?_)
 refine wc (wo_loadA1 (t := (fInt .i64)) hF hS (by kernel_rfl) 2 4 (v := vi x23) rfl rfl rfl rfl hx23 rfl rfl (by kernel_rfl) (by kernel_rfl) fun a hF => ?_)
 refine wp 2 [2, 3, 4, 6, 52] hF fun a hF => ?_
 refine bif_split hv22 (fun hb hv22 => ?_) (fun hb hv22 => ?_)
 have hF := hF.boolv 52 (by kernel_rfl) hb
 refine wp 1 [2, 3, 4, 6, 52, 53] hF fun a hF => ?_
 refine wcg hF (wld hF hS 1 4 0 fun a hF => ?_)
 refine wp 3 [2, 3, 4, 6, 57] hF fun a hF => ?_
 refine bif_split hv22 (fun hb hv22 => ?_) (fun hb hv22 => ?_)
 have hF := hF.boolv 57 (by kernel_rfl) hb
 refine wp 11 [2, 3, 4, 6, 68] hF fun a hF => ?_
 refine wpListIn_nil ?_
 cases hv22
 exact ⟨_, hF.kp [2, 3, 4, 6, 68], hS.sp [0, 1, 2] (rg 6), trivial⟩
 have hF := hF.boolv 57 (by kernel_rfl) hb
 refine wl_pure (L' := [(2, pt b5 0), (3, pt b6 0), (4, pt b7 0), (6, vi (IntKind.i64.wrap (x14 + a3.Node))), (57, vb false), (58, vi (IntKind.i64.wrap (x14 + a3.Node))), (59, pt b5 14)]) 2 [2, 3, 4, 6, 57, 58, 59] hF (by kernel_rfl) fun a hF => ?_
 refine bind_split hv22 (fun x24 hx24 hv22 => ?_)
 refine wcg hF (wo_indexArr hF (by kernel_rfl) (E := 3) (sz := 1) (n := 21) rfl rfl (i := IntKind.i64.wrap (x14 + a3.Node)) rfl (idx_lt hx24 (hS.get 5 rfl)) (by kernel_rfl) (by kernel_rfl) fun a hF => ?_)
 refine wcg hF (wo_loadA1 (t := (fInt .i64)) hF hS (by kernel_rfl) 2 4 (v := vi x24) rfl rfl rfl rfl hx24 rfl rfl (by kernel_rfl) (by kernel_rfl) fun a hF => ?_)
 refine wp 2 [2, 3, 4, 6, 57, 63] hF fun a hF => ?_
 refine bif_split hv22 (fun hb hv22 => ?_) (fun hb hv22 => ?_)
 have hF := hF.boolv 63 (by kernel_rfl) hb
 refine wp 1 [2, 3, 4, 6, 57, 63, 64] hF fun a hF => ?_
 refine wcg hF (wld hF hS 1 4 0 fun a hF => ?_)
 refine wp 3 [2, 3, 4, 6, 68] hF fun a hF => ?_
 refine wpListIn_nil ?_
 cases hv22
 exact ⟨_, hF.kp [2, 3, 4, 6, 68], hS.sp [0, 1, 2] (rg 6), trivial⟩
 have hF := hF.boolv 63 (by kernel_rfl) hb
 refine wp 5 [2, 3, 4, 6, 68] hF fun a hF => ?_
 refine wpListIn_nil ?_
 cases hv22
 exact ⟨_, hF.kp [2, 3, 4, 6, 68], hS.sp [0, 1, 2] (rg 6), trivial⟩
 have hF := hF.boolv 52 (by kernel_rfl) hb
 refine wl_pure (L' := [(2, pt b5 0), (3, pt b6 0), (4, pt b7 0), (6, vi (IntKind.i64.wrap (x14 + a3.Node))), (57, vb false), (58, vi (IntKind.i64.wrap (x14 + a3.Node))), (59, pt b5 14)]) 7 [2, 3, 4, 6, 57, 58, 59] hF (by kernel_rfl) fun a hF => ?_
 refine bind_split hv22 (fun x25 hx25 hv22 => ?_)
 refine wcg hF (wo_indexArr hF (by kernel_rfl) (E := 3) (sz := 1) (n := 21) rfl rfl (i := IntKind.i64.wrap (x14 + a3.Node)) rfl (idx_lt hx25 (hS.get 5 rfl)) (by kernel_rfl) (by kernel_rfl) fun a hF => ?_)
 refine wcg hF (wo_loadA1 (t := (fInt .i64)) hF hS (by kernel_rfl) 2 4 (v := vi x25) rfl rfl rfl rfl hx25 rfl rfl (by kernel_rfl) (by kernel_rfl) fun a hF => ?_)
 refine wp 2 [2, 3, 4, 6, 57, 63] hF fun a hF => ?_
 refine bif_split hv22 (fun hb hv22 => ?_) (fun hb hv22 => ?_)
 have hF := hF.boolv 63 (by kernel_rfl) hb
 refine wp 1 [2, 3, 4, 6, 57, 63, 64] hF fun a hF => ?_
 refine wcg hF (wld hF hS 1 4 0 fun a hF => ?_)
 refine wp 3 [2, 3, 4, 6, 68] hF fun a hF => ?_
 refine wpListIn_nil ?_
 cases hv22
 exact ⟨_, hF.kp [2, 3, 4, 6, 68], hS.sp [0, 1, 2] (rg 6), trivial⟩
 have hF := hF.boolv 63 (by kernel_rfl) hb
 refine wp 5 [2, 3, 4, 6, 68] hF fun a hF => ?_
 refine wpListIn_nil ?_
 cases hv22
 exact ⟨_, hF.kp [2, 3, 4, 6, 68], hS.sp [0, 1, 2] (rg 6), trivial⟩
 rintro a w ⟨κ, hF, hS, -⟩
 refine hK20 _ _ ?_
 refine bif_split H (fun hb H => ?_) (fun hb H => ?_)
 refine cond_t hF (by kernel_rfl) hb ?_
 refine wpIn_seq_k fun K26 hK26 => ?_
 refine wpIn_region_lit ?_
 refine wp 1 [4, 69] hF fun a hF => ?_
 refine wc (wst hF hS 0 0 5 [si 0, si 0, eb 4 (List.replicate 4 false), (8, (List.replicate 4 (flat [sl none 0 0, sl none 0 0])).flatten), ei 21 (List.replicate 21 0)] (sgN 2 (sgEnc List.length_replicate (sgArr (hS.get 1 rfl) (sgEnc List.length_replicate sgNil)))) fun a w hF hS => ?_)
 refine wp 1 [4, 5] hF fun a hF => ?_
 refine wpListIn_nil ?_
 refine hK26 _ _ ?_
 refine wpIn_ret ?_
 have hS' := hS
 cases H
 exact (ret_done hF hS (res2 Try.results84 (rvs hF hS' 0 0 5) (rvt hF)) ⟨(List.replicate 4 (flat [sl none 0 0, sl none 0 0])).flatten, rfl, (hS.pick [0, 1, 2] (by kernel_rfl)).ro, hS.newC [] (by decide) (by kernel_rfl)⟩)
 refine cond_f hF (by kernel_rfl) hb ?_
 refine wpIn_skip ?_
 refine hK19 _ _ ?_
 refine wpIn_seq_k fun K27 hK27 => ?_
 refine wpIn_seq_k fun K28 hK28 => ?_
 refine wpIn_region_lit ?_
 refine bind_split H (fun v30 hv30 H => ?_)
 refine wl_join (fun a w => ∃ κ : Gh, Fr (93) [] [(2, pt b5 0), (3, pt b6 0), (4, pt b7 0), (6, vi (IntKind.i64.wrap (x14 + a3.Node))), (85, vb v30)] a ∧ SS [] κ0 w0 κ w [.box b7 34 [si 0, si 0, eb 4 (List.replicate 4 false), (8, (List.replicate 4 (flat [sl none 0 0, sl none 0 0])).flatten), ei 21 (List.replicate 21 0)], .box b6 72 [si a3.Kind, si a3.DC, si a3.Shard, si a3.Node, si a3.Mode, sg a3.Key], .box b5 34 [si a1.Pool, si a1.Nodes, eb 4 a1.Members, (8, cs2), ei 21 a1.Modes]] [ml (List.replicate 4 false) 4, Arr.mp t_api_Map ((List.replicate 4 (flat [sl none 0 0, sl none 0 0])).flatten) 4 (List.replicate 4 (T_api_Map.mk ([] : List ByteArray) ([] : List Int))), ml (List.replicate 21 0) 21, ml a1.Members 4, Arr.mp t_api_Map cs2 4 a1.Maps, ml a1.Modes 21] ∧ True) ?_ ?_
 refine wp 1 [2, 3, 4, 6, 70] hF fun a hF => ?_
 refine wc (wld hF hS 1 4 0 fun a hF => ?_)
 refine wp 2 [2, 3, 4, 6, 73] hF fun a hF => ?_
 refine bif_split hv30 (fun hb hv30 => ?_) (fun hb hv30 => ?_)
 have hF := hF.boolv 73 (by kernel_rfl) hb
 refine wcg hF (wls hF hS 2 0 5 fun a hF => ?_)
 refine bind_split hv30 (fun x31 hx31 hv30 => ?_)
 refine wcg hF (wo_callP hF hS (by kernel_rfl) (by kernel_rfl) (C_ref18_some N hS.fresh (T_ref18_State.mk a1.Pool a1.Nodes a1.Members a1.Maps a1.Modes) 1 cs2 ((hS.pick [3, 4, 5] (by kernel_rfl)).ro) hx31) ?_)
 rintro _ κ w a ⟨rfl, hR, hN⟩ hF hS hO
 refine wp 2 [2, 3, 4, 6, 77] hF fun a hF => ?_
 refine bif_split hv30 (fun hb hv30 => ?_) (fun hb hv30 => ?_)
 have hF := hF.boolv 77 (by kernel_rfl) hb
 refine wp 8 [2, 3, 4, 6, 85] hF fun a hF => ?_
 refine wpListIn_nil ?_
 cases hv30
 exact ⟨_, hF.kp [2, 3, 4, 6, 85], hS.sp [0, 1, 2] (rg 6), trivial⟩
 have hF := hF.boolv 77 (by kernel_rfl) hb
 refine wp 1 [2, 3, 4, 6, 77, 78] hF fun a hF => ?_
 refine wcg hF (wld hF hS 1 4 0 fun a hF => ?_)
 refine wp 2 [2, 3, 4, 6, 77, 81] hF fun a hF => ?_
 refine bif_split hv30 (fun hb hv30 => ?_) (fun hb hv30 => ?_)
 have hF := hF.boolv 81 (by kernel_rfl) hb
 refine wcg hF (wls hF hS 2 0 5 fun a hF => ?_)
 refine bind_split hv30 (fun x32 hx32 hv30 => ?_)
 refine wcg hF (wo_callP hF hS (by kernel_rfl) (by kernel_rfl) (C_ref18_some N hS.fresh (T_ref18_State.mk a1.Pool a1.Nodes a1.Members a1.Maps a1.Modes) 3 cs2 ((hS.pick [3, 4, 5] (by kernel_rfl)).ro) hx32) ?_)
 rintro _ κ w a ⟨rfl, hR, hN⟩ hF hS hO
 refine wp 2 [2, 3, 4, 6, 85] hF fun a hF => ?_
 refine wpListIn_nil ?_
 cases hv30
 exact ⟨_, hF.kp [2, 3, 4, 6, 85], hS.sp [0, 1, 2] (rg 6), trivial⟩
 have hF := hF.boolv 81 (by kernel_rfl) hb
 refine wp 4 [2, 3, 4, 6, 85] hF fun a hF => ?_
 refine wpListIn_nil ?_
 cases hv30
 exact ⟨_, hF.kp [2, 3, 4, 6, 85], hS.sp [0, 1, 2] (rg 6), trivial⟩
 have hF := hF.boolv 73 (by kernel_rfl) hb
 refine wp 5 [2, 3, 4, 6, 77, 78] hF fun a hF => ?_
 refine wcg hF (wld hF hS 1 4 0 fun a hF => ?_)
 refine wp 2 [2, 3, 4, 6, 77, 81] hF fun a hF => ?_
 refine bif_split hv30 (fun hb hv30 => ?_) (fun hb hv30 => ?_)
 have hF := hF.boolv 81 (by kernel_rfl) hb
 refine wcg hF (wls hF hS 2 0 5 fun a hF => ?_)
 refine bind_split hv30 (fun x33 hx33 hv30 => ?_)
 refine wcg hF (wo_callP hF hS (by kernel_rfl) (by kernel_rfl) (C_ref18_some N hS.fresh (T_ref18_State.mk a1.Pool a1.Nodes a1.Members a1.Maps a1.Modes) 3 cs2 ((hS.pick [3, 4, 5] (by kernel_rfl)).ro) hx33) ?_)
 rintro _ κ w a ⟨rfl, hR, hN⟩ hF hS hO
 refine wp 2 [2, 3, 4, 6, 85] hF fun a hF => ?_
 refine wpListIn_nil ?_
 cases hv30
 exact ⟨_, hF.kp [2, 3, 4, 6, 85], hS.sp [0, 1, 2] (rg 6), trivial⟩
 have hF := hF.boolv 81 (by kernel_rfl) hb
 refine wp 4 [2, 3, 4, 6, 85] hF fun a hF => ?_
 refine wpListIn_nil ?_
 cases hv30
 exact ⟨_, hF.kp [2, 3, 4, 6, 85], hS.sp [0, 1, 2] (rg 6), trivial⟩
 rintro a w ⟨κ, hF, hS, -⟩
 refine hK28 _ _ ?_
 refine bif_split H (fun hb H => ?_) (fun hb H => ?_)
 refine cond_t hF (by kernel_rfl) hb ?_
 refine wpIn_seq_k fun K34 hK34 => ?_
 refine wpIn_region_lit ?_
 refine wp 1 [4, 86] hF fun a hF => ?_
 refine wc (wst hF hS 0 0 5 [si 0, si 0, eb 4 (List.replicate 4 false), (8, (List.replicate 4 (flat [sl none 0 0, sl none 0 0])).flatten), ei 21 (List.replicate 21 0)] (sgN 2 (sgEnc List.length_replicate (sgArr (hS.get 1 rfl) (sgEnc List.length_replicate sgNil)))) fun a w hF hS => ?_)
 refine wp 1 [4, 5] hF fun a hF => ?_
 refine wpListIn_nil ?_
 refine hK34 _ _ ?_
 refine wpIn_ret ?_
 have hS' := hS
 cases H
 exact (ret_done hF hS (res2 Try.results84 (rvs hF hS' 0 0 5) (rvt hF)) ⟨(List.replicate 4 (flat [sl none 0 0, sl none 0 0])).flatten, rfl, (hS.pick [0, 1, 2] (by kernel_rfl)).ro, hS.newC [] (by decide) (by kernel_rfl)⟩)
 refine cond_f hF (by kernel_rfl) hb ?_
 refine wpIn_skip ?_
 refine hK27 _ _ ?_
 refine wpIn_seq_k fun K35 hK35 => ?_
 refine wpIn_region_lit ?_
 refine wp 2 [2, 4, 87, 88] hF fun a hF => ?_
 refine wc (wld hF hS 1 4 0 fun a hF => ?_)
 refine wl_pure (L' := [(2, pt b5 0), (4, pt b7 0), (87, vi (IntKind.i64.wrap (x14 + a3.Node))), (89, vi a3.Mode), (90, pt b5 14)]) 1 [2, 4, 87, 89, 90] hF (by kernel_rfl) fun a hF => ?_
 refine bind_split H (fun x36 hx36 H => ?_)
 refine wc (wo_indexArr hF (by kernel_rfl) (E := 3) (sz := 1) (n := 21) rfl rfl (i := IntKind.i64.wrap (x14 + a3.Node)) rfl (idx_lt hx36 (hS.get 5 rfl)) (by kernel_rfl) (by kernel_rfl) fun a hF => ?_)
 refine wc (wo_storeA1 (t := (fInt .i64)) (y := a3.Mode) (v := vi a3.Mode) hF hS (by kernel_rfl) 2 4 (s' := [si a1.Pool, si a1.Nodes, eb 4 a1.Members, (8, cs2), ei 21 (List.set a1.Modes (Int.toNat (IntKind.i64.wrap (x14 + a3.Node))) a3.Mode)]) (C' := [.box b7 34 [si 0, si 0, eb 4 (List.replicate 4 false), (8, (List.replicate 4 (flat [sl none 0 0, sl none 0 0])).flatten), ei 21 (List.replicate 21 0)], .box b6 72 [si a3.Kind, si a3.DC, si a3.Shard, si a3.Node, si a3.Mode, sg a3.Key], .box b5 34 [si a1.Pool, si a1.Nodes, eb 4 a1.Members, (8, cs2), ei 21 (List.set a1.Modes (Int.toNat (IntKind.i64.wrap (x14 + a3.Node))) a3.Mode)]]) rfl rfl (by kernel_rfl) rfl rfl hx36 rfl rfl (by kernel_rfl) (by kernel_rfl) (by kernel_rfl) (by kernel_rfl) fun a w hF hS => ?_)
 have hS := hS.add (m := ml (List.set a1.Modes (Int.toNat (IntKind.i64.wrap (x14 + a3.Node))) a3.Mode) 21) (List.length_set.trans (hS.get 5 rfl))
 refine wpListIn_nil ?_
 refine hK35 _ _ ?_
 refine wpIn_seq_k fun K37 hK37 => ?_
 refine wpIn_region_lit ?_
 refine wc (wls hF hS 2 0 5 fun a hF => ?_)
 refine wc (wst hF hS 0 0 5 [si a1.Pool, si a1.Nodes, eb 4 a1.Members, (8, cs2), ei 21 (List.set a1.Modes (Int.toNat (IntKind.i64.wrap (x14 + a3.Node))) a3.Mode)] (sgN 2 (sgEnc (hS.get 4 rfl) (sgArr (hS.get 5 rfl) (sgEnc (hS.get 0 rfl) sgNil)))) fun a w hF hS => ?_)
 refine wp 1 [4, 5] hF fun a hF => ?_
 refine wpListIn_nil ?_
 refine hK37 _ _ ?_
 refine wpIn_ret ?_
 have hS' := hS
 cases H
 exact (ret_done hF hS (res2 Try.results84 (rvs hF hS' 0 0 5) (rvt hF)) ⟨cs2, rfl, (hS.pick [4, 5, 0] (by kernel_rfl)).ro, hS.newC [] (by decide) (by kernel_rfl)⟩)
set_option maxRecDepth 20000 in
set_option maxHeartbeats 1000000 in
theorem C_ref18_Apply (N : Nat) {κ0 : Gh} {w0 : World} (hfr : Fresh κ0 w0) (a1 : T_ref18_State) (a3 : T_api_Cmd) (cs2 : List Value) (hR : ∀ m ∈ ([ml a1.Members 4, Arr.mp t_api_Map cs2 4 a1.Maps, ml a1.Modes 21] : List MP), m.p κ0 w0) {r : (T_ref18_State × Int)} (H : M.ref18_Apply N a1 a3 = some r) :
    Calls Try.prog 60 #[.agg (flat [si a1.Pool, si a1.Nodes, eb 4 a1.Members, (8, cs2), ei 21 a1.Modes]).toArray, .agg (flat [si a3.Kind, si a3.DC, si a3.Shard, si a3.Node, si a3.Mode, sg a3.Key]).toArray] w0 (Post [] κ0 w0 fun v κ w => ∃ cs126 : List Value, v = .tuple #[.agg (flat [si r.1.Pool, si r.1.Nodes, eb 4 r.1.Members, (8, cs126), ei 21 r.1.Modes]).toArray, vi r.2] ∧ (∀ m ∈ ([ml r.1.Members 4, Arr.mp t_api_Map cs126 4 r.1.Maps, ml r.1.Modes 21] : List MP), m.p κ w) ∧ NewC w0 κ w []) := by
 have hS := SS.start hfr hR
 refine enter (N := (151)) (L := [(0, .agg (flat [si a1.Pool, si a1.Nodes, eb 4 a1.Members, (8, cs2), ei 21 a1.Modes]).toArray), (1, .agg (flat [si a3.Kind, si a3.DC, si a3.Shard, si a3.Node, si a3.Mode, sg a3.Key]).toArray)]) Try.func60 rfl Try.ntmps60 (show 2 ≤ (151) by decide) rfl fun a hF => ?_
 unfold M.ref18_Apply at H
 refine wpIn_seq_k fun K4 hK4 => ?_
 refine wpIn_region_lit ?_
 refine wc (wbx hF hS [si a1.Pool, si a1.Nodes, eb 4 a1.Members, (8, cs2), ei 21 a1.Modes] (sgN 2 (sgEnc (hS.get 0 rfl) (sgArr (hS.get 1 rfl) (sgEnc (hS.get 2 rfl) sgNil)))) fun b5 a w hF hS => ?_)
 refine wc (wbx hF hS [si a3.Kind, si a3.DC, si a3.Shard, si a3.Node, si a3.Mode, sg a3.Key] (sgN 6 sgNil) fun b6 a w hF hS => ?_)
 have hS := hS.add (m := ml (List.replicate 4 false) 4) (List.length_replicate)
 have hS := hS.add (m := Arr.mp t_api_Map ((List.replicate 4 (flat [sl none 0 0, sl none 0 0])).flatten) 4 (List.replicate 4 (T_api_Map.mk ([] : List ByteArray) ([] : List Int)))) (Arr.zero _ _ _ _ _ z_api_Map)
 have hS := hS.add (m := ml (List.replicate 21 0) 21) (List.length_replicate)
 refine wc (wal hF hS [si 0, si 0, eb 4 (List.replicate 4 false), (8, (List.replicate 4 (flat [sl none 0 0, sl none 0 0])).flatten), ei 21 (List.replicate 21 0)] (sgN 2 (sgEnc List.length_replicate (sgArr (hS.get 1 rfl) (sgEnc List.length_replicate sgNil)))) fun b7 a w hF hS => ?_)
 refine wp 1 [2, 3, 4] hF fun a hF => ?_
 refine wpListIn_nil ?_
 refine hK4 _ _ ?_
 refine wpIn_seq_k fun K8 hK8 => ?_
 refine wpIn_seq_k fun K9 hK9 => ?_
 refine wpIn_region_lit ?_
 refine bind_split H (fun v11 hv11 H => ?_)
 refine wl_join (fun a w => ∃ κ : Gh, Fr (151) [] [(2, pt b5 0), (3, pt b6 0), (4, pt b7 0), (15, vb v11)] a ∧ SS [] κ0 w0 κ w [.box b7 34 [si 0, si 0, eb 4 (List.replicate 4 false), (8, (List.replicate 4 (flat [sl none 0 0, sl none 0 0])).flatten), ei 21 (List.replicate 21 0)], .box b6 72 [si a3.Kind, si a3.DC, si a3.Shard, si a3.Node, si a3.Mode, sg a3.Key], .box b5 34 [si a1.Pool, si a1.Nodes, eb 4 a1.Members, (8, cs2), ei 21 a1.Modes]] [ml (List.replicate 4 false) 4, Arr.mp t_api_Map ((List.replicate 4 (flat [sl none 0 0, sl none 0 0])).flatten) 4 (List.replicate 4 (T_api_Map.mk ([] : List ByteArray) ([] : List Int))), ml (List.replicate 21 0) 21, ml a1.Members 4, Arr.mp t_api_Map cs2 4 a1.Maps, ml a1.Modes 21] ∧ True) ?_ ?_
 refine wp 1 [2, 3, 4, 8] hF fun a hF => ?_
 refine wc (wld hF hS 1 0 0 fun a hF => ?_)
 refine wp 2 [2, 3, 4, 11] hF fun a hF => ?_
 refine bif_split hv11 (fun hb hv11 => ?_) (fun hb hv11 => ?_)
 have hF := hF.boolv 11 (by kernel_rfl) hb
 refine wp 4 [2, 3, 4, 15] hF fun a hF => ?_
 refine wpListIn_nil ?_
 cases hv11
 exact ⟨_, hF.kp [2, 3, 4, 15], hS.sp [0, 1, 2] [2, 1, 0, 3, 4, 5], trivial⟩
 have hF := hF.boolv 11 (by kernel_rfl) hb
 refine wp 1 [2, 3, 4, 11, 12] hF fun a hF => ?_
 refine wcg hF (wld hF hS 1 0 0 fun a hF => ?_)
 refine wp 2 [2, 3, 4, 15] hF fun a hF => ?_
 refine wpListIn_nil ?_
 cases hv11
 exact ⟨_, hF.kp [2, 3, 4, 15], hS.sp [0, 1, 2] [2, 1, 0, 3, 4, 5], trivial⟩
 rintro a w ⟨κ, hF, hS, -⟩
 refine hK9 _ _ ?_
 refine bif_split H (fun hb H => ?_) (fun hb H => ?_)
 refine cond_t hF (by kernel_rfl) hb ?_
 refine wpIn_seq_k fun K12 hK12 => ?_
 refine wpIn_region_lit ?_
 refine wp 1 [4, 16] hF fun a hF => ?_
 refine wc (wst hF hS 0 0 5 [si 0, si 0, eb 4 (List.replicate 4 false), (8, (List.replicate 4 (flat [sl none 0 0, sl none 0 0])).flatten), ei 21 (List.replicate 21 0)] (sgN 2 (sgEnc List.length_replicate (sgArr (hS.get 1 rfl) (sgEnc List.length_replicate sgNil)))) fun a w hF hS => ?_)
 refine wp 1 [4, 5] hF fun a hF => ?_
 refine wpListIn_nil ?_
 refine hK12 _ _ ?_
 refine wpIn_ret ?_
 have hS' := hS
 cases H
 exact (ret_done hF hS (res2 Try.results60 (rvs hF hS' 0 0 5) (rvt hF)) ⟨(List.replicate 4 (flat [sl none 0 0, sl none 0 0])).flatten, rfl, (hS.pick [0, 1, 2] (by kernel_rfl)).ro, hS.newC [] (by decide) (by kernel_rfl)⟩)
 refine cond_f hF (by kernel_rfl) hb ?_
 refine wpIn_skip ?_
 refine hK8 _ _ ?_
 refine wpIn_seq_k fun K13 hK13 => ?_
 refine wpIn_seq_k fun K14 hK14 => ?_
 refine wpIn_region_lit ?_
 refine bind_split H (fun v16 hv16 H => ?_)
 refine wl_join (fun a w => ∃ κ : Gh, Fr (151) [] [(2, pt b5 0), (3, pt b6 0), (4, pt b7 0), (31, vb v16)] a ∧ SS [] κ0 w0 κ w [.box b7 34 [si 0, si 0, eb 4 (List.replicate 4 false), (8, (List.replicate 4 (flat [sl none 0 0, sl none 0 0])).flatten), ei 21 (List.replicate 21 0)], .box b6 72 [si a3.Kind, si a3.DC, si a3.Shard, si a3.Node, si a3.Mode, sg a3.Key], .box b5 34 [si a1.Pool, si a1.Nodes, eb 4 a1.Members, (8, cs2), ei 21 a1.Modes]] [ml (List.replicate 4 false) 4, Arr.mp t_api_Map ((List.replicate 4 (flat [sl none 0 0, sl none 0 0])).flatten) 4 (List.replicate 4 (T_api_Map.mk ([] : List ByteArray) ([] : List Int))), ml (List.replicate 21 0) 21, ml a1.Members 4, Arr.mp t_api_Map cs2 4 a1.Maps, ml a1.Modes 21] ∧ True) ?_ ?_
 refine wp 1 [2, 3, 4, 17] hF fun a hF => ?_
 refine wc (wld hF hS 1 1 0 fun a hF => ?_)
 refine wp 2 [2, 3, 4, 20] hF fun a hF => ?_
 refine bif_split hv16 (fun hb hv16 => ?_) (fun hb hv16 => ?_)
 have hF := hF.boolv 20 (by kernel_rfl) hb
 refine wp 11 [2, 3, 4, 31] hF fun a hF => ?_
 refine wpListIn_nil ?_
 cases hv16
 exact ⟨_, hF.kp [2, 3, 4, 31], hS.sp [0, 1, 2] (rg 6), trivial⟩
 have hF := hF.boolv 20 (by kernel_rfl) hb
 refine wp 1 [2, 3, 4, 20, 21] hF fun a hF => ?_
 refine wcg hF (wld hF hS 1 1 0 fun a hF => ?_)
 refine wp 3 [2, 3, 4, 25] hF fun a hF => ?_
 refine bif_split hv16 (fun hb hv16 => ?_) (fun hb hv16 => ?_)
 have hF := hF.boolv 25 (by kernel_rfl) hb
 refine wp 6 [2, 3, 4, 31] hF fun a hF => ?_
 refine wpListIn_nil ?_
 cases hv16
 exact ⟨_, hF.kp [2, 3, 4, 31], hS.sp [0, 1, 2] (rg 6), trivial⟩
 have hF := hF.boolv 25 (by kernel_rfl) hb
 refine wp 1 [2, 3, 4, 25, 26] hF fun a hF => ?_
 refine wcg hF (wld hF hS 1 1 0 fun a hF => ?_)
 refine wp 1 [2, 3, 4, 25, 27, 28] hF fun a hF => ?_
 refine wcg hF (wld hF hS 2 0 0 fun a hF => ?_)
 refine wp 2 [2, 3, 4, 31] hF fun a hF => ?_
 refine wpListIn_nil ?_
 cases hv16
 exact ⟨_, hF.kp [2, 3, 4, 31], hS.sp [0, 1, 2] (rg 6), trivial⟩
 rintro a w ⟨κ, hF, hS, -⟩
 refine hK14 _ _ ?_
 refine bif_split H (fun hb H => ?_) (fun hb H => ?_)
 refine cond_t hF (by kernel_rfl) hb ?_
 refine wpIn_seq_k fun K17 hK17 => ?_
 refine wpIn_region_lit ?_
 refine wp 1 [4, 32] hF fun a hF => ?_
 refine wc (wst hF hS 0 0 5 [si 0, si 0, eb 4 (List.replicate 4 false), (8, (List.replicate 4 (flat [sl none 0 0, sl none 0 0])).flatten), ei 21 (List.replicate 21 0)] (sgN 2 (sgEnc List.length_replicate (sgArr (hS.get 1 rfl) (sgEnc List.length_replicate sgNil)))) fun a w hF hS => ?_)
 refine wp 1 [4, 5] hF fun a hF => ?_
 refine wpListIn_nil ?_
 refine hK17 _ _ ?_
 refine wpIn_ret ?_
 have hS' := hS
 cases H
 exact (ret_done hF hS (res2 Try.results60 (rvs hF hS' 0 0 5) (rvt hF)) ⟨(List.replicate 4 (flat [sl none 0 0, sl none 0 0])).flatten, rfl, (hS.pick [0, 1, 2] (by kernel_rfl)).ro, hS.newC [] (by decide) (by kernel_rfl)⟩)
 refine cond_f hF (by kernel_rfl) hb ?_
 refine wpIn_skip ?_
 refine hK13 _ _ ?_
 refine wpIn_seq_k fun K18 hK18 => ?_
 refine wpIn_seq_k fun K19 hK19 => ?_
 refine wpIn_region_lit ?_
 refine wp 1 [2, 3, 4, 33] hF fun a hF => ?_
 refine wc (wld hF hS 1 0 0 fun a hF => ?_)
 refine wp 1 [2, 3, 4, 35] hF fun a hF => ?_
 refine wpListIn_nil ?_
 refine hK19 _ _ ?_
 refine bif_split H (fun hb H => ?_) (fun hb H => ?_)
 refine cond_t hF (by kernel_rfl) hb ?_
 refine wpIn_seq_k fun K20 hK20 => ?_
 refine wpIn_seq_k fun K21 hK21 => ?_
 refine wpIn_region_lit ?_
 refine wp 1 [2, 3, 4, 36] hF fun a hF => ?_
 refine wc (wld hF hS 1 1 0 fun a hF => ?_)
 refine wl_pure (L' := [(2, pt b5 0), (3, pt b6 0), (4, pt b7 0), (37, vi a3.DC), (38, pt b5 2)]) 1 [2, 3, 4, 37, 38] hF (by kernel_rfl) fun a hF => ?_
 refine bind_split H (fun x22 hx22 H => ?_)
 refine wc (wo_indexArr hF (by kernel_rfl) (E := 4) (sz := 1) (n := 4) rfl rfl (i := a3.DC) rfl (idx_lt hx22 (hS.get 3 rfl)) (by kernel_rfl) (by kernel_rfl) fun a hF => ?_)
 refine wc (wo_loadA1 (t := fBool) hF hS (by kernel_rfl) 2 2 (v := vb x22) rfl rfl rfl rfl hx22 rfl rfl (by kernel_rfl) (by kernel_rfl) fun a hF => ?_)
 refine wpListIn_nil ?_
 refine hK21 _ _ ?_
 refine bif_split H (fun hb H => ?_) (fun hb H => ?_)
 refine cond_t hF (by kernel_rfl) hb ?_
 refine wpIn_seq_k fun K23 hK23 => ?_
 refine wpIn_region_lit ?_
 refine wp 1 [4, 41] hF fun a hF => ?_
 refine wc (wst hF hS 0 0 5 [si 0, si 0, eb 4 (List.replicate 4 false), (8, (List.replicate 4 (flat [sl none 0 0, sl none 0 0])).flatten), ei 21 (List.replicate 21 0)] (sgN 2 (sgEnc List.length_replicate (sgArr (hS.get 1 rfl) (sgEnc List.length_replicate sgNil)))) fun a w hF hS => ?_)
 refine wp 1 [4, 5] hF fun a hF => ?_
 refine wpListIn_nil ?_
 refine hK23 _ _ ?_
 refine wpIn_ret ?_
 have hS' := hS
 cases H
 exact (ret_done hF hS (res2 Try.results60 (rvs hF hS' 0 0 5) (rvt hF)) ⟨(List.replicate 4 (flat [sl none 0 0, sl none 0 0])).flatten, rfl, (hS.pick [0, 1, 2] (by kernel_rfl)).ro, hS.newC [] (by decide) (by kernel_rfl)⟩)
 refine cond_f hF (by kernel_rfl) hb ?_
 refine wpIn_skip ?_
 refine hK20 _ _ ?_
 refine wpIn_seq_k fun K24 hK24 => ?_
 refine wpIn_region_lit ?_
 refine wp 1 [2, 3, 4, 42] hF fun a hF => ?_
 refine wc (wld hF hS 1 1 0 fun a hF => ?_)
 refine wl_pure (L' := [(2, pt b5 0), (3, pt b6 0), (4, pt b7 0), (43, vi a3.DC), (44, pt b5 2)]) 1 [2, 3, 4, 43, 44] hF (by kernel_rfl) fun a hF => ?_
 refine bind_split H (fun x25 hx25 H => ?_)
 refine wc (wo_indexArr hF (by kernel_rfl) (E := 4) (sz := 1) (n := 4) rfl rfl (i := a3.DC) rfl (idx_lt hx25 (hS.get 3 rfl)) (by kernel_rfl) (by kernel_rfl) fun a hF => ?_)
 refine wc (wo_storeA1 (t := fBool) (y := true) (v := vb true) hF hS (by kernel_rfl) 2 2 (s' := [si a1.Pool, si a1.Nodes, eb 4 (List.set a1.Members (Int.toNat a3.DC) true), (8, cs2), ei 21 a1.Modes]) (C' := [.box b7 34 [si 0, si 0, eb 4 (List.replicate 4 false), (8, (List.replicate 4 (flat [sl none 0 0, sl none 0 0])).flatten), ei 21 (List.replicate 21 0)], .box b6 72 [si a3.Kind, si a3.DC, si a3.Shard, si a3.Node, si a3.Mode, sg a3.Key], .box b5 34 [si a1.Pool, si a1.Nodes, eb 4 (List.set a1.Members (Int.toNat a3.DC) true), (8, cs2), ei 21 a1.Modes]]) rfl rfl (by kernel_rfl) rfl rfl hx25 rfl rfl (by kernel_rfl) (by kernel_rfl) (by kernel_rfl) (by kernel_rfl) fun a w hF hS => ?_)
 have hS := hS.add (m := ml (List.set a1.Members (Int.toNat a3.DC) true) 4) (List.length_set.trans (hS.get 3 rfl))
 refine wpListIn_nil ?_
 refine hK24 _ _ ?_
 refine wpIn_seq_k fun K26 hK26 => ?_
 refine wpIn_region_lit ?_
 refine wl_pure (L' := [(2, pt b5 0), (3, pt b6 0), (4, pt b7 0), (46, pt b6 1)]) 1 [2, 3, 4, 46] hF (by kernel_rfl) fun a hF => ?_
 refine wc (wld hF hS 1 1 0 fun a hF => ?_)
 refine wc (wo_buildN (t := (fInt .i64)) (z := vi 0) (l := [0]) (vs := [(0, vi 0)]) (cells := #[vi 0]) (E := 3) hF hS (by kernel_rfl) rfl (by kernel_rfl) (by kernel_rfl) rfl (by kernel_rfl) (by kernel_rfl) (by kernel_rfl) (by kernel_rfl) (by kernel_rfl) fun p27 κ a w hF hS => ?_)
 refine wl_pure (L' := [(2, pt b5 0), (3, pt b6 0), (4, pt b7 0), (47, vi a3.DC), (49, .agg (flat [sl none 0 0, sl p27 ([0]).length 1]).toArray), (50, pt b5 6)]) 2 [2, 3, 4, 47, 49, 50] hF (by kernel_rfl) fun a hF => ?_
 refine bind_split H (fun x28 hx28 H => ?_)
 refine wc (wo_indexArr hF (by kernel_rfl) (E := 26) (sz := 2) (n := 4) rfl rfl (i := a3.DC) rfl (idx_lt hx28 ((hS.get 6 rfl : ArrP _ _ _ _ _ _).1)) (by kernel_rfl) (by kernel_rfl) fun a hF => ?_)
 have hS := hS.add (m := Ro.mp fStr.ty none 0 ([] : List ByteArray)) (Ro.nil fStr.ty _ _)
 refine wc (wo_storeATy (t := t_api_Map) (n := 4) (new := (flat [sl none 0 0, sl p27 ([0]).length 1])) (y := (T_api_Map.mk ([] : List ByteArray) [0])) (v := .agg (flat [sl none 0 0, sl p27 ([0]).length 1]).toArray) hF hS (by kernel_rfl) 3 3 7 (s' := [si a1.Pool, si a1.Nodes, eb 4 (List.set a1.Members (Int.toNat a3.DC) true), (8, (splice cs2 (Int.toNat a3.DC * 2) (flat [sl none 0 0, sl p27 ([0]).length 1]))), ei 21 a1.Modes]) (C' := [.tok p27 3 1 ([0]).length 1, .box b7 34 [si 0, si 0, eb 4 (List.replicate 4 false), (8, (List.replicate 4 (flat [sl none 0 0, sl none 0 0])).flatten), ei 21 (List.replicate 21 0)], .box b6 72 [si a3.Kind, si a3.DC, si a3.Shard, si a3.Node, si a3.Mode, sg a3.Key], .box b5 34 [si a1.Pool, si a1.Nodes, eb 4 (List.set a1.Members (Int.toNat a3.DC) true), (8, (splice cs2 (Int.toNat a3.DC * 2) (flat [sl none 0 0, sl p27 ([0]).length 1]))), ei 21 a1.Modes]]) rfl rfl (by kernel_rfl) (by kernel_rfl) rfl rfl rfl hx28 ⟨(none, 0, p27, 1), rfl, (hS.pick [0, 1] (by kernel_rfl)).ro⟩ (by kernel_rfl) (by kernel_rfl) (by kernel_rfl) (by kernel_rfl) (by kernel_rfl) fun a w hF hS => ?_)
 refine wpListIn_nil ?_
 refine hK26 _ _ ?_
 refine wpIn_seq_k fun K29 hK29 => ?_
 refine wpIn_region_lit ?_
 refine wc (wls hF hS 3 0 5 fun a hF => ?_)
 refine wp 1 [4, 52, 53] hF fun a hF => ?_
 refine wc (wld hF hS 2 1 0 fun a hF => ?_)
 refine bind_split H (fun x30 hx30 H => ?_)
 refine wc (wo_callP hF hS (by kernel_rfl) (by kernel_rfl) (C_ref18_both N hS.fresh (T_ref18_State.mk a1.Pool a1.Nodes (List.set a1.Members (Int.toNat a3.DC) true) (List.set a1.Maps (Int.toNat a3.DC) (T_api_Map.mk ([] : List ByteArray) [0])) a1.Modes) a3.DC (splice cs2 (Int.toNat a3.DC * 2) (flat [sl none 0 0, sl p27 ([0]).length 1])) ((hS.pick [3, 0, 9] (by kernel_rfl)).ro) hx30) ?_)
 rintro _ κ w a ⟨cs31, rfl, hR, hN⟩ hF hS hO
 have hS := hS.adds hR
 refine wc (wst hF hS 1 0 5 [si x30.Pool, si x30.Nodes, eb 4 x30.Members, (8, cs31), ei 21 x30.Modes] (sgN 2 (sgEnc (hS.get 0 rfl) (sgArr (hS.get 1 rfl) (sgEnc (hS.get 2 rfl) sgNil)))) fun a w hF hS => ?_)
 refine wp 1 [4, 5] hF fun a hF => ?_
 refine wpListIn_nil ?_
 refine hK29 _ _ ?_
 refine wpIn_ret ?_
 have hS' := hS
 cases H
 exact (ret_done hF hS (res2 Try.results60 (rvs hF hS' 1 0 5) (rvt hF)) ⟨cs31, rfl, (hS.pick [0, 1, 2] (by kernel_rfl)).ro, hS.newC [] (by decide) (by kernel_rfl)⟩)
 refine cond_f hF (by kernel_rfl) hb ?_
 refine wpIn_skip ?_
 refine hK18 _ _ ?_
 refine wpIn_seq_k fun K32 hK32 => ?_
 refine wpIn_seq_k fun K33 hK33 => ?_
 refine wpIn_region_lit ?_
 refine wp 1 [2, 3, 4, 56] hF fun a hF => ?_
 refine wc (wld hF hS 1 1 0 fun a hF => ?_)
 refine wl_pure (L' := [(2, pt b5 0), (3, pt b6 0), (4, pt b7 0), (57, vi a3.DC), (58, pt b5 2)]) 1 [2, 3, 4, 57, 58] hF (by kernel_rfl) fun a hF => ?_
 refine bind_split H (fun x34 hx34 H => ?_)
 refine wc (wo_indexArr hF (by kernel_rfl) (E := 4) (sz := 1) (n := 4) rfl rfl (i := a3.DC) rfl (idx_lt hx34 (hS.get 3 rfl)) (by kernel_rfl) (by kernel_rfl) fun a hF => ?_)
 refine wc (wo_loadA1 (t := fBool) hF hS (by kernel_rfl) 2 2 (v := vb x34) rfl rfl rfl rfl hx34 rfl rfl (by kernel_rfl) (by kernel_rfl) fun a hF => ?_)
 refine wp 1 [2, 3, 4, 61] hF fun a hF => ?_
 refine wpListIn_nil ?_
 refine hK33 _ _ ?_
 refine bif_split H (fun hb H => ?_) (fun hb H => ?_)
 refine cond_t hF (by kernel_rfl) hb ?_
 refine wpIn_seq_k fun K35 hK35 => ?_
 refine wpIn_region_lit ?_
 refine wp 1 [4, 62] hF fun a hF => ?_
 refine wc (wst hF hS 0 0 5 [si 0, si 0, eb 4 (List.replicate 4 false), (8, (List.replicate 4 (flat [sl none 0 0, sl none 0 0])).flatten), ei 21 (List.replicate 21 0)] (sgN 2 (sgEnc List.length_replicate (sgArr (hS.get 1 rfl) (sgEnc List.length_replicate sgNil)))) fun a w hF hS => ?_)
 refine wp 1 [4, 5] hF fun a hF => ?_
 refine wpListIn_nil ?_
 refine hK35 _ _ ?_
 refine wpIn_ret ?_
 have hS' := hS
 cases H
 exact (ret_done hF hS (res2 Try.results60 (rvs hF hS' 0 0 5) (rvt hF)) ⟨(List.replicate 4 (flat [sl none 0 0, sl none 0 0])).flatten, rfl, (hS.pick [0, 1, 2] (by kernel_rfl)).ro, hS.newC [] (by decide) (by kernel_rfl)⟩)
 refine cond_f hF (by kernel_rfl) hb ?_
 refine wpIn_skip ?_
 refine hK32 _ _ ?_
 refine wpIn_seq_k fun K36 hK36 => ?_
 refine wpIn_seq_k fun K37 hK37 => ?_
 refine wpIn_region_lit ?_
 refine wp 1 [2, 3, 4, 63] hF fun a hF => ?_
 refine wc (wld hF hS 1 0 0 fun a hF => ?_)
 refine wp 1 [2, 3, 4, 65] hF fun a hF => ?_
 refine wpListIn_nil ?_
 refine hK37 _ _ ?_
 refine bif_split H (fun hb H => ?_) (fun hb H => ?_)
 refine cond_t hF (by kernel_rfl) hb ?_
 refine wpIn_seq_k fun K38 hK38 => ?_
 refine wpIn_seq_k fun K39 hK39 => ?_
 refine wpIn_region_lit ?_
 refine wc (wls hF hS 2 0 5 fun a hF => ?_)
 refine bind_split H (fun x40 hx40 H => ?_)
 refine wc (wo_callP hF hS (by kernel_rfl) (by kernel_rfl) (C_ref18_Count N hS.fresh (T_ref18_State.mk a1.Pool a1.Nodes a1.Members a1.Maps a1.Modes) cs2 ((hS.pick [3, 4, 5] (by kernel_rfl)).ro) hx40) ?_)
 rintro _ κ w a ⟨rfl, hR, hN⟩ hF hS hO
 refine wp 1 [2, 3, 4, 68] hF fun a hF => ?_
 refine wpListIn_nil ?_
 refine hK39 _ _ ?_
 refine bif_split H (fun hb H => ?_) (fun hb H => ?_)
 refine cond_t hF (by kernel_rfl) hb ?_
 refine wpIn_seq_k fun K41 hK41 => ?_
 refine wpIn_region_lit ?_
 refine wp 1 [4, 69] hF fun a hF => ?_
 refine wc (wst hF hS 0 0 5 [si 0, si 0, eb 4 (List.replicate 4 false), (8, (List.replicate 4 (flat [sl none 0 0, sl none 0 0])).flatten), ei 21 (List.replicate 21 0)] (sgN 2 (sgEnc List.length_replicate (sgArr (hS.get 1 rfl) (sgEnc List.length_replicate sgNil)))) fun a w hF hS => ?_)
 refine wp 1 [4, 5] hF fun a hF => ?_
 refine wpListIn_nil ?_
 refine hK41 _ _ ?_
 refine wpIn_ret ?_
 have hS' := hS
 cases H
 exact (ret_done hF hS (res2 Try.results60 (rvs hF hS' 0 0 5) (rvt hF)) ⟨(List.replicate 4 (flat [sl none 0 0, sl none 0 0])).flatten, rfl, (hS.pick [0, 1, 2] (by kernel_rfl)).ro, hS.newC [] (by decide) (by kernel_rfl)⟩)
 refine cond_f hF (by kernel_rfl) hb ?_
 refine wpIn_skip ?_
 refine hK38 _ _ ?_
 refine wpIn_seq_k fun K42 hK42 => ?_
 refine wpIn_region_lit ?_
 refine wp 1 [2, 3, 4, 70] hF fun a hF => ?_
 refine wc (wld hF hS 1 1 0 fun a hF => ?_)
 refine wl_pure (L' := [(2, pt b5 0), (3, pt b6 0), (4, pt b7 0), (71, vi a3.DC), (72, pt b5 2)]) 1 [2, 3, 4, 71, 72] hF (by kernel_rfl) fun a hF => ?_
 refine bind_split H (fun x43 hx43 H => ?_)
 refine wc (wo_indexArr hF (by kernel_rfl) (E := 4) (sz := 1) (n := 4) rfl rfl (i := a3.DC) rfl (idx_lt hx43 (hS.get 3 rfl)) (by kernel_rfl) (by kernel_rfl) fun a hF => ?_)
 refine wc (wo_storeA1 (t := fBool) (y := false) (v := vb false) hF hS (by kernel_rfl) 2 2 (s' := [si a1.Pool, si a1.Nodes, eb 4 (List.set a1.Members (Int.toNat a3.DC) false), (8, cs2), ei 21 a1.Modes]) (C' := [.box b7 34 [si 0, si 0, eb 4 (List.replicate 4 false), (8, (List.replicate 4 (flat [sl none 0 0, sl none 0 0])).flatten), ei 21 (List.replicate 21 0)], .box b6 72 [si a3.Kind, si a3.DC, si a3.Shard, si a3.Node, si a3.Mode, sg a3.Key], .box b5 34 [si a1.Pool, si a1.Nodes, eb 4 (List.set a1.Members (Int.toNat a3.DC) false), (8, cs2), ei 21 a1.Modes]]) rfl rfl (by kernel_rfl) rfl rfl hx43 rfl rfl (by kernel_rfl) (by kernel_rfl) (by kernel_rfl) (by kernel_rfl) fun a w hF hS => ?_)
 have hS := hS.add (m := ml (List.set a1.Members (Int.toNat a3.DC) false) 4) (List.length_set.trans (hS.get 3 rfl))
 refine wpListIn_nil ?_
 refine hK42 _ _ ?_
 refine wpIn_seq_k fun K44 hK44 => ?_
 refine wpIn_region_lit ?_
 refine wp 1 [2, 3, 4, 74] hF fun a hF => ?_
 refine wc (wld hF hS 1 1 0 fun a hF => ?_)
 refine wl_pure (L' := [(2, pt b5 0), (3, pt b6 0), (4, pt b7 0), (75, vi a3.DC), (76, .agg (flat [sl none 0 0, sl none 0 0]).toArray), (77, pt b5 6)]) 2 [2, 3, 4, 75, 76, 77] hF (by kernel_rfl) fun a hF => ?_
 refine bind_split H (fun x45 hx45 H => ?_)
 refine wc (wo_indexArr hF (by kernel_rfl) (E := 26) (sz := 2) (n := 4) rfl rfl (i := a3.DC) rfl (idx_lt hx45 ((hS.get 5 rfl : ArrP _ _ _ _ _ _).1)) (by kernel_rfl) (by kernel_rfl) fun a hF => ?_)
 have hS := hS.add (m := Ro.mp fStr.ty none 0 ([] : List ByteArray)) (Ro.nil fStr.ty _ _)
 have hS := hS.add (m := Ro.mp (fInt .i64).ty none 0 ([] : List Int)) (Ro.nil (fInt .i64).ty _ _)
 refine wc (wo_storeATy (t := t_api_Map) (n := 4) (new := (flat [sl none 0 0, sl none 0 0])) (y := (T_api_Map.mk ([] : List ByteArray) ([] : List Int))) (v := .agg (flat [sl none 0 0, sl none 0 0]).toArray) hF hS (by kernel_rfl) 2 3 7 (s' := [si a1.Pool, si a1.Nodes, eb 4 (List.set a1.Members (Int.toNat a3.DC) false), (8, (splice cs2 (Int.toNat a3.DC * 2) (flat [sl none 0 0, sl none 0 0]))), ei 21 a1.Modes]) (C' := [.box b7 34 [si 0, si 0, eb 4 (List.replicate 4 false), (8, (List.replicate 4 (flat [sl none 0 0, sl none 0 0])).flatten), ei 21 (List.replicate 21 0)], .box b6 72 [si a3.Kind, si a3.DC, si a3.Shard, si a3.Node, si a3.Mode, sg a3.Key], .box b5 34 [si a1.Pool, si a1.Nodes, eb 4 (List.set a1.Members (Int.toNat a3.DC) false), (8, (splice cs2 (Int.toNat a3.DC * 2) (flat [sl none 0 0, sl none 0 0]))), ei 21 a1.Modes]]) rfl rfl (by kernel_rfl) (by kernel_rfl) rfl rfl rfl hx45 ⟨(none, 0, none, 0), rfl, (hS.pick [1, 0] (by kernel_rfl)).ro⟩ (by kernel_rfl) (by kernel_rfl) (by kernel_rfl) (by kernel_rfl) (by kernel_rfl) fun a w hF hS => ?_)
 refine wpListIn_nil ?_
 refine hK44 _ _ ?_
 refine wpIn_seq_k fun K46 hK46 => ?_
 refine wpIn_region_lit ?_
 refine wc (wls hF hS 2 0 5 fun a hF => ?_)
 refine wp 1 [4, 79, 80] hF fun a hF => ?_
 refine wc (wld hF hS 1 1 0 fun a hF => ?_)
 refine bind_split H (fun x47 hx47 H => ?_)
 refine wc (wo_callP hF hS (by kernel_rfl) (by kernel_rfl) (C_ref18_both N hS.fresh (T_ref18_State.mk a1.Pool a1.Nodes (List.set a1.Members (Int.toNat a3.DC) false) (List.set a1.Maps (Int.toNat a3.DC) (T_api_Map.mk ([] : List ByteArray) ([] : List Int))) a1.Modes) a3.DC (splice cs2 (Int.toNat a3.DC * 2) (flat [sl none 0 0, sl none 0 0])) ((hS.pick [3, 0, 9] (by kernel_rfl)).ro) hx47) ?_)
 rintro _ κ w a ⟨cs48, rfl, hR, hN⟩ hF hS hO
 have hS := hS.adds hR
 refine wc (wst hF hS 0 0 5 [si x47.Pool, si x47.Nodes, eb 4 x47.Members, (8, cs48), ei 21 x47.Modes] (sgN 2 (sgEnc (hS.get 0 rfl) (sgArr (hS.get 1 rfl) (sgEnc (hS.get 2 rfl) sgNil)))) fun a w hF hS => ?_)
 refine wp 1 [4, 5] hF fun a hF => ?_
 refine wpListIn_nil ?_
 refine hK46 _ _ ?_
 refine wpIn_ret ?_
 have hS' := hS
 cases H
 exact (ret_done hF hS (res2 Try.results60 (rvs hF hS' 0 0 5) (rvt hF)) ⟨cs48, rfl, (hS.pick [0, 1, 2] (by kernel_rfl)).ro, hS.newC [] (by decide) (by kernel_rfl)⟩)
 refine cond_f hF (by kernel_rfl) hb ?_
 refine wpIn_skip ?_
 refine hK36 _ _ ?_
 refine wpIn_seq_k fun K49 hK49 => ?_
 refine wpIn_seq_k fun K50 hK50 => ?_
 refine wpIn_region_lit ?_
 refine wp 1 [2, 3, 4, 83] hF fun a hF => ?_
 refine wc (wld hF hS 1 0 0 fun a hF => ?_)
 refine wp 1 [2, 3, 4, 85] hF fun a hF => ?_
 refine wpListIn_nil ?_
 refine hK50 _ _ ?_
 refine bif_split H (fun hb H => ?_) (fun hb H => ?_)
 refine cond_t hF (by kernel_rfl) hb ?_
 refine wpIn_seq_k fun K51 hK51 => ?_
 refine wpIn_region_lit ?_
 refine wc (wls hF hS 2 0 5 fun a hF => ?_)
 refine wc (wls hF hS 1 0 6 fun a hF => ?_)
 refine bind_split H (fun x52 hx52 H => ?_)
 refine wc (wo_callP hF hS (by kernel_rfl) (by kernel_rfl) (C_ref18_speak N hS.fresh (T_ref18_State.mk a1.Pool a1.Nodes a1.Members a1.Maps a1.Modes) (T_api_Cmd.mk a3.Kind a3.DC a3.Shard a3.Node a3.Mode a3.Key) cs2 ((hS.pick [3, 4, 5] (by kernel_rfl)).ro) hx52) ?_)
 rintro _ κ w a ⟨cs53, rfl, hR, hN⟩ hF hS hO
 have hS := hS.adds hR
 refine wp 2 [4, 89, 90] hF fun a hF => ?_
 refine wc (wst hF hS 0 0 5 [si x52.1.Pool, si x52.1.Nodes, eb 4 x52.1.Members, (8, cs53), ei 21 x52.1.Modes] (sgN 2 (sgEnc (hS.get 0 rfl) (sgArr (hS.get 1 rfl) (sgEnc (hS.get 2 rfl) sgNil)))) fun a w hF hS => ?_)
 refine wp 1 [4, 5] hF fun a hF => ?_
 refine wpListIn_nil ?_
 refine hK51 _ _ ?_
 refine wpIn_ret ?_
 have hS' := hS
 cases H
 exact (ret_done hF hS (res2 Try.results60 (rvs hF hS' 0 0 5) (rvt hF)) ⟨cs53, rfl, (hS.pick [0, 1, 2] (by kernel_rfl)).ro, hS.newC [] (by decide) (by kernel_rfl)⟩)
 refine cond_f hF (by kernel_rfl) hb ?_
 refine wpIn_skip ?_
 refine hK49 _ _ ?_
 refine wpIn_seq_k fun K54 hK54 => ?_
 refine wpIn_region_lit ?_
 refine wp 1 [2, 3, 4, 91] hF fun a hF => ?_
 refine wc (wal hF hS [sl none 0 0, sl none 0 0] (sgN 2 sgNil) fun b55 a w hF hS => ?_)
 refine wc (wst hF hS 0 0 2 [sl none 0 0, sl none 0 0] (sgN 2 sgNil) fun a w hF hS => ?_)
 refine wp 1 [2, 3, 4, 6] hF fun a hF => ?_
 refine wpListIn_nil ?_
 refine hK54 _ _ ?_
 refine seq_join (fun a w => ∃ (κ : Gh) (y56 : List ByteArray) (p57 : Option Addr) (c58 : Nat) (y59 : List Int) (p60 : Option Addr) (c61 : Nat) (y62 : Int), Fr (151) [] [(2, pt b5 0), (3, pt b6 0), (4, pt b7 0), (6, pt b55 0), (7, vi y62)] a ∧ SS [] κ0 w0 κ w [.box b55 26 [sl p57 (y56).length c58, sl p60 (y59).length c61], .box b7 34 [si 0, si 0, eb 4 (List.replicate 4 false), (8, (List.replicate 4 (flat [sl none 0 0, sl none 0 0])).flatten), ei 21 (List.replicate 21 0)], .box b6 72 [si a3.Kind, si a3.DC, si a3.Shard, si a3.Node, si a3.Mode, sg a3.Key], .box b5 34 [si a1.Pool, si a1.Nodes, eb 4 a1.Members, (8, cs2), ei 21 a1.Modes], .tok p57 9 1 (y56).length c58, .tok p60 3 1 (y59).length c61] [Ro.mp fStr.ty p57 c58 y56, Ro.mp (fInt .i64).ty p60 c61 y59, ml (List.replicate 4 false) 4, Arr.mp t_api_Map ((List.replicate 4 (flat [sl none 0 0, sl none 0 0])).flatten) 4 (List.replicate 4 (T_api_Map.mk ([] : List ByteArray) ([] : List Int))), ml (List.replicate 21 0) 21, ml a1.Members 4, Arr.mp t_api_Map cs2 4 a1.Maps, ml a1.Modes 21] ∧ M.ref18_Apply_k1 N a1 a3 y56 y59 y62 = some r) ?_ ?_
 refine wpIn_seq_k fun K69 hK69 => ?_
 refine wpIn_region_lit ?_
 refine wp 1 [2, 3, 4, 6, 92] hF fun a hF => ?_
 refine wc (wld hF hS 2 0 0 fun a hF => ?_)
 refine wpListIn_nil ?_
 refine hK69 _ _ ?_
 refine wpIn_block ?_
 refine wpIn_seq_k fun K70 hK70 => ?_
 refine wpIn_region_lit ?_
 refine wp 2 [2, 3, 4, 6, 93, 109] hF fun a hF => ?_
 refine wpListIn_nil ?_
 refine hK70 _ _ ?_
 refine bif_split H (fun hb H => ?_) (fun hb H => ?_)
 refine cond_t hF (by kernel_rfl) hb ?_
 refine bind_split H (fun v78 hv78 H => ?_)
 refine code_join (fun a w => ∃ (κ : Gh) (p72 : Option Addr) (c73 : Nat) (p75 : Option Addr) (c76 : Nat), Fr (151) [] [(2, pt b5 0), (3, pt b6 0), (4, pt b7 0), (6, pt b55 0), (7, vi v78.2.2)] a ∧ SS [] κ0 w0 κ w [.box b55 26 [sl p72 (v78.1).length c73, sl p75 (v78.2.1).length c76], .box b7 34 [si 0, si 0, eb 4 (List.replicate 4 false), (8, (List.replicate 4 (flat [sl none 0 0, sl none 0 0])).flatten), ei 21 (List.replicate 21 0)], .box b6 72 [si a3.Kind, si a3.DC, si a3.Shard, si a3.Node, si a3.Mode, sg a3.Key], .box b5 34 [si a1.Pool, si a1.Nodes, eb 4 a1.Members, (8, cs2), ei 21 a1.Modes], .tok p72 9 1 (v78.1).length c73, .tok p75 3 1 (v78.2.1).length c76] [Ro.mp fStr.ty p72 c73 v78.1, Ro.mp (fInt .i64).ty p75 c76 v78.2.1, ml (List.replicate 4 false) 4, Arr.mp t_api_Map ((List.replicate 4 (flat [sl none 0 0, sl none 0 0])).flatten) 4 (List.replicate 4 (T_api_Map.mk ([] : List ByteArray) ([] : List Int))), ml (List.replicate 21 0) 21, ml a1.Members 4, Arr.mp t_api_Map cs2 4 a1.Maps, ml a1.Modes 21] ∧ True) ?_ ?_
 refine rgS hS [15] ?_
 have hS := hS.drew
 refine any_pure [0, 2, 5, 7, 9] [2, 3, 4, 6, 112, 114, 117, 119, 121] (L' := [(2, pt b5 0), (3, pt b6 0), (4, pt b7 0), (6, pt b55 0), (112, pt b6 1), (114, pt b5 6), (117, pt b5 1), (119, pt b6 2), (121, pt b6 5)]) (listed' := (bitA 17 677)) (fuel := 12) hF (hS.sx (rg 4) (rg 6)) (by kernel_rfl) (by intro c a w t v h; cases t <;> exact h) (by kernel_rfl) rfl fun a hF => ?_
 refine atk 1 (some 113) hF (hS.sx (rg 4) (rg 6)) rfl (vld 2 1 0) fun a hF => ?_
 refine bind_split hv78 (fun x79 hx79 hv78 => ?_)
 refine atk 3 (some 115) hF (hS.sx (rg 4) (rg 6)) rfl (fun w _ => val_indexArr (E := 26) (sz := 2) (n := 4) rfl rfl (i := a3.DC) rfl (idx_lt hx79 ((hS.get 4 rfl : ArrP _ _ _ _ _ _).1)) (by kernel_rfl) (by kernel_rfl) w) fun a hF => ?_
 obtain ⟨⟨p80, c81, p82, c83⟩, hqx79, hR⟩ := elemATy (hS.get 4 rfl) hx79
 have hS := hS.adds hR
 refine atk 4 (some 116) hF (hS.sx (rg 4) [2, 3, 4, 5, 6, 7]) rfl (val_loadATy (t := t_api_Map) (n := 4) 3 3 rfl rfl rfl rfl (idx_lt hx79 (hS.get 6 rfl : ArrP _ _ _ _ _ _).1) (by kernel_rfl) (by kernel_rfl) (by kernel_rfl) (by kernel_rfl) hqx79) fun a hF => ?_
 refine atk 6 (some 118) hF (hS.sx (rg 4) [2, 3, 4, 5, 6, 7]) rfl (vld 3 1 0) fun a hF => ?_
 refine atk 8 (some 120) hF (hS.sx (rg 4) [2, 3, 4, 5, 6, 7]) rfl (vld 2 2 0) fun a hF => ?_
 refine atk 10 (some 122) hF (hS.sx (rg 4) [2, 3, 4, 5, 6, 7]) rfl (vld 2 5 0) fun a hF => ?_
 refine ago 11 hF rfl ?_
 refine bind_split hv78 (fun x84 hx84 hv78 => ?_)
 refine wo_callP hF hS (by kernel_rfl) (by kernel_rfl) (C_ref08_Split N hS.fresh (T_api_Map.mk x79.Cuts x79.Nodes) a1.Nodes a3.Shard a3.Key p80 c81 p82 c83 ((hS.pick [0, 1] (by kernel_rfl)).ro) hx84) ?_
 rintro _ κ w a ⟨p85, c86, p87, c88, rfl, hR, hN⟩ hF hS hO
 have hS := hS.adds hR
 have hS := hS.addC hO hN
 refine ⟨fun _ => (hS.sx [2, 3, 4, 5] [4, 5, 6, 7, 8, 9]), ?_⟩
 refine anp [12, 13] [2, 3, 4, 6, 111, 124] hF (hS.sx [2, 3, 4, 5] [4, 5, 6, 7, 8, 9]) fun a hF => ?_
 refine ago2 14 15 hF rfl rfl ?_ ?_
 refine wo_pure (v := vi x84.2) hF (by kernel_rfl) (by kernel_rfl) fun a hF => ?_
 refine ⟨fun _ => (hS.sx [2, 3, 4, 5] [4, 5, 6, 7, 8, 9]), ?_⟩
 refine ago 15 hF rfl ?_
 refine wst hF hS 2 0 2 [sl p85 (x84.1.Cuts).length c86, sl p87 (x84.1.Nodes).length c88] (sgN 2 sgNil) fun a w hF hS => ?_
 refine ⟨notE, ?_⟩
 refine ago 16 hF rfl ?_
 refine wo_pure (v := vi x84.2) hF (by kernel_rfl) (by kernel_rfl) fun a hF => ?_
 refine ⟨notE, ?_⟩
 refine and_ ?_
 cases hv78
 exact ⟨_, p85, c86, p87, c88, hF.kp [2, 3, 4, 6, 7], hS.sp [2, 3, 4, 5, 0, 1] [0, 1, 4, 5, 6, 7, 8, 9], trivial⟩
 refine wst hF hS 2 0 2 [sl p85 (x84.1.Cuts).length c86, sl p87 (x84.1.Nodes).length c88] (sgN 2 sgNil) fun a w hF hS => ?_
 refine ⟨notE, ?_⟩
 refine ago 14 hF rfl ?_
 refine wo_pure (v := vi x84.2) hF (by kernel_rfl) (by kernel_rfl) fun a hF => ?_
 refine ⟨notE, ?_⟩
 refine ago 16 hF rfl ?_
 refine wo_pure (v := vi x84.2) hF (by kernel_rfl) (by kernel_rfl) fun a hF => ?_
 refine ⟨notE, ?_⟩
 refine and_ ?_
 cases hv78
 exact ⟨_, p85, c86, p87, c88, hF.kp [2, 3, 4, 6, 7], hS.sp [2, 3, 4, 5, 0, 1] [0, 1, 4, 5, 6, 7, 8, 9], trivial⟩
 rintro a w ⟨κ, p72, c73, p75, c76, hF, hS, -⟩
 exact ⟨_, v78.1, p72, c73, v78.2.1, p75, c76, v78.2.2, hF.kp [2, 3, 4, 6, 7], hS.sp (rg 6) (rg 8), H⟩
 refine cond_f hF (by kernel_rfl) hb ?_
 refine wpIn_seq_k fun K89 hK89 => ?_
 refine wpIn_region_lit ?_
 refine wp 2 [2, 3, 4, 6, 126] hF fun a hF => ?_
 refine wpListIn_nil ?_
 refine hK89 _ _ ?_
 refine bif_split H (fun hb H => ?_) (fun hb H => ?_)
 refine cond_t hF (by kernel_rfl) hb ?_
 refine bind_split H (fun v97 hv97 H => ?_)
 refine code_join (fun a w => ∃ (κ : Gh) (p91 : Option Addr) (c92 : Nat) (p94 : Option Addr) (c95 : Nat), Fr (151) [] [(2, pt b5 0), (3, pt b6 0), (4, pt b7 0), (6, pt b55 0), (7, vi v97.2.2)] a ∧ SS [] κ0 w0 κ w [.box b55 26 [sl p91 (v97.1).length c92, sl p94 (v97.2.1).length c95], .box b7 34 [si 0, si 0, eb 4 (List.replicate 4 false), (8, (List.replicate 4 (flat [sl none 0 0, sl none 0 0])).flatten), ei 21 (List.replicate 21 0)], .box b6 72 [si a3.Kind, si a3.DC, si a3.Shard, si a3.Node, si a3.Mode, sg a3.Key], .box b5 34 [si a1.Pool, si a1.Nodes, eb 4 a1.Members, (8, cs2), ei 21 a1.Modes], .tok p91 9 1 (v97.1).length c92, .tok p94 3 1 (v97.2.1).length c95] [Ro.mp fStr.ty p91 c92 v97.1, Ro.mp (fInt .i64).ty p94 c95 v97.2.1, ml (List.replicate 4 false) 4, Arr.mp t_api_Map ((List.replicate 4 (flat [sl none 0 0, sl none 0 0])).flatten) 4 (List.replicate 4 (T_api_Map.mk ([] : List ByteArray) ([] : List Int))), ml (List.replicate 21 0) 21, ml a1.Members 4, Arr.mp t_api_Map cs2 4 a1.Maps, ml a1.Modes 21] ∧ True) ?_ ?_
 refine rgS hS [13] ?_
 have hS := hS.drew
 refine any_pure [0, 2, 5, 7] [2, 3, 4, 6, 129, 131, 134, 136] (L' := [(2, pt b5 0), (3, pt b6 0), (4, pt b7 0), (6, pt b55 0), (129, pt b6 1), (131, pt b5 6), (134, pt b5 1), (136, pt b6 2)]) (listed' := (bitA 15 165)) (fuel := 11) hF (hS.sx (rg 4) (rg 6)) (by kernel_rfl) (by intro c a w t v h; cases t <;> exact h) (by kernel_rfl) rfl fun a hF => ?_
 refine atk 1 (some 130) hF (hS.sx (rg 4) (rg 6)) rfl (vld 2 1 0) fun a hF => ?_
 refine bind_split hv97 (fun x98 hx98 hv97 => ?_)
 refine atk 3 (some 132) hF (hS.sx (rg 4) (rg 6)) rfl (fun w _ => val_indexArr (E := 26) (sz := 2) (n := 4) rfl rfl (i := a3.DC) rfl (idx_lt hx98 ((hS.get 4 rfl : ArrP _ _ _ _ _ _).1)) (by kernel_rfl) (by kernel_rfl) w) fun a hF => ?_
 obtain ⟨⟨p99, c100, p101, c102⟩, hqx98, hR⟩ := elemATy (hS.get 4 rfl) hx98
 have hS := hS.adds hR
 refine atk 4 (some 133) hF (hS.sx (rg 4) [2, 3, 4, 5, 6, 7]) rfl (val_loadATy (t := t_api_Map) (n := 4) 3 3 rfl rfl rfl rfl (idx_lt hx98 (hS.get 6 rfl : ArrP _ _ _ _ _ _).1) (by kernel_rfl) (by kernel_rfl) (by kernel_rfl) (by kernel_rfl) hqx98) fun a hF => ?_
 refine atk 6 (some 135) hF (hS.sx (rg 4) [2, 3, 4, 5, 6, 7]) rfl (vld 3 1 0) fun a hF => ?_
 refine atk 8 (some 137) hF (hS.sx (rg 4) [2, 3, 4, 5, 6, 7]) rfl (vld 2 2 0) fun a hF => ?_
 refine ago 9 hF rfl ?_
 refine bind_split hv97 (fun x103 hx103 hv97 => ?_)
 refine wo_callP hF hS (by kernel_rfl) (by kernel_rfl) (C_ref08_Merge N hS.fresh (T_api_Map.mk x98.Cuts x98.Nodes) a1.Nodes a3.Shard p99 c100 p101 c102 ((hS.pick [0, 1] (by kernel_rfl)).ro) hx103) ?_
 rintro _ κ w a ⟨p104, c105, p106, c107, rfl, hR, hN⟩ hF hS hO
 have hS := hS.adds hR
 have hS := hS.addC hO hN
 refine ⟨fun _ => (hS.sx [2, 3, 4, 5] [4, 5, 6, 7, 8, 9]), ?_⟩
 refine anp [10, 11] [2, 3, 4, 6, 128, 139] hF (hS.sx [2, 3, 4, 5] [4, 5, 6, 7, 8, 9]) fun a hF => ?_
 refine ago2 12 13 hF rfl rfl ?_ ?_
 refine wo_pure (v := vi x103.2) hF (by kernel_rfl) (by kernel_rfl) fun a hF => ?_
 refine ⟨fun _ => (hS.sx [2, 3, 4, 5] [4, 5, 6, 7, 8, 9]), ?_⟩
 refine ago 13 hF rfl ?_
 refine wst hF hS 2 0 2 [sl p104 (x103.1.Cuts).length c105, sl p106 (x103.1.Nodes).length c107] (sgN 2 sgNil) fun a w hF hS => ?_
 refine ⟨notE, ?_⟩
 refine ago 14 hF rfl ?_
 refine wo_pure (v := vi x103.2) hF (by kernel_rfl) (by kernel_rfl) fun a hF => ?_
 refine ⟨notE, ?_⟩
 refine and_ ?_
 cases hv97
 exact ⟨_, p104, c105, p106, c107, hF.kp [2, 3, 4, 6, 7], hS.sp [2, 3, 4, 5, 0, 1] [0, 1, 4, 5, 6, 7, 8, 9], trivial⟩
 refine wst hF hS 2 0 2 [sl p104 (x103.1.Cuts).length c105, sl p106 (x103.1.Nodes).length c107] (sgN 2 sgNil) fun a w hF hS => ?_
 refine ⟨notE, ?_⟩
 refine ago 12 hF rfl ?_
 refine wo_pure (v := vi x103.2) hF (by kernel_rfl) (by kernel_rfl) fun a hF => ?_
 refine ⟨notE, ?_⟩
 refine ago 14 hF rfl ?_
 refine wo_pure (v := vi x103.2) hF (by kernel_rfl) (by kernel_rfl) fun a hF => ?_
 refine ⟨notE, ?_⟩
 refine and_ ?_
 cases hv97
 exact ⟨_, p104, c105, p106, c107, hF.kp [2, 3, 4, 6, 7], hS.sp [2, 3, 4, 5, 0, 1] [0, 1, 4, 5, 6, 7, 8, 9], trivial⟩
 rintro a w ⟨κ, p91, c92, p94, c95, hF, hS, -⟩
 exact ⟨_, v97.1, p91, c92, v97.2.1, p94, c95, v97.2.2, hF.kp [2, 3, 4, 6, 7], hS.sp (rg 6) (rg 8), H⟩
 refine cond_f hF (by kernel_rfl) hb ?_
 refine bind_split H (fun v115 hv115 H => ?_)
 refine code_join (fun a w => ∃ (κ : Gh) (p109 : Option Addr) (c110 : Nat) (p112 : Option Addr) (c113 : Nat), Fr (151) [] [(2, pt b5 0), (3, pt b6 0), (4, pt b7 0), (6, pt b55 0), (7, vi v115.2.2)] a ∧ SS [] κ0 w0 κ w [.box b55 26 [sl p109 (v115.1).length c110, sl p112 (v115.2.1).length c113], .box b7 34 [si 0, si 0, eb 4 (List.replicate 4 false), (8, (List.replicate 4 (flat [sl none 0 0, sl none 0 0])).flatten), ei 21 (List.replicate 21 0)], .box b6 72 [si a3.Kind, si a3.DC, si a3.Shard, si a3.Node, si a3.Mode, sg a3.Key], .box b5 34 [si a1.Pool, si a1.Nodes, eb 4 a1.Members, (8, cs2), ei 21 a1.Modes], .tok p109 9 1 (v115.1).length c110, .tok p112 3 1 (v115.2.1).length c113] [Ro.mp fStr.ty p109 c110 v115.1, Ro.mp (fInt .i64).ty p112 c113 v115.2.1, ml (List.replicate 4 false) 4, Arr.mp t_api_Map ((List.replicate 4 (flat [sl none 0 0, sl none 0 0])).flatten) 4 (List.replicate 4 (T_api_Map.mk ([] : List ByteArray) ([] : List Int))), ml (List.replicate 21 0) 21, ml a1.Members 4, Arr.mp t_api_Map cs2 4 a1.Maps, ml a1.Modes 21] ∧ True) ?_ ?_
 refine rgS hS [15] ?_
 have hS := hS.drew
 refine any_pure [0, 2, 5, 7, 9] [2, 3, 4, 6, 95, 97, 100, 102, 104] (L' := [(2, pt b5 0), (3, pt b6 0), (4, pt b7 0), (6, pt b55 0), (95, pt b6 1), (97, pt b5 6), (100, pt b5 1), (102, pt b6 2), (104, pt b6 3)]) (listed' := (bitA 17 677)) (fuel := 12) hF (hS.sx (rg 4) (rg 6)) (by kernel_rfl) (by intro c a w t v h; cases t <;> exact h) (by kernel_rfl) rfl fun a hF => ?_
 refine atk 1 (some 96) hF (hS.sx (rg 4) (rg 6)) rfl (vld 2 1 0) fun a hF => ?_
 refine bind_split hv115 (fun x116 hx116 hv115 => ?_)
 refine atk 3 (some 98) hF (hS.sx (rg 4) (rg 6)) rfl (fun w _ => val_indexArr (E := 26) (sz := 2) (n := 4) rfl rfl (i := a3.DC) rfl (idx_lt hx116 ((hS.get 4 rfl : ArrP _ _ _ _ _ _).1)) (by kernel_rfl) (by kernel_rfl) w) fun a hF => ?_
 obtain ⟨⟨p117, c118, p119, c120⟩, hqx116, hR⟩ := elemATy (hS.get 4 rfl) hx116
 have hS := hS.adds hR
 refine atk 4 (some 99) hF (hS.sx (rg 4) [2, 3, 4, 5, 6, 7]) rfl (val_loadATy (t := t_api_Map) (n := 4) 3 3 rfl rfl rfl rfl (idx_lt hx116 (hS.get 6 rfl : ArrP _ _ _ _ _ _).1) (by kernel_rfl) (by kernel_rfl) (by kernel_rfl) (by kernel_rfl) hqx116) fun a hF => ?_
 refine atk 6 (some 101) hF (hS.sx (rg 4) [2, 3, 4, 5, 6, 7]) rfl (vld 3 1 0) fun a hF => ?_
 refine atk 8 (some 103) hF (hS.sx (rg 4) [2, 3, 4, 5, 6, 7]) rfl (vld 2 2 0) fun a hF => ?_
 refine atk 10 (some 105) hF (hS.sx (rg 4) [2, 3, 4, 5, 6, 7]) rfl (vld 2 3 0) fun a hF => ?_
 refine ago 11 hF rfl ?_
 refine bind_split hv115 (fun x121 hx121 hv115 => ?_)
 refine wo_callP hF hS (by kernel_rfl) (by kernel_rfl) (C_ref08_Move N hS.fresh (T_api_Map.mk x116.Cuts x116.Nodes) a1.Nodes a3.Shard a3.Node p117 c118 p119 c120 ((hS.pick [0, 1] (by kernel_rfl)).ro) hx121) ?_
 rintro _ κ w a ⟨p122, c123, p124, c125, rfl, hR, hN⟩ hF hS hO
 have hS := hS.adds hR
 have hS := hS.addC hO hN
 refine ⟨fun _ => (hS.sx [2, 3, 4, 5] [4, 5, 6, 7, 8, 9]), ?_⟩
 refine anp [12, 13] [2, 3, 4, 6, 94, 107] hF (hS.sx [2, 3, 4, 5] [4, 5, 6, 7, 8, 9]) fun a hF => ?_
 refine ago2 14 15 hF rfl rfl ?_ ?_
 refine wo_pure (v := vi x121.2) hF (by kernel_rfl) (by kernel_rfl) fun a hF => ?_
 refine ⟨fun _ => (hS.sx [2, 3, 4, 5] [4, 5, 6, 7, 8, 9]), ?_⟩
 refine ago 15 hF rfl ?_
 refine wst hF hS 2 0 2 [sl p122 (x121.1.Cuts).length c123, sl p124 (x121.1.Nodes).length c125] (sgN 2 sgNil) fun a w hF hS => ?_
 refine ⟨notE, ?_⟩
 refine ago 16 hF rfl ?_
 refine wo_pure (v := vi x121.2) hF (by kernel_rfl) (by kernel_rfl) fun a hF => ?_
 refine ⟨notE, ?_⟩
 refine and_ ?_
 cases hv115
 exact ⟨_, p122, c123, p124, c125, hF.kp [2, 3, 4, 6, 7], hS.sp [2, 3, 4, 5, 0, 1] [0, 1, 4, 5, 6, 7, 8, 9], trivial⟩
 refine wst hF hS 2 0 2 [sl p122 (x121.1.Cuts).length c123, sl p124 (x121.1.Nodes).length c125] (sgN 2 sgNil) fun a w hF hS => ?_
 refine ⟨notE, ?_⟩
 refine ago 14 hF rfl ?_
 refine wo_pure (v := vi x121.2) hF (by kernel_rfl) (by kernel_rfl) fun a hF => ?_
 refine ⟨notE, ?_⟩
 refine ago 16 hF rfl ?_
 refine wo_pure (v := vi x121.2) hF (by kernel_rfl) (by kernel_rfl) fun a hF => ?_
 refine ⟨notE, ?_⟩
 refine and_ ?_
 cases hv115
 exact ⟨_, p122, c123, p124, c125, hF.kp [2, 3, 4, 6, 7], hS.sp [2, 3, 4, 5, 0, 1] [0, 1, 4, 5, 6, 7, 8, 9], trivial⟩
 rintro a w ⟨κ, p109, c110, p112, c113, hF, hS, -⟩
 exact ⟨_, v115.1, p109, c110, v115.2.1, p112, c113, v115.2.2, hF.kp [2, 3, 4, 6, 7], hS.sp (rg 6) (rg 8), H⟩
 rintro a w ⟨κ, y56, p57, c58, y59, p60, c61, y62, hF, hS, H⟩
 unfold M.ref18_Apply_k1 at H
 refine wpIn_seq_k fun K63 hK63 => ?_
 refine wpIn_seq_k fun K64 hK64 => ?_
 refine wpIn_region_lit ?_
 refine wp 2 [2, 3, 4, 6, 7, 142] hF fun a hF => ?_
 refine wpListIn_nil ?_
 refine hK64 _ _ ?_
 refine bif_split H (fun hb H => ?_) (fun hb H => ?_)
 refine cond_t hF (by kernel_rfl) hb ?_
 refine wpIn_seq_k fun K65 hK65 => ?_
 refine wpIn_region_lit ?_
 refine wp 2 [4, 143, 144] hF fun a hF => ?_
 refine wc (wst hF hS 1 0 5 [si 0, si 0, eb 4 (List.replicate 4 false), (8, (List.replicate 4 (flat [sl none 0 0, sl none 0 0])).flatten), ei 21 (List.replicate 21 0)] (sgN 2 (sgEnc List.length_replicate (sgArr (hS.get 3 rfl) (sgEnc List.length_replicate sgNil)))) fun a w hF hS => ?_)
 refine wp 1 [4, 5] hF fun a hF => ?_
 refine wpListIn_nil ?_
 refine hK65 _ _ ?_
 refine wpIn_ret ?_
 have hS' := hS
 cases H
 exact (ret_done hF hS (res2 Try.results60 (rvs hF hS' 1 0 5) (rvt hF)) ⟨(List.replicate 4 (flat [sl none 0 0, sl none 0 0])).flatten, rfl, (hS.pick [2, 3, 4] (by kernel_rfl)).ro, hS.newC [] (by decide) (by kernel_rfl)⟩)
 refine cond_f hF (by kernel_rfl) hb ?_
 refine wpIn_skip ?_
 refine hK63 _ _ ?_
 refine wpIn_seq_k fun K66 hK66 => ?_
 refine wpIn_region_lit ?_
 refine wp 1 [2, 4, 6, 145] hF fun a hF => ?_
 refine wc (wld hF hS 2 1 0 fun a hF => ?_)
 refine wc (wls hF hS 0 0 2 fun a hF => ?_)
 refine wl_pure (L' := [(2, pt b5 0), (4, pt b7 0), (146, vi a3.DC), (147, .agg (flat [sl p57 (y56).length c58, sl p60 (y59).length c61]).toArray), (148, pt b5 6)]) 1 [2, 4, 146, 147, 148] hF (by kernel_rfl) fun a hF => ?_
 refine bind_split H (fun x67 hx67 H => ?_)
 refine wc (wo_indexArr hF (by kernel_rfl) (E := 26) (sz := 2) (n := 4) rfl rfl (i := a3.DC) rfl (idx_lt hx67 ((hS.get 6 rfl : ArrP _ _ _ _ _ _).1)) (by kernel_rfl) (by kernel_rfl) fun a hF => ?_)
 refine wc (wo_storeATy (t := t_api_Map) (n := 4) (new := (flat [sl p57 (y56).length c58, sl p60 (y59).length c61])) (y := (T_api_Map.mk y56 y59)) (v := .agg (flat [sl p57 (y56).length c58, sl p60 (y59).length c61]).toArray) hF hS (by kernel_rfl) 3 3 6 (s' := [si a1.Pool, si a1.Nodes, eb 4 a1.Members, (8, (splice cs2 (Int.toNat a3.DC * 2) (flat [sl p57 (y56).length c58, sl p60 (y59).length c61]))), ei 21 a1.Modes]) (C' := [.box b55 26 [sl p57 (y56).length c58, sl p60 (y59).length c61], .box b7 34 [si 0, si 0, eb 4 (List.replicate 4 false), (8, (List.replicate 4 (flat [sl none 0 0, sl none 0 0])).flatten), ei 21 (List.replicate 21 0)], .box b6 72 [si a3.Kind, si a3.DC, si a3.Shard, si a3.Node, si a3.Mode, sg a3.Key], .box b5 34 [si a1.Pool, si a1.Nodes, eb 4 a1.Members, (8, (splice cs2 (Int.toNat a3.DC * 2) (flat [sl p57 (y56).length c58, sl p60 (y59).length c61]))), ei 21 a1.Modes], .tok p57 9 1 (y56).length c58, .tok p60 3 1 (y59).length c61]) rfl rfl (by kernel_rfl) (by kernel_rfl) rfl rfl rfl hx67 ⟨(p57, c58, p60, c61), rfl, (hS.pick [0, 1] (by kernel_rfl)).ro⟩ (by kernel_rfl) (by kernel_rfl) (by kernel_rfl) (by kernel_rfl) (by kernel_rfl) fun a w hF hS => ?_)
 refine wpListIn_nil ?_
 refine hK66 _ _ ?_
 refine wpIn_seq_k fun K68 hK68 => ?_
 refine wpIn_region_lit ?_
 refine wc (wls hF hS 3 0 5 fun a hF => ?_)
 refine wc (wst hF hS 1 0 5 [si a1.Pool, si a1.Nodes, eb 4 a1.Members, (8, (splice cs2 (Int.toNat a3.DC * 2) (flat [sl p57 (y56).length c58, sl p60 (y59).length c61]))), ei 21 a1.Modes] (sgN 2 (sgEnc (hS.get 6 rfl) (sgArr (hS.get 0 rfl) (sgEnc (hS.get 8 rfl) sgNil)))) fun a w hF hS => ?_)
 refine wp 1 [4, 5] hF fun a hF => ?_
 refine wpListIn_nil ?_
 refine hK68 _ _ ?_
 refine wpIn_ret ?_
 have hS' := hS
 cases H
 exact (ret_done hF hS (res2 Try.results60 (rvs hF hS' 1 0 5) (rvt hF)) ⟨(splice cs2 (Int.toNat a3.DC * 2) (flat [sl p57 (y56).length c58, sl p60 (y59).length c61])), rfl, (hS.pick [6, 0, 8] (by kernel_rfl)).ro, hS.newC [] (by decide) (by kernel_rfl)⟩)
end Go.Cf
