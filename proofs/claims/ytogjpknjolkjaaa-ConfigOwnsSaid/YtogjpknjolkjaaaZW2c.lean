/- The walks: each function returns what its model says. Printed by a program of ours. -/
import Derived.Test.YtogjpknjolkjaaaZM1
import Derived.Test.YtogjpknjolkjaaaZW1
namespace Go.Cf
open Go Go.Proofs
set_option linter.unusedVariables false
set_option maxRecDepth 20000 in
set_option maxHeartbeats 8000000 in
theorem C_span_Shards_1 (N : Nat) {σ : Type} {B : σ → Int → T_span_Shard → Option (σ × Bool)} {Y : σ → XF → Prop} {l : Nat}
    (hB : ∀ {s : σ} {x : XF} {κ : Gh} {w : World} (x900 : Int) (x901 : T_span_Shard)  {s' : σ} {c : Bool}, Y s x → x.p κ w → Fresh κ w → x.bs.Nodup → (∀ b ∈ x.bs, b < w.heap.size) → (∀ m ∈ ([] : List MP), m.p κ w) → B s x900 x901 = some (s', c) → RoundOk Try.prog l Y #[vi x900, .agg (flat [sg x901.Lo, sg x901.Hi, si x901.Node]).toArray] x s' c κ w)
    (a3 : T_api_Map) (p4 : Option Addr) (c5 : Nat) (p6 : Option Addr) (c7 : Nat) {Ms : List Nat} {κ0 : Gh} {w0 : World} {p2 : XF} {y1 : σ} {b8 : Nat} (hS : SS Ms κ0 w0 κ0 w0 [.ext p2, .box b8 25 [sl p4 (a3.Cuts).length c5, sl p6 (a3.Nodes).length c7]] [Ro.mp fStr.ty p4 c5 a3.Cuts, Ro.mp (fInt .i64).ty p6 c7 a3.Nodes, MP.const (Y y1 p2)]) {r : σ} (H : M.span_Shards_1 N B a3 y1 = some r) :
    Calls Try.prog 79 #[.func (.yield l) #[] #[], pt b8 0] w0 (Post Ms κ0 w0 fun _ κ w => ∃ x, Y r x ∧ SS Ms κ0 w0 κ w [.ext x] []) := by
 refine enter (N := (50)) (L := [(0, .func (.yield l) #[] #[]), (1, pt b8 0)]) Try.func79 rfl Try.ntmps79 (show 2 ≤ (50) by decide) rfl fun a hF => ?_
 unfold M.span_Shards_1 at H
 refine wpIn_seq_k fun K9 hK9 => ?_
 refine wpIn_seq_k fun K10 hK10 => ?_
 refine wpIn_region_lit ?_
 refine wp 1 [0, 1, 6] hF fun a hF => ?_
 refine wc (wld hF hS 1 1 0 fun a hF => ?_)
 refine wp 2 [0, 1, 8, 9] hF fun a hF => ?_
 refine wc (wld hF hS 1 0 0 fun a hF => ?_)
 refine wp 3 [0, 1, 13] hF fun a hF => ?_
 refine wpListIn_nil ?_
 refine hK10 _ _ ?_
 refine bif_split H (fun hb H => ?_) (fun hb H => ?_)
 refine cond_t hF (by kernel_rfl) hb ?_
 refine wpIn_ret ?_
 cases H
 exact ret_done hF hS (res0 Try.results79) ⟨_, hS.get 2 rfl, (hS.selp [0] (by decide) (by kernel_rfl)).pick [] rfl⟩
 refine cond_f hF (by kernel_rfl) hb ?_
 refine wpIn_skip ?_
 refine hK9 _ _ ?_
 refine wpIn_seq_k fun K11 hK11 => ?_
 refine wpIn_region_lit ?_
 refine wp 1 [0, 1, 14] hF fun a hF => ?_
 refine wc (wld hF hS 1 1 0 fun a hF => ?_)
 refine wp 2 [0, 1, 15, 16, 17] hF fun a hF => ?_
 refine wpListIn_nil ?_
 refine hK11 _ _ ?_
 refine wpIn_block ?_
 refine loop_fuel (n := N) (fun n a w => ∃ (κ : Gh) (y62 : Int) (y63 : σ) (p64 : XF), Fr (50) [] [(0, .func (.yield l) #[] #[]), (1, pt b8 0), (15, .slice p6 (a3.Nodes).length c7), (16, vi ((a3.Nodes).length : Int)), (17, vi y62)] a ∧ SS Ms κ0 w0 κ w [.box b8 25 [sl p4 (a3.Cuts).length c5, sl p6 (a3.Nodes).length c7], .ext p64] [MP.const (Y y63 p64), Ro.mp (fInt .i64).ty p6 c7 a3.Nodes, Ro.mp fStr.ty p4 c5 a3.Cuts] ∧ M.span_Shards_1_L1 N B n a3 y62 y63 = some r) ?_ ?_
 exact ⟨_, 0, y1, p2, hF.kp [0, 1, 15, 16, 17], hS.sp [1, 0] [2, 1, 0], H⟩
 rintro n a w ⟨κ, y62, y63, p64, hF, hS, H⟩
 rcases n with _ | fuel1
 simp [M.span_Shards_1_L1] at H
 simp only [M.span_Shards_1_L1] at H
 refine wpIn_seq_k fun K65 hK65 => ?_
 refine wpIn_region_lit ?_
 refine wp 1 [0, 1, 15, 16, 17, 18] hF fun a hF => ?_
 refine wpListIn_nil ?_
 refine hK65 _ _ ?_
 refine wpIn_seq_k fun K66 hK66 => ?_
 refine bif_split H (fun hb H => ?_) (fun hb H => ?_)
 refine cond_t hF (by kernel_rfl) hb ?_
 refine wpIn_skip ?_
 refine hK66 _ _ ?_
 refine wpIn_seq_k fun K67 hK67 => ?_
 refine wpIn_block ?_
 refine wpIn_seq_k fun K68 hK68 => ?_
 refine wpIn_region_lit ?_
 refine wl_pure (L' := [(0, .func (.yield l) #[] #[]), (1, pt b8 0), (15, .slice p6 (a3.Nodes).length c7), (16, vi ((a3.Nodes).length : Int)), (17, vi y62), (19, vi y62)]) 1 [0, 1, 15, 16, 17, 19] hF (by kernel_rfl) fun a hF => ?_
 refine bind_split H (fun x69 hx69 H => ?_)
 refine wc (wo_index hF hS (by kernel_rfl) 1 (E := 3) (sz := 1) rfl rfl rfl (by kernel_rfl) rfl hx69 (by kernel_rfl) (by kernel_rfl) fun b70 f71 a hpx69 hF => ?_)
 refine wc (wo_loadRo (t := (fInt .i64)) hF hS (by kernel_rfl) 1 0 (v := vi x69) rfl rfl hpx69 rfl hx69 (by kernel_rfl) (by kernel_rfl) (by kernel_rfl) fun a hF => ?_)
 refine wp 2 [0, 1, 3, 4, 15, 16, 17] hF fun a hF => ?_
 refine wpListIn_nil ?_
 refine hK68 _ _ ?_
 refine wpIn_seq_k fun K72 hK72 => ?_
 refine wpIn_region_lit ?_
 refine wp 2 [0, 1, 3, 15, 16, 17, 23] hF fun a hF => ?_
 refine wc (wal hF hS [sg ByteArray.empty, sg ByteArray.empty, si 0] (sgN 3 sgNil) fun b73 a w hF hS => ?_)
 refine wc (wst hF hS 0 0 3 [sg ByteArray.empty, sg ByteArray.empty, si x69] (sgN 3 sgNil) fun a w hF hS => ?_)
 refine wpListIn_nil ?_
 refine hK72 _ _ ?_
 refine seq_join (fun a w => ∃ (κ : Gh) (y74 : ByteArray), Fr (50) [] [(0, .func (.yield l) #[] #[]), (1, pt b8 0), (3, vi y62), (5, pt b73 0), (15, .slice p6 (a3.Nodes).length c7), (16, vi ((a3.Nodes).length : Int)), (17, vi y62)] a ∧ SS Ms κ0 w0 κ w [.box b73 32 [sg y74, sg ByteArray.empty, si x69], .box b8 25 [sl p4 (a3.Cuts).length c5, sl p6 (a3.Nodes).length c7], .ext p64] [MP.const (Y y63 p64), Ro.mp (fInt .i64).ty p6 c7 a3.Nodes, Ro.mp fStr.ty p4 c5 a3.Cuts] ∧ M.span_Shards_1_k2 N B (M.span_Shards_1_L1 N B fuel1) a3 y62 y63 x69 y74 = some r) ?_ ?_
 refine wpIn_seq_k fun K83 hK83 => ?_
 refine wpIn_region_lit ?_
 refine wp 2 [0, 1, 3, 5, 15, 16, 17, 25] hF fun a hF => ?_
 refine wpListIn_nil ?_
 refine hK83 _ _ ?_
 refine bif_split H (fun hb H => ?_) (fun hb H => ?_)
 refine cond_t hF (by kernel_rfl) hb ?_
 refine wpIn_region_lit ?_
 refine wp 1 [0, 1, 3, 5, 15, 16, 17, 26] hF fun a hF => ?_
 refine wc (wld hF hS 1 0 0 fun a hF => ?_)
 refine wl_pure (L' := [(0, .func (.yield l) #[] #[]), (1, pt b8 0), (3, vi y62), (5, pt b73 0), (15, .slice p6 (a3.Nodes).length c7), (16, vi ((a3.Nodes).length : Int)), (17, vi y62), (27, .slice p4 (a3.Cuts).length c5), (29, vi (IntKind.i64.wrap (y62 - 1)))]) 2 [0, 1, 3, 5, 15, 16, 17, 27, 29] hF (by kernel_rfl) fun a hF => ?_
 refine bind_split H (fun x84 hx84 H => ?_)
 refine wc (wo_index hF hS (by kernel_rfl) 2 (E := 9) (sz := 1) rfl rfl rfl (by kernel_rfl) rfl hx84 (by kernel_rfl) (by kernel_rfl) fun b85 f86 a hpx84 hF => ?_)
 refine wc (wo_loadRo (t := fStr) hF hS (by kernel_rfl) 2 0 (v := .string (x84)) rfl rfl hpx84 rfl hx84 (by kernel_rfl) (by kernel_rfl) (by kernel_rfl) fun a hF => ?_)
 refine wp 1 [0, 1, 3, 5, 15, 16, 17, 31, 32] hF fun a hF => ?_
 refine wc (wst hF hS 0 0 1 [sg x84] (sgN 1 sgNil) fun a w hF hS => ?_)
 refine wpListIn_nil ?_
 exact ⟨_, x84, hF.kp [0, 1, 3, 5, 15, 16, 17], hS.sp [0, 1, 2] [0, 1, 2], H⟩
 refine cond_f hF (by kernel_rfl) hb ?_
 refine wpIn_skip ?_
 exact ⟨_, ByteArray.empty, hF.kp [0, 1, 3, 5, 15, 16, 17], hS.sp [0, 1, 2] [0, 1, 2], H⟩
 rintro a w ⟨κ, y74, hF, hS, H⟩
 unfold M.span_Shards_1_k2 at H
 refine seq_join (fun a w => ∃ (κ : Gh) (y75 : ByteArray), Fr (50) [] [(0, .func (.yield l) #[] #[]), (1, pt b8 0), (3, vi y62), (5, pt b73 0), (15, .slice p6 (a3.Nodes).length c7), (16, vi ((a3.Nodes).length : Int)), (17, vi y62)] a ∧ SS Ms κ0 w0 κ w [.box b73 32 [sg y74, sg y75, si x69], .box b8 25 [sl p4 (a3.Cuts).length c5, sl p6 (a3.Nodes).length c7], .ext p64] [MP.const (Y y63 p64), Ro.mp (fInt .i64).ty p6 c7 a3.Nodes, Ro.mp fStr.ty p4 c5 a3.Cuts] ∧ M.span_Shards_1_k3 N B (M.span_Shards_1_L1 N B fuel1) a3 y62 y63 x69 y74 y75 = some r) ?_ ?_
 refine wpIn_seq_k fun K79 hK79 => ?_
 refine wpIn_region_lit ?_
 refine wp 2 [0, 1, 3, 5, 15, 16, 17, 33, 34] hF fun a hF => ?_
 refine wc (wld hF hS 1 0 0 fun a hF => ?_)
 refine wp 2 [0, 1, 3, 5, 15, 16, 17, 37] hF fun a hF => ?_
 refine wpListIn_nil ?_
 refine hK79 _ _ ?_
 refine bif_split H (fun hb H => ?_) (fun hb H => ?_)
 refine cond_t hF (by kernel_rfl) hb ?_
 refine wpIn_region_lit ?_
 refine wp 1 [0, 1, 3, 5, 15, 16, 17, 38] hF fun a hF => ?_
 refine wc (wld hF hS 1 0 0 fun a hF => ?_)
 refine wl_pure (L' := [(0, .func (.yield l) #[] #[]), (1, pt b8 0), (3, vi y62), (5, pt b73 0), (15, .slice p6 (a3.Nodes).length c7), (16, vi ((a3.Nodes).length : Int)), (17, vi y62), (39, .slice p4 (a3.Cuts).length c5), (40, vi y62)]) 1 [0, 1, 3, 5, 15, 16, 17, 39, 40] hF (by kernel_rfl) fun a hF => ?_
 refine bind_split H (fun x80 hx80 H => ?_)
 refine wc (wo_index hF hS (by kernel_rfl) 2 (E := 9) (sz := 1) rfl rfl rfl (by kernel_rfl) rfl hx80 (by kernel_rfl) (by kernel_rfl) fun b81 f82 a hpx80 hF => ?_)
 refine wc (wo_loadRo (t := fStr) hF hS (by kernel_rfl) 2 0 (v := .string (x80)) rfl rfl hpx80 rfl hx80 (by kernel_rfl) (by kernel_rfl) (by kernel_rfl) fun a hF => ?_)
 refine wp 1 [0, 1, 3, 5, 15, 16, 17, 42, 43] hF fun a hF => ?_
 refine wc (wst hF hS 0 1 1 [sg x80] (sgN 1 sgNil) fun a w hF hS => ?_)
 refine wpListIn_nil ?_
 exact ⟨_, x80, hF.kp [0, 1, 3, 5, 15, 16, 17], hS.sp [0, 1, 2] [0, 1, 2], H⟩
 refine cond_f hF (by kernel_rfl) hb ?_
 refine wpIn_skip ?_
 exact ⟨_, ByteArray.empty, hF.kp [0, 1, 3, 5, 15, 16, 17], hS.sp [0, 1, 2] [0, 1, 2], H⟩
 rintro a w ⟨κ, y75, hF, hS, H⟩
 unfold M.span_Shards_1_k3 at H
 refine wpIn_seq_k fun K76 hK76 => ?_
 refine wpIn_region_lit ?_
 refine wl_pure (L' := [(0, .func (.yield l) #[] #[]), (1, pt b8 0), (5, pt b73 0), (15, .slice p6 (a3.Nodes).length c7), (16, vi ((a3.Nodes).length : Int)), (17, vi y62), (44, .func (.yield l) #[] #[]), (45, vi y62)]) 2 [0, 1, 5, 15, 16, 17, 44, 45] hF (by kernel_rfl) fun a hF => ?_
 refine wc (wls hF hS 0 0 3 fun a hF => ?_)
 refine bind_split H (fun y77 hy77 H => ?_)
 refine wc (wo_yield (Y := Y) (s' := y77.1) (c := y77.2) (x := p64) (l := l) (args := #[vi y62, .agg (flat [sg y74, sg y75, si x69]).toArray]) hF hS (by kernel_rfl) 2 rfl (by kernel_rfl) (by kernel_rfl) rfl (fun hp hf hn hl => hB y62 (T_span_Shard.mk y74 y75 x69)  (hS.get 0 rfl) hp hf hn hl ((hS.pick [] (by kernel_rfl)).ro) hy77) fun p78 κ w a hY hF hS => ?_)
 have hS := hS.add (m := MP.const (Y y77.1 p78)) hY
 refine wp 1 [0, 1, 15, 16, 17, 48] hF fun a hF => ?_
 refine wpListIn_nil ?_
 refine hK76 _ _ ?_
 refine bif_split H (fun hb H => ?_) (fun hb H => ?_)
 refine cond_t hF (by kernel_rfl) hb ?_
 refine wpIn_ret ?_
 cases H
 exact ret_done hF hS (res0 Try.results79) ⟨_, hS.get 0 rfl, (hS.selp [2] (by decide) (by kernel_rfl)).pick [] rfl⟩
 refine cond_f hF (by kernel_rfl) hb ?_
 refine wpIn_skip ?_
 refine hK67 _ _ ?_
 refine wpIn_region_lit ?_
 refine wp 2 [0, 1, 15, 16, 17] hF fun a hF => ?_
 refine wpListIn_nil ?_
 exact ⟨fuel1, Nat.lt_succ_self _, _, IntKind.i64.wrap (y62 + 1), y77.1, p78, hF.kp [0, 1, 15, 16, 17], hS.sp [1, 2] [0, 2, 3], H⟩
 refine cond_f hF (by kernel_rfl) hb ?_
 refine wpIn_exit ?_
 cases H
 exact ret_done hF hS (res0 Try.results79) ⟨_, hS.get 0 rfl, (hS.selp [1] (by decide) (by kernel_rfl)).pick [] rfl⟩
set_option maxRecDepth 20000 in
set_option maxHeartbeats 8000000 in
theorem C_span_Shards (N : Nat) {κ0 : Gh} {w0 : World} (hfr : Fresh κ0 w0) (a1 : T_api_Map) (p2 : Option Addr) (c3 : Nat) (p4 : Option Addr) (c5 : Nat) (hR : ∀ m ∈ ([Ro.mp fStr.ty p2 c3 a1.Cuts, Ro.mp (fInt .i64).ty p4 c5 a1.Nodes] : List MP), m.p κ0 w0) {r : Unit} (H : M.span_Shards N a1 = some r) :
    Calls Try.prog 20 #[.agg (flat [sl p2 (a1.Cuts).length c3, sl p4 (a1.Nodes).length c5]).toArray] w0 (Post [] κ0 w0 fun v κ w => ∃ b900 : Nat, v = .func (.func 79) #[] #[pt b900 0] ∧ (∀ m ∈ ([] : List MP), m.p κ w) ∧ NewC w0 κ w [.box b900 25 [sl p2 (a1.Cuts).length c3, sl p4 (a1.Nodes).length c5]]) := by
 have hS := SS.start hfr hR
 refine enter (N := (4)) (L := [(0, .agg (flat [sl p2 (a1.Cuts).length c3, sl p4 (a1.Nodes).length c5]).toArray)]) Try.func20 rfl Try.ntmps20 (show 1 ≤ (4) by decide) rfl fun a hF => ?_
 unfold M.span_Shards at H
 refine wpIn_seq_k fun K6 hK6 => ?_
 refine wpIn_region_lit ?_
 refine wc (wbx hF hS [sl p2 (a1.Cuts).length c3, sl p4 (a1.Nodes).length c5] (sgN 2 sgNil) fun b7 a w hF hS => ?_)
 refine wl_pure (L' := [(1, pt b7 0)]) 1 [1] hF (by kernel_rfl) fun a hF => ?_
 refine wpListIn_nil ?_
 refine hK6 _ _ ?_
 refine wpIn_seq_k fun K8 hK8 => ?_
 refine wpIn_region_lit ?_
 refine wc (wo_val hF (by kernel_rfl) (v := .func (.func 79) #[] #[pt b7 0]) (val_makeFunc (T' := 0) (caps := #[pt b7 0]) rfl (by kernel_rfl) _) fun a hF => ?_)
 refine wp 1 [2] hF fun a hF => ?_
 refine wpListIn_nil ?_
 refine hK8 _ _ ?_
 refine wpIn_ret ?_
 cases H
 exact (ret_done hF hS (res1 Try.results20 (rvt hF)) ⟨b7, rfl, (hS.pick [] rfl).ro, hS.newC [0] (by decide) (by kernel_rfl)⟩)
set_option maxRecDepth 20000 in
set_option maxHeartbeats 8000000 in
theorem C_span_At (N : Nat) {κ0 : Gh} {w0 : World} (hfr : Fresh κ0 w0) (a1 : T_api_Map) (a6 : Int) (p2 : Option Addr) (c3 : Nat) (p4 : Option Addr) (c5 : Nat) (hR : ∀ m ∈ ([Ro.mp fStr.ty p2 c3 a1.Cuts, Ro.mp (fInt .i64).ty p4 c5 a1.Nodes] : List MP), m.p κ0 w0) {r : (T_span_Shard × Bool)} (H : M.span_At N a1 a6 = some r) :
    Calls Try.prog 18 #[.agg (flat [sl p2 (a1.Cuts).length c3, sl p4 (a1.Nodes).length c5]).toArray, vi a6] w0 (Post [] κ0 w0 fun v κ w => v = .tuple #[.agg (flat [sg r.1.Lo, sg r.1.Hi, si r.1.Node]).toArray, vb r.2] ∧ (∀ m ∈ ([] : List MP), m.p κ w) ∧ NewC w0 κ w []) := by
 have hS := SS.start hfr hR
 refine enterM (N := (17)) (L := [(0, .agg (flat [sl p2 (a1.Cuts).length c3, sl p4 (a1.Nodes).length c5]).toArray), (1, vi a6)]) Try.func18 rfl Try.ntmps18 (show 2 ≤ (17) by decide) rfl fun a hF => ?_
 unfold M.span_At at H
 refine wpIn_seq_k fun K7 hK7 => ?_
 refine wpIn_region_lit ?_
 refine wc (wbx hF hS [sl p2 (a1.Cuts).length c3, sl p4 (a1.Nodes).length c5] (sgN 2 sgNil) fun b8 a w hF hS => ?_)
 refine wc (wbx hF hS [si a6] (sgN 1 sgNil) fun b9 a w hF hS => ?_)
 refine wc (wal hF hS [sg ByteArray.empty, sg ByteArray.empty, si 0] (sgN 3 sgNil) fun b10 a w hF hS => ?_)
 refine wc (wal hF hS [sb false] (sgN 1 sgNil) fun b11 a w hF hS => ?_)
 refine wpListIn_nil ?_
 refine hK7 _ _ ?_
 refine wpIn_seq_k fun K12 hK12 => ?_
 refine wpIn_seq_k fun K13 hK13 => ?_
 refine wpIn_region_lit ?_
 refine wc (wls hF hS 3 0 2 fun a hF => ?_)
 refine bind_split H (fun x14 hx14 H => ?_)
 refine wc (wo_callP hF hS (by kernel_rfl) (by kernel_rfl) (C_span_Shards N hS.fresh (T_api_Map.mk a1.Cuts a1.Nodes) p2 c3 p4 c5 ((hS.pick [0, 1] (by kernel_rfl)).ro) hx14) ?_)
 rintro _ κ w a ⟨b15, rfl, hR, hN⟩ hF hS hO
 have hS := hS.addC hO hN
 refine wpListIn_nil ?_
 refine hK13 _ _ ?_
 refine wpIn_block ?_
 refine bind_split H (fun v78 hv78 H => ?_)
 have hS : SS [] κ0 w0 _ _ [.box b11 4 [sb false], .box b10 32 [sg ByteArray.empty, sg ByteArray.empty, si 0], .box b9 3 [si a6], .box b15 25 [sl p2 (a1.Cuts).length c3, sl p4 (a1.Nodes).length c5]] _ := hS.selp [1, 2, 3, 0] (by decide) (by kernel_rfl)
 refine wp_range' (C := [.box b11 4 [sb false], .box b10 32 [sg ByteArray.empty, sg ByteArray.empty, si 0], .box b9 3 [si a6]]) (Cap := [.box b15 25 [sl p2 (a1.Cuts).length c3, sl p4 (a1.Nodes).length c5]]) (R' := []) (caps := #[pt b15 0]) (f := 79) [.ret] (fun l => #[.func (.yield l) #[] #[], pt b15 0]) hF hS (by kernel_rfl) (fun _ _ => rfl) ((hS.pick [] (by kernel_rfl)).ro) (fun l => by kernel_rfl) fun b16 l rc w hrc hS => ?_
 refine ⟨fun x => (fun (v73 : (Bool × ByteArray × ByteArray × Int × Nat)) (x : XF) => x = mkX b16 l (lp rc [.ret] v73.2.2.2.2) [.box b11 4 [sb v73.1], .box b10 32 [sg v73.2.1, sg v73.2.2.1, si v73.2.2.2.1], .box b9 3 [si a6]] []) v78 x, ?_, ?_⟩
 have hS := (hS.rebase.add (m := MP.const ((fun (v73 : (Bool × ByteArray × ByteArray × Int × Nat)) (x : XF) => x = mkX b16 l (lp rc [.ret] v73.2.2.2.2) [.box b11 4 [sb v73.1], .box b10 32 [sg v73.2.1, sg v73.2.2.1, si v73.2.2.2.1], .box b9 3 [si a6]] []) (false, ByteArray.empty, ByteArray.empty, 0, 0) (mkX b16 l (lp rc [.ret] 0) [.box b11 4 [sb false], .box b10 32 [sg ByteArray.empty, sg ByteArray.empty, si 0], .box b9 3 [si a6]] []))) rfl).pick (R' := [Ro.mp fStr.ty p2 c3 a1.Cuts, Ro.mp (fInt .i64).ty p4 c5 a1.Nodes, MP.const ((fun (v73 : (Bool × ByteArray × ByteArray × Int × Nat)) (x : XF) => x = mkX b16 l (lp rc [.ret] v73.2.2.2.2) [.box b11 4 [sb v73.1], .box b10 32 [sg v73.2.1, sg v73.2.2.1, si v73.2.2.2.1], .box b9 3 [si a6]] []) (false, ByteArray.empty, ByteArray.empty, 0, 0) (mkX b16 l (lp rc [.ret] 0) [.box b11 4 [sb false], .box b10 32 [sg ByteArray.empty, sg ByteArray.empty, si 0], .box b9 3 [si a6]] []))]) [1, 2, 0] (by kernel_rfl)
 refine C_span_Shards_1 N (Y := (fun (v73 : (Bool × ByteArray × ByteArray × Int × Nat)) (x : XF) => x = mkX b16 l (lp rc [.ret] v73.2.2.2.2) [.box b11 4 [sb v73.1], .box b10 32 [sg v73.2.1, sg v73.2.2.1, si v73.2.2.2.1], .box b9 3 [si a6]] [])) (B := (fun (v73 : (Bool × ByteArray × ByteArray × Int × Nat)) x17 x18 => bif (v73.2.2.2.2 == 0) then (bif (x17 == a6) then (some (((true, x18.Lo, x18.Hi, x18.Node, 1)), false)) else (some (((v73.1, v73.2.1, v73.2.2.1, v73.2.2.2.1, 0)), true))) else none)) (l := l) ?_ (T_api_Map.mk a1.Cuts a1.Nodes) p2 c3 p4 c5 hS hv78
 rintro v73 _ κ w x17 x18  s' c rfl hp hf hnd hlt hR H
 refine bif_split H (fun hn H => ?_) (fun _ H => by cases H)
 refine round_at (L := [(3, pt b9 0), (4, pt b10 0), (5, pt b11 0), (10, vi x17), (11, .agg (flat [sg x18.Lo, sg x18.Hi, si x18.Node]).toArray)]) hp hf hnd hlt hn hrc rfl [3, 4, 5, 10, 11] hF (by kernel_rfl) (by kernel_rfl) fun a hF hS => ?_
 have hS := hS.adds hR
 skip
 refine wpIn_seq_k fun K74 hK74 => ?_
 refine wpIn_region_lit ?_
 refine wl_pure (L' := [(3, pt b9 0), (4, pt b10 0), (5, pt b11 0), (6, vi x17), (11, .agg (flat [sg x18.Lo, sg x18.Hi, si x18.Node]).toArray)]) 1 [3, 4, 5, 6, 11] hF (by kernel_rfl) fun a hF => ?_
 refine wpListIn_nil ?_
 refine hK74 _ _ ?_
 refine wpIn_region_lit ?_
 refine wc (wal hF hS [sg ByteArray.empty, sg ByteArray.empty, si 0] (sgN 3 sgNil) fun b75 a w hF hS => ?_)
 refine wc (wst hF hS 0 0 3 [sg x18.Lo, sg x18.Hi, si x18.Node] (sgN 3 sgNil) fun a w hF hS => ?_)
 refine wpListIn_nil ?_
 refine ⟨_, _, _, hS, fun wb hS => ?_⟩
 obtain ⟨κb, hκb⟩ : ∃ κb, κb = κ := ⟨_, rfl⟩
 subst hκb
 refine wpIn_block ?_
 refine wpIn_seq_k fun K76 hK76 => ?_
 refine wpIn_region_lit ?_
 refine wp 1 [3, 4, 5, 7, 12] hF fun a hF => ?_
 refine wc (wld hF hS 3 0 0 fun a hF => ?_)
 refine wl_pure (L' := [(3, pt b9 0), (4, pt b10 0), (5, pt b11 0), (7, pt b75 0), (14, vb (x17 == a6))]) 1 [3, 4, 5, 7, 14] hF (by kernel_rfl) fun a hF => ?_
 refine wpListIn_nil ?_
 refine hK76 _ _ ?_
 refine bif_split H (fun hb H => ?_) (fun hb H => ?_)
 refine cond_t hF (by kernel_rfl) hb ?_
 refine wpIn_seq_k fun K77 hK77 => ?_
 refine wpIn_region_lit ?_
 refine wc (wls hF hS 0 0 3 fun a hF => ?_)
 refine wc (wst hF hS 2 0 3 [sg x18.Lo, sg x18.Hi, si x18.Node] (sgN 3 sgNil) fun a w hF hS => ?_)
 refine wc (wst hF hS 1 0 1 [sb true] (sgN 1 sgNil) fun a w hF hS => ?_)
 refine wpListIn_nil ?_
 refine hK77 _ _ ?_
 refine wpIn_ret ?_
 cases H
 try dsimp only [Exit.inBlock, Exit.then]
 repeat rw [if_neg (by decide)]
 refine re_ret [.ret] 0 rfl (C := [.box b11 4 [sb true], .box b10 32 [sg x18.Lo, sg x18.Hi, si x18.Node], .box b9 3 [si a6]]) (R := []) (hS.sp [1, 2, 3] []) ?_
 exact rfl
 refine cond_f hF (by kernel_rfl) hb ?_
 refine wpIn_skip ?_
 cases H
 try dsimp only [Exit.inBlock, Exit.then]
 repeat rw [if_neg (by decide)]
 refine re_normal [.ret] (C := [.box b11 4 [sb v73.1], .box b10 32 [sg v73.2.1, sg v73.2.2.1, si v73.2.2.2.1], .box b9 3 [si a6]]) (R := []) (hS.sp [1, 2, 3] []) ?_
 exact rfl
 rintro _ rfl
 refine ⟨_, _, _, rfl, fun κ w a hF hS => ?_⟩
 refine bif_split H (fun hb H => ?_) (fun hb H => ?_)
 refine jumped0 hb ?_
 refine hK12 _ _ ?_
 refine wpIn_seq_k fun K79 hK79 => ?_
 refine wpIn_region_lit ?_
 refine wl_pure (L' := [(4, pt b10 0), (5, pt b11 0), (16, .agg (flat [sg ByteArray.empty, sg ByteArray.empty, si 0]).toArray)]) 1 [4, 5, 16] hF (by kernel_rfl) fun a hF => ?_
 refine wc (wst hF hS 2 0 3 [sg ByteArray.empty, sg ByteArray.empty, si 0] (sgN 3 sgNil) fun a w hF hS => ?_)
 refine wc (wst hF hS 1 0 1 [sb false] (sgN 1 sgNil) fun a w hF hS => ?_)
 refine wpListIn_nil ?_
 refine hK79 _ _ ?_
 refine wpIn_ret ?_
 refine ret_doneM (C' := [.box b11 4 [sb false], .box b10 32 [sg ByteArray.empty, sg ByteArray.empty, si 0], .box b9 3 [si a6]]) hF hS 0 rfl (by kernel_rfl) fun w hS => ?_
 cases H
 exact ⟨_, (res2 Try.results18 (rvs hF hS 1 0 3) (rvc hF hS 0 0 0)), ⟨rfl, (hS.pick [] (by kernel_rfl)).ro, hS.newC [] (by decide) (by kernel_rfl)⟩⟩
 refine bif_split H (fun hb H => ?_) (fun hb H => ?_)
 refine jumpedS 0 hb rfl ?_
 refine wpIn_ret ?_
 refine ret_doneM (C' := [.box b11 4 [sb v78.1], .box b10 32 [sg v78.2.1, sg v78.2.2.1, si v78.2.2.2.1], .box b9 3 [si a6]]) hF hS 0 rfl (by kernel_rfl) fun w hS => ?_
 cases H
 exact ⟨_, (res2 Try.results18 (rvs hF hS 1 0 3) (rvc hF hS 0 0 0)), ⟨rfl, (hS.pick [] (by kernel_rfl)).ro, hS.newC [] (by decide) (by kernel_rfl)⟩⟩
 cases H
set_option maxRecDepth 20000 in
set_option maxHeartbeats 8000000 in
theorem C_span_Split (N : Nat) {κ0 : Gh} {w0 : World} (hfr : Fresh κ0 w0) (a1 : T_api_Map) (a6 : Int) (a7 : Int) (a8 : ByteArray) (p2 : Option Addr) (c3 : Nat) (p4 : Option Addr) (c5 : Nat) (hR : ∀ m ∈ ([Ro.mp fStr.ty p2 c3 a1.Cuts, Ro.mp (fInt .i64).ty p4 c5 a1.Nodes] : List MP), m.p κ0 w0) {r : (T_api_Map × Int)} (H : M.span_Split N a1 a6 a7 a8 = some r) :
    Calls Try.prog 27 #[.agg (flat [sl p2 (a1.Cuts).length c3, sl p4 (a1.Nodes).length c5]).toArray, vi a6, vi a7, .string (a8)] w0 (Post [] κ0 w0 fun v κ w => ∃ (p77 : Option Addr) (c78 : Nat) (p79 : Option Addr) (c80 : Nat), v = .tuple #[.agg (flat [sl p77 (r.1.Cuts).length c78, sl p79 (r.1.Nodes).length c80]).toArray, vi r.2] ∧ (∀ m ∈ ([Ro.mp fStr.ty p77 c78 r.1.Cuts, Ro.mp (fInt .i64).ty p79 c80 r.1.Nodes] : List MP), m.p κ w) ∧ NewC w0 κ w [.tok p77 9 1 (r.1.Cuts).length c78, .tok p79 3 1 (r.1.Nodes).length c80]) := by
 have hS := SS.start hfr hR
 refine enter (N := (89)) (L := [(0, .agg (flat [sl p2 (a1.Cuts).length c3, sl p4 (a1.Nodes).length c5]).toArray), (1, vi a6), (2, vi a7), (3, .string (a8))]) Try.func27 rfl Try.ntmps27 (show 4 ≤ (89) by decide) rfl fun a hF => ?_
 unfold M.span_Split at H
 refine wpIn_seq_k fun K9 hK9 => ?_
 refine wpIn_region_lit ?_
 refine wc (wbx hF hS [sl p2 (a1.Cuts).length c3, sl p4 (a1.Nodes).length c5] (sgN 2 sgNil) fun b10 a w hF hS => ?_)
 refine wc (wal hF hS [sl none 0 0, sl none 0 0] (sgN 2 sgNil) fun b11 a w hF hS => ?_)
 refine wp 1 [1, 2, 3, 4, 8] hF fun a hF => ?_
 refine wpListIn_nil ?_
 refine hK9 _ _ ?_
 refine wpIn_seq_k fun K12 hK12 => ?_
 refine wpIn_seq_k fun K13 hK13 => ?_
 refine wpIn_region_lit ?_
 refine wc (wls hF hS 1 0 2 fun a hF => ?_)
 refine wp 1 [2, 3, 4, 8, 14, 15] hF fun a hF => ?_
 refine bind_split H (fun x14 hx14 H => ?_)
 refine wc (wo_callP hF hS (by kernel_rfl) (by kernel_rfl) (C_span_Check N hS.fresh (T_api_Map.mk a1.Cuts a1.Nodes) a6 p2 c3 p4 c5 ((hS.pick [0, 1] (by kernel_rfl)).ro) hx14) ?_)
 rintro _ κ w a ⟨rfl, hR, hN⟩ hF hS hO
 refine wp 1 [2, 3, 4, 8, 10] hF fun a hF => ?_
 refine wpListIn_nil ?_
 refine hK13 _ _ ?_
 refine wpIn_seq_k fun K15 hK15 => ?_
 refine wpIn_region_lit ?_
 refine wp 2 [2, 3, 4, 8, 10, 18] hF fun a hF => ?_
 refine wpListIn_nil ?_
 refine hK15 _ _ ?_
 refine bif_split H (fun hb H => ?_) (fun hb H => ?_)
 refine cond_t hF (by kernel_rfl) hb ?_
 refine wpIn_seq_k fun K16 hK16 => ?_
 refine wpIn_region_lit ?_
 refine wp 2 [8, 19, 20] hF fun a hF => ?_
 refine wc (wst hF hS 0 0 2 [sl none 0 0, sl none 0 0] (sgN 2 sgNil) fun a w hF hS => ?_)
 refine wp 1 [8, 9] hF fun a hF => ?_
 refine wpListIn_nil ?_
 refine hK16 _ _ ?_
 refine wpIn_ret ?_
 have hS' := hS
 have hS := hS.add (m := Ro.mp fStr.ty none 0 ([] : List ByteArray)) (Ro.nil fStr.ty _ _)
 have hS := hS.add (m := Ro.mp (fInt .i64).ty none 0 ([] : List Int)) (Ro.nil (fInt .i64).ty _ _)
 have hS := hS.addNil 9 1
 have hS := hS.addNil 3 1
 cases H
 exact (ret_done hF hS (res2 Try.results27 (rvs hF hS' 0 0 2) (rvt hF)) ⟨none, 0, none, 0, rfl, (hS.pick [1, 0] (by kernel_rfl)).ro, hS.newC [1, 0] (by decide) (by kernel_rfl)⟩)
 refine cond_f hF (by kernel_rfl) hb ?_
 refine wpIn_skip ?_
 refine hK12 _ _ ?_
 refine wpIn_seq_k fun K17 hK17 => ?_
 refine wpIn_region_lit ?_
 refine wc (wls hF hS 1 0 2 fun a hF => ?_)
 refine wp 1 [2, 3, 4, 8, 22, 23] hF fun a hF => ?_
 refine bind_split H (fun x18 hx18 H => ?_)
 refine wc (wo_callP hF hS (by kernel_rfl) (by kernel_rfl) (C_span_At N hS.fresh (T_api_Map.mk a1.Cuts a1.Nodes) a7 p2 c3 p4 c5 ((hS.pick [0, 1] (by kernel_rfl)).ro) hx18) ?_)
 rintro _ κ w a ⟨rfl, hR, hN⟩ hF hS hO
 refine wp 3 [2, 3, 4, 8, 25, 26] hF fun a hF => ?_
 refine wc (wal hF hS [sg ByteArray.empty, sg ByteArray.empty, si 0] (sgN 3 sgNil) fun b19 a w hF hS => ?_)
 refine wc (wst hF hS 0 0 3 [sg x18.1.Lo, sg x18.1.Hi, si x18.1.Node] (sgN 3 sgNil) fun a w hF hS => ?_)
 refine wp 1 [2, 3, 4, 8, 11, 12] hF fun a hF => ?_
 refine wpListIn_nil ?_
 refine hK17 _ _ ?_
 refine wpIn_seq_k fun K20 hK20 => ?_
 refine wpIn_seq_k fun K21 hK21 => ?_
 refine wpIn_region_lit ?_
 refine wp 2 [2, 3, 4, 8, 11, 28] hF fun a hF => ?_
 refine wpListIn_nil ?_
 refine hK21 _ _ ?_
 refine bif_split H (fun hb H => ?_) (fun hb H => ?_)
 refine cond_t hF (by kernel_rfl) hb ?_
 refine wpIn_seq_k fun K22 hK22 => ?_
 refine wpIn_region_lit ?_
 refine wp 1 [8, 29] hF fun a hF => ?_
 refine wc (wst hF hS 1 0 2 [sl none 0 0, sl none 0 0] (sgN 2 sgNil) fun a w hF hS => ?_)
 refine wp 1 [8, 9] hF fun a hF => ?_
 refine wpListIn_nil ?_
 refine hK22 _ _ ?_
 refine wpIn_ret ?_
 have hS' := hS
 have hS := hS.add (m := Ro.mp fStr.ty none 0 ([] : List ByteArray)) (Ro.nil fStr.ty _ _)
 have hS := hS.add (m := Ro.mp (fInt .i64).ty none 0 ([] : List Int)) (Ro.nil (fInt .i64).ty _ _)
 have hS := hS.addNil 9 1
 have hS := hS.addNil 3 1
 cases H
 exact (ret_done hF hS (res2 Try.results27 (rvs hF hS' 1 0 2) (rvt hF)) ⟨none, 0, none, 0, rfl, (hS.pick [1, 0] (by kernel_rfl)).ro, hS.newC [1, 0] (by decide) (by kernel_rfl)⟩)
 refine cond_f hF (by kernel_rfl) hb ?_
 refine wpIn_skip ?_
 refine hK20 _ _ ?_
 refine wpIn_seq_k fun K23 hK23 => ?_
 refine wpIn_seq_k fun K24 hK24 => ?_
 refine wpIn_region_lit ?_
 refine bind_split H (fun v26 hv26 H => ?_)
 refine wl_join (fun a w => ∃ κ : Gh, Fr (89) [] [(2, vi a7), (3, .string (a8)), (4, pt b10 0), (8, pt b11 0), (11, pt b19 0), (47, vb v26)] a ∧ SS [] κ0 w0 κ w [.box b19 32 [sg x18.1.Lo, sg x18.1.Hi, si x18.1.Node], .box b11 25 [sl none 0 0, sl none 0 0], .box b10 25 [sl p2 (a1.Cuts).length c3, sl p4 (a1.Nodes).length c5]] [Ro.mp fStr.ty none 0 ([] : List ByteArray), Ro.mp (fInt .i64).ty none 0 ([] : List Int), Ro.mp fStr.ty p2 c3 a1.Cuts, Ro.mp (fInt .i64).ty p4 c5 a1.Nodes] ∧ True) ?_ ?_
 refine wp 4 [2, 3, 4, 8, 11, 33] hF fun a hF => ?_
 refine bif_split hv26 (fun hb hv26 => ?_) (fun hb hv26 => ?_)
 have hF := hF.boolv 33 (by kernel_rfl) hb
 refine wp 14 [2, 3, 4, 8, 11, 47] hF fun a hF => ?_
 refine wpListIn_nil ?_
 cases hv26
 have hS := hS.add (m := Ro.mp fStr.ty none 0 ([] : List ByteArray)) (Ro.nil fStr.ty _ _)
 have hS := hS.add (m := Ro.mp (fInt .i64).ty none 0 ([] : List Int)) (Ro.nil (fInt .i64).ty _ _)
 exact ⟨_, hF.kp [2, 3, 4, 8, 11, 47], hS.sp [0, 1, 2] [1, 0, 2, 3], trivial⟩
 have hF := hF.boolv 33 (by kernel_rfl) hb
 refine wp 2 [2, 3, 4, 8, 11, 33, 34, 35] hF fun a hF => ?_
 refine wcg hF (wld hF hS 0 0 0 fun a hF => ?_)
 refine wp 3 [2, 3, 4, 8, 11, 39] hF fun a hF => ?_
 refine bif_split hv26 (fun hb hv26 => ?_) (fun hb hv26 => ?_)
 have hF := hF.boolv 39 (by kernel_rfl) hb
 refine wp 8 [2, 3, 4, 8, 11, 47] hF fun a hF => ?_
 refine wpListIn_nil ?_
 cases hv26
 have hS := hS.add (m := Ro.mp fStr.ty none 0 ([] : List ByteArray)) (Ro.nil fStr.ty _ _)
 have hS := hS.add (m := Ro.mp (fInt .i64).ty none 0 ([] : List Int)) (Ro.nil (fInt .i64).ty _ _)
 exact ⟨_, hF.kp [2, 3, 4, 8, 11, 47], hS.sp [0, 1, 2] [1, 0, 2, 3], trivial⟩
 have hF := hF.boolv 39 (by kernel_rfl) hb
 refine wp 2 [2, 3, 4, 8, 11, 39, 40, 41] hF fun a hF => ?_
 refine wcg hF (wld hF hS 0 0 0 fun a hF => ?_)
 refine wp 1 [2, 3, 4, 8, 11, 39, 40, 42, 43] hF fun a hF => ?_
 refine wcg hF (wld hF hS 0 1 0 fun a hF => ?_)
 refine bind_split hv26 (fun x27 hx27 hv26 => ?_)
 refine wcg hF (wo_callP hF hS (by kernel_rfl) (by kernel_rfl) (C_span_Within N hS.fresh a8 x18.1.Lo x18.1.Hi  ((hS.pick [] (by kernel_rfl)).ro) hx27) ?_)
 rintro _ κ w a ⟨rfl, hR, hN⟩ hF hS hO
 refine wp 2 [2, 3, 4, 8, 11, 47] hF fun a hF => ?_
 refine wpListIn_nil ?_
 cases hv26
 have hS := hS.add (m := Ro.mp fStr.ty none 0 ([] : List ByteArray)) (Ro.nil fStr.ty _ _)
 have hS := hS.add (m := Ro.mp (fInt .i64).ty none 0 ([] : List Int)) (Ro.nil (fInt .i64).ty _ _)
 exact ⟨_, hF.kp [2, 3, 4, 8, 11, 47], hS.sp [0, 1, 2] [1, 0, 2, 3], trivial⟩
 rintro a w ⟨κ, hF, hS, -⟩
 refine hK24 _ _ ?_
 refine bif_split H (fun hb H => ?_) (fun hb H => ?_)
 refine cond_t hF (by kernel_rfl) hb ?_
 refine wpIn_seq_k fun K28 hK28 => ?_
 refine wpIn_region_lit ?_
 refine wp 1 [8, 48] hF fun a hF => ?_
 refine wc (wst hF hS 1 0 2 [sl none 0 0, sl none 0 0] (sgN 2 sgNil) fun a w hF hS => ?_)
 refine wp 1 [8, 9] hF fun a hF => ?_
 refine wpListIn_nil ?_
 refine hK28 _ _ ?_
 refine wpIn_ret ?_
 have hS' := hS
 have hS := hS.addNil 9 1
 have hS := hS.addNil 3 1
 cases H
 exact (ret_done hF hS (res2 Try.results27 (rvs hF hS' 1 0 2) (rvt hF)) ⟨none, 0, none, 0, rfl, (hS.pick [0, 1] (by kernel_rfl)).ro, hS.newC [1, 0] (by decide) (by kernel_rfl)⟩)
 refine cond_f hF (by kernel_rfl) hb ?_
 refine wpIn_skip ?_
 refine hK23 _ _ ?_
 refine wpIn_seq_k fun K29 hK29 => ?_
 refine wpIn_seq_k fun K30 hK30 => ?_
 refine wpIn_region_lit ?_
 refine wp 1 [2, 3, 4, 8, 11, 49] hF fun a hF => ?_
 refine wc (wld hF hS 2 1 0 fun a hF => ?_)
 refine wp 2 [2, 3, 4, 8, 11, 52] hF fun a hF => ?_
 refine wpListIn_nil ?_
 refine hK30 _ _ ?_
 refine bif_split H (fun hb H => ?_) (fun hb H => ?_)
 refine cond_t hF (by kernel_rfl) hb ?_
 refine wpIn_seq_k fun K31 hK31 => ?_
 refine wpIn_region_lit ?_
 refine wp 1 [8, 53] hF fun a hF => ?_
 refine wc (wst hF hS 1 0 2 [sl none 0 0, sl none 0 0] (sgN 2 sgNil) fun a w hF hS => ?_)
 refine wp 1 [8, 9] hF fun a hF => ?_
 refine wpListIn_nil ?_
 refine hK31 _ _ ?_
 refine wpIn_ret ?_
 have hS' := hS
 have hS := hS.addNil 9 1
 have hS := hS.addNil 3 1
 cases H
 exact (ret_done hF hS (res2 Try.results27 (rvs hF hS' 1 0 2) (rvt hF)) ⟨none, 0, none, 0, rfl, (hS.pick [0, 1] (by kernel_rfl)).ro, hS.newC [1, 0] (by decide) (by kernel_rfl)⟩)
 refine cond_f hF (by kernel_rfl) hb ?_
 refine wpIn_skip ?_
 refine hK29 _ _ ?_
 refine wpIn_seq_k fun K32 hK32 => ?_
 refine wpIn_region_lit ?_
 refine wp 1 [2, 3, 4, 8, 11, 54] hF fun a hF => ?_
 refine wc (wal hF hS [sl none 0 0, sl none 0 0] (sgN 2 sgNil) fun b33 a w hF hS => ?_)
 refine wc (wst hF hS 0 0 2 [sl none 0 0, sl none 0 0] (sgN 2 sgNil) fun a w hF hS => ?_)
 refine wpListIn_nil ?_
 refine hK32 _ _ ?_
 refine wpIn_seq_k fun K34 hK34 => ?_
 refine bind_split H (fun v38 hv38 H => ?_)
 refine code_join (fun a w => ∃ (κ : Gh) (p36 : Option Addr) (c37 : Nat), Fr (89) [] [(2, vi a7), (4, pt b10 0), (8, pt b11 0), (11, pt b19 0), (13, pt b33 0)] a ∧ SS [] κ0 w0 κ w [.box b33 25 [sl p36 (v38).length c37, sl none 0 0], .box b19 32 [sg x18.1.Lo, sg x18.1.Hi, si x18.1.Node], .box b11 25 [sl none 0 0, sl none 0 0], .box b10 25 [sl p2 (a1.Cuts).length c3, sl p4 (a1.Nodes).length c5], .tok p36 9 1 (v38).length c37] [Ro.mp fStr.ty p36 c37 v38, Ro.mp (fInt .i64).ty none 0 ([] : List Int), Ro.mp fStr.ty none 0 ([] : List ByteArray), Ro.mp fStr.ty p2 c3 a1.Cuts, Ro.mp (fInt .i64).ty p4 c5 a1.Nodes] ∧ True) ?_ ?_
 refine rgS hS [16] ?_
 have hS := hS.drew
 refine bind_split hv38 (fun x39 hx39 hv38 => ?_)
 refine bind_split hv38 (fun x42 hx42 hv38 => ?_)
 refine bind_split hv38 (fun x46 hx46 hv38 => ?_)
 refine bind_split hv38 (fun x49 hx49 hv38 => ?_)
 refine bind_split hv38 (fun x52 hx52 hv38 => ?_)
 refine any_pure [0, 2, 4, 7, 10, 12] [2, 4, 8, 11, 13, 55, 57, 59, 62, 65, 67] (L' := [(2, vi a7), (4, pt b10 0), (8, pt b11 0), (11, pt b19 0), (13, pt b33 0), (55, pt b33 0), (57, pt b10 0), (59, vi a7), (62, .string (a8)), (65, pt b10 0), (67, vi a7)]) (listed' := (bitA 17 5269)) (fuel := 11) hF (hS.sx (rg 4) (rg 4)) (by kernel_rfl) (by intro c a w t v h; cases t <;> exact h) (by kernel_rfl) rfl fun a hF => ?_
 refine atk 1 (some 56) hF (hS.sx (rg 4) (rg 4)) rfl (vld 0 0 0) fun a hF => ?_
 refine atk 3 (some 58) hF (hS.sx (rg 4) (rg 4)) rfl (vld 3 0 0) fun a hF => ?_
 obtain ⟨p40, c41, hvx39, hrx39⟩ := slice_val Try.prog fStr.ty (L := [(2, vi a7), (4, pt b10 0), (8, pt b11 0), (11, pt b19 0), (13, pt b33 0), (55, pt b33 0), (56, .slice none 0 0), (57, pt b10 0), (58, .slice p2 (a1.Cuts).length c3), (59, vi a7), (62, .string (a8)), (65, pt b10 0), (67, vi a7)]) (o := ⟨(some 60), (Go.Op.slice 22 (Go.Operand.tmp 58) none (some (Go.Operand.tmp 59)) none), 22, "span.go:120", #[(Go.Edge.mk 3 Go.Ground.data), (Go.Edge.mk 4 Go.Ground.data)], none⟩) (E := 9) (lo := 0) (hi := a7) rfl (hS.get 2 rfl : Ro fStr.ty _ _ p2 c3 a1.Cuts).1 rfl rfl rfl ⟨_, rfl⟩ hx39 (by kernel_rfl) (by kernel_rfl)
 have hS := hS.add (m := Ro.mp fStr.ty p40 c41 x39) (hrx39 _ _ (hS.get 2 rfl))
 refine atk 5 (some 60) hF (hS.sx (rg 4) [1, 2, 3, 4]) rfl (fun w _ => hvx39 w) fun a hF => ?_
 refine atk 11 (some 66) hF (hS.sx (rg 4) [1, 2, 3, 4]) rfl (vld 3 0 0) fun a hF => ?_
 obtain ⟨p50, c51, hvx49, hrx49⟩ := slice_val Try.prog fStr.ty (L := [(2, vi a7), (4, pt b10 0), (8, pt b11 0), (11, pt b19 0), (13, pt b33 0), (55, pt b33 0), (56, .slice none 0 0), (57, pt b10 0), (58, .slice p2 (a1.Cuts).length c3), (59, vi a7), (60, .slice p40 (x39).length c41), (62, .string (a8)), (65, pt b10 0), (66, .slice p2 (a1.Cuts).length c3), (67, vi a7)]) (o := ⟨(some 68), (Go.Op.slice 22 (Go.Operand.tmp 66) (some (Go.Operand.tmp 67)) none none), 22, "span.go:120", #[(Go.Edge.mk 11 Go.Ground.data), (Go.Edge.mk 12 Go.Ground.data)], none⟩) (E := 9) (lo := a7) (hi := ((a1.Cuts).length : Int)) rfl (hS.get 3 rfl : Ro fStr.ty _ _ p2 c3 a1.Cuts).1 rfl rfl ⟨_, rfl⟩ rfl hx49 (by kernel_rfl) (by kernel_rfl)
 have hS := hS.add (m := Ro.mp fStr.ty p50 c51 x49) (hrx49 _ _ (hS.get 3 rfl))
 refine atk 13 (some 68) hF (hS.sx (rg 4) [2, 3, 4, 5]) rfl (fun w _ => hvx49 w) fun a hF => ?_
 refine ago2 6 8 hF rfl rfl ?_ ?_
 have hS := hS.addNil 9 1
 refine wo_append (ty := fStr.ty) hF hS (by kernel_rfl) 0 2 1 rfl rfl rfl (by kernel_rfl) (by kernel_rfl) rfl rfl rfl hx42 (by kernel_rfl) (i := Try.t9) (z := .string (ByteArray.empty)) (by kernel_rfl) (by kernel_rfl) (by kernel_rfl) fun p43 c44 κ a w hF hS => ?_
 refine ⟨fun _ => (hS.sx [1, 2, 3, 4] [3, 4, 5, 6]), ?_⟩
 refine ago 8 hF rfl ?_
 refine wo_buildN (t := fStr) (z := .string (ByteArray.empty)) (l := [a8]) (vs := [(0, .string (a8))]) (cells := #[.string (a8)]) (E := 9) hF hS (by kernel_rfl) rfl (by kernel_rfl) (by kernel_rfl) rfl (by kernel_rfl) (by kernel_rfl) (by kernel_rfl) (by kernel_rfl) (by kernel_rfl) fun p45 κ a w hF hS => ?_
 refine ⟨fun _ => (hS.sx [2, 3, 4, 5] [4, 5, 6, 7]), ?_⟩
 refine ago 9 hF rfl ?_
 refine wo_append (ty := fStr.ty) hF hS (by kernel_rfl) 1 1 0 rfl rfl rfl (by kernel_rfl) (by kernel_rfl) rfl rfl rfl hx46 (by kernel_rfl) (i := Try.t9) (z := .string (ByteArray.empty)) (by kernel_rfl) (by kernel_rfl) (by kernel_rfl) fun p47 c48 κ a w hF hS => ?_
 refine ⟨fun _ => (hS.sx [2, 3, 4, 5] [5, 6, 7, 8]), ?_⟩
 refine ago 14 hF rfl ?_
 refine wo_append (ty := fStr.ty) hF hS (by kernel_rfl) 1 0 3 rfl rfl rfl (by kernel_rfl) (by kernel_rfl) rfl rfl rfl hx52 (by kernel_rfl) (i := Try.t9) (z := .string (ByteArray.empty)) (by kernel_rfl) (by kernel_rfl) (by kernel_rfl) fun p53 c54 κ a w hF hS => ?_
 refine ⟨fun _ => (hS.sx [2, 3, 4, 5] [6, 7, 8, 9]), ?_⟩
 refine anp [15] [2, 4, 8, 11, 13, 69, 70] hF (hS.sx [2, 3, 4, 5] [6, 7, 8, 9]) fun a hF => ?_
 refine ago 16 hF rfl ?_
 refine wst hF hS 2 0 1 [sl p53 (x52).length c54] (sgN 1 sgNil) fun a w hF hS => ?_
 refine ⟨notE, ?_⟩
 refine and_ ?_
 cases hv38
 exact ⟨_, p53, c54, hF.kp [2, 4, 8, 11, 13], hS.sp [2, 3, 4, 5, 1] [0, 7, 6, 8, 9], trivial⟩
 refine wo_buildN (t := fStr) (z := .string (ByteArray.empty)) (l := [a8]) (vs := [(0, .string (a8))]) (cells := #[.string (a8)]) (E := 9) hF hS (by kernel_rfl) rfl (by kernel_rfl) (by kernel_rfl) rfl (by kernel_rfl) (by kernel_rfl) (by kernel_rfl) (by kernel_rfl) (by kernel_rfl) fun p45 κ a w hF hS => ?_
 refine ⟨fun _ => (hS.sx [1, 2, 3, 4] [3, 4, 5, 6]), ?_⟩
 refine ago 6 hF rfl ?_
 have hS := hS.addNil 9 1
 refine wo_append (ty := fStr.ty) hF hS (by kernel_rfl) 0 3 2 rfl rfl rfl (by kernel_rfl) (by kernel_rfl) rfl rfl rfl hx42 (by kernel_rfl) (i := Try.t9) (z := .string (ByteArray.empty)) (by kernel_rfl) (by kernel_rfl) (by kernel_rfl) fun p43 c44 κ a w hF hS => ?_
 refine ⟨fun _ => (hS.sx [2, 3, 4, 5] [4, 5, 6, 7]), ?_⟩
 refine ago 9 hF rfl ?_
 refine wo_append (ty := fStr.ty) hF hS (by kernel_rfl) 0 0 1 rfl rfl rfl (by kernel_rfl) (by kernel_rfl) rfl rfl rfl hx46 (by kernel_rfl) (i := Try.t9) (z := .string (ByteArray.empty)) (by kernel_rfl) (by kernel_rfl) (by kernel_rfl) fun p47 c48 κ a w hF hS => ?_
 refine ⟨fun _ => (hS.sx [2, 3, 4, 5] [5, 6, 7, 8]), ?_⟩
 refine ago 14 hF rfl ?_
 refine wo_append (ty := fStr.ty) hF hS (by kernel_rfl) 0 0 3 rfl rfl rfl (by kernel_rfl) (by kernel_rfl) rfl rfl rfl hx52 (by kernel_rfl) (i := Try.t9) (z := .string (ByteArray.empty)) (by kernel_rfl) (by kernel_rfl) (by kernel_rfl) fun p53 c54 κ a w hF hS => ?_
 refine ⟨fun _ => (hS.sx [2, 3, 4, 5] [6, 7, 8, 9]), ?_⟩
 refine anp [15] [2, 4, 8, 11, 13, 69, 70] hF (hS.sx [2, 3, 4, 5] [6, 7, 8, 9]) fun a hF => ?_
 refine ago 16 hF rfl ?_
 refine wst hF hS 2 0 1 [sl p53 (x52).length c54] (sgN 1 sgNil) fun a w hF hS => ?_
 refine ⟨notE, ?_⟩
 refine and_ ?_
 cases hv38
 exact ⟨_, p53, c54, hF.kp [2, 4, 8, 11, 13], hS.sp [2, 3, 4, 5, 0] [0, 7, 6, 8, 9], trivial⟩
 rintro a w ⟨κ, p36, c37, hF, hS, -⟩
 refine hK34 _ _ ?_
 refine wpIn_seq_k fun K55 hK55 => ?_
 refine bind_split H (fun v59 hv59 H => ?_)
 refine code_join (fun a w => ∃ (κ : Gh) (p57 : Option Addr) (c58 : Nat), Fr (89) [] [(8, pt b11 0), (13, pt b33 0)] a ∧ SS [] κ0 w0 κ w [.box b33 25 [sl p36 (v38).length c37, sl p57 (v59).length c58], .box b11 25 [sl none 0 0, sl none 0 0], .tok p57 3 1 (v59).length c58, .tok p36 9 1 (v38).length c37] [Ro.mp fStr.ty p36 c37 v38, Ro.mp (fInt .i64).ty p57 c58 v59, Ro.mp fStr.ty none 0 ([] : List ByteArray), Ro.mp (fInt .i64).ty none 0 ([] : List Int)] ∧ True) ?_ ?_
 refine rgS hS [17] ?_
 have hS := hS.drew
 refine bind_split hv59 (fun x60 hx60 hv59 => ?_)
 refine bind_split hv59 (fun x63 hx63 hv59 => ?_)
 refine bind_split hv59 (fun x67 hx67 hv59 => ?_)
 refine bind_split hv59 (fun x70 hx70 hv59 => ?_)
 refine bind_split hv59 (fun x73 hx73 hv59 => ?_)
 refine any_pure [0, 2, 4, 7, 11, 13] [8, 13, 71, 73, 75, 78, 82, 84] (L' := [(8, pt b11 0), (13, pt b33 0), (71, pt b33 1), (73, pt b10 1), (75, vi a7), (78, pt b19 2), (82, pt b10 1), (84, vi a7)]) (listed' := (bitA 18 10389)) (fuel := 12) hF (hS.sx (rg 4) (rg 5)) (by kernel_rfl) (by intro c a w t v h; cases t <;> exact h) (by kernel_rfl) rfl fun a hF => ?_
 refine atk 1 (some 72) hF (hS.sx (rg 4) (rg 5)) rfl (vld 0 1 0) fun a hF => ?_
 refine atk 3 (some 74) hF (hS.sx (rg 4) (rg 5)) rfl (vld 3 1 0) fun a hF => ?_
 obtain ⟨p61, c62, hvx60, hrx60⟩ := slice_val Try.prog (fInt .i64).ty (L := [(8, pt b11 0), (13, pt b33 0), (71, pt b33 1), (72, .slice none 0 0), (73, pt b10 1), (74, .slice p4 (a1.Nodes).length c5), (75, vi a7), (78, pt b19 2), (82, pt b10 1), (84, vi a7)]) (o := ⟨(some 76), (Go.Op.slice 23 (Go.Operand.tmp 74) none (some (Go.Operand.tmp 75)) none), 23, "span.go:121", #[(Go.Edge.mk 3 Go.Ground.data), (Go.Edge.mk 4 Go.Ground.data)], none⟩) (E := 3) (lo := 0) (hi := a7) rfl (hS.get 4 rfl : Ro (fInt .i64).ty _ _ p4 c5 a1.Nodes).1 rfl rfl rfl ⟨_, rfl⟩ hx60 (by kernel_rfl) (by kernel_rfl)
 have hS := hS.add (m := Ro.mp (fInt .i64).ty p61 c62 x60) (hrx60 _ _ (hS.get 4 rfl))
 refine atk 5 (some 76) hF (hS.sx (rg 4) [1, 2, 3, 4, 5]) rfl (fun w _ => hvx60 w) fun a hF => ?_
 refine atk 8 (some 79) hF (hS.sx (rg 4) [1, 2, 3, 4, 5]) rfl (vld 1 2 0) fun a hF => ?_
 refine atk 12 (some 83) hF (hS.sx (rg 4) [1, 2, 3, 4, 5]) rfl (vld 3 1 0) fun a hF => ?_
 obtain ⟨p71, c72, hvx70, hrx70⟩ := slice_val Try.prog (fInt .i64).ty (L := [(8, pt b11 0), (13, pt b33 0), (71, pt b33 1), (72, .slice none 0 0), (73, pt b10 1), (74, .slice p4 (a1.Nodes).length c5), (75, vi a7), (76, .slice p61 (x60).length c62), (78, pt b19 2), (79, vi x18.1.Node), (82, pt b10 1), (83, .slice p4 (a1.Nodes).length c5), (84, vi a7)]) (o := ⟨(some 85), (Go.Op.slice 23 (Go.Operand.tmp 83) (some (Go.Operand.tmp 84)) none none), 23, "span.go:121", #[(Go.Edge.mk 12 Go.Ground.data), (Go.Edge.mk 13 Go.Ground.data)], none⟩) (E := 3) (lo := a7) (hi := ((a1.Nodes).length : Int)) rfl (hS.get 5 rfl : Ro (fInt .i64).ty _ _ p4 c5 a1.Nodes).1 rfl rfl ⟨_, rfl⟩ rfl hx70 (by kernel_rfl) (by kernel_rfl)
 have hS := hS.add (m := Ro.mp (fInt .i64).ty p71 c72 x70) (hrx70 _ _ (hS.get 5 rfl))
 refine atk 14 (some 85) hF (hS.sx (rg 4) [2, 3, 4, 5, 6]) rfl (fun w _ => hvx70 w) fun a hF => ?_
 refine ago2 6 9 hF rfl rfl ?_ ?_
 have hS := hS.addNil 3 1
 refine wo_append (ty := (fInt .i64).ty) hF hS (by kernel_rfl) 0 3 1 rfl rfl rfl (by kernel_rfl) (by kernel_rfl) rfl rfl rfl hx63 (by kernel_rfl) (i := Try.t3) (z := vi 0) (by kernel_rfl) (by kernel_rfl) (by kernel_rfl) fun p64 c65 κ a w hF hS => ?_
 refine ⟨fun _ => (hS.sx [1, 2, 3, 4] [3, 4, 5, 6, 7]), ?_⟩
 refine ago 9 hF rfl ?_
 refine wo_buildN (t := (fInt .i64)) (z := vi 0) (l := [x18.1.Node]) (vs := [(0, vi x18.1.Node)]) (cells := #[vi x18.1.Node]) (E := 3) hF hS (by kernel_rfl) rfl (by kernel_rfl) (by kernel_rfl) rfl (by kernel_rfl) (by kernel_rfl) (by kernel_rfl) (by kernel_rfl) (by kernel_rfl) fun p66 κ a w hF hS => ?_
 refine ⟨fun _ => (hS.sx [2, 3, 4, 5] [4, 5, 6, 7, 8]), ?_⟩
 refine ago 10 hF rfl ?_
 refine wo_append (ty := (fInt .i64).ty) hF hS (by kernel_rfl) 1 1 0 rfl rfl rfl (by kernel_rfl) (by kernel_rfl) rfl rfl rfl hx67 (by kernel_rfl) (i := Try.t3) (z := vi 0) (by kernel_rfl) (by kernel_rfl) (by kernel_rfl) fun p68 c69 κ a w hF hS => ?_
 refine ⟨fun _ => (hS.sx [2, 3, 4, 5] [5, 6, 7, 8, 9]), ?_⟩
 refine ago 15 hF rfl ?_
 refine wo_append (ty := (fInt .i64).ty) hF hS (by kernel_rfl) 1 0 3 rfl rfl rfl (by kernel_rfl) (by kernel_rfl) rfl rfl rfl hx73 (by kernel_rfl) (i := Try.t3) (z := vi 0) (by kernel_rfl) (by kernel_rfl) (by kernel_rfl) fun p74 c75 κ a w hF hS => ?_
 refine ⟨fun _ => (hS.sx [2, 3, 4, 5] [6, 7, 8, 9, 10]), ?_⟩
 refine anp [16] [8, 13, 86, 87] hF (hS.sx [2, 3, 4, 5] [6, 7, 8, 9, 10]) fun a hF => ?_
 refine ago 17 hF rfl ?_
 refine wst hF hS 2 1 1 [sl p74 (x73).length c75] (sgN 1 sgNil) fun a w hF hS => ?_
 refine ⟨notE, ?_⟩
 refine and_ ?_
 cases hv59
 exact ⟨_, p74, c75, hF.kp [8, 13], hS.sp [2, 4, 1, 6] [6, 0, 8, 7], trivial⟩
 refine wo_buildN (t := (fInt .i64)) (z := vi 0) (l := [x18.1.Node]) (vs := [(0, vi x18.1.Node)]) (cells := #[vi x18.1.Node]) (E := 3) hF hS (by kernel_rfl) rfl (by kernel_rfl) (by kernel_rfl) rfl (by kernel_rfl) (by kernel_rfl) (by kernel_rfl) (by kernel_rfl) (by kernel_rfl) fun p66 κ a w hF hS => ?_
 refine ⟨fun _ => (hS.sx [1, 2, 3, 4] [3, 4, 5, 6, 7]), ?_⟩
 refine ago 6 hF rfl ?_
 have hS := hS.addNil 3 1
 refine wo_append (ty := (fInt .i64).ty) hF hS (by kernel_rfl) 0 4 2 rfl rfl rfl (by kernel_rfl) (by kernel_rfl) rfl rfl rfl hx63 (by kernel_rfl) (i := Try.t3) (z := vi 0) (by kernel_rfl) (by kernel_rfl) (by kernel_rfl) fun p64 c65 κ a w hF hS => ?_
 refine ⟨fun _ => (hS.sx [2, 3, 4, 5] [4, 5, 6, 7, 8]), ?_⟩
 refine ago 10 hF rfl ?_
 refine wo_append (ty := (fInt .i64).ty) hF hS (by kernel_rfl) 0 0 1 rfl rfl rfl (by kernel_rfl) (by kernel_rfl) rfl rfl rfl hx67 (by kernel_rfl) (i := Try.t3) (z := vi 0) (by kernel_rfl) (by kernel_rfl) (by kernel_rfl) fun p68 c69 κ a w hF hS => ?_
 refine ⟨fun _ => (hS.sx [2, 3, 4, 5] [5, 6, 7, 8, 9]), ?_⟩
 refine ago 15 hF rfl ?_
 refine wo_append (ty := (fInt .i64).ty) hF hS (by kernel_rfl) 0 0 3 rfl rfl rfl (by kernel_rfl) (by kernel_rfl) rfl rfl rfl hx73 (by kernel_rfl) (i := Try.t3) (z := vi 0) (by kernel_rfl) (by kernel_rfl) (by kernel_rfl) fun p74 c75 κ a w hF hS => ?_
 refine ⟨fun _ => (hS.sx [2, 3, 4, 5] [6, 7, 8, 9, 10]), ?_⟩
 refine anp [16] [8, 13, 86, 87] hF (hS.sx [2, 3, 4, 5] [6, 7, 8, 9, 10]) fun a hF => ?_
 refine ago 17 hF rfl ?_
 refine wst hF hS 2 1 1 [sl p74 (x73).length c75] (sgN 1 sgNil) fun a w hF hS => ?_
 refine ⟨notE, ?_⟩
 refine and_ ?_
 cases hv59
 exact ⟨_, p74, c75, hF.kp [8, 13], hS.sp [2, 4, 0, 6] [6, 0, 8, 7], trivial⟩
 rintro a w ⟨κ, p57, c58, hF, hS, -⟩
 refine hK55 _ _ ?_
 refine wpIn_seq_k fun K76 hK76 => ?_
 refine wpIn_region_lit ?_
 refine wc (wls hF hS 0 0 2 fun a hF => ?_)
 refine wc (wst hF hS 1 0 2 [sl p36 (v38).length c37, sl p57 (v59).length c58] (sgN 2 sgNil) fun a w hF hS => ?_)
 refine wp 1 [8, 9] hF fun a hF => ?_
 refine wpListIn_nil ?_
 refine hK76 _ _ ?_
 refine wpIn_ret ?_
 have hS' := hS
 cases H
 exact (ret_done hF hS (res2 Try.results27 (rvs hF hS' 1 0 2) (rvt hF)) ⟨p36, c37, p57, c58, rfl, (hS.pick [0, 1] (by kernel_rfl)).ro, hS.newC [3, 2] (by decide) (by kernel_rfl)⟩)
end Go.Cf
