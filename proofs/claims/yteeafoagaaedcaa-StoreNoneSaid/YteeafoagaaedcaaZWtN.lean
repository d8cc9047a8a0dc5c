/- The walks: each function returns what its model says. Printed by a program of ours. -/
import Derived.Test.YteeafoagaaedcaaZMtN
import Derived.Test.YteeafoagaaedcaaZWt1
import Derived.Test.YteeafoagaaedcaaZWt2
import Derived.Test.YteeafoagaaedcaaZWt4
namespace Go.Cf
open Go Go.Proofs
set_option linter.unusedVariables false
set_option maxRecDepth 20000 in
set_option maxHeartbeats 8000000 in
theorem C_store_Store_Get_nil0 (N : Nat) {Ms : List Nat} {κ0 : Gh} {w0 : World} (a1 : ByteArray) (a2 : Int)  (hB : SB Ms κ0 w0 [] []) {r : (T_api_Ver × Bool × Int)} (H : M.store_Store_Get_nil0 N a1 a2 = some r) :
    Calls Try.prog 50 #[.pointer none, .string (a1), vu a2] w0 (Post Ms κ0 w0 fun v κ w => v = .tuple #[.agg (flat [sg r.1.Key, sg r.1.Val, sb r.1.Gone, su r.1.TS, si r.1.DC, si r.1.Tx]).toArray, vb r.2.1, vi r.2.2] ∧ SS Ms κ0 w0 κ w [] []) := by
 have hS := hB.hS
 have hfr := hS.fresh
 refine enter (N := (34)) (L := [(0, .pointer none), (1, .string (a1)), (2, vu a2)]) Try.func50 rfl Try.ntmps50 (show 3 ≤ (34) by decide) rfl fun a hF => ?_
 unfold M.store_Store_Get_nil0 at H
 refine wpIn_seq_k fun K3 hK3 => ?_
 refine wpIn_region_lit ?_
 refine wc (wal hF hS [sg ByteArray.empty, sg ByteArray.empty, sb false, su 0, si 0, si 0] (sgN 6 sgNil) fun b4 a w hF hS => ?_)
 refine wp 2 [0, 1, 2, 6] hF fun a hF => ?_
 refine wpListIn_nil ?_
 refine hK3 _ _ ?_
 refine wpIn_seq_k fun K5 hK5 => ?_
 refine wpIn_seq_k fun K6 hK6 => ?_
 refine wpIn_region_lit ?_
 refine wp 2 [0, 1, 2, 6, 12] hF fun a hF => ?_
 refine wpListIn_nil ?_
 refine hK6 _ _ ?_
 refine cond_t hF (by kernel_rfl) rfl ?_
 refine wpIn_seq_k fun K7 hK7 => ?_
 refine wpIn_region_lit ?_
 refine wp 1 [6, 13] hF fun a hF => ?_
 refine wc (wst hF hS 0 0 6 [sg ByteArray.empty, sg ByteArray.empty, sb false, su 0, si 0, si 0] (sgN 6 sgNil) fun a w hF hS => ?_)
 refine wp 2 [6, 7, 8] hF fun a hF => ?_
 refine wpListIn_nil ?_
 refine hK7 _ _ ?_
 refine wpIn_ret ?_
 have hS' := hS
 cases H
 exact ret_done hF hS (res3 Try.results50 (rvs hF hS' 0 0 6) (rvt hF) (rvt hF)) ⟨rfl, hS.sp [] []⟩
set_option maxRecDepth 20000 in
set_option maxHeartbeats 8000000 in
theorem C_store_Store_Put_nil0 (N : Nat) {Ms : List Nat} {κ0 : Gh} {w0 : World} (a1 : T_api_Ver)  (hB : SB Ms κ0 w0 [] []) {r : (Int)} (H : M.store_Store_Put_nil0 N a1 = some r) :
    Calls Try.prog 49 #[.pointer none, .agg (flat [sg a1.Key, sg a1.Val, sb a1.Gone, su a1.TS, si a1.DC, si a1.Tx]).toArray] w0 (Post Ms κ0 w0 fun v κ w => v = vi r ∧ SS Ms κ0 w0 κ w [] []) := by
 have hS := hB.hS
 have hfr := hS.fresh
 refine enter (N := (68)) (L := [(0, .pointer none), (1, .agg (flat [sg a1.Key, sg a1.Val, sb a1.Gone, su a1.TS, si a1.DC, si a1.Tx]).toArray)]) Try.func49 rfl Try.ntmps49 (show 2 ≤ (68) by decide) rfl fun a hF => ?_
 unfold M.store_Store_Put_nil0 at H
 refine wpIn_seq_k fun K2 hK2 => ?_
 refine wpIn_region_lit ?_
 refine wc (wbx hF hS [sg a1.Key, sg a1.Val, sb a1.Gone, su a1.TS, si a1.DC, si a1.Tx] (sgN 6 sgNil) fun b3 a w hF hS => ?_)
 refine wp 1 [0, 3] hF fun a hF => ?_
 refine wpListIn_nil ?_
 refine hK2 _ _ ?_
 refine wpIn_seq_k fun K4 hK4 => ?_
 refine wpIn_seq_k fun K5 hK5 => ?_
 refine wpIn_region_lit ?_
 refine wp 2 [0, 3, 12] hF fun a hF => ?_
 refine wpListIn_nil ?_
 refine hK5 _ _ ?_
 refine cond_t hF (by kernel_rfl) rfl ?_
 refine wpIn_seq_k fun K6 hK6 => ?_
 refine wpIn_region_lit ?_
 refine wp 1 [4] hF fun a hF => ?_
 refine wpListIn_nil ?_
 refine hK6 _ _ ?_
 refine wpIn_ret ?_
 cases H
 exact ret_done hF hS (res1 Try.results49 (rvt hF)) ⟨rfl, hS.sp [] []⟩
set_option maxRecDepth 20000 in
set_option maxHeartbeats 8000000 in
theorem C_store_Store_Load_nil0 (N : Nat) {Ms : List Nat} {κ0 : Gh} {w0 : World} (a1 : (List T_api_Ver)) (p2 : Option Addr) (c3 : Nat) (hB : SB Ms κ0 w0 [] [Ro.mp f_api_Ver.ty p2 c3 a1]) {r : (Int)} (H : M.store_Store_Load_nil0 N a1 = some r) :
    Calls Try.prog 41 #[.pointer none, .slice p2 (a1).length c3] w0 (Post Ms κ0 w0 fun v κ w => v = vi r ∧ SS Ms κ0 w0 κ w [] []) := by
 have hS := hB.hS
 have hfr := hS.fresh
 refine enter (N := (22)) (L := [(0, .pointer none), (1, .slice p2 (a1).length c3)]) Try.func41 rfl Try.ntmps41 (show 2 ≤ (22) by decide) rfl fun a hF => ?_
 unfold M.store_Store_Load_nil0 at H
 refine wpIn_seq_k fun K4 hK4 => ?_
 refine wpIn_region_lit ?_
 refine wp 1 [0, 1] hF fun a hF => ?_
 refine wpListIn_nil ?_
 refine hK4 _ _ ?_
 refine wpIn_seq_k fun K5 hK5 => ?_
 refine wpIn_region_lit ?_
 refine wp 1 [0, 1, 5] hF fun a hF => ?_
 refine wpListIn_nil ?_
 refine hK5 _ _ ?_
 refine wpIn_seq_k fun K6 hK6 => ?_
 refine wpIn_seq_k fun K7 hK7 => ?_
 refine wpIn_region_lit ?_
 refine wp 3 [0, 5, 8, 9, 10] hF fun a hF => ?_
 refine wpListIn_nil ?_
 refine hK7 _ _ ?_
 refine wpIn_block ?_
 refine loop_fuel (n := N) (fun n a w => ∃ (κ : Gh) (y58 y59 : Int), Fr (22) [] [(0, .pointer none), (5, vi y58), (8, .slice p2 (a1).length c3), (9, vi ((a1).length : Int)), (10, vi y59)] a ∧ SS Ms κ0 w0 κ w [] [Ro.mp f_api_Ver.ty p2 c3 a1] ∧ M.store_Store_Load_nil0_L1 N n a1 y58 y59 = some r) ?_ ?_
 exact ⟨_, 0, 0, hF.kp [0, 5, 8, 9, 10], hS.sp [] [0], H⟩
 rintro n a w ⟨κ, y58, y59, hF, hS, H⟩
 rcases n with _ | fuel1
 simp [M.store_Store_Load_nil0_L1] at H
 simp only [M.store_Store_Load_nil0_L1] at H
 refine wpIn_seq_k fun K60 hK60 => ?_
 refine wpIn_region_lit ?_
 refine wl_pure (L' := [(0, .pointer none), (5, vi y58), (8, .slice p2 (a1).length c3), (9, vi ((a1).length : Int)), (10, vi y59), (11, vb (decide (y59 < ((a1).length : Int))))]) 1 [0, 5, 8, 9, 10, 11] hF (by kernel_rfl) fun a hF => ?_
 refine wpListIn_nil ?_
 refine hK60 _ _ ?_
 refine wpIn_seq_k fun K61 hK61 => ?_
 refine bif_split H (fun hb H => ?_) (fun hb H => ?_)
 refine cond_t hF (by kernel_rfl) hb ?_
 refine wpIn_skip ?_
 refine hK61 _ _ ?_
 refine seq_join (fun a w => ∃ (κ : Gh) (y62 : Int), Fr (22) [] [(0, .pointer none), (5, vi y62), (8, .slice p2 (a1).length c3), (9, vi ((a1).length : Int)), (10, vi y59)] a ∧ SS Ms κ0 w0 κ w [] [Ro.mp f_api_Ver.ty p2 c3 a1] ∧ M.store_Store_Load_nil0_k2 N (M.store_Store_Load_nil0_L1 N fuel1) a1 y59 y62 = some r) ?_ ?_
 refine wpIn_block ?_
 refine wpIn_seq_k fun K63 hK63 => ?_
 refine wpIn_region_lit ?_
 refine bind_split H (fun x64 hx64 H => ?_)
 refine wc (wo_index hF hS (by kernel_rfl) 0 (E := 37) (sz := 6) rfl rfl rfl (by kernel_rfl) rfl hx64 (by kernel_rfl) (by kernel_rfl) fun b65 f66 a hpx64 hF => ?_)
 refine wc (wo_loadRoAgg (t := f_api_Ver) hF hS (by kernel_rfl) 0 rfl rfl hpx64 rfl hx64 (by kernel_rfl) (by kernel_rfl) (by kernel_rfl) fun a hF => ?_)
 refine wc (wal hF hS [sg ByteArray.empty, sg ByteArray.empty, sb false, su 0, si 0, si 0] (sgN 6 sgNil) fun b67 a w hF hS => ?_)
 refine wc (wst hF hS 0 0 6 [sg x64.Key, sg x64.Val, sb x64.Gone, su x64.TS, si x64.DC, si x64.Tx] (sgN 6 sgNil) fun a w hF hS => ?_)
 refine wpListIn_nil ?_
 refine hK63 _ _ ?_
 refine wpIn_seq_k fun K68 hK68 => ?_
 refine wpIn_region_lit ?_
 refine wp 1 [0, 5, 7, 8, 9, 10, 14] hF fun a hF => ?_
 refine wc (wls hF hS 0 0 6 fun a hF => ?_)
 refine bind_split H (fun x69 hx69 H => ?_)
 refine wc (wcS 0 [0] hF hS (fun hS => C_store_Store_Put_nil0 N (T_api_Ver.mk x64.Key x64.Val x64.Gone x64.TS x64.DC x64.Tx)   ⟨rfl, hS.pick [] (by kernel_rfl)⟩ hx69) ?_)
 rintro _ κ w a ⟨rfl, h2⟩ hF hB
 have hS := hB _ _ h2
 refine wp 1 [0, 5, 8, 9, 10, 17] hF fun a hF => ?_
 refine wpListIn_nil ?_
 refine hK68 _ _ ?_
 refine bif_split H (fun hb H => ?_) (fun hb H => ?_)
 refine cond_t hF (by kernel_rfl) hb ?_
 refine wpIn_region_lit ?_
 refine wp 3 [0, 5, 8, 9, 10] hF fun a hF => ?_
 refine wpListIn_nil ?_
 exact ⟨_, IntKind.i64.wrap (y58 + 1), hF.kp [0, 5, 8, 9, 10], hS.sp [] [0], H⟩
 refine cond_f hF (by kernel_rfl) hb ?_
 refine wpIn_skip ?_
 exact ⟨_, y58, hF.kp [0, 5, 8, 9, 10], hS.sp [] [0], H⟩
 rintro a w ⟨κ, y62, hF, hS, H⟩
 unfold M.store_Store_Load_nil0_k2 at H
 refine wpIn_region_lit ?_
 refine wp 2 [0, 5, 8, 9, 10] hF fun a hF => ?_
 refine wpListIn_nil ?_
 exact ⟨fuel1, Nat.lt_succ_self _, _, y62, IntKind.i64.wrap (y59 + 1), hF.kp [0, 5, 8, 9, 10], hS.sp [] [0], H⟩
 refine cond_f hF (by kernel_rfl) hb ?_
 refine wpIn_exit ?_
 refine hK6 _ _ ?_
 refine wpIn_seq_k fun K70 hK70 => ?_
 refine wpIn_region_lit ?_
 refine wp 2 [4] hF fun a hF => ?_
 refine wpListIn_nil ?_
 refine hK70 _ _ ?_
 refine wpIn_ret ?_
 cases H
 exact ret_done hF hS (res1 Try.results41 (rvt hF)) ⟨rfl, hS.sp [] []⟩
set_option maxRecDepth 20000 in
set_option maxHeartbeats 8000000 in
theorem C_store_Store_All_nil0 (N : Nat) {Ms : List Nat} {κ0 : Gh} {w0 : World} (a1 : ByteArray) (a2 : ByteArray)  (hB : SB Ms κ0 w0 [] []) {r : (Unit)} (H : M.store_Store_All_nil0 N a1 a2 = some r) :
    Calls Try.prog 44 #[.pointer none, .string (a1), .string (a2)] w0 (Post Ms κ0 w0 fun v κ w => ∃ (b8 b9 b10 : Nat), v = .func (.func 79) #[] #[pt b8 0, pt b9 0, pt b10 0] ∧ SS Ms κ0 w0 κ w [.box b8 55 [(1, [.pointer none])], .box b9 9 [sg a1], .box b10 9 [sg a2]] []) := by
 have hS := hB.hS
 have hfr := hS.fresh
 refine enter (N := (8)) (L := [(0, .pointer none), (1, .string (a1)), (2, .string (a2))]) Try.func44 rfl Try.ntmps44 (show 3 ≤ (8) by decide) rfl fun a hF => ?_
 unfold M.store_Store_All_nil0 at H
 refine wpIn_seq_k fun K3 hK3 => ?_
 refine wpIn_region_lit ?_
 refine wc (wbx hF hS [(1, [.pointer none])] (sgN 1 sgNil) fun b4 a w hF hS => ?_)
 refine wc (wbx hF hS [sg a1] (sgN 1 sgNil) fun b5 a w hF hS => ?_)
 refine wc (wbx hF hS [sg a2] (sgN 1 sgNil) fun b6 a w hF hS => ?_)
 refine wl_pure (L' := [(3, pt b4 0), (4, pt b5 0), (5, pt b6 0)]) 1 [3, 4, 5] hF (by kernel_rfl) fun a hF => ?_
 refine wpListIn_nil ?_
 refine hK3 _ _ ?_
 refine wpIn_seq_k fun K7 hK7 => ?_
 refine wpIn_region_lit ?_
 refine wc (wo_val hF (by kernel_rfl) (v := .func (.func 79) #[] #[pt b4 0, pt b5 0, pt b6 0]) (val_makeFunc (T' := 0) (caps := #[pt b4 0, pt b5 0, pt b6 0]) rfl (by kernel_rfl) _) fun a hF => ?_)
 refine wp 1 [6] hF fun a hF => ?_
 refine wpListIn_nil ?_
 refine hK7 _ _ ?_
 refine wpIn_ret ?_
 cases H
 exact ret_done hF hS (res1 Try.results44 (rvt hF)) ⟨b4, b5, b6, rfl, hS.sp [2, 1, 0] []⟩
set_option maxRecDepth 20000 in
set_option maxHeartbeats 8000000 in
theorem C_store_Store_All_1_nil0 (N : Nat) {σ : Type} {B : σ → T_api_Ver → Option (σ × Bool)} {Y : σ → XF → Prop} {l : Nat}
    (hB : ∀ {s : σ} {x : XF} {κ : Gh} {w : World} (x900 : T_api_Ver)  {s' : σ} {c : Bool}, Y s x → x.p κ w → Fresh κ w → x.bs.Nodup → (∀ b ∈ x.bs, b < w.heap.size) → (∀ m ∈ ([] : List MP), m.p κ w) → B s x900 = some (s', c) → RoundOk Try.prog l Y #[.agg (flat [sg x900.Key, sg x900.Val, sb x900.Gone, su x900.TS, si x900.DC, si x900.Tx]).toArray] x s' c κ w)
    (a4 : ByteArray) (a6 : ByteArray)  {Ms : List Nat} {κ0 : Gh} {w0 : World} {p2 : XF} {y1 : σ} {b3 : Nat} {b5 : Nat} {b7 : Nat} (hS : SS Ms κ0 w0 κ0 w0 [.ext p2, .box b3 55 [(1, [.pointer none])], .box b5 9 [sg a4], .box b7 9 [sg a6]] [MP.const (Y y1 p2)]) {r : σ} (H : M.store_Store_All_1_nil0 N B a4 a6 y1 = some r) :
    Calls Try.prog 79 #[.func (.yield l) #[] #[], pt b3 0, pt b5 0, pt b7 0] w0 (Post Ms κ0 w0 fun _ κ w => ∃ x, Y r x ∧ SS Ms κ0 w0 κ w [.ext x, .box b3 55 [(1, [.pointer none])], .box b5 9 [sg a4], .box b7 9 [sg a6]] []) := by
 refine enter (N := (44)) (L := [(0, .func (.yield l) #[] #[]), (1, pt b3 0), (2, pt b5 0), (3, pt b7 0)]) Try.func79 rfl Try.ntmps79 (show 4 ≤ (44) by decide) rfl fun a hF => ?_
 unfold M.store_Store_All_1_nil0 at H
 refine wpIn_scope ?_
 refine wpIn_seq_k fun K8 hK8 => ?_
 refine wpIn_seq_k fun K9 hK9 => ?_
 refine wpIn_region_lit ?_
 refine wc (wld hF hS 1 0 0 fun a hF => ?_)
 refine wp 1 [0, 1, 2, 3, 10] hF fun a hF => ?_
 refine wpListIn_nil ?_
 refine hK9 _ _ ?_
 refine cond_t hF (by kernel_rfl) rfl ?_
 refine wpIn_ret ?_
 cases H
 exact ret_done hF hS (res0 Try.results79) ⟨_, hS.get 0 rfl, hS.sp (rg 4) []⟩
set_option maxRecDepth 20000 in
set_option maxHeartbeats 8000000 in
theorem C_store_Store_Drop_nil0 (N : Nat) {Ms : List Nat} {κ0 : Gh} {w0 : World} (a1 : ByteArray) (a2 : ByteArray)  (hB : SB Ms κ0 w0 [] []) {r : (Int)} (H : M.store_Store_Drop_nil0 N a1 a2 = some r) :
    Calls Try.prog 51 #[.pointer none, .string (a1), .string (a2)] w0 (Post Ms κ0 w0 fun v κ w => v = vi r ∧ SS Ms κ0 w0 κ w [] []) := by
 have hS := hB.hS
 have hfr := hS.fresh
 refine enter (N := (36)) (L := [(0, .pointer none), (1, .string (a1)), (2, .string (a2))]) Try.func51 rfl Try.ntmps51 (show 3 ≤ (36) by decide) rfl fun a hF => ?_
 unfold M.store_Store_Drop_nil0 at H
 refine wpIn_seq_k fun K3 hK3 => ?_
 refine wpIn_region_lit ?_
 refine wp 1 [0, 1, 2] hF fun a hF => ?_
 refine wpListIn_nil ?_
 refine hK3 _ _ ?_
 refine wpIn_seq_k fun K4 hK4 => ?_
 refine wpIn_region_lit ?_
 refine wp 1 [0, 1, 2, 7] hF fun a hF => ?_
 refine wpListIn_nil ?_
 refine hK4 _ _ ?_
 refine wpIn_seq_k fun K5 hK5 => ?_
 refine wpIn_seq_k fun K6 hK6 => ?_
 refine wpIn_region_lit ?_
 refine wp 2 [0, 1, 2, 7, 11] hF fun a hF => ?_
 refine wpListIn_nil ?_
 refine hK6 _ _ ?_
 refine cond_t hF (by kernel_rfl) rfl ?_
 refine wpIn_seq_k fun K7 hK7 => ?_
 refine wpIn_region_lit ?_
 refine wp 1 [6] hF fun a hF => ?_
 refine wpListIn_nil ?_
 refine hK7 _ _ ?_
 refine wpIn_ret ?_
 cases H
 exact ret_done hF hS (res1 Try.results51 (rvt hF)) ⟨rfl, hS.sp [] []⟩
set_option maxRecDepth 20000 in
set_option maxHeartbeats 8000000 in
theorem C_store_Store_Trim_nil0 (N : Nat) {Ms : List Nat} {κ0 : Gh} {w0 : World} (a1 : Int)  (hB : SB Ms κ0 w0 [] []) {r : (Int)} (H : M.store_Store_Trim_nil0 N a1 = some r) :
    Calls Try.prog 48 #[.pointer none, vu a1] w0 (Post Ms κ0 w0 fun v κ w => v = vi r ∧ SS Ms κ0 w0 κ w [] []) := by
 have hS := hB.hS
 have hfr := hS.fresh
 refine enter (N := (50)) (L := [(0, .pointer none), (1, vu a1)]) Try.func48 rfl Try.ntmps48 (show 2 ≤ (50) by decide) rfl fun a hF => ?_
 unfold M.store_Store_Trim_nil0 at H
 refine wpIn_seq_k fun K2 hK2 => ?_
 refine wpIn_region_lit ?_
 refine wp 1 [0, 1] hF fun a hF => ?_
 refine wpListIn_nil ?_
 refine hK2 _ _ ?_
 refine wpIn_seq_k fun K3 hK3 => ?_
 refine wpIn_seq_k fun K4 hK4 => ?_
 refine wpIn_region_lit ?_
 refine wp 2 [0, 1, 11] hF fun a hF => ?_
 refine wpListIn_nil ?_
 refine hK4 _ _ ?_
 refine cond_t hF (by kernel_rfl) rfl ?_
 refine wpIn_seq_k fun K5 hK5 => ?_
 refine wpIn_region_lit ?_
 refine wp 1 [4] hF fun a hF => ?_
 refine wpListIn_nil ?_
 refine hK5 _ _ ?_
 refine wpIn_ret ?_
 cases H
 exact ret_done hF hS (res1 Try.results48 (rvt hF)) ⟨rfl, hS.sp [] []⟩
set_option maxRecDepth 20000 in
set_option maxHeartbeats 8000000 in
theorem C_store_Store_Floor_nil0 (N : Nat) {Ms : List Nat} {κ0 : Gh} {w0 : World}   (hB : SB Ms κ0 w0 [] []) {r : (Int)} (H : M.store_Store_Floor_nil0 N  = some r) :
    Calls Try.prog 60 #[.pointer none] w0 (Post Ms κ0 w0 fun v κ w => v = vu r ∧ SS Ms κ0 w0 κ w [] []) := by
 have hS := hB.hS
 have hfr := hS.fresh
 refine enter (N := (9)) (L := [(0, .pointer none)]) Try.func60 rfl Try.ntmps60 (show 1 ≤ (9) by decide) rfl fun a hF => ?_
 unfold M.store_Store_Floor_nil0 at H
 refine wpIn_seq_k fun K1 hK1 => ?_
 refine wpIn_region_lit ?_
 refine wp 1 [0] hF fun a hF => ?_
 refine wpListIn_nil ?_
 refine hK1 _ _ ?_
 refine wpIn_seq_k fun K2 hK2 => ?_
 refine wpIn_seq_k fun K3 hK3 => ?_
 refine wpIn_region_lit ?_
 refine wp 2 [0, 4] hF fun a hF => ?_
 refine wpListIn_nil ?_
 refine hK3 _ _ ?_
 refine cond_t hF (by kernel_rfl) rfl ?_
 refine wpIn_seq_k fun K4 hK4 => ?_
 refine wpIn_region_lit ?_
 refine wp 1 [2] hF fun a hF => ?_
 refine wpListIn_nil ?_
 refine hK4 _ _ ?_
 refine wpIn_ret ?_
 cases H
 exact ret_done hF hS (res1 Try.results60 (rvt hF)) ⟨rfl, hS.sp [] []⟩
set_option maxRecDepth 20000 in
set_option maxHeartbeats 8000000 in
theorem C_store_Store_Len_nil0 (N : Nat) {Ms : List Nat} {κ0 : Gh} {w0 : World}   (hB : SB Ms κ0 w0 [] []) {r : (Int)} (H : M.store_Store_Len_nil0 N  = some r) :
    Calls Try.prog 46 #[.pointer none] w0 (Post Ms κ0 w0 fun v κ w => v = vi r ∧ SS Ms κ0 w0 κ w [] []) := by
 have hS := hB.hS
 have hfr := hS.fresh
 refine enterM (N := (10)) (L := [(0, .pointer none)]) Try.func46 rfl Try.ntmps46 (show 1 ≤ (10) by decide) rfl fun a hF => ?_
 unfold M.store_Store_Len_nil0 at H
 refine wpIn_seq_k fun K1 hK1 => ?_
 refine wpIn_region_lit ?_
 refine wp 1 [0] hF fun a hF => ?_
 refine wpListIn_nil ?_
 refine hK1 _ _ ?_
 refine wpIn_seq_k fun K2 hK2 => ?_
 refine wpIn_region_lit ?_
 refine wc (wal hF hS [si 0] (sgN 1 sgNil) fun b3 a w hF hS => ?_)
 refine wc (wst hF hS 0 0 1 [si 0] (sgN 1 sgNil) fun a w hF hS => ?_)
 refine wpListIn_nil ?_
 refine hK2 _ _ ?_
 refine wpIn_seq_k fun K4 hK4 => ?_
 refine wpIn_seq_k fun K5 hK5 => ?_
 refine wpIn_region_lit ?_
 refine wl_pure (L' := [(3, pt b3 0), (4, .pointer none)]) 1 [3, 4] hF (by kernel_rfl) fun a hF => ?_
 refine bind_split H (fun x6 hx6 H => ?_)
 refine wc (wcS 0 [0] hF hS (fun hS => C_store_Store_All_nil0 N (ByteArray.mk #[]) (ByteArray.mk #[])   ⟨rfl, hS.pick [] (by kernel_rfl)⟩ hx6) ?_)
 rintro _ κ w a ⟨b7, b8, b9, rfl, h2⟩ hF hB
 have hS := hB _ _ h2
 refine wpListIn_nil ?_
 refine hK5 _ _ ?_
 refine wpIn_block ?_
 refine bind_split H (fun v64 hv64 H => ?_)
 have hS : SS Ms κ0 w0 _ _ [.box b3 3 [si 0], .box b7 55 [(1, [.pointer none])], .box b8 9 [sg (ByteArray.mk #[])], .box b9 9 [sg (ByteArray.mk #[])]] _ := hS.selp [3, 0, 1, 2] (by decide) (by kernel_rfl)
 refine wp_rangeC' (C := [.box b3 3 [si 0]]) (Cap := [.box b7 55 [(1, [.pointer none])], .box b8 9 [sg (ByteArray.mk #[])], .box b9 9 [sg (ByteArray.mk #[])]]) (Cap2 := [.box b7 55 [(1, [.pointer none])], .box b8 9 [sg (ByteArray.mk #[])], .box b9 9 [sg (ByteArray.mk #[])]]) (Rc := []) (R' := []) (caps := #[pt b7 0, pt b8 0, pt b9 0]) (f := 79) [] (fun l => #[.func (.yield l) #[] #[], pt b7 0, pt b8 0, pt b9 0]) hF hS (by kernel_rfl) (fun _ _ => rfl) ((hS.pick [] (by kernel_rfl)).ro) (fun l => by kernel_rfl) fun b10 l rc w hrc hS => ?_
 refine ⟨fun x => (fun (v63 : (Int × Nat)) (x : XF) => x = mkX b10 l (lp rc [] v63.2) [.box b3 3 [si v63.1]] []) v64 x, ?_, ?_⟩
 have hS := (hS.rebase.add (m := MP.const ((fun (v63 : (Int × Nat)) (x : XF) => x = mkX b10 l (lp rc [] v63.2) [.box b3 3 [si v63.1]] []) (0, 0) (mkX b10 l (lp rc [] 0) [.box b3 3 [si 0]] []))) rfl).pick (R' := [MP.const ((fun (v63 : (Int × Nat)) (x : XF) => x = mkX b10 l (lp rc [] v63.2) [.box b3 3 [si v63.1]] []) (0, 0) (mkX b10 l (lp rc [] 0) [.box b3 3 [si 0]] []))]) [0] (by kernel_rfl)
 refine C_store_Store_All_1_nil0 N (Y := (fun (v63 : (Int × Nat)) (x : XF) => x = mkX b10 l (lp rc [] v63.2) [.box b3 3 [si v63.1]] [])) (B := (fun (v63 : (Int × Nat)) x11 => bif (v63.2 == 0) then (some (((IntKind.i64.wrap (v63.1 + 1), 0)), true)) else none)) (l := l) ?_ (ByteArray.mk #[]) (ByteArray.mk #[])  hS hv64
 rintro v63 _ κ w x11  s' c rfl hp hf hnd hlt hR H
 refine bif_split H (fun hn H => ?_) (fun _ H => by cases H)
 refine round_at (L := [(3, pt b3 0), (6, .agg (flat [sg x11.Key, sg x11.Val, sb x11.Gone, su x11.TS, si x11.DC, si x11.Tx]).toArray)]) hp hf hnd hlt hn hrc rfl [3, 6] hF (by kernel_rfl) (by kernel_rfl) fun a hF hS => ?_
 have hS := hS.adds hR
 skip
 refine wpIn_skip ?_
 refine ⟨_, _, _, hS, fun wb hS => ?_⟩
 obtain ⟨κb, hκb⟩ : ∃ κb, κb = κ := ⟨_, rfl⟩
 subst hκb
 refine wpIn_block ?_
 refine wpIn_region_lit ?_
 refine wc (wld hF hS 0 0 0 fun a hF => ?_)
 refine wl_pure (L' := [(3, pt b3 0), (8, vi (IntKind.i64.wrap (v63.1 + 1)))]) 1 [3, 8] hF (by kernel_rfl) fun a hF => ?_
 refine wc (wst hF hS 0 0 1 [si (IntKind.i64.wrap (v63.1 + 1))] (sgN 1 sgNil) fun a w hF hS => ?_)
 refine wpListIn_nil ?_
 cases H
 try dsimp only [Exit.inBlock, Exit.then]
 repeat rw [if_neg (by decide)]
 refine re_normal [] (C := [.box b3 3 [si (IntKind.i64.wrap (v63.1 + 1))]]) (R := []) (hS.sp [0] []) ?_
 exact rfl
 rintro _ rfl
 refine ⟨_, _, _, rfl, fun κ w a hF hS => ?_⟩
 refine bif_split H (fun hb H => ?_) (fun hb H => ?_)
 refine jumped0 hb ?_
 refine hK4 _ _ ?_
 refine wpIn_seq_k fun K65 hK65 => ?_
 refine wpIn_region_lit ?_
 refine wc (wld hF hS 1 0 0 fun a hF => ?_)
 refine wl_pure (L' := [(2, vi v64.1)]) 1 [2] hF (by kernel_rfl) fun a hF => ?_
 refine wpListIn_nil ?_
 refine hK65 _ _ ?_
 refine wpIn_ret ?_
 refine ret_doneM (C' := [.box b3 3 [si v64.1], .box b7 55 [(1, [.pointer none])], .box b8 9 [sg (ByteArray.mk #[])], .box b9 9 [sg (ByteArray.mk #[])]]) hF hS 0 rfl (by kernel_rfl) fun w hS => ?_
 cases H
 exact ⟨_, (res1 Try.results46 (rvt hF)), ⟨rfl, hS.sp [] []⟩⟩
 cases H
set_option maxRecDepth 20000 in
set_option maxHeartbeats 8000000 in
theorem C_law10_All_nil0 (N : Nat) {Ms : List Nat} {κ0 : Gh} {w0 : World} (a1 : ByteArray) (a2 : ByteArray)  (hB : SB Ms κ0 w0 [] []) {r : ((List T_api_Ver))} (H : M.law10_All_nil0 N a1 a2 = some r) :
    Calls Try.prog 43 #[.pointer none, .string (a1), .string (a2)] w0 (Post Ms κ0 w0 fun v κ w => ∃ (p75 : Option Addr) (c76 : Nat), v = .slice p75 (r).length c76 ∧ SS Ms κ0 w0 κ w [.tok p75 37 6 (r).length c76] [Ro.mp f_api_Ver.ty p75 c76 r]) := by
 have hS := hB.hS
 have hfr := hS.fresh
 refine enterM (N := (19)) (L := [(0, .pointer none), (1, .string (a1)), (2, .string (a2))]) Try.func43 rfl Try.ntmps43 (show 3 ≤ (19) by decide) rfl fun a hF => ?_
 unfold M.law10_All_nil0 at H
 refine wpIn_seq_k fun K3 hK3 => ?_
 refine wpIn_region_lit ?_
 refine wp 1 [0, 1, 2] hF fun a hF => ?_
 refine wpListIn_nil ?_
 refine hK3 _ _ ?_
 refine wpIn_seq_k fun K4 hK4 => ?_
 refine wpIn_region_lit ?_
 refine wc (wal hF hS [sl none 0 0] (sgN 1 sgNil) fun b5 a w hF hS => ?_)
 refine wpListIn_nil ?_
 refine hK4 _ _ ?_
 refine wpIn_seq_k fun K6 hK6 => ?_
 refine wpIn_seq_k fun K7 hK7 => ?_
 refine wpIn_region_lit ?_
 refine wl_pure (L' := [(7, pt b5 0), (9, .pointer none), (10, .string (a1)), (11, .string (a2))]) 3 [7, 9, 10, 11] hF (by kernel_rfl) fun a hF => ?_
 refine bind_split H (fun x8 hx8 H => ?_)
 refine wc (wcS 0 [0] hF hS (fun hS => C_store_Store_All_nil0 N a1 a2   ⟨rfl, hS.pick [] (by kernel_rfl)⟩ hx8) ?_)
 rintro _ κ w a ⟨b9, b10, b11, rfl, h2⟩ hF hB
 have hS := hB _ _ h2
 refine wpListIn_nil ?_
 refine hK7 _ _ ?_
 refine wpIn_block ?_
 refine bind_split H (fun v73 hv73 H => ?_)
 have hS := hS.add (m := Ro.mp f_api_Ver.ty none 0 ([] : List T_api_Ver)) (Ro.nil f_api_Ver.ty _ _)
 have hS := hS.addNil 37 6
 have hS : SS Ms κ0 w0 _ _ [.box b5 39 [sl none 0 0], .tok none 37 6 0 0, .box b9 55 [(1, [.pointer none])], .box b10 9 [sg a1], .box b11 9 [sg a2]] _ := hS.selp [4, 0, 1, 2, 3] (by decide) (by kernel_rfl)
 refine wp_rangeC' (C := [.box b5 39 [sl none 0 0], .tok none 37 6 0 0]) (Cap := [.box b9 55 [(1, [.pointer none])], .box b10 9 [sg a1], .box b11 9 [sg a2]]) (Cap2 := [.box b9 55 [(1, [.pointer none])], .box b10 9 [sg a1], .box b11 9 [sg a2]]) (Rc := []) (R' := [Ro.mp f_api_Ver.ty none 0 ([] : List T_api_Ver)]) (caps := #[pt b9 0, pt b10 0, pt b11 0]) (f := 79) [] (fun l => #[.func (.yield l) #[] #[], pt b9 0, pt b10 0, pt b11 0]) hF hS (by kernel_rfl) (fun _ _ => rfl) ((hS.pick [0] (by kernel_rfl)).ro) (fun l => by kernel_rfl) fun b12 l rc w hrc hS => ?_
 refine ⟨fun x => (fun (v67 : ((List T_api_Ver) × Nat)) (x : XF) => ∃ (p65 : Option Addr) (c66 : Nat), x = mkX b12 l (lp rc [] v67.2) [.box b5 39 [sl p65 (v67.1).length c66], .tok p65 37 6 (v67.1).length c66] [Ro.mp f_api_Ver.ty p65 c66 v67.1]) v73 x, ?_, ?_⟩
 have hS := (hS.rebase.add (m := MP.const ((fun (v67 : ((List T_api_Ver) × Nat)) (x : XF) => ∃ (p65 : Option Addr) (c66 : Nat), x = mkX b12 l (lp rc [] v67.2) [.box b5 39 [sl p65 (v67.1).length c66], .tok p65 37 6 (v67.1).length c66] [Ro.mp f_api_Ver.ty p65 c66 v67.1]) (([] : List T_api_Ver), 0) (mkX b12 l (lp rc [] 0) [.box b5 39 [sl none 0 0], .tok none 37 6 0 0] [Ro.mp f_api_Ver.ty none 0 ([] : List T_api_Ver)]))) ⟨none, 0, rfl⟩).pick (R' := [MP.const ((fun (v67 : ((List T_api_Ver) × Nat)) (x : XF) => ∃ (p65 : Option Addr) (c66 : Nat), x = mkX b12 l (lp rc [] v67.2) [.box b5 39 [sl p65 (v67.1).length c66], .tok p65 37 6 (v67.1).length c66] [Ro.mp f_api_Ver.ty p65 c66 v67.1]) (([] : List T_api_Ver), 0) (mkX b12 l (lp rc [] 0) [.box b5 39 [sl none 0 0], .tok none 37 6 0 0] [Ro.mp f_api_Ver.ty none 0 ([] : List T_api_Ver)]))]) [0] (by kernel_rfl)
 refine C_store_Store_All_1_nil0 N (Y := (fun (v67 : ((List T_api_Ver) × Nat)) (x : XF) => ∃ (p65 : Option Addr) (c66 : Nat), x = mkX b12 l (lp rc [] v67.2) [.box b5 39 [sl p65 (v67.1).length c66], .tok p65 37 6 (v67.1).length c66] [Ro.mp f_api_Ver.ty p65 c66 v67.1])) (B := (fun (v67 : ((List T_api_Ver) × Nat)) x13 => bif (v67.2 == 0) then (Option.bind (apd v67.1 [(T_api_Ver.mk x13.Key x13.Val x13.Gone x13.TS x13.DC x13.Tx)]) fun x70 => (some (((x70, 0)), true))) else none)) (l := l) ?_ a1 a2  hS hv73
 rintro v67 _ κ w x13  s' c ⟨p65, c66, rfl⟩ hp hf hnd hlt hR H
 refine bif_split H (fun hn H => ?_) (fun _ H => by cases H)
 refine round_at (L := [(7, pt b5 0), (13, .agg (flat [sg x13.Key, sg x13.Val, sb x13.Gone, su x13.TS, si x13.DC, si x13.Tx]).toArray)]) hp hf hnd hlt hn hrc rfl [7, 13] hF (by kernel_rfl) (by kernel_rfl) fun a hF hS => ?_
 have hS := hS.adds hR
 skip
 refine wpIn_region_lit ?_
 refine wc (wal hF hS [sg ByteArray.empty, sg ByteArray.empty, sb false, su 0, si 0, si 0] (sgN 6 sgNil) fun b68 a w hF hS => ?_)
 refine wc (wst hF hS 0 0 6 [sg x13.Key, sg x13.Val, sb x13.Gone, su x13.TS, si x13.DC, si x13.Tx] (sgN 6 sgNil) fun a w hF hS => ?_)
 refine wpListIn_nil ?_
 refine ⟨_, _, _, hS, fun wb hS => ?_⟩
 obtain ⟨κb, hκb⟩ : ∃ κb, κb = κ := ⟨_, rfl⟩
 subst hκb
 refine wpIn_block ?_
 refine wpIn_region_lit ?_
 refine wc (wld hF hS 1 0 0 fun a hF => ?_)
 refine wc (wls hF hS 0 0 6 fun a hF => ?_)
 refine wc (wo_buildN (t := f_api_Ver) (z := .agg (flat [sg ByteArray.empty, sg ByteArray.empty, sb false, su 0, si 0, si 0]).toArray) (l := [(T_api_Ver.mk x13.Key x13.Val x13.Gone x13.TS x13.DC x13.Tx)]) (vs := [(0, .agg (flat [sg x13.Key, sg x13.Val, sb x13.Gone, su x13.TS, si x13.DC, si x13.Tx]).toArray)]) (cells := #[.string (x13.Key), .string (x13.Val), vb x13.Gone, vu x13.TS, vi x13.DC, vi x13.Tx]) (E := 37) hF hS (by kernel_rfl) rfl (by kernel_rfl) (by kernel_rfl) rfl (by kernel_rfl) (by kernel_rfl) (by kernel_rfl) (by kernel_rfl) (by kernel_rfl) fun p69 κ a w hF hS => ?_)
 refine bind_split H (fun x70 hx70 H => ?_)
 refine wc (wo_append (ty := f_api_Ver.ty) hF hS (by kernel_rfl) 3 1 0 rfl rfl rfl (by kernel_rfl) (by kernel_rfl) rfl rfl rfl hx70 (by kernel_rfl) (i := Try.t37) (z := .agg (flat [sg ByteArray.empty, sg ByteArray.empty, sb false, su 0, si 0, si 0]).toArray) (by kernel_rfl) (by kernel_rfl) (by kernel_rfl) fun p71 c72 κ a w hF hS => ?_)
 refine wc (wst hF hS 2 0 1 [sl p71 (x70).length c72] (sgN 1 sgNil) fun a w hF hS => ?_)
 refine wpListIn_nil ?_
 cases H
 try dsimp only [Exit.inBlock, Exit.then]
 repeat rw [if_neg (by decide)]
 refine re_normal [] (C := [.box b5 39 [sl p71 (x70).length c72], .tok p71 37 6 (x70).length c72]) (R := [Ro.mp f_api_Ver.ty p71 c72 x70]) (hS.sp [2, 3] [0]) ?_
 exact ⟨p71, c72, rfl⟩
 rintro _ ⟨p65, c66, rfl⟩
 refine ⟨_, _, _, rfl, fun κ w a hF hS => ?_⟩
 refine bif_split H (fun hb H => ?_) (fun hb H => ?_)
 refine jumped0 hb ?_
 refine hK6 _ _ ?_
 refine wpIn_seq_k fun K74 hK74 => ?_
 refine wpIn_region_lit ?_
 refine wc (wld hF hS 1 0 0 fun a hF => ?_)
 refine wl_pure (L' := [(6, .slice p65 (v73.1).length c66)]) 1 [6] hF (by kernel_rfl) fun a hF => ?_
 refine wpListIn_nil ?_
 refine hK74 _ _ ?_
 refine wpIn_ret ?_
 refine ret_doneM (C' := [.box b5 39 [sl p65 (v73.1).length c66], .tok p65 37 6 (v73.1).length c66, .box b9 55 [(1, [.pointer none])], .box b10 9 [sg a1], .box b11 9 [sg a2]]) hF hS 0 rfl (by kernel_rfl) fun w hS => ?_
 cases H
 exact ⟨_, (res1 Try.results43 (rvt hF)), ⟨p65, c66, rfl, hS.sp [1] [0]⟩⟩
 cases H
set_option maxRecDepth 20000 in
set_option maxHeartbeats 8000000 in
theorem C_law10_StoreNone (N : Nat) {κ0 : Gh} {w0 : World} (hfr : Fresh κ0 w0) (a1 : T_api_Ver) (a2 : ByteArray) (a3 : Int)  (hR : ∀ m ∈ ([] : List MP), m.p κ0 w0) {r : (Bool)} (H : M.law10_StoreNone N a1 a2 a3 = some r) :
    Calls Try.prog 13 #[.agg (flat [sg a1.Key, sg a1.Val, sb a1.Gone, su a1.TS, si a1.DC, si a1.Tx]).toArray, .string (a2), vu a3] w0 (Post [] κ0 w0 fun v κ w => v = vb r ∧ (∀ m ∈ ([] : List MP), m.p κ w) ∧ NewC w0 κ w []) := by
 have hS := SS.start hfr hR
 refine enter (N := (73)) (L := [(0, .agg (flat [sg a1.Key, sg a1.Val, sb a1.Gone, su a1.TS, si a1.DC, si a1.Tx]).toArray), (1, .string (a2)), (2, vu a3)]) Try.func13 rfl Try.ntmps13 (show 3 ≤ (73) by decide) rfl fun a hF => ?_
 unfold M.law10_StoreNone at H
 refine wpIn_seq_k fun K4 hK4 => ?_
 refine wpIn_region_lit ?_
 refine wc (wbx hF hS [sg a1.Key, sg a1.Val, sb a1.Gone, su a1.TS, si a1.DC, si a1.Tx] (sgN 6 sgNil) fun b5 a w hF hS => ?_)
 refine wp 1 [1, 2, 3] hF fun a hF => ?_
 refine wpListIn_nil ?_
 refine hK4 _ _ ?_
 refine wpIn_seq_k fun K6 hK6 => ?_
 refine wpIn_region_lit ?_
 refine wp 1 [1, 2, 3, 7] hF fun a hF => ?_
 refine wpListIn_nil ?_
 refine hK6 _ _ ?_
 refine wpIn_seq_k fun K7 hK7 => ?_
 refine wpIn_region_lit ?_
 refine wp 3 [2, 3, 7, 12, 13, 14] hF fun a hF => ?_
 refine bind_split H (fun x8 hx8 H => ?_)
 refine wc (wcS 0 [0] hF hS (fun hS => C_store_Store_Get_nil0 N a2 a3   ⟨rfl, hS.pick [] (by kernel_rfl)⟩ hx8) ?_)
 rintro _ κ w a ⟨rfl, h2⟩ hF hB
 have hS := hB _ _ h2
 refine wp 4 [2, 3, 7, 16, 17, 18] hF fun a hF => ?_
 refine wc (wal hF hS [sg ByteArray.empty, sg ByteArray.empty, sb false, su 0, si 0, si 0] (sgN 6 sgNil) fun b9 a w hF hS => ?_)
 refine wc (wst hF hS 0 0 6 [sg x8.1.Key, sg x8.1.Val, sb x8.1.Gone, su x8.1.TS, si x8.1.DC, si x8.1.Tx] (sgN 6 sgNil) fun a w hF hS => ?_)
 refine wp 2 [2, 3, 7, 8, 9, 10] hF fun a hF => ?_
 refine wpListIn_nil ?_
 refine hK7 _ _ ?_
 refine wpIn_seq_k fun K10 hK10 => ?_
 refine wpIn_region_lit ?_
 refine bind_split H (fun v12 hv12 H => ?_)
 refine wl_join (fun a w => ∃ κ : Gh, Fr (73) [] [(6, vb v12)] a ∧ SS [] κ0 w0 κ w [] [] ∧ True) ?_ ?_
 refine bind_split hv12 (fun x13 hx13 hv12 => ?_)
 refine wc (wo_callP hF hS (by kernel_rfl) (by kernel_rfl) (C_law10_awake N hS.fresh   ((hS.pick [] (by kernel_rfl)).ro) hx13) ?_)
 rintro _ κ w a ⟨rfl, hR, hN⟩ hF hS hO
 refine wp 1 [2, 3, 7, 8, 9, 10, 20] hF fun a hF => ?_
 refine bif_split hv12 (fun hb hv12 => ?_) (fun hb hv12 => ?_)
 have hF := hF.boolv 20 (by kernel_rfl) hb
 refine wp 1 [2, 3, 7, 8, 9, 10, 20, 21] hF fun a hF => ?_
 refine wcg hF (wls hF hS 1 0 6 fun a hF => ?_)
 refine bind_split hv12 (fun x14 hx14 hv12 => ?_)
 refine wcg hF (wcS 0 [0, 1] hF hS (fun hS => C_store_Store_Put_nil0 N (T_api_Ver.mk a1.Key a1.Val a1.Gone a1.TS a1.DC a1.Tx)   ⟨rfl, hS.pick [] (by kernel_rfl)⟩ hx14) ?_)
 rintro _ κ w a ⟨rfl, h2⟩ hF hB
 have hS := (hB _ _ h2).cC (C' := [.box b9 37 [sg x8.1.Key, sg x8.1.Val, sb x8.1.Gone, su x8.1.TS, si x8.1.DC, si x8.1.Tx], .box b5 37 [sg a1.Key, sg a1.Val, sb a1.Gone, su a1.TS, si a1.DC, si a1.Tx]])
 refine wp 3 [2, 3, 7, 8, 9, 10, 26] hF fun a hF => ?_
 refine bif_split hv12 (fun hb hv12 => ?_) (fun hb hv12 => ?_)
 have hF := hF.boolv 26 (by kernel_rfl) hb
 refine wl_pure (L' := [(2, vu a3), (3, pt b5 0), (7, .pointer none), (8, pt b9 0), (9, vb x8.2.1), (10, vi x8.2.2), (26, vb true), (27, .pointer none)]) 1 [2, 3, 7, 8, 9, 10, 26, 27] hF (by kernel_rfl) fun a hF => ?_
 refine wcg hF (wls hF hS 1 0 6 fun a hF => ?_)
 refine wcg hF (wo_buildN (t := f_api_Ver) (z := .agg (flat [sg ByteArray.empty, sg ByteArray.empty, sb false, su 0, si 0, si 0]).toArray) (l := [(T_api_Ver.mk a1.Key a1.Val a1.Gone a1.TS a1.DC a1.Tx)]) (vs := [(0, .agg (flat [sg a1.Key, sg a1.Val, sb a1.Gone, su a1.TS, si a1.DC, si a1.Tx]).toArray)]) (cells := #[.string (a1.Key), .string (a1.Val), vb a1.Gone, vu a1.TS, vi a1.DC, vi a1.Tx]) (E := 37) hF hS (by kernel_rfl) rfl (by kernel_rfl) (by kernel_rfl) rfl (by kernel_rfl) (by kernel_rfl) (by kernel_rfl) (by kernel_rfl) (by kernel_rfl) fun p15 κ a w hF hS => ?_)
 refine bind_split hv12 (fun x16 hx16 hv12 => ?_)
 refine wcg hF (wcS 0 [0, 1, 2] hF hS (fun hS => C_store_Store_Load_nil0 N [(T_api_Ver.mk a1.Key a1.Val a1.Gone a1.TS a1.DC a1.Tx)] p15 1  ⟨rfl, hS.pick [0] (by kernel_rfl)⟩ hx16) ?_)
 rintro _ κ w a ⟨rfl, h2⟩ hF hB
 have hS := hB _ _ h2
 refine wp 3 [2, 7, 8, 9, 10, 33] hF fun a hF => ?_
 refine bif_split hv12 (fun hb hv12 => ?_) (fun hb hv12 => ?_)
 have hF := hF.boolv 33 (by kernel_rfl) hb
 refine wcg hF (wls hF hS 1 0 6 fun a hF => ?_)
 refine wl_pure (L' := [(2, vu a3), (7, .pointer none), (9, vb x8.2.1), (10, vi x8.2.2), (33, vb true), (34, .agg (flat [sg x8.1.Key, sg x8.1.Val, sb x8.1.Gone, su x8.1.TS, si x8.1.DC, si x8.1.Tx]).toArray), (35, .agg (flat [sg ByteArray.empty, sg ByteArray.empty, sb false, su 0, si 0, si 0]).toArray)]) 1 [2, 7, 9, 10, 33, 34, 35] hF (by kernel_rfl) fun a hF => ?_
 refine wcg hF (wo_val hF (by kernel_rfl) (v := vb (cEq (flat [sg x8.1.Key, sg x8.1.Val, sb x8.1.Gone, su x8.1.TS, si x8.1.DC, si x8.1.Tx]) (flat [sg ByteArray.empty, sg ByteArray.empty, sb false, su 0, si 0, si 0]))) ((val_eq (neg := false) (xs := (flat [sg x8.1.Key, sg x8.1.Val, sb x8.1.Gone, su x8.1.TS, si x8.1.DC, si x8.1.Tx])) (ys := (flat [sg ByteArray.empty, sg ByteArray.empty, sb false, su 0, si 0, si 0])) (ks := [.str, .str, .bool, .int .u64, .int .i64, .int .i64]) 20 (by decide) rfl (by kernel_rfl) (by kernel_rfl) (by kernel_rfl) (by kernel_rfl) (by kernel_rfl) (by kernel_rfl) (by kernel_rfl)) _) fun a hF => ?_)
 refine wp 2 [2, 7, 9, 10, 38] hF fun a hF => ?_
 refine bif_split hv12 (fun hb hv12 => ?_) (fun hb hv12 => ?_)
 have hF := hF.boolv 38 (by kernel_rfl) hb
 refine wp 4 [2, 7, 10, 42] hF fun a hF => ?_
 refine bif_split hv12 (fun hb hv12 => ?_) (fun hb hv12 => ?_)
 have hF := hF.boolv 42 (by kernel_rfl) hb
 refine wp 4 [2, 7, 46] hF fun a hF => ?_
 refine bif_split hv12 (fun hb hv12 => ?_) (fun hb hv12 => ?_)
 have hF := hF.boolv 46 (by kernel_rfl) hb
 refine wp 1 [2, 7, 46, 47] hF fun a hF => ?_
 refine bind_split hv12 (fun x17 hx17 hv12 => ?_)
 refine wcg hF (wcS 0 [0, 1, 2] hF hS (fun hS => C_law10_All_nil0 N (ByteArray.mk #[]) (ByteArray.mk #[])   ⟨rfl, hS.pick [] (by kernel_rfl)⟩ hx17) ?_)
 rintro _ κ w a ⟨p18, c19, rfl, h2⟩ hF hB
 have hS := (hB _ _ h2).cC (C' := [.tok p18 37 6 (x17).length c19, .tok p15 37 6 ([(T_api_Ver.mk a1.Key a1.Val a1.Gone a1.TS a1.DC a1.Tx)]).length 1, .box b9 37 [sg x8.1.Key, sg x8.1.Val, sb x8.1.Gone, su x8.1.TS, si x8.1.DC, si x8.1.Tx], .box b5 37 [sg a1.Key, sg a1.Val, sb a1.Gone, su a1.TS, si a1.DC, si a1.Tx]])
 refine wp 4 [2, 7, 52] hF fun a hF => ?_
 refine bif_split hv12 (fun hb hv12 => ?_) (fun hb hv12 => ?_)
 have hF := hF.boolv 52 (by kernel_rfl) hb
 refine wp 1 [2, 7, 52, 53] hF fun a hF => ?_
 refine bind_split hv12 (fun x20 hx20 hv12 => ?_)
 refine wcg hF (wcS 0 (rg 4) hF hS (fun hS => C_store_Store_Drop_nil0 N (ByteArray.mk #[]) (ByteArray.mk #[])   ⟨rfl, hS.pick [] (by kernel_rfl)⟩ hx20) ?_)
 rintro _ κ w a ⟨rfl, h2⟩ hF hB
 have hS := hB _ _ h2
 refine wp 3 [2, 7, 57] hF fun a hF => ?_
 refine bif_split hv12 (fun hb hv12 => ?_) (fun hb hv12 => ?_)
 have hF := hF.boolv 57 (by kernel_rfl) hb
 refine wp 2 [7, 57, 58, 59] hF fun a hF => ?_
 refine bind_split hv12 (fun x21 hx21 hv12 => ?_)
 refine wcg hF (wcS 0 (rg 4) hF hS (fun hS => C_store_Store_Trim_nil0 N a3   ⟨rfl, hS.pick [] (by kernel_rfl)⟩ hx21) ?_)
 rintro _ κ w a ⟨rfl, h2⟩ hF hB
 have hS := (hB _ _ h2).cC (C' := [.tok p18 37 6 (x17).length c19, .tok p15 37 6 ([(T_api_Ver.mk a1.Key a1.Val a1.Gone a1.TS a1.DC a1.Tx)]).length 1, .box b9 37 [sg x8.1.Key, sg x8.1.Val, sb x8.1.Gone, su x8.1.TS, si x8.1.DC, si x8.1.Tx], .box b5 37 [sg a1.Key, sg a1.Val, sb a1.Gone, su a1.TS, si a1.DC, si a1.Tx]])
 refine wp 3 [7, 63] hF fun a hF => ?_
 refine bif_split hv12 (fun hb hv12 => ?_) (fun hb hv12 => ?_)
 have hF := hF.boolv 63 (by kernel_rfl) hb
 refine wp 1 [7, 63, 64] hF fun a hF => ?_
 refine bind_split hv12 (fun x22 hx22 hv12 => ?_)
 refine wcg hF (wcS 0 (rg 4) hF hS (fun hS => C_store_Store_Floor_nil0 N    ⟨rfl, hS.pick [] (by kernel_rfl)⟩ hx22) ?_)
 rintro _ κ w a ⟨rfl, h2⟩ hF hB
 have hS := hB _ _ h2
 refine wp 3 [7, 68] hF fun a hF => ?_
 refine bif_split hv12 (fun hb hv12 => ?_) (fun hb hv12 => ?_)
 have hF := hF.boolv 68 (by kernel_rfl) hb
 refine wp 1 [68, 69] hF fun a hF => ?_
 refine bind_split hv12 (fun x23 hx23 hv12 => ?_)
 refine wcg hF (wcS 0 (rg 4) hF hS (fun hS => C_store_Store_Len_nil0 N    ⟨rfl, hS.pick [] (by kernel_rfl)⟩ hx23) ?_)
 rintro _ κ w a ⟨rfl, h2⟩ hF hB
 have hS := (hB _ _ h2).cC (C' := [.tok p18 37 6 (x17).length c19, .tok p15 37 6 ([(T_api_Ver.mk a1.Key a1.Val a1.Gone a1.TS a1.DC a1.Tx)]).length 1, .box b9 37 [sg x8.1.Key, sg x8.1.Val, sb x8.1.Gone, su x8.1.TS, si x8.1.DC, si x8.1.Tx], .box b5 37 [sg a1.Key, sg a1.Val, sb a1.Gone, su a1.TS, si a1.DC, si a1.Tx]])
 refine wp 3 [6] hF fun a hF => ?_
 refine wpListIn_nil ?_
 cases hv12
 exact ⟨_, hF.kp [6], hS.sp [] [], trivial⟩
 have hF := hF.boolv 68 (by kernel_rfl) hb
 refine wp 5 [6] hF fun a hF => ?_
 refine wpListIn_nil ?_
 cases hv12
 exact ⟨_, hF.kp [6], hS.sp [] [], trivial⟩
 have hF := hF.boolv 63 (by kernel_rfl) hb
 refine wp 10 [6] hF fun a hF => ?_
 refine wpListIn_nil ?_
 cases hv12
 exact ⟨_, hF.kp [6], hS.sp [] [], trivial⟩
 have hF := hF.boolv 57 (by kernel_rfl) hb
 refine wp 16 [6] hF fun a hF => ?_
 refine wpListIn_nil ?_
 cases hv12
 exact ⟨_, hF.kp [6], hS.sp [] [], trivial⟩
 have hF := hF.boolv 52 (by kernel_rfl) hb
 refine wp 21 [6] hF fun a hF => ?_
 refine wpListIn_nil ?_
 cases hv12
 exact ⟨_, hF.kp [6], hS.sp [] [], trivial⟩
 have hF := hF.boolv 46 (by kernel_rfl) hb
 refine wp 27 [6] hF fun a hF => ?_
 refine wpListIn_nil ?_
 cases hv12
 exact ⟨_, hF.kp [6], hS.sp [] [], trivial⟩
 have hF := hF.boolv 42 (by kernel_rfl) hb
 refine wp 31 [6] hF fun a hF => ?_
 refine wpListIn_nil ?_
 cases hv12
 exact ⟨_, hF.kp [6], hS.sp [] [], trivial⟩
 have hF := hF.boolv 38 (by kernel_rfl) hb
 refine wp 35 [6] hF fun a hF => ?_
 refine wpListIn_nil ?_
 cases hv12
 exact ⟨_, hF.kp [6], hS.sp [] [], trivial⟩
 have hF := hF.boolv 33 (by kernel_rfl) hb
 refine wp 40 [6] hF fun a hF => ?_
 refine wpListIn_nil ?_
 cases hv12
 exact ⟨_, hF.kp [6], hS.sp [] [], trivial⟩
 have hF := hF.boolv 26 (by kernel_rfl) hb
 refine wp 47 [6] hF fun a hF => ?_
 refine wpListIn_nil ?_
 cases hv12
 exact ⟨_, hF.kp [6], hS.sp [] [], trivial⟩
 have hF := hF.boolv 20 (by kernel_rfl) hb
 refine wp 53 [6] hF fun a hF => ?_
 refine wpListIn_nil ?_
 cases hv12
 exact ⟨_, hF.kp [6], hS.sp [] [], trivial⟩
 rintro a w ⟨κ, hF, hS, -⟩
 refine hK10 _ _ ?_
 refine wpIn_ret ?_
 cases H
 exact (ret_done hF hS (res1 Try.results13 (rvt hF)) ⟨rfl, (hS.pick [] (by kernel_rfl)).ro, hS.newC [] (by decide) (by kernel_rfl)⟩)
end Go.Cf
