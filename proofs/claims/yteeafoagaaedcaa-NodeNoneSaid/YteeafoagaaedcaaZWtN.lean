/- The walks: each function returns what its model says. Printed by a program of ours. -/
import Derived.Test.YteeafoagaaedcaaZMtN
import Derived.Test.YteeafoagaaedcaaZWt1
import Derived.Test.YteeafoagaaedcaaZWt2
import Derived.Test.YteeafoagaaedcaaZMt1
import Derived.Test.YteeafoagaaedcaaZMt2
namespace Go.Cf
open Go Go.Proofs
set_option linter.unusedVariables false
set_option maxRecDepth 20000 in
set_option maxHeartbeats 8000000 in
theorem C_store_Store_All_nil0 (N : Nat) {Ms : List Nat} {κ0 : Gh} {w0 : World} (a1 : ByteArray) (a2 : ByteArray)  (hB : SB Ms κ0 w0 [] []) {r : (Unit)} (H : M.store_Store_All_nil0 N a1 a2 = some r) :
    Calls Try.prog 44 #[.pointer none, .string (a1), .string (a2)] w0 (Post Ms κ0 w0 fun v κ w => ∃ (b8 b9 b10 : Nat), v = .func (.func 79) #[] #[pt b8 0, pt b9 0, pt b10 0] ∧ SS Ms κ0 w0 κ w [.box b8 55 [(1, [.pointer none])], .box b9 9 [sg a1], .box b10 9 [sg a2]] []) := by
 have hS := hB.hS
 have hfr := hS.fresh
 refine enter (N := (8)) (L := [(0, .pointer none), (1, .string (a1)), (2, .string (a2))]) Try.func44 rfl Try.ntmps44 (show 3 ≤ (8) by decide) rfl fun a hF => ?_
 unfold M.store_Store_All_nil0 at H
 refine wpIn_seq_k fun K3 hK3 => ?_
 refine wpIn_region_lit ?_
 refine wc (wbx hF hS [(1, [.pointer none])] (sgN 1 sgNil) fun b4 a w hF hS => ?_)
 refine wc (wbx hF hS [sg a1] (sgN 1 sgNil) fun b5 a w hF hS => ?_)
 refine wc (wbx hF hS [sg a2] (sgN 1 sgNil) fun b6 a w hF hS => ?_)
 refine wl_pure (L' := [(3, pt b4 0), (4, pt b5 0), (5, pt b6 0)]) 1 [3, 4, 5] hF (by kernel_rfl) fun a hF => ?_
 refine wpListIn_nil ?_
 refine hK3 _ _ ?_
 refine wpIn_seq_k fun K7 hK7 => ?_
 refine wpIn_region_lit ?_
 refine wc (wo_val hF (by kernel_rfl) (v := .func (.func 79) #[] #[pt b4 0, pt b5 0, pt b6 0]) (val_makeFunc (T' := 0) (caps := #[pt b4 0, pt b5 0, pt b6 0]) rfl (by kernel_rfl) _) fun a hF => ?_)
 refine wp 1 [6] hF fun a hF => ?_
 refine wpListIn_nil ?_
 refine hK7 _ _ ?_
 refine wpIn_ret ?_
 cases H
 exact ret_done hF hS (res1 Try.results44 (rvt hF)) ⟨b4, b5, b6, rfl, hS.sp [2, 1, 0] []⟩
set_option maxRecDepth 20000 in
set_option maxHeartbeats 8000000 in
theorem C_store_Store_All_1_nil0 (N : Nat) {σ : Type} {B : σ → T_api_Ver → Option (σ × Bool)} {Y : σ → XF → Prop} {l : Nat}
    (hB : ∀ {s : σ} {x : XF} {κ : Gh} {w : World} (x900 : T_api_Ver)  {s' : σ} {c : Bool}, Y s x → x.p κ w → Fresh κ w → x.bs.Nodup → (∀ b ∈ x.bs, b < w.heap.size) → (∀ m ∈ ([] : List MP), m.p κ w) → B s x900 = some (s', c) → RoundOk Try.prog l Y #[.agg (flat [sg x900.Key, sg x900.Val, sb x900.Gone, su x900.TS, si x900.DC, si x900.Tx]).toArray] x s' c κ w)
    (a4 : ByteArray) (a6 : ByteArray)  {Ms : List Nat} {κ0 : Gh} {w0 : World} {p2 : XF} {y1 : σ} {b3 : Nat} {b5 : Nat} {b7 : Nat} (hS : SS Ms κ0 w0 κ0 w0 [.ext p2, .box b3 55 [(1, [.pointer none])], .box b5 9 [sg a4], .box b7 9 [sg a6]] [MP.const (Y y1 p2)]) {r : σ} (H : M.store_Store_All_1_nil0 N B a4 a6 y1 = some r) :
    Calls Try.prog 79 #[.func (.yield l) #[] #[], pt b3 0, pt b5 0, pt b7 0] w0 (Post Ms κ0 w0 fun _ κ w => ∃ x, Y r x ∧ SS Ms κ0 w0 κ w [.ext x, .box b3 55 [(1, [.pointer none])], .box b5 9 [sg a4], .box b7 9 [sg a6]] []) := by
 refine enter (N := (44)) (L := [(0, .func (.yield l) #[] #[]), (1, pt b3 0), (2, pt b5 0), (3, pt b7 0)]) Try.func79 rfl Try.ntmps79 (show 4 ≤ (44) by decide) rfl fun a hF => ?_
 unfold M.store_Store_All_1_nil0 at H
 refine wpIn_scope ?_
 refine wpIn_seq_k fun K8 hK8 => ?_
 refine wpIn_seq_k fun K9 hK9 => ?_
 refine wpIn_region_lit ?_
 refine wc (wld hF hS 1 0 0 fun a hF => ?_)
 refine wp 1 [0, 1, 2, 3, 10] hF fun a hF => ?_
 refine wpListIn_nil ?_
 refine hK9 _ _ ?_
 refine cond_t hF (by kernel_rfl) rfl ?_
 refine wpIn_ret ?_
 cases H
 exact ret_done hF hS (res0 Try.results79) ⟨_, hS.get 0 rfl, hS.sp (rg 4) []⟩
end Go.Cf
