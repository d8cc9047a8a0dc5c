/- ClusterSetups: the law's run, of any setup. -/
import Derived.Test.YtkkbmgapcidmnaaGreatZCb0
import Derived.Test.YtkkbmgapcidmnaaGreatZCb1
import Derived.Test.YtkkbmgapcidmnaaGreatZCb2
import Derived.Test.YtkkbmgapcidmnaaGreatZCb3
import Derived.Test.YtkkbmgapcidmnaaGreatZCb4
import Derived.Test.YtkkbmgapcidmnaaGreatZCb5
import Derived.Test.YtkkbmgapcidmnaaGreatZCb6
import Derived.Test.YtkkbmgapcidmnaaGreatZCb7
import Derived.Test.YtkkbmgapcidmnaaGreatZCb8
import Derived.Test.YtkkbmgapcidmnaaGreatZCb9
import Derived.Test.YtkkbmgapcidmnaaGreatZCb10
import Derived.Test.YtkkbmgapcidmnaaGreatZCb11
import Derived.Test.YtkkbmgapcidmnaaGreatZCb12
import Derived.Test.YtkkbmgapcidmnaaGreatZCb13
import Derived.Test.YtkkbmgapcidmnaaGreatZCbi
import Derived.Test.YtkkbmgapcidmnaaGreatZRd
set_option linter.unusedVariables false
open Go Go.Cf
namespace Go.Ce
noncomputable section
open Go.Proofs.Tryz
theorem fin3 (x0 : T_cluster_Setup) (w : World) (l : List Ad) (A0 : Ad) (hl : l[0]? = some A0) (h0 : dec A0 = .bool x0.Plain) (a b c : Value) (ha : VR (tokTh l) a (.int .i64 x0.Pool)) (hb : VR (tokTh l) b (.int .i64 x0.Members)) (hc : VR (tokTh l) c (.int .i64 x0.Nodes))
    (h : isTrue ((eng prog [] cutW 2000 60).call 3 [.agg #[a, b, c, tkn 0]] St0) = true) : Calls prog 3 #[.agg #[.int .i64 x0.Pool, .int .i64 x0.Members, .int .i64 x0.Nodes, .bool x0.Plain]] w fun e w' => e = .returned (.bool true) ∧ w.keptBut w' (fun _ => False) ∧ ∀ b, b < w.heap.size → w'.heap[b]? = w.heap[b]? := by
  obtain ⟨S1, h⟩ := isTrue_eq h
  have hv := VRl.arr (cs := #[a, b, c, tkn 0]) (cs' := #[.int .i64 x0.Pool, .int .i64 x0.Members, .int .i64 x0.Nodes, .bool x0.Plain]) (.cons ha (.cons hb (.cons hc (.cons (tokV hl h0) (.nil _)))))
  exact call_kept (eng_call mixd (fun x hx => by cases hx) cutW_ok h) l (.cons (.agg hv.1 hv.2) (.nil _)) rfl w
theorem intB2 (x : Int) : (∃ k, x = .negSucc k) ∨ x = .ofNat 0 ∨ x = .ofNat 1 ∨ ∃ k, x = .ofNat (k + 2) := by
  cases x with
  | negSucc k => exact .inl ⟨k, rfl⟩
  | ofNat n =>
    by_cases h : n < 2
    · have : n = 0 ∨ n = 1 := by omega
      rcases this with rfl | rfl <;> simp
    · exact .inr (.inr (.inr (⟨n - 2, by rw [Nat.sub_add_cancel (by omega)]⟩)))
theorem intB3 (x : Int) : (∃ k, x = .negSucc k) ∨ x = .ofNat 0 ∨ x = .ofNat 1 ∨ x = .ofNat 2 ∨ ∃ k, x = .ofNat (k + 3) := by
  cases x with
  | negSucc k => exact .inl ⟨k, rfl⟩
  | ofNat n =>
    by_cases h : n < 3
    · have : n = 0 ∨ n = 1 ∨ n = 2 := by omega
      rcases this with rfl | rfl | rfl <;> simp
    · exact .inr (.inr (.inr (.inr (⟨n - 3, by rw [Nat.sub_add_cancel (by omega)]⟩))))
theorem intB4 (x : Int) : (∃ k, x = .negSucc k) ∨ x = .ofNat 0 ∨ x = .ofNat 1 ∨ x = .ofNat 2 ∨ x = .ofNat 3 ∨ ∃ k, x = .ofNat (k + 4) := by
  cases x with
  | negSucc k => exact .inl ⟨k, rfl⟩
  | ofNat n =>
    by_cases h : n < 4
    · have : n = 0 ∨ n = 1 ∨ n = 2 ∨ n = 3 := by omega
      rcases this with rfl | rfl | rfl | rfl <;> simp
    · exact .inr (.inr (.inr (.inr (.inr (⟨n - 4, by rw [Nat.sub_add_cancel (by omega)]⟩)))))
theorem intB5 (x : Int) : (∃ k, x = .negSucc k) ∨ x = .ofNat 0 ∨ x = .ofNat 1 ∨ x = .ofNat 2 ∨ x = .ofNat 3 ∨ x = .ofNat 4 ∨ ∃ k, x = .ofNat (k + 5) := by
  cases x with
  | negSucc k => exact .inl ⟨k, rfl⟩
  | ofNat n =>
    by_cases h : n < 5
    · have : n = 0 ∨ n = 1 ∨ n = 2 ∨ n = 3 ∨ n = 4 := by omega
      rcases this with rfl | rfl | rfl | rfl | rfl <;> simp
    · exact .inr (.inr (.inr (.inr (.inr (.inr (⟨n - 5, by rw [Nat.sub_add_cancel (by omega)]⟩))))))
theorem setupsWalk (x0 : T_cluster_Setup) (w : World) : Calls prog 3 #[.agg #[.int .i64 x0.Pool, .int .i64 x0.Members, .int .i64 x0.Nodes, .bool x0.Plain]] w fun e w' => e = .returned (.bool true) ∧ w.keptBut w' (fun _ => False) ∧ ∀ b, b < w.heap.size → w'.heap[b]? = w.heap[b]? := by
  obtain ⟨A0, h0⟩ := dec_bool x0.Plain
  obtain ⟨A1, h1⟩ := dec_int x0.Members
  obtain ⟨A2, h2⟩ := dec_int x0.Nodes
  have F := fin3 x0 w [A0, A1, A2] A0 rfl h0
  have t1 : VR (tokTh [A0, A1, A2]) (tkn 1) (.int .i64 x0.Members) := tokV rfl h1
  have t2 : VR (tokTh [A0, A1, A2]) (tkn 2) (.int .i64 x0.Nodes) := tokV rfl h2
  rcases intB5 x0.Pool with ⟨k, e⟩ | e | e | e | e | e | ⟨k, e⟩
  · exact F _ _ _ (by rw [e]; exact .int _ _) t1 t2 (iPneg k)
  · exact F _ _ _ (by rw [e]; exact .int _ _) t1 t2 (iPzero 0)
  · rcases intB2 x0.Members with ⟨k, f⟩ | f | f | ⟨k, f⟩
    · exact F _ _ _ (by rw [e]; exact .int _ _) (by rw [f]; exact .int _ _) t2 (iMneg1 k)
    · exact F _ _ _ (by rw [e]; exact .int _ _) (by rw [f]; exact .int _ _) t2 (iMzero1 0)
    · rcases intB5 x0.Nodes with ⟨k, g⟩ | g | g | g | g | g | ⟨k, g⟩
      · exact F _ _ _ (by rw [e]; exact .int _ _) (by rw [f]; exact .int _ _) (by rw [g]; exact .int _ _) (iNneg11 k)
      · exact F _ _ _ (by rw [e]; exact .int _ _) (by rw [f]; exact .int _ _) (by rw [g]; exact .int _ _) (iNzero11 0)
      · exact F _ _ _ (by rw [e]; exact .int _ _) (by rw [f]; exact .int _ _) (by rw [g]; exact .int _ _) sR111
      · exact F _ _ _ (by rw [e]; exact .int _ _) (by rw [f]; exact .int _ _) (by rw [g]; exact .int _ _) sR112
      · exact F _ _ _ (by rw [e]; exact .int _ _) (by rw [f]; exact .int _ _) (by rw [g]; exact .int _ _) sR113
      · exact F _ _ _ (by rw [e]; exact .int _ _) (by rw [f]; exact .int _ _) (by rw [g]; exact .int _ _) sR114
      · exact F _ _ _ (by rw [e]; exact .int _ _) (by rw [f]; exact .int _ _) (by rw [g]; exact .int _ _) (iNbig11 k)
    · exact F _ _ _ (by rw [e]; exact .int _ _) (by rw [f]; exact .int _ _) t2 (iMbig1 k)
  · rcases intB3 x0.Members with ⟨k, f⟩ | f | f | f | ⟨k, f⟩
    · exact F _ _ _ (by rw [e]; exact .int _ _) (by rw [f]; exact .int _ _) t2 (iMneg2 k)
    · exact F _ _ _ (by rw [e]; exact .int _ _) (by rw [f]; exact .int _ _) t2 (iMzero2 0)
    · rcases intB5 x0.Nodes with ⟨k, g⟩ | g | g | g | g | g | ⟨k, g⟩
      · exact F _ _ _ (by rw [e]; exact .int _ _) (by rw [f]; exact .int _ _) (by rw [g]; exact .int _ _) (iNneg21 k)
      · exact F _ _ _ (by rw [e]; exact .int _ _) (by rw [f]; exact .int _ _) (by rw [g]; exact .int _ _) (iNzero21 0)
      · exact F _ _ _ (by rw [e]; exact .int _ _) (by rw [f]; exact .int _ _) (by rw [g]; exact .int _ _) sR211
      · exact F _ _ _ (by rw [e]; exact .int _ _) (by rw [f]; exact .int _ _) (by rw [g]; exact .int _ _) sR212
      · exact F _ _ _ (by rw [e]; exact .int _ _) (by rw [f]; exact .int _ _) (by rw [g]; exact .int _ _) sR213
      · exact F _ _ _ (by rw [e]; exact .int _ _) (by rw [f]; exact .int _ _) (by rw [g]; exact .int _ _) sR214
      · exact F _ _ _ (by rw [e]; exact .int _ _) (by rw [f]; exact .int _ _) (by rw [g]; exact .int _ _) (iNbig21 k)
    · rcases intB5 x0.Nodes with ⟨k, g⟩ | g | g | g | g | g | ⟨k, g⟩
      · exact F _ _ _ (by rw [e]; exact .int _ _) (by rw [f]; exact .int _ _) (by rw [g]; exact .int _ _) (iNneg22 k)
      · exact F _ _ _ (by rw [e]; exact .int _ _) (by rw [f]; exact .int _ _) (by rw [g]; exact .int _ _) (iNzero22 0)
      · exact F _ _ _ (by rw [e]; exact .int _ _) (by rw [f]; exact .int _ _) (by rw [g]; exact .int _ _) sR221
      · exact F _ _ _ (by rw [e]; exact .int _ _) (by rw [f]; exact .int _ _) (by rw [g]; exact .int _ _) sR222
      · exact F _ _ _ (by rw [e]; exact .int _ _) (by rw [f]; exact .int _ _) (by rw [g]; exact .int _ _) sR223
      · exact F _ _ _ (by rw [e]; exact .int _ _) (by rw [f]; exact .int _ _) (by rw [g]; exact .int _ _) sR224
      · exact F _ _ _ (by rw [e]; exact .int _ _) (by rw [f]; exact .int _ _) (by rw [g]; exact .int _ _) (iNbig22 k)
    · exact F _ _ _ (by rw [e]; exact .int _ _) (by rw [f]; exact .int _ _) t2 (iMbig2 k)
  · rcases intB4 x0.Members with ⟨k, f⟩ | f | f | f | f | ⟨k, f⟩
    · exact F _ _ _ (by rw [e]; exact .int _ _) (by rw [f]; exact .int _ _) t2 (iMneg3 k)
    · exact F _ _ _ (by rw [e]; exact .int _ _) (by rw [f]; exact .int _ _) t2 (iMzero3 0)
    · rcases intB5 x0.Nodes with ⟨k, g⟩ | g | g | g | g | g | ⟨k, g⟩
      · exact F _ _ _ (by rw [e]; exact .int _ _) (by rw [f]; exact .int _ _) (by rw [g]; exact .int _ _) (iNneg31 k)
      · exact F _ _ _ (by rw [e]; exact .int _ _) (by rw [f]; exact .int _ _) (by rw [g]; exact .int _ _) (iNzero31 0)
      · exact F _ _ _ (by rw [e]; exact .int _ _) (by rw [f]; exact .int _ _) (by rw [g]; exact .int _ _) sR311
      · exact F _ _ _ (by rw [e]; exact .int _ _) (by rw [f]; exact .int _ _) (by rw [g]; exact .int _ _) sR312
      · exact F _ _ _ (by rw [e]; exact .int _ _) (by rw [f]; exact .int _ _) (by rw [g]; exact .int _ _) sR313
      · exact F _ _ _ (by rw [e]; exact .int _ _) (by rw [f]; exact .int _ _) (by rw [g]; exact .int _ _) sR314
      · exact F _ _ _ (by rw [e]; exact .int _ _) (by rw [f]; exact .int _ _) (by rw [g]; exact .int _ _) (iNbig31 k)
    · rcases intB5 x0.Nodes with ⟨k, g⟩ | g | g | g | g | g | ⟨k, g⟩
      · exact F _ _ _ (by rw [e]; exact .int _ _) (by rw [f]; exact .int _ _) (by rw [g]; exact .int _ _) (iNneg32 k)
      · exact F _ _ _ (by rw [e]; exact .int _ _) (by rw [f]; exact .int _ _) (by rw [g]; exact .int _ _) (iNzero32 0)
      · exact F _ _ _ (by rw [e]; exact .int _ _) (by rw [f]; exact .int _ _) (by rw [g]; exact .int _ _) sR321
      · exact F _ _ _ (by rw [e]; exact .int _ _) (by rw [f]; exact .int _ _) (by rw [g]; exact .int _ _) sR322
      · exact F _ _ _ (by rw [e]; exact .int _ _) (by rw [f]; exact .int _ _) (by rw [g]; exact .int _ _) sR323
      · exact F _ _ _ (by rw [e]; exact .int _ _) (by rw [f]; exact .int _ _) (by rw [g]; exact .int _ _) sR324
      · exact F _ _ _ (by rw [e]; exact .int _ _) (by rw [f]; exact .int _ _) (by rw [g]; exact .int _ _) (iNbig32 k)
    · rcases intB5 x0.Nodes with ⟨k, g⟩ | g | g | g | g | g | ⟨k, g⟩
      · exact F _ _ _ (by rw [e]; exact .int _ _) (by rw [f]; exact .int _ _) (by rw [g]; exact .int _ _) (iNneg33 k)
      · exact F _ _ _ (by rw [e]; exact .int _ _) (by rw [f]; exact .int _ _) (by rw [g]; exact .int _ _) (iNzero33 0)
      · exact F _ _ _ (by rw [e]; exact .int _ _) (by rw [f]; exact .int _ _) (by rw [g]; exact .int _ _) sR331
      · exact F _ _ _ (by rw [e]; exact .int _ _) (by rw [f]; exact .int _ _) (by rw [g]; exact .int _ _) sR332
      · exact F _ _ _ (by rw [e]; exact .int _ _) (by rw [f]; exact .int _ _) (by rw [g]; exact .int _ _) sR333
      · exact F _ _ _ (by rw [e]; exact .int _ _) (by rw [f]; exact .int _ _) (by rw [g]; exact .int _ _) sR334
      · exact F _ _ _ (by rw [e]; exact .int _ _) (by rw [f]; exact .int _ _) (by rw [g]; exact .int _ _) (iNbig33 k)
    · exact F _ _ _ (by rw [e]; exact .int _ _) (by rw [f]; exact .int _ _) t2 (iMbig3 k)
  · rcases intB5 x0.Members with ⟨k, f⟩ | f | f | f | f | f | ⟨k, f⟩
    · exact F _ _ _ (by rw [e]; exact .int _ _) (by rw [f]; exact .int _ _) t2 (iMneg4 k)
    · exact F _ _ _ (by rw [e]; exact .int _ _) (by rw [f]; exact .int _ _) t2 (iMzero4 0)
    · rcases intB5 x0.Nodes with ⟨k, g⟩ | g | g | g | g | g | ⟨k, g⟩
      · exact F _ _ _ (by rw [e]; exact .int _ _) (by rw [f]; exact .int _ _) (by rw [g]; exact .int _ _) (iNneg41 k)
      · exact F _ _ _ (by rw [e]; exact .int _ _) (by rw [f]; exact .int _ _) (by rw [g]; exact .int _ _) (iNzero41 0)
      · exact F _ _ _ (by rw [e]; exact .int _ _) (by rw [f]; exact .int _ _) (by rw [g]; exact .int _ _) sR411
      · exact F _ _ _ (by rw [e]; exact .int _ _) (by rw [f]; exact .int _ _) (by rw [g]; exact .int _ _) sR412
      · exact F _ _ _ (by rw [e]; exact .int _ _) (by rw [f]; exact .int _ _) (by rw [g]; exact .int _ _) sR413
      · exact F _ _ _ (by rw [e]; exact .int _ _) (by rw [f]; exact .int _ _) (by rw [g]; exact .int _ _) sR414
      · exact F _ _ _ (by rw [e]; exact .int _ _) (by rw [f]; exact .int _ _) (by rw [g]; exact .int _ _) (iNbig41 k)
    · rcases intB5 x0.Nodes with ⟨k, g⟩ | g | g | g | g | g | ⟨k, g⟩
      · exact F _ _ _ (by rw [e]; exact .int _ _) (by rw [f]; exact .int _ _) (by rw [g]; exact .int _ _) (iNneg42 k)
      · exact F _ _ _ (by rw [e]; exact .int _ _) (by rw [f]; exact .int _ _) (by rw [g]; exact .int _ _) (iNzero42 0)
      · exact F _ _ _ (by rw [e]; exact .int _ _) (by rw [f]; exact .int _ _) (by rw [g]; exact .int _ _) sR421
      · exact F _ _ _ (by rw [e]; exact .int _ _) (by rw [f]; exact .int _ _) (by rw [g]; exact .int _ _) sR422
      · exact F _ _ _ (by rw [e]; exact .int _ _) (by rw [f]; exact .int _ _) (by rw [g]; exact .int _ _) sR423
      · exact F _ _ _ (by rw [e]; exact .int _ _) (by rw [f]; exact .int _ _) (by rw [g]; exact .int _ _) sR424
      · exact F _ _ _ (by rw [e]; exact .int _ _) (by rw [f]; exact .int _ _) (by rw [g]; exact .int _ _) (iNbig42 k)
    · rcases intB5 x0.Nodes with ⟨k, g⟩ | g | g | g | g | g | ⟨k, g⟩
      · exact F _ _ _ (by rw [e]; exact .int _ _) (by rw [f]; exact .int _ _) (by rw [g]; exact .int _ _) (iNneg43 k)
      · exact F _ _ _ (by rw [e]; exact .int _ _) (by rw [f]; exact .int _ _) (by rw [g]; exact .int _ _) (iNzero43 0)
      · exact F _ _ _ (by rw [e]; exact .int _ _) (by rw [f]; exact .int _ _) (by rw [g]; exact .int _ _) sR431
      · exact F _ _ _ (by rw [e]; exact .int _ _) (by rw [f]; exact .int _ _) (by rw [g]; exact .int _ _) sR432
      · exact F _ _ _ (by rw [e]; exact .int _ _) (by rw [f]; exact .int _ _) (by rw [g]; exact .int _ _) sR433
      · exact F _ _ _ (by rw [e]; exact .int _ _) (by rw [f]; exact .int _ _) (by rw [g]; exact .int _ _) sR434
      · exact F _ _ _ (by rw [e]; exact .int _ _) (by rw [f]; exact .int _ _) (by rw [g]; exact .int _ _) (iNbig43 k)
    · rcases intB5 x0.Nodes with ⟨k, g⟩ | g | g | g | g | g | ⟨k, g⟩
      · exact F _ _ _ (by rw [e]; exact .int _ _) (by rw [f]; exact .int _ _) (by rw [g]; exact .int _ _) (iNneg44 k)
      · exact F _ _ _ (by rw [e]; exact .int _ _) (by rw [f]; exact .int _ _) (by rw [g]; exact .int _ _) (iNzero44 0)
      · exact F _ _ _ (by rw [e]; exact .int _ _) (by rw [f]; exact .int _ _) (by rw [g]; exact .int _ _) sR441
      · exact F _ _ _ (by rw [e]; exact .int _ _) (by rw [f]; exact .int _ _) (by rw [g]; exact .int _ _) sR442
      · exact F _ _ _ (by rw [e]; exact .int _ _) (by rw [f]; exact .int _ _) (by rw [g]; exact .int _ _) sR443
      · exact F _ _ _ (by rw [e]; exact .int _ _) (by rw [f]; exact .int _ _) (by rw [g]; exact .int _ _) sR444
      · exact F _ _ _ (by rw [e]; exact .int _ _) (by rw [f]; exact .int _ _) (by rw [g]; exact .int _ _) (iNbig44 k)
    · exact F _ _ _ (by rw [e]; exact .int _ _) (by rw [f]; exact .int _ _) t2 (iMbig4 k)
  · exact F _ _ _ (by rw [e]; exact .int _ _) t1 t2 (iPbig k)
end
end Go.Ce
