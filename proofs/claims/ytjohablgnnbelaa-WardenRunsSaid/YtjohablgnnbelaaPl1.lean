/- Plain facts that the laws use: the order of strings, indices. -/
import Derived.Test.YtjohablgnnbelaaKit14
namespace Go.Cf
open Go
theorem bl_irrefl : ∀ l : List UInt8, Op.bytesLess l l = false := fun l => by
  induction l with
  | nil => rfl
  | cons a l ih => simp [Op.bytesLess, ih]
theorem bl_total : ∀ a b : List UInt8, (!Op.bytesLess a b) = (Op.bytesLess b a || b == a) := fun a => by
  induction a with
  | nil => intro b; cases b <;> simp [Op.bytesLess]
  | cons x a ih =>
    intro b
    cases b with
    | nil => simp [Op.bytesLess]
    | cons y b =>
      have hih := ih b
      simp only [Op.bytesLess]
      rcases Nat.lt_trichotomy x.toNat y.toNat with h | h | h
      · have h1 : x < y := h
        have h2 : ¬ y < x := fun h3 => by have : y.toNat < x.toNat := h3; omega
        have h3 : x ≠ y := fun e => by subst e; omega
        simp [h1, h2, h3, Ne.symm h3]
      · have h0 : x = y := UInt8.toNat_inj.1 h
        subst h0
        have h2 : ¬ x < x := fun h3 => by have : x.toNat < x.toNat := h3; omega
        simp only [h2, decide_false, Bool.false_or, beq_self_eq_true, Bool.true_and, hih, List.cons_beq_cons]
      · have h1 : y < x := h
        have h2 : ¬ x < y := fun h3 => by have : x.toNat < y.toNat := h3; omega
        have h3 : x ≠ y := fun e => by subst e; omega
        simp [h1, h2, h3, Ne.symm h3]
theorem bl_nil (a : List UInt8) : Op.bytesLess a [] = false := by cases a <;> rfl
theorem sLt_not (a b : ByteArray) : (!sLt a b) = (sLt b a || sEq b a) := bl_total _ _
end Go.Cf
namespace Go.Cf
open Go
theorem lenR {α : Type} {t : Ty α} {p : Option Addr} {c : Nat} {l : List α} {κ : Gh} {w : World} {R : List MP} (hR : ∀ m ∈ R, m.p κ w) (i : Nat) (h : R[i]? = some (Ro.mp t p c l)) : l.length ≤ maxLen := by
  have h' : Ro t κ w p c l := hR _ (List.mem_of_getElem? h)
  exact Nat.le_trans h'.1 h'.2.1
end Go.Cf
