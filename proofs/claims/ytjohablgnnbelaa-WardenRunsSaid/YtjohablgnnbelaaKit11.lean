/- Part 11: from a call's contract to what a row asks: nothing that was there has turned. -/
import Derived.Test.YtjohablgnnbelaaKit10
namespace Go.Cf
open Go

/-- nothing is published: all that was there stays -/
def noGh : Gh := fun _ => none
theorem noGh_fresh (w : World) : Fresh noGh w := fun _ _ => rfl
theorem keptBut_of {w w' : World} (h : ∀ i, i < w.heap.size → w'.heap[i]? = w.heap[i]?) (ho : w'.os = w.os) (ht : w'.output = w.output) (may : MemPlace → Prop) : w.keptBut w' may := by
  refine ⟨ho, ht, fun i hi => ?_⟩
  rw [h i hi]
  cases hx : w.heap[i]? with
  | none => rfl
  | some o => cases o <;> simp
theorem Ext.grown {κ κ' : Gh} {w w' : World} (h : Ext [] κ w κ' w') : RowKit.Grown w w' :=
  ⟨keptBut_of (fun i hi => (h.keep i hi (by simp)).1) h.os h.out _, h.fz, h.size⟩
/-- a law's contract, with no facts asked -/
theorem law_done {P : Program} {f : FuncId} {args : Array Value} {κ : Gh} {w : World} {b : Bool} {φ : Gh → World → Prop} (hb : b = true) (h : Calls P f args w (Post [] κ w fun v κ w => v = .bool b ∧ φ κ w)) :
    Calls P f args w fun e w' => e = .returned (.bool true) ∧ RowKit.Grown w w' := by
  subst hb
  exact h.mono fun e w' ⟨v, κ', he, hx, _, hv, _⟩ => ⟨by rw [he, hv], hx.grown⟩
end Go.Cf
