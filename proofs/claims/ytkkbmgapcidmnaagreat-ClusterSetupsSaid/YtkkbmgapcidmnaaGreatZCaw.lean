/- awake: the whole of it, and what it leaves untouched. -/
import Derived.Test.YtkkbmgapcidmnaaGreatZCa0
import Derived.Test.YtkkbmgapcidmnaaGreatZCa1
import Derived.Test.YtkkbmgapcidmnaaGreatZCa2
import Derived.Test.YtkkbmgapcidmnaaGreatZCa3
import Derived.Test.YtkkbmgapcidmnaaGreatZCa4
import Derived.Test.YtkkbmgapcidmnaaGreatZCa5
import Derived.Test.YtkkbmgapcidmnaaGreatZCa6
import Derived.Test.YtkkbmgapcidmnaaGreatZCa7
import Derived.Test.YtkkbmgapcidmnaaGreatZCa8
import Derived.Test.YtkkbmgapcidmnaaGreatZCa9
import Derived.Test.YtkkbmgapcidmnaaGreatZCa10
import Derived.Test.YtkkbmgapcidmnaaGreatZCa11
import Derived.Test.YtkkbmgapcidmnaaGreatZCa12
import Derived.Test.YtkkbmgapcidmnaaGreatZK2
set_option linter.unusedVariables false
open Go Go.Cf
namespace Go.Ce
noncomputable section
open Go.Proofs.Tryz
theorem mixd : prog.follows .mixedOrders = true := by kernel_rfl
theorem ok_of {e : En1} (h : runs prog [(191, 2)] (cutSum 197) 2000 60 e = true) : EnOk prog e := runs_ok mixd idle_ok cutSum_ok h
noncomputable def awTab : List En1 := [eN0, eN1, eN2, eN3, eN4, eN5, eN6, eN7, eN8, eN9, eN10, eN11, eN12]
theorem awTab_ok : ∀ e ∈ awTab, EnOk prog e := fun e he => by
  simp only [awTab, List.mem_cons, List.not_mem_nil, or_false] at he
  rcases he with rfl | rfl | rfl | rfl | rfl | rfl | rfl | rfl | rfl | rfl | rfl | rfl | rfl
  · exact ok_of aN0
  · exact ok_of aN1
  · exact ok_of aN2
  · exact ok_of aN3
  · exact ok_of aN4
  · exact ok_of aN5
  · exact ok_of aN6
  · exact ok_of aN7
  · exact ok_of aN8
  · exact ok_of aN9
  · exact ok_of aN10
  · exact ok_of aN11
  · exact ok_of aN12
noncomputable def isTrue (r : Option (Value × St)) : Bool := match r with
  | some (.bool b, _) => b
  | _ => false
theorem isTrue_eq {r : Option (Value × St)} (h : isTrue r = true) : ∃ S, r = some (.bool true, S) := by
  unfold isTrue at h
  split at h
  · subst h; exact ⟨_, rfl⟩
  · cases h
theorem awRun : isTrue ((eng prog [(191, 2)] (cutT (cutSum 197) awTab) 2000 60).call 7 [] St0) = true := by kernel_rfl
theorem awake_ok : ∃ S1, CallOk prog 7 [] St0 (.bool true) S1 := by
  obtain ⟨S1, h⟩ := isTrue_eq awRun
  exact ⟨S1, eng_call mixd idle_ok (cutT_ok cutSum_ok awTab_ok) h⟩
def noTh : Th := fun _ => none
theorem get0 {k : Nat} {o : AO} (h : St0.H.get k = some o) : False := by
  rw [show St0.H.get k = none from Tr.get_nil k] at h
  cases h
theorem rel0 (w : World) : Rel noTh St0 w := ⟨fun k o h => (get0 h).elim, fun k k' o o' A A' _ h => (get0 h).elim, fun _ _ _ => rfl, ⟨Nat.zero_le _, Nat.le_refl _⟩⟩
theorem own0 {b : Nat} (h : Own noTh St0 b) : False := by
  obtain ⟨k, o, A, h1, _⟩ := h
  exact get0 h1
/-- names that stand for numbers and texts -/
def tokTh (l : List Ad) : Th := fun k => if k < hi0 then none else l[k - hi0]?
def tkn (i : Nat) : Value := .chan (some (hi0 + i))
theorem tokV {l : List Ad} {i : Nat} {A : Ad} {v : Value} (h : l[i]? = some A) (hv : dec A = v) : VR (tokTh l) (tkn i) v := by
  subst hv
  exact .tok (by unfold tokTh; rw [if_neg (by omega), Nat.add_sub_cancel_left]; exact h)
theorem relT (l : List Ad) (w : World) : Rel (tokTh l) St0 w := ⟨fun k o h => (get0 h).elim, fun k k' o o' A A' _ h => (get0 h).elim, fun k _ h => if_pos h, ⟨Nat.zero_le _, Nat.le_refl _⟩⟩
theorem ownT {θ : Th} {b : Nat} (h : Own θ St0 b) : False := by
  obtain ⟨k, o, A, h1, _⟩ := h
  exact get0 h1
/-- a call that asks for nothing turns nothing that was there -/
theorem call_kept {P : Program} {f : FuncId} {args : List Value} {args' : Array Value} {v : Value} {S1 : St} (h : CallOk P f args St0 v S1) (l : List Ad) (ha : VRl (tokTh l) args args'.toList) (hv : nr v = true) (w : World) :
    Calls P f args' w fun e w' => e = .returned v ∧ w.keptBut w' (fun _ => False) ∧ ∀ b, b < w.heap.size → w'.heap[b]? = w.heap[b]? := by
  refine Calls.mono (h (relT l w) ha) fun e w1 ⟨θ1, v', h1, h2, h3⟩ => ?_
  have hk : ∀ b, b < w.heap.size → w1.heap[b]? = w.heap[b]? := fun b hb => h2.keep b hb fun ho => ownT ho
  exact ⟨by rw [h1, nr_eq hv h3], Cf.keptBut_of hk h2.os h2.out _, hk⟩
theorem call_frame {P : Program} {f : FuncId} {v : Value} {S1 : St} (h : CallOk P f [] St0 v S1) (hv : nr v = true) (S : St) : CallOk P f [] S v S := fun θ w args' hR ha => by
  have e : args' = #[] := by
    have := ha.1
    simp at this
    exact Array.eq_empty_of_size_eq_zero (by omega)
  subst e
  refine Calls.mono (h (rel0 w) (.nil _)) fun e w1 ⟨θ1, v', h1, h2, h3⟩ => ?_
  have hk : ∀ b, b < w.heap.size → w1.heap[b]? = w.heap[b]? := fun b hb => h2.keep b hb fun ho => own0 ho
  have hR1 : Rel θ S w1 := ⟨fun k o hk' => by
    obtain ⟨A, o', a, b, c⟩ := hR.get k o hk'
    exact ⟨A, o', a, by rw [hk _ (hR.lt hk' a)]; exact b, c⟩, hR.sep, hR.dom, hR.lim⟩
  exact ⟨θ, v', h1, ⟨.refl _, hR1, fun _ h => .inl h, fun b hb _ => hk b hb, h2.os, h2.out, h2.tape, h2.size, fun _ _ h => .inl h, Nat.le_refl _, rfl⟩, by rw [nr_eq hv h3]; exact nr_refl θ hv⟩
/-- awake is known -/
noncomputable def cutW (f : FuncId) (args : List Value) (S : St) : Option (Value × St) := cond (Nat.beq f 7) (List.rec (motive := fun _ => Option (Value × St)) (some (.bool true, S)) (fun _ _ _ => none) args) none
theorem cutW_ok : CutOk prog cutW := by
  intro f args S v S1 h
  unfold cutW at h
  cases hf : Nat.beq f 7 with
  | false => rw [hf] at h; cases h
  | true =>
    rw [hf] at h
    rw [Nat.beq_eq] at hf
    subst hf
    cases args with
    | cons _ _ => cases h
    | nil =>
      cases h
      obtain ⟨S1, h⟩ := awake_ok
      exact call_frame h rfl S
end
end Go.Ce
