/- Part 16: calls that are handed boxes and own slices; parts of elements of arrays. -/
import Derived.Test.YtjohablgnnbelaaKit15
namespace Go.Cf
open Go
section
variable {ro : Option Nat} {P : Program} {ops : Array Oper} {Q : Exit → Act → World → Prop} {N : Nat} {D : List Deferred} {L L' : FL} {a : Act} {w : World} {o : Oper} {K : Act → World → Prop}
variable {M : List Nat} {κ0 κ κ' : Gh} {w0 w' : World} {C C' Cin Cr Cout : List Ck} {R R' Rout : List MP}
theorem SS.callBack (h : SS M κ0 w0 κ w (Cin ++ Cr) R) (h2 : SS (blksOf Cin) κ w κ' w' Cout Rout) : SS M κ0 w0 κ' w' (Cout ++ Cr) (Rout ++ R) := by
  have hnd := h.nd
  rw [blksOf_append] at hnd
  obtain ⟨n1, n2, n3⟩ := List.nodup_append.1 hnd
  have hin : ∀ b ∈ blksOf Cin, b ∈ blksOf (Cin ++ Cr) := fun b hb => by rw [blksOf_append]; exact List.mem_append.2 (.inl hb)
  have hcr : ∀ b ∈ blksOf Cr, b ∈ blksOf (Cin ++ Cr) := fun b hb => by rw [blksOf_append]; exact List.mem_append.2 (.inr hb)
  refine ⟨h.ext.trans' h2.ext fun b hb => h.own b (hin b hb), h2.fresh, fun c hc => ?_, fun b hb => ?_, ?_, fun b hb => ?_, fun m hm => ?_⟩
  · rcases List.mem_append.1 hc with hc | hc
    · exact h2.ok c hc
    · exact Ck.ok_keep (h.ok c (List.mem_append.2 (.inr hc))) (fun b hb => h.lt b (hcr b (List.mem_flatMap.2 ⟨c, hc, hb⟩))) h2.ext fun b hb hb' => n3 b hb' b (List.mem_flatMap.2 ⟨c, hc, hb⟩) rfl
  · rw [blksOf_append] at hb
    rcases List.mem_append.1 hb with hb | hb
    · exact h2.lt b hb
    · exact Nat.lt_of_lt_of_le (h.lt b (hcr b hb)) h2.ext.size
  · rw [blksOf_append]
    refine List.nodup_append.2 ⟨h2.nd, n2, fun x hx y hy => ?_⟩
    rintro rfl
    rcases h2.own x hx with h3 | h3
    · have := h.lt x (hcr x hy); omega
    · exact n3 x h3 x hy rfl
  · rw [blksOf_append] at hb
    rcases List.mem_append.1 hb with hb | hb
    · rcases h2.own b hb with h3 | h3
      · exact .inl (Nat.le_trans h.ext.size h3)
      · exact h.own b (hin b h3)
    · exact h.own b (hcr b hb)
  · rcases List.mem_append.1 hm with hm | hm
    · exact h2.ro m hm
    · exact m.mono h2.ext (h.ro m hm)
theorem wo_callS (hF : Fr N D L a) (hS : SS M κ0 w0 κ w (Cin ++ Cr) R) (hc : okOp N L o = true) {f : FuncId} {args : Array Value} (hr : pureRun P (execOp (evD L) o) = some (.enter f args)) {φ : Value → Gh → World → Prop}
    (hcall : SS (blksOf Cin) κ w κ w Cin R → Calls P f args w (Post (blksOf Cin) κ w φ))
    (kk : ∀ v κ' w' a', φ v κ' w' → Fr N D (upd L o.dst v) a' → (∀ Cout Rout, SS (blksOf Cin) κ w κ' w' Cout Rout → SS M κ0 w0 κ' w' (Cout ++ Cr) (Rout ++ R)) → K a' w') : wo ro P o a w K Q := by
  have hsub : Cin.Sublist (Cin ++ Cr) := List.sublist_append_left _ _
  exact wo_call hF hc hr (hcall (hS.drop hsub).rebase) fun _ w' ⟨v, κ', he, hext, hfr, hφ⟩ => ⟨v, he, fun a' hF' => kk v κ' w' a' hφ hF' fun Cout Rout h2 => hS.callBack h2⟩
/-- a cell of an element of an array of elements with references -/
theorem wo_loadATyF (hF : Fr N D L a) (hS : SS M κ0 w0 κ w C R) (hc : okOp N L o = true) {α : Type} {t : Ty α} (i k ri f : Nat) {b TB T off n m : Nat} {s : Segs} {cs : List Value} {l : List α} {j : Int} {y : α} {x : Operand} (hop : o.op = .load T x) (hx : ev L x = some (.pointer (some ⟨b, off, none⟩)))
    (hC : C[i]? = some (.box b TB s)) (hk : s[k]? = some (m, cs)) (hR : R[ri]? = some (Arr.mp t cs n l)) (hm : n * t.size = m) (hj : idx l j = some y) (hoff : tot (s.take k) + j.toNat * t.size + f = off) (hf : f < t.size) (hg : pureRun P (isAgg T) = some false)
    (kk : ∀ cells v a', t.rep κ w cells y → cells[f]? = some v → Fr N D (upd L o.dst v) a' → K a' w) : wo ro P o a w K Q := by
  have hb := hS.ck i hC
  obtain ⟨h1, h2, h3, h4⟩ := (hS.get ri hR : ArrP t κ w cs n l)
  obtain ⟨j0, j1, j2⟩ := idx_some hj
  have hrep := h4 _ _ j2
  have hmul : j.toNat * t.size + t.size ≤ n * t.size := by
    have : (j.toNat + 1) * t.size ≤ n * t.size := Nat.mul_le_mul_right _ (by omega)
    rw [Nat.add_mul, Nat.one_mul] at this
    exact this
  have hlen : ((cs.drop (j.toNat * t.size)).take t.size).length = t.size := t.len hrep
  obtain ⟨v, hv⟩ : ∃ v, ((cs.drop (j.toNat * t.size)).take t.size)[f]? = some v := ⟨_, List.getElem?_eq_getElem (by omega)⟩
  have hcs : cs[j.toNat * t.size + f]? = some v := by
    rw [List.getElem?_take, if_pos hf, List.getElem?_drop] at hv
    exact hv
  refine wo_val hF hc (exec_load hop hx (run_load_scalar hg ?_)) fun a' hF' => kk _ v a' hrep hv hF'
  rw [cell_box hb, ← hoff, Nat.add_assoc, segs_at hb.2.1 hk (j.toNat * t.size + f) (by omega), hcs]
/-- .. an operation that may be taken first -/
theorem val_loadATyF {α : Type} {t : Ty α} (i k f : Nat) {b TB T off n m : Nat} {s : Segs} {cs cells : List Value} {j : Int} {v : Value} {x : Operand} (hop : o.op = .load T x) (hx : ev L x = some (.pointer (some ⟨b, off, none⟩)))
    (hC : C[i]? = some (.box b TB s)) (hk : s[k]? = some (m, cs)) (hm : n * t.size = m) (hj : 0 ≤ j ∧ j < (n : Int)) (hoff : tot (s.take k) + j.toNat * t.size + f = off) (hf : f < t.size) (hg : pureRun P (isAgg T) = some false)
    (hcells : (cs.drop (j.toNat * t.size)).take t.size = cells) (hv : cells[f]? = some v) : ∀ w, SSx M κ0 w0 C R w → (execOp (evD L) o).run P w = .ok (.value v) w := fun w ⟨κ, hS⟩ => by
  have hb := hS.ck i hC
  subst hcells
  have hcs : cs[j.toNat * t.size + f]? = some v := by
    rw [List.getElem?_take, if_pos hf, List.getElem?_drop] at hv
    exact hv
  have hmul : j.toNat * t.size + t.size ≤ n * t.size := by
    have : (j.toNat + 1) * t.size ≤ n * t.size := Nat.mul_le_mul_right _ (by omega)
    rw [Nat.add_mul, Nat.one_mul] at this
    exact this
  refine exec_load hop hx (run_load_scalar hg ?_)
  rw [cell_box hb, ← hoff, Nat.add_assoc, segs_at hb.2.1 hk (j.toNat * t.size + f) (by omega), hcs]
end
end Go.Cf
