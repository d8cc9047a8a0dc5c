/- Part 8: slices of slices as values; arrays; arrays that are the call's own. -/
import Derived.Test.YtjohablgnnbelaaKit7
namespace Go.Cf
open Go

section
variable {P : Program} {L : FL} {o : Oper} {w : World} {κ : Gh}
/-- s[lo:hi] looks at no memory -/
theorem slice_val (P : Program) {α : Type} (t : Ty α) {T E n c : Nat} {p : Option Addr} {l l' : List α} {lo hi : Int} {x : Operand} {xl xh : Option Operand} (hop : o.op = .slice T x xl xh none) (hlc : l.length ≤ c)
    (hx : ev L x = some (.slice p n c)) (hn : n = l.length) (hlo : match xl with | some y => ∃ k, ev L y = some (.int k lo) | none => lo = 0) (hhi : match xh with | some y => ∃ k, ev L y = some (.int k hi) | none => hi = l.length)
    (hs : slc l lo hi = some l') (hu : pureRun P (underlying T) = some (.slice E)) (hsz : pureRun P (sizeOf E) = some t.size) :
    ∃ p' c', (∀ w, (execOp (evD L) o).run P w = .ok (.value (.slice p' l'.length c')) w) ∧ ∀ κ w, Ro t κ w p c l → Ro t κ w p' c' l' := by
  obtain ⟨h0, h1, h2, rfl⟩ := slc_some hs
  subst hn
  have hlen : ((l.take hi.toNat).drop lo.toNat).length = hi.toNat - lo.toNat := by simp; omega
  refine ⟨if c = lo.toNat then p else p.map (·.add (lo.toNat * t.size)), c - lo.toNat, fun w => ?_, fun κ w hRo => ?_⟩
  · have hrun : (Instr.sliceAt T (.slice p l.length c) (xl.map (evD L)) (xh.map (evD L)) none).run P w = .ok (.slice (if c = lo.toNat then p else p.map (·.add (lo.toNat * t.size))) (hi.toNat - lo.toNat) (c - lo.toNat)) w := by
      cases xl with
      | none =>
        subst hlo
        cases xh with
        | none => subst hhi; simp [Instr.sliceAt, Instr.slice, Instr.sliceBounds, run_underlying' hu, pureRun_run _ hsz w]
        | some y =>
          obtain ⟨k, hk⟩ := hhi
          have : hi ≤ (c : Int) := by omega
          simp [Instr.sliceAt, Instr.slice, Instr.sliceBounds, Instr.sliceBound, asIntOf, run_underlying' hu, pureRun_run _ hsz w, evD, hk, h1, this]
      | some z =>
        obtain ⟨kz, hkz⟩ := hlo
        cases xh with
        | none =>
          subst hhi
          simp [Instr.sliceAt, Instr.slice, Instr.sliceBounds, Instr.sliceBound, asIntOf, run_underlying' hu, pureRun_run _ hsz w, evD, hkz, h0, h1]
        | some y =>
          obtain ⟨k, hk⟩ := hhi
          have h3 : hi ≤ (c : Int) := by omega
          have h4 : 0 ≤ hi := by omega
          have h5 : lo ≤ max hi 0 := by omega
          simp [Instr.sliceAt, Instr.slice, Instr.sliceBounds, Instr.sliceBound, asIntOf, run_underlying' hu, pureRun_run _ hsz w, evD, hk, hkz, h0, h3, h4, h5]
    have hev : evD L x = .slice p l.length c := by simp [evD, hx]
    simp only [execOp, hop, hev, Option.map_none]
    rw [hlen]
    simp [hrun]
  · refine ⟨by rw [hlen]; omega, by have := hRo.2.1; omega, ?_⟩
    rcases hRo.2.2 with ⟨rfl, rfl⟩ | ⟨b, off, m, rfl, hk, hm, hcell⟩
    · exact .inl ⟨by simp, by omega⟩
    · by_cases hcl : c = lo.toNat
      · rw [if_pos hcl]
        have hz : hi.toNat - lo.toNat = 0 := by omega
        have hnil : (l.take hi.toNat).drop lo.toNat = [] := List.eq_nil_of_length_eq_zero (by rw [hlen]; exact hz)
        rw [hnil]
        exact .inr ⟨b, off, m, rfl, hk, by simp; omega, fun i x hi => by simp at hi⟩
      · rw [if_neg hcl]
        refine .inr ⟨b, off + lo.toNat * t.size, m, by simp [add_off], hk, ?_, fun i x hi' => ?_⟩
        · rw [hlen, Nat.add_assoc, ← Nat.add_mul]
          have : (lo.toNat + (hi.toNat - lo.toNat)) * t.size ≤ l.length * t.size := Nat.mul_le_mul_right _ (by omega)
          omega
        · rw [List.getElem?_drop, List.getElem?_take] at hi'
          split at hi'
          · obtain ⟨cs, hr, hcs⟩ := hcell _ x hi'
            refine ⟨cs, hr, fun j v hj => ?_⟩
            have := hcs j v hj
            rw [Nat.add_mul] at this
            rwa [show off + lo.toNat * t.size + i * t.size + j = off + (lo.toNat * t.size + i * t.size) + j from by omega]
          · cases hi'
end

section
variable {ro : Option Nat} {P : Program} {ops : Array Oper} {Q : Exit → Act → World → Prop} {N : Nat} {D : List Deferred} {L L' : FL} {a : Act} {w : World} {o : Oper} {K : Act → World → Prop}
variable {M : List Nat} {κ0 κ : Gh} {w0 : World} {C C' : List Ck} {R R' : List MP}
/-- an element of one cell of an array in a box -/
theorem wo_loadA1 (hF : Fr N D L a) (hS : SS M κ0 w0 κ w C R) (hc : okOp N L o = true) {α : Type} {t : FT α} (i k : Nat) {b TB T off n : Nat} {s : Segs} {l : List α} {j : Int} {y : α} {v : Value} {x : Operand} (hop : o.op = .load T x) (hx : ev L x = some (.pointer (some ⟨b, off, none⟩)))
    (hC : C[i]? = some (.box b TB s)) (hk : s[k]? = some (n, encs t l)) (hj : idx l j = some y) (h1 : t.enc y = [v]) (ht : t.size = 1) (hoff : tot (s.take k) + j.toNat * 1 = off) (hg : pureRun P (isAgg T) = some false)
    (kk : ∀ a', Fr N D (upd L o.dst v) a' → K a' w) : wo ro P o a w K Q := by
  refine wo_load hF hS hc i k (j.toNat * 1) hop hx hC hk ?_ hoff hg kk
  have := encs_at t l (idx_some hj).2.2 0 v (by rw [h1]; rfl)
  rw [ht] at this
  simpa using this
theorem encs_set {α : Type} (t : FT α) (ht : t.size = 1) (l : List α) (j : Nat) (y : α) {v : Value} (h1 : t.enc y = [v]) : (encs t l).set j v = encs t (l.set j y) := by
  have hlen : ∀ x, ∃ u, t.enc x = [u] := fun x => by
    have := t.len x
    rw [ht] at this
    exact List.length_eq_one_iff.1 this
  induction l generalizing j with
  | nil => simp [encs]
  | cons x l ih =>
    obtain ⟨u, hu⟩ := hlen x
    cases j with
    | zero => simp [encs, hu, h1]
    | succ j =>
      have := ih j
      simp only [encs, List.flatMap_cons, hu, List.set_cons_succ, List.singleton_append] at this ⊢
      rw [this]
theorem wo_storeA1 (hF : Fr N D L a) (hS : SS M κ0 w0 κ w C R) (hc : okOp N L o = true) {α : Type} {t : FT α} (i k : Nat) {b TB T off n : Nat} {s s' : Segs} {l : List α} {j : Int} {y z : α} {v : Value} {x x' : Operand} (hop : o.op = .store T x x') (hx : ev L x = some (.pointer (some ⟨b, off, none⟩))) (hy : ev L x' = some v)
    (hC : C[i]? = some (.box b TB s)) (hk : s[k]? = some (n, encs t l)) (hj : idx l j = some z) (h1 : t.enc y = [v]) (ht : t.size = 1) (hoff : tot (s.take k) + j.toNat * 1 = off) (hsz : pureRun P (sizeOf T) = some 1)
    (hs' : s.set k (n, encs t (l.set j.toNat y)) = s') (hC' : C.set i (.box b TB s') = C')
    (kk : ∀ a' w', Fr N D (upd L o.dst undef) a' → SS M κ0 w0 κ w' C' R → K a' w') : wo ro P o a w K Q := by
  have hb := hS.ck i hC
  have hln : (encs t l).length = n := hb.2.1 (n, encs t l) (List.mem_of_getElem? hk)
  rw [encs_length, ht, Nat.mul_one] at hln
  refine wo_store hF hS hc i k (j.toNat * 1) hop hx hy hC hk (by have := (idx_some hj).2.1; omega) hoff hsz (t.one y v (by rw [h1]; simp)) ?_ hs' hC' kk
  rw [Nat.mul_one]
  exact encs_set t ht l j.toNat y h1
/-- an element of an array of structs with references, in a box -/
theorem wo_loadATy (hF : Fr N D L a) (hS : SS M κ0 w0 κ w C R) (hc : okOp N L o = true) {α : Type} {t : Ty α} (i k ri : Nat) {b TB T off n m : Nat} {s : Segs} {cs : List Value} {l : List α} {j : Int} {y : α} {x : Operand} (hop : o.op = .load T x) (hx : ev L x = some (.pointer (some ⟨b, off, none⟩)))
    (hC : C[i]? = some (.box b TB s)) (hk : s[k]? = some (m, cs)) (hR : R[ri]? = some (Arr.mp t cs n l)) (hj : idx l j = some y) (hm : n * t.size = m) (hoff : tot (s.take k) + j.toNat * t.size = off) (hg : pureRun P (isAgg T) = some true) (hsz : pureRun P (sizeOf T) = some t.size)
    (kk : ∀ cs' a', t.rep κ w cs' y → Fr N D (upd L o.dst (.agg cs'.toArray)) a' → K a' w) : wo ro P o a w K Q := by
  have hA : ArrP t κ w cs n l := hS.get ri hR
  obtain ⟨_, hlt, hy⟩ := idx_some hj
  have hle : j.toNat * t.size + t.size ≤ m := by
    rw [← hm]
    have : (j.toNat + 1) * t.size ≤ n * t.size := Nat.mul_le_mul_right _ (by rw [← hA.1]; exact hlt)
    rw [Nat.add_mul, Nat.one_mul] at this; exact this
  exact wo_loadElem hF hS hc i k (j.toNat * t.size) hop hx hC hk hoff hle hg hsz fun a' hF' => kk _ a' (hA.2.2.2 _ _ hy) hF'
/-- a list with a stretch laid anew -/
def splice (cs : List Value) (j : Nat) (new : List Value) : List Value := cs.take j ++ new ++ cs.drop (j + new.length)
theorem ArrP.set {α : Type} {t : Ty α} {κ : Gh} {w : World} {cs : List Value} {n : Nat} {l : List α} (h : ArrP t κ w cs n l) {j : Nat} (hj : j < l.length) {new : List Value} {y : α} (hn : t.rep κ w new y) : ArrP t κ w (splice cs (j * t.size) new) n (l.set j y) := by
  have hl := t.len hn
  have hle : j * t.size + t.size ≤ n * t.size := by
    have : (j + 1) * t.size ≤ n * t.size := Nat.mul_le_mul_right _ (by rw [← h.1]; exact hj)
    rw [Nat.add_mul, Nat.one_mul] at this; exact this
  have hcs := h.2.1
  refine ⟨by rw [List.length_set]; exact h.1, ?_, fun v hv => ?_, fun i x hi => ?_⟩
  · simp only [splice, List.length_append, List.length_take, List.length_drop]; omega
  · simp only [splice, List.append_assoc, List.mem_append] at hv
    rcases hv with hv | hv | hv
    · exact h.2.2.1 v (List.mem_of_mem_take hv)
    · exact t.one hn v hv
    · exact h.2.2.1 v (List.mem_of_mem_drop hv)
  · by_cases e : j = i
    · subst e
      rw [List.getElem?_set_self hj] at hi
      simp only [Option.some.injEq] at hi
      subst hi
      have e1 : (splice cs (j * t.size) new).drop (j * t.size) = new ++ cs.drop (j * t.size + new.length) := by
        have h0 : (cs.take (j * t.size)).length = j * t.size := by simp; omega
        rw [splice, List.append_assoc]
        conv => lhs; arg 1; rw [← h0]
        rw [List.drop_left]
      rw [e1, ← hl, List.take_left]
      exact hn
    · rw [List.getElem?_set_ne e] at hi
      have hr := h.2.2.2 i x hi
      have hil : i < l.length := (List.getElem?_eq_some_iff.1 hi).1
      have hile : i * t.size + t.size ≤ n * t.size := by
        have : (i + 1) * t.size ≤ n * t.size := Nat.mul_le_mul_right _ (by rw [← h.1]; exact hil)
        rw [Nat.add_mul, Nat.one_mul] at this; exact this
      have e1 : ((splice cs (j * t.size) new).drop (i * t.size)).take t.size = (cs.drop (i * t.size)).take t.size := by
        apply List.ext_getElem?
        intro q
        rw [List.getElem?_take, List.getElem?_take]
        split
        · rename_i hq
          rw [List.getElem?_drop, List.getElem?_drop, splice, List.append_assoc]
          rcases Nat.lt_or_ge i j with hij | hij
          · have : i * t.size + t.size ≤ j * t.size := by
              have : (i + 1) * t.size ≤ j * t.size := Nat.mul_le_mul_right _ hij
              rw [Nat.add_mul, Nat.one_mul] at this; exact this
            rw [List.getElem?_append_left (by simp; omega), List.getElem?_take, if_pos (by omega)]
          · have hji : j < i := by omega
            have : j * t.size + t.size ≤ i * t.size := by
              have : (j + 1) * t.size ≤ i * t.size := Nat.mul_le_mul_right _ hji
              rw [Nat.add_mul, Nat.one_mul] at this; exact this
            rw [List.getElem?_append_right (by simp; omega), List.getElem?_append_right (by simp; omega), List.getElem?_drop]
            congr 1
            simp only [List.length_take]
            omega
        · rfl
      rw [e1]
      exact hr
theorem wo_storeATy (hF : Fr N D L a) (hS : SS M κ0 w0 κ w C R) (hc : okOp N L o = true) {α : Type} {t : Ty α} (i k ri : Nat) {b TB T off n m : Nat} {s s' : Segs} {cs new : List Value} {l : List α} {j : Int} {y z : α} {v : Value} {x x' : Operand} (hop : o.op = .store T x x') (hx : ev L x = some (.pointer (some ⟨b, off, none⟩))) (hy : ev L x' = some v) (hv : v.cells = new.toArray)
    (hC : C[i]? = some (.box b TB s)) (hk : s[k]? = some (m, cs)) (hR : R[ri]? = some (Arr.mp t cs n l)) (hj : idx l j = some z) (hrep : t.rep κ w new y) (hm : n * t.size = m) (hoff : tot (s.take k) + j.toNat * t.size = off) (hsz : pureRun P (sizeOf T) = some t.size)
    (hs' : s.set k (m, splice cs (j.toNat * t.size) new) = s') (hC' : C.set i (.box b TB s') = C')
    (kk : ∀ a' w', Fr N D (upd L o.dst undef) a' → SS M κ0 w0 κ w' C' (Arr.mp t (splice cs (j.toNat * t.size) new) n (l.set j.toNat y) :: R) → K a' w') : wo ro P o a w K Q := by
  have hb := hS.ck i hC
  have hA : ArrP t κ w cs n l := hS.get ri hR
  obtain ⟨_, hlt, hyz⟩ := idx_some hj
  have hlen := t.len hrep
  have hle : j.toNat * t.size + t.size ≤ m := by
    rw [← hm]
    have : (j.toNat + 1) * t.size ≤ n * t.size := Nat.mul_le_mul_right _ (by rw [← hA.1]; exact hlt)
    rw [Nat.add_mul, Nat.one_mul] at this; exact this
  have hcs : cs.length = m := by rw [hA.2.1, hm]
  obtain ⟨hkl, hke⟩ := List.getElem?_eq_some_iff.1 hk
  have hse : s = s.take k ++ (m, cs) :: s.drop (k + 1) := by rw [← hke]; exact (take_get_drop s k hkl).symm
  have hsk : s' = s.take k ++ (m, splice cs (j.toNat * t.size) new) :: s.drop (k + 1) := by
    rw [← hs', List.set_eq_take_append_cons_drop, if_pos hkl]
  have hfl : (flat s).length = tot s := flat_length hb.2.1
  have htot : tot s = tot (s.take k) + (m + tot (s.drop (k + 1))) := by
    conv => lhs; rw [hse]
    rw [tot_append]; simp [tot]
  have hst := run_store_cells (P := P) hb (vs := new) (off := off) (by omega) (fun u hu => t.one hrep u hu) hv hsz hlen
  have h2 : (flat (s.take k)).length = tot (s.take k) := flat_length fun y hy => hb.2.1 y (List.mem_of_mem_take hy)
  have hfs : flat s = flat (s.take k) ++ (cs ++ flat (s.drop (k + 1))) := by
    conv => lhs; rw [hse]
    rw [flat_append]; rfl
  have heq : (flat s).take off ++ new ++ (flat s).drop (off + new.length) = flat s' := by
    rw [hsk, flat_append]
    show _ = flat (s.take k) ++ (splice cs (j.toNat * t.size) new ++ flat (s.drop (k + 1)))
    subst hoff
    rw [hfs]
    have e1 : (flat (s.take k) ++ (cs ++ flat (s.drop (k + 1)))).take (tot (s.take k) + j.toNat * t.size) = flat (s.take k) ++ cs.take (j.toNat * t.size) := by
      rw [← h2, List.take_length_add_append, List.take_append_of_le_length (by omega)]
    have e2 : (flat (s.take k) ++ (cs ++ flat (s.drop (k + 1)))).drop (tot (s.take k) + j.toNat * t.size + new.length) = cs.drop (j.toNat * t.size + new.length) ++ flat (s.drop (k + 1)) := by
      rw [← h2, Nat.add_assoc, List.drop_length_add_append, List.drop_append_of_le_length (by omega)]
    rw [e1, e2]
    simp [splice]
  rw [heq] at hst
  have hok : segsOk s' := by
    rw [hsk]
    refine segsOk_append.2 ⟨fun y hy => hb.2.1 y (List.mem_of_mem_take hy), segsOk_cons.2 ⟨?_, fun y hy => hb.2.1 y (List.mem_of_mem_drop hy)⟩⟩
    simp only [splice, List.length_append, List.length_take, List.length_drop]; omega
  have hset : C' = C.take i ++ .box b TB s' :: C.drop (i + 1) := by
    rw [← hC', List.set_eq_take_append_cons_drop, if_pos (List.getElem?_eq_some_iff.1 hC).1]
  have hCe : C = C.take i ++ .box b TB s :: C.drop (i + 1) := by
    obtain ⟨hi, he⟩ := List.getElem?_eq_some_iff.1 hC
    rw [← he]
    exact (take_get_drop C i hi).symm
  refine wo_skip hF hc (exec_store hop hx hy hst) fun a' hF' => kk a' _ hF' ?_
  have hnew := hA.set hlt hrep
  have hS' := (hS.add (m := Arr.mp t (splice cs (j.toNat * t.size) new) n (l.set j.toNat y)) hnew).write (C.take i) (C.drop (i + 1)) hCe hok rfl
  rw [hset]
  exact hS'
end
end Go.Cf
