/- Part 3: the operations on memory. -/
import Derived.Test.YtjohablgnnbelaaKit2
namespace Go.Cf
open Go

theorem setRow_eq (w : World) (b T : Nat) (cur arr : Array Value) (h : w.heap[b]? = some (.cells cur T (0, 0))) : w.setRow b arr = { w with heap := w.heap.setIfInBounds b (.cells arr T (0, 0)) } := by
  have e : (w.setRow b arr).heap = w.heap.setIfInBounds b (.cells arr T (0, 0)) := by
    apply Array.ext_getElem?
    intro i
    by_cases hi : i = b
    · subst hi
      have hlt : i < w.heap.size := (Array.getElem?_eq_some_iff.1 h).1
      rw [setRow_heap w i cur arr T (0, 0) h]
      simp [hlt]
    · rw [setRow_other w b i arr hi, Array.getElem?_setIfInBounds_ne (Ne.symm hi)]
  have e2 : w.setRow b arr = { w with heap := (w.setRow b arr).heap } := rfl
  rw [e2, e]

theorem take_get_drop {α : Type} (l : List α) (i : Nat) (h : i < l.length) : l.take i ++ l[i] :: l.drop (i + 1) = l := by
  rw [← List.drop_eq_getElem_cons h, List.take_append_drop]
theorem run_newVar (P : Program) (T : Nat) (v : Value) (w : World) : (newVar T v).run P w = .ok ⟨w.heap.size, 0, none⟩ (w.alloc (.cells v.cells T)) := rfl
theorem segs_at {s : Segs} (h : segsOk s) : ∀ {k n : Nat} {l : List Value}, s[k]? = some (n, l) → ∀ j, j < n → (flat s)[tot (s.take k) + j]? = l[j]? := by
  induction s with
  | nil => intro k n l hk; simp at hk
  | cons x s ih =>
    intro k n l hk j hj
    have hx := h x (by simp)
    have hs : segsOk s := fun y hy => h y (by simp [hy])
    cases k with
    | zero =>
      simp only [List.getElem?_cons_zero, Option.some.injEq] at hk
      subst hk
      simp only at hx
      simp only [flat, List.flatMap_cons, List.take_zero, tot, List.map_nil, List.sum_nil, Nat.zero_add]
      rw [List.getElem?_append_left (by omega)]
    | succ k =>
      simp only [List.getElem?_cons_succ] at hk
      have := ih hs hk j hj
      simp only [flat, List.flatMap_cons, List.take_succ_cons, tot, List.map_cons, List.sum_cons] at this ⊢
      rw [List.getElem?_append_right (by omega)]
      rw [← this]
      congr 1
      omega

section
variable {P : Program} {w : World}
theorem run_isAgg {T : Nat} {g : Bool} (h : pureRun P (isAgg T) = some g) (w : World) : (isAgg T).run P w = .ok g w := pureRun_run _ h w
theorem add_off (b off i : Nat) : (⟨b, off, none⟩ : Addr).add i = ⟨b, off + i, none⟩ := by unfold Addr.add; split <;> simp_all
theorem run_load_scalar {T b off : Nat} {v : Value} (hg : pureRun P (isAgg T) = some false) (hc : w.cell? ⟨b, off, none⟩ = some v) :
    (Instr.loadAt T (.pointer (some ⟨b, off, none⟩))).run P w = .ok v w := by
  simp [Instr.loadAt, Instr.sureAddr, loadVar, run_isAgg hg, load, Sem.run, hc]
theorem run_load_agg {T b off n : Nat} {cs : List Value} (hg : pureRun P (isAgg T) = some true) (hs : pureRun P (sizeOf T) = some n) (hl : cs.length = n) (hc : ∀ j v, cs[j]? = some v → w.cell? ⟨b, off + j, none⟩ = some v) :
    (Instr.loadAt T (.pointer (some ⟨b, off, none⟩))).run P w = .ok (.agg cs.toArray) w := by
  subst hl
  have h := run_loadCells_list (P := P) w ⟨b, off, none⟩ cs fun j v hj => by rw [add_off]; exact hc j v hj
  simp [Instr.loadAt, Instr.sureAddr, loadVar, run_isAgg hg, pureRun_run _ hs w, h]
theorem cell_box {κ : Gh} {b T : Nat} {s : Segs} (h : (Ck.box b T s).ok κ w) (i : Nat) : w.cell? ⟨b, i, none⟩ = (flat s)[i]? := by
  obtain ⟨h1, _, _⟩ := h
  simp [World.cell?, h1]
theorem run_store_cells {κ : Gh} {b T off n : Nat} {s : Segs} (h : (Ck.box b T s).ok κ w) {vs : List Value} (hfit : off + vs.length ≤ (flat s).length) (h1 : ∀ v ∈ vs, v.oneCell' = true) {val : Value} (hv : val.cells = vs.toArray)
    {E : Nat} (hs : pureRun P (sizeOf E) = some n) (hn : vs.length = n) :
    (Instr.storeAt E (.pointer (some ⟨b, off, none⟩)) val).run P w = .ok () { w with heap := w.heap.setIfInBounds b (.cells ((flat s).take off ++ vs ++ (flat s).drop (off + vs.length)).toArray T (0, 0)) } := by
  obtain ⟨h0, _, _⟩ := h
  have h2 := run_storeCells_at P b off T vs 0 (flat s).toArray w h0 (by simpa using hfit) h1
  simp only [Nat.add_zero] at h2
  rw [setRow_eq w b T _ _ h0] at h2
  subst hn
  have e1 : val.cells.toList = vs := by rw [hv]
  have e2 : val.cells.size = vs.length := by rw [hv]; simp
  simp [Instr.storeAt, Instr.sureAddr, storeVar, pureRun_run _ hs w, e1, e2, h2]
end

section
variable {ro : Option Nat} {P : Program} {ops : Array Oper} {Q : Exit → Act → World → Prop} {N : Nat} {D : List Deferred} {L L' : FL} {a : Act} {w : World} {o : Oper} {K : Act → World → Prop}
variable {M : List Nat} {κ0 κ : Gh} {w0 : World} {C C' : List Ck} {R R' : List MP}

abbrev okOp (N : Nat) (L : FL) (o : Oper) : Bool := covers L o && notSelect o && okDst N o

theorem exec_load {T : Nat} {x : Operand} {v p : Value} {w' : World} (hop : o.op = .load T x) (hx : ev L x = some p) (hr : (Instr.loadAt T p).run P w = .ok v w') : (execOp (evD L) o).run P w = .ok (.value v) w' := by
  simp only [execOp, hop, evD, hx, Option.getD_some]
  simp [hr]
/-- a load of one cell of a box: the cell j of the stretch k -/
theorem wo_load (hF : Fr N D L a) (hS : SS M κ0 w0 κ w C R) (hc : okOp N L o = true) (i k j : Nat) {b TB T off n : Nat} {s : Segs} {l : List Value} {v : Value} {x : Operand} (hop : o.op = .load T x) (hx : ev L x = some (.pointer (some ⟨b, off, none⟩)))
    (hC : C[i]? = some (.box b TB s)) (hk : s[k]? = some (n, l)) (hj : l[j]? = some v) (hoff : tot (s.take k) + j = off) (hg : pureRun P (isAgg T) = some false)
    (kk : ∀ a', Fr N D (upd L o.dst v) a' → K a' w) : wo ro P o a w K Q := by
  have hb := hS.ck i hC
  have hjn : j < n := by
    have h1 := hb.2.1 (n, l) (List.mem_of_getElem? hk)
    have h2 := (List.getElem?_eq_some_iff.1 hj).1
    simp only at h1; omega
  refine wo_val hF hc (exec_load hop hx (run_load_scalar hg ?_)) kk
  rw [cell_box hb, ← hoff, segs_at hb.2.1 hk j hjn, hj]
theorem flat_sub {s : Segs} (hs : segsOk s) (k m : Nat) : ∀ j v, (flat ((s.drop k).take m))[j]? = some v → (flat s)[tot (s.take k) + j]? = some v := by
  intro j v hj
  have e : s = s.take k ++ ((s.drop k).take m ++ (s.drop k).drop m) := by rw [List.take_append_drop, List.take_append_drop]
  have hl : (flat (s.take k)).length = tot (s.take k) := flat_length fun y hy => hs y (List.mem_of_mem_take hy)
  have hjl := (List.getElem?_eq_some_iff.1 hj).1
  rw [show flat s = flat (s.take k) ++ (flat ((s.drop k).take m) ++ flat ((s.drop k).drop m)) from by rw [← flat_append, ← flat_append, ← e]]
  rw [List.getElem?_append_right (by omega), hl, Nat.add_sub_cancel_left, List.getElem?_append_left hjl]
  exact hj
/-- a load of a struct or an array: m stretches from the k-th on -/
theorem wo_loads (hF : Fr N D L a) (hS : SS M κ0 w0 κ w C R) (hc : okOp N L o = true) (i k m : Nat) {b TB T off n : Nat} {s s' : Segs} {x : Operand} (hop : o.op = .load T x) (hx : ev L x = some (.pointer (some ⟨b, off, none⟩)))
    (hC : C[i]? = some (.box b TB s)) (hs' : (s.drop k).take m = s') (hoff : tot (s.take k) = off) (hg : pureRun P (isAgg T) = some true) (hsz : pureRun P (sizeOf T) = some n) (hn : tot s' = n)
    (kk : ∀ a', Fr N D (upd L o.dst (.agg (flat s').toArray)) a' → K a' w) : wo ro P o a w K Q := by
  have hb := hS.ck i hC
  subst hs'
  refine wo_val hF hc (exec_load hop hx (run_load_agg hg hsz ?_ ?_)) kk
  · rw [← hn]; exact flat_length fun y hy => hb.2.1 y (List.mem_of_mem_drop (List.mem_of_mem_take hy))
  · intro j v hj
    rw [cell_box hb, ← hoff]
    exact flat_sub hb.2.1 k m j v hj
/-- a load of an element of an array in a box -/
theorem wo_loadElem (hF : Fr N D L a) (hS : SS M κ0 w0 κ w C R) (hc : okOp N L o = true) (i k j : Nat) {b TB T off n sz : Nat} {s : Segs} {l : List Value} {x : Operand} (hop : o.op = .load T x) (hx : ev L x = some (.pointer (some ⟨b, off, none⟩)))
    (hC : C[i]? = some (.box b TB s)) (hk : s[k]? = some (n, l)) (hoff : tot (s.take k) + j = off) (hj : j + sz ≤ n) (hg : pureRun P (isAgg T) = some true) (hsz : pureRun P (sizeOf T) = some sz)
    (kk : ∀ a', Fr N D (upd L o.dst (.agg ((l.drop j).take sz).toArray)) a' → K a' w) : wo ro P o a w K Q := by
  have hb := hS.ck i hC
  have hln : l.length = n := hb.2.1 (n, l) (List.mem_of_getElem? hk)
  refine wo_val hF hc (exec_load hop hx (run_load_agg hg hsz ?_ ?_)) kk
  · simp; omega
  · intro t v ht
    rw [List.getElem?_take] at ht
    split at ht
    · rename_i hts
      rw [List.getElem?_drop] at ht
      rw [cell_box hb, ← hoff, Nat.add_assoc, segs_at hb.2.1 hk (j + t) (by omega)]
      exact ht
    · cases ht

theorem exec_store {T : Nat} {x y : Operand} {v p : Value} {w' : World} (hop : o.op = .store T x y) (hx : ev L x = some p) (hy : ev L y = some v) (hr : (Instr.storeAt T p v).run P w = .ok () w') : (execOp (evD L) o).run P w = .ok .skip w' := by
  simp only [execOp, hop, evD, hx, hy, Option.getD_some]
  simp [hr]
theorem tot_take_drop (s : Segs) (k : Nat) : tot s = tot (s.take k) + tot (s.drop k) := by rw [← tot_append, List.take_append_drop]
theorem segs_split {s : Segs} {k m : Nat} (hs : segsOk s) {off n : Nat} (hoff : tot (s.take k) = off) (hn : tot ((s.drop k).take m) = n) (vs : List Value) :
    (flat s).take off ++ vs ++ (flat s).drop (off + n) = flat (s.take k) ++ vs ++ flat (s.drop (k + m)) := by
  subst hoff hn
  have e : s = s.take k ++ ((s.drop k).take m ++ s.drop (k + m)) := by
    rw [← List.drop_drop, List.take_append_drop, List.take_append_drop]
  have h1 : (flat (s.take k)).length = tot (s.take k) := flat_length fun y hy => hs y (List.mem_of_mem_take hy)
  have h2 : (flat ((s.drop k).take m)).length = tot ((s.drop k).take m) := flat_length fun y hy => hs y (List.mem_of_mem_drop (List.mem_of_mem_take hy))
  have ef : flat s = flat (s.take k) ++ (flat ((s.drop k).take m) ++ flat (s.drop (k + m))) := by rw [← flat_append, ← flat_append, ← e]
  have et : (flat s).take (tot (s.take k)) = flat (s.take k) := by
    rw [ef, ← h1]; exact List.take_left
  have ed : (flat s).drop (tot (s.take k) + tot ((s.drop k).take m)) = flat (s.drop (k + m)) := by
    rw [ef, ← h1, ← h2, ← List.drop_drop, List.drop_left, List.drop_left]
  rw [et, ed]
/-- a store of m stretches from the k-th on -/
theorem wo_stores (hF : Fr N D L a) (hS : SS M κ0 w0 κ w C R) (hc : okOp N L o = true) (i k m : Nat) {b TB T off n : Nat} {s s' t : Segs} {x y : Operand} {v : Value} (hop : o.op = .store T x y) (hx : ev L x = some (.pointer (some ⟨b, off, none⟩))) (hy : ev L y = some v)
    (hC : C[i]? = some (.box b TB s)) (hoff : tot (s.take k) = off) (hsz : pureRun P (sizeOf T) = some n) (hn : tot ((s.drop k).take m) = n) (hn' : tot s' = n) (hs' : segsOk s') (h1 : ∀ u ∈ flat s', u.oneCell' = true) (hv : v.cells = (flat s').toArray) (ht : s.take k ++ s' ++ s.drop (k + m) = t)
    (hC' : C.set i (.box b TB t) = C')
    (kk : ∀ a' w', Fr N D (upd L o.dst undef) a' → SS M κ0 w0 κ w' C' R → K a' w') : wo ro P o a w K Q := by
  have hb := hS.ck i hC
  have hls : (flat s').length = n := by rw [flat_length hs', hn']
  have hfl : (flat s).length = tot s := flat_length hb.2.1
  have htot : tot s = tot (s.take k) + (tot ((s.drop k).take m) + tot ((s.drop k).drop m)) := by
    rw [tot_take_drop s k, tot_take_drop (s.drop k) m]
  have hst := run_store_cells (P := P) hb (vs := flat s') (off := off) (by omega) h1 hv hsz hls
  rw [hls, segs_split hb.2.1 hoff hn] at hst
  have hok : segsOk t := by
    subst ht
    refine segsOk_append.2 ⟨segsOk_append.2 ⟨fun y hy => hb.2.1 y (List.mem_of_mem_take hy), hs'⟩, fun y hy => hb.2.1 y (List.mem_of_mem_drop hy)⟩
  have hset : C' = C.take i ++ .box b TB t :: C.drop (i + 1) := by
    rw [← hC', List.set_eq_take_append_cons_drop, if_pos (List.getElem?_eq_some_iff.1 hC).1]
  have hCe : C = C.take i ++ .box b TB s :: C.drop (i + 1) := by
    obtain ⟨hi, he⟩ := List.getElem?_eq_some_iff.1 hC
    rw [← he]
    exact (take_get_drop C i hi).symm
  refine wo_skip hF hc (exec_store hop hx hy hst) fun a' hF' => kk a' _ hF' ?_
  rw [hset]
  exact hS.write (C.take i) (C.drop (i + 1)) hCe hok (by rw [← ht, flat_append, flat_append])
/-- a store into one cell j of the stretch k -/
theorem wo_store (hF : Fr N D L a) (hS : SS M κ0 w0 κ w C R) (hc : okOp N L o = true) (i k j : Nat) {b TB T off n : Nat} {s t : Segs} {l l' : List Value} {x y : Operand} {v : Value} (hop : o.op = .store T x y) (hx : ev L x = some (.pointer (some ⟨b, off, none⟩))) (hy : ev L y = some v)
    (hC : C[i]? = some (.box b TB s)) (hk : s[k]? = some (n, l)) (hj : j < n) (hoff : tot (s.take k) + j = off) (hsz : pureRun P (sizeOf T) = some 1) (h1 : v.oneCell' = true) (hl' : l.set j v = l') (ht : s.set k (n, l') = t)
    (hC' : C.set i (.box b TB t) = C')
    (kk : ∀ a' w', Fr N D (upd L o.dst undef) a' → SS M κ0 w0 κ w' C' R → K a' w') : wo ro P o a w K Q := by
  have hb := hS.ck i hC
  have hln : l.length = n := hb.2.1 (n, l) (List.mem_of_getElem? hk)
  subst hl' ht hC'
  have hfl : (flat s).length = tot s := flat_length hb.2.1
  obtain ⟨hkl, hke⟩ := List.getElem?_eq_some_iff.1 hk
  have hse : s = s.take k ++ (n, l) :: s.drop (k + 1) := by rw [← hke]; exact (take_get_drop s k hkl).symm
  have htot : tot s = tot (s.take k) + (n + tot (s.drop (k + 1))) := by
    conv => lhs; rw [hse]
    rw [tot_append]; simp [tot]
  have hcells : v.cells = [v].toArray := by cases v <;> first | rfl | (simp [Value.oneCell'] at h1)
  have hst := run_store_cells (P := P) hb (vs := [v]) (off := off) (by simp; omega) (by simpa using h1) hcells hsz rfl
  have hset : C.set i (.box b TB (s.set k (n, l.set j v))) = C.take i ++ .box b TB (s.set k (n, l.set j v)) :: C.drop (i + 1) := by
    rw [List.set_eq_take_append_cons_drop, if_pos (List.getElem?_eq_some_iff.1 hC).1]
  have hCe : C = C.take i ++ .box b TB s :: C.drop (i + 1) := by
    obtain ⟨hi, he⟩ := List.getElem?_eq_some_iff.1 hC
    rw [← he]
    exact (take_get_drop C i hi).symm
  have hsk : s.set k (n, l.set j v) = s.take k ++ (n, l.set j v) :: s.drop (k + 1) := by
    rw [List.set_eq_take_append_cons_drop, if_pos hkl]
  have hok : segsOk (s.set k (n, l.set j v)) := by
    rw [hsk]
    refine segsOk_append.2 ⟨fun y hy => hb.2.1 y (List.mem_of_mem_take hy), segsOk_cons.2 ⟨by simpa using hln, fun y hy => hb.2.1 y (List.mem_of_mem_drop hy)⟩⟩
  have hfs : flat s = flat (s.take k) ++ (l ++ flat (s.drop (k + 1))) := by
    conv => lhs; rw [hse]
    rw [flat_append]; rfl
  have h2 : (flat (s.take k)).length = tot (s.take k) := flat_length fun y hy => hb.2.1 y (List.mem_of_mem_take hy)
  have heq : (flat s).take off ++ [v] ++ (flat s).drop (off + [v].length) = flat (s.set k (n, l.set j v)) := by
    rw [hsk, flat_append]
    show _ = flat (s.take k) ++ (l.set j v ++ flat (s.drop (k + 1)))
    subst hoff
    rw [hfs]
    have e1 : (flat (s.take k) ++ (l ++ flat (s.drop (k + 1)))).take (tot (s.take k) + j) = flat (s.take k) ++ l.take j := by
      rw [← h2, List.take_length_add_append, List.take_append_of_le_length (by omega)]
    have e2 : (flat (s.take k) ++ (l ++ flat (s.drop (k + 1)))).drop (tot (s.take k) + j + [v].length) = l.drop (j + 1) ++ flat (s.drop (k + 1)) := by
      rw [← h2, List.length_singleton, Nat.add_assoc, List.drop_length_add_append, List.drop_append_of_le_length (by omega)]
    rw [e1, e2, List.set_eq_take_append_cons_drop, if_pos (by omega)]
    simp
  rw [heq] at hst
  refine wo_skip hF hc (exec_store hop hx hy hst) fun a' hF' => kk a' _ hF' ?_
  rw [hset]
  exact hS.write (C.take i) (C.drop (i + 1)) hCe hok rfl
/-- a new variable -/
theorem wo_alloc (hF : Fr N D L a) (hS : SS M κ0 w0 κ w C R) (hc : okOp N L o = true) {T : Nat} {z : Value} {s : Segs} (hop : o.op = .alloc T) (hz : pureRun P (zeroValue T) = some z) (hs : segsOk s) (hzs : z.cells = (flat s).toArray)
    (kk : ∀ b a' w', Fr N D (upd L o.dst (.pointer (some ⟨b, 0, none⟩))) a' → SS M κ0 w0 κ w' (.box b T s :: C) R → K a' w') : wo ro P o a w K Q := by
  refine wo_val hF hc (v := .pointer (some ⟨w.heap.size, 0, none⟩)) (w' := w.alloc (.cells (flat s).toArray T (0, 0))) ?_ fun a' hF' => kk _ a' _ hF' (hS.alloc T s hs _ rfl)
  simp only [execOp, hop]
  simp [Instr.alloc, pureRun_run _ hz w, run_newVar, hzs]
theorem wo_box (hF : Fr N D L a) (hS : SS M κ0 w0 κ w C R) (hc : okOp N L o = true) {T : Nat} {v : Value} {x : Operand} {s : Segs} (hop : o.op = .box T x) (hx : ev L x = some v) (hs : segsOk s) (hvs : v.cells = (flat s).toArray)
    (kk : ∀ b a' w', Fr N D (upd L o.dst (.pointer (some ⟨b, 0, none⟩))) a' → SS M κ0 w0 κ w' (.box b T s :: C) R → K a' w') : wo ro P o a w K Q := by
  refine wo_val hF hc (v := .pointer (some ⟨w.heap.size, 0, none⟩)) (w' := w.alloc (.cells (flat s).toArray T (0, 0))) ?_ fun a' hF' => kk _ a' _ hF' (hS.alloc T s hs _ rfl)
  simp only [execOp, hop, evD, hx, Option.getD_some]
  simp [Instr.box, run_newVar, hvs]
end
end Go.Cf
