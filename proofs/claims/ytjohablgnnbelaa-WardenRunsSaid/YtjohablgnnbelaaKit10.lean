/- Part 10: struct literals with parts that aren't known cell by cell; elements of arrays in boxes, in regions that draw their order. -/
import Derived.Test.YtjohablgnnbelaaKit9
import Derived.Laws.Tables
namespace Go.Cf
open Go

section
variable {P : Program} {w : World} {L : FL} {o : Oper} {M : List Nat} {κ0 κ : Gh} {w0 : World} {C : List Ck} {R : List MP}
theorem val_loadElem (i k j : Nat) {b TB T off n sz : Nat} {s : Segs} {l cs : List Value} {x : Operand} (hop : o.op = .load T x) (hx : ev L x = some (.pointer (some ⟨b, off, none⟩)))
    (hC : C[i]? = some (.box b TB s)) (hk : s[k]? = some (n, l)) (hoff : tot (s.take k) + j = off) (hj : j + sz ≤ n) (hg : pureRun P (isAgg T) = some true) (hsz : pureRun P (sizeOf T) = some sz) (hcs : (l.drop j).take sz = cs) :
    ∀ w, SSx M κ0 w0 C R w → (execOp (evD L) o).run P w = .ok (.value (.agg cs.toArray)) w := fun w ⟨κ, hS⟩ => by
  have hb := hS.ck i hC
  have hln : l.length = n := hb.2.1 (n, l) (List.mem_of_getElem? hk)
  subst hcs
  refine exec_load hop hx (run_load_agg hg hsz ?_ ?_)
  · simp; omega
  · intro t v ht
    rw [List.getElem?_take] at ht
    split at ht
    · rename_i hts
      rw [List.getElem?_drop] at ht
      rw [cell_box hb, ← hoff, Nat.add_assoc, segs_at hb.2.1 hk (j + t) (by omega)]
      exact ht
    · cases ht
theorem val_loadATy (i k : Nat) {α : Type} {t : Ty α} {b TB T off n m : Nat} {s : Segs} {cs cs' : List Value} {j : Int} {x : Operand} (hop : o.op = .load T x) (hx : ev L x = some (.pointer (some ⟨b, off, none⟩)))
    (hC : C[i]? = some (.box b TB s)) (hk : s[k]? = some (m, cs)) (hj : 0 ≤ j ∧ j < (n : Int)) (hm : n * t.size = m) (hoff : tot (s.take k) + j.toNat * t.size = off) (hg : pureRun P (isAgg T) = some true) (hsz : pureRun P (sizeOf T) = some t.size)
    (hcs : (cs.drop (j.toNat * t.size)).take t.size = cs') :
    ∀ w, SSx M κ0 w0 C R w → (execOp (evD L) o).run P w = .ok (.value (.agg cs'.toArray)) w := by
  have hle : j.toNat * t.size + t.size ≤ m := by
    rw [← hm]
    have : (j.toNat + 1) * t.size ≤ n * t.size := Nat.mul_le_mul_right _ (by omega)
    rw [Nat.add_mul, Nat.one_mul] at this; exact this
  exact val_loadElem i k (j.toNat * t.size) hop hx hC hk hoff hle hg hsz hcs
theorem val_loadA1 {α : Type} {t : FT α} (i k : Nat) {b TB T off n : Nat} {s : Segs} {l : List α} {j : Int} {y : α} {v : Value} {x : Operand} (hop : o.op = .load T x) (hx : ev L x = some (.pointer (some ⟨b, off, none⟩)))
    (hC : C[i]? = some (.box b TB s)) (hk : s[k]? = some (n, encs t l)) (hj : idx l j = some y) (h1 : t.enc y = [v]) (ht : t.size = 1) (hoff : tot (s.take k) + j.toNat * 1 = off) (hg : pureRun P (isAgg T) = some false) :
    ∀ w, SSx M κ0 w0 C R w → (execOp (evD L) o).run P w = .ok (.value v) w := by
  refine val_load i k (j.toNat * 1) hop hx hC hk ?_ hoff hg
  have := encs_at t l (idx_some hj).2.2 0 v (by rw [h1]; rfl)
  rw [ht] at this
  simpa using this
theorem val_indexArr {T E sz n b off : Nat} {kd : IntKind} {i : Int} {x ix : Operand} (hop : o.op = .indexAddr T x ix)
    (hx : ev L x = some (.pointer (some ⟨b, off, none⟩))) (hix : ev L ix = some (.int kd i)) (hi : 0 ≤ i ∧ i < (n : Int)) (hu : pureRun P (underlying T) = some (.array n E)) (hs : pureRun P (sizeOf E) = some sz) :
    ∀ w : World, (execOp (evD L) o).run P w = .ok (.value (.pointer (some ⟨b, off + i.toNat * sz, none⟩))) w := fun w => by
  simp only [execOp, hop, evD, hx, hix, Option.getD_some]
  simp [Instr.indexAt, Instr.sureAddr, asIntOf, run_underlying' hu, pureRun_run _ hs w, hi.1, hi.2, add_off]
theorem elemATy {α : Type} {t : Ty α} {κ : Gh} {w : World} {cs : List Value} {n : Nat} {l : List α} (h : ArrP t κ w cs n l) {j : Int} {y : α} (hj : idx l j = some y) : t.rep κ w ((cs.drop (j.toNat * t.size)).take t.size) y := h.2.2.2 _ _ (idx_some hj).2.2

/-! ### struct literals -/
/-- where the parts lie, behind off -/
def placesFrom : Nat → List Nat → List (Nat × Nat)
  | _, [] => []
  | off, n :: ns => (off, n) :: placesFrom (off + n) ns
theorem placesFrom_get : ∀ (ns : List Nat) (off i : Nat) (n : Nat), ns[i]? = some n → (placesFrom off ns)[i]? = some (off + (ns.take i).sum, n)
  | m :: ns, off, 0, n, h => by simp at h; subst h; simp [placesFrom]
  | m :: ns, off, i + 1, n, h => by
    simp only [List.getElem?_cons_succ] at h
    simp only [placesFrom, List.getElem?_cons_succ, placesFrom_get ns (off + m) i n h, List.take_succ_cons, List.sum_cons]
    rw [Nat.add_assoc]
theorem setAt_foldl (off : Nat) : ∀ (vs : List Value) (k : Nat) (A B C : List Value), A.length = off + k → B.length = vs.length →
    (((vs.zipIdx k).foldl (fun (cs : Array Value) (x : Value × Nat) => cs.setIfInBounds (off + x.2) x.1) (A ++ B ++ C).toArray)) = (A ++ vs ++ C).toArray
  | [], k, A, B, C, hA, hB => by
    have : B = [] := List.eq_nil_of_length_eq_zero (by simpa using hB)
    subst this; simp
  | v :: vs, k, A, B, C, hA, hB => by
    cases B with
    | nil => simp at hB
    | cons b B =>
      simp only [List.zipIdx_cons, List.foldl_cons]
      have h1 : ((A ++ b :: B ++ C).toArray.setIfInBounds (off + k) v) = ((A ++ [v]) ++ B ++ C).toArray := by
        rw [← hA]
        simp
      rw [h1, setAt_foldl off vs (k + 1) (A ++ [v]) B C (by simp [hA]; omega) (by simpa using hB)]
      simp
theorem rows_split : ∀ (rows : List Segs) (i : Nat) (r : Segs), rows[i]? = some r → ∃ A B, rows = A ++ r :: B ∧ A.length = i ∧ ∀ r', rows.set i r' = A ++ r' :: B := fun rows i r h => by
  have hi := (List.getElem?_eq_some_iff.1 h).1
  have hr := (List.getElem?_eq_some_iff.1 h).2
  refine ⟨rows.take i, rows.drop (i + 1), ?_, by simp; omega, fun r' => ?_⟩
  · rw [← hr]; simp
  · rw [List.set_eq_take_append_cons_drop, if_pos hi]
/-- the literal's cells: each part lies in its place -/
theorem fill_rows : ∀ (parts : List (Nat × Value)) (vals : List (Nat × Segs)) (rows : List Segs) (sizes : List Nat), parts.map (fun p => (p.1, p.2.cells.toList)) = vals.map (fun x => (x.1, flat x.2)) →
    rows.map tot = sizes → (∀ r ∈ rows, segsOk r) → (∀ x ∈ vals, segsOk x.2) → (∀ x ∈ vals, sizes[x.1]? = some (tot x.2)) →
    Instr.fill ((placesFrom 0 sizes).toArray[·]?) (flat rows.flatten).toArray parts = some (flat (vals.foldl (fun r x => r.set x.1 x.2) rows).flatten).toArray := by
  intro parts
  induction parts with
  | nil => intro vals rows sizes hv _ _ _ _; cases vals with
    | nil => rfl
    | cons x vals => simp at hv
  | cons p parts ih =>
    intro vals rows sizes hv hr hok hvok hs
    cases vals with
    | nil => simp at hv
    | cons x vals =>
      obtain ⟨i, v⟩ := p
      obtain ⟨i', s⟩ := x
      simp only [List.map_cons, List.cons.injEq, Prod.mk.injEq] at hv
      obtain ⟨⟨rfl, hcells⟩, hv⟩ := hv
      have hsz := hs (i, s) (by simp)
      simp only at hsz
      have hsok := hvok (i, s) (by simp)
      have hvl : v.cells.size = tot s := by rw [← Array.length_toList, hcells, flat_length hsok]
      have hil : i < rows.length := by
        have := (List.getElem?_eq_some_iff.1 hsz).1
        rw [← hr] at this; simpa using this
      obtain ⟨r0, hr0⟩ : ∃ r0, rows[i]? = some r0 := ⟨_, List.getElem?_eq_getElem hil⟩
      obtain ⟨A, B, hAB, hAl, hset⟩ := rows_split rows i r0 hr0
      have htot : tot r0 = tot s := by
        have := hsz
        rw [← hr, List.getElem?_map, hr0] at this
        simpa using this
      have hokr := hok r0 (List.mem_of_getElem? hr0)
      have hfl : ∀ (X : List Segs), flat X.flatten = (X.map flat).flatten := fun X => by
        induction X with
        | nil => rfl
        | cons y X ihX => simp only [List.flatten_cons, flat_append, List.map_cons, ihX]
      have hAtot : (flat A.flatten).length = (sizes.take i).sum := by
        rw [hfl, List.length_flatten, List.map_map, ← hr]
        have h1 : rows.take i = A := by rw [hAB, ← hAl, List.take_left]
        rw [← List.map_take, h1]
        congr 1
        refine List.map_congr_left fun r hr' => ?_
        exact flat_length (hok r (by rw [hAB]; simp [hr']))
      have hwhole : flat rows.flatten = flat A.flatten ++ flat r0 ++ flat B.flatten := by
        conv => lhs; rw [hAB]
        simp [flat_append]
      have hplace : (placesFrom 0 sizes).toArray[i]? = some ((sizes.take i).sum, tot s) := by
        have := placesFrom_get sizes 0 i _ hsz
        simpa using this
      show (match (placesFrom 0 sizes).toArray[i]? with
        | none => none
        | some (off, size) => if v.cells.size ≠ size || off + v.cells.size > (flat rows.flatten).toArray.size then none
          else Instr.fill ((placesFrom 0 sizes).toArray[·]?) (v.cells.zipIdx.foldl (fun cs (c, j) => cs.setIfInBounds (off + j) c) (flat rows.flatten).toArray) parts) = _
      rw [hplace]
      simp only [hvl, ne_eq, not_true_eq_false, decide_false, Bool.false_or, decide_eq_true_eq, List.size_toArray]
      have hle : ¬ ((sizes.take i).sum + tot s > (flat rows.flatten).length) := by
        rw [hwhole]
        simp only [List.length_append, hAtot, flat_length hokr, htot]
        omega
      rw [if_neg hle]
      have hfold : (v.cells.zipIdx.foldl (fun cs (c, j) => cs.setIfInBounds ((sizes.take i).sum + j) c) (flat rows.flatten).toArray) = (flat (rows.set i s).flatten).toArray := by
        rw [← Array.foldl_toList, Array.toList_zipIdx, hcells, hwhole]
        have h := setAt_foldl (sizes.take i).sum (flat s) 0 (flat A.flatten) (flat r0) (flat B.flatten) (by rw [hAtot]; omega) (by rw [flat_length hokr, flat_length hsok, htot])
        refine h.trans ?_
        rw [hset s]
        simp [flat_append]
      rw [hfold]
      refine ih vals (rows.set i s) sizes hv ?_ ?_ (fun x hx => hvok x (by simp [hx])) (fun x hx => hs x (by simp [hx]))
      · rw [hset s, ← hr]
        conv => rhs; rw [hAB]
        simp [htot]
      · intro r hr'
        rw [hset s] at hr'
        rcases List.mem_append.1 hr' with h | h
        · exact hok r (by rw [hAB]; simp [h])
        · rcases List.mem_cons.1 h with rfl | h
          · exact hsok
          · exact hok r (by rw [hAB]; simp [h])
theorem segGood_sub {vals : List (Nat × Segs)} (h : segGood (vals.flatMap (·.2))) : ∀ x ∈ vals, segsOk x.2 := fun x hx y hy => h.1 y (List.mem_flatMap.2 ⟨x, hx, hy⟩)
def rowsOk (rows : List Segs) : Bool := rows.all fun r => r.all fun x => x.2.length == x.1
theorem rowsOk_spec {rows : List Segs} (h : rowsOk rows = true) : ∀ r ∈ rows, segsOk r := fun r hr x hx => by
  have := List.all_eq_true.1 (List.all_eq_true.1 h r hr) x hx
  simpa using this
def zeroAt (P : Program) (T : Nat) : Option Value := (P.info? T).bind (·.zero)
def placesAt (P : Program) (T : Nat) : Option (List (Nat × Nat)) := match P.underlying T with
  | some (.struct fields) => fields.toList.mapM fun f => (P.info? f.type).map fun i => (f.offset, i.size)
  | _ => none
theorem val_build {T : Nat} {parts : Array (Nat × Operand)} {sizes : List Nat} {rows : List Segs} {vals : List (Nat × Segs)} {s' : Segs} (hop : o.op = .build T parts)
    (hz : zeroAt P T = some (.agg (flat rows.flatten).toArray)) (hpl : placesAt P T = some (placesFrom 0 sizes)) (hrow : rows.map tot = sizes) (hok : rowsOk rows = true)
    (hv : parts.toList.map (fun p => (p.1, (evD L p.2).cells.toList)) = vals.map (fun x => (x.1, flat x.2))) (hg : segGood (vals.flatMap (·.2))) (hs : (vals.all fun x => sizes[x.1]? == some (tot x.2)) = true)
    (hr : (vals.foldl (fun r x => r.set x.1 x.2) rows).flatten = s') : ∀ w, (execOp (evD L) o).run P w = .ok (.value (.agg (flat s').toArray)) w := fun w => by
  subst hr
  have hb : P.built T ((parts.map fun p => (p.1, evD L p.2)).toList) = some (flat (vals.foldl (fun r x => r.set x.1 x.2) rows).flatten).toArray := by
    have hf := fill_rows (parts.map fun p => (p.1, evD L p.2)).toList vals rows sizes (by rw [← hv]; simp) hrow (rowsOk_spec hok) (segGood_sub hg) fun x hx => by
      have := List.all_eq_true.1 hs x hx
      simpa using this
    unfold zeroAt at hz
    unfold placesAt at hpl
    unfold Program.built
    cases hi : P.info? T with
    | none => simp [hi] at hz
    | some it =>
      cases hu : P.underlying T with
      | none => simp [hu] at hpl
      | some d =>
        cases d with
        | struct fields =>
          simp only [hi, Option.bind_some] at hz
          simp only [hu] at hpl
          simp only [hz, hpl]
          exact hf
        | _ => simp [hu] at hpl
  have := run_build w T _ _ hb
  simp only [execOp, hop]
  simp [this]
end
end Go.Cf
