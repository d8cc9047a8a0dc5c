/- Part 10: struct literals with parts that aren't known cell by cell; elements of arrays in boxes, in regions that draw their order. -/
import Derived.Laws.Tables
import Derived.RangeFuncIn
import Derived.RangeFuncRecord
import Derived.RangeFuncSeq
import Derived.RangeFuncLeaves
import Derived.Deep.Slices
import Derived.WideKeyArgs
import Derived.Carry
import Derived.MapKept
import Derived.Laws.Strings
import Derived.Maps.RangeRun
import Derived.Laws.MakeOwn
import Derived.Scope
import Derived.LoopNIn
import Derived.Test.YtogjpknjolkjaaaZK1
namespace Go.Cf
open Go
section
variable {P : Program} {w : World} {L : FL} {o : Oper} {M : List Nat} {κ0 κ : Gh} {w0 : World} {C : List Ck} {R : List MP}
theorem val_loadElem (i k j : Nat) {b TB T off n sz : Nat} {s : Segs} {l cs : List Value} {x : Operand} (hop : o.op = .load T x) (hx : ev L x = some (.pointer (some ⟨b, off, none⟩)))
    (hC : C[i]? = some (.box b TB s)) (hk : s[k]? = some (n, l)) (hoff : tot (s.take k) + j = off) (hj : j + sz ≤ n) (hg : pureRun P (isAgg T) = some true) (hsz : pureRun P (sizeOf T) = some sz) (hcs : (l.drop j).take sz = cs) :
    ∀ w, SSx M κ0 w0 C R w → (execOp (evD L) o).run P w = .ok (.value (.agg cs.toArray)) w := fun w ⟨κ, hS⟩ => by
  have hb := hS.ck i hC
  have hln : l.length = n := hb.2.1 (n, l) (List.mem_of_getElem? hk)
  subst hcs
  refine exec_load hop hx (run_load_agg hg hsz ?_ ?_)
  · simp; omega
  · intro t v ht
    rw [List.getElem?_take] at ht
    split at ht
    · rename_i hts
      rw [List.getElem?_drop] at ht
      rw [cell_box hb, ← hoff, Nat.add_assoc, segs_at hb.2.1 hk (j + t) (by omega)]
      exact ht
    · cases ht
theorem val_loadATy (i k : Nat) {α : Type} {t : Ty α} {b TB T off n m : Nat} {s : Segs} {cs cs' : List Value} {j : Int} {x : Operand} (hop : o.op = .load T x) (hx : ev L x = some (.pointer (some ⟨b, off, none⟩)))
    (hC : C[i]? = some (.box b TB s)) (hk : s[k]? = some (m, cs)) (hj : 0 ≤ j ∧ j < (n : Int)) (hm : n * t.size = m) (hoff : tot (s.take k) + j.toNat * t.size = off) (hg : pureRun P (isAgg T) = some true) (hsz : pureRun P (sizeOf T) = some t.size)
    (hcs : (cs.drop (j.toNat * t.size)).take t.size = cs') :
    ∀ w, SSx M κ0 w0 C R w → (execOp (evD L) o).run P w = .ok (.value (.agg cs'.toArray)) w := by
  have hle : j.toNat * t.size + t.size ≤ m := by
    rw [← hm]
    have : (j.toNat + 1) * t.size ≤ n * t.size := Nat.mul_le_mul_right _ (by omega)
    rw [Nat.add_mul, Nat.one_mul] at this; exact this
  exact val_loadElem i k (j.toNat * t.size) hop hx hC hk hoff hle hg hsz hcs
theorem val_loadA1 {α : Type} {t : FT α} (i k : Nat) {b TB T off n : Nat} {s : Segs} {l : List α} {j : Int} {y : α} {v : Value} {x : Operand} (hop : o.op = .load T x) (hx : ev L x = some (.pointer (some ⟨b, off, none⟩)))
    (hC : C[i]? = some (.box b TB s)) (hk : s[k]? = some (n, encs t l)) (hj : idx l j = some y) (h1 : t.enc y = [v]) (ht : t.size = 1) (hoff : tot (s.take k) + j.toNat * 1 = off) (hg : pureRun P (isAgg T) = some false) :
    ∀ w, SSx M κ0 w0 C R w → (execOp (evD L) o).run P w = .ok (.value v) w := by
  refine val_load i k (j.toNat * 1) hop hx hC hk ?_ hoff hg
  have := encs_at t l (idx_some hj).2.2 0 v (by rw [h1]; rfl)
  rw [ht] at this
  simpa using this
theorem val_indexArr {T E sz n b off : Nat} {kd : IntKind} {i : Int} {x ix : Operand} (hop : o.op = .indexAddr T x ix)
    (hx : ev L x = some (.pointer (some ⟨b, off, none⟩))) (hix : ev L ix = some (.int kd i)) (hi : 0 ≤ i ∧ i < (n : Int)) (hu : pureRun P (underlying T) = some (.array n E)) (hs : pureRun P (sizeOf E) = some sz) :
    ∀ w : World, (execOp (evD L) o).run P w = .ok (.value (.pointer (some ⟨b, off + i.toNat * sz, none⟩))) w := fun w => by
  simp only [execOp, hop, evD, hx, hix, Option.getD_some]
  simp [Instr.indexAt, Instr.sureAddr, asIntOf, run_underlying' hu, pureRun_run _ hs w, hi.1, hi.2, add_off]
theorem elemATy {α : Type} {t : Ty α} {κ : Gh} {w : World} {cs : List Value} {n : Nat} {l : List α} (h : ArrP t κ w cs n l) {j : Int} {y : α} (hj : idx l j = some y) : t.rep κ w ((cs.drop (j.toNat * t.size)).take t.size) y := h.2.2.2 _ _ (idx_some hj).2.2
/-- where the parts lie, behind off -/
def placesFrom : Nat → List Nat → List (Nat × Nat)
  | _, [] => []
  | off, n :: ns => (off, n) :: placesFrom (off + n) ns
theorem placesFrom_get : ∀ (ns : List Nat) (off i : Nat) (n : Nat), ns[i]? = some n → (placesFrom off ns)[i]? = some (off + (ns.take i).sum, n)
  | m :: ns, off, 0, n, h => by simp at h; subst h; simp [placesFrom]
  | m :: ns, off, i + 1, n, h => by
    simp only [List.getElem?_cons_succ] at h
    simp only [placesFrom, List.getElem?_cons_succ, placesFrom_get ns (off + m) i n h, List.take_succ_cons, List.sum_cons]
    rw [Nat.add_assoc]
theorem setAt_foldl (off : Nat) : ∀ (vs : List Value) (k : Nat) (A B C : List Value), A.length = off + k → B.length = vs.length →
    (((vs.zipIdx k).foldl (fun (cs : Array Value) (x : Value × Nat) => cs.setIfInBounds (off + x.2) x.1) (A ++ B ++ C).toArray)) = (A ++ vs ++ C).toArray
  | [], k, A, B, C, hA, hB => by
    have : B = [] := List.eq_nil_of_length_eq_zero (by simpa using hB)
    subst this; simp
  | v :: vs, k, A, B, C, hA, hB => by
    cases B with
    | nil => simp at hB
    | cons b B =>
      simp only [List.zipIdx_cons, List.foldl_cons]
      have h1 : ((A ++ b :: B ++ C).toArray.setIfInBounds (off + k) v) = ((A ++ [v]) ++ B ++ C).toArray := by
        rw [← hA]
        simp
      rw [h1, setAt_foldl off vs (k + 1) (A ++ [v]) B C (by simp [hA]; omega) (by simpa using hB)]
      simp
theorem rows_split : ∀ (rows : List Segs) (i : Nat) (r : Segs), rows[i]? = some r → ∃ A B, rows = A ++ r :: B ∧ A.length = i ∧ ∀ r', rows.set i r' = A ++ r' :: B := fun rows i r h => by
  have hi := (List.getElem?_eq_some_iff.1 h).1
  have hr := (List.getElem?_eq_some_iff.1 h).2
  refine ⟨rows.take i, rows.drop (i + 1), ?_, by simp; omega, fun r' => ?_⟩
  · rw [← hr]; simp
  · rw [List.set_eq_take_append_cons_drop, if_pos hi]
/-- the literal's cells: each part lies in its place -/
theorem fill_rows : ∀ (parts : List (Nat × Value)) (vals : List (Nat × Segs)) (rows : List Segs) (sizes : List Nat), parts.map (fun p => (p.1, p.2.cells.toList)) = vals.map (fun x => (x.1, flat x.2)) →
    rows.map tot = sizes → (∀ r ∈ rows, segsOk r) → (∀ x ∈ vals, segsOk x.2) → (∀ x ∈ vals, sizes[x.1]? = some (tot x.2)) →
    Instr.fill ((placesFrom 0 sizes).toArray[·]?) (flat rows.flatten).toArray parts = some (flat (vals.foldl (fun r x => r.set x.1 x.2) rows).flatten).toArray := by
  intro parts
  induction parts with
  | nil => intro vals rows sizes hv _ _ _ _; cases vals with
    | nil => rfl
    | cons x vals => simp at hv
  | cons p parts ih =>
    intro vals rows sizes hv hr hok hvok hs
    cases vals with
    | nil => simp at hv
    | cons x vals =>
      obtain ⟨i, v⟩ := p
      obtain ⟨i', s⟩ := x
      simp only [List.map_cons, List.cons.injEq, Prod.mk.injEq] at hv
      obtain ⟨⟨rfl, hcells⟩, hv⟩ := hv
      have hsz := hs (i, s) (by simp)
      simp only at hsz
      have hsok := hvok (i, s) (by simp)
      have hvl : v.cells.size = tot s := by rw [← Array.length_toList, hcells, flat_length hsok]
      have hil : i < rows.length := by
        have := (List.getElem?_eq_some_iff.1 hsz).1
        rw [← hr] at this; simpa using this
      obtain ⟨r0, hr0⟩ : ∃ r0, rows[i]? = some r0 := ⟨_, List.getElem?_eq_getElem hil⟩
      obtain ⟨A, B, hAB, hAl, hset⟩ := rows_split rows i r0 hr0
      have htot : tot r0 = tot s := by
        have := hsz
        rw [← hr, List.getElem?_map, hr0] at this
        simpa using this
      have hokr := hok r0 (List.mem_of_getElem? hr0)
      have hfl : ∀ (X : List Segs), flat X.flatten = (X.map flat).flatten := fun X => by
        induction X with
        | nil => rfl
        | cons y X ihX => simp only [List.flatten_cons, flat_append, List.map_cons, ihX]
      have hAtot : (flat A.flatten).length = (sizes.take i).sum := by
        rw [hfl, List.length_flatten, List.map_map, ← hr]
        have h1 : rows.take i = A := by rw [hAB, ← hAl, List.take_left]
        rw [← List.map_take, h1]
        congr 1
        refine List.map_congr_left fun r hr' => ?_
        exact flat_length (hok r (by rw [hAB]; simp [hr']))
      have hwhole : flat rows.flatten = flat A.flatten ++ flat r0 ++ flat B.flatten := by
        conv => lhs; rw [hAB]
        simp [flat_append]
      have hplace : (placesFrom 0 sizes).toArray[i]? = some ((sizes.take i).sum, tot s) := by
        have := placesFrom_get sizes 0 i _ hsz
        simpa using this
      show (match (placesFrom 0 sizes).toArray[i]? with
        | none => none
        | some (off, size) => if v.cells.size ≠ size || off + v.cells.size > (flat rows.flatten).toArray.size then none
          else Instr.fill ((placesFrom 0 sizes).toArray[·]?) (v.cells.zipIdx.foldl (fun cs (c, j) => cs.setIfInBounds (off + j) c) (flat rows.flatten).toArray) parts) = _
      rw [hplace]
      simp only [hvl, ne_eq, not_true_eq_false, decide_false, Bool.false_or, decide_eq_true_eq, List.size_toArray]
      have hle : ¬ ((sizes.take i).sum + tot s > (flat rows.flatten).length) := by
        rw [hwhole]
        simp only [List.length_append, hAtot, flat_length hokr, htot]
        omega
      rw [if_neg hle]
      have hfold : (v.cells.zipIdx.foldl (fun cs (c, j) => cs.setIfInBounds ((sizes.take i).sum + j) c) (flat rows.flatten).toArray) = (flat (rows.set i s).flatten).toArray := by
        rw [← Array.foldl_toList, Array.toList_zipIdx, hcells, hwhole]
        have h := setAt_foldl (sizes.take i).sum (flat s) 0 (flat A.flatten) (flat r0) (flat B.flatten) (by rw [hAtot]; omega) (by rw [flat_length hokr, flat_length hsok, htot])
        refine h.trans ?_
        rw [hset s]
        simp [flat_append]
      rw [hfold]
      refine ih vals (rows.set i s) sizes hv ?_ ?_ (fun x hx => hvok x (by simp [hx])) (fun x hx => hs x (by simp [hx]))
      · rw [hset s, ← hr]
        conv => rhs; rw [hAB]
        simp [htot]
      · intro r hr'
        rw [hset s] at hr'
        rcases List.mem_append.1 hr' with h | h
        · exact hok r (by rw [hAB]; simp [h])
        · rcases List.mem_cons.1 h with rfl | h
          · exact hsok
          · exact hok r (by rw [hAB]; simp [h])
theorem segGood_sub {vals : List (Nat × Segs)} (h : segGood (vals.flatMap (·.2))) : ∀ x ∈ vals, segsOk x.2 := fun x hx y hy => h.1 y (List.mem_flatMap.2 ⟨x, hx, hy⟩)
def rowsOk (rows : List Segs) : Bool := rows.all fun r => r.all fun x => x.2.length == x.1
theorem rowsOk_spec {rows : List Segs} (h : rowsOk rows = true) : ∀ r ∈ rows, segsOk r := fun r hr x hx => by
  have := List.all_eq_true.1 (List.all_eq_true.1 h r hr) x hx
  simpa using this
def zeroAt (P : Program) (T : Nat) : Option Value := (P.info? T).bind (·.zero)
def placesAt (P : Program) (T : Nat) : Option (List (Nat × Nat)) := match P.underlying T with
  | some (.struct fields) => fields.toList.mapM fun f => (P.info? f.type).map fun i => (f.offset, i.size)
  | _ => none
theorem val_build {T : Nat} {parts : Array (Nat × Operand)} {sizes : List Nat} {rows : List Segs} {vals : List (Nat × Segs)} {s' : Segs} (hop : o.op = .build T parts)
    (hz : zeroAt P T = some (.agg (flat rows.flatten).toArray)) (hpl : placesAt P T = some (placesFrom 0 sizes)) (hrow : rows.map tot = sizes) (hok : rowsOk rows = true)
    (hv : parts.toList.map (fun p => (p.1, (evD L p.2).cells.toList)) = vals.map (fun x => (x.1, flat x.2))) (hg : segGood (vals.flatMap (·.2))) (hs : (vals.all fun x => sizes[x.1]? == some (tot x.2)) = true)
    (hr : (vals.foldl (fun r x => r.set x.1 x.2) rows).flatten = s') : ∀ w, (execOp (evD L) o).run P w = .ok (.value (.agg (flat s').toArray)) w := fun w => by
  subst hr
  have hb : P.built T ((parts.map fun p => (p.1, evD L p.2)).toList) = some (flat (vals.foldl (fun r x => r.set x.1 x.2) rows).flatten).toArray := by
    have hf := fill_rows (parts.map fun p => (p.1, evD L p.2)).toList vals rows sizes (by rw [← hv]; simp) hrow (rowsOk_spec hok) (segGood_sub hg) fun x hx => by
      have := List.all_eq_true.1 hs x hx
      simpa using this
    unfold zeroAt at hz
    unfold placesAt at hpl
    unfold Program.built
    cases hi : P.info? T with
    | none => simp [hi] at hz
    | some it =>
      cases hu : P.underlying T with
      | none => simp [hu] at hpl
      | some d =>
        cases d with
        | struct fields =>
          simp only [hi, Option.bind_some] at hz
          simp only [hu] at hpl
          simp only [hz, hpl]
          exact hf
        | _ => simp [hu] at hpl
  have := run_build w T _ _ hb
  simp only [execOp, hop]
  simp [this]
end
end Go.Cf
namespace Go.Cf
open Go
theorem keptBut_of {w w' : World} (h : ∀ i, i < w.heap.size → w'.heap[i]? = w.heap[i]?) (ho : w'.os = w.os) (ht : w'.output = w.output) (may : MemPlace → Prop) : w.keptBut w' may := by
  refine ⟨ho, ht, fun i hi => ?_⟩
  rw [h i hi]
  cases hx : w.heap[i]? with
  | none => rfl
  | some o => cases o <;> simp
theorem Ext.grown {κ κ' : Gh} {w w' : World} (h : Ext [] κ w κ' w') : w.keptBut w' (fun _ => False) :=
  keptBut_of (fun i hi => (h.keep i hi (by simp)).1) h.os h.out _
end Go.Cf
namespace Go.Cf
open Go
section
variable {M : List Nat} {κ0 κ κ' : Gh} {w0 w w' : World} {C C' : List Ck} {R R' : List MP}
/-- a step that turns blocks that none of the chunks has -/
theorem SS.stepM (h : SS M κ0 w0 κ w C R) {M' : List Nat} (he : Ext M' κ w κ' w') (hf : Fresh κ' w') (hM : ∀ b ∈ M', w0.heap.size ≤ b ∨ b ∈ M) (hd : ∀ b ∈ blksOf C, b ∉ M') : SS M κ0 w0 κ' w' C R where
  ext := h.ext.trans' he hM
  fresh := hf
  ok := fun c hc => Ck.ok_keep (h.ok c hc) (fun b hb => h.lt b (List.mem_flatMap.2 ⟨c, hc, hb⟩)) he fun b hb => hd b (List.mem_flatMap.2 ⟨c, hc, hb⟩)
  lt := fun b hb => Nat.lt_of_lt_of_le (h.lt b hb) he.size
  nd := h.nd
  own := h.own
  ro := fun m hm => m.mono he (h.ro m hm)
/-- the history is let go -/
theorem SS.rebase (h : SS M κ0 w0 κ w C R) : SS (blksOf C) κ w κ w C R := ⟨.refl _ _ _, h.fresh, h.ok, h.lt, h.nd, fun _ hb => .inr hb, h.ro⟩
def notCells (o : Obj) : Prop := ∀ c t fr, o ≠ .cells c t fr
theorem Ext.put {l : Nat} {o o' : Obj} (h : w.heap[l]? = some o') (hk : κ l = none) (ho' : notCells o') (ho : notCells o) : Ext [l] κ w κ (w.putObj l o) where
  os := rfl
  out := rfl
  tape := rfl
  size := by simp
  keep := fun b _ hb => ⟨World.putObj_heap_other (by simpa using hb), rfl⟩
  pub := fun b n hn => ⟨n, hn, Nat.le_refl _, fun i _ => cell_of_heap (World.putObj_heap_other fun e => by rw [e, hk] at hn; cases hn)⟩
theorem Ext.allocN (hf : Fresh κ w) (o : Obj) (ho : notCells o) : Ext [] κ w κ (w.alloc o) where
  os := rfl
  out := rfl
  tape := rfl
  size := by rw [size_alloc]; omega
  keep := fun b hb _ => ⟨heap_alloc_old w o b hb, rfl⟩
  pub := fun b n hn => ⟨n, hn, Nat.le_refl _, fun i _ => cell_of_heap (heap_alloc_old w o b (by
    rcases Nat.lt_or_ge b w.heap.size with h | h
    · exact h
    · rw [hf b h] at hn; cases hn))⟩
/-- what the caller of an iterator keeps between rounds: the block of the deferred calls, the loop's record, his chunks and facts -/
def mkX (r l : Nat) (rc : Loop) (C : List Ck) (R : List MP) : XF where
  bs := r :: l :: blksOf C
  p := fun κ w => (w.heap[r]? = some (.deferred (some [])) ∧ κ r = none) ∧ (w.heap[l]? = some (.loop rc) ∧ κ l = none) ∧ (∀ c ∈ C, c.ok κ w) ∧ ∀ m ∈ R, m.p κ w
  mono := fun {M κ w κ' w'} he hb ⟨⟨h1, h2⟩, ⟨h3, h4⟩, h5, h6⟩ => by
    obtain ⟨r1, r2⟩ := hb r (by simp)
    obtain ⟨l1, l2⟩ := hb l (by simp)
    obtain ⟨k1, k2⟩ := he.keep r r1 r2
    obtain ⟨k3, k4⟩ := he.keep l l1 l2
    have hin : ∀ c ∈ C, ∀ b ∈ c.blks, b < w.heap.size ∧ b ∉ M := fun c hc b hbc => hb b (by
      simp only [List.mem_cons]; exact .inr (.inr (List.mem_flatMap.2 ⟨c, hc, hbc⟩)))
    exact ⟨⟨k1.trans h1, k2.trans h2⟩, ⟨k3.trans h3, k4.trans h4⟩, fun c hc => Ck.ok_keep (h5 c hc) (fun b hbc => (hin c hc b hbc).1) he fun b hbc => (hin c hc b hbc).2, fun m hm => m.mono he (h6 m hm)⟩
/-- the block of the deferred calls, alone -/
def defX (r : Nat) : XF where
  bs := [r]
  p := fun κ w => w.heap[r]? = some (.deferred (some [])) ∧ κ r = none
  mono := fun {M κ w κ' w'} he hb ⟨h1, h2⟩ => by
    obtain ⟨r1, r2⟩ := hb r (by simp)
    obtain ⟨k1, k2⟩ := he.keep r r1 r2
    exact ⟨k1.trans h1, k2.trans h2⟩
/-- what a round owes: it hands back c, and what the caller keeps has gone on to s' -/
def RoundOk {σ : Type} (P : Program) (l : Nat) (Y : σ → XF → Prop) (args : Array Value) (x : XF) (s' : σ) (c : Bool) (κ : Gh) (w : World) : Prop :=
  YieldAt (FW none) 0 P l args w fun e w' => e = .returned (.bool c) ∧ ∃ κ' x', Y s' x' ∧ Ext x.bs κ w κ' w' ∧ Fresh κ' w' ∧ x'.p κ' w' ∧ x'.bs.Nodup ∧ ∀ b ∈ x'.bs, (b ∈ x.bs ∨ w.heap.size ≤ b) ∧ b < w'.heap.size
end
section
variable {ro : Option Nat} {P : Program} {ops : Array Oper} {Q : Exit → Act → World → Prop} {N : Nat} {D : List Deferred} {L L' : FL} {a : Act} {w : World} {o : Oper} {K : Act → World → Prop}
variable {M : List Nat} {κ0 κ : Gh} {w0 : World} {C C' : List Ck} {R R' : List MP}
theorem exec_yield {g : Operand} {xs : Array Operand} {tys : Array TypeId} {l : Nat} {args : Array Value} (hop : o.op = .call { callee := .value g, args := xs, argTypes := tys }) (hg : ev L g = some (.func (.yield l) #[] #[])) (hx : xs.map (evD L) = args) :
    (execOp (evD L) o).run P w = (Instr.yield l args).run P w := by
  subst hx
  simp [execOp, hop, resolve, invoke, evD, hg, go_sem]
/-- a yield, out of an iterator: the caller's round is run -/
theorem wo_yield {σ : Type} {Y : σ → XF → Prop} (hF : Fr N D L a) (hS : SS M κ0 w0 κ w C R) (hc : okOp N L o = true) (i : Nat) {x : XF} {g : Operand} {xs : Array Operand} {tys : Array TypeId} {l : Nat} {args : Array Value} {s' : σ} {c : Bool}
    (hop : o.op = .call { callee := .value g, args := xs, argTypes := tys }) (hg : ev L g = some (.func (.yield l) #[] #[])) (hx : xs.map (evD L) = args) (hC : C[i]? = some (.ext x))
    (hY : x.p κ w → Fresh κ w → x.bs.Nodup → (∀ b ∈ x.bs, b < w.heap.size) → RoundOk P l Y args x s' c κ w)
    (kk : ∀ x' κ' w' a', Y s' x' → Fr N D (upd L o.dst (.bool c)) a' → SS M κ0 w0 κ' w' (C.set i (.ext x')) R → K a' w') : wo ro P o a w K Q := by
  obtain ⟨A, B, hAB, hAl⟩ : ∃ A B, C = A ++ .ext x :: B ∧ A.length = i := by
    have hi := (List.getElem?_eq_some_iff.1 hC).1
    refine ⟨C.take i, C.drop (i + 1), ?_, by simp; omega⟩
    have := (List.getElem?_eq_some_iff.1 hC).2
    rw [← this]; simp
  have hok : x.p κ w := hS.ck i hC
  have hnd : x.bs.Nodup := by
    have := hS.nd
    rw [hAB, blksOf_append] at this
    exact (List.nodup_append.1 (show (x.bs ++ blksOf B).Nodup from (List.nodup_append.1 this).2.1)).1
  have hlt : ∀ b ∈ x.bs, b < w.heap.size := fun b hb => hS.lt b (List.mem_flatMap.2 ⟨.ext x, List.mem_of_getElem? hC, hb⟩)
  obtain ⟨fn, tmps, assign, body, hy, hR⟩ := hY hok hS.fresh hnd hlt
  have hc0 := hc
  simp only [okOp, Bool.and_eq_true] at hc
  refine ⟨fun _ _ => trivial, ?_⟩
  show o.uponIn (FW ro) 0 P a K Q ((o.semAt ro a.eval).run P w)
  rw [semAt_eq hF hc.1.1 hc.1.2, exec_yield hop hg hx, hy]
  refine ⟨fun hd => by simp [FW] at hd, ?_⟩
  have hR' : RoundIn (FW ro) (0 - 1) P l fn tmps assign body w _ := hR
  refine RoundIn.mono hR' fun e w' ⟨he, κ', x', hYx, hext, hfr, hp, hnd', hbs⟩ => ?_
  subst he
  have hset : C.set i (.ext x') = A ++ .ext x' :: B := by
    subst hAl; rw [hAB]; simp
  refine kk x' κ' w' _ hYx (hF.put _ _ (okDst_spec hc.2)) ?_
  rw [hset]
  exact hS.turn A B hAB (c := .ext x) (c' := .ext x') hext hfr hp (fun b hb => (hbs b hb).1) (fun b hb => (hbs b hb).2) hnd'
/-- what a body that ranged over a function must come to; it does not panic -/
def postM (P : Program) (fn : Func) (R : Ending → World → Prop) : Exit → Act → World → Prop
  | .normal, a, w | .ret, a, w => LeavesInM (FW none) 0 P fn a.tmps R a.defers .returning w
  | _, _, _ => False
theorem enterM {f : FuncId} {fn : Func} {c : Code} {args : Array Value} {R : Ending → World → Prop} (hf : P.funcs[f]? = some fn) (hb : fn.body = some c) (hn : fn.ntmps = N) (hs : args.size ≤ N) (hL : argsL args = L)
    (h : ∀ a, Fr N [] L a → c.wpIn (FW none) 0 P (postM P fn R) a w) : Calls P f args w R := by
  refine (callsIn_wide (n := 0)).1 ?_
  have : CallsIn (FW none) 0 P f args w R := by
    refine callsIn_of_wp_marks hf hb trivial ?_ rfl
    refine Go.wpIn_mono (h _ ⟨rfl, by simp [hn]; omega, fun t v ht => ?_⟩) fun e a w he => by cases e <;> first | exact he | exact he.elim
    subst hL
    obtain ⟨_, h2⟩ := lookup_argsL args.toList 0 t v ht
    simp only [Nat.sub_zero] at h2
    have h3 : args[t]? = some v := by simpa using h2
    have hlt : t < args.size := by
      rcases Nat.lt_or_ge t args.size with h | h
      · exact h
      · rw [Array.getElem?_eq_none h] at h3; cases h3
    rw [Array.getElem?_append_left hlt]; exact h3
  exact this
def mark (r : Nat) : Deferred := { target := .collected r, args := #[] }
theorem ret_doneM {fn : Func} {φ : Value → Gh → World → Prop} {r : Nat} (hF : Fr N [mark r] L a) (hS : SS M κ0 w0 κ w C R) (i : Nat) (hC : C[i]? = some (.ext (defX r))) (hi : C.eraseIdx i = C')
    (k : ∀ w', SS M κ0 w0 κ w' C' R → ∃ v, (results fn a.tmps).run P w' = .ok v w' ∧ φ v κ w') : postM P fn (Post M κ0 w0 φ) .ret a w := by
  have hp : w.heap[r]? = some (.deferred (some [])) ∧ κ r = none := hS.ck i hC
  obtain ⟨A, B, hAB, hAl⟩ : ∃ A B, C = A ++ .ext (defX r) :: B ∧ A.length = i := by
    have hi := (List.getElem?_eq_some_iff.1 hC).1
    refine ⟨C.take i, C.drop (i + 1), ?_, by simp; omega⟩
    have := (List.getElem?_eq_some_iff.1 hC).2
    rw [← this]; simp
  have hC' : C' = A ++ B := by rw [← hi, hAB, ← hAl]; simp [List.eraseIdx_append_of_length_le]
  have hnd : (blksOf A ++ (r :: blksOf B)).Nodup := by
    have := hS.nd
    rw [hAB, blksOf_append] at this
    exact this
  have hrM : w0.heap.size ≤ r ∨ r ∈ M := hS.own r (by rw [hAB, blksOf_append]; exact List.mem_append.2 (.inr (List.mem_append.2 (.inl (by simp [Ck.blks, defX])))))
  have hS1 : SS M κ0 w0 κ w C' R := hS.drop (by rw [hC', hAB]; simp)
  have he : Ext [r] κ w κ (w.putObj r (.deferred none)) := Ext.put hp.1 hp.2 (fun c t fr h => by cases h) (fun c t fr h => by cases h)
  have hS2 : SS M κ0 w0 κ (w.putObj r (.deferred none)) C' R := hS1.stepM he (fun b hb => hS.fresh b (by simpa using hb)) (fun b hb => by simp only [List.mem_singleton] at hb; subst hb; exact hrM) fun b hb hbr => by
    simp only [List.mem_singleton] at hbr
    subst hbr
    rw [hC', blksOf_append] at hb
    have h2 := List.nodup_append.1 hnd
    rcases List.mem_append.1 hb with hb | hb
    · exact h2.2.2 _ hb _ (by simp) rfl
    · exact (List.nodup_cons.1 h2.2.1).1 hb
  obtain ⟨v, hv, hφ⟩ := k _ hS2
  show LeavesInM (FW none) 0 P fn a.tmps (Post M κ0 w0 φ) a.defers .returning w
  rw [hF.defers]
  exact ⟨by simp, .inl ⟨r, _, rfl, run_takeDeferred hp.1, ⟨v, hv, v, κ, rfl, hS2.ext, hS2.fresh, hφ⟩⟩⟩
theorem SS.moreM {M' : List Nat} (h : SS M κ0 w0 κ w C R) (hM : ∀ b ∈ M, b ∈ M') : SS M' κ0 w0 κ w C R :=
  ⟨h.ext.weaken fun b hb _ => hM b hb, h.fresh, h.ok, h.lt, h.nd, fun b hb => (h.own b hb).imp id (hM b), h.ro⟩
theorem nodup_ext {bs : List Nat} {C : List Ck} {r l : Nat} (hr : r ≠ l) (h1 : (blksOf C).Nodup) (h2 : r ∉ blksOf C) (h3 : l ∉ blksOf C) : (r :: l :: blksOf C).Nodup :=
  List.nodup_cons.2 ⟨by simp [hr, h2], List.nodup_cons.2 ⟨h3, h1⟩⟩
/-- how a round may end -/
def RE {σ : Type} (Y : σ → XF → Prop) (s' : σ) (c : Bool) (r l : Nat) (rc : Loop) (κb : Gh) (wb : World) (Cb : List Ck) (jump : Option Code) (w3 : World) : Prop :=
  ∃ κ3 C3 R3, SS (blksOf Cb) κb wb κ3 w3 C3 R3 ∧ c = jump.isNone ∧ Y s' (mkX r l { rc with state := if jump.isNone then .ready else .done, pending := jump } C3 R3)
def roundExit {σ : Type} (Y : σ → XF → Prop) (s' : σ) (c : Bool) (r l : Nat) (rc : Loop) (κb : Gh) (wb : World) (Cb : List Ck) : Exit → Act → World → Prop
  | .normal, _, w => RE Y s' c r l rc κb wb Cb none w
  | .ret, _, w => RE Y s' c r l rc κb wb Cb (some .ret) w
  | .exit id, _, w => RE Y s' c r l rc κb wb Cb (some (.exit id)) w
  | .goto t, _, w => RE Y s' c r l rc κb wb Cb (some (.goto t)) w
  | _, _, _ => False
theorem round_ok {σ : Type} {Y : σ → XF → Prop} {r l : Nat} {rc : Loop} {args : Array Value} {s' : σ} {c : Bool} (hp : (mkX r l rc C R).p κ w) (hf : Fresh κ w) (hnd : (mkX r l rc C R).bs.Nodup) (hlt : ∀ b ∈ (mkX r l rc C R).bs, b < w.heap.size)
    (hst : rc.state = .ready) (hargs : args.size = rc.params.size) (hFr : Fr N [] L { tmps := (rc.params.zip args).foldl (fun tmps (t, a) => tmps.setIfInBounds t a) rc.tmps, defers := [] })
    (h : ∀ a, Fr N [] L a → SS (blksOf C) κ w κ w C R → rc.assign.wpIn (FW (some l)) 0 P (Exit.then (fun a1 w1 => ∃ κ1 C1 R1, SS (blksOf C) κ w κ1 w1 C1 R1 ∧ ∀ w2, SS (blksOf C1) κ1 w2 κ1 w2 C1 R1 →
      rc.body.wpIn (FW (some l)) 0 P (roundExit Y s' c r l rc κ1 w2 C1) a1 w2) (fun _ _ _ => False)) a w) : RoundOk P l Y args (mkX r l rc C R) s' c κ w := by
  obtain ⟨⟨hr1, hr2⟩, ⟨hl1, hl2⟩, hok, hro⟩ := hp
  have hnd' : (r :: l :: blksOf C).Nodup := hnd
  obtain ⟨hn1, hn2⟩ := List.nodup_cons.1 hnd'
  obtain ⟨hn3, hn4⟩ := List.nodup_cons.1 hn2
  simp only [List.mem_cons, not_or] at hn1
  obtain ⟨hrl, hrC⟩ := hn1
  have hrlt : r < w.heap.size := hlt r (by simp [mkX])
  have hllt : l < w.heap.size := hlt l (by simp [mkX])
  have hS0 : SS (blksOf C) κ w κ w C R := ⟨.refl _ _ _, hf, hok, fun b hb => hlt b (by simp [mkX, hb]), hn4, fun _ hb => .inr hb, hro⟩
  refine ⟨rc.fn, _, rc.assign, rc.body, run_yield hl1 hargs, ?_⟩
  refine roundIn_of_wpIn trivial ?_
  refine Go.wpIn_mono (h _ hFr hS0) fun e a1 w1 he => ?_
  cases e with
  | normal =>
    obtain ⟨κ1, C1, R1, hS1, hbody⟩ := he
    obtain ⟨hl1', hl2'⟩ := hS1.ext.keep l hllt hn3
    have hl1w := hl1'.trans hl1
    have hlk1 := hl2'.trans hl2
    have hnot : ∀ q, q < w.heap.size → q ∉ blksOf C → q ∉ blksOf C1 := fun q hq hqC hq1 => (hS1.own q hq1).elim (fun h => by omega) hqC
    have hlC1 := hnot l hllt hn3
    have hrC1 := hnot r hrlt hrC
    have hlt1 : l < w1.heap.size := Nat.lt_of_lt_of_le hllt hS1.ext.size
    have e2 : Ext [l] κ1 w1 κ1 (w1.putObj l (.loop { rc with state := .busy })) := Ext.put hl1w hlk1 (fun c t fr h => by cases h) (fun c t fr h => by cases h)
    have hS2 : SS (blksOf C1) κ1 (w1.putObj l (.loop { rc with state := .busy })) κ1 (w1.putObj l (.loop { rc with state := .busy })) C1 R1 :=
      ((hS1.rebase.moreM (M' := l :: blksOf C1) (fun b hb => List.mem_cons_of_mem _ hb)).stepM e2 (fun b hb => hS1.fresh b (by simpa using hb)) (fun b hb => .inr (by simp only [List.mem_singleton] at hb; subst hb; simp)) (fun b hb hbl => by
        simp only [List.mem_singleton] at hbl; subst hbl; exact hlC1 hb)).rebase
    refine ⟨_, run_beginRound hl1w hst, Go.wpIn_mono (hbody _ hS2) fun e3 a3 w3 he3 => ?_⟩
    have fin : ∀ jump, RE Y s' c r l rc κ1 (w1.putObj l (.loop { rc with state := .busy })) C1 jump w3 → ∃ v w', (Instr.endRound l jump).run P w3 = .ok v w' ∧ (Ending.returned v = .returned (.bool c) ∧
        ∃ κ' x', Y s' x' ∧ Ext (mkX r l rc C R).bs κ w κ' w' ∧ Fresh κ' w' ∧ x'.p κ' w' ∧ x'.bs.Nodup ∧ ∀ b ∈ x'.bs, (b ∈ (mkX r l rc C R).bs ∨ w.heap.size ≤ b) ∧ b < w'.heap.size) := by
      rintro jump ⟨κ3, C3, R3, hS3, hcj, hYs⟩
      have hsz2 : (w1.putObj l (.loop { rc with state := .busy })).heap.size = w1.heap.size := by simp
      have hl3 : w3.heap[l]? = some (.loop { rc with state := .busy }) := ((hS3.ext.keep l (by rw [hsz2]; exact hlt1) hlC1).1).trans (World.putObj_heap_same hlt1)
      have hlk3 : κ3 l = none := ((hS3.ext.keep l (by rw [hsz2]; exact hlt1) hlC1).2).trans hlk1
      have hrlt1 : r < w1.heap.size := Nat.lt_of_lt_of_le hrlt hS1.ext.size
      have hr3 : w3.heap[r]? = some (.deferred (some [])) := ((hS3.ext.keep r (by rw [hsz2]; exact hrlt1) hrC1).1).trans ((World.putObj_heap_other hrl).trans ((hS1.ext.keep r hrlt hrC).1.trans hr1))
      have hrk3 : κ3 r = none := ((hS3.ext.keep r (by rw [hsz2]; exact hrlt1) hrC1).2).trans ((hS1.ext.keep r hrlt hrC).2.trans hr2)
      have hsz3 : w1.heap.size ≤ w3.heap.size := by rw [← hsz2]; exact hS3.ext.size
      have hlt3 : l < w3.heap.size := by omega
      have e4 : Ext [l] κ3 w3 κ3 (w3.putObj l (.loop { rc with state := if jump.isNone then .ready else .done, pending := jump })) := Ext.put hl3 hlk3 (fun c t fr h => by cases h) (fun c t fr h => by cases h)
      have hnot3 : ∀ q, q < w.heap.size → q ∉ blksOf C → q ∉ blksOf C3 := fun q hq hqC hq3 => (hS3.own q hq3).elim (fun h => by rw [hsz2] at h; have := hS1.ext.size; omega) (hnot q hq hqC)
      have hlC3 := hnot3 l hllt hn3
      have hrC3 := hnot3 r hrlt hrC
      have hS4 : SS (l :: blksOf C3) κ3 w3 κ3 (w3.putObj l (.loop { rc with state := if jump.isNone then .ready else .done, pending := jump })) C3 R3 :=
        (hS3.rebase.moreM (M' := l :: blksOf C3) (fun b hb => List.mem_cons_of_mem _ hb)).stepM e4 (fun b hb => hS3.fresh b (by simpa using hb)) (fun b hb => .inr (by simp only [List.mem_singleton] at hb; subst hb; simp)) (fun b hb hbl => by
          simp only [List.mem_singleton] at hbl; subst hbl; exact hlC3 hb)
      have h12 : Ext (r :: l :: blksOf C) κ w κ1 (w1.putObj l (.loop { rc with state := .busy })) := (hS1.ext.weaken fun b hb _ => by simp [hb]).trans' e2 fun b hb => .inr (by simp only [List.mem_singleton] at hb; simp [hb])
      have h13 : Ext (r :: l :: blksOf C) κ w κ3 w3 := h12.trans' hS3.ext fun b hb => (hS1.own b hb).imp id fun h => by simp [h]
      have h14 := h13.trans' e4 fun b hb => .inr (by simp only [List.mem_singleton] at hb; simp [hb])
      refine ⟨.bool jump.isNone, _, run_endRound jump hl3, by rw [hcj], κ3, _, hYs, h14, hS4.fresh, ⟨⟨(World.putObj_heap_other hrl).trans hr3, hrk3⟩, ⟨World.putObj_heap_same hlt3, hlk3⟩, hS4.ok, hS4.ro⟩, nodup_ext (bs := []) hrl hS3.nd hrC3 hlC3, fun b hb => ?_⟩
      simp only [mkX, List.mem_cons] at hb ⊢
      rcases hb with rfl | rfl | hb
      · exact ⟨.inl (.inl rfl), by simp; omega⟩
      · exact ⟨.inl (.inr (.inl rfl)), by simp; omega⟩
      · refine ⟨?_, hS4.lt b hb⟩
        rcases hS3.own b hb with h | h
        · exact .inr (by rw [hsz2] at h; exact Nat.le_trans hS1.ext.size h)
        · exact (hS1.own b h).elim .inr fun h => .inl (.inr (.inr h))
    cases e3 with
    | normal => exact fin none he3
    | ret => exact fin _ he3
    | exit id => exact fin _ he3
    | goto t => exact fin _ he3
    | panic _ => exact he3.elim
    | outgrown => exact he3.elim
  | _ => exact he.elim
theorem SS.pack {r l : Nat} {rc : Loop} {Cap : List Ck} (h : SS M κ0 w0 κ w (.ext (mkX r l rc [] []) :: (C ++ Cap)) R) (hR : ∀ m ∈ R', m.p κ w) : SS M κ0 w0 κ w (.ext (mkX r l rc C R') :: Cap) R := by
  have hb : blksOf (.ext (mkX r l rc C R') :: Cap) = blksOf (.ext (mkX r l rc [] []) :: (C ++ Cap)) := by simp [blksOf, Ck.blks, mkX]
  refine ⟨h.ext, h.fresh, fun c hc => ?_, fun b hb' => h.lt b (hb ▸ hb'), hb ▸ h.nd, fun b hb' => h.own b (hb ▸ hb'), h.ro⟩
  rcases List.mem_cons.1 hc with rfl | hc
  · obtain ⟨h1, h2, _, _⟩ := (h.ok (.ext (mkX r l rc [] [])) (by simp) : (mkX r l rc [] []).p κ w)
    exact ⟨h1, h2, fun c hc => h.ok c (by simp [hc]), hR⟩
  · exact h.ok c (by simp [hc])
theorem SS.back {w1 : World} {κ' : Gh} {w' : World} {x : XF} (h : SS M κ0 w0 κ w1 C R) (h2 : SS (blksOf C) κ w1 κ' w' [.ext x] []) : SS M κ0 w0 κ' w' [.ext x] R where
  ext := h.ext.trans' h2.ext fun b hb => h.own b hb
  fresh := h2.fresh
  ok := h2.ok
  lt := h2.lt
  nd := h2.nd
  own := fun b hb => (h2.own b hb).elim (fun h3 => .inl (Nat.le_trans h.ext.size h3)) (h.own b)
  ro := fun m hm => m.mono h2.ext (h.ro m hm)
/-- the record is shut; what was kept is at hand again -/
theorem SS.shut {r l : Nat} {rc : Loop} (h : SS M κ0 w0 κ w [.ext (mkX r l rc C R')] R) (hb : rc.state ≠ .busy) :
    ∃ w', (Instr.endLoop l).run P w = .ok rc.pending w' ∧ SS M κ0 w0 κ w' (.ext (defX r) :: C) (R' ++ R) := by
  obtain ⟨⟨hr1, hr2⟩, ⟨hl1, hl2⟩, hok, hro⟩ := (h.ok (.ext (mkX r l rc C R')) (by simp) : (mkX r l rc C R').p κ w)
  have hbl : blksOf [.ext (mkX r l rc C R')] = r :: l :: blksOf C := by simp [blksOf, Ck.blks, mkX]
  have hnd := h.nd
  rw [hbl] at hnd
  obtain ⟨hn1, hn2⟩ := List.nodup_cons.1 hnd
  obtain ⟨hn3, hn4⟩ := List.nodup_cons.1 hn2
  simp only [List.mem_cons, not_or] at hn1
  have hlo := h.own l (by rw [hbl]; simp)
  have hin : ∀ b, b ∈ r :: blksOf C → b ∈ blksOf [.ext (mkX r l rc C R')] := fun b hb => by
    rw [hbl]; rcases List.mem_cons.1 hb with rfl | hb <;> simp [*]
  have h1 : SS M κ0 w0 κ w (.ext (defX r) :: C) (R' ++ R) :=
    ⟨h.ext, h.fresh, fun c hc => by
      rcases List.mem_cons.1 hc with rfl | hc
      · exact ⟨hr1, hr2⟩
      · exact hok c hc, fun b hb => h.lt b (hin b hb), List.nodup_cons.2 ⟨hn1.2, hn4⟩, fun b hb => h.own b (hin b hb), fun m hm => (List.mem_append.1 hm).elim (hro m) (h.ro m)⟩
  have e : Ext [l] κ w κ (w.putObj l (.loop { rc with state := .exhausted })) := Ext.put hl1 hl2 (fun c t fr h => by cases h) (fun c t fr h => by cases h)
  refine ⟨_, run_endLoop hl1 hb, h1.stepM e (fun b hb => h.fresh b (by simpa using hb)) (fun b hb => by simp only [List.mem_singleton] at hb; subst hb; exact hlo) fun b hb hbl' => ?_⟩
  simp only [List.mem_singleton] at hbl'
  subst hbl'
  rcases List.mem_cons.1 (show b ∈ r :: blksOf C from hb) with rfl | hb
  · exact hn1.1 rfl
  · exact hn3 hb
theorem wp_range {Cap : List Ck} {g : Operand} {ps : Array Tmp} {assign body : Code} {f : FuncId} {caps : Array Value} (hF : Fr N [] L a) (hS : SS M κ0 w0 κ w (C ++ Cap) R) (hcov : ev L g = some (.func (.func f) #[] caps)) (hf : ∀ args w, (callFunc f args).run P w = .ok (.enter f args) w) (hR : ∀ m ∈ R', m.p κ w)
    (h : ∀ r l fn w1, SS M κ0 w0 κ w1 (.ext (mkX r l { state := .ready, pending := none, fn := fn, tmps := a.tmps, params := ps, assign := assign, body := body, defers := r } C R') :: Cap) R →
      ∃ Yf : XF → Prop, Calls P f (#[.func (.yield l) #[] #[]] ++ caps) w1 (Post (blksOf (.ext (mkX r l { state := .ready, pending := none, fn := fn, tmps := a.tmps, params := ps, assign := assign, body := body, defers := r } C R') :: Cap)) κ w1 fun _ κ' w' =>
          ∃ x, Yf x ∧ SS (blksOf (.ext (mkX r l { state := .ready, pending := none, fn := fn, tmps := a.tmps, params := ps, assign := assign, body := body, defers := r } C R') :: Cap)) κ w1 κ' w' [.ext x] []) ∧
        ∀ x, Yf x → ∃ rc' C'' R'', x = mkX r l rc' C'' R'' ∧ rc'.state ≠ .busy ∧ ∀ κ' w' a', Fr N [mark r] L a' → SS M κ0 w0 κ' w' (.ext (defX r) :: C'') (R'' ++ R) →
          (match rc'.pending with | none => Q .normal a' w' | some c => c.wpIn (FW none) 0 P Q a' w')) :
    (Code.rangeFunc g ps assign body).wpIn (FW none) 0 P Q a w := by
  refine wpIn_rangeFunc fun fn _ => ?_
  let rc : Loop := { state := .ready, pending := none, fn := fn, tmps := a.tmps, params := ps, assign := assign, body := body, defers := w.heap.size }
  have hS1 := (hS.step (Ext.allocN hS.fresh (.deferred (some [])) (fun c t fr h => by cases h)) (hS.fresh.alloc _))
  have hS2 := (hS1.step (Ext.allocN hS1.fresh (.loop rc) (fun c t fr h => by cases h)) (hS1.fresh.alloc _))
  have hsz1 : (w.alloc (.deferred (some []))).heap.size = w.heap.size + 1 := size_alloc _ _
  have hr : ((w.alloc (.deferred (some []))).alloc (.loop rc)).heap[w.heap.size]? = some (.deferred (some [])) := (heap_alloc_old _ _ _ (by rw [hsz1]; omega)).trans (heap_alloc_new _ _)
  have hl : ((w.alloc (.deferred (some []))).alloc (.loop rc)).heap[w.heap.size + 1]? = some (.loop rc) := by rw [← hsz1]; exact heap_alloc_new _ _
  have hS3 : SS M κ0 w0 κ ((w.alloc (.deferred (some []))).alloc (.loop rc)) (.ext (mkX w.heap.size (w.heap.size + 1) rc [] []) :: (C ++ Cap)) R := by
    refine ⟨hS2.ext, hS2.fresh, fun c hc => ?_, fun b hb => ?_, ?_, fun b hb => ?_, hS2.ro⟩
    · rcases List.mem_cons.1 hc with rfl | hc
      · exact ⟨⟨hr, hS.fresh _ (Nat.le_refl _)⟩, ⟨hl, hS.fresh _ (by omega)⟩, (fun _ h => by cases h), (fun _ h => by cases h)⟩
      · exact hS2.ok c hc
    · rcases List.mem_cons.1 (show b ∈ w.heap.size :: (w.heap.size + 1) :: blksOf (C ++ Cap) from hb) with rfl | hb
      · simp only [size_alloc]; omega
      · rcases List.mem_cons.1 hb with rfl | hb
        · simp only [size_alloc]; omega
        · exact hS2.lt b hb
    · show (w.heap.size :: (w.heap.size + 1) :: blksOf (C ++ Cap)).Nodup
      exact nodup_ext (bs := []) (by omega) hS.nd (fun h => by have := hS.lt _ h; omega) (fun h => by have := hS.lt _ h; omega)
    · rcases List.mem_cons.1 (show b ∈ w.heap.size :: (w.heap.size + 1) :: blksOf (C ++ Cap) from hb) with rfl | hb
      · exact .inl hS.ext.size
      · rcases List.mem_cons.1 hb with rfl | hb
        · exact .inl (Nat.le_succ_of_le hS.ext.size)
        · exact hS2.own b hb
  have hmono : Ext [] κ w κ ((w.alloc (.deferred (some []))).alloc (.loop rc)) := (Ext.allocN hS.fresh (.deferred (some [])) (fun c t fr h => by cases h)).trans (Ext.allocN hS1.fresh (.loop rc) (fun c t fr h => by cases h))
  have hS4 := hS3.pack (R' := R') fun m hm => m.mono hmono (hR m hm)
  obtain ⟨Yf, hcall, hend⟩ := h _ _ fn _ hS4
  have hgv : a.eval g = .func (.func f) #[] caps := hF.ev hcov
  let W1 := (w.alloc (.deferred (some []))).alloc (.loop rc)
  refine ⟨w.heap.size + 1, [mark w.heap.size], W1, { target := .fn (.func f) caps, args := #[.func (.yield (w.heap.size + 1)) #[] #[]] }, W1, f, #[.func (.yield (w.heap.size + 1)) #[] #[]] ++ caps, W1, run_enterLoop_outer _ _ _ _ _, ?_, fun _ _ => trivial, ?_, fun hd => by simp [FW] at hd, ?_⟩
  · have hgen : ∀ ρ : Operand → Value, ρ g = .func (.func f) #[] caps → (∀ v, ρ (.const v) = v) → (resolve ρ (rangeCall g (w.heap.size + 1)) 0).run P W1 = .ok { target := .fn (.func f) caps, args := #[.func (.yield (w.heap.size + 1)) #[] #[]] } W1 := fun ρ h hk => by
      simp [resolve, Deferred.ofValue, h, hk]
    exact hgen _ hgv fun _ => rfl
  · simp [invoke, hf, go_sem]
  · have hci : CallsIn (FW none) (0 - 1) P f (#[.func (.yield (w.heap.size + 1)) #[] #[]] ++ caps) _ _ := (callsIn_wide (n := 0)).2 hcall
    refine CallsIn.mono hci fun e w' ⟨v, κ', he, _, _, x, hYx, hx⟩ => ?_
    subst he
    obtain ⟨rc', C'', R'', rfl, hb, hk⟩ := hend x hYx
    obtain ⟨w'', hrun, hS5⟩ := (hS4.back hx).shut (P := P) hb
    refine ⟨_, w'', hrun, hk κ' w'' _ ?_ hS5⟩
    exact ⟨by simp [hF.defers], hF.size, hF.val⟩
end
end Go.Cf
namespace Go.Cf
open Go
section
variable {P : Program} {Q : Exit → Act → World → Prop} {N : Nat} {D : List Deferred} {L L' : FL} {a : Act} {w : World}
variable {M : List Nat} {κ0 κ : Gh} {w0 : World} {C C' : List Ck} {R R' : List MP}
/-- 0: the rounds go on; n + 1: a round has been left by the n-th jump -/
def lpState : Nat → LoopState
  | 0 => .ready
  | _ + 1 => .done
def lpJump (js : List Code) : Nat → Option Code
  | 0 => none
  | n + 1 => js[n]?
theorem lpState_ne (n : Nat) : lpState n ≠ .busy := by cases n <;> simp [lpState]
def lp (rc : Loop) (js : List Code) (n : Nat) : Loop := { rc with state := lpState n, pending := lpJump js n }
/-- what the activation does next -/
def jumped (P : Program) (Q : Exit → Act → World → Prop) (js : List Code) (n : Nat) (a : Act) (w : World) : Prop :=
  match lpJump js n with
  | none => Q .normal a w
  | some c => c.wpIn (FW none) 0 P Q a w
theorem jumped0 {js : List Code} {n : Nat} (h : (n == 0) = true) (k : Q .normal a w) : jumped P Q js n a w := by
  have : n = 0 := by simpa using h
  subst this
  exact k
theorem jumpedS {js : List Code} {n : Nat} (i : Nat) {c : Code} (h : (n == i + 1) = true) (hj : js[i]? = some c) (k : c.wpIn (FW none) 0 P Q a w) : jumped P Q js n a w := by
  have : n = i + 1 := by simpa using h
  subst this
  unfold jumped
  simp only [lpJump, hj]
  exact k
/-- the slots that a round's values are laid into -/
def ups (L : FL) (l : List (Tmp × Value)) : FL := l.foldl (fun L x => upd L (some x.1) x.2) L
theorem Fr.fold : ∀ (l : List (Tmp × Value)) {L : FL} {t : Array Value}, Fr N D L { tmps := t, defers := D } → (l.all fun x => x.1 < N) = true → Fr N D (ups L l) { tmps := l.foldl (fun tmps (x : Tmp × Value) => tmps.setIfInBounds x.1 x.2) t, defers := D } := by
  intro l
  induction l with
  | nil => intro L t h _; exact h
  | cons x l ih =>
    intro L t h hl
    simp only [List.all_cons, Bool.and_eq_true, decide_eq_true_eq] at hl
    have h1 : Fr N D (upd L (some x.1) x.2) { tmps := t.setIfInBounds x.1 x.2, defers := D } := h.put (some x.1) x.2 (fun t ht => by cases ht; exact hl.1)
    exact ih h1 hl.2
theorem Fr.round {ps : Array Tmp} {args : Array Value} (h : Fr N [] L a) (hl : ((ps.zip args).toList.all fun x => x.1 < N) = true) (ks : List Nat) (hL : Cf.keep (ups L (ps.zip args).toList) ks = L') :
    Fr N [] L' { tmps := (ps.zip args).foldl (fun tmps (t, a) => tmps.setIfInBounds t a) a.tmps, defers := [] } := by
  have h0 : Fr N [] L { tmps := a.tmps, defers := [] } := ⟨rfl, h.size, h.val⟩
  have := (h0.fold (ps.zip args).toList hl).keep' ks hL
  rw [← Array.foldl_toList]
  exact this
/-- a round, with the record at hand -/
theorem round_at {σ : Type} {Y : σ → XF → Prop} {r l : Nat} {rc : Loop} {js : List Code} {n : Nat} {args : Array Value} {s' : σ} {c : Bool} {ps : Array Tmp} {assign body : Code} {a0 : Act} (hp : (mkX r l (lp rc js n) C R).p κ w) (hf : Fresh κ w) (hnd : (mkX r l (lp rc js n) C R).bs.Nodup) (hlt : ∀ b ∈ (mkX r l (lp rc js n) C R).bs, b < w.heap.size)
    (hn : (n == 0) = true) (hrc : rc.params = ps ∧ rc.assign = assign ∧ rc.body = body ∧ rc.tmps = a0.tmps) (hargs : args.size = ps.size) (ks : List Nat) {L0 : FL} (hF0 : Fr N [] L0 a0) (hl : ((ps.zip args).toList.all fun x => x.1 < N) = true) (hL : Cf.keep (ups L0 (ps.zip args).toList) ks = L)
    (h : ∀ a, Fr N [] L a → SS (blksOf C) κ w κ w C R → assign.wpIn (FW (some l)) 0 P (Exit.then (fun a1 w1 => ∃ κ1 C1 R1, SS (blksOf C) κ w κ1 w1 C1 R1 ∧ ∀ w2, SS (blksOf C1) κ1 w2 κ1 w2 C1 R1 →
      body.wpIn (FW (some l)) 0 P (roundExit Y s' c r l rc κ1 w2 C1) a1 w2) (fun _ _ _ => False)) a w) : RoundOk P l Y args (mkX r l (lp rc js n) C R) s' c κ w := by
  obtain ⟨rfl, rfl, rfl, ht⟩ := hrc
  have hn0 : n = 0 := by simpa using hn
  subst hn0
  refine round_ok hp hf hnd hlt rfl hargs (L := L) (N := N) ?_ h
  have := hF0.round hl ks hL
  show Fr N [] L { tmps := (rc.params.zip args).foldl (fun tmps (t, a) => tmps.setIfInBounds t a) rc.tmps, defers := [] }
  rw [ht]
  exact this
/-- a round's end -/
theorem re_done {σ : Type} {Y : σ → XF → Prop} {s' : σ} {c : Bool} {r l : Nat} {rc : Loop} {κb : Gh} {wb : World} {Cb : List Ck} {js : List Code} {w3 : World} (n : Nat) (hS : SS (blksOf Cb) κb wb κ w3 C R) (jump : Option Code) (hj : lpJump js n = jump) (hst : lpState n = if jump.isNone then .ready else .done) (hc : c = jump.isNone)
    (hY : Y s' (mkX r l (lp rc js n) C R)) : RE Y s' c r l rc κb wb Cb jump w3 := by
  subst hj
  refine ⟨κ, C, R, hS, hc, ?_⟩
  rw [← hst]
  exact hY
theorem re_normal {σ : Type} {Y : σ → XF → Prop} {s' : σ} {r l : Nat} {rc : Loop} {κb : Gh} {wb : World} {Cb : List Ck} (js : List Code) (hS : SS (blksOf Cb) κb wb κ w C R) (hY : Y s' (mkX r l (lp rc js 0) C R)) : roundExit Y s' true r l rc κb wb Cb .normal a w :=
  re_done 0 hS none rfl rfl rfl hY
theorem re_ret {σ : Type} {Y : σ → XF → Prop} {s' : σ} {r l : Nat} {rc : Loop} {κb : Gh} {wb : World} {Cb : List Ck} (js : List Code) (n : Nat) (hj : js[n]? = some .ret) (hS : SS (blksOf Cb) κb wb κ w C R) (hY : Y s' (mkX r l (lp rc js (n + 1)) C R)) : roundExit Y s' false r l rc κb wb Cb .ret a w :=
  re_done (n + 1) hS (some .ret) hj rfl rfl hY
theorem wp_range' {Cap : List Ck} (js : List Code) (args : Nat → Array Value) {g : Operand} {ps : Array Tmp} {assign body : Code} {f : FuncId} {caps : Array Value} (hF : Fr N [] L a) (hS : SS M κ0 w0 κ w (C ++ Cap) R) (hcov : ev L g = some (.func (.func f) #[] caps)) (hf : ∀ args w, (callFunc f args).run P w = .ok (.enter f args) w) (hR : ∀ m ∈ R', m.p κ w) (hargs : ∀ l, #[.func (.yield l) #[] #[]] ++ caps = args l)
    (h : ∀ r l rc w1, (rc.params = ps ∧ rc.assign = assign ∧ rc.body = body ∧ rc.tmps = a.tmps) → SS M κ0 w0 κ w1 (.ext (mkX r l (lp rc js 0) C R') :: Cap) R →
      ∃ Yf : XF → Prop, Calls P f (args l) w1 (Post (blksOf (.ext (mkX r l (lp rc js 0) C R') :: Cap)) κ w1 fun _ κ' w' => ∃ x, Yf x ∧ SS (blksOf (.ext (mkX r l (lp rc js 0) C R') :: Cap)) κ w1 κ' w' [.ext x] []) ∧
        ∀ x, Yf x → ∃ n C'' R'', x = mkX r l (lp rc js n) C'' R'' ∧ ∀ κ' w' a', Fr N [mark r] L a' → SS M κ0 w0 κ' w' (.ext (defX r) :: C'') (R'' ++ R) → jumped P Q js n a' w') :
    (Code.rangeFunc g ps assign body).wpIn (FW none) 0 P Q a w := by
  refine wp_range hF hS hcov hf hR fun r l fn w1 hS1 => ?_
  obtain ⟨Yf, h1, h2⟩ := h r l { state := .ready, pending := none, fn := fn, tmps := a.tmps, params := ps, assign := assign, body := body, defers := r } w1 ⟨rfl, rfl, rfl, rfl⟩ hS1
  refine ⟨Yf, by rw [hargs]; exact h1, fun x hx => ?_⟩
  obtain ⟨n, C'', R'', hxe, hk⟩ := h2 x hx
  exact ⟨_, C'', R'', hxe, lpState_ne n, hk⟩
/-- the value of a function with what it has captured -/
theorem val_makeFunc {T' : Nat} {o : Oper} {f : FuncId} {xs : Array Operand} {caps : Array Value} (hop : o.op = .makeFunc (.func f) #[] xs) (hx : xs.map (evD L) = caps) : ∀ w, (execOp (evD L) o).run P w = .ok (.value (.func (.func f) #[] caps)) w := fun w => by
  subst hx
  simp [execOp, hop, Instr.makeFunc]
end
end Go.Cf
namespace Go.Cf
open Go
/-- every block that is there is published, as far as K -/
def gh (K : Nat) (W : World) : Gh := fun b => if b < W.heap.size then some K else none
theorem gh_fresh (K : Nat) (W : World) : Fresh (gh K W) W := fun b hb => by simp [gh]; omega
/-- what reads as data of type E are the cells of a value, which is as `ok` says -/
def RdT {α : Type} (P : Program) (t : Ty α) (ok : α → Prop) (E : TypeId) : Prop := ∀ (H : Type) (enc : TypeId × Value → H) (W : World) (n : Nat) (cs : List Value) (d : DataW H × List MemPlace), DataW.trod enc P W 0 (fun _ => true) true n E cs = some d → ∃ x K0, ok x ∧ ∀ K, K0 ≤ K → t.rep (gh K W) W cs x
def inI (k : IntKind) (x : Int) : Prop := k.min ≤ x ∧ x ≤ k.max
def okB (_ : Bool) : Prop := True
def okS (s : ByteArray) : Prop := s.size ≤ maxLen
theorem rd_int {P : Program} {E : TypeId} {k : IntKind} (h : P.underlying E = some (.int k)) : RdT P (fInt k).ty (inI k) E := fun H enc W n cs d hd => by
  cases n with
  | zero => simp [DataW.trod] at hd
  | succ n =>
    unfold DataW.trod at hd
    rw [h] at hd
    split at hd <;> simp_all [fInt, FT.ty, inI, Lit.wf]
    exact ⟨_, hd.1.2, 0, fun _ _ => rfl⟩
theorem rd_str {P : Program} {E : TypeId} (h : P.underlying E = some .string) : RdT P fStr.ty okS E := fun H enc W n cs d hd => by
  cases n with
  | zero => simp [DataW.trod] at hd
  | succ n =>
    unfold DataW.trod at hd
    rw [h] at hd
    split at hd <;> simp_all [fStr, FT.ty, okS]
    exact ⟨_, hd.1, 0, fun _ _ => rfl⟩
theorem rd_bool {P : Program} {E : TypeId} (h : P.underlying E = some .bool) : RdT P fBool.ty okB E := fun H enc W n cs d hd => by
  cases n with
  | zero => simp [DataW.trod] at hd
  | succ n =>
    unfold DataW.trod at hd
    rw [h] at hd
    cases cs with
    | nil => simp at hd
    | cons v cs =>
      cases cs with
      | cons u cs => simp at hd
      | nil =>
        cases v <;> simp at hd
        exact ⟨_, 0, trivial, fun _ _ => rfl⟩
/-- a slice that reads: a list -/
theorem rd_slice {P : Program} {α : Type} {t : Ty α} {ok : α → Prop} {T E : TypeId} {H : Type} {enc : TypeId × Value → H} {W : World} {n : Nat} {cs : List Value} {d : DataW H × List MemPlace} (ht : P.underlying T = some (.slice E)) (hE : RdT P t ok E) (hsz : P.cellsOf E = t.size) (hpos : 0 < t.size)
    (h : DataW.trod enc P W 0 (fun _ => true) true n T cs = some d) : ∃ p c l K0, cs = [.slice p (List.length l) c] ∧ (∀ x ∈ l, ok x) ∧ ∀ K, K0 ≤ K → Ro t (gh K W) W p c (l : List α) := by
  rcases Deep.open_slice ht h with ⟨h0, _⟩ | ⟨a, len, cap, m, k, D, Pl, h0, hb, hl, hm, hmm, _, hx⟩
  · exact ⟨none, 0, [], 0, h0, by simp, fun K _ => Ro.nil _ _ _⟩
  · subst h0
    have hmc : m = cap := by simpa using hmm
    subst hmc
    rcases Nat.eq_zero_or_pos m with h0 | h0
    · subst h0
      have : len = 0 := by omega
      subst this
      exact ⟨some a, 0, [], 0, rfl, by simp, fun K _ => ⟨Nat.le_refl _, Nat.zero_le _, .inl ⟨rfl, rfl⟩⟩⟩
    · rw [hsz] at hx
      obtain ⟨cs0, h1, _⟩ := hx 0 h0
      obtain ⟨_, hlen0, hc0⟩ := World.cells?_some h1
      have hc := hc0 0 hpos
      obtain ⟨b, off, spot⟩ := a
      have hsome : ∃ v, cs0[0]? = some v := ⟨cs0[0]'(by omega), List.getElem?_eq_getElem (by omega)⟩
      obtain ⟨v0, hv0⟩ := hsome
      rw [hv0] at hc
      obtain rfl : spot = none := by
        cases spot with
        | none => rfl
        | some s =>
          exfalso
          simp [World.cell?, Addr.add] at hc
          split at hc <;> cases hc
      have hblt : b < W.heap.size := by
        rcases Nat.lt_or_ge b W.heap.size with h | h
        · exact h
        · simp [World.cell?, add_off, Array.getElem?_eq_none h] at hc
      have key : ∀ i, i < m → ∃ x K0, ok x ∧ ∃ cs', (∀ K, K0 ≤ K → t.rep (gh K W) W cs' x) ∧ ∀ j u, cs'[j]? = some u → W.cell? ⟨b, off + i * t.size + j, none⟩ = some u := fun i hi => by
        obtain ⟨cs', h1, h2⟩ := hx i hi
        obtain ⟨x, K0, hok, hr⟩ := hE _ _ _ _ _ _ h2
        refine ⟨x, K0, hok, cs', hr, fun j u hj => ?_⟩
        obtain ⟨_, hlen, hc⟩ := World.cells?_some h1
        have hjl : j < t.size := by rw [← hlen]; exact (List.getElem?_eq_some_iff.1 hj).1
        have := hc j hjl
        rw [add_off, add_off, hj] at this
        exact this
      have hlist : ∀ q, q ≤ m → ∃ (l : List α) (K0 : Nat), l.length = q ∧ (∀ x ∈ l, ok x) ∧ ∀ i x, l[i]? = some x → ∃ cs', (∀ K, K0 ≤ K → t.rep (gh K W) W cs' x) ∧ ∀ j u, cs'[j]? = some u → W.cell? ⟨b, off + i * t.size + j, none⟩ = some u := fun q => by
        induction q with
        | zero => intro _; exact ⟨[], 0, rfl, by simp, fun i x hi => by simp at hi⟩
        | succ q ih =>
          intro hq
          obtain ⟨l, K1, hll, hlo, hlx⟩ := ih (by omega)
          obtain ⟨x, K2, hxo, cs', hx1, hx2⟩ := key q (by omega)
          refine ⟨l ++ [x], max K1 K2, by simp [hll], fun y hy => ?_, fun i y hi => ?_⟩
          · rcases List.mem_append.1 hy with hy | hy
            · exact hlo y hy
            · simp only [List.mem_singleton] at hy; subst hy; exact hxo
          rw [List.getElem?_append] at hi
          split at hi
          · obtain ⟨cs'', q1, q2⟩ := hlx i y hi
            exact ⟨cs'', fun K hK => q1 K (by omega), q2⟩
          · rename_i hge
            have hi0 : i = q := by
              have := (List.getElem?_eq_some_iff.1 hi).1
              simp at this; omega
            subst hi0
            rw [hll, Nat.sub_self] at hi
            simp only [List.getElem?_cons_zero, Option.some.injEq] at hi
            subst hi
            exact ⟨cs', fun K hK => hx1 K (by omega), hx2⟩
      obtain ⟨l, K1, hll, hlo, hlx⟩ := hlist len hl
      subst hll
      refine ⟨some ⟨b, off, none⟩, m, l, max K1 (off + l.length * t.size), rfl, hlo, fun K hK => ⟨hl, hm, .inr ⟨b, off, K, rfl, by simp [gh, hblt], by omega, fun i x hi => ?_⟩⟩⟩
      obtain ⟨cs', q1, q2⟩ := hlx i x hi
      exact ⟨cs', q1 K (by omega), q2⟩
/-- an array that reads, of a type without references -/
theorem rd_arr {P : Program} {α : Type} {t : FT α} {ok : α → Prop} {T E : TypeId} {m : Nat} {H : Type} {enc : TypeId × Value → H} {W : World} {n : Nat} {cs : List Value} {d : DataW H × List MemPlace} (ht : P.underlying T = some (.array m E)) (hE : RdT P t.ty ok E) (hsz : P.cellsOf E = t.size) (hT : P.cellsOf T = m * t.size)
    (h : DataW.trod enc P W 0 (fun _ => true) true n T cs = some d) : ∃ l : List α, l.length = m ∧ cs = encs t l ∧ ∀ x ∈ l, ok x := by
  cases n with
  | zero => simp [DataW.trod] at h
  | succ n =>
    unfold DataW.trod at h
    rw [ht] at h
    simp only at h
    split at h
    · rename_i hl
      rw [Option.map_eq_some_iff] at h
      obtain ⟨xs, hxs, _⟩ := h
      have hlen := mapM_some_length hxs
      rw [hT] at hl
      have key : ∀ i, i < m → ∃ x, ok x ∧ (cs.drop (i * t.size)).take t.size = t.enc x := fun i hi => by
        have hg := mapM_some_get hxs i i (by simp [hi])
        have hlt : i < xs.length := by rw [hlen]; simpa using hi
        rw [List.getElem?_eq_getElem hlt, hsz] at hg
        obtain ⟨x, K0, hok, hr⟩ := hE _ _ _ _ _ _ hg
        exact ⟨x, hok, hr K0 (Nat.le_refl _)⟩
      have hlist : ∀ q, q ≤ m → ∃ l : List α, l.length = q ∧ cs.take (q * t.size) = encs t l ∧ ∀ x ∈ l, ok x := fun q => by
        induction q with
        | zero => intro _; exact ⟨[], rfl, by simp [encs], by simp⟩
        | succ q ih =>
          intro hq
          obtain ⟨l, h1, h2, h3⟩ := ih (by omega)
          obtain ⟨x, hx1, hx2⟩ := key q (by omega)
          refine ⟨l ++ [x], by simp [h1], ?_, fun y hy => ?_⟩
          · rw [Nat.add_mul, Nat.one_mul, List.take_add, h2, hx2]
            simp [encs]
          · rcases List.mem_append.1 hy with hy | hy
            · exact h3 y hy
            · simp only [List.mem_singleton] at hy; subst hy; exact hx1
      obtain ⟨l, h1, h2, h3⟩ := hlist m (Nat.le_refl _)
      exact ⟨l, h1, by rw [← h2, List.take_of_length_le (by omega)], h3⟩
    · cases h
/-- .. of any type -/
theorem rd_arrT {P : Program} {α : Type} {t : Ty α} {ok : α → Prop} {T E : TypeId} {m : Nat} {H : Type} {enc : TypeId × Value → H} {W : World} {n : Nat} {cs : List Value} {d : DataW H × List MemPlace} (ht : P.underlying T = some (.array m E)) (hE : RdT P t ok E) (hsz : P.cellsOf E = t.size) (hT : P.cellsOf T = m * t.size)
    (h : DataW.trod enc P W 0 (fun _ => true) true n T cs = some d) : ∃ (l : List α) (K0 : Nat), (∀ x ∈ l, ok x) ∧ ∀ K, K0 ≤ K → ArrP t (gh K W) W cs m l := by
  cases n with
  | zero => simp [DataW.trod] at h
  | succ n =>
    unfold DataW.trod at h
    rw [ht] at h
    simp only at h
    split at h
    · rename_i hl
      rw [Option.map_eq_some_iff] at h
      obtain ⟨xs, hxs, _⟩ := h
      have hlen := mapM_some_length hxs
      rw [hT] at hl
      have key : ∀ i, i < m → ∃ x K0, ok x ∧ ∀ K, K0 ≤ K → t.rep (gh K W) W ((cs.drop (i * t.size)).take t.size) x := fun i hi => by
        have hg := mapM_some_get hxs i i (by simp [hi])
        have hlt : i < xs.length := by rw [hlen]; simpa using hi
        rw [List.getElem?_eq_getElem hlt, hsz] at hg
        exact hE _ _ _ _ _ _ hg
      have hlist : ∀ q, q ≤ m → ∃ (l : List α) (K0 : Nat), l.length = q ∧ (∀ x ∈ l, ok x) ∧ ∀ K, K0 ≤ K → ∀ i x, l[i]? = some x → t.rep (gh K W) W ((cs.drop (i * t.size)).take t.size) x := fun q => by
        induction q with
        | zero => intro _; exact ⟨[], 0, rfl, by simp, fun K _ i x hi => by simp at hi⟩
        | succ q ih =>
          intro hq
          obtain ⟨l, K1, h1, h2, h3⟩ := ih (by omega)
          obtain ⟨x, K2, hx1, hx2⟩ := key q (by omega)
          refine ⟨l ++ [x], max K1 K2, by simp [h1], fun y hy => ?_, fun K hK i y hi => ?_⟩
          · rcases List.mem_append.1 hy with hy | hy
            · exact h2 y hy
            · simp only [List.mem_singleton] at hy; subst hy; exact hx1
          · rw [List.getElem?_append] at hi
            split at hi
            · exact h3 K (by omega) i y hi
            · have hi0 : i = q := by
                have := (List.getElem?_eq_some_iff.1 hi).1
                simp at this; omega
              subst hi0
              rw [h1, Nat.sub_self] at hi
              simp only [List.getElem?_cons_zero, Option.some.injEq] at hi
              subst hi
              exact hx2 K (by omega)
      obtain ⟨l, K0, h1, h2, h3⟩ := hlist m (Nat.le_refl _)
      refine ⟨l, K0, h2, fun K hK => ⟨h1, by omega, fun v hv => ?_, h3 K hK⟩⟩
      obtain ⟨i, hi, rfl⟩ := List.getElem_of_mem hv
      rcases Nat.eq_zero_or_pos t.size with h0 | h0
      · rw [h0] at hl; omega
      · have hdiv : i / t.size < m := by rw [Nat.div_lt_iff_lt_mul h0]; omega
        have hil : i / t.size < l.length := by omega
        have hr := h3 K hK (i / t.size) _ (List.getElem?_eq_getElem hil)
        refine t.one hr _ (List.mem_of_getElem? (i := i % t.size) ?_)
        have hmod := Nat.mod_lt i h0
        rw [List.getElem?_take, if_pos hmod, List.getElem?_drop]
        have : i / t.size * t.size + i % t.size = i := Nat.div_add_mod' i t.size
        rw [this]
        exact List.getElem?_eq_getElem hi
    · cases h
/-- a row of cells, as its pieces -/
def cat (cs : List Value) : Nat → List Nat → List Value
  | _, [] => []
  | o, n :: ns => (cs.drop o).take n ++ cat cs (o + n) ns
theorem cat_eq (cs : List Value) : ∀ (ns : List Nat) (o : Nat), o + ns.sum = cs.length → cat cs o ns = cs.drop o := fun ns => by
  induction ns with
  | nil => intro o h; simp at h; subst h; simp [cat]
  | cons n ns ih =>
    intro o h
    simp only [List.sum_cons] at h
    rw [cat, ih (o + n) (by omega), ← List.drop_drop, List.take_append_drop]
theorem pieces {cs : List Value} (ns : List Nat) (h : cs.length = ns.sum) : cs = cat cs 0 ns := by
  rw [cat_eq cs ns 0 (by omega)]; rfl
/-- an argument that is a struct: a row of cells that reads -/
theorem arg_struct {P : Program} {T : TypeId} {fs : Array Field} {H : Type} {enc : TypeId × Value → H} {W : World} {v : Value} {d : DataW H} {ps : List MemPlace} (ht : P.underlying T = some (.struct fs)) (h : DataW.Trod enc P W 0 (fun _ => true) true T v d ps) {base : Nat} (hok : Value.okWide P W .any base T v) :
    ∃ cs : List Value, v = .agg cs.toArray ∧ ∃ n d', DataW.trod enc P W 0 (fun _ => true) true n T cs = some d' := by
  unfold Value.okWide at hok
  rw [ht] at hok
  obtain ⟨⟨cs⟩, rfl, _⟩ := hok
  obtain ⟨n, h⟩ := h
  exact ⟨cs, rfl, n, _, h⟩
/-- a struct that reads: its parts read -/
theorem rd_struct {P : Program} {T : TypeId} {fs : Array Field} {H : Type} {enc : TypeId × Value → H} {W : World} {n : Nat} {cs : List Value} {d : DataW H × List MemPlace} (ht : P.underlying T = some (.struct fs)) (h : DataW.trod enc P W 0 (fun _ => true) true n T cs = some d) :
    cs.length = P.cellsOf T ∧ ∃ k, ∀ f ∈ fs.toList, ∃ d', DataW.trod enc P W 0 (fun _ => true) true k f.type ((cs.drop f.offset).take (P.cellsOf f.type)) = some d' := by
  cases n with
  | zero => simp [DataW.trod] at h
  | succ n =>
    unfold DataW.trod at h
    rw [ht] at h
    simp only at h
    split at h
    · rename_i hl
      refine ⟨hl, n, ?_⟩
      rw [Option.map_eq_some_iff] at h
      obtain ⟨xs, hxs, _⟩ := h
      intro f hf
      obtain ⟨i, hi, rfl⟩ := List.getElem_of_mem hf
      have hlen := mapM_some_length hxs
      have hlt : i < xs.length := by omega
      have hg := mapM_some_get hxs i _ (List.getElem?_eq_getElem hi)
      rw [List.getElem?_eq_getElem hlt] at hg
      exact ⟨_, hg⟩
    · cases h
/-- all arguments read as they did, where nothing that was there has turned -/
theorem trodAll_stays {P : Program} {H : Type} {enc : TypeId × Value → H} {W W' : World} {sp : Nat → Bool} (hl : laidOutB P = true) : ∀ {ts : List TypeId} {vs : List Value} {ds : List (DataW H)} {ps : List MemPlace}, (ts.all fun t => P.readableRec t && decide (t < P.types.size)) = true →
    DataW.TrodAll enc P W 0 (fun _ => true) true ts vs ds ps → (∀ p ∈ ps, W.sameAt W' p) → (∀ p ∈ ps, sp p.block = true) → DataW.TrodAll enc P W' 0 sp true ts vs ds ps := by
  intro ts
  induction ts with
  | nil => intro vs ds ps _ h _ _; cases vs <;> cases ds <;> simp_all [DataW.TrodAll]
  | cons t ts ih =>
    intro vs ds ps ht h hs hsp
    cases vs with
    | nil => simp [DataW.TrodAll] at h
    | cons v vs =>
      cases ds with
      | nil => simp [DataW.TrodAll] at h
      | cons d ds =>
        obtain ⟨p, q, h1, h2, rfl⟩ := h
        simp only [List.all_cons, Bool.and_eq_true, decide_eq_true_eq] at ht
        exact ⟨p, q, WideElems.Trod_stays hl ht.1.1 ht.1.2 h1 (fun x hx => hs x (by simp [hx])) (fun x hx => hsp x (by simp [hx])), ih (by simpa using ht.2) h2 (fun x hx => hs x (by simp [hx])) (fun x hx => hsp x (by simp [hx])), rfl⟩
theorem sameAt_of {W W' : World} (h : ∀ b, b < W.heap.size → W'.heap[b]? = W.heap[b]?) {p : MemPlace} (hp : p.block < W.heap.size) : W.sameAt W' p := by
  cases p with
  | cell b off => exact cell_of_heap (h b hp)
  | map b => exact h b hp
/-- a law's contract: nothing that was there has turned -/
theorem law_kept {P : Program} {f : FuncId} {args : Array Value} {κ : Gh} {w : World} {b : Bool} {φ : Gh → World → Prop} (hb : b = true) (h : Calls P f args w (Post [] κ w fun v κ w => v = .bool b ∧ φ κ w)) :
    Calls P f args w fun e w' => e = .returned (.bool true) ∧ w.keptBut w' (fun _ => False) ∧ ∀ b, b < w.heap.size → w'.heap[b]? = w.heap[b]? := by
  subst hb
  exact h.mono fun e w' ⟨v, κ', he, hx, _, hv, _⟩ => ⟨by rw [he, hv], hx.grown, fun b hb => (hx.keep b hb (by simp)).1⟩
/-- the row's end: what was handed in reads as it did, and nothing that was there has turned -/
theorem post_kept {H : Type} {enc : TypeId × Value → H} {P : Program} {f : Func} {s : ChangeSpec} {W W' : World} {args : Array Value} {v : Value} {ds gs : List (DataW H)} {before pa pv : List MemPlace}
    (hW : DataW.Whole enc P f.params.toList s.vars false W args.toList ds gs before)
    (hres : ∀ (b : Nat) (sp : Nat → Bool) (hd : Bool), DataW.TrodAll enc P W' b sp hd f.resultTypes.toList (v.resultList f.resultTypes.size) (s.fn H (ds ++ gs)).results [])
    (hargs : ∀ sp : Nat → Bool, (∀ p ∈ before, sp p.block = true) → DataW.TrodAll enc P W' 0 sp true f.params.toList args.toList (s.fn H (ds ++ gs)).args pa)
    (hvars : ∀ sp : Nat → Bool, (∀ p ∈ before, sp p.block = true) → DataW.TrodVars enc P W' sp s.vars (s.fn H (ds ++ gs)).vars pv)
    (hps : before = pa ++ pv) (hk : W.keptBut W' (· ∈ before)) : s.post enc P f false true false false W args v W' := by
  have hold : ∀ p ∈ before, (fun b => decide (b < W.heap.size)) p.block = true := fun p hp => by simpa using hW.lt p hp
  refine ⟨ds, gs, before, [], pa, pv, hW, hres _ _ _, hargs _ hold, hvars _ hold, World.keptBut_mono (fun p hp => ⟨hp, ?_⟩) hk, fun h => by cases h⟩
  rw [hps, List.mem_append] at hp
  exact Or.inr hp
end Go.Cf
namespace Go.Cf
open Go
/-- the fact says nothing of block b's cells -/
def Apart (b : Nat) (m : MP) : Prop := ∀ κ w w', (∀ b', b' ≠ b → w'.heap[b']? = w.heap[b']?) → m.p κ w → m.p κ w'
theorem apart_const (b : Nat) (q : Prop) : Apart b (MP.const q) := fun _ _ _ _ h => h
theorem apart_ro {α : Type} {t : FT α} {b : Nat} {p : Option Addr} {c : Nat} {l : List α} (h : ∀ a, p = some a → a.block ≠ b) : Apart b (Ro.mp t.ty p c l) := fun κ w w' hw ⟨h1, h2, h3⟩ => by
  refine ⟨h1, h2, ?_⟩
  rcases h3 with h3 | ⟨b', off, n, hp, hk, hn, hc⟩
  · exact .inl h3
  · refine .inr ⟨b', off, n, hp, hk, hn, fun i x hi => ?_⟩
    obtain ⟨cs, hr, hv⟩ := hc i x hi
    refine ⟨cs, hr, fun j v hj => ?_⟩
    rw [cell_of_heap (hw b' (h _ hp))]
    exact hv j v hj
section
variable {ro : Option Nat} {P : Program} {ops : Array Oper} {Q : Exit → Act → World → Prop} {N : Nat} {D : List Deferred} {L L' : FL} {a : Act} {w : World} {o : Oper} {K : Act → World → Prop}
variable {κ0 κ : Gh} {w0 : World} {C C' : List Ck} {R R' R0 Ra Rb : List MP}
theorem nodup_apart : ∀ {C : List Ck} {i j : Nat} {x y : Ck} {b : Nat}, (blksOf C).Nodup → C[i]? = some x → C[j]? = some y → i ≠ j → b ∈ x.blks → b ∉ y.blks := by
  have key : ∀ (C : List Ck) (i j : Nat) (x y : Ck) (b : Nat), C[i]? = some x → C[j]? = some y → i < j → b ∈ x.blks → b ∈ y.blks → ¬ (blksOf C).Nodup := by
    intro C
    induction C with
    | nil => intro i j x y b hx; simp at hx
    | cons e C ih =>
      intro i j x y b hx hy hij hbx hby hnd
      have hnd' : (e.blks ++ blksOf C).Nodup := hnd
      cases j with
      | zero => omega
      | succ j =>
        simp only [List.getElem?_cons_succ] at hy
        cases i with
        | zero =>
          simp only [List.getElem?_cons_zero, Option.some.injEq] at hx
          subst hx
          exact (List.nodup_append.1 hnd').2.2 b hbx b (List.mem_flatMap.2 ⟨y, List.mem_of_getElem? hy, hby⟩) rfl
        | succ i =>
          simp only [List.getElem?_cons_succ] at hx
          exact ih i j x y b hx hy (by omega) hbx hby (List.nodup_append.1 hnd').2.1
  intro C i j x y b hnd hx hy hij hbx hby
  rcases Nat.lt_or_ge i j with h | h
  · exact key C i j x y b hx hy h hbx hby hnd
  · exact key C j i y x b hy hx (by omega) hby hbx hnd
theorem SS.tokApart {M : List Nat} (hS : SS M κ0 w0 κ w C R) (i j : Nat) {p p' : Option Addr} {E E' s s' n n' c c' : Nat} {b : Nat} {off : Nat} (hp : p = some ⟨b, off, none⟩) (hi : C[i]? = some (.tok p E s n c)) (hj : C[j]? = some (.tok p' E' s' n' c')) (hij : i ≠ j) : ∀ a, p' = some a → a.block ≠ b := by
  rintro a rfl h
  subst hp
  exact nodup_apart hS.nd hj hi (Ne.symm hij) (b := b) (by simp [Ck.blks, h]) (by simp [Ck.blks])
end
end Go.Cf
namespace Go.Cf
open Go
section
variable {ro : Option Nat} {P : Program} {ops : Array Oper} {Q : Exit → Act → World → Prop} {N : Nat} {D : List Deferred} {L L' : FL} {a : Act} {w : World} {o : Oper} {K : Act → World → Prop}
variable {M : List Nat} {κ0 κ κ' : Gh} {w0 w' : World} {C C' Cin Cr Cout : List Ck} {R R' Rout : List MP}
theorem SS.callBack (h : SS M κ0 w0 κ w (Cin ++ Cr) R) (h2 : SS (blksOf Cin) κ w κ' w' Cout Rout) : SS M κ0 w0 κ' w' (Cout ++ Cr) (Rout ++ R) := by
  have hnd := h.nd
  rw [blksOf_append] at hnd
  obtain ⟨n1, n2, n3⟩ := List.nodup_append.1 hnd
  have hin : ∀ b ∈ blksOf Cin, b ∈ blksOf (Cin ++ Cr) := fun b hb => by rw [blksOf_append]; exact List.mem_append.2 (.inl hb)
  have hcr : ∀ b ∈ blksOf Cr, b ∈ blksOf (Cin ++ Cr) := fun b hb => by rw [blksOf_append]; exact List.mem_append.2 (.inr hb)
  refine ⟨h.ext.trans' h2.ext fun b hb => h.own b (hin b hb), h2.fresh, fun c hc => ?_, fun b hb => ?_, ?_, fun b hb => ?_, fun m hm => ?_⟩
  · rcases List.mem_append.1 hc with hc | hc
    · exact h2.ok c hc
    · exact Ck.ok_keep (h.ok c (List.mem_append.2 (.inr hc))) (fun b hb => h.lt b (hcr b (List.mem_flatMap.2 ⟨c, hc, hb⟩))) h2.ext fun b hb hb' => n3 b hb' b (List.mem_flatMap.2 ⟨c, hc, hb⟩) rfl
  · rw [blksOf_append] at hb
    rcases List.mem_append.1 hb with hb | hb
    · exact h2.lt b hb
    · exact Nat.lt_of_lt_of_le (h.lt b (hcr b hb)) h2.ext.size
  · rw [blksOf_append]
    refine List.nodup_append.2 ⟨h2.nd, n2, fun x hx y hy => ?_⟩
    rintro rfl
    rcases h2.own x hx with h3 | h3
    · have := h.lt x (hcr x hy); omega
    · exact n3 x h3 x hy rfl
  · rw [blksOf_append] at hb
    rcases List.mem_append.1 hb with hb | hb
    · rcases h2.own b hb with h3 | h3
      · exact .inl (Nat.le_trans h.ext.size h3)
      · exact h.own b (hin b h3)
    · exact h.own b (hcr b hb)
  · rcases List.mem_append.1 hm with hm | hm
    · exact h2.ro m hm
    · exact m.mono h2.ext (h.ro m hm)
theorem wo_callS (hF : Fr N D L a) (hS : SS M κ0 w0 κ w (Cin ++ Cr) R) (hc : okOp N L o = true) {f : FuncId} {args : Array Value} (hr : pureRun P (execOp (evD L) o) = some (.enter f args)) {φ : Value → Gh → World → Prop}
    (hcall : SS (blksOf Cin) κ w κ w Cin R → Calls P f args w (Post (blksOf Cin) κ w φ))
    (kk : ∀ v κ' w' a', φ v κ' w' → Fr N D (upd L o.dst v) a' → (∀ Cout Rout, SS (blksOf Cin) κ w κ' w' Cout Rout → SS M κ0 w0 κ' w' (Cout ++ Cr) (Rout ++ R)) → K a' w') : wo ro P o a w K Q := by
  have hsub : Cin.Sublist (Cin ++ Cr) := List.sublist_append_left _ _
  exact wo_call hF hc hr (hcall (hS.drop hsub).rebase) fun _ w' ⟨v, κ', he, hext, hfr, hφ⟩ => ⟨v, he, fun a' hF' => kk v κ' w' a' hφ hF' fun Cout Rout h2 => hS.callBack h2⟩
end
end Go.Cf
namespace Go.Cf
open Go
set_option linter.unusedVariables false
abbrev pt (b o : Nat) : Value := .pointer (some ⟨b, o, none⟩)
abbrev si (x : Int) : Nat × List Value := (1, [.int .i64 x])
abbrev sg (x : ByteArray) : Nat × List Value := (1, [.string x])
abbrev sb (x : Bool) : Nat × List Value := (1, [.bool x])
abbrev sl (p : Option Addr) (n c : Nat) : Nat × List Value := (1, [.slice p n c])
abbrev eb (n : Nat) (l : List Bool) : Nat × List Value := (n, encs fBool l)
abbrev ei (n : Nat) (l : List Int) : Nat × List Value := (n, encs (fInt .i64) l)
abbrev ml {α : Type} (l : List α) (n : Nat) : MP := MP.const (List.length l = n)
abbrev vi (x : Int) : Value := .int .i64 x
abbrev vb (x : Bool) : Value := .bool x
abbrev rg (n : Nat) : List Nat := List.range n
def bitA (n m : Nat) : Array Bool := ((List.range n).map fun i => Nat.testBit m i).toArray
def sgChk : Nat → Segs → Bool
  | 0, _ => true
  | n + 1, (k, [v]) :: s => (k == 1 && v.oneCell') && sgChk n s
  | _, _ => false
theorem sgN (n : Nat) {s : Segs} (r : segGood (s.drop n)) (h : sgChk n s = true := by kernel_rfl) : segGood s := by
  induction n generalizing s with
  | zero => exact r
  | succ n ih =>
    match s, h, r with
    | (k, [v]) :: s, h, r =>
      simp only [sgChk, Bool.and_eq_true, beq_iff_eq] at h
      obtain ⟨⟨rfl, h1⟩, h2⟩ := h
      exact sgV h1 (ih r h2)
def bxB (C : List Ck) (i : Nat) : Nat := match C[i]? with | some (.box b _ _) => b | _ => 0
def bxT (C : List Ck) (i : Nat) : Nat := match C[i]? with | some (.box _ T _) => T | _ => 0
def bxS (C : List Ck) (i : Nat) : Segs := match C[i]? with | some (.box _ _ s) => s | _ => []
def setS (C : List Ck) (i k m : Nat) (s' : Segs) : List Ck := C.set i (.box (bxB C i) (bxT C i) ((bxS C i).take k ++ s' ++ (bxS C i).drop (k + m)))
def opX (o : Oper) : Operand := match o.op with | .store _ x _ => x | .load _ x => x | .box _ x => x | _ => .tmp 0
def opY (o : Oper) : Operand := match o.op with | .store _ _ y => y | _ => .tmp 0
def opT (o : Oper) : TypeId := match o.op with | .store T _ _ => T | .load T _ => T | .box T _ => T | .alloc T => T | _ => 0
def segV (s : Segs) (k j : Nat) : Value := ((s[k]?).bind fun x => x.2[j]?).getD undef
def subS (s : Segs) (k m : Nat) : Segs := (s.drop k).take m
def pureL (P : Program) (ops : Array Oper) (N n : Nat) (ks : List Nat) (l : List Oper) (L : FL) : FL := ((psteps P ops N (l.take n) L).map fun x => keep x ks).getD []
section
variable {ro : Option Nat} {P : Program} {ops : Array Oper} {Q : Exit → Act → World → Prop} {N : Nat} {D : List Deferred} {L L' : FL} {a : Act} {w : World} {o : Oper} {K : Act → World → Prop}
variable {M : List Nat} {κ0 κ : Gh} {w0 : World} {C C' : List Ck} {R R' : List MP}
theorem wp (n : Nat) (ks : List Nat) {l : List Oper} (hF : Fr N D L a) (k : ∀ a', Fr N D (pureL P ops N n ks l L) a' → wl ro P ops Q (l.drop n) a' w)
    (hp : (psteps P ops N (l.take n) L).isSome = true := by kernel_rfl) : wl ro P ops Q l a w := by
  refine wl_pure (L' := pureL P ops N n ks l L) n ks hF ?_ k
  unfold pureL
  cases h : psteps P ops N (l.take n) L with
  | none => rw [h] at hp; cases hp
  | some x => rfl
theorem wc {l : List Oper} (h : wo ro P o a w (wl ro P ops Q l) Q) (hg : o.guard = none := by kernel_rfl) : wl ro P ops Q (o :: l) a w := wl_cons hg h
theorem wcg {l : List Oper} (hF : Fr N D L a) (h : wo ro P o a w (wl ro P ops Q l) Q) (hg : goes ops L o = some true := by kernel_rfl) : wl ro P ops Q (o :: l) a w := wl_consg hF hg h
theorem SS.sp (h : SS M κ0 w0 κ w C R) (is js : List Nat) {C' : List Ck} {R' : List MP} (hn : is.Nodup := by decide) (hC : (is.filterMap fun i => C[i]?) = C' := by kernel_rfl) (hR : (js.filterMap fun i => R[i]?) = R' := by kernel_rfl) : SS M κ0 w0 κ w C' R' := (h.selp is hn hC).pick js hR
theorem SS.sx (h : SS M κ0 w0 κ w C R) (is js : List Nat) {C' : List Ck} {R' : List MP} (hn : is.Nodup := by decide) (hC : (is.filterMap fun i => C[i]?) = C' := by kernel_rfl) (hR : (js.filterMap fun i => R[i]?) = R' := by kernel_rfl) : SSx M κ0 w0 C' R' w := ⟨κ, (h.selp is hn hC).pick js hR⟩
theorem Fr.kp (hF : Fr N D L a) (ks : List Nat) (h : Cf.keep L ks = L' := by kernel_rfl) : Fr N D L' a := hF.keep' ks h
/-- a load of one cell of a box -/
theorem wld (hF : Fr N D L a) (hS : SS M κ0 w0 κ w C R) (i k j : Nat) (kk : ∀ a', Fr N D (upd L o.dst (segV (bxS C i) k j)) a' → K a' w)
    (hc : okOp N L o = true := by kernel_rfl) (hop : o.op = .load (opT o) (opX o) := by kernel_rfl) (hC : C[i]? = some (.box (bxB C i) (bxT C i) (bxS C i)) := by kernel_rfl)
    (hx : ev L (opX o) = some (.pointer (some ⟨bxB C i, tot ((bxS C i).take k) + j, none⟩)) := by kernel_rfl)
    (hj : ((bxS C i)[k]?.bind fun x => x.2[j]?) = some (segV (bxS C i) k j) := by kernel_rfl) (hg : pureRun P (isAgg (opT o)) = some false := by kernel_rfl) : wo ro P o a w K Q := by
  obtain ⟨⟨n, l⟩, hk, hl⟩ := Option.bind_eq_some_iff.1 hj
  exact wo_load hF hS hc i k j hop hx hC hk hl rfl hg kk
/-- a load of a struct or an array -/
theorem wls (hF : Fr N D L a) (hS : SS M κ0 w0 κ w C R) (i k m : Nat) (kk : ∀ a', Fr N D (upd L o.dst (.agg (flat (subS (bxS C i) k m)).toArray)) a' → K a' w)
    (hc : okOp N L o = true := by kernel_rfl) (hop : o.op = .load (opT o) (opX o) := by kernel_rfl) (hC : C[i]? = some (.box (bxB C i) (bxT C i) (bxS C i)) := by kernel_rfl)
    (hx : ev L (opX o) = some (.pointer (some ⟨bxB C i, tot ((bxS C i).take k), none⟩)) := by kernel_rfl)
    (hg : pureRun P (isAgg (opT o)) = some true := by kernel_rfl) (hsz : pureRun P (sizeOf (opT o)) = some (tot (subS (bxS C i) k m)) := by kernel_rfl) : wo ro P o a w K Q :=
  wo_loads hF hS hc i k m hop hx hC rfl rfl hg hsz rfl kk
/-- a store into a box -/
theorem wst (hF : Fr N D L a) (hS : SS M κ0 w0 κ w C R) (i k m : Nat) (s' : Segs) (hs' : segGood s') (kk : ∀ a' w', Fr N D (upd L o.dst undef) a' → SS M κ0 w0 κ w' (setS C i k m s') R → K a' w')
    (hc : okOp N L o = true := by kernel_rfl) (hop : o.op = .store (opT o) (opX o) (opY o) := by kernel_rfl) (hC : C[i]? = some (.box (bxB C i) (bxT C i) (bxS C i)) := by kernel_rfl)
    (hx : ev L (opX o) = some (.pointer (some ⟨bxB C i, tot ((bxS C i).take k), none⟩)) := by kernel_rfl)
    (hy : (ev L (opY o)).map Value.cells = some (flat s').toArray := by kernel_rfl) (hsz : pureRun P (sizeOf (opT o)) = some (tot s') := by kernel_rfl) (hn : tot (subS (bxS C i) k m) = tot s' := by kernel_rfl) : wo ro P o a w K Q := by
  obtain ⟨v, hv, hvc⟩ := Option.map_eq_some_iff.1 hy
  exact wo_stores hF hS hc i k m hop hx hv hC rfl hsz hn rfl hs'.1 hs'.2 hvc rfl rfl kk
theorem wal (hF : Fr N D L a) (hS : SS M κ0 w0 κ w C R) (s : Segs) (hs : segGood s) (kk : ∀ b a' w', Fr N D (upd L o.dst (.pointer (some ⟨b, 0, none⟩))) a' → SS M κ0 w0 κ w' (.box b (opT o) s :: C) R → K a' w')
    (hc : okOp N L o = true := by kernel_rfl) (hop : o.op = .alloc (opT o) := by kernel_rfl) (hz : (pureRun P (zeroValue (opT o))).map Value.cells = some (flat s).toArray := by kernel_rfl) : wo ro P o a w K Q := by
  obtain ⟨z, hz, hzs⟩ := Option.map_eq_some_iff.1 hz
  exact wo_alloc hF hS hc hop hz hs.1 hzs kk
theorem wbx (hF : Fr N D L a) (hS : SS M κ0 w0 κ w C R) (s : Segs) (hs : segGood s) (kk : ∀ b a' w', Fr N D (upd L o.dst (.pointer (some ⟨b, 0, none⟩))) a' → SS M κ0 w0 κ w' (.box b (opT o) s :: C) R → K a' w')
    (hc : okOp N L o = true := by kernel_rfl) (hop : o.op = .box (opT o) (opX o) := by kernel_rfl) (hx : (ev L (opX o)).map Value.cells = some (flat s).toArray := by kernel_rfl) : wo ro P o a w K Q := by
  obtain ⟨v, hv, hvs⟩ := Option.map_eq_some_iff.1 hx
  exact wo_box hF hS hc hop hv hs.1 hvs kk
theorem vld (i k j : Nat) (hop : o.op = .load (opT o) (opX o) := by kernel_rfl) (hC : C[i]? = some (.box (bxB C i) (bxT C i) (bxS C i)) := by kernel_rfl)
    (hx : ev L (opX o) = some (.pointer (some ⟨bxB C i, tot ((bxS C i).take k) + j, none⟩)) := by kernel_rfl)
    (hj : ((bxS C i)[k]?.bind fun x => x.2[j]?) = some (segV (bxS C i) k j) := by kernel_rfl) (hg : pureRun P (isAgg (opT o)) = some false := by kernel_rfl) : ∀ w, SSx M κ0 w0 C R w → (execOp (evD L) o).run P w = .ok (.value (segV (bxS C i) k j)) w := by
  obtain ⟨⟨n, l⟩, hk, hl⟩ := Option.bind_eq_some_iff.1 hj
  exact val_load i k j hop hx hC hk hl rfl hg
theorem vls (i k m : Nat) (hop : o.op = .load (opT o) (opX o) := by kernel_rfl) (hC : C[i]? = some (.box (bxB C i) (bxT C i) (bxS C i)) := by kernel_rfl)
    (hx : ev L (opX o) = some (.pointer (some ⟨bxB C i, tot ((bxS C i).take k), none⟩)) := by kernel_rfl)
    (hg : pureRun P (isAgg (opT o)) = some true := by kernel_rfl) (hsz : pureRun P (sizeOf (opT o)) = some (tot (subS (bxS C i) k m)) := by kernel_rfl) : ∀ w, SSx M κ0 w0 C R w → (execOp (evD L) o).run P w = .ok (.value (.agg (flat (subS (bxS C i) k m)).toArray)) w :=
  val_loads i k m hop hx hC rfl rfl hg hsz rfl
theorem rvc (hF : Fr N D L a) (hS : SS M κ0 w0 κ w C R) (i k j : Nat) {t T : Nat} {v : Value} (h : L.lookup t = some (.pointer (some ⟨bxB C i, tot ((bxS C i).take k) + j, none⟩)) := by kernel_rfl) (hC : C[i]? = some (.box (bxB C i) (bxT C i) (bxS C i)) := by kernel_rfl)
    (hj : ((bxS C i)[k]?.bind fun x => x.2[j]?) = some v := by kernel_rfl) (hg : pureRun P (isAgg T) = some false := by kernel_rfl) : RV P a w (.cell t T) v := by
  obtain ⟨⟨n, l⟩, hk, hl⟩ := Option.bind_eq_some_iff.1 hj
  exact rv_cell hF hS i k j h hC hk hl rfl hg
theorem rvs (hF : Fr N D L a) (hS : SS M κ0 w0 κ w C R) (i k m : Nat) {t T : Nat} {v : Value} (h : L.lookup t = some (.pointer (some ⟨bxB C i, tot ((bxS C i).take k), none⟩)) := by kernel_rfl) (hC : C[i]? = some (.box (bxB C i) (bxT C i) (bxS C i)) := by kernel_rfl)
    (hv : Value.agg (flat (subS (bxS C i) k m)).toArray = v := by kernel_rfl) (hg : pureRun P (isAgg T) = some true := by kernel_rfl) (hsz : pureRun P (sizeOf T) = some (tot (subS (bxS C i) k m)) := by kernel_rfl) : RV P a w (.cell t T) v := by
  subst hv
  exact rv_cells hF hS i k m h hC rfl rfl hg hsz rfl
theorem rvt (hF : Fr N D L a) {t : Nat} {v : Value} (h : L.lookup t = some v := by kernel_rfl) : RV P a w (.tmp t) v := rv_tmp hF h
end
section
variable {ro : Option Nat} {P : Program} {ops : Array Oper} {Q : Exit → Act → World → Prop} {S : World → Prop} {tl : List Nat} {N m : Nat} {D : List Deferred} {L L' : FL} {a : Act} {w : World} {fuel : Nat} {listed : Array Bool}
def takL (P : Program) (ops : Array Oper) (tl : List Nat) (N : Nat) (is ks : List Nat) (listed : Array Bool) (L : FL) : FL := ((ptakes P ops tl N is listed L).map fun x => keep x.2 ks).getD []
def takA (P : Program) (ops : Array Oper) (tl : List Nat) (N : Nat) (is : List Nat) (listed : Array Bool) (L : FL) : Array Bool := ((ptakes P ops tl N is listed L).map fun x => x.1).getD #[]
theorem anp (is ks : List Nat) (hF : Fr N D L a) (hS : S w) (k : ∀ a', Fr N D (takL P ops tl N is ks listed L) a' → AnyH ro P ops Q S tl (m - is.length) (takA P ops tl N is listed L) a' w)
    (hsel : noSel ops = true := by kernel_rfl) (hQ : ∀ c a w t v, Q (.panic c) (a.put t v) w → Q (.panic c) a w := by intro c a w t v h; cases t <;> exact h)
    (hp : (ptakes P ops tl N is listed L).isSome = true := by kernel_rfl) (hm : Nat.ble is.length m = true := by kernel_rfl) : AnyH ro P ops Q S tl m listed a w := by
  refine any_pure (fuel := m - is.length) is ks hF hS hsel hQ (L' := takL P ops tl N is ks listed L) (listed' := takA P ops tl N is listed L) ?_ ?_ k
  · unfold takL takA
    cases h : ptakes P ops tl N is listed L with
    | none => rw [h] at hp; cases hp
    | some x => rfl
  · have := Nat.le_of_ble_eq_true hm; omega
theorem ago (i : Nat) {o : Oper} (hF : Fr N D L a) (hi : ops[i]? = some o)
    (h : wo ro P o a w (fun a' w' => (early tl (listed.setIfInBounds i true) = true → S w') ∧ AnyH ro P ops Q S tl (m - 1) (listed.setIfInBounds i true) a' w') Q)
    (hr : Region.ready md ops listed = [i] := by kernel_rfl) (hg : goes ops L o = some true := by kernel_rfl) (hm : Nat.ble 1 m = true := by kernel_rfl) : AnyH ro P ops Q S tl m listed a w := by
  obtain ⟨f, rfl⟩ : ∃ f, m = f + 1 := ⟨m - 1, by have := Nat.le_of_ble_eq_true hm; omega⟩
  exact any_go i hF hi hr hg rfl h
theorem ago2 (i j : Nat) {oi oj : Oper} (hF : Fr N D L a) (hi : ops[i]? = some oi) (hj : ops[j]? = some oj)
    (h1 : wo ro P oi a w (fun a' w' => (early tl (listed.setIfInBounds i true) = true → S w') ∧ AnyH ro P ops Q S tl (m - 1) (listed.setIfInBounds i true) a' w') Q)
    (h2 : wo ro P oj a w (fun a' w' => (early tl (listed.setIfInBounds j true) = true → S w') ∧ AnyH ro P ops Q S tl (m - 1) (listed.setIfInBounds j true) a' w') Q)
    (hr : Region.ready md ops listed = [i, j] := by kernel_rfl) (hgi : goes ops L oi = some true := by kernel_rfl) (hgj : goes ops L oj = some true := by kernel_rfl) (hm : Nat.ble 1 m = true := by kernel_rfl) : AnyH ro P ops Q S tl m listed a w := by
  obtain ⟨f, rfl⟩ : ∃ f, m = f + 1 := ⟨m - 1, by have := Nat.le_of_ble_eq_true hm; omega⟩
  exact any_go2 i j hF hi hj hr hgi hgj rfl rfl h1 h2
theorem atk (i : Nat) (d : Option Tmp) {o : Oper} (hF : Fr N D L a) (hS : S w) (hi : ops[i]? = some o) {v : Value} (hv : ∀ w, S w → (execOp (evD L) o).run P w = .ok (.value v) w)
    (k : ∀ a', Fr N D (upd L d v) a' → AnyH ro P ops Q S tl (m - 1) (listed.setIfInBounds i true) a' w)
    (hsel : noSel ops = true := by kernel_rfl) (hmt : mayTake ops tl listed i = true := by kernel_rfl) (hQ : ∀ c a w v, Q (.panic c) (a.put o.dst v) w → Q (.panic c) a w := by intro c a w v h; exact h)
    (hd : okDst N o = true := by kernel_rfl) (hg : goes ops L o = some true := by kernel_rfl) (hc : covers L o = true := by kernel_rfl) (hdd : o.dst = d := by kernel_rfl) (hm : Nat.ble 1 m = true := by kernel_rfl) : AnyH ro P ops Q S tl m listed a w := by
  obtain ⟨f, rfl⟩ : ∃ f, m = f + 1 := ⟨m - 1, by have := Nat.le_of_ble_eq_true hm; omega⟩
  exact any_take i d hF hS hi hsel hmt hQ hd hg hc hdd hv k
theorem and_ (h : Q .normal a w) (hr : Region.ready md ops listed = [] := by kernel_rfl) : AnyH ro P ops Q S tl m listed a w := any_done hr h m
theorem notE {b : Bool} {p : Prop} (h : b = false := by kernel_rfl) : b = true → p := fun e => absurd (h.symm.trans e) Bool.false_ne_true
/-- all but what is handed on -/
def isBx : Ck → Bool
  | .tok .. => false
  | _ => true
variable {M : List Nat} {κ0 κ : Gh} {w0 : World} {C : List Ck} {R : List MP}
set_option linter.unusedVariables false in
theorem rgS {id : Nat} (hS : SS M κ0 w0 κ w C R) (tl : List Nat) (h : AnyH ro P ops Q (SSx M κ0 w0 (C.filter isBx) R) tl ops.size (Array.replicate ops.size false) a { w with drawn := w.drawn + 1 }) (hm : P.follows .mixedOrders = true := by kernel_rfl) : (Code.region id ops true).wpIn (FW ro) 0 P Q a w :=
  region_any _ tl hm rfl rfl h
end
end Go.Cf
namespace Go.Cf
open Go
set_option linter.unusedVariables false
theorem Ext.all {M : List Nat} {κ κ' : Gh} {w w' : World} (h : Ext M κ w κ' w') : Ext (List.range w.heap.size) κ w κ' w' :=
  ⟨h.os, h.out, h.tape, h.size, fun b hb hm => absurd (List.mem_range.2 hb) hm, h.pub⟩
/-- all that was published at (κ1, w1) is as it was -/
def MP.since (κ1 : Gh) (w1 : World) : MP := ⟨fun κ w => ∃ M, Ext M κ1 w1 κ w, fun {_ κ w _ _} e ⟨_, h⟩ => ⟨List.range w1.heap.size ++ List.range w.heap.size, by
  refine (h.all.weaken fun b hb _ => List.mem_append.2 (.inl hb)).trans (e.all.weaken fun b hb _ => List.mem_append.2 (.inr hb))⟩⟩
def MP.old (p : Option Addr) (w1 : World) : MP := MP.const (∀ a, p = some a → w1.heap.size ≤ a.block)
section
variable {ro : Option Nat} {P : Program} {ops : Array Oper} {Q : Exit → Act → World → Prop} {N : Nat} {D : List Deferred} {L L' : FL} {a : Act} {w : World} {o : Oper} {K : Act → World → Prop}
variable {κ0 κ : Gh} {w0 : World} {C C' : List Ck} {R R' R0 Ra Rb : List MP}
theorem snap {M : List Nat} {G : Prop} (hS : SS M κ0 w0 κ w C R) (k : ∀ κ1 w1, (∀ m ∈ R, m.p κ1 w1) → Fresh κ1 w1 → w0.heap.size ≤ w1.heap.size → w1.heap.size = w.heap.size → SS M κ0 w0 κ w C (MP.since κ1 w1 :: R) → G) : G :=
  k κ w hS.ro hS.fresh hS.ext.size rfl (hS.add (m := MP.since κ w) ⟨[], Ext.refl _ _ _⟩)
/-- a chunk that speaks of its own blocks alone -/
def NoF : Ck → Prop
  | .ext x => ∀ κ w w', (∀ b ∈ x.bs, w'.heap[b]? = w.heap[b]?) → x.p κ w → x.p κ w'
  | _ => True
theorem nfN : ∀ d ∈ ([] : List Ck), NoF d := fun _ h => by cases h
theorem nfC {c : Ck} {C : List Ck} (h : NoF c) (r : ∀ d ∈ C, NoF d) : ∀ d ∈ c :: C, NoF d := fun d hd => by
  rcases List.mem_cons.1 hd with rfl | hd
  · exact h
  · exact r d hd
theorem nfB {b T : Nat} {s : Segs} : NoF (.box b T s) := trivial
theorem nfT {p : Option Addr} {E s n c : Nat} : NoF (.tok p E s n c) := trivial
/-- a store into an element of a slice that was made here: what held then holds on -/
theorem wo_storeTokS {M : List Nat} {κ1 : Gh} {w1 : World} (hF : Fr N D L a) (hS : SS M κ0 w0 κ w C R) (hf0 : Fresh κ0 w0) (hf1 : Fresh κ1 w1) (hw1 : w0.heap.size ≤ w1.heap.size) (hR0 : ∀ m ∈ R0, m.p κ1 w1) (hc : okOp N L o = true) {α : Type} {t : FT α} (ci ri si fi f : Nat) {T E b off Eo c n sz : Nat} {p : Option Addr} {l : List α} {i : Int} {y z : α} {x x' : Operand} {v : Value} {vs : List Value}
    (hop : o.op = .store T x x') (hx : ev L x = some (.pointer (some ⟨b, Eo, none⟩))) (hy : ev L x' = some v) (hC : C[ci]? = some (.tok p E t.size n c)) (hn : n = l.length) (hR : R[ri]? = some (Ro.mp t.ty p c l))
    (hp : p = some ⟨b, off, none⟩) (hi : idx l i = some y) (hE : off + i.toNat * t.size + f = Eo) (hsz : pureRun P (sizeOf T) = some sz) (hvs : v.cells = vs.toArray) (hvl : vs.length = sz) (h1 : ∀ u ∈ vs, u.oneCell' = true)
    (hz : t.enc z = (t.enc y).take f ++ vs ++ (t.enc y).drop (f + sz)) (hfs : f + sz ≤ t.size) (hsi : R[si]? = some (MP.since κ1 w1)) (hfi : R[fi]? = some (MP.old p w1)) (hne : ∀ d ∈ C, NoF d)
    (ia ib : List Nat) (hRa : (ia.filterMap fun i => R0[i]?) = Ra) (hRb : (ib.filterMap fun i => R[i]?) = Rb) (hap : ∀ m ∈ Rb, Apart b m) {Cf : Nat → List Ck} {Lf : Nat → FL} (ks : List Nat) (hCf : C = Cf l.length) (hLf : keep (upd L o.dst undef) ks = Lf l.length)
    (kk : ∀ a' w', Fr N D (Lf (l.set i.toNat z).length) a' → SS M κ0 w0 κ w' (Cf (l.set i.toNat z).length) (Ro.mp t.ty p c (l.set i.toNat z) :: MP.since κ1 w1 :: (Ra ++ Rb)) → K a' w') : wo ro P o a w K Q := by
  rw [List.length_set, ← hCf] at kk
  subst hn hp hRa hRb
  obtain ⟨h0, hil, hiy⟩ := idx_some hi
  have hRo : Ro t.ty κ w (some ⟨b, off, none⟩) c l := hS.get ri hR
  have htok := hS.ck ci hC
  rcases htok with ⟨hp, _⟩ | ⟨b', off', cells, hp, hk, hlc, hcm, hheap, hcs⟩
  · omega
  simp only [Option.some.injEq, Addr.mk.injEq] at hp
  obtain ⟨rfl, rfl, _⟩ := hp
  have hmul : i.toNat * t.size + t.size ≤ l.length * t.size := by
    have : (i.toNat + 1) * t.size ≤ l.length * t.size := Nat.mul_le_mul_right _ hil
    rw [Nat.add_mul, Nat.one_mul] at this
    exact this
  have hmulc : l.length * t.size ≤ c * t.size := Nat.mul_le_mul_right _ hlc
  have hbm : b ∈ blksOf C := List.mem_flatMap.2 ⟨_, List.mem_of_getElem? hC, by simp [Ck.blks]⟩
  have hblt : b < w.heap.size := hS.lt b hbm
  have hb1 : w1.heap.size ≤ b := (show ∀ a : Addr, _ = some a → w1.heap.size ≤ a.block from hS.get fi hfi) _ rfl
  have hb0 : w0.heap.size ≤ b := Nat.le_trans hw1 hb1
  have hst := run_storeCells_at P b Eo E vs 0 cells w hheap (by rw [hvl, hcs]; omega) h1
  simp only [Nat.add_zero] at hst
  rw [setRow_eq w b E _ _ hheap] at hst
  have hst' : (Instr.storeAt T (.pointer (some ⟨b, Eo, none⟩)) v).run P w = .ok () { w with heap := w.heap.setIfInBounds b (.cells (cells.toList.take Eo ++ vs ++ cells.toList.drop (Eo + vs.length)).toArray E (0, 0)) } := by
    have e1 : v.cells.toList = vs := by rw [hvs]
    have e2 : v.cells.size = sz := by rw [hvs]; simpa using hvl
    simp [Instr.storeAt, Instr.sureAddr, storeVar, pureRun_run _ hsz w, e1, e2, hst]
  generalize harr : (cells.toList.take Eo ++ vs ++ cells.toList.drop (Eo + vs.length)).toArray = arr at hst'
  have hal : arr.size = cells.size := by
    subst harr
    simp only [List.size_toArray, List.length_append, List.length_take, List.length_drop, Array.length_toList]
    omega
  let w' : World := { w with heap := w.heap.setIfInBounds b (.cells arr E (0, 0)) }
  have hother : ∀ b', b' ≠ b → w'.heap[b']? = w.heap[b']? := fun b' hne => by
    show (w.heap.setIfInBounds b _)[b']? = _
    rw [Array.getElem?_setIfInBounds_ne (Ne.symm hne)]
  have hme : w'.heap[b]? = some (.cells arr E (0, 0)) := by
    show (w.heap.setIfInBounds b _)[b]? = _
    simp [hblt]
  have hext0 : Ext M κ0 w0 κ w' := by
    refine ⟨hS.ext.os, hS.ext.out, hS.ext.tape, ?_, fun b' hb' hm => ?_, fun b' m hm => ?_⟩
    · have := hS.ext.size; simpa [w'] using this
    · obtain ⟨h1, h2⟩ := hS.ext.keep b' hb' hm
      exact ⟨(hother b' (by omega)).trans h1, h2⟩
    · obtain ⟨n', h1, h2, h3⟩ := hS.ext.pub b' m hm
      have hb' : b' < w0.heap.size := by
        rcases Nat.lt_or_ge b' w0.heap.size with h | h
        · exact h
        · rw [hf0 b' h] at hm; cases hm
      exact ⟨n', h1, h2, fun i hi => (cell_of_heap (hother b' (by omega))).trans (h3 i hi)⟩
  obtain ⟨M1, hx1⟩ : ∃ M1, Ext M1 κ1 w1 κ w := hS.get si hsi
  have hext1 : Ext M1 κ1 w1 κ w' := by
    refine ⟨hx1.os, hx1.out, hx1.tape, ?_, fun b' hb' hm => ?_, fun b' m hm => ?_⟩
    · have := hx1.size; simpa [w'] using this
    · obtain ⟨h1, h2⟩ := hx1.keep b' hb' hm
      exact ⟨(hother b' (by omega)).trans h1, h2⟩
    · obtain ⟨n', h1, h2, h3⟩ := hx1.pub b' m hm
      have hb' : b' < w1.heap.size := by
        rcases Nat.lt_or_ge b' w1.heap.size with h | h
        · exact h
        · rw [hf1 b' h] at hm; cases hm
      exact ⟨n', h1, h2, fun i hi => (cell_of_heap (hother b' (by omega))).trans (h3 i hi)⟩
  have hcell : ∀ k, w'.cell? ⟨b, k, none⟩ = arr[k]? := fun k => by simp [World.cell?, hme]
  have hcell0 : ∀ k, w.cell? ⟨b, k, none⟩ = cells[k]? := fun k => by simp [World.cell?, hheap]
  have harrk : ∀ k, arr[k]? = if k < Eo then cells[k]? else if k < Eo + sz then vs[k - Eo]? else cells[k]? := fun k => by
    subst harr
    have hEc : Eo + sz ≤ cells.toList.length := by simp only [Array.length_toList]; omega
    rw [List.getElem?_toArray, List.append_assoc]
    by_cases hk1 : k < Eo
    · rw [if_pos hk1, List.getElem?_append_left (by simp; omega), List.getElem?_take, if_pos hk1]; simp
    · rw [if_neg hk1, List.getElem?_append_right (by simp; omega)]
      have hlt : (cells.toList.take Eo).length = Eo := by simp; omega
      rw [hlt]
      by_cases hk2 : k < Eo + sz
      · rw [if_pos hk2, List.getElem?_append_left (by omega)]
      · rw [if_neg hk2, List.getElem?_append_right (by omega), List.getElem?_drop]
        simp only [Array.getElem?_toList]
        congr 1; omega
  refine wo_skip hF hc (exec_store hop hx hy hst') fun a' hF' => kk a' w' (hF'.keep' ks hLf) ⟨hext0, fun b' hb' => hS.fresh b' (by simpa [w'] using hb'), fun d hd => ?_, fun b' hb' => by simpa [w'] using hS.lt b' hb', hS.nd, hS.own, fun m hm => ?_⟩
  · -- the chunks
    obtain ⟨j, hj⟩ := List.getElem?_of_mem hd
    have hdne := hne d hd
    by_cases hji : j = ci
    · subst hji
      rw [hC] at hj
      simp only [Option.some.injEq] at hj
      subst hj
      exact .inr ⟨b, off, arr, rfl, hk, hlc, hcm, hme, by rw [hal]; exact hcs⟩
    · have hnb : ∀ b', b' ∈ d.blks → b' ≠ b := fun b' hb' e => nodup_apart hS.nd hj hC hji hb' (by simp [Ck.blks, e])
      have hok := hS.ok d hd
      cases d with
      | box b' T' s =>
        obtain ⟨k1, k2, k3⟩ := hok
        exact ⟨(hother b' (hnb b' (by simp [Ck.blks]))).trans k1, k2, k3⟩
      | tok p' E' s' n' c' =>
        rcases hok with k | ⟨b', off', cells', rfl, k1, k2, k3, k4, k5⟩
        · exact .inl k
        · exact .inr ⟨b', off', cells', rfl, k1, k2, k3, (hother b' (hnb b' (by simp [Ck.blks]))).trans k4, k5⟩
      | ext x => exact hdne κ w w' (fun b' hb' => hother b' (hnb b' hb')) hok
  · rcases List.mem_cons.1 hm with rfl | hm
    · refine ⟨by rw [List.length_set]; exact hRo.1, hRo.2.1, .inr ⟨b, off, _, rfl, hk, by rw [List.length_set]; exact Nat.le_refl _, fun j u hj => ⟨t.enc u, rfl, fun q e he => ?_⟩⟩⟩
      have hql : q < t.size := by rw [← t.len u]; exact (List.getElem?_eq_some_iff.1 he).1
      show w'.cell? ⟨b, off + j * t.size + q, none⟩ = some e
      rw [hcell, harrk]
      rw [List.getElem?_set] at hj
      split at hj
      · rename_i hij
        subst hij
        simp only [Option.some.injEq] at hj
        subst hj
        obtain ⟨cs, hr, hcy⟩ := hRo.at' hiy
        have hr' : cs = t.enc y := hr
        subst hr'
        rw [hz] at he
        have hyl := t.len y
        subst hE
        by_cases hq1 : q < f
        · rw [if_pos (by omega)]
          rw [List.append_assoc, List.getElem?_append_left (by simp; omega), List.getElem?_take, if_pos hq1] at he
          rw [← hcell0]; exact hcy q e he
        · rw [if_neg (by omega)]
          have hlt : ((t.enc y).take f).length = f := by simp; omega
          rw [List.append_assoc, List.getElem?_append_right (by omega), hlt] at he
          by_cases hq2 : q < f + sz
          · rw [if_pos (by omega)]
            rw [List.getElem?_append_left (by omega)] at he
            rw [← he]; congr 1; omega
          · rw [if_neg (by omega)]
            rw [List.getElem?_append_right (by omega), List.getElem?_drop] at he
            rw [← hcell0]
            refine hcy q e ?_
            rw [← he]; congr 1; omega
      · rename_i hij
        obtain ⟨cs, hr, hcu⟩ := hRo.at' hj
        have hr' : cs = t.enc u := hr
        subst hr'
        have := hcu q e he
        rw [hcell0] at this
        have hside : off + j * t.size + q < Eo ∨ Eo + sz ≤ off + j * t.size + q := by
          rcases Nat.lt_or_gt_of_ne hij with h | h
          · right
            have : (i.toNat + 1) * t.size ≤ j * t.size := Nat.mul_le_mul_right _ h
            rw [Nat.add_mul, Nat.one_mul] at this
            omega
          · left
            have : (j + 1) * t.size ≤ i.toNat * t.size := Nat.mul_le_mul_right _ h
            rw [Nat.add_mul, Nat.one_mul] at this
            omega
        rcases hside with h | h
        · rw [if_pos h]; exact this
        · rw [if_neg (by omega), if_neg (by omega)]; exact this
    · rcases List.mem_cons.1 hm with rfl | hm
      · exact ⟨M1, hext1⟩
      · rcases List.mem_append.1 hm with hm | hm
        · obtain ⟨j, _, hj⟩ := List.mem_filterMap.1 hm
          exact m.mono hext1 (hR0 m (List.mem_of_getElem? hj))
        · obtain ⟨j, _, hj⟩ := List.mem_filterMap.1 hm
          exact hap m hm κ w w' hother (hS.get j hj)
end
section
variable {ro : Option Nat} {P : Program} {ops : Array Oper} {Q : Exit → Act → World → Prop} {N : Nat} {D : List Deferred} {L L' : FL} {a : Act} {w : World} {o : Oper} {K : Act → World → Prop}
variable {M : List Nat} {κ0 κ : Gh} {w0 : World} {C C' : List Ck} {R R' : List MP}
end
section
variable {P : Program} {L : FL} {o : Oper}
end
section
variable {ro : Option Nat} {P : Program} {ops : Array Oper} {Q : Exit → Act → World → Prop} {N : Nat} {D : List Deferred} {L L' : FL} {a : Act} {w : World} {o : Oper} {K : Act → World → Prop}
variable {M : List Nat} {κ0 κ : Gh} {w0 : World} {C C' : List Ck} {R R' : List MP}
end
end Go.Cf
namespace Go.Cf
open Go
/-- from cell k of block b on these cells were published -/
def MP.cells (b k : Nat) (cs : List Value) : MP := ⟨fun κ w => ∃ n, κ b = some n ∧ k + cs.length ≤ n ∧ ∀ j v, cs[j]? = some v → w.cell? ⟨b, k + j, none⟩ = some v, fun {_ κ w κ' w'} e ⟨n, h1, h2, h3⟩ => by
  obtain ⟨n', k1, k2, k3⟩ := e.pub b n h1
  refine ⟨n', k1, Nat.le_trans h2 k2, fun j v hj => ?_⟩
  have := (List.getElem?_eq_some_iff.1 hj).1
  rw [k3 _ (by omega)]
  exact h3 j v hj⟩
section
variable {P : Program} {w : World} {L : FL} {o : Oper} {M : List Nat} {κ0 κ : Gh} {w0 : World} {C : List Ck} {R : List MP}
end
section
variable {P : Program} {L : FL} {o : Oper}
end
section
variable {ro : Option Nat} {P : Program} {ops : Array Oper} {Q : Exit → Act → World → Prop} {S : World → Prop} {tl : List Nat} {N : Nat} {D : List Deferred} {L : FL} {a : Act} {w : World} {m : Nat} {listed : Array Bool}
end
section
variable {ro : Option Nat} {P : Program} {ops : Array Oper} {Q : Exit → Act → World → Prop} {S : World → Prop} {tl : List Nat} {N : Nat} {D : List Deferred} {L : FL} {a : Act} {w : World} {m : Nat} {listed : Array Bool} {o : Oper} {K : Act → World → Prop}
variable {M : List Nat} {κ0 κ : Gh} {w0 : World} {C : List Ck} {R : List MP}
abbrev pk (C : List Ck) (is : List Nat) : List Ck := is.filterMap fun i => C[i]?
/-- a call that is handed boxes and own slices: the first k of those that are picked -/
theorem wcS (k : Nat) (is : List Nat) (hF : Fr N D L a) (hS : SS M κ0 w0 κ w C R) {f : FuncId} {args : Array Value} {φ : Value → Gh → World → Prop}
    (hcall : SS (blksOf ((pk C is).take k)) κ w κ w ((pk C is).take k) R → Calls P f args w (Post (blksOf ((pk C is).take k)) κ w φ))
    (kk : ∀ v κ' w' a', φ v κ' w' → Fr N D (upd L o.dst v) a' → (∀ Cout Rout, SS (blksOf ((pk C is).take k)) κ w κ' w' Cout Rout → SS M κ0 w0 κ' w' (Cout ++ (pk C is).drop k) (Rout ++ R)) → K a' w')
    (hn : is.Nodup := by decide) (hc : okOp N L o = true := by kernel_rfl) (hr : pureRun P (execOp (evD L) o) = some (.enter f args) := by kernel_rfl) : wo ro P o a w K Q := by
  have h1 : SS M κ0 w0 κ w ((pk C is).take k ++ (pk C is).drop k) R := by rw [List.take_append_drop]; exact hS.selp is hn rfl
  exact wo_callS hF h1 hc hr hcall kk
end
/-- what a call in chunk mode is handed -/
structure SB (M : List Nat) (κ : Gh) (w : World) (C : List Ck) (R : List MP) : Prop where
  hM : M = blksOf C
  hS : SS M κ w κ w C R
end Go.Cf
namespace Go.Cf
open Go
theorem bl_irrefl : ∀ l : List UInt8, Op.bytesLess l l = false := fun l => by
  induction l with
  | nil => rfl
  | cons a l ih => simp [Op.bytesLess, ih]
theorem bl_total : ∀ a b : List UInt8, (!Op.bytesLess a b) = (Op.bytesLess b a || b == a) := fun a => by
  induction a with
  | nil => intro b; cases b <;> simp [Op.bytesLess]
  | cons x a ih =>
    intro b
    cases b with
    | nil => simp [Op.bytesLess]
    | cons y b =>
      have hih := ih b
      simp only [Op.bytesLess]
      rcases Nat.lt_trichotomy x.toNat y.toNat with h | h | h
      · have h1 : x < y := h
        have h2 : ¬ y < x := fun h3 => by have : y.toNat < x.toNat := h3; omega
        have h3 : x ≠ y := fun e => by subst e; omega
        simp [h1, h2, h3, Ne.symm h3]
      · have h0 : x = y := UInt8.toNat_inj.1 h
        subst h0
        have h2 : ¬ x < x := fun h3 => by have : x.toNat < x.toNat := h3; omega
        simp only [h2, decide_false, Bool.false_or, beq_self_eq_true, Bool.true_and, hih, List.cons_beq_cons]
      · have h1 : y < x := h
        have h2 : ¬ x < y := fun h3 => by have : x.toNat < y.toNat := h3; omega
        have h3 : x ≠ y := fun e => by subst e; omega
        simp [h1, h2, h3, Ne.symm h3]
theorem bl_nil (a : List UInt8) : Op.bytesLess a [] = false := by cases a <;> rfl
theorem sLt_not (a b : ByteArray) : (!sLt a b) = (sLt b a || sEq b a) := bl_total _ _
end Go.Cf
namespace Go.Cf
open Go
end Go.Cf
namespace Go.Cf
open Go Go.MapKept
abbrev Mp (K V : Type) := Option (List (K × V))
/-- keys that are ordered -/
class KO (K : Type) where
  lt : K → K → Bool
  irr : ∀ a, lt a a = false
  tr : ∀ a b c, lt a b = true → lt b c = true → lt a c = true
  tot : ∀ a b, a ≠ b → lt a b = true ∨ lt b a = true
theorem bl_tr : ∀ a b c : List UInt8, Op.bytesLess a b = true → Op.bytesLess b c = true → Op.bytesLess a c = true := fun a => by
  induction a with
  | nil =>
    intro b c h1 h2
    cases c with
    | nil => rw [bl_nil] at h2; cases h2
    | cons z c => rfl
  | cons x a ih =>
    intro b c h1 h2
    cases b with
    | nil => rw [bl_nil] at h1; cases h1
    | cons y b =>
      cases c with
      | nil => rw [bl_nil] at h2; cases h2
      | cons z c =>
        simp only [Op.bytesLess, Bool.or_eq_true, decide_eq_true_eq, Bool.and_eq_true, beq_iff_eq] at h1 h2 ⊢
        rcases h1 with h1 | ⟨rfl, h1⟩
        · rcases h2 with h2 | ⟨rfl, h2⟩
          · exact .inl (Nat.lt_trans (show x.toNat < y.toNat from h1) (show y.toNat < z.toNat from h2))
          · exact .inl h1
        · rcases h2 with h2 | ⟨rfl, h2⟩
          · exact .inl h2
          · exact .inr ⟨rfl, ih _ _ h1 h2⟩
theorem ba_toList_inj {a b : ByteArray} (h : a.toList = b.toList) : a = b := by
  have h1 : a.data.toList = b.data.toList := by rw [← ByteArray.toList_eq, ← ByteArray.toList_eq, h]
  cases a; cases b
  simpa using h1
instance : KO ByteArray where
  lt := sLt
  irr a := bl_irrefl _
  tr a b c := bl_tr _ _ _
  tot a b h := by
    have h1 := bl_total a.toList b.toList
    cases h2 : Op.bytesLess a.toList b.toList
    · rw [h2] at h1
      simp only [Bool.not_false, Bool.true_eq, Bool.or_eq_true, beq_iff_eq] at h1
      rcases h1 with h1 | h1
      · exact .inr h1
      · exact absurd (ba_toList_inj h1).symm h
    · exact .inl h2
instance : KO Int where
  lt a b := decide (a < b)
  irr a := by simp
  tr a b c h1 h2 := by simp only [decide_eq_true_eq] at *; omega
  tot a b h := by simp only [decide_eq_true_eq]; omega
section
variable {K V : Type} [DecidableEq K]
def lFind (l : List (K × V)) (k : K) : Option V := (l.find? fun p => decide (p.1 = k)).map (·.2)
/-- by rising keys -/
def Srt [KO K] (l : List (K × V)) : Prop := l.Pairwise fun x y => KO.lt x.1 y.1 = true
def mGet (m : Mp K V) (k : K) : Option V := m.bind fun l => lFind l k
theorem lFind_none {l : List (K × V)} {k : K} : lFind l k = none ↔ ∀ p ∈ l, p.1 ≠ k := by
  simp [lFind, List.find?_eq_none]
theorem lFind_at {l : List (K × V)} (hn : (l.map (·.1)).Nodup) {j : Nat} {x : K × V} (h : l[j]? = some x) : lFind l x.1 = some x.2 := by
  induction l generalizing j with
  | nil => simp at h
  | cons y l ih =>
    simp only [List.map_cons, List.nodup_cons] at hn
    cases j with
    | zero => simp only [List.getElem?_cons_zero, Option.some.injEq] at h; subst h; simp [lFind]
    | succ j =>
      simp only [List.getElem?_cons_succ] at h
      have hne : y.1 ≠ x.1 := fun e => hn.1 (e ▸ List.mem_map.2 ⟨x, List.mem_of_getElem? h, rfl⟩)
      have := ih hn.2 h
      simp only [lFind] at this ⊢
      rw [List.find?_cons_of_neg (by simpa using hne)]
      exact this
theorem lFind_some {l : List (K × V)} {k : K} {v : V} (h : lFind l k = some v) : (k, v) ∈ l := by
  simp only [lFind, Option.map_eq_some_iff] at h
  obtain ⟨p, hp, rfl⟩ := h
  have h1 := List.find?_some hp
  simp only [decide_eq_true_eq] at h1
  subst h1
  exact List.mem_of_find?_eq_some hp
section
variable [KO K]
omit [DecidableEq K] in
theorem Srt.nodup {l : List (K × V)} (h : Srt l) : (l.map (·.1)).Nodup := by
  refine List.Pairwise.map _ (fun x y hxy e => ?_) h
  rw [e, KO.irr] at hxy; cases hxy
omit [KO K] in
/-- the keys of a list, however it lies -/
theorem keys_of {l l' : List (K × V)} (hn : (l.map (·.1)).Nodup) (hn' : (l'.map (·.1)).Nodup) (h : ∀ k, lFind l k = lFind l' k) : l.Perm l' := by
  have nd : ∀ {l : List (K × V)}, (l.map (·.1)).Nodup → l.Nodup := fun h => List.Pairwise.of_map _ (fun a b h e => h (by rw [e])) h
  have sub : ∀ {l l' : List (K × V)}, (l.map (·.1)).Nodup → (∀ k, lFind l k = lFind l' k) → ∀ x ∈ l, x ∈ l' := fun {l l'} hn h x hx => by
    obtain ⟨j, hj⟩ := List.mem_iff_getElem?.1 hx
    have := lFind_at hn hj
    rw [h] at this
    exact lFind_some this
  exact (List.perm_ext_iff_of_nodup (nd hn) (nd hn')).2 fun x => ⟨sub hn h x, sub hn' (fun k => (h k).symm) x⟩
/-- two that are by rising keys, and have the same, are the same -/
theorem Srt.ext {l l' : List (K × V)} (h : Srt l) (h' : Srt l') (hf : ∀ k, lFind l k = lFind l' k) : l = l' := by
  have hp := keys_of h.nodup h'.nodup hf
  unfold Srt at h h'
  exact List.Perm.eq_of_pairwise (fun a b _ _ (h1 : KO.lt a.1 b.1 = true) (h2 : KO.lt b.1 a.1 = true) => absurd (KO.tr _ _ _ h1 h2) (by rw [KO.irr]; exact Bool.false_ne_true)) h h' hp
end
end
structure KT (K : Type) where
  enc : K → Value
  desc : TypeDesc
  key : ∀ k, IsKey desc (enc k)
  inj : ∀ a b, enc a = enc b → a = b
/-- a value of the element's type, out of its cells -/
def mkV (agg : Bool) (cs : List Value) : Value := if agg then .agg cs.toArray else cs.headD undef
structure LAt {K V : Type} (kt : KT K) (agg : Bool) (t : Ty V) (κ : Gh) (w : World) (es : Array MapEntry) (clk : Nat) (l : List (K × V)) : Prop where
  st : Stamped es clk
  keys : es.toList.map (·.key) = l.map fun x => kt.enc x.1
  vals : ∀ (i : Nat) e x, es.toList[i]? = some e → l[i]? = some x → ∃ cs, e.val = mkV agg cs ∧ t.rep κ w cs x.2
def MapAt {K V : Type} [DecidableEq K] [KO K] (kt : KT K) (agg : Bool) (t : Ty V) (κ : Gh) (w : World) (p : Option Nat) (es : Array MapEntry) (clk : Nat) (m : Mp K V) : Prop :=
  match m with
  | none => p = none ∧ es = #[]
  | some l => p.isSome = true ∧ Srt l ∧ ∃ l0, LAt kt agg t κ w es clk l0 ∧ ∀ k, lFind l0 k = lFind l k
def Map.mp {K V : Type} [DecidableEq K] [KO K] (kt : KT K) (agg : Bool) (t : Ty V) (p : Option Nat) (es : Array MapEntry) (clk : Nat) (m : Mp K V) : MP :=
  ⟨fun κ w => MapAt kt agg t κ w p es clk m, fun e h => by
    cases m with
    | none => exact h
    | some l =>
      obtain ⟨h1, hs, l0, h2, hf⟩ := h
      exact ⟨h1, hs, l0, ⟨h2.st, h2.keys, fun i x y hx hy => let ⟨cs, h1, h2⟩ := h2.vals i x y hx hy; ⟨cs, h1, t.mono e h2⟩⟩, hf⟩⟩
section
variable {K V : Type} {kt : KT K} {agg : Bool} {t : Ty V} {κ : Gh} {w : World} {es : Array MapEntry} {clk : Nat} {l : List (K × V)}
theorem LAt.len (h : LAt kt agg t κ w es clk l) : es.toList.length = l.length := by
  have := congrArg List.length h.keys
  simpa using this
theorem LAt.keyAt (h : LAt kt agg t κ w es clk l) {i : Nat} {e : MapEntry} {x : K × V} (he : es.toList[i]? = some e) (hx : l[i]? = some x) : e.key = kt.enc x.1 := by
  have := congrArg (fun z => z[i]?) h.keys
  simp only [List.getElem?_map, he, hx, Option.map_some, Option.some.injEq] at this
  exact this
theorem LAt.other (h : LAt kt agg t κ w es clk l) {i : Nat} {e : MapEntry} (he : es.toList[i]? = some e) : ∃ x, l[i]? = some x :=
  ⟨l[i]'(by rw [← h.len]; exact (List.getElem?_eq_some_iff.1 he).1), List.getElem?_eq_getElem _⟩
theorem LAt.other' (h : LAt kt agg t κ w es clk l) {i : Nat} {x : K × V} (hx : l[i]? = some x) : ∃ e, es.toList[i]? = some e :=
  ⟨es.toList[i]'(by rw [h.len]; exact (List.getElem?_eq_some_iff.1 hx).1), List.getElem?_eq_getElem _⟩
theorem LAt.isKey (h : LAt kt agg t κ w es clk l) : ∀ e ∈ es.toList, IsKey kt.desc e.key := fun e he => by
  obtain ⟨i, hi⟩ := List.mem_iff_getElem?.1 he
  obtain ⟨x, hx⟩ := h.other hi
  rw [h.keyAt hi hx]; exact kt.key _
theorem LAt.nodup (h : LAt kt agg t κ w es clk l) : (l.map (·.1)).Nodup := by
  have h1 := h.st.2.2
  rw [h.keys] at h1
  have h2 : l.map (fun x => kt.enc x.1) = (l.map (·.1)).map kt.enc := by simp
  rw [h2] at h1
  exact List.Pairwise.of_map kt.enc (fun a b h e => h (by rw [e])) h1
variable [DecidableEq K]
theorem LAt.find (h : LAt kt agg t κ w es clk l) (k : K) :
    (Instr.findNow kt.desc (kt.enc k) es.toList 0 = some none ∧ lFind l k = none ∧ ∀ e ∈ es.toList, e.key ≠ kt.enc k) ∨
    ∃ j e v cs, Instr.findNow kt.desc (kt.enc k) es.toList 0 = some (some (j, e.val)) ∧ es.toList[j]? = some e ∧ l[j]? = some (k, v) ∧ e.key = kt.enc k ∧ lFind l k = some v ∧ e.val = mkV agg cs ∧ t.rep κ w cs v := by
  rcases findNow_spec (kt.key k) es.toList 0 h.isKey with ⟨h1, h2⟩ | ⟨j, e, h1, h2, h3⟩
  · refine .inl ⟨h1, lFind_none.2 fun p hp hk => ?_, h2⟩
    obtain ⟨i, hi⟩ := List.mem_iff_getElem?.1 hp
    obtain ⟨e, he⟩ := h.other' hi
    exact h2 e (List.mem_of_getElem? he) (by rw [h.keyAt he hi, hk])
  · obtain ⟨x, hx⟩ := h.other h2
    have hk : x.1 = k := kt.inj _ _ ((h.keyAt h2 hx).symm.trans h3)
    obtain ⟨cs, h4, h5⟩ := h.vals j e x h2 hx
    subst hk
    exact .inr ⟨j, e, x.2, cs, by simpa using h1, h2, hx, h3, lFind_at h.nodup hx, h4, h5⟩
end
def nonCell : Obj → Bool
  | .cells .. => false
  | _ => true
def objX (p : Option Nat) (o : Obj) : XF :=
  { bs := p.toList
    p := fun κ w => ∀ b, p = some b → w.heap[b]? = some o ∧ κ b = none
    mono := fun {M κ w κ' w'} e hb hp b hpb => by
      obtain ⟨h1, h2⟩ := hb b (by simp [hpb])
      obtain ⟨k1, k2⟩ := e.keep b h1 h2
      obtain ⟨q1, q2⟩ := hp b hpb
      exact ⟨k1.trans q1, k2.trans q2⟩ }
section
variable {M : List Nat} {κ0 κ : Gh} {w0 w : World} {C C' : List Ck} {R R' : List MP}
theorem SS.newObj (h : SS M κ0 w0 κ w C R) (o : Obj) (ho : nonCell o = true) : SS M κ0 w0 κ (w.alloc o) (.ext (objX (some w.heap.size) o) :: C) R := by
  have hext : Ext [] κ w κ (w.alloc o) :=
    ⟨rfl, rfl, rfl, by rw [size_alloc]; omega, fun b hb _ => ⟨heap_alloc_old w o b hb, rfl⟩, fun b n hn => ⟨n, hn, Nat.le_refl _, fun i _ => cell_of_heap (heap_alloc_old w o b (by
      rcases Nat.lt_or_ge b w.heap.size with h' | h'
      · exact h'
      · rw [h.fresh b h'] at hn; cases hn))⟩⟩
  have h' := h.step hext (h.fresh.alloc o)
  have hb : blksOf (.ext (objX (some w.heap.size) o) :: C) = w.heap.size :: blksOf C := rfl
  refine ⟨h'.ext, h'.fresh, fun c hc => ?_, fun b hb' => ?_, ?_, fun b hb' => ?_, h'.ro⟩
  · rcases List.mem_cons.1 hc with rfl | hc
    · intro b hb'
      cases hb'
      exact ⟨heap_alloc_new _ _, h.fresh _ (Nat.le_refl _)⟩
    · exact h'.ok c hc
  · rw [hb] at hb'
    rcases List.mem_cons.1 hb' with rfl | hb'
    · rw [size_alloc]; omega
    · exact h'.lt b hb'
  · rw [hb]
    exact List.nodup_cons.2 ⟨fun hm => by have := h.lt _ hm; omega, h.nd⟩
  · rw [hb] at hb'
    rcases List.mem_cons.1 hb' with rfl | hb'
    · exact .inl h.ext.size
    · exact h.own b hb'
theorem SS.setObj (h : SS M κ0 w0 κ w C R) (i : Nat) {b : Nat} {o : Obj} (hC : C[i]? = some (.ext (objX (some b) o))) (o' : Obj) (ho : nonCell o = true) (ho' : nonCell o' = true) :
    SS M κ0 w0 κ { w with heap := w.heap.setIfInBounds b o' } (C.set i (.ext (objX (some b) o'))) R := by
  obtain ⟨h1, h2⟩ := (h.ck i hC : ∀ b', some b = some b' → _) b rfl
  have hlt : b < w.heap.size := (Array.getElem?_eq_some_iff.1 h1).1
  have hoth : ∀ b', b' ≠ b → ({ w with heap := w.heap.setIfInBounds b o' } : World).heap[b']? = w.heap[b']? := fun b' hne => by
    show (w.heap.setIfInBounds b _)[b']? = _
    rw [Array.getElem?_setIfInBounds_ne (Ne.symm hne)]
  have hme : ({ w with heap := w.heap.setIfInBounds b o' } : World).heap[b]? = some o' := by
    show (w.heap.setIfInBounds b _)[b]? = _
    simp [hlt]
  have hext : Ext (Ck.ext (objX (some b) o)).blks κ w κ { w with heap := w.heap.setIfInBounds b o' } :=
    ⟨rfl, rfl, rfl, by simp, fun b' _ hm => ⟨hoth b' (by simpa [Ck.blks, objX] using hm), rfl⟩, fun b' n hn => ⟨n, hn, Nat.le_refl _, fun k _ => cell_of_heap (hoth b' fun e => by rw [e, h2] at hn; cases hn)⟩⟩
  obtain ⟨hCe, hCs⟩ := set_split (c' := .ext (objX (some b) o')) hC
  rw [hCs]
  refine h.turn _ _ hCe hext (fun b' hb' => h.fresh b' (by simpa using hb')) (fun b' hb' => ?_) (fun b' hb' => .inl hb') (fun b' hb' => ?_) (by simp [Ck.blks, objX])
  · cases hb'; exact ⟨hme, h2⟩
  · simp [Ck.blks, objX] at hb'; subst hb'; simpa using hlt
end
section
variable {ro : Option Nat} {P : Program} {ops : Array Oper} {Q : Exit → Act → World → Prop} {N : Nat} {D : List Deferred} {L L' : FL} {a : Act} {w : World} {o : Oper} {G : Act → World → Prop}
variable {M : List Nat} {κ0 κ : Gh} {w0 : World} {C C' : List Ck} {R R' : List MP}
variable {K V : Type} {kt : KT K} {agg : Bool} {t : Ty V} {es : Array MapEntry} {clk : Nat} {p : Option Nat} {m : Mp K V} [DecidableEq K] [KO K]
end
end Go.Cf
namespace Go.Cf
open Go Go.MapKept
/-- which keys are still to come -/
def ItOk {K : Type} (kt : KT K) (es : Array MapEntry) (seen : Array Nat) (left : List K) : Prop := ∀ e ∈ es.toList, ∀ k, e.key = kt.enc k → (seen.contains e.born = false ↔ k ∈ left)
def It.mp {K : Type} (kt : KT K) (es : Array MapEntry) (seen : Array Nat) (left : List K) : MP := MP.const (ItOk kt es seen left)
/-- the entry that came last -/
def Cur.mp {K V : Type} [DecidableEq K] (kt : KT K) (es : Array MapEntry) (seen : Array Nat) (m : Mp K V) (x : K × V) : MP :=
  MP.const ((∃ e ∈ es.toList, seen.back? = some e.born ∧ e.key = kt.enc x.1) ∧ mGet m x.1 = some x.2)
theorem ItOk.sub {K : Type} {kt : KT K} {es es' : Array MapEntry} {seen : Array Nat} {left : List K} (h : ItOk kt es seen left) (hs : es'.toList.Sublist es.toList) : ItOk kt es' seen left := fun e he k hk => h e (hs.subset he) k hk
theorem ItOk.turn {K : Type} {kt : KT K} {es es' : Array MapEntry} {seen : Array Nat} {left : List K} (h : ItOk kt es seen left) (hs : ∀ e' ∈ es'.toList, ∃ e ∈ es.toList, e.born = e'.born ∧ e.key = e'.key) : ItOk kt es' seen left := fun e he k hk => by
  obtain ⟨e0, h0, hb, hkk⟩ := hs e he
  rw [← hb]; exact h e0 h0 k (hkk.trans hk)
section
variable {ro : Option Nat} {P : Program} {ops : Array Oper} {Q : Exit → Act → World → Prop} {N : Nat} {D : List Deferred} {L L' : FL} {a : Act} {w : World} {o : Oper} {G : Act → World → Prop}
variable {M : List Nat} {κ0 κ : Gh} {w0 : World} {C C' : List Ck} {R R' : List MP}
variable {K V : Type} {kt : KT K} {agg : Bool} {t : Ty V} {es : Array MapEntry} {clk : Nat} {p : Option Nat} {m : Mp K V} [DecidableEq K] [KO K]
end
end Go.Cf
namespace Go.Cf
open Go
section
variable {M : List Nat} {κ0 κ : Gh} {w0 w : World} {C C' : List Ck} {R R' : List MP}
theorem SS.room (hS : SS M κ0 w0 κ w C R) {α : Type} (t : Ty α) (E : Nat) (cells : Array Value) (c : Nat) (hn : cells.size = c * t.size) (hm : c ≤ maxLen) :
    ∃ κ', SS M κ0 w0 κ' (w.alloc (.cells cells E)) (.tok (some ⟨w.heap.size, 0, none⟩) E t.size 0 c :: C) (Ro.mp t (some ⟨w.heap.size, 0, none⟩) c ([] : List α) :: R) := by
  let w' := w.alloc (.cells cells E)
  let κ' : Gh := fun b => if b = w.heap.size then some 0 else κ b
  have hκ : ∀ b, b ≠ w.heap.size → κ' b = κ b := fun b hb => by simp [κ', hb]
  have hext : Ext [] κ w κ' w' := by
    refine ⟨rfl, rfl, rfl, by rw [size_alloc]; omega, fun b hb _ => ⟨heap_alloc_old w _ b hb, hκ b (by omega)⟩, fun b n hn => ?_⟩
    have hbl : b < w.heap.size := by
      rcases Nat.lt_or_ge b w.heap.size with h | h
      · exact h
      · rw [hS.fresh b h] at hn; cases hn
    exact ⟨n, (hκ b (by omega)).trans hn, Nat.le_refl _, fun i _ => cell_of_heap (heap_alloc_old w _ b hbl)⟩
  have hfr : Fresh κ' w' := fun b hb => by
    rw [size_alloc] at hb
    rw [hκ b (by omega)]; exact hS.fresh b (by omega)
  have hkn : κ' w.heap.size = some 0 := by simp [κ']
  have h' := hS.step hext hfr
  have htok : (Ck.tok (some ⟨w.heap.size, 0, none⟩) E t.size 0 c).ok κ' w' :=
    .inr ⟨w.heap.size, 0, cells, rfl, by rw [hkn, Nat.zero_mul], Nat.zero_le _, hm, heap_alloc_new _ _, by rw [hn, Nat.zero_add]⟩
  have h'' : SS M κ0 w0 κ' w' (.tok (some ⟨w.heap.size, 0, none⟩) E t.size 0 c :: C) R := by
    refine ⟨h'.ext, h'.fresh, fun c hc => ?_, fun b hb => ?_, ?_, fun b hb => ?_, h'.ro⟩
    · rcases List.mem_cons.1 hc with rfl | hc
      · exact htok
      · exact h'.ok c hc
    · rcases List.mem_cons.1 (show b ∈ w.heap.size :: blksOf C from hb) with rfl | hb
      · rw [size_alloc]; omega
      · exact h'.lt b hb
    · show (w.heap.size :: blksOf C).Nodup
      exact List.nodup_cons.2 ⟨fun hm => by have := hS.lt _ hm; omega, hS.nd⟩
    · rcases List.mem_cons.1 (show b ∈ w.heap.size :: blksOf C from hb) with rfl | hb
      · exact .inl hS.ext.size
      · exact h'.own b hb
  exact ⟨κ', h''.add (m := Ro.mp t _ c []) ⟨Nat.zero_le _, hm, .inr ⟨w.heap.size, 0, 0, rfl, hkn, by simp, fun i x hx => by simp at hx⟩⟩⟩
end
section
variable {ro : Option Nat} {P : Program} {ops : Array Oper} {Q : Exit → Act → World → Prop} {N : Nat} {D : List Deferred} {L L' : FL} {a : Act} {w : World} {o : Oper} {K : Act → World → Prop}
variable {M : List Nat} {κ0 κ : Gh} {w0 : World} {C C' : List Ck} {R R' : List MP}
end
section
variable {M : List Nat} {κ0 κ : Gh} {w0 w : World} {C C' : List Ck} {R R' : List MP}
end
section
variable {P : Program} {Q : Exit → Act → World → Prop} {N : Nat} {D : List Deferred} {L L' : FL} {a : Act} {w : World}
variable {M : List Nat} {κ0 κ : Gh} {w0 : World} {C C' : List Ck} {R R' : List MP}
end
section
variable {F : Fence} {n : Nat} {P : Program} {Q : Exit → Act → World → Prop} {a : Act} {w : World}
end
end Go.Cf
namespace Go.Cf
open Go Go.MapKept
set_option linter.unusedVariables false
/-- the entry of a key, by its stamp -/
def Ent.mp {K : Type} (kt : KT K) (es : Array MapEntry) (k : K) (st : Int) : MP := MP.const (∃ e ∈ es.toList, (e.born : Int) = st ∧ e.key = kt.enc k)
section
variable {ro : Option Nat} {P : Program} {ops : Array Oper} {Q : Exit → Act → World → Prop} {N : Nat} {D : List Deferred} {L L' : FL} {a : Act} {w : World} {o : Oper} {G : Act → World → Prop}
variable {M : List Nat} {κ0 κ : Gh} {w0 : World} {C C' : List Ck} {R R' : List MP}
variable {K V : Type} [DecidableEq K] [KO K] {kt : KT K} {agg : Bool} {t : Ty V} {p : Option Nat} {es : Array MapEntry} {clk : Nat} {m : Mp K V}
end
section
variable {M : List Nat} {κ0 κ : Gh} {w0 w : World} {C : List Ck} {R : List MP}
theorem blksOf_setBox {i b T : Nat} {s s' : Segs} (hC : C[i]? = some (.box b T s)) : blksOf (C.set i (.box b T s')) = blksOf C := by
  induction C generalizing i with
  | nil => rfl
  | cons c C ih =>
    cases i with
    | zero => simp at hC; subst hC; rfl
    | succ i => simp only [List.set_cons_succ, blksOf, List.flatMap_cons] at *; rw [ih (by simpa using hC)]
/-- a box's stretches, cut in another way -/
theorem SS.reseg (h : SS M κ0 w0 κ w C R) (i : Nat) {b T : Nat} {s s' : Segs} (hC : C[i]? = some (.box b T s)) (hf : flat s' = flat s) (hs : segsOk s → segsOk s') : SS M κ0 w0 κ w (C.set i (.box b T s')) R := by
  have hb := blksOf_setBox (s' := s') hC
  refine ⟨h.ext, h.fresh, fun c hc => ?_, by rw [hb]; exact h.lt, by rw [hb]; exact h.nd, by rw [hb]; exact h.own, h.ro⟩
  rcases List.mem_or_eq_of_mem_set hc with hc | rfl
  · exact h.ok c hc
  · obtain ⟨h1, h2, h3⟩ := (h.ck i hC : _ ∧ _)
    exact ⟨by rw [hf]; exact h1, hs h2, h3⟩
theorem SS.segs (h : SS M κ0 w0 κ w C R) (i : Nat) {b T : Nat} {s : Segs} (hC : C[i]? = some (.box b T s)) : segsOk s := (h.ck i hC : _ ∧ _).2.1
end
end Go.Cf
namespace Go.Cf
open Go
section
variable {ro : Option Nat} {P : Program} {ops : Array Oper} {Q : Exit → Act → World → Prop} {N : Nat} {D : List Deferred} {L L' : FL} {a : Act} {w : World} {o : Oper} {K : Act → World → Prop}
variable {M : List Nat} {κ0 κ : Gh} {w0 : World} {C C' : List Ck} {R R' : List MP}
theorem loop_rounds (m : Nat) {c : Code} (h : Code.roundsIn (FW ro) 0 P c Q m a w) : (Code.loop c).wpIn (FW ro) 0 P Q a w := wpIn_loop_rounds m h
theorem round_go {c : Code} {m : Nat} (h : c.wpIn (FW ro) 0 P (Exit.then (Code.roundsIn (FW ro) 0 P c Q m) Q) a w) : Code.roundsIn (FW ro) 0 P c Q (m + 1) a w := h
/-- a literal of some elements, as a box -/
theorem wo_buildB (hF : Fr N D L a) (hS : SS M κ0 w0 κ w C R) (hc : okOp N L o = true) {T E n sz : Nat} {z : Value} {s : Segs} {parts : Array (Nat × Operand)} {vs : List (Nat × Value)} (hop : o.op = .buildSlice T n parts) (hx : parts.toList.map (fun p => (p.1, evD L p.2)) = vs) (hs : segsOk s)
    (hu : pureRun P (underlying T) = some (.slice E)) (hsz : pureRun P (sizeOf E) = some sz) (hz : pureRun P (zeroValue E) = some z) (hpos : (decide (0 < n * sz) && decide (n * sz ≤ 16777216)) = true)
    (hfill : Instr.fill (fun i => some (i * sz, sz)) ((Array.range (n * sz)).map (z.cells[· % z.cells.size]!)) vs = some (flat s).toArray)
    (kk : ∀ b a' w', Fr N D (upd L o.dst (.slice (some ⟨b, 0, none⟩) n n)) a' → SS M κ0 w0 κ w' (.box b E s :: C) R → K a' w') : wo ro P o a w K Q := by
  simp only [Bool.and_eq_true, decide_eq_true_eq] at hpos
  refine wo_val hF hc (v := .slice (some ⟨w.heap.size, 0, none⟩) n n) (w' := w.alloc (.cells (flat s).toArray E (0, 0))) ?_ fun a' hF' => kk _ a' _ hF' (hS.alloc E s hs _ rfl)
  have hn1 : ¬ (16777216 < n * sz) := by omega
  have hne : ¬ (n * sz = 0) := by omega
  simp only [execOp, hop]
  simp only [Instr.buildSlice]
  simp [run_underlying' hu, pureRun_run _ hsz w, pureRun_run _ hz w, hn1, newRow, newObj]
  rw [if_neg hne, hx, hfill]
  rfl
end
end Go.Cf
namespace Go.Cf
open Go
/-- stretches, regrouped: (true, n): n of them are made one; (false, n): n of them stay -/
def regr : List (Bool × Nat) → Segs → Segs
  | [], s => s
  | (false, n) :: g, s => s.take n ++ regr g (s.drop n)
  | (true, n) :: g, s => (tot (s.take n), flat (s.take n)) :: regr g (s.drop n)
/-- what was made one -/
def rawsOf : List (Bool × Nat) → Segs → Segs
  | [], _ => []
  | (false, n) :: g, s => rawsOf g (s.drop n)
  | (true, n) :: g, s => s.take n ++ rawsOf g (s.drop n)
theorem flat_take_drop (n : Nat) (s : Segs) : flat (s.take n) ++ flat (s.drop n) = flat s := by rw [← flat_append, List.take_append_drop]
theorem flat_regr (g : List (Bool × Nat)) (s : Segs) : flat (regr g s) = flat s := by
  induction g generalizing s with
  | nil => rfl
  | cons x g ih =>
    obtain ⟨b, n⟩ := x
    cases b with
    | false => rw [regr, flat_append, ih, flat_take_drop]
    | true =>
      rw [regr]
      show flat (s.take n) ++ flat (regr g (s.drop n)) = _
      rw [ih, flat_take_drop]
theorem segsOk_take_drop {n : Nat} {s : Segs} : segsOk s ↔ segsOk (s.take n) ∧ segsOk (s.drop n) := by rw [← segsOk_append, List.take_append_drop]
theorem segsOk_regr (g : List (Bool × Nat)) (s : Segs) (h : segsOk s) : segsOk (regr g s) := by
  induction g generalizing s with
  | nil => exact h
  | cons x g ih =>
    obtain ⟨b, n⟩ := x
    obtain ⟨h1, h2⟩ := (segsOk_take_drop (n := n)).1 h
    cases b with
    | false => rw [regr, segsOk_append]; exact ⟨h1, ih _ h2⟩
    | true => rw [regr, segsOk_cons]; exact ⟨flat_length h1, ih _ h2⟩
theorem segsOk_raws (g : List (Bool × Nat)) (s : Segs) (h : segsOk s) : segsOk (rawsOf g s) := by
  induction g generalizing s with
  | nil => exact segsOk_nil
  | cons x g ih =>
    obtain ⟨b, n⟩ := x
    obtain ⟨h1, h2⟩ := (segsOk_take_drop (n := n)).1 h
    cases b with
    | false => exact ih _ h2
    | true => rw [rawsOf, segsOk_append]; exact ⟨h1, ih _ h2⟩
theorem segsOk_unregr (g : List (Bool × Nat)) (s : Segs) (h : segsOk (regr g s)) (hr : segsOk (rawsOf g s)) : segsOk s := by
  induction g generalizing s with
  | nil => exact h
  | cons x g ih =>
    obtain ⟨b, n⟩ := x
    refine (segsOk_take_drop (n := n)).2 ?_
    cases b with
    | false => rw [regr, segsOk_append] at h; exact ⟨h.1, ih _ h.2 hr⟩
    | true => rw [regr, segsOk_cons] at h; rw [rawsOf, segsOk_append] at hr; exact ⟨hr.1, ih _ h.2 hr.2⟩
section
variable {M : List Nat} {κ0 κ : Gh} {w0 w : World} {C : List Ck} {R : List MP}
theorem SS.regr (h : SS M κ0 w0 κ w C R) (i : Nat) (g : List (Bool × Nat)) {b T : Nat} {s : Segs} (hC : C[i]? = some (.box b T s)) : SS M κ0 w0 κ w (C.set i (.box b T (Cf.regr g s))) R :=
  h.reseg i hC (flat_regr g s) (segsOk_regr g s)
theorem SS.unregr (h : SS M κ0 w0 κ w C R) (i : Nat) (g : List (Bool × Nat)) {b T : Nat} {s s' : Segs} (hg : segsOk s) (hr : rawsOf g s' = rawsOf g s) (hC : C[i]? = some (.box b T (Cf.regr g s'))) : SS M κ0 w0 κ w (C.set i (.box b T s')) R :=
  h.reseg i hC (flat_regr g s').symm fun hs => segsOk_unregr g s' hs (hr ▸ segsOk_raws g s hg)
end
end Go.Cf
namespace Go.Cf
open Go
theorem ArrP.four {α : Type} {t : Ty α} {κ : Gh} {w : World} {cs : List Value} {l : List α} (h : ArrP t κ w cs 4 l) (z : α) :
    ∃ c0 c1 c2 c3, cs = c0 ++ (c1 ++ (c2 ++ c3)) ∧ l.length = 4 ∧ t.rep κ w c0 (l.getD 0 z) ∧ t.rep κ w c1 (l.getD 1 z) ∧ t.rep κ w c2 (l.getD 2 z) ∧ t.rep κ w c3 (l.getD 3 z) := by
  obtain ⟨h1, h2, _, h4⟩ := h
  have hx : ∀ i, i < 4 → t.rep κ w ((cs.drop (i * t.size)).take t.size) (l.getD i z) := fun i hi => by
    refine h4 i _ ?_
    rw [List.getD_eq_getElem?_getD, List.getElem?_eq_getElem (by omega)]; rfl
  refine ⟨_, _, _, _, ?_, h1, hx 0 (by omega), hx 1 (by omega), hx 2 (by omega), hx 3 (by omega)⟩
  have e0 : cs = (cs.drop (0 * t.size)).take t.size ++ cs.drop (1 * t.size) := by rw [Nat.zero_mul, Nat.one_mul, List.drop_zero, List.take_append_drop]
  have e : ∀ i, cs.drop (i * t.size) = (cs.drop (i * t.size)).take t.size ++ cs.drop ((i + 1) * t.size) := fun i => by
    rw [show (i + 1) * t.size = i * t.size + t.size from by rw [Nat.add_mul, Nat.one_mul], ← List.drop_drop, List.take_append_drop]
  have e4 : cs.drop (4 * t.size) = [] := List.drop_eq_nil_of_le (by omega)
  have e3 := e 3
  rw [e4, List.append_nil] at e3
  rw [← e3, ← e 2, ← e 1]; exact e0
theorem ArrP.of4 {α : Type} {t : Ty α} {κ : Gh} {w : World} {c0 c1 c2 c3 cs : List Value} {x0 x1 x2 x3 : α} (r0 : t.rep κ w c0 x0) (r1 : t.rep κ w c1 x1) (r2 : t.rep κ w c2 x2) (r3 : t.rep κ w c3 x3) (hcs : c0 ++ (c1 ++ (c2 ++ c3)) = cs) : ArrP t κ w cs 4 [x0, x1, x2, x3] := by
  subst hcs
  have l0 := t.len r0; have l1 := t.len r1; have l2 := t.len r2; have l3 := t.len r3
  refine ⟨rfl, by simp only [List.length_append]; omega, fun v hv => ?_, fun i x hi => ?_⟩
  · simp only [List.mem_append] at hv
    rcases hv with hv | hv | hv | hv
    · exact t.one r0 v hv
    · exact t.one r1 v hv
    · exact t.one r2 v hv
    · exact t.one r3 v hv
  · have tk : ∀ (a b : List Value), a.length = t.size → (a ++ b).take t.size = a := fun a b h => by rw [← h, List.take_left]
    have dr : ∀ (a b : List Value) (i : Nat), a.length = t.size → (a ++ b).drop ((i + 1) * t.size) = b.drop (i * t.size) := fun a b i h => by
      rw [show (i + 1) * t.size = a.length + i * t.size from by rw [h, Nat.add_mul, Nat.one_mul, Nat.add_comm], ← List.drop_drop, List.drop_left]
    match i, hi with
    | 0, hi => simp only [List.getElem?_cons_zero, Option.some.injEq] at hi; subst hi; rw [Nat.zero_mul, List.drop_zero, tk _ _ l0]; exact r0
    | 1, hi => simp only [List.getElem?_cons_succ, List.getElem?_cons_zero, Option.some.injEq] at hi; subst hi; rw [dr _ _ 0 l0, Nat.zero_mul, List.drop_zero, tk _ _ l1]; exact r1
    | 2, hi => simp only [List.getElem?_cons_succ, List.getElem?_cons_zero, Option.some.injEq] at hi; subst hi; rw [dr _ _ 1 l0, dr _ _ 0 l1, Nat.zero_mul, List.drop_zero, tk _ _ l2]; exact r2
    | 3, hi => simp only [List.getElem?_cons_succ, List.getElem?_cons_zero, Option.some.injEq] at hi; subst hi; rw [dr _ _ 2 l0, dr _ _ 1 l1, dr _ _ 0 l2, Nat.zero_mul, List.drop_zero]; rw [← l3, List.take_length]; exact r3
    | i + 4, hi => simp at hi
/-- what a call has made is new since a place on the way -/
theorem MP.oldC {w1 w0 : World} {κ1 κ κ' : Gh} {w : World} {C : List Ck} {p : Option Addr} {E sz n c : Nat} (hsi : (MP.since κ1 w1).p κ' w0) (hn : NewC w0 κ w C) (hm : Ck.tok p E sz n c ∈ C) : (MP.old p w1).p κ w := by
  obtain ⟨M1, hx⟩ : ∃ M1, Ext M1 κ1 w1 κ' w0 := hsi
  intro a ha
  subst ha
  exact Nat.le_trans hx.size (hn.2.2 _ (List.mem_flatMap.2 ⟨_, hm, by simp [Ck.blks]⟩)).1
theorem aN {b : Nat} : ∀ m ∈ ([] : List MP), Apart b m := fun _ h => by cases h
theorem aC {b : Nat} {m : MP} {R : List MP} (h : Apart b m) (r : ∀ m ∈ R, Apart b m) : ∀ x ∈ m :: R, Apart b x := fun x hx => by
  rcases List.mem_cons.1 hx with rfl | hx
  · exact h
  · exact r x hx
theorem aK {b : Nat} {q : Prop} {R : List MP} (r : ∀ m ∈ R, Apart b m) : ∀ x ∈ MP.const q :: R, Apart b x := aC (apart_const _ _) r
end Go.Cf
namespace Go.Cf
open Go
structure T_api_Map where
  Cuts : (List ByteArray)
  Nodes : (List Int)
structure T_span_Shard where
  Lo : ByteArray
  Hi : ByteArray
  Node : Int
structure T_config_State where
  Pool : Int
  Nodes : Int
  Members : (List Bool)
  Maps : (List T_api_Map)
  Modes : (List Int)
structure T_ref18_State where
  Pool : Int
  Nodes : Int
  Members : (List Bool)
  Maps : (List T_api_Map)
  Modes : (List Int)
structure T_api_Cmd where
  Kind : Int
  DC : Int
  Shard : Int
  Node : Int
  Mode : Int
  Key : ByteArray
def f_api_Cmd : FT T_api_Cmd := ⟨6, fun x => [.int .i64 (x.Kind), .int .i64 (x.DC), .int .i64 (x.Shard), .int .i64 (x.Node), .int .i64 (x.Mode), .string (x.Key)], fun _ => rfl, fun x v hv => by
  simp only [List.mem_cons, List.not_mem_nil, or_false] at hv
  rcases hv with rfl | rfl | rfl | rfl | rfl | rfl <;> rfl⟩
def t_api_Map : Ty T_api_Map := Ty.of (H := Option Addr × Nat × Option Addr × Nat) 2 (fun h x => [(1, [.slice h.1 (x.Cuts).length h.2.1]), (1, [.slice h.2.2.1 (x.Nodes).length h.2.2.2])]) (fun h x => [Ro.mp fStr.ty h.1 h.2.1 x.Cuts, Ro.mp (fInt .i64).ty h.2.2.1 h.2.2.2 x.Nodes]) (fun h x κ w hR => by
  have hget : ∀ (i : Nat) {m : MP}, ([Ro.mp fStr.ty h.1 h.2.1 x.Cuts, Ro.mp (fInt .i64).ty h.2.2.1 h.2.2.2 x.Nodes] : List MP)[i]? = some m → m.p κ w := fun i m hi => hR m (List.mem_of_getElem? hi)
  exact (sgN 2 sgNil)) (fun _ _ => by kernel_rfl)
theorem z_api_Map (κ : Gh) (w : World) : (t_api_Map).rep κ w (flat [(1, [.slice none 0 0]), (1, [.slice none 0 0])]) (T_api_Map.mk ([] : List ByteArray) ([] : List Int)) :=
  ⟨(none, 0, none, 0), rfl, by
    intro m hm
    simp only [List.mem_cons, List.not_mem_nil, or_false] at hm
    rcases hm with rfl | rfl
    · exact Ro.nil _ _ _
    · exact Ro.nil _ _ _⟩
def t_config_State : Ty T_config_State := Ty.of (H := List Value) 35 (fun h x => [(1, [.int .i64 (x.Pool)]), (1, [.int .i64 (x.Nodes)]), (4, (encs fBool x.Members)), (8, h), (21, (encs (fInt .i64) x.Modes))]) (fun h x => [MP.const (List.length x.Members = 4), Arr.mp t_api_Map h 4 x.Maps, MP.const (List.length x.Modes = 21)]) (fun h x κ w hR => by
  have hget : ∀ (i : Nat) {m : MP}, ([MP.const (List.length x.Members = 4), Arr.mp t_api_Map h 4 x.Maps, MP.const (List.length x.Modes = 21)] : List MP)[i]? = some m → m.p κ w := fun i m hi => hR m (List.mem_of_getElem? hi)
  exact (sgN 2 (sgEnc (hget 0 rfl) (sgArr (hget 1 rfl) (sgEnc (hget 2 rfl) sgNil))))) (fun _ _ => by kernel_rfl)
def zm_api_Map : T_api_Map := (T_api_Map.mk ([] : List ByteArray) ([] : List Int))
end Go.Cf
