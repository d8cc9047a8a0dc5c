/- Part 18: what was true when a slice was made stays true when the slice is turned in place. -/
import Derived.Test.YtjohablgnnbelaaKit17
namespace Go.Cf
open Go
set_option linter.unusedVariables false
theorem Ext.all {M : List Nat} {κ κ' : Gh} {w w' : World} (h : Ext M κ w κ' w') : Ext (List.range w.heap.size) κ w κ' w' :=
  ⟨h.os, h.out, h.tape, h.size, h.fz, fun b hb hm => absurd (List.mem_range.2 hb) hm, h.pub⟩
/-- all that was published at (κ1, w1) is as it was -/
def MP.since (κ1 : Gh) (w1 : World) : MP := ⟨fun κ w => ∃ M, Ext M κ1 w1 κ w, fun {_ κ w _ _} e ⟨_, h⟩ => ⟨List.range w1.heap.size ++ List.range w.heap.size, by
  refine (h.all.weaken fun b hb _ => List.mem_append.2 (.inl hb)).trans (e.all.weaken fun b hb _ => List.mem_append.2 (.inr hb))⟩⟩
def MP.old (p : Option Addr) (w1 : World) : MP := MP.const (∀ a, p = some a → w1.heap.size ≤ a.block)
section
variable {ro : Option Nat} {P : Program} {ops : Array Oper} {Q : Exit → Act → World → Prop} {N : Nat} {D : List Deferred} {L L' : FL} {a : Act} {w : World} {o : Oper} {K : Act → World → Prop}
variable {κ0 κ : Gh} {w0 : World} {C C' : List Ck} {R R' R0 Ra Rb : List MP}
theorem snap {M : List Nat} {G : Prop} (hS : SS M κ0 w0 κ w C R) (k : ∀ κ1 w1, (∀ m ∈ R, m.p κ1 w1) → Fresh κ1 w1 → w0.heap.size ≤ w1.heap.size → w1.heap.size = w.heap.size → SS M κ0 w0 κ w C (MP.since κ1 w1 :: R) → G) : G :=
  k κ w hS.ro hS.fresh hS.ext.size rfl (hS.add (m := MP.since κ w) ⟨[], Ext.refl _ _ _⟩)
/-- a store into an element of a slice that was made here: what held then holds on -/
theorem wo_storeTokS {M : List Nat} {κ1 : Gh} {w1 : World} (hF : Fr N D L a) (hS : SS M κ0 w0 κ w C R) (hf0 : Fresh κ0 w0) (hf1 : Fresh κ1 w1) (hw1 : w0.heap.size ≤ w1.heap.size) (hR0 : ∀ m ∈ R0, m.p κ1 w1) (hc : okOp N L o = true) {α : Type} {t : FT α} (ci ri si fi f : Nat) {T E b off Eo c n sz : Nat} {p : Option Addr} {l : List α} {i : Int} {y z : α} {x x' : Operand} {v : Value} {vs : List Value}
    (hop : o.op = .store T x x') (hx : ev L x = some (.pointer (some ⟨b, Eo, none⟩))) (hy : ev L x' = some v) (hC : C[ci]? = some (.tok p E t.size n c)) (hn : n = l.length) (hR : R[ri]? = some (Ro.mp t.ty p c l))
    (hp : p = some ⟨b, off, none⟩) (hi : idx l i = some y) (hE : off + i.toNat * t.size + f = Eo) (hsz : pureRun P (sizeOf T) = some sz) (hvs : v.cells = vs.toArray) (hvl : vs.length = sz) (h1 : ∀ u ∈ vs, u.oneCell' = true)
    (hz : t.enc z = (t.enc y).take f ++ vs ++ (t.enc y).drop (f + sz)) (hfs : f + sz ≤ t.size) (hsi : R[si]? = some (MP.since κ1 w1)) (hfi : R[fi]? = some (MP.old p w1)) (hne : C.all noExt = true)
    (ia ib : List Nat) (hRa : (ia.filterMap fun i => R0[i]?) = Ra) (hRb : (ib.filterMap fun i => R[i]?) = Rb) (hap : ∀ m ∈ Rb, Apart b m) {Cf : Nat → List Ck} {Lf : Nat → FL} (ks : List Nat) (hCf : C = Cf l.length) (hLf : keep (upd L o.dst undef) ks = Lf l.length)
    (kk : ∀ a' w', Fr N D (Lf (l.set i.toNat z).length) a' → SS M κ0 w0 κ w' (Cf (l.set i.toNat z).length) (Ro.mp t.ty p c (l.set i.toNat z) :: MP.since κ1 w1 :: (Ra ++ Rb)) → K a' w') : wo ro P o a w K Q := by
  rw [List.length_set, ← hCf] at kk
  subst hn hp hRa hRb
  obtain ⟨h0, hil, hiy⟩ := idx_some hi
  have hRo : Ro t.ty κ w (some ⟨b, off, none⟩) c l := hS.get ri hR
  have htok := hS.ck ci hC
  rcases htok with ⟨hp, _⟩ | ⟨b', off', cells, hp, hk, hlc, hcm, hheap, hcs⟩
  · omega
  simp only [Option.some.injEq, Addr.mk.injEq] at hp
  obtain ⟨rfl, rfl, _⟩ := hp
  have hmul : i.toNat * t.size + t.size ≤ l.length * t.size := by
    have : (i.toNat + 1) * t.size ≤ l.length * t.size := Nat.mul_le_mul_right _ hil
    rw [Nat.add_mul, Nat.one_mul] at this
    exact this
  have hmulc : l.length * t.size ≤ c * t.size := Nat.mul_le_mul_right _ hlc
  have hbm : b ∈ blksOf C := List.mem_flatMap.2 ⟨_, List.mem_of_getElem? hC, by simp [Ck.blks]⟩
  have hblt : b < w.heap.size := hS.lt b hbm
  have hb1 : w1.heap.size ≤ b := (show ∀ a : Addr, _ = some a → w1.heap.size ≤ a.block from hS.get fi hfi) _ rfl
  have hb0 : w0.heap.size ≤ b := Nat.le_trans hw1 hb1
  have hst := run_storeCells_at P b Eo E vs 0 cells w hheap (by rw [hvl, hcs]; omega) h1
  simp only [Nat.add_zero] at hst
  rw [setRow_eq w b E _ _ hheap] at hst
  have hst' : (Instr.storeAt T (.pointer (some ⟨b, Eo, none⟩)) v).run P w = .ok () { w with heap := w.heap.setIfInBounds b (.cells (cells.toList.take Eo ++ vs ++ cells.toList.drop (Eo + vs.length)).toArray E (0, 0)) } := by
    have e1 : v.cells.toList = vs := by rw [hvs]
    have e2 : v.cells.size = sz := by rw [hvs]; simpa using hvl
    simp [Instr.storeAt, Instr.sureAddr, storeVar, pureRun_run _ hsz w, e1, e2, hst]
  generalize harr : (cells.toList.take Eo ++ vs ++ cells.toList.drop (Eo + vs.length)).toArray = arr at hst'
  have hal : arr.size = cells.size := by
    subst harr
    simp only [List.size_toArray, List.length_append, List.length_take, List.length_drop, Array.length_toList]
    omega
  let w' : World := { w with heap := w.heap.setIfInBounds b (.cells arr E (0, 0)) }
  have hother : ∀ b', b' ≠ b → w'.heap[b']? = w.heap[b']? := fun b' hne => by
    show (w.heap.setIfInBounds b _)[b']? = _
    rw [Array.getElem?_setIfInBounds_ne (Ne.symm hne)]
  have hme : w'.heap[b]? = some (.cells arr E (0, 0)) := by
    show (w.heap.setIfInBounds b _)[b]? = _
    simp [hblt]
  have hfz : ∀ a, w'.frozen? a = w.frozen? a := frozen?_of hheap hme hother
  have hext0 : Ext M κ0 w0 κ w' := by
    refine ⟨hS.ext.os, hS.ext.out, hS.ext.tape, ?_, fun a => (hfz a).trans (hS.ext.fz a), fun b' hb' hm => ?_, fun b' m hm => ?_⟩
    · have := hS.ext.size; simpa [w'] using this
    · obtain ⟨h1, h2⟩ := hS.ext.keep b' hb' hm
      exact ⟨(hother b' (by omega)).trans h1, h2⟩
    · obtain ⟨n', h1, h2, h3⟩ := hS.ext.pub b' m hm
      have hb' : b' < w0.heap.size := by
        rcases Nat.lt_or_ge b' w0.heap.size with h | h
        · exact h
        · rw [hf0 b' h] at hm; cases hm
      exact ⟨n', h1, h2, fun i hi => (cell_of_heap (hother b' (by omega))).trans (h3 i hi)⟩
  obtain ⟨M1, hx1⟩ : ∃ M1, Ext M1 κ1 w1 κ w := hS.get si hsi
  have hext1 : Ext M1 κ1 w1 κ w' := by
    refine ⟨hx1.os, hx1.out, hx1.tape, ?_, fun a => (hfz a).trans (hx1.fz a), fun b' hb' hm => ?_, fun b' m hm => ?_⟩
    · have := hx1.size; simpa [w'] using this
    · obtain ⟨h1, h2⟩ := hx1.keep b' hb' hm
      exact ⟨(hother b' (by omega)).trans h1, h2⟩
    · obtain ⟨n', h1, h2, h3⟩ := hx1.pub b' m hm
      have hb' : b' < w1.heap.size := by
        rcases Nat.lt_or_ge b' w1.heap.size with h | h
        · exact h
        · rw [hf1 b' h] at hm; cases hm
      exact ⟨n', h1, h2, fun i hi => (cell_of_heap (hother b' (by omega))).trans (h3 i hi)⟩
  have hcell : ∀ k, w'.cell? ⟨b, k, none⟩ = arr[k]? := fun k => by simp [World.cell?, hme]
  have hcell0 : ∀ k, w.cell? ⟨b, k, none⟩ = cells[k]? := fun k => by simp [World.cell?, hheap]
  have harrk : ∀ k, arr[k]? = if k < Eo then cells[k]? else if k < Eo + sz then vs[k - Eo]? else cells[k]? := fun k => by
    subst harr
    have hEc : Eo + sz ≤ cells.toList.length := by simp only [Array.length_toList]; omega
    rw [List.getElem?_toArray, List.append_assoc]
    by_cases hk1 : k < Eo
    · rw [if_pos hk1, List.getElem?_append_left (by simp; omega), List.getElem?_take, if_pos hk1]; simp
    · rw [if_neg hk1, List.getElem?_append_right (by simp; omega)]
      have hlt : (cells.toList.take Eo).length = Eo := by simp; omega
      rw [hlt]
      by_cases hk2 : k < Eo + sz
      · rw [if_pos hk2, List.getElem?_append_left (by omega)]
      · rw [if_neg hk2, List.getElem?_append_right (by omega), List.getElem?_drop]
        simp only [Array.getElem?_toList]
        congr 1; omega
  refine wo_skip hF hc (exec_store hop hx hy hst') fun a' hF' => kk a' w' (hF'.keep' ks hLf) ⟨hext0, fun b' hb' => hS.fresh b' (by simpa [w'] using hb'), fun d hd => ?_, fun b' hb' => by simpa [w'] using hS.lt b' hb', hS.nd, hS.own, fun m hm => ?_⟩
  · -- the chunks
    obtain ⟨j, hj⟩ := List.getElem?_of_mem hd
    have hdne := List.all_eq_true.1 hne d hd
    by_cases hji : j = ci
    · subst hji
      rw [hC] at hj
      simp only [Option.some.injEq] at hj
      subst hj
      exact .inr ⟨b, off, arr, rfl, hk, hlc, hcm, hme, by rw [hal]; exact hcs⟩
    · have hnb : ∀ b', b' ∈ d.blks → b' ≠ b := fun b' hb' e => nodup_apart hS.nd hj hC hji hb' (by simp [Ck.blks, e])
      have hok := hS.ok d hd
      cases d with
      | box b' T' s =>
        obtain ⟨k1, k2, k3⟩ := hok
        exact ⟨(hother b' (hnb b' (by simp [Ck.blks]))).trans k1, k2, k3⟩
      | tok p' E' s' n' c' =>
        rcases hok with k | ⟨b', off', cells', rfl, k1, k2, k3, k4, k5⟩
        · exact .inl k
        · exact .inr ⟨b', off', cells', rfl, k1, k2, k3, (hother b' (hnb b' (by simp [Ck.blks]))).trans k4, k5⟩
      | ext x => cases hdne
  · rcases List.mem_cons.1 hm with rfl | hm
    · refine ⟨by rw [List.length_set]; exact hRo.1, hRo.2.1, .inr ⟨b, off, _, rfl, hk, by rw [List.length_set]; exact Nat.le_refl _, fun j u hj => ⟨t.enc u, rfl, fun q e he => ?_⟩⟩⟩
      have hql : q < t.size := by rw [← t.len u]; exact (List.getElem?_eq_some_iff.1 he).1
      show w'.cell? ⟨b, off + j * t.size + q, none⟩ = some e
      rw [hcell, harrk]
      rw [List.getElem?_set] at hj
      split at hj
      · rename_i hij
        subst hij
        simp only [Option.some.injEq] at hj
        subst hj
        obtain ⟨cs, hr, hcy⟩ := hRo.at' hiy
        have hr' : cs = t.enc y := hr
        subst hr'
        rw [hz] at he
        have hyl := t.len y
        subst hE
        by_cases hq1 : q < f
        · rw [if_pos (by omega)]
          rw [List.append_assoc, List.getElem?_append_left (by simp; omega), List.getElem?_take, if_pos hq1] at he
          rw [← hcell0]; exact hcy q e he
        · rw [if_neg (by omega)]
          have hlt : ((t.enc y).take f).length = f := by simp; omega
          rw [List.append_assoc, List.getElem?_append_right (by omega), hlt] at he
          by_cases hq2 : q < f + sz
          · rw [if_pos (by omega)]
            rw [List.getElem?_append_left (by omega)] at he
            rw [← he]; congr 1; omega
          · rw [if_neg (by omega)]
            rw [List.getElem?_append_right (by omega), List.getElem?_drop] at he
            rw [← hcell0]
            refine hcy q e ?_
            rw [← he]; congr 1; omega
      · rename_i hij
        obtain ⟨cs, hr, hcu⟩ := hRo.at' hj
        have hr' : cs = t.enc u := hr
        subst hr'
        have := hcu q e he
        rw [hcell0] at this
        have hside : off + j * t.size + q < Eo ∨ Eo + sz ≤ off + j * t.size + q := by
          rcases Nat.lt_or_gt_of_ne hij with h | h
          · right
            have : (i.toNat + 1) * t.size ≤ j * t.size := Nat.mul_le_mul_right _ h
            rw [Nat.add_mul, Nat.one_mul] at this
            omega
          · left
            have : (j + 1) * t.size ≤ i.toNat * t.size := Nat.mul_le_mul_right _ h
            rw [Nat.add_mul, Nat.one_mul] at this
            omega
        rcases hside with h | h
        · rw [if_pos h]; exact this
        · rw [if_neg (by omega), if_neg (by omega)]; exact this
    · rcases List.mem_cons.1 hm with rfl | hm
      · exact ⟨M1, hext1⟩
      · rcases List.mem_append.1 hm with hm | hm
        · obtain ⟨j, _, hj⟩ := List.mem_filterMap.1 hm
          exact m.mono hext1 (hR0 m (List.mem_of_getElem? hj))
        · obtain ⟨j, _, hj⟩ := List.mem_filterMap.1 hm
          exact hap m hm κ w w' hother (hS.get j hj)
end
section
variable {ro : Option Nat} {P : Program} {ops : Array Oper} {Q : Exit → Act → World → Prop} {N : Nat} {D : List Deferred} {L L' : FL} {a : Act} {w : World} {o : Oper} {K : Act → World → Prop}
variable {M : List Nat} {κ0 κ : Gh} {w0 : World} {C C' : List Ck} {R R' : List MP}
theorem wo_buildNF (hF : Fr N D L a) (hS : SS M κ0 w0 κ w C R) (hc : okOp N L o = true) {α : Type} {t : FT α} {T E n : Nat} {z : Value} {l : List α} {parts : Array (Nat × Operand)} {vs : List (Nat × Value)} {cells : Array Value} (hop : o.op = .buildSlice T n parts) (hx : parts.toList.map (fun p => (p.1, evD L p.2)) = vs) (hrep : cells.toList = l.flatMap t.enc) (hn : l.length = n)
    (hu : pureRun P (underlying T) = some (.slice E)) (hsz : pureRun P (sizeOf E) = some t.size) (hz : pureRun P (zeroValue E) = some z) (hpos : (decide (0 < n * t.size) && decide (n * t.size ≤ 16777216)) = true)
    (hfill : Instr.fill (fun i => some (i * t.size, t.size)) ((Array.range (n * t.size)).map (z.cells[· % z.cells.size]!)) vs = some cells)
    (kk : ∀ p κ' a' w', (∀ a, p = some a → w.heap.size ≤ a.block) → Fr N D (upd L o.dst (.slice p n n)) a' → SS M κ0 w0 κ' w' (.tok p E t.size n n :: C) (Ro.mp t.ty p n l :: R) → K a' w') : wo ro P o a w K Q := by
  simp only [Bool.and_eq_true, decide_eq_true_eq] at hpos
  have hlen : ∀ l : List α, (l.flatMap t.enc).length = l.length * t.size := fun l => by
    induction l with
    | nil => simp
    | cons y l ih => rw [List.flatMap_cons, List.length_append, t.len, ih, List.length_cons, Nat.add_mul, Nat.one_mul]; omega
  have hat : ∀ (l : List α) i x, l[i]? = some x → ∀ j v, (t.enc x)[j]? = some v → (l.flatMap t.enc)[i * t.size + j]? = some v := fun l => by
    induction l with
    | nil => intro i x hi; simp at hi
    | cons y l ih =>
      intro i x hi j v hj
      cases i with
      | zero =>
        simp only [List.getElem?_cons_zero, Option.some.injEq] at hi; subst hi
        rw [List.flatMap_cons, Nat.zero_mul, Nat.zero_add, List.getElem?_append_left (List.getElem?_eq_some_iff.1 hj).1]; exact hj
      | succ i =>
        simp only [List.getElem?_cons_succ] at hi
        rw [List.flatMap_cons, List.getElem?_append_right (by rw [t.len, Nat.add_mul, Nat.one_mul]; omega), t.len, Nat.add_mul, Nat.one_mul]
        rw [show i * t.size + t.size + j - t.size = i * t.size + j from by omega]
        exact ih i x hi j v hj
  have hsmall : n ≤ 16777216 := by
    rcases Nat.eq_zero_or_pos t.size with h | h
    · rw [h] at hpos; omega
    · have := Nat.le_mul_of_pos_right n h; omega
  obtain ⟨κ', h1⟩ := hS.publish t.ty E cells.toList l (by rw [hrep, hlen]; rfl) (by rw [hn]; simp only [maxLen]; omega) fun i x hi => ⟨t.enc x, rfl, fun j v hj => by rw [hrep]; exact hat l i x hi j v hj⟩
  rw [hn] at h1
  refine wo_val hF hc (v := .slice (some ⟨w.heap.size, 0, none⟩) n n) (w' := w.alloc (.cells cells.toList.toArray E)) ?_ fun a' hF' => kk _ κ' a' _ (fun a h => by cases h; exact Nat.le_refl _) hF' h1
  have hn1 : ¬ (16777216 < n * t.size) := by omega
  have hne : ¬ (n * t.size = 0) := by omega
  simp only [execOp, hop]
  simp only [Instr.buildSlice]
  simp [run_underlying' hu, pureRun_run _ hsz w, pureRun_run _ hz w, hn1, newRow, newObj]
  rw [if_neg hne, hx, hfill]
  rfl

end
/-- a shift by a number that may be negative -/
def shlV (k : IntKind) (x y : Int) : Option Int := if 0 ≤ y then some (k.wrap (x * 2 ^ min y.toNat k.bits)) else none
def shrV (k : IntKind) (x y : Int) : Option Int := if 0 ≤ y then some (x / 2 ^ min y.toNat k.bits) else none
section
variable {P : Program} {L : FL} {o : Oper}
theorem val_shl {k k' : IntKind} {x y : Operand} {T T' : TypeId} {a b r : Int} (hop : o.op = .binOp .shl T x y T') (hx : ev L x = some (.int k a)) (hy : ev L y = some (.int k' b)) (h : shlV k a b = some r) : ∀ w : World, (execOp (evD L) o).run P w = .ok (.value (.int k r)) w := fun w => by
  unfold shlV at h
  split at h
  · rename_i h0
    simp only [Option.some.injEq] at h
    subst h
    simp only [execOp, hop, evD, hx, hy, Option.getD_some]
    simp [eqGuard, binOp, shift_shl_any _ _ _ _ h0]
  · cases h
theorem val_shr {k k' : IntKind} {x y : Operand} {T T' : TypeId} {a b r : Int} (hop : o.op = .binOp .shr T x y T') (hx : ev L x = some (.int k a)) (hy : ev L y = some (.int k' b)) (h : shrV k a b = some r) : ∀ w : World, (execOp (evD L) o).run P w = .ok (.value (.int k r)) w := fun w => by
  unfold shrV at h
  split at h
  · rename_i h0
    simp only [Option.some.injEq] at h
    subst h
    simp only [execOp, hop, evD, hx, hy, Option.getD_some]
    simp [eqGuard, binOp, shift_shr_any _ _ _ _ h0]
  · cases h
end
section
variable {ro : Option Nat} {P : Program} {ops : Array Oper} {Q : Exit → Act → World → Prop} {N : Nat} {D : List Deferred} {L L' : FL} {a : Act} {w : World} {o : Oper} {K : Act → World → Prop}
variable {M : List Nat} {κ0 κ : Gh} {w0 : World} {C C' : List Ck} {R R' : List MP}
theorem blksOf_set : ∀ {C : List Ck} {i : Nat} {x y : Ck}, C[i]? = some x → y.blks = x.blks → blksOf (C.set i y) = blksOf C
  | [], _, _, _, h, _ => by simp at h
  | c :: C, 0, x, y, h, hb => by
    simp only [List.getElem?_cons_zero, Option.some.injEq] at h
    subst h
    simp [blksOf, hb]
  | c :: C, i + 1, x, y, h, hb => by
    simp only [List.getElem?_cons_succ] at h
    have := blksOf_set h hb
    simp only [blksOf] at this
    simp [blksOf, this]
theorem SS.reck (h : SS M κ0 w0 κ w C R) (i : Nat) {x y : Ck} (hi : C[i]? = some x) (hb : y.blks = x.blks) (hok : y.ok κ w) : SS M κ0 w0 κ w (C.set i y) R := by
  have hbo := blksOf_set hi hb
  refine ⟨h.ext, h.fresh, fun c hc => ?_, fun b hm => h.lt b (hbo ▸ hm), hbo ▸ h.nd, fun b hm => h.own b (hbo ▸ hm), h.ro⟩
  rcases List.mem_or_eq_of_mem_set hc with hc | rfl
  · exact h.ok c hc
  · exact hok
theorem wo_sliceP (hF : Fr N D L a) (hS : SS M κ0 w0 κ w C R) (hc : okOp N L o = true) {α : Type} {t : Ty α} (ri : Nat) {T E n c : Nat} {p : Option Addr} {l l' : List α} {lo hi : Int} {x : Operand} {xl xh : Option Operand} (hop : o.op = .slice T x xl xh none) (hR : R[ri]? = some (Ro.mp t p c l))
    (hx : ev L x = some (.slice p n c)) (hn : n = l.length) (hlo : match xl with | some y => ∃ k, ev L y = some (.int k lo) | none => lo = 0) (hhi : match xh with | some y => ∃ k, ev L y = some (.int k hi) | none => hi = l.length)
    (hs : slc l lo hi = some l') (hu : pureRun P (underlying T) = some (.slice E)) (hsz : pureRun P (sizeOf E) = some t.size)
    (kk : ∀ p' c' a', p' = (if c = lo.toNat then p else p.map (·.add (lo.toNat * t.size))) → c' = c - lo.toNat → Fr N D (upd L o.dst (.slice p' l'.length c')) a' → SS M κ0 w0 κ w C (Ro.mp t p' c' l' :: R) → K a' w) : wo ro P o a w K Q := by
  obtain ⟨h0, h1, h2, rfl⟩ := slc_some hs
  subst hn
  have hRo : Ro t κ w p c l := hS.get ri hR
  have hlc : l.length ≤ c := hRo.1
  have hlen : ((l.take hi.toNat).drop lo.toNat).length = hi.toNat - lo.toNat := by simp; omega
  have hrun : (Instr.sliceAt T (.slice p l.length c) (xl.map (evD L)) (xh.map (evD L)) none).run P w = .ok (.slice (if c = lo.toNat then p else p.map (·.add (lo.toNat * t.size))) (hi.toNat - lo.toNat) (c - lo.toNat)) w := by
    cases xl with
    | none =>
      subst hlo
      cases xh with
      | none => subst hhi; simp [Instr.sliceAt, Instr.slice, Instr.sliceBounds, run_underlying' hu, pureRun_run _ hsz w]
      | some y =>
        obtain ⟨k, hk⟩ := hhi
        have : hi ≤ (c : Int) := by omega
        simp [Instr.sliceAt, Instr.slice, Instr.sliceBounds, Instr.sliceBound, asIntOf, run_underlying' hu, pureRun_run _ hsz w, evD, hk, h1, this]
    | some z =>
      obtain ⟨kz, hkz⟩ := hlo
      cases xh with
      | none =>
        subst hhi
        simp [Instr.sliceAt, Instr.slice, Instr.sliceBounds, Instr.sliceBound, asIntOf, run_underlying' hu, pureRun_run _ hsz w, evD, hkz, h0, h1]
      | some y =>
        obtain ⟨k, hk⟩ := hhi
        have h3 : hi ≤ (c : Int) := by omega
        have h4 : 0 ≤ hi := by omega
        have h5 : lo ≤ max hi 0 := by omega
        simp [Instr.sliceAt, Instr.slice, Instr.sliceBounds, Instr.sliceBound, asIntOf, run_underlying' hu, pureRun_run _ hsz w, evD, hk, hkz, h0, h3, h4, h5]
  have hval : (execOp (evD L) o).run P w = .ok (.value (.slice (if c = lo.toNat then p else p.map (·.add (lo.toNat * t.size))) ((l.take hi.toNat).drop lo.toNat).length (c - lo.toNat))) w := by
    have hev : evD L x = .slice p l.length c := by simp [evD, hx]
    simp only [execOp, hop, hev, Option.map_none]
    rw [hlen]
    simp [hrun]
  refine wo_val hF hc hval fun a' hF' => kk _ _ a' rfl rfl hF' (hS.add ?_)
  show Ro t κ w _ _ _
  refine ⟨by rw [hlen]; omega, by have := hRo.2.1; omega, ?_⟩
  rcases hRo.2.2 with ⟨rfl, rfl⟩ | ⟨b, off, m, rfl, hk, hm, hcell⟩
  · exact .inl ⟨by simp, by omega⟩
  · by_cases hcl : c = lo.toNat
    · rw [if_pos hcl]
      have hz : hi.toNat - lo.toNat = 0 := by omega
      have hnil : (l.take hi.toNat).drop lo.toNat = [] := List.eq_nil_of_length_eq_zero (by rw [hlen]; exact hz)
      rw [hnil]
      exact .inr ⟨b, off, m, rfl, hk, by simp; omega, fun i x hi => by simp at hi⟩
    · rw [if_neg hcl]
      refine .inr ⟨b, off + lo.toNat * t.size, m, by simp [add_off], hk, ?_, fun i x hi' => ?_⟩
      · rw [hlen, Nat.add_assoc, ← Nat.add_mul]
        have : (lo.toNat + (hi.toNat - lo.toNat)) * t.size ≤ l.length * t.size := Nat.mul_le_mul_right _ (by omega)
        omega
      · rw [List.getElem?_drop, List.getElem?_take] at hi'
        split at hi'
        · obtain ⟨cs, hr, hcs⟩ := hcell _ x hi'
          refine ⟨cs, hr, fun j v hj => ?_⟩
          have := hcs j v hj
          rw [Nat.add_mul] at this
          rwa [show off + lo.toNat * t.size + i * t.size + j = off + (lo.toNat * t.size + i * t.size) + j from by omega]
        · cases hi'

/-- s[lo:] of the call's own slice: the part is its own -/
theorem wo_sliceTok (hF : Fr N D L a) (hS : SS M κ0 w0 κ w C R) (hc : okOp N L o = true) {α : Type} {t : Ty α} (ri ci : Nat) {T E n c : Nat} {p : Option Addr} {l l' : List α} {lo : Int} {x y : Operand} {kd : IntKind} (hop : o.op = .slice T x (some y) none none) (hR : R[ri]? = some (Ro.mp t p c l)) (hC : C[ci]? = some (.tok p E t.size n c))
    (hx : ev L x = some (.slice p n c)) (hn : n = l.length) (hy : ev L y = some (.int kd lo))
    (hs : slc l lo l.length = some l') (hu : pureRun P (underlying T) = some (.slice E)) (hsz : pureRun P (sizeOf E) = some t.size)
    (kk : ∀ p' c' a', Fr N D (upd L o.dst (.slice p' l'.length c')) a' → SS M κ0 w0 κ w (C.set ci (.tok p' E t.size l'.length c')) (Ro.mp t p' c' l' :: R) → K a' w) : wo ro P o a w K Q := by
  refine wo_sliceP hF hS hc ri hop hR hx hn ⟨_, hy⟩ (hi := (l.length : Int)) rfl hs hu hsz fun p' c' a' hp' hc' hF' hS' => kk p' c' a' hF' (hS'.reck ci hC ?_ ?_)
  · subst hp'
    split
    · cases p <;> rfl
    · cases p with
      | none => rfl
      | some a =>
        show [(a.add _).block] = [a.block]
        unfold Addr.add
        split <;> rfl
  · obtain ⟨h0, h1, h2, rfl⟩ := slc_some hs
    have htok := hS.ck ci hC
    have hRo : Ro t κ w p c l := hS.get ri hR
    have hlc : l.length ≤ c := hRo.1
    have hl' : ((l.take (l.length : Int).toNat).drop lo.toNat).length = l.length - lo.toNat := by simp
    rw [hl']
    subst hn hp' hc'
    rcases htok with ⟨g1, g2⟩ | ⟨b, off, cells, rfl, hk, hle, hcm, hheap, hcs⟩
    · exact .inl ⟨by omega, by omega⟩
    · by_cases hcl : c = lo.toNat
      · exact .inl ⟨by omega, by omega⟩
      · rw [if_neg hcl]
        have e1 : lo.toNat * t.size + (l.length - lo.toNat) * t.size = l.length * t.size := by rw [← Nat.add_mul]; congr 1; omega
        have e2 : lo.toNat * t.size + (c - lo.toNat) * t.size = c * t.size := by rw [← Nat.add_mul]; congr 1; omega
        exact .inr ⟨b, off + lo.toNat * t.size, cells, by simp [add_off], by rw [hk]; congr 1; omega, by omega, by omega, hheap, by omega⟩
end
end Go.Cf
