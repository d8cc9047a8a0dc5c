/- Part 15: a store into an element of a slice that is the call's own, published or not. -/
import Derived.Test.YtjohablgnnbelaaKit14
namespace Go.Cf
open Go

/-- the fact says nothing of block b's cells -/
def Apart (b : Nat) (m : MP) : Prop := ∀ κ w w', (∀ b', b' ≠ b → w'.heap[b']? = w.heap[b']?) → m.p κ w → m.p κ w'
theorem apart_const (b : Nat) (q : Prop) : Apart b (MP.const q) := fun _ _ _ _ h => h
theorem apart_ro {α : Type} {t : FT α} {b : Nat} {p : Option Addr} {c : Nat} {l : List α} (h : ∀ a, p = some a → a.block ≠ b) : Apart b (Ro.mp t.ty p c l) := fun κ w w' hw ⟨h1, h2, h3⟩ => by
  refine ⟨h1, h2, ?_⟩
  rcases h3 with h3 | ⟨b', off, n, hp, hk, hn, hc⟩
  · exact .inl h3
  · refine .inr ⟨b', off, n, hp, hk, hn, fun i x hi => ?_⟩
    obtain ⟨cs, hr, hv⟩ := hc i x hi
    refine ⟨cs, hr, fun j v hj => ?_⟩
    rw [cell_of_heap (hw b' (h _ hp))]
    exact hv j v hj
def noExt : Ck → Bool
  | .ext _ => false
  | _ => true

section
variable {ro : Option Nat} {P : Program} {ops : Array Oper} {Q : Exit → Act → World → Prop} {N : Nat} {D : List Deferred} {L L' : FL} {a : Act} {w : World} {o : Oper} {K : Act → World → Prop}
variable {κ0 κ : Gh} {w0 : World} {C C' : List Ck} {R R' R0 Ra Rb : List MP}
theorem nodup_apart : ∀ {C : List Ck} {i j : Nat} {x y : Ck} {b : Nat}, (blksOf C).Nodup → C[i]? = some x → C[j]? = some y → i ≠ j → b ∈ x.blks → b ∉ y.blks := by
  have key : ∀ (C : List Ck) (i j : Nat) (x y : Ck) (b : Nat), C[i]? = some x → C[j]? = some y → i < j → b ∈ x.blks → b ∈ y.blks → ¬ (blksOf C).Nodup := by
    intro C
    induction C with
    | nil => intro i j x y b hx; simp at hx
    | cons e C ih =>
      intro i j x y b hx hy hij hbx hby hnd
      have hnd' : (e.blks ++ blksOf C).Nodup := hnd
      cases j with
      | zero => omega
      | succ j =>
        simp only [List.getElem?_cons_succ] at hy
        cases i with
        | zero =>
          simp only [List.getElem?_cons_zero, Option.some.injEq] at hx
          subst hx
          exact (List.nodup_append.1 hnd').2.2 b hbx b (List.mem_flatMap.2 ⟨y, List.mem_of_getElem? hy, hby⟩) rfl
        | succ i =>
          simp only [List.getElem?_cons_succ] at hx
          exact ih i j x y b hx hy (by omega) hbx hby (List.nodup_append.1 hnd').2.1
  intro C i j x y b hnd hx hy hij hbx hby
  rcases Nat.lt_or_ge i j with h | h
  · exact key C i j x y b hx hy h hbx hby hnd
  · exact key C j i y x b hy hx (by omega) hby hbx hnd
theorem SS.tokApart {M : List Nat} (hS : SS M κ0 w0 κ w C R) (i j : Nat) {p p' : Option Addr} {E E' s s' n n' c c' : Nat} {b : Nat} {off : Nat} (hp : p = some ⟨b, off, none⟩) (hi : C[i]? = some (.tok p E s n c)) (hj : C[j]? = some (.tok p' E' s' n' c')) (hij : i ≠ j) : ∀ a, p' = some a → a.block ≠ b := by
  rintro a rfl h
  subst hp
  exact nodup_apart hS.nd hj hi (Ne.symm hij) (b := b) (by simp [Ck.blks, h]) (by simp [Ck.blks])
theorem SS.notM {M : List Nat} (hS : SS M κ0 w0 κ w C R) {Cm : List Ck} (hM : M = blksOf Cm) (ci : Nat) (js : List Nat) {p : Option Addr} {E s n c : Nat} (hC : C[ci]? = some (.tok p E s n c)) (hj : (js.filterMap fun j => C[j]?).map Ck.blks = Cm.map Ck.blks) (hn : ci ∉ js) : ∀ a, p = some a → a.block ∉ M := by
  rintro a rfl h
  subst hM
  have h' : a.block ∈ (Cm.map Ck.blks).flatten := by simpa [blksOf, List.flatMap] using h
  rw [← hj, List.mem_flatten] at h'
  obtain ⟨bs, hbs, hb⟩ := h'
  obtain ⟨x, hx, rfl⟩ := List.mem_map.1 hbs
  obtain ⟨j, hjs, hjx⟩ := List.mem_filterMap.1 hx
  exact nodup_apart hS.nd hjx hC (fun e => hn (e ▸ hjs)) hb (by simp [Ck.blks])
/-- a store into an element of a slice of the call's own -/
theorem wo_storeTok {M : List Nat} (hF : Fr N D L a) (hS : SS M κ0 w0 κ w C R) (hf0 : Fresh κ0 w0) (hR0 : ∀ m ∈ R0, m.p κ0 w0) (hc : okOp N L o = true) {α : Type} {t : FT α} (ci ri f : Nat) {T E b off Eo c n sz : Nat} {p : Option Addr} {l : List α} {i : Int} {y z : α} {x x' : Operand} {v : Value} {vs : List Value}
    (hop : o.op = .store T x x') (hx : ev L x = some (.pointer (some ⟨b, Eo, none⟩))) (hy : ev L x' = some v) (hC : C[ci]? = some (.tok p E t.size n c)) (hn : n = l.length) (hR : R[ri]? = some (Ro.mp t.ty p c l))
    (hp : p = some ⟨b, off, none⟩) (hi : idx l i = some y) (hE : off + i.toNat * t.size + f = Eo) (hsz : pureRun P (sizeOf T) = some sz) (hvs : v.cells = vs.toArray) (hvl : vs.length = sz) (h1 : ∀ u ∈ vs, u.oneCell' = true)
    (hz : t.enc z = (t.enc y).take f ++ vs ++ (t.enc y).drop (f + sz)) (hfs : f + sz ≤ t.size) (hM : ∀ a, p = some a → a.block ∉ M) (hne : C.all noExt = true)
    (ia ib : List Nat) (hRa : (ia.filterMap fun i => R0[i]?) = Ra) (hRb : (ib.filterMap fun i => R[i]?) = Rb) (hap : ∀ m ∈ Rb, Apart b m) {Cf : Nat → List Ck} {Lf : Nat → FL} (ks : List Nat) (hCf : C = Cf l.length) (hLf : keep (upd L o.dst undef) ks = Lf l.length)
    (kk : ∀ a' w', Fr N D (Lf (l.set i.toNat z).length) a' → SS M κ0 w0 κ w' (Cf (l.set i.toNat z).length) (Ro.mp t.ty p c (l.set i.toNat z) :: (Ra ++ Rb)) → K a' w') : wo ro P o a w K Q := by
  rw [List.length_set, ← hCf] at kk
  subst hn hp hRa hRb
  obtain ⟨h0, hil, hiy⟩ := idx_some hi
  have hRo : Ro t.ty κ w (some ⟨b, off, none⟩) c l := hS.get ri hR
  have htok := hS.ck ci hC
  rcases htok with ⟨hp, _⟩ | ⟨b', off', cells, hp, hk, hlc, hcm, hheap, hcs⟩
  · omega
  simp only [Option.some.injEq, Addr.mk.injEq] at hp
  obtain ⟨rfl, rfl, _⟩ := hp
  have hmul : i.toNat * t.size + t.size ≤ l.length * t.size := by
    have : (i.toNat + 1) * t.size ≤ l.length * t.size := Nat.mul_le_mul_right _ hil
    rw [Nat.add_mul, Nat.one_mul] at this
    exact this
  have hmulc : l.length * t.size ≤ c * t.size := Nat.mul_le_mul_right _ hlc
  have hbm : b ∈ blksOf C := List.mem_flatMap.2 ⟨_, List.mem_of_getElem? hC, by simp [Ck.blks]⟩
  have hblt : b < w.heap.size := hS.lt b hbm
  have hb0 : w0.heap.size ≤ b := (hS.own b hbm).elim id fun h => absurd h (hM _ rfl)
  have hst := run_storeCells_at P b Eo E vs 0 cells w hheap (by rw [hvl, hcs]; omega) h1
  simp only [Nat.add_zero] at hst
  rw [setRow_eq w b E _ _ hheap] at hst
  have hst' : (Instr.storeAt T (.pointer (some ⟨b, Eo, none⟩)) v).run P w = .ok () { w with heap := w.heap.setIfInBounds b (.cells (cells.toList.take Eo ++ vs ++ cells.toList.drop (Eo + vs.length)).toArray E (0, 0)) } := by
    have e1 : v.cells.toList = vs := by rw [hvs]
    have e2 : v.cells.size = sz := by rw [hvs]; simpa using hvl
    simp [Instr.storeAt, Instr.sureAddr, storeVar, pureRun_run _ hsz w, e1, e2, hst]
  generalize harr : (cells.toList.take Eo ++ vs ++ cells.toList.drop (Eo + vs.length)).toArray = arr at hst'
  have hal : arr.size = cells.size := by
    subst harr
    simp only [List.size_toArray, List.length_append, List.length_take, List.length_drop, Array.length_toList]
    omega
  let w' : World := { w with heap := w.heap.setIfInBounds b (.cells arr E (0, 0)) }
  have hother : ∀ b', b' ≠ b → w'.heap[b']? = w.heap[b']? := fun b' hne => by
    show (w.heap.setIfInBounds b _)[b']? = _
    rw [Array.getElem?_setIfInBounds_ne (Ne.symm hne)]
  have hme : w'.heap[b]? = some (.cells arr E (0, 0)) := by
    show (w.heap.setIfInBounds b _)[b]? = _
    simp [hblt]
  have hfz : ∀ a, w'.frozen? a = w.frozen? a := frozen?_of hheap hme hother
  have hext0 : Ext M κ0 w0 κ w' := by
    refine ⟨hS.ext.os, hS.ext.out, hS.ext.tape, ?_, fun a => (hfz a).trans (hS.ext.fz a), fun b' hb' hm => ?_, fun b' m hm => ?_⟩
    · have := hS.ext.size; simpa [w'] using this
    · obtain ⟨h1, h2⟩ := hS.ext.keep b' hb' hm
      exact ⟨(hother b' (by omega)).trans h1, h2⟩
    · obtain ⟨n', h1, h2, h3⟩ := hS.ext.pub b' m hm
      have hb' : b' < w0.heap.size := by
        rcases Nat.lt_or_ge b' w0.heap.size with h | h
        · exact h
        · rw [hf0 b' h] at hm; cases hm
      exact ⟨n', h1, h2, fun i hi => (cell_of_heap (hother b' (by omega))).trans (h3 i hi)⟩
  have hcell : ∀ k, w'.cell? ⟨b, k, none⟩ = arr[k]? := fun k => by simp [World.cell?, hme]
  have hcell0 : ∀ k, w.cell? ⟨b, k, none⟩ = cells[k]? := fun k => by simp [World.cell?, hheap]
  have harrk : ∀ k, arr[k]? = if k < Eo then cells[k]? else if k < Eo + sz then vs[k - Eo]? else cells[k]? := fun k => by
    subst harr
    have hEc : Eo + sz ≤ cells.toList.length := by simp only [Array.length_toList]; omega
    rw [List.getElem?_toArray, List.append_assoc]
    by_cases hk1 : k < Eo
    · rw [if_pos hk1, List.getElem?_append_left (by simp; omega), List.getElem?_take, if_pos hk1]; simp
    · rw [if_neg hk1, List.getElem?_append_right (by simp; omega)]
      have hlt : (cells.toList.take Eo).length = Eo := by simp; omega
      rw [hlt]
      by_cases hk2 : k < Eo + sz
      · rw [if_pos hk2, List.getElem?_append_left (by omega)]
      · rw [if_neg hk2, List.getElem?_append_right (by omega), List.getElem?_drop]
        simp only [Array.getElem?_toList]
        congr 1; omega
  refine wo_skip hF hc (exec_store hop hx hy hst') fun a' hF' => kk a' w' (hF'.keep' ks hLf) ⟨hext0, fun b' hb' => hS.fresh b' (by simpa [w'] using hb'), fun d hd => ?_, fun b' hb' => by simpa [w'] using hS.lt b' hb', hS.nd, hS.own, fun m hm => ?_⟩
  · -- the chunks
    obtain ⟨j, hj⟩ := List.getElem?_of_mem hd
    have hdne := List.all_eq_true.1 hne d hd
    by_cases hji : j = ci
    · subst hji
      rw [hC] at hj
      simp only [Option.some.injEq] at hj
      subst hj
      exact .inr ⟨b, off, arr, rfl, hk, hlc, hcm, hme, by rw [hal]; exact hcs⟩
    · have hnb : ∀ b', b' ∈ d.blks → b' ≠ b := fun b' hb' e => nodup_apart hS.nd hj hC hji hb' (by simp [Ck.blks, e])
      have hok := hS.ok d hd
      cases d with
      | box b' T' s =>
        obtain ⟨k1, k2, k3⟩ := hok
        exact ⟨(hother b' (hnb b' (by simp [Ck.blks]))).trans k1, k2, k3⟩
      | tok p' E' s' n' c' =>
        rcases hok with k | ⟨b', off', cells', rfl, k1, k2, k3, k4, k5⟩
        · exact .inl k
        · exact .inr ⟨b', off', cells', rfl, k1, k2, k3, (hother b' (hnb b' (by simp [Ck.blks]))).trans k4, k5⟩
      | ext x => cases hdne
  · rcases List.mem_cons.1 hm with rfl | hm
    · refine ⟨by rw [List.length_set]; exact hRo.1, hRo.2.1, .inr ⟨b, off, _, rfl, hk, by rw [List.length_set]; exact Nat.le_refl _, fun j u hj => ⟨t.enc u, rfl, fun q e he => ?_⟩⟩⟩
      have hql : q < t.size := by rw [← t.len u]; exact (List.getElem?_eq_some_iff.1 he).1
      show w'.cell? ⟨b, off + j * t.size + q, none⟩ = some e
      rw [hcell, harrk]
      rw [List.getElem?_set] at hj
      split at hj
      · rename_i hij
        subst hij
        simp only [Option.some.injEq] at hj
        subst hj
        obtain ⟨cs, hr, hcy⟩ := hRo.at' hiy
        have hr' : cs = t.enc y := hr
        subst hr'
        rw [hz] at he
        have hyl := t.len y
        subst hE
        by_cases hq1 : q < f
        · rw [if_pos (by omega)]
          rw [List.append_assoc, List.getElem?_append_left (by simp; omega), List.getElem?_take, if_pos hq1] at he
          rw [← hcell0]; exact hcy q e he
        · rw [if_neg (by omega)]
          have hlt : ((t.enc y).take f).length = f := by simp; omega
          rw [List.append_assoc, List.getElem?_append_right (by omega), hlt] at he
          by_cases hq2 : q < f + sz
          · rw [if_pos (by omega)]
            rw [List.getElem?_append_left (by omega)] at he
            rw [← he]; congr 1; omega
          · rw [if_neg (by omega)]
            rw [List.getElem?_append_right (by omega), List.getElem?_drop] at he
            rw [← hcell0]
            refine hcy q e ?_
            rw [← he]; congr 1; omega
      · rename_i hij
        obtain ⟨cs, hr, hcu⟩ := hRo.at' hj
        have hr' : cs = t.enc u := hr
        subst hr'
        have := hcu q e he
        rw [hcell0] at this
        have hside : off + j * t.size + q < Eo ∨ Eo + sz ≤ off + j * t.size + q := by
          rcases Nat.lt_or_gt_of_ne hij with h | h
          · right
            have : (i.toNat + 1) * t.size ≤ j * t.size := Nat.mul_le_mul_right _ h
            rw [Nat.add_mul, Nat.one_mul] at this
            omega
          · left
            have : (j + 1) * t.size ≤ i.toNat * t.size := Nat.mul_le_mul_right _ h
            rw [Nat.add_mul, Nat.one_mul] at this
            omega
        rcases hside with h | h
        · rw [if_pos h]; exact this
        · rw [if_neg (by omega), if_neg (by omega)]; exact this
    · rcases List.mem_append.1 hm with hm | hm
      · obtain ⟨j, _, hj⟩ := List.mem_filterMap.1 hm
        exact m.mono hext0 (hR0 m (List.mem_of_getElem? hj))
      · obtain ⟨j, _, hj⟩ := List.mem_filterMap.1 hm
        exact hap m hm κ w w' hother (hS.get j hj)
end
end Go.Cf
