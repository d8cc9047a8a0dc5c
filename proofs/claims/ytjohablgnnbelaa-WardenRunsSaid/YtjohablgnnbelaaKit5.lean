/- Part 5: operations on slices, calls, and the ways of control. -/
import Derived.Test.YtjohablgnnbelaaKit4
namespace Go.Cf
open Go

section
variable {ro : Option Nat} {P : Program} {ops : Array Oper} {Q : Exit → Act → World → Prop} {N : Nat} {D : List Deferred} {L L' : FL} {a : Act} {w : World} {o : Oper} {K : Act → World → Prop}
variable {M : List Nat} {κ0 κ : Gh} {w0 : World} {C C' : List Ck} {R R' : List MP}

theorem run_underlying' {T : Nat} {d : TypeDesc} (h : pureRun P (underlying T) = some d) (w : World) : (underlying T).run P w = .ok d w := pureRun_run _ h w
theorem underlying_of {T : Nat} {d : TypeDesc} (h : pureRun P (underlying T) = some d) : P.underlying T = some d := by
  have e : pureRun P (underlying T) = P.underlying T := by
    show pureRun P (match P.underlying T with | some d => pure d | none => stuck "no such type") = _
    cases P.underlying T <;> rfl
  rw [← e]; exact h

/-- the address of an element -/
theorem wo_index (hF : Fr N D L a) (hS : SS M κ0 w0 κ w C R) (hc : okOp N L o = true) {α : Type} {t : Ty α} (ri : Nat) {T E sz n c : Nat} {kd : IntKind} {p : Option Addr} {l : List α} {i : Int} {y : α} {x ix : Operand} (hop : o.op = .indexAddr T x ix) (hR : R[ri]? = some (Ro.mp t p c l))
    (hx : ev L x = some (.slice p n c)) (hn : n = l.length) (hix : ev L ix = some (.int kd i)) (hi : idx l i = some y) (hu : pureRun P (underlying T) = some (.slice E)) (hs : pureRun P (sizeOf E) = some sz)
    (kk : ∀ b off a', p = some ⟨b, off, none⟩ → Fr N D (upd L o.dst (.pointer (some ⟨b, off + i.toNat * sz, none⟩))) a' → K a' w) : wo ro P o a w K Q := by
  obtain ⟨h0, h1, h2⟩ := idx_some hi
  have hRo : Ro t κ w p c l := hS.get ri hR
  obtain ⟨b, off, hp, _⟩ := hRo.at h2
  refine wo_val hF hc (v := .pointer (some ⟨b, off + i.toNat * sz, none⟩)) (w' := w) ?_ fun a' hF' => kk b off a' hp hF'
  simp only [execOp, hop, evD, hx, hix, Option.getD_some]
  subst hn hp
  have hlt : i < (l.length : Int) := by omega
  simp [Instr.indexAt, asIntOf, run_underlying' hu, pureRun_run _ hs w, h0, hlt, add_off]
theorem wo_indexArr (hF : Fr N D L a) (hc : okOp N L o = true) {T E sz n b off : Nat} {kd : IntKind} {i : Int} {x ix : Operand} (hop : o.op = .indexAddr T x ix)
    (hx : ev L x = some (.pointer (some ⟨b, off, none⟩))) (hix : ev L ix = some (.int kd i)) (hi : 0 ≤ i ∧ i < (n : Int)) (hu : pureRun P (underlying T) = some (.array n E)) (hs : pureRun P (sizeOf E) = some sz)
    (kk : ∀ a', Fr N D (upd L o.dst (.pointer (some ⟨b, off + i.toNat * sz, none⟩))) a' → K a' w) : wo ro P o a w K Q := by
  refine wo_val hF hc (v := .pointer (some ⟨b, off + i.toNat * sz, none⟩)) (w' := w) ?_ kk
  simp only [execOp, hop, evD, hx, hix, Option.getD_some]
  simp [Instr.indexAt, Instr.sureAddr, asIntOf, run_underlying' hu, pureRun_run _ hs w, hi.1, hi.2, add_off]

/-- a load out of what is published: one cell of an element of a type without references -/
theorem wo_loadRo (hF : Fr N D L a) (hS : SS M κ0 w0 κ w C R) (hc : okOp N L o = true) {α : Type} {t : FT α} (ri f : Nat) {T c b off E : Nat} {p : Option Addr} {l : List α} {i : Int} {y : α} {x : Operand} {v : Value} (hop : o.op = .load T x) (hR : R[ri]? = some (Ro.mp t.ty p c l))
    (hp : p = some ⟨b, off, none⟩) (hx : ev L x = some (.pointer (some ⟨b, E, none⟩))) (hi : idx l i = some y) (hE : off + i.toNat * t.size + f = E) (hv : (t.enc y)[f]? = some v) (hg : pureRun P (isAgg T) = some false)
    (kk : ∀ a', Fr N D (upd L o.dst v) a' → K a' w) : wo ro P o a w K Q := by
  have hRo : Ro t.ty κ w p c l := hS.get ri hR
  subst hp hE
  obtain ⟨cs, hr, hcs⟩ := hRo.at' (idx_some hi).2.2
  have hr' : cs = t.enc y := hr
  subst hr'
  exact wo_val hF hc (exec_load hop hx (run_load_scalar hg (hcs f v hv))) kk
theorem wo_loadRoAgg (hF : Fr N D L a) (hS : SS M κ0 w0 κ w C R) (hc : okOp N L o = true) {α : Type} {t : FT α} (ri : Nat) {T c b off E : Nat} {p : Option Addr} {l : List α} {i : Int} {y : α} {x : Operand} (hop : o.op = .load T x) (hR : R[ri]? = some (Ro.mp t.ty p c l))
    (hp : p = some ⟨b, off, none⟩) (hx : ev L x = some (.pointer (some ⟨b, E, none⟩))) (hi : idx l i = some y) (hE : off + i.toNat * t.size = E) (hg : pureRun P (isAgg T) = some true) (hsz : pureRun P (sizeOf T) = some t.size)
    (kk : ∀ a', Fr N D (upd L o.dst (.agg (t.enc y).toArray)) a' → K a' w) : wo ro P o a w K Q := by
  have hRo : Ro t.ty κ w p c l := hS.get ri hR
  subst hp hE
  obtain ⟨cs, hr, hcs⟩ := hRo.at' (idx_some hi).2.2
  have hr' : cs = t.enc y := hr
  subst hr'
  exact wo_val hF hc (exec_load hop hx (run_load_agg hg hsz (t.len y) fun j v hj => hcs j v hj)) kk
/-- .. of any type: the whole element -/
theorem wo_loadRoTy (hF : Fr N D L a) (hS : SS M κ0 w0 κ w C R) (hc : okOp N L o = true) {α : Type} {t : Ty α} (ri : Nat) {T c b off E : Nat} {p : Option Addr} {l : List α} {i : Int} {y : α} {x : Operand} (hop : o.op = .load T x) (hR : R[ri]? = some (Ro.mp t p c l))
    (hp : p = some ⟨b, off, none⟩) (hx : ev L x = some (.pointer (some ⟨b, E, none⟩))) (hi : idx l i = some y) (hE : off + i.toNat * t.size = E) (hg : pureRun P (isAgg T) = some true) (hsz : pureRun P (sizeOf T) = some t.size)
    (kk : ∀ cs a', t.rep κ w cs y → Fr N D (upd L o.dst (.agg cs.toArray)) a' → K a' w) : wo ro P o a w K Q := by
  have hRo : Ro t κ w p c l := hS.get ri hR
  subst hp hE
  obtain ⟨cs, hr, hcs⟩ := hRo.at' (idx_some hi).2.2
  exact wo_val hF hc (exec_load hop hx (run_load_agg hg hsz (t.len hr) fun j v hj => hcs j v hj)) fun a' hF' => kk cs a' hr hF'

/-- s[lo:hi] -/
theorem wo_slice (hF : Fr N D L a) (hS : SS M κ0 w0 κ w C R) (hc : okOp N L o = true) {α : Type} {t : Ty α} (ri : Nat) {T E n c : Nat} {p : Option Addr} {l l' : List α} {lo hi : Int} {x : Operand} {xl xh : Option Operand} (hop : o.op = .slice T x xl xh none) (hR : R[ri]? = some (Ro.mp t p c l))
    (hx : ev L x = some (.slice p n c)) (hn : n = l.length) (hlo : match xl with | some y => ∃ k, ev L y = some (.int k lo) | none => lo = 0) (hhi : match xh with | some y => ∃ k, ev L y = some (.int k hi) | none => hi = l.length)
    (hs : slc l lo hi = some l') (hu : pureRun P (underlying T) = some (.slice E)) (hsz : pureRun P (sizeOf E) = some t.size)
    (kk : ∀ p' c' a', Fr N D (upd L o.dst (.slice p' l'.length c')) a' → SS M κ0 w0 κ w C (Ro.mp t p' c' l' :: R) → K a' w) : wo ro P o a w K Q := by
  obtain ⟨h0, h1, h2, rfl⟩ := slc_some hs
  subst hn
  have hRo : Ro t κ w p c l := hS.get ri hR
  have hlc : l.length ≤ c := hRo.1
  have hlen : ((l.take hi.toNat).drop lo.toNat).length = hi.toNat - lo.toNat := by simp; omega
  have hrun : (Instr.sliceAt T (.slice p l.length c) (xl.map (evD L)) (xh.map (evD L)) none).run P w = .ok (.slice (if c = lo.toNat then p else p.map (·.add (lo.toNat * t.size))) (hi.toNat - lo.toNat) (c - lo.toNat)) w := by
    cases xl with
    | none =>
      subst hlo
      cases xh with
      | none => subst hhi; simp [Instr.sliceAt, Instr.slice, Instr.sliceBounds, run_underlying' hu, pureRun_run _ hsz w]
      | some y =>
        obtain ⟨k, hk⟩ := hhi
        have : hi ≤ (c : Int) := by omega
        simp [Instr.sliceAt, Instr.slice, Instr.sliceBounds, Instr.sliceBound, asIntOf, run_underlying' hu, pureRun_run _ hsz w, evD, hk, h1, this]
    | some z =>
      obtain ⟨kz, hkz⟩ := hlo
      cases xh with
      | none =>
        subst hhi
        simp [Instr.sliceAt, Instr.slice, Instr.sliceBounds, Instr.sliceBound, asIntOf, run_underlying' hu, pureRun_run _ hsz w, evD, hkz, h0, h1]
      | some y =>
        obtain ⟨k, hk⟩ := hhi
        have h3 : hi ≤ (c : Int) := by omega
        have h4 : 0 ≤ hi := by omega
        have h5 : lo ≤ max hi 0 := by omega
        simp [Instr.sliceAt, Instr.slice, Instr.sliceBounds, Instr.sliceBound, asIntOf, run_underlying' hu, pureRun_run _ hsz w, evD, hk, hkz, h0, h3, h4, h5]
  have hval : (execOp (evD L) o).run P w = .ok (.value (.slice (if c = lo.toNat then p else p.map (·.add (lo.toNat * t.size))) ((l.take hi.toNat).drop lo.toNat).length (c - lo.toNat))) w := by
    have hev : evD L x = .slice p l.length c := by simp [evD, hx]
    simp only [execOp, hop, hev, Option.map_none]
    rw [hlen]
    simp [hrun]
  refine wo_val hF hc hval fun a' hF' => kk _ _ a' hF' (hS.add ?_)
  show Ro t κ w _ _ _
  refine ⟨by rw [hlen]; omega, by have := hRo.2.1; omega, ?_⟩
  rcases hRo.2.2 with ⟨rfl, rfl⟩ | ⟨b, off, m, rfl, hk, hm, hcell⟩
  · exact .inl ⟨by simp, by omega⟩
  · by_cases hcl : c = lo.toNat
    · rw [if_pos hcl]
      have hz : hi.toNat - lo.toNat = 0 := by omega
      have hnil : (l.take hi.toNat).drop lo.toNat = [] := List.eq_nil_of_length_eq_zero (by rw [hlen]; exact hz)
      rw [hnil]
      exact .inr ⟨b, off, m, rfl, hk, by simp; omega, fun i x hi => by simp at hi⟩
    · rw [if_neg hcl]
      refine .inr ⟨b, off + lo.toNat * t.size, m, by simp [add_off], hk, ?_, fun i x hi' => ?_⟩
      · rw [hlen, Nat.add_assoc, ← Nat.add_mul]
        have : (lo.toNat + (hi.toNat - lo.toNat)) * t.size ≤ l.length * t.size := Nat.mul_le_mul_right _ (by omega)
        omega
      · rw [List.getElem?_drop, List.getElem?_take] at hi'
        split at hi'
        · obtain ⟨cs, hr, hcs⟩ := hcell _ x hi'
          refine ⟨cs, hr, fun j v hj => ?_⟩
          have := hcs j v hj
          rw [Nat.add_mul] at this
          rwa [show off + lo.toNat * t.size + i * t.size + j = off + (lo.toNat * t.size + i * t.size) + j from by omega]
        · cases hi'

/-- append(s, x...) -/
theorem wo_append (hF : Fr N D L a) (hS : SS M κ0 w0 κ w C R) (hc : okOp N L o = true) {α : Type} {ty : Ty α} (ci ri ri2 : Nat) {t E c c2 n n2 : Nat} {i : TypeInfo} {z : Value} {p p2 : Option Addr} {l l2 l' : List α} {x y : Operand}
    (hop : o.op = .call { callee := .builtin .append, args := #[x, y], argTypes := #[t, t] }) (hx : ev L x = some (.slice p n c)) (hy : ev L y = some (.slice p2 n2 c2)) (hn : n = l.length) (hn2 : n2 = l2.length) (hC : C[ci]? = some (.tok p E ty.size n c))
    (hR : R[ri]? = some (Ro.mp ty p c l)) (hR2 : R[ri2]? = some (Ro.mp ty p2 c2 l2)) (ha : apd l l2 = some l')
    (ht : pureRun P (underlying t) = some (.slice E)) (hi : P.info? E = some i) (hz : i.zero = some z) (hsize : (i.size == ty.size && z.cells.size == ty.size && decide (i.bytes ≤ 4096) && decide (0 < ty.size)) = true)
    (kk : ∀ p' c' κ' a' w', Fr N D (upd L o.dst (.slice p' l'.length c')) a' → SS M κ0 w0 κ' w' (C.set ci (.tok p' E ty.size l'.length c')) (Ro.mp ty p' c' l' :: R) → K a' w') : wo ro P o a w K Q := by
  obtain ⟨hlen, rfl⟩ := apd_some ha
  subst hn hn2
  simp only [Bool.and_eq_true, beq_iff_eq, decide_eq_true_eq] at hsize
  obtain ⟨⟨⟨hs1, hs2⟩, hs3⟩, hs4⟩ := hsize
  have hl : Ro ty κ w p c l := hS.get ri hR
  have hl2 : Ro ty κ w p2 c2 l2 := hS.get ri2 hR2
  have htok := hS.ck ci hC
  have hblk : ∀ b ∈ (Ck.tok p E ty.size l.length c).blks, b ∈ blksOf C := fun b hb => List.mem_flatMap.2 ⟨_, List.mem_of_getElem? hC, hb⟩
  obtain ⟨p', c', κ', w', hrun, hext, hfr, hro, htok', hb'⟩ := run_append (P := P) (y := o.type) ty (underlying_of ht) hi hz hs1 hs2 rfl hs3 hs4 hS.fresh htok (fun b hb => hS.lt b (hblk b hb)) hl hl2 hlen
  have hval : (execOp (evD L) o).run P w = .ok (.value (.slice p' (l ++ l2).length c')) w' := by
    have hex : evD L x = .slice p l.length c := by simp [evD, hx]
    have hey : evD L y = .slice p2 l2.length c2 := by simp [evD, hy]
    simp only [execOp, hop]
    simp [resolve, invoke, Go.builtin, hex, hey, hrun]
  obtain ⟨hCe, hCs⟩ := set_split (c' := .tok p' E ty.size (l ++ l2).length c') hC
  refine wo_val hF hc hval fun a' hF' => kk p' c' κ' a' w' hF' ?_
  rw [hCs]
  exact (hS.turn _ _ hCe hext hfr htok' (fun b hb => (hb' b hb).1) (fun b hb => (hb' b hb).2) (by cases p' <;> simp [Ck.blks])).add hro

/-- what a new block's content is published as -/
theorem SS.publish (hS : SS M κ0 w0 κ w C R) {α : Type} (t : Ty α) (E : Nat) (cells : List Value) (l : List α) (hn : cells.length = l.length * t.size) (hm : l.length ≤ maxLen)
    (hrep : ∀ i x, l[i]? = some x → ∃ cs, t.rep κ w cs x ∧ ∀ j v, cs[j]? = some v → cells[i * t.size + j]? = some v) :
    ∃ κ', SS M κ0 w0 κ' (w.alloc (.cells cells.toArray E)) (.tok (some ⟨w.heap.size, 0, none⟩) E t.size l.length l.length :: C) (Ro.mp t (some ⟨w.heap.size, 0, none⟩) l.length l :: R) := by
  let w' := w.alloc (.cells cells.toArray E)
  let κ' : Gh := fun b => if b = w.heap.size then some (l.length * t.size) else κ b
  have hκ : ∀ b, b ≠ w.heap.size → κ' b = κ b := fun b hb => by simp [κ', hb]
  have hext : Ext [] κ w κ' w' := by
    refine ⟨rfl, rfl, rfl, by rw [size_alloc]; omega, RowKit.frozen?_alloc_cells w _ _, fun b hb _ => ⟨heap_alloc_old w _ b hb, hκ b (by omega)⟩, fun b n hn => ?_⟩
    have hbl : b < w.heap.size := by
      rcases Nat.lt_or_ge b w.heap.size with h | h
      · exact h
      · rw [hS.fresh b h] at hn; cases hn
    exact ⟨n, (hκ b (by omega)).trans hn, Nat.le_refl _, fun i _ => cell_of_heap (heap_alloc_old w _ b hbl)⟩
  have hfr : Fresh κ' w' := fun b hb => by
    rw [size_alloc] at hb
    rw [hκ b (by omega)]; exact hS.fresh b (by omega)
  have hkn : κ' w.heap.size = some (l.length * t.size) := by simp [κ']
  have h' := hS.step hext hfr
  have htok : (Ck.tok (some ⟨w.heap.size, 0, none⟩) E t.size l.length l.length).ok κ' w' :=
    .inr ⟨w.heap.size, 0, cells.toArray, rfl, by rw [hkn, Nat.zero_add], Nat.le_refl _, hm, heap_alloc_new _ _, by simp [hn]⟩
  have h'' : SS M κ0 w0 κ' w' (.tok (some ⟨w.heap.size, 0, none⟩) E t.size l.length l.length :: C) R := by
    refine ⟨h'.ext, h'.fresh, fun c hc => ?_, fun b hb => ?_, ?_, fun b hb => ?_, h'.ro⟩
    · rcases List.mem_cons.1 hc with rfl | hc
      · exact htok
      · exact h'.ok c hc
    · rcases List.mem_cons.1 (show b ∈ w.heap.size :: blksOf C from hb) with rfl | hb
      · rw [size_alloc]; omega
      · exact h'.lt b hb
    · show (w.heap.size :: blksOf C).Nodup
      exact List.nodup_cons.2 ⟨fun hm => by have := hS.lt _ hm; omega, hS.nd⟩
    · rcases List.mem_cons.1 (show b ∈ w.heap.size :: blksOf C from hb) with rfl | hb
      · exact .inl hS.ext.size
      · exact hS.own b hb
  refine ⟨κ', h''.add ⟨Nat.le_refl _, hm, .inr ⟨w.heap.size, 0, l.length * t.size, rfl, hkn, by omega, fun i x hi => ?_⟩⟩⟩
  obtain ⟨cs, hr, hv⟩ := hrep i x hi
  refine ⟨cs, t.mono hext hr, fun j v hj => ?_⟩
  unfold World.cell?
  simp only [w', heap_alloc_new, Nat.zero_add, Option.isSome_none, Bool.false_eq_true, if_false]
  simpa using hv j v hj
/-- []T{x, ..}: of one element of any type -/
theorem wo_build1 (hF : Fr N D L a) (hS : SS M κ0 w0 κ w C R) (hc : okOp N L o = true) {α : Type} {t : Ty α} {T E : Nat} {v z : Value} {y : α} {x : Operand} {cells : Array Value} (hop : o.op = .buildSlice T 1 #[(0, x)]) (hx : ev L x = some v) (hrep : t.rep κ w cells.toList y)
    (hu : pureRun P (underlying T) = some (.slice E)) (hsz : pureRun P (sizeOf E) = some t.size) (hz : pureRun P (zeroValue E) = some z) (hpos : (decide (0 < t.size) && decide (t.size ≤ 16777216)) = true)
    (hfill : Instr.fill (fun i => some (i * t.size, t.size)) ((Array.range t.size).map (z.cells[· % z.cells.size]!)) [(0, v)] = some cells)
    (kk : ∀ p κ' a' w', Fr N D (upd L o.dst (.slice p 1 1)) a' → SS M κ0 w0 κ' w' (.tok p E t.size 1 1 :: C) (Ro.mp t p 1 [y] :: R) → K a' w') : wo ro P o a w K Q := by
  simp only [Bool.and_eq_true, decide_eq_true_eq] at hpos
  obtain ⟨κ', h1⟩ := hS.publish t E cells.toList [y] (by rw [t.len hrep]; simp) (by simp [maxLen]) fun i x hi => by
    cases i with
    | zero => simp at hi; subst hi; exact ⟨_, hrep, fun j v hj => by simpa using hj⟩
    | succ i => simp at hi
  refine wo_val hF hc (v := .slice (some ⟨w.heap.size, 0, none⟩) 1 1) (w' := w.alloc (.cells cells.toList.toArray E)) ?_ fun a' hF' => kk _ κ' a' _ hF' h1
  have hev : evD L x = v := by simp [evD, hx]
  have hn : ¬ (16777216 < t.size) := by omega
  have hne : t.size ≠ 0 := by omega
  have hfill' : Instr.fill (fun i => some (i * t.size, t.size)) ((Array.range (1 * t.size)).map (z.cells[· % z.cells.size]!)) [(0, v)] = some cells := by rw [Nat.one_mul]; exact hfill
  simp only [execOp, hop]
  simp only [Instr.buildSlice, hev, List.map_toArray, List.map_cons, List.map_nil, Nat.one_mul]
  simp [run_underlying' hu, pureRun_run _ hsz w, pureRun_run _ hz w, hn, hne, hfill, newRow, newObj]
  rfl
/-- of some elements of a type without references -/
theorem wo_buildN (hF : Fr N D L a) (hS : SS M κ0 w0 κ w C R) (hc : okOp N L o = true) {α : Type} {t : FT α} {T E n : Nat} {z : Value} {l : List α} {parts : Array (Nat × Operand)} {vs : List (Nat × Value)} {cells : Array Value} (hop : o.op = .buildSlice T n parts) (hx : parts.toList.map (fun p => (p.1, evD L p.2)) = vs) (hrep : cells.toList = l.flatMap t.enc) (hn : l.length = n)
    (hu : pureRun P (underlying T) = some (.slice E)) (hsz : pureRun P (sizeOf E) = some t.size) (hz : pureRun P (zeroValue E) = some z) (hpos : (decide (0 < n * t.size) && decide (n * t.size ≤ 16777216)) = true)
    (hfill : Instr.fill (fun i => some (i * t.size, t.size)) ((Array.range (n * t.size)).map (z.cells[· % z.cells.size]!)) vs = some cells)
    (kk : ∀ p κ' a' w', Fr N D (upd L o.dst (.slice p n n)) a' → SS M κ0 w0 κ' w' (.tok p E t.size n n :: C) (Ro.mp t.ty p n l :: R) → K a' w') : wo ro P o a w K Q := by
  simp only [Bool.and_eq_true, decide_eq_true_eq] at hpos
  have hlen : ∀ l : List α, (l.flatMap t.enc).length = l.length * t.size := fun l => by
    induction l with
    | nil => simp
    | cons y l ih => rw [List.flatMap_cons, List.length_append, t.len, ih, List.length_cons, Nat.add_mul, Nat.one_mul]; omega
  have hat : ∀ (l : List α) i x, l[i]? = some x → ∀ j v, (t.enc x)[j]? = some v → (l.flatMap t.enc)[i * t.size + j]? = some v := fun l => by
    induction l with
    | nil => intro i x hi; simp at hi
    | cons y l ih =>
      intro i x hi j v hj
      cases i with
      | zero =>
        simp only [List.getElem?_cons_zero, Option.some.injEq] at hi; subst hi
        rw [List.flatMap_cons, Nat.zero_mul, Nat.zero_add, List.getElem?_append_left (List.getElem?_eq_some_iff.1 hj).1]; exact hj
      | succ i =>
        simp only [List.getElem?_cons_succ] at hi
        rw [List.flatMap_cons, List.getElem?_append_right (by rw [t.len, Nat.add_mul, Nat.one_mul]; omega), t.len, Nat.add_mul, Nat.one_mul]
        rw [show i * t.size + t.size + j - t.size = i * t.size + j from by omega]
        exact ih i x hi j v hj
  have hsmall : n ≤ 16777216 := by
    rcases Nat.eq_zero_or_pos t.size with h | h
    · rw [h] at hpos; omega
    · have := Nat.le_mul_of_pos_right n h; omega
  obtain ⟨κ', h1⟩ := hS.publish t.ty E cells.toList l (by rw [hrep, hlen]; rfl) (by rw [hn]; simp only [maxLen]; omega) fun i x hi => ⟨t.enc x, rfl, fun j v hj => by rw [hrep]; exact hat l i x hi j v hj⟩
  rw [hn] at h1
  refine wo_val hF hc (v := .slice (some ⟨w.heap.size, 0, none⟩) n n) (w' := w.alloc (.cells cells.toList.toArray E)) ?_ fun a' hF' => kk _ κ' a' _ hF' h1
  have hn1 : ¬ (16777216 < n * t.size) := by omega
  have hne : ¬ (n * t.size = 0) := by omega
  simp only [execOp, hop]
  simp only [Instr.buildSlice]
  simp [run_underlying' hu, pureRun_run _ hsz w, pureRun_run _ hz w, hn1, newRow, newObj]
  rw [if_neg hne, hx, hfill]
  rfl

/-- []T{} -/
theorem wo_build0 (hF : Fr N D L a) (hS : SS M κ0 w0 κ w C R) (hc : okOp N L o = true) {α : Type} (t : Ty α) {T E : Nat} (hop : o.op = .buildSlice T 0 #[]) (hu : pureRun P (underlying T) = some (.slice E)) (hsz : pureRun P (sizeOf E) = some t.size)
    (kk : ∀ p κ' a' w', Fr N D (upd L o.dst (.slice p 0 0)) a' → SS M κ0 w0 κ' w' (.tok p E t.size 0 0 :: C) (Ro.mp t p 0 [] :: R) → K a' w') : wo ro P o a w K Q := by
  obtain ⟨κ', h1⟩ := hS.publish t E [] ([] : List α) (by simp) (by simp [maxLen]) fun i x hi => by simp at hi
  refine wo_val hF hc (v := .slice (some ⟨w.heap.size, 0, none⟩) 0 0) (w' := w.alloc (.cells #[] E)) ?_ fun a' hF' => kk _ κ' a' _ hF' h1
  simp only [execOp, hop]
  simp [Instr.buildSlice, run_underlying' hu, pureRun_run _ hsz w, Instr.fill, newRow, newObj]
  rw [show ∀ f : Nat → Value, Array.map f (Array.range 0) = #[] from fun f => by simp]
  rfl

/-! ### calls -/
def Post (M : List Nat) (κ : Gh) (w : World) (φ : Value → Gh → World → Prop) : Ending → World → Prop := fun e w' => ∃ v κ', e = .returned v ∧ Ext M κ w κ' w' ∧ Fresh κ' w' ∧ φ v κ' w'
/-- what was had lay in the old world -/
def Old (C : List Ck) (w0 w : World) : Prop := (∀ b ∈ blksOf C, b < w.heap.size) ∧ w0.heap.size ≤ w.heap.size
theorem wo_callP (hF : Fr N D L a) (hS : SS M κ0 w0 κ w C R) (hc : okOp N L o = true) {f : FuncId} {args : Array Value} (hr : pureRun P (execOp (evD L) o) = some (.enter f args)) {φ : Value → Gh → World → Prop} (hcall : Calls P f args w (Post [] κ w φ))
    (kk : ∀ v κ' w' a', φ v κ' w' → Fr N D (upd L o.dst v) a' → SS M κ0 w0 κ' w' C R → Old C w0 w → K a' w') : wo ro P o a w K Q :=
  wo_call hF hc hr hcall fun _ w' ⟨v, κ', he, hext, hfr, hφ⟩ => ⟨v, he, fun a' hF' => kk v κ' w' a' hφ hF' (hS.step hext hfr) ⟨hS.lt, hS.ext.size⟩⟩
/-- new chunks, of new blocks -/
def NewC (w0 : World) (κ : Gh) (w : World) (C : List Ck) : Prop := (∀ c ∈ C, c.ok κ w) ∧ (blksOf C).Nodup ∧ ∀ b ∈ blksOf C, w0.heap.size ≤ b ∧ b < w.heap.size
theorem SS.addC {w1 : World} (h : SS M κ0 w0 κ w C R) (ho : Old C w0 w1) (hn : NewC w1 κ w C') : SS M κ0 w0 κ w (C' ++ C) R := by
  obtain ⟨h1, h2, h3⟩ := hn
  refine ⟨h.ext, h.fresh, fun c hc => (List.mem_append.1 hc).elim (h1 c) (h.ok c), fun b hb => ?_, ?_, fun b hb => ?_, h.ro⟩
  · rw [blksOf_append] at hb
    exact (List.mem_append.1 hb).elim (fun hb => (h3 b hb).2) (h.lt b)
  · rw [blksOf_append]
    refine List.nodup_append.2 ⟨h2, h.nd, fun x hx y hy => ?_⟩
    rintro rfl
    have := (h3 x hx).1
    have := ho.1 x hy
    omega
  · rw [blksOf_append] at hb
    rcases List.mem_append.1 hb with hb | hb
    · have := (h3 b hb).1
      have := ho.2
      exact .inl (by omega)
    · exact h.own b hb

/-! ### control -/
theorem seq_join {x y : Code} (J : Act → World → Prop) (h1 : x.wpIn (FW ro) 0 P (Exit.then J Q) a w) (h2 : ∀ a w, J a w → y.wpIn (FW ro) 0 P Q a w) : (Code.seq x y).wpIn (FW ro) 0 P Q a w := by
  refine wpIn_seq_k fun K hK => wpIn_mono h1 fun e a w h => ?_
  cases e <;> first | exact hK _ _ (h2 _ _ h) | exact h
theorem wl_join {l : List Oper} (J : Act → World → Prop) (h1 : wl ro P ops (Exit.then J Q) l a w) (h2 : ∀ a w, J a w → Q .normal a w) : wl ro P ops Q l a w := by
  have key : ∀ (l : List Oper) (a : Act) (w : World), wl ro P ops (Exit.then J Q) l a w → wl ro P ops Q l a w := by
    intro l
    induction l with
    | nil => intro a w h; exact h2 _ _ h
    | cons o l ih =>
      intro a w h
      change wpListIn _ _ _ _ _ _ _ _ at h
      change wpListIn _ _ _ _ _ _ _ _
      unfold wpListIn at h ⊢
      split
      · rename_i hw
        rw [if_pos hw] at h
        obtain ⟨h0, h⟩ := h
        refine ⟨h0, ?_⟩
        generalize (o.semAt (FW ro).round a.eval).run P w = r at *
        cases r with
        | ok n w' =>
          cases n with
          | value v => exact ih _ _ h
          | skip => exact ih _ _ h
          | defer d => exact ih _ _ h
          | enter f args =>
            refine ⟨h.1, CallsIn.mono h.2 fun e w'' he => ?_⟩
            cases e with
            | returned v => exact ih _ _ he
            | panicked c => exact he
            | outgrown => obtain ⟨a, w, hq⟩ := he; exact ⟨a, w, hq⟩
          | row row args => exact ⟨h.1, RowsIn.mono h.2 fun v w'' he => ih _ _ he⟩
          | round l f tmps assign body =>
            refine ⟨h.1, RoundIn.mono h.2 fun e w'' he => ?_⟩
            cases e with
            | returned v => exact ih _ _ he
            | panicked c => exact he
            | outgrown => obtain ⟨a, w, hq⟩ := he; exact ⟨a, w, hq⟩
          | _ => exact h
        | halt x w' => cases x <;> exact h
      · rename_i hw
        rw [if_neg hw] at h
        exact ⟨h.1, ih _ _ h.2⟩
  exact key l a w h1
theorem cond_t {c : Operand} {x y : Code} (hF : Fr N D L a) {b : Bool} (hc : ev L c = some (.bool b)) (hb : b = true) (h : x.wpIn (FW ro) 0 P Q a w) : (Code.cond c x y).wpIn (FW ro) 0 P Q a w :=
  wpIn_cond_true (by rw [hF.ev hc, hb]) h
theorem cond_f {c : Operand} {x y : Code} (hF : Fr N D L a) {b : Bool} (hc : ev L c = some (.bool b)) (hb : b = false) (h : y.wpIn (FW ro) 0 P Q a w) : (Code.cond c x y).wpIn (FW ro) 0 P Q a w :=
  wpIn_cond_false (by rw [hF.ev hc, hb]) h
theorem Fr.eqv (hF : Fr N D L a) (t : Nat) {v v' : Value} (hl : L.lookup t = some v) (h : v = v') : Fr N D (upd L (some t) v') a := by
  subst h
  refine ⟨hF.defers, hF.size, fun k u hk => ?_⟩
  simp only [upd, List.lookup_cons] at hk
  by_cases e : k = t
  · subst e; simp at hk; subst hk; exact hF.val _ _ hl
  · have hb : (k == t) = false := by simp [e]
    rw [hb] at hk
    simp only at hk
    rw [lookup_filter_ne L t k e] at hk
    exact hF.val k u hk
theorem Fr.boolv (hF : Fr N D L a) (t : Nat) {b b' : Bool} (hl : L.lookup t = some (.bool b)) (h : b = b') : Fr N D (upd L (some t) (.bool b')) a := hF.eqv t hl (by rw [h])

theorem bif_split {ρ : Type} {b : Bool} {A B : Option ρ} {r : ρ} {G : Prop} (H : (bif b then A else B) = some r) (h1 : b = true → A = some r → G) (h2 : b = false → B = some r → G) : G := by
  cases b
  · exact h2 rfl H
  · exact h1 rfl H
theorem bind_split {ρ σ : Type} {m : Option σ} {f : σ → Option ρ} {r : ρ} {G : Prop} (H : m.bind f = some r) (h : ∀ x, m = some x → f x = some r → G) : G := by
  cases m with
  | none => simp at H
  | some x => exact h x rfl H

/-- a loop whose rounds are paid out of a purse -/
theorem loop_fuel {c : Code} (I : Nat → Act → World → Prop) {n : Nat} (h0 : I n a w) (round : ∀ n a w, I n a w → c.wpIn (FW ro) 0 P (Exit.then (fun a' w' => ∃ m, m < n ∧ I m a' w') Q) a w) : (Code.loop c).wpIn (FW ro) 0 P Q a w := by
  classical
  let S : Act → World → Nat → Prop := fun a w n => I n a w
  have least : ∀ a w, (∃ n, I n a w) → ∃ n, I n a w ∧ ∀ m, I m a w → n ≤ m := fun a w ⟨n, hn⟩ => by
    induction n using Nat.strongRecOn with
    | _ n ih =>
      by_cases h : ∃ m, m < n ∧ I m a w
      · obtain ⟨m, hm, hI⟩ := h; exact ih m hm hI
      · exact ⟨n, hn, fun m hm => by
          rcases Nat.lt_or_ge m n with hlt | hge
          · exact absurd ⟨m, hlt, hm⟩ h
          · exact hge⟩
  let μ : Act → World → Nat := fun a w => if h : ∃ n, I n a w then (least a w h).choose else 0
  have hμ : ∀ a w (h : ∃ n, I n a w), I (μ a w) a w ∧ ∀ m, I m a w → μ a w ≤ m := fun a w h => by
    have := (least a w h).choose_spec
    simp only [μ, dif_pos h]
    exact this
  refine wpIn_loop (fun a w => ∃ n, I n a w) μ ⟨n, h0⟩ fun a w h => ?_
  obtain ⟨h1, _⟩ := hμ a w h
  refine wpIn_mono (round _ a w h1) fun e a' w' he => ?_
  cases e with
  | normal =>
    obtain ⟨m, hm, hI⟩ := he
    exact ⟨⟨m, hI⟩, Nat.lt_of_le_of_lt ((hμ a' w' ⟨m, hI⟩).2 m hI) hm⟩
  | _ => exact he

/-! ### the end -/
theorem ret_done {fn : Func} {φ : Value → Gh → World → Prop} {v : Value} (hF : Fr N [] L a) (hS : SS M κ0 w0 κ w C R) (hr : (results fn a.tmps).run P w = .ok v w) (hφ : φ v κ w) : bodyPost P fn (Post M κ0 w0 φ) .ret a w :=
  ⟨hF.defers, v, hr, v, κ, rfl, hS.ext, hS.fresh, hφ⟩
theorem Fr.getD (hF : Fr N D L a) {t : Nat} {v : Value} (h : L.lookup t = some v) : a.tmps.getD t undef = v := by
  rw [Array.getD_eq_getD_getElem?, hF.val t v h]; rfl
/-- how a result is read -/
def RV (P : Program) (a : Act) (w : World) : ResultVar → Value → Prop
  | .tmp t, v => a.tmps.getD t undef = v
  | .cell t T, v => ∃ b off, a.tmps.getD t undef = .pointer (some ⟨b, off, none⟩) ∧ (loadVar T ⟨b, off, none⟩).run P w = .ok v w
theorem rv_tmp (hF : Fr N D L a) {t : Nat} {v : Value} (h : L.lookup t = some v) : RV P a w (.tmp t) v := hF.getD h
theorem rv_cell (hF : Fr N D L a) (hS : SS M κ0 w0 κ w C R) (i k j : Nat) {t T b TB off n : Nat} {s : Segs} {l : List Value} {v : Value} (h : L.lookup t = some (.pointer (some ⟨b, off, none⟩))) (hC : C[i]? = some (.box b TB s)) (hk : s[k]? = some (n, l)) (hj : l[j]? = some v) (hoff : tot (s.take k) + j = off)
    (hg : pureRun P (isAgg T) = some false) : RV P a w (.cell t T) v := by
  have hb := hS.ck i hC
  have hjn : j < n := by
    have h1 := hb.2.1 (n, l) (List.mem_of_getElem? hk)
    have h2 := (List.getElem?_eq_some_iff.1 hj).1
    simp only at h1; omega
  have hr := run_load_scalar (P := P) (T := T) (b := b) (off := off) (v := v) hg (by rw [cell_box hb, ← hoff, segs_at hb.2.1 hk j hjn, hj])
  exact ⟨b, off, hF.getD h, hr⟩
theorem rv_cells (hF : Fr N D L a) (hS : SS M κ0 w0 κ w C R) (i k m : Nat) {t T b TB off n : Nat} {s s' : Segs} (h : L.lookup t = some (.pointer (some ⟨b, off, none⟩))) (hC : C[i]? = some (.box b TB s)) (hs' : (s.drop k).take m = s') (hoff : tot (s.take k) = off)
    (hg : pureRun P (isAgg T) = some true) (hsz : pureRun P (sizeOf T) = some n) (hn : tot s' = n) : RV P a w (.cell t T) (.agg (flat s').toArray) := by
  have hb := hS.ck i hC
  subst hs'
  have hr := run_load_agg (P := P) (T := T) (b := b) (off := off) (cs := flat ((s.drop k).take m)) hg hsz (by rw [← hn]; exact flat_length fun y hy => hb.2.1 y (List.mem_of_mem_drop (List.mem_of_mem_take hy)))
    (fun j v hj => by rw [cell_box hb, ← hoff]; exact flat_sub hb.2.1 k m j v hj)
  exact ⟨b, off, hF.getD h, hr⟩
theorem res0 {fn : Func} (h : fn.results = #[]) : (results fn a.tmps).run P w = .ok (.tuple #[]) w := results_none h _ _ _
theorem res1 {fn : Func} {r : ResultVar} {v : Value} (h : fn.results = #[r]) (h1 : RV P a w r v) : (results fn a.tmps).run P w = .ok v w := by
  cases r <;> simp only [RV, Array.getD_eq_getD_getElem?] at h1 <;> (try obtain ⟨_, _, h1, h1'⟩ := h1) <;> simp_all [results, asAddr]
theorem res2 {fn : Func} {r1 r2 : ResultVar} {v1 v2 : Value} (h : fn.results = #[r1, r2]) (h1 : RV P a w r1 v1) (h2 : RV P a w r2 v2) : (results fn a.tmps).run P w = .ok (.tuple #[v1, v2]) w := by
  cases r1 <;> cases r2 <;> simp only [RV, Array.getD_eq_getD_getElem?] at h1 h2 <;> (try obtain ⟨_, _, h1, h1'⟩ := h1) <;> (try obtain ⟨_, _, h2, h2'⟩ := h2) <;> simp_all [results, asAddr]
theorem res3 {fn : Func} {r1 r2 r3 : ResultVar} {v1 v2 v3 : Value} (h : fn.results = #[r1, r2, r3]) (h1 : RV P a w r1 v1) (h2 : RV P a w r2 v2) (h3 : RV P a w r3 v3) : (results fn a.tmps).run P w = .ok (.tuple #[v1, v2, v3]) w := by
  cases r1 <;> cases r2 <;> cases r3 <;> simp only [RV, Array.getD_eq_getD_getElem?] at h1 h2 h3 <;> (try obtain ⟨_, _, h1, h1'⟩ := h1) <;> (try obtain ⟨_, _, h2, h2'⟩ := h2) <;> (try obtain ⟨_, _, h3, h3'⟩ := h3) <;> simp_all [results, asAddr]
end
end Go.Cf
