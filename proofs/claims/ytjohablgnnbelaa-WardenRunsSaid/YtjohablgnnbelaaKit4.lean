/- Part 4: slices. -/
import Derived.Test.YtjohablgnnbelaaKit3
import Derived.Laws.AppendOwn
namespace Go.Cf
open Go

/-- the element i, if there is one -/
def idx {α : Type} (l : List α) (i : Int) : Option α := if 0 ≤ i then l[i.toNat]? else none
theorem idx_some {α : Type} {l : List α} {i : Int} {x : α} (h : idx l i = some x) : 0 ≤ i ∧ i.toNat < l.length ∧ l[i.toNat]? = some x := by
  unfold idx at h
  split at h
  · exact ⟨by assumption, (List.getElem?_eq_some_iff.1 h).1, h⟩
  · cases h
/-- l[lo:hi], within the length -/
def slc {α : Type} (l : List α) (lo hi : Int) : Option (List α) := if 0 ≤ lo ∧ lo ≤ hi ∧ hi ≤ l.length then some ((l.take hi.toNat).drop lo.toNat) else none
theorem slc_some {α : Type} {l l' : List α} {lo hi : Int} (h : slc l lo hi = some l') : 0 ≤ lo ∧ lo ≤ hi ∧ hi ≤ l.length ∧ l' = (l.take hi.toNat).drop lo.toNat := by
  unfold slc at h
  split at h
  · rename_i h'; simp only [Option.some.injEq] at h; exact ⟨h'.1, h'.2.1, h'.2.2, h.symm⟩
  · cases h
/-- l ++ l', where it is not too long to be followed -/
def apd {α : Type} (l l' : List α) : Option (List α) := if l.length + l'.length < 2147483648 then some (l ++ l') else none
theorem apd_some {α : Type} {l l' m : List α} (h : apd l l' = some m) : l.length + l'.length < 2147483648 ∧ m = l ++ l' := by
  unfold apd at h
  split at h
  · rename_i h'; simp only [Option.some.injEq] at h; exact ⟨h', h.symm⟩
  · cases h

section
variable {κ κ' κ0 : Gh} {w w' w0 : World} {M : List Nat} {C C' : List Ck} {R R' : List MP}
theorem Ro.at {α : Type} {t : Ty α} {p : Option Addr} {c : Nat} {l : List α} (h : Ro t κ w p c l) {k : Nat} {x : α} (hk : l[k]? = some x) :
    ∃ b off, p = some ⟨b, off, none⟩ ∧ ∃ cs, t.rep κ w cs x ∧ ∀ j v, cs[j]? = some v → w.cell? ⟨b, off + k * t.size + j, none⟩ = some v := by
  rcases h.2.2 with ⟨rfl, _⟩ | ⟨b, off, n, hp, _, _, hc⟩
  · simp at hk
  · exact ⟨b, off, hp, hc k x hk⟩
theorem Ro.at' {α : Type} {t : Ty α} {b off c : Nat} {l : List α} (h : Ro t κ w (some ⟨b, off, none⟩) c l) {k : Nat} {x : α} (hk : l[k]? = some x) :
    ∃ cs, t.rep κ w cs x ∧ ∀ j v, cs[j]? = some v → w.cell? ⟨b, off + k * t.size + j, none⟩ = some v := by
  obtain ⟨b', off', hp, h⟩ := h.at hk
  simp only [Option.some.injEq, Addr.mk.injEq] at hp
  obtain ⟨rfl, rfl, _⟩ := hp
  exact h
/-- the cells that a slice reads, in one row -/
theorem Ro.row {α : Type} {t : Ty α} {p : Option Addr} {c : Nat} {l : List α} (h : Ro t κ w p c l) :
    ∃ news : List Value, news.length = l.length * t.size ∧ (∀ b off, p = some ⟨b, off, none⟩ → ∀ j v, news[j]? = some v → w.cell? ⟨b, off + j, none⟩ = some v) ∧ (∀ v ∈ news, v.oneCell' = true) ∧
      ∀ i x, l[i]? = some x → ∃ cs, t.rep κ w cs x ∧ ∀ j v, cs[j]? = some v → news[i * t.size + j]? = some v := by
  rcases h.2.2 with ⟨rfl, _⟩ | ⟨b, off, n, hp, _, _, hc⟩
  · exact ⟨[], by simp, by simp, by simp, by simp⟩
  · -- element by element
    have key : ∀ (l : List α) (k : Nat), (∀ i x, l[i]? = some x → ∃ cs, t.rep κ w cs x ∧ ∀ j v, cs[j]? = some v → w.cell? ⟨b, off + (k + i) * t.size + j, none⟩ = some v) →
        ∃ news : List Value, news.length = l.length * t.size ∧ (∀ j v, news[j]? = some v → w.cell? ⟨b, off + k * t.size + j, none⟩ = some v) ∧ (∀ v ∈ news, v.oneCell' = true) ∧
          ∀ i x, l[i]? = some x → ∃ cs, t.rep κ w cs x ∧ ∀ j v, cs[j]? = some v → news[i * t.size + j]? = some v := by
      intro l
      induction l with
      | nil => intro k _; exact ⟨[], by simp, by simp, by simp, by simp⟩
      | cons y l ih =>
        intro k hk
        obtain ⟨cs, hr, hcs⟩ := hk 0 y rfl
        simp only [Nat.add_zero] at hcs
        obtain ⟨news, h1, h2, h3, h4⟩ := ih (k + 1) fun i x hi => by
          have := hk (i + 1) x (by simpa using hi)
          rwa [show k + (i + 1) = k + 1 + i from by omega] at this
        have hl : cs.length = t.size := t.len hr
        refine ⟨cs ++ news, by rw [List.length_append, hl, h1, List.length_cons, Nat.add_mul, Nat.one_mul]; omega, fun j v hj => ?_, fun v hv => ?_, fun i x hi => ?_⟩
        · by_cases hjc : j < cs.length
          · rw [List.getElem?_append_left hjc] at hj
            exact hcs j v hj
          · rw [List.getElem?_append_right (by omega)] at hj
            have := h2 (j - cs.length) v hj
            rw [Nat.add_mul, Nat.one_mul] at this
            rwa [show off + (k * t.size + t.size) + (j - cs.length) = off + k * t.size + j from by omega] at this
        · rcases List.mem_append.1 hv with hv | hv
          · exact t.one hr v hv
          · exact h3 v hv
        · cases i with
          | zero =>
            simp only [List.getElem?_cons_zero, Option.some.injEq] at hi
            subst hi
            exact ⟨cs, hr, fun j v hj => by
              rw [Nat.zero_mul, Nat.zero_add, List.getElem?_append_left (List.getElem?_eq_some_iff.1 hj).1]; exact hj⟩
          | succ i =>
            simp only [List.getElem?_cons_succ] at hi
            obtain ⟨cs', hr', hv'⟩ := h4 i x hi
            refine ⟨cs', hr', fun j v hj => ?_⟩
            rw [List.getElem?_append_right (by rw [hl, Nat.add_mul, Nat.one_mul]; omega), hl, Nat.add_mul, Nat.one_mul]
            rw [show i * t.size + t.size + j - t.size = i * t.size + j from by omega]
            exact hv' j v hj
    obtain ⟨news, h1, h2, h3, h4⟩ := key l 0 fun i x hi => by simpa using hc i x hi
    refine ⟨news, h1, fun b' off' hp' j v hj => ?_, h3, h4⟩
    rw [hp] at hp'
    simp only [Option.some.injEq, Addr.mk.injEq] at hp'
    obtain ⟨rfl, rfl, _⟩ := hp'
    have := h2 j v hj
    rwa [Nat.zero_mul, Nat.add_zero] at this

/-- one chunk turns into another one -/
theorem SS.turn (h : SS M κ0 w0 κ w C R) (A B : List Ck) {c c' : Ck} (hC : C = A ++ c :: B) (he : Ext c.blks κ w κ' w') (hf : Fresh κ' w') (hok : c'.ok κ' w')
    (hb : ∀ b ∈ c'.blks, b ∈ c.blks ∨ w.heap.size ≤ b) (hlt : ∀ b ∈ c'.blks, b < w'.heap.size) (hn : c'.blks.Nodup) : SS M κ0 w0 κ' w' (A ++ c' :: B) R := by
  subst hC
  have hown : ∀ b ∈ c.blks, b ∈ blksOf (A ++ c :: B) := fun b hb => List.mem_flatMap.2 ⟨c, by simp, hb⟩
  have hnd : (blksOf A ++ (c.blks ++ blksOf B)).Nodup := by simpa [blksOf] using h.nd
  have hnd2 := List.nodup_append.1 hnd
  have hnd3 := List.nodup_append.1 hnd2.2.1
  have hA : ∀ b ∈ blksOf A, b ∉ c.blks := fun b hb hb' => hnd2.2.2 b hb b (List.mem_append.2 (.inl hb')) rfl
  have hB : ∀ b ∈ blksOf B, b ∉ c.blks := fun b hb hb' => hnd3.2.2 b hb' b hb rfl
  have hltA : ∀ b ∈ blksOf A, b < w.heap.size := fun b hb => h.lt b (by simp [blksOf_append, hb])
  have hltB : ∀ b ∈ blksOf B, b < w.heap.size := fun b hb => h.lt b (by
    show b ∈ (A ++ c :: B).flatMap Ck.blks
    simp only [List.flatMap_append, List.flatMap_cons, List.mem_append]; exact .inr (.inr hb))
  have heq : blksOf (A ++ c' :: B) = blksOf A ++ (c'.blks ++ blksOf B) := by simp [blksOf]
  refine ⟨h.ext.trans' he fun b hb => h.own b (hown b hb), hf, fun d hd => ?_, fun b hb' => ?_, ?_, fun b hb' => ?_, fun m hm => m.mono he (h.ro m hm)⟩
  · rcases List.mem_append.1 hd with hd | hd
    · exact Ck.ok_keep (h.ok d (by simp [hd])) (fun b hb => hltA b (List.mem_flatMap.2 ⟨d, hd, hb⟩)) he fun b hb => hA b (List.mem_flatMap.2 ⟨d, hd, hb⟩)
    · rcases List.mem_cons.1 hd with rfl | hd
      · exact hok
      · exact Ck.ok_keep (h.ok d (by simp [hd])) (fun b hb => hltB b (List.mem_flatMap.2 ⟨d, hd, hb⟩)) he fun b hb => hB b (List.mem_flatMap.2 ⟨d, hd, hb⟩)
  · rw [heq] at hb'
    rcases List.mem_append.1 hb' with hb' | hb'
    · exact Nat.lt_of_lt_of_le (hltA b hb') he.size
    · rcases List.mem_append.1 hb' with hb' | hb'
      · exact hlt b hb'
      · exact Nat.lt_of_lt_of_le (hltB b hb') he.size
  · rw [heq]
    refine List.nodup_append.2 ⟨hnd2.1, List.nodup_append.2 ⟨hn, hnd3.2.1, fun x hx y hy => ?_⟩, fun x hx y hy => ?_⟩
    · rintro rfl
      rcases hb x hx with hx' | hx'
      · exact hB x hy hx'
      · have := hltB x hy; omega
    · rintro rfl
      rcases List.mem_append.1 hy with hy | hy
      · rcases hb x hy with hx' | hx'
        · exact hA x hx hx'
        · have := hltA x hx; omega
      · exact hnd2.2.2 x hx x (List.mem_append.2 (.inr hy)) rfl
  · rw [heq] at hb'
    rcases List.mem_append.1 hb' with hb' | hb'
    · exact h.own b (by simp [blksOf_append, hb'])
    · rcases List.mem_append.1 hb' with hb' | hb'
      · rcases hb b hb' with hx | hx
        · exact h.own b (hown b hx)
        · exact .inl (Nat.le_trans h.ext.size hx)
      · exact h.own b (by
          show b ∈ (A ++ c :: B).flatMap Ck.blks
          simp only [List.flatMap_append, List.flatMap_cons, List.mem_append]; exact .inr (.inr hb'))
theorem set_split {α : Type} {C : List α} {i : Nat} {c c' : α} (h : C[i]? = some c) : C = C.take i ++ c :: C.drop (i + 1) ∧ C.set i c' = C.take i ++ c' :: C.drop (i + 1) := by
  obtain ⟨hi, he⟩ := List.getElem?_eq_some_iff.1 h
  refine ⟨?_, by rw [List.set_eq_take_append_cons_drop, if_pos hi]⟩
  rw [← he]
  exact (take_get_drop C i hi).symm
/-- nil may be appended to -/
theorem SS.addNil (h : SS M κ0 w0 κ w C R) (E size : Nat) : SS M κ0 w0 κ w (.tok none E size 0 0 :: C) R :=
  ⟨h.ext, h.fresh, fun c hc => by rcases List.mem_cons.1 hc with rfl | hc; exact .inl ⟨rfl, rfl⟩; exact h.ok c hc, h.lt, h.nd, h.own, h.ro⟩

/-- what an append comes to -/
theorem run_append {P : Program} {α : Type} (ty : Ty α) {t y E bytes c c2 : Nat} {i : TypeInfo} {z : Value} (ht : P.underlying t = some (.slice E)) (hi : P.info? E = some i) (hz : i.zero = some z) (hsize : i.size = ty.size) (hzs : z.cells.size = ty.size) (hby : i.bytes = bytes) (hb4 : bytes ≤ 4096) (_hpos : 0 < ty.size)
    {p p2 : Option Addr} {l l2 : List α} (hfr : Fresh κ w) (htok : (Ck.tok p E ty.size l.length c).ok κ w) (hlt : ∀ b ∈ (Ck.tok p E ty.size l.length c).blks, b < w.heap.size) (hl : Ro ty κ w p c l) (hl2 : Ro ty κ w p2 c2 l2) (hlen : l.length + l2.length < 2147483648) :
    ∃ p' c' κ' w', (Builtin.append_ #[t, t] y #[.slice p l.length c, .slice p2 l2.length c2]).run P w = .ok (.slice p' (l ++ l2).length c') w' ∧
      Ext (Ck.tok p E ty.size l.length c).blks κ w κ' w' ∧ Fresh κ' w' ∧ Ro ty κ' w' p' c' (l ++ l2) ∧ (Ck.tok p' E ty.size (l ++ l2).length c').ok κ' w' ∧
      (∀ b ∈ (Ck.tok p' E ty.size (l ++ l2).length c').blks, (b ∈ (Ck.tok p E ty.size l.length c).blks ∨ w.heap.size ≤ b) ∧ b < w'.heap.size) := by
  subst hby
  have hnle : l.length ≤ c := hl.1
  have hgrown : ∀ (news olds : List Value) (old : Nat), news.length = l2.length * ty.size → olds.length = l.length * ty.size → (∀ v ∈ news, v.oneCell' = true) →
      (∀ i x, l[i]? = some x → ∃ cs, ty.rep κ w cs x ∧ ∀ j v, cs[j]? = some v → olds[i * ty.size + j]? = some v) → (∀ i x, l2[i]? = some x → ∃ cs, ty.rep κ w cs x ∧ ∀ j v, cs[j]? = some v → news[i * ty.size + j]? = some v) →
      ∃ κ', let w' := w.drew.alloc (.cells (olds.toArray ++ news.toArray ++ Builtin.zeroCells z.cells (grownCap w (l.length + l2.length) old E - (l.length + l2.length))) E)
        Ext (Ck.tok p E ty.size l.length c).blks κ w κ' w' ∧ Fresh κ' w' ∧ Ro ty κ' w' (some ⟨w.heap.size, 0, none⟩) (grownCap w (l.length + l2.length) old E) (l ++ l2) ∧ (Ck.tok (some ⟨w.heap.size, 0, none⟩) E ty.size (l ++ l2).length (grownCap w (l.length + l2.length) old E)).ok κ' w' ∧
        (∀ b ∈ (Ck.tok (some ⟨w.heap.size, 0, none⟩) E ty.size (l ++ l2).length (grownCap w (l.length + l2.length) old E)).blks, (b ∈ (Ck.tok p E ty.size l.length c).blks ∨ w.heap.size ≤ b) ∧ b < w'.heap.size) := by
    intro news olds old hnl hol hone hro hrn
    have hge := grownCap_ge w (l.length + l2.length) old E
    have hcm := grownCap_le_maxLen w (l.length + l2.length) old E (by simp only [maxLen]; omega)
    generalize hcap : grownCap w (l.length + l2.length) old E = cap at *
    let w' := w.drew.alloc (.cells (olds.toArray ++ news.toArray ++ Builtin.zeroCells z.cells (cap - (l.length + l2.length))) E)
    have hnew : w'.heap[w.heap.size]? = some (.cells (olds.toArray ++ news.toArray ++ Builtin.zeroCells z.cells (cap - (l.length + l2.length))) E (0, 0)) := heap_alloc_new w.drew _
    have hold : ∀ b, b < w.heap.size → w'.heap[b]? = w.heap[b]? := fun b hb => heap_alloc_old w.drew _ b hb
    have hsz' : w'.heap.size = w.heap.size + 1 := size_alloc w.drew _
    let κ' : Gh := fun b => if b = w.heap.size then some ((l.length + l2.length) * ty.size) else κ b
    have hκ : ∀ b, b ≠ w.heap.size → κ' b = κ b := fun b hb => by simp [κ', hb]
    have hkn : κ' w.heap.size = some ((l.length + l2.length) * ty.size) := by simp [κ']
    have hext : Ext (Ck.tok p E ty.size l.length c).blks κ w κ' w' := by
      refine ⟨rfl, rfl, rfl, by omega, fun a => RowKit.frozen?_alloc_cells w.drew _ _ a, fun b hb _ => ⟨hold b hb, hκ b (by omega)⟩, fun b n hn => ?_⟩
      have hbl : b < w.heap.size := by
        rcases Nat.lt_or_ge b w.heap.size with h | h
        · exact h
        · rw [hfr b h] at hn; cases hn
      exact ⟨n, (hκ b (by omega)).trans hn, Nat.le_refl _, fun i _ => cell_of_heap (hold b hbl)⟩
    have hcell : ∀ j v, (olds ++ news)[j]? = some v → w'.cell? ⟨w.heap.size, 0 + j, none⟩ = some v := fun j v hj => by
      have hjl := (List.getElem?_eq_some_iff.1 hj).1
      rw [List.length_append] at hjl
      unfold World.cell?
      simp only [hnew, Nat.zero_add]
      simp only [Option.isSome_none, Bool.false_eq_true, if_false]
      rw [Array.getElem?_append_left (by simp; omega)]
      simpa using hj
    refine ⟨κ', hext, fun b hb => by
      have hb' : w.heap.size + 1 ≤ b := by rw [← hsz']; exact hb
      rw [hκ b (by omega)]; exact hfr b (by omega), ⟨?_, hcm, .inr ⟨w.heap.size, 0, _, rfl, hkn, ?_, fun i x hi => ?_⟩⟩, .inr ⟨w.heap.size, 0, _, rfl, ?_, ?_, hcm, hnew, ?_⟩, fun b hb => ?_⟩
    · rw [List.length_append]; exact hge
    · rw [List.length_append]; omega
    · rw [List.getElem?_append] at hi
      split at hi
      · rename_i hil
        obtain ⟨cs, hr, hv⟩ := hro i x hi
        refine ⟨cs, ty.mono hext hr, fun j v hj => ?_⟩
        rw [Nat.add_assoc]
        refine hcell _ v ?_
        rw [List.getElem?_append_left]
        · exact hv j v hj
        · exact (List.getElem?_eq_some_iff.1 (hv j v hj)).1
      · rename_i hil
        obtain ⟨cs, hr, hv⟩ := hrn (i - l.length) x hi
        refine ⟨cs, ty.mono hext hr, fun j v hj => ?_⟩
        rw [Nat.add_assoc]
        refine hcell _ v ?_
        have e : i * ty.size = (i - l.length) * ty.size + l.length * ty.size := by rw [← Nat.add_mul]; congr 1; omega
        rw [List.getElem?_append_right (by rw [hol, e]; omega), hol, e]
        rw [show (i - l.length) * ty.size + l.length * ty.size + j - l.length * ty.size = (i - l.length) * ty.size + j from by omega]
        exact hv j v hj
    · rw [hkn, List.length_append, Nat.zero_add]
    · rw [List.length_append]; exact hge
    · simp only [Array.size_append, List.size_toArray, size_zeroCells, hzs, hol, hnl, ← Nat.add_mul, Nat.zero_add]
      congr 1
      omega
    · simp only [Ck.blks, List.mem_singleton] at hb
      subst hb
      exact ⟨.inr (Nat.le_refl _), by show _ < w'.heap.size; omega⟩
  have hby : ∀ k, k < 2147483648 → k * i.bytes ≤ 140737488355328 := fun k hk => by
    have := Nat.mul_le_mul (Nat.le_of_lt hk) hb4
    omega
  have hzero : l2.length = 0 → ∃ p' c' κ' w', Result.ok (Value.slice p l.length c) w = .ok (.slice p' (l ++ l2).length c') w' ∧
      Ext (Ck.tok p E ty.size l.length c).blks κ w κ' w' ∧ Fresh κ' w' ∧ Ro ty κ' w' p' c' (l ++ l2) ∧ (Ck.tok p' E ty.size (l ++ l2).length c').ok κ' w' ∧
      (∀ b ∈ (Ck.tok p' E ty.size (l ++ l2).length c').blks, (b ∈ (Ck.tok p E ty.size l.length c).blks ∨ w.heap.size ≤ b) ∧ b < w'.heap.size) := fun h0 => by
    have : l2 = [] := List.eq_nil_of_length_eq_zero h0
    subst this
    refine ⟨p, c, κ, w, by simp, .refl _ _ _, hfr, by simpa using hl, by simpa using htok, fun b hb => ?_⟩
    have hb' : b ∈ (Ck.tok p E ty.size l.length c).blks := by cases p <;> exact hb
    exact ⟨.inl hb', hlt b hb'⟩
  rcases hl2.2.2 with ⟨rfl, rfl⟩ | ⟨b2, off2, n2, rfl, hk2, hn2, hc2⟩
  · obtain ⟨p', c', κ', w', h1, h2⟩ := hzero rfl
    refine ⟨p', c', κ', w', ?_, h2⟩
    rw [← h1]
    have hroom : l.length + 0 ≤ c := by omega
    cases p <;> cases p2 <;> simp [Builtin.append_, run_underlying ht, sizeOf, typeInfo, hi, Builtin.lenOf, hnle, Builtin.firstCells, storeCells, loadCells, loadCellsFrom]
  · obtain ⟨news, hnl, hncell, hnone, hnrep⟩ := hl2.row
    have hncell' := hncell b2 off2 rfl
    rcases htok with ⟨h0, rfl⟩ | ⟨b, off, cells, rfl, hk, hle, hcm, hheap, hcs⟩
    · -- onto nil
      have hlnil : l = [] := List.eq_nil_of_length_eq_zero h0
      subst hlnil
      by_cases hm : l2.length = 0
      · obtain ⟨p', c', κ', w', h1, h2⟩ := hzero hm
        refine ⟨p', c', κ', w', ?_, h2⟩
        rw [← h1]
        have : l2 = [] := List.eq_nil_of_length_eq_zero hm
        subst this
        cases p <;> simp [Builtin.append_, run_underlying ht, sizeOf, typeInfo, hi, Builtin.lenOf, Builtin.firstCells, storeCells, loadCells, loadCellsFrom]
      · cases p with
        | none =>
          have hr := run_append_nil (P := P) w t y E i z ht hi hz ⟨b2, off2, none⟩ l2.length c2 news (by rw [hsize]; exact hnl) (fun j v hj => by rw [add_off]; exact hncell' j v hj) (by omega) (by omega) (by have := hby l2.length (by simp at hlen; omega); omega)
          obtain ⟨κ', h1, h2, h3, h4, h5⟩ := hgrown news [] 0 hnl (by simp) hnone (by simp) hnrep
          simp only [List.length_nil, Nat.zero_add] at h1 h2 h3 h4 h5
          refine ⟨_, _, κ', _, ?_, h1, h2, h3, h4, h5⟩
          simp only [List.length_nil, List.nil_append]
          rw [hr]
          simp
        | some a0 =>
          have hr := run_append_grow (P := P) w t y E i z ht hi hz a0 0 0 [] (by simp) (fun j v hj => by cases hj) ⟨b2, off2, none⟩ l2.length c2 news (by rw [hsize]; exact hnl) (fun j v hj => by rw [add_off]; exact hncell' j v hj) (by omega) (by omega) (growslice_fits (by omega) (hby _ (by simp at hlen; omega)))
          obtain ⟨κ', h1, h2, h3, h4, h5⟩ := hgrown news [] 0 hnl (by simp) hnone (by simp) hnrep
          simp only [List.length_nil, Nat.zero_add] at h1 h2 h3 h4 h5
          refine ⟨_, _, κ', _, ?_, h1, h2, h3, h4, h5⟩
          simp only [List.length_nil, List.nil_append]
          rw [hr]
          simp
    · by_cases hroom : l.length + l2.length ≤ c
      · -- there is room
        have hsl : off + l.length * ty.size + news.length ≤ cells.size := by
          rw [hnl, hcs, Nat.add_assoc, ← Nat.add_mul]
          exact Nat.add_le_add_left (Nat.mul_le_mul_right _ hroom) _
        have hblt : b < w.heap.size := (Array.getElem?_eq_some_iff.1 hheap).1
        have hst := run_storeCells_at P b (off + l.length * ty.size) E news 0 cells w hheap (by simpa using hsl) hnone
        simp only [Nat.add_zero] at hst
        rw [setRow_eq w b E _ _ hheap] at hst
        have hf := run_firstCells_some (P := P) w i.size l2.length ⟨b2, off2, none⟩ l2.length c2 news (by rw [hsize]; exact hnl) (fun j v hj => by rw [add_off]; exact hncell' j v hj)
        let arr : Array Value := (cells.toList.take (off + l.length * ty.size) ++ news ++ cells.toList.drop (off + l.length * ty.size + news.length)).toArray
        let w' : World := { w with heap := w.heap.setIfInBounds b (.cells arr E (0, 0)) }
        let κ' : Gh := fun b' => if b' = b then some (off + (l.length + l2.length) * ty.size) else κ b'
        have hκ : ∀ b', b' ≠ b → κ' b' = κ b' := fun b' hb => by simp [κ', hb]
        have hkb : κ' b = some (off + (l.length + l2.length) * ty.size) := by simp [κ']
        have hother : ∀ b', b' ≠ b → w'.heap[b']? = w.heap[b']? := fun b' hne => by
          show (w.heap.setIfInBounds b _)[b']? = _
          rw [Array.getElem?_setIfInBounds_ne (Ne.symm hne)]
        have hme : w'.heap[b]? = some (.cells arr E (0, 0)) := by
          show (w.heap.setIfInBounds b _)[b]? = _
          simp [hblt]
        have hsame : ∀ k, k < off + l.length * ty.size → w'.cell? ⟨b, k, none⟩ = w.cell? ⟨b, k, none⟩ := fun k hk => by
          unfold World.cell?
          simp only [hme, hheap, Option.isSome_none, Bool.false_eq_true, if_false]
          simp only [arr, List.getElem?_toArray, List.append_assoc]
          rw [List.getElem?_append_left (by simp; omega), List.getElem?_take, if_pos hk]
          simp
        have hnewc : ∀ j v, news[j]? = some v → w'.cell? ⟨b, off + l.length * ty.size + j, none⟩ = some v := fun j v hj => by
          unfold World.cell?
          simp only [hme, Option.isSome_none, Bool.false_eq_true, if_false]
          simp only [arr, List.getElem?_toArray, List.append_assoc]
          have hjl := (List.getElem?_eq_some_iff.1 hj).1
          rw [List.getElem?_append_right (by simp; omega)]
          rw [show off + l.length * ty.size + j - (cells.toList.take (off + l.length * ty.size)).length = j from by simp; omega]
          rw [List.getElem?_append_left hjl]
          exact hj
        have hext : Ext [b] κ w κ' w' := by
          refine ⟨rfl, rfl, rfl, by simp [w'], frozen?_of hheap hme hother, fun b' _ hm => ⟨hother b' (by simpa using hm), hκ b' (by simpa using hm)⟩, fun b' n hn => ?_⟩
          by_cases hbb : b' = b
          · subst hbb
            rw [hk] at hn
            simp only [Option.some.injEq] at hn
            subst hn
            exact ⟨_, hkb, by rw [Nat.add_mul]; omega, hsame⟩
          · exact ⟨n, (hκ b' hbb).trans hn, Nat.le_refl _, fun i _ => cell_of_heap (hother b' hbb)⟩
        refine ⟨some ⟨b, off, none⟩, c, κ', w', ?_, hext, fun b' hb' => ?_, ⟨by rw [List.length_append]; exact hroom, hcm, .inr ⟨b, off, _, rfl, hkb, by rw [List.length_append]; omega, fun k x hx => ?_⟩⟩, .inr ⟨b, off, arr, rfl, by rw [hkb, List.length_append], by rw [List.length_append]; exact hroom, hcm, hme, ?_⟩, fun b' hb' => ?_⟩
        · rw [hsize] at hf
          simp only [List.append_assoc] at hst
          simp only [List.length_append]
          simp [Builtin.append_, run_underlying ht, sizeOf, typeInfo, hi, Builtin.lenOf, hroom, hf, add_off, hst, w', arr, hsize]
        · have hb'' : w.heap.size ≤ b' := by simpa [w'] using hb'
          rw [hκ b' (by omega)]; exact hfr b' hb''
        · rw [List.getElem?_append] at hx
          split at hx
          · rename_i hil
            obtain ⟨cs, hr, hv⟩ := hl.at' hx
            refine ⟨cs, ty.mono hext hr, fun j v hj => ?_⟩
            have hjl : j < ty.size := by rw [← ty.len hr]; exact (List.getElem?_eq_some_iff.1 hj).1
            have hmul : k * ty.size + ty.size ≤ l.length * ty.size := by
              have : (k + 1) * ty.size ≤ l.length * ty.size := Nat.mul_le_mul_right _ hil
              rw [Nat.add_mul, Nat.one_mul] at this; exact this
            rw [hsame _ (by omega)]
            exact hv j v hj
          · rename_i hil
            obtain ⟨cs, hr, hv⟩ := hnrep (k - l.length) x hx
            refine ⟨cs, ty.mono hext hr, fun j v hj => ?_⟩
            have e : k * ty.size = (k - l.length) * ty.size + l.length * ty.size := by rw [← Nat.add_mul]; congr 1; omega
            have := hnewc _ v (hv j v hj)
            rw [e]
            rwa [show off + ((k - l.length) * ty.size + l.length * ty.size) + j = off + l.length * ty.size + ((k - l.length) * ty.size + j) from by omega]
        · simp only [arr, List.size_toArray, List.length_append, List.length_take, List.length_drop, Array.length_toList]
          omega
        · simp only [Ck.blks, List.mem_singleton] at hb'
          subst hb'
          exact ⟨.inl (by simp [Ck.blks]), by simp [w']; exact hblt⟩
      · -- it grows
        obtain ⟨olds, hol, hocell, _, horep⟩ := hl.row
        have hocell' := hocell b off rfl
        have hr := run_append_grow (P := P) w t y E i z ht hi hz ⟨b, off, none⟩ l.length c olds (by rw [hsize]; exact hol) (fun j v hj => by rw [add_off]; exact hocell' j v hj)
          ⟨b2, off2, none⟩ l2.length c2 news (by rw [hsize]; exact hnl) (fun j v hj => by rw [add_off]; exact hncell' j v hj) (by omega) (by omega) (growslice_fits (by omega) (hby _ hlen))
        obtain ⟨κ', h1, h2, h3, h4, h5⟩ := hgrown news olds c hnl hol hnone horep hnrep
        refine ⟨_, _, κ', _, ?_, h1, h2, h3, h4, h5⟩
        rw [hr, List.length_append]
end
end Go.Cf
