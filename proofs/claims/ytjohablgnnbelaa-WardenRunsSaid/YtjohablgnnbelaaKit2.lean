/- Part 2: memory. What is published never turns; boxes are the call's own; 'SS' says what is known of the world. -/
import Derived.Test.YtjohablgnnbelaaKit1
import Derived.RowKit3
namespace Go.Cf
open Go

/-- the ghost: of a block whose first n cells are published (they never turn): n -/
abbrev Gh := Nat → Option Nat
/-- from (κ, w) to (κ', w') nothing but the blocks of M, and new ones, has turned; what is published stays -/
structure Ext (M : List Nat) (κ : Gh) (w : World) (κ' : Gh) (w' : World) : Prop where
  os : w'.os = w.os
  out : w'.output = w.output
  tape : w'.tape = w.tape
  size : w.heap.size ≤ w'.heap.size
  fz : ∀ a, w'.frozen? a = w.frozen? a
  keep : ∀ b, b < w.heap.size → b ∉ M → w'.heap[b]? = w.heap[b]? ∧ κ' b = κ b
  pub : ∀ b n, κ b = some n → ∃ n', κ' b = some n' ∧ n ≤ n' ∧ ∀ i, i < n → w'.cell? ⟨b, i, none⟩ = w.cell? ⟨b, i, none⟩
def Fresh (κ : Gh) (w : World) : Prop := ∀ b, w.heap.size ≤ b → κ b = none

theorem Ext.refl (M : List Nat) (κ : Gh) (w : World) : Ext M κ w κ w :=
  ⟨rfl, rfl, rfl, Nat.le_refl _, fun _ => rfl, fun _ _ _ => ⟨rfl, rfl⟩, fun _ n h => ⟨n, h, Nat.le_refl _, fun _ _ => rfl⟩⟩
theorem Ext.trans {M : List Nat} {κ κ' κ'' : Gh} {w w' w'' : World} (h : Ext M κ w κ' w') (k : Ext M κ' w' κ'' w'') : Ext M κ w κ'' w'' where
  os := k.os.trans h.os
  out := k.out.trans h.out
  tape := k.tape.trans h.tape
  size := Nat.le_trans h.size k.size
  fz := fun a => (k.fz a).trans (h.fz a)
  keep := fun b hb hm => by
    obtain ⟨h1, h2⟩ := h.keep b hb hm
    obtain ⟨h3, h4⟩ := k.keep b (Nat.lt_of_lt_of_le hb h.size) hm
    exact ⟨h3.trans h1, h4.trans h2⟩
  pub := fun b n hn => by
    obtain ⟨n1, h1, h2, h3⟩ := h.pub b n hn
    obtain ⟨n2, h4, h5, h6⟩ := k.pub b n1 h1
    exact ⟨n2, h4, Nat.le_trans h2 h5, fun i hi => (h6 i (Nat.lt_of_lt_of_le hi h2)).trans (h3 i hi)⟩
/-- of blocks that were not there nothing is asked -/
theorem Ext.weaken {M M' : List Nat} {κ κ' : Gh} {w w' : World} (h : Ext M κ w κ' w') (hM : ∀ b, b ∈ M → b < w.heap.size → b ∈ M') : Ext M' κ w κ' w' :=
  ⟨h.os, h.out, h.tape, h.size, h.fz, fun b hb hm => h.keep b hb fun hb' => hm (hM b hb' hb), h.pub⟩
/-- two steps; what the second may turn the first one made, or the whole may turn -/
theorem Ext.trans' {M M' : List Nat} {κ κ' κ'' : Gh} {w w' w'' : World} (h : Ext M κ w κ' w') (k : Ext M' κ' w' κ'' w'') (hM : ∀ b, b ∈ M' → w.heap.size ≤ b ∨ b ∈ M) : Ext M κ w κ'' w'' where
  os := k.os.trans h.os
  out := k.out.trans h.out
  tape := k.tape.trans h.tape
  size := Nat.le_trans h.size k.size
  fz := fun a => (k.fz a).trans (h.fz a)
  keep := fun b hb hm => by
    obtain ⟨h1, h2⟩ := h.keep b hb hm
    obtain ⟨h3, h4⟩ := k.keep b (Nat.lt_of_lt_of_le hb h.size) (fun hb' => by rcases hM b hb' with h | h; omega; exact hm h)
    exact ⟨h3.trans h1, h4.trans h2⟩
  pub := fun b n hn => by
    obtain ⟨n1, h1, h2, h3⟩ := h.pub b n hn
    obtain ⟨n2, h4, h5, h6⟩ := k.pub b n1 h1
    exact ⟨n2, h4, Nat.le_trans h2 h5, fun i hi => (h6 i (Nat.lt_of_lt_of_le hi h2)).trans (h3 i hi)⟩

/-- a fact that stays -/
structure MP where
  p : Gh → World → Prop
  mono : ∀ {M κ w κ' w'}, Ext M κ w κ' w' → p κ w → p κ' w'
def MP.const (q : Prop) : MP := ⟨fun _ _ => q, fun _ h => h⟩

/-- how values of a Go type lie in cells -/
structure Ty (α : Type) where
  size : Nat
  rep : Gh → World → List Value → α → Prop
  len : ∀ {κ w cs x}, rep κ w cs x → cs.length = size
  one : ∀ {κ w cs x}, rep κ w cs x → ∀ v ∈ cs, v.oneCell' = true
  mono : ∀ {M κ w κ' w' cs x}, Ext M κ w κ' w' → rep κ w cs x → rep κ' w' cs x
/-- a type without references: its cells are known -/
structure FT (α : Type) where
  size : Nat
  enc : α → List Value
  len : ∀ x, (enc x).length = size
  one : ∀ x, ∀ v ∈ enc x, v.oneCell' = true
def FT.ty {α : Type} (t : FT α) : Ty α := ⟨t.size, fun _ _ cs x => cs = t.enc x, fun h => by rw [h, t.len], fun h v hv => t.one _ v (h ▸ hv), fun _ h => h⟩
def fInt (k : IntKind) : FT Int := ⟨1, fun x => [.int k x], fun _ => rfl, fun _ v hv => by simp at hv; subst hv; rfl⟩
def fBool : FT Bool := ⟨1, fun x => [.bool x], fun _ => rfl, fun _ v hv => by simp at hv; subst hv; rfl⟩
def fStr : FT ByteArray := ⟨1, fun x => [.string x], fun _ => rfl, fun _ v hv => by simp at hv; subst hv; rfl⟩

/-- the slice header (p, length, c) reads as the list l, and what it reads is published -/
def Ro {α : Type} (t : Ty α) (κ : Gh) (w : World) (p : Option Addr) (c : Nat) (l : List α) : Prop :=
  l.length ≤ c ∧ c ≤ maxLen ∧ ((l = [] ∧ c = 0) ∨ ∃ b off n, p = some ⟨b, off, none⟩ ∧ κ b = some n ∧ off + l.length * t.size ≤ n ∧
    ∀ i x, l[i]? = some x → ∃ cs, t.rep κ w cs x ∧ ∀ j v, cs[j]? = some v → w.cell? ⟨b, off + i * t.size + j, none⟩ = some v)
theorem Ro.mono {α : Type} {t : Ty α} {M : List Nat} {κ κ' : Gh} {w w' : World} {p : Option Addr} {c : Nat} {l : List α} (e : Ext M κ w κ' w') (h : Ro t κ w p c l) : Ro t κ' w' p c l := by
  obtain ⟨h1, h2, h3⟩ := h
  refine ⟨h1, h2, ?_⟩
  rcases h3 with h3 | ⟨b, off, n, hp, hk, hn, hc⟩
  · exact .inl h3
  · obtain ⟨n', hk', hle, hcell⟩ := e.pub b n hk
    refine .inr ⟨b, off, n', hp, hk', Nat.le_trans hn hle, fun i x hi => ?_⟩
    obtain ⟨cs, hr, hv⟩ := hc i x hi
    refine ⟨cs, t.mono e hr, fun j v hj => ?_⟩
    have hlt : i < l.length := (List.getElem?_eq_some_iff.1 hi).1
    have hjl : j < t.size := by rw [← t.len hr]; exact (List.getElem?_eq_some_iff.1 hj).1
    have hmul : i * t.size + t.size ≤ l.length * t.size := by
      have : (i + 1) * t.size ≤ l.length * t.size := Nat.mul_le_mul_right _ hlt
      rw [Nat.add_mul, Nat.one_mul] at this
      exact this
    rw [hcell (off + i * t.size + j) (by omega)]
    exact hv j v hj
def Ro.mp {α : Type} (t : Ty α) (p : Option Addr) (c : Nat) (l : List α) : MP := ⟨fun κ w => Ro t κ w p c l, Ro.mono⟩
theorem Ro.nil {α : Type} (t : Ty α) (κ : Gh) (w : World) : Ro t κ w none 0 ([] : List α) := ⟨Nat.le_refl _, Nat.zero_le _, .inl ⟨rfl, rfl⟩⟩

/-! ### boxes -/
abbrev Segs := List (Nat × List Value)
def flat (s : Segs) : List Value := s.flatMap (·.2)
def tot (s : Segs) : Nat := (s.map (·.1)).sum
def segsOk (s : Segs) : Prop := ∀ x ∈ s, x.2.length = x.1
theorem flat_append (a b : Segs) : flat (a ++ b) = flat a ++ flat b := by simp [flat]
theorem tot_append (a b : Segs) : tot (a ++ b) = tot a + tot b := by simp [tot]
theorem segsOk_append {a b : Segs} : segsOk (a ++ b) ↔ segsOk a ∧ segsOk b := by
  simp only [segsOk, List.mem_append]
  exact ⟨fun h => ⟨fun x hx => h x (.inl hx), fun x hx => h x (.inr hx)⟩, fun h x hx => hx.elim (h.1 x) (h.2 x)⟩
theorem flat_length {s : Segs} (h : segsOk s) : (flat s).length = tot s := by
  induction s with
  | nil => rfl
  | cons x s ih =>
    have h1 := h x (by simp)
    have h2 := ih fun y hy => h y (by simp [hy])
    simp only [flat, tot, List.flatMap_cons, List.length_append, List.map_cons, List.sum_cons] at *
    omega
theorem segsOk_nil : segsOk [] := fun _ h => by cases h
theorem segsOk_cons {x : Nat × List Value} {s : Segs} : segsOk (x :: s) ↔ x.2.length = x.1 ∧ segsOk s := by
  simp [segsOk]

/-- what somebody else keeps in blocks of his own while I run -/
structure XF where
  bs : List Nat
  p : Gh → World → Prop
  mono : ∀ {M κ w κ' w'}, Ext M κ w κ' w' → (∀ b ∈ bs, b < w.heap.size ∧ b ∉ M) → p κ w → p κ' w'
/-- what a call has for itself -/
inductive Ck where
  | box (b T : Nat) (s : Segs)
  | tok (p : Option Addr) (E size len c : Nat)
  | ext (x : XF)
def Ck.ok (κ : Gh) (w : World) : Ck → Prop
  | .box b T s => w.heap[b]? = some (.cells (flat s).toArray T (0, 0)) ∧ segsOk s ∧ κ b = none
  | .tok p E size len c => (len = 0 ∧ c = 0) ∨ ∃ b off cells, p = some ⟨b, off, none⟩ ∧ κ b = some (off + len * size) ∧ len ≤ c ∧ c ≤ maxLen ∧ w.heap[b]? = some (.cells cells E (0, 0)) ∧ cells.size = off + c * size
  | .ext x => x.p κ w
def Ck.blks : Ck → List Nat
  | .box b _ _ => [b]
  | .tok (some a) _ _ _ _ => [a.block]
  | .tok none _ _ _ _ => []
  | .ext x => x.bs
def blksOf (C : List Ck) : List Nat := C.flatMap Ck.blks

/-- what is known: since (κ0, w0) only M and new blocks have turned; the chunks C are had; the facts R hold -/
structure SS (M : List Nat) (κ0 : Gh) (w0 : World) (κ : Gh) (w : World) (C : List Ck) (R : List MP) : Prop where
  ext : Ext M κ0 w0 κ w
  fresh : Fresh κ w
  ok : ∀ c ∈ C, c.ok κ w
  lt : ∀ b ∈ blksOf C, b < w.heap.size
  nd : (blksOf C).Nodup
  own : ∀ b ∈ blksOf C, w0.heap.size ≤ b ∨ b ∈ M
  ro : ∀ m ∈ R, m.p κ w

section
variable {M : List Nat} {κ0 κ : Gh} {w0 w : World} {C C' : List Ck} {R R' : List MP}
theorem SS.get (h : SS M κ0 w0 κ w C R) (i : Nat) {m : MP} (hi : R[i]? = some m) : m.p κ w := h.ro m (List.mem_of_getElem? hi)
theorem SS.ck (h : SS M κ0 w0 κ w C R) (i : Nat) {c : Ck} (hi : C[i]? = some c) : c.ok κ w := h.ok c (List.mem_of_getElem? hi)
theorem SS.start (hf : Fresh κ w) (hR : ∀ m ∈ R, m.p κ w) : SS [] κ w κ w [] R :=
  ⟨.refl _ _ _, hf, (fun _ h => by cases h), (fun _ h => by cases h), List.nodup_nil, (fun _ h => by cases h), hR⟩
theorem SS.facts (h : SS M κ0 w0 κ w C R) (hR : ∀ m ∈ R', m.p κ w) : SS M κ0 w0 κ w C R' := ⟨h.ext, h.fresh, h.ok, h.lt, h.nd, h.own, hR⟩
theorem SS.add (h : SS M κ0 w0 κ w C R) {m : MP} (hm : m.p κ w) : SS M κ0 w0 κ w C (m :: R) :=
  h.facts fun x hx => by rcases List.mem_cons.1 hx with rfl | hx; exact hm; exact h.ro x hx
/-- pick facts by their places -/
theorem SS.pick (h : SS M κ0 w0 κ w C R) (is : List Nat) (hR : (is.filterMap fun i => R[i]?) = R') : SS M κ0 w0 κ w C R' := by
  refine h.facts fun m hm => ?_
  subst hR
  obtain ⟨i, _, hi⟩ := List.mem_filterMap.1 hm
  exact h.get i hi
theorem blksOf_sub {C C' : List Ck} (hs : C'.Sublist C) : (blksOf C').Sublist (blksOf C) := by
  induction hs with
  | slnil => exact List.Sublist.refl _
  | cons a _ ih => exact ih.trans (by simp only [blksOf, List.flatMap_cons]; exact List.sublist_append_right _ _)
  | cons_cons a _ ih => simp only [blksOf, List.flatMap_cons]; exact (List.append_sublist_append_left _).2 ih
/-- let chunks go -/
theorem SS.drop (h : SS M κ0 w0 κ w C R) (hs : C'.Sublist C) : SS M κ0 w0 κ w C' R :=
  ⟨h.ext, h.fresh, fun c hc => h.ok c (hs.subset hc), fun b hb => h.lt b ((blksOf_sub hs).subset hb), h.nd.sublist (blksOf_sub hs), fun b hb => h.own b ((blksOf_sub hs).subset hb), h.ro⟩

/-- a chunk stays where its blocks are left alone -/
theorem Ck.ok_keep {M' : List Nat} {κ' : Gh} {w' : World} {c : Ck} (hc : c.ok κ w) (hlt : ∀ b ∈ c.blks, b < w.heap.size) (he : Ext M' κ w κ' w') (hm : ∀ b ∈ c.blks, b ∉ M') : c.ok κ' w' := by
  cases c with
  | box b T s =>
    obtain ⟨h1, h2, h3⟩ := hc
    obtain ⟨k1, k2⟩ := he.keep b (hlt b (by simp [Ck.blks])) (hm b (by simp [Ck.blks]))
    exact ⟨k1.trans h1, h2, k2.trans h3⟩
  | tok p E size len cc =>
    rcases hc with hc | ⟨b, off, cells, rfl, h1, h2, h2', h3, h4⟩
    · exact .inl hc
    · obtain ⟨k1, k2⟩ := he.keep b (hlt b (by simp [Ck.blks])) (hm b (by simp [Ck.blks]))
      exact .inr ⟨b, off, cells, rfl, k2.trans h1, h2, h2', k1.trans h3, h4⟩
  | ext x => exact x.mono he (fun b hb => ⟨hlt b hb, hm b hb⟩) hc

/-- a step that touches none of the chunks -/
theorem SS.step (h : SS M κ0 w0 κ w C R) {κ' : Gh} {w' : World} (he : Ext [] κ w κ' w') (hf : Fresh κ' w') : SS M κ0 w0 κ' w' C R where
  ext := h.ext.trans' he fun b hb => by cases hb
  fresh := hf
  ok := fun c hc => Ck.ok_keep (h.ok c hc) (fun b hb => h.lt b (List.mem_flatMap.2 ⟨c, hc, hb⟩)) he fun b _ hb => by cases hb
  lt := fun b hb => Nat.lt_of_lt_of_le (h.lt b hb) he.size
  nd := h.nd
  own := h.own
  ro := fun m hm => m.mono he (h.ro m hm)

theorem heap_alloc_old (w : World) (o : Obj) (b : Nat) (h : b < w.heap.size) : (w.alloc o).heap[b]? = w.heap[b]? := RowKit.Below.heap_alloc w o b h
theorem heap_alloc_new (w : World) (o : Obj) : (w.alloc o).heap[w.heap.size]? = some o := by
  show (w.heap.push o)[w.heap.size]? = _
  simp
theorem size_alloc (w : World) (o : Obj) : (w.alloc o).heap.size = w.heap.size + 1 := by
  show (w.heap.push o).size = _
  simp
theorem cell_of_heap {w w' : World} {b i : Nat} (h : w'.heap[b]? = w.heap[b]?) : w'.cell? ⟨b, i, none⟩ = w.cell? ⟨b, i, none⟩ := by
  unfold World.cell?
  simp only [h]
theorem frozen?_of {w w' : World} {b : Nat} {c c' : Array Value} {t t' : TypeId} {fr : Nat × Nat} (h : w.heap[b]? = some (.cells c t fr)) (h' : w'.heap[b]? = some (.cells c' t' fr)) (ho : ∀ b', b' ≠ b → w'.heap[b']? = w.heap[b']?) (a : Addr) : w'.frozen? a = w.frozen? a := by
  unfold World.frozen?
  by_cases e : a.block = b
  · rw [e, h, h']
  · rw [ho _ e]
theorem Ext.alloc (hf : Fresh κ w) (o : Obj) (ho : ∃ c t, o = .cells c t (0, 0)) : Ext [] κ w κ (w.alloc o) where
  fz := fun a => by obtain ⟨c, t, rfl⟩ := ho; exact RowKit.frozen?_alloc_cells w c t a
  os := rfl
  out := rfl
  tape := rfl
  size := by rw [size_alloc]; omega
  keep := fun b hb _ => ⟨heap_alloc_old w o b hb, rfl⟩
  pub := fun b n hn => ⟨n, hn, Nat.le_refl _, fun i _ => cell_of_heap (heap_alloc_old w o b (by
    rcases Nat.lt_or_ge b w.heap.size with h | h
    · exact h
    · rw [hf b h] at hn; cases hn))⟩
theorem Fresh.alloc (hf : Fresh κ w) (o : Obj) : Fresh κ (w.alloc o) := fun b hb => hf b (by rw [size_alloc] at hb; omega)
/-- a new block of the call's own -/
theorem SS.alloc (h : SS M κ0 w0 κ w C R) (T : Nat) (s : Segs) (hs : segsOk s) (o : Obj) (ho : o = .cells (flat s).toArray T (0, 0)) : SS M κ0 w0 κ (w.alloc o) (.box w.heap.size T s :: C) R := by
  subst ho
  have h' := h.step (Ext.alloc h.fresh (.cells (flat s).toArray T (0, 0)) ⟨_, _, rfl⟩) (h.fresh.alloc _)
  refine ⟨h'.ext, h'.fresh, fun c hc => ?_, fun b hb => ?_, ?_, fun b hb => ?_, h'.ro⟩
  · rcases List.mem_cons.1 hc with rfl | hc
    · exact ⟨heap_alloc_new _ _, hs, h.fresh _ (Nat.le_refl _)⟩
    · exact h'.ok c hc
  · rcases List.mem_cons.1 (show b ∈ w.heap.size :: blksOf C from hb) with rfl | hb
    · rw [size_alloc]; omega
    · exact h'.lt b hb
  · show (w.heap.size :: blksOf C).Nodup
    exact List.nodup_cons.2 ⟨fun hm => by have := h.lt _ hm; omega, h.nd⟩
  · rcases List.mem_cons.1 (show b ∈ w.heap.size :: blksOf C from hb) with rfl | hb
    · exact .inl h.ext.size
    · exact h.own b hb

/-- a draw -/
theorem SS.drew (h : SS M κ0 w0 κ w C R) : SS M κ0 w0 κ { w with drawn := w.drawn + 1 } C R :=
  h.step ⟨rfl, rfl, rfl, Nat.le_refl _, fun _ => rfl, fun _ _ _ => ⟨rfl, rfl⟩, fun _ n hn => ⟨n, hn, Nat.le_refl _, fun _ _ => rfl⟩⟩ h.fresh

theorem blksOf_append (A B : List Ck) : blksOf (A ++ B) = blksOf A ++ blksOf B := by simp [blksOf]
/-- a box is written -/
theorem SS.write (h : SS M κ0 w0 κ w C R) (A B : List Ck) {b T : Nat} {s s' : Segs} (hC : C = A ++ .box b T s :: B) (hs : segsOk s') {w' : World}
    (hw : w' = { w with heap := w.heap.setIfInBounds b (.cells (flat s').toArray T (0, 0)) }) : SS M κ0 w0 κ w' (A ++ .box b T s' :: B) R := by
  subst hC hw
  have hb : b ∈ blksOf (A ++ .box b T s :: B) := by simp [blksOf, Ck.blks]
  have hlt : b < w.heap.size := h.lt b hb
  have hk : κ b = none := (h.ok (.box b T s) (by simp)).2.2
  have hother : ∀ b', b' ≠ b → ({ w with heap := w.heap.setIfInBounds b (.cells (flat s').toArray T (0, 0)) } : World).heap[b']? = w.heap[b']? := fun b' hne => by
    show (w.heap.setIfInBounds b _)[b']? = _
    rw [Array.getElem?_setIfInBounds_ne (Ne.symm hne)]
  have he : Ext [b] κ w κ { w with heap := w.heap.setIfInBounds b (.cells (flat s').toArray T (0, 0)) } :=
    ⟨rfl, rfl, rfl, by simp, frozen?_of (c' := (flat s').toArray) (t' := T) (h.ok (.box b T s) (by simp)).1 (by simp [hlt]) hother, fun b' _ hm => ⟨hother b' (by simpa using hm), rfl⟩, fun b' n hn => ⟨n, hn, Nat.le_refl _, fun i _ => cell_of_heap (hother b' fun e => by rw [e, hk] at hn; cases hn)⟩⟩
  have hnd := h.nd
  rw [blksOf_append] at hnd
  have hsame : blksOf (A ++ .box b T s' :: B) = blksOf (A ++ .box b T s :: B) := by simp [blksOf, Ck.blks]
  refine ⟨h.ext.trans' he fun b' hb' => ?_, fun b' hb' => h.fresh b' (by simpa using hb'), fun c hc => ?_, ?_, ?_, ?_, fun m hm => m.mono he (h.ro m hm)⟩
  · simp only [List.mem_singleton] at hb'; subst hb'; exact h.own b' hb
  · have hnot : c ∈ A ∨ c ∈ B → b ∉ c.blks := fun hc hbc => by
      have hnd' : (blksOf A ++ (b :: blksOf B)).Nodup := by simpa [blksOf, Ck.blks] using h.nd
      rw [List.nodup_append] at hnd'
      rcases hc with hc | hc
      · exact hnd'.2.2 b (List.mem_flatMap.2 ⟨c, hc, hbc⟩) b (by simp) rfl
      · exact (List.nodup_cons.1 hnd'.2.1).1 (List.mem_flatMap.2 ⟨c, hc, hbc⟩)
    have hkeep : c ∈ A ∨ c ∈ B → c.ok κ { w with heap := w.heap.setIfInBounds b (.cells (flat s').toArray T (0, 0)) } := fun hc =>
      have hmem : c ∈ A ++ .box b T s :: B := by rcases hc with hc | hc <;> simp [hc]
      Ck.ok_keep (h.ok c hmem) (fun b' hb' => h.lt b' (List.mem_flatMap.2 ⟨c, hmem, hb'⟩)) he fun b' hb' hm => hnot hc (by simp only [List.mem_singleton] at hm; exact hm ▸ hb')
    rcases List.mem_append.1 hc with hc | hc
    · exact hkeep (.inl hc)
    · rcases List.mem_cons.1 hc with rfl | hc
      · refine ⟨?_, hs, hk⟩
        show (w.heap.setIfInBounds b _)[b]? = _
        simp [hlt]
      · exact hkeep (.inr hc)
  · rw [hsame]; intro b' hb'; simpa using h.lt b' hb'
  · rw [hsame]; exact h.nd
  · rw [hsame]; exact h.own
end
end Go.Cf
