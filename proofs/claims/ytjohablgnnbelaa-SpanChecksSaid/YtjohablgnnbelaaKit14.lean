/- Part 14: what a row's readings give: the arguments as model values, and the facts on what they lead to. -/
import Derived.Test.YtjohablgnnbelaaKit13
import Derived.Deep.Slices
import Derived.WideKeyArgs
import Derived.Carry
namespace Go.Cf
open Go

/-- every block that is there is published, as far as K -/
def gh (K : Nat) (W : World) : Gh := fun b => if b < W.heap.size then some K else none
theorem gh_fresh (K : Nat) (W : World) : Fresh (gh K W) W := fun b hb => by simp [gh]; omega
/-- what reads as data of type E are the cells of a value -/
def RdF {α : Type} (P : Program) (t : FT α) (E : TypeId) : Prop := ∀ (H : Type) (enc : TypeId × Value → H) (W : World) (n : Nat) (cs : List Value) (d : DataW H × List MemPlace), DataW.trod enc P W 0 (fun _ => true) true n E cs = some d → ∃ x, cs = t.enc x
theorem rd_int {P : Program} {E : TypeId} {k : IntKind} (h : P.underlying E = some (.int k)) : RdF P (fInt k) E := fun H enc W n cs d hd => by
  cases n with
  | zero => simp [DataW.trod] at hd
  | succ n =>
    unfold DataW.trod at hd
    rw [h] at hd
    split at hd <;> simp_all [fInt]
theorem rd_str {P : Program} {E : TypeId} (h : P.underlying E = some .string) : RdF P fStr E := fun H enc W n cs d hd => by
  cases n with
  | zero => simp [DataW.trod] at hd
  | succ n =>
    unfold DataW.trod at hd
    rw [h] at hd
    split at hd <;> simp_all [fStr]
theorem rd_bool {P : Program} {E : TypeId} (h : P.underlying E = some .bool) : RdF P fBool E := fun H enc W n cs d hd => by
  cases n with
  | zero => simp [DataW.trod] at hd
  | succ n =>
    unfold DataW.trod at hd
    rw [h] at hd
    split at hd <;> simp_all [fBool]
/-- a slice that reads, and is a value of its type: a list, whatever K is above some bound -/
theorem rd_slice {P : Program} {α : Type} {t : FT α} {T E : TypeId} {H : Type} {enc : TypeId × Value → H} {W : World} {n : Nat} {v : Value} {d : DataW H × List MemPlace} (ht : P.underlying T = some (.slice E)) (hE : RdF P t E) (hsz : P.cellsOf E = t.size)
    (h : DataW.trod enc P W 0 (fun _ => true) true n T [v] = some d) {base : Nat} (hok : Cell.okWide P W .any base T v) : ∃ p c l K0, v = .slice p (List.length l) c ∧ ∀ K, K0 ≤ K → Ro t.ty (gh K W) W p c (l : List α) := by
  rcases Deep.open_slice ht h with ⟨h0, _⟩ | ⟨a, len, cap, m, k, D, Pl, h0, hb, hl, hm, hmm, _, hx⟩
  · simp only [List.cons.injEq, and_true] at h0
    exact ⟨none, 0, [], 0, h0, fun K _ => Ro.nil _ _ _⟩
  · simp only [List.cons.injEq, and_true] at h0
    subst h0
    have hmc : m = cap := by simpa using hmm
    subst hmc
    simp only [Cell.okWide, ht, Cell.ok] at hok
    obtain ⟨_, _, _, hspot, row, cells, hsh, _⟩ := hok
    have hblt : a.block < W.heap.size := by
      rcases Nat.lt_or_ge a.block W.heap.size with h | h
      · exact h
      · simp [World.shape?, h] at hsh
    obtain ⟨b, off, spot⟩ := a
    simp only at hspot hblt
    subst hspot
    have key : ∀ i, i < m → ∃ x, ∀ j u, (t.enc x)[j]? = some u → W.cell? ⟨b, off + i * t.size + j, none⟩ = some u := fun i hi => by
      obtain ⟨cs', h1, h2⟩ := hx i hi
      obtain ⟨x, rfl⟩ := hE _ _ _ _ _ _ h2
      refine ⟨x, fun j u hj => ?_⟩
      rw [hsz] at h1
      obtain ⟨_, hlen, hc⟩ := World.cells?_some h1
      have hjl : j < t.size := by rw [← t.len x]; exact (List.getElem?_eq_some_iff.1 hj).1
      have := hc j hjl
      rw [add_off, add_off, hj] at this
      exact this
    have hlist : ∀ q, q ≤ m → ∃ l : List α, l.length = q ∧ ∀ i x, l[i]? = some x → ∀ j u, (t.enc x)[j]? = some u → W.cell? ⟨b, off + i * t.size + j, none⟩ = some u := fun q => by
      induction q with
      | zero => intro _; exact ⟨[], rfl, fun i x hi => by simp at hi⟩
      | succ q ih =>
        intro hq
        obtain ⟨l, hll, hlx⟩ := ih (by omega)
        obtain ⟨x, hx'⟩ := key q (by omega)
        refine ⟨l ++ [x], by simp [hll], fun i y hi => ?_⟩
        rw [List.getElem?_append] at hi
        split at hi
        · exact hlx i y hi
        · rename_i hge
          have hi0 : i = q := by
            have := (List.getElem?_eq_some_iff.1 hi).1
            simp at this; omega
          subst hi0
          rw [hll, Nat.sub_self] at hi
          simp only [List.getElem?_cons_zero, Option.some.injEq] at hi
          subst hi
          exact hx'
    obtain ⟨l, hll, hlx⟩ := hlist len hl
    subst hll
    refine ⟨some ⟨b, off, none⟩, m, l, off + l.length * t.size, rfl, fun K hK => ⟨hl, hm, .inr ⟨b, off, K, rfl, by simp [gh, hblt], hK, fun i x hi => ⟨t.enc x, rfl, hlx i x hi⟩⟩⟩⟩
/-- a struct that reads: its parts read -/
theorem rd_struct {P : Program} {T : TypeId} {fs : Array Field} {H : Type} {enc : TypeId × Value → H} {W : World} {n : Nat} {cs : List Value} {d : DataW H × List MemPlace} (ht : P.underlying T = some (.struct fs)) (h : DataW.trod enc P W 0 (fun _ => true) true n T cs = some d) :
    cs.length = P.cellsOf T ∧ ∃ k, ∀ f ∈ fs.toList, ∃ d', DataW.trod enc P W 0 (fun _ => true) true k f.type ((cs.drop f.offset).take (P.cellsOf f.type)) = some d' := by
  cases n with
  | zero => simp [DataW.trod] at h
  | succ n =>
    unfold DataW.trod at h
    rw [ht] at h
    simp only at h
    split at h
    · rename_i hl
      refine ⟨hl, n, ?_⟩
      rw [Option.map_eq_some_iff] at h
      obtain ⟨xs, hxs, _⟩ := h
      intro f hf
      obtain ⟨i, hi, rfl⟩ := List.getElem_of_mem hf
      have hlen := mapM_some_length hxs
      have hlt : i < xs.length := by omega
      have hg := mapM_some_get hxs i _ (List.getElem?_eq_getElem hi)
      rw [List.getElem?_eq_getElem hlt] at hg
      exact ⟨_, hg⟩
    · cases h
theorem okWide_struct {P : Program} {W : World} {T : TypeId} {fs : Array Field} {v : Value} {ts : List TypeId} (ht : P.underlying T = some (.struct fs)) (hts : P.cellTypes P.depth T = some ts) {base : Nat} (h : Value.okWide P W .any base T v) :
    ∃ cs : List Value, v = .agg cs.toArray ∧ cs.length = P.cellsOf T ∧ ∀ i u, cs[i]? = some u → ∃ t, ts[i % ts.length]? = some t ∧ Cell.okWide P W .any base t u := by
  unfold Value.okWide at h
  rw [ht] at h
  obtain ⟨cs, rfl, hcs, ts', hts', _, hrow⟩ := h
  rw [hts] at hts'
  simp only [Option.some.injEq] at hts'
  subst hts'
  obtain ⟨l⟩ := cs
  exact ⟨l, rfl, by simpa using hcs, fun i u hi => hrow i u (by simpa using hi)⟩
/-- all arguments read as they did, where nothing that was there has turned -/
theorem trodAll_stays {P : Program} {H : Type} {enc : TypeId × Value → H} {W W' : World} {sp : Nat → Bool} (hl : laidOutB P = true) : ∀ {ts : List TypeId} {vs : List Value} {ds : List (DataW H)} {ps : List MemPlace}, (ts.all fun t => P.readableRec t && decide (t < P.types.size)) = true →
    DataW.TrodAll enc P W 0 (fun _ => true) true ts vs ds ps → (∀ p ∈ ps, W.sameAt W' p) → (∀ p ∈ ps, sp p.block = true) → DataW.TrodAll enc P W' 0 sp true ts vs ds ps := by
  intro ts
  induction ts with
  | nil => intro vs ds ps _ h _ _; cases vs <;> cases ds <;> simp_all [DataW.TrodAll]
  | cons t ts ih =>
    intro vs ds ps ht h hs hsp
    cases vs with
    | nil => simp [DataW.TrodAll] at h
    | cons v vs =>
      cases ds with
      | nil => simp [DataW.TrodAll] at h
      | cons d ds =>
        obtain ⟨p, q, h1, h2, rfl⟩ := h
        simp only [List.all_cons, Bool.and_eq_true, decide_eq_true_eq] at ht
        exact ⟨p, q, WideElems.Trod_stays hl ht.1.1 ht.1.2 h1 (fun x hx => hs x (by simp [hx])) (fun x hx => hsp x (by simp [hx])), ih (by simpa using ht.2) h2 (fun x hx => hs x (by simp [hx])) (fun x hx => hsp x (by simp [hx])), rfl⟩
theorem sameAt_of {W W' : World} (h : ∀ b, b < W.heap.size → W'.heap[b]? = W.heap[b]?) {p : MemPlace} (hp : p.block < W.heap.size) : W.sameAt W' p := by
  cases p with
  | cell b off => exact cell_of_heap (h b hp)
  | map b => exact h b hp
/-- a law's contract: nothing that was there has turned -/
theorem law_kept {P : Program} {f : FuncId} {args : Array Value} {κ : Gh} {w : World} {b : Bool} {φ : Gh → World → Prop} (hb : b = true) (h : Calls P f args w (Post [] κ w fun v κ w => v = .bool b ∧ φ κ w)) :
    Calls P f args w fun e w' => e = .returned (.bool true) ∧ RowKit.Grown w w' ∧ ∀ b, b < w.heap.size → w'.heap[b]? = w.heap[b]? := by
  subst hb
  exact h.mono fun e w' ⟨v, κ', he, hx, _, hv, _⟩ => ⟨by rw [he, hv], hx.grown, fun b hb => (hx.keep b hb (by simp)).1⟩
end Go.Cf
