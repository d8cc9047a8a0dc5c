/- Part 14: what a row's readings give: the arguments as model values, and the facts on what they lead to. -/
import Derived.Test.YtjohablgnnbelaaKit13
import Derived.Deep.Slices
import Derived.WideKeyArgs
import Derived.Carry
namespace Go.Cf
open Go

/-- every block that is there is published, as far as K -/
def gh (K : Nat) (W : World) : Gh := fun b => if b < W.heap.size then some K else none
theorem gh_fresh (K : Nat) (W : World) : Fresh (gh K W) W := fun b hb => by simp [gh]; omega
/-- what reads as data of type E are the cells of a value, which is as `ok` says -/
def RdT {α : Type} (P : Program) (t : Ty α) (ok : α → Prop) (E : TypeId) : Prop := ∀ (H : Type) (enc : TypeId × Value → H) (W : World) (n : Nat) (cs : List Value) (d : DataW H × List MemPlace), DataW.trod enc P W 0 (fun _ => true) true n E cs = some d → ∃ x K0, ok x ∧ ∀ K, K0 ≤ K → t.rep (gh K W) W cs x
def inI (k : IntKind) (x : Int) : Prop := k.min ≤ x ∧ x ≤ k.max
def okB (_ : Bool) : Prop := True
def okS (s : ByteArray) : Prop := s.size ≤ maxLen
theorem rd_int {P : Program} {E : TypeId} {k : IntKind} (h : P.underlying E = some (.int k)) : RdT P (fInt k).ty (inI k) E := fun H enc W n cs d hd => by
  cases n with
  | zero => simp [DataW.trod] at hd
  | succ n =>
    unfold DataW.trod at hd
    rw [h] at hd
    split at hd <;> simp_all [fInt, FT.ty, inI, Lit.wf]
    exact ⟨_, hd.1.2, 0, fun _ _ => rfl⟩
theorem rd_str {P : Program} {E : TypeId} (h : P.underlying E = some .string) : RdT P fStr.ty okS E := fun H enc W n cs d hd => by
  cases n with
  | zero => simp [DataW.trod] at hd
  | succ n =>
    unfold DataW.trod at hd
    rw [h] at hd
    split at hd <;> simp_all [fStr, FT.ty, okS]
    exact ⟨_, hd.1, 0, fun _ _ => rfl⟩
theorem rd_bool {P : Program} {E : TypeId} (h : P.underlying E = some .bool) : RdT P fBool.ty okB E := fun H enc W n cs d hd => by
  cases n with
  | zero => simp [DataW.trod] at hd
  | succ n =>
    unfold DataW.trod at hd
    rw [h] at hd
    cases cs with
    | nil => simp at hd
    | cons v cs =>
      cases cs with
      | cons u cs => simp at hd
      | nil =>
        cases v <;> simp at hd
        exact ⟨_, 0, trivial, fun _ _ => rfl⟩
/-- a slice that reads: a list -/
theorem rd_slice {P : Program} {α : Type} {t : Ty α} {ok : α → Prop} {T E : TypeId} {H : Type} {enc : TypeId × Value → H} {W : World} {n : Nat} {cs : List Value} {d : DataW H × List MemPlace} (ht : P.underlying T = some (.slice E)) (hE : RdT P t ok E) (hsz : P.cellsOf E = t.size) (hpos : 0 < t.size)
    (h : DataW.trod enc P W 0 (fun _ => true) true n T cs = some d) : ∃ p c l K0, cs = [.slice p (List.length l) c] ∧ (∀ x ∈ l, ok x) ∧ ∀ K, K0 ≤ K → Ro t (gh K W) W p c (l : List α) := by
  rcases Deep.open_slice ht h with ⟨h0, _⟩ | ⟨a, len, cap, m, k, D, Pl, h0, hb, hl, hm, hmm, _, hx⟩
  · exact ⟨none, 0, [], 0, h0, by simp, fun K _ => Ro.nil _ _ _⟩
  · subst h0
    have hmc : m = cap := by simpa using hmm
    subst hmc
    rcases Nat.eq_zero_or_pos m with h0 | h0
    · subst h0
      have : len = 0 := by omega
      subst this
      exact ⟨some a, 0, [], 0, rfl, by simp, fun K _ => ⟨Nat.le_refl _, Nat.zero_le _, .inl ⟨rfl, rfl⟩⟩⟩
    · rw [hsz] at hx
      obtain ⟨cs0, h1, _⟩ := hx 0 h0
      obtain ⟨_, hlen0, hc0⟩ := World.cells?_some h1
      have hc := hc0 0 hpos
      obtain ⟨b, off, spot⟩ := a
      have hsome : ∃ v, cs0[0]? = some v := ⟨cs0[0]'(by omega), List.getElem?_eq_getElem (by omega)⟩
      obtain ⟨v0, hv0⟩ := hsome
      rw [hv0] at hc
      obtain rfl : spot = none := by
        cases spot with
        | none => rfl
        | some s =>
          exfalso
          simp [World.cell?, Addr.add] at hc
          split at hc <;> cases hc
      have hblt : b < W.heap.size := by
        rcases Nat.lt_or_ge b W.heap.size with h | h
        · exact h
        · simp [World.cell?, add_off, Array.getElem?_eq_none h] at hc
      have key : ∀ i, i < m → ∃ x K0, ok x ∧ ∃ cs', (∀ K, K0 ≤ K → t.rep (gh K W) W cs' x) ∧ ∀ j u, cs'[j]? = some u → W.cell? ⟨b, off + i * t.size + j, none⟩ = some u := fun i hi => by
        obtain ⟨cs', h1, h2⟩ := hx i hi
        obtain ⟨x, K0, hok, hr⟩ := hE _ _ _ _ _ _ h2
        refine ⟨x, K0, hok, cs', hr, fun j u hj => ?_⟩
        obtain ⟨_, hlen, hc⟩ := World.cells?_some h1
        have hjl : j < t.size := by rw [← hlen]; exact (List.getElem?_eq_some_iff.1 hj).1
        have := hc j hjl
        rw [add_off, add_off, hj] at this
        exact this
      have hlist : ∀ q, q ≤ m → ∃ (l : List α) (K0 : Nat), l.length = q ∧ (∀ x ∈ l, ok x) ∧ ∀ i x, l[i]? = some x → ∃ cs', (∀ K, K0 ≤ K → t.rep (gh K W) W cs' x) ∧ ∀ j u, cs'[j]? = some u → W.cell? ⟨b, off + i * t.size + j, none⟩ = some u := fun q => by
        induction q with
        | zero => intro _; exact ⟨[], 0, rfl, by simp, fun i x hi => by simp at hi⟩
        | succ q ih =>
          intro hq
          obtain ⟨l, K1, hll, hlo, hlx⟩ := ih (by omega)
          obtain ⟨x, K2, hxo, cs', hx1, hx2⟩ := key q (by omega)
          refine ⟨l ++ [x], max K1 K2, by simp [hll], fun y hy => ?_, fun i y hi => ?_⟩
          · rcases List.mem_append.1 hy with hy | hy
            · exact hlo y hy
            · simp only [List.mem_singleton] at hy; subst hy; exact hxo
          rw [List.getElem?_append] at hi
          split at hi
          · obtain ⟨cs'', q1, q2⟩ := hlx i y hi
            exact ⟨cs'', fun K hK => q1 K (by omega), q2⟩
          · rename_i hge
            have hi0 : i = q := by
              have := (List.getElem?_eq_some_iff.1 hi).1
              simp at this; omega
            subst hi0
            rw [hll, Nat.sub_self] at hi
            simp only [List.getElem?_cons_zero, Option.some.injEq] at hi
            subst hi
            exact ⟨cs', fun K hK => hx1 K (by omega), hx2⟩
      obtain ⟨l, K1, hll, hlo, hlx⟩ := hlist len hl
      subst hll
      refine ⟨some ⟨b, off, none⟩, m, l, max K1 (off + l.length * t.size), rfl, hlo, fun K hK => ⟨hl, hm, .inr ⟨b, off, K, rfl, by simp [gh, hblt], by omega, fun i x hi => ?_⟩⟩⟩
      obtain ⟨cs', q1, q2⟩ := hlx i x hi
      exact ⟨cs', q1 K (by omega), q2⟩
/-- an array that reads, of a type without references -/
theorem rd_arr {P : Program} {α : Type} {t : FT α} {ok : α → Prop} {T E : TypeId} {m : Nat} {H : Type} {enc : TypeId × Value → H} {W : World} {n : Nat} {cs : List Value} {d : DataW H × List MemPlace} (ht : P.underlying T = some (.array m E)) (hE : RdT P t.ty ok E) (hsz : P.cellsOf E = t.size) (hT : P.cellsOf T = m * t.size)
    (h : DataW.trod enc P W 0 (fun _ => true) true n T cs = some d) : ∃ l : List α, l.length = m ∧ cs = encs t l ∧ ∀ x ∈ l, ok x := by
  cases n with
  | zero => simp [DataW.trod] at h
  | succ n =>
    unfold DataW.trod at h
    rw [ht] at h
    simp only at h
    split at h
    · rename_i hl
      rw [Option.map_eq_some_iff] at h
      obtain ⟨xs, hxs, _⟩ := h
      have hlen := mapM_some_length hxs
      rw [hT] at hl
      have key : ∀ i, i < m → ∃ x, ok x ∧ (cs.drop (i * t.size)).take t.size = t.enc x := fun i hi => by
        have hg := mapM_some_get hxs i i (by simp [hi])
        have hlt : i < xs.length := by rw [hlen]; simpa using hi
        rw [List.getElem?_eq_getElem hlt, hsz] at hg
        obtain ⟨x, K0, hok, hr⟩ := hE _ _ _ _ _ _ hg
        exact ⟨x, hok, hr K0 (Nat.le_refl _)⟩
      have hlist : ∀ q, q ≤ m → ∃ l : List α, l.length = q ∧ cs.take (q * t.size) = encs t l ∧ ∀ x ∈ l, ok x := fun q => by
        induction q with
        | zero => intro _; exact ⟨[], rfl, by simp [encs], by simp⟩
        | succ q ih =>
          intro hq
          obtain ⟨l, h1, h2, h3⟩ := ih (by omega)
          obtain ⟨x, hx1, hx2⟩ := key q (by omega)
          refine ⟨l ++ [x], by simp [h1], ?_, fun y hy => ?_⟩
          · rw [Nat.add_mul, Nat.one_mul, List.take_add, h2, hx2]
            simp [encs]
          · rcases List.mem_append.1 hy with hy | hy
            · exact h3 y hy
            · simp only [List.mem_singleton] at hy; subst hy; exact hx1
      obtain ⟨l, h1, h2, h3⟩ := hlist m (Nat.le_refl _)
      exact ⟨l, h1, by rw [← h2, List.take_of_length_le (by omega)], h3⟩
    · cases h
/-- .. of any type -/
theorem rd_arrT {P : Program} {α : Type} {t : Ty α} {ok : α → Prop} {T E : TypeId} {m : Nat} {H : Type} {enc : TypeId × Value → H} {W : World} {n : Nat} {cs : List Value} {d : DataW H × List MemPlace} (ht : P.underlying T = some (.array m E)) (hE : RdT P t ok E) (hsz : P.cellsOf E = t.size) (hT : P.cellsOf T = m * t.size)
    (h : DataW.trod enc P W 0 (fun _ => true) true n T cs = some d) : ∃ (l : List α) (K0 : Nat), (∀ x ∈ l, ok x) ∧ ∀ K, K0 ≤ K → ArrP t (gh K W) W cs m l := by
  cases n with
  | zero => simp [DataW.trod] at h
  | succ n =>
    unfold DataW.trod at h
    rw [ht] at h
    simp only at h
    split at h
    · rename_i hl
      rw [Option.map_eq_some_iff] at h
      obtain ⟨xs, hxs, _⟩ := h
      have hlen := mapM_some_length hxs
      rw [hT] at hl
      have key : ∀ i, i < m → ∃ x K0, ok x ∧ ∀ K, K0 ≤ K → t.rep (gh K W) W ((cs.drop (i * t.size)).take t.size) x := fun i hi => by
        have hg := mapM_some_get hxs i i (by simp [hi])
        have hlt : i < xs.length := by rw [hlen]; simpa using hi
        rw [List.getElem?_eq_getElem hlt, hsz] at hg
        exact hE _ _ _ _ _ _ hg
      have hlist : ∀ q, q ≤ m → ∃ (l : List α) (K0 : Nat), l.length = q ∧ (∀ x ∈ l, ok x) ∧ ∀ K, K0 ≤ K → ∀ i x, l[i]? = some x → t.rep (gh K W) W ((cs.drop (i * t.size)).take t.size) x := fun q => by
        induction q with
        | zero => intro _; exact ⟨[], 0, rfl, by simp, fun K _ i x hi => by simp at hi⟩
        | succ q ih =>
          intro hq
          obtain ⟨l, K1, h1, h2, h3⟩ := ih (by omega)
          obtain ⟨x, K2, hx1, hx2⟩ := key q (by omega)
          refine ⟨l ++ [x], max K1 K2, by simp [h1], fun y hy => ?_, fun K hK i y hi => ?_⟩
          · rcases List.mem_append.1 hy with hy | hy
            · exact h2 y hy
            · simp only [List.mem_singleton] at hy; subst hy; exact hx1
          · rw [List.getElem?_append] at hi
            split at hi
            · exact h3 K (by omega) i y hi
            · have hi0 : i = q := by
                have := (List.getElem?_eq_some_iff.1 hi).1
                simp at this; omega
              subst hi0
              rw [h1, Nat.sub_self] at hi
              simp only [List.getElem?_cons_zero, Option.some.injEq] at hi
              subst hi
              exact hx2 K (by omega)
      obtain ⟨l, K0, h1, h2, h3⟩ := hlist m (Nat.le_refl _)
      refine ⟨l, K0, h2, fun K hK => ⟨h1, by omega, fun v hv => ?_, h3 K hK⟩⟩
      obtain ⟨i, hi, rfl⟩ := List.getElem_of_mem hv
      rcases Nat.eq_zero_or_pos t.size with h0 | h0
      · rw [h0] at hl; omega
      · have hdiv : i / t.size < m := by rw [Nat.div_lt_iff_lt_mul h0]; omega
        have hil : i / t.size < l.length := by omega
        have hr := h3 K hK (i / t.size) _ (List.getElem?_eq_getElem hil)
        refine t.one hr _ (List.mem_of_getElem? (i := i % t.size) ?_)
        have hmod := Nat.mod_lt i h0
        rw [List.getElem?_take, if_pos hmod, List.getElem?_drop]
        have : i / t.size * t.size + i % t.size = i := Nat.div_add_mod' i t.size
        rw [this]
        exact List.getElem?_eq_getElem hi
    · cases h
/-- a row of cells, as its pieces -/
def cat (cs : List Value) : Nat → List Nat → List Value
  | _, [] => []
  | o, n :: ns => (cs.drop o).take n ++ cat cs (o + n) ns
theorem cat_eq (cs : List Value) : ∀ (ns : List Nat) (o : Nat), o + ns.sum = cs.length → cat cs o ns = cs.drop o := fun ns => by
  induction ns with
  | nil => intro o h; simp at h; subst h; simp [cat]
  | cons n ns ih =>
    intro o h
    simp only [List.sum_cons] at h
    rw [cat, ih (o + n) (by omega), ← List.drop_drop, List.take_append_drop]
theorem pieces {cs : List Value} (ns : List Nat) (h : cs.length = ns.sum) : cs = cat cs 0 ns := by
  rw [cat_eq cs ns 0 (by omega)]; rfl
/-- an argument that is a struct: a row of cells that reads -/
theorem arg_struct {P : Program} {T : TypeId} {fs : Array Field} {H : Type} {enc : TypeId × Value → H} {W : World} {v : Value} {d : DataW H} {ps : List MemPlace} (ht : P.underlying T = some (.struct fs)) (h : DataW.Trod enc P W 0 (fun _ => true) true T v d ps) {base : Nat} (hok : Value.okWide P W .any base T v) :
    ∃ cs : List Value, v = .agg cs.toArray ∧ ∃ n d', DataW.trod enc P W 0 (fun _ => true) true n T cs = some d' := by
  unfold Value.okWide at hok
  rw [ht] at hok
  obtain ⟨⟨cs⟩, rfl, _⟩ := hok
  obtain ⟨n, h⟩ := h
  exact ⟨cs, rfl, n, _, h⟩
/-- one that is a slice -/
theorem arg_slice {P : Program} {T E : TypeId} {H : Type} {enc : TypeId × Value → H} {W : World} {v : Value} {d : DataW H} {ps : List MemPlace} (ht : P.underlying T = some (.slice E)) (h : DataW.Trod enc P W 0 (fun _ => true) true T v d ps) {base : Nat} (hok : Value.okWide P W .any base T v) :
    ∃ n d', DataW.trod enc P W 0 (fun _ => true) true n T [v] = some d' := by
  obtain ⟨n, h⟩ := h
  have hv : ∃ p l c, v = .slice p l c := by
    unfold Value.okWide Cell.okWide at hok
    simp only [ht] at hok
    cases v <;> simp_all [Cell.ok]
  obtain ⟨p, l, c, rfl⟩ := hv
  exact ⟨n, _, h⟩
theorem arg_int {P : Program} {T : TypeId} {k : IntKind} {H : Type} {enc : TypeId × Value → H} {W : World} {v : Value} {d : DataW H} {ps : List MemPlace} (ht : P.underlying T = some (.int k)) (h : DataW.Trod enc P W 0 (fun _ => true) true T v d ps) {base : Nat} (hok : Value.okWide P W .any base T v) : ∃ x, v = .int k x ∧ inI k x := by
  obtain ⟨n, h⟩ := h
  obtain ⟨x, K0, hx, hr⟩ := rd_int ht _ _ _ _ _ _ h
  have hr' : v.cells.toList = [.int k x] := hr K0 (Nat.le_refl _)
  refine ⟨x, ?_, hx⟩
  unfold Value.okWide Cell.okWide at hok
  simp only [ht] at hok
  cases v <;> simp_all [Cell.ok, Value.cells]
theorem arg_str {P : Program} {T : TypeId} {H : Type} {enc : TypeId × Value → H} {W : World} {v : Value} {d : DataW H} {ps : List MemPlace} (ht : P.underlying T = some .string) (h : DataW.Trod enc P W 0 (fun _ => true) true T v d ps) {base : Nat} (hok : Value.okWide P W .any base T v) : ∃ x, v = .string x ∧ okS x := by
  obtain ⟨n, h⟩ := h
  obtain ⟨x, K0, hx, hr⟩ := rd_str ht _ _ _ _ _ _ h
  have hr' : v.cells.toList = [.string x] := hr K0 (Nat.le_refl _)
  refine ⟨x, ?_, hx⟩
  unfold Value.okWide Cell.okWide at hok
  simp only [ht] at hok
  cases v <;> simp_all [Cell.ok, Value.cells]
theorem arg_bool {P : Program} {T : TypeId} {H : Type} {enc : TypeId × Value → H} {W : World} {v : Value} {d : DataW H} {ps : List MemPlace} (ht : P.underlying T = some .bool) (h : DataW.Trod enc P W 0 (fun _ => true) true T v d ps) {base : Nat} (hok : Value.okWide P W .any base T v) : ∃ x, v = .bool x := by
  obtain ⟨n, h⟩ := h
  obtain ⟨x, K0, _, hr⟩ := rd_bool ht _ _ _ _ _ _ h
  have hr' : v.cells.toList = [.bool x] := hr K0 (Nat.le_refl _)
  refine ⟨x, ?_⟩
  unfold Value.okWide Cell.okWide at hok
  simp only [ht] at hok
  cases v <;> simp_all [Cell.ok, Value.cells]
theorem arg_arr {P : Program} {T E : TypeId} {m : Nat} {H : Type} {enc : TypeId × Value → H} {W : World} {v : Value} {d : DataW H} {ps : List MemPlace} (ht : P.underlying T = some (.array m E)) (h : DataW.Trod enc P W 0 (fun _ => true) true T v d ps) {base : Nat} (hok : Value.okWide P W .any base T v) :
    ∃ cs : List Value, v = .agg cs.toArray ∧ ∃ n d', DataW.trod enc P W 0 (fun _ => true) true n T cs = some d' := by
  unfold Value.okWide at hok
  rw [ht] at hok
  obtain ⟨⟨cs⟩, rfl, _⟩ := hok
  obtain ⟨n, h⟩ := h
  exact ⟨cs, rfl, n, _, h⟩
/-- a struct that reads: its parts read -/
theorem rd_struct {P : Program} {T : TypeId} {fs : Array Field} {H : Type} {enc : TypeId × Value → H} {W : World} {n : Nat} {cs : List Value} {d : DataW H × List MemPlace} (ht : P.underlying T = some (.struct fs)) (h : DataW.trod enc P W 0 (fun _ => true) true n T cs = some d) :
    cs.length = P.cellsOf T ∧ ∃ k, ∀ f ∈ fs.toList, ∃ d', DataW.trod enc P W 0 (fun _ => true) true k f.type ((cs.drop f.offset).take (P.cellsOf f.type)) = some d' := by
  cases n with
  | zero => simp [DataW.trod] at h
  | succ n =>
    unfold DataW.trod at h
    rw [ht] at h
    simp only at h
    split at h
    · rename_i hl
      refine ⟨hl, n, ?_⟩
      rw [Option.map_eq_some_iff] at h
      obtain ⟨xs, hxs, _⟩ := h
      intro f hf
      obtain ⟨i, hi, rfl⟩ := List.getElem_of_mem hf
      have hlen := mapM_some_length hxs
      have hlt : i < xs.length := by omega
      have hg := mapM_some_get hxs i _ (List.getElem?_eq_getElem hi)
      rw [List.getElem?_eq_getElem hlt] at hg
      exact ⟨_, hg⟩
    · cases h
/-- all arguments read as they did, where nothing that was there has turned -/
theorem trodAll_stays {P : Program} {H : Type} {enc : TypeId × Value → H} {W W' : World} {sp : Nat → Bool} (hl : laidOutB P = true) : ∀ {ts : List TypeId} {vs : List Value} {ds : List (DataW H)} {ps : List MemPlace}, (ts.all fun t => P.readableRec t && decide (t < P.types.size)) = true →
    DataW.TrodAll enc P W 0 (fun _ => true) true ts vs ds ps → (∀ p ∈ ps, W.sameAt W' p) → (∀ p ∈ ps, sp p.block = true) → DataW.TrodAll enc P W' 0 sp true ts vs ds ps := by
  intro ts
  induction ts with
  | nil => intro vs ds ps _ h _ _; cases vs <;> cases ds <;> simp_all [DataW.TrodAll]
  | cons t ts ih =>
    intro vs ds ps ht h hs hsp
    cases vs with
    | nil => simp [DataW.TrodAll] at h
    | cons v vs =>
      cases ds with
      | nil => simp [DataW.TrodAll] at h
      | cons d ds =>
        obtain ⟨p, q, h1, h2, rfl⟩ := h
        simp only [List.all_cons, Bool.and_eq_true, decide_eq_true_eq] at ht
        exact ⟨p, q, WideElems.Trod_stays hl ht.1.1 ht.1.2 h1 (fun x hx => hs x (by simp [hx])) (fun x hx => hsp x (by simp [hx])), ih (by simpa using ht.2) h2 (fun x hx => hs x (by simp [hx])) (fun x hx => hsp x (by simp [hx])), rfl⟩
theorem sameAt_of {W W' : World} (h : ∀ b, b < W.heap.size → W'.heap[b]? = W.heap[b]?) {p : MemPlace} (hp : p.block < W.heap.size) : W.sameAt W' p := by
  cases p with
  | cell b off => exact cell_of_heap (h b hp)
  | map b => exact h b hp
/-- a law's contract: nothing that was there has turned -/
theorem law_kept {P : Program} {f : FuncId} {args : Array Value} {κ : Gh} {w : World} {b : Bool} {φ : Gh → World → Prop} (hb : b = true) (h : Calls P f args w (Post [] κ w fun v κ w => v = .bool b ∧ φ κ w)) :
    Calls P f args w fun e w' => e = .returned (.bool true) ∧ RowKit.Grown w w' ∧ ∀ b, b < w.heap.size → w'.heap[b]? = w.heap[b]? := by
  subst hb
  exact h.mono fun e w' ⟨v, κ', he, hx, _, hv, _⟩ => ⟨by rw [he, hv], hx.grown, fun b hb => (hx.keep b hb (by simp)).1⟩
end Go.Cf
