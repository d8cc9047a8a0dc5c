/- Part 1 of a small program logic over the kit's wp: frames by facts, pure runs, sequencing. -/
import Derived.Test.YtkkbmgapcidmnaaGreatRows
import Derived.RangeFuncIn
import Derived.TacticsIn
import Derived.OrdersIn
import Derived.Below
import Derived.WalkKit
import Derived.RowKit3
import Derived.Laws.AppendOwn
import Derived.Deep.DeepAppendWide
import Derived.Lib.AppendStr
import Derived.ChangeKeysEq
import Derived.Laws.StructEq
namespace Go.Cf
open Go
/-- the walk's fence: everything is let in; in a round of the loop l, or in none -/
def FW (ro : Option Nat) : Fence := { fn := fun _ => True, depth := none, alive := false, round := ro }
abbrev FL := List (Nat × Value)
/-- what is known of an activation: its marks, the number of its slots, some slots' values -/
structure Fr (N : Nat) (D : List Deferred) (L : FL) (a : Act) : Prop where
  defers : a.defers = D
  size : a.tmps.size = N
  val : ∀ t v, L.lookup t = some v → a.tmps[t]? = some v
def ev (L : FL) : Operand → Option Value
  | .tmp t => L.lookup t
  | .const v => some v
  | .global g => some (.pointer (some ⟨g, 0, none⟩))
  | .func f => some (.func (.func f) #[] #[])
def evD (L : FL) (x : Operand) : Value := (ev L x).getD undef
def covers (L : FL) (o : Oper) : Bool := o.op.operands.all fun x => (ev L x).isSome
def upd (L : FL) (d : Option Tmp) (v : Value) : FL :=
  match d with
  | some d => (d, v) :: L.filter fun p => p.1 != d
  | none => L
theorem lookup_filter_ne (L : FL) (d t : Nat) (h : t ≠ d) : (L.filter fun p => p.1 != d).lookup t = L.lookup t := by
  induction L with
  | nil => rfl
  | cons p L ih =>
    obtain ⟨k, v⟩ := p
    by_cases hk : k = d
    · subst hk
      have hb : (t == k) = false := by simp [h]
      simp [ih, List.lookup_cons, hb]
    · have : (k != d) = true := by simp [hk]
      simp only [List.filter_cons, this, if_true, List.lookup_cons, ih]
theorem Fr.put {N : Nat} {D : List Deferred} {L : FL} {a : Act} (h : Fr N D L a) (d : Option Tmp) (v : Value) (hd : ∀ t, d = some t → t < N) : Fr N D (upd L d v) (a.put d v) := by
  cases d with
  | none => exact h
  | some d =>
    have hd' := hd d rfl
    refine ⟨h.defers, by simp [Act.put, h.size], fun t u hu => ?_⟩
    simp only [upd, List.lookup_cons] at hu
    by_cases ht : t = d
    · subst ht
      simp at hu; subst hu
      simp [Act.put, h.size, hd']
    · have hb : (t == d) = false := by simp [ht]
      rw [hb] at hu
      simp only at hu
      rw [lookup_filter_ne L d t ht] at hu
      have := h.val t u hu
      simp only [Act.put]
      rw [Array.getElem?_setIfInBounds_ne (Ne.symm ht)]
      exact this
theorem Fr.ev {N : Nat} {D : List Deferred} {L : FL} {a : Act} (h : Fr N D L a) {x : Operand} {v : Value} (hx : ev L x = some v) : a.eval x = v := by
  cases x with
  | tmp t =>
    have := h.val t v hx
    simp [Act.eval, this]
  | const u => simpa [Cf.ev, Act.eval] using hx
  | global g => simpa [Cf.ev, Act.eval] using hx
  | func f => simpa [Cf.ev, Act.eval] using hx
theorem Fr.evD {N : Nat} {D : List Deferred} {L : FL} {a : Act} (h : Fr N D L a) {x : Operand} (hx : (Cf.ev L x).isSome = true) : a.eval x = Cf.evD L x := by
  obtain ⟨v, hv⟩ := Option.isSome_iff_exists.1 hx
  rw [h.ev hv, Cf.evD, hv]; rfl
def notSelect (o : Oper) : Bool := match o.op with | .select .. => false | .defer .. => false | _ => true
theorem exec_eq {N : Nat} {D : List Deferred} {L : FL} {a : Act} (h : Fr N D L a) {o : Oper} (hc : covers L o = true) (hn : notSelect o = true) : execOp a.eval o = execOp (evD L) o := by
  refine execOp_congr o (fun cs b e => by simp [notSelect, e] at hn) (fun x hx => h.evD ?_)
  have := Array.all_eq_true_iff_forall_mem.1 hc x hx
  exact this
/-- keep these slots alone -/
def keep (L : FL) (ks : List Nat) : FL := ks.filterMap fun k => (L.lookup k).map fun v => (k, v)
theorem lookup_keep (L : FL) (ks : List Nat) (t : Nat) (v : Value) (h : (keep L ks).lookup t = some v) : L.lookup t = some v := by
  induction ks with
  | nil => simp [keep] at h
  | cons k ks ih =>
    simp only [keep, List.filterMap_cons] at h
    cases hk : L.lookup k with
    | none => rw [hk] at h; exact ih h
    | some u =>
      rw [hk] at h
      simp only [Option.map_some, List.lookup_cons] at h
      by_cases e : t = k
      · subst e; simp at h; subst h; exact hk
      · have hb : (t == k) = false := by simp [e]
        rw [hb] at h; exact ih h
theorem Fr.keep {N : Nat} {D : List Deferred} {L : FL} {a : Act} (h : Fr N D L a) (ks : List Nat) : Fr N D (Cf.keep L ks) a :=
  ⟨h.defers, h.size, fun t v hv => h.val t v (lookup_keep L ks t v hv)⟩
def pureRun {α : Type} (P : Program) : Sem α → Option α
  | .pure a => some a
  | .program k => pureRun P (k P)
  | .mark _ k => pureRun P k
  | _ => none
theorem pureRun_run {α : Type} {P : Program} (s : Sem α) {a : α} (h : pureRun P s = some a) (w : World) : s.run P w = .ok a w := by
  induction s with
  | pure b => simp [pureRun] at h; subst h; rfl
  | program k ih => exact ih P h
  | mark m k ih => exact ih h
  | load _ _ _ _ => simp [pureRun] at h
  | store _ _ _ _ _ => simp [pureRun] at h
  | new _ _ _ => simp [pureRun] at h
  | shape _ _ _ => simp [pureRun] at h
  | freeze _ _ _ _ => simp [pureRun] at h
  | frozen _ _ _ => simp [pureRun] at h
  | getObj _ _ _ => simp [pureRun] at h
  | setObj _ _ _ _ => simp [pureRun] at h
  | choose _ _ _ => simp [pureRun] at h
  | sys _ _ _ => simp [pureRun] at h
  | halt _ => simp [pureRun] at h
def pval (P : Program) (L : FL) (o : Oper) : Option Value :=
  match pureRun P (execOp (evD L) o) with
  | some (.value v) => some v
  | _ => none
/-- is the operation carried out? (none: not known) -/
def goes (ops : Array Oper) (L : FL) (o : Oper) : Option Bool :=
  match o.guard with
  | none => some true
  | some (j, want) => match (ops[j]?).bind (·.dst) with
    | none => some false
    | some d => match L.lookup d with
      | some (.bool b) => some (b == want)
      | some (.tuple _) => some false
      | _ => none
theorem goes_wanted {N : Nat} {D : List Deferred} {ops : Array Oper} {L : FL} {a : Act} (h : Fr N D L a) {o : Oper} {b : Bool} (hg : goes ops L o = some b) : Region.wanted o (yielded ops a.tmps) = b := by
  unfold goes at hg
  unfold Region.wanted
  cases hgu : o.guard with
  | none => rw [hgu] at hg; simpa using hg
  | some jw =>
    obtain ⟨j, want⟩ := jw
    rw [hgu] at hg
    simp only at hg ⊢
    cases hd : (ops[j]?).bind (·.dst) with
    | none =>
      rw [hd] at hg
      have hy : yielded ops a.tmps j = none := by unfold yielded; rw [hd]; rfl
      rw [hy]
      simpa using hg
    | some d =>
      rw [hd] at hg
      simp only at hg
      cases hl : L.lookup d with
      | none => rw [hl] at hg; simp at hg
      | some v =>
        rw [hl] at hg
        cases v with
        | bool c =>
          simp only [Option.some.injEq] at hg
          have hy : yielded ops a.tmps j = some c := by
            unfold yielded; rw [hd]
            simp only [Option.bind_some, h.val d _ hl]
          rw [hy]
          subst hg
          cases c <;> cases want <;> rfl
        | tuple vs =>
          simp only [Option.some.injEq] at hg
          have hy : yielded ops a.tmps j = none := by
            unfold yielded; rw [hd]
            simp only [Option.bind_some, h.val d _ hl]
          rw [hy]
          subst hg
          rfl
        | _ => simp at hg
def okDst (N : Nat) (o : Oper) : Bool := match o.dst with | some d => decide (d < N) | none => true
theorem okDst_spec {N : Nat} {o : Oper} (h : okDst N o = true) : ∀ t, o.dst = some t → t < N := by
  intro t ht; unfold okDst at h; rw [ht] at h; simpa using h
/-- one operation that asks nothing of the world, or that is not carried out: the facts behind it -/
def pstep (P : Program) (ops : Array Oper) (N : Nat) (L : FL) (o : Oper) : Option FL :=
  if !(okDst N o && notSelect o) then none else
  match goes ops L o with
  | some true => if covers L o then (pval P L o).map fun v => upd L o.dst v else none
  | some false => match o.op with
    | .call _ => none
    | _ => some (upd L o.dst undef)
  | none => none
def pskip (ops : Array Oper) (N : Nat) (L : FL) (o : Oper) : Option FL :=
  if !(okDst N o) then none else
  match goes ops L o with
  | some false => some (upd L o.dst undef)
  | _ => none
def psteps (P : Program) (ops : Array Oper) (N : Nat) : List Oper → FL → Option FL
  | [], L => some L
  | o :: l, L => match (match pstep P ops N L o with | some L' => some L' | none => pskip ops N L o) with
    | some L' => psteps P ops N l L'
    | none => none
section
variable {ro : Option Nat} {P : Program} {ops : Array Oper} {Q : Exit → Act → World → Prop} {N : Nat} {D : List Deferred} {L L' : FL} {a : Act} {w : World} {o : Oper} {K : Act → World → Prop}
abbrev wl (ro : Option Nat) (P : Program) (ops : Array Oper) (Q : Exit → Act → World → Prop) : List Oper → Act → World → Prop := wpListIn (FW ro) 0 P ops Q
abbrev wo (ro : Option Nat) (P : Program) (o : Oper) (a : Act) (w : World) (K : Act → World → Prop) (Q : Exit → Act → World → Prop) : Prop := o.wpIn (FW ro) 0 P a w K Q
theorem semAt_eq (h : Fr N D L a) (hc : covers L o = true) (hn : notSelect o = true) : o.semAt ro a.eval = execOp (evD L) o := by
  rw [Oper.semAt_eq ro a.eval o (fun c e => by simp [notSelect, e] at hn)]
  exact exec_eq h hc hn
/-- an operation's run is known: a value, in another world -/
theorem wo_val (h : Fr N D L a) (hc : (covers L o && notSelect o && okDst N o) = true) {v : Value} {w' : World} (hr : (execOp (evD L) o).run P w = .ok (.value v) w')
    (k : ∀ a', Fr N D (upd L o.dst v) a' → K a' w') : wo ro P o a w K Q := by
  simp only [Bool.and_eq_true] at hc
  refine ⟨fun _ _ => trivial, ?_⟩
  show o.uponIn (FW ro) 0 P a K Q ((o.semAt ro a.eval).run P w)
  rw [semAt_eq h hc.1.1 hc.1.2, hr]
  exact k _ (h.put _ _ (okDst_spec hc.2))
theorem wl_consg (hF : Fr N D L a) (hg : goes ops L o = some true) {l : List Oper} (h : wo ro P o a w (wl ro P ops Q l) Q) : wl ro P ops Q (o :: l) a w := by
  show wpListIn _ _ _ _ _ _ _ _
  unfold wpListIn
  rw [if_pos (goes_wanted hF hg)]
  exact h
theorem wl_pskip (hF : Fr N D L a) (hp : pskip ops N L o = some L') {l : List Oper} (k : ∀ a', Fr N D L' a' → wl ro P ops Q l a' w) : wl ro P ops Q (o :: l) a w := by
  unfold pskip at hp
  split at hp
  · cases hp
  · rename_i hd
    simp only [Bool.not_eq_true, Bool.not_eq_false'] at hd
    split at hp
    · rename_i hg
      simp only [Option.some.injEq] at hp
      subst hp
      show wpListIn _ _ _ _ _ _ _ _
      unfold wpListIn
      rw [if_neg (by rw [goes_wanted hF hg]; decide)]
      exact ⟨fun _ _ => trivial, k _ (hF.put _ _ (okDst_spec hd))⟩
    · cases hp
theorem wl_pstep (hF : Fr N D L a) (hp : pstep P ops N L o = some L') {l : List Oper} (k : ∀ a', Fr N D L' a' → wl ro P ops Q l a' w) : wl ro P ops Q (o :: l) a w := by
  unfold pstep at hp
  split at hp
  · cases hp
  · rename_i hd
    have hd' : okDst N o = true ∧ notSelect o = true := by
      revert hd; cases okDst N o <;> cases notSelect o <;> simp
    split at hp
    · rename_i hg
      split at hp
      · rename_i hcov
        cases hv : pval P L o with
        | none => rw [hv] at hp; cases hp
        | some v =>
          rw [hv] at hp
          simp only [Option.map_some, Option.some.injEq] at hp
          subst hp
          refine wl_consg hF hg (wo_val hF (by simp [hcov, hd'.1, hd'.2]) (v := v) (w' := w) ?_ k)
          unfold pval at hv
          split at hv
          · rename_i u hu
            simp only [Option.some.injEq] at hv
            subst hv
            exact pureRun_run _ hu w
          · cases hv
      · cases hp
    · rename_i hg
      split at hp
      · cases hp
      · simp only [Option.some.injEq] at hp
        subst hp
        show wpListIn _ _ _ _ _ _ _ _
        unfold wpListIn
        rw [if_neg (by rw [goes_wanted hF hg]; decide)]
        exact ⟨fun _ _ => trivial, k _ (hF.put _ _ (okDst_spec hd'.1))⟩
    · cases hp
/-- a stretch of operations that ask nothing of the world -/
theorem wl_psteps {l₁ l₂ : List Oper} : ∀ {L : FL} {a : Act}, Fr N D L a → psteps P ops N l₁ L = some L' → (∀ a', Fr N D L' a' → wl ro P ops Q l₂ a' w) → wl ro P ops Q (l₁ ++ l₂) a w := by
  induction l₁ with
  | nil => intro L a hF hp k; simp only [psteps, Option.some.injEq] at hp; subst hp; exact k a hF
  | cons o l ih =>
    intro L a hF hp k
    simp only [psteps] at hp
    split at hp
    · rename_i L1 h1
      cases h2 : pstep P ops N L o with
      | some L2 =>
        rw [h2] at h1
        simp only [Option.some.injEq] at h1
        subst h1
        exact wl_pstep hF h2 fun a' hF' => ih hF' hp k
      | none =>
        rw [h2] at h1
        exact wl_pskip hF h1 fun a' hF' => ih hF' hp k
    · cases hp
/-- the same, said of the number of operations, and of the slots that are kept -/
theorem wl_pure (n : Nat) (ks : List Nat) {l : List Oper} (hF : Fr N D L a) (hp : (psteps P ops N (l.take n) L).map (fun x => keep x ks) = some L')
    (k : ∀ a', Fr N D L' a' → wl ro P ops Q (l.drop n) a' w) : wl ro P ops Q l a w := by
  cases h : psteps P ops N (l.take n) L with
  | none => rw [h] at hp; cases hp
  | some L1 =>
    rw [h] at hp
    simp only [Option.map_some, Option.some.injEq] at hp
    subst hp
    have := wl_psteps (ro := ro) (Q := Q) (w := w) (l₂ := l.drop n) hF h fun a' hF' => k a' (hF'.keep ks)
    rwa [List.take_append_drop] at this
def argsL (args : Array Value) : FL := args.toList.zipIdx.map fun p => (p.2, p.1)
theorem lookup_argsL (vs : List Value) : ∀ (k t : Nat) (v : Value), ((vs.zipIdx k).map fun p => (p.2, p.1)).lookup t = some v → k ≤ t ∧ vs[t - k]? = some v := by
  induction vs with
  | nil => intro k t v h; simp at h
  | cons x vs ih =>
    intro k t v h
    simp only [List.zipIdx_cons, List.map_cons, List.lookup_cons] at h
    by_cases e : t = k
    · subst e; simp at h; subst h; simp
    · have hb : (t == k) = false := by simp [e]
      rw [hb] at h
      obtain ⟨h1, h2⟩ := ih (k + 1) t v h
      refine ⟨by omega, ?_⟩
      rw [show t - k = (t - (k + 1)) + 1 from by omega]
      simpa using h2
/-- into a function -/
theorem enter {f : FuncId} {fn : Func} {c : Code} {args : Array Value} {R : Ending → World → Prop} (hf : P.funcs[f]? = some fn) (hb : fn.body = some c) (hn : fn.ntmps = N) (hs : args.size ≤ N) (hL : argsL args = L)
    (h : ∀ a, Fr N [] L a → c.wpIn (FW none) 0 P (bodyPost P fn R) a w) : Calls P f args w R := by
  refine (callsIn_wide (n := 0)).1 ?_
  refine callsIn_of_wp hf hb trivial ?_ rfl
  refine h _ ⟨rfl, by simp [hn]; omega, fun t v ht => ?_⟩
  subst hL
  obtain ⟨_, h2⟩ := lookup_argsL args.toList 0 t v ht
  simp only [Nat.sub_zero] at h2
  have h3 : args[t]? = some v := by simpa using h2
  have hlt : t < args.size := by
    rcases Nat.lt_or_ge t args.size with h | h
    · exact h
    · rw [Array.getElem?_eq_none h] at h3; cases h3
  show (args ++ Array.replicate (fn.ntmps - args.size) undef)[t]? = some v
  rw [Array.getElem?_append_left hlt]
  exact h3
end
end Go.Cf
namespace Go.Cf
open Go
/-- the ghost: of a block whose first n cells are published (they never turn): n -/
abbrev Gh := Nat → Option Nat
/-- from (κ, w) to (κ', w') nothing but the blocks of M, and new ones, has turned; what is published stays -/
structure Ext (M : List Nat) (κ : Gh) (w : World) (κ' : Gh) (w' : World) : Prop where
  os : w'.os = w.os
  out : w'.output = w.output
  tape : w'.tape = w.tape
  size : w.heap.size ≤ w'.heap.size
  keep : ∀ b, b < w.heap.size → b ∉ M → w'.heap[b]? = w.heap[b]? ∧ κ' b = κ b
  pub : ∀ b n, κ b = some n → ∃ n', κ' b = some n' ∧ n ≤ n' ∧ ∀ i, i < n → w'.cell? ⟨b, i, none⟩ = w.cell? ⟨b, i, none⟩
def Fresh (κ : Gh) (w : World) : Prop := ∀ b, w.heap.size ≤ b → κ b = none
theorem Ext.refl (M : List Nat) (κ : Gh) (w : World) : Ext M κ w κ w :=
  ⟨rfl, rfl, rfl, Nat.le_refl _, fun _ _ _ => ⟨rfl, rfl⟩, fun _ n h => ⟨n, h, Nat.le_refl _, fun _ _ => rfl⟩⟩
theorem Ext.trans {M : List Nat} {κ κ' κ'' : Gh} {w w' w'' : World} (h : Ext M κ w κ' w') (k : Ext M κ' w' κ'' w'') : Ext M κ w κ'' w'' where
  os := k.os.trans h.os
  out := k.out.trans h.out
  tape := k.tape.trans h.tape
  size := Nat.le_trans h.size k.size
  keep := fun b hb hm => by
    obtain ⟨h1, h2⟩ := h.keep b hb hm
    obtain ⟨h3, h4⟩ := k.keep b (Nat.lt_of_lt_of_le hb h.size) hm
    exact ⟨h3.trans h1, h4.trans h2⟩
  pub := fun b n hn => by
    obtain ⟨n1, h1, h2, h3⟩ := h.pub b n hn
    obtain ⟨n2, h4, h5, h6⟩ := k.pub b n1 h1
    exact ⟨n2, h4, Nat.le_trans h2 h5, fun i hi => (h6 i (Nat.lt_of_lt_of_le hi h2)).trans (h3 i hi)⟩
/-- of blocks that were not there nothing is asked -/
theorem Ext.weaken {M M' : List Nat} {κ κ' : Gh} {w w' : World} (h : Ext M κ w κ' w') (hM : ∀ b, b ∈ M → b < w.heap.size → b ∈ M') : Ext M' κ w κ' w' :=
  ⟨h.os, h.out, h.tape, h.size, fun b hb hm => h.keep b hb fun hb' => hm (hM b hb' hb), h.pub⟩
/-- two steps; what the second may turn the first one made, or the whole may turn -/
theorem Ext.trans' {M M' : List Nat} {κ κ' κ'' : Gh} {w w' w'' : World} (h : Ext M κ w κ' w') (k : Ext M' κ' w' κ'' w'') (hM : ∀ b, b ∈ M' → w.heap.size ≤ b ∨ b ∈ M) : Ext M κ w κ'' w'' where
  os := k.os.trans h.os
  out := k.out.trans h.out
  tape := k.tape.trans h.tape
  size := Nat.le_trans h.size k.size
  keep := fun b hb hm => by
    obtain ⟨h1, h2⟩ := h.keep b hb hm
    obtain ⟨h3, h4⟩ := k.keep b (Nat.lt_of_lt_of_le hb h.size) (fun hb' => by rcases hM b hb' with h | h; omega; exact hm h)
    exact ⟨h3.trans h1, h4.trans h2⟩
  pub := fun b n hn => by
    obtain ⟨n1, h1, h2, h3⟩ := h.pub b n hn
    obtain ⟨n2, h4, h5, h6⟩ := k.pub b n1 h1
    exact ⟨n2, h4, Nat.le_trans h2 h5, fun i hi => (h6 i (Nat.lt_of_lt_of_le hi h2)).trans (h3 i hi)⟩
/-- a fact that stays -/
structure MP where
  p : Gh → World → Prop
  mono : ∀ {M κ w κ' w'}, Ext M κ w κ' w' → p κ w → p κ' w'
def MP.const (q : Prop) : MP := ⟨fun _ _ => q, fun _ h => h⟩
/-- how values of a Go type lie in cells -/
structure Ty (α : Type) where
  size : Nat
  rep : Gh → World → List Value → α → Prop
  len : ∀ {κ w cs x}, rep κ w cs x → cs.length = size
  one : ∀ {κ w cs x}, rep κ w cs x → ∀ v ∈ cs, v.oneCell' = true
  mono : ∀ {M κ w κ' w' cs x}, Ext M κ w κ' w' → rep κ w cs x → rep κ' w' cs x
/-- a type without references: its cells are known -/
structure FT (α : Type) where
  size : Nat
  enc : α → List Value
  len : ∀ x, (enc x).length = size
  one : ∀ x, ∀ v ∈ enc x, v.oneCell' = true
def FT.ty {α : Type} (t : FT α) : Ty α := ⟨t.size, fun _ _ cs x => cs = t.enc x, fun h => by rw [h, t.len], fun h v hv => t.one _ v (h ▸ hv), fun _ h => h⟩
def fInt (k : IntKind) : FT Int := ⟨1, fun x => [.int k x], fun _ => rfl, fun _ v hv => by simp at hv; subst hv; rfl⟩
def fBool : FT Bool := ⟨1, fun x => [.bool x], fun _ => rfl, fun _ v hv => by simp at hv; subst hv; rfl⟩
/-- the slice header (p, length, c) reads as the list l, and what it reads is published -/
def Ro {α : Type} (t : Ty α) (κ : Gh) (w : World) (p : Option Addr) (c : Nat) (l : List α) : Prop :=
  l.length ≤ c ∧ c ≤ maxLen ∧ ((l = [] ∧ c = 0) ∨ ∃ b off n, p = some ⟨b, off, none⟩ ∧ κ b = some n ∧ off + l.length * t.size ≤ n ∧
    ∀ i x, l[i]? = some x → ∃ cs, t.rep κ w cs x ∧ ∀ j v, cs[j]? = some v → w.cell? ⟨b, off + i * t.size + j, none⟩ = some v)
theorem Ro.mono {α : Type} {t : Ty α} {M : List Nat} {κ κ' : Gh} {w w' : World} {p : Option Addr} {c : Nat} {l : List α} (e : Ext M κ w κ' w') (h : Ro t κ w p c l) : Ro t κ' w' p c l := by
  obtain ⟨h1, h2, h3⟩ := h
  refine ⟨h1, h2, ?_⟩
  rcases h3 with h3 | ⟨b, off, n, hp, hk, hn, hc⟩
  · exact .inl h3
  · obtain ⟨n', hk', hle, hcell⟩ := e.pub b n hk
    refine .inr ⟨b, off, n', hp, hk', Nat.le_trans hn hle, fun i x hi => ?_⟩
    obtain ⟨cs, hr, hv⟩ := hc i x hi
    refine ⟨cs, t.mono e hr, fun j v hj => ?_⟩
    have hlt : i < l.length := (List.getElem?_eq_some_iff.1 hi).1
    have hjl : j < t.size := by rw [← t.len hr]; exact (List.getElem?_eq_some_iff.1 hj).1
    have hmul : i * t.size + t.size ≤ l.length * t.size := by
      have : (i + 1) * t.size ≤ l.length * t.size := Nat.mul_le_mul_right _ hlt
      rw [Nat.add_mul, Nat.one_mul] at this
      exact this
    rw [hcell (off + i * t.size + j) (by omega)]
    exact hv j v hj
def Ro.mp {α : Type} (t : Ty α) (p : Option Addr) (c : Nat) (l : List α) : MP := ⟨fun κ w => Ro t κ w p c l, Ro.mono⟩
theorem Ro.nil {α : Type} (t : Ty α) (κ : Gh) (w : World) : Ro t κ w none 0 ([] : List α) := ⟨Nat.le_refl _, Nat.zero_le _, .inl ⟨rfl, rfl⟩⟩
abbrev Segs := List (Nat × List Value)
def flat (s : Segs) : List Value := s.flatMap (·.2)
def tot (s : Segs) : Nat := (s.map (·.1)).sum
def segsOk (s : Segs) : Prop := ∀ x ∈ s, x.2.length = x.1
theorem flat_length {s : Segs} (h : segsOk s) : (flat s).length = tot s := by
  induction s with
  | nil => rfl
  | cons x s ih =>
    have h1 := h x (by simp)
    have h2 := ih fun y hy => h y (by simp [hy])
    simp only [flat, tot, List.flatMap_cons, List.length_append, List.map_cons, List.sum_cons] at *
    omega
/-- what somebody else keeps in blocks of his own while I run -/
structure XF where
  bs : List Nat
  p : Gh → World → Prop
  mono : ∀ {M κ w κ' w'}, Ext M κ w κ' w' → (∀ b ∈ bs, b < w.heap.size ∧ b ∉ M) → p κ w → p κ' w'
/-- what a call has for itself -/
inductive Ck where
  | box (b T : Nat) (s : Segs)
  | tok (p : Option Addr) (E size len c : Nat)
  | ext (x : XF)
def Ck.ok (κ : Gh) (w : World) : Ck → Prop
  | .box b T s => w.heap[b]? = some (.cells (flat s).toArray T (0, 0)) ∧ segsOk s ∧ κ b = none
  | .tok p E size len c => (len = 0 ∧ c = 0) ∨ ∃ b off cells, p = some ⟨b, off, none⟩ ∧ κ b = some (off + len * size) ∧ len ≤ c ∧ c ≤ maxLen ∧ w.heap[b]? = some (.cells cells E (0, 0)) ∧ cells.size = off + c * size
  | .ext x => x.p κ w
def Ck.blks : Ck → List Nat
  | .box b _ _ => [b]
  | .tok (some a) _ _ _ _ => [a.block]
  | .tok none _ _ _ _ => []
  | .ext x => x.bs
def blksOf (C : List Ck) : List Nat := C.flatMap Ck.blks
/-- what is known: since (κ0, w0) only M and new blocks have turned; the chunks C are had; the facts R hold -/
structure SS (M : List Nat) (κ0 : Gh) (w0 : World) (κ : Gh) (w : World) (C : List Ck) (R : List MP) : Prop where
  ext : Ext M κ0 w0 κ w
  fresh : Fresh κ w
  ok : ∀ c ∈ C, c.ok κ w
  lt : ∀ b ∈ blksOf C, b < w.heap.size
  nd : (blksOf C).Nodup
  own : ∀ b ∈ blksOf C, w0.heap.size ≤ b ∨ b ∈ M
  ro : ∀ m ∈ R, m.p κ w
section
variable {M : List Nat} {κ0 κ : Gh} {w0 w : World} {C C' : List Ck} {R R' : List MP}
theorem SS.get (h : SS M κ0 w0 κ w C R) (i : Nat) {m : MP} (hi : R[i]? = some m) : m.p κ w := h.ro m (List.mem_of_getElem? hi)
theorem SS.ck (h : SS M κ0 w0 κ w C R) (i : Nat) {c : Ck} (hi : C[i]? = some c) : c.ok κ w := h.ok c (List.mem_of_getElem? hi)
theorem SS.facts (h : SS M κ0 w0 κ w C R) (hR : ∀ m ∈ R', m.p κ w) : SS M κ0 w0 κ w C R' := ⟨h.ext, h.fresh, h.ok, h.lt, h.nd, h.own, hR⟩
theorem SS.add (h : SS M κ0 w0 κ w C R) {m : MP} (hm : m.p κ w) : SS M κ0 w0 κ w C (m :: R) :=
  h.facts fun x hx => by rcases List.mem_cons.1 hx with rfl | hx; exact hm; exact h.ro x hx
/-- those at some places -/
def selG {α : Type} (C : List α) : List Nat → List α
  | [] => []
  | i :: is => match C[i]? with | some c => c :: selG C is | none => selG C is
theorem selG_eq {α : Type} (C : List α) : ∀ is : List Nat, selG C is = is.filterMap fun i => C[i]?
  | [] => rfl
  | i :: is => by
    unfold selG
    rw [selG_eq C is, List.filterMap_cons]
    cases C[i]? <;> rfl
/-- pick facts by their places -/
theorem SS.pick (h : SS M κ0 w0 κ w C R) (is : List Nat) (hR : selG R is = R') : SS M κ0 w0 κ w C R' := by
  refine h.facts fun m hm => ?_
  rw [selG_eq] at hR
  subst hR
  obtain ⟨i, _, hi⟩ := List.mem_filterMap.1 hm
  exact h.get i hi
theorem blksOf_sub {C C' : List Ck} (hs : C'.Sublist C) : (blksOf C').Sublist (blksOf C) := by
  induction hs with
  | slnil => exact List.Sublist.refl _
  | cons a _ ih => exact ih.trans (by simp only [blksOf, List.flatMap_cons]; exact List.sublist_append_right _ _)
  | cons_cons a _ ih => simp only [blksOf, List.flatMap_cons]; exact (List.append_sublist_append_left _).2 ih
/-- let chunks go -/
theorem SS.drop (h : SS M κ0 w0 κ w C R) (hs : C'.Sublist C) : SS M κ0 w0 κ w C' R :=
  ⟨h.ext, h.fresh, fun c hc => h.ok c (hs.subset hc), fun b hb => h.lt b ((blksOf_sub hs).subset hb), h.nd.sublist (blksOf_sub hs), fun b hb => h.own b ((blksOf_sub hs).subset hb), h.ro⟩
/-- a chunk stays where its blocks are left alone -/
theorem Ck.ok_keep {M' : List Nat} {κ' : Gh} {w' : World} {c : Ck} (hc : c.ok κ w) (hlt : ∀ b ∈ c.blks, b < w.heap.size) (he : Ext M' κ w κ' w') (hm : ∀ b ∈ c.blks, b ∉ M') : c.ok κ' w' := by
  cases c with
  | box b T s =>
    obtain ⟨h1, h2, h3⟩ := hc
    obtain ⟨k1, k2⟩ := he.keep b (hlt b (by simp [Ck.blks])) (hm b (by simp [Ck.blks]))
    exact ⟨k1.trans h1, h2, k2.trans h3⟩
  | tok p E size len cc =>
    rcases hc with hc | ⟨b, off, cells, rfl, h1, h2, h2', h3, h4⟩
    · exact .inl hc
    · obtain ⟨k1, k2⟩ := he.keep b (hlt b (by simp [Ck.blks])) (hm b (by simp [Ck.blks]))
      exact .inr ⟨b, off, cells, rfl, k2.trans h1, h2, h2', k1.trans h3, h4⟩
  | ext x => exact x.mono he (fun b hb => ⟨hlt b hb, hm b hb⟩) hc
/-- a step that touches none of the chunks -/
theorem SS.step (h : SS M κ0 w0 κ w C R) {κ' : Gh} {w' : World} (he : Ext [] κ w κ' w') (hf : Fresh κ' w') : SS M κ0 w0 κ' w' C R where
  ext := h.ext.trans' he fun b hb => by cases hb
  fresh := hf
  ok := fun c hc => Ck.ok_keep (h.ok c hc) (fun b hb => h.lt b (List.mem_flatMap.2 ⟨c, hc, hb⟩)) he fun b _ hb => by cases hb
  lt := fun b hb => Nat.lt_of_lt_of_le (h.lt b hb) he.size
  nd := h.nd
  own := h.own
  ro := fun m hm => m.mono he (h.ro m hm)
theorem heap_alloc_old (w : World) (o : Obj) (b : Nat) (h : b < w.heap.size) : (w.alloc o).heap[b]? = w.heap[b]? := RowKit.Below.heap_alloc w o b h
theorem heap_alloc_new (w : World) (o : Obj) : (w.alloc o).heap[w.heap.size]? = some o := by
  show (w.heap.push o)[w.heap.size]? = _
  simp
theorem size_alloc (w : World) (o : Obj) : (w.alloc o).heap.size = w.heap.size + 1 := by
  show (w.heap.push o).size = _
  simp
theorem cell_of_heap {w w' : World} {b i : Nat} (h : w'.heap[b]? = w.heap[b]?) : w'.cell? ⟨b, i, none⟩ = w.cell? ⟨b, i, none⟩ := by
  unfold World.cell?
  simp only [h]
theorem frozen?_of {w w' : World} {b : Nat} {c c' : Array Value} {t t' : TypeId} {fr : Nat × Nat} (h : w.heap[b]? = some (.cells c t fr)) (h' : w'.heap[b]? = some (.cells c' t' fr)) (ho : ∀ b', b' ≠ b → w'.heap[b']? = w.heap[b']?) (a : Addr) : w'.frozen? a = w.frozen? a := by
  unfold World.frozen?
  by_cases e : a.block = b
  · rw [e, h, h']
  · rw [ho _ e]
theorem Ext.alloc (hf : Fresh κ w) (o : Obj) (ho : ∃ c t, o = .cells c t (0, 0)) : Ext [] κ w κ (w.alloc o) where
  os := rfl
  out := rfl
  tape := rfl
  size := by rw [size_alloc]; omega
  keep := fun b hb _ => ⟨heap_alloc_old w o b hb, rfl⟩
  pub := fun b n hn => ⟨n, hn, Nat.le_refl _, fun i _ => cell_of_heap (heap_alloc_old w o b (by
    rcases Nat.lt_or_ge b w.heap.size with h | h
    · exact h
    · rw [hf b h] at hn; cases hn))⟩
theorem Fresh.alloc (hf : Fresh κ w) (o : Obj) : Fresh κ (w.alloc o) := fun b hb => hf b (by rw [size_alloc] at hb; omega)
/-- a new block of the call's own -/
theorem SS.alloc (h : SS M κ0 w0 κ w C R) (T : Nat) (s : Segs) (hs : segsOk s) (o : Obj) (ho : o = .cells (flat s).toArray T (0, 0)) : SS M κ0 w0 κ (w.alloc o) (.box w.heap.size T s :: C) R := by
  subst ho
  have h' := h.step (Ext.alloc h.fresh (.cells (flat s).toArray T (0, 0)) ⟨_, _, rfl⟩) (h.fresh.alloc _)
  refine ⟨h'.ext, h'.fresh, fun c hc => ?_, fun b hb => ?_, ?_, fun b hb => ?_, h'.ro⟩
  · rcases List.mem_cons.1 hc with rfl | hc
    · exact ⟨heap_alloc_new _ _, hs, h.fresh _ (Nat.le_refl _)⟩
    · exact h'.ok c hc
  · rcases List.mem_cons.1 (show b ∈ w.heap.size :: blksOf C from hb) with rfl | hb
    · rw [size_alloc]; omega
    · exact h'.lt b hb
  · show (w.heap.size :: blksOf C).Nodup
    exact List.nodup_cons.2 ⟨fun hm => by have := h.lt _ hm; omega, h.nd⟩
  · rcases List.mem_cons.1 (show b ∈ w.heap.size :: blksOf C from hb) with rfl | hb
    · exact .inl h.ext.size
    · exact h.own b hb
/-- a draw -/
theorem SS.drew (h : SS M κ0 w0 κ w C R) : SS M κ0 w0 κ { w with drawn := w.drawn + 1 } C R :=
  h.step ⟨rfl, rfl, rfl, Nat.le_refl _, fun _ _ _ => ⟨rfl, rfl⟩, fun _ n hn => ⟨n, hn, Nat.le_refl _, fun _ _ => rfl⟩⟩ h.fresh
theorem blksOf_append (A B : List Ck) : blksOf (A ++ B) = blksOf A ++ blksOf B := by simp [blksOf]
end
end Go.Cf
namespace Go.Cf
open Go
theorem take_get_drop {α : Type} (l : List α) (i : Nat) (h : i < l.length) : l.take i ++ l[i] :: l.drop (i + 1) = l := by
  rw [← List.drop_eq_getElem_cons h, List.take_append_drop]
theorem run_newVar (P : Program) (T : Nat) (v : Value) (w : World) : (newVar T v).run P w = .ok ⟨w.heap.size, 0, none⟩ (w.alloc (.cells v.cells T)) := rfl
section
variable {P : Program} {w : World}
theorem run_isAgg {T : Nat} {g : Bool} (h : pureRun P (isAgg T) = some g) (w : World) : (isAgg T).run P w = .ok g w := pureRun_run _ h w
theorem add_off (b off i : Nat) : (⟨b, off, none⟩ : Addr).add i = ⟨b, off + i, none⟩ := by unfold Addr.add; split <;> simp_all
theorem run_load_scalar {T b off : Nat} {v : Value} (hg : pureRun P (isAgg T) = some false) (hc : w.cell? ⟨b, off, none⟩ = some v) :
    (Instr.loadAt T (.pointer (some ⟨b, off, none⟩))).run P w = .ok v w := by
  simp [Instr.loadAt, Instr.sureAddr, loadVar, run_isAgg hg, load, Sem.run, hc]
theorem run_load_agg {T b off n : Nat} {cs : List Value} (hg : pureRun P (isAgg T) = some true) (hs : pureRun P (sizeOf T) = some n) (hl : cs.length = n) (hc : ∀ j v, cs[j]? = some v → w.cell? ⟨b, off + j, none⟩ = some v) :
    (Instr.loadAt T (.pointer (some ⟨b, off, none⟩))).run P w = .ok (.agg cs.toArray) w := by
  subst hl
  have h := run_loadCells_list (P := P) w ⟨b, off, none⟩ cs fun j v hj => by rw [add_off]; exact hc j v hj
  simp [Instr.loadAt, Instr.sureAddr, loadVar, run_isAgg hg, pureRun_run _ hs w, h]
end
section
variable {ro : Option Nat} {P : Program} {ops : Array Oper} {Q : Exit → Act → World → Prop} {N : Nat} {D : List Deferred} {L L' : FL} {a : Act} {w : World} {o : Oper} {K : Act → World → Prop}
variable {M : List Nat} {κ0 κ : Gh} {w0 : World} {C C' : List Ck} {R R' : List MP}
end
end Go.Cf
namespace Go.Cf
open Go
/-- the element i, if there is one -/
def idx {α : Type} (l : List α) (i : Int) : Option α := if 0 ≤ i then l[i.toNat]? else none
theorem idx_some {α : Type} {l : List α} {i : Int} {x : α} (h : idx l i = some x) : 0 ≤ i ∧ i.toNat < l.length ∧ l[i.toNat]? = some x := by
  unfold idx at h
  split at h
  · exact ⟨by assumption, (List.getElem?_eq_some_iff.1 h).1, h⟩
  · cases h
section
variable {κ κ' κ0 : Gh} {w w' w0 : World} {M : List Nat} {C C' : List Ck} {R R' : List MP}
theorem Ro.at {α : Type} {t : Ty α} {p : Option Addr} {c : Nat} {l : List α} (h : Ro t κ w p c l) {k : Nat} {x : α} (hk : l[k]? = some x) :
    ∃ b off, p = some ⟨b, off, none⟩ ∧ ∃ cs, t.rep κ w cs x ∧ ∀ j v, cs[j]? = some v → w.cell? ⟨b, off + k * t.size + j, none⟩ = some v := by
  rcases h.2.2 with ⟨rfl, _⟩ | ⟨b, off, n, hp, _, _, hc⟩
  · simp at hk
  · exact ⟨b, off, hp, hc k x hk⟩
/-- the cells that a slice reads, in one row -/
theorem Ro.row {α : Type} {t : Ty α} {p : Option Addr} {c : Nat} {l : List α} (h : Ro t κ w p c l) :
    ∃ news : List Value, news.length = l.length * t.size ∧ (∀ b off, p = some ⟨b, off, none⟩ → ∀ j v, news[j]? = some v → w.cell? ⟨b, off + j, none⟩ = some v) ∧ (∀ v ∈ news, v.oneCell' = true) ∧
      ∀ i x, l[i]? = some x → ∃ cs, t.rep κ w cs x ∧ ∀ j v, cs[j]? = some v → news[i * t.size + j]? = some v := by
  rcases h.2.2 with ⟨rfl, _⟩ | ⟨b, off, n, hp, _, _, hc⟩
  · exact ⟨[], by simp, by simp, by simp, by simp⟩
  · -- element by element
    have key : ∀ (l : List α) (k : Nat), (∀ i x, l[i]? = some x → ∃ cs, t.rep κ w cs x ∧ ∀ j v, cs[j]? = some v → w.cell? ⟨b, off + (k + i) * t.size + j, none⟩ = some v) →
        ∃ news : List Value, news.length = l.length * t.size ∧ (∀ j v, news[j]? = some v → w.cell? ⟨b, off + k * t.size + j, none⟩ = some v) ∧ (∀ v ∈ news, v.oneCell' = true) ∧
          ∀ i x, l[i]? = some x → ∃ cs, t.rep κ w cs x ∧ ∀ j v, cs[j]? = some v → news[i * t.size + j]? = some v := by
      intro l
      induction l with
      | nil => intro k _; exact ⟨[], by simp, by simp, by simp, by simp⟩
      | cons y l ih =>
        intro k hk
        obtain ⟨cs, hr, hcs⟩ := hk 0 y rfl
        simp only [Nat.add_zero] at hcs
        obtain ⟨news, h1, h2, h3, h4⟩ := ih (k + 1) fun i x hi => by
          have := hk (i + 1) x (by simpa using hi)
          rwa [show k + (i + 1) = k + 1 + i from by omega] at this
        have hl : cs.length = t.size := t.len hr
        refine ⟨cs ++ news, by rw [List.length_append, hl, h1, List.length_cons, Nat.add_mul, Nat.one_mul]; omega, fun j v hj => ?_, fun v hv => ?_, fun i x hi => ?_⟩
        · by_cases hjc : j < cs.length
          · rw [List.getElem?_append_left hjc] at hj
            exact hcs j v hj
          · rw [List.getElem?_append_right (by omega)] at hj
            have := h2 (j - cs.length) v hj
            rw [Nat.add_mul, Nat.one_mul] at this
            rwa [show off + (k * t.size + t.size) + (j - cs.length) = off + k * t.size + j from by omega] at this
        · rcases List.mem_append.1 hv with hv | hv
          · exact t.one hr v hv
          · exact h3 v hv
        · cases i with
          | zero =>
            simp only [List.getElem?_cons_zero, Option.some.injEq] at hi
            subst hi
            exact ⟨cs, hr, fun j v hj => by
              rw [Nat.zero_mul, Nat.zero_add, List.getElem?_append_left (List.getElem?_eq_some_iff.1 hj).1]; exact hj⟩
          | succ i =>
            simp only [List.getElem?_cons_succ] at hi
            obtain ⟨cs', hr', hv'⟩ := h4 i x hi
            refine ⟨cs', hr', fun j v hj => ?_⟩
            rw [List.getElem?_append_right (by rw [hl, Nat.add_mul, Nat.one_mul]; omega), hl, Nat.add_mul, Nat.one_mul]
            rw [show i * t.size + t.size + j - t.size = i * t.size + j from by omega]
            exact hv' j v hj
    obtain ⟨news, h1, h2, h3, h4⟩ := key l 0 fun i x hi => by simpa using hc i x hi
    refine ⟨news, h1, fun b' off' hp' j v hj => ?_, h3, h4⟩
    rw [hp] at hp'
    simp only [Option.some.injEq, Addr.mk.injEq] at hp'
    obtain ⟨rfl, rfl, _⟩ := hp'
    have := h2 j v hj
    rwa [Nat.zero_mul, Nat.add_zero] at this
/-- one chunk turns into another one -/
theorem SS.turn (h : SS M κ0 w0 κ w C R) (A B : List Ck) {c c' : Ck} (hC : C = A ++ c :: B) (he : Ext c.blks κ w κ' w') (hf : Fresh κ' w') (hok : c'.ok κ' w')
    (hb : ∀ b ∈ c'.blks, b ∈ c.blks ∨ w.heap.size ≤ b) (hlt : ∀ b ∈ c'.blks, b < w'.heap.size) (hn : c'.blks.Nodup) : SS M κ0 w0 κ' w' (A ++ c' :: B) R := by
  subst hC
  have hown : ∀ b ∈ c.blks, b ∈ blksOf (A ++ c :: B) := fun b hb => List.mem_flatMap.2 ⟨c, by simp, hb⟩
  have hnd : (blksOf A ++ (c.blks ++ blksOf B)).Nodup := by simpa [blksOf] using h.nd
  have hnd2 := List.nodup_append.1 hnd
  have hnd3 := List.nodup_append.1 hnd2.2.1
  have hA : ∀ b ∈ blksOf A, b ∉ c.blks := fun b hb hb' => hnd2.2.2 b hb b (List.mem_append.2 (.inl hb')) rfl
  have hB : ∀ b ∈ blksOf B, b ∉ c.blks := fun b hb hb' => hnd3.2.2 b hb' b hb rfl
  have hltA : ∀ b ∈ blksOf A, b < w.heap.size := fun b hb => h.lt b (by simp [blksOf_append, hb])
  have hltB : ∀ b ∈ blksOf B, b < w.heap.size := fun b hb => h.lt b (by
    show b ∈ (A ++ c :: B).flatMap Ck.blks
    simp only [List.flatMap_append, List.flatMap_cons, List.mem_append]; exact .inr (.inr hb))
  have heq : blksOf (A ++ c' :: B) = blksOf A ++ (c'.blks ++ blksOf B) := by simp [blksOf]
  refine ⟨h.ext.trans' he fun b hb => h.own b (hown b hb), hf, fun d hd => ?_, fun b hb' => ?_, ?_, fun b hb' => ?_, fun m hm => m.mono he (h.ro m hm)⟩
  · rcases List.mem_append.1 hd with hd | hd
    · exact Ck.ok_keep (h.ok d (by simp [hd])) (fun b hb => hltA b (List.mem_flatMap.2 ⟨d, hd, hb⟩)) he fun b hb => hA b (List.mem_flatMap.2 ⟨d, hd, hb⟩)
    · rcases List.mem_cons.1 hd with rfl | hd
      · exact hok
      · exact Ck.ok_keep (h.ok d (by simp [hd])) (fun b hb => hltB b (List.mem_flatMap.2 ⟨d, hd, hb⟩)) he fun b hb => hB b (List.mem_flatMap.2 ⟨d, hd, hb⟩)
  · rw [heq] at hb'
    rcases List.mem_append.1 hb' with hb' | hb'
    · exact Nat.lt_of_lt_of_le (hltA b hb') he.size
    · rcases List.mem_append.1 hb' with hb' | hb'
      · exact hlt b hb'
      · exact Nat.lt_of_lt_of_le (hltB b hb') he.size
  · rw [heq]
    refine List.nodup_append.2 ⟨hnd2.1, List.nodup_append.2 ⟨hn, hnd3.2.1, fun x hx y hy => ?_⟩, fun x hx y hy => ?_⟩
    · rintro rfl
      rcases hb x hx with hx' | hx'
      · exact hB x hy hx'
      · have := hltB x hy; omega
    · rintro rfl
      rcases List.mem_append.1 hy with hy | hy
      · rcases hb x hy with hx' | hx'
        · exact hA x hx hx'
        · have := hltA x hx; omega
      · exact hnd2.2.2 x hx x (List.mem_append.2 (.inr hy)) rfl
  · rw [heq] at hb'
    rcases List.mem_append.1 hb' with hb' | hb'
    · exact h.own b (by simp [blksOf_append, hb'])
    · rcases List.mem_append.1 hb' with hb' | hb'
      · rcases hb b hb' with hx | hx
        · exact h.own b (hown b hx)
        · exact .inl (Nat.le_trans h.ext.size hx)
      · exact h.own b (by
          show b ∈ (A ++ c :: B).flatMap Ck.blks
          simp only [List.flatMap_append, List.flatMap_cons, List.mem_append]; exact .inr (.inr hb'))
theorem set_split {α : Type} {C : List α} {i : Nat} {c c' : α} (h : C[i]? = some c) : C = C.take i ++ c :: C.drop (i + 1) ∧ C.set i c' = C.take i ++ c' :: C.drop (i + 1) := by
  obtain ⟨hi, he⟩ := List.getElem?_eq_some_iff.1 h
  refine ⟨?_, by rw [List.set_eq_take_append_cons_drop, if_pos hi]⟩
  rw [← he]
  exact (take_get_drop C i hi).symm
/-- append of what is told by its cells -/
structure AppOf (P : Program) (w : World) (t u y E : Nat) (i : TypeInfo) (z : Value) (v2 : Value) (m : Nat) (news : List Value) : Prop where
  zero : m = 0 → ∀ p n c, n ≤ c → (Builtin.append_ #[t, u] y #[.slice p n c, v2]).run P w = .ok (.slice p n c) w
  nil : 0 < m → (m : Int) ≤ 9223372036854775807 → m * i.bytes ≤ 281474976710656 → (Builtin.append_ #[t, u] y #[.slice none 0 0, v2]).run P w = .ok (.slice (some ⟨w.heap.size, 0, none⟩) m (grownCap w m 0 E)) (w.drew.alloc (.cells (news.toArray ++ Builtin.zeroCells z.cells (grownCap w m 0 E - m)) E))
  grow : ∀ (a : Addr) (n c : Nat) (olds : List Value), olds.length = n * i.size → (∀ j v, olds[j]? = some v → w.cell? (a.add j) = some v) → c < n + m → ((n + m : Nat) : Int) ≤ 9223372036854775807 → Builtin.nextslicecap (n + m) c * i.bytes ≤ 281474976710656 →
    (Builtin.append_ #[t, u] y #[.slice (some a) n c, v2]).run P w = .ok (.slice (some ⟨w.heap.size, 0, none⟩) (n + m) (grownCap w (n + m) c E)) (w.drew.alloc (.cells (olds.toArray ++ news.toArray ++ Builtin.zeroCells z.cells (grownCap w (n + m) c E - (n + m))) E))
  room : ∀ (b off n c : Nat) (w' : World), n + m ≤ c → (storeCells ⟨b, off + n * i.size, none⟩ news 0).run P w = .ok () w' → (Builtin.append_ #[t, u] y #[.slice (some ⟨b, off, none⟩) n c, v2]).run P w = .ok (.slice (some ⟨b, off, none⟩) (n + m) c) w'
theorem appOf_slice {P : Program} {w : World} {t y E c2 : Nat} {i : TypeInfo} {z : Value} (ht : P.underlying t = some (.slice E)) (hi : P.info? E = some i) (hz : i.zero = some z) {p2 : Option Addr} {m : Nat} {news : List Value}
    (hnl : news.length = m * i.size) (h : p2 = none ∧ m = 0 ∨ ∃ a, p2 = some a ∧ ∀ j v, news[j]? = some v → w.cell? (a.add j) = some v) : AppOf P w t t y E i z (.slice p2 m c2) m news where
  zero := fun h0 p n c hn => by
    subst h0
    cases p <;> cases p2 <;> simp [Builtin.append_, run_underlying ht, sizeOf, typeInfo, hi, Builtin.lenOf, hn, Builtin.firstCells, storeCells, loadCells, loadCellsFrom]
  nil := fun h0 h63 h48 => by
    rcases h with ⟨_, h⟩ | ⟨a, rfl, hc⟩
    · omega
    · exact run_append_nil (P := P) w t y E i z ht hi hz a m c2 news hnl hc h0 h63 h48
  grow := fun a n c olds ho hoc hg h63 h48 => by
    rcases h with ⟨rfl, rfl⟩ | ⟨b, rfl, hc⟩
    · have hnn : news = [] := List.eq_nil_of_length_eq_zero (by rw [hnl]; simp)
      subst hnn
      have h63' : ¬ (9223372036854775807 < (n : Int)) := by omega
      have h48' : ¬ (281474976710656 < Builtin.nextslicecap n c * i.bytes) := by simpa using h48
      have hgn : ¬ (n ≤ c) := by omega
      have hf := run_firstCells_some (P := P) w.drew i.size n a n c olds ho (by simpa using hoc)
      simp [Builtin.append_, run_underlying ht, sizeOf, typeInfo, zeroValue, hi, hz, Builtin.lenOf, hgn, h63', h48', Question.forced, run_firstCells_none, hf, newRow, grownCap]
    · exact run_append_grow (P := P) w t y E i z ht hi hz a n c olds ho hoc b m c2 news hnl hc hg h63 h48
  room := fun b off n c w' hr hst => by
    rcases h with ⟨rfl, rfl⟩ | ⟨a, rfl, hc⟩
    · have hnn : news = [] := List.eq_nil_of_length_eq_zero (by rw [hnl]; simp)
      subst hnn
      have : w' = w := by simpa [storeCells] using hst.symm
      subst this
      simp at hr
      simp [Builtin.append_, run_underlying ht, sizeOf, typeInfo, hi, Builtin.lenOf, hr, Builtin.firstCells, storeCells, loadCells, loadCellsFrom]
    · have hf := run_firstCells_some (P := P) w i.size m a m c2 news hnl hc
      simp [Builtin.append_, run_underlying ht, sizeOf, typeInfo, hi, Builtin.lenOf, hr, hf, add_off, hst]
theorem appOf_str {P : Program} {w : World} {t u y E : Nat} {i : TypeInfo} {z : Value} (ht : P.underlying t = some (.slice E)) (hu : P.underlying u = some .string) (hi : P.info? E = some i) (hz : i.zero = some z) (hs1 : i.size = 1) (s : ByteArray) : AppOf P w t u y E i z (.string s) s.size (Lib.strCells s) where
  zero := fun h0 p n c hn => by
    have hs : s.data = #[] := Array.eq_empty_of_size_eq_zero h0
    cases p <;> simp [Builtin.append_, run_underlying ht, run_underlying hu, sizeOf, typeInfo, hi, Builtin.lenOf, h0, hn, Builtin.firstCells, hs, storeCells]
  nil := fun h0 h63 h48 => by
    rw [run_append_nil_string (P := P) w t u y E i z ht hu hi hz s h0 h63 h48]
    have e : s.data.map (fun b => Value.int .u8 b.toNat) = (Lib.strCells s).toArray := by
      apply Array.ext'
      simp [Lib.strCells]
    rw [e]
  grow := fun a n c olds ho hoc hg h63 h48 => Lib.run_append_grow_string (P := P) w t u y E i z ht hu hi hz a n c olds ho hoc s hg h63 h48
  room := fun b off n c w' hr hst => by
    have hf := Lib.run_firstCells_string (P := P) w 1 s
    rw [hs1] at hst
    simp only [Nat.mul_one] at hst
    simp [Builtin.append_, run_underlying ht, run_underlying hu, sizeOf, typeInfo, hi, hs1, Builtin.lenOf, hr, hf, add_off, hst]
end
end Go.Cf
namespace Go.Cf
open Go
section
variable {ro : Option Nat} {P : Program} {ops : Array Oper} {Q : Exit → Act → World → Prop} {N : Nat} {D : List Deferred} {L L' : FL} {a : Act} {w : World} {o : Oper} {K : Act → World → Prop}
variable {M : List Nat} {κ0 κ : Gh} {w0 : World} {C C' : List Ck} {R R' : List MP}
theorem run_underlying' {T : Nat} {d : TypeDesc} (h : pureRun P (underlying T) = some d) (w : World) : (underlying T).run P w = .ok d w := pureRun_run _ h w
/-- a loop whose rounds are paid out of a purse -/
theorem loop_fuel {c : Code} (I : Nat → Act → World → Prop) {n : Nat} (h0 : I n a w) (round : ∀ n a w, I n a w → c.wpIn (FW ro) 0 P (Exit.then (fun a' w' => ∃ m, m < n ∧ I m a' w') Q) a w) : (Code.loop c).wpIn (FW ro) 0 P Q a w := by
  classical
  let S : Act → World → Nat → Prop := fun a w n => I n a w
  have least : ∀ a w, (∃ n, I n a w) → ∃ n, I n a w ∧ ∀ m, I m a w → n ≤ m := fun a w ⟨n, hn⟩ => by
    induction n using Nat.strongRecOn with
    | _ n ih =>
      by_cases h : ∃ m, m < n ∧ I m a w
      · obtain ⟨m, hm, hI⟩ := h; exact ih m hm hI
      · exact ⟨n, hn, fun m hm => by
          rcases Nat.lt_or_ge m n with hlt | hge
          · exact absurd ⟨m, hlt, hm⟩ h
          · exact hge⟩
  let μ : Act → World → Nat := fun a w => if h : ∃ n, I n a w then (least a w h).choose else 0
  have hμ : ∀ a w (h : ∃ n, I n a w), I (μ a w) a w ∧ ∀ m, I m a w → μ a w ≤ m := fun a w h => by
    have := (least a w h).choose_spec
    simp only [μ, dif_pos h]
    exact this
  refine wpIn_loop (fun a w => ∃ n, I n a w) μ ⟨n, h0⟩ fun a w h => ?_
  obtain ⟨h1, _⟩ := hμ a w h
  refine wpIn_mono (round _ a w h1) fun e a' w' he => ?_
  cases e with
  | normal =>
    obtain ⟨m, hm, hI⟩ := he
    exact ⟨⟨m, hI⟩, Nat.lt_of_le_of_lt ((hμ a' w' ⟨m, hI⟩).2 m hI) hm⟩
  | _ => exact he
theorem Fr.getD (hF : Fr N D L a) {t : Nat} {v : Value} (h : L.lookup t = some v) : a.tmps.getD t undef = v := by
  rw [Array.getD_eq_getD_getElem?, hF.val t v h]; rfl
/-- how a result is read -/
def RV (P : Program) (a : Act) (w : World) : ResultVar → Value → Prop
  | .tmp t, v => a.tmps.getD t undef = v
  | .cell t T, v => ∃ b off, a.tmps.getD t undef = .pointer (some ⟨b, off, none⟩) ∧ (loadVar T ⟨b, off, none⟩).run P w = .ok v w
theorem res0 {fn : Func} (h : fn.results = #[]) : (results fn a.tmps).run P w = .ok (.tuple #[]) w := results_none h _ _ _
theorem res1 {fn : Func} {r : ResultVar} {v : Value} (h : fn.results = #[r]) (h1 : RV P a w r v) : (results fn a.tmps).run P w = .ok v w := by
  cases r <;> simp only [RV, Array.getD_eq_getD_getElem?] at h1 <;> (try obtain ⟨_, _, h1, h1'⟩ := h1) <;> simp_all [results, asAddr]
theorem res2 {fn : Func} {r1 r2 : ResultVar} {v1 v2 : Value} (h : fn.results = #[r1, r2]) (h1 : RV P a w r1 v1) (h2 : RV P a w r2 v2) : (results fn a.tmps).run P w = .ok (.tuple #[v1, v2]) w := by
  cases r1 <;> cases r2 <;> simp only [RV, Array.getD_eq_getD_getElem?] at h1 h2 <;> (try obtain ⟨_, _, h1, h1'⟩ := h1) <;> (try obtain ⟨_, _, h2, h2'⟩ := h2) <;> simp_all [results, asAddr]
theorem res3 {fn : Func} {r1 r2 r3 : ResultVar} {v1 v2 v3 : Value} (h : fn.results = #[r1, r2, r3]) (h1 : RV P a w r1 v1) (h2 : RV P a w r2 v2) (h3 : RV P a w r3 v3) : (results fn a.tmps).run P w = .ok (.tuple #[v1, v2, v3]) w := by
  cases r1 <;> cases r2 <;> cases r3 <;> simp only [RV, Array.getD_eq_getD_getElem?] at h1 h2 h3 <;> (try obtain ⟨_, _, h1, h1'⟩ := h1) <;> (try obtain ⟨_, _, h2, h2'⟩ := h2) <;> (try obtain ⟨_, _, h3, h3'⟩ := h3) <;> simp_all [results, asAddr]
end
end Go.Cf
namespace Go.Cf
open Go
def sLt (a b : ByteArray) : Bool := Op.bytesLess a.toList b.toList
/-- stretches that are as long as they say, of plain cells -/
def segGood (s : Segs) : Prop := segsOk s ∧ ∀ u ∈ flat s, u.oneCell' = true
/-- an array of elements with references: its cells, and what they read as -/
def ArrP {α : Type} (t : Ty α) (κ : Gh) (w : World) (cs : List Value) (n : Nat) (l : List α) : Prop :=
  l.length = n ∧ cs.length = n * t.size ∧ (∀ v ∈ cs, v.oneCell' = true) ∧ ∀ i x, l[i]? = some x → t.rep κ w ((cs.drop (i * t.size)).take t.size) x
def Arr.mp {α : Type} (t : Ty α) (cs : List Value) (n : Nat) (l : List α) : MP :=
  ⟨fun κ w => ArrP t κ w cs n l, fun e h => ⟨h.1, h.2.1, h.2.2.1, fun i x hi => t.mono e (h.2.2.2 i x hi)⟩⟩
theorem flatten_replicate_drop {α : Type} (n i : Nat) (z : List α) (h : i < n) : (((List.replicate n z).flatten).drop (i * z.length)).take z.length = z := by
  induction n generalizing i with
  | zero => omega
  | succ n ih =>
    rw [List.replicate_succ, List.flatten_cons]
    cases i with
    | zero => simp
    | succ i =>
      rw [show (i + 1) * z.length = z.length + i * z.length from by rw [Nat.add_mul]; omega, ← List.drop_drop, List.drop_left]
      exact ih i (by omega)
theorem Arr.zero {α : Type} (t : Ty α) (κ : Gh) (w : World) (n : Nat) (z : α) {zc : List Value} (hz : ∀ κ w, t.rep κ w zc z) : ArrP t κ w (List.replicate n zc).flatten n (List.replicate n z) := by
  have hl : zc.length = t.size := t.len (hz κ w)
  refine ⟨List.length_replicate, by simp [hl], fun v hv => ?_, fun i x hi => ?_⟩
  · obtain ⟨c, hc, hv⟩ := List.mem_flatten.1 hv
    rw [List.eq_of_mem_replicate hc] at hv
    exact t.one (hz κ w) v hv
  · have hlt : i < n := by have := (List.getElem?_eq_some_iff.1 hi).1; simpa using this
    have hx : x = z := List.eq_of_mem_replicate (List.mem_of_getElem? hi)
    subst hx
    rw [← hl, flatten_replicate_drop n i zc hlt]
    exact hz κ w
/-- a type of structs, by its stretches and the facts that its values want -/
def Ty.of {α H : Type} (n : Nat) (sg : H → α → Segs) (fs : H → α → List MP) (hg : ∀ h x κ w, (∀ m ∈ fs h x, m.p κ w) → segGood (sg h x)) (ht : ∀ h x, tot (sg h x) = n) : Ty α where
  size := n
  rep := fun κ w cs x => ∃ h, cs = flat (sg h x) ∧ ∀ m ∈ fs h x, m.p κ w
  len := fun {κ w cs x} ⟨h, hcs, hf⟩ => by rw [hcs, flat_length (hg h x κ w hf).1, ht]
  one := fun {κ w cs x} ⟨h, hcs, hf⟩ => by rw [hcs]; exact (hg h x κ w hf).2
  mono := fun e ⟨h, hcs, hf⟩ => ⟨h, hcs, fun m hm => m.mono e (hf m hm)⟩
section
variable {M : List Nat} {κ0 κ : Gh} {w0 w : World} {C C' : List Ck} {R R' : List MP} {N : Nat} {D : List Deferred} {L L' : FL} {a : Act}
theorem Fr.keep' (h : Fr N D L a) (ks : List Nat) (hL : Cf.keep L ks = L') : Fr N D L' a := hL ▸ h.keep ks
/-- pick chunks by their places -/
theorem pick_sub (C : List Ck) : ∀ (is : List Nat), is.Nodup → (blksOf C).Nodup → (blksOf (is.filterMap fun i => C[i]?)).Nodup ∧ ∀ b ∈ blksOf (is.filterMap fun i => C[i]?), ∃ i ∈ is, ∃ c, C[i]? = some c ∧ b ∈ c.blks := by
  intro is
  induction is with
  | nil => intro _ _; exact ⟨List.nodup_nil, fun b hb => by cases hb⟩
  | cons i is ih =>
    intro hn hC
    obtain ⟨hi, hn'⟩ := List.nodup_cons.1 hn
    obtain ⟨h1, h2⟩ := ih hn' hC
    cases hc : C[i]? with
    | none =>
      simp only [List.filterMap_cons, hc]
      exact ⟨h1, fun b hb => let ⟨j, hj, r⟩ := h2 b hb; ⟨j, List.mem_cons_of_mem _ hj, r⟩⟩
    | some c =>
      simp only [List.filterMap_cons, hc]
      have hcn : c.blks.Nodup := by
        obtain ⟨A, B, hAB⟩ := List.append_of_mem (List.mem_of_getElem? hc)
        rw [hAB, blksOf_append] at hC
        have := (List.nodup_append.1 hC).2.1
        exact (List.nodup_append.1 (show (c.blks ++ blksOf B).Nodup from this)).1
      refine ⟨?_, fun b hb => ?_⟩
      · show (c.blks ++ blksOf _).Nodup
        refine List.nodup_append.2 ⟨hcn, h1, fun x hx y hy => ?_⟩
        rintro rfl
        obtain ⟨j, hj, d, hd, hxd⟩ := h2 x hy
        -- two places of one block
        have hne : i ≠ j := fun e => hi (e ▸ hj)
        have key : ∀ (C : List Ck) (i j : Nat) (c d : Ck), C[i]? = some c → C[j]? = some d → i < j → x ∈ c.blks → x ∈ d.blks → ¬ (blksOf C).Nodup := by
          intro C
          induction C with
          | nil => intro i j c d hc; simp at hc
          | cons e C ihC =>
            intro i j c d hc hd hij hxc hxd hnd
            have hnd' : (e.blks ++ blksOf C).Nodup := hnd
            cases j with
            | zero => omega
            | succ j =>
              simp only [List.getElem?_cons_succ] at hd
              cases i with
              | zero =>
                simp only [List.getElem?_cons_zero, Option.some.injEq] at hc
                subst hc
                exact (List.nodup_append.1 hnd').2.2 x hxc x (List.mem_flatMap.2 ⟨d, List.mem_of_getElem? hd, hxd⟩) rfl
              | succ i =>
                simp only [List.getElem?_cons_succ] at hc
                exact ihC i j c d hc hd (by omega) hxc hxd (List.nodup_append.1 hnd').2.1
        rcases Nat.lt_or_ge i j with h | h
        · exact key C i j c d hc hd h hx hxd hC
        · exact key C j i d c hd hc (by omega) hxd hx hC
      · rcases List.mem_append.1 (show b ∈ c.blks ++ blksOf _ from hb) with hb | hb
        · exact ⟨i, by simp, c, hc, hb⟩
        · obtain ⟨j, hj, r⟩ := h2 b hb; exact ⟨j, List.mem_cons_of_mem _ hj, r⟩
theorem SS.selp (h : SS M κ0 w0 κ w C R) (is : List Nat) (hn : is.Nodup) (hC : selG C is = C') : SS M κ0 w0 κ w C' R := by
  rw [selG_eq] at hC
  subst hC
  obtain ⟨h1, h2⟩ := pick_sub C is hn h.nd
  have hin : ∀ b ∈ blksOf (is.filterMap fun i => C[i]?), b ∈ blksOf C := fun b hb => by
    obtain ⟨i, _, c, hc, hbc⟩ := h2 b hb
    exact List.mem_flatMap.2 ⟨c, List.mem_of_getElem? hc, hbc⟩
  refine ⟨h.ext, h.fresh, fun c hc => ?_, fun b hb => h.lt b (hin b hb), h1, fun b hb => h.own b (hin b hb), h.ro⟩
  obtain ⟨i, _, hi⟩ := List.mem_filterMap.1 hc
  exact h.ck i hi
end
end Go.Cf
namespace Go.Cf
open Go
section
variable {ro : Option Nat} {P : Program} {ops : Array Oper} {Q : Exit → Act → World → Prop} {S : World → Prop} {tl : List Nat}
/-- no operation of the tail has come up -/
def early (tl : List Nat) (listed : Array Bool) : Bool := tl.all fun j => !listed.getD j false
theorem notSelect_def {o : Oper} (h : notSelect o = true) : ∀ c, o.op ≠ .defer c := fun c e => by simp [notSelect, e] at h
def YieldsIf' (P : Program) (ops : Array Oper) (S : World → Prop) (o : Oper) (v : Value) (a : Act) : Prop :=
  (Region.wanted o (yielded ops a.tmps) = true ∧ ∀ w, S w → (execOp a.eval o).run P w = .ok (.value v) w) ∨
  (Region.wanted o (yielded ops a.tmps) = false ∧ v = undef)
theorem YieldsIf'.op {i : Nat} {o : Oper} {v : Value} {a : Act} (hi : ops[i]? = some o) (hn : notSelect o = true) (hy : YieldsIf' P ops S o v a)
    {K : Act → World → Prop} {w : World} (hS : S w) (h : K (a.put o.dst v) w) : wpOpIn (FW ro) 0 P ops Q i K a w := by
  unfold wpOpIn
  simp only [hi]
  rcases hy with ⟨hw, hv⟩ | ⟨hw, rfl⟩
  · rw [if_pos hw]
    refine ⟨fun _ _ => trivial, ?_⟩
    rw [Oper.semAt_eq _ _ _ (notSelect_def hn), hv w hS]
    exact h
  · rw [if_neg (by rw [hw]; decide)]
    exact ⟨fun _ _ => trivial, h⟩
variable {N : Nat} {D : List Deferred} {L L' : FL} {a : Act} {w : World} {fuel : Nat} {listed : Array Bool}
end
section
variable {P : Program} {w : World} {L : FL} {o : Oper} {M : List Nat} {κ0 κ : Gh} {w0 : World} {C : List Ck} {R : List MP}
/-- where a list has an element its slice is not nil -/
theorem SS.ptr {α : Type} {t : Ty α} (hS : SS M κ0 w0 κ w C R) (ri : Nat) {p : Option Addr} {c : Nat} {l : List α} {i : Int} {y : α} (hR : R[ri]? = some (Ro.mp t p c l)) (hi : idx l i = some y) : ∃ b off, p = some ⟨b, off, none⟩ := by
  have hRo : Ro t κ w p c l := hS.get ri hR
  obtain ⟨b, off, hp, _⟩ := hRo.at (idx_some hi).2.2
  exact ⟨b, off, hp⟩
end
end Go.Cf
namespace Go.Cf
open Go
section
variable {P : Program} {L : FL} {o : Oper} {w : World} {κ : Gh}
end
section
variable {ro : Option Nat} {P : Program} {ops : Array Oper} {Q : Exit → Act → World → Prop} {N : Nat} {D : List Deferred} {L L' : FL} {a : Act} {w : World} {o : Oper} {K : Act → World → Prop}
variable {M : List Nat} {κ0 κ : Gh} {w0 : World} {C C' : List Ck} {R R' : List MP}
/-- a list with a stretch laid anew -/
def splice (cs : List Value) (j : Nat) (new : List Value) : List Value := cs.take j ++ new ++ cs.drop (j + new.length)
theorem ArrP.set {α : Type} {t : Ty α} {κ : Gh} {w : World} {cs : List Value} {n : Nat} {l : List α} (h : ArrP t κ w cs n l) {j : Nat} (hj : j < l.length) {new : List Value} {y : α} (hn : t.rep κ w new y) : ArrP t κ w (splice cs (j * t.size) new) n (l.set j y) := by
  have hl := t.len hn
  have hle : j * t.size + t.size ≤ n * t.size := by
    have : (j + 1) * t.size ≤ n * t.size := Nat.mul_le_mul_right _ (by rw [← h.1]; exact hj)
    rw [Nat.add_mul, Nat.one_mul] at this; exact this
  have hcs := h.2.1
  refine ⟨by rw [List.length_set]; exact h.1, ?_, fun v hv => ?_, fun i x hi => ?_⟩
  · simp only [splice, List.length_append, List.length_take, List.length_drop]; omega
  · simp only [splice, List.append_assoc, List.mem_append] at hv
    rcases hv with hv | hv | hv
    · exact h.2.2.1 v (List.mem_of_mem_take hv)
    · exact t.one hn v hv
    · exact h.2.2.1 v (List.mem_of_mem_drop hv)
  · by_cases e : j = i
    · subst e
      rw [List.getElem?_set_self hj] at hi
      simp only [Option.some.injEq] at hi
      subst hi
      have e1 : (splice cs (j * t.size) new).drop (j * t.size) = new ++ cs.drop (j * t.size + new.length) := by
        have h0 : (cs.take (j * t.size)).length = j * t.size := by simp; omega
        rw [splice, List.append_assoc]
        conv => lhs; arg 1; rw [← h0]
        rw [List.drop_left]
      rw [e1, ← hl, List.take_left]
      exact hn
    · rw [List.getElem?_set_ne e] at hi
      have hr := h.2.2.2 i x hi
      have hil : i < l.length := (List.getElem?_eq_some_iff.1 hi).1
      have hile : i * t.size + t.size ≤ n * t.size := by
        have : (i + 1) * t.size ≤ n * t.size := Nat.mul_le_mul_right _ (by rw [← h.1]; exact hil)
        rw [Nat.add_mul, Nat.one_mul] at this; exact this
      have e1 : ((splice cs (j * t.size) new).drop (i * t.size)).take t.size = (cs.drop (i * t.size)).take t.size := by
        apply List.ext_getElem?
        intro q
        rw [List.getElem?_take, List.getElem?_take]
        split
        · rename_i hq
          rw [List.getElem?_drop, List.getElem?_drop, splice, List.append_assoc]
          rcases Nat.lt_or_ge i j with hij | hij
          · have : i * t.size + t.size ≤ j * t.size := by
              have : (i + 1) * t.size ≤ j * t.size := Nat.mul_le_mul_right _ hij
              rw [Nat.add_mul, Nat.one_mul] at this; exact this
            rw [List.getElem?_append_left (by simp; omega), List.getElem?_take, if_pos (by omega)]
          · have hji : j < i := by omega
            have : j * t.size + t.size ≤ i * t.size := by
              have : (j + 1) * t.size ≤ i * t.size := Nat.mul_le_mul_right _ hji
              rw [Nat.add_mul, Nat.one_mul] at this; exact this
            rw [List.getElem?_append_right (by simp; omega), List.getElem?_append_right (by simp; omega), List.getElem?_drop]
            congr 1
            simp only [List.length_take]
            omega
        · rfl
      rw [e1]
      exact hr
end
end Go.Cf
namespace Go.Cf
open Go
def wide (P : Program) (t : TypeId) : Bool := match P.underlying t with | some (.array _ _) | some (.struct _) => true | _ => false
section
variable {P : Program}
end
section
variable {P : Program} {L : FL} {o : Oper}
end
end Go.Cf
