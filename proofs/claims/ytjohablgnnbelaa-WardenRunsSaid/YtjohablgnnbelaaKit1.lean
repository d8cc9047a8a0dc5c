/- Part 1 of a small program logic over the kit's wp: frames by facts, pure runs, sequencing. -/
import Derived.Test.YtjohablgnnbelaaRows
import Derived.RangeFuncIn
import Derived.TacticsIn
import Derived.OrdersIn
import Derived.Below
import Derived.WalkKit
namespace Go.Cf
open Go

/-- the walk's fence: everything is let in; in a round of the loop l, or in none -/
def FW (ro : Option Nat) : Fence := { fn := fun _ => True, depth := none, alive := false, round := ro }
abbrev FL := List (Nat × Value)
/-- what is known of an activation: its marks, the number of its slots, some slots' values -/
structure Fr (N : Nat) (D : List Deferred) (L : FL) (a : Act) : Prop where
  defers : a.defers = D
  size : a.tmps.size = N
  val : ∀ t v, L.lookup t = some v → a.tmps[t]? = some v

def ev (L : FL) : Operand → Option Value
  | .tmp t => L.lookup t
  | .const v => some v
  | .global g => some (.pointer (some ⟨g, 0, none⟩))
  | .func f => some (.func (.func f) #[] #[])
def evD (L : FL) (x : Operand) : Value := (ev L x).getD undef
def covers (L : FL) (o : Oper) : Bool := o.op.operands.all fun x => (ev L x).isSome
def upd (L : FL) (d : Option Tmp) (v : Value) : FL :=
  match d with
  | some d => (d, v) :: L.filter fun p => p.1 != d
  | none => L

theorem lookup_filter_ne (L : FL) (d t : Nat) (h : t ≠ d) : (L.filter fun p => p.1 != d).lookup t = L.lookup t := by
  induction L with
  | nil => rfl
  | cons p L ih =>
    obtain ⟨k, v⟩ := p
    by_cases hk : k = d
    · subst hk
      have hb : (t == k) = false := by simp [h]
      simp [ih, List.lookup_cons, hb]
    · have : (k != d) = true := by simp [hk]
      simp only [List.filter_cons, this, if_true, List.lookup_cons, ih]

theorem Fr.put {N : Nat} {D : List Deferred} {L : FL} {a : Act} (h : Fr N D L a) (d : Option Tmp) (v : Value) (hd : ∀ t, d = some t → t < N) : Fr N D (upd L d v) (a.put d v) := by
  cases d with
  | none => exact h
  | some d =>
    have hd' := hd d rfl
    refine ⟨h.defers, by simp [Act.put, h.size], fun t u hu => ?_⟩
    simp only [upd, List.lookup_cons] at hu
    by_cases ht : t = d
    · subst ht
      simp at hu; subst hu
      simp [Act.put, h.size, hd']
    · have hb : (t == d) = false := by simp [ht]
      rw [hb] at hu
      simp only at hu
      rw [lookup_filter_ne L d t ht] at hu
      have := h.val t u hu
      simp only [Act.put]
      rw [Array.getElem?_setIfInBounds_ne (Ne.symm ht)]
      exact this

theorem Fr.ev {N : Nat} {D : List Deferred} {L : FL} {a : Act} (h : Fr N D L a) {x : Operand} {v : Value} (hx : ev L x = some v) : a.eval x = v := by
  cases x with
  | tmp t =>
    have := h.val t v hx
    simp [Act.eval, this]
  | const u => simpa [Cf.ev, Act.eval] using hx
  | global g => simpa [Cf.ev, Act.eval] using hx
  | func f => simpa [Cf.ev, Act.eval] using hx

theorem Fr.evD {N : Nat} {D : List Deferred} {L : FL} {a : Act} (h : Fr N D L a) {x : Operand} (hx : (Cf.ev L x).isSome = true) : a.eval x = Cf.evD L x := by
  obtain ⟨v, hv⟩ := Option.isSome_iff_exists.1 hx
  rw [h.ev hv, Cf.evD, hv]; rfl

def notSelect (o : Oper) : Bool := match o.op with | .select .. => false | .defer .. => false | _ => true
theorem exec_eq {N : Nat} {D : List Deferred} {L : FL} {a : Act} (h : Fr N D L a) {o : Oper} (hc : covers L o = true) (hn : notSelect o = true) : execOp a.eval o = execOp (evD L) o := by
  refine execOp_congr o (fun cs b e => by simp [notSelect, e] at hn) (fun x hx => h.evD ?_)
  have := Array.all_eq_true_iff_forall_mem.1 hc x hx
  exact this

/-- keep these slots alone -/
def keep (L : FL) (ks : List Nat) : FL := ks.filterMap fun k => (L.lookup k).map fun v => (k, v)
theorem lookup_keep (L : FL) (ks : List Nat) (t : Nat) (v : Value) (h : (keep L ks).lookup t = some v) : L.lookup t = some v := by
  induction ks with
  | nil => simp [keep] at h
  | cons k ks ih =>
    simp only [keep, List.filterMap_cons] at h
    cases hk : L.lookup k with
    | none => rw [hk] at h; exact ih h
    | some u =>
      rw [hk] at h
      simp only [Option.map_some, List.lookup_cons] at h
      by_cases e : t = k
      · subst e; simp at h; subst h; exact hk
      · have hb : (t == k) = false := by simp [e]
        rw [hb] at h; exact ih h
theorem Fr.keep {N : Nat} {D : List Deferred} {L : FL} {a : Act} (h : Fr N D L a) (ks : List Nat) : Fr N D (Cf.keep L ks) a :=
  ⟨h.defers, h.size, fun t v hv => h.val t v (lookup_keep L ks t v hv)⟩

/-! ### runs that ask nothing of the world -/
def pureRun {α : Type} (P : Program) : Sem α → Option α
  | .pure a => some a
  | .program k => pureRun P (k P)
  | .mark _ k => pureRun P k
  | _ => none
theorem pureRun_run {α : Type} {P : Program} (s : Sem α) {a : α} (h : pureRun P s = some a) (w : World) : s.run P w = .ok a w := by
  induction s with
  | pure b => simp [pureRun] at h; subst h; rfl
  | program k ih => exact ih P h
  | mark m k ih => exact ih h
  | load _ _ _ _ => simp [pureRun] at h
  | store _ _ _ _ _ => simp [pureRun] at h
  | new _ _ _ => simp [pureRun] at h
  | shape _ _ _ => simp [pureRun] at h
  | freeze _ _ _ _ => simp [pureRun] at h
  | frozen _ _ _ => simp [pureRun] at h
  | getObj _ _ _ => simp [pureRun] at h
  | setObj _ _ _ _ => simp [pureRun] at h
  | choose _ _ _ => simp [pureRun] at h
  | sys _ _ _ => simp [pureRun] at h
  | halt _ => simp [pureRun] at h

def pval (P : Program) (L : FL) (o : Oper) : Option Value :=
  match pureRun P (execOp (evD L) o) with
  | some (.value v) => some v
  | _ => none

/-- is the operation carried out? (none: not known) -/
def goes (ops : Array Oper) (L : FL) (o : Oper) : Option Bool :=
  match o.guard with
  | none => some true
  | some (j, want) => match (ops[j]?).bind (·.dst) with
    | none => some false
    | some d => match L.lookup d with
      | some (.bool b) => some (b == want)
      | some (.tuple _) => some false
      | _ => none
theorem goes_wanted {N : Nat} {D : List Deferred} {ops : Array Oper} {L : FL} {a : Act} (h : Fr N D L a) {o : Oper} {b : Bool} (hg : goes ops L o = some b) : Region.wanted o (yielded ops a.tmps) = b := by
  unfold goes at hg
  unfold Region.wanted
  cases hgu : o.guard with
  | none => rw [hgu] at hg; simpa using hg
  | some jw =>
    obtain ⟨j, want⟩ := jw
    rw [hgu] at hg
    simp only at hg ⊢
    cases hd : (ops[j]?).bind (·.dst) with
    | none =>
      rw [hd] at hg
      have hy : yielded ops a.tmps j = none := by unfold yielded; rw [hd]; rfl
      rw [hy]
      simpa using hg
    | some d =>
      rw [hd] at hg
      simp only at hg
      cases hl : L.lookup d with
      | none => rw [hl] at hg; simp at hg
      | some v =>
        rw [hl] at hg
        cases v with
        | bool c =>
          simp only [Option.some.injEq] at hg
          have hy : yielded ops a.tmps j = some c := by
            unfold yielded; rw [hd]
            simp only [Option.bind_some, h.val d _ hl]
          rw [hy]
          subst hg
          cases c <;> cases want <;> rfl
        | tuple vs =>
          simp only [Option.some.injEq] at hg
          have hy : yielded ops a.tmps j = none := by
            unfold yielded; rw [hd]
            simp only [Option.bind_some, h.val d _ hl]
          rw [hy]
          subst hg
          rfl
        | _ => simp at hg

def okDst (N : Nat) (o : Oper) : Bool := match o.dst with | some d => decide (d < N) | none => true
theorem okDst_spec {N : Nat} {o : Oper} (h : okDst N o = true) : ∀ t, o.dst = some t → t < N := by
  intro t ht; unfold okDst at h; rw [ht] at h; simpa using h

/-- one operation that asks nothing of the world, or that is not carried out: the facts behind it -/
def pstep (P : Program) (ops : Array Oper) (N : Nat) (L : FL) (o : Oper) : Option FL :=
  if !(okDst N o && notSelect o) then none else
  match goes ops L o with
  | some true => if covers L o then (pval P L o).map fun v => upd L o.dst v else none
  | some false => match o.op with
    | .call _ => none
    | _ => some (upd L o.dst undef)
  | none => none
def pskip (ops : Array Oper) (N : Nat) (L : FL) (o : Oper) : Option FL :=
  if !(okDst N o) then none else
  match goes ops L o with
  | some false => some (upd L o.dst undef)
  | _ => none
def psteps (P : Program) (ops : Array Oper) (N : Nat) : List Oper → FL → Option FL
  | [], L => some L
  | o :: l, L => match (match pstep P ops N L o with | some L' => some L' | none => pskip ops N L o) with
    | some L' => psteps P ops N l L'
    | none => none

section
variable {ro : Option Nat} {P : Program} {ops : Array Oper} {Q : Exit → Act → World → Prop} {N : Nat} {D : List Deferred} {L L' : FL} {a : Act} {w : World} {o : Oper} {K : Act → World → Prop}
abbrev wl (ro : Option Nat) (P : Program) (ops : Array Oper) (Q : Exit → Act → World → Prop) : List Oper → Act → World → Prop := wpListIn (FW ro) 0 P ops Q
abbrev wo (ro : Option Nat) (P : Program) (o : Oper) (a : Act) (w : World) (K : Act → World → Prop) (Q : Exit → Act → World → Prop) : Prop := o.wpIn (FW ro) 0 P a w K Q

theorem semAt_eq (h : Fr N D L a) (hc : covers L o = true) (hn : notSelect o = true) : o.semAt ro a.eval = execOp (evD L) o := by
  rw [Oper.semAt_eq ro a.eval o (fun c e => by simp [notSelect, e] at hn)]
  exact exec_eq h hc hn

/-- an operation's run is known: a value, in another world -/
theorem wo_val (h : Fr N D L a) (hc : (covers L o && notSelect o && okDst N o) = true) {v : Value} {w' : World} (hr : (execOp (evD L) o).run P w = .ok (.value v) w')
    (k : ∀ a', Fr N D (upd L o.dst v) a' → K a' w') : wo ro P o a w K Q := by
  simp only [Bool.and_eq_true] at hc
  refine ⟨fun _ _ => trivial, ?_⟩
  show o.uponIn (FW ro) 0 P a K Q ((o.semAt ro a.eval).run P w)
  rw [semAt_eq h hc.1.1 hc.1.2, hr]
  exact k _ (h.put _ _ (okDst_spec hc.2))
theorem wo_skip (h : Fr N D L a) (hc : (covers L o && notSelect o && okDst N o) = true) {w' : World} (hr : (execOp (evD L) o).run P w = .ok .skip w')
    (k : ∀ a', Fr N D (upd L o.dst undef) a' → K a' w') : wo ro P o a w K Q := by
  simp only [Bool.and_eq_true] at hc
  refine ⟨fun _ _ => trivial, ?_⟩
  show o.uponIn (FW ro) 0 P a K Q ((o.semAt ro a.eval).run P w)
  rw [semAt_eq h hc.1.1 hc.1.2, hr]
  exact k _ (h.put _ _ (okDst_spec hc.2))
/-- a call of a Go function -/
theorem wo_call (h : Fr N D L a) (hc : (covers L o && notSelect o && okDst N o) = true) {f : FuncId} {args : Array Value} (hr : pureRun P (execOp (evD L) o) = some (.enter f args))
    {R : Ending → World → Prop} (hcall : Calls P f args w R) (k : ∀ e w', R e w' → ∃ v, e = .returned v ∧ ∀ a', Fr N D (upd L o.dst v) a' → K a' w') : wo ro P o a w K Q := by
  simp only [Bool.and_eq_true] at hc
  refine ⟨fun _ _ => trivial, ?_⟩
  show o.uponIn (FW ro) 0 P a K Q ((o.semAt ro a.eval).run P w)
  rw [semAt_eq h hc.1.1 hc.1.2, pureRun_run _ hr]
  refine ⟨fun hd => by simp [FW] at hd, ?_⟩
  have hcw : CallsIn Fence.wide (0 - 1) P f args w R := callsIn_wide.2 hcall
  have hci : CallsIn (FW ro) (0 - 1) P f args w R := hcw
  refine CallsIn.mono hci fun e w' hR => ?_
  obtain ⟨v, rfl, hk⟩ := k e w' hR
  exact hk _ (h.put _ _ (okDst_spec hc.2))

/-- the next operation of a row in order -/
theorem wl_cons (hg : o.guard = none) {l : List Oper} (h : wo ro P o a w (wl ro P ops Q l) Q) : wl ro P ops Q (o :: l) a w := by
  show wpListIn _ _ _ _ _ _ _ _
  unfold wpListIn
  rw [if_pos (by simp [Region.wanted, hg])]
  exact h
theorem wl_consg (hF : Fr N D L a) (hg : goes ops L o = some true) {l : List Oper} (h : wo ro P o a w (wl ro P ops Q l) Q) : wl ro P ops Q (o :: l) a w := by
  show wpListIn _ _ _ _ _ _ _ _
  unfold wpListIn
  rw [if_pos (goes_wanted hF hg)]
  exact h
theorem wl_pskip (hF : Fr N D L a) (hp : pskip ops N L o = some L') {l : List Oper} (k : ∀ a', Fr N D L' a' → wl ro P ops Q l a' w) : wl ro P ops Q (o :: l) a w := by
  unfold pskip at hp
  split at hp
  · cases hp
  · rename_i hd
    simp only [Bool.not_eq_true, Bool.not_eq_false'] at hd
    split at hp
    · rename_i hg
      simp only [Option.some.injEq] at hp
      subst hp
      show wpListIn _ _ _ _ _ _ _ _
      unfold wpListIn
      rw [if_neg (by rw [goes_wanted hF hg]; decide)]
      exact ⟨fun _ _ => trivial, k _ (hF.put _ _ (okDst_spec hd))⟩
    · cases hp
theorem wl_pstep (hF : Fr N D L a) (hp : pstep P ops N L o = some L') {l : List Oper} (k : ∀ a', Fr N D L' a' → wl ro P ops Q l a' w) : wl ro P ops Q (o :: l) a w := by
  unfold pstep at hp
  split at hp
  · cases hp
  · rename_i hd
    have hd' : okDst N o = true ∧ notSelect o = true := by
      revert hd; cases okDst N o <;> cases notSelect o <;> simp
    split at hp
    · rename_i hg
      split at hp
      · rename_i hcov
        cases hv : pval P L o with
        | none => rw [hv] at hp; cases hp
        | some v =>
          rw [hv] at hp
          simp only [Option.map_some, Option.some.injEq] at hp
          subst hp
          refine wl_consg hF hg (wo_val hF (by simp [hcov, hd'.1, hd'.2]) (v := v) (w' := w) ?_ k)
          unfold pval at hv
          split at hv
          · rename_i u hu
            simp only [Option.some.injEq] at hv
            subst hv
            exact pureRun_run _ hu w
          · cases hv
      · cases hp
    · rename_i hg
      split at hp
      · cases hp
      · simp only [Option.some.injEq] at hp
        subst hp
        show wpListIn _ _ _ _ _ _ _ _
        unfold wpListIn
        rw [if_neg (by rw [goes_wanted hF hg]; decide)]
        exact ⟨fun _ _ => trivial, k _ (hF.put _ _ (okDst_spec hd'.1))⟩
    · cases hp
/-- a stretch of operations that ask nothing of the world -/
theorem wl_psteps {l₁ l₂ : List Oper} : ∀ {L : FL} {a : Act}, Fr N D L a → psteps P ops N l₁ L = some L' → (∀ a', Fr N D L' a' → wl ro P ops Q l₂ a' w) → wl ro P ops Q (l₁ ++ l₂) a w := by
  induction l₁ with
  | nil => intro L a hF hp k; simp only [psteps, Option.some.injEq] at hp; subst hp; exact k a hF
  | cons o l ih =>
    intro L a hF hp k
    simp only [psteps] at hp
    split at hp
    · rename_i L1 h1
      cases h2 : pstep P ops N L o with
      | some L2 =>
        rw [h2] at h1
        simp only [Option.some.injEq] at h1
        subst h1
        exact wl_pstep hF h2 fun a' hF' => ih hF' hp k
      | none =>
        rw [h2] at h1
        exact wl_pskip hF h1 fun a' hF' => ih hF' hp k
    · cases hp
/-- the same, said of the number of operations, and of the slots that are kept -/
theorem wl_pure (n : Nat) (ks : List Nat) {l : List Oper} (hF : Fr N D L a) (hp : (psteps P ops N (l.take n) L).map (fun x => keep x ks) = some L')
    (k : ∀ a', Fr N D L' a' → wl ro P ops Q (l.drop n) a' w) : wl ro P ops Q l a w := by
  cases h : psteps P ops N (l.take n) L with
  | none => rw [h] at hp; cases hp
  | some L1 =>
    rw [h] at hp
    simp only [Option.map_some, Option.some.injEq] at hp
    subst hp
    have := wl_psteps (ro := ro) (Q := Q) (w := w) (l₂ := l.drop n) hF h fun a' hF' => k a' (hF'.keep ks)
    rwa [List.take_append_drop] at this

def argsL (args : Array Value) : FL := args.toList.zipIdx.map fun p => (p.2, p.1)
theorem lookup_argsL (vs : List Value) : ∀ (k t : Nat) (v : Value), ((vs.zipIdx k).map fun p => (p.2, p.1)).lookup t = some v → k ≤ t ∧ vs[t - k]? = some v := by
  induction vs with
  | nil => intro k t v h; simp at h
  | cons x vs ih =>
    intro k t v h
    simp only [List.zipIdx_cons, List.map_cons, List.lookup_cons] at h
    by_cases e : t = k
    · subst e; simp at h; subst h; simp
    · have hb : (t == k) = false := by simp [e]
      rw [hb] at h
      obtain ⟨h1, h2⟩ := ih (k + 1) t v h
      refine ⟨by omega, ?_⟩
      rw [show t - k = (t - (k + 1)) + 1 from by omega]
      simpa using h2
/-- into a function -/
theorem enter {f : FuncId} {fn : Func} {c : Code} {args : Array Value} {R : Ending → World → Prop} (hf : P.funcs[f]? = some fn) (hb : fn.body = some c) (hn : fn.ntmps = N) (hs : args.size ≤ N) (hL : argsL args = L)
    (h : ∀ a, Fr N [] L a → c.wpIn (FW none) 0 P (bodyPost P fn R) a w) : Calls P f args w R := by
  refine (callsIn_wide (n := 0)).1 ?_
  refine callsIn_of_wp hf hb trivial ?_ rfl
  refine h _ ⟨rfl, by simp [hn]; omega, fun t v ht => ?_⟩
  subst hL
  obtain ⟨_, h2⟩ := lookup_argsL args.toList 0 t v ht
  simp only [Nat.sub_zero] at h2
  have h3 : args[t]? = some v := by simpa using h2
  have hlt : t < args.size := by
    rcases Nat.lt_or_ge t args.size with h | h
    · exact h
    · rw [Array.getElem?_eq_none h] at h3; cases h3
  show (args ++ Array.replicate (fn.ntmps - args.size) undef)[t]? = some v
  rw [Array.getElem?_append_left hlt]
  exact h3
end
end Go.Cf
