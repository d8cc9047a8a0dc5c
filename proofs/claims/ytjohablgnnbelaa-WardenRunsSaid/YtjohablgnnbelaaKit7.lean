/- Part 7: regions that draw their order: what only looks at what stays may be taken first. -/
import Derived.Test.YtjohablgnnbelaaKit6
namespace Go.Cf
open Go

section
variable {ro : Option Nat} {P : Program} {ops : Array Oper} {Q : Exit → Act → World → Prop} {S : World → Prop} {tl : List Nat}
abbrev md := Region.Mode.any
/-- no operation of the tail has come up -/
def early (tl : List Nat) (listed : Array Bool) : Bool := tl.all fun j => !listed.getD j false
/-- whatever order is picked from here on; till an operation of the tail comes up S holds behind each -/
def AnyH (ro : Option Nat) (P : Program) (ops : Array Oper) (Q : Exit → Act → World → Prop) (S : World → Prop) (tl : List Nat) : Nat → Array Bool → Act → World → Prop
  | 0, listed, a, w => Region.ready md ops listed = [] ∧ Q .normal a w
  | fuel + 1, listed, a, w =>
    (Region.ready md ops listed = [] → Q .normal a w) ∧
    ∀ i ∈ Region.ready md ops listed, wpOpIn (FW ro) 0 P ops Q i (fun a' w' => (early tl (listed.setIfInBounds i true) = true → S w') ∧ AnyH ro P ops Q S tl fuel (listed.setIfInBounds i true) a' w') a w
theorem any_of_held : ∀ (fuel : Nat) (listed : Array Bool) (a : Act) (w : World), AnyH ro P ops Q S tl fuel listed a w → wpAnyIn (FW ro) 0 P md ops Q fuel listed a w
  | 0, _, _, _, h => h
  | fuel + 1, _, _, _, h => ⟨h.1, fun i hi => wpOpIn_mono (fun a' w' h' => any_of_held fuel _ a' w' h'.2) (h.2 i hi)⟩

def noSel (ops : Array Oper) : Bool := ops.all notSelect
theorem noSel_spec (h : noSel ops = true) {j : Nat} {o : Oper} (hj : ops[j]? = some o) : notSelect o = true := Array.all_eq_true_iff_forall_mem.1 h o (Array.mem_of_getElem? hj)
theorem notSelect_sel {o : Oper} (h : notSelect o = true) : ∀ cs b, o.op ≠ .select cs b := fun cs b e => by simp [notSelect, e] at h
theorem notSelect_def {o : Oper} (h : notSelect o = true) : ∀ c, o.op ≠ .defer c := fun c e => by simp [notSelect, e] at h

def YieldsIf' (P : Program) (ops : Array Oper) (S : World → Prop) (o : Oper) (v : Value) (a : Act) : Prop :=
  (Region.wanted o (yielded ops a.tmps) = true ∧ ∀ w, S w → (execOp a.eval o).run P w = .ok (.value v) w) ∨
  (Region.wanted o (yielded ops a.tmps) = false ∧ v = undef)
theorem YieldsIf'.of_same {o : Oper} {v : Value} {a a' : Act} (hy : YieldsIf' P ops S o v a) (he : execOp a'.eval o = execOp a.eval o)
    (hw : Region.wanted o (yielded ops a'.tmps) = Region.wanted o (yielded ops a.tmps)) : YieldsIf' P ops S o v a' := by
  unfold YieldsIf' at *
  rw [he, hw]
  exact hy
theorem YieldsIf'.op {i : Nat} {o : Oper} {v : Value} {a : Act} (hi : ops[i]? = some o) (hn : notSelect o = true) (hy : YieldsIf' P ops S o v a)
    {K : Act → World → Prop} {w : World} (hS : S w) (h : K (a.put o.dst v) w) : wpOpIn (FW ro) 0 P ops Q i K a w := by
  unfold wpOpIn
  simp only [hi]
  rcases hy with ⟨hw, hv⟩ | ⟨hw, rfl⟩
  · rw [if_pos hw]
    refine ⟨fun _ _ => trivial, ?_⟩
    rw [Oper.semAt_eq _ _ _ (notSelect_def hn), hv w hS]
    exact h
  · rw [if_neg (by rw [hw]; decide)]
    exact ⟨fun _ _ => trivial, h⟩
theorem opIn_putIf {j : Nat} {oi oj : Oper} {v : Value} (hj : ops[j]? = some oj) (hap : oi.apart ops oj = true) (hni : notSelect oi = true) (hnj : notSelect oj = true)
    (hQ : ∀ c a w, Q (.panic c) (a.put oi.dst v) w → Q (.panic c) a w) {K : Act → World → Prop} {a : Act} {w : World}
    (hy : YieldsIf' P ops S oi v a) (h : wpOpIn (FW ro) 0 P ops Q j K (a.put oi.dst v) w) :
    wpOpIn (FW ro) 0 P ops Q j (fun a' w' => YieldsIf' P ops S oi v a' ∧ K (a'.put oi.dst v) w') a w := by
  obtain ⟨h1, h2, h3⟩ := Oper.apart_spec hap
  have keep : ∀ (a : Act), YieldsIf' P ops S oi v a → ∀ u, YieldsIf' P ops S oi v (a.put oj.dst u) := fun a hy u =>
    hy.of_same (execOp_put oi (notSelect_sel hni) a oj.dst u h3) (wanted_put oi a oj.dst u h3)
  have keepD : ∀ d, YieldsIf' P ops S oi v { a with defers := d :: a.defers } := fun d => hy.of_same rfl rfl
  unfold wpOpIn at *
  simp only [hj] at *
  rw [wanted_put oj a oi.dst v h1] at h
  split
  · rename_i hw
    rw [if_pos hw] at h
    obtain ⟨_, h⟩ := h
    refine ⟨fun _ _ => trivial, ?_⟩
    rw [Oper.semAt_eq _ _ _ (notSelect_def hnj), execOp_put oj (notSelect_sel hnj) a oi.dst v h1] at h
    rw [Oper.semAt_eq _ _ _ (notSelect_def hnj)]
    generalize (execOp a.eval oj).run P w = r at *
    cases r with
    | ok n w' =>
      cases n <;> simp only [Oper.uponIn] at h ⊢
      case value u => exact ⟨keep a hy u, by rw [← Act.put_comm a v u h2]; exact h⟩
      case skip => exact ⟨keep a hy _, by rw [← Act.put_comm a v undef h2]; exact h⟩
      case defer d =>
        refine ⟨keep _ (keepD d) _, ?_⟩
        rw [← Act.put_comm _ v undef h2, ← Act.put_defers]
        exact h
      case enter f args =>
        refine ⟨h.1, CallsIn.mono h.2 fun e w'' he => ?_⟩
        cases e with
        | returned u => exact ⟨keep a hy u, by rw [← Act.put_comm a v u h2]; exact he⟩
        | panicked c => exact hQ _ _ _ he
        | outgrown => exact he
      case row row args => exact ⟨h.1, RowsIn.mono h.2 fun u w'' he => ⟨keep a hy u, by rw [← Act.put_comm a v u h2]; exact he⟩⟩
      case round l f tmps assign body =>
        refine ⟨h.1, RoundIn.mono h.2 fun e w'' he => ?_⟩
        cases e with
        | returned u => exact ⟨keep a hy u, by rw [← Act.put_comm a v u h2]; exact he⟩
        | panicked c => exact hQ _ _ _ he
        | outgrown => exact he
    | halt x w' =>
      cases x <;> simp only [Oper.uponIn] at h ⊢
      case panic u => exact hQ _ _ _ h
  · rename_i hw
    rw [if_neg hw] at h
    exact ⟨fun _ _ => trivial, keep a hy _, by rw [← Act.put_comm a v undef h2]; exact h.2⟩

/-- every operation of the tail waits for i -/
def tailWaits (ops : Array Oper) (tl : List Nat) (i : Nat) : Bool := tl.all fun j => j != i && ((ops[j]?).map fun o => o.after.any fun e => Region.binds md e && e.on == i).getD false
theorem any_firstD {i : Nat} {oi : Oper} {v : Value} (D : List Nat) (hi : ops[i]? = some oi) (hsel : noSel ops = true) (hD : ∀ k ∈ D, k ≠ i ∧ ∃ ok, ops[k]? = some ok ∧ ∃ e ∈ ok.after, Region.binds md e = true ∧ (e.on = i ∨ e.on ∈ D)) (hDt : ∀ j ∈ tl, j ∈ D)
    (hQ : ∀ c a w, Q (.panic c) (a.put oi.dst v) w → Q (.panic c) a w) :
    ∀ (fuel : Nat) (listed : Array Bool) (a : Act) (w : World),
      (∀ j oj, ops[j]? = some oj → j ≠ i → listed.getD j true = false → (∀ e ∈ oj.after, Region.binds md e = true → e.on ≠ i) → oi.apart ops oj = true) →
      i ∈ Region.ready md ops listed → (∀ k ∈ D, listed.getD k false = false) → YieldsIf' P ops S oi v a → early tl listed = true → S w →
      AnyH ro P ops Q S tl fuel (listed.setIfInBounds i true) (a.put oi.dst v) w → AnyH ro P ops Q S tl (fuel + 1) listed a w := by
  have notD : ∀ {j : Nat} {listed : Array Bool}, i ∈ Region.ready md ops listed → (∀ k ∈ D, listed.getD k false = false) → j ∈ Region.ready md ops listed → j ∉ D := fun {j listed} hr hun hj hmem => by
    obtain ⟨_, oj', hoj', e, he, heb, hon⟩ := hD j hmem
    obtain ⟨hjun, oj, hoj, hall⟩ := mem_ready.1 hj
    rw [hoj] at hoj'
    simp only [Option.some.injEq] at hoj'
    subst hoj'
    have h2 := hall e he heb
    have h0 := (mem_ready.1 hr).1
    rcases hon with hon | hon
    · rw [hon] at h2
      rcases Nat.lt_or_ge i listed.size with h' | h'
      · simp [h'] at h0 h2; rw [h0] at h2; cases h2
      · simp [Array.getElem?_eq_none h'] at h2
    · have h3 := hun _ hon
      rw [h3] at h2; cases h2
  have notTail : ∀ {j : Nat} {listed : Array Bool}, i ∈ Region.ready md ops listed → (∀ k ∈ D, listed.getD k false = false) → j ∈ Region.ready md ops listed → j ∉ tl := fun hr hun hj hmem => notD hr hun hj (hDt _ hmem)
  have earlySet : ∀ {j : Nat} {listed : Array Bool}, j ∉ tl → early tl listed = true → early tl (listed.setIfInBounds j true) = true := fun {j listed} hj h => by
    refine List.all_eq_true.2 fun k hk => ?_
    have hne : j ≠ k := fun e => hj (e ▸ hk)
    rw [getD_set_ne false hne]
    exact List.all_eq_true.1 h k hk
  have itl : i ∉ tl := fun hmem => (hD i (hDt i hmem)).1 rfl
  intro fuel
  induction fuel with
  | zero =>
    intro listed a w _ hr _ hy he hS H
    refine ⟨fun h => (by rw [h] at hr; cases hr), fun j hj => ?_⟩
    by_cases hji : j = i
    · subst hji; exact hy.op hi (noSel_spec hsel hi) hS ⟨fun _ => hS, H⟩
    · have := ready_mono hj hji
      rw [H.1] at this
      cases this
  | succ fuel ih =>
    intro listed a w hfree hr hun hy he hS H
    refine ⟨fun h => (by rw [h] at hr; cases hr), fun j hj => ?_⟩
    by_cases hji : j = i
    · subst hji; exact hy.op hi (noSel_spec hsel hi) hS ⟨fun _ => hS, H⟩
    · have h1 := H.2 j (ready_mono hj hji)
      obtain ⟨hjun, oj, hoj, hall⟩ := mem_ready.1 hj
      have hnot : ∀ e ∈ oj.after, Region.binds md e = true → e.on ≠ i := fun e he hb heq => by
        have h1 := hall e he hb
        have h0 := (mem_ready.1 hr).1
        rw [heq] at h1
        rcases Nat.lt_or_ge i listed.size with h' | h'
        · simp [h'] at h0 h1; rw [h0] at h1; cases h1
        · simp [Array.getElem?_eq_none h'] at h1
      have hjt := notTail hr hun hj
      have hun' : ∀ k ∈ D, (listed.setIfInBounds j true).getD k false = false := fun k hk => by
        have hjk : j ≠ k := fun e => notD hr hun hj (e ▸ hk)
        rw [getD_set_ne false hjk]; exact hun k hk
      have h2 := opIn_putIf hoj (hfree j oj hoj hji hjun hnot) (noSel_spec hsel hi) (noSel_spec hsel hoj) hQ hy h1
      have hfree' : ∀ k ok, ops[k]? = some ok → k ≠ i → (listed.setIfInBounds j true).getD k true = false →
          (∀ e ∈ ok.after, Region.binds md e = true → e.on ≠ i) → oi.apart ops ok = true := fun k ok hk hki hun hno => by
        refine hfree k ok hk hki ?_ hno
        by_cases hjk : j = k
        · subst hjk; exact hjun
        · rw [getD_set_ne true hjk] at hun; exact hun
      have e1 := earlySet hjt he
      have e2 : early tl ((listed.setIfInBounds i true).setIfInBounds j true) = true := earlySet hjt (earlySet itl he)
      refine wpOpIn_mono (fun a' w' h3 => ⟨fun _ => h3.2.1 e2, ih (listed.setIfInBounds j true) a' w' hfree' (ready_mono hr (Ne.symm hji)) hun' h3.1 e1 (h3.2.1 e2) ?_⟩) h2
      rw [Array.setIfInBounds_comm _ _ hji]
      exact h3.2.2

/-- who waits for i, directly or through others -/
def waiters (ops : Array Oper) (i : Nat) : List Nat := (List.range ops.size).foldl (fun D j => if (j != i && ((ops[j]?).map fun o => o.after.any fun e => Region.binds md e && (e.on == i || D.contains e.on)).getD false) = true then j :: D else D) []
theorem waiters_ok (ops : Array Oper) (i : Nat) : ∀ k ∈ waiters ops i, k ≠ i ∧ ∃ ok, ops[k]? = some ok ∧ ∃ e ∈ ok.after, Region.binds md e = true ∧ (e.on = i ∨ e.on ∈ waiters ops i) := by
  have key : ∀ (l D0 : List Nat), (∀ k ∈ D0, k ≠ i ∧ ∃ ok, ops[k]? = some ok ∧ ∃ e ∈ ok.after, Region.binds md e = true ∧ (e.on = i ∨ e.on ∈ D0)) →
      ∀ k ∈ l.foldl (fun D j => if (j != i && ((ops[j]?).map fun o => o.after.any fun e => Region.binds md e && (e.on == i || D.contains e.on)).getD false) = true then j :: D else D) D0, k ≠ i ∧ ∃ ok, ops[k]? = some ok ∧ ∃ e ∈ ok.after, Region.binds md e = true ∧ (e.on = i ∨ e.on ∈ l.foldl (fun D j => if (j != i && ((ops[j]?).map fun o => o.after.any fun e => Region.binds md e && (e.on == i || D.contains e.on)).getD false) = true then j :: D else D) D0) := by
    intro l
    induction l with
    | nil => intro D0 h; exact h
    | cons j l ih =>
      intro D0 h
      simp only [List.foldl_cons]
      refine ih _ ?_
      split
      · rename_i hc
        simp only [Bool.and_eq_true, bne_iff_ne, ne_eq] at hc
        intro k hk
        rcases List.mem_cons.1 hk with rfl | hk
        · refine ⟨hc.1, ?_⟩
          cases ho : ops[k]? with
          | none => rw [ho] at hc; simp at hc
          | some ok =>
            rw [ho] at hc
            simp only [Option.map_some, Option.getD_some] at hc
            obtain ⟨e, he, heb⟩ := Array.any_eq_true'.1 hc.2
            simp only [Bool.and_eq_true, Bool.or_eq_true, beq_iff_eq, List.contains_iff_mem] at heb
            exact ⟨ok, rfl, e, he, heb.1, heb.2.imp id (List.mem_cons_of_mem _)⟩
        · obtain ⟨h1, ok, h2, e, h3, h4, h5⟩ := h k hk
          exact ⟨h1, ok, h2, e, h3, h4, h5.imp id (List.mem_cons_of_mem _)⟩
      · exact h
  exact key _ [] (fun k hk => by cases hk)
def tailD (ops : Array Oper) (tl : List Nat) (listed : Array Bool) (i : Nat) : Bool := tl.all (fun j => (waiters ops i).contains j) && (waiters ops i).all fun k => !listed.getD k false
def tailOk (ops : Array Oper) (tl : List Nat) (listed : Array Bool) (i : Nat) : Bool := tailWaits ops tl i || tailD ops tl listed i
theorem any_first {i : Nat} {oi : Oper} {v : Value} {listed : Array Bool} (hi : ops[i]? = some oi) (hsel : noSel ops = true) (htl : tailOk ops tl listed i = true)
    (hQ : ∀ c a w, Q (.panic c) (a.put oi.dst v) w → Q (.panic c) a w) (fuel : Nat) (a : Act) (w : World)
    (hf : ∀ j oj, ops[j]? = some oj → j ≠ i → listed.getD j true = false → (∀ e ∈ oj.after, Region.binds md e = true → e.on ≠ i) → oi.apart ops oj = true)
    (hr : i ∈ Region.ready md ops listed) (hy : YieldsIf' P ops S oi v a) (he : early tl listed = true) (hS : S w)
    (h : AnyH ro P ops Q S tl fuel (listed.setIfInBounds i true) (a.put oi.dst v) w) : AnyH ro P ops Q S tl (fuel + 1) listed a w := by
  rcases (Bool.or_eq_true _ _).mp htl with ht | ht
  · refine any_firstD tl hi hsel (fun k hk => ?_) (fun _ h => h) hQ fuel listed a w hf hr (fun k hk => by have := List.all_eq_true.1 he k hk; simpa using this) hy he hS h
    have h1 := List.all_eq_true.1 ht k hk
    simp only [Bool.and_eq_true, bne_iff_ne, ne_eq] at h1
    refine ⟨h1.1, ?_⟩
    cases ho : ops[k]? with
    | none => rw [ho] at h1; simp at h1
    | some ok =>
      rw [ho] at h1
      simp only [Option.map_some, Option.getD_some] at h1
      obtain ⟨e, hea, heb⟩ := Array.any_eq_true'.1 h1.2
      simp only [Bool.and_eq_true, beq_iff_eq] at heb
      exact ⟨ok, rfl, e, hea, heb.1, .inl heb.2⟩
  · simp only [tailD, Bool.and_eq_true] at ht
    refine any_firstD (waiters ops i) hi hsel (waiters_ok ops i) (fun j hj => by have := List.all_eq_true.1 ht.1 j hj; simpa using this) hQ fuel listed a w hf hr (fun k hk => by have := List.all_eq_true.1 ht.2 k hk; simpa using this) hy he hS h

/-- what may be asked of an operation that is to be taken first -/
def mayTake (ops : Array Oper) (tl : List Nat) (listed : Array Bool) (i : Nat) : Bool :=
  Region.free md ops listed i && (Region.ready md ops listed).contains i && tailOk ops tl listed i && early tl listed

variable {N : Nat} {D : List Deferred} {L L' : FL} {a : Act} {w : World} {fuel : Nat} {listed : Array Bool}
theorem any_take (i : Nat) (d : Option Tmp) {o : Oper} (hF : Fr N D L a) (hS : S w) (hi : ops[i]? = some o) (hsel : noSel ops = true) (hm : mayTake ops tl listed i = true) (hQ : ∀ c a w v, Q (.panic c) (a.put o.dst v) w → Q (.panic c) a w)
    (hd : okDst N o = true) (hg : goes ops L o = some true) (hc : covers L o = true) {v : Value} (hdd : o.dst = d) (hv : ∀ w, S w → (execOp (evD L) o).run P w = .ok (.value v) w)
    (k : ∀ a', Fr N D (upd L d v) a' → AnyH ro P ops Q S tl fuel (listed.setIfInBounds i true) a' w) : AnyH ro P ops Q S tl (fuel + 1) listed a w := by
  subst hdd
  simp only [mayTake, Bool.and_eq_true] at hm
  obtain ⟨⟨⟨hf, hr⟩, ht⟩, he⟩ := hm
  have hn := noSel_spec hsel hi
  refine any_first hi hsel ht (fun c a w => hQ c a w v) fuel a w (Region.free_spec hi hf) (by simpa using hr) (.inl ⟨goes_wanted hF hg, fun w hw => ?_⟩) he hS (k _ (hF.put _ _ (okDst_spec hd)))
  rw [exec_eq hF hc hn]
  exact hv w hw
theorem any_skip (i : Nat) {o : Oper} (hF : Fr N D L a) (hS : S w) (hi : ops[i]? = some o) (hsel : noSel ops = true) (hm : mayTake ops tl listed i = true) (hQ : ∀ c a w v, Q (.panic c) (a.put o.dst v) w → Q (.panic c) a w)
    (hd : okDst N o = true) (hg : goes ops L o = some false)
    (k : ∀ a', Fr N D (upd L o.dst undef) a' → AnyH ro P ops Q S tl fuel (listed.setIfInBounds i true) a' w) : AnyH ro P ops Q S tl (fuel + 1) listed a w := by
  simp only [mayTake, Bool.and_eq_true] at hm
  obtain ⟨⟨⟨hf, hr⟩, ht⟩, he⟩ := hm
  exact any_first hi hsel ht (fun c a w => hQ c a w undef) fuel a w (Region.free_spec hi hf) (by simpa using hr) (.inr ⟨by rw [goes_wanted hF hg], rfl⟩) he hS (k _ (hF.put _ _ (okDst_spec hd)))

/-- a row of operations that ask nothing of the world, or are passed over, taken first one by one -/
def ptakes (P : Program) (ops : Array Oper) (tl : List Nat) (N : Nat) : List Nat → Array Bool → FL → Option (Array Bool × FL)
  | [], listed, L => some (listed, L)
  | i :: is, listed, L =>
    match ops[i]? with
    | none => none
    | some o => if mayTake ops tl listed i && okDst N o then
        match goes ops L o with
        | some true => if covers L o then (match pval P L o with | some v => ptakes P ops tl N is (listed.setIfInBounds i true) (upd L o.dst v) | none => none) else none
        | some false => ptakes P ops tl N is (listed.setIfInBounds i true) (upd L o.dst undef)
        | none => none
      else none
theorem any_ptakes (hsel : noSel ops = true) (hQ : ∀ c a w t v, Q (.panic c) (a.put t v) w → Q (.panic c) a w) (hS : S w) : ∀ (is : List Nat) {listed listed' : Array Bool} {L L' : FL} {a : Act}, Fr N D L a → ptakes P ops tl N is listed L = some (listed', L') →
    (∀ a', Fr N D L' a' → AnyH ro P ops Q S tl fuel listed' a' w) → AnyH ro P ops Q S tl (fuel + is.length) listed a w := by
  intro is
  induction is with
  | nil => intro listed listed' L L' a hF hp k; simp only [ptakes, Option.some.injEq, Prod.mk.injEq] at hp; obtain ⟨rfl, rfl⟩ := hp; exact k a hF
  | cons i is ih =>
    intro listed listed' L L' a hF hp k
    simp only [ptakes] at hp
    cases hi : ops[i]? with
    | none => rw [hi] at hp; cases hp
    | some o =>
      rw [hi] at hp
      simp only at hp
      split at hp
      · rename_i hc
        simp only [Bool.and_eq_true] at hc
        have hfe : fuel + (i :: is).length = (fuel + is.length) + 1 := by simp [Nat.add_assoc]
        rw [hfe]
        split at hp
        · rename_i hg
          split at hp
          · rename_i hcov
            split at hp
            · rename_i v hv
              refine any_take i _ hF hS hi hsel hc.1 (fun c a w v => hQ c a w _ v) hc.2 hg hcov (v := v) rfl (fun w _ => ?_) fun a' hF' => ih hF' hp k
              unfold pval at hv
              split at hv
              · rename_i u hu
                simp only [Option.some.injEq] at hv
                subst hv
                exact pureRun_run _ hu w
              · cases hv
            · cases hp
          · cases hp
        · rename_i hg
          exact any_skip i hF hS hi hsel hc.1 (fun c a w v => hQ c a w _ v) hc.2 hg fun a' hF' => ih hF' hp k
        · cases hp
      · cases hp
/-- the same, with the slots that are kept; fuel as it stands -/
theorem any_pure (is : List Nat) (ks : List Nat) {m : Nat} {listed' : Array Bool} (hF : Fr N D L a) (hS : S w) (hsel : noSel ops = true) (hQ : ∀ c a w t v, Q (.panic c) (a.put t v) w → Q (.panic c) a w)
    (hp : (ptakes P ops tl N is listed L).map (fun x => (x.1, keep x.2 ks)) = some (listed', L')) (hm : m = fuel + is.length)
    (k : ∀ a', Fr N D L' a' → AnyH ro P ops Q S tl fuel listed' a' w) : AnyH ro P ops Q S tl m listed a w := by
  subst hm
  cases h : ptakes P ops tl N is listed L with
  | none => rw [h] at hp; cases hp
  | some x =>
    obtain ⟨l1, L1⟩ := x
    rw [h] at hp
    simp only [Option.map_some, Option.some.injEq, Prod.mk.injEq] at hp
    obtain ⟨rfl, rfl⟩ := hp
    exact any_ptakes hsel hQ hS is hF h fun a' hF' => k a' (hF'.keep ks)
/-- the one operation that may come up -/
theorem any_go (i : Nat) {o : Oper} (hF : Fr N D L a) (hi : ops[i]? = some o) (hr : Region.ready md ops listed = [i]) (hg : goes ops L o = some true) {listed' : Array Bool} (hl : listed.setIfInBounds i true = listed')
    (h : wo ro P o a w (fun a' w' => (early tl listed' = true → S w') ∧ AnyH ro P ops Q S tl fuel listed' a' w') Q) : AnyH ro P ops Q S tl (fuel + 1) listed a w := by
  subst hl
  refine ⟨fun h0 => (by rw [hr] at h0; cases h0), fun j hj => ?_⟩
  rw [hr] at hj
  simp only [List.mem_singleton] at hj
  subst hj
  unfold wpOpIn
  simp only [hi]
  rw [if_pos (goes_wanted hF hg)]
  exact h
/-- two that may come up -/
theorem any_go2 (i j : Nat) {oi oj : Oper} (hF : Fr N D L a) (hi : ops[i]? = some oi) (hj : ops[j]? = some oj) (hr : Region.ready md ops listed = [i, j]) (hgi : goes ops L oi = some true) (hgj : goes ops L oj = some true) {li lj : Array Bool} (hli : listed.setIfInBounds i true = li) (hlj : listed.setIfInBounds j true = lj)
    (h1 : wo ro P oi a w (fun a' w' => (early tl li = true → S w') ∧ AnyH ro P ops Q S tl fuel li a' w') Q) (h2 : wo ro P oj a w (fun a' w' => (early tl lj = true → S w') ∧ AnyH ro P ops Q S tl fuel lj a' w') Q) : AnyH ro P ops Q S tl (fuel + 1) listed a w := by
  subst hli hlj
  refine ⟨fun h0 => (by rw [hr] at h0; cases h0), fun k hk => ?_⟩
  rw [hr] at hk
  simp only [List.mem_cons, List.not_mem_nil, or_false] at hk
  rcases hk with rfl | rfl
  · unfold wpOpIn
    simp only [hi]
    rw [if_pos (goes_wanted hF hgi)]
    exact h1
  · unfold wpOpIn
    simp only [hj]
    rw [if_pos (goes_wanted hF hgj)]
    exact h2
theorem any_done (hr : Region.ready md ops listed = []) (h : Q .normal a w) : ∀ fuel, AnyH ro P ops Q S tl fuel listed a w
  | 0 => ⟨hr, h⟩
  | _ + 1 => ⟨fun _ => h, by rw [hr]; simp⟩
/-- an operation that asks nothing of the world -/
theorem wo_pure {o : Oper} {K : Act → World → Prop} (hF : Fr N D L a) (hc : okOp N L o = true) {v : Value} (hp : pval P L o = some v) (k : ∀ a', Fr N D (upd L o.dst v) a' → K a' w) : wo ro P o a w K Q := by
  refine wo_val hF hc (v := v) (w' := w) ?_ k
  unfold pval at hp
  split at hp
  · rename_i u hu
    simp only [Option.some.injEq] at hp
    subst hp
    exact pureRun_run _ hu w
  · cases hp
theorem code_join {c : Code} (J : Act → World → Prop) (h1 : c.wpIn (FW ro) 0 P (Exit.then J Q) a w) (h2 : ∀ a w, J a w → Q .normal a w) : c.wpIn (FW ro) 0 P Q a w := by
  refine wpIn_mono h1 fun e a w h => ?_
  cases e <;> first | exact h2 _ _ h | exact h
/-- into a region that draws -/
theorem region_any {id : Nat} (S : World → Prop) (tl : List Nat) (hm : P.follows .mixedOrders = true) {n : Nat} (hn : ops.size = n) {l : Array Bool} (hl : Array.replicate n false = l)
    (h : AnyH ro P ops Q S tl n l a { w with drawn := w.drawn + 1 }) : (Code.region id ops true).wpIn (FW ro) 0 P Q a w := by
  subst hn hl
  exact wpIn_region_any hm (any_of_held _ _ _ _ h)
end

section
variable {P : Program} {w : World} {L : FL} {o : Oper} {M : List Nat} {κ0 κ : Gh} {w0 : World} {C : List Ck} {R : List MP}
/-- the worlds in which these chunks are had, and these facts hold -/
abbrev SSx (M : List Nat) (κ0 : Gh) (w0 : World) (C : List Ck) (R : List MP) (w : World) : Prop := ∃ κ, SS M κ0 w0 κ w C R
theorem val_load (i k j : Nat) {b TB T off n : Nat} {s : Segs} {l : List Value} {v : Value} {x : Operand} (hop : o.op = .load T x) (hx : ev L x = some (.pointer (some ⟨b, off, none⟩)))
    (hC : C[i]? = some (.box b TB s)) (hk : s[k]? = some (n, l)) (hj : l[j]? = some v) (hoff : tot (s.take k) + j = off) (hg : pureRun P (isAgg T) = some false) : ∀ w, SSx M κ0 w0 C R w → (execOp (evD L) o).run P w = .ok (.value v) w := fun w ⟨κ, hS⟩ => by
  have hb := hS.ck i hC
  have hjn : j < n := by
    have h1 := hb.2.1 (n, l) (List.mem_of_getElem? hk)
    have h2 := (List.getElem?_eq_some_iff.1 hj).1
    simp only at h1; omega
  refine exec_load hop hx (run_load_scalar hg ?_)
  rw [cell_box hb, ← hoff, segs_at hb.2.1 hk j hjn, hj]
theorem val_loads (i k m : Nat) {b TB T off n : Nat} {s s' : Segs} {x : Operand} (hop : o.op = .load T x) (hx : ev L x = some (.pointer (some ⟨b, off, none⟩)))
    (hC : C[i]? = some (.box b TB s)) (hs' : (s.drop k).take m = s') (hoff : tot (s.take k) = off) (hg : pureRun P (isAgg T) = some true) (hsz : pureRun P (sizeOf T) = some n) (hn : tot s' = n) : ∀ w, SSx M κ0 w0 C R w → (execOp (evD L) o).run P w = .ok (.value (.agg (flat s').toArray)) w := fun w ⟨κ, hS⟩ => by
  have hb := hS.ck i hC
  subst hs'
  refine exec_load hop hx (run_load_agg hg hsz ?_ ?_)
  · rw [← hn]; exact flat_length fun y hy => hb.2.1 y (List.mem_of_mem_drop (List.mem_of_mem_take hy))
  · intro j v hj
    rw [cell_box hb, ← hoff]
    exact flat_sub hb.2.1 k m j v hj
theorem val_index {α : Type} {T E sz n c b off : Nat} {kd : IntKind} {p : Option Addr} {l : List α} {i : Int} {y : α} {x ix : Operand} (hop : o.op = .indexAddr T x ix) (hp : p = some ⟨b, off, none⟩)
    (hx : ev L x = some (.slice p n c)) (hn : n = l.length) (hix : ev L ix = some (.int kd i)) (hi : idx l i = some y) (hu : pureRun P (underlying T) = some (.slice E)) (hs : pureRun P (sizeOf E) = some sz) : ∀ w : World, (execOp (evD L) o).run P w = .ok (.value (.pointer (some ⟨b, off + i.toNat * sz, none⟩))) w := fun w => by
  obtain ⟨h0, h1, h2⟩ := idx_some hi
  simp only [execOp, hop, evD, hx, hix, Option.getD_some]
  subst hn hp
  have hlt : i < (l.length : Int) := by omega
  simp [Instr.indexAt, asIntOf, run_underlying' hu, pureRun_run _ hs w, h0, hlt, add_off]
theorem val_loadRo {α : Type} {t : FT α} (ri f : Nat) {T c b off E : Nat} {p : Option Addr} {l : List α} {i : Int} {y : α} {x : Operand} {v : Value} (hop : o.op = .load T x) (hR : R[ri]? = some (Ro.mp t.ty p c l))
    (hp : p = some ⟨b, off, none⟩) (hx : ev L x = some (.pointer (some ⟨b, E, none⟩))) (hi : idx l i = some y) (hE : off + i.toNat * t.size + f = E) (hv : (t.enc y)[f]? = some v) (hg : pureRun P (isAgg T) = some false) : ∀ w, SSx M κ0 w0 C R w → (execOp (evD L) o).run P w = .ok (.value v) w := fun w ⟨κ, hS⟩ => by
  have hRo : Ro t.ty κ w p c l := hS.get ri hR
  subst hp hE
  obtain ⟨cs, hr, hcs⟩ := hRo.at' (idx_some hi).2.2
  have hr' : cs = t.enc y := hr
  subst hr'
  exact exec_load hop hx (run_load_scalar hg (hcs f v hv))
theorem val_loadRoAgg {α : Type} {t : FT α} (ri : Nat) {T c b off E : Nat} {p : Option Addr} {l : List α} {i : Int} {y : α} {x : Operand} (hop : o.op = .load T x) (hR : R[ri]? = some (Ro.mp t.ty p c l))
    (hp : p = some ⟨b, off, none⟩) (hx : ev L x = some (.pointer (some ⟨b, E, none⟩))) (hi : idx l i = some y) (hE : off + i.toNat * t.size = E) (hg : pureRun P (isAgg T) = some true) (hsz : pureRun P (sizeOf T) = some t.size) : ∀ w, SSx M κ0 w0 C R w → (execOp (evD L) o).run P w = .ok (.value (.agg (t.enc y).toArray)) w := fun w ⟨κ, hS⟩ => by
  have hRo : Ro t.ty κ w p c l := hS.get ri hR
  subst hp hE
  obtain ⟨cs, hr, hcs⟩ := hRo.at' (idx_some hi).2.2
  have hr' : cs = t.enc y := hr
  subst hr'
  exact exec_load hop hx (run_load_agg hg hsz (t.len y) fun j v hj => hcs j v hj)
/-- where a list has an element its slice is not nil -/
theorem SS.ptr {α : Type} {t : Ty α} (hS : SS M κ0 w0 κ w C R) (ri : Nat) {p : Option Addr} {c : Nat} {l : List α} {i : Int} {y : α} (hR : R[ri]? = some (Ro.mp t p c l)) (hi : idx l i = some y) : ∃ b off, p = some ⟨b, off, none⟩ := by
  have hRo : Ro t κ w p c l := hS.get ri hR
  obtain ⟨b, off, hp, _⟩ := hRo.at (idx_some hi).2.2
  exact ⟨b, off, hp⟩
end
end Go.Cf
