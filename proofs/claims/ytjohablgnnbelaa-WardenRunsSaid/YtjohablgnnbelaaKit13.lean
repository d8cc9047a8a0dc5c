/- Part 13: ranges over functions, in the form that the printed walks use: a round's end as a number. -/
import Derived.Test.YtjohablgnnbelaaKit12
namespace Go.Cf
open Go

section
variable {P : Program} {Q : Exit → Act → World → Prop} {N : Nat} {D : List Deferred} {L L' : FL} {a : Act} {w : World}
variable {M : List Nat} {κ0 κ : Gh} {w0 : World} {C C' : List Ck} {R R' : List MP}
/-- 0: the rounds go on; n + 1: a round has been left by the n-th jump -/
def lpState : Nat → LoopState
  | 0 => .ready
  | _ + 1 => .done
def lpJump (js : List Code) : Nat → Option Code
  | 0 => none
  | n + 1 => js[n]?
theorem lpState_ne (n : Nat) : lpState n ≠ .busy := by cases n <;> simp [lpState]
def lp (rc : Loop) (js : List Code) (n : Nat) : Loop := { rc with state := lpState n, pending := lpJump js n }
theorem lp_zero {rc : Loop} {js : List Code} (h1 : rc.state = .ready) (h2 : rc.pending = none) : lp rc js 0 = rc := by
  obtain ⟨a, b, c, d, e, f, g, h⟩ := rc
  simp only at h1 h2
  subst h1 h2
  rfl
/-- what the activation does next -/
def jumped (P : Program) (Q : Exit → Act → World → Prop) (js : List Code) (n : Nat) (a : Act) (w : World) : Prop :=
  match lpJump js n with
  | none => Q .normal a w
  | some c => c.wpIn (FW none) 0 P Q a w
theorem jumped0 {js : List Code} {n : Nat} (h : (n == 0) = true) (k : Q .normal a w) : jumped P Q js n a w := by
  have : n = 0 := by simpa using h
  subst this
  exact k
theorem jumpedS {js : List Code} {n : Nat} (i : Nat) {c : Code} (h : (n == i + 1) = true) (hj : js[i]? = some c) (k : c.wpIn (FW none) 0 P Q a w) : jumped P Q js n a w := by
  have : n = i + 1 := by simpa using h
  subst this
  unfold jumped
  simp only [lpJump, hj]
  exact k

/-- the slots that a round's values are laid into -/
def ups (L : FL) (l : List (Tmp × Value)) : FL := l.foldl (fun L x => upd L (some x.1) x.2) L
theorem Fr.fold : ∀ (l : List (Tmp × Value)) {L : FL} {t : Array Value}, Fr N D L { tmps := t, defers := D } → (l.all fun x => x.1 < N) = true → Fr N D (ups L l) { tmps := l.foldl (fun tmps (x : Tmp × Value) => tmps.setIfInBounds x.1 x.2) t, defers := D } := by
  intro l
  induction l with
  | nil => intro L t h _; exact h
  | cons x l ih =>
    intro L t h hl
    simp only [List.all_cons, Bool.and_eq_true, decide_eq_true_eq] at hl
    have h1 : Fr N D (upd L (some x.1) x.2) { tmps := t.setIfInBounds x.1 x.2, defers := D } := h.put (some x.1) x.2 (fun t ht => by cases ht; exact hl.1)
    exact ih h1 hl.2
theorem Fr.round {ps : Array Tmp} {args : Array Value} (h : Fr N [] L a) (hl : ((ps.zip args).toList.all fun x => x.1 < N) = true) (ks : List Nat) (hL : Cf.keep (ups L (ps.zip args).toList) ks = L') :
    Fr N [] L' { tmps := (ps.zip args).foldl (fun tmps (t, a) => tmps.setIfInBounds t a) a.tmps, defers := [] } := by
  have h0 : Fr N [] L { tmps := a.tmps, defers := [] } := ⟨rfl, h.size, h.val⟩
  have := (h0.fold (ps.zip args).toList hl).keep' ks hL
  rw [← Array.foldl_toList]
  exact this

/-- a round, with the record at hand -/
theorem round_at {σ : Type} {Y : σ → XF → Prop} {r l : Nat} {rc : Loop} {js : List Code} {n : Nat} {args : Array Value} {s' : σ} {c : Bool} {ps : Array Tmp} {assign body : Code} {a0 : Act} (hp : (mkX r l (lp rc js n) C R).p κ w) (hf : Fresh κ w) (hnd : (mkX r l (lp rc js n) C R).bs.Nodup) (hlt : ∀ b ∈ (mkX r l (lp rc js n) C R).bs, b < w.heap.size)
    (hn : (n == 0) = true) (hrc : rc.params = ps ∧ rc.assign = assign ∧ rc.body = body ∧ rc.tmps = a0.tmps) (hargs : args.size = ps.size) (ks : List Nat) {L0 : FL} (hF0 : Fr N [] L0 a0) (hl : ((ps.zip args).toList.all fun x => x.1 < N) = true) (hL : Cf.keep (ups L0 (ps.zip args).toList) ks = L)
    (h : ∀ a, Fr N [] L a → SS (blksOf C) κ w κ w C R → assign.wpIn (FW (some l)) 0 P (Exit.then (fun a1 w1 => ∃ κ1 C1 R1, SS (blksOf C) κ w κ1 w1 C1 R1 ∧ ∀ w2, SS (blksOf C1) κ1 w2 κ1 w2 C1 R1 →
      body.wpIn (FW (some l)) 0 P (roundExit Y s' c r l rc κ1 w2 C1) a1 w2) (fun _ _ _ => False)) a w) : RoundOk P l Y args (mkX r l (lp rc js n) C R) s' c κ w := by
  obtain ⟨rfl, rfl, rfl, ht⟩ := hrc
  have hn0 : n = 0 := by simpa using hn
  subst hn0
  refine round_ok hp hf hnd hlt rfl hargs (L := L) (N := N) ?_ h
  have := hF0.round hl ks hL
  show Fr N [] L { tmps := (rc.params.zip args).foldl (fun tmps (t, a) => tmps.setIfInBounds t a) rc.tmps, defers := [] }
  rw [ht]
  exact this
/-- a round's end -/
theorem re_done {σ : Type} {Y : σ → XF → Prop} {s' : σ} {c : Bool} {r l : Nat} {rc : Loop} {κb : Gh} {wb : World} {Cb : List Ck} {js : List Code} {w3 : World} (n : Nat) (hS : SS (blksOf Cb) κb wb κ w3 C R) (jump : Option Code) (hj : lpJump js n = jump) (hst : lpState n = if jump.isNone then .ready else .done) (hc : c = jump.isNone)
    (hY : Y s' (mkX r l (lp rc js n) C R)) : RE Y s' c r l rc κb wb Cb jump w3 := by
  subst hj
  refine ⟨κ, C, R, hS, hc, ?_⟩
  rw [← hst]
  exact hY
theorem re_normal {σ : Type} {Y : σ → XF → Prop} {s' : σ} {r l : Nat} {rc : Loop} {κb : Gh} {wb : World} {Cb : List Ck} (js : List Code) (hS : SS (blksOf Cb) κb wb κ w C R) (hY : Y s' (mkX r l (lp rc js 0) C R)) : roundExit Y s' true r l rc κb wb Cb .normal a w :=
  re_done 0 hS none rfl rfl rfl hY
theorem re_ret {σ : Type} {Y : σ → XF → Prop} {s' : σ} {r l : Nat} {rc : Loop} {κb : Gh} {wb : World} {Cb : List Ck} (js : List Code) (n : Nat) (hj : js[n]? = some .ret) (hS : SS (blksOf Cb) κb wb κ w C R) (hY : Y s' (mkX r l (lp rc js (n + 1)) C R)) : roundExit Y s' false r l rc κb wb Cb .ret a w :=
  re_done (n + 1) hS (some .ret) hj rfl rfl hY
theorem re_exit {σ : Type} {Y : σ → XF → Prop} {s' : σ} {r l : Nat} {rc : Loop} {κb : Gh} {wb : World} {Cb : List Ck} (js : List Code) (n : Nat) {id : Nat} (hj : js[n]? = some (.exit id)) (hS : SS (blksOf Cb) κb wb κ w C R) (hY : Y s' (mkX r l (lp rc js (n + 1)) C R)) : roundExit Y s' false r l rc κb wb Cb (.exit id) a w :=
  re_done (n + 1) hS (some (.exit id)) hj rfl rfl hY
theorem wp_range' {Cap : List Ck} (js : List Code) (args : Nat → Array Value) {g : Operand} {ps : Array Tmp} {assign body : Code} {f : FuncId} {caps : Array Value} (hF : Fr N [] L a) (hS : SS M κ0 w0 κ w (C ++ Cap) R) (hcov : ev L g = some (.func (.func f) #[] caps)) (hf : ∀ args w, (callFunc f args).run P w = .ok (.enter f args) w) (hR : ∀ m ∈ R', m.p κ w) (hargs : ∀ l, #[.func (.yield l) #[] #[]] ++ caps = args l)
    (h : ∀ r l rc w1, (rc.params = ps ∧ rc.assign = assign ∧ rc.body = body ∧ rc.tmps = a.tmps) → SS M κ0 w0 κ w1 (.ext (mkX r l (lp rc js 0) C R') :: Cap) R →
      ∃ Yf : XF → Prop, Calls P f (args l) w1 (Post (blksOf (.ext (mkX r l (lp rc js 0) C R') :: Cap)) κ w1 fun _ κ' w' => ∃ x, Yf x ∧ SS (blksOf (.ext (mkX r l (lp rc js 0) C R') :: Cap)) κ w1 κ' w' [.ext x] []) ∧
        ∀ x, Yf x → ∃ n C'' R'', x = mkX r l (lp rc js n) C'' R'' ∧ ∀ κ' w' a', Fr N [mark r] L a' → SS M κ0 w0 κ' w' (.ext (defX r) :: C'') (R'' ++ R) → jumped P Q js n a' w') :
    (Code.rangeFunc g ps assign body).wpIn (FW none) 0 P Q a w := by
  refine wp_range hF hS hcov hf hR fun r l fn w1 hS1 => ?_
  obtain ⟨Yf, h1, h2⟩ := h r l { state := .ready, pending := none, fn := fn, tmps := a.tmps, params := ps, assign := assign, body := body, defers := r } w1 ⟨rfl, rfl, rfl, rfl⟩ hS1
  refine ⟨Yf, by rw [hargs]; exact h1, fun x hx => ?_⟩
  obtain ⟨n, C'', R'', hxe, hk⟩ := h2 x hx
  exact ⟨_, C'', R'', hxe, lpState_ne n, hk⟩
theorem ret_done0 {fn : Func} {φ : Value → Gh → World → Prop} {v : Value} (hF : Fr N [] L a) (hS : SS M κ0 w0 κ w C R) (hr : (results fn a.tmps).run P w = .ok v w) (hφ : φ v κ w) : postM P fn (Post M κ0 w0 φ) .ret a w := by
  show LeavesInM (FW none) 0 P fn a.tmps (Post M κ0 w0 φ) a.defers .returning w
  rw [hF.defers]
  exact ⟨v, hr, v, κ, rfl, hS.ext, hS.fresh, hφ⟩
/-- the value of a function with what it has captured -/
theorem val_makeFunc {T' : Nat} {o : Oper} {f : FuncId} {xs : Array Operand} {caps : Array Value} (hop : o.op = .makeFunc (.func f) #[] xs) (hx : xs.map (evD L) = caps) : ∀ w, (execOp (evD L) o).run P w = .ok (.value (.func (.func f) #[] caps)) w := fun w => by
  subst hx
  simp [execOp, hop, Instr.makeFunc]
end
end Go.Cf
