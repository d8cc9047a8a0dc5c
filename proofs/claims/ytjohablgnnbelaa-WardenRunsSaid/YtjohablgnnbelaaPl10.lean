/- What a warden's Take comes to. -/
import Derived.Test.YtjohablgnnbelaaPl8
import Derived.Test.YtjohablgnnbelaaPl9
import Derived.Test.YtjohablgnnbelaaM8a
namespace Go.Cf
open Go
theorem zeros4 (l : List Bool) (h : l.length = 4) : cEq (flat [(4, encs fBool l)]) (flat [(4, encs fBool (List.replicate 4 false))]) = decide (l = List.replicate 4 false) := by
  match l, h with
  | [a, b, c, d], _ => cases a <;> cases b <;> cases c <;> cases d <;> rfl
def gateI (dc : Int) : Int := IntKind.i64.wrap ((IntKind.i64.wrap ((IntKind.i64.wrap (1 + (IntKind.i64.wrap (5 * dc)))) + (-1))) + 1)
def mailF (epoch mark : Int) (c : T_api_Cmd) : T_api_Mail := T_api_Mail.mk (gateI c.DC) (T_api_Msg.mk 22 (IntKind.u64.wrap epoch) 0 mark ByteArray.empty ByteArray.empty ([] : List T_api_Ver) ([] : List Int) (T_api_Cmd.mk 0 0 0 0 0 ByteArray.empty))
def k1P (w : T_warden_Warden) (c : T_api_Cmd) : T_warden_Warden := if w.step_ = 2 ∧ w.ready = true then sendP { w with step_ := 3 } c else w
def ackW (w : T_warden_Warden) (dc : Nat) (ts : Int) : T_warden_Warden := { w with wait := w.wait.set dc false, mark_ := if ts > w.mark_ then ts else w.mark_ }
def takeQ (w : T_warden_Warden) (c : T_api_Cmd) (q : List T_api_Cmd) (dc : Int) (m : T_api_Msg) : T_warden_Warden :=
  if m.Kind = 23 ∧ w.wait.getD dc.toNat false = true then
    if w.wait.set dc.toNat false ≠ List.replicate 4 false then ackW w dc.toNat m.TS
    else if w.step_ = 3 ∨ ¬ (c.Kind = 1 ∨ c.Kind = 2) then finishP (ackW w dc.toNat m.TS) c q
    else if c.Kind = 1 then k1P { ackW w dc.toNat m.TS with step_ := 2, out := w.out ++ [mailF w.epoch (if m.TS > w.mark_ then m.TS else w.mark_) c] } c
    else k1P { ackW w dc.toNat m.TS with step_ := 2 } c
  else if dc = c.DC ∧ (w.step_ = 2 ∧ m.Kind = 24 ∧ c.Kind = 1 ∨ w.step_ < 3 ∧ m.Kind = 25 ∧ c.Kind = 2) then k1P { w with ready := true } c
  else k1P w c
def skips (w : T_warden_Warden) (dc : Int) (m : T_api_Msg) : Prop := dc < 0 ∨ dc ≥ 4 ∨ w.step_ = 0 ∨ m.Id ≠ IntKind.u64.wrap w.epoch
theorem take_skip (N : Nat) (w : T_warden_Warden) (dc : Int) (m : T_api_Msg) (h : skips w dc m) : M.warden_Warden_Take N w dc m = some w := by
  unfold M.warden_Warden_Take
  by_cases h1 : dc < 0
  · simp [h1]
  · by_cases h2 : dc ≥ 4
    · simp [h2]
    · by_cases h3 : w.step_ = 0
      · rw [decide_eq_false h1, decide_eq_false h2, show (w.step_ == 0) = true from by rw [h3]; rfl]; rfl
      · rcases h with h | h | h | h
        · exact absurd h h1
        · exact absurd h h2
        · exact absurd h h3
        · rw [decide_eq_false h1, decide_eq_false h2, beq_eq_false_iff_ne.2 h3, bne_iff_ne.2 h]; rfl
theorem k1_eq (N : Nat) (hN : 100 ≤ N) (w : T_warden_Warden) (c : T_api_Cmd) (q : List T_api_Cmd) (hq : w.queue = c :: q) (st : Int) (wt : List Bool) (mk : Int) (rd : Bool) (out : List T_api_Mail) (hs : OkSt w.now) (hw : wt.length = 4) (ho : out.length < 999999000) :
    M.warden_Warden_Take_k1 N w st wt mk rd out = some (k1P { w with step_ := st, wait := wt, mark_ := mk, ready := rd, out := out } c) := by
  unfold M.warden_Warden_Take_k1 k1P
  by_cases h2 : st = 2
  · subst h2
    cases rd with
    | true =>
      simp only [beq_self_eq_true, cond_true, Option.bind_some, and_self, if_true]
      refine (congrArg (fun z => Option.bind z _) (send_eq N hN { w with step_ := 3, wait := wt, mark_ := mk, ready := true, out := out } c q hq hs hw ho)).trans ?_
      rfl
    | false => simp
  · simp [beq_eq_false_iff_ne.2 h2, h2]

theorem ibeq (x y : Int) : (x == y) = decide (x = y) := by
  by_cases h : x = y
  · simp [h]
  · simp [h]
theorem take_go (N : Nat) (hN : 100 ≤ N) (w : T_warden_Warden) (dc : Int) (m : T_api_Msg) (h : ¬ skips w dc m) (c : T_api_Cmd) (q : List T_api_Cmd) (hq : w.queue = c :: q) (B : Nat) (hB : B < 999998000) (hw : WOk w B) :
    M.warden_Warden_Take N w dc m = some (takeQ w c q dc m) := by
  have g1 : ¬ dc < 0 := fun e => h (.inl e)
  have g2 : ¬ dc ≥ 4 := fun e => h (.inr (.inl e))
  have g3 : ¬ w.step_ = 0 := fun e => h (.inr (.inr (.inl e)))
  have g4 : ¬ m.Id ≠ IntKind.u64.wrap w.epoch := fun e => h (.inr (.inr (.inr e)))
  have hid : (m.Id != IntKind.u64.wrap w.epoch) = false := by simp at g4; simp [g4]
  have ho := hw.out
  obtain ⟨i, hi, rfl⟩ : ∃ i : Nat, i < 4 ∧ dc = i := ⟨dc.toNat, by omega, by omega⟩
  have hset : (w.wait.set i false).length = 4 := by rw [List.length_set]; exact hw.wait
  have hack : WOk (ackW w i m.TS) B := ⟨hw.now, hw.tail, hset, ho, hw.queue, hw.busy⟩
  have hk1 := fun st wt mk rd out h1 h2 => k1_eq N hN w c q hq st wt mk rd out hw.now h1 h2
  unfold M.warden_Warden_Take
  rw [decide_eq_false g1, decide_eq_false g2, beq_eq_false_iff_ne.2 g3, hid, show idx w.queue 0 = some c from by rw [hq]; rfl, idx_getD false (by rw [hw.wait]; exact hi : i < w.wait.length), Int.toNat_natCast, zeros4 _ hset]
  simp only [cond_false, Option.bind_some, cmdD]
  unfold takeQ
  rw [Int.toNat_natCast]
  by_cases a1 : m.Kind = 23 ∧ w.wait.getD i false = true
  · rw [if_pos a1, a1.1, a1.2]
    simp only [beq_self_eq_true, cond_true, Option.bind_some]
    by_cases a2 : w.wait.set i false = List.replicate 4 false
    · rw [decide_eq_true a2, if_neg (show ¬ (w.wait.set i false ≠ List.replicate 4 false) from fun e => e a2)]
      simp only [Bool.not_true, cond_false, M.warden_two]
      have htwo : (bif (c.Kind == 1) then (some true) else (some (c.Kind == 2))) = some (decide (c.Kind = 1 ∨ c.Kind = 2)) := by
        by_cases b1 : c.Kind = 1
        · simp [b1]
        · by_cases b2 : c.Kind = 2
          · simp [b2]
          · simp [beq_eq_false_iff_ne.2 b1, beq_eq_false_iff_ne.2 b2, b1, b2]
      simp only [htwo, Option.bind_some]
      by_cases a3 : w.step_ = 3 ∨ ¬ (c.Kind = 1 ∨ c.Kind = 2)
      · rw [if_pos a3]
        have hb : ((bif (w.step_ == 3) then (some true) else (some (!decide (c.Kind = 1 ∨ c.Kind = 2)))) : Option Bool) = some true := by
          rcases a3 with b | b
          · simp [b]
          · simp only [b, decide_false, Bool.not_false]; cases (w.step_ == 3) <;> rfl
        rw [hb]
        simp only [Option.bind_some, cond_true]
        refine (congrArg (fun z => Option.bind z _) (finish_eq N hN (ackW w i m.TS) c q hq B (by omega) hack).1).trans ?_
        rfl
      · rw [if_neg a3]
        have n3 : ¬ w.step_ = 3 := fun e => a3 (.inl e)
        have t3 : c.Kind = 1 ∨ c.Kind = 2 := Classical.byContradiction fun e => a3 (.inr e)
        rw [beq_eq_false_iff_ne.2 n3, decide_eq_true t3]
        simp only [cond_false, Bool.not_true, Option.bind_some]
        by_cases a4 : c.Kind = 1
        · rw [if_pos a4, show (c.Kind == 1) = true from by rw [a4]; rfl]
          simp only [cond_true]
          rw [show M.api_Place N c.DC (-1) = some (gateI c.DC) from rfl]
          simp only [Option.bind_some]
          rw [apd_ok (by simp; omega)]
          simp only [Option.bind_some]
          exact hk1 2 (w.wait.set i false) _ w.ready _ hset (by simp; omega)
        · rw [if_neg a4, beq_eq_false_iff_ne.2 a4]
          simp only [cond_false]
          exact hk1 2 (w.wait.set i false) _ w.ready _ hset (by omega)
    · rw [decide_eq_false a2, if_pos a2]; rfl
  · rw [if_neg a1]
    have hb : (bif (m.Kind == 23) then (some (w.wait.getD i false)) else (some false)) = some false := by
      by_cases b : m.Kind = 23
      · have : w.wait.getD i false = false := by
          cases hh : w.wait.getD i false with
          | false => rfl
          | true => exact absurd ⟨b, hh⟩ a1
        rw [this]; cases (m.Kind == 23) <;> rfl
      · rw [beq_eq_false_iff_ne.2 b]; rfl
    rw [hb]
    simp only [Option.bind_some, cond_false]
    have hr : (bif ((i : Int) == c.DC) then (bif (w.step_ == 2) then (bif (m.Kind == 24) then (bif (c.Kind == 1) then (some true) else (bif decide (w.step_ < 3) then (bif (m.Kind == 25) then (some (c.Kind == 2)) else (some false)) else (some false))) else (bif decide (w.step_ < 3) then (bif (m.Kind == 25) then (some (c.Kind == 2)) else (some false)) else (some false))) else (bif decide (w.step_ < 3) then (bif (m.Kind == 25) then (some (c.Kind == 2)) else (some false)) else (some false))) else (some false)) =
        some (decide ((i : Int) = c.DC ∧ (w.step_ = 2 ∧ m.Kind = 24 ∧ c.Kind = 1 ∨ w.step_ < 3 ∧ m.Kind = 25 ∧ c.Kind = 2))) := by
      simp only [ibeq, Bool.decide_and, Bool.decide_or]
      generalize decide ((i : Int) = c.DC) = p1
      generalize decide (w.step_ = 2) = p2
      generalize decide (m.Kind = 24) = p3
      generalize decide (c.Kind = 1) = p4
      generalize decide (w.step_ < 3) = p5
      generalize decide (m.Kind = 25) = p6
      generalize decide (c.Kind = 2) = p7
      cases p1 <;> cases p2 <;> cases p3 <;> cases p4 <;> cases p5 <;> cases p6 <;> cases p7 <;> rfl
    rw [hr]
    simp only [Option.bind_some]
    by_cases a5 : (i : Int) = c.DC ∧ (w.step_ = 2 ∧ m.Kind = 24 ∧ c.Kind = 1 ∨ w.step_ < 3 ∧ m.Kind = 25 ∧ c.Kind = 2)
    · rw [if_pos a5, decide_eq_true a5]
      simp only [cond_true]
      exact hk1 w.step_ w.wait w.mark_ true w.out hw.wait (by omega)
    · rw [if_neg a5, decide_eq_false a5]
      simp only [cond_false]
      exact hk1 w.step_ w.wait w.mark_ w.ready w.out hw.wait (by omega)
set_option maxRecDepth 100000 in
theorem awake19w : M.law19_awake 1000 = some true := by kernel_rfl
def newP (s : T_config_State) : T_warden_Warden := ⟨s, s, [], 0, 0, 0, List.replicate 4 false, 0, false, []⟩
theorem new_eq (N : Nat) (hN : 100 ≤ N) (s : T_config_State) (ho : OkSt s) : M.warden_New N s = some (newP s) := by
  unfold M.warden_New
  simp only [csD, copyS N hN s ho, Option.bind_some]
  rfl
theorem newP_ok {s : T_config_State} (ho : OkSt s) : WOk (newP s) 0 := ⟨ho, ho, rfl, Nat.le_refl _, by simp [newP], fun h => absurd rfl h⟩
end Go.Cf
