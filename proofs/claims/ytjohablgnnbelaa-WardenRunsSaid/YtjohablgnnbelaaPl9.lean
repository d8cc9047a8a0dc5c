/- The warden as plain functions: what it sends, and what its calls come to. -/
import Derived.Test.YtjohablgnnbelaaPl7
import Derived.Test.YtjohablgnnbelaaM8
namespace Go.Cf
open Go
theorem wD (w : T_warden_Warden) : (T_warden_Warden.mk (T_config_State.mk w.now.Pool w.now.Nodes w.now.Members w.now.Maps w.now.Modes) (T_config_State.mk w.tail.Pool w.tail.Nodes w.tail.Members w.tail.Maps w.tail.Modes) w.queue w.done w.epoch w.step_ w.wait w.mark_ w.ready w.out) = w := rfl
/-- the entry that goes to datacenter i -/
def mailE (epoch n : Int) (vec : List Int) (c : T_api_Cmd) (i : Nat) : T_api_Mail := T_api_Mail.mk ((5 * i + 1 : Nat) : Int) (T_api_Msg.mk 21 (IntKind.u64.wrap (IntKind.i64.wrap (epoch + 1))) n 0 ByteArray.empty ByteArray.empty ([] : List T_api_Ver) vec c)
/-- one datacenter -/
def layStep (m k : List Bool) (epoch n : Int) (vec : List Int) (c : T_api_Cmd) (i : Nat) (x : List Bool × List T_api_Mail) : List Bool × List T_api_Mail :=
  if m.getD i false || k.getD i false then (x.1.set i (m.getD i false || n == 2), x.2 ++ [mailE epoch n vec c i]) else x
def layAll (m k : List Bool) (epoch n : Int) (vec : List Int) (c : T_api_Cmd) (x : List Bool × List T_api_Mail) : List Bool × List T_api_Mail :=
  layStep m k epoch n vec c 3 (layStep m k epoch n vec c 2 (layStep m k epoch n vec c 1 (layStep m k epoch n vec c 0 x)))
theorem layStep_len (m k : List Bool) (epoch n : Int) (vec : List Int) (c : T_api_Cmd) (i : Nat) (x : List Bool × List T_api_Mail) : (layStep m k epoch n vec c i x).1.length = x.1.length ∧ (layStep m k epoch n vec c i x).2.length ≤ x.2.length + 1 := by
  unfold layStep
  split
  · simp
  · simp
theorem place_gate (N : Nat) (i : Nat) (h : i < 4) : M.api_Place N (i : Int) (-1) = some ((5 * i + 1 : Nat) : Int) := by
  match i, h with
  | 0, _ => rfl
  | 1, _ => rfl
  | 2, _ => rfl
  | 3, _ => rfl
theorem send_L6_step (N : Nat) (w : T_warden_Warden) (c : T_api_Cmd) (v : Int × Int × (List Bool) × (List T_api_Map) × (List Int)) (n : Int) (vec : List Int) (fuel i : Nat) (hi : i < 4) (hm : w.now.Members.length = 4) (hk : v.2.2.1.length = 4)
    (x : List Bool × List T_api_Mail) (hw : x.1.length = 4) (ho : x.2.length < 1000000000) (hv : vec.length < 1000000000) :
    M.warden_Warden_send_L6 N (fuel + 1) w c v n vec x.1 x.2 (i : Int) = M.warden_Warden_send_L6 N fuel w c v n vec (layStep w.now.Members v.2.2.1 w.epoch n vec c i x).1 (layStep w.now.Members v.2.2.1 w.epoch n vec c i x).2 ((i + 1 : Nat) : Int) := by
  simp only [M.warden_Warden_send_L6, M.warden_Warden_send_k7]
  rw [decide_eq_true (by omega : (i : Int) < 4), idx_getD false (by omega : i < w.now.Members.length), idx_getD false (by omega : i < v.2.2.1.length), idx_getD false (by omega : i < x.1.length), place_gate N i hi, wrap_succ (by omega), apd_ok (l := ([] : List Int)) (by simp; omega)]
  have ha : ∀ y, apd x.2 [y] = some (x.2 ++ [y]) := fun y => apd_ok (by simp; omega)
  unfold layStep
  cases w.now.Members.getD i false <;> cases v.2.2.1.getD i false <;> simp [mailE, ha, cmdD]
theorem send_L6 (N : Nat) (hN : 100 ≤ N) (w : T_warden_Warden) (c : T_api_Cmd) (v : Int × Int × (List Bool) × (List T_api_Map) × (List Int)) (n : Int) (vec : List Int) (hm : w.now.Members.length = 4) (hk : v.2.2.1.length = 4)
    (hw : w.wait.length = 4) (ho : w.out.length < 999999000) (hv : vec.length < 1000000000) :
    M.warden_Warden_send_L6 N N w c v n vec w.wait w.out 0 = some { w with epoch := IntKind.i64.wrap (w.epoch + 1), wait := (layAll w.now.Members v.2.2.1 w.epoch n vec c (w.wait, w.out)).1, out := (layAll w.now.Members v.2.2.1 w.epoch n vec c (w.wait, w.out)).2 } := by
  obtain ⟨f, rfl⟩ : ∃ f, N = f + 5 := ⟨N - 5, by omega⟩
  have l0 := layStep_len w.now.Members v.2.2.1 w.epoch n vec c 0 (w.wait, w.out)
  have l1 := layStep_len w.now.Members v.2.2.1 w.epoch n vec c 1 (layStep w.now.Members v.2.2.1 w.epoch n vec c 0 (w.wait, w.out))
  have l2 := layStep_len w.now.Members v.2.2.1 w.epoch n vec c 2 (layStep w.now.Members v.2.2.1 w.epoch n vec c 1 (layStep w.now.Members v.2.2.1 w.epoch n vec c 0 (w.wait, w.out)))
  simp only at l0 l1 l2
  have s0 := send_L6_step (f + 5) w c v n vec (f + 4) 0 (by omega) hm hk (w.wait, w.out) hw (by simp only; omega) hv
  have s1 := send_L6_step (f + 5) w c v n vec (f + 3) 1 (by omega) hm hk _ (l0.1.trans hw) (by omega) hv
  have s2 := send_L6_step (f + 5) w c v n vec (f + 2) 2 (by omega) hm hk _ (l1.1.trans (l0.1.trans hw)) (by omega) hv
  have s3 := send_L6_step (f + 5) w c v n vec (f + 1) 3 (by omega) hm hk _ (l2.1.trans (l1.1.trans (l0.1.trans hw))) (by omega) hv
  refine s0.trans (s1.trans (s2.trans (s3.trans ?_)))
  simp only [M.warden_Warden_send_L6]
  rfl

theorem send_L5 (N : Nat) (w : T_warden_Warden) (c : T_api_Cmd) (v : Int × Int × (List Bool) × (List T_api_Map) × (List Int)) (n : Int) (modes : List Int) (hl : modes.length = 21) : ∀ (fuel j : Nat) (vec : List Int), 21 - j < fuel → j ≤ 21 → vec.length ≤ 100 + j →
    M.warden_Warden_send_L5 N fuel w c v n modes vec (j : Int) = M.warden_Warden_send_L6 N N w c v n (vec ++ (modes.drop j).map IntKind.u64.wrap) w.wait w.out 0 := by
  intro fuel
  induction fuel with
  | zero => intro j vec h; omega
  | succ fuel ih =>
    intro j vec hf hj hv
    simp only [M.warden_Warden_send_L5]
    by_cases hlt : j < 21
    · have hm : j < modes.length := by omega
      rw [decide_eq_true (by omega : (j : Int) < 21), idx_get hm, wrap_succ (by omega)]
      simp only [Option.bind_some, cond_true]
      rw [apd_ok (by simp; omega)]
      simp only [Option.bind_some]
      refine (ih (j + 1) _ (by omega) (by omega) (by simp; omega)).trans ?_
      rw [show modes.drop j = modes[j] :: modes.drop (j + 1) from List.drop_eq_getElem_cons hm, List.map_cons, List.append_assoc]
      rfl
    · have hj' : j = 21 := by omega
      subst hj'
      rw [List.drop_eq_nil_of_le (by omega)]
      simp
def bitStep (m : List Bool) (i : Nat) (b : Int) : Int := if m.getD i false then iOr .u64 b (IntKind.u64.wrap (1 * 2 ^ min i 64)) else b
def bits (m : List Bool) : Int := bitStep m 3 (bitStep m 2 (bitStep m 1 (bitStep m 0 0)))
theorem send_L3_step (N : Nat) (w : T_warden_Warden) (c : T_api_Cmd) (v : Int × Int × (List Bool) × (List T_api_Map) × (List Int)) (n p q : Int) (m : List Bool) (maps : List T_api_Map) (modes : List Int) (hm : m.length = 4) (fuel i : Nat) (hi : i < 4) (b : Int) :
    M.warden_Warden_send_L3 N (fuel + 1) w c v n p q m maps modes [b] (i : Int) = M.warden_Warden_send_L3 N fuel w c v n p q m maps modes [bitStep m i b] ((i + 1 : Nat) : Int) := by
  simp only [M.warden_Warden_send_L3, M.warden_Warden_send_k4]
  rw [decide_eq_true (by omega : (i : Int) < 4), idx_getD false (by omega : i < m.length), wrap_succ (by omega)]
  have hs : shlV .u64 1 (i : Int) = some (IntKind.u64.wrap (1 * 2 ^ min i 64)) := by
    unfold shlV
    rw [if_pos (by omega)]
    rfl
  have h0 : idx [b] 0 = some b := rfl
  unfold bitStep
  cases m.getD i false <;> simp [hs, h0]
/-- the vector of an entry -/
def vecOf (s : T_config_State) : List Int := bits s.Members :: s.Modes.map IntKind.u64.wrap
theorem send_k2 (N : Nat) (hN : 100 ≤ N) (w : T_warden_Warden) (c : T_api_Cmd) (v : Int × Int × (List Bool) × (List T_api_Map) × (List Int)) (n : Int) (s : T_config_State) (hs : OkSt s) (hm : w.now.Members.length = 4) (hk : v.2.2.1.length = 4)
    (hw : w.wait.length = 4) (ho : w.out.length < 999999000) :
    M.warden_Warden_send_k2 N w c v n s.Pool s.Nodes s.Members s.Maps s.Modes = some { w with epoch := IntKind.i64.wrap (w.epoch + 1), wait := (layAll w.now.Members v.2.2.1 w.epoch n (vecOf s) c (w.wait, w.out)).1, out := (layAll w.now.Members v.2.2.1 w.epoch n (vecOf s) c (w.wait, w.out)).2 } := by
  unfold M.warden_Warden_send_k2
  have hL : ∀ f, M.warden_Warden_send_L3 N (f + 5) w c v n s.Pool s.Nodes s.Members s.Maps s.Modes [0] 0 = M.warden_Warden_send_L5 N N w c v n s.Modes [bits s.Members] 0 := fun f => by
    refine (send_L3_step N w c v n _ _ s.Members s.Maps s.Modes hs.mem (f + 4) 0 (by omega) 0).trans ?_
    refine (send_L3_step N w c v n _ _ s.Members s.Maps s.Modes hs.mem (f + 3) 1 (by omega) _).trans ?_
    refine (send_L3_step N w c v n _ _ s.Members s.Maps s.Modes hs.mem (f + 2) 2 (by omega) _).trans ?_
    refine (send_L3_step N w c v n _ _ s.Members s.Maps s.Modes hs.mem (f + 1) 3 (by omega) _).trans ?_
    simp only [M.warden_Warden_send_L3]
    rfl
  have h3 : M.warden_Warden_send_L3 N N w c v n s.Pool s.Nodes s.Members s.Maps s.Modes [0] 0 = M.warden_Warden_send_L5 N N w c v n s.Modes [bits s.Members] 0 := by
    have := hL (N - 5)
    rwa [show N - 5 + 5 = N from by omega] at this
  rw [h3]
  refine (send_L5 N w c v n s.Modes hs.modes N 0 [bits s.Members] (by omega) (by omega) (by simp)).trans ?_
  exact send_L6 N hN w c v n (vecOf s) hm hk hw ho (by simp [vecOf, hs.modes])
/-- what is said by an entry -/
def saysOf (now : T_config_State) (c : T_api_Cmd) (n : Int) : T_config_State := if c.Kind = 2 ∧ n = 1 then now else (applyR now c).1
def sendP (w : T_warden_Warden) (c : T_api_Cmd) : T_warden_Warden :=
  let n : Int := if w.step_ = 3 then 2 else 1
  let x := layAll w.now.Members (applyR w.now c).1.Members w.epoch n (vecOf (saysOf w.now c n)) c (w.wait, w.out)
  { w with epoch := IntKind.i64.wrap (w.epoch + 1), wait := x.1, out := x.2 }
theorem send_eq (N : Nat) (hN : 100 ≤ N) (w : T_warden_Warden) (c : T_api_Cmd) (q : List T_api_Cmd) (hq : w.queue = c :: q) (hs : OkSt w.now) (hw : w.wait.length = 4) (ho : w.out.length < 999999000) : M.warden_Warden_send N w = some (sendP w c) := by
  unfold M.warden_Warden_send
  rw [show idx w.queue 0 = some c from by rw [hq]; rfl]
  have hok := ok_apply hs c
  simp only [Option.bind_some, csD, cmdD, (apply_eq N hN w.now c hs).1]
  have k1 : ∀ n : Int, M.warden_Warden_send_k1 N w c ((applyR w.now c).1.Pool, (applyR w.now c).1.Nodes, (applyR w.now c).1.Members, (applyR w.now c).1.Maps, (applyR w.now c).1.Modes) n =
      some { w with epoch := IntKind.i64.wrap (w.epoch + 1), wait := (layAll w.now.Members (applyR w.now c).1.Members w.epoch n (vecOf (saysOf w.now c n)) c (w.wait, w.out)).1, out := (layAll w.now.Members (applyR w.now c).1.Members w.epoch n (vecOf (saysOf w.now c n)) c (w.wait, w.out)).2 } := fun n => by
    unfold M.warden_Warden_send_k1 saysOf
    by_cases h1 : c.Kind = 2
    · by_cases h2 : n = 1
      · subst h2
        simp only [h1, beq_self_eq_true, cond_true, Option.bind_some, and_self, if_true]
        exact send_k2 N hN w c _ 1 w.now hs hs.mem hok.mem hw ho
      · simp only [h1, beq_self_eq_true, cond_true, Option.bind_some, beq_eq_false_iff_ne.2 h2, cond_false, h2, and_false, if_false]
        exact send_k2 N hN w c _ n (applyR w.now c).1 hok hs.mem hok.mem hw ho
    · simp only [beq_eq_false_iff_ne.2 h1, cond_false, Option.bind_some, h1, false_and, if_false]
      exact send_k2 N hN w c _ n (applyR w.now c).1 hok hs.mem hok.mem hw ho
  by_cases h : w.step_ = 3
  · rw [h]
    simp only [beq_self_eq_true, cond_true]
    rw [k1 2]
    simp [sendP, h]
  · rw [beq_eq_false_iff_ne.2 h]
    simp only [cond_false]
    rw [k1 1]
    simp [sendP, h]

/-! ### start, finish, Ask, Take -/
structure WOk (w : T_warden_Warden) (B : Nat) : Prop where
  now : OkSt w.now
  tail : OkSt w.tail
  wait : w.wait.length = 4
  out : w.out.length ≤ B
  queue : w.queue.length ≤ 8
  busy : w.step_ ≠ 0 → w.queue ≠ []
def startP (w : T_warden_Warden) : T_warden_Warden :=
  if w.step_ = 0 then match w.queue with
    | [] => w
    | c :: _ => sendP { w with step_ := 1, ready := false } c
  else w
theorem layAll_len (m k : List Bool) (epoch n : Int) (vec : List Int) (c : T_api_Cmd) (x : List Bool × List T_api_Mail) : (layAll m k epoch n vec c x).1.length = x.1.length ∧ (layAll m k epoch n vec c x).2.length ≤ x.2.length + 4 := by
  have l0 := layStep_len m k epoch n vec c 0 x
  have l1 := layStep_len m k epoch n vec c 1 (layStep m k epoch n vec c 0 x)
  have l2 := layStep_len m k epoch n vec c 2 (layStep m k epoch n vec c 1 (layStep m k epoch n vec c 0 x))
  have l3 := layStep_len m k epoch n vec c 3 (layStep m k epoch n vec c 2 (layStep m k epoch n vec c 1 (layStep m k epoch n vec c 0 x)))
  refine ⟨l3.1.trans (l2.1.trans (l1.1.trans l0.1)), ?_⟩
  have h : (layAll m k epoch n vec c x).2.length ≤ _ := l3.2
  omega
theorem sendP_ok {w : T_warden_Warden} {B : Nat} {c : T_api_Cmd} {q : List T_api_Cmd} (h : OkSt w.now) (ht : OkSt w.tail) (hw : w.wait.length = 4) (ho : w.out.length ≤ B) (hq : w.queue.length ≤ 8) (hqc : w.queue = c :: q) : WOk (sendP w c) (B + 4) := by
  have hl := layAll_len w.now.Members (applyR w.now c).1.Members w.epoch (if w.step_ = 3 then 2 else 1) (vecOf (saysOf w.now c (if w.step_ = 3 then 2 else 1))) c (w.wait, w.out)
  exact ⟨h, ht, hl.1.trans hw, Nat.le_trans hl.2 (by simp only; omega), hq, fun _ => by show w.queue ≠ []; rw [hqc]; simp⟩
theorem startP_busy {w : T_warden_Warden} (h : w.step_ ≠ 0) : startP w = w := by unfold startP; rw [if_neg h]
theorem startP_nil {w : T_warden_Warden} (hq : w.queue = []) : startP w = w := by
  unfold startP
  split
  · split
    · rfl
    · rename_i h; rw [hq] at h; cases h
  · rfl
theorem startP_cons {w : T_warden_Warden} {c : T_api_Cmd} {q : List T_api_Cmd} (h : w.step_ = 0) (hq : w.queue = c :: q) : startP w = sendP { w with step_ := 1, ready := false } c := by
  unfold startP
  rw [if_pos h]
  split
  · rename_i h'; rw [hq] at h'; cases h'
  · rename_i c' q' h'
    rw [hq] at h'
    simp only [List.cons.injEq] at h'
    rw [h'.1]
theorem start_eq9 (N : Nat) (hN : 100 ≤ N) (w : T_warden_Warden) (B : Nat) (hB : B < 999999000) (hw : WOk w B) : M.warden_Warden_start N w = some (startP w) ∧ WOk (startP w) (B + 4) := by
  have hwk : WOk w (B + 4) := ⟨hw.now, hw.tail, hw.wait, by have := hw.out; omega, hw.queue, hw.busy⟩
  unfold M.warden_Warden_start
  by_cases h : w.step_ = 0
  · rw [show (w.step_ == 0) = true from by rw [h]; rfl]
    rcases hq : w.queue with _ | ⟨c, q⟩
    · rw [startP_nil hq]
      refine ⟨?_, hwk⟩
      rw [← hq]
      rw [show decide (((w.queue.length : Nat) : Int) > 0) = false from decide_eq_false (by rw [hq]; simp)]
      rfl
    · rw [startP_cons h hq]
      have hs := send_eq N hN { w with step_ := 1, ready := false } c q hq hw.now hw.wait (by have := hw.out; simp only; omega)
      refine ⟨?_, sendP_ok (w := { w with step_ := 1, ready := false }) hw.now hw.tail hw.wait hw.out hw.queue hq⟩
      rw [← hq]
      rw [show decide (((w.queue.length : Nat) : Int) > 0) = true from decide_eq_true (by rw [hq]; simp only [List.length_cons]; omega)]
      simp only [cond_true, Option.bind_some]
      refine (congrArg (fun z => Option.bind z _) hs).trans ?_
      rfl
  · rw [startP_busy h, beq_eq_false_iff_ne.2 h]
    exact ⟨rfl, hwk⟩
def finishP (w : T_warden_Warden) (c : T_api_Cmd) (q : List T_api_Cmd) : T_warden_Warden := startP { w with now := (applyR w.now c).1, queue := q, done := IntKind.i64.wrap (w.done + 1), step_ := 0 }
theorem finish_eq (N : Nat) (hN : 100 ≤ N) (w : T_warden_Warden) (c : T_api_Cmd) (q : List T_api_Cmd) (hq : w.queue = c :: q) (B : Nat) (hB : B < 999999000) (hw : WOk w B) : M.warden_Warden_finish N w = some (finishP w c q) ∧ WOk (finishP w c q) (B + 4) := by
  have hok := ok_apply hw.now c
  have hl : w.queue.length = q.length + 1 := by rw [hq]; rfl
  have hw' : WOk { w with now := (applyR w.now c).1, queue := q, done := IntKind.i64.wrap (w.done + 1), step_ := 0 } B := ⟨hok, hw.tail, hw.wait, hw.out, by have := hw.queue; simp only; omega, fun h => absurd rfl h⟩
  have hs := start_eq9 N hN _ B hB hw'
  refine ⟨?_, hs.2⟩
  unfold M.warden_Warden_finish
  rw [show idx w.queue 0 = some c from by rw [hq]; rfl]
  simp only [Option.bind_some, csD, cmdD, (apply_eq N hN w.now c hw.now).1]
  have hsl : slc w.queue 1 (w.queue.length : Int) = some q := by
    have := slc_ok (l := w.queue) (lo := 1) (hi := w.queue.length) (by omega) (Nat.le_refl _)
    rw [show ((1 : Nat) : Int) = 1 from rfl] at this
    rw [this, hq]; simp
  rw [hsl]
  simp only [Option.bind_some]
  refine (congrArg (fun z => Option.bind z _) hs.1).trans ?_
  rfl
def askP (w : T_warden_Warden) (c : T_api_Cmd) : Int × Int × T_warden_Warden :=
  if w.queue.length ≥ 8 then (0, 9, w)
  else if (applyR w.tail c).2 ≠ 0 then (0, (applyR w.tail c).2, w)
  else
    let w' := startP { w with tail := (applyR w.tail c).1, queue := w.queue ++ [plainC c] }
    (IntKind.i64.wrap (IntKind.i64.wrap (w'.done + (w'.queue.length : Int)) - 1), 0, w')
theorem ask_eq (N : Nat) (hN : 100 ≤ N) (w : T_warden_Warden) (c : T_api_Cmd) (B : Nat) (hB : B < 999999000) (hw : WOk w B) : M.warden_Warden_Ask N w c = some (askP w c) ∧ WOk (askP w c).2.2 (B + 4) := by
  have hwk : WOk w (B + 4) := ⟨hw.now, hw.tail, hw.wait, by have := hw.out; omega, hw.queue, hw.busy⟩
  unfold M.warden_Warden_Ask askP
  by_cases h8 : w.queue.length ≥ 8
  · rw [if_pos h8, decide_eq_true (by omega : ((w.queue.length : Nat) : Int) ≥ 8)]
    exact ⟨rfl, hwk⟩
  · rw [if_neg h8, decide_eq_false (by omega : ¬ ((w.queue.length : Nat) : Int) ≥ 8)]
    simp only [cond_false, csD, cmdD, (apply_eq N hN w.tail c hw.tail).1, Option.bind_some]
    by_cases he : (applyR w.tail c).2 = 0
    · rw [if_neg (by simp [he])]
      have hok := ok_apply hw.tail c
      have hw' : WOk { w with tail := (applyR w.tail c).1, queue := w.queue ++ [plainC c] } B := ⟨hw.now, hok, hw.wait, hw.out, by simp; omega, fun _ => by simp⟩
      have hs := start_eq9 N hN _ B hB hw'
      refine ⟨?_, hs.2⟩
      simp only [he, bne_self_eq_false, cond_false, (plain_eq N c).1, Option.bind_some]
      rw [apd_ok (by simp; omega)]
      simp only [Option.bind_some]
      refine (congrArg (fun z => Option.bind z _) hs.1).trans ?_
      rfl
    · rw [if_pos he, bne_iff_ne.2 he]
      exact ⟨rfl, hwk⟩
end Go.Cf
