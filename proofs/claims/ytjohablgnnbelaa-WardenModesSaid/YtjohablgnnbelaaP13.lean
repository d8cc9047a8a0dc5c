/- The plain law of WardenModes. -/
import Derived.Test.YtjohablgnnbelaaPl10
import Derived.Test.YtjohablgnnbelaaM9m
namespace Go.Cf
open Go
def nar (a b : Int) : Int := if a = 2 then b else a
theorem narrow_eq (N : Nat) (a b : Int) : M.warden_Narrow N a b = some (nar a b) := by
  unfold M.warden_Narrow nar
  by_cases h : a = 2
  · simp [h]
  · rw [beq_eq_false_iff_ne.2 h, if_neg h]; rfl
theorem modes_L2 (N : Nat) (w : T_warden_Warden) (v : Int × Int × (List Bool) × (List T_api_Map) × (List Int)) (A : List Int) (hb : v.2.2.2.2.length = 21) : ∀ (fuel j : Nat) (y : List Int), 21 - j < fuel → j ≤ 21 → y.length = 21 →
    (∀ p, p < j → y.getD p 0 = nar (A.getD p 0) (v.2.2.2.2.getD p 0)) → (∀ p, j ≤ p → p < 21 → y.getD p 0 = A.getD p 0) →
    ∃ r, M.warden_Warden_Modes_L2 N fuel w v y (j : Int) = some r ∧ r.length = 21 ∧ ∀ p, p < 21 → r.getD p 0 = nar (A.getD p 0) (v.2.2.2.2.getD p 0) := by
  intro fuel
  induction fuel with
  | zero => intro j y h; omega
  | succ fuel ih =>
    intro j y hf hj hy h1 h2
    simp only [M.warden_Warden_Modes_L2, M.warden_Warden_Modes_k1]
    by_cases hlt : j < 21
    · rw [decide_eq_true (by omega : (j : Int) < 21), idx_getD 0 (by omega : j < v.2.2.2.2.length), idx_getD 0 (by omega : j < y.length), wrap_succ (by omega)]
      simp only [cond_true, Option.bind_some, narrow_eq, Int.toNat_natCast]
      refine ih (j + 1) _ (by omega) (by omega) (by rw [List.length_set]; exact hy) (fun p hp => ?_) (fun p hp hp2 => ?_)
      · by_cases hpj : p = j
        · subst hpj
          rw [List.getD_eq_getElem?_getD, List.getElem?_set_self (by omega), Option.getD_some, h2 p (Nat.le_refl _) hlt]
        · rw [List.getD_eq_getElem?_getD, List.getElem?_set_ne (by omega), ← List.getD_eq_getElem?_getD]
          exact h1 p (by omega)
      · rw [List.getD_eq_getElem?_getD, List.getElem?_set_ne (by omega), ← List.getD_eq_getElem?_getD]
        exact h2 p (by omega) hp2
    · rw [decide_eq_false (by omega : ¬ (j : Int) < 21)]
      exact ⟨y, rfl, hy, fun p hp => h1 p (by omega)⟩
theorem modes_eq (N : Nat) (hN : 100 ≤ N) (w : T_warden_Warden) (c : T_api_Cmd) (q : List T_api_Cmd) (hs : w.step_ ≠ 0) (hq : w.queue = c :: q) (ho : OkSt w.now) :
    ∃ r, M.warden_Warden_Modes N w = some r ∧ r.length = 21 ∧ ∀ p, p < 21 → r.getD p 0 = nar (w.now.Modes.getD p 0) ((applyR w.now c).1.Modes.getD p 0) := by
  unfold M.warden_Warden_Modes
  rw [bne_iff_ne.2 hs, show idx w.queue 0 = some c from by rw [hq]; rfl]
  simp only [cond_true, Option.bind_some, csD, cmdD, (apply_eq N hN w.now c ho).1]
  have hok := ok_apply ho c
  exact modes_L2 N w ((applyR w.now c).1.Pool, (applyR w.now c).1.Nodes, (applyR w.now c).1.Members, (applyR w.now c).1.Maps, (applyR w.now c).1.Modes) w.now.Modes hok.modes N 0 w.now.Modes (by omega) (by omega) ho.modes (fun p hp => by omega) (fun p _ _ => rfl)
section
variable (N : Nat) (hN : 1000 ≤ N) (haw : M.law19_awake N = some true)
theorem modes_L3 (rec1 : (List T_api_Cmd) → Int → Int → Int → Int → (List Bool) → (List T_api_Map) → (List Int) → Int → Option (Bool)) (l : List T_api_Cmd) (a b : Int) (s nx : T_config_State) (hs : OkSt s) (hx : OkSt nx) (i : Int) (r : List Int) (hr : r.length = 21) (hp : ∀ p, p < 21 → r.getD p 0 = nar (s.Modes.getD p 0) (nx.Modes.getD p 0)) :
    ∀ (fuel j : Nat), 21 - j < fuel → j ≤ 21 → M.law19_WardenModes_L3 N rec1 fuel l a b s.Pool s.Nodes s.Members s.Maps s.Modes i nx r (j : Int) = rec1 l a b nx.Pool nx.Nodes nx.Members nx.Maps nx.Modes (IntKind.i64.wrap (i + 1)) := by
  intro fuel
  induction fuel with
  | zero => intro j h; omega
  | succ fuel ih =>
    intro j hf hj
    simp only [M.law19_WardenModes_L3, M.law19_WardenModes_k2]
    by_cases hlt : j < 21
    · have e1 := hs.modes
      have e2 := hx.modes
      rw [decide_eq_true (by omega : (j : Int) < 21), idx_getD 0 (by omega : j < r.length), idx_getD 0 (by omega : j < s.Modes.length), idx_getD 0 (by omega : j < nx.Modes.length), wrap_succ (by omega), hp j hlt]
      simp only [cond_true, Option.bind_some]
      refine Eq.trans ?_ (ih (j + 1) (by omega) (by omega))
      unfold nar
      by_cases h1 : s.Modes.getD j 0 = 2
      · rw [if_pos h1, h1]
        by_cases h2 : nx.Modes.getD j 0 = 2
        · rw [h2]; rfl
        · rw [bne_iff_ne.2 h2, bne_self_eq_false, beq_eq_false_iff_ne.2 h2]; rfl
      · rw [if_neg h1, bne_self_eq_false, beq_eq_false_iff_ne.2 h1]; rfl
    · rw [decide_eq_false (by omega : ¬ (j : Int) < 21)]; rfl
include hN haw
theorem modes_L1 (l : List T_api_Cmd) (a b : Int) : ∀ (fuel i : Nat) (s : T_config_State), 30 - i < fuel → i ≤ 30 → OkSt s → M.law19_WardenModes_L1 N fuel l a b s.Pool s.Nodes s.Members s.Maps s.Modes (i : Int) = some true := by
  intro fuel
  induction fuel with
  | zero => intro i s h; omega
  | succ fuel ih =>
    intro i s hf hi hs
    simp only [M.law19_WardenModes_L1, haw, narrow_eq]
    by_cases hlt : i < l.length ∧ i < 30
    · rw [decide_eq_true (by omega : (i : Int) < ((l.length : Nat) : Int)), decide_eq_true (by omega : (i : Int) < 30), idx_get hlt.1, csD s, new_eq N (by omega) s hs]
      simp only [cond_true, Option.bind_some, wD, cmdD]
      have ha := (ask_eq N (by omega) (newP s) l[i] 0 (by omega) (newP_ok hs)).1
      rw [ha]
      simp only [Option.bind_some]
      by_cases he : (applyR s l[i]).2 = 0
      · have hok := ok_apply hs l[i]
        have hst : startP { newP s with tail := (applyR s l[i]).1, queue := [plainC l[i]] } = sendP { newP s with tail := (applyR s l[i]).1, queue := [plainC l[i]], step_ := 1, ready := false } (plainC l[i]) := startP_cons rfl rfl
        have e : askP (newP s) l[i] = (IntKind.i64.wrap (IntKind.i64.wrap ((startP { newP s with tail := (applyR s l[i]).1, queue := [plainC l[i]] }).done + ((startP { newP s with tail := (applyR s l[i]).1, queue := [plainC l[i]] }).queue.length : Int)) - 1), 0, startP { newP s with tail := (applyR s l[i]).1, queue := [plainC l[i]] }) := by
          unfold askP
          rw [if_neg (by simp [newP]), if_neg (by show ¬ ((applyR s l[i]).2 ≠ 0); simp [he])]
          rfl
        rw [e, hst]
        simp only [bne_self_eq_false, cond_false]
        obtain ⟨r, h1, h2, h3⟩ := modes_eq N (by omega) (sendP { newP s with tail := (applyR s l[i]).1, queue := [plainC l[i]], step_ := 1, ready := false } (plainC l[i])) (plainC l[i]) [] (by show (1 : Int) ≠ 0; decide) rfl hs
        rw [h1]
        have ht : M.warden_Warden_Tail N (sendP { newP s with tail := (applyR s l[i]).1, queue := [plainC l[i]], step_ := 1, ready := false } (plainC l[i])) = some (applyR s l[i]).1 := by
          unfold M.warden_Warden_Tail
          rw [csD, show (sendP { newP s with tail := (applyR s l[i]).1, queue := [plainC l[i]], step_ := 1, ready := false } (plainC l[i])).tail = (applyR s l[i]).1 from rfl, copyS N (by omega) _ hok]
          rfl
        rw [ht]
        simp only [Option.bind_some]
        have h3' : ∀ p, p < 21 → r.getD p 0 = nar (s.Modes.getD p 0) ((applyR s l[i]).1.Modes.getD p 0) := fun p hp => by
          have := h3 p hp
          rw [show (sendP { newP s with tail := (applyR s l[i]).1, queue := [plainC l[i]], step_ := 1, ready := false } (plainC l[i])).now = s from rfl, apply_plain] at this
          exact this
        refine (modes_L3 N _ l a b s (applyR s l[i]).1 hs hok i r h2 h3' N 0 (by omega) (by omega)).trans ?_
        rw [wrap_succ (by omega)]
        exact ih (i + 1) _ (by omega) (by omega) hok
      · have e : askP (newP s) l[i] = (0, (applyR s l[i]).2, newP s) := by
          unfold askP
          rw [if_neg (by simp [newP]), if_pos (by exact he)]
          rfl
        rw [e, bne_iff_ne.2 he]
        simp only [cond_true, M.law19_WardenModes_k2]
        rw [wrap_succ (by omega)]
        exact ih (i + 1) s (by omega) (by omega) hs
    · have hb : (bif decide ((i : Int) < ((l.length : Nat) : Int)) then (some (decide ((i : Int) < 30))) else (some false)) = some false := by
        by_cases h1 : i < l.length
        · rw [decide_eq_false (by omega : ¬ (i : Int) < 30)]; cases decide ((i : Int) < ((l.length : Nat) : Int)) <;> rfl
        · rw [decide_eq_false (by omega : ¬ (i : Int) < ((l.length : Nat) : Int))]; rfl
      rw [hb]
      simp only [Option.bind_some, cond_false, cond_true]
      unfold nar
      by_cases h1 : a = 2
      · rw [if_pos h1, h1]; simp
      · rw [if_neg h1, bne_iff_ne.2 h1]; simp
end
theorem pModesN (N : Nat) (hN : 1000 ≤ N) (haw : M.law19_awake N = some true) (p m d : Int) (hst : M.config_Start N p m d = some (startR p m d)) (l : List T_api_Cmd) (a b : Int) : M.law19_WardenModes N p m d l a b = some true := by
  unfold M.law19_WardenModes
  rw [hst]
  unfold startR
  by_cases hbad : startBad p m d
  · rw [if_pos hbad]
    simp [haw]
  · rw [if_neg hbad]
    simp only [Option.bind_some, bne_self_eq_false, cond_false]
    exact modes_L1 N hN haw l a b N 0 _ (by omega) (by omega) (start_valid hbad).ok
theorem pWardenModes (p m d : Int) (l : List T_api_Cmd) (a b : Int) : M.law19_WardenModes 1000 p m d l a b = some true := pModesN 1000 (Nat.le_refl _) awake19w p m d (start_eq p m d) l a b
end Go.Cf
