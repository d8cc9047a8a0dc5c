/- The plain law of ConfigRuns. -/
import Derived.Test.YtjohablgnnbelaaPl8
import Derived.Test.YtjohablgnnbelaaM7r
namespace Go.Cf
open Go
theorem agree_ne (N : Nat) (a b : Int) (ha : a = 1 ∨ a = 2 ∨ a = 3) (hb : b = 1 ∨ b = 2 ∨ b = 3) (h1 : ¬ (a = 1 ∧ b = 3)) (h3 : ¬ (a = 3 ∧ b = 1)) : ∃ k, M.wire_Agree N a b = some k ∧ (k == 0) = false := by
  rcases ha with rfl | rfl | rfl <;> rcases hb with rfl | rfl | rfl <;> first | exact ⟨_, rfl, rfl⟩ | omega
theorem Valid.agree2 {s : T_config_State} {pool nodes : Int} (hv : Valid s pool nodes) (N : Nat) {a b : Int} (ha : a ∈ s.Modes) (hb : b ∈ s.Modes) : ∃ k, M.wire_Agree N a b = some k ∧ (k == 0) = false := by
  refine agree_ne N a b (hv.modes a ha) (hv.modes b hb) ?_ ?_
  · rintro ⟨rfl, rfl⟩
    rcases hv.agree with h | h <;> rw [has_false] at h <;> contradiction
  · rintro ⟨rfl, rfl⟩
    rcases hv.agree with h | h <;> rw [has_false] at h <;> contradiction
abbrev tup (x : T_config_State) (e : Int) : Int × Int × (List Bool) × (List T_api_Map) × (List Int) × Int := (x.Pool, x.Nodes, x.Members, x.Maps, x.Modes, e)
section
variable (N : Nat) (hN : 1000 ≤ N) (haw : M.law18_awake N = some true) {pool nodes : Int} (l : List T_api_Cmd) (i : Int)
include hN
theorem runs_L6 {x : T_config_State} (hv : Valid x pool nodes) (rec5 : Int → Int → (List T_api_Cmd) → Int → (Int × Int × (List Bool) × (List T_api_Map) × (List Int) × Int) → Int → Int → Option (Bool)) (cn y : Int) (a : Int) (ha : a ∈ x.Modes) : ∀ (fuel j : Nat), 21 - j < fuel → j ≤ 21 → M.law18_ConfigRuns_L6 N rec5 fuel pool nodes l i (tup x 0) cn y a (j : Int) = rec5 pool nodes l i (tup x 0) cn (IntKind.i64.wrap (y + 1)) := by
  have _ := hN
  intro fuel
  induction fuel with
  | zero => intro j h; omega
  | succ fuel ih =>
    intro j hf hj
    simp only [M.law18_ConfigRuns_L6]
    by_cases hlt : j < 21
    · have hl : j < x.Modes.length := by rw [hv.ok.modes]; exact hlt
      obtain ⟨k, h1, h2⟩ := hv.agree2 N ha (List.getElem_mem hl)
      rw [decide_eq_true (by omega : (j : Int) < 21), wrap_succ (by omega), idx_get hl]
      simp only [cond_true, Option.bind_some, h1, h2, cond_false]
      exact ih (j + 1) (by omega) (by omega)
    · rw [decide_eq_false (by omega : ¬ (j : Int) < 21)]; rfl
theorem runs_L5 {x : T_config_State} (hv : Valid x pool nodes) (rec1 : Int → Int → (List T_api_Cmd) → Int → Int → (List Bool) → (List T_api_Map) → (List Int) → Int → Option (Bool)) : ∀ (fuel j : Nat), 21 - j < fuel → j ≤ 21 → M.law18_ConfigRuns_L5 N rec1 fuel pool nodes l i (tup x 0) ((cnt x.Members : Nat) : Int) (j : Int) = rec1 pool nodes l x.Pool x.Nodes x.Members x.Maps x.Modes (IntKind.i64.wrap (i + 1)) := by
  intro fuel
  induction fuel with
  | zero => intro j h; omega
  | succ fuel ih =>
    intro j hf hj
    simp only [M.law18_ConfigRuns_L5, M.law18_ConfigRuns_k2]
    by_cases hlt : j < 21
    · have hl : j < x.Modes.length := by rw [hv.ok.modes]; exact hlt
      rw [decide_eq_true (by omega : (j : Int) < 21), idx_get hl]
      simp only [cond_true, Option.bind_some]
      refine (runs_L6 N hN l i hv _ _ _ _ (List.getElem_mem hl) N 0 (by omega) (by omega)).trans ?_
      rw [wrap_succ (by omega)]
      exact ih (j + 1) (by omega) (by omega)
    · rw [decide_eq_false (by omega : ¬ (j : Int) < 21)]
      have hb : (((cnt x.Members : Nat) : Int) == 0) = false := beq_eq_false_iff_ne.2 (by have := hv.any; omega)
      rw [csD, (count_eq N (by omega) x hv.ok.mem).1]
      simp [hb, hv.poolE, hv.nodesE]
theorem runs_L3 {x : T_config_State} (hv : Valid x pool nodes) (rec1 : Int → Int → (List T_api_Cmd) → Int → Int → (List Bool) → (List T_api_Map) → (List Int) → Int → Option (Bool)) : ∀ (fuel j : Nat), 4 - j < fuel → j ≤ 4 → M.law18_ConfigRuns_L3 N rec1 fuel pool nodes l i (tup x 0) ((cnt (x.Members.take j) : Nat) : Int) (j : Int) = rec1 pool nodes l x.Pool x.Nodes x.Members x.Maps x.Modes (IntKind.i64.wrap (i + 1)) := by
  intro fuel
  induction fuel with
  | zero => intro j h; omega
  | succ fuel ih =>
    intro j hf hj
    simp only [M.law18_ConfigRuns_L3, M.law18_ConfigRuns_k4]
    have hml := hv.ok.mem
    by_cases hlt : j < 4
    · have hm : j < x.Members.length := by omega
      have hp : j < x.Maps.length := by rw [hv.ok.maps]; exact hlt
      rw [decide_eq_true (by omega : (j : Int) < 4), wrap_succ (i := j) (by omega), idx_getD false hm, idx_getD empt hp]
      have hx : (mapOf x j).Cuts.length ≤ maxLen := by
        have h60 := (hv.ok.small _ (getD_mem (d := empt) hp)).1
        have hml : (60 : Nat) ≤ maxLen := by decide
        exact Nat.le_trans h60 hml
      have hcn : cnt (x.Members.take j) ≤ j := Nat.le_trans List.countP_le_length (by simp; omega)
      rw [show x.Maps.getD j empt = mapOf x j from rfl, wrap_succ (i := cnt (x.Members.take j)) (by omega)]
      simp only [cond_true, Option.bind_some, mapD, (chk_eq N (by omega) (mapOf x j) nodes hx).2]
      have hcs : cnt (x.Members.take (j + 1)) = cnt (x.Members.take j) + (if x.Members.getD j false then 1 else 0) := by
        rw [List.take_add_one, List.getElem?_eq_getElem hm]
        have : x.Members.getD j false = x.Members[j] := by simp [hm]
        rw [this]
        unfold cnt
        rw [List.countP_append]
        cases x.Members[j] <;> rfl
      have hnext := ih (j + 1) (by omega) (by omega)
      rw [hcs] at hnext
      cases hb : x.Members.getD j false with
      | true =>
        have hc := (chk_iff _ _).2 (hv.right j hlt hb)
        rw [hb] at hnext
        simp only [hc, beq_self_eq_true, Bool.not_true, cond_true, cond_false, Option.bind_some]
        exact hnext
      | false =>
        have ho := hv.out j hlt hb
        have hc : chk (mapOf x j) nodes ≠ 0 := fun h => by
          have := ((chk_iff _ _).1 h).form
          rw [ho] at this
          simp [empt] at this
        rw [hb] at hnext
        rw [show (chk (mapOf x j) nodes == 0) = false from beq_eq_false_iff_ne.2 hc, ho]
        simp only [beq_self_eq_true, Bool.not_true, Bool.not_false, cond_true, cond_false, Option.bind_some]
        exact hnext
    · rw [decide_eq_false (by omega : ¬ (j : Int) < 4), List.take_of_length_le (by omega)]
      exact runs_L5 N hN l i hv rec1 N 0 (by omega) (by omega)
include haw
theorem runs_L1 : ∀ (fuel k : Nat) (x : T_config_State), 80 - k < fuel → k ≤ 80 → Valid x pool nodes → M.law18_ConfigRuns_L1 N fuel pool nodes l x.Pool x.Nodes x.Members x.Maps x.Modes (k : Int) = some true := by
  intro fuel
  induction fuel with
  | zero => intro k x h; omega
  | succ fuel ih =>
    intro k x hf hk hv
    simp only [M.law18_ConfigRuns_L1, M.law18_ConfigRuns_k2]
    have hvv : (bif decide ((k : Int) < (l.length : Int)) then (some (decide ((k : Int) < 80))) else (some false)) = some (decide (k < l.length ∧ k < 80)) := by
      by_cases h : k < l.length
      · rw [decide_eq_true (by omega : (k : Int) < (l.length : Int))]
        simp only [cond_true, Option.some.injEq]
        exact decide_eq_decide.2 (by omega)
      · rw [decide_eq_false (by omega : ¬ (k : Int) < (l.length : Int)), decide_eq_false (show ¬ (k < l.length ∧ k < 80) by omega)]; rfl
    rw [hvv]
    simp only [Option.bind_some]
    by_cases hlt : k < l.length ∧ k < 80
    · rw [decide_eq_true hlt, csD, idx_get hlt.1]
      simp only [cond_true, Option.bind_some, cmdD, (apply_eq N (by omega) x _ hv.ok).1]
      by_cases he : (applyR x l[k]).2 = 0
      · have hb : ((applyR x l[k]).2 != 0) = false := by rw [he]; rfl
        have hv' := valid_apply hv l[k] he
        rw [hb, he]
        simp only [cond_false]
        have := runs_L3 N hN l (k : Int) hv' (M.law18_ConfigRuns_L1 N fuel) N 0 (by omega) (by omega)
        refine this.trans ?_
        rw [wrap_succ (by omega)]
        exact ih (k + 1) _ (by omega) (by omega) hv'
      · have hb : ((applyR x l[k]).2 != 0) = true := bne_iff_ne.2 he
        have hz : (applyR x l[k]).1 = zst := by
          unfold applyR at he ⊢
          split
          · rename_i h; rw [if_pos h] at he; exact absurd rfl he
          · rfl
        rw [hb, hz, show (zst.Pool != 0) = false from rfl, wrap_succ (by omega)]
        simp only [cond_true, cond_false]
        exact ih (k + 1) x (by omega) (by omega) hv
    · rw [decide_eq_false hlt]
      simp only [cond_false, haw, Option.bind_some]
end
theorem pConfigRunsN (N : Nat) (hN : 1000 ≤ N) (haw : M.law18_awake N = some true) (a b c : Int) (hst : M.config_Start N a b c = some (startR a b c)) (l : List T_api_Cmd) : M.law18_ConfigRuns N a b c l = some true := by
  unfold M.law18_ConfigRuns
  rw [hst]
  unfold startR
  by_cases h : startBad a b c
  · rw [if_pos h]
    simp only [Option.bind_some, haw, cond_true]
    rfl
  · rw [if_neg h]
    simp only [Option.bind_some, bne_self_eq_false, cond_false]
    exact runs_L1 N hN haw l N 0 _ (by omega) (by omega) (start_valid h)
theorem pConfigRuns (a b c : Int) (l : List T_api_Cmd) : M.law18_ConfigRuns 1000 a b c l = some true := pConfigRunsN 1000 (Nat.le_refl _) awake18 a b c (start_eq a b c) l
end Go.Cf
