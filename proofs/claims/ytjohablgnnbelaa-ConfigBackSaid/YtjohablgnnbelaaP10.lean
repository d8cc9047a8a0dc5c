/- The plain law of ConfigBack. -/
import Derived.Test.YtjohablgnnbelaaPl8
import Derived.Test.YtjohablgnnbelaaM7b
namespace Go.Cf
open Go
def rmC (dc : Int) : T_api_Cmd := ⟨2, dc, 0, 0, 0, ByteArray.empty⟩
def addC (dc : Int) : T_api_Cmd := ⟨1, dc, 0, 0, 0, ByteArray.empty⟩
def outM (s : T_config_State) (dc : Nat) : T_config_State := bothM ⟨s.Pool, s.Nodes, s.Members.set dc false, s.Maps.set dc empt, s.Modes⟩ dc
def inM (s : T_config_State) (dc : Nat) : T_config_State := bothM ⟨s.Pool, s.Nodes, s.Members.set dc true, s.Maps.set dc ⟨[], [0]⟩, s.Modes⟩ dc
theorem apply_rm {s : T_config_State} {pool nodes : Int} (hv : Valid s pool nodes) (dc : Nat) (hd : (dc : Int) < pool) (hm : s.Members.getD dc false = true) : applyR s (rmC dc) = if cnt s.Members = 1 then (zst, 13) else (outM s dc, 0) := by
  have hp := hv.p4
  have h1 : applyP s (rmC dc) = if cnt s.Members = 1 then (zst, 13) else (outM s dc, 0) := by
    unfold applyP
    have a1 : ¬ ((rmC (dc : Int)).Kind < 1 ∨ (rmC (dc : Int)).Kind > 6) := by show ¬ ((2 : Int) < 1 ∨ (2 : Int) > 6); omega
    have a2 : ¬ ((rmC (dc : Int)).DC < 0 ∨ (rmC (dc : Int)).DC ≥ 4 ∨ (rmC (dc : Int)).DC ≥ s.Pool) := by show ¬ ((dc : Int) < 0 ∨ (dc : Int) ≥ 4 ∨ (dc : Int) ≥ s.Pool); rw [hv.poolE]; omega
    have a3 : ¬ ((rmC (dc : Int)).Kind = 1) := by show ¬ ((2 : Int) = 1); omega
    rw [if_neg a1, if_neg a2, if_neg a3]
    show (if s.Members.getD (Int.toNat (dc : Int)) false = true then inner s (rmC dc) (Int.toNat (dc : Int)) else (zst, 12)) = _
    rw [Int.toNat_natCast, if_pos hm]
    unfold inner
    rw [if_pos (show (rmC dc).Kind = 2 from rfl)]
    rfl
  unfold applyR
  rw [h1]
  by_cases hc : cnt s.Members = 1
  · rw [if_pos hc]; rfl
  · rw [if_neg hc]; rfl
theorem apply_add {s : T_config_State} {pool : Int} (hp4 : pool ≤ 4) (hpool : s.Pool = pool) (dc : Nat) (hd : (dc : Int) < pool) (hm : s.Members.getD dc false = false) : applyR s (addC dc) = (inM s dc, 0) := by
  have h1 : applyP s (addC dc) = (inM s dc, 0) := by
    unfold applyP
    have a1 : ¬ ((addC (dc : Int)).Kind < 1 ∨ (addC (dc : Int)).Kind > 6) := by show ¬ ((1 : Int) < 1 ∨ (1 : Int) > 6); omega
    have a2 : ¬ ((addC (dc : Int)).DC < 0 ∨ (addC (dc : Int)).DC ≥ 4 ∨ (addC (dc : Int)).DC ≥ s.Pool) := by show ¬ ((dc : Int) < 0 ∨ (dc : Int) ≥ 4 ∨ (dc : Int) ≥ s.Pool); rw [hpool]; omega
    have a3 : (addC (dc : Int)).Kind = 1 := rfl
    rw [if_neg a1, if_neg a2, if_pos a3]
    show (if s.Members.getD (Int.toNat (dc : Int)) false = true then (zst, 8) else (inM s (Int.toNat (dc : Int)), 0)) = _
    rw [Int.toNat_natCast, hm]
    rfl
  unfold applyR
  rw [h1]; rfl
theorem modes2 {l : List Int} (hl : l.length = 21) {dc j : Nat} (hd : dc < 4) (hj : j ≤ 4) : idx (setFrom l (5 * dc + 1) 5) ((5 * dc + j + 1 : Nat) : Int) = some 2 := by
  unfold idx
  rw [if_pos (by omega), Int.toNat_natCast, setFrom_get, if_pos (by omega)]
theorem back_L3 (N : Nat) (hN : 1000 ≤ N) (haw : M.law18_awake N = some true) {s : T_config_State} {pool nodes : Int} (hv : Valid s pool nodes) (dc : Nat) (hd : (dc : Int) < pool) (hm : s.Members.getD dc false = true) : ∀ (fuel j : Nat), 5 - j < fuel → (j : Int) ≤ nodes + 1 →
    M.law18_ConfigBack_L3 N fuel nodes (dc : Int) s.Pool s.Nodes s.Members s.Maps s.Modes (outM s dc, 0) (inM (outM s dc) dc, 0) ((j : Int) - 1) = some true := by
  have hp := hv.p4
  have hn := hv.n4
  have hdc4 : dc < 4 := by omega
  have hmem : dc < s.Members.length := by rw [hv.ok.mem]; exact hdc4
  have hmaps : dc < s.Maps.length := by rw [hv.ok.maps]; exact hdc4
  intro fuel
  induction fuel with
  | zero => intro j h; omega
  | succ fuel ih =>
    intro j hf hj
    simp only [M.law18_ConfigBack_L3]
    by_cases hlt : (j : Int) - 1 < nodes
    · have hj4 : j ≤ 4 := by omega
      rw [decide_eq_true hlt, place_eq N dc j hdc4 (by omega)]
      simp only [cond_true, Option.bind_some]
      rw [show idx (outM s dc).Modes ((5 * dc + j + 1 : Nat) : Int) = some 2 from modes2 hv.ok.modes hdc4 hj4, show idx (inM (outM s dc) dc).Modes ((5 * dc + j + 1 : Nat) : Int) = some 2 from modes2 (by show (setFrom s.Modes _ _).length = 21; rw [setFrom_length]; exact hv.ok.modes) hdc4 hj4]
      simp only [Option.bind_some, bne_self_eq_false, cond_false]
      rw [show IntKind.i64.wrap ((j : Int) - 1 + 1) = ((j + 1 : Nat) : Int) - 1 from by rw [wrap_small (by omega) (by omega)]; omega]
      exact ih (j + 1) (by omega) (by omega)
    · rw [decide_eq_false hlt, csD, csD]
      have hm1 : (inM (outM s dc) dc).Members.length = 4 := by show ((s.Members.set dc false).set dc true).length = 4; simp [hv.ok.mem]
      have hms : (inM (outM s dc) dc).Members = s.Members := by
        show (s.Members.set dc false).set dc true = s.Members
        rw [List.set_set]
        have : s.Members.getD dc false = s.Members[dc] := by simp [hmem]
        rw [← hm, this, set_same hmem]
      rw [(count_eq N (by omega) _ hm1).1, (count_eq N (by omega) s hv.ok.mem).1, hms, haw]
      have h1 : idx (outM s dc).Maps (dc : Int) = some empt := by
        rw [show (outM s dc).Maps = s.Maps.set dc empt from rfl, idx_getD empt (by simpa using hmaps), getD_set_eq hmaps]
      have h2 : idx (inM (outM s dc) dc).Maps (dc : Int) = some ⟨[], [0]⟩ := by
        rw [show (inM (outM s dc) dc).Maps = (s.Maps.set dc empt).set dc ⟨[], [0]⟩ from rfl, idx_getD empt (by simpa using hmaps), getD_set_eq (by simpa using hmaps)]
      simp only [cond_false, cond_true, Option.bind_some, h1, h2, beq_self_eq_true]
      rfl
theorem back_L1 (N : Nat) (hN : 1000 ≤ N) (haw : M.law18_awake N = some true) {pool nodes : Int} (l : List T_api_Cmd) (dc : Nat) (hd : (dc : Int) < pool) : ∀ (fuel k : Nat) (x : T_config_State), 30 - k < fuel → k ≤ 30 → Valid x pool nodes → M.law18_ConfigBack_L1 N fuel nodes l (dc : Int) x.Pool x.Nodes x.Members x.Maps x.Modes (k : Int) = some true := by
  intro fuel
  induction fuel with
  | zero => intro k x h; omega
  | succ fuel ih =>
    intro k x hf hk hv
    simp only [M.law18_ConfigBack_L1, M.law18_ConfigBack_k2]
    have hp := hv.p4
    have hn := hv.n4
    have hdc4 : dc < 4 := by omega
    have hmem : dc < x.Members.length := by rw [hv.ok.mem]; exact hdc4
    have hvv : (bif decide ((k : Int) < (l.length : Int)) then (some (decide ((k : Int) < 30))) else (some false)) = some (decide (k < l.length ∧ k < 30)) := by
      by_cases h : k < l.length
      · rw [decide_eq_true (by omega : (k : Int) < (l.length : Int))]
        simp only [cond_true, Option.some.injEq]
        exact decide_eq_decide.2 (by omega)
      · rw [decide_eq_false (by omega : ¬ (k : Int) < (l.length : Int)), decide_eq_false (show ¬ (k < l.length ∧ k < 30) by omega)]; rfl
    rw [hvv, csD]
    simp only [Option.bind_some]
    by_cases hlt : k < l.length ∧ k < 30
    · rw [decide_eq_true hlt, idx_get hlt.1]
      simp only [cond_true, Option.bind_some, cmdD, (apply_eq N (by omega) x _ hv.ok).1]
      rw [wrap_succ (by omega)]
      by_cases he : (applyR x l[k]).2 = 0
      · have hb : ((applyR x l[k]).2 == 0) = true := by rw [he]; rfl
        rw [hb]
        exact ih (k + 1) _ (by omega) (by omega) (valid_apply hv l[k] he)
      · have hb : ((applyR x l[k]).2 == 0) = false := beq_eq_false_iff_ne.2 he
        rw [hb]
        exact ih (k + 1) x (by omega) (by omega) hv
    · rw [decide_eq_false hlt, idx_getD false hmem]
      simp only [cond_false, haw, Option.bind_some]
      cases hm : x.Members.getD dc false with
      | false => rfl
      | true =>
        simp only [Bool.not_true, cond_false]
        rw [show (T_api_Cmd.mk 2 (dc : Int) 0 0 0 ByteArray.empty) = rmC dc from rfl, (apply_eq N (by omega) x (rmC dc) hv.ok).1, apply_rm hv dc hd hm]
        simp only [Option.bind_some]
        by_cases hc : cnt x.Members = 1
        · rw [if_pos hc, (count_eq N (by omega) x hv.ok.mem).1, hc]
          rfl
        · rw [if_neg hc]
          simp only [bne_self_eq_false, cond_false, csD]
          have hok : OkSt (outM x dc) := by
            have h1 := ok_apply hv.ok (rmC dc)
            rw [apply_rm hv dc hd hm, if_neg hc] at h1; exact h1
          have hmo : (outM x dc).Members.getD dc false = false := getD_set_eq hmem
          rw [show (T_api_Cmd.mk 1 (dc : Int) 0 0 0 ByteArray.empty) = addC dc from rfl, (apply_eq N (by omega) (outM x dc) (addC dc) hok).1, apply_add (s := outM x dc) hp.2 hv.poolE dc hd hmo]
          simp only [Option.bind_some]
          exact back_L3 N hN haw hv dc hd hm N 0 (by omega) (by omega)
theorem pConfigBackN (N : Nat) (hN : 1000 ≤ N) (haw : M.law18_awake N = some true) (a c d : Int) (hst : M.config_Start N a a c = some (startR a a c)) (l : List T_api_Cmd) : M.law18_ConfigBack N a c l d = some true := by
  unfold M.law18_ConfigBack
  rw [hst]
  unfold startR
  simp only [Option.bind_some]
  by_cases h : startBad a a c
  · rw [if_pos h]
    simp only [haw]
    rfl
  · rw [if_neg h]
    simp only [bne_self_eq_false, cond_false]
    rw [or2]
    simp only [Option.bind_some]
    by_cases hd : d < 0 ∨ d ≥ a
    · rw [decide_eq_true hd]
      simp only [cond_true, haw, Option.bind_some]
    · rw [decide_eq_false hd]
      simp only [cond_false]
      obtain ⟨dc, rfl⟩ : ∃ dc : Nat, d = dc := ⟨d.toNat, by omega⟩
      exact back_L1 N hN haw l dc (by omega) N 0 _ (by omega) (by omega) (start_valid h)
theorem pConfigBack (a c d : Int) (l : List T_api_Cmd) : M.law18_ConfigBack 1000 a c l d = some true := pConfigBackN 1000 (Nat.le_refl _) awake18 a c d (start_eq a a c) l
end Go.Cf
