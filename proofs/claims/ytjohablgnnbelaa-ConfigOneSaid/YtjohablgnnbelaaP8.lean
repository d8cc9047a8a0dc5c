/- The plain law of ConfigOne. -/
import Derived.Test.YtjohablgnnbelaaPl7
import Derived.Test.YtjohablgnnbelaaM7o
namespace Go.Cf
open Go
theorem idx_of {α : Type} {l m : List α} {i : Nat} (h : l[i]? = m[i]?) : idx l (i : Int) = idx m (i : Int) := by simp [idx, h]
theorem one_L2 (N : Nat) (hN : 1000 ≤ N) (haw : M.law18_awake N = some true) (s : T_config_State) (c : T_api_Cmd) (x : T_config_State) (dc : Nat) (hc : c.DC = dc) (hf : Framed s x dc) (h3 : s.Modes.length = 21) (hx : x.Modes.length = 21) : ∀ (fuel p : Nat), 21 - p < fuel → p ≤ 21 → M.law18_ConfigOne_L2 N fuel s c (x, 0) (p : Int) = some true := by
  intro fuel
  induction fuel with
  | zero => intro p h; omega
  | succ fuel ih =>
    intro p hfu hp
    simp only [M.law18_ConfigOne_L2]
    by_cases hlt : p < 21
    · have hs : p < s.Modes.length := by omega
      rw [decide_eq_true (by omega : (p : Int) < 21), wrap_succ (by omega)]
      simp only [cond_true]
      have hv : (bif ((p : Int) == 0) then (Option.bind (idx x.Modes (p : Int)) fun x157 => (Option.bind (idx s.Modes (p : Int)) fun x158 => (some (x157 != x158)))) else (bif (IntKind.i64.wrap (Int.tdiv (IntKind.i64.wrap ((p : Int) - 1)) 5) != c.DC) then (Option.bind (idx x.Modes (p : Int)) fun x159 => (Option.bind (idx s.Modes (p : Int)) fun x160 => (some (x159 != x160)))) else (some false))) = some false := by
        by_cases h0 : p = 0
        · subst h0
          rw [show (((0 : Nat) : Int) == 0) = true from rfl, idx_of (hf.modes 0 (.inl rfl)), idx_get hs]
          simp
        · have hb : ((p : Int) == 0) = false := beq_eq_false_iff_ne.2 (by omega)
          have hq : IntKind.i64.wrap (Int.tdiv (IntKind.i64.wrap ((p : Int) - 1)) 5) = (((p - 1) / 5 : Nat) : Int) := by
            rw [wrap_small (x := (p : Int) - 1) (by omega) (by omega), Int.tdiv_eq_ediv_of_nonneg (by omega), wrap_small (by omega) (by omega)]
            omega
          rw [hb, hq, hc]
          simp only [cond_false]
          by_cases hd : (p - 1) / 5 = dc
          · rw [hd]; simp
          · have hb2 : ((((p - 1) / 5 : Nat) : Int) != (dc : Int)) = true := bne_iff_ne.2 (by omega)
            rw [hb2, idx_of (hf.modes p (.inr hd)), idx_get hs]
            simp
      rw [hv]
      simp only [Option.bind_some, cond_false]
      exact ih (p + 1) (by omega) (by omega)
    · rw [decide_eq_false (by omega : ¬ (p : Int) < 21)]
      simp [haw, hf.pool, hf.nodes]
theorem one_L1 (N : Nat) (hN : 1000 ≤ N) (haw : M.law18_awake N = some true) (s : T_config_State) (c : T_api_Cmd) (x : T_config_State) (dc : Nat) (hc : c.DC = dc) (hf : Framed s x dc) (ho : OkSt s) (hx : OkSt x) : ∀ (fuel i : Nat), 4 - i < fuel → i ≤ 4 → M.law18_ConfigOne_L1 N fuel s c (x, 0) (i : Int) = some true := by
  intro fuel
  induction fuel with
  | zero => intro p h; omega
  | succ fuel ih =>
    intro i hfu hi
    simp only [M.law18_ConfigOne_L1]
    by_cases hlt : i < 4
    · have hl : i < s.Maps.length := by rw [ho.maps]; exact hlt
      have hm : i < s.Members.length := by rw [ho.mem]; exact hlt
      obtain ⟨q1, q2⟩ := ho.small _ (List.getElem_mem hl)
      rw [decide_eq_true (by omega : (i : Int) < 4), wrap_succ (by omega), hc]
      simp only [cond_true]
      by_cases hd : i = dc
      · subst hd
        simp only [bne_self_eq_false, cond_false, Option.bind_some]
        exact ih (i + 1) (by omega) (by omega)
      · have hb : ((i : Int) != (dc : Int)) = true := bne_iff_ne.2 (by omega)
        rw [hb, idx_of (hf.mem i hd), idx_of (hf.maps i hd), idx_get hm, idx_get hl]
        simp only [cond_true, Option.bind_some, beq_self_eq_true, Bool.not_true, cond_false, mapD, same_refl N (s.Maps[i]) (by omega) (by omega) (by omega) (by omega)]
        exact ih (i + 1) (by omega) (by omega)
    · rw [decide_eq_false (by omega : ¬ (i : Int) < 4)]
      exact one_L2 N hN haw s c x dc hc hf ho.modes hx.modes N 0 (by omega) (by omega)
theorem pConfigOneN (N : Nat) (hN : 1000 ≤ N) (haw : M.law18_awake N = some true) (s : T_config_State) (c : T_api_Cmd) (h1 : s.Members.length = 4) (h2 : s.Maps.length = 4) (h3 : s.Modes.length = 21) : M.law18_ConfigOne N s c = some true := by
  unfold M.law18_ConfigOne
  obtain ⟨b, hb, ho⟩ := great18 N (by omega) s h1 h2 h3
  rw [csD s, hb, cmdD c]
  simp only [Option.bind_some, haw]
  cases b with
  | true => rfl
  | false =>
    have ho := ho rfl
    have hok := ok_apply ho c
    simp only [cond_false, (apply_eq N (by omega) s c ho).1, Option.bind_some]
    by_cases he : (applyR s c).2 = 0
    · have hb : ((applyR s c).2 != 0) = false := by rw [he]; rfl
      obtain ⟨dc, hc, _, hf⟩ := framed_apply s c he
      rw [hb]
      simp only [cond_false]
      rw [show applyR s c = ((applyR s c).1, 0) from by rw [← he]]
      exact one_L1 N hN haw s c _ dc hc hf ho hok N 0 (by omega) (by omega)
    · have hb : ((applyR s c).2 != 0) = true := bne_iff_ne.2 he
      have hz : (applyR s c).1 = zst := by
        unfold applyR at he ⊢
        split
        · rename_i h; rw [if_pos h] at he; exact absurd rfl he
        · rfl
      have hs : M.law18_Same N zst ⟨0, 0, List.replicate 4 false, List.replicate 4 ⟨[], []⟩, List.replicate 21 0⟩ = some true := sameS_refl N (by omega) zst ok_zst
      rw [hb, csD, hz, hs]
      simp only [cond_true, Option.bind_some]
theorem pConfigOne (s : T_config_State) (c : T_api_Cmd) (h1 : s.Members.length = 4) (h2 : s.Maps.length = 4) (h3 : s.Modes.length = 21) : M.law18_ConfigOne 1000 s c = some true := pConfigOneN 1000 (Nat.le_refl _) awake18 s c h1 h2 h3
end Go.Cf
