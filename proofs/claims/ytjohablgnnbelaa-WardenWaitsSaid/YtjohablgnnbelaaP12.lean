/- The plain law of WardenWaits. -/
import Derived.Test.YtjohablgnnbelaaPl8
import Derived.Test.YtjohablgnnbelaaPl10
import Derived.Test.YtjohablgnnbelaaM9w
namespace Go.Cf
open Go
set_option maxRecDepth 100000 in
theorem awake19w : M.law19_awake 1000 = some true := by kernel_rfl
/-- one entry is out, and silent's answer is waited for -/
structure Waiting (w : T_warden_Warden) (si : Nat) : Prop where
  ok : WOk w 1000
  step : w.step_ = 1
  queue : ∃ c, w.queue = [c]
  done : w.done = 0
  sil : w.wait.getD si false = true
theorem k1_one {w : T_warden_Warden} {c : T_api_Cmd} (h : w.step_ = 1) : k1P w c = w := by
  unfold k1P
  rw [if_neg (by rw [h]; simp)]
theorem waiting_take (N : Nat) (hN : 100 ≤ N) {w : T_warden_Warden} {si : Nat} (h : Waiting w si) (dc : Int) (hd : dc ≠ si) (m : T_api_Msg) : ∃ w', M.warden_Warden_Take N w dc m = some w' ∧ Waiting w' si := by
  by_cases hs : skips w dc m
  · exact ⟨w, take_skip N w dc m hs, h⟩
  · obtain ⟨c, hq⟩ := h.queue
    refine ⟨_, take_go N hN w dc m hs c [] hq 1000 (by omega) h.ok, ?_⟩
    have g1 : ¬ dc < 0 := fun e => hs (.inl e)
    have hne : si ≠ dc.toNat := by omega
    unfold takeQ
    by_cases a1 : m.Kind = 23 ∧ w.wait.getD dc.toNat false = true
    · have hsil : (w.wait.set dc.toNat false).getD si false = true := by
        rw [List.getD_eq_getElem?_getD, List.getElem?_set_ne (Ne.symm hne), ← List.getD_eq_getElem?_getD]
        exact h.sil
      have a2 : w.wait.set dc.toNat false ≠ List.replicate 4 false := fun e => by
        rw [e, List.getD_eq_getElem?_getD, List.getElem?_replicate] at hsil
        split at hsil <;> cases hsil
      rw [if_pos a1, if_pos a2]
      exact ⟨⟨h.ok.now, h.ok.tail, by show (w.wait.set dc.toNat false).length = 4; rw [List.length_set]; exact h.ok.wait, h.ok.out, h.ok.queue, h.ok.busy⟩, h.step, ⟨c, hq⟩, h.done, hsil⟩
    · rw [if_neg a1]
      split
      · rw [k1_one (by exact h.step)]
        exact ⟨⟨h.ok.now, h.ok.tail, h.ok.wait, h.ok.out, h.ok.queue, h.ok.busy⟩, h.step, ⟨c, hq⟩, h.done, h.sil⟩
      · rw [k1_one h.step]; exact h
section
variable (N : Nat) (hN : 1000 ≤ N) (haw : M.law19_awake N = some true)
include hN haw
theorem waits_L1 (si : Nat) (l : List T_law19_Op) : ∀ (fuel i : Nat) (w : T_warden_Warden), 100 - i < fuel → i ≤ 100 → Waiting w si →
    M.law19_WardenWaits_L1 N fuel (si : Int) l w.now.Pool w.now.Nodes w.now.Members w.now.Maps w.now.Modes w.tail.Pool w.tail.Nodes w.tail.Members w.tail.Maps w.tail.Modes w.queue w.done w.epoch w.step_ w.wait w.mark_ w.ready w.out (i : Int) = some true := by
  intro fuel
  induction fuel with
  | zero => intro i w h; omega
  | succ fuel ih =>
    intro i w hf hi hw
    have hk2 : ∀ w', Waiting w' si → i < 100 → M.law19_WardenWaits_k2 N (M.law19_WardenWaits_L1 N fuel) (si : Int) l (i : Int) w'.now.Pool w'.now.Nodes w'.now.Members w'.now.Maps w'.now.Modes w'.tail.Pool w'.tail.Nodes w'.tail.Members w'.tail.Maps w'.tail.Modes w'.queue w'.done w'.epoch w'.step_ w'.wait w'.mark_ w'.ready w'.out = some true := fun w' hw' hi' => by
      unfold M.law19_WardenWaits_k2
      obtain ⟨c, hq⟩ := hw'.queue
      rw [wD w', show M.warden_Warden_Acked N w' = some w'.done from rfl, show M.warden_Warden_Pending N w' = some (w'.queue.length : Int) from rfl, wrap_succ (by omega)]
      have hl : ((w'.queue.length : Nat) : Int) = 1 := by rw [hq]; rfl
      simp only [Option.bind_some, hw'.done, hl, bne_self_eq_false, cond_false]
      rw [← hw'.done]
      exact ih (i + 1) w' (by omega) (by omega) hw'
    simp only [M.law19_WardenWaits_L1, haw]
    by_cases hlt : i < l.length ∧ i < 100
    · rw [decide_eq_true (by omega : (i : Int) < ((l.length : Nat) : Int)), decide_eq_true (by omega : (i : Int) < 100), idx_get hlt.1, wD w]
      simp only [cond_true, Option.bind_some]
      cases ha : l[i].Ask with
      | true =>
        simp only [Bool.not_true, cond_false, Option.bind_some]
        exact hk2 w hw hlt.2
      | false =>
        simp only [Bool.not_false, cond_true, Option.bind_some]
        by_cases hd : l[i].DC = (si : Int)
        · rw [hd]
          simp only [bne_self_eq_false, cond_false]
          exact hk2 w hw hlt.2
        · rw [bne_iff_ne.2 hd]
          simp only [cond_true]
          obtain ⟨w', h1, h2⟩ := waiting_take N (by omega) hw l[i].DC hd l[i].Msg
          have h1' : M.warden_Warden_Take N w l[i].DC (T_api_Msg.mk l[i].Msg.Kind l[i].Msg.Id l[i].Msg.N l[i].Msg.TS l[i].Msg.Lo l[i].Msg.Hi l[i].Msg.Vers l[i].Msg.Vec (T_api_Cmd.mk l[i].Msg.Cmd.Kind l[i].Msg.Cmd.DC l[i].Msg.Cmd.Shard l[i].Msg.Cmd.Node l[i].Msg.Cmd.Mode l[i].Msg.Cmd.Key)) = some w' := h1
          rw [h1']
          simp only [Option.bind_some]
          exact hk2 w' h2 hlt.2
    · have hb : (bif decide ((i : Int) < ((l.length : Nat) : Int)) then (some (decide ((i : Int) < 100))) else (some false)) = some false := by
        by_cases h1 : i < l.length
        · rw [decide_eq_false (by omega : ¬ (i : Int) < 100)]; cases decide ((i : Int) < ((l.length : Nat) : Int)) <;> rfl
        · rw [decide_eq_false (by omega : ¬ (i : Int) < ((l.length : Nat) : Int))]; rfl
      rw [hb]
      rfl
end

theorem layStep_other (m k : List Bool) (epoch n : Int) (vec : List Int) (c : T_api_Cmd) (i si : Nat) (x : List Bool × List T_api_Mail) (h : i ≠ si) : (layStep m k epoch n vec c i x).1.getD si false = x.1.getD si false := by
  unfold layStep
  split
  · rw [List.getD_eq_getElem?_getD, List.getElem?_set_ne h, ← List.getD_eq_getElem?_getD]
  · rfl
theorem layStep_self (m k : List Bool) (epoch n : Int) (vec : List Int) (c : T_api_Cmd) (i : Nat) (x : List Bool × List T_api_Mail) (h : m.getD i false = true) (hl : i < x.1.length) : (layStep m k epoch n vec c i x).1.getD i false = true := by
  unfold layStep
  rw [if_pos (by rw [h]; rfl), h]
  simp [List.getD_eq_getElem?_getD, hl]
theorem layAll_wait (m k : List Bool) (epoch n : Int) (vec : List Int) (c : T_api_Cmd) (x : List Bool × List T_api_Mail) (si : Nat) (hs : si < 4) (h : m.getD si false = true) (hl : x.1.length = 4) : (layAll m k epoch n vec c x).1.getD si false = true := by
  unfold layAll
  have l0 := (layStep_len m k epoch n vec c 0 x).1
  have l1 := (layStep_len m k epoch n vec c 1 (layStep m k epoch n vec c 0 x)).1
  have l2 := (layStep_len m k epoch n vec c 2 (layStep m k epoch n vec c 1 (layStep m k epoch n vec c 0 x))).1
  match si, hs with
  | 0, _ => rw [layStep_other _ _ _ _ _ _ _ _ _ (by omega), layStep_other _ _ _ _ _ _ _ _ _ (by omega), layStep_other _ _ _ _ _ _ _ _ _ (by omega)]; exact layStep_self _ _ _ _ _ _ _ _ h (by omega)
  | 1, _ => rw [layStep_other _ _ _ _ _ _ _ _ _ (by omega), layStep_other _ _ _ _ _ _ _ _ _ (by omega)]; exact layStep_self _ _ _ _ _ _ _ _ h (by omega)
  | 2, _ => rw [layStep_other _ _ _ _ _ _ _ _ _ (by omega)]; exact layStep_self _ _ _ _ _ _ _ _ h (by omega)
  | 3, _ => exact layStep_self _ _ _ _ _ _ _ _ h (by omega)
def newP (s : T_config_State) : T_warden_Warden := ⟨s, s, [], 0, 0, 0, List.replicate 4 false, 0, false, []⟩
theorem new_eq (N : Nat) (hN : 100 ≤ N) (s : T_config_State) (ho : OkSt s) : M.warden_New N s = some (newP s) := by
  unfold M.warden_New
  simp only [csD, copyS N hN s ho, Option.bind_some]
  rfl
theorem newP_ok {s : T_config_State} (ho : OkSt s) : WOk (newP s) 0 := ⟨ho, ho, rfl, Nat.le_refl _, by simp [newP], fun h => absurd rfl h⟩
theorem ask_new {s : T_config_State} (ho : OkSt s) (c : T_api_Cmd) (he : (applyR s c).2 = 0) (si : Nat) (hs : si < 4) (hm : s.Members.getD si false = true) : (askP (newP s) c).2.1 = 0 ∧ Waiting (askP (newP s) c).2.2 si := by
  have hok := ok_apply ho c
  have hst : startP { newP s with tail := (applyR s c).1, queue := [plainC c] } = sendP { newP s with tail := (applyR s c).1, queue := [plainC c], step_ := 1, ready := false } (plainC c) := startP_cons rfl rfl
  have e : askP (newP s) c = (IntKind.i64.wrap (IntKind.i64.wrap ((startP { newP s with tail := (applyR s c).1, queue := [plainC c] }).done + ((startP { newP s with tail := (applyR s c).1, queue := [plainC c] }).queue.length : Int)) - 1), 0, startP { newP s with tail := (applyR s c).1, queue := [plainC c] }) := by
    unfold askP
    rw [if_neg (by simp [newP]), if_neg (by show ¬ ((applyR s c).2 ≠ 0); simp [he])]
    rfl
  rw [e, hst]
  refine ⟨rfl, ?_⟩
  have h := sendP_ok (w := { newP s with tail := (applyR s c).1, queue := [plainC c], step_ := 1, ready := false }) (B := 0) (c := plainC c) (q := []) ho hok rfl (Nat.le_refl _) (by simp) rfl
  refine ⟨⟨h.now, h.tail, h.wait, Nat.le_trans h.out (by omega), h.queue, h.busy⟩, rfl, ⟨plainC c, rfl⟩, rfl, ?_⟩
  exact layAll_wait _ _ _ _ _ _ _ si hs hm rfl
theorem pWaitsN (N : Nat) (hN : 1000 ≤ N) (haw : M.law19_awake N = some true) (a b d : Int) (hst : M.config_Start N a b d = some (startR a b d)) (c : T_api_Cmd) (si : Int) (l : List T_law19_Op) : M.law19_WardenWaits N a b d c si l = some true := by
  unfold M.law19_WardenWaits
  rw [hst]
  unfold startR
  by_cases hbad : startBad a b d
  · rw [if_pos hbad]
    simp [haw]
  · rw [if_neg hbad]
    have hv := (start_valid hbad).ok
    have hb : b ≤ 4 := by unfold startBad at hbad; omega
    generalize hS : startM a.toNat b.toNat d.toNat = S at *
    have hmem : ∀ i : Nat, i < 4 → (i : Int) < b → S.Members.getD i false = true := fun i hi hib => by
      subst hS
      simp only [startM]
      rw [List.getD_eq_getElem?_getD, List.getElem?_map, List.getElem?_range (by omega)]
      simp only [Option.map_some, Option.getD_some, decide_eq_true_eq]
      omega
    simp only [Option.bind_some, bne_self_eq_false, cond_false, csD]
    by_cases h1 : si < 0
    · rw [decide_eq_true h1]; simp [haw]
    · by_cases h2 : si ≥ b
      · rw [decide_eq_false h1, decide_eq_true h2]; simp [haw]
      · rw [decide_eq_false h1, decide_eq_false h2, new_eq N (by omega) S hv]
        simp only [Option.bind_some, cond_false, cmdD]
        have ha := (ask_eq N (by omega) (newP S) c 0 (by omega) (newP_ok hv)).1
        rw [ha]
        simp only [Option.bind_some]
        by_cases he : (applyR S c).2 = 0
        · obtain ⟨i, rfl⟩ : ∃ i : Nat, si = i := ⟨si.toNat, by omega⟩
          obtain ⟨e1, e2⟩ := ask_new hv c he i (by omega) (hmem i (by omega) (by omega))
          rw [e1]
          simp only [bne_self_eq_false, cond_false]
          exact waits_L1 N hN haw i l N 0 _ (by omega) (by omega) e2
        · have e : askP (newP S) c = (0, (applyR S c).2, newP S) := by
            unfold askP
            rw [if_neg (by simp [newP]), if_pos (by exact he)]
            rfl
          rw [e, bne_iff_ne.2 he]
          simp only [cond_true, haw, Option.bind_some]
          rfl
theorem pWardenWaits (a b d : Int) (c : T_api_Cmd) (si : Int) (l : List T_law19_Op) : M.law19_WardenWaits 1000 a b d c si l = some true := pWaitsN 1000 (Nat.le_refl _) awake19w a b d (start_eq a b d) c si l
end Go.Cf
