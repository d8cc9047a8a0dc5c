/- Plain facts on configurations: what stays, what is the same. -/
import Derived.Test.YtjohablgnnbelaaPl6
namespace Go.Cf
open Go
theorem awake18 : M.law18_awake 1000 = some true := by kernel_rfl
theorem vEq_int (k : IntKind) (x : Int) : vEq (.int k x) (.int k x) = true := by simp [vEq]
theorem cEq_refl : ∀ l : List Value, (∀ v ∈ l, vEq v v = true) → cEq l l = true := fun l => by
  induction l with
  | nil => intro _; rfl
  | cons v l ih => intro h; simp [cEq, h v (by simp), ih fun u hu => h u (by simp [hu])]
theorem cEq_bools (n : Nat) (l : List Bool) : cEq (flat [(n, encs fBool l)]) (flat [(n, encs fBool l)]) = true := by
  refine cEq_refl _ fun v hv => ?_
  simp only [flat, List.flatMap_cons, List.flatMap_nil, List.append_nil, encs, List.mem_flatMap] at hv
  obtain ⟨b, _, hb⟩ := hv
  have : v = .bool b := by simpa [fBool] using hb
  subst this; simp [vEq]
theorem cEq_ints (n : Nat) (l : List Int) : cEq (flat [(n, encs (fInt .i64) l)]) (flat [(n, encs (fInt .i64) l)]) = true := by
  refine cEq_refl _ fun v hv => ?_
  simp only [flat, List.flatMap_cons, List.flatMap_nil, List.append_nil, encs, List.mem_flatMap] at hv
  obtain ⟨b, _, hb⟩ := hv
  have : v = .int .i64 b := by simpa [fInt] using hb
  subst this; simp [vEq]
theorem sameS_L1 (N : Nat) (hN : 100 ≤ N) (s : T_config_State) (ho : OkSt s) : ∀ (fuel i : Nat), 4 - i < fuel → i ≤ 4 → M.ref18_Same_L1 N fuel (told s) (told s) (i : Int) = some true := by
  intro fuel
  induction fuel with
  | zero => intro i h; omega
  | succ fuel ih =>
    intro i hf hi
    simp only [M.ref18_Same_L1]
    by_cases hlt : i < 4
    · have hl : i < s.Maps.length := by rw [ho.maps]; exact hlt
      obtain ⟨h1, h2⟩ := ho.small _ (List.getElem_mem hl)
      rw [decide_eq_true (by omega : (i : Int) < 4), show (told s).Maps = s.Maps from rfl, idx_get hl, wrap_succ (by omega)]
      simp only [cond_true, Option.bind_some, mapD, same_refl N (s.Maps[i]) (by omega) (by omega) (by omega) (by omega), Bool.not_true, cond_false]
      exact ih (i + 1) (by omega) (by omega)
    · rw [decide_eq_false (by omega : ¬ (i : Int) < 4)]; rfl
theorem sameR_refl (N : Nat) (hN : 100 ≤ N) (s : T_config_State) (ho : OkSt s) : M.ref18_Same N (told s) (told s) = some true := by
  unfold M.ref18_Same
  simp only [bne_self_eq_false, cEq_bools, cEq_ints, Bool.not_true, cond_false, Option.bind_some]
  exact sameS_L1 N hN s ho N 0 (by omega) (by omega)
theorem told_eq (N : Nat) (s : T_config_State) : M.law18_Told N s = some (told s) := rfl
theorem sameS_refl (N : Nat) (hN : 100 ≤ N) (s : T_config_State) (ho : OkSt s) : M.law18_Same N s (told s) = some true := by
  unfold M.law18_Same
  simp only [csD, rsD, told_eq, Option.bind_some, sameR_refl N hN s ho]
theorem ok_zst : OkSt zst := ⟨rfl, rfl, rfl, fun m hm => by
  have : m = ⟨[], []⟩ := List.eq_of_mem_replicate hm
  subst this; exact ⟨Nat.zero_le _, Nat.zero_le _⟩⟩
theorem ok_setMap {s : T_config_State} (ho : OkSt s) (dc : Nat) (m : T_api_Map) (h1 : m.Cuts.length ≤ 60) (h2 : m.Nodes.length ≤ 60) (mem : List Bool) (hm : mem.length = 4) (modes : List Int) (hl : modes.length = 21) : OkSt ⟨s.Pool, s.Nodes, mem, s.Maps.set dc m, modes⟩ :=
  ⟨hm, by show (s.Maps.set dc m).length = 4; rw [List.length_set]; exact ho.maps, hl, fun x hx => by
    rcases List.mem_or_eq_of_mem_set hx with hx | rfl
    · exact ho.small x hx
    · exact ⟨h1, h2⟩⟩
theorem len_pair (r : T_api_Map × Int) (e : Prop) [Decidable e] (x : T_api_Map) (h : x.Cuts.length ≤ 60 ∧ x.Nodes.length ≤ 60) (k : Int) : (if e then (x, (0 : Int)) else (empt, k)).1.Cuts.length ≤ 60 ∧ (if e then (x, (0 : Int)) else (empt, k)).1.Nodes.length ≤ 60 := by
  split
  · exact h
  · exact ⟨Nat.zero_le _, Nat.zero_le _⟩
theorem right_small {x : T_api_Map} {n : Int} (h : Right x n) : x.Cuts.length ≤ 60 ∧ x.Nodes.length ≤ 60 := by have := h.form; have := h.most; omega
theorem split_small (x : T_api_Map) (n i : Int) (k : ByteArray) : (splitR x n i k).1.Cuts.length ≤ 60 ∧ (splitR x n i k).1.Nodes.length ≤ 60 := by
  unfold splitR
  split
  · rename_i h; exact right_small (right_split (split_ok h).2)
  · exact ⟨Nat.zero_le _, Nat.zero_le _⟩
theorem merge_small (x : T_api_Map) (n i : Int) : (mergeR x n i).1.Cuts.length ≤ 60 ∧ (mergeR x n i).1.Nodes.length ≤ 60 := by
  unfold mergeR
  split
  · rename_i h; exact right_small (right_merge (merge_ok h).2)
  · exact ⟨Nat.zero_le _, Nat.zero_le _⟩
theorem move_small (x : T_api_Map) (n i k : Int) : (moveR x n i k).1.Cuts.length ≤ 60 ∧ (moveR x n i k).1.Nodes.length ≤ 60 := by
  unfold moveR
  split
  · rename_i h; exact right_small (right_move (move_ok h).2)
  · exact ⟨Nat.zero_le _, Nat.zero_le _⟩
theorem ok_inner {s : T_config_State} (ho : OkSt s) (c : T_api_Cmd) (dc : Nat) : OkSt (inner s c dc).1 := by
  unfold inner
  split
  · split
    · exact ok_zst
    · exact ok_setMap ho dc empt (Nat.zero_le _) (Nat.zero_le _) _ (by rw [List.length_set]; exact ho.mem) _ (by rw [setFrom_length]; exact ho.modes)
  · split
    · exact ok_setMap ho dc _ (split_small ..).1 (split_small ..).2 _ ho.mem _ ho.modes
    · split
      · exact ok_setMap ho dc _ (merge_small ..).1 (merge_small ..).2 _ ho.mem _ ho.modes
      · split
        · exact ok_setMap ho dc _ (move_small ..).1 (move_small ..).2 _ ho.mem _ ho.modes
        · exact ⟨ho.mem, ho.maps, by show (s.Modes.set _ _).length = 21; rw [List.length_set]; exact ho.modes, ho.small⟩
theorem ok_applyP {s : T_config_State} (ho : OkSt s) (c : T_api_Cmd) : OkSt (applyP s c).1 := by
  unfold applyP
  split
  · exact ok_zst
  · split
    · exact ok_zst
    · split
      · split
        · exact ok_zst
        · exact ok_setMap ho _ _ (by decide) (by decide) _ (by rw [List.length_set]; exact ho.mem) _ (by rw [setFrom_length]; exact ho.modes)
      · split
        · exact ok_inner ho c _
        · exact ok_zst
theorem ok_apply {s : T_config_State} (ho : OkSt s) (c : T_api_Cmd) : OkSt (applyR s c).1 := by
  unfold applyR
  split
  · exact ok_applyP ho c
  · exact ok_zst

/-! ### plain commands -/
def plainC (c : T_api_Cmd) : T_api_Cmd :=
  if c.Kind = 3 then ⟨c.Kind, c.DC, c.Shard, 0, 0, c.Key⟩ else if c.Kind = 4 then ⟨c.Kind, c.DC, c.Shard, 0, 0, nil⟩ else if c.Kind = 5 then ⟨c.Kind, c.DC, c.Shard, c.Node, 0, nil⟩ else if c.Kind = 6 then ⟨c.Kind, c.DC, 0, c.Node, c.Mode, nil⟩ else ⟨c.Kind, c.DC, 0, 0, 0, nil⟩
theorem plain_eq (N : Nat) (c : T_api_Cmd) : M.config_Plain N c = some (plainC c) ∧ M.ref18_Plain N c = some (plainC c) := by
  unfold M.config_Plain M.ref18_Plain M.ref18_Plain_k1 M.ref18_Plain_k2 M.ref18_Plain_k3 M.ref18_Plain_k4 plainC
  by_cases k3 : c.Kind = 3
  · simp [k3]
  · have b3 : (c.Kind == 3) = false := beq_eq_false_iff_ne.2 k3
    by_cases k4 : c.Kind = 4
    · simp [k4]; rfl
    · have b4 : (c.Kind == 4) = false := beq_eq_false_iff_ne.2 k4
      by_cases k5 : c.Kind = 5
      · simp [k5]; rfl
      · have b5 : (c.Kind == 5) = false := beq_eq_false_iff_ne.2 k5
        by_cases k6 : c.Kind = 6
        · simp [k6]; rfl
        · have b6 : (c.Kind == 6) = false := beq_eq_false_iff_ne.2 k6
          simp [k3, k4, k5, k6, b3, b4, b5, b6]; rfl
theorem plain_kind (c : T_api_Cmd) : (plainC c).Kind = c.Kind ∧ (plainC c).DC = c.DC := by
  unfold plainC
  split
  · exact ⟨rfl, rfl⟩
  · split
    · exact ⟨rfl, rfl⟩
    · split
      · exact ⟨rfl, rfl⟩
      · split <;> exact ⟨rfl, rfl⟩
theorem inner_plain (s : T_config_State) (c : T_api_Cmd) (dc : Nat) (h1 : c.Kind ≠ 1) (h0 : ¬ (c.Kind < 1 ∨ c.Kind > 6)) : inner s (plainC c) dc = inner s c dc := by
  unfold inner
  rw [(plain_kind c).1]
  by_cases k2 : c.Kind = 2
  · rw [if_pos k2, if_pos k2]
  · rw [if_neg k2, if_neg k2]
    unfold plainC
    by_cases k3 : c.Kind = 3
    · simp only [k3, if_true]
    · by_cases k4 : c.Kind = 4
      · simp [k4]
      · by_cases k5 : c.Kind = 5
        · simp [k5]
        · have k6 : c.Kind = 6 := by omega
          simp [k6, speakM, speakE]
theorem apply_plain (s : T_config_State) (c : T_api_Cmd) : applyR s (plainC c) = applyR s c := by
  have h : applyP s (plainC c) = applyP s c := by
    unfold applyP
    rw [(plain_kind c).1, (plain_kind c).2]
    by_cases h0 : c.Kind < 1 ∨ c.Kind > 6
    · rw [if_pos h0, if_pos h0]
    · rw [if_neg h0, if_neg h0]
      by_cases k1 : c.Kind = 1
      · rw [if_pos k1, if_pos k1]
      · rw [if_neg k1, if_neg k1, inner_plain s c _ k1 h0]
  unfold applyR
  rw [h]

/-! ### great -/
theorem great18_L1 (N : Nat) (s : T_config_State) (hm : s.Maps.length = 4) : ∀ (fuel i : Nat), 4 - i < fuel → i ≤ 4 → (∃ b, M.law18_great_L1 N fuel s (i : Int) = some b ∧ (b = false → ∀ m ∈ s.Maps.drop i, m.Cuts.length ≤ 60 ∧ m.Nodes.length ≤ 60)) := by
  intro fuel
  induction fuel with
  | zero => intro i h; omega
  | succ fuel ih =>
    intro i hf hi
    simp only [M.law18_great_L1]
    by_cases hlt : i < 4
    · have hl : i < s.Maps.length := by omega
      rw [decide_eq_true (by omega : (i : Int) < 4), idx_get hl, wrap_succ (by omega), drop_cons hl]
      simp only [cond_true, Option.bind_some, or2]
      by_cases hb : ((s.Maps[i].Cuts.length : Nat) : Int) > 60 ∨ ((s.Maps[i].Nodes.length : Nat) : Int) > 60
      · rw [decide_eq_true hb]
        exact ⟨true, rfl, fun h => by cases h⟩
      · rw [decide_eq_false hb]
        simp only [cond_false]
        obtain ⟨b, h1, h2⟩ := ih (i + 1) (by omega) (by omega)
        refine ⟨b, h1, fun h m hm => ?_⟩
        rcases List.mem_cons.1 hm with rfl | hm
        · omega
        · exact h2 h m hm
    · rw [decide_eq_false (by omega : ¬ (i : Int) < 4)]
      exact ⟨false, rfl, fun _ m hm => by rw [List.drop_eq_nil_of_le (by omega)] at hm; cases hm⟩
theorem great18 (N : Nat) (hN : 100 ≤ N) (s : T_config_State) (h1 : s.Members.length = 4) (h2 : s.Maps.length = 4) (h3 : s.Modes.length = 21) : ∃ b, M.law18_great N s = some b ∧ (b = false → OkSt s) := by
  obtain ⟨b, hb, hs⟩ := great18_L1 N s h2 N 0 (by omega) (by omega)
  exact ⟨b, hb, fun h => ⟨h1, h2, h3, by simpa using hs h⟩⟩

/-! ### a command turns its own datacenter alone -/
structure Framed (s x : T_config_State) (dc : Nat) : Prop where
  pool : x.Pool = s.Pool
  nodes : x.Nodes = s.Nodes
  mem : ∀ i, i ≠ dc → x.Members[i]? = s.Members[i]?
  maps : ∀ i, i ≠ dc → x.Maps[i]? = s.Maps[i]?
  modes : ∀ p, (p = 0 ∨ (p - 1) / 5 ≠ dc) → x.Modes[p]? = s.Modes[p]?
theorem set_ne {α : Type} {l : List α} {i j : Nat} {a : α} (h : i ≠ j) : (l.set j a)[i]? = l[i]? := by
  rw [List.getElem?_set]; rw [if_neg (Ne.symm h)]
theorem setFrom_ne {l : List Int} {dc p : Nat} (h : p = 0 ∨ (p - 1) / 5 ≠ dc) : (setFrom l (5 * dc + 1) 5)[p]? = l[p]? := by
  rw [setFrom_get, if_neg (by omega)]
theorem framed_inner (s : T_config_State) (c : T_api_Cmd) (dc : Nat) (h : (inner s c dc).2 = 0) : Framed s (inner s c dc).1 dc := by
  unfold inner at h ⊢
  split
  · rename_i k2
    rw [if_pos k2] at h
    split
    · rename_i hc; rw [if_pos hc] at h; cases h
    · exact ⟨rfl, rfl, fun i hi => set_ne hi, fun i hi => set_ne hi, fun p hp => setFrom_ne hp⟩
  · rename_i k2
    rw [if_neg k2] at h
    split
    · exact ⟨rfl, rfl, fun i hi => rfl, fun i hi => set_ne hi, fun p hp => rfl⟩
    · rename_i k3
      rw [if_neg k3] at h
      split
      · exact ⟨rfl, rfl, fun i hi => rfl, fun i hi => set_ne hi, fun p hp => rfl⟩
      · rename_i k4
        rw [if_neg k4] at h
        split
        · exact ⟨rfl, rfl, fun i hi => rfl, fun i hi => set_ne hi, fun p hp => rfl⟩
        · rename_i k5
          rw [if_neg k5] at h
          refine ⟨rfl, rfl, fun i hi => rfl, fun i hi => rfl, fun p hp => set_ne ?_⟩
          have hn : ¬ (c.Node < 0 ∨ c.Node > s.Nodes ∨ c.Node > 4 ∨ c.Mode < 1 ∨ c.Mode > 3) := fun hb => by
            have : speakE s c dc = 1 := if_pos hb
            rw [this] at h; cases h
          omega
theorem framed_apply (s : T_config_State) (c : T_api_Cmd) (h : (applyR s c).2 = 0) : ∃ dc : Nat, c.DC = dc ∧ dc < 4 ∧ Framed s (applyR s c).1 dc := by
  have hp : (applyP s c).2 = 0 := by
    unfold applyR at h
    split at h
    · rename_i h'; exact h'
    · exact h
  have hr : (applyR s c).1 = (applyP s c).1 := by unfold applyR; rw [if_pos hp]
  rw [hr]
  unfold applyP at hp ⊢
  split
  · rename_i h0; rw [if_pos h0] at hp; cases hp
  · rename_i h0
    rw [if_neg h0] at hp
    split
    · rename_i h1; rw [if_pos h1] at hp; cases hp
    · rename_i h1
      rw [if_neg h1] at hp
      refine ⟨c.DC.toNat, by omega, by omega, ?_⟩
      split
      · rename_i k1
        rw [if_pos k1] at hp
        split
        · rename_i hm; rw [if_pos hm] at hp; cases hp
        · exact ⟨rfl, rfl, fun i hi => set_ne hi, fun i hi => set_ne hi, fun p hp => setFrom_ne hp⟩
      · rename_i k1
        rw [if_neg k1] at hp
        split
        · rename_i hm
          rw [if_pos hm] at hp
          exact framed_inner s c _ hp
        · rename_i hm; rw [if_neg hm] at hp; cases hp
end Go.Cf
