/- Plain facts on configurations: what a command comes to. -/
import Derived.Test.YtjohablgnnbelaaPl5
import Derived.Test.YtjohablgnnbelaaM6
import Derived.Test.YtjohablgnnbelaaM6r
import Derived.Test.YtjohablgnnbelaaM6w
import Derived.Test.YtjohablgnnbelaaM3
namespace Go.Cf
open Go
def told (s : T_config_State) : T_ref18_State := ⟨s.Pool, s.Nodes, s.Members, s.Maps, s.Modes⟩
def zst : T_config_State := ⟨0, 0, List.replicate 4 false, List.replicate 4 ⟨[], []⟩, List.replicate 21 0⟩
structure OkSt (s : T_config_State) : Prop where
  mem : s.Members.length = 4
  maps : s.Maps.length = 4
  modes : s.Modes.length = 21
  small : ∀ m ∈ s.Maps, m.Cuts.length ≤ 60 ∧ m.Nodes.length ≤ 60
theorem mapD (x : T_api_Map) : (T_api_Map.mk x.Cuts x.Nodes) = x := rfl
theorem csD (s : T_config_State) : (T_config_State.mk s.Pool s.Nodes s.Members s.Maps s.Modes) = s := rfl
theorem rsD (s : T_ref18_State) : (T_ref18_State.mk s.Pool s.Nodes s.Members s.Maps s.Modes) = s := rfl
theorem cmdD (c : T_api_Cmd) : (T_api_Cmd.mk c.Kind c.DC c.Shard c.Node c.Mode c.Key) = c := rfl

theorem set_same {α : Type} {l : List α} {i : Nat} (h : i < l.length) : l.set i l[i] = l := by
  apply List.ext_getElem?
  intro k
  rw [List.getElem?_set]
  split
  · rename_i h'; subst h'; simp [h]
  · rfl
theorem copyS_L1 (N : Nat) (s : T_config_State) (ho : OkSt s) : ∀ (fuel i : Nat), 4 - i < fuel → i ≤ 4 → M.config_Copy_L1 N fuel s s.Maps (i : Int) = some s := by
  intro fuel
  induction fuel with
  | zero => intro i h; omega
  | succ fuel ih =>
    intro i hf hi
    simp only [M.config_Copy_L1]
    by_cases hlt : i < 4
    · have hl : i < s.Maps.length := by rw [ho.maps]; exact hlt
      obtain ⟨h1, h2⟩ := ho.small _ (List.getElem_mem hl)
      rw [decide_eq_true (by omega : (i : Int) < 4), idx_get hl, wrap_succ (by omega)]
      simp only [cond_true, Option.bind_some, mapD, (copy_eq N (s.Maps[i]) (by omega) (by omega)).1, Int.toNat_natCast, set_same hl]
      exact ih (i + 1) (by omega) (by omega)
    · rw [decide_eq_false (by omega : ¬ (i : Int) < 4)]; rfl
theorem copyS (N : Nat) (hN : 100 ≤ N) (s : T_config_State) (ho : OkSt s) : M.config_Copy N s = some s := copyS_L1 N s ho N 0 (by omega) (by omega)

/-! ### both -/
def setFrom (l : List Int) (p : Nat) : Nat → List Int
  | 0 => l
  | k + 1 => setFrom (l.set p 2) (p + 1) k
theorem setFrom_length : ∀ (k : Nat) (l : List Int) (p : Nat), (setFrom l p k).length = l.length := fun k => by
  induction k with
  | zero => intro l p; rfl
  | succ k ih => intro l p; simp [setFrom, ih]
theorem setFrom_get : ∀ (k : Nat) (l : List Int) (p i : Nat), (setFrom l p k)[i]? = if p ≤ i ∧ i < p + k ∧ i < l.length then some 2 else l[i]? := fun k => by
  induction k with
  | zero => intro l p i; simp [setFrom]; intro h; omega
  | succ k ih =>
    intro l p i
    simp only [setFrom, ih, List.length_set]
    by_cases h : p + 1 ≤ i ∧ i < p + 1 + k ∧ i < l.length
    · rw [if_pos h, if_pos (by omega)]
    · rw [if_neg h, List.getElem?_set]
      by_cases h' : p = i
      · subst h'
        rw [if_pos rfl]
        by_cases hl : p < l.length
        · rw [if_pos hl, if_pos (by omega)]
        · rw [if_neg hl, if_neg (by omega), List.getElem?_eq_none (by omega)]
      · rw [if_neg h', if_neg (by omega)]
theorem place_eq (N dc j : Nat) (hdc : dc < 4) (hj : j ≤ 5) : M.api_Place N (dc : Int) ((j : Int) - 1) = some ((5 * dc + j + 1 : Nat) : Int) := by
  unfold M.api_Place
  rw [wrap_small (x := 5 * (dc : Int)) (by omega) (by omega), wrap_small (x := 1 + 5 * (dc : Int)) (by omega) (by omega), wrap_small (x := 1 + 5 * (dc : Int) + ((j : Int) - 1)) (by omega) (by omega), wrap_small (by omega) (by omega)]
  congr 1; omega
theorem gate_eq (N dc : Nat) (hdc : dc < 4) : M.ref18_Gate N (dc : Int) = some ((5 * dc + 1 : Nat) : Int) := by
  unfold M.ref18_Gate
  rw [wrap_small (x := 5 * (dc : Int)) (by omega) (by omega), wrap_small (by omega) (by omega)]
  congr 1; omega
theorem both_L1 (N : Nat) (s : T_config_State) (dc : Nat) (hdc : dc < 4) : ∀ (fuel k j : Nat) (l : List Int), k < fuel → j + k = 5 → l.length = 21 → M.config_State_both_L1 N fuel s (dc : Int) l ((j : Int) - 1) = some ⟨s.Pool, s.Nodes, s.Members, s.Maps, setFrom l (5 * dc + j + 1) k⟩ := by
  intro fuel
  induction fuel with
  | zero => intro k j l h; omega
  | succ fuel ih =>
    intro k j l hf hj hl
    simp only [M.config_State_both_L1]
    cases k with
    | zero =>
      rw [decide_eq_false (by omega : ¬ ((j : Int) - 1 < 4))]
      rfl
    | succ k =>
      rw [decide_eq_true (by omega : (j : Int) - 1 < 4), place_eq N dc j hdc (by omega)]
      simp only [cond_true, Option.bind_some, idx_get (show 5 * dc + j + 1 < l.length by omega), Int.toNat_natCast]
      rw [show IntKind.i64.wrap ((j : Int) - 1 + 1) = ((j + 1 : Nat) : Int) - 1 from by rw [wrap_small (by omega) (by omega)]; omega]
      exact ih k (j + 1) _ (by omega) (by omega) (by simpa using hl)
def bothM (s : T_config_State) (dc : Nat) : T_config_State := ⟨s.Pool, s.Nodes, s.Members, s.Maps, setFrom s.Modes (5 * dc + 1) 5⟩
theorem both_eq (N : Nat) (hN : 100 ≤ N) (s : T_config_State) (dc : Nat) (hdc : dc < 4) (hl : s.Modes.length = 21) : M.config_State_both N s (dc : Int) = some (bothM s dc) :=
  both_L1 N s dc hdc N 5 0 s.Modes (by omega) (by omega) hl
theorem rboth_L1 (N : Nat) (s : T_ref18_State) (dc : Nat) (hdc : dc < 4) : ∀ (fuel k p : Nat) (l : List Int), k < fuel → p + k = 5 * dc + 6 → l.length = 21 → M.ref18_both_L1 N fuel s (dc : Int) l (p : Int) = some ⟨s.Pool, s.Nodes, s.Members, s.Maps, setFrom l p k⟩ := by
  intro fuel
  induction fuel with
  | zero => intro k j l h; omega
  | succ fuel ih =>
    intro k p l hf hj hl
    simp only [M.ref18_both_L1, gate_eq N dc hdc, Option.bind_some]
    rw [show IntKind.i64.wrap (((5 * dc + 1 : Nat) : Int) + 5) = ((5 * dc + 6 : Nat) : Int) from by rw [wrap_small (by omega) (by omega)]; omega]
    cases k with
    | zero =>
      rw [decide_eq_false (by omega : ¬ ((p : Int) < ((5 * dc + 6 : Nat) : Int)))]
      rfl
    | succ k =>
      rw [decide_eq_true (by omega : (p : Int) < ((5 * dc + 6 : Nat) : Int))]
      simp only [cond_true, Option.bind_some, idx_get (show p < l.length by omega), Int.toNat_natCast]
      rw [wrap_succ (by omega)]
      exact ih k (p + 1) _ (by omega) (by omega) (by simpa using hl)
theorem rboth_eq (N : Nat) (hN : 100 ≤ N) (s : T_config_State) (dc : Nat) (hdc : dc < 4) (hl : s.Modes.length = 21) : M.ref18_both N (told s) (dc : Int) = some (told (bothM s dc)) := by
  unfold M.ref18_both
  rw [gate_eq N dc hdc]
  exact rboth_L1 N (told s) dc hdc N 5 (5 * dc + 1) s.Modes (by omega) (by omega) hl

/-! ### any, count -/
def has (l : List Int) (m : Int) : Bool := l.any (· == m)
theorem any_L1 (N : Nat) (s : T_config_State) (m : Int) (hl : s.Modes.length = 21) : ∀ (fuel i : Nat), 21 - i < fuel → i ≤ 21 → M.config_State_any_L1 N fuel s m (i : Int) = some (has (s.Modes.drop i) m) ∧ M.ref18_some_L1 N fuel (told s) m (i : Int) = some (has (s.Modes.drop i) m) := by
  intro fuel
  induction fuel with
  | zero => intro i h; omega
  | succ fuel ih =>
    intro i hf hi
    simp only [M.config_State_any_L1, M.ref18_some_L1]
    by_cases hlt : i < 21
    · have hil : i < s.Modes.length := by omega
      rw [decide_eq_true (by omega : (i : Int) < 21), decide_eq_true (by omega : (i : Int) ≤ 20)]
      show (bif true then (Option.bind (idx s.Modes (i : Int)) _) else _) = _ ∧ (bif true then (Option.bind (idx s.Modes (i : Int)) _) else _) = _
      rw [idx_get hil, wrap_succ (by omega), drop_cons hil]
      simp only [cond_true, Option.bind_some, has, List.any_cons]
      cases s.Modes[i] == m with
      | true => exact ⟨rfl, rfl⟩
      | false =>
        simp only [cond_false, Bool.false_or]
        exact ih (i + 1) (by omega) (by omega)
    · rw [decide_eq_false (by omega : ¬ (i : Int) < 21), decide_eq_false (by omega : ¬ (i : Int) ≤ 20), List.drop_eq_nil_of_le (by omega)]
      exact ⟨rfl, rfl⟩
theorem any_eq (N : Nat) (hN : 100 ≤ N) (s : T_config_State) (m : Int) (hl : s.Modes.length = 21) : M.config_State_any N s m = some (has s.Modes m) ∧ M.ref18_some N (told s) m = some (has s.Modes m) := any_L1 N s m hl N 0 (by omega) (by omega)
def cnt (l : List Bool) : Nat := l.countP id
theorem count_L1 (N : Nat) (s : T_config_State) (hl : s.Members.length = 4) : ∀ (fuel i n : Nat), 4 - i < fuel → i ≤ 4 → n ≤ i → M.config_Count_L1 N fuel s (n : Int) (i : Int) = some ((n + cnt (s.Members.drop i) : Nat) : Int) ∧ M.ref18_Count_L1 N fuel (told s) (n : Int) (i : Int) = some ((n + cnt (s.Members.drop i) : Nat) : Int) := by
  intro fuel
  induction fuel with
  | zero => intro i n h; omega
  | succ fuel ih =>
    intro i n hf hi hn
    simp only [M.config_Count_L1, M.ref18_Count_L1, M.config_Count_k2, M.ref18_Count_k2]
    by_cases hlt : i < 4
    · have hil : i < s.Members.length := by omega
      rw [decide_eq_true (by omega : (i : Int) < 4)]
      show (bif true then (Option.bind (idx s.Members (i : Int)) _) else _) = _ ∧ (bif true then (Option.bind (idx s.Members (i : Int)) _) else _) = _
      rw [idx_get hil, wrap_succ (i := i) (by omega), wrap_succ (i := n) (by omega), drop_cons hil]
      simp only [cond_true, Option.bind_some, cnt, List.countP_cons, id]
      cases s.Members[i] with
      | true =>
        simp only [cond_true, if_true]
        have := ih (i + 1) (n + 1) (by omega) (by omega) (by omega)
        rw [show n + (List.countP id (s.Members.drop (i + 1)) + 1) = n + 1 + cnt (s.Members.drop (i + 1)) from by unfold cnt; omega]
        exact this
      | false =>
        simp only [cond_false]
        exact ih (i + 1) n (by omega) (by omega) (by omega)
    · rw [decide_eq_false (by omega : ¬ (i : Int) < 4), List.drop_eq_nil_of_le (by omega)]
      exact ⟨rfl, rfl⟩
theorem count_eq (N : Nat) (hN : 100 ≤ N) (s : T_config_State) (hl : s.Members.length = 4) : M.config_Count N s = some ((cnt s.Members : Nat) : Int) ∧ M.ref18_Count N (told s) = some ((cnt s.Members : Nat) : Int) := by
  have := count_L1 N s hl N 0 0 (by omega) (by omega) (by omega)
  simpa [M.config_Count, M.ref18_Count] using this

/-! ### speak -/
def speakE (s : T_config_State) (c : T_api_Cmd) (dc : Nat) : Int :=
  if c.Node < 0 ∨ c.Node > s.Nodes ∨ c.Node > 4 ∨ c.Mode < 1 ∨ c.Mode > 3 then 1
  else if s.Modes.getD (5 * dc + 1 + c.Node.toNat) 0 = c.Mode then 8
  else if (s.Modes.getD (5 * dc + 1 + c.Node.toNat) 0 = 1 ∧ c.Mode = 3) ∨ (s.Modes.getD (5 * dc + 1 + c.Node.toNat) 0 = 3 ∧ c.Mode = 1) then 15
  else if (c.Mode = 3 ∧ has s.Modes 1 = true) ∨ (c.Mode = 1 ∧ has s.Modes 3 = true) then 15 else 0
def speakM (s : T_config_State) (c : T_api_Cmd) (dc : Nat) : T_config_State := ⟨s.Pool, s.Nodes, s.Members, s.Maps, s.Modes.set (5 * dc + 1 + c.Node.toNat) c.Mode⟩
theorem bad5 (a b c d e : Bool) (p : Prop) [Decidable p] (h : (a || (b || (c || (d || e)))) = decide p) : (bif a then (some true) else (bif b then (some true) else (bif c then (some true) else (bif d then (some true) else (some e))))) = some (decide p) := by
  rw [← h]; cases a <;> cases b <;> cases c <;> cases d <;> rfl
theorem or5 (a b c d e : Prop) [Decidable a] [Decidable b] [Decidable c] [Decidable d] [Decidable e] : (decide a || (decide b || (decide c || (decide d || decide e)))) = decide (a ∨ b ∨ c ∨ d ∨ e) := by
  simp [Bool.decide_or]
theorem speak_eq (N : Nat) (hN : 100 ≤ N) (s : T_config_State) (c : T_api_Cmd) (dc : Nat) (hdc : dc < 4) (hc : c.DC = dc) (hl : s.Modes.length = 21) :
    M.config_State_speak N s c = some (speakE s c dc, if speakE s c dc = 0 then speakM s c dc else s) ∧ M.ref18_speak N (told s) c = some (if speakE s c dc = 0 then told (speakM s c dc) else told zst, speakE s c dc) := by
  unfold M.config_State_speak M.config_State_speak_k1 M.config_State_speak_k2 M.ref18_speak
  rw [show (T_config_State.mk s.Pool s.Nodes s.Members s.Maps s.Modes) = s from rfl, show (T_ref18_State.mk (told s).Pool (told s).Nodes (told s).Members (told s).Maps (told s).Modes) = told s from rfl]
  simp only [(any_eq N hN s _ hl).1, (any_eq N hN s _ hl).2, Option.bind_some]
  rw [hc]
  by_cases hbad : c.Node < 0 ∨ c.Node > s.Nodes ∨ c.Node > 4 ∨ c.Mode < 1 ∨ c.Mode > 3
  · have he : speakE s c dc = 1 := if_pos hbad
    have hv : (bif decide (c.Node < 0) then (some true) else (bif decide (c.Node > s.Nodes) then (some true) else (bif decide (c.Node > 4) then (some true) else (bif decide (c.Mode < 1) then (some true) else (some (decide (c.Mode > 3))))))) = some true := by
      rw [bad5 _ _ _ _ _ _ (or5 ..), decide_eq_true hbad]
    rw [show (told s).Nodes = s.Nodes from rfl, hv, he]
    exact ⟨rfl, rfl⟩
  · have hv : (bif decide (c.Node < 0) then (some true) else (bif decide (c.Node > s.Nodes) then (some true) else (bif decide (c.Node > 4) then (some true) else (bif decide (c.Mode < 1) then (some true) else (some (decide (c.Mode > 3))))))) = some false := by
      rw [bad5 _ _ _ _ _ _ (or5 ..), decide_eq_false hbad]
    rw [show (told s).Nodes = s.Nodes from rfl, hv]
    simp only [not_or, Int.not_lt] at hbad
    obtain ⟨n0, n1, n2, n3, n4⟩ := hbad
    obtain ⟨n, hn⟩ : ∃ n : Nat, c.Node = n := ⟨c.Node.toNat, by omega⟩
    have hn4 : n ≤ 4 := by omega
    have hp : M.api_Place N (dc : Int) (IntKind.i64.wrap (c.Node - 1)) = some ((5 * dc + 1 + n : Nat) : Int) := by
      rw [hn, wrap_small (by omega) (by omega), place_eq N dc n hdc (by omega)]
      congr 2; omega
    have hg : IntKind.i64.wrap (((5 * dc + 1 : Nat) : Int) + c.Node) = ((5 * dc + 1 + n : Nat) : Int) := by rw [hn, wrap_small (by omega) (by omega)]; omega
    rw [hp, gate_eq N dc hdc]
    simp only [Option.bind_some, cond_false, hg]
    have hlt : 5 * dc + 1 + n < s.Modes.length := by omega
    rw [show (told s).Modes = s.Modes from rfl, idx_getD 0 hlt]
    simp only [Option.bind_some, Int.toNat_natCast]
    unfold speakE speakM
    rw [if_neg (by omega), hn, Int.toNat_natCast]
    generalize s.Modes.getD (5 * dc + 1 + n) 0 = m
    generalize has s.Modes 1 = h1
    generalize has s.Modes 3 = h3
    have hm : c.Mode = 1 ∨ c.Mode = 2 ∨ c.Mode = 3 := by omega
    by_cases e1 : m = c.Mode
    · subst e1; simp [told, zst]
    · have hb : (m == c.Mode) = false := beq_eq_false_iff_ne.2 e1
      rw [hb, if_neg e1]
      rcases hm with hm | hm | hm <;> rw [hm] at e1 ⊢
      · by_cases e3 : m = 3
        · subst e3; simp [told, zst]
        · have hb3 : (m == 3) = false := beq_eq_false_iff_ne.2 e3
          have hb1 : (m == 1) = false := beq_eq_false_iff_ne.2 e1
          cases h3 <;> simp [hb3, hb1, e3, told, zst]
      · cases hb1 : (m == 1) <;> cases hb3 : (m == 3) <;> simp [told, zst]
      · by_cases e3 : m = 1
        · subst e3; simp [told, zst]
        · have hb3 : (m == 3) = false := beq_eq_false_iff_ne.2 e1
          have hb1 : (m == 1) = false := beq_eq_false_iff_ne.2 e3
          cases h1 <;> simp [hb3, hb1, e3, told, zst]

/-! ### commands -/
def mapOf (s : T_config_State) (dc : Nat) : T_api_Map := s.Maps.getD dc empt
def withMap (s : T_config_State) (dc : Nat) (m : T_api_Map) : T_config_State := ⟨s.Pool, s.Nodes, s.Members, s.Maps.set dc m, s.Modes⟩
/-- of a member: what a command comes to, an error (0: none) -/
def inner (s : T_config_State) (c : T_api_Cmd) (dc : Nat) : T_config_State × Int :=
  if c.Kind = 2 then (if cnt s.Members = 1 then (zst, 13) else (bothM ⟨s.Pool, s.Nodes, s.Members.set dc false, s.Maps.set dc empt, s.Modes⟩ dc, 0))
  else if c.Kind = 3 then (withMap s dc (splitR (mapOf s dc) s.Nodes c.Shard c.Key).1, (splitR (mapOf s dc) s.Nodes c.Shard c.Key).2)
  else if c.Kind = 4 then (withMap s dc (mergeR (mapOf s dc) s.Nodes c.Shard).1, (mergeR (mapOf s dc) s.Nodes c.Shard).2)
  else if c.Kind = 5 then (withMap s dc (moveR (mapOf s dc) s.Nodes c.Shard c.Node).1, (moveR (mapOf s dc) s.Nodes c.Shard c.Node).2)
  else (speakM s c dc, speakE s c dc)
def applyP (s : T_config_State) (c : T_api_Cmd) : T_config_State × Int :=
  if c.Kind < 1 ∨ c.Kind > 6 then (zst, 5)
  else if c.DC < 0 ∨ c.DC ≥ 4 ∨ c.DC ≥ s.Pool then (zst, 12)
  else if c.Kind = 1 then (if s.Members.getD c.DC.toNat false then (zst, 8) else (bothM ⟨s.Pool, s.Nodes, s.Members.set c.DC.toNat true, s.Maps.set c.DC.toNat ⟨[], [0]⟩, s.Modes⟩ c.DC.toNat, 0))
  else if s.Members.getD c.DC.toNat false then inner s c c.DC.toNat else (zst, 12)
def applyR (s : T_config_State) (c : T_api_Cmd) : T_config_State × Int := if (applyP s c).2 = 0 then ((applyP s c).1, 0) else (zst, (applyP s c).2)
theorem or3 (a b c : Prop) [Decidable a] [Decidable b] [Decidable c] : (bif decide a then (some true) else (bif decide b then (some true) else (some (decide c)))) = some (decide (a ∨ b ∨ c)) := by
  by_cases ha : a <;> by_cases hb : b <;> simp [ha, hb]
theorem or2 (a b : Prop) [Decidable a] [Decidable b] : (bif decide a then (some true) else (some (decide b))) = some (decide (a ∨ b)) := by
  by_cases ha : a <;> simp [ha]
theorem set_set_same {α : Type} (l : List α) (i : Nat) (a : α) : l.set i (l.getD i a) = l := by
  rcases Nat.lt_or_ge i l.length with h | h
  · have : l.getD i a = l[i] := by simp [h]
    rw [this, set_same h]
  · rw [List.set_eq_of_length_le h]
/-- the end of a member's command, of both programs -/
theorem apply_fin {s' : T_config_State} {e : Int} {m : T_api_Map} (N : Nat) (c : T_api_Cmd) (dc : Nat) (hc : c.DC = dc) (hdc : dc < s'.Maps.length) :
    M.config_Apply_k1 N c s'.Pool s'.Nodes s'.Members s'.Maps s'.Modes m.Cuts m.Nodes e = some (if e = 0 then withMap s' dc m else zst, e) ∧ M.ref18_Apply_k1 N (told s') c m.Cuts m.Nodes e = some (told (if e = 0 then withMap s' dc m else zst), e) := by
  unfold M.config_Apply_k1 M.ref18_Apply_k1
  by_cases h : e = 0
  · subst h
    simp only [bne_self_eq_false, cond_false, hc, if_true]
    rw [show (told s').Maps = s'.Maps from rfl, idx_get hdc]
    exact ⟨rfl, rfl⟩
  · have hb : (e != 0) = true := bne_iff_ne.2 h
    rw [hb, if_neg h]
    exact ⟨rfl, rfl⟩
theorem apply_eq (N : Nat) (hN : 100 ≤ N) (s : T_config_State) (c : T_api_Cmd) (ho : OkSt s) : M.config_Apply N s c = some (applyR s c) ∧ M.ref18_Apply N (told s) c = some (told (applyR s c).1, (applyR s c).2) := by
  unfold M.config_Apply M.ref18_Apply
  rw [show (T_config_State.mk s.Pool s.Nodes s.Members s.Maps s.Modes) = s from rfl, show (T_ref18_State.mk (told s).Pool (told s).Nodes (told s).Members (told s).Maps (told s).Modes) = told s from rfl, copyS N hN s ho, cmdD c]
  simp only [Option.bind_some]
  rw [or2, or3, show decide (c.DC > 3) = decide (c.DC ≥ 4) from decide_eq_decide.2 (by omega), show (told s).Pool = s.Pool from rfl, or3]
  simp only [Option.bind_some]
  unfold applyR applyP
  by_cases hk : c.Kind < 1 ∨ c.Kind > 6
  · rw [decide_eq_true hk, if_pos hk]; exact ⟨rfl, rfl⟩
  · rw [decide_eq_false hk, if_neg hk]
    simp only [cond_false]
    by_cases hd : c.DC < 0 ∨ c.DC ≥ 4 ∨ c.DC ≥ s.Pool
    · rw [decide_eq_true hd, if_pos hd]; exact ⟨rfl, rfl⟩
    · rw [decide_eq_false hd, if_neg hd]
      simp only [cond_false]
      obtain ⟨dc, hdc⟩ : ∃ dc : Nat, c.DC = dc := ⟨c.DC.toNat, by omega⟩
      have hdc4 : dc < 4 := by omega
      have hmem : dc < s.Members.length := by rw [ho.mem]; exact hdc4
      have hmaps : dc < s.Maps.length := by rw [ho.maps]; exact hdc4
      rw [show (told s).Members = s.Members from rfl, show (told s).Maps = s.Maps from rfl, show (told s).Nodes = s.Nodes from rfl, show (told s).Modes = s.Modes from rfl, hdc, Int.toNat_natCast, idx_getD false hmem, idx_getD empt hmaps]
      simp only [Option.bind_some]
      by_cases k1 : c.Kind = 1
      · rw [if_pos k1, show (c.Kind == 1) = true from beq_iff_eq.2 k1]
        simp only [cond_true]
        cases hm : s.Members.getD dc false with
        | true => exact ⟨rfl, rfl⟩
        | false =>
          simp only [cond_false, M.span_Whole, Option.bind_some, if_false, Bool.false_eq_true]
          rw [both_eq N hN ⟨s.Pool, s.Nodes, s.Members.set dc true, s.Maps.set dc ⟨[], [0]⟩, s.Modes⟩ dc hdc4 ho.modes]
          have := rboth_eq N hN ⟨s.Pool, s.Nodes, s.Members.set dc true, s.Maps.set dc ⟨[], [0]⟩, s.Modes⟩ dc hdc4 ho.modes
          unfold told at this
          simp only at this
          rw [this]
          exact ⟨rfl, rfl⟩
      · rw [if_neg k1, show (c.Kind == 1) = false from beq_eq_false_iff_ne.2 k1]
        simp only [cond_false]
        cases hm : s.Members.getD dc false with
        | false => exact ⟨rfl, rfl⟩
        | true =>
          simp only [Bool.not_true, cond_false, if_true]
          have hx : (mapOf s dc).Cuts.length ≤ maxLen := by
            have h60 := (ho.small _ (getD_mem (d := empt) hmaps)).1
            have hml : (60 : Nat) ≤ maxLen := by decide
            exact Nat.le_trans h60 hml
          rw [show s.Maps.getD dc empt = mapOf s dc from rfl, mapD (mapOf s dc)]
          have hcnt := count_eq N hN s ho.mem
          rw [csD s, hcnt.1, hcnt.2]
          simp only [Option.bind_some]
          have hsp := split_eq N hN (mapOf s dc) s.Nodes c.Shard c.Key hx
          have hme := merge_eq N hN (mapOf s dc) s.Nodes c.Shard hx
          have hmo := move_eq N hN (mapOf s dc) s.Nodes c.Shard c.Node hx
          have hsk := speak_eq N hN s c dc hdc4 hdc ho.modes
          rw [hsp.1, hsp.2, hme.1, hme.2, hmo.1, hmo.2, hsk.1, hsk.2]
          simp only [Option.bind_some]
          unfold inner
          by_cases k2 : c.Kind = 2
          · rw [if_pos k2, show (c.Kind == 2) = true from beq_iff_eq.2 k2]
            simp only [cond_true]
            by_cases hc1 : cnt s.Members = 1
            · rw [if_pos hc1, hc1]
              exact ⟨rfl, rfl⟩
            · have hb : (((cnt s.Members : Nat) : Int) == 1) = false := beq_eq_false_iff_ne.2 (by omega)
              rw [if_neg hc1, hb]
              simp only [cond_false]
              rw [both_eq N hN ⟨s.Pool, s.Nodes, s.Members.set dc false, s.Maps, s.Modes⟩ dc hdc4 ho.modes]
              have := rboth_eq N hN ⟨s.Pool, s.Nodes, s.Members.set dc false, s.Maps.set dc empt, s.Modes⟩ dc hdc4 ho.modes
              unfold told at this
              simp only at this
              rw [show (T_api_Map.mk ([] : List ByteArray) ([] : List Int)) = empt from rfl, this]
              simp only [Option.bind_some]
              exact ⟨(apply_fin (s' := bothM ⟨s.Pool, s.Nodes, s.Members.set dc false, s.Maps, s.Modes⟩ dc) (e := 0) (m := empt) N c dc hdc hmaps).1, rfl⟩
          · rw [if_neg k2, show (c.Kind == 2) = false from beq_eq_false_iff_ne.2 k2]
            simp only [cond_false]
            have fin : ∀ (m : T_api_Map) (e : Int), M.config_Apply_k1 N c s.Pool s.Nodes s.Members s.Maps s.Modes m.Cuts m.Nodes e = some (if e = 0 then (withMap s dc m, 0) else (zst, e)) ∧ M.ref18_Apply_k1 N (told s) c m.Cuts m.Nodes e = some (told (if e = 0 then (withMap s dc m, (0 : Int)) else (zst, e)).1, (if e = 0 then (withMap s dc m, (0 : Int)) else (zst, e)).2) := fun m e => by
              have := apply_fin (s' := s) (e := e) (m := m) N c dc hdc hmaps
              rw [this.1, this.2]
              by_cases he : e = 0
              · subst he; exact ⟨rfl, rfl⟩
              · simp [he]
            by_cases k3 : c.Kind = 3
            · have k6 : (c.Kind == 6) = false := beq_eq_false_iff_ne.2 (by omega)
              rw [if_pos k3, show (c.Kind == 3) = true from beq_iff_eq.2 k3, k6]
              simp only [cond_true, cond_false]
              exact fin _ _
            · rw [if_neg k3, show (c.Kind == 3) = false from beq_eq_false_iff_ne.2 k3]
              by_cases k4 : c.Kind = 4
              · have k6 : (c.Kind == 6) = false := beq_eq_false_iff_ne.2 (by omega)
                rw [if_pos k4, show (c.Kind == 4) = true from beq_iff_eq.2 k4, k6]
                simp only [cond_true, cond_false]
                exact fin _ _
              · rw [if_neg k4, show (c.Kind == 4) = false from beq_eq_false_iff_ne.2 k4]
                by_cases k5 : c.Kind = 5
                · have k6 : (c.Kind == 6) = false := beq_eq_false_iff_ne.2 (by omega)
                  rw [if_pos k5, show (c.Kind == 5) = true from beq_iff_eq.2 k5, k6]
                  simp only [cond_true, cond_false]
                  exact fin _ _
                · have k6 : (c.Kind == 6) = true := beq_iff_eq.2 (by omega)
                  rw [if_neg k5, show (c.Kind == 5) = false from beq_eq_false_iff_ne.2 k5, k6]
                  simp only [cond_true, cond_false]
                  by_cases he : speakE s c dc = 0
                  · simp only [he, if_true]
                    refine ⟨?_, trivial⟩
                    rw [(apply_fin (s' := speakM s c dc) (e := 0) (m := mapOf s dc) N c dc hdc hmaps).1, if_pos rfl]
                    show some ((⟨_, _, _, s.Maps.set dc (s.Maps.getD dc empt), _⟩ : T_config_State), (0 : Int)) = _
                    rw [set_set_same]; rfl
                  · simp only [if_neg he]
                    refine ⟨?_, trivial⟩
                    rw [(apply_fin (s' := s) (e := speakE s c dc) (m := mapOf s dc) N c dc hdc hmaps).1, if_neg he]
end Go.Cf
