/- Plain facts on maps: what is wrong with one; right maps; a key's shard. -/
import Derived.Test.YtjohablgnnbelaaPl2
import Derived.Test.YtjohablgnnbelaaM4
namespace Go.Cf
open Go
def chkNodes (nodes : Int) : List Int → Int
  | [] => 0
  | n :: l => if n < 0 ∨ n ≥ nodes then 7 else chkNodes nodes l
def chkCuts (prev : ByteArray) : List ByteArray → Int → Int
  | [], k => k
  | c :: l, k => if 16 < c.size then 6 else if sLt prev c then chkCuts c l k else 3
def chk (x : T_api_Map) (nodes : Int) : Int := if nodes < 1 ∨ nodes > 4 then 1 else if 8 < x.Nodes.length then 9 else if form x then chkCuts nil x.Cuts (chkNodes nodes x.Nodes) else 3
theorem chk_L2 (N : Nat) (x : T_api_Map) (nodes : Int) : ∀ (fuel i : Nat), x.Nodes.length - i < fuel → x.Nodes.length ≤ 8 → i ≤ x.Nodes.length → M.span_Check_L2 N fuel x nodes (i : Int) = some (chkNodes nodes (x.Nodes.drop i)) ∧ M.ref08_Check_L2 N fuel x nodes (i : Int) = some (chkNodes nodes (x.Nodes.drop i)) := by
  intro fuel
  induction fuel with
  | zero => intro i h; omega
  | succ fuel ih =>
    intro i hf h8 hi
    simp only [M.span_Check_L2, M.ref08_Check_L2]
    by_cases hlt : i < x.Nodes.length
    · have hd : decide ((i : Int) < (x.Nodes.length : Int)) = true := decide_eq_true (by omega)
      simp only [hd, cond_true, idx_get hlt, Option.bind_some, drop_cons hlt, chkNodes]
      rw [wrap_succ (by omega)]
      by_cases h0 : x.Nodes[i] < 0
      · simp [h0]
      · by_cases h1 : x.Nodes[i] ≥ nodes
        · simp [h0, h1]
        · simp only [h0, h1, decide_false, cond_false, Option.bind_some, false_or, if_false]
          exact ih (i + 1) (by omega) h8 (by omega)
    · have hd : decide ((i : Int) < (x.Nodes.length : Int)) = false := decide_eq_false (by omega)
      rw [hd, List.drop_eq_nil_of_le (by omega)]
      exact ⟨rfl, rfl⟩
theorem sEq_nil {a : ByteArray} (h : sEq a nil = true) : a.toList = [] := by
  have := sEq_iff.1 h; rwa [nil_toList] at this
theorem sLt_nil_left (a : ByteArray) : sLt nil a = !sEq a nil := by
  unfold sLt sEq
  rw [nil_toList]
  cases a.toList <;> simp [Op.bytesLess]
theorem chk_L1 (N : Nat) (hN : 100 ≤ N) (x : T_api_Map) (nodes : Int) : ∀ (fuel i : Nat), x.Cuts.length - i < fuel → x.Cuts.length ≤ 8 → x.Nodes.length ≤ 8 → i ≤ x.Cuts.length → M.span_Check_L1 N fuel x nodes (i : Int) = some (chkCuts (lo x i) (x.Cuts.drop i) (chkNodes nodes x.Nodes)) ∧ M.ref08_Check_L1 N fuel x nodes (lo x i) (i : Int) = some (chkCuts (lo x i) (x.Cuts.drop i) (chkNodes nodes x.Nodes)) := by
  intro fuel
  induction fuel with
  | zero => intro i h; omega
  | succ fuel ih =>
    intro i hf h8 hn8 hi
    simp only [M.span_Check_L1, M.ref08_Check_L1]
    by_cases hlt : i < x.Cuts.length
    · have hd : decide ((i : Int) < (x.Cuts.length : Int)) = true := decide_eq_true (by omega)
      simp only [hd, cond_true, idx_get hlt, Option.bind_some, drop_cons hlt, chkCuts]
      rw [wrap_succ (by omega)]
      have hlo : lo x (i + 1) = x.Cuts[i] := by simp [lo, hlt]
      by_cases hsz : 16 < (x.Cuts[i]).size
      · have : decide (((x.Cuts[i]).size : Int) > 16) = true := decide_eq_true (by omega)
        simp [this, hsz]
      · have hszd : decide (((x.Cuts[i]).size : Int) > 16) = false := decide_eq_false (by omega)
        simp only [hszd, cond_false, if_neg hsz]
        have hc1 : (bif sEq x.Cuts[i] (ByteArray.mk #[]) then some true else bif decide ((i : Int) > 0) then (idx x.Cuts (IntKind.i64.wrap ((i : Int) - 1))).bind fun x86 => some (!sLt x86 x.Cuts[i]) else some false) = some (!sLt (lo x i) x.Cuts[i]) := by
          cases i with
          | zero =>
            have h3 : decide (((0 : Nat) : Int) > 0) = false := rfl
            rw [h3]
            show _ = some (!sLt nil _)
            rw [sLt_nil_left, Bool.not_not]
            cases sEq x.Cuts[0] (ByteArray.mk #[]) <;> rfl
          | succ j =>
            have h3 : decide (((j + 1 : Nat) : Int) > 0) = true := decide_eq_true (by omega)
            have hj : j < x.Cuts.length := by omega
            rw [h3, wrap_pred (by omega), idx_get hj]
            have hgj : lo x (j + 1) = x.Cuts[j] := by simp [lo, hj]
            rw [hgj]
            simp only [cond_true, Option.bind_some]
            cases he : sEq x.Cuts[j + 1] (ByteArray.mk #[]) with
            | false => rfl
            | true =>
              have h1 : sLt x.Cuts[j] x.Cuts[j + 1] = sLt x.Cuts[j] nil := (sLt_congr' he)
              rw [h1, sLt_nil]; rfl
        have hc2 : (sLt x.Cuts[i] (lo x i) || sEq x.Cuts[i] (lo x i)) = !sLt (lo x i) x.Cuts[i] := sLe_iff _ _
        rw [hc1, hc2]
        simp only [Option.bind_some]
        have := ih (i + 1) (by omega) h8 hn8 (by omega)
        rw [hlo] at this
        cases hl : sLt (lo x i) x.Cuts[i] with
        | true => simp only [Bool.not_true, cond_false, if_true]; exact this
        | false => simp
    · have hd : decide ((i : Int) < (x.Cuts.length : Int)) = false := decide_eq_false (by omega)
      rw [hd, List.drop_eq_nil_of_le (by omega)]
      simp only [cond_false, chkCuts]
      have := chk_L2 N x nodes N 0 (by omega) hn8 (by omega)
      simpa using this
theorem chk_eq (N : Nat) (hN : 100 ≤ N) (x : T_api_Map) (nodes : Int) (hx : x.Cuts.length ≤ maxLen) : M.span_Check N x nodes = some (chk x nodes) ∧ M.ref08_Check N x nodes = some (chk x nodes) := by
  unfold M.span_Check M.ref08_Check chk
  have hv : (bif decide (nodes < 1) then (some true) else (some (decide (nodes > 4)))) = some (decide (nodes < 1 ∨ nodes > 4)) := by
    by_cases h : nodes < 1 <;> simp [h]
  rw [hv]
  simp only [Option.bind_some]
  by_cases h1 : nodes < 1 ∨ nodes > 4
  · simp [h1]
  · simp only [decide_eq_false h1, cond_false, if_neg h1]
    by_cases h2 : 8 < x.Nodes.length
    · have : decide (((x.Nodes).length : Int) > 8) = true := decide_eq_true (by omega)
      simp [this, h2]
    · have hd : decide (((x.Nodes).length : Int) > 8) = false := decide_eq_false (by omega)
      simp only [hd, cond_false, if_neg h2]
      have hml : maxLen ≤ 9223372036854775807 := by decide
      by_cases h3 : form x
      · have h3' : x.Nodes.length = x.Cuts.length + 1 := h3
        rw [form_dec x (by omega), decide_eq_true h3, if_pos h3]
        have := chk_L1 N hN x nodes N 0 (by omega) (by omega) (by omega) (by omega)
        simpa [lo] using this
      · have hb : (((x.Nodes).length : Int) != IntKind.i64.wrap (((x.Cuts).length : Int) + 1)) = true := by
          have h3' : x.Nodes.length ≠ x.Cuts.length + 1 := h3
          rw [bne_iff_ne, IntKind.wrap_i64]
          omega
        rw [hb, if_neg h3]
        exact ⟨rfl, rfl⟩

/-! ### right maps -/
structure Right (x : T_api_Map) (nodes : Int) : Prop where
  lo1 : 1 ≤ nodes
  hi4 : nodes ≤ 4
  most : x.Nodes.length ≤ 8
  form : x.Nodes.length = x.Cuts.length + 1
  size : ∀ i, i < x.Cuts.length → (x.Cuts.getD i nil).size ≤ 16
  asc : ∀ i, i < x.Cuts.length → sLt (lo x i) (x.Cuts.getD i nil) = true
  node : ∀ n ∈ x.Nodes, 0 ≤ n ∧ n < nodes
theorem chkNodes_iff (nodes : Int) : ∀ l : List Int, chkNodes nodes l = 0 ↔ ∀ n ∈ l, 0 ≤ n ∧ n < nodes := fun l => by
  induction l with
  | nil => simp [chkNodes]
  | cons n l ih =>
    simp only [chkNodes, List.mem_cons, forall_eq_or_imp]
    by_cases h : n < 0 ∨ n ≥ nodes
    · rw [if_pos h]
      constructor
      · intro h'; cases h'
      · intro h'; omega
    · rw [if_neg h, ih]
      constructor
      · intro h'; exact ⟨by omega, h'⟩
      · intro h'; exact h'.2
def ascFrom (prev : ByteArray) (l : List ByteArray) : Prop := ∀ i, i < l.length → (l.getD i nil).size ≤ 16 ∧ sLt ((prev :: l).getD i nil) (l.getD i nil) = true
theorem chkCuts_iff (k : Int) : ∀ (l : List ByteArray) (prev : ByteArray), chkCuts prev l k = 0 ↔ ascFrom prev l ∧ k = 0 := fun l => by
  induction l with
  | nil => intro prev; simp [chkCuts, ascFrom]
  | cons c l ih =>
    intro prev
    simp only [chkCuts]
    by_cases h : 16 < c.size
    · rw [if_pos h]
      constructor
      · intro h'; cases h'
      · rintro ⟨h', _⟩
        have := (h' 0 (by simp)).1
        simp at this; omega
    · rw [if_neg h]
      cases hl : sLt prev c with
      | false =>
        simp only [Bool.false_eq_true, if_false]
        constructor
        · intro h'; cases h'
        · rintro ⟨h', _⟩
          have := (h' 0 (by simp)).2
          simp [hl] at this
      | true =>
        simp only [if_true, ih]
        constructor
        · rintro ⟨h1, h2⟩
          refine ⟨fun i hi => ?_, h2⟩
          cases i with
          | zero => exact ⟨by simp; omega, by simpa using hl⟩
          | succ i =>
            have := h1 i (by simpa using hi)
            simpa using this
        · rintro ⟨h1, h2⟩
          refine ⟨fun i hi => ?_, h2⟩
          have := h1 (i + 1) (by simpa using hi)
          simpa using this
theorem lo_eq (x : T_api_Map) (i : Nat) : lo x i = (nil :: x.Cuts).getD i nil := by cases i <;> simp [lo]
theorem chk_iff (x : T_api_Map) (nodes : Int) : chk x nodes = 0 ↔ Right x nodes := by
  unfold chk
  by_cases h1 : nodes < 1 ∨ nodes > 4
  · rw [if_pos h1]
    constructor
    · intro h; cases h
    · intro h; have := h.lo1; have := h.hi4; omega
  · rw [if_neg h1]
    by_cases h2 : 8 < x.Nodes.length
    · rw [if_pos h2]
      constructor
      · intro h; cases h
      · intro h; have := h.most; omega
    · rw [if_neg h2]
      by_cases h3 : form x
      · rw [if_pos h3, chkCuts_iff, chkNodes_iff]
        constructor
        · rintro ⟨ha, hn⟩
          exact ⟨by omega, by omega, by omega, h3, fun i hi => (ha i hi).1, fun i hi => by rw [lo_eq]; exact (ha i hi).2, hn⟩
        · intro h
          exact ⟨fun i hi => ⟨h.size i hi, by have := h.asc i hi; rwa [lo_eq] at this⟩, h.node⟩
      · rw [if_neg h3]
        constructor
        · intro h; cases h
        · intro h; exact absurd h.form h3

/-! ### a key's shard, of cuts that rise -/
def rising (l : List ByteArray) : Prop := ∀ i, i < l.length → sLt ((nil :: l).getD i nil) (l.getD i nil) = true
theorem Right.rising {x : T_api_Map} {nodes : Int} (h : Right x nodes) : rising x.Cuts := fun i hi => by rw [← lo_eq]; exact h.asc i hi
theorem rising_lt {l : List ByteArray} (h : rising l) : ∀ (j i : Nat), i < j → j < l.length → sLt (l.getD i nil) (l.getD j nil) = true := fun j => by
  induction j with
  | zero => intro i hi; omega
  | succ j ih =>
    intro i hi hj
    have h1 : sLt (l.getD j nil) (l.getD (j + 1) nil) = true := by
      have := h (j + 1) hj
      simpa using this
    by_cases hij : i = j
    · subst hij; exact h1
    · exact sLt_trans (ih i (by omega) (by omega)) h1
theorem countP_down {α : Type} (p : α → Bool) : ∀ (l : List α), (∀ i j (hj : j < l.length) (hi : i < j), p l[j] = true → p (l[i]'(by omega)) = true) → ∀ j (hj : j < l.length), p l[j] = decide (j < l.countP p) := fun l => by
  induction l with
  | nil => intro _ j hj; simp at hj
  | cons c l ih =>
    intro h j hj
    have ih' := ih (fun i j hj hi hp => by
      have := h (i + 1) (j + 1) (by simpa using hj) (by omega) (by simpa using hp)
      simpa using this)
    rw [List.countP_cons]
    cases hc : p c with
    | true =>
      cases j with
      | zero => simp [hc]
      | succ j =>
        have := ih' j (by simpa using hj)
        simp only [List.getElem_cons_succ, this, if_true]
        exact decide_eq_decide.2 (by omega)
    | false =>
      have hz : ∀ j (hj : j < l.length), p l[j] = false := fun j hj => by
        cases hp : p l[j] with
        | false => rfl
        | true =>
          have := h 0 (j + 1) (by simpa using hj) (by omega) (by simpa using hp)
          simp [hc] at this
      have hz0 : l.countP p = 0 := by
        rw [List.countP_eq_zero]
        intro a ha
        obtain ⟨j, hj, rfl⟩ := List.getElem_of_mem ha
        rw [hz j hj]; simp
      rw [hz0]
      cases j with
      | zero => simp [hc]
      | succ j => 
        have := hz j (by simpa using hj)
        simpa using this
theorem le_cut {l : List ByteArray} (h : rising l) (key : ByteArray) (j : Nat) (hj : j < l.length) : sLt key (l.getD j nil) = !decide (j < l.countP (le key)) := by
  have := countP_down (le key) l (fun i j hj hi hp => by
    have hlt := rising_lt h j i hi hj
    rw [List.getD_eq_getElem?_getD, List.getD_eq_getElem?_getD, List.getElem?_eq_getElem (by omega), List.getElem?_eq_getElem hj] at hlt
    simp only [Option.getD_some] at hlt
    unfold le at hp ⊢
    simp only [Bool.not_eq_true', Bool.not_eq_eq_eq_not] at hp ⊢
    cases hk : sLt key l[i] with
    | false => rfl
    | true => rw [sLt_trans hk hlt] at hp; cases hp) j hj
  rw [List.getD_eq_getElem?_getD, List.getElem?_eq_getElem hj, Option.getD_some, ← this]
  unfold le
  simp
theorem cut_ne_nil {l : List ByteArray} (h : rising l) (j : Nat) (hj : j < l.length) : sEq (l.getD j nil) nil = false := by
  cases he : sEq (l.getD j nil) nil with
  | false => rfl
  | true =>
    have := h j hj
    rw [sLt_congr' he, sLt_nil] at this
    cases this
/-- a shard's span has just the keys whose shard it is -/
theorem within_iff {x : T_api_Map} (hr : rising x.Cuts) (hf : x.Nodes.length = x.Cuts.length + 1) (key : ByteArray) (i : Nat) (hi' : i < x.Nodes.length) : wthn key (lo x i) (hi x i) = decide (i = fnd x key) := by
  have hle := fnd_le x key
  have h1 : (!sLt key (lo x i)) = decide (i ≤ fnd x key) := by
    cases i with
    | zero => simp [lo, sLt_nil]
    | succ j =>
      show (!sLt key (x.Cuts.getD j nil)) = _
      rw [le_cut hr key j (by omega), Bool.not_not]
      exact decide_eq_decide.2 (by unfold fnd; omega)
  have h2 : (sEq (hi x i) nil || sLt key (hi x i)) = decide (fnd x key ≤ i) := by
    unfold hi
    by_cases h : i < x.Cuts.length
    · rw [cut_ne_nil hr i h, le_cut hr key i h, Bool.false_or]
      by_cases h' : i < List.countP (le key) x.Cuts
      · rw [decide_eq_true h', decide_eq_false (by unfold fnd; omega)]; rfl
      · rw [decide_eq_false h', decide_eq_true (by unfold fnd; omega)]; rfl
    · rw [List.getD_eq_getElem?_getD, List.getElem?_eq_none (by omega)]
      rw [decide_eq_true (show fnd x key ≤ i by omega)]
      show (sEq nil nil || _) = true
      rw [sEq_refl]; rfl
  unfold wthn
  rw [h1, h2, ← Bool.decide_and]
  exact decide_eq_decide.2 (by omega)
end Go.Cf
