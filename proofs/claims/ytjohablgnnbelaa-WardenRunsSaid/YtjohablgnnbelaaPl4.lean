/- Plain facts on maps: what is split, merged, moved. -/
import Derived.Test.YtjohablgnnbelaaPl3
import Derived.Test.YtjohablgnnbelaaM4
namespace Go.Cf
open Go
theorem apd_ok {α : Type} {l m : List α} (h : l.length + m.length < 2147483648) : apd l m = some (l ++ m) := by simp [apd, h]
theorem slc_ok {α : Type} {l : List α} {lo hi : Nat} (h1 : lo ≤ hi) (h2 : hi ≤ l.length) : slc l (lo : Int) (hi : Int) = some ((l.take hi).drop lo) := by
  unfold slc
  rw [if_pos ⟨by omega, by omega, by omega⟩]
  simp
theorem slc_take {α : Type} {l : List α} {hi : Nat} (h2 : hi ≤ l.length) : slc l 0 (hi : Int) = some (l.take hi) := by
  have := slc_ok (l := l) (lo := 0) (hi := hi) (by omega) h2
  simpa using this
theorem slc_drop {α : Type} {l : List α} {lo : Nat} (h1 : lo ≤ l.length) : slc l (lo : Int) (l.length : Int) = some (l.drop lo) := by
  have := slc_ok (l := l) (lo := lo) (hi := l.length) h1 (Nat.le_refl _)
  simpa using this
def empt : T_api_Map := ⟨[], []⟩
def insAt {α : Type} (l : List α) (i : Nat) (a : α) : List α := l.take i ++ a :: l.drop i
theorem insAt_length {α : Type} {l : List α} {i : Nat} {a : α} (h : i ≤ l.length) : (insAt l i a).length = l.length + 1 := by
  simp [insAt]; omega
theorem insAt_lt {α : Type} {l : List α} {i k : Nat} {a : α} (hi : i ≤ l.length) (h : k < i) : (insAt l i a)[k]? = l[k]? := by
  unfold insAt
  rw [List.getElem?_append_left (by simp; omega), List.getElem?_take, if_pos h]
theorem insAt_eq {α : Type} {l : List α} {i : Nat} {a : α} (hi : i ≤ l.length) : (insAt l i a)[i]? = some a := by
  unfold insAt
  rw [List.getElem?_append_right (by rw [List.length_take, Nat.min_eq_left hi]; exact Nat.le_refl _), List.length_take, Nat.min_eq_left hi]
  simp
theorem insAt_gt {α : Type} {l : List α} {i k : Nat} {a : α} (hi : i ≤ l.length) (h : i ≤ k) : (insAt l i a)[k + 1]? = l[k]? := by
  unfold insAt
  rw [List.getElem?_append_right (by simp; omega), List.length_take, Nat.min_eq_left hi]
  rw [show k + 1 - i = (k - i) + 1 from by omega, List.getElem?_cons_succ, List.getElem?_drop]
  congr 1; omega
theorem take_next {α : Type} {X : List α} {k : Nat} {a : α} (h : X[k]? = some a) : X.take k ++ [a] = X.take (k + 1) := by
  rw [List.take_add_one, h]; rfl
theorem take_none {α : Type} {X : List α} {k : Nat} (h : X[k]? = none) : X.take k = X.take (k + 1) := by
  rw [List.take_add_one, h]; simp
theorem insAt_take {α : Type} {l : List α} {i : Nat} {a : α} (hi : i ≤ l.length) : (insAt l i a).take i = l.take i := by
  unfold insAt; rw [List.take_left' (by rw [List.length_take, Nat.min_eq_left hi])]

/-! ### split -/
def splitE (x : T_api_Map) (nodes i : Int) (key : ByteArray) : Int :=
  if chk x nodes ≠ 0 then chk x nodes else if ¬ (0 ≤ i ∧ i < x.Nodes.length) then 7
  else if 16 < key.size ∨ sLt (lo x i.toNat) key = false ∨ wthn key (lo x i.toNat) (hi x i.toNat) = false then 14 else if x.Nodes.length = 8 then 9 else 0
def splitM (x : T_api_Map) (i : Nat) (key : ByteArray) : T_api_Map := ⟨insAt x.Cuts i key, insAt x.Nodes i (x.Nodes.getD i 0)⟩
def splitR (x : T_api_Map) (nodes i : Int) (key : ByteArray) : T_api_Map × Int := if splitE x nodes i key = 0 then (splitM x i.toNat key, 0) else (empt, splitE x nodes i key)
theorem refSplit_L1 (N : Nat) (x : T_api_Map) (i : Nat) (key : ByteArray) (hf : x.Nodes.length = x.Cuts.length + 1) (h8 : x.Nodes.length ≤ 8) (hi' : i < x.Nodes.length) : ∀ (fuel k : Nat), x.Nodes.length - k < fuel → k ≤ x.Nodes.length →
    M.ref08_Split_L1 N fuel x (i : Int) key (if k ≤ i then (splitM x i key).Cuts.take k else (splitM x i key).Cuts.take (k + 1)) (if k ≤ i then (splitM x i key).Nodes.take k else (splitM x i key).Nodes.take (k + 1)) (k : Int) = some (splitM x i key, 0) := by
  intro fuel
  induction fuel with
  | zero => intro k h; omega
  | succ fuel ih =>
    intro k hk hkl
    simp only [M.ref08_Split_L1, M.ref08_Split_k2, M.ref08_Split_k3]
    have hcl : (splitM x i key).Cuts.length = x.Cuts.length + 1 := insAt_length (by omega)
    have hnl : (splitM x i key).Nodes.length = x.Nodes.length + 1 := insAt_length (by omega)
    by_cases hlt : k < x.Nodes.length
    · have hd : decide ((k : Int) < (x.Nodes.length : Int)) = true := decide_eq_true (by omega)
      simp only [hd, cond_true, idx_get hlt, Option.bind_some]
      rw [wrap_succ (by omega)]
      have hIH := ih (k + 1) (by omega) (by omega)
      have hxk : x.Nodes[k]? = some x.Nodes[k] := List.getElem?_eq_getElem hlt
      rcases Nat.lt_trichotomy k i with hki | hki | hki
      · -- ahead of the cut
        have hkc : k < x.Cuts.length := by omega
        have hb : ((k : Int) == (i : Int)) = false := by simp; omega
        rw [if_pos (by omega), if_pos (by omega)]
        rw [if_pos (by omega), if_pos (by omega)] at hIH
        rw [apd_ok (by simp; omega)]
        have hdc : decide ((k : Int) < (x.Cuts.length : Int)) = true := decide_eq_true (by omega)
        simp only [Option.bind_some, hb, cond_false, hdc, cond_true, idx_get hkc]
        rw [apd_ok (by simp; omega)]
        simp only [Option.bind_some]
        rw [take_next (show (splitM x i key).Nodes[k]? = some x.Nodes[k] from (insAt_lt (by omega) hki).trans hxk), take_next (show (splitM x i key).Cuts[k]? = some x.Cuts[k] from (insAt_lt (by omega) hki).trans (List.getElem?_eq_getElem hkc))]
        exact hIH
      · subst hki
        have hb : ((k : Int) == (k : Int)) = true := by simp
        rw [if_pos (by omega), if_pos (by omega)]
        rw [if_neg (by omega), if_neg (by omega)] at hIH
        rw [apd_ok (by simp; omega)]
        have hgd : x.Nodes.getD k 0 = x.Nodes[k] := by simp [hlt]
        simp only [Option.bind_some, hb, cond_true]
        rw [take_next (show (splitM x k key).Nodes[k]? = some x.Nodes[k] from by rw [← hgd]; exact insAt_eq (by omega))]
        rw [apd_ok (by simp; omega)]
        simp only [Option.bind_some]
        rw [apd_ok (by simp; omega)]
        simp only [Option.bind_some]
        rw [take_next (show (splitM x k key).Nodes[k + 1]? = some x.Nodes[k] from (insAt_gt (by omega) (Nat.le_refl _)).trans hxk), take_next (show (splitM x k key).Cuts[k]? = some key from insAt_eq (by omega))]
        by_cases hkc : k < x.Cuts.length
        · have hdc : decide ((k : Int) < (x.Cuts.length : Int)) = true := decide_eq_true (by omega)
          simp only [hdc, cond_true, idx_get hkc, Option.bind_some]
          rw [apd_ok (by simp; omega)]
          simp only [Option.bind_some]
          rw [take_next (show (splitM x k key).Cuts[k + 1]? = some x.Cuts[k] from (insAt_gt (by omega) (Nat.le_refl _)).trans (List.getElem?_eq_getElem hkc))]
          exact hIH
        · have hdc : decide ((k : Int) < (x.Cuts.length : Int)) = false := decide_eq_false (by omega)
          simp only [hdc, cond_false]
          rw [take_none (X := (splitM x k key).Cuts) (k := k + 1) (List.getElem?_eq_none (by omega))]
          exact hIH
      · have hb : ((k : Int) == (i : Int)) = false := by simp; omega
        rw [if_neg (by omega), if_neg (by omega)]
        rw [if_neg (by omega), if_neg (by omega)] at hIH
        rw [apd_ok (by simp; omega)]
        simp only [Option.bind_some, hb, cond_false]
        rw [take_next (show (splitM x i key).Nodes[k + 1]? = some x.Nodes[k] from (insAt_gt (by omega) (by omega)).trans hxk)]
        by_cases hkc : k < x.Cuts.length
        · have hdc : decide ((k : Int) < (x.Cuts.length : Int)) = true := decide_eq_true (by omega)
          simp only [hdc, cond_true, idx_get hkc, Option.bind_some]
          rw [apd_ok (by simp; omega)]
          simp only [Option.bind_some]
          rw [take_next (show (splitM x i key).Cuts[k + 1]? = some x.Cuts[k] from (insAt_gt (by omega) (by omega)).trans (List.getElem?_eq_getElem hkc))]
          exact hIH
        · have hdc : decide ((k : Int) < (x.Cuts.length : Int)) = false := decide_eq_false (by omega)
          simp only [hdc, cond_false]
          rw [take_none (X := (splitM x i key).Cuts) (k := k + 1) (List.getElem?_eq_none (by omega))]
          exact hIH
    · have hd : decide ((k : Int) < (x.Nodes.length : Int)) = false := decide_eq_false (by omega)
      rw [hd, if_neg (by omega), if_neg (by omega), List.take_of_length_le (by omega), List.take_of_length_le (by omega)]
      rfl
theorem split_eq (N : Nat) (hN : 100 ≤ N) (x : T_api_Map) (nodes i : Int) (key : ByteArray) (hx : x.Cuts.length ≤ maxLen) : M.span_Split N x nodes i key = some (splitR x nodes i key) ∧ M.ref08_Split N x nodes i key = some (splitR x nodes i key) := by
  have hc := chk_eq N hN ⟨x.Cuts, x.Nodes⟩ nodes hx
  unfold M.span_Split M.ref08_Split splitR splitE
  rw [hc.1, hc.2]
  simp only [Option.bind_some]
  by_cases h0 : chk x nodes = 0
  · have hR := (chk_iff x nodes).1 h0
    have hf := hR.form
    have hmost := hR.most
    have hs : x.Cuts.length ≤ 1000000 := by omega
    rw [show chk ⟨x.Cuts, x.Nodes⟩ nodes = 0 from h0]
    simp only [bne_self_eq_false, cond_false, h0, ne_eq, not_true, if_false]
    rw [show (T_api_Map.mk x.Cuts x.Nodes) = x from rfl, at_eq N x hs (by omega) i]
    simp only [Option.bind_some]
    by_cases hin : 0 ≤ i ∧ i < x.Nodes.length
    · rw [if_pos ⟨hf, hin⟩]
      obtain ⟨k, rfl⟩ : ∃ k : Nat, i = k := ⟨i.toNat, by omega⟩
      have hk : k < x.Nodes.length := by omega
      simp only [Int.toNat_natCast, ends_in N x hs hf k hk, Option.bind_some, Bool.not_true, cond_false, hin, not_true, if_false, (within_eq N key _ _).1, (within_eq N key _ _).2, shd, and_self]
      have hv1 : (bif decide ((key.size : Int) > 16) then (some true) else (bif (sLt key (lo x k) || sEq key (lo x k)) then (some true) else (some (!wthn key (lo x k) (hi x k))))) = some (decide (16 < key.size ∨ sLt (lo x k) key = false ∨ wthn key (lo x k) (hi x k) = false)) := by
        rw [sLe_iff, show decide ((key.size : Int) > 16) = decide (16 < key.size) from decide_eq_decide.2 (by omega)]
        by_cases h1 : 16 < key.size
        · simp [h1]
        · cases h2 : sLt (lo x k) key <;> cases h3 : wthn key (lo x k) (hi x k) <;> simp [h1]
      have hv2 : (bif decide ((key.size : Int) > 16) then (some true) else (bif (!wthn key (lo x k) (hi x k)) then (some true) else (some (sEq key (lo x k))))) = some (decide (16 < key.size ∨ sLt (lo x k) key = false ∨ wthn key (lo x k) (hi x k) = false)) := by
        rw [show decide ((key.size : Int) > 16) = decide (16 < key.size) from decide_eq_decide.2 (by omega)]
        by_cases h1 : 16 < key.size
        · simp [h1]
        · have hle := sLe_iff key (lo x k)
          cases h3 : wthn key (lo x k) (hi x k) with
          | false => simp [h1]
          | true =>
            have : sLt key (lo x k) = false := by
              unfold wthn at h3
              simp only [Bool.and_eq_true, Bool.not_eq_true'] at h3
              exact h3.1
            rw [this, Bool.false_or] at hle
            simp [h1, hle]
      rw [hv1, hv2]
      simp only [Option.bind_some]
      by_cases hbad : 16 < key.size ∨ sLt (lo x k) key = false ∨ wthn key (lo x k) (hi x k) = false
      · simp only [decide_eq_true hbad, cond_true, if_pos hbad]
        exact ⟨rfl, rfl⟩
      · simp only [decide_eq_false hbad, cond_false, if_neg hbad]
        by_cases hfull : x.Nodes.length = 8
        · rw [if_pos hfull, hfull]
          exact ⟨rfl, rfl⟩
        · have hb1 : (((x.Nodes).length : Int) == 8) = false := by simp; omega
          have hb2 : decide (((x.Nodes).length : Int) ≥ 8) = false := decide_eq_false (by omega)
          simp only [hb1, hb2, cond_false, if_neg hfull, if_true]
          constructor
          · rw [slc_take (by omega), slc_take (by omega), slc_drop (by omega), slc_drop (by omega)]
            simp only [Option.bind_some]
            rw [apd_ok (by simp; omega), apd_ok (by simp; omega)]
            simp only [Option.bind_some, List.nil_append]
            rw [apd_ok (by simp; omega), apd_ok (by simp; omega)]
            simp only [Option.bind_some]
            rw [apd_ok (by simp; omega), apd_ok (by simp; omega)]
            simp [splitM, insAt]
          · have := refSplit_L1 N x k key hf hmost hk N 0 (by omega) (by omega)
            simpa using this
    · rw [if_neg (fun h => hin h.2)]
      simp only [ends_out N x hs i (fun h => hin h.2), Option.bind_some, hin, not_false_eq_true, if_true, Bool.not_false, cond_true]
      exact ⟨rfl, rfl⟩
  · have h0' : chk ⟨x.Cuts, x.Nodes⟩ nodes ≠ 0 := h0
    have hb : (chk ⟨x.Cuts, x.Nodes⟩ nodes != 0) = true := by simpa using h0
    simp only [hb, cond_true, ne_eq, h0, not_false_eq_true, if_true, if_false]
    exact ⟨rfl, rfl⟩

/-! ### merge -/
def mergeE (x : T_api_Map) (nodes i : Int) : Int :=
  if chk x nodes ≠ 0 then chk x nodes else if ¬ (0 ≤ i ∧ i < x.Cuts.length) then 7
  else if x.Nodes.getD i.toNat 0 ≠ x.Nodes.getD (i.toNat + 1) 0 then 18 else 0
def mergeM (x : T_api_Map) (i : Nat) : T_api_Map := ⟨x.Cuts.eraseIdx i, x.Nodes.eraseIdx i⟩
def mergeR (x : T_api_Map) (nodes i : Int) : T_api_Map × Int := if mergeE x nodes i = 0 then (mergeM x i.toNat, 0) else (empt, mergeE x nodes i)
theorem erase_lt {α : Type} {l : List α} {i k : Nat} (h : k < i) : (l.eraseIdx i)[k]? = l[k]? := List.getElem?_eraseIdx_of_lt h
theorem erase_ge {α : Type} {l : List α} {i k : Nat} (h : i ≤ k) : (l.eraseIdx i)[k]? = l[k + 1]? := List.getElem?_eraseIdx_of_ge h
theorem refMerge_L1 (N : Nat) (x : T_api_Map) (i : Nat) (hf : x.Nodes.length = x.Cuts.length + 1) (h8 : x.Nodes.length ≤ 8) (hi' : i < x.Cuts.length) : ∀ (fuel k : Nat), x.Nodes.length - k < fuel → k ≤ x.Nodes.length →
    M.ref08_Merge_L1 N fuel x (i : Int) (if k ≤ i then (mergeM x i).Cuts.take k else (mergeM x i).Cuts.take (k - 1)) (if k ≤ i then (mergeM x i).Nodes.take k else (mergeM x i).Nodes.take (k - 1)) (k : Int) = some (mergeM x i, 0) := by
  intro fuel
  induction fuel with
  | zero => intro k h; omega
  | succ fuel ih =>
    intro k hk hkl
    simp only [M.ref08_Merge_L1, M.ref08_Merge_k2, M.ref08_Merge_k3]
    have hcl : (mergeM x i).Cuts.length = x.Cuts.length - 1 := List.length_eraseIdx_of_lt hi'
    have hnl : (mergeM x i).Nodes.length = x.Nodes.length - 1 := List.length_eraseIdx_of_lt (by omega)
    by_cases hlt : k < x.Nodes.length
    · have hd : decide ((k : Int) < (x.Nodes.length : Int)) = true := decide_eq_true (by omega)
      simp only [hd, cond_true, idx_get hlt, Option.bind_some]
      rw [wrap_succ (by omega)]
      have hIH := ih (k + 1) (by omega) (by omega)
      have hxk : x.Nodes[k]? = some x.Nodes[k] := List.getElem?_eq_getElem hlt
      rcases Nat.lt_trichotomy k i with hki | hki | hki
      · have hkc : k < x.Cuts.length := by omega
        have hb : ((k : Int) != (i : Int)) = true := by simp; omega
        rw [if_pos (by omega), if_pos (by omega)]
        rw [if_pos (by omega), if_pos (by omega)] at hIH
        have hdc : decide ((k : Int) < (x.Cuts.length : Int)) = true := decide_eq_true (by omega)
        simp only [hb, cond_true, hdc, Option.bind_some, idx_get hkc]
        rw [apd_ok (by simp; omega)]
        simp only [Option.bind_some]
        rw [apd_ok (by simp; omega)]
        simp only [Option.bind_some]
        rw [take_next (show (mergeM x i).Nodes[k]? = some x.Nodes[k] from (erase_lt hki).trans hxk), take_next (show (mergeM x i).Cuts[k]? = some x.Cuts[k] from (erase_lt hki).trans (List.getElem?_eq_getElem hkc))]
        exact hIH
      · subst hki
        have hb : ((k : Int) != (k : Int)) = false := by simp
        rw [if_pos (by omega), if_pos (by omega)]
        rw [if_neg (by omega), if_neg (by omega), Nat.add_sub_cancel] at hIH
        have hdc : decide ((k : Int) < (x.Cuts.length : Int)) = true := decide_eq_true (by omega)
        simp only [hb, cond_false, hdc, cond_true, Option.bind_some]
        exact hIH
      · have hb : ((k : Int) != (i : Int)) = true := by simp; omega
        rw [if_neg (by omega), if_neg (by omega)]
        rw [if_neg (by omega), if_neg (by omega), Nat.add_sub_cancel] at hIH
        simp only [hb, cond_true]
        rw [apd_ok (by simp; omega)]
        simp only [Option.bind_some]
        have hk1 : k - 1 + 1 = k := by omega
        rw [take_next (show (mergeM x i).Nodes[k - 1]? = some x.Nodes[k] from (erase_ge (by omega)).trans (by rw [hk1]; exact hxk)), hk1]
        by_cases hkc : k < x.Cuts.length
        · have hdc : decide ((k : Int) < (x.Cuts.length : Int)) = true := decide_eq_true (by omega)
          simp only [hdc, cond_true, idx_get hkc, Option.bind_some]
          rw [apd_ok (by simp; omega)]
          simp only [Option.bind_some]
          rw [take_next (show (mergeM x i).Cuts[k - 1]? = some x.Cuts[k] from (erase_ge (by omega)).trans (by rw [hk1]; exact List.getElem?_eq_getElem hkc)), hk1]
          exact hIH
        · have hdc : decide ((k : Int) < (x.Cuts.length : Int)) = false := decide_eq_false (by omega)
          simp only [hdc, cond_false, Option.bind_some]
          have := take_none (X := (mergeM x i).Cuts) (k := k - 1) (List.getElem?_eq_none (by omega))
          rw [hk1] at this
          rw [this]
          exact hIH
    · have hd : decide ((k : Int) < (x.Nodes.length : Int)) = false := decide_eq_false (by omega)
      rw [hd, if_neg (by omega), if_neg (by omega), List.take_of_length_le (by omega), List.take_of_length_le (by omega)]
      rfl
theorem merge_eq (N : Nat) (hN : 100 ≤ N) (x : T_api_Map) (nodes i : Int) (hx : x.Cuts.length ≤ maxLen) : M.span_Merge N x nodes i = some (mergeR x nodes i) ∧ M.ref08_Merge N x nodes i = some (mergeR x nodes i) := by
  have hc := chk_eq N hN ⟨x.Cuts, x.Nodes⟩ nodes hx
  unfold M.span_Merge M.ref08_Merge mergeR mergeE
  rw [hc.1, hc.2]
  simp only [Option.bind_some]
  by_cases h0 : chk x nodes = 0
  · have hR := (chk_iff x nodes).1 h0
    have hf := hR.form
    have hmost := hR.most
    rw [show chk ⟨x.Cuts, x.Nodes⟩ nodes = 0 from h0]
    simp only [bne_self_eq_false, cond_false, h0, ne_eq, not_true, if_false]
    have hv : (bif decide (i < 0) then (some true) else (some (decide (i ≥ ((x.Cuts).length : Int))))) = some (decide (¬ (0 ≤ i ∧ i < x.Cuts.length))) := by
      by_cases h : i < 0
      · rw [decide_eq_true h, decide_eq_true (show ¬ (0 ≤ i ∧ i < (x.Cuts.length : Int)) by omega)]; rfl
      · rw [decide_eq_false h]
        simp only [cond_false, Option.some.injEq]
        exact decide_eq_decide.2 (by omega)
    rw [hv]
    simp only [Option.bind_some]
    by_cases hin : 0 ≤ i ∧ i < x.Cuts.length
    · obtain ⟨k, rfl⟩ : ∃ k : Nat, i = k := ⟨i.toNat, by omega⟩
      have hk : k < x.Cuts.length := by omega
      simp only [hin, not_true, decide_false, cond_false, if_false, Int.toNat_natCast, and_self]
      rw [wrap_succ (by omega), idx_getD 0 (show k < x.Nodes.length by omega), idx_getD 0 (show k + 1 < x.Nodes.length by omega)]
      simp only [Option.bind_some]
      by_cases hn : x.Nodes.getD k 0 = x.Nodes.getD (k + 1) 0
      · have hb : (x.Nodes.getD k 0 != x.Nodes.getD (k + 1) 0) = false := by rw [hn, bne_self_eq_false]
        have he : (if ¬x.Nodes.getD k 0 = x.Nodes.getD (k + 1) 0 then (18 : Int) else 0) = 0 := if_neg (fun h => h hn)
        simp only [hb, cond_false, he, if_true]
        constructor
        · rw [slc_take (by omega), slc_take (by omega), slc_drop (by omega), slc_drop (by omega)]
          simp only [Option.bind_some]
          rw [apd_ok (by simp; omega), apd_ok (by simp; omega)]
          simp only [Option.bind_some, List.nil_append]
          rw [apd_ok (by simp; omega), apd_ok (by simp; omega)]
          simp [mergeM, List.eraseIdx_eq_take_drop_succ]
        · have := refMerge_L1 N x k hf hmost hk N 0 (by omega) (by omega)
          simpa using this
      · have hb : (x.Nodes.getD k 0 != x.Nodes.getD (k + 1) 0) = true := bne_iff_ne.2 hn
        simp only [hb, cond_true, hn, not_false_eq_true, if_true]
        exact ⟨rfl, rfl⟩
    · simp only [hin, not_false_eq_true, decide_true, cond_true, if_true]
      exact ⟨rfl, rfl⟩
  · have hb : (chk ⟨x.Cuts, x.Nodes⟩ nodes != 0) = true := by simpa using h0
    simp only [hb, cond_true, ne_eq, h0, not_false_eq_true, if_true, if_false]
    exact ⟨rfl, rfl⟩

/-! ### move -/
theorem copy_eq (N : Nat) (x : T_api_Map) (h1 : x.Cuts.length < 2147483648) (h2 : x.Nodes.length < 2147483648) : M.span_Copy N x = some x ∧ M.ref08_Copy N x = some x := by
  unfold M.span_Copy M.ref08_Copy
  rw [apd_ok (by simpa using h1), apd_ok (by simpa using h2)]
  exact ⟨rfl, rfl⟩
def moveE (x : T_api_Map) (nodes i node : Int) : Int :=
  if chk x nodes ≠ 0 then chk x nodes else if ¬ (0 ≤ i ∧ i < x.Nodes.length) then 7
  else if ¬ (0 ≤ node ∧ node < nodes) then 1 else if x.Nodes.getD i.toNat 0 = node then 8 else 0
def moveM (x : T_api_Map) (i : Nat) (node : Int) : T_api_Map := ⟨x.Cuts, x.Nodes.set i node⟩
def moveR (x : T_api_Map) (nodes i node : Int) : T_api_Map × Int := if moveE x nodes i node = 0 then (moveM x i.toNat node, 0) else (empt, moveE x nodes i node)
theorem move_eq (N : Nat) (hN : 100 ≤ N) (x : T_api_Map) (nodes i node : Int) (hx : x.Cuts.length ≤ maxLen) : M.span_Move N x nodes i node = some (moveR x nodes i node) ∧ M.ref08_Move N x nodes i node = some (moveR x nodes i node) := by
  have hc := chk_eq N hN ⟨x.Cuts, x.Nodes⟩ nodes hx
  unfold M.span_Move M.ref08_Move moveR moveE
  rw [hc.1, hc.2]
  simp only [Option.bind_some]
  by_cases h0 : chk x nodes = 0
  · have hR := (chk_iff x nodes).1 h0
    have hf := hR.form
    have hmost := hR.most
    rw [show chk ⟨x.Cuts, x.Nodes⟩ nodes = 0 from h0]
    simp only [bne_self_eq_false, cond_false, h0, ne_eq, not_true, if_false]
    have hv : ∀ i n : Int, (bif decide (i < 0) then (some true) else (some (decide (i ≥ n)))) = some (decide (¬ (0 ≤ i ∧ i < n))) := fun i n => by
      by_cases h : i < 0
      · rw [decide_eq_true h, decide_eq_true (show ¬ (0 ≤ i ∧ i < n) by omega)]; rfl
      · rw [decide_eq_false h]
        simp only [cond_false, Option.some.injEq]
        exact decide_eq_decide.2 (by omega)
    rw [hv, hv]
    simp only [Option.bind_some]
    by_cases hin : 0 ≤ i ∧ i < x.Nodes.length
    · obtain ⟨k, rfl⟩ : ∃ k : Nat, i = k := ⟨i.toNat, by omega⟩
      have hk : k < x.Nodes.length := by omega
      simp only [hin, not_true, decide_false, cond_false, if_false, Int.toNat_natCast, and_self]
      by_cases hnd : 0 ≤ node ∧ node < nodes
      · simp only [hnd, not_true, decide_false, cond_false, if_false, and_self]
        rw [idx_getD 0 hk]
        simp only [Option.bind_some]
        by_cases hn : x.Nodes.getD k 0 = node
        · have hb : (x.Nodes.getD k 0 == node) = true := beq_iff_eq.2 hn
          simp only [hb, cond_true, if_pos hn]
          exact ⟨rfl, rfl⟩
        · have hb : (x.Nodes.getD k 0 == node) = false := beq_eq_false_iff_ne.2 hn
          have hcp := copy_eq N ⟨x.Cuts, x.Nodes⟩ (show x.Cuts.length < _ by omega) (show x.Nodes.length < _ by omega)
          simp only [hb, cond_false, if_neg hn, if_true, hcp.1, hcp.2, Option.bind_some]
          rw [idx_getD 0 hk]
          exact ⟨rfl, rfl⟩
      · simp only [hnd, not_false_eq_true, decide_true, cond_true, if_true]
        exact ⟨rfl, rfl⟩
    · simp only [hin, not_false_eq_true, decide_true, cond_true, if_true]
      exact ⟨rfl, rfl⟩
  · have hb : (chk ⟨x.Cuts, x.Nodes⟩ nodes != 0) = true := by simpa using h0
    simp only [hb, cond_true, ne_eq, h0, not_false_eq_true, if_true, if_false]
    exact ⟨rfl, rfl⟩

/-! ### the same -/
theorem same_L2 (N : Nat) (x y : T_api_Map) (hn : x.Nodes = y.Nodes) (hs : x.Nodes.length ≤ 1000000) : ∀ (fuel i : Nat), x.Nodes.length - i < fuel → i ≤ x.Nodes.length → M.ref08_Same_L2 N fuel x y (i : Int) = some true := by
  intro fuel
  induction fuel with
  | zero => intro i h; omega
  | succ fuel ih =>
    intro i hf hi
    simp only [M.ref08_Same_L2]
    by_cases hlt : i < x.Nodes.length
    · have hd : decide ((i : Int) < (x.Nodes.length : Int)) = true := decide_eq_true (by omega)
      rw [hd, ← hn, idx_get hlt, wrap_succ (by omega)]
      simp only [cond_true, Option.bind_some, bne_self_eq_false, cond_false]
      exact ih (i + 1) (by omega) (by omega)
    · rw [decide_eq_false (by omega : ¬ (i : Int) < (x.Nodes.length : Int))]; rfl
theorem same_L1 (N : Nat) (x : T_api_Map) (hc : x.Cuts.length ≤ 1000000) (hs : x.Nodes.length ≤ 1000000) (hN : x.Nodes.length < N) : ∀ (fuel i : Nat), x.Cuts.length - i < fuel → i ≤ x.Cuts.length → M.ref08_Same_L1 N fuel x x (i : Int) = some true := by
  intro fuel
  induction fuel with
  | zero => intro i h; omega
  | succ fuel ih =>
    intro i hf hi
    simp only [M.ref08_Same_L1]
    by_cases hlt : i < x.Cuts.length
    · have hd : decide ((i : Int) < (x.Cuts.length : Int)) = true := decide_eq_true (by omega)
      rw [hd, idx_get hlt, wrap_succ (by omega)]
      simp only [cond_true, Option.bind_some, sEq_refl, Bool.not_true, cond_false]
      exact ih (i + 1) (by omega) (by omega)
    · rw [decide_eq_false (by omega : ¬ (i : Int) < (x.Cuts.length : Int))]
      exact same_L2 N x x rfl hs N 0 (by omega) (by omega)
theorem same_refl (N : Nat) (x : T_api_Map) (hc : x.Cuts.length ≤ 1000000) (hs : x.Nodes.length ≤ 1000000) (hN : x.Nodes.length < N) (hN' : x.Cuts.length < N) : M.ref08_Same N x x = some true := by
  unfold M.ref08_Same
  simp only [bne_self_eq_false, cond_false, Option.bind_some]
  exact same_L1 N x hc hs hN N 0 (by omega) (by omega)
end Go.Cf
