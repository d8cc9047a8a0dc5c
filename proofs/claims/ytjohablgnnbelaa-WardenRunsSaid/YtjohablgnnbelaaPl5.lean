/- Plain facts on maps: they stay right, and keys stay where they were. -/
import Derived.Test.YtjohablgnnbelaaPl4
namespace Go.Cf
open Go
theorem getD_of {α : Type} {l m : List α} {i j : Nat} {d : α} (h : l[i]? = m[j]?) : l.getD i d = m.getD j d := by
  rw [List.getD_eq_getElem?_getD, List.getD_eq_getElem?_getD, h]
theorem getD_some {α : Type} {l : List α} {i : Nat} {d a : α} (h : l[i]? = some a) : l.getD i d = a := by
  rw [List.getD_eq_getElem?_getD, h]; rfl
theorem getD_mem {α : Type} {l : List α} {i : Nat} {d : α} (h : i < l.length) : l.getD i d ∈ l := by
  rw [List.getD_eq_getElem?_getD, List.getElem?_eq_getElem h]; exact List.getElem_mem h
structure SplitOk (x : T_api_Map) (nodes : Int) (i : Nat) (key : ByteArray) : Prop where
  right : Right x nodes
  lt : i < x.Nodes.length
  size : key.size ≤ 16
  above : sLt (lo x i) key = true
  within : wthn key (lo x i) (hi x i) = true
  room : x.Nodes.length ≠ 8
theorem split_ok {x : T_api_Map} {nodes i : Int} {key : ByteArray} (h : splitE x nodes i key = 0) : 0 ≤ i ∧ SplitOk x nodes i.toNat key := by
  unfold splitE at h
  by_cases h0 : chk x nodes = 0
  · rw [if_neg (fun h' => h' h0)] at h
    by_cases h1 : 0 ≤ i ∧ i < x.Nodes.length
    · rw [if_neg (fun h' => h' h1)] at h
      by_cases h2 : 16 < key.size ∨ sLt (lo x i.toNat) key = false ∨ wthn key (lo x i.toNat) (hi x i.toNat) = false
      · rw [if_pos h2] at h; cases h
      · rw [if_neg h2] at h
        by_cases h3 : x.Nodes.length = 8
        · rw [if_pos h3] at h; cases h
        · simp only [not_or, Bool.not_eq_false] at h2
          exact ⟨h1.1, (chk_iff x nodes).1 h0, by omega, by omega, h2.2.1, h2.2.2, h3⟩
    · rw [if_pos h1] at h; cases h
  · rw [if_pos h0] at h; exact absurd h h0
theorem SplitOk.below {x : T_api_Map} {nodes : Int} {i : Nat} {key : ByteArray} (h : SplitOk x nodes i key) (hi' : i < x.Cuts.length) : sLt key (x.Cuts.getD i nil) = true := by
  have := h.within
  unfold wthn hi at this
  rw [cut_ne_nil h.right.rising i hi'] at this
  simp only [Bool.false_or, Bool.and_eq_true] at this
  exact this.2
theorem SplitOk.le {x : T_api_Map} {nodes : Int} {i : Nat} {key : ByteArray} (h : SplitOk x nodes i key) : i ≤ x.Cuts.length := by have := h.right.form; have := h.lt; omega
theorem right_split {x : T_api_Map} {nodes : Int} {i : Nat} {key : ByteArray} (h : SplitOk x nodes i key) : Right (splitM x i key) nodes := by
  have hR := h.right
  have hle := h.le
  have hlt := h.lt
  have hcl : (splitM x i key).Cuts.length = x.Cuts.length + 1 := insAt_length hle
  have hnl : (splitM x i key).Nodes.length = x.Nodes.length + 1 := insAt_length (by omega)
  refine ⟨hR.lo1, hR.hi4, ?_, ?_, fun j hj => ?_, fun j hj => ?_, fun n hn => ?_⟩
  · have := h.room; have := hR.most; omega
  · have := hR.form; omega
  · rcases Nat.lt_trichotomy j i with hji | hji | hji
    · rw [show (splitM x i key).Cuts.getD j nil = x.Cuts.getD j nil from getD_of (insAt_lt hle hji)]
      exact hR.size j (by omega)
    · subst hji
      rw [show (splitM x j key).Cuts.getD j nil = key from getD_some (insAt_eq hle)]
      exact h.size
    · obtain ⟨k, rfl⟩ : ∃ k, j = k + 1 := ⟨j - 1, by omega⟩
      rw [show (splitM x i key).Cuts.getD (k + 1) nil = x.Cuts.getD k nil from getD_of (insAt_gt hle (by omega))]
      exact hR.size k (by omega)
  · have hlo : ∀ k, k ≤ i → lo (splitM x i key) k = lo x k := fun k hk => by
      cases k with
      | zero => rfl
      | succ k => exact getD_of (insAt_lt hle (by omega))
    rcases Nat.lt_trichotomy j i with hji | hji | hji
    · rw [hlo j (by omega), show (splitM x i key).Cuts.getD j nil = x.Cuts.getD j nil from getD_of (insAt_lt hle hji)]
      exact hR.asc j (by omega)
    · subst hji
      rw [hlo j (Nat.le_refl _), show (splitM x j key).Cuts.getD j nil = key from getD_some (insAt_eq hle)]
      exact h.above
    · obtain ⟨k, rfl⟩ : ∃ k, j = k + 1 := ⟨j - 1, by omega⟩
      rw [show (splitM x i key).Cuts.getD (k + 1) nil = x.Cuts.getD k nil from getD_of (insAt_gt hle (by omega))]
      show sLt ((splitM x i key).Cuts.getD k nil) _ = true
      by_cases hk : k = i
      · subst hk
        rw [show (splitM x k key).Cuts.getD k nil = key from getD_some (insAt_eq hle)]
        exact h.below (by omega)
      · obtain ⟨q, rfl⟩ : ∃ q, k = q + 1 := ⟨k - 1, by omega⟩
        rw [show (splitM x i key).Cuts.getD (q + 1) nil = x.Cuts.getD q nil from getD_of (insAt_gt hle (by omega))]
        exact hR.asc (q + 1) (by omega)
  · have hn' : n ∈ x.Nodes.take i ++ x.Nodes.getD i 0 :: x.Nodes.drop i := hn
    rcases List.mem_append.1 hn' with hn' | hn'
    · exact hR.node n (List.mem_of_mem_take hn')
    · rcases List.mem_cons.1 hn' with rfl | hn'
      · exact hR.node _ (getD_mem hlt)
      · exact hR.node n (List.mem_of_mem_drop hn')
/-- a key's shard, behind a cut -/
theorem fnd_split {x : T_api_Map} {nodes : Int} {i : Nat} {key : ByteArray} (h : SplitOk x nodes i key) (k : ByteArray) :
    (sLt k key = false ∧ fnd (splitM x i key) k = fnd x k + 1 ∧ i ≤ fnd x k) ∨ (sLt k key = true ∧ fnd (splitM x i key) k = fnd x k ∧ fnd x k ≤ i) := by
  have hR := h.right
  have hle := h.le
  have hr := hR.rising
  have hc : fnd (splitM x i key) k = fnd x k + if le k key then 1 else 0 := by
    show (x.Cuts.take i ++ key :: x.Cuts.drop i).countP (le k) = x.Cuts.countP (le k) + _
    rw [List.countP_append, List.countP_cons]
    conv => rhs; rw [← List.take_append_drop i x.Cuts, List.countP_append]
    omega
  have hfl := fnd_le x k
  cases hk : sLt k key with
  | false =>
    left
    refine ⟨rfl, by rw [hc, show le k key = true from by simp [le, hk]]; rfl, ?_⟩
    cases i with
    | zero => omega
    | succ j =>
      have h1 := le_cut hr k j (by omega)
      have h2 : sLt (x.Cuts.getD j nil) key = true := h.above
      have h3 : sLt k (x.Cuts.getD j nil) = false := by
        cases h4 : sLt k (x.Cuts.getD j nil) with
        | false => rfl
        | true => rw [sLt_trans h4 h2] at hk; cases hk
      rw [h3] at h1
      have : j < List.countP (le k) x.Cuts := by simpa using h1.symm
      unfold fnd; omega
  | true =>
    right
    refine ⟨rfl, by rw [hc, show le k key = false from by simp [le, hk]]; rfl, ?_⟩
    by_cases hi' : i < x.Cuts.length
    · have h1 := le_cut hr k i hi'
      rw [sLt_trans hk (h.below hi')] at h1
      have : ¬ i < List.countP (le k) x.Cuts := by simpa using h1.symm
      unfold fnd; omega
    · omega
theorem own_split {x : T_api_Map} {nodes : Int} {i : Nat} {key : ByteArray} (h : SplitOk x nodes i key) (k : ByteArray) : own (splitM x i key) k = own x k := by
  have hR := h.right
  have hf := hR.form
  have hlt := h.lt
  have hfl := fnd_le x k
  have hnl : (splitM x i key).Nodes.length = x.Nodes.length + 1 := insAt_length (by omega)
  unfold own
  rcases fnd_split h k with ⟨_, h1, h2⟩ | ⟨_, h1, h2⟩
  · rw [h1, if_pos (by omega), if_pos (by omega)]
    exact getD_of (insAt_gt (by omega) h2)
  · rw [h1, if_pos (by omega), if_pos (by omega)]
    rcases Nat.lt_or_ge (fnd x k) i with h3 | h3
    · exact getD_of (insAt_lt (by omega) h3)
    · have : fnd x k = i := by omega
      rw [this]
      exact getD_some (insAt_eq (by omega))
theorem fnd_split_at {x : T_api_Map} {nodes : Int} {i : Nat} {key : ByteArray} (h : SplitOk x nodes i key) : fnd (splitM x i key) key = i + 1 := by
  have hR := h.right
  have := within_iff hR.rising hR.form key i h.lt
  rw [h.within] at this
  have hfe : i = fnd x key := by simpa using this.symm
  rcases fnd_split h key with ⟨_, h1, _⟩ | ⟨h0, _, _⟩
  · omega
  · rw [sLt_irrefl] at h0; cases h0
theorem erase_insAt {α : Type} {l : List α} {i : Nat} {a : α} (h : i ≤ l.length) : (insAt l i a).eraseIdx i = l := by
  apply List.ext_getElem?
  intro k
  rcases Nat.lt_or_ge k i with hk | hk
  · rw [erase_lt hk, insAt_lt h hk]
  · rw [erase_ge hk, insAt_gt h hk]
theorem merge_split {x : T_api_Map} {nodes : Int} {i : Nat} {key : ByteArray} (h : SplitOk x nodes i key) : mergeR (splitM x i key) nodes (i : Int) = (x, 0) := by
  have hle := h.le
  have hlt := h.lt
  have hcl : (splitM x i key).Cuts.length = x.Cuts.length + 1 := insAt_length hle
  have hE : mergeE (splitM x i key) nodes (i : Int) = 0 := by
    unfold mergeE
    rw [if_neg (fun h' => h' ((chk_iff _ _).2 (right_split h))), if_neg (fun h' => h' ⟨by omega, by omega⟩), Int.toNat_natCast, if_neg]
    intro h'
    refine h' ?_
    rw [show (splitM x i key).Nodes.getD i 0 = x.Nodes.getD i 0 from getD_some (insAt_eq (by omega)), show (splitM x i key).Nodes.getD (i + 1) 0 = x.Nodes.getD i 0 from getD_of (insAt_gt (by omega) (Nat.le_refl _))]
  unfold mergeR
  rw [if_pos hE, Int.toNat_natCast]
  unfold mergeM splitM
  simp only [erase_insAt hle, erase_insAt (show i ≤ x.Nodes.length by omega)]

structure MergeOk (x : T_api_Map) (nodes : Int) (i : Nat) : Prop where
  right : Right x nodes
  lt : i < x.Cuts.length
  same : x.Nodes.getD i 0 = x.Nodes.getD (i + 1) 0
theorem merge_ok {x : T_api_Map} {nodes i : Int} (h : mergeE x nodes i = 0) : 0 ≤ i ∧ MergeOk x nodes i.toNat := by
  unfold mergeE at h
  by_cases h0 : chk x nodes = 0
  · rw [if_neg (fun h' => h' h0)] at h
    by_cases h1 : 0 ≤ i ∧ i < x.Cuts.length
    · rw [if_neg (fun h' => h' h1)] at h
      by_cases h2 : x.Nodes.getD i.toNat 0 = x.Nodes.getD (i.toNat + 1) 0
      · exact ⟨h1.1, (chk_iff x nodes).1 h0, by omega, h2⟩
      · rw [if_pos h2] at h; cases h
    · rw [if_pos h1] at h; cases h
  · rw [if_pos h0] at h; exact absurd h h0
theorem right_merge {x : T_api_Map} {nodes : Int} {i : Nat} (h : MergeOk x nodes i) : Right (mergeM x i) nodes := by
  have hR := h.right
  have hlt := h.lt
  have hf := hR.form
  have hcl : (mergeM x i).Cuts.length = x.Cuts.length - 1 := List.length_eraseIdx_of_lt hlt
  have hnl : (mergeM x i).Nodes.length = x.Nodes.length - 1 := List.length_eraseIdx_of_lt (by omega)
  have hc : ∀ j, (mergeM x i).Cuts.getD j nil = if j < i then x.Cuts.getD j nil else x.Cuts.getD (j + 1) nil := fun j => by
    split
    · exact getD_of (erase_lt (by omega))
    · exact getD_of (erase_ge (by omega))
  refine ⟨hR.lo1, hR.hi4, by have := hR.most; omega, by omega, fun j hj => ?_, fun j hj => ?_, fun n hn => hR.node n (List.mem_of_mem_eraseIdx hn)⟩
  · rw [hc]
    split
    · exact hR.size j (by omega)
    · exact hR.size (j + 1) (by omega)
  · rw [hc]
    have hlo : lo (mergeM x i) j = if j ≤ i then lo x j else lo x (j + 1) := by
      cases j with
      | zero => rfl
      | succ j =>
        show (mergeM x i).Cuts.getD j nil = _
        rw [hc]
        by_cases hji : j < i
        · rw [if_pos hji, if_pos (by omega)]; rfl
        · rw [if_neg hji, if_neg (by omega)]; rfl
    rw [hlo]
    rcases Nat.lt_trichotomy j i with hji | hji | hji
    · rw [if_pos (by omega), if_pos hji]; exact hR.asc j (by omega)
    · subst hji
      rw [if_pos (Nat.le_refl _), if_neg (by omega)]
      exact sLt_trans (hR.asc j hlt) (hR.asc (j + 1) (by omega))
    · rw [if_neg (by omega), if_neg (by omega)]; exact hR.asc (j + 1) (by omega)
structure MoveOk (x : T_api_Map) (nodes : Int) (i : Nat) (node : Int) : Prop where
  right : Right x nodes
  lt : i < x.Nodes.length
  node : 0 ≤ node ∧ node < nodes
theorem move_ok {x : T_api_Map} {nodes i node : Int} (h : moveE x nodes i node = 0) : 0 ≤ i ∧ MoveOk x nodes i.toNat node := by
  unfold moveE at h
  by_cases h0 : chk x nodes = 0
  · rw [if_neg (fun h' => h' h0)] at h
    by_cases h1 : 0 ≤ i ∧ i < x.Nodes.length
    · rw [if_neg (fun h' => h' h1)] at h
      by_cases h2 : 0 ≤ node ∧ node < nodes
      · exact ⟨h1.1, (chk_iff x nodes).1 h0, by omega, h2⟩
      · rw [if_pos h2] at h; cases h
    · rw [if_pos h1] at h; cases h
  · rw [if_pos h0] at h; exact absurd h h0
theorem right_move {x : T_api_Map} {nodes : Int} {i : Nat} {node : Int} (h : MoveOk x nodes i node) : Right (moveM x i node) nodes := by
  have hR := h.right
  have hlo : ∀ j, lo (moveM x i node) j = lo x j := fun j => by cases j <;> rfl
  refine ⟨hR.lo1, hR.hi4, by have := hR.most; simpa [moveM] using this, by have := hR.form; simpa [moveM] using this, hR.size, fun j hj => by rw [hlo]; exact hR.asc j hj, fun n hn => ?_⟩
  rcases List.mem_or_eq_of_mem_set hn with hn | rfl
  · exact hR.node n hn
  · exact h.node
theorem own_move {x : T_api_Map} {nodes : Int} {i : Nat} {node : Int} (h : MoveOk x nodes i node) (k : ByteArray) : own (moveM x i node) k = if fnd x k = i then node else own x k := by
  have hf := h.right.form
  have hfl := fnd_le x k
  have hlt := h.lt
  have h1 : own (moveM x i node) k = (x.Nodes.set i node).getD (fnd x k) 0 := by
    unfold own
    exact if_pos (show fnd x k < (x.Nodes.set i node).length by simp; omega)
  have h2 : own x k = x.Nodes.getD (fnd x k) 0 := if_pos (by omega)
  rw [h1, h2, List.getD_eq_getElem?_getD, List.getElem?_set]
  by_cases he : fnd x k = i
  · rw [if_pos he.symm, if_pos hlt, if_pos he]; rfl
  · rw [if_neg (fun h => he h.symm), if_neg he, List.getD_eq_getElem?_getD]
theorem right_own {x : T_api_Map} {nodes : Int} (h : Right x nodes) (k : ByteArray) : 0 ≤ own x k ∧ own x k < nodes := by
  have hf := h.form
  have hfl := fnd_le x k
  unfold own
  rw [if_pos (by omega)]
  exact h.node _ (getD_mem (by omega))
end Go.Cf
