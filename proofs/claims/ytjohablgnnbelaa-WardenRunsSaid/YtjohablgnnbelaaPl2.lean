/- Plain facts on maps: keys are found, shards have ends, a map is right. -/
import Derived.Test.YtjohablgnnbelaaM1
import Derived.Test.YtjohablgnnbelaaM2
import Derived.Test.YtjohablgnnbelaaM2b
import Derived.Test.YtjohablgnnbelaaM2c
import Derived.Test.YtjohablgnnbelaaPl1
import Derived.Laws.BitsLemmas
namespace Go.Cf
open Go
theorem idx_get {α : Type} {l : List α} {i : Nat} (h : i < l.length) : idx l (i : Int) = some l[i] := by
  simp [idx, h]
theorem idx_getD {α : Type} {l : List α} {i : Nat} (d : α) (h : i < l.length) : idx l (i : Int) = some (l.getD i d) := by
  rw [idx_get h]; simp [h]
theorem idx_none {α : Type} {l : List α} {i : Int} (h : ¬ (0 ≤ i ∧ i < l.length)) : idx l i = none := by
  unfold idx
  split
  · rename_i h0; rw [List.getElem?_eq_none]; omega
  · rfl
theorem wrap_small {x : Int} (h0 : -9223372036854775808 ≤ x) (h1 : x < 9223372036854775808) : IntKind.i64.wrap x = x := by
  rw [IntKind.wrap_i64]; omega
theorem wrap_succ {i : Nat} (h : i < 4611686018427387904) : IntKind.i64.wrap ((i : Int) + 1) = ((i + 1 : Nat) : Int) := by rw [wrap_small] <;> omega
theorem wrap_pred {i : Nat} (h : i < 4611686018427387904) : IntKind.i64.wrap (((i + 1 : Nat) : Int) - 1) = (i : Int) := by rw [wrap_small] <;> omega
abbrev small (n : Nat) : Prop := n ≤ 1000000
abbrev nil : ByteArray := ByteArray.mk #[]
theorem nil_toList : nil.toList = [] := by kernel_rfl
theorem bl_trans : ∀ a b c : List UInt8, Op.bytesLess a b = true → Op.bytesLess b c = true → Op.bytesLess a c = true := fun a => by
  induction a with
  | nil => intro b c h1 h2; cases b <;> cases c <;> simp_all [Op.bytesLess]
  | cons x a ih =>
    intro b c h1 h2
    cases b with
    | nil => simp [Op.bytesLess] at h1
    | cons y b =>
      cases c with
      | nil => simp [Op.bytesLess] at h2
      | cons z c =>
        simp only [Op.bytesLess, Bool.or_eq_true, decide_eq_true_eq, Bool.and_eq_true, beq_iff_eq] at h1 h2 ⊢
        rcases h1 with h1 | ⟨rfl, h1⟩
        · rcases h2 with h2 | ⟨rfl, h2⟩
          · exact .inl (UInt8.lt_trans h1 h2)
          · exact .inl h1
        · rcases h2 with h2 | ⟨rfl, h2⟩
          · exact .inl h2
          · exact .inr ⟨rfl, ih _ _ h1 h2⟩
theorem sLt_trans {a b c : ByteArray} (h1 : sLt a b = true) (h2 : sLt b c = true) : sLt a c = true := bl_trans _ _ _ h1 h2
theorem sLt_irrefl (a : ByteArray) : sLt a a = false := bl_irrefl _
theorem sEq_refl (a : ByteArray) : sEq a a = true := by simp [sEq]
theorem sEq_iff {a b : ByteArray} : sEq a b = true ↔ a.toList = b.toList := by simp [sEq]
theorem sLt_congr {a b c : ByteArray} (h : sEq a b = true) : sLt a c = sLt b c := by unfold sLt; rw [sEq_iff.1 h]
theorem sLt_congr' {a b c : ByteArray} (h : sEq a b = true) : sLt c a = sLt c b := by unfold sLt; rw [sEq_iff.1 h]
theorem sLt_asymm {a b : ByteArray} (h : sLt a b = true) : sLt b a = false := by
  cases h' : sLt b a with
  | false => rfl
  | true => have := sLt_trans h h'; rw [sLt_irrefl] at this; cases this
theorem sLt_nil (a : ByteArray) : sLt a nil = false := by unfold sLt; rw [nil_toList]; exact bl_nil _
theorem sLe_iff (a b : ByteArray) : (sLt a b || sEq a b) = !sLt b a := by rw [sLt_not b a]; 
/-- not below, and below: above -/
theorem sLt_of_le {a b c : ByteArray} (h1 : sLt b a = false) (h2 : sLt b c = true) : sLt a c = true := by
  have := sLe_iff a b
  rw [h1] at this
  simp only [Bool.not_false, Bool.or_eq_true] at this
  rcases this with h | h
  · exact sLt_trans h h2
  · rw [sLt_congr h]; exact h2
theorem sLt_of_le' {a b c : ByteArray} (h1 : sLt a b = true) (h2 : sLt c b = false) : sLt a c = true := by
  have := sLe_iff b c
  rw [h2] at this
  simp only [Bool.not_false, Bool.or_eq_true] at this
  rcases this with h | h
  · exact sLt_trans h1 h
  · rw [← sLt_congr' h]; exact h1

/-! ### keys are found -/
def le (key c : ByteArray) : Bool := !sLt key c
def fnd (x : T_api_Map) (key : ByteArray) : Nat := x.Cuts.countP (le key)
theorem drop_cons {α : Type} {l : List α} {i : Nat} (h : i < l.length) : l.drop i = l[i] :: l.drop (i + 1) := List.drop_eq_getElem_cons h
theorem find_L1 (N : Nat) (x : T_api_Map) (key : ByteArray) : ∀ (fuel i n : Nat), x.Cuts.length - i < fuel → x.Cuts.length ≤ 1000000 → i ≤ x.Cuts.length → n ≤ i → M.span_Find_L1 N fuel x key (n : Int) (i : Int) = some ((n + (x.Cuts.drop i).countP (le key) : Nat) : Int) ∧ M.ref08_Find_L1 N fuel x key (n : Int) (i : Int) = some ((n + (x.Cuts.drop i).countP (le key) : Nat) : Int) := by
  intro fuel
  induction fuel with
  | zero => intro i n h; omega
  | succ fuel ih =>
    intro i n hf hs hi hn
    simp only [M.span_Find_L1, M.ref08_Find_L1, M.span_Find_k2, M.ref08_Find_k2]
    by_cases hlt : i < x.Cuts.length
    · have hd : decide ((i : Int) < (x.Cuts.length : Int)) = true := decide_eq_true (by omega)
      simp only [hd, cond_true, idx_get hlt, Option.bind_some, sLe_iff, drop_cons hlt, List.countP_cons]
      rw [wrap_succ (i := i) (by omega), wrap_succ (i := n) (by omega)]
      cases hb : sLt key x.Cuts[i] with
      | true =>
        simp only [le, hb, Bool.not_true, cond_false, Bool.false_eq_true, if_false, Nat.add_zero]
        exact ih (i + 1) n (by omega) hs (by omega) (by omega)
      | false =>
        simp only [le, hb, Bool.not_false, cond_true, if_true]
        have := ih (i + 1) (n + 1) (by omega) hs (by omega) (by omega)
        rw [show n + (List.countP (le key) (List.drop (i + 1) x.Cuts) + 1) = n + 1 + List.countP (le key) (List.drop (i + 1) x.Cuts) from by omega]
        exact this
    · have hd : decide ((i : Int) < (x.Cuts.length : Int)) = false := decide_eq_false (by omega)
      simp only [hd, cond_false]
      rw [List.drop_eq_nil_of_le (by omega)]
      simp
theorem find_eq (N : Nat) (x : T_api_Map) (key : ByteArray) (hN : x.Cuts.length < N) (hs : x.Cuts.length ≤ 1000000) : M.span_Find N x key = some ((fnd x key : Nat) : Int) ∧ M.ref08_Find N x key = some ((fnd x key : Nat) : Int) := by
  have := find_L1 N x key N 0 0 (by omega) hs (by omega) (by omega)
  simpa [M.span_Find, M.ref08_Find, fnd] using this
theorem fnd_le (x : T_api_Map) (key : ByteArray) : fnd x key ≤ x.Cuts.length := List.countP_le_length
def own (x : T_api_Map) (key : ByteArray) : Int := if fnd x key < x.Nodes.length then x.Nodes.getD (fnd x key) 0 else -1
theorem owner_eq (N : Nat) (x : T_api_Map) (key : ByteArray) (hN : x.Cuts.length < N) (hs : x.Cuts.length ≤ 1000000) : M.span_Owner N x key = some (own x key) ∧ M.ref08_Owner N x key = some (own x key) := by
  obtain ⟨h1, h2⟩ := find_eq N ⟨x.Cuts, x.Nodes⟩ key hN hs
  unfold M.span_Owner M.ref08_Owner own
  rw [h1, h2]
  simp only [Option.bind_some]
  by_cases h : fnd x key < x.Nodes.length
  · have hd : decide (((fnd ⟨x.Cuts, x.Nodes⟩ key : Nat) : Int) < (x.Nodes.length : Int)) = true := decide_eq_true (by show ((fnd x key : Nat) : Int) < _; omega)
    have hd' : decide (((fnd ⟨x.Cuts, x.Nodes⟩ key : Nat) : Int) ≥ (x.Nodes.length : Int)) = false := decide_eq_false (by show ¬ ((fnd x key : Nat) : Int) ≥ _; omega)
    rw [hd, hd']
    simp only [cond_true, cond_false, if_pos h]
    rw [idx_getD 0 (show fnd ⟨x.Cuts, x.Nodes⟩ key < x.Nodes.length from h)]
    exact ⟨rfl, rfl⟩
  · have hd : decide (((fnd ⟨x.Cuts, x.Nodes⟩ key : Nat) : Int) < (x.Nodes.length : Int)) = false := decide_eq_false (by show ¬ ((fnd x key : Nat) : Int) < _; omega)
    have hd' : decide (((fnd ⟨x.Cuts, x.Nodes⟩ key : Nat) : Int) ≥ (x.Nodes.length : Int)) = true := decide_eq_true (by show ((fnd x key : Nat) : Int) ≥ _; omega)
    rw [hd, hd', if_neg h]
    exact ⟨rfl, rfl⟩
def wthn (key lo hi : ByteArray) : Bool := !sLt key lo && (sEq hi nil || sLt key hi)
theorem within_eq (N : Nat) (key lo hi : ByteArray) : M.span_Within N key lo hi = some (wthn key lo hi) ∧ M.ref08_Within N key lo hi = some (wthn key lo hi) := by
  unfold M.span_Within M.ref08_Within wthn
  cases sLt key lo <;> cases sEq hi (ByteArray.mk #[]) <;> simp

/-! ### shards -/
/-- is it of the form? -/
def form (x : T_api_Map) : Prop := x.Nodes.length = x.Cuts.length + 1
instance (x : T_api_Map) : Decidable (form x) := inferInstanceAs (Decidable (_ = _))
def lo (x : T_api_Map) : Nat → ByteArray
  | 0 => nil
  | i + 1 => x.Cuts.getD i nil
def hi (x : T_api_Map) (i : Nat) : ByteArray := x.Cuts.getD i nil
def shd (x : T_api_Map) (i : Nat) : T_span_Shard := ⟨lo x i, hi x i, x.Nodes.getD i 0⟩
theorem form_dec (x : T_api_Map) (hs : x.Cuts.length ≤ 1000000) : (((x.Nodes).length : Int) != IntKind.i64.wrap (((x.Cuts).length : Int) + 1)) = !decide (form x) := by
  rw [wrap_succ (by omega)]
  by_cases h : form x
  · have h' : x.Nodes.length = x.Cuts.length + 1 := h
    rw [decide_eq_true h, h']; simp
  · have h' : x.Nodes.length ≠ x.Cuts.length + 1 := h
    rw [decide_eq_false h]
    simp only [Bool.not_false, bne_iff_ne, ne_eq]
    omega
theorem ends_in (N : Nat) (x : T_api_Map) (hs : x.Cuts.length ≤ 1000000) (hf : form x) (i : Nat) (hi' : i < x.Nodes.length) : M.ref08_Ends N x (i : Int) = some (lo x i, hi x i, true) := by
  have hf0 := hf
  unfold form at hf0
  unfold M.ref08_Ends M.ref08_Ends_k1 M.ref08_Ends_k2
  rw [form_dec x hs, decide_eq_true hf]
  have h1 : decide ((i : Int) < 0) = false := decide_eq_false (by omega)
  have h2 : decide ((i : Int) ≥ (x.Nodes.length : Int)) = false := decide_eq_false (by omega)
  simp only [Bool.not_true, cond_false, h1, h2, Option.bind_some]
  have hhi : (bif decide ((i : Int) < (x.Cuts.length : Int)) then (Option.bind (idx x.Cuts (i : Int)) fun x19 => some (lo x i, x19, true)) else some (lo x i, ByteArray.mk #[], true)) = some (lo x i, hi x i, true) := by
    unfold hi
    by_cases h : i < x.Cuts.length
    · rw [decide_eq_true (by omega : (i : Int) < (x.Cuts.length : Int)), idx_getD nil h]; rfl
    · rw [decide_eq_false (by omega : ¬ (i : Int) < (x.Cuts.length : Int))]
      simp only [cond_false]
      rw [List.getD_eq_getElem?_getD, List.getElem?_eq_none (by omega)]; rfl
  cases i with
  | zero => 
    have h3 : decide (((0 : Nat) : Int) > 0) = false := rfl
    rw [h3]
    exact hhi
  | succ j =>
    have h3 : decide (((j + 1 : Nat) : Int) > 0) = true := decide_eq_true (by omega)
    rw [h3, wrap_pred (by omega), idx_getD nil (show j < x.Cuts.length from by omega)]
    exact hhi
theorem ends_out (N : Nat) (x : T_api_Map) (hs : x.Cuts.length ≤ 1000000) (i : Int) (h : ¬ (form x ∧ 0 ≤ i ∧ i < x.Nodes.length)) : M.ref08_Ends N x i = some (nil, nil, false) := by
  unfold M.ref08_Ends
  rw [form_dec x hs]
  have hv : (bif (!decide (form x)) then (some true) else (bif decide (i < 0) then (some true) else (some (decide (i ≥ (x.Nodes.length : Int)))))) = some true := by
    by_cases hf : form x
    · rw [decide_eq_true hf]
      by_cases h0 : i < 0
      · rw [decide_eq_true h0]; rfl
      · rw [decide_eq_false h0, decide_eq_true (show i ≥ (x.Nodes.length : Int) from Int.not_lt.1 fun h' => h ⟨hf, by omega, h'⟩)]; rfl
    · rw [decide_eq_false hf]; rfl
  rw [hv]
  rfl

/-- a round of the walk through the shards -/
theorem shards_step (N : Nat) {σ : Type} (B : σ → Int → T_span_Shard → Option (σ × Bool)) (x : T_api_Map) (hs : x.Cuts.length ≤ 1000000) (hf : form x) (fuel i : Nat) (y : σ) (hi' : i < x.Nodes.length) :
    M.span_Shards_1_L1 N B (fuel + 1) x (i : Int) y = (B y i (shd x i)).bind fun r => bif (!r.2) then some r.1 else M.span_Shards_1_L1 N B fuel x ((i + 1 : Nat) : Int) r.1 := by
  have hf0 := hf
  unfold form at hf0
  simp only [M.span_Shards_1_L1, M.span_Shards_1_k2, M.span_Shards_1_k3]
  have h2 : decide ((i : Int) < (x.Nodes.length : Int)) = true := decide_eq_true (by omega)
  rw [h2, idx_getD 0 hi', wrap_succ (by omega)]
  simp only [cond_true, Option.bind_some]
  have hhi : ∀ l, (bif decide ((i : Int) < (x.Cuts.length : Int)) then (Option.bind (idx x.Cuts (i : Int)) fun x80 => (Option.bind (B y i (T_span_Shard.mk l x80 (x.Nodes.getD i 0))) fun y77 => (bif (!y77.2) then (some y77.1) else (M.span_Shards_1_L1 N B fuel x ((i + 1 : Nat) : Int) y77.1)))) else (Option.bind (B y i (T_span_Shard.mk l ByteArray.empty (x.Nodes.getD i 0))) fun y77 => (bif (!y77.2) then (some y77.1) else (M.span_Shards_1_L1 N B fuel x ((i + 1 : Nat) : Int) y77.1)))) =
      (B y i (T_span_Shard.mk l (hi x i) (x.Nodes.getD i 0))).bind fun r => bif (!r.2) then some r.1 else M.span_Shards_1_L1 N B fuel x ((i + 1 : Nat) : Int) r.1 := fun l => by
    unfold hi
    by_cases h : i < x.Cuts.length
    · rw [decide_eq_true (by omega : (i : Int) < (x.Cuts.length : Int)), idx_getD nil h]; rfl
    · rw [decide_eq_false (by omega : ¬ (i : Int) < (x.Cuts.length : Int))]
      simp only [cond_false]
      rw [show x.Cuts.getD i nil = nil from by rw [List.getD_eq_getElem?_getD, List.getElem?_eq_none (by omega)]; rfl]; rfl
  cases i with
  | zero =>
    have h3 : decide (((0 : Nat) : Int) > 0) = false := rfl
    rw [h3]
    exact hhi nil
  | succ j =>
    have h3 : decide (((j + 1 : Nat) : Int) > 0) = true := decide_eq_true (by omega)
    rw [h3, wrap_pred (by omega), idx_getD nil (show j < x.Cuts.length from by omega)]
    exact hhi _
theorem shards_end (N : Nat) {σ : Type} (B : σ → Int → T_span_Shard → Option (σ × Bool)) (x : T_api_Map) (fuel i : Nat) (y : σ) (hi' : x.Nodes.length ≤ i) : M.span_Shards_1_L1 N B (fuel + 1) x (i : Int) y = some y := by
  simp only [M.span_Shards_1_L1]
  rw [decide_eq_false (by omega : ¬ (i : Int) < (x.Nodes.length : Int))]
  rfl
theorem shards_eq (N : Nat) {σ : Type} (B : σ → Int → T_span_Shard → Option (σ × Bool)) (x : T_api_Map) (hs : x.Cuts.length ≤ 1000000) (y : σ) : M.span_Shards_1 N B x y = if form x then M.span_Shards_1_L1 N B N x 0 y else some y := by
  unfold M.span_Shards_1
  rw [form_dec x hs]
  by_cases h : form x
  · rw [decide_eq_true h, if_pos h]; rfl
  · rw [decide_eq_false h, if_neg h]; rfl
/-- rounds that all go on -/
theorem shards_all (N : Nat) {σ : Type} (B : σ → Int → T_span_Shard → Option (σ × Bool)) (x : T_api_Map) (hs : x.Cuts.length ≤ 1000000) (hf : form x) (I : Nat → σ) (h : ∀ i, i < x.Nodes.length → B (I i) i (shd x i) = some (I (i + 1), true)) :
    ∀ (fuel i : Nat), x.Nodes.length - i < fuel → i ≤ x.Nodes.length → M.span_Shards_1_L1 N B fuel x (i : Int) (I i) = some (I x.Nodes.length) := by
  intro fuel
  induction fuel with
  | zero => intro i h; omega
  | succ fuel ih =>
    intro i hfu hi
    by_cases hlt : i < x.Nodes.length
    · rw [shards_step N B x hs hf fuel i _ hlt, h i hlt]
      exact ih (i + 1) (by omega) (by omega)
    · have : i = x.Nodes.length := by omega
      subst this
      exact shards_end N B x fuel _ _ (Nat.le_refl _)
def zsh : T_span_Shard := ⟨nil, nil, 0⟩
theorem at_eq (N : Nat) (x : T_api_Map) (hs : x.Cuts.length ≤ 1000000) (hN : x.Nodes.length < N) (i : Int) : M.span_At N x i = some (if form x ∧ 0 ≤ i ∧ i < x.Nodes.length then (shd x i.toNat, true) else (zsh, false)) := by
  unfold M.span_At M.span_Shards
  simp only [Option.bind_some]
  rw [shards_eq N _ ⟨x.Cuts, x.Nodes⟩ hs]
  by_cases hf : form x
  · rw [if_pos (show form ⟨x.Cuts, x.Nodes⟩ from hf)]
    by_cases hin : 0 ≤ i ∧ i < x.Nodes.length
    · rw [if_pos ⟨hf, hin⟩]
      obtain ⟨k, rfl⟩ : ∃ k : Nat, i = k := ⟨i.toNat, by omega⟩
      have hk : k < x.Nodes.length := by omega
      have key : ∀ (fuel j : Nat), x.Nodes.length - j < fuel → j ≤ k → M.span_Shards_1_L1 N (fun (v72 : (Bool × ByteArray × ByteArray × Int × Nat)) x16 (x17 : T_span_Shard) => bif (v72.2.2.2.2 == 0) then (bif (x16 == (k : Int)) then (some (((true, x17.Lo, x17.Hi, x17.Node, 1)), false)) else (some (((v72.1, v72.2.1, v72.2.2.1, v72.2.2.2.1, 0)), true))) else none) fuel x (j : Int) (false, ByteArray.empty, ByteArray.empty, 0, 0) = some (true, lo x k, hi x k, x.Nodes.getD k 0, 1) := by
        intro fuel
        induction fuel with
        | zero => intro j h; omega
        | succ fuel ih =>
          intro j hj hjk
          rw [shards_step N _ x hs hf fuel j _ (by omega)]
          by_cases hjk' : j = k
          · subst hjk'
            simp [shd]
          · have hb : ((j : Int) == (k : Int)) = false := by simp; omega
            simp only [hb, beq_self_eq_true, cond_true, cond_false, Option.bind_some, Bool.not_true]
            exact ih (j + 1) (by omega) (by omega)
      refine (congrArg (fun q => Option.bind q _) (key N 0 (by omega) (by omega))).trans ?_
      simp [shd]
    · rw [if_neg (fun h => hin h.2)]
      have key := shards_all N (fun (v72 : (Bool × ByteArray × ByteArray × Int × Nat)) x16 (x17 : T_span_Shard) => bif (v72.2.2.2.2 == 0) then (bif (x16 == i) then (some (((true, x17.Lo, x17.Hi, x17.Node, 1)), false)) else (some (((v72.1, v72.2.1, v72.2.2.1, v72.2.2.2.1, 0)), true))) else none) x hs hf (fun _ => (false, ByteArray.empty, ByteArray.empty, 0, 0)) (fun j hj => by
        have hb : ((j : Int) == i) = false := by simp; omega
        simp [hb]) N 0 (by omega) (by omega)
      exact (congrArg (fun q => Option.bind q _) key).trans rfl
  · rw [if_neg (show ¬ form ⟨x.Cuts, x.Nodes⟩ from hf), if_neg (fun h => hf h.1)]
    rfl
end Go.Cf
