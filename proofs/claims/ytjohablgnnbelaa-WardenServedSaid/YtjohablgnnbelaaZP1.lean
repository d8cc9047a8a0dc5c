/- Plain facts that the laws use: the order of strings, indices. -/
import Derived.Laws.BitsLemmas
import Derived.Test.YtjohablgnnbelaaZK2
import Derived.Test.YtjohablgnnbelaaZM1
namespace Go.Cf
open Go
theorem bl_total : ∀ a b : List UInt8, (!Op.bytesLess a b) = (Op.bytesLess b a || b == a) := fun a => by
  induction a with
  | nil => intro b; cases b <;> simp [Op.bytesLess]
  | cons x a ih =>
    intro b
    cases b with
    | nil => simp [Op.bytesLess]
    | cons y b =>
      have hih := ih b
      simp only [Op.bytesLess]
      rcases Nat.lt_trichotomy x.toNat y.toNat with h | h | h
      · have h1 : x < y := h
        have h2 : ¬ y < x := fun h3 => by have : y.toNat < x.toNat := h3; omega
        have h3 : x ≠ y := fun e => by subst e; omega
        simp [h1, h2, h3, Ne.symm h3]
      · have h0 : x = y := UInt8.toNat_inj.1 h
        subst h0
        have h2 : ¬ x < x := fun h3 => by have : x.toNat < x.toNat := h3; omega
        simp only [h2, decide_false, Bool.false_or, beq_self_eq_true, Bool.true_and, hih, List.cons_beq_cons]
      · have h1 : y < x := h
        have h2 : ¬ x < y := fun h3 => by have : x.toNat < y.toNat := h3; omega
        have h3 : x ≠ y := fun e => by subst e; omega
        simp [h1, h2, h3, Ne.symm h3]
theorem bl_nil (a : List UInt8) : Op.bytesLess a [] = false := by cases a <;> rfl
theorem sLt_not (a b : ByteArray) : (!sLt a b) = (sLt b a || sEq b a) := bl_total _ _
end Go.Cf
namespace Go.Cf
open Go
end Go.Cf
namespace Go.Cf
open Go
theorem idx_get {α : Type} {l : List α} {i : Nat} (h : i < l.length) : idx l (i : Int) = some l[i] := by
  simp [idx, h]
theorem idx_getD {α : Type} {l : List α} {i : Nat} (d : α) (h : i < l.length) : idx l (i : Int) = some (l.getD i d) := by
  rw [idx_get h]; simp [h]
theorem wrap_small {x : Int} (h0 : -9223372036854775808 ≤ x) (h1 : x < 9223372036854775808) : IntKind.i64.wrap x = x := by
  rw [IntKind.wrap_i64]; omega
theorem wrap_succ {i : Nat} (h : i < 4611686018427387904) : IntKind.i64.wrap ((i : Int) + 1) = ((i + 1 : Nat) : Int) := by rw [wrap_small] <;> omega
theorem wrap_pred {i : Nat} (h : i < 4611686018427387904) : IntKind.i64.wrap (((i + 1 : Nat) : Int) - 1) = (i : Int) := by rw [wrap_small] <;> omega
abbrev small (n : Nat) : Prop := n ≤ 1000000
abbrev nil : ByteArray := ByteArray.mk #[]
theorem nil_toList : nil.toList = [] := by kernel_rfl
theorem bl_trans : ∀ a b c : List UInt8, Op.bytesLess a b = true → Op.bytesLess b c = true → Op.bytesLess a c = true := fun a => by
  induction a with
  | nil => intro b c h1 h2; cases b <;> cases c <;> simp_all [Op.bytesLess]
  | cons x a ih =>
    intro b c h1 h2
    cases b with
    | nil => simp [Op.bytesLess] at h1
    | cons y b =>
      cases c with
      | nil => simp [Op.bytesLess] at h2
      | cons z c =>
        simp only [Op.bytesLess, Bool.or_eq_true, decide_eq_true_eq, Bool.and_eq_true, beq_iff_eq] at h1 h2 ⊢
        rcases h1 with h1 | ⟨rfl, h1⟩
        · rcases h2 with h2 | ⟨rfl, h2⟩
          · exact .inl (UInt8.lt_trans h1 h2)
          · exact .inl h1
        · rcases h2 with h2 | ⟨rfl, h2⟩
          · exact .inl h2
          · exact .inr ⟨rfl, ih _ _ h1 h2⟩
theorem sLt_trans {a b c : ByteArray} (h1 : sLt a b = true) (h2 : sLt b c = true) : sLt a c = true := bl_trans _ _ _ h1 h2
theorem sEq_refl (a : ByteArray) : sEq a a = true := by simp [sEq]
theorem sEq_iff {a b : ByteArray} : sEq a b = true ↔ a.toList = b.toList := by simp [sEq]
theorem sLt_congr' {a b c : ByteArray} (h : sEq a b = true) : sLt c a = sLt c b := by unfold sLt; rw [sEq_iff.1 h]
theorem sLt_nil (a : ByteArray) : sLt a nil = false := by unfold sLt; rw [nil_toList]; exact bl_nil _
theorem sLe_iff (a b : ByteArray) : (sLt a b || sEq a b) = !sLt b a := by rw [sLt_not b a]; 
def le (key c : ByteArray) : Bool := !sLt key c
def fnd (x : T_api_Map) (key : ByteArray) : Nat := x.Cuts.countP (le key)
theorem drop_cons {α : Type} {l : List α} {i : Nat} (h : i < l.length) : l.drop i = l[i] :: l.drop (i + 1) := List.drop_eq_getElem_cons h
def own (x : T_api_Map) (key : ByteArray) : Int := if fnd x key < x.Nodes.length then x.Nodes.getD (fnd x key) 0 else -1
def wthn (key lo hi : ByteArray) : Bool := !sLt key lo && (sEq hi nil || sLt key hi)
theorem within_eq (N : Nat) (key lo hi : ByteArray) : M.span_Within N key lo hi = some (wthn key lo hi) ∧ M.ref08_Within N key lo hi = some (wthn key lo hi) := by
  unfold M.span_Within M.ref08_Within wthn
  cases sLt key lo <;> cases sEq hi (ByteArray.mk #[]) <;> simp
/-- is it of the form? -/
def form (x : T_api_Map) : Prop := x.Nodes.length = x.Cuts.length + 1
instance (x : T_api_Map) : Decidable (form x) := inferInstanceAs (Decidable (_ = _))
def lo (x : T_api_Map) : Nat → ByteArray
  | 0 => nil
  | i + 1 => x.Cuts.getD i nil
def hi (x : T_api_Map) (i : Nat) : ByteArray := x.Cuts.getD i nil
def shd (x : T_api_Map) (i : Nat) : T_span_Shard := ⟨lo x i, hi x i, x.Nodes.getD i 0⟩
theorem form_dec (x : T_api_Map) (hs : x.Cuts.length ≤ 1000000) : (((x.Nodes).length : Int) != IntKind.i64.wrap (((x.Cuts).length : Int) + 1)) = !decide (form x) := by
  rw [wrap_succ (by omega)]
  by_cases h : form x
  · have h' : x.Nodes.length = x.Cuts.length + 1 := h
    rw [decide_eq_true h, h']; simp
  · have h' : x.Nodes.length ≠ x.Cuts.length + 1 := h
    rw [decide_eq_false h]
    simp only [Bool.not_false, bne_iff_ne, ne_eq]
    omega
theorem ends_in (N : Nat) (x : T_api_Map) (hs : x.Cuts.length ≤ 1000000) (hf : form x) (i : Nat) (hi' : i < x.Nodes.length) : M.ref08_Ends N x (i : Int) = some (lo x i, hi x i, true) := by
  have hf0 := hf
  unfold form at hf0
  unfold M.ref08_Ends M.ref08_Ends_k1 M.ref08_Ends_k2
  rw [form_dec x hs, decide_eq_true hf]
  have h1 : decide ((i : Int) < 0) = false := decide_eq_false (by omega)
  have h2 : decide ((i : Int) ≥ (x.Nodes.length : Int)) = false := decide_eq_false (by omega)
  simp only [Bool.not_true, cond_false, h1, h2, Option.bind_some]
  have hhi : (bif decide ((i : Int) < (x.Cuts.length : Int)) then (Option.bind (idx x.Cuts (i : Int)) fun x19 => some (lo x i, x19, true)) else some (lo x i, ByteArray.mk #[], true)) = some (lo x i, hi x i, true) := by
    unfold hi
    by_cases h : i < x.Cuts.length
    · rw [decide_eq_true (by omega : (i : Int) < (x.Cuts.length : Int)), idx_getD nil h]; rfl
    · rw [decide_eq_false (by omega : ¬ (i : Int) < (x.Cuts.length : Int))]
      simp only [cond_false]
      rw [List.getD_eq_getElem?_getD, List.getElem?_eq_none (by omega)]; rfl
  cases i with
  | zero => 
    have h3 : decide (((0 : Nat) : Int) > 0) = false := rfl
    rw [h3]
    exact hhi
  | succ j =>
    have h3 : decide (((j + 1 : Nat) : Int) > 0) = true := decide_eq_true (by omega)
    rw [h3, wrap_pred (by omega), idx_getD nil (show j < x.Cuts.length from by omega)]
    exact hhi
theorem ends_out (N : Nat) (x : T_api_Map) (hs : x.Cuts.length ≤ 1000000) (i : Int) (h : ¬ (form x ∧ 0 ≤ i ∧ i < x.Nodes.length)) : M.ref08_Ends N x i = some (nil, nil, false) := by
  unfold M.ref08_Ends
  rw [form_dec x hs]
  have hv : (bif (!decide (form x)) then (some true) else (bif decide (i < 0) then (some true) else (some (decide (i ≥ (x.Nodes.length : Int)))))) = some true := by
    by_cases hf : form x
    · rw [decide_eq_true hf]
      by_cases h0 : i < 0
      · rw [decide_eq_true h0]; rfl
      · rw [decide_eq_false h0, decide_eq_true (show i ≥ (x.Nodes.length : Int) from Int.not_lt.1 fun h' => h ⟨hf, by omega, h'⟩)]; rfl
    · rw [decide_eq_false hf]; rfl
  rw [hv]
  rfl
/-- a round of the walk through the shards -/
theorem shards_step (N : Nat) {σ : Type} (B : σ → Int → T_span_Shard → Option (σ × Bool)) (x : T_api_Map) (hs : x.Cuts.length ≤ 1000000) (hf : form x) (fuel i : Nat) (y : σ) (hi' : i < x.Nodes.length) :
    M.span_Shards_1_L1 N B (fuel + 1) x (i : Int) y = (B y i (shd x i)).bind fun r => bif (!r.2) then some r.1 else M.span_Shards_1_L1 N B fuel x ((i + 1 : Nat) : Int) r.1 := by
  have hf0 := hf
  unfold form at hf0
  simp only [M.span_Shards_1_L1, M.span_Shards_1_k2, M.span_Shards_1_k3]
  have h2 : decide ((i : Int) < (x.Nodes.length : Int)) = true := decide_eq_true (by omega)
  rw [h2, idx_getD 0 hi', wrap_succ (by omega)]
  simp only [cond_true, Option.bind_some]
  have hhi : ∀ l, (bif decide ((i : Int) < (x.Cuts.length : Int)) then (Option.bind (idx x.Cuts (i : Int)) fun x80 => (Option.bind (B y i (T_span_Shard.mk l x80 (x.Nodes.getD i 0))) fun y77 => (bif (!y77.2) then (some y77.1) else (M.span_Shards_1_L1 N B fuel x ((i + 1 : Nat) : Int) y77.1)))) else (Option.bind (B y i (T_span_Shard.mk l ByteArray.empty (x.Nodes.getD i 0))) fun y77 => (bif (!y77.2) then (some y77.1) else (M.span_Shards_1_L1 N B fuel x ((i + 1 : Nat) : Int) y77.1)))) =
      (B y i (T_span_Shard.mk l (hi x i) (x.Nodes.getD i 0))).bind fun r => bif (!r.2) then some r.1 else M.span_Shards_1_L1 N B fuel x ((i + 1 : Nat) : Int) r.1 := fun l => by
    unfold hi
    by_cases h : i < x.Cuts.length
    · rw [decide_eq_true (by omega : (i : Int) < (x.Cuts.length : Int)), idx_getD nil h]; rfl
    · rw [decide_eq_false (by omega : ¬ (i : Int) < (x.Cuts.length : Int))]
      simp only [cond_false]
      rw [show x.Cuts.getD i nil = nil from by rw [List.getD_eq_getElem?_getD, List.getElem?_eq_none (by omega)]; rfl]; rfl
  cases i with
  | zero =>
    have h3 : decide (((0 : Nat) : Int) > 0) = false := rfl
    rw [h3]
    exact hhi nil
  | succ j =>
    have h3 : decide (((j + 1 : Nat) : Int) > 0) = true := decide_eq_true (by omega)
    rw [h3, wrap_pred (by omega), idx_getD nil (show j < x.Cuts.length from by omega)]
    exact hhi _
theorem shards_end (N : Nat) {σ : Type} (B : σ → Int → T_span_Shard → Option (σ × Bool)) (x : T_api_Map) (fuel i : Nat) (y : σ) (hi' : x.Nodes.length ≤ i) : M.span_Shards_1_L1 N B (fuel + 1) x (i : Int) y = some y := by
  simp only [M.span_Shards_1_L1]
  rw [decide_eq_false (by omega : ¬ (i : Int) < (x.Nodes.length : Int))]
  rfl
theorem shards_eq (N : Nat) {σ : Type} (B : σ → Int → T_span_Shard → Option (σ × Bool)) (x : T_api_Map) (hs : x.Cuts.length ≤ 1000000) (y : σ) : M.span_Shards_1 N B x y = if form x then M.span_Shards_1_L1 N B N x 0 y else some y := by
  unfold M.span_Shards_1
  rw [form_dec x hs]
  by_cases h : form x
  · rw [decide_eq_true h, if_pos h]; rfl
  · rw [decide_eq_false h, if_neg h]; rfl
/-- rounds that all go on -/
theorem shards_all (N : Nat) {σ : Type} (B : σ → Int → T_span_Shard → Option (σ × Bool)) (x : T_api_Map) (hs : x.Cuts.length ≤ 1000000) (hf : form x) (I : Nat → σ) (h : ∀ i, i < x.Nodes.length → B (I i) i (shd x i) = some (I (i + 1), true)) :
    ∀ (fuel i : Nat), x.Nodes.length - i < fuel → i ≤ x.Nodes.length → M.span_Shards_1_L1 N B fuel x (i : Int) (I i) = some (I x.Nodes.length) := by
  intro fuel
  induction fuel with
  | zero => intro i h; omega
  | succ fuel ih =>
    intro i hfu hi
    by_cases hlt : i < x.Nodes.length
    · rw [shards_step N B x hs hf fuel i _ hlt, h i hlt]
      exact ih (i + 1) (by omega) (by omega)
    · have : i = x.Nodes.length := by omega
      subst this
      exact shards_end N B x fuel _ _ (Nat.le_refl _)
def zsh : T_span_Shard := ⟨nil, nil, 0⟩
theorem at_eq (N : Nat) (x : T_api_Map) (hs : x.Cuts.length ≤ 1000000) (hN : x.Nodes.length < N) (i : Int) : M.span_At N x i = some (if form x ∧ 0 ≤ i ∧ i < x.Nodes.length then (shd x i.toNat, true) else (zsh, false)) := by
  unfold M.span_At M.span_Shards
  simp only [Option.bind_some]
  rw [shards_eq N _ ⟨x.Cuts, x.Nodes⟩ hs]
  by_cases hf : form x
  · rw [if_pos (show form ⟨x.Cuts, x.Nodes⟩ from hf)]
    by_cases hin : 0 ≤ i ∧ i < x.Nodes.length
    · rw [if_pos ⟨hf, hin⟩]
      obtain ⟨k, rfl⟩ : ∃ k : Nat, i = k := ⟨i.toNat, by omega⟩
      have hk : k < x.Nodes.length := by omega
      have key : ∀ (fuel j : Nat), x.Nodes.length - j < fuel → j ≤ k → M.span_Shards_1_L1 N (fun (v72 : (Bool × ByteArray × ByteArray × Int × Nat)) x16 (x17 : T_span_Shard) => bif (v72.2.2.2.2 == 0) then (bif (x16 == (k : Int)) then (some (((true, x17.Lo, x17.Hi, x17.Node, 1)), false)) else (some (((v72.1, v72.2.1, v72.2.2.1, v72.2.2.2.1, 0)), true))) else none) fuel x (j : Int) (false, ByteArray.empty, ByteArray.empty, 0, 0) = some (true, lo x k, hi x k, x.Nodes.getD k 0, 1) := by
        intro fuel
        induction fuel with
        | zero => intro j h; omega
        | succ fuel ih =>
          intro j hj hjk
          rw [shards_step N _ x hs hf fuel j _ (by omega)]
          by_cases hjk' : j = k
          · subst hjk'
            simp [shd]
          · have hb : ((j : Int) == (k : Int)) = false := by simp; omega
            simp only [hb, beq_self_eq_true, cond_true, cond_false, Option.bind_some, Bool.not_true]
            exact ih (j + 1) (by omega) (by omega)
      refine (congrArg (fun q => Option.bind q _) (key N 0 (by omega) (by omega))).trans ?_
      simp [shd]
    · rw [if_neg (fun h => hin h.2)]
      have key := shards_all N (fun (v72 : (Bool × ByteArray × ByteArray × Int × Nat)) x16 (x17 : T_span_Shard) => bif (v72.2.2.2.2 == 0) then (bif (x16 == i) then (some (((true, x17.Lo, x17.Hi, x17.Node, 1)), false)) else (some (((v72.1, v72.2.1, v72.2.2.1, v72.2.2.2.1, 0)), true))) else none) x hs hf (fun _ => (false, ByteArray.empty, ByteArray.empty, 0, 0)) (fun j hj => by
        have hb : ((j : Int) == i) = false := by simp; omega
        simp [hb]) N 0 (by omega) (by omega)
      exact (congrArg (fun q => Option.bind q _) key).trans rfl
  · rw [if_neg (show ¬ form ⟨x.Cuts, x.Nodes⟩ from hf), if_neg (fun h => hf h.1)]
    rfl
end Go.Cf
namespace Go.Cf
open Go
def chkNodes (nodes : Int) : List Int → Int
  | [] => 0
  | n :: l => if n < 0 ∨ n ≥ nodes then 7 else chkNodes nodes l
def chkCuts (prev : ByteArray) : List ByteArray → Int → Int
  | [], k => k
  | c :: l, k => if 16 < c.size then 6 else if sLt prev c then chkCuts c l k else 3
def chk (x : T_api_Map) (nodes : Int) : Int := if nodes < 1 ∨ nodes > 4 then 1 else if 8 < x.Nodes.length then 9 else if form x then chkCuts nil x.Cuts (chkNodes nodes x.Nodes) else 3
theorem chk_L2 (N : Nat) (x : T_api_Map) (nodes : Int) : ∀ (fuel i : Nat), x.Nodes.length - i < fuel → x.Nodes.length ≤ 8 → i ≤ x.Nodes.length → M.span_Check_L2 N fuel x nodes (i : Int) = some (chkNodes nodes (x.Nodes.drop i)) ∧ M.ref08_Check_L2 N fuel x nodes (i : Int) = some (chkNodes nodes (x.Nodes.drop i)) := by
  intro fuel
  induction fuel with
  | zero => intro i h; omega
  | succ fuel ih =>
    intro i hf h8 hi
    simp only [M.span_Check_L2, M.ref08_Check_L2]
    by_cases hlt : i < x.Nodes.length
    · have hd : decide ((i : Int) < (x.Nodes.length : Int)) = true := decide_eq_true (by omega)
      simp only [hd, cond_true, idx_get hlt, Option.bind_some, drop_cons hlt, chkNodes]
      rw [wrap_succ (by omega)]
      by_cases h0 : x.Nodes[i] < 0
      · simp [h0]
      · by_cases h1 : x.Nodes[i] ≥ nodes
        · simp [h0, h1]
        · simp only [h0, h1, decide_false, cond_false, Option.bind_some, false_or, if_false]
          exact ih (i + 1) (by omega) h8 (by omega)
    · have hd : decide ((i : Int) < (x.Nodes.length : Int)) = false := decide_eq_false (by omega)
      rw [hd, List.drop_eq_nil_of_le (by omega)]
      exact ⟨rfl, rfl⟩
theorem sLt_nil_left (a : ByteArray) : sLt nil a = !sEq a nil := by
  unfold sLt sEq
  rw [nil_toList]
  cases a.toList <;> simp [Op.bytesLess]
theorem chk_L1 (N : Nat) (hN : 100 ≤ N) (x : T_api_Map) (nodes : Int) : ∀ (fuel i : Nat), x.Cuts.length - i < fuel → x.Cuts.length ≤ 8 → x.Nodes.length ≤ 8 → i ≤ x.Cuts.length → M.span_Check_L1 N fuel x nodes (i : Int) = some (chkCuts (lo x i) (x.Cuts.drop i) (chkNodes nodes x.Nodes)) ∧ M.ref08_Check_L1 N fuel x nodes (lo x i) (i : Int) = some (chkCuts (lo x i) (x.Cuts.drop i) (chkNodes nodes x.Nodes)) := by
  intro fuel
  induction fuel with
  | zero => intro i h; omega
  | succ fuel ih =>
    intro i hf h8 hn8 hi
    simp only [M.span_Check_L1, M.ref08_Check_L1]
    by_cases hlt : i < x.Cuts.length
    · have hd : decide ((i : Int) < (x.Cuts.length : Int)) = true := decide_eq_true (by omega)
      simp only [hd, cond_true, idx_get hlt, Option.bind_some, drop_cons hlt, chkCuts]
      rw [wrap_succ (by omega)]
      have hlo : lo x (i + 1) = x.Cuts[i] := by simp [lo, hlt]
      by_cases hsz : 16 < (x.Cuts[i]).size
      · have : decide (((x.Cuts[i]).size : Int) > 16) = true := decide_eq_true (by omega)
        simp [this, hsz]
      · have hszd : decide (((x.Cuts[i]).size : Int) > 16) = false := decide_eq_false (by omega)
        simp only [hszd, cond_false, if_neg hsz]
        have hc1 : (bif sEq x.Cuts[i] (ByteArray.mk #[]) then some true else bif decide ((i : Int) > 0) then (idx x.Cuts (IntKind.i64.wrap ((i : Int) - 1))).bind fun x86 => some (!sLt x86 x.Cuts[i]) else some false) = some (!sLt (lo x i) x.Cuts[i]) := by
          cases i with
          | zero =>
            have h3 : decide (((0 : Nat) : Int) > 0) = false := rfl
            rw [h3]
            show _ = some (!sLt nil _)
            rw [sLt_nil_left, Bool.not_not]
            cases sEq x.Cuts[0] (ByteArray.mk #[]) <;> rfl
          | succ j =>
            have h3 : decide (((j + 1 : Nat) : Int) > 0) = true := decide_eq_true (by omega)
            have hj : j < x.Cuts.length := by omega
            rw [h3, wrap_pred (by omega), idx_get hj]
            have hgj : lo x (j + 1) = x.Cuts[j] := by simp [lo, hj]
            rw [hgj]
            simp only [cond_true, Option.bind_some]
            cases he : sEq x.Cuts[j + 1] (ByteArray.mk #[]) with
            | false => rfl
            | true =>
              have h1 : sLt x.Cuts[j] x.Cuts[j + 1] = sLt x.Cuts[j] nil := (sLt_congr' he)
              rw [h1, sLt_nil]; rfl
        have hc2 : (sLt x.Cuts[i] (lo x i) || sEq x.Cuts[i] (lo x i)) = !sLt (lo x i) x.Cuts[i] := sLe_iff _ _
        rw [hc1, hc2]
        simp only [Option.bind_some]
        have := ih (i + 1) (by omega) h8 hn8 (by omega)
        rw [hlo] at this
        cases hl : sLt (lo x i) x.Cuts[i] with
        | true => simp only [Bool.not_true, cond_false, if_true]; exact this
        | false => simp
    · have hd : decide ((i : Int) < (x.Cuts.length : Int)) = false := decide_eq_false (by omega)
      rw [hd, List.drop_eq_nil_of_le (by omega)]
      simp only [cond_false, chkCuts]
      have := chk_L2 N x nodes N 0 (by omega) hn8 (by omega)
      simpa using this
theorem chk_eq (N : Nat) (hN : 100 ≤ N) (x : T_api_Map) (nodes : Int) (hx : x.Cuts.length ≤ maxLen) : M.span_Check N x nodes = some (chk x nodes) ∧ M.ref08_Check N x nodes = some (chk x nodes) := by
  unfold M.span_Check M.ref08_Check chk
  have hv : (bif decide (nodes < 1) then (some true) else (some (decide (nodes > 4)))) = some (decide (nodes < 1 ∨ nodes > 4)) := by
    by_cases h : nodes < 1 <;> simp [h]
  rw [hv]
  simp only [Option.bind_some]
  by_cases h1 : nodes < 1 ∨ nodes > 4
  · simp [h1]
  · simp only [decide_eq_false h1, cond_false, if_neg h1]
    by_cases h2 : 8 < x.Nodes.length
    · have : decide (((x.Nodes).length : Int) > 8) = true := decide_eq_true (by omega)
      simp [this, h2]
    · have hd : decide (((x.Nodes).length : Int) > 8) = false := decide_eq_false (by omega)
      simp only [hd, cond_false, if_neg h2]
      have hml : maxLen ≤ 9223372036854775807 := by decide
      by_cases h3 : form x
      · have h3' : x.Nodes.length = x.Cuts.length + 1 := h3
        rw [form_dec x (by omega), decide_eq_true h3, if_pos h3]
        have := chk_L1 N hN x nodes N 0 (by omega) (by omega) (by omega) (by omega)
        simpa [lo] using this
      · have hb : (((x.Nodes).length : Int) != IntKind.i64.wrap (((x.Cuts).length : Int) + 1)) = true := by
          have h3' : x.Nodes.length ≠ x.Cuts.length + 1 := h3
          rw [bne_iff_ne, IntKind.wrap_i64]
          omega
        rw [hb, if_neg h3]
        exact ⟨rfl, rfl⟩
structure Right (x : T_api_Map) (nodes : Int) : Prop where
  lo1 : 1 ≤ nodes
  hi4 : nodes ≤ 4
  most : x.Nodes.length ≤ 8
  form : x.Nodes.length = x.Cuts.length + 1
  size : ∀ i, i < x.Cuts.length → (x.Cuts.getD i nil).size ≤ 16
  asc : ∀ i, i < x.Cuts.length → sLt (lo x i) (x.Cuts.getD i nil) = true
  node : ∀ n ∈ x.Nodes, 0 ≤ n ∧ n < nodes
theorem chkNodes_iff (nodes : Int) : ∀ l : List Int, chkNodes nodes l = 0 ↔ ∀ n ∈ l, 0 ≤ n ∧ n < nodes := fun l => by
  induction l with
  | nil => simp [chkNodes]
  | cons n l ih =>
    simp only [chkNodes, List.mem_cons, forall_eq_or_imp]
    by_cases h : n < 0 ∨ n ≥ nodes
    · rw [if_pos h]
      constructor
      · intro h'; cases h'
      · intro h'; omega
    · rw [if_neg h, ih]
      constructor
      · intro h'; exact ⟨by omega, h'⟩
      · intro h'; exact h'.2
def ascFrom (prev : ByteArray) (l : List ByteArray) : Prop := ∀ i, i < l.length → (l.getD i nil).size ≤ 16 ∧ sLt ((prev :: l).getD i nil) (l.getD i nil) = true
theorem chkCuts_iff (k : Int) : ∀ (l : List ByteArray) (prev : ByteArray), chkCuts prev l k = 0 ↔ ascFrom prev l ∧ k = 0 := fun l => by
  induction l with
  | nil => intro prev; simp [chkCuts, ascFrom]
  | cons c l ih =>
    intro prev
    simp only [chkCuts]
    by_cases h : 16 < c.size
    · rw [if_pos h]
      constructor
      · intro h'; cases h'
      · rintro ⟨h', _⟩
        have := (h' 0 (by simp)).1
        simp at this; omega
    · rw [if_neg h]
      cases hl : sLt prev c with
      | false =>
        simp only [Bool.false_eq_true, if_false]
        constructor
        · intro h'; cases h'
        · rintro ⟨h', _⟩
          have := (h' 0 (by simp)).2
          simp [hl] at this
      | true =>
        simp only [if_true, ih]
        constructor
        · rintro ⟨h1, h2⟩
          refine ⟨fun i hi => ?_, h2⟩
          cases i with
          | zero => exact ⟨by simp; omega, by simpa using hl⟩
          | succ i =>
            have := h1 i (by simpa using hi)
            simpa using this
        · rintro ⟨h1, h2⟩
          refine ⟨fun i hi => ?_, h2⟩
          have := h1 (i + 1) (by simpa using hi)
          simpa using this
theorem lo_eq (x : T_api_Map) (i : Nat) : lo x i = (nil :: x.Cuts).getD i nil := by cases i <;> simp [lo]
theorem chk_iff (x : T_api_Map) (nodes : Int) : chk x nodes = 0 ↔ Right x nodes := by
  unfold chk
  by_cases h1 : nodes < 1 ∨ nodes > 4
  · rw [if_pos h1]
    constructor
    · intro h; cases h
    · intro h; have := h.lo1; have := h.hi4; omega
  · rw [if_neg h1]
    by_cases h2 : 8 < x.Nodes.length
    · rw [if_pos h2]
      constructor
      · intro h; cases h
      · intro h; have := h.most; omega
    · rw [if_neg h2]
      by_cases h3 : form x
      · rw [if_pos h3, chkCuts_iff, chkNodes_iff]
        constructor
        · rintro ⟨ha, hn⟩
          exact ⟨by omega, by omega, by omega, h3, fun i hi => (ha i hi).1, fun i hi => by rw [lo_eq]; exact (ha i hi).2, hn⟩
        · intro h
          exact ⟨fun i hi => ⟨h.size i hi, by have := h.asc i hi; rwa [lo_eq] at this⟩, h.node⟩
      · rw [if_neg h3]
        constructor
        · intro h; cases h
        · intro h; exact absurd h.form h3
def rising (l : List ByteArray) : Prop := ∀ i, i < l.length → sLt ((nil :: l).getD i nil) (l.getD i nil) = true
theorem Right.rising {x : T_api_Map} {nodes : Int} (h : Right x nodes) : rising x.Cuts := fun i hi => by rw [← lo_eq]; exact h.asc i hi
theorem cut_ne_nil {l : List ByteArray} (h : rising l) (j : Nat) (hj : j < l.length) : sEq (l.getD j nil) nil = false := by
  cases he : sEq (l.getD j nil) nil with
  | false => rfl
  | true =>
    have := h j hj
    rw [sLt_congr' he, sLt_nil] at this
    cases this
end Go.Cf
namespace Go.Cf
open Go
theorem apd_ok {α : Type} {l m : List α} (h : l.length + m.length < 2147483648) : apd l m = some (l ++ m) := by simp [apd, h]
theorem slc_ok {α : Type} {l : List α} {lo hi : Nat} (h1 : lo ≤ hi) (h2 : hi ≤ l.length) : slc l (lo : Int) (hi : Int) = some ((l.take hi).drop lo) := by
  unfold slc
  rw [if_pos ⟨by omega, by omega, by omega⟩]
  simp
theorem slc_take {α : Type} {l : List α} {hi : Nat} (h2 : hi ≤ l.length) : slc l 0 (hi : Int) = some (l.take hi) := by
  have := slc_ok (l := l) (lo := 0) (hi := hi) (by omega) h2
  simpa using this
theorem slc_drop {α : Type} {l : List α} {lo : Nat} (h1 : lo ≤ l.length) : slc l (lo : Int) (l.length : Int) = some (l.drop lo) := by
  have := slc_ok (l := l) (lo := lo) (hi := l.length) h1 (Nat.le_refl _)
  simpa using this
def empt : T_api_Map := ⟨[], []⟩
def insAt {α : Type} (l : List α) (i : Nat) (a : α) : List α := l.take i ++ a :: l.drop i
theorem insAt_length {α : Type} {l : List α} {i : Nat} {a : α} (h : i ≤ l.length) : (insAt l i a).length = l.length + 1 := by
  simp [insAt]; omega
theorem insAt_lt {α : Type} {l : List α} {i k : Nat} {a : α} (hi : i ≤ l.length) (h : k < i) : (insAt l i a)[k]? = l[k]? := by
  unfold insAt
  rw [List.getElem?_append_left (by simp; omega), List.getElem?_take, if_pos h]
theorem insAt_eq {α : Type} {l : List α} {i : Nat} {a : α} (hi : i ≤ l.length) : (insAt l i a)[i]? = some a := by
  unfold insAt
  rw [List.getElem?_append_right (by rw [List.length_take, Nat.min_eq_left hi]; exact Nat.le_refl _), List.length_take, Nat.min_eq_left hi]
  simp
theorem insAt_gt {α : Type} {l : List α} {i k : Nat} {a : α} (hi : i ≤ l.length) (h : i ≤ k) : (insAt l i a)[k + 1]? = l[k]? := by
  unfold insAt
  rw [List.getElem?_append_right (by simp; omega), List.length_take, Nat.min_eq_left hi]
  rw [show k + 1 - i = (k - i) + 1 from by omega, List.getElem?_cons_succ, List.getElem?_drop]
  congr 1; omega
theorem take_next {α : Type} {X : List α} {k : Nat} {a : α} (h : X[k]? = some a) : X.take k ++ [a] = X.take (k + 1) := by
  rw [List.take_add_one, h]; rfl
theorem take_none {α : Type} {X : List α} {k : Nat} (h : X[k]? = none) : X.take k = X.take (k + 1) := by
  rw [List.take_add_one, h]; simp
def splitE (x : T_api_Map) (nodes i : Int) (key : ByteArray) : Int :=
  if chk x nodes ≠ 0 then chk x nodes else if ¬ (0 ≤ i ∧ i < x.Nodes.length) then 7
  else if 16 < key.size ∨ sLt (lo x i.toNat) key = false ∨ wthn key (lo x i.toNat) (hi x i.toNat) = false then 14 else if x.Nodes.length = 8 then 9 else 0
def splitM (x : T_api_Map) (i : Nat) (key : ByteArray) : T_api_Map := ⟨insAt x.Cuts i key, insAt x.Nodes i (x.Nodes.getD i 0)⟩
def splitR (x : T_api_Map) (nodes i : Int) (key : ByteArray) : T_api_Map × Int := if splitE x nodes i key = 0 then (splitM x i.toNat key, 0) else (empt, splitE x nodes i key)
theorem refSplit_L1 (N : Nat) (x : T_api_Map) (i : Nat) (key : ByteArray) (hf : x.Nodes.length = x.Cuts.length + 1) (h8 : x.Nodes.length ≤ 8) (hi' : i < x.Nodes.length) : ∀ (fuel k : Nat), x.Nodes.length - k < fuel → k ≤ x.Nodes.length →
    M.ref08_Split_L1 N fuel x (i : Int) key (if k ≤ i then (splitM x i key).Cuts.take k else (splitM x i key).Cuts.take (k + 1)) (if k ≤ i then (splitM x i key).Nodes.take k else (splitM x i key).Nodes.take (k + 1)) (k : Int) = some (splitM x i key, 0) := by
  intro fuel
  induction fuel with
  | zero => intro k h; omega
  | succ fuel ih =>
    intro k hk hkl
    simp only [M.ref08_Split_L1, M.ref08_Split_k2, M.ref08_Split_k3]
    have hcl : (splitM x i key).Cuts.length = x.Cuts.length + 1 := insAt_length (by omega)
    have hnl : (splitM x i key).Nodes.length = x.Nodes.length + 1 := insAt_length (by omega)
    by_cases hlt : k < x.Nodes.length
    · have hd : decide ((k : Int) < (x.Nodes.length : Int)) = true := decide_eq_true (by omega)
      simp only [hd, cond_true, idx_get hlt, Option.bind_some]
      rw [wrap_succ (by omega)]
      have hIH := ih (k + 1) (by omega) (by omega)
      have hxk : x.Nodes[k]? = some x.Nodes[k] := List.getElem?_eq_getElem hlt
      rcases Nat.lt_trichotomy k i with hki | hki | hki
      · -- ahead of the cut
        have hkc : k < x.Cuts.length := by omega
        have hb : ((k : Int) == (i : Int)) = false := by simp; omega
        rw [if_pos (by omega), if_pos (by omega)]
        rw [if_pos (by omega), if_pos (by omega)] at hIH
        rw [apd_ok (by simp; omega)]
        have hdc : decide ((k : Int) < (x.Cuts.length : Int)) = true := decide_eq_true (by omega)
        simp only [Option.bind_some, hb, cond_false, hdc, cond_true, idx_get hkc]
        rw [apd_ok (by simp; omega)]
        simp only [Option.bind_some]
        rw [take_next (show (splitM x i key).Nodes[k]? = some x.Nodes[k] from (insAt_lt (by omega) hki).trans hxk), take_next (show (splitM x i key).Cuts[k]? = some x.Cuts[k] from (insAt_lt (by omega) hki).trans (List.getElem?_eq_getElem hkc))]
        exact hIH
      · subst hki
        have hb : ((k : Int) == (k : Int)) = true := by simp
        rw [if_pos (by omega), if_pos (by omega)]
        rw [if_neg (by omega), if_neg (by omega)] at hIH
        rw [apd_ok (by simp; omega)]
        have hgd : x.Nodes.getD k 0 = x.Nodes[k] := by simp [hlt]
        simp only [Option.bind_some, hb, cond_true]
        rw [take_next (show (splitM x k key).Nodes[k]? = some x.Nodes[k] from by rw [← hgd]; exact insAt_eq (by omega))]
        rw [apd_ok (by simp; omega)]
        simp only [Option.bind_some]
        rw [apd_ok (by simp; omega)]
        simp only [Option.bind_some]
        rw [take_next (show (splitM x k key).Nodes[k + 1]? = some x.Nodes[k] from (insAt_gt (by omega) (Nat.le_refl _)).trans hxk), take_next (show (splitM x k key).Cuts[k]? = some key from insAt_eq (by omega))]
        by_cases hkc : k < x.Cuts.length
        · have hdc : decide ((k : Int) < (x.Cuts.length : Int)) = true := decide_eq_true (by omega)
          simp only [hdc, cond_true, idx_get hkc, Option.bind_some]
          rw [apd_ok (by simp; omega)]
          simp only [Option.bind_some]
          rw [take_next (show (splitM x k key).Cuts[k + 1]? = some x.Cuts[k] from (insAt_gt (by omega) (Nat.le_refl _)).trans (List.getElem?_eq_getElem hkc))]
          exact hIH
        · have hdc : decide ((k : Int) < (x.Cuts.length : Int)) = false := decide_eq_false (by omega)
          simp only [hdc, cond_false]
          rw [take_none (X := (splitM x k key).Cuts) (k := k + 1) (List.getElem?_eq_none (by omega))]
          exact hIH
      · have hb : ((k : Int) == (i : Int)) = false := by simp; omega
        rw [if_neg (by omega), if_neg (by omega)]
        rw [if_neg (by omega), if_neg (by omega)] at hIH
        rw [apd_ok (by simp; omega)]
        simp only [Option.bind_some, hb, cond_false]
        rw [take_next (show (splitM x i key).Nodes[k + 1]? = some x.Nodes[k] from (insAt_gt (by omega) (by omega)).trans hxk)]
        by_cases hkc : k < x.Cuts.length
        · have hdc : decide ((k : Int) < (x.Cuts.length : Int)) = true := decide_eq_true (by omega)
          simp only [hdc, cond_true, idx_get hkc, Option.bind_some]
          rw [apd_ok (by simp; omega)]
          simp only [Option.bind_some]
          rw [take_next (show (splitM x i key).Cuts[k + 1]? = some x.Cuts[k] from (insAt_gt (by omega) (by omega)).trans (List.getElem?_eq_getElem hkc))]
          exact hIH
        · have hdc : decide ((k : Int) < (x.Cuts.length : Int)) = false := decide_eq_false (by omega)
          simp only [hdc, cond_false]
          rw [take_none (X := (splitM x i key).Cuts) (k := k + 1) (List.getElem?_eq_none (by omega))]
          exact hIH
    · have hd : decide ((k : Int) < (x.Nodes.length : Int)) = false := decide_eq_false (by omega)
      rw [hd, if_neg (by omega), if_neg (by omega), List.take_of_length_le (by omega), List.take_of_length_le (by omega)]
      rfl
theorem split_eq (N : Nat) (hN : 100 ≤ N) (x : T_api_Map) (nodes i : Int) (key : ByteArray) (hx : x.Cuts.length ≤ maxLen) : M.span_Split N x nodes i key = some (splitR x nodes i key) ∧ M.ref08_Split N x nodes i key = some (splitR x nodes i key) := by
  have hc := chk_eq N hN ⟨x.Cuts, x.Nodes⟩ nodes hx
  unfold M.span_Split M.ref08_Split splitR splitE
  rw [hc.1, hc.2]
  simp only [Option.bind_some]
  by_cases h0 : chk x nodes = 0
  · have hR := (chk_iff x nodes).1 h0
    have hf := hR.form
    have hmost := hR.most
    have hs : x.Cuts.length ≤ 1000000 := by omega
    rw [show chk ⟨x.Cuts, x.Nodes⟩ nodes = 0 from h0]
    simp only [bne_self_eq_false, cond_false, h0, ne_eq, not_true, if_false]
    rw [show (T_api_Map.mk x.Cuts x.Nodes) = x from rfl, at_eq N x hs (by omega) i]
    simp only [Option.bind_some]
    by_cases hin : 0 ≤ i ∧ i < x.Nodes.length
    · rw [if_pos ⟨hf, hin⟩]
      obtain ⟨k, rfl⟩ : ∃ k : Nat, i = k := ⟨i.toNat, by omega⟩
      have hk : k < x.Nodes.length := by omega
      simp only [Int.toNat_natCast, ends_in N x hs hf k hk, Option.bind_some, Bool.not_true, cond_false, hin, not_true, if_false, (within_eq N key _ _).1, (within_eq N key _ _).2, shd, and_self]
      have hv1 : (bif decide ((key.size : Int) > 16) then (some true) else (bif (sLt key (lo x k) || sEq key (lo x k)) then (some true) else (some (!wthn key (lo x k) (hi x k))))) = some (decide (16 < key.size ∨ sLt (lo x k) key = false ∨ wthn key (lo x k) (hi x k) = false)) := by
        rw [sLe_iff, show decide ((key.size : Int) > 16) = decide (16 < key.size) from decide_eq_decide.2 (by omega)]
        by_cases h1 : 16 < key.size
        · simp [h1]
        · cases h2 : sLt (lo x k) key <;> cases h3 : wthn key (lo x k) (hi x k) <;> simp [h1]
      have hv2 : (bif decide ((key.size : Int) > 16) then (some true) else (bif (!wthn key (lo x k) (hi x k)) then (some true) else (some (sEq key (lo x k))))) = some (decide (16 < key.size ∨ sLt (lo x k) key = false ∨ wthn key (lo x k) (hi x k) = false)) := by
        rw [show decide ((key.size : Int) > 16) = decide (16 < key.size) from decide_eq_decide.2 (by omega)]
        by_cases h1 : 16 < key.size
        · simp [h1]
        · have hle := sLe_iff key (lo x k)
          cases h3 : wthn key (lo x k) (hi x k) with
          | false => simp [h1]
          | true =>
            have : sLt key (lo x k) = false := by
              unfold wthn at h3
              simp only [Bool.and_eq_true, Bool.not_eq_true'] at h3
              exact h3.1
            rw [this, Bool.false_or] at hle
            simp [h1, hle]
      rw [hv1, hv2]
      simp only [Option.bind_some]
      by_cases hbad : 16 < key.size ∨ sLt (lo x k) key = false ∨ wthn key (lo x k) (hi x k) = false
      · simp only [decide_eq_true hbad, cond_true, if_pos hbad]
        exact ⟨rfl, rfl⟩
      · simp only [decide_eq_false hbad, cond_false, if_neg hbad]
        by_cases hfull : x.Nodes.length = 8
        · rw [if_pos hfull, hfull]
          exact ⟨rfl, rfl⟩
        · have hb1 : (((x.Nodes).length : Int) == 8) = false := by simp; omega
          have hb2 : decide (((x.Nodes).length : Int) ≥ 8) = false := decide_eq_false (by omega)
          simp only [hb1, hb2, cond_false, if_neg hfull, if_true]
          constructor
          · rw [slc_take (by omega), slc_take (by omega), slc_drop (by omega), slc_drop (by omega)]
            simp only [Option.bind_some]
            rw [apd_ok (by simp; omega), apd_ok (by simp; omega)]
            simp only [Option.bind_some, List.nil_append]
            rw [apd_ok (by simp; omega), apd_ok (by simp; omega)]
            simp only [Option.bind_some]
            rw [apd_ok (by simp; omega), apd_ok (by simp; omega)]
            simp [splitM, insAt]
          · have := refSplit_L1 N x k key hf hmost hk N 0 (by omega) (by omega)
            simpa using this
    · rw [if_neg (fun h => hin h.2)]
      simp only [ends_out N x hs i (fun h => hin h.2), Option.bind_some, hin, not_false_eq_true, if_true, Bool.not_false, cond_true]
      exact ⟨rfl, rfl⟩
  · have h0' : chk ⟨x.Cuts, x.Nodes⟩ nodes ≠ 0 := h0
    have hb : (chk ⟨x.Cuts, x.Nodes⟩ nodes != 0) = true := by simpa using h0
    simp only [hb, cond_true, ne_eq, h0, not_false_eq_true, if_true, if_false]
    exact ⟨rfl, rfl⟩
def mergeE (x : T_api_Map) (nodes i : Int) : Int :=
  if chk x nodes ≠ 0 then chk x nodes else if ¬ (0 ≤ i ∧ i < x.Cuts.length) then 7
  else if x.Nodes.getD i.toNat 0 ≠ x.Nodes.getD (i.toNat + 1) 0 then 18 else 0
def mergeM (x : T_api_Map) (i : Nat) : T_api_Map := ⟨x.Cuts.eraseIdx i, x.Nodes.eraseIdx i⟩
def mergeR (x : T_api_Map) (nodes i : Int) : T_api_Map × Int := if mergeE x nodes i = 0 then (mergeM x i.toNat, 0) else (empt, mergeE x nodes i)
theorem erase_lt {α : Type} {l : List α} {i k : Nat} (h : k < i) : (l.eraseIdx i)[k]? = l[k]? := List.getElem?_eraseIdx_of_lt h
theorem erase_ge {α : Type} {l : List α} {i k : Nat} (h : i ≤ k) : (l.eraseIdx i)[k]? = l[k + 1]? := List.getElem?_eraseIdx_of_ge h
theorem refMerge_L1 (N : Nat) (x : T_api_Map) (i : Nat) (hf : x.Nodes.length = x.Cuts.length + 1) (h8 : x.Nodes.length ≤ 8) (hi' : i < x.Cuts.length) : ∀ (fuel k : Nat), x.Nodes.length - k < fuel → k ≤ x.Nodes.length →
    M.ref08_Merge_L1 N fuel x (i : Int) (if k ≤ i then (mergeM x i).Cuts.take k else (mergeM x i).Cuts.take (k - 1)) (if k ≤ i then (mergeM x i).Nodes.take k else (mergeM x i).Nodes.take (k - 1)) (k : Int) = some (mergeM x i, 0) := by
  intro fuel
  induction fuel with
  | zero => intro k h; omega
  | succ fuel ih =>
    intro k hk hkl
    simp only [M.ref08_Merge_L1, M.ref08_Merge_k2, M.ref08_Merge_k3]
    have hcl : (mergeM x i).Cuts.length = x.Cuts.length - 1 := List.length_eraseIdx_of_lt hi'
    have hnl : (mergeM x i).Nodes.length = x.Nodes.length - 1 := List.length_eraseIdx_of_lt (by omega)
    by_cases hlt : k < x.Nodes.length
    · have hd : decide ((k : Int) < (x.Nodes.length : Int)) = true := decide_eq_true (by omega)
      simp only [hd, cond_true, idx_get hlt, Option.bind_some]
      rw [wrap_succ (by omega)]
      have hIH := ih (k + 1) (by omega) (by omega)
      have hxk : x.Nodes[k]? = some x.Nodes[k] := List.getElem?_eq_getElem hlt
      rcases Nat.lt_trichotomy k i with hki | hki | hki
      · have hkc : k < x.Cuts.length := by omega
        have hb : ((k : Int) != (i : Int)) = true := by simp; omega
        rw [if_pos (by omega), if_pos (by omega)]
        rw [if_pos (by omega), if_pos (by omega)] at hIH
        have hdc : decide ((k : Int) < (x.Cuts.length : Int)) = true := decide_eq_true (by omega)
        simp only [hb, cond_true, hdc, Option.bind_some, idx_get hkc]
        rw [apd_ok (by simp; omega)]
        simp only [Option.bind_some]
        rw [apd_ok (by simp; omega)]
        simp only [Option.bind_some]
        rw [take_next (show (mergeM x i).Nodes[k]? = some x.Nodes[k] from (erase_lt hki).trans hxk), take_next (show (mergeM x i).Cuts[k]? = some x.Cuts[k] from (erase_lt hki).trans (List.getElem?_eq_getElem hkc))]
        exact hIH
      · subst hki
        have hb : ((k : Int) != (k : Int)) = false := by simp
        rw [if_pos (by omega), if_pos (by omega)]
        rw [if_neg (by omega), if_neg (by omega), Nat.add_sub_cancel] at hIH
        have hdc : decide ((k : Int) < (x.Cuts.length : Int)) = true := decide_eq_true (by omega)
        simp only [hb, cond_false, hdc, cond_true, Option.bind_some]
        exact hIH
      · have hb : ((k : Int) != (i : Int)) = true := by simp; omega
        rw [if_neg (by omega), if_neg (by omega)]
        rw [if_neg (by omega), if_neg (by omega), Nat.add_sub_cancel] at hIH
        simp only [hb, cond_true]
        rw [apd_ok (by simp; omega)]
        simp only [Option.bind_some]
        have hk1 : k - 1 + 1 = k := by omega
        rw [take_next (show (mergeM x i).Nodes[k - 1]? = some x.Nodes[k] from (erase_ge (by omega)).trans (by rw [hk1]; exact hxk)), hk1]
        by_cases hkc : k < x.Cuts.length
        · have hdc : decide ((k : Int) < (x.Cuts.length : Int)) = true := decide_eq_true (by omega)
          simp only [hdc, cond_true, idx_get hkc, Option.bind_some]
          rw [apd_ok (by simp; omega)]
          simp only [Option.bind_some]
          rw [take_next (show (mergeM x i).Cuts[k - 1]? = some x.Cuts[k] from (erase_ge (by omega)).trans (by rw [hk1]; exact List.getElem?_eq_getElem hkc)), hk1]
          exact hIH
        · have hdc : decide ((k : Int) < (x.Cuts.length : Int)) = false := decide_eq_false (by omega)
          simp only [hdc, cond_false, Option.bind_some]
          have := take_none (X := (mergeM x i).Cuts) (k := k - 1) (List.getElem?_eq_none (by omega))
          rw [hk1] at this
          rw [this]
          exact hIH
    · have hd : decide ((k : Int) < (x.Nodes.length : Int)) = false := decide_eq_false (by omega)
      rw [hd, if_neg (by omega), if_neg (by omega), List.take_of_length_le (by omega), List.take_of_length_le (by omega)]
      rfl
theorem merge_eq (N : Nat) (hN : 100 ≤ N) (x : T_api_Map) (nodes i : Int) (hx : x.Cuts.length ≤ maxLen) : M.span_Merge N x nodes i = some (mergeR x nodes i) ∧ M.ref08_Merge N x nodes i = some (mergeR x nodes i) := by
  have hc := chk_eq N hN ⟨x.Cuts, x.Nodes⟩ nodes hx
  unfold M.span_Merge M.ref08_Merge mergeR mergeE
  rw [hc.1, hc.2]
  simp only [Option.bind_some]
  by_cases h0 : chk x nodes = 0
  · have hR := (chk_iff x nodes).1 h0
    have hf := hR.form
    have hmost := hR.most
    rw [show chk ⟨x.Cuts, x.Nodes⟩ nodes = 0 from h0]
    simp only [bne_self_eq_false, cond_false, h0, ne_eq, not_true, if_false]
    have hv : (bif decide (i < 0) then (some true) else (some (decide (i ≥ ((x.Cuts).length : Int))))) = some (decide (¬ (0 ≤ i ∧ i < x.Cuts.length))) := by
      by_cases h : i < 0
      · rw [decide_eq_true h, decide_eq_true (show ¬ (0 ≤ i ∧ i < (x.Cuts.length : Int)) by omega)]; rfl
      · rw [decide_eq_false h]
        simp only [cond_false, Option.some.injEq]
        exact decide_eq_decide.2 (by omega)
    rw [hv]
    simp only [Option.bind_some]
    by_cases hin : 0 ≤ i ∧ i < x.Cuts.length
    · obtain ⟨k, rfl⟩ : ∃ k : Nat, i = k := ⟨i.toNat, by omega⟩
      have hk : k < x.Cuts.length := by omega
      simp only [hin, not_true, decide_false, cond_false, if_false, Int.toNat_natCast, and_self]
      rw [wrap_succ (by omega), idx_getD 0 (show k < x.Nodes.length by omega), idx_getD 0 (show k + 1 < x.Nodes.length by omega)]
      simp only [Option.bind_some]
      by_cases hn : x.Nodes.getD k 0 = x.Nodes.getD (k + 1) 0
      · have hb : (x.Nodes.getD k 0 != x.Nodes.getD (k + 1) 0) = false := by rw [hn, bne_self_eq_false]
        have he : (if ¬x.Nodes.getD k 0 = x.Nodes.getD (k + 1) 0 then (18 : Int) else 0) = 0 := if_neg (fun h => h hn)
        simp only [hb, cond_false, he, if_true]
        constructor
        · rw [slc_take (by omega), slc_take (by omega), slc_drop (by omega), slc_drop (by omega)]
          simp only [Option.bind_some]
          rw [apd_ok (by simp; omega), apd_ok (by simp; omega)]
          simp only [Option.bind_some, List.nil_append]
          rw [apd_ok (by simp; omega), apd_ok (by simp; omega)]
          simp [mergeM, List.eraseIdx_eq_take_drop_succ]
        · have := refMerge_L1 N x k hf hmost hk N 0 (by omega) (by omega)
          simpa using this
      · have hb : (x.Nodes.getD k 0 != x.Nodes.getD (k + 1) 0) = true := bne_iff_ne.2 hn
        simp only [hb, cond_true, hn, not_false_eq_true, if_true]
        exact ⟨rfl, rfl⟩
    · simp only [hin, not_false_eq_true, decide_true, cond_true, if_true]
      exact ⟨rfl, rfl⟩
  · have hb : (chk ⟨x.Cuts, x.Nodes⟩ nodes != 0) = true := by simpa using h0
    simp only [hb, cond_true, ne_eq, h0, not_false_eq_true, if_true, if_false]
    exact ⟨rfl, rfl⟩
theorem copy_eq (N : Nat) (x : T_api_Map) (h1 : x.Cuts.length < 2147483648) (h2 : x.Nodes.length < 2147483648) : M.span_Copy N x = some x ∧ M.ref08_Copy N x = some x := by
  unfold M.span_Copy M.ref08_Copy
  rw [apd_ok (by simpa using h1), apd_ok (by simpa using h2)]
  exact ⟨rfl, rfl⟩
def moveE (x : T_api_Map) (nodes i node : Int) : Int :=
  if chk x nodes ≠ 0 then chk x nodes else if ¬ (0 ≤ i ∧ i < x.Nodes.length) then 7
  else if ¬ (0 ≤ node ∧ node < nodes) then 1 else if x.Nodes.getD i.toNat 0 = node then 8 else 0
def moveM (x : T_api_Map) (i : Nat) (node : Int) : T_api_Map := ⟨x.Cuts, x.Nodes.set i node⟩
def moveR (x : T_api_Map) (nodes i node : Int) : T_api_Map × Int := if moveE x nodes i node = 0 then (moveM x i.toNat node, 0) else (empt, moveE x nodes i node)
theorem move_eq (N : Nat) (hN : 100 ≤ N) (x : T_api_Map) (nodes i node : Int) (hx : x.Cuts.length ≤ maxLen) : M.span_Move N x nodes i node = some (moveR x nodes i node) ∧ M.ref08_Move N x nodes i node = some (moveR x nodes i node) := by
  have hc := chk_eq N hN ⟨x.Cuts, x.Nodes⟩ nodes hx
  unfold M.span_Move M.ref08_Move moveR moveE
  rw [hc.1, hc.2]
  simp only [Option.bind_some]
  by_cases h0 : chk x nodes = 0
  · have hR := (chk_iff x nodes).1 h0
    have hf := hR.form
    have hmost := hR.most
    rw [show chk ⟨x.Cuts, x.Nodes⟩ nodes = 0 from h0]
    simp only [bne_self_eq_false, cond_false, h0, ne_eq, not_true, if_false]
    have hv : ∀ i n : Int, (bif decide (i < 0) then (some true) else (some (decide (i ≥ n)))) = some (decide (¬ (0 ≤ i ∧ i < n))) := fun i n => by
      by_cases h : i < 0
      · rw [decide_eq_true h, decide_eq_true (show ¬ (0 ≤ i ∧ i < n) by omega)]; rfl
      · rw [decide_eq_false h]
        simp only [cond_false, Option.some.injEq]
        exact decide_eq_decide.2 (by omega)
    rw [hv, hv]
    simp only [Option.bind_some]
    by_cases hin : 0 ≤ i ∧ i < x.Nodes.length
    · obtain ⟨k, rfl⟩ : ∃ k : Nat, i = k := ⟨i.toNat, by omega⟩
      have hk : k < x.Nodes.length := by omega
      simp only [hin, not_true, decide_false, cond_false, if_false, Int.toNat_natCast, and_self]
      by_cases hnd : 0 ≤ node ∧ node < nodes
      · simp only [hnd, not_true, decide_false, cond_false, if_false, and_self]
        rw [idx_getD 0 hk]
        simp only [Option.bind_some]
        by_cases hn : x.Nodes.getD k 0 = node
        · have hb : (x.Nodes.getD k 0 == node) = true := beq_iff_eq.2 hn
          simp only [hb, cond_true, if_pos hn]
          exact ⟨rfl, rfl⟩
        · have hb : (x.Nodes.getD k 0 == node) = false := beq_eq_false_iff_ne.2 hn
          have hcp := copy_eq N ⟨x.Cuts, x.Nodes⟩ (show x.Cuts.length < _ by omega) (show x.Nodes.length < _ by omega)
          simp only [hb, cond_false, if_neg hn, if_true, hcp.1, hcp.2, Option.bind_some]
          rw [idx_getD 0 hk]
          exact ⟨rfl, rfl⟩
      · simp only [hnd, not_false_eq_true, decide_true, cond_true, if_true]
        exact ⟨rfl, rfl⟩
    · simp only [hin, not_false_eq_true, decide_true, cond_true, if_true]
      exact ⟨rfl, rfl⟩
  · have hb : (chk ⟨x.Cuts, x.Nodes⟩ nodes != 0) = true := by simpa using h0
    simp only [hb, cond_true, ne_eq, h0, not_false_eq_true, if_true, if_false]
    exact ⟨rfl, rfl⟩
theorem same_L2 (N : Nat) (x y : T_api_Map) (hn : x.Nodes = y.Nodes) (hs : x.Nodes.length ≤ 1000000) : ∀ (fuel i : Nat), x.Nodes.length - i < fuel → i ≤ x.Nodes.length → M.ref08_Same_L2 N fuel x y (i : Int) = some true := by
  intro fuel
  induction fuel with
  | zero => intro i h; omega
  | succ fuel ih =>
    intro i hf hi
    simp only [M.ref08_Same_L2]
    by_cases hlt : i < x.Nodes.length
    · have hd : decide ((i : Int) < (x.Nodes.length : Int)) = true := decide_eq_true (by omega)
      rw [hd, ← hn, idx_get hlt, wrap_succ (by omega)]
      simp only [cond_true, Option.bind_some, bne_self_eq_false, cond_false]
      exact ih (i + 1) (by omega) (by omega)
    · rw [decide_eq_false (by omega : ¬ (i : Int) < (x.Nodes.length : Int))]; rfl
theorem same_L1 (N : Nat) (x : T_api_Map) (hc : x.Cuts.length ≤ 1000000) (hs : x.Nodes.length ≤ 1000000) (hN : x.Nodes.length < N) : ∀ (fuel i : Nat), x.Cuts.length - i < fuel → i ≤ x.Cuts.length → M.ref08_Same_L1 N fuel x x (i : Int) = some true := by
  intro fuel
  induction fuel with
  | zero => intro i h; omega
  | succ fuel ih =>
    intro i hf hi
    simp only [M.ref08_Same_L1]
    by_cases hlt : i < x.Cuts.length
    · have hd : decide ((i : Int) < (x.Cuts.length : Int)) = true := decide_eq_true (by omega)
      rw [hd, idx_get hlt, wrap_succ (by omega)]
      simp only [cond_true, Option.bind_some, sEq_refl, Bool.not_true, cond_false]
      exact ih (i + 1) (by omega) (by omega)
    · rw [decide_eq_false (by omega : ¬ (i : Int) < (x.Cuts.length : Int))]
      exact same_L2 N x x rfl hs N 0 (by omega) (by omega)
theorem same_refl (N : Nat) (x : T_api_Map) (hc : x.Cuts.length ≤ 1000000) (hs : x.Nodes.length ≤ 1000000) (hN : x.Nodes.length < N) (hN' : x.Cuts.length < N) : M.ref08_Same N x x = some true := by
  unfold M.ref08_Same
  simp only [bne_self_eq_false, cond_false, Option.bind_some]
  exact same_L1 N x hc hs hN N 0 (by omega) (by omega)
end Go.Cf
namespace Go.Cf
open Go
theorem getD_of {α : Type} {l m : List α} {i j : Nat} {d : α} (h : l[i]? = m[j]?) : l.getD i d = m.getD j d := by
  rw [List.getD_eq_getElem?_getD, List.getD_eq_getElem?_getD, h]
theorem getD_some {α : Type} {l : List α} {i : Nat} {d a : α} (h : l[i]? = some a) : l.getD i d = a := by
  rw [List.getD_eq_getElem?_getD, h]; rfl
theorem getD_mem {α : Type} {l : List α} {i : Nat} {d : α} (h : i < l.length) : l.getD i d ∈ l := by
  rw [List.getD_eq_getElem?_getD, List.getElem?_eq_getElem h]; exact List.getElem_mem h
structure SplitOk (x : T_api_Map) (nodes : Int) (i : Nat) (key : ByteArray) : Prop where
  right : Right x nodes
  lt : i < x.Nodes.length
  size : key.size ≤ 16
  above : sLt (lo x i) key = true
  within : wthn key (lo x i) (hi x i) = true
  room : x.Nodes.length ≠ 8
theorem split_ok {x : T_api_Map} {nodes i : Int} {key : ByteArray} (h : splitE x nodes i key = 0) : 0 ≤ i ∧ SplitOk x nodes i.toNat key := by
  unfold splitE at h
  by_cases h0 : chk x nodes = 0
  · rw [if_neg (fun h' => h' h0)] at h
    by_cases h1 : 0 ≤ i ∧ i < x.Nodes.length
    · rw [if_neg (fun h' => h' h1)] at h
      by_cases h2 : 16 < key.size ∨ sLt (lo x i.toNat) key = false ∨ wthn key (lo x i.toNat) (hi x i.toNat) = false
      · rw [if_pos h2] at h; cases h
      · rw [if_neg h2] at h
        by_cases h3 : x.Nodes.length = 8
        · rw [if_pos h3] at h; cases h
        · simp only [not_or, Bool.not_eq_false] at h2
          exact ⟨h1.1, (chk_iff x nodes).1 h0, by omega, by omega, h2.2.1, h2.2.2, h3⟩
    · rw [if_pos h1] at h; cases h
  · rw [if_pos h0] at h; exact absurd h h0
theorem SplitOk.below {x : T_api_Map} {nodes : Int} {i : Nat} {key : ByteArray} (h : SplitOk x nodes i key) (hi' : i < x.Cuts.length) : sLt key (x.Cuts.getD i nil) = true := by
  have := h.within
  unfold wthn hi at this
  rw [cut_ne_nil h.right.rising i hi'] at this
  simp only [Bool.false_or, Bool.and_eq_true] at this
  exact this.2
theorem SplitOk.le {x : T_api_Map} {nodes : Int} {i : Nat} {key : ByteArray} (h : SplitOk x nodes i key) : i ≤ x.Cuts.length := by have := h.right.form; have := h.lt; omega
theorem right_split {x : T_api_Map} {nodes : Int} {i : Nat} {key : ByteArray} (h : SplitOk x nodes i key) : Right (splitM x i key) nodes := by
  have hR := h.right
  have hle := h.le
  have hlt := h.lt
  have hcl : (splitM x i key).Cuts.length = x.Cuts.length + 1 := insAt_length hle
  have hnl : (splitM x i key).Nodes.length = x.Nodes.length + 1 := insAt_length (by omega)
  refine ⟨hR.lo1, hR.hi4, ?_, ?_, fun j hj => ?_, fun j hj => ?_, fun n hn => ?_⟩
  · have := h.room; have := hR.most; omega
  · have := hR.form; omega
  · rcases Nat.lt_trichotomy j i with hji | hji | hji
    · rw [show (splitM x i key).Cuts.getD j nil = x.Cuts.getD j nil from getD_of (insAt_lt hle hji)]
      exact hR.size j (by omega)
    · subst hji
      rw [show (splitM x j key).Cuts.getD j nil = key from getD_some (insAt_eq hle)]
      exact h.size
    · obtain ⟨k, rfl⟩ : ∃ k, j = k + 1 := ⟨j - 1, by omega⟩
      rw [show (splitM x i key).Cuts.getD (k + 1) nil = x.Cuts.getD k nil from getD_of (insAt_gt hle (by omega))]
      exact hR.size k (by omega)
  · have hlo : ∀ k, k ≤ i → lo (splitM x i key) k = lo x k := fun k hk => by
      cases k with
      | zero => rfl
      | succ k => exact getD_of (insAt_lt hle (by omega))
    rcases Nat.lt_trichotomy j i with hji | hji | hji
    · rw [hlo j (by omega), show (splitM x i key).Cuts.getD j nil = x.Cuts.getD j nil from getD_of (insAt_lt hle hji)]
      exact hR.asc j (by omega)
    · subst hji
      rw [hlo j (Nat.le_refl _), show (splitM x j key).Cuts.getD j nil = key from getD_some (insAt_eq hle)]
      exact h.above
    · obtain ⟨k, rfl⟩ : ∃ k, j = k + 1 := ⟨j - 1, by omega⟩
      rw [show (splitM x i key).Cuts.getD (k + 1) nil = x.Cuts.getD k nil from getD_of (insAt_gt hle (by omega))]
      show sLt ((splitM x i key).Cuts.getD k nil) _ = true
      by_cases hk : k = i
      · subst hk
        rw [show (splitM x k key).Cuts.getD k nil = key from getD_some (insAt_eq hle)]
        exact h.below (by omega)
      · obtain ⟨q, rfl⟩ : ∃ q, k = q + 1 := ⟨k - 1, by omega⟩
        rw [show (splitM x i key).Cuts.getD (q + 1) nil = x.Cuts.getD q nil from getD_of (insAt_gt hle (by omega))]
        exact hR.asc (q + 1) (by omega)
  · have hn' : n ∈ x.Nodes.take i ++ x.Nodes.getD i 0 :: x.Nodes.drop i := hn
    rcases List.mem_append.1 hn' with hn' | hn'
    · exact hR.node n (List.mem_of_mem_take hn')
    · rcases List.mem_cons.1 hn' with rfl | hn'
      · exact hR.node _ (getD_mem hlt)
      · exact hR.node n (List.mem_of_mem_drop hn')
structure MergeOk (x : T_api_Map) (nodes : Int) (i : Nat) : Prop where
  right : Right x nodes
  lt : i < x.Cuts.length
  same : x.Nodes.getD i 0 = x.Nodes.getD (i + 1) 0
theorem merge_ok {x : T_api_Map} {nodes i : Int} (h : mergeE x nodes i = 0) : 0 ≤ i ∧ MergeOk x nodes i.toNat := by
  unfold mergeE at h
  by_cases h0 : chk x nodes = 0
  · rw [if_neg (fun h' => h' h0)] at h
    by_cases h1 : 0 ≤ i ∧ i < x.Cuts.length
    · rw [if_neg (fun h' => h' h1)] at h
      by_cases h2 : x.Nodes.getD i.toNat 0 = x.Nodes.getD (i.toNat + 1) 0
      · exact ⟨h1.1, (chk_iff x nodes).1 h0, by omega, h2⟩
      · rw [if_pos h2] at h; cases h
    · rw [if_pos h1] at h; cases h
  · rw [if_pos h0] at h; exact absurd h h0
theorem right_merge {x : T_api_Map} {nodes : Int} {i : Nat} (h : MergeOk x nodes i) : Right (mergeM x i) nodes := by
  have hR := h.right
  have hlt := h.lt
  have hf := hR.form
  have hcl : (mergeM x i).Cuts.length = x.Cuts.length - 1 := List.length_eraseIdx_of_lt hlt
  have hnl : (mergeM x i).Nodes.length = x.Nodes.length - 1 := List.length_eraseIdx_of_lt (by omega)
  have hc : ∀ j, (mergeM x i).Cuts.getD j nil = if j < i then x.Cuts.getD j nil else x.Cuts.getD (j + 1) nil := fun j => by
    split
    · exact getD_of (erase_lt (by omega))
    · exact getD_of (erase_ge (by omega))
  refine ⟨hR.lo1, hR.hi4, by have := hR.most; omega, by omega, fun j hj => ?_, fun j hj => ?_, fun n hn => hR.node n (List.mem_of_mem_eraseIdx hn)⟩
  · rw [hc]
    split
    · exact hR.size j (by omega)
    · exact hR.size (j + 1) (by omega)
  · rw [hc]
    have hlo : lo (mergeM x i) j = if j ≤ i then lo x j else lo x (j + 1) := by
      cases j with
      | zero => rfl
      | succ j =>
        show (mergeM x i).Cuts.getD j nil = _
        rw [hc]
        by_cases hji : j < i
        · rw [if_pos hji, if_pos (by omega)]; rfl
        · rw [if_neg hji, if_neg (by omega)]; rfl
    rw [hlo]
    rcases Nat.lt_trichotomy j i with hji | hji | hji
    · rw [if_pos (by omega), if_pos hji]; exact hR.asc j (by omega)
    · subst hji
      rw [if_pos (Nat.le_refl _), if_neg (by omega)]
      exact sLt_trans (hR.asc j hlt) (hR.asc (j + 1) (by omega))
    · rw [if_neg (by omega), if_neg (by omega)]; exact hR.asc (j + 1) (by omega)
structure MoveOk (x : T_api_Map) (nodes : Int) (i : Nat) (node : Int) : Prop where
  right : Right x nodes
  lt : i < x.Nodes.length
  node : 0 ≤ node ∧ node < nodes
theorem move_ok {x : T_api_Map} {nodes i node : Int} (h : moveE x nodes i node = 0) : 0 ≤ i ∧ MoveOk x nodes i.toNat node := by
  unfold moveE at h
  by_cases h0 : chk x nodes = 0
  · rw [if_neg (fun h' => h' h0)] at h
    by_cases h1 : 0 ≤ i ∧ i < x.Nodes.length
    · rw [if_neg (fun h' => h' h1)] at h
      by_cases h2 : 0 ≤ node ∧ node < nodes
      · exact ⟨h1.1, (chk_iff x nodes).1 h0, by omega, h2⟩
      · rw [if_pos h2] at h; cases h
    · rw [if_pos h1] at h; cases h
  · rw [if_pos h0] at h; exact absurd h h0
theorem right_move {x : T_api_Map} {nodes : Int} {i : Nat} {node : Int} (h : MoveOk x nodes i node) : Right (moveM x i node) nodes := by
  have hR := h.right
  have hlo : ∀ j, lo (moveM x i node) j = lo x j := fun j => by cases j <;> rfl
  refine ⟨hR.lo1, hR.hi4, by have := hR.most; simpa [moveM] using this, by have := hR.form; simpa [moveM] using this, hR.size, fun j hj => by rw [hlo]; exact hR.asc j hj, fun n hn => ?_⟩
  rcases List.mem_or_eq_of_mem_set hn with hn | rfl
  · exact hR.node n hn
  · exact h.node
end Go.Cf
namespace Go.Cf
open Go
def told (s : T_config_State) : T_ref18_State := ⟨s.Pool, s.Nodes, s.Members, s.Maps, s.Modes⟩
def zst : T_config_State := ⟨0, 0, List.replicate 4 false, List.replicate 4 ⟨[], []⟩, List.replicate 21 0⟩
structure OkSt (s : T_config_State) : Prop where
  mem : s.Members.length = 4
  maps : s.Maps.length = 4
  modes : s.Modes.length = 21
  small : ∀ m ∈ s.Maps, m.Cuts.length ≤ 60 ∧ m.Nodes.length ≤ 60
theorem mapD (x : T_api_Map) : (T_api_Map.mk x.Cuts x.Nodes) = x := rfl
theorem csD (s : T_config_State) : (T_config_State.mk s.Pool s.Nodes s.Members s.Maps s.Modes) = s := rfl
theorem rsD (s : T_ref18_State) : (T_ref18_State.mk s.Pool s.Nodes s.Members s.Maps s.Modes) = s := rfl
theorem cmdD (c : T_api_Cmd) : (T_api_Cmd.mk c.Kind c.DC c.Shard c.Node c.Mode c.Key) = c := rfl
theorem set_same {α : Type} {l : List α} {i : Nat} (h : i < l.length) : l.set i l[i] = l := by
  apply List.ext_getElem?
  intro k
  rw [List.getElem?_set]
  split
  · rename_i h'; subst h'; simp [h]
  · rfl
theorem copyS_L1 (N : Nat) (s : T_config_State) (ho : OkSt s) : ∀ (fuel i : Nat), 4 - i < fuel → i ≤ 4 → M.config_Copy_L1 N fuel s s.Maps (i : Int) = some s := by
  intro fuel
  induction fuel with
  | zero => intro i h; omega
  | succ fuel ih =>
    intro i hf hi
    simp only [M.config_Copy_L1]
    by_cases hlt : i < 4
    · have hl : i < s.Maps.length := by rw [ho.maps]; exact hlt
      obtain ⟨h1, h2⟩ := ho.small _ (List.getElem_mem hl)
      rw [decide_eq_true (by omega : (i : Int) < 4), idx_get hl, wrap_succ (by omega)]
      simp only [cond_true, Option.bind_some, mapD, (copy_eq N (s.Maps[i]) (by omega) (by omega)).1, Int.toNat_natCast, set_same hl]
      exact ih (i + 1) (by omega) (by omega)
    · rw [decide_eq_false (by omega : ¬ (i : Int) < 4)]; rfl
theorem copyS (N : Nat) (hN : 100 ≤ N) (s : T_config_State) (ho : OkSt s) : M.config_Copy N s = some s := copyS_L1 N s ho N 0 (by omega) (by omega)
def setFrom (l : List Int) (p : Nat) : Nat → List Int
  | 0 => l
  | k + 1 => setFrom (l.set p 2) (p + 1) k
theorem setFrom_length : ∀ (k : Nat) (l : List Int) (p : Nat), (setFrom l p k).length = l.length := fun k => by
  induction k with
  | zero => intro l p; rfl
  | succ k ih => intro l p; simp [setFrom, ih]
theorem setFrom_get : ∀ (k : Nat) (l : List Int) (p i : Nat), (setFrom l p k)[i]? = if p ≤ i ∧ i < p + k ∧ i < l.length then some 2 else l[i]? := fun k => by
  induction k with
  | zero => intro l p i; simp [setFrom]; intro h; omega
  | succ k ih =>
    intro l p i
    simp only [setFrom, ih, List.length_set]
    by_cases h : p + 1 ≤ i ∧ i < p + 1 + k ∧ i < l.length
    · rw [if_pos h, if_pos (by omega)]
    · rw [if_neg h, List.getElem?_set]
      by_cases h' : p = i
      · subst h'
        rw [if_pos rfl]
        by_cases hl : p < l.length
        · rw [if_pos hl, if_pos (by omega)]
        · rw [if_neg hl, if_neg (by omega), List.getElem?_eq_none (by omega)]
      · rw [if_neg h', if_neg (by omega)]
theorem place_eq (N dc j : Nat) (hdc : dc < 4) (hj : j ≤ 5) : M.api_Place N (dc : Int) ((j : Int) - 1) = some ((5 * dc + j + 1 : Nat) : Int) := by
  unfold M.api_Place
  rw [wrap_small (x := 5 * (dc : Int)) (by omega) (by omega), wrap_small (x := 1 + 5 * (dc : Int)) (by omega) (by omega), wrap_small (x := 1 + 5 * (dc : Int) + ((j : Int) - 1)) (by omega) (by omega), wrap_small (by omega) (by omega)]
  congr 1; omega
theorem gate_eq (N dc : Nat) (hdc : dc < 4) : M.ref18_Gate N (dc : Int) = some ((5 * dc + 1 : Nat) : Int) := by
  unfold M.ref18_Gate
  rw [wrap_small (x := 5 * (dc : Int)) (by omega) (by omega), wrap_small (by omega) (by omega)]
  congr 1; omega
theorem both_L1 (N : Nat) (s : T_config_State) (dc : Nat) (hdc : dc < 4) : ∀ (fuel k j : Nat) (l : List Int), k < fuel → j + k = 5 → l.length = 21 → M.config_State_both_L1 N fuel s (dc : Int) l ((j : Int) - 1) = some ⟨s.Pool, s.Nodes, s.Members, s.Maps, setFrom l (5 * dc + j + 1) k⟩ := by
  intro fuel
  induction fuel with
  | zero => intro k j l h; omega
  | succ fuel ih =>
    intro k j l hf hj hl
    simp only [M.config_State_both_L1]
    cases k with
    | zero =>
      rw [decide_eq_false (by omega : ¬ ((j : Int) - 1 < 4))]
      rfl
    | succ k =>
      rw [decide_eq_true (by omega : (j : Int) - 1 < 4), place_eq N dc j hdc (by omega)]
      simp only [cond_true, Option.bind_some, idx_get (show 5 * dc + j + 1 < l.length by omega), Int.toNat_natCast]
      rw [show IntKind.i64.wrap ((j : Int) - 1 + 1) = ((j + 1 : Nat) : Int) - 1 from by rw [wrap_small (by omega) (by omega)]; omega]
      exact ih k (j + 1) _ (by omega) (by omega) (by simpa using hl)
def bothM (s : T_config_State) (dc : Nat) : T_config_State := ⟨s.Pool, s.Nodes, s.Members, s.Maps, setFrom s.Modes (5 * dc + 1) 5⟩
theorem both_eq (N : Nat) (hN : 100 ≤ N) (s : T_config_State) (dc : Nat) (hdc : dc < 4) (hl : s.Modes.length = 21) : M.config_State_both N s (dc : Int) = some (bothM s dc) :=
  both_L1 N s dc hdc N 5 0 s.Modes (by omega) (by omega) hl
theorem rboth_L1 (N : Nat) (s : T_ref18_State) (dc : Nat) (hdc : dc < 4) : ∀ (fuel k p : Nat) (l : List Int), k < fuel → p + k = 5 * dc + 6 → l.length = 21 → M.ref18_both_L1 N fuel s (dc : Int) l (p : Int) = some ⟨s.Pool, s.Nodes, s.Members, s.Maps, setFrom l p k⟩ := by
  intro fuel
  induction fuel with
  | zero => intro k j l h; omega
  | succ fuel ih =>
    intro k p l hf hj hl
    simp only [M.ref18_both_L1, gate_eq N dc hdc, Option.bind_some]
    rw [show IntKind.i64.wrap (((5 * dc + 1 : Nat) : Int) + 5) = ((5 * dc + 6 : Nat) : Int) from by rw [wrap_small (by omega) (by omega)]; omega]
    cases k with
    | zero =>
      rw [decide_eq_false (by omega : ¬ ((p : Int) < ((5 * dc + 6 : Nat) : Int)))]
      rfl
    | succ k =>
      rw [decide_eq_true (by omega : (p : Int) < ((5 * dc + 6 : Nat) : Int))]
      simp only [cond_true, Option.bind_some, idx_get (show p < l.length by omega), Int.toNat_natCast]
      rw [wrap_succ (by omega)]
      exact ih k (p + 1) _ (by omega) (by omega) (by simpa using hl)
theorem rboth_eq (N : Nat) (hN : 100 ≤ N) (s : T_config_State) (dc : Nat) (hdc : dc < 4) (hl : s.Modes.length = 21) : M.ref18_both N (told s) (dc : Int) = some (told (bothM s dc)) := by
  unfold M.ref18_both
  rw [gate_eq N dc hdc]
  exact rboth_L1 N (told s) dc hdc N 5 (5 * dc + 1) s.Modes (by omega) (by omega) hl
def has (l : List Int) (m : Int) : Bool := l.any (· == m)
theorem any_L1 (N : Nat) (s : T_config_State) (m : Int) (hl : s.Modes.length = 21) : ∀ (fuel i : Nat), 21 - i < fuel → i ≤ 21 → M.config_State_any_L1 N fuel s m (i : Int) = some (has (s.Modes.drop i) m) ∧ M.ref18_some_L1 N fuel (told s) m (i : Int) = some (has (s.Modes.drop i) m) := by
  intro fuel
  induction fuel with
  | zero => intro i h; omega
  | succ fuel ih =>
    intro i hf hi
    simp only [M.config_State_any_L1, M.ref18_some_L1]
    by_cases hlt : i < 21
    · have hil : i < s.Modes.length := by omega
      rw [decide_eq_true (by omega : (i : Int) < 21), decide_eq_true (by omega : (i : Int) ≤ 20)]
      show (bif true then (Option.bind (idx s.Modes (i : Int)) _) else _) = _ ∧ (bif true then (Option.bind (idx s.Modes (i : Int)) _) else _) = _
      rw [idx_get hil, wrap_succ (by omega), drop_cons hil]
      simp only [cond_true, Option.bind_some, has, List.any_cons]
      cases s.Modes[i] == m with
      | true => exact ⟨rfl, rfl⟩
      | false =>
        simp only [cond_false, Bool.false_or]
        exact ih (i + 1) (by omega) (by omega)
    · rw [decide_eq_false (by omega : ¬ (i : Int) < 21), decide_eq_false (by omega : ¬ (i : Int) ≤ 20), List.drop_eq_nil_of_le (by omega)]
      exact ⟨rfl, rfl⟩
theorem any_eq (N : Nat) (hN : 100 ≤ N) (s : T_config_State) (m : Int) (hl : s.Modes.length = 21) : M.config_State_any N s m = some (has s.Modes m) ∧ M.ref18_some N (told s) m = some (has s.Modes m) := any_L1 N s m hl N 0 (by omega) (by omega)
def cnt (l : List Bool) : Nat := l.countP id
theorem count_L1 (N : Nat) (s : T_config_State) (hl : s.Members.length = 4) : ∀ (fuel i n : Nat), 4 - i < fuel → i ≤ 4 → n ≤ i → M.config_Count_L1 N fuel s (n : Int) (i : Int) = some ((n + cnt (s.Members.drop i) : Nat) : Int) ∧ M.ref18_Count_L1 N fuel (told s) (n : Int) (i : Int) = some ((n + cnt (s.Members.drop i) : Nat) : Int) := by
  intro fuel
  induction fuel with
  | zero => intro i n h; omega
  | succ fuel ih =>
    intro i n hf hi hn
    simp only [M.config_Count_L1, M.ref18_Count_L1, M.config_Count_k2, M.ref18_Count_k2]
    by_cases hlt : i < 4
    · have hil : i < s.Members.length := by omega
      rw [decide_eq_true (by omega : (i : Int) < 4)]
      show (bif true then (Option.bind (idx s.Members (i : Int)) _) else _) = _ ∧ (bif true then (Option.bind (idx s.Members (i : Int)) _) else _) = _
      rw [idx_get hil, wrap_succ (i := i) (by omega), wrap_succ (i := n) (by omega), drop_cons hil]
      simp only [cond_true, Option.bind_some, cnt, List.countP_cons, id]
      cases s.Members[i] with
      | true =>
        simp only [cond_true, if_true]
        have := ih (i + 1) (n + 1) (by omega) (by omega) (by omega)
        rw [show n + (List.countP id (s.Members.drop (i + 1)) + 1) = n + 1 + cnt (s.Members.drop (i + 1)) from by unfold cnt; omega]
        exact this
      | false =>
        simp only [cond_false]
        exact ih (i + 1) n (by omega) (by omega) (by omega)
    · rw [decide_eq_false (by omega : ¬ (i : Int) < 4), List.drop_eq_nil_of_le (by omega)]
      exact ⟨rfl, rfl⟩
theorem count_eq (N : Nat) (hN : 100 ≤ N) (s : T_config_State) (hl : s.Members.length = 4) : M.config_Count N s = some ((cnt s.Members : Nat) : Int) ∧ M.ref18_Count N (told s) = some ((cnt s.Members : Nat) : Int) := by
  have := count_L1 N s hl N 0 0 (by omega) (by omega) (by omega)
  simpa [M.config_Count, M.ref18_Count] using this
def speakE (s : T_config_State) (c : T_api_Cmd) (dc : Nat) : Int :=
  if c.Node < 0 ∨ c.Node > s.Nodes ∨ c.Node > 4 ∨ c.Mode < 1 ∨ c.Mode > 3 then 1
  else if s.Modes.getD (5 * dc + 1 + c.Node.toNat) 0 = c.Mode then 8
  else if (s.Modes.getD (5 * dc + 1 + c.Node.toNat) 0 = 1 ∧ c.Mode = 3) ∨ (s.Modes.getD (5 * dc + 1 + c.Node.toNat) 0 = 3 ∧ c.Mode = 1) then 15
  else if (c.Mode = 3 ∧ has s.Modes 1 = true) ∨ (c.Mode = 1 ∧ has s.Modes 3 = true) then 15 else 0
def speakM (s : T_config_State) (c : T_api_Cmd) (dc : Nat) : T_config_State := ⟨s.Pool, s.Nodes, s.Members, s.Maps, s.Modes.set (5 * dc + 1 + c.Node.toNat) c.Mode⟩
theorem bad5 (a b c d e : Bool) (p : Prop) [Decidable p] (h : (a || (b || (c || (d || e)))) = decide p) : (bif a then (some true) else (bif b then (some true) else (bif c then (some true) else (bif d then (some true) else (some e))))) = some (decide p) := by
  rw [← h]; cases a <;> cases b <;> cases c <;> cases d <;> rfl
theorem or5 (a b c d e : Prop) [Decidable a] [Decidable b] [Decidable c] [Decidable d] [Decidable e] : (decide a || (decide b || (decide c || (decide d || decide e)))) = decide (a ∨ b ∨ c ∨ d ∨ e) := by
  simp [Bool.decide_or]
theorem speak_eq (N : Nat) (hN : 100 ≤ N) (s : T_config_State) (c : T_api_Cmd) (dc : Nat) (hdc : dc < 4) (hc : c.DC = dc) (hl : s.Modes.length = 21) :
    M.config_State_speak N s c = some (speakE s c dc, if speakE s c dc = 0 then speakM s c dc else s) ∧ M.ref18_speak N (told s) c = some (if speakE s c dc = 0 then told (speakM s c dc) else told zst, speakE s c dc) := by
  unfold M.config_State_speak M.config_State_speak_k1 M.config_State_speak_k2 M.ref18_speak
  rw [show (T_config_State.mk s.Pool s.Nodes s.Members s.Maps s.Modes) = s from rfl, show (T_ref18_State.mk (told s).Pool (told s).Nodes (told s).Members (told s).Maps (told s).Modes) = told s from rfl]
  simp only [(any_eq N hN s _ hl).1, (any_eq N hN s _ hl).2, Option.bind_some]
  rw [hc]
  by_cases hbad : c.Node < 0 ∨ c.Node > s.Nodes ∨ c.Node > 4 ∨ c.Mode < 1 ∨ c.Mode > 3
  · have he : speakE s c dc = 1 := if_pos hbad
    have hv : (bif decide (c.Node < 0) then (some true) else (bif decide (c.Node > s.Nodes) then (some true) else (bif decide (c.Node > 4) then (some true) else (bif decide (c.Mode < 1) then (some true) else (some (decide (c.Mode > 3))))))) = some true := by
      rw [bad5 _ _ _ _ _ _ (or5 ..), decide_eq_true hbad]
    rw [show (told s).Nodes = s.Nodes from rfl, hv, he]
    exact ⟨rfl, rfl⟩
  · have hv : (bif decide (c.Node < 0) then (some true) else (bif decide (c.Node > s.Nodes) then (some true) else (bif decide (c.Node > 4) then (some true) else (bif decide (c.Mode < 1) then (some true) else (some (decide (c.Mode > 3))))))) = some false := by
      rw [bad5 _ _ _ _ _ _ (or5 ..), decide_eq_false hbad]
    rw [show (told s).Nodes = s.Nodes from rfl, hv]
    simp only [not_or, Int.not_lt] at hbad
    obtain ⟨n0, n1, n2, n3, n4⟩ := hbad
    obtain ⟨n, hn⟩ : ∃ n : Nat, c.Node = n := ⟨c.Node.toNat, by omega⟩
    have hn4 : n ≤ 4 := by omega
    have hp : M.api_Place N (dc : Int) (IntKind.i64.wrap (c.Node - 1)) = some ((5 * dc + 1 + n : Nat) : Int) := by
      rw [hn, wrap_small (by omega) (by omega), place_eq N dc n hdc (by omega)]
      congr 2; omega
    have hg : IntKind.i64.wrap (((5 * dc + 1 : Nat) : Int) + c.Node) = ((5 * dc + 1 + n : Nat) : Int) := by rw [hn, wrap_small (by omega) (by omega)]; omega
    rw [hp, gate_eq N dc hdc]
    simp only [Option.bind_some, cond_false, hg]
    have hlt : 5 * dc + 1 + n < s.Modes.length := by omega
    rw [show (told s).Modes = s.Modes from rfl, idx_getD 0 hlt]
    simp only [Option.bind_some, Int.toNat_natCast]
    unfold speakE speakM
    rw [if_neg (by omega), hn, Int.toNat_natCast]
    generalize s.Modes.getD (5 * dc + 1 + n) 0 = m
    generalize has s.Modes 1 = h1
    generalize has s.Modes 3 = h3
    have hm : c.Mode = 1 ∨ c.Mode = 2 ∨ c.Mode = 3 := by omega
    by_cases e1 : m = c.Mode
    · subst e1; simp [told, zst]
    · have hb : (m == c.Mode) = false := beq_eq_false_iff_ne.2 e1
      rw [hb, if_neg e1]
      rcases hm with hm | hm | hm <;> rw [hm] at e1 ⊢
      · by_cases e3 : m = 3
        · subst e3; simp [told, zst]
        · have hb3 : (m == 3) = false := beq_eq_false_iff_ne.2 e3
          have hb1 : (m == 1) = false := beq_eq_false_iff_ne.2 e1
          cases h3 <;> simp [hb3, hb1, e3, told, zst]
      · cases hb1 : (m == 1) <;> cases hb3 : (m == 3) <;> simp [told, zst]
      · by_cases e3 : m = 1
        · subst e3; simp [told, zst]
        · have hb3 : (m == 3) = false := beq_eq_false_iff_ne.2 e1
          have hb1 : (m == 1) = false := beq_eq_false_iff_ne.2 e3
          cases h1 <;> simp [hb3, hb1, e3, told, zst]
def mapOf (s : T_config_State) (dc : Nat) : T_api_Map := s.Maps.getD dc empt
def withMap (s : T_config_State) (dc : Nat) (m : T_api_Map) : T_config_State := ⟨s.Pool, s.Nodes, s.Members, s.Maps.set dc m, s.Modes⟩
/-- of a member: what a command comes to, an error (0: none) -/
def inner (s : T_config_State) (c : T_api_Cmd) (dc : Nat) : T_config_State × Int :=
  if c.Kind = 2 then (if cnt s.Members = 1 then (zst, 13) else (bothM ⟨s.Pool, s.Nodes, s.Members.set dc false, s.Maps.set dc empt, s.Modes⟩ dc, 0))
  else if c.Kind = 3 then (withMap s dc (splitR (mapOf s dc) s.Nodes c.Shard c.Key).1, (splitR (mapOf s dc) s.Nodes c.Shard c.Key).2)
  else if c.Kind = 4 then (withMap s dc (mergeR (mapOf s dc) s.Nodes c.Shard).1, (mergeR (mapOf s dc) s.Nodes c.Shard).2)
  else if c.Kind = 5 then (withMap s dc (moveR (mapOf s dc) s.Nodes c.Shard c.Node).1, (moveR (mapOf s dc) s.Nodes c.Shard c.Node).2)
  else (speakM s c dc, speakE s c dc)
def applyP (s : T_config_State) (c : T_api_Cmd) : T_config_State × Int :=
  if c.Kind < 1 ∨ c.Kind > 6 then (zst, 5)
  else if c.DC < 0 ∨ c.DC ≥ 4 ∨ c.DC ≥ s.Pool then (zst, 12)
  else if c.Kind = 1 then (if s.Members.getD c.DC.toNat false then (zst, 8) else (bothM ⟨s.Pool, s.Nodes, s.Members.set c.DC.toNat true, s.Maps.set c.DC.toNat ⟨[], [0]⟩, s.Modes⟩ c.DC.toNat, 0))
  else if s.Members.getD c.DC.toNat false then inner s c c.DC.toNat else (zst, 12)
def applyR (s : T_config_State) (c : T_api_Cmd) : T_config_State × Int := if (applyP s c).2 = 0 then ((applyP s c).1, 0) else (zst, (applyP s c).2)
theorem or3 (a b c : Prop) [Decidable a] [Decidable b] [Decidable c] : (bif decide a then (some true) else (bif decide b then (some true) else (some (decide c)))) = some (decide (a ∨ b ∨ c)) := by
  by_cases ha : a <;> by_cases hb : b <;> simp [ha, hb]
theorem or2 (a b : Prop) [Decidable a] [Decidable b] : (bif decide a then (some true) else (some (decide b))) = some (decide (a ∨ b)) := by
  by_cases ha : a <;> simp [ha]
theorem set_set_same {α : Type} (l : List α) (i : Nat) (a : α) : l.set i (l.getD i a) = l := by
  rcases Nat.lt_or_ge i l.length with h | h
  · have : l.getD i a = l[i] := by simp [h]
    rw [this, set_same h]
  · rw [List.set_eq_of_length_le h]
/-- the end of a member's command, of both programs -/
theorem apply_fin {s' : T_config_State} {e : Int} {m : T_api_Map} (N : Nat) (c : T_api_Cmd) (dc : Nat) (hc : c.DC = dc) (hdc : dc < s'.Maps.length) :
    M.config_Apply_k1 N c s'.Pool s'.Nodes s'.Members s'.Maps s'.Modes m.Cuts m.Nodes e = some (if e = 0 then withMap s' dc m else zst, e) ∧ M.ref18_Apply_k1 N (told s') c m.Cuts m.Nodes e = some (told (if e = 0 then withMap s' dc m else zst), e) := by
  unfold M.config_Apply_k1 M.ref18_Apply_k1
  by_cases h : e = 0
  · subst h
    simp only [bne_self_eq_false, cond_false, hc, if_true]
    rw [show (told s').Maps = s'.Maps from rfl, idx_get hdc]
    exact ⟨rfl, rfl⟩
  · have hb : (e != 0) = true := bne_iff_ne.2 h
    rw [hb, if_neg h]
    exact ⟨rfl, rfl⟩
theorem apply_eq (N : Nat) (hN : 100 ≤ N) (s : T_config_State) (c : T_api_Cmd) (ho : OkSt s) : M.config_Apply N s c = some (applyR s c) ∧ M.ref18_Apply N (told s) c = some (told (applyR s c).1, (applyR s c).2) := by
  unfold M.config_Apply M.ref18_Apply
  rw [show (T_config_State.mk s.Pool s.Nodes s.Members s.Maps s.Modes) = s from rfl, show (T_ref18_State.mk (told s).Pool (told s).Nodes (told s).Members (told s).Maps (told s).Modes) = told s from rfl, copyS N hN s ho, cmdD c]
  simp only [Option.bind_some]
  rw [or2, or3, show decide (c.DC > 3) = decide (c.DC ≥ 4) from decide_eq_decide.2 (by omega), show (told s).Pool = s.Pool from rfl, or3]
  simp only [Option.bind_some]
  unfold applyR applyP
  by_cases hk : c.Kind < 1 ∨ c.Kind > 6
  · rw [decide_eq_true hk, if_pos hk]; exact ⟨rfl, rfl⟩
  · rw [decide_eq_false hk, if_neg hk]
    simp only [cond_false]
    by_cases hd : c.DC < 0 ∨ c.DC ≥ 4 ∨ c.DC ≥ s.Pool
    · rw [decide_eq_true hd, if_pos hd]; exact ⟨rfl, rfl⟩
    · rw [decide_eq_false hd, if_neg hd]
      simp only [cond_false]
      obtain ⟨dc, hdc⟩ : ∃ dc : Nat, c.DC = dc := ⟨c.DC.toNat, by omega⟩
      have hdc4 : dc < 4 := by omega
      have hmem : dc < s.Members.length := by rw [ho.mem]; exact hdc4
      have hmaps : dc < s.Maps.length := by rw [ho.maps]; exact hdc4
      rw [show (told s).Members = s.Members from rfl, show (told s).Maps = s.Maps from rfl, show (told s).Nodes = s.Nodes from rfl, show (told s).Modes = s.Modes from rfl, hdc, Int.toNat_natCast, idx_getD false hmem, idx_getD empt hmaps]
      simp only [Option.bind_some]
      by_cases k1 : c.Kind = 1
      · rw [if_pos k1, show (c.Kind == 1) = true from beq_iff_eq.2 k1]
        simp only [cond_true]
        cases hm : s.Members.getD dc false with
        | true => exact ⟨rfl, rfl⟩
        | false =>
          simp only [cond_false, M.span_Whole, Option.bind_some, if_false, Bool.false_eq_true]
          rw [both_eq N hN ⟨s.Pool, s.Nodes, s.Members.set dc true, s.Maps.set dc ⟨[], [0]⟩, s.Modes⟩ dc hdc4 ho.modes]
          have := rboth_eq N hN ⟨s.Pool, s.Nodes, s.Members.set dc true, s.Maps.set dc ⟨[], [0]⟩, s.Modes⟩ dc hdc4 ho.modes
          unfold told at this
          simp only at this
          rw [this]
          exact ⟨rfl, rfl⟩
      · rw [if_neg k1, show (c.Kind == 1) = false from beq_eq_false_iff_ne.2 k1]
        simp only [cond_false]
        cases hm : s.Members.getD dc false with
        | false => exact ⟨rfl, rfl⟩
        | true =>
          simp only [Bool.not_true, cond_false, if_true]
          have hx : (mapOf s dc).Cuts.length ≤ maxLen := by
            have h60 := (ho.small _ (getD_mem (d := empt) hmaps)).1
            have hml : (60 : Nat) ≤ maxLen := by decide
            exact Nat.le_trans h60 hml
          rw [show s.Maps.getD dc empt = mapOf s dc from rfl, mapD (mapOf s dc)]
          have hcnt := count_eq N hN s ho.mem
          rw [csD s, hcnt.1, hcnt.2]
          simp only [Option.bind_some]
          have hsp := split_eq N hN (mapOf s dc) s.Nodes c.Shard c.Key hx
          have hme := merge_eq N hN (mapOf s dc) s.Nodes c.Shard hx
          have hmo := move_eq N hN (mapOf s dc) s.Nodes c.Shard c.Node hx
          have hsk := speak_eq N hN s c dc hdc4 hdc ho.modes
          rw [hsp.1, hsp.2, hme.1, hme.2, hmo.1, hmo.2, hsk.1, hsk.2]
          simp only [Option.bind_some]
          unfold inner
          by_cases k2 : c.Kind = 2
          · rw [if_pos k2, show (c.Kind == 2) = true from beq_iff_eq.2 k2]
            simp only [cond_true]
            by_cases hc1 : cnt s.Members = 1
            · rw [if_pos hc1, hc1]
              exact ⟨rfl, rfl⟩
            · have hb : (((cnt s.Members : Nat) : Int) == 1) = false := beq_eq_false_iff_ne.2 (by omega)
              rw [if_neg hc1, hb]
              simp only [cond_false]
              rw [both_eq N hN ⟨s.Pool, s.Nodes, s.Members.set dc false, s.Maps, s.Modes⟩ dc hdc4 ho.modes]
              have := rboth_eq N hN ⟨s.Pool, s.Nodes, s.Members.set dc false, s.Maps.set dc empt, s.Modes⟩ dc hdc4 ho.modes
              unfold told at this
              simp only at this
              rw [show (T_api_Map.mk ([] : List ByteArray) ([] : List Int)) = empt from rfl, this]
              simp only [Option.bind_some]
              exact ⟨(apply_fin (s' := bothM ⟨s.Pool, s.Nodes, s.Members.set dc false, s.Maps, s.Modes⟩ dc) (e := 0) (m := empt) N c dc hdc hmaps).1, rfl⟩
          · rw [if_neg k2, show (c.Kind == 2) = false from beq_eq_false_iff_ne.2 k2]
            simp only [cond_false]
            have fin : ∀ (m : T_api_Map) (e : Int), M.config_Apply_k1 N c s.Pool s.Nodes s.Members s.Maps s.Modes m.Cuts m.Nodes e = some (if e = 0 then (withMap s dc m, 0) else (zst, e)) ∧ M.ref18_Apply_k1 N (told s) c m.Cuts m.Nodes e = some (told (if e = 0 then (withMap s dc m, (0 : Int)) else (zst, e)).1, (if e = 0 then (withMap s dc m, (0 : Int)) else (zst, e)).2) := fun m e => by
              have := apply_fin (s' := s) (e := e) (m := m) N c dc hdc hmaps
              rw [this.1, this.2]
              by_cases he : e = 0
              · subst he; exact ⟨rfl, rfl⟩
              · simp [he]
            by_cases k3 : c.Kind = 3
            · have k6 : (c.Kind == 6) = false := beq_eq_false_iff_ne.2 (by omega)
              rw [if_pos k3, show (c.Kind == 3) = true from beq_iff_eq.2 k3, k6]
              simp only [cond_true, cond_false]
              exact fin _ _
            · rw [if_neg k3, show (c.Kind == 3) = false from beq_eq_false_iff_ne.2 k3]
              by_cases k4 : c.Kind = 4
              · have k6 : (c.Kind == 6) = false := beq_eq_false_iff_ne.2 (by omega)
                rw [if_pos k4, show (c.Kind == 4) = true from beq_iff_eq.2 k4, k6]
                simp only [cond_true, cond_false]
                exact fin _ _
              · rw [if_neg k4, show (c.Kind == 4) = false from beq_eq_false_iff_ne.2 k4]
                by_cases k5 : c.Kind = 5
                · have k6 : (c.Kind == 6) = false := beq_eq_false_iff_ne.2 (by omega)
                  rw [if_pos k5, show (c.Kind == 5) = true from beq_iff_eq.2 k5, k6]
                  simp only [cond_true, cond_false]
                  exact fin _ _
                · have k6 : (c.Kind == 6) = true := beq_iff_eq.2 (by omega)
                  rw [if_neg k5, show (c.Kind == 5) = false from beq_eq_false_iff_ne.2 k5, k6]
                  simp only [cond_true, cond_false]
                  by_cases he : speakE s c dc = 0
                  · simp only [he, if_true]
                    refine ⟨?_, trivial⟩
                    rw [(apply_fin (s' := speakM s c dc) (e := 0) (m := mapOf s dc) N c dc hdc hmaps).1, if_pos rfl]
                    show some ((⟨_, _, _, s.Maps.set dc (s.Maps.getD dc empt), _⟩ : T_config_State), (0 : Int)) = _
                    rw [set_set_same]; rfl
                  · simp only [if_neg he]
                    refine ⟨?_, trivial⟩
                    rw [(apply_fin (s' := s) (e := speakE s c dc) (m := mapOf s dc) N c dc hdc hmaps).1, if_neg he]
end Go.Cf
namespace Go.Cf
open Go
theorem cEq_refl : ∀ l : List Value, (∀ v ∈ l, vEq v v = true) → cEq l l = true := fun l => by
  induction l with
  | nil => intro _; rfl
  | cons v l ih => intro h; simp [cEq, h v (by simp), ih fun u hu => h u (by simp [hu])]
theorem cEq_bools (n : Nat) (l : List Bool) : cEq (flat [(n, encs fBool l)]) (flat [(n, encs fBool l)]) = true := by
  refine cEq_refl _ fun v hv => ?_
  simp only [flat, List.flatMap_cons, List.flatMap_nil, List.append_nil, encs, List.mem_flatMap] at hv
  obtain ⟨b, _, hb⟩ := hv
  have : v = .bool b := by simpa [fBool] using hb
  subst this; simp [vEq]
theorem cEq_ints (n : Nat) (l : List Int) : cEq (flat [(n, encs (fInt .i64) l)]) (flat [(n, encs (fInt .i64) l)]) = true := by
  refine cEq_refl _ fun v hv => ?_
  simp only [flat, List.flatMap_cons, List.flatMap_nil, List.append_nil, encs, List.mem_flatMap] at hv
  obtain ⟨b, _, hb⟩ := hv
  have : v = .int .i64 b := by simpa [fInt] using hb
  subst this; simp [vEq]
theorem sameS_L1 (N : Nat) (hN : 100 ≤ N) (s : T_config_State) (ho : OkSt s) : ∀ (fuel i : Nat), 4 - i < fuel → i ≤ 4 → M.ref18_Same_L1 N fuel (told s) (told s) (i : Int) = some true := by
  intro fuel
  induction fuel with
  | zero => intro i h; omega
  | succ fuel ih =>
    intro i hf hi
    simp only [M.ref18_Same_L1]
    by_cases hlt : i < 4
    · have hl : i < s.Maps.length := by rw [ho.maps]; exact hlt
      obtain ⟨h1, h2⟩ := ho.small _ (List.getElem_mem hl)
      rw [decide_eq_true (by omega : (i : Int) < 4), show (told s).Maps = s.Maps from rfl, idx_get hl, wrap_succ (by omega)]
      simp only [cond_true, Option.bind_some, mapD, same_refl N (s.Maps[i]) (by omega) (by omega) (by omega) (by omega), Bool.not_true, cond_false]
      exact ih (i + 1) (by omega) (by omega)
    · rw [decide_eq_false (by omega : ¬ (i : Int) < 4)]; rfl
theorem sameR_refl (N : Nat) (hN : 100 ≤ N) (s : T_config_State) (ho : OkSt s) : M.ref18_Same N (told s) (told s) = some true := by
  unfold M.ref18_Same
  simp only [bne_self_eq_false, cEq_bools, cEq_ints, Bool.not_true, cond_false, Option.bind_some]
  exact sameS_L1 N hN s ho N 0 (by omega) (by omega)
theorem told_eq (N : Nat) (s : T_config_State) : M.law18_Told N s = some (told s) := rfl
theorem sameS_refl (N : Nat) (hN : 100 ≤ N) (s : T_config_State) (ho : OkSt s) : M.law18_Same N s (told s) = some true := by
  unfold M.law18_Same
  simp only [csD, rsD, told_eq, Option.bind_some, sameR_refl N hN s ho]
theorem ok_zst : OkSt zst := ⟨rfl, rfl, rfl, fun m hm => by
  have : m = ⟨[], []⟩ := List.eq_of_mem_replicate hm
  subst this; exact ⟨Nat.zero_le _, Nat.zero_le _⟩⟩
theorem ok_setMap {s : T_config_State} (ho : OkSt s) (dc : Nat) (m : T_api_Map) (h1 : m.Cuts.length ≤ 60) (h2 : m.Nodes.length ≤ 60) (mem : List Bool) (hm : mem.length = 4) (modes : List Int) (hl : modes.length = 21) : OkSt ⟨s.Pool, s.Nodes, mem, s.Maps.set dc m, modes⟩ :=
  ⟨hm, by show (s.Maps.set dc m).length = 4; rw [List.length_set]; exact ho.maps, hl, fun x hx => by
    rcases List.mem_or_eq_of_mem_set hx with hx | rfl
    · exact ho.small x hx
    · exact ⟨h1, h2⟩⟩
theorem right_small {x : T_api_Map} {n : Int} (h : Right x n) : x.Cuts.length ≤ 60 ∧ x.Nodes.length ≤ 60 := by have := h.form; have := h.most; omega
theorem split_small (x : T_api_Map) (n i : Int) (k : ByteArray) : (splitR x n i k).1.Cuts.length ≤ 60 ∧ (splitR x n i k).1.Nodes.length ≤ 60 := by
  unfold splitR
  split
  · rename_i h; exact right_small (right_split (split_ok h).2)
  · exact ⟨Nat.zero_le _, Nat.zero_le _⟩
theorem merge_small (x : T_api_Map) (n i : Int) : (mergeR x n i).1.Cuts.length ≤ 60 ∧ (mergeR x n i).1.Nodes.length ≤ 60 := by
  unfold mergeR
  split
  · rename_i h; exact right_small (right_merge (merge_ok h).2)
  · exact ⟨Nat.zero_le _, Nat.zero_le _⟩
theorem move_small (x : T_api_Map) (n i k : Int) : (moveR x n i k).1.Cuts.length ≤ 60 ∧ (moveR x n i k).1.Nodes.length ≤ 60 := by
  unfold moveR
  split
  · rename_i h; exact right_small (right_move (move_ok h).2)
  · exact ⟨Nat.zero_le _, Nat.zero_le _⟩
theorem ok_inner {s : T_config_State} (ho : OkSt s) (c : T_api_Cmd) (dc : Nat) : OkSt (inner s c dc).1 := by
  unfold inner
  split
  · split
    · exact ok_zst
    · exact ok_setMap ho dc empt (Nat.zero_le _) (Nat.zero_le _) _ (by rw [List.length_set]; exact ho.mem) _ (by rw [setFrom_length]; exact ho.modes)
  · split
    · exact ok_setMap ho dc _ (split_small ..).1 (split_small ..).2 _ ho.mem _ ho.modes
    · split
      · exact ok_setMap ho dc _ (merge_small ..).1 (merge_small ..).2 _ ho.mem _ ho.modes
      · split
        · exact ok_setMap ho dc _ (move_small ..).1 (move_small ..).2 _ ho.mem _ ho.modes
        · exact ⟨ho.mem, ho.maps, by show (s.Modes.set _ _).length = 21; rw [List.length_set]; exact ho.modes, ho.small⟩
theorem ok_applyP {s : T_config_State} (ho : OkSt s) (c : T_api_Cmd) : OkSt (applyP s c).1 := by
  unfold applyP
  split
  · exact ok_zst
  · split
    · exact ok_zst
    · split
      · split
        · exact ok_zst
        · exact ok_setMap ho _ _ (by decide) (by decide) _ (by rw [List.length_set]; exact ho.mem) _ (by rw [setFrom_length]; exact ho.modes)
      · split
        · exact ok_inner ho c _
        · exact ok_zst
theorem ok_apply {s : T_config_State} (ho : OkSt s) (c : T_api_Cmd) : OkSt (applyR s c).1 := by
  unfold applyR
  split
  · exact ok_applyP ho c
  · exact ok_zst
def plainC (c : T_api_Cmd) : T_api_Cmd :=
  if c.Kind = 3 then ⟨c.Kind, c.DC, c.Shard, 0, 0, c.Key⟩ else if c.Kind = 4 then ⟨c.Kind, c.DC, c.Shard, 0, 0, nil⟩ else if c.Kind = 5 then ⟨c.Kind, c.DC, c.Shard, c.Node, 0, nil⟩ else if c.Kind = 6 then ⟨c.Kind, c.DC, 0, c.Node, c.Mode, nil⟩ else ⟨c.Kind, c.DC, 0, 0, 0, nil⟩
theorem plain_eq (N : Nat) (c : T_api_Cmd) : M.config_Plain N c = some (plainC c) ∧ M.ref18_Plain N c = some (plainC c) := by
  unfold M.config_Plain M.ref18_Plain M.ref18_Plain_k1 M.ref18_Plain_k2 M.ref18_Plain_k3 M.ref18_Plain_k4 plainC
  by_cases k3 : c.Kind = 3
  · simp [k3]
  · have b3 : (c.Kind == 3) = false := beq_eq_false_iff_ne.2 k3
    by_cases k4 : c.Kind = 4
    · simp [k4]; rfl
    · have b4 : (c.Kind == 4) = false := beq_eq_false_iff_ne.2 k4
      by_cases k5 : c.Kind = 5
      · simp [k5]; rfl
      · have b5 : (c.Kind == 5) = false := beq_eq_false_iff_ne.2 k5
        by_cases k6 : c.Kind = 6
        · simp [k6]; rfl
        · have b6 : (c.Kind == 6) = false := beq_eq_false_iff_ne.2 k6
          simp [k3, k4, k5, k6, b3, b4, b5, b6]; rfl
theorem plain_kind (c : T_api_Cmd) : (plainC c).Kind = c.Kind ∧ (plainC c).DC = c.DC := by
  unfold plainC
  split
  · exact ⟨rfl, rfl⟩
  · split
    · exact ⟨rfl, rfl⟩
    · split
      · exact ⟨rfl, rfl⟩
      · split <;> exact ⟨rfl, rfl⟩
theorem inner_plain (s : T_config_State) (c : T_api_Cmd) (dc : Nat) (h1 : c.Kind ≠ 1) (h0 : ¬ (c.Kind < 1 ∨ c.Kind > 6)) : inner s (plainC c) dc = inner s c dc := by
  unfold inner
  rw [(plain_kind c).1]
  by_cases k2 : c.Kind = 2
  · rw [if_pos k2, if_pos k2]
  · rw [if_neg k2, if_neg k2]
    unfold plainC
    by_cases k3 : c.Kind = 3
    · simp only [k3, if_true]
    · by_cases k4 : c.Kind = 4
      · simp [k4]
      · by_cases k5 : c.Kind = 5
        · simp [k5]
        · have k6 : c.Kind = 6 := by omega
          simp [k6, speakM, speakE]
theorem apply_plain (s : T_config_State) (c : T_api_Cmd) : applyR s (plainC c) = applyR s c := by
  have h : applyP s (plainC c) = applyP s c := by
    unfold applyP
    rw [(plain_kind c).1, (plain_kind c).2]
    by_cases h0 : c.Kind < 1 ∨ c.Kind > 6
    · rw [if_pos h0, if_pos h0]
    · rw [if_neg h0, if_neg h0]
      by_cases k1 : c.Kind = 1
      · rw [if_pos k1, if_pos k1]
      · rw [if_neg k1, if_neg k1, inner_plain s c _ k1 h0]
  unfold applyR
  rw [h]
structure Framed (s x : T_config_State) (dc : Nat) : Prop where
  pool : x.Pool = s.Pool
  nodes : x.Nodes = s.Nodes
  mem : ∀ i, i ≠ dc → x.Members[i]? = s.Members[i]?
  maps : ∀ i, i ≠ dc → x.Maps[i]? = s.Maps[i]?
  modes : ∀ p, (p = 0 ∨ (p - 1) / 5 ≠ dc) → x.Modes[p]? = s.Modes[p]?
theorem set_ne {α : Type} {l : List α} {i j : Nat} {a : α} (h : i ≠ j) : (l.set j a)[i]? = l[i]? := by
  rw [List.getElem?_set]; rw [if_neg (Ne.symm h)]
theorem setFrom_ne {l : List Int} {dc p : Nat} (h : p = 0 ∨ (p - 1) / 5 ≠ dc) : (setFrom l (5 * dc + 1) 5)[p]? = l[p]? := by
  rw [setFrom_get, if_neg (by omega)]
theorem framed_inner (s : T_config_State) (c : T_api_Cmd) (dc : Nat) (h : (inner s c dc).2 = 0) : Framed s (inner s c dc).1 dc := by
  unfold inner at h ⊢
  split
  · rename_i k2
    rw [if_pos k2] at h
    split
    · rename_i hc; rw [if_pos hc] at h; cases h
    · exact ⟨rfl, rfl, fun i hi => set_ne hi, fun i hi => set_ne hi, fun p hp => setFrom_ne hp⟩
  · rename_i k2
    rw [if_neg k2] at h
    split
    · exact ⟨rfl, rfl, fun i hi => rfl, fun i hi => set_ne hi, fun p hp => rfl⟩
    · rename_i k3
      rw [if_neg k3] at h
      split
      · exact ⟨rfl, rfl, fun i hi => rfl, fun i hi => set_ne hi, fun p hp => rfl⟩
      · rename_i k4
        rw [if_neg k4] at h
        split
        · exact ⟨rfl, rfl, fun i hi => rfl, fun i hi => set_ne hi, fun p hp => rfl⟩
        · rename_i k5
          rw [if_neg k5] at h
          refine ⟨rfl, rfl, fun i hi => rfl, fun i hi => rfl, fun p hp => set_ne ?_⟩
          have hn : ¬ (c.Node < 0 ∨ c.Node > s.Nodes ∨ c.Node > 4 ∨ c.Mode < 1 ∨ c.Mode > 3) := fun hb => by
            have : speakE s c dc = 1 := if_pos hb
            rw [this] at h; cases h
          omega
theorem framed_apply (s : T_config_State) (c : T_api_Cmd) (h : (applyR s c).2 = 0) : ∃ dc : Nat, c.DC = dc ∧ dc < 4 ∧ Framed s (applyR s c).1 dc := by
  have hp : (applyP s c).2 = 0 := by
    unfold applyR at h
    split at h
    · rename_i h'; exact h'
    · exact h
  have hr : (applyR s c).1 = (applyP s c).1 := by unfold applyR; rw [if_pos hp]
  rw [hr]
  unfold applyP at hp ⊢
  split
  · rename_i h0; rw [if_pos h0] at hp; cases hp
  · rename_i h0
    rw [if_neg h0] at hp
    split
    · rename_i h1; rw [if_pos h1] at hp; cases hp
    · rename_i h1
      rw [if_neg h1] at hp
      refine ⟨c.DC.toNat, by omega, by omega, ?_⟩
      split
      · rename_i k1
        rw [if_pos k1] at hp
        split
        · rename_i hm; rw [if_pos hm] at hp; cases hp
        · exact ⟨rfl, rfl, fun i hi => set_ne hi, fun i hi => set_ne hi, fun p hp => setFrom_ne hp⟩
      · rename_i k1
        rw [if_neg k1] at hp
        split
        · rename_i hm
          rw [if_pos hm] at hp
          exact framed_inner s c _ hp
        · rename_i hm; rw [if_neg hm] at hp; cases hp
end Go.Cf
namespace Go.Cf
open Go
def startM (p m n : Nat) : T_config_State := ⟨p, n, (List.range 4).map fun i => decide (i < m), (List.range 4).map fun i => if i < m then ⟨[], [0]⟩ else ⟨[], []⟩, (List.range 21).map fun i => if 0 < i ∧ (i - 1) / 5 < m ∧ (i - 1) % 5 ≤ n then 1 else 2⟩
def startBad (a b c : Int) : Prop := a < 1 ∨ a > 4 ∨ b < 1 ∨ b > a ∨ c < 1 ∨ c > 4
instance (a b c : Int) : Decidable (startBad a b c) := inferInstanceAs (Decidable (_ ∨ _))
def startR (a b c : Int) : T_config_State × Int := if startBad a b c then (zst, 1) else (startM a.toNat b.toNat c.toNat, 0)
theorem or6 (a b c d e f : Prop) [Decidable a] [Decidable b] [Decidable c] [Decidable d] [Decidable e] [Decidable f] : (bif decide a then (some true) else (bif decide b then (some true) else (bif decide c then (some true) else (bif decide d then (some true) else (bif decide e then (some true) else (some (decide f))))))) = some (decide (a ∨ b ∨ c ∨ d ∨ e ∨ f)) := by
  by_cases ha : a <;> by_cases hb : b <;> by_cases hc : c <;> by_cases hd : d <;> by_cases he : e <;> simp [ha, hb, hc, hd, he]
theorem start_in : ∀ p ∈ [1, 2, 3, 4], ∀ m ∈ [1, 2, 3, 4], m ≤ p → ∀ n ∈ [1, 2, 3, 4], M.config_Start 1000 ((p : Nat) : Int) ((m : Nat) : Int) ((n : Nat) : Int) = some (startM p m n, 0) := by
  intro p hp m hm hmp n hn
  simp only [List.mem_cons, List.not_mem_nil, or_false] at hp hm hn
  rcases hp with rfl | rfl | rfl | rfl <;> rcases hm with rfl | rfl | rfl | rfl <;> first | (exfalso; omega) | (rcases hn with rfl | rfl | rfl | rfl <;> kernel_rfl)
theorem start_eq (a b c : Int) : M.config_Start 1000 a b c = some (startR a b c) := by
  unfold startR
  by_cases h : startBad a b c
  · rw [if_pos h]
    unfold M.config_Start
    rw [or6, decide_eq_true (show a < 1 ∨ a > 4 ∨ b < 1 ∨ b > a ∨ c < 1 ∨ c > 4 from h)]
    rfl
  · rw [if_neg h]
    unfold startBad at h
    have := start_in a.toNat (by simp; omega) b.toNat (by simp; omega) (by omega) c.toNat (by simp; omega)
    rw [show ((a.toNat : Nat) : Int) = a from by omega, show ((b.toNat : Nat) : Int) = b from by omega, show ((c.toNat : Nat) : Int) = c from by omega] at this
    exact this
structure Valid (s : T_config_State) (pool nodes : Int) : Prop where
  ok : OkSt s
  poolE : s.Pool = pool
  nodesE : s.Nodes = nodes
  p4 : 1 ≤ pool ∧ pool ≤ 4
  n4 : 1 ≤ nodes ∧ nodes ≤ 4
  right : ∀ i, i < 4 → s.Members.getD i false = true → Right (mapOf s i) nodes
  out : ∀ i, i < 4 → s.Members.getD i false = false → mapOf s i = empt
  modes : ∀ m ∈ s.Modes, m = 1 ∨ m = 2 ∨ m = 3
  agree : has s.Modes 1 = false ∨ has s.Modes 3 = false
  any : 0 < cnt s.Members
theorem has_iff (l : List Int) (m : Int) : has l m = true ↔ m ∈ l := by simp [has]
theorem has_false (l : List Int) (m : Int) : has l m = false ↔ m ∉ l := by
  rw [← has_iff]; simp
theorem right_one (nodes : Int) (h : 1 ≤ nodes ∧ nodes ≤ 4) : Right ⟨[], [0]⟩ nodes :=
  ⟨h.1, h.2, by simp, rfl, fun i hi => by simp at hi, fun i hi => by simp at hi, fun n hn => by simp at hn; omega⟩
theorem start_valid {a b c : Int} (h : ¬ startBad a b c) : Valid (startM a.toNat b.toNat c.toNat) a c := by
  unfold startBad at h
  refine ⟨⟨by simp [startM], by simp [startM], by simp [startM], fun m hm => ?_⟩, by show ((a.toNat : Nat) : Int) = a; omega, by show ((c.toNat : Nat) : Int) = c; omega, by omega, by omega, fun i hi hm => ?_, fun i hi hm => ?_, fun m hm => ?_, .inr ?_, ?_⟩
  · simp only [startM, List.mem_map] at hm
    obtain ⟨i, _, rfl⟩ := hm
    split <;> simp
  · simp only [startM, mapOf] at hm ⊢
    rw [List.getD_eq_getElem?_getD, List.getElem?_map, List.getElem?_range (by omega)] at hm ⊢
    simp only [Option.map_some, Option.getD_some, decide_eq_true_eq] at hm ⊢
    rw [if_pos hm]
    exact right_one c (by omega)
  · simp only [startM, mapOf] at hm ⊢
    rw [List.getD_eq_getElem?_getD, List.getElem?_map, List.getElem?_range (by omega)] at hm ⊢
    simp only [Option.map_some, Option.getD_some, decide_eq_false_iff_not] at hm ⊢
    rw [if_neg hm]; rfl
  · simp only [startM, List.mem_map] at hm
    obtain ⟨i, _, rfl⟩ := hm
    split <;> simp
  · rw [has_false]
    intro hm
    simp only [startM, List.mem_map] at hm
    obtain ⟨i, _, hi⟩ := hm
    split at hi <;> omega
  · unfold cnt
    rw [List.countP_pos_iff]
    refine ⟨true, ?_, rfl⟩
    simp only [startM, List.mem_map]
    exact ⟨0, by simp, by simp; omega⟩
theorem mem_setFrom {l : List Int} {p k : Nat} {m : Int} (h : m ∈ setFrom l p k) : m = 2 ∨ m ∈ l := by
  obtain ⟨i, hi, he⟩ := List.getElem_of_mem h
  have h2 := List.getElem?_eq_getElem hi
  rw [he, setFrom_get] at h2
  split at h2
  · left; simpa using h2.symm
  · right; exact List.mem_of_getElem? h2
theorem cnt_set {l : List Bool} {i : Nat} (b : Bool) (h : i < l.length) : cnt (l.set i b) + (if l.getD i false then 1 else 0) = cnt l + (if b then 1 else 0) := by
  induction l generalizing i with
  | nil => simp at h
  | cons x l ih =>
    cases i with
    | zero => cases x <;> cases b <;> simp [cnt]
    | succ i =>
      have := ih (i := i) (by simpa using h)
      simp only [cnt, List.set_cons_succ, List.countP_cons, List.getD_cons_succ] at this ⊢
      omega
theorem getD_set_eq {α : Type} {l : List α} {i : Nat} {a d : α} (h : i < l.length) : (l.set i a).getD i d = a := by
  rw [List.getD_eq_getElem?_getD, List.getElem?_set]; simp [h]
theorem getD_set_ne' {α : Type} {l : List α} {i j : Nat} {a d : α} (h : i ≠ j) : (l.set j a).getD i d = l.getD i d := by
  rw [List.getD_eq_getElem?_getD, List.getD_eq_getElem?_getD, set_ne h]
theorem right_splitR {x : T_api_Map} {n i : Int} {k : ByteArray} (h : (splitR x n i k).2 = 0) : Right (splitR x n i k).1 n := by
  unfold splitR at h ⊢
  split
  · rename_i h'; exact right_split (split_ok h').2
  · rename_i h'; rw [if_neg h'] at h; exact absurd h h'
theorem right_mergeR {x : T_api_Map} {n i : Int} (h : (mergeR x n i).2 = 0) : Right (mergeR x n i).1 n := by
  unfold mergeR at h ⊢
  split
  · rename_i h'; exact right_merge (merge_ok h').2
  · rename_i h'; rw [if_neg h'] at h; exact absurd h h'
theorem right_moveR {x : T_api_Map} {n i k : Int} (h : (moveR x n i k).2 = 0) : Right (moveR x n i k).1 n := by
  unfold moveR at h ⊢
  split
  · rename_i h'; exact right_move (move_ok h').2
  · rename_i h'; rw [if_neg h'] at h; exact absurd h h'
theorem valid_map {s : T_config_State} {pool nodes : Int} (hv : Valid s pool nodes) {dc : Nat} (hd : dc < 4) (m : T_api_Map) (hm : s.Members.getD dc false = true) (hr : Right m nodes) : Valid (withMap s dc m) pool nodes := by
  have hl : dc < s.Maps.length := by rw [hv.ok.maps]; exact hd
  refine ⟨ok_setMap hv.ok dc m (right_small hr).1 (right_small hr).2 _ hv.ok.mem _ hv.ok.modes, hv.poolE, hv.nodesE, hv.p4, hv.n4, fun i hi hmi => ?_, fun i hi hmi => ?_, hv.modes, hv.agree, hv.any⟩
  · by_cases hid : i = dc
    · subst hid
      rw [show mapOf (withMap s i m) i = m from getD_set_eq hl]; exact hr
    · rw [show mapOf (withMap s dc m) i = mapOf s i from getD_set_ne' hid]; exact hv.right i hi hmi
  · by_cases hid : i = dc
    · subst hid
      have hmi' : s.Members.getD i false = false := hmi
      rw [hm] at hmi'; cases hmi'
    · rw [show mapOf (withMap s dc m) i = mapOf s i from getD_set_ne' hid]; exact hv.out i hi hmi
theorem valid_swap {s : T_config_State} {pool nodes : Int} (hv : Valid s pool nodes) {dc : Nat} (hd : dc < 4) (b : Bool) (m : T_api_Map) (hm1 : b = true → Right m nodes) (hm2 : b = false → m = empt)
    (hok : OkSt (bothM ⟨s.Pool, s.Nodes, s.Members.set dc b, s.Maps.set dc m, s.Modes⟩ dc)) (hc : 0 < cnt (s.Members.set dc b)) : Valid (bothM ⟨s.Pool, s.Nodes, s.Members.set dc b, s.Maps.set dc m, s.Modes⟩ dc) pool nodes := by
  have hmem : dc < s.Members.length := by rw [hv.ok.mem]; exact hd
  have hmaps : dc < s.Maps.length := by rw [hv.ok.maps]; exact hd
  have e1 : ∀ i, (bothM ⟨s.Pool, s.Nodes, s.Members.set dc b, s.Maps.set dc m, s.Modes⟩ dc).Members.getD i false = (s.Members.set dc b).getD i false := fun _ => rfl
  have e2 : ∀ i, mapOf (bothM ⟨s.Pool, s.Nodes, s.Members.set dc b, s.Maps.set dc m, s.Modes⟩ dc) i = (s.Maps.set dc m).getD i empt := fun _ => rfl
  refine ⟨hok, hv.poolE, hv.nodesE, hv.p4, hv.n4, fun i hi hmi => ?_, fun i hi hmi => ?_, fun m hm => ?_, ?_, hc⟩
  · rw [e1] at hmi
    rw [e2]
    by_cases hid : i = dc
    · subst hid
      rw [getD_set_eq hmem] at hmi
      rw [getD_set_eq hmaps]; exact hm1 hmi
    · rw [getD_set_ne' hid] at hmi
      rw [getD_set_ne' hid]
      exact hv.right i hi hmi
  · rw [e1] at hmi
    rw [e2]
    by_cases hid : i = dc
    · subst hid
      rw [getD_set_eq hmem] at hmi
      rw [getD_set_eq hmaps]; exact hm2 hmi
    · rw [getD_set_ne' hid] at hmi
      rw [getD_set_ne' hid]
      exact hv.out i hi hmi
  · rcases mem_setFrom hm with rfl | hm
    · exact .inr (.inl rfl)
    · exact hv.modes m hm
  · refine hv.agree.imp (fun h => ?_) (fun h => ?_) <;> rw [has_false] at h ⊢ <;> exact fun hm => (mem_setFrom hm).elim (by omega) h
theorem valid_apply {s : T_config_State} {pool nodes : Int} (hv : Valid s pool nodes) (c : T_api_Cmd) (h : (applyR s c).2 = 0) : Valid (applyR s c).1 pool nodes := by
  have hp : (applyP s c).2 = 0 := by
    unfold applyR at h
    split at h
    · rename_i h'; exact h'
    · exact h
  have hr : (applyR s c).1 = (applyP s c).1 := by unfold applyR; rw [if_pos hp]
  have hok := ok_apply hv.ok c
  rw [hr] at hok ⊢
  unfold applyP at hp hok ⊢
  split at hp
  · cases hp
  · rename_i h0
    rw [if_neg h0] at hok ⊢
    split at hp
    · cases hp
    · rename_i h1
      rw [if_neg h1] at hok ⊢
      obtain ⟨dc, hdc⟩ : ∃ dc : Nat, c.DC = dc := ⟨c.DC.toNat, by omega⟩
      have hdc4 : dc < 4 := by omega
      rw [hdc, Int.toNat_natCast] at hp hok ⊢
      have hmem : dc < s.Members.length := by rw [hv.ok.mem]; exact hdc4
      have hmaps : dc < s.Maps.length := by rw [hv.ok.maps]; exact hdc4
      split at hp
      · rename_i k1
        rw [if_pos k1] at hok ⊢
        split at hp
        · cases hp
        · rename_i hm
          rw [if_neg hm] at hok ⊢
          have hm' : s.Members.getD dc false = false := by simpa using hm
          have := cnt_set true hmem
          rw [hm'] at this
          simp only [if_true, Bool.false_eq_true, if_false] at this
          exact valid_swap hv hdc4 true _ (fun _ => right_one nodes hv.n4) (fun h => by cases h) hok (by omega)
      · rename_i k1
        rw [if_neg k1] at hok ⊢
        split at hp
        · rename_i hm
          rw [if_pos hm] at hok ⊢
          have hR := hv.right dc hdc4 hm
          unfold inner at hp hok ⊢
          split at hp
          · rename_i k2
            rw [if_pos k2] at hok ⊢
            split at hp
            · cases hp
            · rename_i hc1
              rw [if_neg hc1] at hok ⊢
              have := cnt_set false hmem
              rw [hm] at this
              simp only [if_true, Bool.false_eq_true, if_false] at this
              have hany := hv.any
              exact valid_swap hv hdc4 false _ (fun h => by cases h) (fun _ => rfl) hok (by omega)
          · rename_i k2
            rw [if_neg k2] at hok ⊢
            split at hp
            · rename_i k3
              rw [if_pos k3] at hok ⊢
              have := right_splitR hp
              rw [hv.nodesE] at this ⊢
              exact valid_map hv hdc4 _ hm this
            · rename_i k3
              rw [if_neg k3] at hok ⊢
              split at hp
              · rename_i k4
                rw [if_pos k4] at hok ⊢
                have := right_mergeR hp
                rw [hv.nodesE] at this ⊢
                exact valid_map hv hdc4 _ hm this
              · rename_i k4
                rw [if_neg k4] at hok ⊢
                split at hp
                · rename_i k5
                  rw [if_pos k5] at hok ⊢
                  have := right_moveR hp
                  rw [hv.nodesE] at this ⊢
                  exact valid_map hv hdc4 _ hm this
                · rename_i k5
                  rw [if_neg k5] at hok ⊢
                  have hp' : speakE s c dc = 0 := hp
                  unfold speakE at hp'
                  split at hp'
                  · cases hp'
                  · rename_i hb
                    split at hp'
                    · cases hp'
                    · split at hp'
                      · cases hp'
                      · split at hp'
                        · cases hp'
                        · rename_i hw
                          refine ⟨hok, hv.poolE, hv.nodesE, hv.p4, hv.n4, hv.right, hv.out, fun m hmm => ?_, ?_, hv.any⟩
                          · rcases List.mem_or_eq_of_mem_set hmm with hmm | rfl
                            · exact hv.modes m hmm
                            · omega
                          · have sub : ∀ x : Int, x ≠ c.Mode → has s.Modes x = false → has (speakM s c dc).Modes x = false := fun x hx hh => by
                              rw [has_false] at hh ⊢
                              exact fun hm2 => (List.mem_or_eq_of_mem_set hm2).elim hh hx
                            simp only [not_or, not_and, Bool.not_eq_true] at hw
                            by_cases m1 : c.Mode = 1
                            · exact .inr (sub 3 (by omega) (hw.2 m1))
                            · by_cases m3 : c.Mode = 3
                              · exact .inl (sub 1 (by omega) (hw.1 m3))
                              · exact hv.agree.imp (sub 1 (by omega)) (sub 3 (by omega))
        · cases hp
end Go.Cf
namespace Go.Cf
open Go
theorem wD (w : T_warden_Warden) : (T_warden_Warden.mk (T_config_State.mk w.now.Pool w.now.Nodes w.now.Members w.now.Maps w.now.Modes) (T_config_State.mk w.tail.Pool w.tail.Nodes w.tail.Members w.tail.Maps w.tail.Modes) w.queue w.done w.epoch w.step_ w.wait w.mark_ w.ready w.out) = w := rfl
/-- the entry that goes to datacenter i -/
def mailE (epoch n : Int) (vec : List Int) (c : T_api_Cmd) (i : Nat) : T_api_Mail := T_api_Mail.mk ((5 * i + 1 : Nat) : Int) (T_api_Msg.mk 21 (IntKind.u64.wrap (IntKind.i64.wrap (epoch + 1))) n 0 ByteArray.empty ByteArray.empty ([] : List T_api_Ver) vec c)
/-- one datacenter -/
def layStep (m k : List Bool) (epoch n : Int) (vec : List Int) (c : T_api_Cmd) (i : Nat) (x : List Bool × List T_api_Mail) : List Bool × List T_api_Mail :=
  if m.getD i false || k.getD i false then (x.1.set i (m.getD i false || n == 2), x.2 ++ [mailE epoch n vec c i]) else x
def layAll (m k : List Bool) (epoch n : Int) (vec : List Int) (c : T_api_Cmd) (x : List Bool × List T_api_Mail) : List Bool × List T_api_Mail :=
  layStep m k epoch n vec c 3 (layStep m k epoch n vec c 2 (layStep m k epoch n vec c 1 (layStep m k epoch n vec c 0 x)))
theorem layStep_len (m k : List Bool) (epoch n : Int) (vec : List Int) (c : T_api_Cmd) (i : Nat) (x : List Bool × List T_api_Mail) : (layStep m k epoch n vec c i x).1.length = x.1.length ∧ (layStep m k epoch n vec c i x).2.length ≤ x.2.length + 1 := by
  unfold layStep
  split
  · simp
  · simp
theorem place_gate (N : Nat) (i : Nat) (h : i < 4) : M.api_Place N (i : Int) (-1) = some ((5 * i + 1 : Nat) : Int) := by
  match i, h with
  | 0, _ => rfl
  | 1, _ => rfl
  | 2, _ => rfl
  | 3, _ => rfl
theorem send_L6_step (N : Nat) (w : T_warden_Warden) (c : T_api_Cmd) (v : Int × Int × (List Bool) × (List T_api_Map) × (List Int)) (n : Int) (vec : List Int) (fuel i : Nat) (hi : i < 4) (hm : w.now.Members.length = 4) (hk : v.2.2.1.length = 4)
    (x : List Bool × List T_api_Mail) (hw : x.1.length = 4) (ho : x.2.length < 1000000000) (hv : vec.length < 1000000000) :
    M.warden_Warden_send_L6 N (fuel + 1) w c v n vec x.1 x.2 (i : Int) = M.warden_Warden_send_L6 N fuel w c v n vec (layStep w.now.Members v.2.2.1 w.epoch n vec c i x).1 (layStep w.now.Members v.2.2.1 w.epoch n vec c i x).2 ((i + 1 : Nat) : Int) := by
  simp only [M.warden_Warden_send_L6, M.warden_Warden_send_k7]
  rw [decide_eq_true (by omega : (i : Int) < 4), idx_getD false (by omega : i < w.now.Members.length), idx_getD false (by omega : i < v.2.2.1.length), idx_getD false (by omega : i < x.1.length), place_gate N i hi, wrap_succ (by omega), apd_ok (l := ([] : List Int)) (by simp; omega)]
  have ha : ∀ y, apd x.2 [y] = some (x.2 ++ [y]) := fun y => apd_ok (by simp; omega)
  unfold layStep
  cases w.now.Members.getD i false <;> cases v.2.2.1.getD i false <;> simp [mailE, ha, cmdD]
theorem send_L6 (N : Nat) (hN : 100 ≤ N) (w : T_warden_Warden) (c : T_api_Cmd) (v : Int × Int × (List Bool) × (List T_api_Map) × (List Int)) (n : Int) (vec : List Int) (hm : w.now.Members.length = 4) (hk : v.2.2.1.length = 4)
    (hw : w.wait.length = 4) (ho : w.out.length < 999999000) (hv : vec.length < 1000000000) :
    M.warden_Warden_send_L6 N N w c v n vec w.wait w.out 0 = some { w with epoch := IntKind.i64.wrap (w.epoch + 1), wait := (layAll w.now.Members v.2.2.1 w.epoch n vec c (w.wait, w.out)).1, out := (layAll w.now.Members v.2.2.1 w.epoch n vec c (w.wait, w.out)).2 } := by
  obtain ⟨f, rfl⟩ : ∃ f, N = f + 5 := ⟨N - 5, by omega⟩
  have l0 := layStep_len w.now.Members v.2.2.1 w.epoch n vec c 0 (w.wait, w.out)
  have l1 := layStep_len w.now.Members v.2.2.1 w.epoch n vec c 1 (layStep w.now.Members v.2.2.1 w.epoch n vec c 0 (w.wait, w.out))
  have l2 := layStep_len w.now.Members v.2.2.1 w.epoch n vec c 2 (layStep w.now.Members v.2.2.1 w.epoch n vec c 1 (layStep w.now.Members v.2.2.1 w.epoch n vec c 0 (w.wait, w.out)))
  simp only at l0 l1 l2
  have s0 := send_L6_step (f + 5) w c v n vec (f + 4) 0 (by omega) hm hk (w.wait, w.out) hw (by simp only; omega) hv
  have s1 := send_L6_step (f + 5) w c v n vec (f + 3) 1 (by omega) hm hk _ (l0.1.trans hw) (by omega) hv
  have s2 := send_L6_step (f + 5) w c v n vec (f + 2) 2 (by omega) hm hk _ (l1.1.trans (l0.1.trans hw)) (by omega) hv
  have s3 := send_L6_step (f + 5) w c v n vec (f + 1) 3 (by omega) hm hk _ (l2.1.trans (l1.1.trans (l0.1.trans hw))) (by omega) hv
  refine s0.trans (s1.trans (s2.trans (s3.trans ?_)))
  simp only [M.warden_Warden_send_L6]
  rfl
theorem send_L5 (N : Nat) (w : T_warden_Warden) (c : T_api_Cmd) (v : Int × Int × (List Bool) × (List T_api_Map) × (List Int)) (n : Int) (modes : List Int) (hl : modes.length = 21) : ∀ (fuel j : Nat) (vec : List Int), 21 - j < fuel → j ≤ 21 → vec.length ≤ 100 + j →
    M.warden_Warden_send_L5 N fuel w c v n modes vec (j : Int) = M.warden_Warden_send_L6 N N w c v n (vec ++ (modes.drop j).map IntKind.u64.wrap) w.wait w.out 0 := by
  intro fuel
  induction fuel with
  | zero => intro j vec h; omega
  | succ fuel ih =>
    intro j vec hf hj hv
    simp only [M.warden_Warden_send_L5]
    by_cases hlt : j < 21
    · have hm : j < modes.length := by omega
      rw [decide_eq_true (by omega : (j : Int) < 21), idx_get hm, wrap_succ (by omega)]
      simp only [Option.bind_some, cond_true]
      rw [apd_ok (by simp; omega)]
      simp only [Option.bind_some]
      refine (ih (j + 1) _ (by omega) (by omega) (by simp; omega)).trans ?_
      rw [show modes.drop j = modes[j] :: modes.drop (j + 1) from List.drop_eq_getElem_cons hm, List.map_cons, List.append_assoc]
      rfl
    · have hj' : j = 21 := by omega
      subst hj'
      rw [List.drop_eq_nil_of_le (by omega)]
      simp
def bitStep (m : List Bool) (i : Nat) (b : Int) : Int := if m.getD i false then iOr .u64 b (IntKind.u64.wrap (1 * 2 ^ min i 64)) else b
def bits (m : List Bool) : Int := bitStep m 3 (bitStep m 2 (bitStep m 1 (bitStep m 0 0)))
theorem send_L3_step (N : Nat) (w : T_warden_Warden) (c : T_api_Cmd) (v : Int × Int × (List Bool) × (List T_api_Map) × (List Int)) (n p q : Int) (m : List Bool) (maps : List T_api_Map) (modes : List Int) (hm : m.length = 4) (fuel i : Nat) (hi : i < 4) (b : Int) :
    M.warden_Warden_send_L3 N (fuel + 1) w c v n p q m maps modes [b] (i : Int) = M.warden_Warden_send_L3 N fuel w c v n p q m maps modes [bitStep m i b] ((i + 1 : Nat) : Int) := by
  simp only [M.warden_Warden_send_L3, M.warden_Warden_send_k4]
  rw [decide_eq_true (by omega : (i : Int) < 4), idx_getD false (by omega : i < m.length), wrap_succ (by omega)]
  have hs : shlV .u64 1 (i : Int) = some (IntKind.u64.wrap (1 * 2 ^ min i 64)) := by
    unfold shlV
    rw [if_pos (by omega)]
    rfl
  have h0 : idx [b] 0 = some b := rfl
  unfold bitStep
  cases m.getD i false <;> simp [hs, h0]
/-- the vector of an entry -/
def vecOf (s : T_config_State) : List Int := bits s.Members :: s.Modes.map IntKind.u64.wrap
theorem send_k2 (N : Nat) (hN : 100 ≤ N) (w : T_warden_Warden) (c : T_api_Cmd) (v : Int × Int × (List Bool) × (List T_api_Map) × (List Int)) (n : Int) (s : T_config_State) (hs : OkSt s) (hm : w.now.Members.length = 4) (hk : v.2.2.1.length = 4)
    (hw : w.wait.length = 4) (ho : w.out.length < 999999000) :
    M.warden_Warden_send_k2 N w c v n s.Pool s.Nodes s.Members s.Maps s.Modes = some { w with epoch := IntKind.i64.wrap (w.epoch + 1), wait := (layAll w.now.Members v.2.2.1 w.epoch n (vecOf s) c (w.wait, w.out)).1, out := (layAll w.now.Members v.2.2.1 w.epoch n (vecOf s) c (w.wait, w.out)).2 } := by
  unfold M.warden_Warden_send_k2
  have hL : ∀ f, M.warden_Warden_send_L3 N (f + 5) w c v n s.Pool s.Nodes s.Members s.Maps s.Modes [0] 0 = M.warden_Warden_send_L5 N N w c v n s.Modes [bits s.Members] 0 := fun f => by
    refine (send_L3_step N w c v n _ _ s.Members s.Maps s.Modes hs.mem (f + 4) 0 (by omega) 0).trans ?_
    refine (send_L3_step N w c v n _ _ s.Members s.Maps s.Modes hs.mem (f + 3) 1 (by omega) _).trans ?_
    refine (send_L3_step N w c v n _ _ s.Members s.Maps s.Modes hs.mem (f + 2) 2 (by omega) _).trans ?_
    refine (send_L3_step N w c v n _ _ s.Members s.Maps s.Modes hs.mem (f + 1) 3 (by omega) _).trans ?_
    simp only [M.warden_Warden_send_L3]
    rfl
  have h3 : M.warden_Warden_send_L3 N N w c v n s.Pool s.Nodes s.Members s.Maps s.Modes [0] 0 = M.warden_Warden_send_L5 N N w c v n s.Modes [bits s.Members] 0 := by
    have := hL (N - 5)
    rwa [show N - 5 + 5 = N from by omega] at this
  rw [h3]
  refine (send_L5 N w c v n s.Modes hs.modes N 0 [bits s.Members] (by omega) (by omega) (by simp)).trans ?_
  exact send_L6 N hN w c v n (vecOf s) hm hk hw ho (by simp [vecOf, hs.modes])
/-- what is said by an entry -/
def saysOf (now : T_config_State) (c : T_api_Cmd) (n : Int) : T_config_State := if c.Kind = 2 ∧ n = 1 then now else (applyR now c).1
def sendP (w : T_warden_Warden) (c : T_api_Cmd) : T_warden_Warden :=
  let n : Int := if w.step_ = 3 then 2 else 1
  let x := layAll w.now.Members (applyR w.now c).1.Members w.epoch n (vecOf (saysOf w.now c n)) c (w.wait, w.out)
  { w with epoch := IntKind.i64.wrap (w.epoch + 1), wait := x.1, out := x.2 }
theorem send_eq (N : Nat) (hN : 100 ≤ N) (w : T_warden_Warden) (c : T_api_Cmd) (q : List T_api_Cmd) (hq : w.queue = c :: q) (hs : OkSt w.now) (hw : w.wait.length = 4) (ho : w.out.length < 999999000) : M.warden_Warden_send N w = some (sendP w c) := by
  unfold M.warden_Warden_send
  rw [show idx w.queue 0 = some c from by rw [hq]; rfl]
  have hok := ok_apply hs c
  simp only [Option.bind_some, csD, cmdD, (apply_eq N hN w.now c hs).1]
  have k1 : ∀ n : Int, M.warden_Warden_send_k1 N w c ((applyR w.now c).1.Pool, (applyR w.now c).1.Nodes, (applyR w.now c).1.Members, (applyR w.now c).1.Maps, (applyR w.now c).1.Modes) n =
      some { w with epoch := IntKind.i64.wrap (w.epoch + 1), wait := (layAll w.now.Members (applyR w.now c).1.Members w.epoch n (vecOf (saysOf w.now c n)) c (w.wait, w.out)).1, out := (layAll w.now.Members (applyR w.now c).1.Members w.epoch n (vecOf (saysOf w.now c n)) c (w.wait, w.out)).2 } := fun n => by
    unfold M.warden_Warden_send_k1 saysOf
    by_cases h1 : c.Kind = 2
    · by_cases h2 : n = 1
      · subst h2
        simp only [h1, beq_self_eq_true, cond_true, Option.bind_some, and_self, if_true]
        exact send_k2 N hN w c _ 1 w.now hs hs.mem hok.mem hw ho
      · simp only [h1, beq_self_eq_true, cond_true, Option.bind_some, beq_eq_false_iff_ne.2 h2, cond_false, h2, and_false, if_false]
        exact send_k2 N hN w c _ n (applyR w.now c).1 hok hs.mem hok.mem hw ho
    · simp only [beq_eq_false_iff_ne.2 h1, cond_false, Option.bind_some, h1, false_and, if_false]
      exact send_k2 N hN w c _ n (applyR w.now c).1 hok hs.mem hok.mem hw ho
  by_cases h : w.step_ = 3
  · rw [h]
    simp only [beq_self_eq_true, cond_true]
    rw [k1 2]
    simp [sendP, h]
  · rw [beq_eq_false_iff_ne.2 h]
    simp only [cond_false]
    rw [k1 1]
    simp [sendP, h]
structure WOk (w : T_warden_Warden) (B : Nat) : Prop where
  now : OkSt w.now
  tail : OkSt w.tail
  wait : w.wait.length = 4
  out : w.out.length ≤ B
  queue : w.queue.length ≤ 8
  busy : w.step_ ≠ 0 → w.queue ≠ []
def startP (w : T_warden_Warden) : T_warden_Warden :=
  if w.step_ = 0 then match w.queue with
    | [] => w
    | c :: _ => sendP { w with step_ := 1, ready := false } c
  else w
theorem layAll_len (m k : List Bool) (epoch n : Int) (vec : List Int) (c : T_api_Cmd) (x : List Bool × List T_api_Mail) : (layAll m k epoch n vec c x).1.length = x.1.length ∧ (layAll m k epoch n vec c x).2.length ≤ x.2.length + 4 := by
  have l0 := layStep_len m k epoch n vec c 0 x
  have l1 := layStep_len m k epoch n vec c 1 (layStep m k epoch n vec c 0 x)
  have l2 := layStep_len m k epoch n vec c 2 (layStep m k epoch n vec c 1 (layStep m k epoch n vec c 0 x))
  have l3 := layStep_len m k epoch n vec c 3 (layStep m k epoch n vec c 2 (layStep m k epoch n vec c 1 (layStep m k epoch n vec c 0 x)))
  refine ⟨l3.1.trans (l2.1.trans (l1.1.trans l0.1)), ?_⟩
  have h : (layAll m k epoch n vec c x).2.length ≤ _ := l3.2
  omega
theorem sendP_ok {w : T_warden_Warden} {B : Nat} {c : T_api_Cmd} {q : List T_api_Cmd} (h : OkSt w.now) (ht : OkSt w.tail) (hw : w.wait.length = 4) (ho : w.out.length ≤ B) (hq : w.queue.length ≤ 8) (hqc : w.queue = c :: q) : WOk (sendP w c) (B + 4) := by
  have hl := layAll_len w.now.Members (applyR w.now c).1.Members w.epoch (if w.step_ = 3 then 2 else 1) (vecOf (saysOf w.now c (if w.step_ = 3 then 2 else 1))) c (w.wait, w.out)
  exact ⟨h, ht, hl.1.trans hw, Nat.le_trans hl.2 (by simp only; omega), hq, fun _ => by show w.queue ≠ []; rw [hqc]; simp⟩
theorem startP_busy {w : T_warden_Warden} (h : w.step_ ≠ 0) : startP w = w := by unfold startP; rw [if_neg h]
theorem startP_nil {w : T_warden_Warden} (hq : w.queue = []) : startP w = w := by
  unfold startP
  split
  · split
    · rfl
    · rename_i h; rw [hq] at h; cases h
  · rfl
theorem startP_cons {w : T_warden_Warden} {c : T_api_Cmd} {q : List T_api_Cmd} (h : w.step_ = 0) (hq : w.queue = c :: q) : startP w = sendP { w with step_ := 1, ready := false } c := by
  unfold startP
  rw [if_pos h]
  split
  · rename_i h'; rw [hq] at h'; cases h'
  · rename_i c' q' h'
    rw [hq] at h'
    simp only [List.cons.injEq] at h'
    rw [h'.1]
theorem start_eq9 (N : Nat) (hN : 100 ≤ N) (w : T_warden_Warden) (B : Nat) (hB : B < 999999000) (hw : WOk w B) : M.warden_Warden_start N w = some (startP w) ∧ WOk (startP w) (B + 4) := by
  have hwk : WOk w (B + 4) := ⟨hw.now, hw.tail, hw.wait, by have := hw.out; omega, hw.queue, hw.busy⟩
  unfold M.warden_Warden_start
  by_cases h : w.step_ = 0
  · rw [show (w.step_ == 0) = true from by rw [h]; rfl]
    rcases hq : w.queue with _ | ⟨c, q⟩
    · rw [startP_nil hq]
      refine ⟨?_, hwk⟩
      rw [← hq]
      rw [show decide (((w.queue.length : Nat) : Int) > 0) = false from decide_eq_false (by rw [hq]; simp)]
      rfl
    · rw [startP_cons h hq]
      have hs := send_eq N hN { w with step_ := 1, ready := false } c q hq hw.now hw.wait (by have := hw.out; simp only; omega)
      refine ⟨?_, sendP_ok (w := { w with step_ := 1, ready := false }) hw.now hw.tail hw.wait hw.out hw.queue hq⟩
      rw [← hq]
      rw [show decide (((w.queue.length : Nat) : Int) > 0) = true from decide_eq_true (by rw [hq]; simp only [List.length_cons]; omega)]
      simp only [cond_true, Option.bind_some]
      refine (congrArg (fun z => Option.bind z _) hs).trans ?_
      rfl
  · rw [startP_busy h, beq_eq_false_iff_ne.2 h]
    exact ⟨rfl, hwk⟩
def finishP (w : T_warden_Warden) (c : T_api_Cmd) (q : List T_api_Cmd) : T_warden_Warden := startP { w with now := (applyR w.now c).1, queue := q, done := IntKind.i64.wrap (w.done + 1), step_ := 0 }
theorem finish_eq (N : Nat) (hN : 100 ≤ N) (w : T_warden_Warden) (c : T_api_Cmd) (q : List T_api_Cmd) (hq : w.queue = c :: q) (B : Nat) (hB : B < 999999000) (hw : WOk w B) : M.warden_Warden_finish N w = some (finishP w c q) ∧ WOk (finishP w c q) (B + 4) := by
  have hok := ok_apply hw.now c
  have hl : w.queue.length = q.length + 1 := by rw [hq]; rfl
  have hw' : WOk { w with now := (applyR w.now c).1, queue := q, done := IntKind.i64.wrap (w.done + 1), step_ := 0 } B := ⟨hok, hw.tail, hw.wait, hw.out, by have := hw.queue; simp only; omega, fun h => absurd rfl h⟩
  have hs := start_eq9 N hN _ B hB hw'
  refine ⟨?_, hs.2⟩
  unfold M.warden_Warden_finish
  rw [show idx w.queue 0 = some c from by rw [hq]; rfl]
  simp only [Option.bind_some, csD, cmdD, (apply_eq N hN w.now c hw.now).1]
  have hsl : slc w.queue 1 (w.queue.length : Int) = some q := by
    have := slc_ok (l := w.queue) (lo := 1) (hi := w.queue.length) (by omega) (Nat.le_refl _)
    rw [show ((1 : Nat) : Int) = 1 from rfl] at this
    rw [this, hq]; simp
  rw [hsl]
  simp only [Option.bind_some]
  refine (congrArg (fun z => Option.bind z _) hs.1).trans ?_
  rfl
def askP (w : T_warden_Warden) (c : T_api_Cmd) : Int × Int × T_warden_Warden :=
  if w.queue.length ≥ 8 then (0, 9, w)
  else if (applyR w.tail c).2 ≠ 0 then (0, (applyR w.tail c).2, w)
  else
    let w' := startP { w with tail := (applyR w.tail c).1, queue := w.queue ++ [plainC c] }
    (IntKind.i64.wrap (IntKind.i64.wrap (w'.done + (w'.queue.length : Int)) - 1), 0, w')
theorem ask_eq (N : Nat) (hN : 100 ≤ N) (w : T_warden_Warden) (c : T_api_Cmd) (B : Nat) (hB : B < 999999000) (hw : WOk w B) : M.warden_Warden_Ask N w c = some (askP w c) ∧ WOk (askP w c).2.2 (B + 4) := by
  have hwk : WOk w (B + 4) := ⟨hw.now, hw.tail, hw.wait, by have := hw.out; omega, hw.queue, hw.busy⟩
  unfold M.warden_Warden_Ask askP
  by_cases h8 : w.queue.length ≥ 8
  · rw [if_pos h8, decide_eq_true (by omega : ((w.queue.length : Nat) : Int) ≥ 8)]
    exact ⟨rfl, hwk⟩
  · rw [if_neg h8, decide_eq_false (by omega : ¬ ((w.queue.length : Nat) : Int) ≥ 8)]
    simp only [cond_false, csD, cmdD, (apply_eq N hN w.tail c hw.tail).1, Option.bind_some]
    by_cases he : (applyR w.tail c).2 = 0
    · rw [if_neg (by simp [he])]
      have hok := ok_apply hw.tail c
      have hw' : WOk { w with tail := (applyR w.tail c).1, queue := w.queue ++ [plainC c] } B := ⟨hw.now, hok, hw.wait, hw.out, by simp; omega, fun _ => by simp⟩
      have hs := start_eq9 N hN _ B hB hw'
      refine ⟨?_, hs.2⟩
      simp only [he, bne_self_eq_false, cond_false, (plain_eq N c).1, Option.bind_some]
      rw [apd_ok (by simp; omega)]
      simp only [Option.bind_some]
      refine (congrArg (fun z => Option.bind z _) hs.1).trans ?_
      rfl
    · rw [if_pos he, bne_iff_ne.2 he]
      exact ⟨rfl, hwk⟩
end Go.Cf
namespace Go.Cf
open Go
theorem zeros4 (l : List Bool) (h : l.length = 4) : cEq (flat [(4, encs fBool l)]) (flat [(4, encs fBool (List.replicate 4 false))]) = decide (l = List.replicate 4 false) := by
  match l, h with
  | [a, b, c, d], _ => cases a <;> cases b <;> cases c <;> cases d <;> rfl
def gateI (dc : Int) : Int := IntKind.i64.wrap ((IntKind.i64.wrap ((IntKind.i64.wrap (1 + (IntKind.i64.wrap (5 * dc)))) + (-1))) + 1)
def mailF (epoch mark : Int) (c : T_api_Cmd) : T_api_Mail := T_api_Mail.mk (gateI c.DC) (T_api_Msg.mk 22 (IntKind.u64.wrap epoch) 0 mark ByteArray.empty ByteArray.empty ([] : List T_api_Ver) ([] : List Int) (T_api_Cmd.mk 0 0 0 0 0 ByteArray.empty))
def k1P (w : T_warden_Warden) (c : T_api_Cmd) : T_warden_Warden := if w.step_ = 2 ∧ w.ready = true then sendP { w with step_ := 3 } c else w
def ackW (w : T_warden_Warden) (dc : Nat) (ts : Int) : T_warden_Warden := { w with wait := w.wait.set dc false, mark_ := if ts > w.mark_ then ts else w.mark_ }
def takeQ (w : T_warden_Warden) (c : T_api_Cmd) (q : List T_api_Cmd) (dc : Int) (m : T_api_Msg) : T_warden_Warden :=
  if m.Kind = 23 ∧ w.wait.getD dc.toNat false = true then
    if w.wait.set dc.toNat false ≠ List.replicate 4 false then ackW w dc.toNat m.TS
    else if w.step_ = 3 ∨ ¬ (c.Kind = 1 ∨ c.Kind = 2) then finishP (ackW w dc.toNat m.TS) c q
    else if c.Kind = 1 then k1P { ackW w dc.toNat m.TS with step_ := 2, out := w.out ++ [mailF w.epoch (if m.TS > w.mark_ then m.TS else w.mark_) c] } c
    else k1P { ackW w dc.toNat m.TS with step_ := 2 } c
  else if dc = c.DC ∧ (w.step_ = 2 ∧ m.Kind = 24 ∧ c.Kind = 1 ∨ w.step_ < 3 ∧ m.Kind = 25 ∧ c.Kind = 2) then k1P { w with ready := true } c
  else k1P w c
def skips (w : T_warden_Warden) (dc : Int) (m : T_api_Msg) : Prop := dc < 0 ∨ dc ≥ 4 ∨ w.step_ = 0 ∨ m.Id ≠ IntKind.u64.wrap w.epoch
theorem take_skip (N : Nat) (w : T_warden_Warden) (dc : Int) (m : T_api_Msg) (h : skips w dc m) : M.warden_Warden_Take N w dc m = some w := by
  unfold M.warden_Warden_Take
  by_cases h1 : dc < 0
  · simp [h1]
  · by_cases h2 : dc ≥ 4
    · simp [h2]
    · by_cases h3 : w.step_ = 0
      · rw [decide_eq_false h1, decide_eq_false h2, show (w.step_ == 0) = true from by rw [h3]; rfl]; rfl
      · rcases h with h | h | h | h
        · exact absurd h h1
        · exact absurd h h2
        · exact absurd h h3
        · rw [decide_eq_false h1, decide_eq_false h2, beq_eq_false_iff_ne.2 h3, bne_iff_ne.2 h]; rfl
theorem k1_eq (N : Nat) (hN : 100 ≤ N) (w : T_warden_Warden) (c : T_api_Cmd) (q : List T_api_Cmd) (hq : w.queue = c :: q) (st : Int) (wt : List Bool) (mk : Int) (rd : Bool) (out : List T_api_Mail) (hs : OkSt w.now) (hw : wt.length = 4) (ho : out.length < 999999000) :
    M.warden_Warden_Take_k1 N w st wt mk rd out = some (k1P { w with step_ := st, wait := wt, mark_ := mk, ready := rd, out := out } c) := by
  unfold M.warden_Warden_Take_k1 k1P
  by_cases h2 : st = 2
  · subst h2
    cases rd with
    | true =>
      simp only [beq_self_eq_true, cond_true, Option.bind_some, and_self, if_true]
      refine (congrArg (fun z => Option.bind z _) (send_eq N hN { w with step_ := 3, wait := wt, mark_ := mk, ready := true, out := out } c q hq hs hw ho)).trans ?_
      rfl
    | false => simp
  · simp [beq_eq_false_iff_ne.2 h2, h2]
theorem ibeq (x y : Int) : (x == y) = decide (x = y) := by
  by_cases h : x = y
  · simp [h]
  · simp [h]
theorem take_go (N : Nat) (hN : 100 ≤ N) (w : T_warden_Warden) (dc : Int) (m : T_api_Msg) (h : ¬ skips w dc m) (c : T_api_Cmd) (q : List T_api_Cmd) (hq : w.queue = c :: q) (B : Nat) (hB : B < 999998000) (hw : WOk w B) :
    M.warden_Warden_Take N w dc m = some (takeQ w c q dc m) := by
  have g1 : ¬ dc < 0 := fun e => h (.inl e)
  have g2 : ¬ dc ≥ 4 := fun e => h (.inr (.inl e))
  have g3 : ¬ w.step_ = 0 := fun e => h (.inr (.inr (.inl e)))
  have g4 : ¬ m.Id ≠ IntKind.u64.wrap w.epoch := fun e => h (.inr (.inr (.inr e)))
  have hid : (m.Id != IntKind.u64.wrap w.epoch) = false := by simp at g4; simp [g4]
  have ho := hw.out
  obtain ⟨i, hi, rfl⟩ : ∃ i : Nat, i < 4 ∧ dc = i := ⟨dc.toNat, by omega, by omega⟩
  have hset : (w.wait.set i false).length = 4 := by rw [List.length_set]; exact hw.wait
  have hack : WOk (ackW w i m.TS) B := ⟨hw.now, hw.tail, hset, ho, hw.queue, hw.busy⟩
  have hk1 := fun st wt mk rd out h1 h2 => k1_eq N hN w c q hq st wt mk rd out hw.now h1 h2
  unfold M.warden_Warden_Take
  rw [decide_eq_false g1, decide_eq_false g2, beq_eq_false_iff_ne.2 g3, hid, show idx w.queue 0 = some c from by rw [hq]; rfl, idx_getD false (by rw [hw.wait]; exact hi : i < w.wait.length), Int.toNat_natCast, zeros4 _ hset]
  simp only [cond_false, Option.bind_some, cmdD]
  unfold takeQ
  rw [Int.toNat_natCast]
  by_cases a1 : m.Kind = 23 ∧ w.wait.getD i false = true
  · rw [if_pos a1, a1.1, a1.2]
    simp only [beq_self_eq_true, cond_true, Option.bind_some]
    by_cases a2 : w.wait.set i false = List.replicate 4 false
    · rw [decide_eq_true a2, if_neg (show ¬ (w.wait.set i false ≠ List.replicate 4 false) from fun e => e a2)]
      simp only [Bool.not_true, cond_false, M.warden_two]
      have htwo : (bif (c.Kind == 1) then (some true) else (some (c.Kind == 2))) = some (decide (c.Kind = 1 ∨ c.Kind = 2)) := by
        by_cases b1 : c.Kind = 1
        · simp [b1]
        · by_cases b2 : c.Kind = 2
          · simp [b2]
          · simp [beq_eq_false_iff_ne.2 b1, beq_eq_false_iff_ne.2 b2, b1, b2]
      simp only [htwo, Option.bind_some]
      by_cases a3 : w.step_ = 3 ∨ ¬ (c.Kind = 1 ∨ c.Kind = 2)
      · rw [if_pos a3]
        have hb : ((bif (w.step_ == 3) then (some true) else (some (!decide (c.Kind = 1 ∨ c.Kind = 2)))) : Option Bool) = some true := by
          rcases a3 with b | b
          · simp [b]
          · simp only [b, decide_false, Bool.not_false]; cases (w.step_ == 3) <;> rfl
        rw [hb]
        simp only [Option.bind_some, cond_true]
        refine (congrArg (fun z => Option.bind z _) (finish_eq N hN (ackW w i m.TS) c q hq B (by omega) hack).1).trans ?_
        rfl
      · rw [if_neg a3]
        have n3 : ¬ w.step_ = 3 := fun e => a3 (.inl e)
        have t3 : c.Kind = 1 ∨ c.Kind = 2 := Classical.byContradiction fun e => a3 (.inr e)
        rw [beq_eq_false_iff_ne.2 n3, decide_eq_true t3]
        simp only [cond_false, Bool.not_true, Option.bind_some]
        by_cases a4 : c.Kind = 1
        · rw [if_pos a4, show (c.Kind == 1) = true from by rw [a4]; rfl]
          simp only [cond_true]
          rw [show M.api_Place N c.DC (-1) = some (gateI c.DC) from rfl]
          simp only [Option.bind_some]
          rw [apd_ok (by simp; omega)]
          simp only [Option.bind_some]
          exact hk1 2 (w.wait.set i false) _ w.ready _ hset (by simp; omega)
        · rw [if_neg a4, beq_eq_false_iff_ne.2 a4]
          simp only [cond_false]
          exact hk1 2 (w.wait.set i false) _ w.ready _ hset (by omega)
    · rw [decide_eq_false a2, if_pos a2]; rfl
  · rw [if_neg a1]
    have hb : (bif (m.Kind == 23) then (some (w.wait.getD i false)) else (some false)) = some false := by
      by_cases b : m.Kind = 23
      · have : w.wait.getD i false = false := by
          cases hh : w.wait.getD i false with
          | false => rfl
          | true => exact absurd ⟨b, hh⟩ a1
        rw [this]; cases (m.Kind == 23) <;> rfl
      · rw [beq_eq_false_iff_ne.2 b]; rfl
    rw [hb]
    simp only [Option.bind_some, cond_false]
    have hr : (bif ((i : Int) == c.DC) then (bif (w.step_ == 2) then (bif (m.Kind == 24) then (bif (c.Kind == 1) then (some true) else (bif decide (w.step_ < 3) then (bif (m.Kind == 25) then (some (c.Kind == 2)) else (some false)) else (some false))) else (bif decide (w.step_ < 3) then (bif (m.Kind == 25) then (some (c.Kind == 2)) else (some false)) else (some false))) else (bif decide (w.step_ < 3) then (bif (m.Kind == 25) then (some (c.Kind == 2)) else (some false)) else (some false))) else (some false)) =
        some (decide ((i : Int) = c.DC ∧ (w.step_ = 2 ∧ m.Kind = 24 ∧ c.Kind = 1 ∨ w.step_ < 3 ∧ m.Kind = 25 ∧ c.Kind = 2))) := by
      simp only [ibeq, Bool.decide_and, Bool.decide_or]
      generalize decide ((i : Int) = c.DC) = p1
      generalize decide (w.step_ = 2) = p2
      generalize decide (m.Kind = 24) = p3
      generalize decide (c.Kind = 1) = p4
      generalize decide (w.step_ < 3) = p5
      generalize decide (m.Kind = 25) = p6
      generalize decide (c.Kind = 2) = p7
      cases p1 <;> cases p2 <;> cases p3 <;> cases p4 <;> cases p5 <;> cases p6 <;> cases p7 <;> rfl
    rw [hr]
    simp only [Option.bind_some]
    by_cases a5 : (i : Int) = c.DC ∧ (w.step_ = 2 ∧ m.Kind = 24 ∧ c.Kind = 1 ∨ w.step_ < 3 ∧ m.Kind = 25 ∧ c.Kind = 2)
    · rw [if_pos a5, decide_eq_true a5]
      simp only [cond_true]
      exact hk1 w.step_ w.wait w.mark_ true w.out hw.wait (by omega)
    · rw [if_neg a5, decide_eq_false a5]
      simp only [cond_false]
      exact hk1 w.step_ w.wait w.mark_ w.ready w.out hw.wait (by omega)
set_option maxRecDepth 100000 in
theorem awake19w : M.law19_awake 1000 = some true := by kernel_rfl
def newP (s : T_config_State) : T_warden_Warden := ⟨s, s, [], 0, 0, 0, List.replicate 4 false, 0, false, []⟩
theorem new_eq (N : Nat) (hN : 100 ≤ N) (s : T_config_State) (ho : OkSt s) : M.warden_New N s = some (newP s) := by
  unfold M.warden_New
  simp only [csD, copyS N hN s ho, Option.bind_some]
  rfl
end Go.Cf
namespace Go.Cf
open Go
/-- the document's bits of members -/
theorem bits4 (l : List Bool) (h : l.length = 4) :
    (let b0 := if l.getD 0 false then IntKind.u64.wrap (0 + 1) else 0
     let b1 := if l.getD 1 false then IntKind.u64.wrap (b0 + IntKind.u64.wrap (1 * 2)) else b0
     let b2 := if l.getD 2 false then IntKind.u64.wrap (b1 + IntKind.u64.wrap (IntKind.u64.wrap (1 * 2) * 2)) else b1
     let b3 := if l.getD 3 false then IntKind.u64.wrap (b2 + IntKind.u64.wrap (IntKind.u64.wrap (IntKind.u64.wrap (1 * 2) * 2) * 2)) else b2
     b3) = bits l := by
  match l, h with
  | [a, b, c, d], _ => cases a <;> cases b <;> cases c <;> cases d <;> decide +kernel
section
variable (N : Nat) (hN : 100 ≤ N)
theorem rlay_L6_step (m : T_ref19_Warden) (n : Int) (hn : n = 1 ∨ n = 2) (c : T_api_Cmd) (v : Int × Int × (List Bool) × (List T_api_Map) × (List Int)) (rd : Bool) (vec : List Int) (fuel i : Nat) (hi : i < 4) (hm : m.Now.Members.length = 4) (hk : v.2.2.1.length = 4)
    (x : List Bool × List T_api_Mail) (hw : x.1.length = 4) (ho : x.2.length < 1000000000) (hv : vec.length < 1000000000) :
    M.ref19_Warden_lay_L6 N (fuel + 1) m n c v rd vec x.1 x.2 (i : Int) = M.ref19_Warden_lay_L6 N fuel m n c v rd vec (layStep m.Now.Members v.2.2.1 m.Epoch n vec c i x).1 (layStep m.Now.Members v.2.2.1 m.Epoch n vec c i x).2 ((i + 1 : Nat) : Int) := by
  simp only [M.ref19_Warden_lay_L6, M.ref19_Warden_lay_k7]
  rw [decide_eq_true (by omega : (i : Int) < 4), idx_getD false (by omega : i < m.Now.Members.length), idx_getD false (by omega : i < v.2.2.1.length), idx_getD false (by omega : i < x.1.length), gate_eq N i hi, wrap_succ (by omega), apd_ok (l := ([] : List Int)) (by simp; omega)]
  have ha : ∀ y, apd x.2 [y] = some (x.2 ++ [y]) := fun y => apd_ok (by simp; omega)
  have hu : IntKind.u64.wrap n = n := by rcases hn with rfl | rfl <;> rfl
  unfold layStep
  rcases hn with rfl | rfl <;> cases m.Now.Members.getD i false <;> cases v.2.2.1.getD i false <;> simp [mailE, ha, cmdD, hu] <;> rfl
include hN
theorem rlay_L6 (m : T_ref19_Warden) (n : Int) (hn : n = 1 ∨ n = 2) (c : T_api_Cmd) (v : Int × Int × (List Bool) × (List T_api_Map) × (List Int)) (rd : Bool) (vec : List Int) (hm : m.Now.Members.length = 4) (hk : v.2.2.1.length = 4)
    (hw : m.Wants.length = 4) (ho : m.Mail.length < 999999000) (hv : vec.length < 1000000000) :
    M.ref19_Warden_lay_L6 N N m n c v rd vec m.Wants m.Mail 0 = some { m with Epoch := IntKind.i64.wrap (m.Epoch + 1), Entry := n, Ready := rd, Wants := (layAll m.Now.Members v.2.2.1 m.Epoch n vec c (m.Wants, m.Mail)).1, Mail := (layAll m.Now.Members v.2.2.1 m.Epoch n vec c (m.Wants, m.Mail)).2 } := by
  obtain ⟨f, rfl⟩ : ∃ f, N = f + 5 := ⟨N - 5, by omega⟩
  have l0 := layStep_len m.Now.Members v.2.2.1 m.Epoch n vec c 0 (m.Wants, m.Mail)
  have l1 := layStep_len m.Now.Members v.2.2.1 m.Epoch n vec c 1 (layStep m.Now.Members v.2.2.1 m.Epoch n vec c 0 (m.Wants, m.Mail))
  have l2 := layStep_len m.Now.Members v.2.2.1 m.Epoch n vec c 2 (layStep m.Now.Members v.2.2.1 m.Epoch n vec c 1 (layStep m.Now.Members v.2.2.1 m.Epoch n vec c 0 (m.Wants, m.Mail)))
  simp only at l0 l1 l2
  have s0 := rlay_L6_step (f + 5) m n hn c v rd vec (f + 4) 0 (by omega) hm hk (m.Wants, m.Mail) hw (by simp only; omega) hv
  have s1 := rlay_L6_step (f + 5) m n hn c v rd vec (f + 3) 1 (by omega) hm hk _ (l0.1.trans hw) (by omega) hv
  have s2 := rlay_L6_step (f + 5) m n hn c v rd vec (f + 2) 2 (by omega) hm hk _ (l1.1.trans (l0.1.trans hw)) (by omega) hv
  have s3 := rlay_L6_step (f + 5) m n hn c v rd vec (f + 1) 3 (by omega) hm hk _ (l2.1.trans (l1.1.trans (l0.1.trans hw))) (by omega) hv
  refine s0.trans (s1.trans (s2.trans (s3.trans ?_)))
  simp only [M.ref19_Warden_lay_L6]
  rfl
theorem rlay_L5 (m : T_ref19_Warden) (n : Int) (c : T_api_Cmd) (v : Int × Int × (List Bool) × (List T_api_Map) × (List Int)) (rd : Bool) (p q : Int) (mem : List Bool) (maps : List T_api_Map) (modes : List Int) (hl : modes.length = 21) : ∀ (fuel j : Nat) (vec : List Int), 21 - j < fuel → j ≤ 21 → vec.length ≤ 100 + j →
    M.ref19_Warden_lay_L5 N fuel m n c v p q mem maps modes rd vec (j : Int) = M.ref19_Warden_lay_L6 N N m n c v rd (vec ++ (modes.drop j).map IntKind.u64.wrap) m.Wants m.Mail 0 := by
  have _ := hN
  intro fuel
  induction fuel with
  | zero => intro j vec h; omega
  | succ fuel ih =>
    intro j vec hf hj hv
    simp only [M.ref19_Warden_lay_L5]
    by_cases hlt : j < 21
    · have hm : j < modes.length := by omega
      rw [decide_eq_true (by omega : (j : Int) ≤ 20), idx_get hm, wrap_succ (by omega)]
      simp only [Option.bind_some, cond_true]
      rw [apd_ok (by simp; omega)]
      simp only [Option.bind_some]
      refine (ih (j + 1) _ (by omega) (by omega) (by simp; omega)).trans ?_
      rw [show modes.drop j = modes[j] :: modes.drop (j + 1) from List.drop_eq_getElem_cons hm, List.map_cons, List.append_assoc]
      rfl
    · have hj' : j = 21 := by omega
      subst hj'
      rw [List.drop_eq_nil_of_le (by omega)]
      simp
theorem rlay_L3_step (m : T_ref19_Warden) (n : Int) (c : T_api_Cmd) (v : Int × Int × (List Bool) × (List T_api_Map) × (List Int)) (rd : Bool) (p q : Int) (mem : List Bool) (maps : List T_api_Map) (modes : List Int) (hm : mem.length = 4) (fuel i : Nat) (hi : i < 4) (b by_ : Int) :
    M.ref19_Warden_lay_L3 N (fuel + 1) m n c v p q mem maps modes rd b by_ (i : Int) = M.ref19_Warden_lay_L3 N fuel m n c v p q mem maps modes rd (if mem.getD i false then IntKind.u64.wrap (b + by_) else b) (IntKind.u64.wrap (by_ * 2)) ((i + 1 : Nat) : Int) := by
  have _ := hN
  simp only [M.ref19_Warden_lay_L3, M.ref19_Warden_lay_k4]
  rw [decide_eq_true (by omega : (i : Int) < 4), idx_getD false (by omega : i < mem.length), wrap_succ (by omega)]
  cases mem.getD i false <;> rfl
theorem rlay_k2 (m : T_ref19_Warden) (n : Int) (hn : n = 1 ∨ n = 2) (c : T_api_Cmd) (v : Int × Int × (List Bool) × (List T_api_Map) × (List Int)) (rd : Bool) (s : T_config_State) (hs : OkSt s) (hm : m.Now.Members.length = 4) (hk : v.2.2.1.length = 4)
    (hw : m.Wants.length = 4) (ho : m.Mail.length < 999999000) :
    M.ref19_Warden_lay_k2 N m n c v s.Pool s.Nodes s.Members s.Maps s.Modes rd = some { m with Epoch := IntKind.i64.wrap (m.Epoch + 1), Entry := n, Ready := rd, Wants := (layAll m.Now.Members v.2.2.1 m.Epoch n (vecOf s) c (m.Wants, m.Mail)).1, Mail := (layAll m.Now.Members v.2.2.1 m.Epoch n (vecOf s) c (m.Wants, m.Mail)).2 } := by
  unfold M.ref19_Warden_lay_k2
  have hL : ∀ f, M.ref19_Warden_lay_L3 N (f + 5) m n c v s.Pool s.Nodes s.Members s.Maps s.Modes rd 0 1 0 = M.ref19_Warden_lay_L5 N N m n c v s.Pool s.Nodes s.Members s.Maps s.Modes rd [bits s.Members] 0 := fun f => by
    refine (rlay_L3_step N hN m n c v rd _ _ s.Members s.Maps s.Modes hs.mem (f + 4) 0 (by omega) 0 1).trans ?_
    refine (rlay_L3_step N hN m n c v rd _ _ s.Members s.Maps s.Modes hs.mem (f + 3) 1 (by omega) _ _).trans ?_
    refine (rlay_L3_step N hN m n c v rd _ _ s.Members s.Maps s.Modes hs.mem (f + 2) 2 (by omega) _ _).trans ?_
    refine (rlay_L3_step N hN m n c v rd _ _ s.Members s.Maps s.Modes hs.mem (f + 1) 3 (by omega) _ _).trans ?_
    simp only [M.ref19_Warden_lay_L3]
    rw [← bits4 s.Members hs.mem]
    rfl
  have h3 := hL (N - 5)
  rw [show N - 5 + 5 = N from by omega] at h3
  rw [h3]
  refine (rlay_L5 N hN m n c v rd _ _ s.Members s.Maps s.Modes hs.modes N 0 [bits s.Members] (by omega) (by omega) (by simp)).trans ?_
  exact rlay_L6 N hN m n hn c v rd (vecOf s) hm hk hw ho (by simp [vecOf, hs.modes])
/-- the reference's lay -/
def layP (m : T_ref19_Warden) (s : T_config_State) (c : T_api_Cmd) (n : Int) : T_ref19_Warden :=
  let x := layAll s.Members (applyR s c).1.Members m.Epoch n (vecOf (saysOf s c n)) c (m.Wants, m.Mail)
  { m with Epoch := IntKind.i64.wrap (m.Epoch + 1), Entry := n, Ready := if n = 1 then false else m.Ready, Wants := x.1, Mail := x.2 }
theorem rlay_eq (m : T_ref19_Warden) (s : T_config_State) (hs : OkSt s) (hnow : m.Now = told s) (c : T_api_Cmd) (hc : idx m.Taken m.Done = some c) (n : Int) (hn : n = 1 ∨ n = 2) (hw : m.Wants.length = 4) (ho : m.Mail.length < 999999000) :
    M.ref19_Warden_lay N m n = some (layP m s c n) := by
  have hok := ok_apply hs c
  unfold M.ref19_Warden_lay
  rw [hc]
  have hap : M.ref18_Apply N (T_ref18_State.mk m.Now.Pool m.Now.Nodes m.Now.Members m.Now.Maps m.Now.Modes) c = some (told (applyR s c).1, (applyR s c).2) := by rw [rsD, hnow]; exact (apply_eq N hN s c hs).2
  simp only [Option.bind_some, cmdD, hap]
  have k2 := fun rd (x : T_config_State) hx => rlay_k2 N hN m n hn c ((told (applyR s c).1).Pool, (told (applyR s c).1).Nodes, (told (applyR s c).1).Members, (told (applyR s c).1).Maps, (told (applyR s c).1).Modes) rd x hx (by rw [hnow]; exact hs.mem) hok.mem hw ho
  have k1 : ∀ x : T_config_State, OkSt x → M.ref19_Warden_lay_k1 N m n c ((told (applyR s c).1).Pool, (told (applyR s c).1).Nodes, (told (applyR s c).1).Members, (told (applyR s c).1).Maps, (told (applyR s c).1).Modes) x.Pool x.Nodes x.Members x.Maps x.Modes =
      some { m with Epoch := IntKind.i64.wrap (m.Epoch + 1), Entry := n, Ready := (if n = 1 then false else m.Ready), Wants := (layAll s.Members (applyR s c).1.Members m.Epoch n (vecOf x) c (m.Wants, m.Mail)).1, Mail := (layAll s.Members (applyR s c).1.Members m.Epoch n (vecOf x) c (m.Wants, m.Mail)).2 } := fun x hx => by
    unfold M.ref19_Warden_lay_k1
    have hmm : m.Now.Members = s.Members := by rw [hnow]; rfl
    rcases hn with rfl | rfl
    · refine (k2 false x hx).trans ?_
      rw [hmm]; rfl
    · refine (k2 m.Ready x hx).trans ?_
      rw [hmm]; rfl
  have hsays : ∀ x, x = saysOf s c n → OkSt x → M.ref19_Warden_lay_k1 N m n c ((told (applyR s c).1).Pool, (told (applyR s c).1).Nodes, (told (applyR s c).1).Members, (told (applyR s c).1).Maps, (told (applyR s c).1).Modes) x.Pool x.Nodes x.Members x.Maps x.Modes = some (layP m s c n) := fun x hx hox => by
    subst hx; exact k1 _ hox
  by_cases h1 : c.Kind = 2
  · by_cases h2 : n = 1
    · have e := hsays s (by unfold saysOf; rw [if_pos ⟨h1, h2⟩]) hs
      simp only [h1, h2, beq_self_eq_true, cond_true, Option.bind_some]
      rw [hnow]; subst h2; exact e
    · have e := hsays (applyR s c).1 (by unfold saysOf; rw [if_neg (fun h => h2 h.2)]) hok
      simp only [h1, beq_eq_false_iff_ne.2 h2, beq_self_eq_true, cond_true, Option.bind_some, cond_false]
      exact e
  · have e := hsays (applyR s c).1 (by unfold saysOf; rw [if_neg (fun h => h1 h.1)]) hok
    simp only [beq_eq_false_iff_ne.2 h1, Option.bind_some, cond_false]
    exact e
/-- the reference's Waits -/
theorem rwaits_eq (m : T_ref19_Warden) (h : m.Wants.length = 4) : M.ref19_Warden_Waits N m = some (decide (m.Wants ≠ List.replicate 4 false)) := by
  obtain ⟨f, rfl⟩ : ∃ f, N = f + 5 := ⟨N - 5, by omega⟩
  unfold M.ref19_Warden_Waits
  have step : ∀ (fuel i : Nat), i < 4 → M.ref19_Warden_Waits_L1 (f + 5) (fuel + 1) m (i : Int) = (bif m.Wants.getD i false then some true else M.ref19_Warden_Waits_L1 (f + 5) fuel m ((i + 1 : Nat) : Int)) := fun fuel i hi => by
    simp only [M.ref19_Warden_Waits_L1]
    rw [decide_eq_true (by omega : (i : Int) < 4), idx_getD false (by omega : i < m.Wants.length), wrap_succ (by omega)]
    rfl
  refine (step (f + 4) 0 (by omega)).trans ?_
  rw [step (f + 3) 1 (by omega), step (f + 2) 2 (by omega), step (f + 1) 3 (by omega)]
  have last : M.ref19_Warden_Waits_L1 (f + 5) (f + 1) m ((3 + 1 : Nat) : Int) = some false := by simp only [M.ref19_Warden_Waits_L1]; rfl
  rw [last]
  generalize m.Wants = l at h
  match l, h with
  | [a, b, c, d], _ => cases a <;> cases b <;> cases c <;> cases d <;> rfl
end
theorem k1P_ok16 {w : T_warden_Warden} {B : Nat} {c : T_api_Cmd} {q : List T_api_Cmd} (hw : WOk w B) (hq : w.queue = c :: q) : WOk (k1P w c) (B + 4) := by
  unfold k1P
  split
  · exact sendP_ok (w := { w with step_ := 3 }) hw.now hw.tail hw.wait hw.out hw.queue hq
  · exact ⟨hw.now, hw.tail, hw.wait, Nat.le_trans hw.out (by omega), hw.queue, hw.busy⟩
theorem WOk.up16 {w : T_warden_Warden} {B B' : Nat} (h : WOk w B) (hB : B ≤ B') : WOk w B' := ⟨h.now, h.tail, h.wait, Nat.le_trans h.out hB, h.queue, h.busy⟩
theorem takeQ_ok16 {w : T_warden_Warden} {B : Nat} (hB : B < 999998000) {c : T_api_Cmd} {q : List T_api_Cmd} (hw : WOk w B) (hq : w.queue = c :: q) (dc : Int) (m : T_api_Msg) : WOk (Cf.takeQ w c q dc m) (B + 5) := by
  have ha : WOk (ackW w dc.toNat m.TS) B := ⟨hw.now, hw.tail, by show (w.wait.set _ _).length = 4; rw [List.length_set]; exact hw.wait, hw.out, hw.queue, hw.busy⟩
  unfold Cf.takeQ
  split
  · split
    · exact ha.up16 (by omega)
    · split
      · exact (finish_eq 100 (Nat.le_refl _) (ackW w dc.toNat m.TS) c q hq B (by omega) ha).2.up16 (by omega)
      · split
        · refine (k1P_ok16 (B := B + 1) (q := q) ?_ ?_)
          · exact ⟨ha.now, ha.tail, ha.wait, by have := hw.out; simp; omega, ha.queue, fun _ => by show w.queue ≠ []; rw [hq]; simp⟩
          · exact hq
        · refine (k1P_ok16 (B := B) (q := q) ?_ ?_).up16 (by omega)
          · exact ⟨ha.now, ha.tail, ha.wait, ha.out, ha.queue, fun _ => by show w.queue ≠ []; rw [hq]; simp⟩
          · exact hq
  · split
    · refine (k1P_ok16 (B := B) (q := q) ?_ ?_).up16 (by omega)
      · exact ⟨hw.now, hw.tail, hw.wait, hw.out, hw.queue, fun _ => by show w.queue ≠ []; rw [hq]; simp⟩
      · exact hq
    · exact (k1P_ok16 hw hq).up16 (by omega)
end Go.Cf
namespace Go.Cf
open Go
def runq (s : T_config_State) (l : List T_api_Cmd) : T_config_State := l.foldl (fun s c => (applyR s c).1) s
def goodQ (s : T_config_State) : List T_api_Cmd → Prop
  | [] => True
  | c :: q => (applyR s c).2 = 0 ∧ goodQ (applyR s c).1 q
theorem runq_snoc (s : T_config_State) (l : List T_api_Cmd) (c : T_api_Cmd) : runq s (l ++ [c]) = (applyR (runq s l) c).1 := by simp [runq]
theorem goodQ_snoc {s : T_config_State} {l : List T_api_Cmd} {c : T_api_Cmd} (h : goodQ s l) (hc : (applyR (runq s l) c).2 = 0) : goodQ s (l ++ [c]) := by
  induction l generalizing s with
  | nil => exact ⟨hc, trivial⟩
  | cons x l ih => exact ⟨h.1, ih h.2 hc⟩
def entryOf (st : Int) : Int := if st = 0 then 0 else if st = 3 then 2 else 1
/-- the reference that goes with a warden -/
def refOf (w : T_warden_Warden) (taken : List T_api_Cmd) : T_ref19_Warden := ⟨told w.now, taken, w.done, w.epoch, entryOf w.step_, w.wait, w.ready, w.mark_, w.out⟩
abbrev two (c : T_api_Cmd) : Prop := c.Kind = 1 ∨ c.Kind = 2
abbrev none4 : List Bool := List.replicate 4 false
structure PInv (pool nodes : Int) (taken : List T_api_Cmd) (d : Nat) (w : T_warden_Warden) : Prop where
  le : d ≤ taken.length
  done : w.done = d
  queue : w.queue = taken.drop d
  tail : w.tail = runq w.now w.queue
  good : goodQ w.now w.queue
  valid : Valid w.now pool nodes
  steps : w.step_ = 0 ∨ w.step_ = 1 ∨ w.step_ = 2 ∨ w.step_ = 3
  s0 : w.step_ = 0 → w.queue = []
  s13 : w.step_ = 1 ∨ w.step_ = 3 → w.wait ≠ none4
  s2 : w.step_ = 2 → w.wait = none4 ∧ ∀ c q, w.queue = c :: q → two c
  s3 : w.step_ = 3 → ∀ c q, w.queue = c :: q → two c
theorem cnt_pos {l : List Bool} (h : 0 < cnt l) (hl : l.length = 4) : ∃ i, i < 4 ∧ l.getD i false = true := by
  match l, hl with
  | [a, b, c, d], _ =>
    cases a
    · cases b
      · cases c
        · cases d
          · simp [cnt] at h
          · exact ⟨3, by omega, rfl⟩
        · exact ⟨2, by omega, rfl⟩
      · exact ⟨1, by omega, rfl⟩
    · exact ⟨0, by omega, rfl⟩
theorem layStep_other' (m k : List Bool) (epoch n : Int) (vec : List Int) (c : T_api_Cmd) (i si : Nat) (x : List Bool × List T_api_Mail) (h : i ≠ si) : (layStep m k epoch n vec c i x).1.getD si false = x.1.getD si false := by
  unfold layStep
  split
  · simp only; rw [getD_set_ne' (Ne.symm h)]
  · rfl
theorem layStep_self' (m k : List Bool) (epoch n : Int) (vec : List Int) (c : T_api_Cmd) (i : Nat) (x : List Bool × List T_api_Mail) (h : m.getD i false = true) (hl : i < x.1.length) : (layStep m k epoch n vec c i x).1.getD i false = true := by
  unfold layStep
  rw [h]
  simp only [Bool.true_or, if_true]
  rw [getD_set_eq hl]
theorem layAll_waits (m k : List Bool) (epoch n : Int) (vec : List Int) (c : T_api_Cmd) (x : List Bool × List T_api_Mail) (hm : 0 < cnt m) (hml : m.length = 4) (hl : x.1.length = 4) : (layAll m k epoch n vec c x).1 ≠ none4 := by
  obtain ⟨si, hs, h⟩ := cnt_pos hm hml
  have key : (layAll m k epoch n vec c x).1.getD si false = true := by
    have l0 := (layStep_len m k epoch n vec c 0 x).1.trans hl
    have l1 := (layStep_len m k epoch n vec c 1 (layStep m k epoch n vec c 0 x)).1.trans l0
    have l2 := (layStep_len m k epoch n vec c 2 (layStep m k epoch n vec c 1 (layStep m k epoch n vec c 0 x))).1.trans l1
    unfold layAll
    match si, hs with
    | 0, _ => rw [layStep_other' _ _ _ _ _ _ _ _ _ (by omega), layStep_other' _ _ _ _ _ _ _ _ _ (by omega), layStep_other' _ _ _ _ _ _ _ _ _ (by omega)]; exact layStep_self' _ _ _ _ _ _ _ _ h (by omega)
    | 1, _ => rw [layStep_other' _ _ _ _ _ _ _ _ _ (by omega), layStep_other' _ _ _ _ _ _ _ _ _ (by omega)]; exact layStep_self' _ _ _ _ _ _ _ _ h (by omega)
    | 2, _ => rw [layStep_other' _ _ _ _ _ _ _ _ _ (by omega)]; exact layStep_self' _ _ _ _ _ _ _ _ h (by omega)
    | 3, _ => exact layStep_self' _ _ _ _ _ _ _ _ h (by omega)
  intro e
  rw [e] at key
  match si, hs with
  | 0, _ => cases key
  | 1, _ => cases key
  | 2, _ => cases key
  | 3, _ => cases key
theorem layP_send (w : T_warden_Warden) (taken : List T_api_Cmd) (c : T_api_Cmd) (m : T_ref19_Warden) (st n : Int) (rd : Bool) (hst : st = 1 ∧ n = 1 ∧ rd = false ∨ st = 3 ∧ n = 2 ∧ rd = m.Ready) (hm : m.Now = told w.now) (ht : m.Taken = taken) (hd : m.Done = w.done) (he : m.Epoch = w.epoch) (hwt : m.Wants = w.wait) (hmk : m.Mark = w.mark_) (ho : m.Mail = w.out) :
    layP m w.now c n = refOf (sendP { w with step_ := st, ready := rd } c) taken := by
  obtain ⟨mn, mt, md, me, men, mw, mr, mm, mo⟩ := m
  simp only at hm ht hd he hwt hmk ho hst
  subst hm ht hd he hwt hmk ho
  rcases hst with ⟨rfl, rfl, rfl⟩ | ⟨rfl, rfl, rfl⟩ <;> rfl
theorem PInv.start {pool nodes : Int} {taken : List T_api_Cmd} {d : Nat} {w : T_warden_Warden} {c : T_api_Cmd} {q : List T_api_Cmd} (hle : d ≤ taken.length) (hd : w.done = d) (hq : w.queue = taken.drop d) (hqc : w.queue = c :: q) (ht : w.tail = runq w.now w.queue) (hg : goodQ w.now w.queue) (hv : Valid w.now pool nodes) (hw : w.wait.length = 4) (st : Int) (rd : Bool) (hst : st = 1 ∨ st = 3 ∧ two c) :
    PInv pool nodes taken d (sendP { w with step_ := st, ready := rd } c) := by
  refine ⟨hle, hd, hq, ht, hg, hv, ?_, fun h => ?_, fun _ => ?_, fun h => ?_, fun h c' q' hq' => ?_⟩
  · show st = 0 ∨ _
    rcases hst with h | h
    · exact .inr (.inl h)
    · exact .inr (.inr (.inr h.1))
  · have h0 : st = 0 := h
    rcases hst with h | h
    · omega
    · have := h.1; omega
  · exact layAll_waits _ _ _ _ _ _ _ hv.any hv.ok.mem hw
  · have h0 : st = 2 := h
    rcases hst with h | h
    · omega
    · have := h.1; omega
  · have h0 : st = 3 := h
    have hq'' : w.queue = c' :: q' := hq'
    rw [hqc] at hq''
    simp only [List.cons.injEq] at hq''
    rcases hst with h | h
    · omega
    · rw [← hq''.1]; exact h.2
section
variable (N : Nat) (hN : 1000 ≤ N)
include hN
theorem rtail_L1 (m : T_ref19_Warden) (hl : m.Taken.length ≤ 200) : ∀ (fuel j : Nat) (s : T_config_State), OkSt s → m.Taken.length - j < fuel → j ≤ m.Taken.length →
    M.ref19_Warden_Tail_L1 N fuel m s.Pool s.Nodes s.Members s.Maps s.Modes (j : Int) = some (told (runq s (m.Taken.drop j))) := by
  intro fuel
  induction fuel with
  | zero => intro j s _ h; omega
  | succ fuel ih =>
    intro j s hs hf hj
    simp only [M.ref19_Warden_Tail_L1]
    by_cases hlt : j < m.Taken.length
    · rw [decide_eq_true (by omega : (j : Int) < ((m.Taken.length : Nat) : Int)), idx_get hlt, wrap_succ (by omega)]
      have hap := (apply_eq N (by omega) s m.Taken[j] hs).2
      simp only [Option.bind_some, cond_true, cmdD]
      rw [show (T_ref18_State.mk s.Pool s.Nodes s.Members s.Maps s.Modes) = told s from rfl, hap]
      simp only [Option.bind_some]
      refine (ih (j + 1) (applyR s m.Taken[j]).1 (ok_apply hs _) (by omega) (by omega)).trans ?_
      rw [show m.Taken.drop j = m.Taken[j] :: m.Taken.drop (j + 1) from List.drop_eq_getElem_cons hlt]
      rfl
    · rw [decide_eq_false (by omega : ¬ (j : Int) < ((m.Taken.length : Nat) : Int)), List.drop_eq_nil_of_le (by omega)]
      rfl
theorem rtail_eq {pool nodes : Int} {taken : List T_api_Cmd} {d : Nat} {w : T_warden_Warden} (h : PInv pool nodes taken d w) (hl : taken.length ≤ 200) : M.ref19_Warden_Tail N (refOf w taken) = some (told w.tail) := by
  unfold M.ref19_Warden_Tail
  have hd : (refOf w taken).Done = (d : Int) := h.done
  rw [hd, h.tail, h.queue]
  exact rtail_L1 N hN (refOf w taken) hl N d w.now h.valid.ok (by show taken.length - d < N; omega) h.le
theorem ref_len {pool nodes : Int} {taken : List T_api_Cmd} {d : Nat} {w : T_warden_Warden} (h : PInv pool nodes taken d w) (hl : taken.length ≤ 200) : IntKind.i64.wrap ((taken.length : Int) - w.done) = (w.queue.length : Int) := by
  have _ := hN
  have hq : w.queue.length = taken.length - d := by rw [h.queue]; simp
  have := h.le
  rw [h.done, wrap_small (by omega) (by omega), hq]; omega
theorem rask_eq {pool nodes : Int} {taken : List T_api_Cmd} {d B : Nat} {w : T_warden_Warden} (h : PInv pool nodes taken d w) (hw : WOk w B) (hB : B < 999990000) (hl : taken.length ≤ 150) (c : T_api_Cmd) :
    ∃ taken', M.ref19_Warden_Ask N (refOf w taken) c = some ((askP w c).1, (askP w c).2.1, refOf (askP w c).2.2 taken') ∧ PInv pool nodes taken' d (askP w c).2.2 ∧ taken'.length ≤ taken.length + 1 := by
  have hlen := ref_len N hN h (by omega)
  have hq8 := hw.queue
  unfold M.ref19_Warden_Ask askP
  have hdec : decide (IntKind.i64.wrap (((refOf w taken).Taken.length : Int) - (refOf w taken).Done) ≥ 8) = decide (w.queue.length ≥ 8) := by
    rw [show IntKind.i64.wrap (((refOf w taken).Taken.length : Int) - (refOf w taken).Done) = (w.queue.length : Int) from hlen]
    apply decide_eq_decide.2; omega
  rw [hdec]
  by_cases h8 : w.queue.length ≥ 8
  · rw [if_pos h8, decide_eq_true h8]
    exact ⟨taken, rfl, h, by omega⟩
  · rw [if_neg h8, decide_eq_false h8]
    have htl : M.ref19_Warden_Tail N (T_ref19_Warden.mk (T_ref18_State.mk (refOf w taken).Now.Pool (refOf w taken).Now.Nodes (refOf w taken).Now.Members (refOf w taken).Now.Maps (refOf w taken).Now.Modes) (refOf w taken).Taken (refOf w taken).Done (refOf w taken).Epoch (refOf w taken).Entry (refOf w taken).Wants (refOf w taken).Ready (refOf w taken).Mark (refOf w taken).Mail) = some (told w.tail) := rtail_eq (taken := taken) N hN h (by omega)
    simp only [cond_false, htl, Option.bind_some, cmdD]
    rw [show (T_ref18_State.mk (told w.tail).Pool (told w.tail).Nodes (told w.tail).Members (told w.tail).Maps (told w.tail).Modes) = told w.tail from rfl, (apply_eq N (by omega) w.tail c hw.tail).2]
    simp only [Option.bind_some]
    by_cases he : (applyR w.tail c).2 = 0
    · rw [if_neg (by simp [he]), he]
      simp only [bne_self_eq_false, cond_false, (plain_eq N c).2, Option.bind_some]
      have htk : (refOf w taken).Taken = taken := rfl
      rw [htk, apd_ok (by simp; omega)]
      simp only [Option.bind_some]
      have hle := h.le
      have hq' : w.queue ++ [plainC c] = (taken ++ [plainC c]).drop d := by rw [List.drop_append_of_le_length hle, h.queue]
      have htail : (applyR w.tail c).1 = runq w.now (w.queue ++ [plainC c]) := by rw [runq_snoc, ← h.tail, apply_plain]
      have hgood : goodQ w.now (w.queue ++ [plainC c]) := goodQ_snoc h.good (by rw [← h.tail, apply_plain]; exact he)
      refine ⟨taken ++ [plainC c], ?_, ?_, by simp⟩
      · by_cases hs : w.step_ = 0
        · have hq0 := h.s0 hs
          rw [startP_cons (w := { w with tail := (applyR w.tail c).1, queue := w.queue ++ [plainC c] }) (c := plainC c) (q := []) hs (by show w.queue ++ [plainC c] = _; rw [hq0]; rfl)]
          have hent : ((refOf w taken).Entry == 0) = true := by show (entryOf w.step_ == 0) = true; rw [hs]; rfl
          rw [hent]
          have hd0 : d = taken.length := by have := h.queue; rw [hq0] at this; have := congrArg List.length this; simp at this; omega
          have hlay := rlay_eq N (by omega) (T_ref19_Warden.mk (T_ref18_State.mk (refOf w taken).Now.Pool (refOf w taken).Now.Nodes (refOf w taken).Now.Members (refOf w taken).Now.Maps (refOf w taken).Now.Modes) (taken ++ [plainC c]) (refOf w taken).Done (refOf w taken).Epoch (refOf w taken).Entry (refOf w taken).Wants (refOf w taken).Ready (refOf w taken).Mark (refOf w taken).Mail) w.now hw.now rfl (plainC c) (by
            show idx (taken ++ [plainC c]) w.done = _
            rw [h.done, hd0, idx_get (by simp)]; simp) 1 (.inl rfl) hw.wait (by have := hw.out; show w.out.length < _; omega)
          have e2 := layP_send { w with tail := (applyR w.tail c).1, queue := w.queue ++ [plainC c] } (taken ++ [plainC c]) (plainC c) (T_ref19_Warden.mk (T_ref18_State.mk (refOf w taken).Now.Pool (refOf w taken).Now.Nodes (refOf w taken).Now.Members (refOf w taken).Now.Maps (refOf w taken).Now.Modes) (taken ++ [plainC c]) (refOf w taken).Done (refOf w taken).Epoch (refOf w taken).Entry (refOf w taken).Wants (refOf w taken).Ready (refOf w taken).Mark (refOf w taken).Mail) 1 1 false (.inl ⟨rfl, rfl, rfl⟩) rfl rfl rfl rfl rfl rfl rfl
          simp only [cond_true]
          refine (congrArg (fun z => Option.bind z _) (hlay.trans (congrArg some e2))).trans ?_
          simp only [Option.bind_some, M.ref19_Warden_Ask_k1]
          have hnum : IntKind.i64.wrap (((taken ++ [plainC c]).length : Int) - 1) = IntKind.i64.wrap (IntKind.i64.wrap (w.done + ((w.queue ++ [plainC c]).length : Int)) - 1) := by
            rw [h.done, hq0, hd0]
            simp only [List.length_append, List.length_singleton, List.nil_append]
            rw [wrap_small (x := (taken.length : Int) + ((1 : Nat) : Int)) (by omega) (by omega)]
            congr 1
          refine congrArg some (Prod.ext hnum (Prod.ext rfl rfl))
        · rw [startP_busy (w := { w with tail := (applyR w.tail c).1, queue := w.queue ++ [plainC c] }) hs]
          have hent : ((refOf w taken).Entry == 0) = false := by
            show (entryOf w.step_ == 0) = false
            unfold entryOf; rw [if_neg hs]; split <;> rfl
          rw [hent]
          simp only [cond_false, M.ref19_Warden_Ask_k1]
          have hnum : IntKind.i64.wrap (((taken ++ [plainC c]).length : Int) - 1) = IntKind.i64.wrap (IntKind.i64.wrap (w.done + ((w.queue ++ [plainC c]).length : Int)) - 1) := by
            have hql : w.queue.length = taken.length - d := by rw [h.queue]; simp
            rw [h.done]
            simp only [List.length_append, List.length_singleton, hql]
            rw [wrap_small (x := (d : Int) + ((taken.length - d + 1 : Nat) : Int)) (by omega) (by omega)]
            congr 1; omega
          refine congrArg some (Prod.ext hnum (Prod.ext rfl rfl))
      · by_cases hs : w.step_ = 0
        · have hq0 := h.s0 hs
          rw [startP_cons (w := { w with tail := (applyR w.tail c).1, queue := w.queue ++ [plainC c] }) (c := plainC c) (q := []) hs (by show w.queue ++ [plainC c] = _; rw [hq0]; rfl)]
          exact PInv.start (w := { w with tail := (applyR w.tail c).1, queue := w.queue ++ [plainC c] }) (q := []) (by simp; omega) h.done hq' (by show w.queue ++ [plainC c] = _; rw [hq0]; rfl) htail hgood h.valid hw.wait 1 false (.inl rfl)
        · rw [startP_busy (w := { w with tail := (applyR w.tail c).1, queue := w.queue ++ [plainC c] }) hs]
          refine ⟨by simp; omega, h.done, hq', htail, hgood, h.valid, h.steps, fun e => absurd e hs, h.s13, fun e => ⟨(h.s2 e).1, fun c' q' hcq => ?_⟩, fun e c' q' hcq => ?_⟩
          · obtain ⟨x, y, hxy⟩ : ∃ x y, w.queue = x :: y := by
              cases hqq : w.queue with
              | nil => exact absurd hqq (hw.busy hs)
              | cons x y => exact ⟨x, y, rfl⟩
            have hcq' : w.queue ++ [plainC c] = c' :: q' := hcq
            rw [hxy] at hcq'
            simp only [List.cons_append, List.cons.injEq] at hcq'
            rw [← hcq'.1]; exact (h.s2 e).2 x y hxy
          · obtain ⟨x, y, hxy⟩ : ∃ x y, w.queue = x :: y := by
              cases hqq : w.queue with
              | nil => exact absurd hqq (hw.busy hs)
              | cons x y => exact ⟨x, y, rfl⟩
            have hcq' : w.queue ++ [plainC c] = c' :: q' := hcq
            rw [hxy] at hcq'
            simp only [List.cons_append, List.cons.injEq] at hcq'
            rw [← hcq'.1]; exact h.s3 e x y hxy
    · rw [if_pos he, bne_iff_ne.2 he]
      exact ⟨taken, rfl, h, by omega⟩
theorem head_idx {pool nodes : Int} {taken : List T_api_Cmd} {d : Nat} {w : T_warden_Warden} (h : PInv pool nodes taken d w) {c : T_api_Cmd} {q : List T_api_Cmd} (hq : w.queue = c :: q) : d < taken.length ∧ idx taken w.done = some c ∧ q = taken.drop (d + 1) := by
  have _ := hN
  have hlt : d < taken.length := by
    rcases Nat.lt_or_ge d taken.length with h' | h'
    · exact h'
    · have := h.queue; rw [hq, List.drop_eq_nil_of_le h'] at this; cases this
  have := h.queue
  rw [hq, List.drop_eq_getElem_cons hlt] at this
  simp only [List.cons.injEq] at this
  exact ⟨hlt, by rw [h.done, idx_get hlt, ← this.1], this.2⟩
/-- the reference between -/
def midR (w : T_warden_Warden) (taken : List T_api_Cmd) (wants : List Bool) (mark : Int) (rd : Bool) (out : List T_api_Mail) : T_ref19_Warden := ⟨told w.now, taken, w.done, w.epoch, entryOf w.step_, wants, rd, mark, out⟩
theorem rk3_wait {pool nodes : Int} {taken : List T_api_Cmd} {d : Nat} {w : T_warden_Warden} (h : PInv pool nodes taken d w) (c : T_api_Cmd) (waited : Bool) (wants : List Bool) (mark : Int) (rd : Bool) (hwl : wants.length = 4) (hn : wants ≠ none4) :
    M.ref19_Warden_Take_k3 N (refOf w taken) c waited wants mark rd = some (midR w taken wants mark rd w.out) := by
  have _ := h
  unfold M.ref19_Warden_Take_k3
  rw [rwaits_eq N (by omega) _ (by exact hwl)]
  simp only [Option.bind_some]
  rw [decide_eq_true hn]
  rfl
theorem two_dec (c : T_api_Cmd) : (bif (c.Kind == 1) then (some true) else (some (c.Kind == 2))) = some (decide (two c)) := by
  have _ := hN
  by_cases b1 : c.Kind = 1
  · simp [b1]
  · by_cases b2 : c.Kind = 2
    · simp [b2]
    · simp [beq_eq_false_iff_ne.2 b1, beq_eq_false_iff_ne.2 b2, b1, b2]
theorem gateI_eq (i : Nat) (hi : i < 4) : gateI (i : Int) = ((5 * i + 1 : Nat) : Int) := by
  have _ := hN
  match i, hi with
  | 0, _ => rfl
  | 1, _ => rfl
  | 2, _ => rfl
  | 3, _ => rfl
theorem apply_dc {s : T_config_State} {c : T_api_Cmd} (h : (applyR s c).2 = 0) : ∃ i : Nat, i < 4 ∧ c.DC = i := by
  have _ := hN
  obtain ⟨dc, h1, h2, -⟩ := framed_apply s c h
  exact ⟨dc, h2, h1⟩
theorem rk3_two {pool nodes : Int} {taken : List T_api_Cmd} {d B : Nat} {w : T_warden_Warden} (h : PInv pool nodes taken d w) (hw : WOk w B) (hB : B < 999990000) {c : T_api_Cmd} {q : List T_api_Cmd} (hq : w.queue = c :: q) (waited : Bool) (mark : Int) (rd : Bool) (he : entryOf w.step_ = 1) (ht : two c) :
    M.ref19_Warden_Take_k3 N (refOf w taken) c waited none4 mark rd =
      some (let out' := if waited = true ∧ c.Kind = 1 then w.out ++ [mailF w.epoch mark c] else w.out
            if rd = true then refOf (sendP { w with step_ := 3, wait := none4, mark_ := mark, ready := rd, out := out' } c) taken else midR w taken none4 mark rd out') := by
  unfold M.ref19_Warden_Take_k3
  rw [rwaits_eq N (by omega) _ (by rfl)]
  simp only [Option.bind_some]
  rw [decide_eq_false (fun e => e rfl : ¬ none4 ≠ List.replicate 4 false)]
  have hent : ((refOf w taken).Entry == 1) = true := by show (entryOf w.step_ == 1) = true; rw [he]; rfl
  obtain ⟨hlt, hidx, -⟩ := head_idx N hN h hq
  have ho := hw.out
  have k4 : ∀ out', out'.length < 999999000 → M.ref19_Warden_Take_k4 N (refOf w taken) none4 mark rd out' = some (if rd = true then refOf (sendP { w with step_ := 3, wait := none4, mark_ := mark, ready := rd, out := out' } c) taken else midR w taken none4 mark rd out') := fun out' hol => by
    unfold M.ref19_Warden_Take_k4
    cases rd with
    | false => rfl
    | true =>
      have hlay := rlay_eq N (by omega) (midR w taken none4 mark true out') w.now hw.now rfl c hidx 2 (.inr rfl) rfl hol
      have e2 := layP_send { w with step_ := 3, wait := none4, mark_ := mark, ready := true, out := out' } taken c (midR w taken none4 mark true out') 3 2 true (.inr ⟨rfl, rfl, rfl⟩) rfl rfl rfl rfl rfl rfl rfl
      simp only [cond_true, if_true]
      exact (congrArg (fun z => Option.bind z _) (hlay.trans (congrArg some e2))).trans rfl
  rw [hent]
  simp only [cond_true, two_dec N hN, Option.bind_some, cond_false]
  rw [decide_eq_true ht]
  simp only [cond_true]
  have hb : (bif waited then (some (c.Kind == 1)) else (some false)) = some (decide (waited = true ∧ c.Kind = 1)) := by
    cases waited with
    | false => simp
    | true => simp only [cond_true, true_and, ibeq]
  rw [hb]
  simp only [Option.bind_some]
  by_cases hf : waited = true ∧ c.Kind = 1
  · rw [decide_eq_true hf, if_pos hf]
    have hg : (applyR w.now c).2 = 0 := by have := h.good; rw [hq] at this; exact this.1
    obtain ⟨i, hi, hdc⟩ := apply_dc N hN hg
    have hgate : M.ref18_Gate N c.DC = some (gateI c.DC) := by rw [hdc, gate_eq N i hi, gateI_eq N hN i hi]
    rw [hgate]
    simp only [cond_true, Option.bind_some]
    rw [show (refOf w taken).Mail = w.out from rfl, apd_ok (by simp; omega)]
    simp only [Option.bind_some]
    exact k4 _ (by simp; omega)
  · rw [decide_eq_false hf, if_neg hf]
    exact k4 _ (by show w.out.length < _; omega)
theorem rk3_fin {pool nodes : Int} {taken : List T_api_Cmd} {d B : Nat} {w : T_warden_Warden} (h : PInv pool nodes taken d w) (hw : WOk w B) (hB : B < 999990000) (hl : taken.length ≤ 150) {c : T_api_Cmd} {q : List T_api_Cmd} (hq : w.queue = c :: q) (waited : Bool) (mark : Int) (rd : Bool) (he : ¬ (entryOf w.step_ = 1 ∧ two c)) :
    M.ref19_Warden_Take_k3 N (refOf w taken) c waited none4 mark rd = some (refOf (finishP { w with wait := none4, mark_ := mark, ready := rd } c q) taken) ∧ PInv pool nodes taken (d + 1) (finishP { w with wait := none4, mark_ := mark, ready := rd } c q) := by
  obtain ⟨hlt, hidx, hq1⟩ := head_idx N hN h hq
  have ho := hw.out
  have hgood := h.good
  rw [hq] at hgood
  have hvn : Valid (applyR w.now c).1 pool nodes := valid_apply h.valid c hgood.1
  have hdone : IntKind.i64.wrap (w.done + 1) = ((d + 1 : Nat) : Int) := by rw [h.done, wrap_succ (by omega)]
  have htail : w.tail = runq (applyR w.now c).1 q := by rw [h.tail, hq]; rfl
  refine ⟨?_, ?_⟩
  · unfold M.ref19_Warden_Take_k3
    rw [rwaits_eq N (by omega) _ (by rfl)]
    simp only [Option.bind_some]
    rw [decide_eq_false (fun e => e rfl : ¬ none4 ≠ List.replicate 4 false)]
    have hb : (bif ((refOf w taken).Entry == 1) then (bif (c.Kind == 1) then (some true) else (some (c.Kind == 2))) else (some false)) = some false := by
      rw [two_dec N hN]
      show (bif (entryOf w.step_ == 1) then _ else _) = _
      by_cases e1 : entryOf w.step_ = 1
      · rw [e1, decide_eq_false (fun e2 => he ⟨e1, e2⟩)]; rfl
      · rw [beq_eq_false_iff_ne.2 e1]; rfl
    simp only [cond_false, hb, Option.bind_some]
    rw [show (T_ref18_State.mk (refOf w taken).Now.Pool (refOf w taken).Now.Nodes (refOf w taken).Now.Members (refOf w taken).Now.Maps (refOf w taken).Now.Modes) = told w.now from rfl, cmdD, (apply_eq N (by omega) w.now c hw.now).2]
    simp only [Option.bind_some]
    rw [show (refOf w taken).Done = w.done from rfl, show (refOf w taken).Taken = taken from rfl, hdone]
    unfold finishP
    cases hqq : q with
    | nil =>
      have : taken.length ≤ d + 1 := by rw [hqq] at hq1; have := congrArg List.length hq1; simp at this; omega
      rw [decide_eq_false (by omega : ¬ ((d + 1 : Nat) : Int) < ((taken.length : Nat) : Int)), startP_nil (by rfl), hdone]
      rfl
    | cons c2 q2 =>
      have hlt2 : d + 1 < taken.length := by rw [hqq] at hq1; have := congrArg List.length hq1; simp at this; omega
      rw [decide_eq_true (by omega : ((d + 1 : Nat) : Int) < ((taken.length : Nat) : Int)), startP_cons (w := { w with wait := none4, mark_ := mark, ready := rd, now := (applyR w.now c).1, queue := c2 :: q2, done := IntKind.i64.wrap (w.done + 1), step_ := 0 }) (c := c2) (q := q2) rfl rfl]
      have hidx2 : idx taken ((d + 1 : Nat) : Int) = some c2 := by
        rw [hqq, List.drop_eq_getElem_cons hlt2] at hq1
        simp only [List.cons.injEq] at hq1
        rw [idx_get hlt2, ← hq1.1]
      have hlay := rlay_eq N (by omega) (T_ref19_Warden.mk (told (applyR w.now c).1) taken ((d + 1 : Nat) : Int) w.epoch 0 none4 rd mark w.out) (applyR w.now c).1 hvn.ok rfl c2 hidx2 1 (.inl rfl) rfl (by show w.out.length < _; omega)
      have e2 := layP_send { w with wait := none4, mark_ := mark, ready := rd, now := (applyR w.now c).1, queue := c2 :: q2, done := ((d + 1 : Nat) : Int), step_ := 0 } taken c2 (T_ref19_Warden.mk (told (applyR w.now c).1) taken ((d + 1 : Nat) : Int) w.epoch 0 none4 rd mark w.out) 1 1 false (.inl ⟨rfl, rfl, rfl⟩) rfl rfl rfl rfl rfl rfl rfl
      rw [hdone]
      simp only [cond_true]
      exact (congrArg (fun z => Option.bind z _) (hlay.trans (congrArg some e2))).trans rfl
  · unfold finishP
    cases hqq : q with
    | nil =>
      rw [startP_nil (by rfl)]
      refine ⟨hlt, hdone, ?_, ?_, trivial, hvn, .inl rfl, fun _ => rfl, fun e => ?_, fun e => ?_, fun e => ?_⟩
      · rw [← hq1, hqq]
      · show w.tail = _; rw [htail, hqq]
      · rcases e with e | e
        · exact absurd (show (0 : Int) = 1 from e) (by decide)
        · exact absurd (show (0 : Int) = 3 from e) (by decide)
      · exact absurd (show (0 : Int) = 2 from e) (by decide)
      · exact absurd (show (0 : Int) = 3 from e) (by decide)
    | cons c2 q2 =>
      rw [startP_cons (w := { w with wait := none4, mark_ := mark, ready := rd, now := (applyR w.now c).1, queue := c2 :: q2, done := IntKind.i64.wrap (w.done + 1), step_ := 0 }) (c := c2) (q := q2) rfl rfl]
      exact PInv.start (w := { w with wait := none4, mark_ := mark, ready := rd, now := (applyR w.now c).1, queue := c2 :: q2, done := IntKind.i64.wrap (w.done + 1), step_ := 0 }) hlt hdone (by rw [← hq1, hqq]) rfl (by show w.tail = _; rw [htail, hqq]) (by have := hgood.2; rw [hqq] at this; exact this) hvn rfl 1 false (.inl rfl)
theorem entry1 {st : Int} (h : st = 0 ∨ st = 1 ∨ st = 2 ∨ st = 3) : entryOf st = 1 ↔ st = 1 ∨ st = 2 := by
  have _ := hN
  unfold entryOf
  rcases h with rfl | rfl | rfl | rfl <;> decide
theorem PInv.mid {pool nodes : Int} {taken : List T_api_Cmd} {d : Nat} {w : T_warden_Warden} (h : PInv pool nodes taken d w) (st : Int) (wt : List Bool) (mk : Int) (rd : Bool) (out : List T_api_Mail) (hst : (st = 1 ∨ st = 3) ∧ wt ≠ none4 ∧ st = w.step_ ∨ st = 2 ∧ wt = none4 ∧ w.step_ ≠ 0 ∧ ∀ c q, w.queue = c :: q → two c) :
    PInv pool nodes taken d { w with step_ := st, wait := wt, mark_ := mk, ready := rd, out := out } := by
  have _ := hN
  refine ⟨h.le, h.done, h.queue, h.tail, h.good, h.valid, ?_, fun e => ?_, fun e => ?_, fun e => ?_, fun e => ?_⟩
  · have : st = 0 ∨ st = 1 ∨ st = 2 ∨ st = 3 := by rcases hst with ⟨h1, _⟩ | ⟨h1, _⟩ <;> omega
    exact this
  · have e' : st = 0 := e
    rcases hst with ⟨h1, _⟩ | ⟨h1, _⟩ <;> omega
  · have e' : st = 1 ∨ st = 3 := e
    rcases hst with ⟨_, h2, _⟩ | ⟨h1, _⟩
    · exact h2
    · omega
  · have e' : st = 2 := e
    rcases hst with ⟨h1, _⟩ | ⟨_, h2, _, h3⟩
    · omega
    · exact ⟨h2, h3⟩
  · have e' : st = 3 := e
    rcases hst with ⟨_, _, h3⟩ | ⟨h1, _⟩
    · exact h.s3 (by rw [← h3]; exact e')
    · omega
theorem rtake_eq {pool nodes : Int} {taken : List T_api_Cmd} {d B : Nat} {w : T_warden_Warden} (h : PInv pool nodes taken d w) (hw : WOk w B) (hB : B < 999990000) (hl : taken.length ≤ 150) (dc : Int) (m : T_api_Msg) (hs : ¬ skips w dc m) {c : T_api_Cmd} {q : List T_api_Cmd} (hq : w.queue = c :: q) :
    M.ref19_Warden_Take N (refOf w taken) dc m = some (refOf (takeQ w c q dc m) taken) ∧ (PInv pool nodes taken d (takeQ w c q dc m) ∨ PInv pool nodes taken (d + 1) (takeQ w c q dc m)) := by
  have g1 : ¬ dc < 0 := fun e => hs (.inl e)
  have g2 : ¬ dc ≥ 4 := fun e => hs (.inr (.inl e))
  have g3 : ¬ w.step_ = 0 := fun e => hs (.inr (.inr (.inl e)))
  have g4 : ¬ m.Id ≠ IntKind.u64.wrap w.epoch := fun e => hs (.inr (.inr (.inr e)))
  have hid : (m.Id != IntKind.u64.wrap w.epoch) = false := by simp at g4; simp [g4]
  obtain ⟨i, hi, rfl⟩ : ∃ i : Nat, i < 4 ∧ dc = i := ⟨dc.toNat, by omega, by omega⟩
  obtain ⟨hlt, hidx, hq1⟩ := head_idx N hN h hq
  have hwl := hw.wait
  have hset : (w.wait.set i false).length = 4 := by rw [List.length_set]; exact hwl
  have hent0 : ((refOf w taken).Entry == 0) = false := by
    show (entryOf w.step_ == 0) = false
    unfold entryOf; rw [if_neg g3]; split <;> rfl
  have hst := h.steps
  have hz4 : IntKind.u64.wrap w.epoch = IntKind.u64.wrap (refOf w taken).Epoch := rfl
  unfold M.ref19_Warden_Take
  rw [decide_eq_false g1, decide_eq_false (by omega : ¬ ((i : Nat) : Int) > 3), hent0]
  simp only [cond_false, Option.bind_some]
  rw [show (m.Id != IntKind.u64.wrap (refOf w taken).Epoch) = false from hid, show idx (refOf w taken).Taken (refOf w taken).Done = some c from hidx]
  simp only [cond_false, Option.bind_some]
  rw [show M.ref19_Warden_Waits N (T_ref19_Warden.mk (T_ref18_State.mk (refOf w taken).Now.Pool (refOf w taken).Now.Nodes (refOf w taken).Now.Members (refOf w taken).Now.Maps (refOf w taken).Now.Modes) (refOf w taken).Taken (refOf w taken).Done (refOf w taken).Epoch (refOf w taken).Entry (refOf w taken).Wants (refOf w taken).Ready (refOf w taken).Mark (refOf w taken).Mail) = some (decide (w.wait ≠ List.replicate 4 false)) from rwaits_eq N (by omega) _ hwl]
  simp only [Option.bind_some, idx_getD false (show i < (refOf w taken).Wants.length from by show i < w.wait.length; omega), Int.toNat_natCast]
  rw [show (refOf w taken).Wants = w.wait from rfl, show (refOf w taken).Mark = w.mark_ from rfl]
  unfold takeQ
  rw [Int.toNat_natCast]
  by_cases a1 : m.Kind = 23 ∧ w.wait.getD i false = true
  · rw [if_pos a1, a1.1, a1.2]
    have hne : w.wait ≠ none4 := fun e => by have := a1.2; rw [e] at this; match i, hi with | 0, _ => cases this | 1, _ => cases this | 2, _ => cases this | 3, _ => cases this
    have hs13 : w.step_ = 1 ∨ w.step_ = 3 := by
      rcases hst with e | e | e | e
      · exact absurd e g3
      · exact .inl e
      · exact absurd (h.s2 e).1 hne
      · exact .inr e
    rw [decide_eq_true (show w.wait ≠ List.replicate 4 false from hne)]
    have hk : ∀ mk : Int, M.ref19_Warden_Take_k1 N (refOf w taken) (i : Int) m c true (w.wait.set i false) mk = M.ref19_Warden_Take_k3 N (refOf w taken) c true (w.wait.set i false) mk w.ready := fun mk => by
      unfold M.ref19_Warden_Take_k1 M.ref19_Warden_Take_k2
      rw [a1.1]; rfl
    simp only [beq_self_eq_true, cond_true, Option.bind_some, hk]
    have hmk : (bif decide (m.TS > w.mark_) then M.ref19_Warden_Take_k3 N (refOf w taken) c true (w.wait.set i false) m.TS w.ready else M.ref19_Warden_Take_k3 N (refOf w taken) c true (w.wait.set i false) w.mark_ w.ready) = M.ref19_Warden_Take_k3 N (refOf w taken) c true (w.wait.set i false) (if m.TS > w.mark_ then m.TS else w.mark_) w.ready := by
      by_cases e : m.TS > w.mark_
      · rw [decide_eq_true e, if_pos e]; rfl
      · rw [decide_eq_false e, if_neg e]; rfl
    rw [hmk]
    generalize hmkv : (if m.TS > w.mark_ then m.TS else w.mark_) = mk
    by_cases a2 : w.wait.set i false = List.replicate 4 false
    · rw [if_neg (show ¬ (w.wait.set i false ≠ List.replicate 4 false) from fun e => e a2)]
      have hackw : ackW w i m.TS = { w with wait := none4, mark_ := mk, ready := w.ready } := by unfold ackW; rw [a2, hmkv]
      rw [a2]
      by_cases a3 : w.step_ = 3 ∨ ¬ (c.Kind = 1 ∨ c.Kind = 2)
      · rw [if_pos a3]
        have hnot : ¬ (entryOf w.step_ = 1 ∧ two c) := fun e => by
          rcases a3 with e3 | e3
          · have := (entry1 N hN hst).1 e.1; omega
          · exact e3 e.2
        obtain ⟨r1, r2⟩ := rk3_fin N hN h hw hB hl hq true mk w.ready hnot
        rw [hackw]
        exact ⟨r1, .inr r2⟩
      · rw [if_neg a3]
        have n3 : ¬ w.step_ = 3 := fun e => a3 (.inl e)
        have t3 : two c := Classical.byContradiction fun e => a3 (.inr e)
        have s1 : w.step_ = 1 := by omega
        have r1 := rk3_two N hN h hw hB hq true mk w.ready ((entry1 N hN hst).2 (.inl s1)) t3
        simp only [true_and] at r1
        refine ⟨r1.trans (congrArg some ?_), .inl ?_⟩
        · by_cases a4 : c.Kind = 1
          · rw [if_pos a4, if_pos a4, hackw]
            unfold k1P
            by_cases hr : w.ready = true
            · rw [if_pos hr, if_pos ⟨rfl, hr⟩]
            · rw [if_neg hr, if_neg (fun e => hr e.2)]
              unfold midR refOf; rw [s1]; rfl
          · rw [if_neg a4, if_neg a4, hackw]
            unfold k1P
            by_cases hr : w.ready = true
            · rw [if_pos hr, if_pos ⟨rfl, hr⟩]
            · rw [if_neg hr, if_neg (fun e => hr e.2)]
              unfold midR refOf; rw [s1]; rfl
        · have hone : ∀ out, PInv pool nodes taken d (k1P { ackW w i m.TS with step_ := 2, out := out } c) := fun out => by
            rw [hackw]
            unfold k1P
            by_cases hr : w.ready = true
            · rw [if_pos ⟨rfl, hr⟩]
              exact PInv.start (w := { w with wait := none4, mark_ := mk, out := out }) h.le h.done h.queue hq h.tail h.good h.valid rfl 3 w.ready (.inr ⟨rfl, t3⟩)
            · rw [if_neg (fun e => hr e.2)]
              exact h.mid N hN 2 none4 _ w.ready out (.inr ⟨rfl, rfl, g3, fun c' q' e => by rw [hq] at e; simp only [List.cons.injEq] at e; rw [← e.1]; exact t3⟩)
          by_cases a4 : c.Kind = 1
          · rw [if_pos a4]; exact hone _
          · rw [if_neg a4]; exact hone w.out
    · rw [if_pos a2]
      have hackw : ackW w i m.TS = { w with wait := w.wait.set i false, mark_ := mk } := by unfold ackW; rw [hmkv]
      rw [hackw]
      refine ⟨rk3_wait N hN h c true _ _ w.ready hset a2, .inl ?_⟩
      exact h.mid N hN w.step_ _ _ w.ready w.out (.inl ⟨hs13, a2, rfl⟩)
  · rw [if_neg a1]
    have hb : (bif (m.Kind == 23) then (some (w.wait.getD i false)) else (some false)) = some false := by
      by_cases b : m.Kind = 23
      · have : w.wait.getD i false = false := by
          cases hh : w.wait.getD i false with
          | false => rfl
          | true => exact absurd ⟨b, hh⟩ a1
        rw [this]; cases (m.Kind == 23) <;> rfl
      · rw [beq_eq_false_iff_ne.2 b]; rfl
    rw [hb]
    simp only [Option.bind_some, cond_false]
    have hwd : decide (w.wait ≠ List.replicate 4 false) = decide (w.step_ ≠ 2) := by
      apply decide_eq_decide.2
      rcases hst with e | e | e | e
      · exact absurd e g3
      · exact ⟨fun _ => by omega, fun _ => h.s13 (.inl e)⟩
      · exact ⟨fun e' => absurd (h.s2 e).1 e', fun e' => absurd e e'⟩
      · exact ⟨fun _ => by omega, fun _ => h.s13 (.inr e)⟩
    rw [hwd]
    have hent : ((refOf w taken).Entry == 1) = decide (w.step_ < 3) := by
      show (entryOf w.step_ == 1) = _
      rw [ibeq]
      apply decide_eq_decide.2
      rw [entry1 N hN hst]; omega
    have hk1 : M.ref19_Warden_Take_k1 N (refOf w taken) (i : Int) m c (decide (w.step_ ≠ 2)) w.wait w.mark_ =
        M.ref19_Warden_Take_k3 N (refOf w taken) c (decide (w.step_ ≠ 2)) w.wait w.mark_ (if (i : Int) = c.DC ∧ (w.step_ = 2 ∧ m.Kind = 24 ∧ c.Kind = 1 ∨ w.step_ < 3 ∧ m.Kind = 25 ∧ c.Kind = 2) then true else w.ready) := by
      unfold M.ref19_Warden_Take_k1 M.ref19_Warden_Take_k2
      rw [hent, show (refOf w taken).Ready = w.ready from rfl]
      by_cases b24 : m.Kind = 24
      · have h25 : ¬ m.Kind = 25 := by omega
        rw [b24]
        simp only [beq_self_eq_true, cond_true, show ((24 : Int) == 25) = false from rfl, cond_false, Option.bind_some]
        by_cases bk : c.Kind = 1
        · by_cases b2 : w.step_ = 2
          · rw [bk, b2]
            by_cases bd : (i : Int) = c.DC
            · rw [if_pos ⟨bd, .inl (by simp)⟩, show ((i : Int) == c.DC) = true from by rw [bd]; simp]; rfl
            · rw [if_neg (fun e => bd e.1), beq_eq_false_iff_ne.2 bd]; rfl
          · rw [if_neg (fun e => by rcases e.2 with e | e; exact b2 e.1; exact absurd e.2.1 (by decide)), decide_eq_true (by omega : w.step_ ≠ 2), bk]
            cases decide (w.step_ < 3) <;> rfl
        · rw [if_neg (fun e => by rcases e.2 with e | e; exact bk e.2.2; exact absurd e.2.1 (by decide)), beq_eq_false_iff_ne.2 bk]; rfl
      · rw [beq_eq_false_iff_ne.2 b24]
        simp only [cond_false, Option.bind_some]
        by_cases b25 : m.Kind = 25
        · rw [b25]
          simp only [beq_self_eq_true, cond_true]
          by_cases bk : c.Kind = 2
          · rw [bk]
            by_cases b3 : w.step_ < 3
            · rw [decide_eq_true b3]
              by_cases bd : (i : Int) = c.DC
              · rw [if_pos ⟨bd, .inr (by simp [b3])⟩, show ((i : Int) == c.DC) = true from by rw [bd]; simp]; rfl
              · rw [if_neg (fun e => bd e.1), beq_eq_false_iff_ne.2 bd]; rfl
            · rw [decide_eq_false b3, if_neg (fun e => by rcases e.2 with e | e; exact absurd e.2.1 (by decide); exact b3 e.1)]; rfl
          · rw [if_neg (fun e => by rcases e.2 with e | e; exact absurd e.2.1 (by decide); exact bk e.2.2), beq_eq_false_iff_ne.2 bk]; rfl
        · rw [if_neg (fun e => by rcases e.2 with e | e; exact b24 e.2.1; exact b25 e.2.1), beq_eq_false_iff_ne.2 b25]; rfl
    rw [hk1]
    generalize hrd : (if (i : Int) = c.DC ∧ (w.step_ = 2 ∧ m.Kind = 24 ∧ c.Kind = 1 ∨ w.step_ < 3 ∧ m.Kind = 25 ∧ c.Kind = 2) then true else w.ready) = rd
    have htq : (if (i : Int) = c.DC ∧ (w.step_ = 2 ∧ m.Kind = 24 ∧ c.Kind = 1 ∨ w.step_ < 3 ∧ m.Kind = 25 ∧ c.Kind = 2) then k1P { w with ready := true } c else k1P w c) = k1P { w with ready := rd } c := by
      subst hrd
      split <;> rfl
    rw [htq]
    by_cases b2 : w.step_ = 2
    · obtain ⟨hw0, htwo⟩ := h.s2 b2
      have t3 := htwo c q hq
      have r1 := rk3_two N hN h hw hB hq false w.mark_ rd ((entry1 N hN hst).2 (.inr b2)) t3
      simp only [Bool.false_eq_true, false_and, if_false] at r1
      rw [decide_eq_false (by omega : ¬ w.step_ ≠ 2), hw0]
      refine ⟨r1.trans (congrArg some ?_), .inl ?_⟩
      · unfold k1P
        by_cases hr : rd = true
        · rw [if_pos hr, if_pos ⟨b2, hr⟩]
        · rw [if_neg hr, if_neg (fun e => hr e.2)]
          rfl
      · unfold k1P
        by_cases hr : rd = true
        · rw [if_pos ⟨b2, hr⟩]
          exact PInv.start (w := { w with wait := none4 }) h.le h.done h.queue hq h.tail h.good h.valid rfl 3 rd (.inr ⟨rfl, t3⟩)
        · rw [if_neg (fun e => hr e.2)]
          exact h.mid N hN w.step_ none4 w.mark_ rd w.out (.inr ⟨b2, rfl, g3, htwo⟩)
    · have hs13 : w.step_ = 1 ∨ w.step_ = 3 := by omega
      have hn := h.s13 hs13
      have hk : k1P { w with ready := rd } c = { w with ready := rd } := by unfold k1P; rw [if_neg (fun e => b2 e.1)]
      rw [hk]
      refine ⟨rk3_wait N hN h c _ w.wait w.mark_ rd hwl hn, .inl ?_⟩
      exact h.mid N hN w.step_ w.wait w.mark_ rd w.out (.inl ⟨hs13, hn, rfl⟩)
end
end Go.Cf
namespace Go.Cf
open Go
instance (w : T_warden_Warden) (dc : Int) (m : T_api_Msg) : Decidable (skips w dc m) := by unfold skips; infer_instance
def takeP (w : T_warden_Warden) (dc : Int) (m : T_api_Msg) : T_warden_Warden :=
  if skips w dc m then w else match w.queue with
    | [] => w
    | c :: q => takeQ w c q dc m
theorem takeP_cons {w : T_warden_Warden} {dc : Int} {m : T_api_Msg} {c : T_api_Cmd} {q : List T_api_Cmd} (h : ¬ skips w dc m) (hq : w.queue = c :: q) : takeP w dc m = takeQ w c q dc m := by
  unfold takeP
  rw [if_neg h]
  split
  · rename_i h'; rw [hq] at h'; cases h'
  · rename_i c' q' h'
    rw [hq] at h'
    simp only [List.cons.injEq] at h'
    rw [h'.1, h'.2]
theorem takeP_skip {w : T_warden_Warden} {dc : Int} {m : T_api_Msg} (h : skips w dc m) : takeP w dc m = w := by unfold takeP; rw [if_pos h]
def dcOf (x : Int) : Int := IntKind.i64.wrap (Int.tdiv (IntKind.i64.wrap (x - 1)) 5)
theorem dcOf_gate (i : Nat) (hi : i < 4) : dcOf ((5 * i + 1 : Nat) : Int) = i := by
  match i, hi with
  | 0, _ => decide +kernel
  | 1, _ => decide +kernel
  | 2, _ => decide +kernel
  | 3, _ => decide +kernel
def msgK (k id ts : Int) : T_api_Msg := T_api_Msg.mk k id 0 ts ByteArray.empty ByteArray.empty ([] : List T_api_Ver) ([] : List Int) (T_api_Cmd.mk 0 0 0 0 0 ByteArray.empty)
def isRem (x : T_api_Mail) : Prop := x.Msg.Cmd.Kind = 2 ∧ x.Msg.N = 1 ∧ x.Msg.Cmd.DC = dcOf x.To
instance (x : T_api_Mail) : Decidable (isRem x) := by unfold isRem; infer_instance
/-- a mail is answered -/
def proc (w : T_warden_Warden) (x : T_api_Mail) (ts : Int) : T_warden_Warden :=
  if x.Msg.Kind = 22 then takeP w (dcOf x.To) (msgK 24 x.Msg.Id 0)
  else if x.Msg.Kind = 21 then
    (if isRem x then takeP (takeP w (dcOf x.To) (msgK 23 x.Msg.Id ts)) (dcOf x.To) (msgK 25 x.Msg.Id 0) else takeP w (dcOf x.To) (msgK 23 x.Msg.Id ts))
  else w
structure Live (w : T_warden_Warden) (E : Nat) (L : List T_api_Mail) : Prop where
  ep : w.epoch = (E : Int)
  ids : ∀ x ∈ L, ∃ k : Nat, k ≤ E ∧ x.Msg.Id = (k : Int)
  cur : ∀ x ∈ L, x.Msg.Kind = 21 → x.Msg.Id = (E : Int) → w.step_ = 1 → ∀ c q, w.queue = c :: q → x.Msg.N = 1 ∧ x.Msg.Cmd = c
  wt : w.step_ = 1 ∨ w.step_ = 3 → ∀ i, i < 4 → w.wait.getD i false = true → ∃ x ∈ L, x.To = ((5 * i + 1 : Nat) : Int) ∧ x.Msg.Kind = 21 ∧ x.Msg.Id = (E : Int)
  s2 : w.step_ = 2 → w.ready = false ∧ ∃ c q, w.queue = c :: q ∧ c.Kind = 1 ∧ ∃ i : Nat, i < 4 ∧ c.DC = i ∧ ∃ x ∈ L, x.Msg.Kind = 22 ∧ x.To = ((5 * i + 1 : Nat) : Int) ∧ x.Msg.Id = (E : Int)
  rem : w.step_ = 1 → ∀ c q, w.queue = c :: q → c.Kind = 2 → ∃ i : Nat, i < 4 ∧ c.DC = i ∧ (w.wait.getD i false = true ∨ w.ready = true)
  r1 : w.step_ = 1 → ∀ c q, w.queue = c :: q → c.Kind = 1 → w.ready = false
  w0 : w.step_ = 0 → w.wait = none4
def mu (w : T_warden_Warden) : Nat := if w.step_ = 0 then 0 else (w.queue.length - 1) * 9 + (if w.step_ = 1 then 5 else if w.step_ = 2 then 4 else 0)
def newMails (m k : List Bool) (epoch n : Int) (vec : List Int) (c : T_api_Cmd) : List T_api_Mail := (List.range 4).filterMap fun i => if m.getD i false || k.getD i false then some (mailE epoch n vec c i) else none
theorem layAll_out (m k : List Bool) (epoch n : Int) (vec : List Int) (c : T_api_Cmd) (x : List Bool × List T_api_Mail) : (layAll m k epoch n vec c x).2 = x.2 ++ newMails m k epoch n vec c := by
  unfold layAll newMails
  simp only [show List.range 4 = [0, 1, 2, 3] from rfl, List.filterMap_cons, List.filterMap_nil]
  unfold layStep
  cases m.getD 0 false || k.getD 0 false <;> cases m.getD 1 false || k.getD 1 false <;> cases m.getD 2 false || k.getD 2 false <;> cases m.getD 3 false || k.getD 3 false <;> simp
theorem newMails_len (m k : List Bool) (epoch n : Int) (vec : List Int) (c : T_api_Cmd) : (newMails m k epoch n vec c).length ≤ 4 := by
  unfold newMails
  exact Nat.le_trans (List.length_filterMap_le _ _) (by simp)
theorem newMails_mem {m k : List Bool} {epoch n : Int} {vec : List Int} {c : T_api_Cmd} {x : T_api_Mail} (h : x ∈ newMails m k epoch n vec c) : ∃ i, i < 4 ∧ x = mailE epoch n vec c i := by
  unfold newMails at h
  obtain ⟨i, hi, hx⟩ := List.mem_filterMap.1 h
  split at hx
  · simp only [Option.some.injEq] at hx
    exact ⟨i, List.mem_range.1 hi, hx.symm⟩
  · cases hx
theorem newMails_of {m k : List Bool} {epoch n : Int} {vec : List Int} {c : T_api_Cmd} {i : Nat} (hi : i < 4) (h : (m.getD i false || k.getD i false) = true) : mailE epoch n vec c i ∈ newMails m k epoch n vec c := by
  unfold newMails
  exact List.mem_filterMap.2 ⟨i, List.mem_range.2 hi, by rw [if_pos h]⟩
theorem layAll_wt (m k : List Bool) (epoch n : Int) (vec : List Int) (c : T_api_Cmd) (out : List T_api_Mail) (i : Nat) (hi : i < 4) : (layAll m k epoch n vec c (none4, out)).1.getD i false = ((m.getD i false || k.getD i false) && (m.getD i false || n == 2)) := by
  have step : ∀ (j : Nat) (x : List Bool × List T_api_Mail), j < x.1.length → ∀ i, (layStep m k epoch n vec c j x).1.getD i false = if i = j ∧ (m.getD j false || k.getD j false) = true then (m.getD j false || n == 2) else x.1.getD i false := fun j x hj i => by
    unfold layStep
    by_cases hc : (m.getD j false || k.getD j false) = true
    · rw [if_pos hc]
      by_cases e : i = j
      · subst e; rw [if_pos ⟨rfl, hc⟩]; simp only; rw [getD_set_eq hj]
      · rw [if_neg (fun h => e h.1)]; simp only; rw [getD_set_ne' e]
    · rw [if_neg hc, if_neg (fun h => hc h.2)]
  have l0 := (layStep_len m k epoch n vec c 0 (none4, out)).1
  have l1 := (layStep_len m k epoch n vec c 1 (layStep m k epoch n vec c 0 (none4, out))).1.trans l0
  have l2 := (layStep_len m k epoch n vec c 2 (layStep m k epoch n vec c 1 (layStep m k epoch n vec c 0 (none4, out)))).1.trans l1
  have h4 : (none4, out).1.length = 4 := rfl
  unfold layAll
  rw [step 3 _ (by omega), step 2 _ (by omega), step 1 _ (by omega), step 0 _ (by omega)]
  have hz : ∀ i, none4.getD i false = false := fun i => by
    rw [List.getD_eq_getElem?_getD, List.getElem?_replicate]; split <;> rfl
  match i, hi with
  | 0, _ => simp only [hz]; cases (m.getD 0 false || k.getD 0 false) <;> simp
  | 1, _ => simp only [hz]; cases (m.getD 1 false || k.getD 1 false) <;> simp
  | 2, _ => simp only [hz]; cases (m.getD 2 false || k.getD 2 false) <;> simp
  | 3, _ => simp only [hz]; cases (m.getD 3 false || k.getD 3 false) <;> simp
theorem u64_small (x : Int) (h0 : 0 ≤ x) (h1 : x < 18446744073709551616) : IntKind.u64.wrap x = x := by
  rw [IntKind.wrap_u64]; omega
theorem mailE_id (E : Nat) (hE : E < 1000000) (n : Int) (vec : List Int) (c : T_api_Cmd) (i : Nat) : (mailE (E : Int) n vec c i).Msg.Id = ((E + 1 : Nat) : Int) := by
  show IntKind.u64.wrap (IntKind.i64.wrap ((E : Int) + 1)) = _
  rw [wrap_succ (by omega)]
  exact u64_small _ (by omega) (by omega)
theorem apply_rem {s : T_config_State} {c : T_api_Cmd} (h : (applyR s c).2 = 0) (hk : c.Kind = 2) : ∃ i : Nat, i < 4 ∧ c.DC = i ∧ s.Members.getD i false = true := by
  unfold applyR at h
  split at h
  · rename_i hp
    unfold applyP at hp
    split at hp
    · cases hp
    · split at hp
      · cases hp
      · rename_i hd
        rw [if_neg (by omega)] at hp
        split at hp
        · rename_i hm
          exact ⟨c.DC.toNat, by omega, by omega, hm⟩
        · cases hp
  · rename_i hp; exact absurd h hp
theorem sendP_out (w : T_warden_Warden) (c : T_api_Cmd) : (sendP w c).out = w.out ++ newMails w.now.Members (applyR w.now c).1.Members w.epoch (if w.step_ = 3 then 2 else 1) (vecOf (saysOf w.now c (if w.step_ = 3 then 2 else 1))) c := by
  unfold sendP
  simp only [layAll_out]
theorem live_send {w : T_warden_Warden} {E : Nat} (hE : E < 1000) (hep : w.epoch = (E : Int)) {R : List T_api_Mail} (hids : ∀ x ∈ R ++ w.out, ∃ k : Nat, k ≤ E ∧ x.Msg.Id = (k : Int)) (hwt : w.wait = none4) {c : T_api_Cmd} {q : List T_api_Cmd} (hq : w.queue = c :: q) (hg : (applyR w.now c).2 = 0) (st : Int) (rd : Bool) (hst : st = 1 ∧ rd = false ∨ st = 3) :
    Live (sendP { w with step_ := st, ready := rd } c) (E + 1) (R ++ (sendP { w with step_ := st, ready := rd } c).out) := by
  have hn : ∀ x ∈ R ++ (sendP { w with step_ := st, ready := rd } c).out, x ∈ R ++ w.out ∨ ∃ i, i < 4 ∧ x = mailE (E : Int) (if st = 3 then 2 else 1) (vecOf (saysOf w.now c (if st = 3 then 2 else 1))) c i := fun x hx => by
    rw [sendP_out, ← List.append_assoc] at hx
    rcases List.mem_append.1 hx with hx | hx
    · exact .inl hx
    · obtain ⟨i, hi, e⟩ := newMails_mem hx
      exact .inr ⟨i, hi, by rw [e]; show mailE w.epoch _ _ c i = _; rw [hep]⟩
  have hwait : ∀ i, i < 4 → (sendP { w with step_ := st, ready := rd } c).wait.getD i false = ((w.now.Members.getD i false || (applyR w.now c).1.Members.getD i false) && (w.now.Members.getD i false || (if st = 3 then (2 : Int) else 1) == 2)) := fun i hi => by
    have := layAll_wt w.now.Members (applyR w.now c).1.Members w.epoch (if st = 3 then 2 else 1) (vecOf (saysOf w.now c (if st = 3 then 2 else 1))) c w.out i hi
    rw [← hwt] at this
    exact this
  refine ⟨?_, fun x hx => ?_, fun x hx hk hid hs c' q' hq' => ?_, fun hs i hi hw => ?_, fun hs => ?_, fun hs c' q' hq' hk => ?_, fun hs c' q' hq' hk => ?_, fun hs => ?_⟩
  · show IntKind.i64.wrap (w.epoch + 1) = _
    rw [hep, wrap_succ (by omega)]
  · rcases hn x hx with h | ⟨i, hi, rfl⟩
    · obtain ⟨k, hk, e⟩ := hids x h
      exact ⟨k, by omega, e⟩
    · exact ⟨E + 1, Nat.le_refl _, mailE_id E (by omega) _ _ c i⟩
  · have hs' : st = 1 := hs
    have hq'' : w.queue = c' :: q' := hq'
    rw [hq] at hq''
    simp only [List.cons.injEq] at hq''
    rcases hn x hx with h | ⟨i, hi, rfl⟩
    · obtain ⟨k, hk, e⟩ := hids x h
      rw [e] at hid; omega
    · rw [if_neg (by omega)]
      exact ⟨rfl, hq''.1⟩
  · rw [hwait i hi] at hw
    simp only [Bool.and_eq_true] at hw
    refine ⟨mailE (E : Int) (if st = 3 then 2 else 1) (vecOf (saysOf w.now c (if st = 3 then 2 else 1))) c i, ?_, rfl, rfl, mailE_id E (by omega) _ _ c i⟩
    rw [sendP_out]
    refine List.mem_append.2 (.inr (List.mem_append.2 (.inr ?_)))
    have := newMails_of (m := w.now.Members) (k := (applyR w.now c).1.Members) (epoch := w.epoch) (n := if st = 3 then 2 else 1) (vec := vecOf (saysOf w.now c (if st = 3 then 2 else 1))) (c := c) hi hw.1
    rw [hep] at this
    show _ ∈ newMails w.now.Members (applyR w.now c).1.Members w.epoch _ _ c
    rw [hep]; exact this
  · have hs' : st = 2 := hs
    rcases hst with ⟨h, _⟩ | h <;> omega
  · have hq'' : w.queue = c' :: q' := hq'
    rw [hq] at hq''
    simp only [List.cons.injEq] at hq''
    rw [← hq''.1] at hk ⊢
    obtain ⟨i, hi, hd, hm⟩ := apply_rem hg hk
    refine ⟨i, hi, hd, .inl ?_⟩
    rw [hwait i hi, hm]; rfl
  · have hs' : st = 1 := hs
    rcases hst with ⟨_, h⟩ | h
    · exact h
    · omega
  · have hs' : st = 0 := hs
    rcases hst with ⟨h, _⟩ | h <;> omega
theorem Live.drop {w : T_warden_Warden} {E : Nat} {x0 : T_api_Mail} {R : List T_api_Mail} (h : Live w E (x0 :: R)) (h1 : w.step_ = 1 ∨ w.step_ = 3 → ∀ i, i < 4 → w.wait.getD i false = true → ¬ (x0.To = ((5 * i + 1 : Nat) : Int) ∧ x0.Msg.Kind = 21 ∧ x0.Msg.Id = (E : Int)))
    (h2 : w.step_ = 2 → ∀ c q, w.queue = c :: q → ∀ i : Nat, i < 4 → c.DC = i → ¬ (x0.Msg.Kind = 22 ∧ x0.To = ((5 * i + 1 : Nat) : Int) ∧ x0.Msg.Id = (E : Int))) : Live w E R := by
  refine ⟨h.ep, fun x hx => h.ids x (List.mem_cons_of_mem _ hx), fun x hx => h.cur x (List.mem_cons_of_mem _ hx), fun hs i hi hw => ?_, fun hs => ?_, h.rem, h.r1, h.w0⟩
  · obtain ⟨x, hx, e⟩ := h.wt hs i hi hw
    rcases List.mem_cons.1 hx with rfl | hx
    · exact absurd e (h1 hs i hi hw)
    · exact ⟨x, hx, e⟩
  · obtain ⟨hr, c, q, hq, hk, i, hi, hd, x, hx, e⟩ := h.s2 hs
    rcases List.mem_cons.1 hx with rfl | hx
    · exact absurd e (h2 hs c q hq i hi hd)
    · exact ⟨hr, c, q, hq, hk, i, hi, hd, x, hx, e⟩
/-- an acknowledgement that isn't the last -/
theorem Live.ack {w : T_warden_Warden} {E : Nat} {x0 : T_api_Mail} {R : List T_api_Mail} (h : Live w E (x0 :: R)) (hs : w.step_ = 1 ∨ w.step_ = 3) (i : Nat) (hi : i < 4) (hl : w.wait.length = 4) (hdc : dcOf x0.To = (i : Int)) (mk : Int) (rd : Bool) (c : T_api_Cmd) (q : List T_api_Cmd) (hq : w.queue = c :: q) (hrd : rd = true ∧ c.Kind = 2 ∨ rd = w.ready ∧ ¬ (w.step_ = 1 ∧ c.Kind = 2 ∧ c.DC = (i : Int))) :
    Live { w with wait := w.wait.set i false, mark_ := mk, ready := rd } E R := by
  have hother : ∀ j, (w.wait.set i false).getD j false = true → j ≠ i ∧ w.wait.getD j false = true := fun j hj => by
    by_cases e : j = i
    · subst e; rw [getD_set_eq (by omega)] at hj; cases hj
    · rw [getD_set_ne' e] at hj; exact ⟨e, hj⟩
  refine ⟨h.ep, fun x hx => h.ids x (List.mem_cons_of_mem _ hx), fun x hx => h.cur x (List.mem_cons_of_mem _ hx), fun _ j hj hw => ?_, fun e => ?_, fun h1 c' q' hq' hk => ?_, fun h1 c' q' hq' hk => ?_, fun e => ?_⟩
  · obtain ⟨hne, hw'⟩ := hother j hw
    obtain ⟨x, hx, e1, e2⟩ := h.wt hs j hj hw'
    rcases List.mem_cons.1 hx with rfl | hx
    · rw [e1, dcOf_gate j hj] at hdc
      omega
    · exact ⟨x, hx, e1, e2⟩
  · have e' : w.step_ = 2 := e
    omega
  · have hqq : w.queue = c' :: q' := hq'
    rw [hq] at hqq
    simp only [List.cons.injEq] at hqq
    have h1' : w.step_ = 1 := h1
    obtain ⟨j, hj, hd, hor⟩ := h.rem h1' c q hq (by rw [hqq.1]; exact hk)
    refine ⟨j, hj, by rw [← hqq.1]; exact hd, ?_⟩
    rcases hrd with ⟨r, _⟩ | ⟨r, hn⟩
    · exact .inr r
    · rcases hor with hor | hor
      · refine .inl ?_
        have hji : j ≠ i := fun e => hn ⟨h1', by rw [hqq.1]; exact hk, by rw [hd, e]⟩
        show (w.wait.set i false).getD j false = true
        rw [getD_set_ne' hji]; exact hor
      · exact .inr (r.trans hor)
  · have hqq : w.queue = c' :: q' := hq'
    rw [hq] at hqq
    simp only [List.cons.injEq] at hqq
    rcases hrd with ⟨_, r⟩ | ⟨r, _⟩
    · rw [hqq.1] at r; omega
    · exact r.trans (h.r1 h1 c q hq (by rw [hqq.1]; exact hk))
  · have e' : w.step_ = 0 := e
    omega
theorem not_skips {w : T_warden_Warden} {dc : Int} {m : T_api_Msg} (h : ¬ skips w dc m) : (∃ i : Nat, i < 4 ∧ dc = (i : Int)) ∧ w.step_ ≠ 0 ∧ m.Id = IntKind.u64.wrap w.epoch := by
  have g1 : ¬ dc < 0 := fun e => h (.inl e)
  have g2 : ¬ dc ≥ 4 := fun e => h (.inr (.inl e))
  have g3 : ¬ w.step_ = 0 := fun e => h (.inr (.inr (.inl e)))
  have g4 : ¬ m.Id ≠ IntKind.u64.wrap w.epoch := fun e => h (.inr (.inr (.inr e)))
  exact ⟨⟨dc.toNat, by omega, by omega⟩, g3, Classical.byContradiction g4⟩
theorem k1P_off {w : T_warden_Warden} {c : T_api_Cmd} (h : ¬ (w.step_ = 2 ∧ w.ready = true)) : k1P w c = w := by unfold k1P; rw [if_neg h]
theorem takeQ25 (w : T_warden_Warden) (c : T_api_Cmd) (q : List T_api_Cmd) (dc id : Int) : takeQ w c q dc (msgK 25 id 0) = if dc = c.DC ∧ w.step_ < 3 ∧ c.Kind = 2 then k1P { w with ready := true } c else k1P w c := by
  unfold takeQ
  rw [if_neg (fun e => absurd (show (25 : Int) = 23 from e.1) (by decide))]
  by_cases h : dc = c.DC ∧ w.step_ < 3 ∧ c.Kind = 2
  · rw [if_pos h, if_pos ⟨h.1, .inr ⟨h.2.1, rfl, h.2.2⟩⟩]
  · rw [if_neg h, if_neg]
    rintro ⟨h1, h2 | h2⟩
    · exact absurd (show (25 : Int) = 24 from h2.2.1) (by decide)
    · exact h ⟨h1, h2.1, h2.2.2⟩
theorem takeQ24 (w : T_warden_Warden) (c : T_api_Cmd) (q : List T_api_Cmd) (dc id : Int) : takeQ w c q dc (msgK 24 id 0) = if dc = c.DC ∧ w.step_ = 2 ∧ c.Kind = 1 then k1P { w with ready := true } c else k1P w c := by
  unfold takeQ
  rw [if_neg (fun e => absurd (show (24 : Int) = 23 from e.1) (by decide))]
  by_cases h : dc = c.DC ∧ w.step_ = 2 ∧ c.Kind = 1
  · rw [if_pos h, if_pos ⟨h.1, .inl ⟨h.2.1, rfl, h.2.2⟩⟩]
  · rw [if_neg h, if_neg]
    rintro ⟨h1, h2 | h2⟩
    · exact h ⟨h1, h2.1, h2.2.2⟩
    · exact absurd (show (24 : Int) = 25 from h2.2.1) (by decide)
theorem mu_send (w : T_warden_Warden) (c : T_api_Cmd) (st : Int) (rd : Bool) (hst : st = 1 ∨ st = 3) : mu (sendP { w with step_ := st, ready := rd } c) = (w.queue.length - 1) * 9 + (if st = 1 then 5 else 0) := by
  have e : (sendP { w with step_ := st, ready := rd } c).step_ = st := rfl
  have eq : (sendP { w with step_ := st, ready := rd } c).queue = w.queue := rfl
  unfold mu
  rw [e, eq]
  rcases hst with rfl | rfl <;> simp
theorem send_len (w : T_warden_Warden) (c : T_api_Cmd) : (sendP w c).out.length ≤ w.out.length + 4 := by
  rw [sendP_out, List.length_append]
  have := newMails_len w.now.Members (applyR w.now c).1.Members w.epoch (if w.step_ = 3 then 2 else 1) (vecOf (saysOf w.now c (if w.step_ = 3 then 2 else 1))) c
  omega
/-- a command is brought through -/
theorem live_finish {w : T_warden_Warden} (hgd : goodQ w.now w.queue) {E : Nat} (hE : E < 1000) (hep : w.epoch = (E : Int)) {R : List T_api_Mail} (hids : ∀ x ∈ R ++ w.out, ∃ k : Nat, k ≤ E ∧ x.Msg.Id = (k : Int)) (hwt : w.wait = none4) {c : T_api_Cmd} {q : List T_api_Cmd} (hq : w.queue = c :: q) (hs : w.step_ = 1 ∨ w.step_ = 3) :
    ((finishP w c q).step_ = 0 ∧ Live (finishP w c q) E (R ++ (finishP w c q).out) ∨ (finishP w c q).epoch = ((E + 1 : Nat) : Int) ∧ Live (finishP w c q) (E + 1) (R ++ (finishP w c q).out)) ∧ (R ++ (finishP w c q).out).length + mu (finishP w c q) ≤ (R ++ w.out).length + mu w := by
  have hg := hgd
  rw [hq] at hg
  have hmu : mu w = q.length * 9 + (if w.step_ = 1 then 5 else if w.step_ = 2 then 4 else 0) := by
    unfold mu
    rw [if_neg (by omega), hq]; simp
  unfold finishP
  cases hqq : q with
  | nil =>
    rw [startP_nil (by rfl)]
    refine ⟨.inl ⟨rfl, hep, hids, fun x _ _ _ h => absurd (show (0 : Int) = 1 from h) (by decide), fun h => ?_, fun h => absurd (show (0 : Int) = 2 from h) (by decide), fun h => absurd (show (0 : Int) = 1 from h) (by decide), fun h => absurd (show (0 : Int) = 1 from h) (by decide), fun _ => hwt⟩, ?_⟩
    · rcases h with h | h
      · exact absurd (show (0 : Int) = 1 from h) (by decide)
      · exact absurd (show (0 : Int) = 3 from h) (by decide)
    · show (R ++ w.out).length + 0 ≤ _; omega
  | cons c2 q2 =>
    have hg2 := hg.2
    rw [hqq] at hg2
    rw [startP_cons (w := { w with now := (applyR w.now c).1, queue := c2 :: q2, done := IntKind.i64.wrap (w.done + 1), step_ := 0 }) (c := c2) (q := q2) rfl rfl]
    have hl := live_send (w := { w with now := (applyR w.now c).1, queue := c2 :: q2, done := IntKind.i64.wrap (w.done + 1), step_ := 0 }) hE hep hids hwt (c := c2) (q := q2) rfl hg2.1 1 false (.inl ⟨rfl, rfl⟩)
    refine ⟨.inr ⟨hl.ep, hl⟩, ?_⟩
    have h1 := send_len { w with now := (applyR w.now c).1, queue := c2 :: q2, done := IntKind.i64.wrap (w.done + 1), step_ := 1, ready := false } c2
    have h2 := mu_send { w with now := (applyR w.now c).1, queue := c2 :: q2, done := IntKind.i64.wrap (w.done + 1), step_ := 0 } c2 1 false (.inl rfl)
    simp only [List.length_append, List.length_cons] at h1 h2 ⊢
    rw [hqq, List.length_cons] at hmu
    simp only [if_true] at h2
    have h1' : (sendP { w with now := (applyR w.now c).1, queue := c2 :: q2, done := IntKind.i64.wrap (w.done + 1), step_ := 1, ready := false } c2).out.length ≤ w.out.length + 4 := h1
    rw [h2, hmu]
    split <;> (try split) <;> omega
section
variable (N : Nat) (hN : 1000 ≤ N)
include hN
theorem takeP_eq {w : T_warden_Warden} {B : Nat} (hw : WOk w B) (hB : B < 999998000) (dc : Int) (m : T_api_Msg) : M.warden_Warden_Take N w dc m = some (takeP w dc m) ∧ WOk (takeP w dc m) (B + 5) := by
  by_cases hs : skips w dc m
  · rw [takeP_skip hs]
    exact ⟨take_skip N w dc m hs, hw.now, hw.tail, hw.wait, Nat.le_trans hw.out (by omega), hw.queue, hw.busy⟩
  · have hst : w.step_ ≠ 0 := fun e => hs (.inr (.inr (.inl e)))
    obtain ⟨c, q, hq⟩ : ∃ c q, w.queue = c :: q := by
      cases hq : w.queue with
      | nil => exact absurd hq (hw.busy hst)
      | cons c q => exact ⟨c, q, rfl⟩
    rw [takeP_cons hs hq]
    exact ⟨take_go N (by omega) w dc m hs c q hq B (by omega) hw, takeQ_ok16 (by omega) hw hq dc m⟩
theorem takeP_inv {pool nodes : Int} {taken : List T_api_Cmd} {d B : Nat} {w : T_warden_Warden} (h : PInv pool nodes taken d w) (hw : WOk w B) (hB : B < 999990000) (hl : taken.length ≤ 150) (dc : Int) (m : T_api_Msg) : ∃ d', PInv pool nodes taken d' (takeP w dc m) := by
  by_cases hs : skips w dc m
  · rw [takeP_skip hs]; exact ⟨d, h⟩
  · have hst : w.step_ ≠ 0 := fun e => hs (.inr (.inr (.inl e)))
    obtain ⟨c, q, hq⟩ : ∃ c q, w.queue = c :: q := by
      cases hq : w.queue with
      | nil => exact absurd hq (hw.busy hst)
      | cons c q => exact ⟨c, q, rfl⟩
    rw [takeP_cons hs hq]
    rcases (rtake_eq N hN h hw hB hl dc m hs hq).2 with r | r
    · exact ⟨d, r⟩
    · exact ⟨d + 1, r⟩
end
theorem out_nil {w : T_warden_Warden} (h : WOk w 0) : w.out = [] := List.eq_nil_of_length_eq_zero (Nat.le_zero.1 h.out)
theorem hsk' {w : T_warden_Warden} {x : T_api_Mail} {k ts : Int} (h : skips w (dcOf x.To) (msgK k x.Msg.Id ts)) {i : Nat} (hto : x.To = ((5 * i + 1 : Nat) : Int)) (hi : i < 4) (hid : x.Msg.Id = IntKind.u64.wrap w.epoch) (hs : w.step_ ≠ 0) : False := by
  rcases h with h | h | h | h
  · rw [hto, dcOf_gate i hi] at h; omega
  · rw [hto, dcOf_gate i hi] at h; omega
  · exact hs h
  · exact h hid
/-- one mail is answered: what is under way goes on -/
theorem proc_live {pool nodes : Int} {taken : List T_api_Cmd} {d : Nat} {w : T_warden_Warden} (hp : PInv pool nodes taken d w) (hw : WOk w 0) {E : Nat} (hE : E < 900) {x0 : T_api_Mail} {R : List T_api_Mail} (hL : Live w E (x0 :: R)) (ts : Int) :
    ∃ E', E' ≤ E + 1 ∧ Live (proc w x0 ts) E' (R ++ (proc w x0 ts).out) ∧ (R ++ (proc w x0 ts).out).length + mu (proc w x0 ts) ≤ R.length + mu w := by
  have ho := out_nil hw
  have hRo : R ++ w.out = R := by rw [ho, List.append_nil]
  have ho0 : w.out.length = 0 := by rw [ho]; rfl
  have hidsR : ∀ x ∈ R, ∃ k : Nat, k ≤ E ∧ x.Msg.Id = (k : Int) := fun x hx => hL.ids x (List.mem_cons_of_mem _ hx)
  have hu : IntKind.u64.wrap (E : Int) = (E : Int) := u64_small _ (by omega) (by omega)
  have same : Live w E R → ∃ E', E' ≤ E + 1 ∧ Live w E' (R ++ w.out) ∧ (R ++ w.out).length + mu w ≤ R.length + mu w := fun h => ⟨E, by omega, by rw [hRo]; exact h, by rw [hRo]; omega⟩
  unfold proc
  by_cases k22 : x0.Msg.Kind = 22
  · rw [if_pos k22]
    by_cases hsk : skips w (dcOf x0.To) (msgK 24 x0.Msg.Id 0)
    · rw [takeP_skip hsk]
      refine same (hL.drop (fun _ _ _ _ e => by have := e.2.1; omega) (fun hs c q hq i hi hd e => hsk' hsk e.2.1 hi (by rw [e.2.2, hL.ep, hu]) (by omega)))
    · obtain ⟨⟨i, hi, hdc⟩, hst, hid⟩ := not_skips hsk
      obtain ⟨c, q, hq⟩ : ∃ c q, w.queue = c :: q := by
        cases hq : w.queue with
        | nil => exact absurd hq (hw.busy hst)
        | cons c q => exact ⟨c, q, rfl⟩
      rw [takeP_cons hsk hq, takeQ24]
      by_cases hc : dcOf x0.To = c.DC ∧ w.step_ = 2 ∧ c.Kind = 1
      · rw [if_pos hc]
        have hk : k1P { w with ready := true } c = sendP { w with step_ := 3, ready := true } c := by unfold k1P; rw [if_pos ⟨hc.2.1, rfl⟩]
        rw [hk]
        have hg := hp.good; rw [hq] at hg
        have hwt := (hp.s2 hc.2.1).1
        refine ⟨E + 1, Nat.le_refl _, live_send (by omega) hL.ep (by rw [hRo]; exact hidsR) hwt hq hg.1 3 true (.inr rfl), ?_⟩
        have h1 : (sendP { w with step_ := 3, ready := true } c).out.length ≤ w.out.length + 4 := send_len _ c
        have h2 := mu_send w c 3 true (.inr rfl)
        have h3 : mu w = (w.queue.length - 1) * 9 + 4 := by unfold mu; rw [if_neg hst, if_neg (by omega), if_pos hc.2.1]
        rw [List.length_append, h2, h3]
        rw [if_neg (by decide : ¬ (3 : Int) = 1)]
        omega
      · rw [if_neg hc]
        have hoff : k1P w c = w := k1P_off (fun e => by have := (hL.s2 e.1).1; rw [this] at e; exact absurd e.2 (by decide))
        rw [hoff]
        refine same (hL.drop (fun _ _ _ _ e => by have := e.2.1; omega) (fun hs c' q' hq' j hj hd e => ?_))
        rw [hq] at hq'
        simp only [List.cons.injEq] at hq'
        obtain ⟨_, c2, q2, hq2, hk2, _⟩ := hL.s2 hs
        rw [hq] at hq2
        simp only [List.cons.injEq] at hq2
        refine hc ⟨?_, hs, by rw [hq2.1]; exact hk2⟩
        rw [e.2.1, dcOf_gate j hj, hq'.1, hd]
  · rw [if_neg k22]
    by_cases k21 : x0.Msg.Kind = 21
    · rw [if_pos k21]
      by_cases hsk : skips w (dcOf x0.To) (msgK 23 x0.Msg.Id ts)
      · have hsk2 : skips w (dcOf x0.To) (msgK 25 x0.Msg.Id 0) := hsk
        rw [takeP_skip hsk, takeP_skip hsk2]
        have : (if isRem x0 then w else w) = w := by split <;> rfl
        rw [this]
        exact same (hL.drop (fun hs i hi hwi e => hsk' hsk e.1 hi (by rw [e.2.2, hL.ep, hu]) (by omega)) (fun _ _ _ _ _ _ _ e => k22 e.1))
      · obtain ⟨⟨i, hi, hdc⟩, hst, hid⟩ := not_skips hsk
        have hid' : x0.Msg.Id = (E : Int) := by
          have : x0.Msg.Id = IntKind.u64.wrap w.epoch := hid
          rw [this, hL.ep, hu]
        obtain ⟨c, q, hq⟩ : ∃ c q, w.queue = c :: q := by
          cases hq : w.queue with
          | nil => exact absurd hq (hw.busy hst)
          | cons c q => exact ⟨c, q, rfl⟩
        have hwl := hw.wait
        rw [takeP_cons hsk hq]
        -- what the second word comes to, at a state of the same epoch
        by_cases hwi : w.wait.getD i false = true
        · have hs13 : w.step_ = 1 ∨ w.step_ = 3 := by
            rcases hp.steps with e | e | e | e
            · exact absurd e hst
            · exact .inl e
            · have := (hp.s2 e).1
              rw [this, List.getD_eq_getElem?_getD, List.getElem?_replicate] at hwi
              split at hwi <;> cases hwi
            · exact .inr e
          have a1 : (msgK 23 x0.Msg.Id ts).Kind = 23 ∧ w.wait.getD (dcOf x0.To).toNat false = true := ⟨rfl, by rw [hdc, Int.toNat_natCast]; exact hwi⟩
          unfold takeQ
          rw [if_pos a1, hdc, Int.toNat_natCast]
          generalize hmk : (if (msgK 23 x0.Msg.Id ts).TS > w.mark_ then (msgK 23 x0.Msg.Id ts).TS else w.mark_) = mk
          have hackw : ackW w i (msgK 23 x0.Msg.Id ts).TS = { w with wait := w.wait.set i false, mark_ := mk } := by unfold ackW; rw [hmk]
          rw [hackw]
          by_cases a2 : w.wait.set i false = List.replicate 4 false
          · rw [if_neg (show ¬ (w.wait.set i false ≠ List.replicate 4 false) from fun e => e a2)]
            by_cases a3 : w.step_ = 3 ∨ ¬ (c.Kind = 1 ∨ c.Kind = 2)
            · rw [if_pos a3]
              obtain ⟨hf1, hf2⟩ := live_finish (w := { w with wait := w.wait.set i false, mark_ := mk }) hp.good (by omega : E < 1000) hL.ep (R := R) (by show ∀ x ∈ R ++ w.out, _; rw [hRo]; exact hidsR) a2 hq hs13
              have hmuw : mu { w with wait := w.wait.set i false, mark_ := mk } = mu w := rfl
              have hlen : (R ++ (finishP { w with wait := w.wait.set i false, mark_ := mk } c q).out).length + mu (finishP { w with wait := w.wait.set i false, mark_ := mk } c q) ≤ R.length + mu w := by
                rw [hmuw] at hf2
                have : (R ++ ({ w with wait := w.wait.set i false, mark_ := mk } : T_warden_Warden).out).length = R.length := by show (R ++ w.out).length = _; rw [hRo]
                omega
              rcases hf1 with ⟨hz, hl⟩ | ⟨hep', hl⟩
              · have hsk2 : skips (finishP { w with wait := w.wait.set i false, mark_ := mk } c q) (i : Int) (msgK 25 x0.Msg.Id 0) := .inr (.inr (.inl hz))
                rw [takeP_skip hsk2]
                have : ∀ z : T_warden_Warden, (if isRem x0 then z else z) = z := fun z => by split <;> rfl
                rw [this]
                exact ⟨E, by omega, hl, hlen⟩
              · have hsk2 : skips (finishP { w with wait := w.wait.set i false, mark_ := mk } c q) (i : Int) (msgK 25 x0.Msg.Id 0) := .inr (.inr (.inr (by
                  show x0.Msg.Id ≠ _
                  rw [hid', hep', u64_small _ (by omega) (by omega)]; omega)))
                rw [takeP_skip hsk2]
                have : ∀ z : T_warden_Warden, (if isRem x0 then z else z) = z := fun z => by split <;> rfl
                rw [this]
                exact ⟨E + 1, Nat.le_refl _, hl, hlen⟩
            · rw [if_neg a3]
              have n3 : ¬ w.step_ = 3 := fun e => a3 (.inl e)
              have t3 : two c := Classical.byContradiction fun e => a3 (.inr e)
              have s1 : w.step_ = 1 := by omega
              obtain ⟨hN1, hCm⟩ := hL.cur x0 (by simp) k21 hid' s1 c q hq
              have hmu1 : mu w = (w.queue.length - 1) * 9 + 5 := by unfold mu; rw [if_neg hst, if_pos s1]
              have hg := hp.good; rw [hq] at hg
              by_cases a4 : c.Kind = 1
              · rw [if_pos a4]
                have hr := hL.r1 s1 c q hq a4
                have hnr : ¬ isRem x0 := fun e => by have := e.1; rw [hCm, a4] at this; exact absurd this (by decide)
                rw [if_neg hnr, k1P_off (by rw [show ({ w with wait := w.wait.set i false, mark_ := mk, step_ := 2, out := w.out ++ [mailF w.epoch mk c] } : T_warden_Warden).ready = w.ready from rfl, hr]; exact fun e => absurd e.2 (by decide))]
                obtain ⟨j, hj, hdj⟩ := apply_dc 1000 (Nat.le_refl _) hg.1
                refine ⟨E, by omega, ⟨hL.ep, fun x hx => ?_, fun x _ _ _ h => absurd (show (2 : Int) = 1 from h) (by decide), fun h => ?_, fun _ => ⟨hr, c, q, hq, a4, j, hj, hdj, mailF w.epoch mk c, ?_, rfl, ?_, ?_⟩, fun h => absurd (show (2 : Int) = 1 from h) (by decide), fun h => absurd (show (2 : Int) = 1 from h) (by decide), fun h => absurd (show (2 : Int) = 0 from h) (by decide)⟩, ?_⟩
                · rw [ho, List.nil_append] at hx
                  rcases List.mem_append.1 hx with hx | hx
                  · exact hidsR x hx
                  · simp only [List.mem_cons, List.not_mem_nil, or_false] at hx
                    subst hx
                    exact ⟨E, Nat.le_refl _, by show IntKind.u64.wrap w.epoch = _; rw [hL.ep, hu]⟩
                · rcases h with h | h
                  · exact absurd (show (2 : Int) = 1 from h) (by decide)
                  · exact absurd (show (2 : Int) = 3 from h) (by decide)
                · show _ ∈ R ++ (w.out ++ [mailF w.epoch mk c]); simp
                · show gateI c.DC = _; rw [hdj, gateI_eq 1000 (Nat.le_refl _) j hj]
                · show IntKind.u64.wrap w.epoch = _; rw [hL.ep, hu]
                · have hm2 : mu ({ w with wait := w.wait.set i false, mark_ := mk, step_ := 2, out := w.out ++ [mailF w.epoch mk c] } : T_warden_Warden) = (w.queue.length - 1) * 9 + 4 := rfl
                  rw [hm2, hmu1]
                  show (R ++ (w.out ++ [mailF w.epoch mk c])).length + _ ≤ _
                  rw [ho]; simp only [List.nil_append, List.length_append, List.length_singleton]; omega
              · rw [if_neg a4]
                have ck2 : c.Kind = 2 := by rcases t3 with h | h; exact absurd h a4; exact h
                -- the second entry goes out
                have fin : ∃ E', E' ≤ E + 1 ∧ Live (sendP { w with wait := w.wait.set i false, mark_ := mk, step_ := 3, ready := true } c) E' (R ++ (sendP { w with wait := w.wait.set i false, mark_ := mk, step_ := 3, ready := true } c).out) ∧ (R ++ (sendP { w with wait := w.wait.set i false, mark_ := mk, step_ := 3, ready := true } c).out).length + mu (sendP { w with wait := w.wait.set i false, mark_ := mk, step_ := 3, ready := true } c) ≤ R.length + mu w := by
                  refine ⟨E + 1, Nat.le_refl _, live_send (w := { w with wait := w.wait.set i false, mark_ := mk }) (by omega) hL.ep (by show ∀ x ∈ R ++ w.out, _; rw [hRo]; exact hidsR) a2 hq hg.1 3 true (.inr rfl), ?_⟩
                  have h1 : (sendP { w with wait := w.wait.set i false, mark_ := mk, step_ := 3, ready := true } c).out.length ≤ w.out.length + 4 := send_len _ c
                  have h2 := mu_send { w with wait := w.wait.set i false, mark_ := mk } c 3 true (.inr rfl)
                  have h2' : mu (sendP { w with wait := w.wait.set i false, mark_ := mk, step_ := 3, ready := true } c) = (w.queue.length - 1) * 9 + 0 := h2
                  rw [List.length_append, h2', hmu1]
                  omega
                by_cases hr : w.ready = true
                · have hk : k1P ({ w with wait := w.wait.set i false, mark_ := mk, step_ := 2 } : T_warden_Warden) c = sendP { w with wait := w.wait.set i false, mark_ := mk, step_ := 3, ready := true } c := by unfold k1P; rw [if_pos ⟨rfl, hr⟩]; simp only [hr]
                  rw [hk]
                  have hsk2 : skips (sendP { w with wait := w.wait.set i false, mark_ := mk, step_ := 3, ready := true } c) (i : Int) (msgK 25 x0.Msg.Id 0) := .inr (.inr (.inr (by
                    show x0.Msg.Id ≠ IntKind.u64.wrap (IntKind.i64.wrap (w.epoch + 1))
                    rw [hid', hL.ep, wrap_succ (by omega), u64_small _ (by omega) (by omega)]; omega)))
                  rw [takeP_skip hsk2]
                  have : ∀ z : T_warden_Warden, (if isRem x0 then z else z) = z := fun z => by split <;> rfl
                  rw [this]
                  exact fin
                · have hk : k1P ({ w with wait := w.wait.set i false, mark_ := mk, step_ := 2 } : T_warden_Warden) c = { w with wait := w.wait.set i false, mark_ := mk, step_ := 2 } := k1P_off (fun e => hr e.2)
                  rw [hk]
                  obtain ⟨j, hj, hdj, hor⟩ := hL.rem s1 c q hq ck2
                  have hji : j = i := by
                    rcases hor with h | h
                    · by_cases e : j = i
                      · exact e
                      · have : (w.wait.set i false).getD j false = true := by rw [getD_set_ne' e]; exact h
                        rw [a2, List.getD_eq_getElem?_getD, List.getElem?_replicate] at this
                        split at this <;> cases this
                    · exact absurd h hr
                  have hrem : isRem x0 := ⟨by rw [hCm]; exact ck2, hN1, by rw [hCm, hdj, hji, hdc]⟩
                  rw [if_pos hrem]
                  have hns : ¬ skips ({ w with wait := w.wait.set i false, mark_ := mk, step_ := 2 } : T_warden_Warden) (i : Int) (msgK 25 x0.Msg.Id 0) := by
                    rintro (h | h | h | h)
                    · omega
                    · omega
                    · exact absurd (show (2 : Int) = 0 from h) (by decide)
                    · exact h (by show x0.Msg.Id = IntKind.u64.wrap w.epoch; rw [hid', hL.ep, hu])
                  rw [takeP_cons (w := { w with wait := w.wait.set i false, mark_ := mk, step_ := 2 }) hns hq, takeQ25, if_pos ⟨by rw [hdj, hji], by show (2 : Int) < 3; decide, ck2⟩]
                  have hk2 : k1P ({ w with wait := w.wait.set i false, mark_ := mk, step_ := 2, ready := true } : T_warden_Warden) c = sendP { w with wait := w.wait.set i false, mark_ := mk, step_ := 3, ready := true } c := by unfold k1P; rw [if_pos ⟨rfl, rfl⟩]
                  rw [hk2]
                  exact fin
          · rw [if_pos a2]
            have hmuw : ∀ rd, mu ({ w with wait := w.wait.set i false, mark_ := mk, ready := rd } : T_warden_Warden) = mu w := fun _ => rfl
            have hns : ¬ skips ({ w with wait := w.wait.set i false, mark_ := mk } : T_warden_Warden) (i : Int) (msgK 25 x0.Msg.Id 0) := by
              rintro (h | h | h | h)
              · omega
              · omega
              · exact hst h
              · exact h (by show x0.Msg.Id = IntKind.u64.wrap w.epoch; rw [hid', hL.ep, hu])
            have n2 : ¬ w.step_ = 2 := by omega
            have wrap : ∀ rd : Bool, (rd = true ∧ c.Kind = 2 ∨ rd = w.ready ∧ ¬ (w.step_ = 1 ∧ c.Kind = 2 ∧ c.DC = (i : Int))) → ∃ E', E' ≤ E + 1 ∧ Live ({ w with wait := w.wait.set i false, mark_ := mk, ready := rd } : T_warden_Warden) E' (R ++ w.out) ∧ (R ++ w.out).length + mu ({ w with wait := w.wait.set i false, mark_ := mk, ready := rd } : T_warden_Warden) ≤ R.length + mu w := fun rd hrd =>
              ⟨E, by omega, by rw [hRo]; exact hL.ack hs13 i hi hwl hdc mk rd c q hq hrd, by rw [hRo]; have := hmuw rd; omega⟩
            by_cases hrem : isRem x0
            · rw [if_pos hrem, takeP_cons (w := { w with wait := w.wait.set i false, mark_ := mk }) hns hq, takeQ25]
              by_cases hcc : (i : Int) = c.DC ∧ w.step_ < 3 ∧ c.Kind = 2
              · rw [if_pos hcc, k1P_off (w := { w with wait := w.wait.set i false, mark_ := mk, ready := true }) (fun e => n2 e.1)]
                exact wrap true (.inl ⟨rfl, hcc.2.2⟩)
              · rw [if_neg hcc, k1P_off (w := { w with wait := w.wait.set i false, mark_ := mk }) (fun e => n2 e.1)]
                exact wrap w.ready (.inr ⟨rfl, fun e => hcc ⟨e.2.2.symm, by omega, e.2.1⟩⟩)
            · rw [if_neg hrem]
              refine wrap w.ready (.inr ⟨rfl, fun e => hrem ?_⟩)
              obtain ⟨hN1, hCm⟩ := hL.cur x0 (by simp) k21 hid' e.1 c q hq
              exact ⟨by rw [hCm]; exact e.2.1, hN1, by rw [hCm, e.2.2, hdc]⟩
        · -- not waited for
          have hq1 : takeQ w c q (dcOf x0.To) (msgK 23 x0.Msg.Id ts) = w := by
            unfold takeQ
            rw [if_neg (fun e => hwi (by have := e.2; rw [hdc, Int.toNat_natCast] at this; exact this)), if_neg]
            · exact k1P_off (fun e => by have := (hL.s2 e.1).1; rw [this] at e; exact absurd e.2 (by decide))
            · rintro ⟨_, h | h⟩
              · exact absurd (show (23 : Int) = 24 from h.2.1) (by decide)
              · exact absurd (show (23 : Int) = 25 from h.2.1) (by decide)
          rw [hq1]
          have hdrop : Live w E R := hL.drop (fun hs j hj hwj e => by
            have : (j : Int) = (i : Int) := by rw [← dcOf_gate j hj, ← e.1, hdc]
            have : j = i := by omega
            subst this
            exact hwi hwj) (fun _ _ _ _ _ _ _ e => k22 e.1)
          by_cases hrem : isRem x0
          · rw [if_pos hrem]
            have hns : ¬ skips w (dcOf x0.To) (msgK 25 x0.Msg.Id 0) := hsk
            rw [takeP_cons hns hq, takeQ25]
            by_cases hcc : dcOf x0.To = c.DC ∧ w.step_ < 3 ∧ c.Kind = 2
            · rw [if_pos hcc]
              have n2 : ¬ w.step_ = 2 := fun e => by
                obtain ⟨_, c2, q2, hq2, hk2, _⟩ := hL.s2 e
                rw [hq] at hq2
                simp only [List.cons.injEq] at hq2
                rw [← hq2.1] at hk2; omega
              rw [k1P_off (w := { w with ready := true }) (fun e => n2 e.1)]
              refine ⟨E, by omega, ?_, ?_⟩
              · show Live _ E (R ++ w.out)
                rw [hRo]
                exact ⟨hdrop.ep, hdrop.ids, hdrop.cur, hdrop.wt, fun e => absurd e n2, fun h c' q' hq' hk => by
                  obtain ⟨j, hj, hd, _⟩ := hdrop.rem h c' q' hq' hk
                  exact ⟨j, hj, hd, .inr rfl⟩, fun h c' q' hq' hk => by
                  have hqq : w.queue = c' :: q' := hq'
                  rw [hq] at hqq
                  simp only [List.cons.injEq] at hqq
                  rw [← hqq.1] at hk; omega, hdrop.w0⟩
              · show (R ++ w.out).length + mu w ≤ _
                rw [hRo]; omega
            · rw [if_neg hcc, k1P_off (fun e => by have := (hL.s2 e.1).1; rw [this] at e; exact absurd e.2 (by decide))]
              exact same hdrop
          · rw [if_neg hrem]; exact same hdrop
    · rw [if_neg k21]
      exact same (hL.drop (fun _ _ _ _ e => k21 e.2.1) (fun _ _ _ _ _ _ _ e => k22 e.1))
end Go.Cf
namespace Go.Cf
open Go
theorem Live.mem {w : T_warden_Warden} {E : Nat} {L L' : List T_api_Mail} (h : Live w E L) (hm : ∀ x, x ∈ L' ↔ x ∈ L) : Live w E L' :=
  ⟨h.ep, fun x hx => h.ids x ((hm x).1 hx), fun x hx => h.cur x ((hm x).1 hx), fun hs i hi hw => let ⟨x, hx, e⟩ := h.wt hs i hi hw; ⟨x, (hm x).2 hx, e⟩,
    fun hs => let ⟨hr, c, q, hq, hk, i, hi, hd, x, hx, e⟩ := h.s2 hs; ⟨hr, c, q, hq, hk, i, hi, hd, x, (hm x).2 hx, e⟩, h.rem, h.r1, h.w0⟩
theorem Live.out {w : T_warden_Warden} {E : Nat} {L : List T_api_Mail} (h : Live w E L) (o : List T_api_Mail) : Live { w with out := o } E L := ⟨h.ep, h.ids, h.cur, h.wt, h.s2, h.rem, h.r1, h.w0⟩
theorem PInv.out {pool nodes : Int} {taken : List T_api_Cmd} {d : Nat} {w : T_warden_Warden} (h : PInv pool nodes taken d w) (o : List T_api_Mail) : PInv pool nodes taken d { w with out := o } := ⟨h.le, h.done, h.queue, h.tail, h.good, h.valid, h.steps, h.s0, h.s13, h.s2, h.s3⟩
theorem wait_some {l : List Bool} (hl : l.length = 4) (h : l ≠ none4) : ∃ i, i < 4 ∧ l.getD i false = true := by
  match l, hl with
  | [a, b, c, d], _ =>
    cases a
    · cases b
      · cases c
        · cases d
          · exact absurd rfl h
          · exact ⟨3, by omega, rfl⟩
        · exact ⟨2, by omega, rfl⟩
      · exact ⟨1, by omega, rfl⟩
    · exact ⟨0, by omega, rfl⟩
/-- where nothing is to come all is done -/
theorem live_done {pool nodes : Int} {taken : List T_api_Cmd} {d E : Nat} {w : T_warden_Warden} (hp : PInv pool nodes taken d w) (hw : w.wait.length = 4) (hL : Live w E []) : w.queue = [] ∧ d = taken.length ∧ w.tail = w.now := by
  have hq : w.queue = [] := by
    rcases hp.steps with e | e | e | e
    · exact hp.s0 e
    · obtain ⟨i, hi, h⟩ := wait_some hw (hp.s13 (.inl e))
      obtain ⟨x, hx, _⟩ := hL.wt (.inl e) i hi h
      cases hx
    · obtain ⟨_, c, q, _, _, i, _, _, x, hx, _⟩ := hL.s2 e
      cases hx
    · obtain ⟨i, hi, h⟩ := wait_some hw (hp.s13 (.inr e))
      obtain ⟨x, hx, _⟩ := hL.wt (.inr e) i hi h
      cases hx
  refine ⟨hq, ?_, by rw [hp.tail, hq]; rfl⟩
  have h1 := hp.queue
  rw [hq] at h1
  have h2 := congrArg List.length h1
  simp at h2
  have := hp.le
  omega
section
variable (N : Nat) (hN : 1000 ≤ N) (haw : M.law19_awake N = some true)
include hN haw
theorem served_k3 {pool nodes : Int} {taken : List T_api_Cmd} {d E : Nat} {w : T_warden_Warden} (hp : PInv pool nodes taken d w) {B : Nat} (hw : WOk w B) (hL : Live w E []) :
    M.law19_WardenServed_k3 N ((taken.length : Nat) : Int) w.now.Pool w.now.Nodes w.now.Members w.now.Maps w.now.Modes w.tail.Pool w.tail.Nodes w.tail.Members w.tail.Maps w.tail.Modes w.queue w.done w.epoch w.step_ w.wait w.mark_ w.ready w.out = some true := by
  obtain ⟨hq, hd, ht⟩ := live_done hp hw.wait hL
  unfold M.law19_WardenServed_k3
  have hn : M.warden_Warden_Now N w = some w.now := by unfold M.warden_Warden_Now; rw [csD, copyS N (by omega) _ hw.now]; rfl
  have htl : M.warden_Warden_Tail N w = some w.tail := by unfold M.warden_Warden_Tail; rw [csD, copyS N (by omega) _ hw.tail]; rfl
  rw [haw, wD w, show M.warden_Warden_Acked N w = some w.done from rfl, show M.warden_Warden_Pending N w = some (w.queue.length : Int) from rfl, hn, htl, hq, hp.done, hd]
  simp only [Option.bind_some, cond_true, beq_self_eq_true, List.length_nil, csD, told_eq, rsD, ht]
  rw [show (((0 : Nat) : Int) == 0) = true from rfl]
  simp only [cond_true, Option.bind_some, sameS_refl N (by omega) w.now hw.now]
end
section
variable (N : Nat) (hN : 1000 ≤ N)
include hN
theorem served_k7 (rec4 : (List Int) → (List Int) → Int → Int → Int → (List Bool) → (List T_api_Map) → (List Int) → Int → Int → (List Bool) → (List T_api_Map) → (List Int) → (List T_api_Cmd) → Int → Int → Int → (List Bool) → Int → Bool → (List T_api_Mail) → (List T_api_Mail) → Int → Option (Bool)) (o t : List Int) (n k : Int) (w : T_warden_Warden) (l : List T_api_Mail) (hw : WOk w 0) (x : T_api_Mail) (rest : List T_api_Mail) (ts : Int) :
    (let w' := proc w x ts
     M.law19_WardenServed_k7 N rec4 o t n k (l, w) x rest ts = rec4 o t n w'.now.Pool w'.now.Nodes w'.now.Members w'.now.Maps w'.now.Modes w'.tail.Pool w'.tail.Nodes w'.tail.Members w'.tail.Maps w'.tail.Modes w'.queue w'.done w'.epoch w'.step_ w'.wait w'.mark_ w'.ready w'.out rest (IntKind.i64.wrap (k + 1))) ∧ WOk (proc w x ts) 10 := by
  have up : ∀ {v : T_warden_Warden} {B : Nat}, WOk v B → B ≤ 10 → WOk v 10 := fun h hB => ⟨h.now, h.tail, h.wait, Nat.le_trans h.out hB, h.queue, h.busy⟩
  simp only
  unfold M.law19_WardenServed_k7 proc
  have hdc : IntKind.i64.wrap (Int.tdiv (IntKind.i64.wrap (x.To - 1)) 5) = dcOf x.To := rfl
  simp only [wD, hdc]
  by_cases k22 : x.Msg.Kind = 22
  · rw [if_pos k22, show (x.Msg.Kind == 22) = true from by rw [k22]; rfl]
    obtain ⟨h1, h2⟩ := takeP_eq N hN hw (by omega) (dcOf x.To) (msgK 24 x.Msg.Id 0)
    rw [show M.warden_Warden_Take N w (dcOf x.To) (T_api_Msg.mk 24 x.Msg.Id 0 0 ByteArray.empty ByteArray.empty ([] : List T_api_Ver) ([] : List Int) (T_api_Cmd.mk 0 0 0 0 0 ByteArray.empty)) = _ from h1]
    exact ⟨rfl, up h2 (by omega)⟩
  · rw [if_neg k22, beq_eq_false_iff_ne.2 k22]
    by_cases k21 : x.Msg.Kind = 21
    · rw [if_pos k21, show (x.Msg.Kind == 21) = true from by rw [k21]; rfl]
      obtain ⟨h1, h2⟩ := takeP_eq N hN hw (by omega) (dcOf x.To) (msgK 23 x.Msg.Id ts)
      obtain ⟨h3, h4⟩ := takeP_eq N hN h2 (by omega) (dcOf x.To) (msgK 25 x.Msg.Id 0)
      rw [show M.warden_Warden_Take N w (dcOf x.To) (T_api_Msg.mk 23 x.Msg.Id 0 ts ByteArray.empty ByteArray.empty ([] : List T_api_Ver) ([] : List Int) (T_api_Cmd.mk 0 0 0 0 0 ByteArray.empty)) = _ from h1]
      have hb : (bif (x.Msg.Cmd.Kind == 2) then (bif (x.Msg.N == 1) then (some (x.Msg.Cmd.DC == dcOf x.To)) else (some false)) else (some false)) = some (decide (isRem x)) := by
        by_cases b1 : x.Msg.Cmd.Kind = 2
        · by_cases b2 : x.Msg.N = 1
          · by_cases b3 : x.Msg.Cmd.DC = dcOf x.To
            · rw [decide_eq_true (show isRem x from ⟨b1, b2, b3⟩), b1, b2, b3]; simp
            · rw [decide_eq_false (fun e : isRem x => b3 e.2.2), b1, b2, beq_eq_false_iff_ne.2 b3]; rfl
          · rw [decide_eq_false (fun e : isRem x => b2 e.2.1), b1, beq_eq_false_iff_ne.2 b2]; rfl
        · rw [decide_eq_false (fun e : isRem x => b1 e.1), beq_eq_false_iff_ne.2 b1]; rfl
      simp only [cond_false, cond_true, Option.bind_some, hb]
      by_cases hr : isRem x
      · rw [decide_eq_true hr, if_pos hr]
        simp only [cond_true]
        rw [show M.warden_Warden_Take N (takeP w (dcOf x.To) (msgK 23 x.Msg.Id ts)) (dcOf x.To) (T_api_Msg.mk 25 x.Msg.Id 0 0 ByteArray.empty ByteArray.empty ([] : List T_api_Ver) ([] : List Int) (T_api_Cmd.mk 0 0 0 0 0 ByteArray.empty)) = _ from h3]
        exact ⟨rfl, up h4 (by omega)⟩
      · rw [decide_eq_false hr, if_neg hr]
        exact ⟨rfl, up h2 (by omega)⟩
    · rw [if_neg k21, beq_eq_false_iff_ne.2 k21]
      exact ⟨rfl, up hw (by omega)⟩
theorem proc_inv {pool nodes : Int} {taken : List T_api_Cmd} {d : Nat} {w : T_warden_Warden} (h : PInv pool nodes taken d w) (hw : WOk w 0) (hl : taken.length ≤ 150) (x : T_api_Mail) (ts : Int) : ∃ d', PInv pool nodes taken d' (proc w x ts) := by
  unfold proc
  split
  · exact takeP_inv N hN h hw (by omega) hl _ _
  · split
    · split
      · obtain ⟨d1, h1⟩ := takeP_inv N hN h hw (by omega) hl (dcOf x.To) (msgK 23 x.Msg.Id ts)
        exact takeP_inv N hN h1 (takeP_eq N hN hw (by omega) (dcOf x.To) (msgK 23 x.Msg.Id ts)).2 (by omega) hl _ _
      · exact takeP_inv N hN h hw (by omega) hl _ _
    · exact ⟨d, h⟩
end
section
variable (N : Nat) (hN : 1000 ≤ N) (haw : M.law19_awake N = some true)
include hN haw
theorem served_L4 (o t : List Int) (pool nodes : Int) (taken : List T_api_Cmd) (htl : taken.length ≤ 50) : ∀ (fuel k : Nat) (w : T_warden_Warden) (row : List T_api_Mail) (d E : Nat), 200 - k < fuel → k ≤ 200 → E ≤ k + 1 → PInv pool nodes taken d w → WOk w 200 → Live w E (row ++ w.out) → (row ++ w.out).length + mu w ≤ 200 - k →
    M.law19_WardenServed_L4 N fuel o t ((taken.length : Nat) : Int) w.now.Pool w.now.Nodes w.now.Members w.now.Maps w.now.Modes w.tail.Pool w.tail.Nodes w.tail.Members w.tail.Maps w.tail.Modes w.queue w.done w.epoch w.step_ w.wait w.mark_ w.ready w.out row (k : Int) = some true := by
  intro fuel
  induction fuel with
  | zero => intro k w row d E h; omega
  | succ fuel ih =>
    intro k w row d E hf hk hE hp hw hL hphi
    have hsum : (row ++ w.out).length = row.length + w.out.length := List.length_append
    simp only [M.law19_WardenServed_L4]
    by_cases hlt : k < 200
    · rw [decide_eq_true (by omega : (k : Int) < 200), wD w, show M.warden_Warden_Out N w = some (w.out, { w with out := [] }) from rfl]
      simp only [cond_true, Option.bind_some]
      rw [apd_ok (by omega)]
      simp only [Option.bind_some]
      have hw0 : WOk { w with out := [] } 0 := ⟨hw.now, hw.tail, hw.wait, Nat.le_refl _, hw.queue, hw.busy⟩
      by_cases h0 : (row ++ w.out).length = 0
      · have hnil : row ++ w.out = [] := List.eq_nil_of_length_eq_zero h0
        rw [h0, show (((0 : Nat) : Int) == 0) = true from rfl]
        simp only [cond_true]
        exact served_k3 (w := { w with out := [] }) N hN haw (hp.out []) hw0 (by rw [hnil] at hL; exact hL.out [])
      · rw [beq_eq_false_iff_ne.2 (by omega : ¬ (((row ++ w.out).length : Nat) : Int) = 0)]
        simp only [cond_false]
        have k6 : ∀ at_ : Nat, at_ < (row ++ w.out).length → M.law19_WardenServed_k6 N (M.law19_WardenServed_L4 N fuel) o t ((taken.length : Nat) : Int) (k : Int) (w.out, { w with out := [] }) (row ++ w.out) (at_ : Int) = some true := fun at_ hat => by
          unfold M.law19_WardenServed_k6
          have e1 := slc_ok (l := row ++ w.out) (lo := 0) (hi := at_) (by omega) (by omega)
          rw [show ((0 : Nat) : Int) = 0 from rfl] at e1
          have e2 := slc_ok (l := row ++ w.out) (lo := at_ + 1) (hi := (row ++ w.out).length) (by omega) (Nat.le_refl _)
          rw [idx_get hat, wrap_succ (by omega), e1, e2]
          simp only [Option.bind_some, List.drop_zero, List.take_length]
          rw [apd_ok (l := ([] : List T_api_Mail)) (by simp only [List.length_nil, List.length_take]; omega)]
          simp only [Option.bind_some, List.nil_append]
          rw [apd_ok (by simp only [List.length_take, List.length_drop]; omega)]
          simp only [Option.bind_some]
          have hmem : ∀ x, x ∈ (row ++ w.out)[at_] :: (List.take at_ (row ++ w.out) ++ List.drop (at_ + 1) (row ++ w.out)) ↔ x ∈ row ++ w.out := fun x => by
            have e : row ++ w.out = List.take at_ (row ++ w.out) ++ (row ++ w.out)[at_] :: List.drop (at_ + 1) (row ++ w.out) := by rw [← List.drop_eq_getElem_cons hat, List.take_append_drop]
            conv => rhs; rw [e]
            simp only [List.mem_cons, List.mem_append]
            constructor
            · rintro (h | h | h)
              · exact .inr (.inl h)
              · exact .inl h
              · exact .inr (.inr h)
            · rintro (h | h | h)
              · exact .inr (.inl h)
              · exact .inl h
              · exact .inr (.inr h)
          have hlen : (List.take at_ (row ++ w.out) ++ List.drop (at_ + 1) (row ++ w.out)).length + 1 = (row ++ w.out).length := by
            simp only [List.length_append, List.length_take, List.length_drop] at hat ⊢; omega
          have hL0 : Live { w with out := [] } E ((row ++ w.out)[at_] :: (List.take at_ (row ++ w.out) ++ List.drop (at_ + 1) (row ++ w.out))) := (hL.mem hmem).out []
          have k7 : ∀ ts : Int, M.law19_WardenServed_k7 N (M.law19_WardenServed_L4 N fuel) o t ((taken.length : Nat) : Int) (k : Int) (w.out, { w with out := [] }) (row ++ w.out)[at_] (List.take at_ (row ++ w.out) ++ List.drop (at_ + 1) (row ++ w.out)) ts = some true := fun ts => by
            obtain ⟨h1, h2⟩ := served_k7 N hN (M.law19_WardenServed_L4 N fuel) o t ((taken.length : Nat) : Int) (k : Int) { w with out := [] } w.out hw0 (row ++ w.out)[at_] (List.take at_ (row ++ w.out) ++ List.drop (at_ + 1) (row ++ w.out)) ts
            refine h1.trans ?_
            obtain ⟨E', hE', hL', hphi'⟩ := proc_live (hp.out []) hw0 (by omega : E < 900) hL0 ts
            obtain ⟨d', hp'⟩ := proc_inv N hN (hp.out []) hw0 (by omega) (row ++ w.out)[at_] ts
            rw [wrap_succ (by omega)]
            have hmu0 : mu { w with out := [] } = mu w := rfl
            exact ih (k + 1) _ _ d' E' (by omega) (by omega) (by omega) hp' ⟨h2.now, h2.tail, h2.wait, Nat.le_trans h2.out (by omega), h2.queue, h2.busy⟩ hL' (by omega)
          by_cases ht : k < t.length
          · rw [decide_eq_true (by omega : (k : Int) < ((t.length : Nat) : Int)), idx_get ht]
            simp only [cond_true, Option.bind_some]
            exact k7 _
          · rw [decide_eq_false (by omega : ¬ (k : Int) < ((t.length : Nat) : Int))]
            exact k7 _
        by_cases hol : k < o.length
        · rw [decide_eq_true (by omega : (k : Int) < ((o.length : Nat) : Int)), idx_get hol]
          simp only [cond_true, Option.bind_some]
          have hlu : IntKind.u64.wrap (((row ++ w.out).length : Nat) : Int) = (((row ++ w.out).length : Nat) : Int) := u64_small _ (by omega) (by omega)
          rw [hlu]
          have hpos : 0 ≤ IntKind.u64.wrap o[k] := by rw [IntKind.wrap_u64]; exact Int.emod_nonneg _ (by decide)
          unfold remV
          rw [if_neg (by omega)]
          simp only [Option.bind_some]
          have hb1 : 0 ≤ Int.tmod (IntKind.u64.wrap o[k]) (((row ++ w.out).length : Nat) : Int) := Int.tmod_nonneg _ hpos
          have hb2 : Int.tmod (IntKind.u64.wrap o[k]) (((row ++ w.out).length : Nat) : Int) < (((row ++ w.out).length : Nat) : Int) := Int.tmod_lt_of_pos _ (by omega)
          rw [wrap_small (by omega) (by omega)]
          have := k6 (Int.tmod (IntKind.u64.wrap o[k]) (((row ++ w.out).length : Nat) : Int)).toNat (by omega)
          rwa [Int.toNat_of_nonneg hb1] at this
        · rw [decide_eq_false (by omega : ¬ (k : Int) < ((o.length : Nat) : Int))]
          exact k6 0 (by omega)
    · have hnil : row ++ w.out = [] := List.eq_nil_of_length_eq_zero (by omega)
      rw [decide_eq_false (by omega : ¬ (k : Int) < 200)]
      simp only [cond_false]
      exact served_k3 N hN haw hp hw (by rw [hnil] at hL; exact hL)
end
/-- while commands are asked for -/
structure Asked (w : T_warden_Warden) : Prop where
  or : (w.step_ = 0 ∧ w.out = [] ∧ w.wait = none4 ∧ w.epoch = 0) ∨ (w.step_ = 1 ∧ w.out.length ≤ 4 ∧ Live w 1 w.out)
theorem Asked.ask {pool nodes : Int} {taken : List T_api_Cmd} {w : T_warden_Warden} (h : Asked w) (hp : PInv pool nodes taken 0 w) (hw : WOk w 4) (c : T_api_Cmd) :
    (askP w c = (0, (askP w c).2.1, w) ∧ (askP w c).2.1 ≠ 0 ∨ (askP w c).2.1 = 0 ∧ Asked (askP w c).2.2 ∧ (askP w c).2.2.queue = w.queue ++ [plainC c]) := by
  unfold askP
  by_cases h8 : w.queue.length ≥ 8
  · rw [if_pos h8]; exact .inl ⟨rfl, by simp⟩
  · rw [if_neg h8]
    by_cases he : (applyR w.tail c).2 = 0
    · rw [if_neg (by simp [he])]
      refine .inr ⟨rfl, ⟨?_⟩, ?_⟩
      · rcases h.or with ⟨hs, ho, hwt, hep⟩ | ⟨hs, ho, hL⟩
        · have hq0 := hp.s0 hs
          have hnow : w.tail = w.now := by rw [hp.tail, hq0]; rfl
          rw [startP_cons (w := { w with tail := (applyR w.tail c).1, queue := w.queue ++ [plainC c] }) (c := plainC c) (q := []) hs (by show w.queue ++ [plainC c] = _; rw [hq0]; rfl)]
          refine .inr ⟨rfl, ?_, ?_⟩
          · have h1 : (sendP { w with tail := (applyR w.tail c).1, queue := w.queue ++ [plainC c], step_ := 1, ready := false } (plainC c)).out.length ≤ w.out.length + 4 := send_len _ _
            have h0 : w.out.length = 0 := by rw [ho]; rfl
            exact Nat.le_trans h1 (by omega)
          · have := live_send (w := { w with tail := (applyR w.tail c).1, queue := w.queue ++ [plainC c] }) (E := 0) (by omega) hep (R := []) (by show ∀ x ∈ [] ++ w.out, _; rw [ho]; intro x hx; cases hx) hwt (c := plainC c) (q := []) (by show w.queue ++ [plainC c] = _; rw [hq0]; rfl) (by rw [apply_plain, ← hnow]; exact he) 1 false (.inl ⟨rfl, rfl⟩)
            exact this
        · rw [startP_busy (w := { w with tail := (applyR w.tail c).1, queue := w.queue ++ [plainC c] }) (by show w.step_ ≠ 0; omega)]
          refine .inr ⟨hs, ho, ?_⟩
          obtain ⟨x, y, hxy⟩ : ∃ x y, w.queue = x :: y := by
            cases hqq : w.queue with
            | nil => exact absurd hqq (hw.busy (by omega))
            | cons x y => exact ⟨x, y, rfl⟩
          have head : ∀ c' q', w.queue ++ [plainC c] = c' :: q' → w.queue = c' :: y := fun c' q' e => by
            rw [hxy] at e ⊢
            simp only [List.cons_append, List.cons.injEq] at e
            rw [e.1]
          exact ⟨hL.ep, hL.ids, fun z hz hk hid _ c' q' e => hL.cur z hz hk hid hs c' y (head c' q' e), hL.wt, fun e => absurd (show w.step_ = 2 from e) (by omega), fun _ c' q' e => hL.rem hs c' y (head c' q' e), fun _ c' q' e => hL.r1 hs c' y (head c' q' e), hL.w0⟩
      · unfold startP
        split
        · split
          · rfl
          · rfl
        · rfl
    · rw [if_pos he]; exact .inl ⟨rfl, he⟩
section
variable (N : Nat) (hN : 1000 ≤ N) (haw : M.law19_awake N = some true)
include hN haw
theorem served_L1 (l : List T_api_Cmd) (o t : List Int) (pool nodes : Int) : ∀ (fuel i : Nat) (w : T_warden_Warden) (taken : List T_api_Cmd), 40 - i < fuel → i ≤ 40 → PInv pool nodes taken 0 w → WOk w 4 → Asked w →
    M.law19_WardenServed_L1 N fuel l o t w.now.Pool w.now.Nodes w.now.Members w.now.Maps w.now.Modes w.tail.Pool w.tail.Nodes w.tail.Members w.tail.Maps w.tail.Modes w.queue w.done w.epoch w.step_ w.wait w.mark_ w.ready w.out ((taken.length : Nat) : Int) (i : Int) = some true := by
  intro fuel
  induction fuel with
  | zero => intro i w taken h; omega
  | succ fuel ih =>
    intro i w taken hf hi hp hw ha
    have hql : w.queue.length = taken.length := by rw [hp.queue]; simp
    have hq8 := hw.queue
    simp only [M.law19_WardenServed_L1]
    by_cases hlt : i < l.length ∧ i < 40
    · rw [decide_eq_true (by omega : (i : Int) < ((l.length : Nat) : Int)), decide_eq_true (by omega : (i : Int) < 40), idx_get hlt.1, wD w]
      simp only [cond_true, Option.bind_some, cmdD]
      obtain ⟨h1, h2⟩ := ask_eq N (by omega) w l[i] 4 (by omega) hw
      obtain ⟨taken', -, r2, -⟩ := rask_eq N hN hp hw (by omega) (by omega) l[i]
      rw [h1]
      simp only [Option.bind_some, M.law19_WardenServed_k2]
      rcases ha.ask hp hw l[i] with ⟨e1, e2⟩ | ⟨e1, e2, e3⟩
      · rw [beq_eq_false_iff_ne.2 e2]
        simp only [cond_false]
        rw [wrap_succ (by omega)]
        have e0 : (askP w l[i]).2.2 = w := by rw [e1]
        rw [e0]
        exact ih (i + 1) w taken (by omega) (by omega) hp hw ha
      · rw [e1, show ((0 : Int) == 0) = true from rfl]
        simp only [cond_true]
        have hl' : taken'.length = taken.length + 1 := by
          have a := congrArg List.length r2.queue
          rw [e3] at a
          simp at a; omega
        rw [wrap_succ (by omega), wrap_succ (by omega), ← hl']
        have hout : (askP w l[i]).2.2.out.length ≤ 4 := by
          rcases e2.or with h | h
          · rw [h.2.1]; simp
          · exact h.2.1
        exact ih (i + 1) (askP w l[i]).2.2 taken' (by omega) (by omega) r2 ⟨h2.now, h2.tail, h2.wait, hout, h2.queue, h2.busy⟩ e2
    · have hb : (bif decide ((i : Int) < ((l.length : Nat) : Int)) then (some (decide ((i : Int) < 40))) else (some false)) = some false := by
        by_cases h1 : i < l.length
        · rw [decide_eq_false (by omega : ¬ (i : Int) < 40)]; cases decide ((i : Int) < ((l.length : Nat) : Int)) <;> rfl
        · rw [decide_eq_false (by omega : ¬ (i : Int) < ((l.length : Nat) : Int))]; rfl
      rw [hb]
      simp only [Option.bind_some, cond_false]
      have hw2 : WOk w 200 := ⟨hw.now, hw.tail, hw.wait, Nat.le_trans hw.out (by omega), hw.queue, hw.busy⟩
      have hlive : ∃ E, E ≤ 1 ∧ Live w E ([] ++ w.out) ∧ mu w ≤ 68 := by
        rcases ha.or with ⟨hs, hout, hwt, hep⟩ | ⟨hs, hout, hL⟩
        · refine ⟨0, by omega, ⟨hep, fun x hx => ?_, fun x hx => ?_, fun e => ?_, fun e => ?_, fun e => ?_, fun e => ?_, fun _ => hwt⟩, by unfold mu; rw [if_pos hs]; omega⟩
          · rw [hout] at hx; cases hx
          · rw [hout] at hx; cases hx
          · omega
          · omega
          · omega
          · omega
        · refine ⟨1, by omega, hL, ?_⟩
          unfold mu
          rw [if_neg (by omega), if_pos hs]
          omega
      obtain ⟨E, hE, hL, hmu⟩ := hlive
      have hphi : ([] ++ w.out).length + mu w ≤ 200 - 0 := by have := hw.out; simp only [List.nil_append]; omega
      exact served_L4 N hN haw o t pool nodes taken (by omega) N 0 w [] 0 E (by omega) (by omega) (by omega) hp hw2 hL hphi
end
theorem pServedN (N : Nat) (hN : 1000 ≤ N) (haw : M.law19_awake N = some true) (a b c : Int) (hst : M.config_Start N a b c = some (startR a b c)) (l : List T_api_Cmd) (o t : List Int) : M.law19_WardenServed N a b c l o t = some true := by
  unfold M.law19_WardenServed
  rw [hst]
  unfold startR
  by_cases hbad : startBad a b c
  · rw [if_pos hbad]
    simp [haw]
  · rw [if_neg hbad]
    have hv := start_valid hbad
    simp only [Option.bind_some, bne_self_eq_false, cond_false, csD, new_eq N (by omega) _ hv.ok]
    exact served_L1 N hN haw l o t _ _ N 0 (newP _) [] (by omega) (by omega) ⟨Nat.le_refl _, rfl, rfl, rfl, trivial, hv, .inl rfl, fun _ => rfl, fun e => by rcases e with e | e <;> exact absurd e (by show ¬ (0 : Int) = _; decide), fun e => absurd e (by show ¬ (0 : Int) = _; decide), fun e => absurd e (by show ¬ (0 : Int) = _; decide)⟩ ⟨hv.ok, hv.ok, rfl, Nat.zero_le _, by simp [newP], fun h => absurd rfl h⟩ ⟨.inl ⟨rfl, rfl, rfl, rfl⟩⟩
theorem pWardenServed (a b c : Int) (l : List T_api_Cmd) (o t : List Int) : M.law19_WardenServed 1000 a b c l o t = some true := pServedN 1000 (Nat.le_refl _) awake19w a b c (start_eq a b c) l o t
end Go.Cf
