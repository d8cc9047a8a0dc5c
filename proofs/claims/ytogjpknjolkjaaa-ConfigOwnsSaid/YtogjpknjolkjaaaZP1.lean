/- Plain facts on maps: keys are found, shards have ends, a map is right. -/
import Derived.Laws.BitsLemmas
import Derived.Test.YtogjpknjolkjaaaZM1
import Derived.Test.YtogjpknjolkjaaaZK2
namespace Go.Cf
open Go
theorem idx_get {α : Type} {l : List α} {i : Nat} (h : i < l.length) : idx l (i : Int) = some l[i] := by
  simp [idx, h]
theorem idx_getD {α : Type} {l : List α} {i : Nat} (d : α) (h : i < l.length) : idx l (i : Int) = some (l.getD i d) := by
  rw [idx_get h]; simp [h]
theorem wrap_small {x : Int} (h0 : -9223372036854775808 ≤ x) (h1 : x < 9223372036854775808) : IntKind.i64.wrap x = x := by
  rw [IntKind.wrap_i64]; omega
theorem wrap_succ {i : Nat} (h : i < 4611686018427387904) : IntKind.i64.wrap ((i : Int) + 1) = ((i + 1 : Nat) : Int) := by rw [wrap_small] <;> omega
theorem wrap_pred {i : Nat} (h : i < 4611686018427387904) : IntKind.i64.wrap (((i + 1 : Nat) : Int) - 1) = (i : Int) := by rw [wrap_small] <;> omega
abbrev small (n : Nat) : Prop := n ≤ 1000000
abbrev nil : ByteArray := ByteArray.mk #[]
theorem nil_toList : nil.toList = [] := by kernel_rfl
theorem bl_trans : ∀ a b c : List UInt8, Op.bytesLess a b = true → Op.bytesLess b c = true → Op.bytesLess a c = true := fun a => by
  induction a with
  | nil => intro b c h1 h2; cases b <;> cases c <;> simp_all [Op.bytesLess]
  | cons x a ih =>
    intro b c h1 h2
    cases b with
    | nil => simp [Op.bytesLess] at h1
    | cons y b =>
      cases c with
      | nil => simp [Op.bytesLess] at h2
      | cons z c =>
        simp only [Op.bytesLess, Bool.or_eq_true, decide_eq_true_eq, Bool.and_eq_true, beq_iff_eq] at h1 h2 ⊢
        rcases h1 with h1 | ⟨rfl, h1⟩
        · rcases h2 with h2 | ⟨rfl, h2⟩
          · exact .inl (UInt8.lt_trans h1 h2)
          · exact .inl h1
        · rcases h2 with h2 | ⟨rfl, h2⟩
          · exact .inl h2
          · exact .inr ⟨rfl, ih _ _ h1 h2⟩
theorem sLt_trans {a b c : ByteArray} (h1 : sLt a b = true) (h2 : sLt b c = true) : sLt a c = true := bl_trans _ _ _ h1 h2
theorem sEq_refl (a : ByteArray) : sEq a a = true := by simp [sEq]
theorem sEq_iff {a b : ByteArray} : sEq a b = true ↔ a.toList = b.toList := by simp [sEq]
theorem sLt_congr' {a b c : ByteArray} (h : sEq a b = true) : sLt c a = sLt c b := by unfold sLt; rw [sEq_iff.1 h]
theorem sLt_nil (a : ByteArray) : sLt a nil = false := by unfold sLt; rw [nil_toList]; exact bl_nil _
theorem sLe_iff (a b : ByteArray) : (sLt a b || sEq a b) = !sLt b a := by rw [sLt_not b a]; 
def le (key c : ByteArray) : Bool := !sLt key c
def fnd (x : T_api_Map) (key : ByteArray) : Nat := x.Cuts.countP (le key)
theorem drop_cons {α : Type} {l : List α} {i : Nat} (h : i < l.length) : l.drop i = l[i] :: l.drop (i + 1) := List.drop_eq_getElem_cons h
def own (x : T_api_Map) (key : ByteArray) : Int := if fnd x key < x.Nodes.length then x.Nodes.getD (fnd x key) 0 else -1
def wthn (key lo hi : ByteArray) : Bool := !sLt key lo && (sEq hi nil || sLt key hi)
theorem within_eq (N : Nat) (key lo hi : ByteArray) : M.span_Within N key lo hi = some (wthn key lo hi) ∧ M.ref08_Within N key lo hi = some (wthn key lo hi) := by
  unfold M.span_Within M.ref08_Within wthn
  cases sLt key lo <;> cases sEq hi (ByteArray.mk #[]) <;> simp
/-- is it of the form? -/
def form (x : T_api_Map) : Prop := x.Nodes.length = x.Cuts.length + 1
instance (x : T_api_Map) : Decidable (form x) := inferInstanceAs (Decidable (_ = _))
def lo (x : T_api_Map) : Nat → ByteArray
  | 0 => nil
  | i + 1 => x.Cuts.getD i nil
def hi (x : T_api_Map) (i : Nat) : ByteArray := x.Cuts.getD i nil
def shd (x : T_api_Map) (i : Nat) : T_span_Shard := ⟨lo x i, hi x i, x.Nodes.getD i 0⟩
theorem form_dec (x : T_api_Map) (hs : x.Cuts.length ≤ 1000000) : (((x.Nodes).length : Int) != IntKind.i64.wrap (((x.Cuts).length : Int) + 1)) = !decide (form x) := by
  rw [wrap_succ (by omega)]
  by_cases h : form x
  · have h' : x.Nodes.length = x.Cuts.length + 1 := h
    rw [decide_eq_true h, h']; simp
  · have h' : x.Nodes.length ≠ x.Cuts.length + 1 := h
    rw [decide_eq_false h]
    simp only [Bool.not_false, bne_iff_ne, ne_eq]
    omega
theorem ends_in (N : Nat) (x : T_api_Map) (hs : x.Cuts.length ≤ 1000000) (hf : form x) (i : Nat) (hi' : i < x.Nodes.length) : M.ref08_Ends N x (i : Int) = some (lo x i, hi x i, true) := by
  have hf0 := hf
  unfold form at hf0
  unfold M.ref08_Ends M.ref08_Ends_k1 M.ref08_Ends_k2
  rw [form_dec x hs, decide_eq_true hf]
  have h1 : decide ((i : Int) < 0) = false := decide_eq_false (by omega)
  have h2 : decide ((i : Int) ≥ (x.Nodes.length : Int)) = false := decide_eq_false (by omega)
  simp only [Bool.not_true, cond_false, h1, h2, Option.bind_some]
  have hhi : (bif decide ((i : Int) < (x.Cuts.length : Int)) then (Option.bind (idx x.Cuts (i : Int)) fun x19 => some (lo x i, x19, true)) else some (lo x i, ByteArray.mk #[], true)) = some (lo x i, hi x i, true) := by
    unfold hi
    by_cases h : i < x.Cuts.length
    · rw [decide_eq_true (by omega : (i : Int) < (x.Cuts.length : Int)), idx_getD nil h]; rfl
    · rw [decide_eq_false (by omega : ¬ (i : Int) < (x.Cuts.length : Int))]
      simp only [cond_false]
      rw [List.getD_eq_getElem?_getD, List.getElem?_eq_none (by omega)]; rfl
  cases i with
  | zero => 
    have h3 : decide (((0 : Nat) : Int) > 0) = false := rfl
    rw [h3]
    exact hhi
  | succ j =>
    have h3 : decide (((j + 1 : Nat) : Int) > 0) = true := decide_eq_true (by omega)
    rw [h3, wrap_pred (by omega), idx_getD nil (show j < x.Cuts.length from by omega)]
    exact hhi
theorem ends_out (N : Nat) (x : T_api_Map) (hs : x.Cuts.length ≤ 1000000) (i : Int) (h : ¬ (form x ∧ 0 ≤ i ∧ i < x.Nodes.length)) : M.ref08_Ends N x i = some (nil, nil, false) := by
  unfold M.ref08_Ends
  rw [form_dec x hs]
  have hv : (bif (!decide (form x)) then (some true) else (bif decide (i < 0) then (some true) else (some (decide (i ≥ (x.Nodes.length : Int)))))) = some true := by
    by_cases hf : form x
    · rw [decide_eq_true hf]
      by_cases h0 : i < 0
      · rw [decide_eq_true h0]; rfl
      · rw [decide_eq_false h0, decide_eq_true (show i ≥ (x.Nodes.length : Int) from Int.not_lt.1 fun h' => h ⟨hf, by omega, h'⟩)]; rfl
    · rw [decide_eq_false hf]; rfl
  rw [hv]
  rfl
/-- a round of the walk through the shards -/
theorem shards_step (N : Nat) {σ : Type} (B : σ → Int → T_span_Shard → Option (σ × Bool)) (x : T_api_Map) (hs : x.Cuts.length ≤ 1000000) (hf : form x) (fuel i : Nat) (y : σ) (hi' : i < x.Nodes.length) :
    M.span_Shards_1_L1 N B (fuel + 1) x (i : Int) y = (B y i (shd x i)).bind fun r => bif (!r.2) then some r.1 else M.span_Shards_1_L1 N B fuel x ((i + 1 : Nat) : Int) r.1 := by
  have hf0 := hf
  unfold form at hf0
  simp only [M.span_Shards_1_L1, M.span_Shards_1_k2, M.span_Shards_1_k3]
  have h2 : decide ((i : Int) < (x.Nodes.length : Int)) = true := decide_eq_true (by omega)
  rw [h2, idx_getD 0 hi', wrap_succ (by omega)]
  simp only [cond_true, Option.bind_some]
  have hhi : ∀ l, (bif decide ((i : Int) < (x.Cuts.length : Int)) then (Option.bind (idx x.Cuts (i : Int)) fun x80 => (Option.bind (B y i (T_span_Shard.mk l x80 (x.Nodes.getD i 0))) fun y77 => (bif (!y77.2) then (some y77.1) else (M.span_Shards_1_L1 N B fuel x ((i + 1 : Nat) : Int) y77.1)))) else (Option.bind (B y i (T_span_Shard.mk l ByteArray.empty (x.Nodes.getD i 0))) fun y77 => (bif (!y77.2) then (some y77.1) else (M.span_Shards_1_L1 N B fuel x ((i + 1 : Nat) : Int) y77.1)))) =
      (B y i (T_span_Shard.mk l (hi x i) (x.Nodes.getD i 0))).bind fun r => bif (!r.2) then some r.1 else M.span_Shards_1_L1 N B fuel x ((i + 1 : Nat) : Int) r.1 := fun l => by
    unfold hi
    by_cases h : i < x.Cuts.length
    · rw [decide_eq_true (by omega : (i : Int) < (x.Cuts.length : Int)), idx_getD nil h]; rfl
    · rw [decide_eq_false (by omega : ¬ (i : Int) < (x.Cuts.length : Int))]
      simp only [cond_false]
      rw [show x.Cuts.getD i nil = nil from by rw [List.getD_eq_getElem?_getD, List.getElem?_eq_none (by omega)]; rfl]; rfl
  cases i with
  | zero =>
    have h3 : decide (((0 : Nat) : Int) > 0) = false := rfl
    rw [h3]
    exact hhi nil
  | succ j =>
    have h3 : decide (((j + 1 : Nat) : Int) > 0) = true := decide_eq_true (by omega)
    rw [h3, wrap_pred (by omega), idx_getD nil (show j < x.Cuts.length from by omega)]
    exact hhi _
theorem shards_end (N : Nat) {σ : Type} (B : σ → Int → T_span_Shard → Option (σ × Bool)) (x : T_api_Map) (fuel i : Nat) (y : σ) (hi' : x.Nodes.length ≤ i) : M.span_Shards_1_L1 N B (fuel + 1) x (i : Int) y = some y := by
  simp only [M.span_Shards_1_L1]
  rw [decide_eq_false (by omega : ¬ (i : Int) < (x.Nodes.length : Int))]
  rfl
theorem shards_eq (N : Nat) {σ : Type} (B : σ → Int → T_span_Shard → Option (σ × Bool)) (x : T_api_Map) (hs : x.Cuts.length ≤ 1000000) (y : σ) : M.span_Shards_1 N B x y = if form x then M.span_Shards_1_L1 N B N x 0 y else some y := by
  unfold M.span_Shards_1
  rw [form_dec x hs]
  by_cases h : form x
  · rw [decide_eq_true h, if_pos h]; rfl
  · rw [decide_eq_false h, if_neg h]; rfl
/-- rounds that all go on -/
theorem shards_all (N : Nat) {σ : Type} (B : σ → Int → T_span_Shard → Option (σ × Bool)) (x : T_api_Map) (hs : x.Cuts.length ≤ 1000000) (hf : form x) (I : Nat → σ) (h : ∀ i, i < x.Nodes.length → B (I i) i (shd x i) = some (I (i + 1), true)) :
    ∀ (fuel i : Nat), x.Nodes.length - i < fuel → i ≤ x.Nodes.length → M.span_Shards_1_L1 N B fuel x (i : Int) (I i) = some (I x.Nodes.length) := by
  intro fuel
  induction fuel with
  | zero => intro i h; omega
  | succ fuel ih =>
    intro i hfu hi
    by_cases hlt : i < x.Nodes.length
    · rw [shards_step N B x hs hf fuel i _ hlt, h i hlt]
      exact ih (i + 1) (by omega) (by omega)
    · have : i = x.Nodes.length := by omega
      subst this
      exact shards_end N B x fuel _ _ (Nat.le_refl _)
def zsh : T_span_Shard := ⟨nil, nil, 0⟩
theorem at_eq (N : Nat) (x : T_api_Map) (hs : x.Cuts.length ≤ 1000000) (hN : x.Nodes.length < N) (i : Int) : M.span_At N x i = some (if form x ∧ 0 ≤ i ∧ i < x.Nodes.length then (shd x i.toNat, true) else (zsh, false)) := by
  unfold M.span_At M.span_Shards
  simp only [Option.bind_some]
  rw [shards_eq N _ ⟨x.Cuts, x.Nodes⟩ hs]
  by_cases hf : form x
  · rw [if_pos (show form ⟨x.Cuts, x.Nodes⟩ from hf)]
    by_cases hin : 0 ≤ i ∧ i < x.Nodes.length
    · rw [if_pos ⟨hf, hin⟩]
      obtain ⟨k, rfl⟩ : ∃ k : Nat, i = k := ⟨i.toNat, by omega⟩
      have hk : k < x.Nodes.length := by omega
      have key : ∀ (fuel j : Nat), x.Nodes.length - j < fuel → j ≤ k → M.span_Shards_1_L1 N (fun (v72 : (Bool × ByteArray × ByteArray × Int × Nat)) x16 (x17 : T_span_Shard) => bif (v72.2.2.2.2 == 0) then (bif (x16 == (k : Int)) then (some (((true, x17.Lo, x17.Hi, x17.Node, 1)), false)) else (some (((v72.1, v72.2.1, v72.2.2.1, v72.2.2.2.1, 0)), true))) else none) fuel x (j : Int) (false, ByteArray.empty, ByteArray.empty, 0, 0) = some (true, lo x k, hi x k, x.Nodes.getD k 0, 1) := by
        intro fuel
        induction fuel with
        | zero => intro j h; omega
        | succ fuel ih =>
          intro j hj hjk
          rw [shards_step N _ x hs hf fuel j _ (by omega)]
          by_cases hjk' : j = k
          · subst hjk'
            simp [shd]
          · have hb : ((j : Int) == (k : Int)) = false := by simp; omega
            simp only [hb, beq_self_eq_true, cond_true, cond_false, Option.bind_some, Bool.not_true]
            exact ih (j + 1) (by omega) (by omega)
      refine (congrArg (fun q => Option.bind q _) (key N 0 (by omega) (by omega))).trans ?_
      simp [shd]
    · rw [if_neg (fun h => hin h.2)]
      have key := shards_all N (fun (v72 : (Bool × ByteArray × ByteArray × Int × Nat)) x16 (x17 : T_span_Shard) => bif (v72.2.2.2.2 == 0) then (bif (x16 == i) then (some (((true, x17.Lo, x17.Hi, x17.Node, 1)), false)) else (some (((v72.1, v72.2.1, v72.2.2.1, v72.2.2.2.1, 0)), true))) else none) x hs hf (fun _ => (false, ByteArray.empty, ByteArray.empty, 0, 0)) (fun j hj => by
        have hb : ((j : Int) == i) = false := by simp; omega
        simp [hb]) N 0 (by omega) (by omega)
      exact (congrArg (fun q => Option.bind q _) key).trans rfl
  · rw [if_neg (show ¬ form ⟨x.Cuts, x.Nodes⟩ from hf), if_neg (fun h => hf h.1)]
    rfl
end Go.Cf
namespace Go.Cf
open Go
def chkNodes (nodes : Int) : List Int → Int
  | [] => 0
  | n :: l => if n < 0 ∨ n ≥ nodes then 7 else chkNodes nodes l
def chkCuts (prev : ByteArray) : List ByteArray → Int → Int
  | [], k => k
  | c :: l, k => if 16 < c.size then 6 else if sLt prev c then chkCuts c l k else 3
def chk (x : T_api_Map) (nodes : Int) : Int := if nodes < 1 ∨ nodes > 4 then 1 else if 8 < x.Nodes.length then 9 else if form x then chkCuts nil x.Cuts (chkNodes nodes x.Nodes) else 3
theorem chk_L2 (N : Nat) (x : T_api_Map) (nodes : Int) : ∀ (fuel i : Nat), x.Nodes.length - i < fuel → x.Nodes.length ≤ 8 → i ≤ x.Nodes.length → M.span_Check_L2 N fuel x nodes (i : Int) = some (chkNodes nodes (x.Nodes.drop i)) ∧ M.ref08_Check_L2 N fuel x nodes (i : Int) = some (chkNodes nodes (x.Nodes.drop i)) := by
  intro fuel
  induction fuel with
  | zero => intro i h; omega
  | succ fuel ih =>
    intro i hf h8 hi
    simp only [M.span_Check_L2, M.ref08_Check_L2]
    by_cases hlt : i < x.Nodes.length
    · have hd : decide ((i : Int) < (x.Nodes.length : Int)) = true := decide_eq_true (by omega)
      simp only [hd, cond_true, idx_get hlt, Option.bind_some, drop_cons hlt, chkNodes]
      rw [wrap_succ (by omega)]
      by_cases h0 : x.Nodes[i] < 0
      · simp [h0]
      · by_cases h1 : x.Nodes[i] ≥ nodes
        · simp [h0, h1]
        · simp only [h0, h1, decide_false, cond_false, Option.bind_some, false_or, if_false]
          exact ih (i + 1) (by omega) h8 (by omega)
    · have hd : decide ((i : Int) < (x.Nodes.length : Int)) = false := decide_eq_false (by omega)
      rw [hd, List.drop_eq_nil_of_le (by omega)]
      exact ⟨rfl, rfl⟩
theorem sLt_nil_left (a : ByteArray) : sLt nil a = !sEq a nil := by
  unfold sLt sEq
  rw [nil_toList]
  cases a.toList <;> simp [Op.bytesLess]
theorem chk_L1 (N : Nat) (hN : 100 ≤ N) (x : T_api_Map) (nodes : Int) : ∀ (fuel i : Nat), x.Cuts.length - i < fuel → x.Cuts.length ≤ 8 → x.Nodes.length ≤ 8 → i ≤ x.Cuts.length → M.span_Check_L1 N fuel x nodes (i : Int) = some (chkCuts (lo x i) (x.Cuts.drop i) (chkNodes nodes x.Nodes)) ∧ M.ref08_Check_L1 N fuel x nodes (lo x i) (i : Int) = some (chkCuts (lo x i) (x.Cuts.drop i) (chkNodes nodes x.Nodes)) := by
  intro fuel
  induction fuel with
  | zero => intro i h; omega
  | succ fuel ih =>
    intro i hf h8 hn8 hi
    simp only [M.span_Check_L1, M.ref08_Check_L1]
    by_cases hlt : i < x.Cuts.length
    · have hd : decide ((i : Int) < (x.Cuts.length : Int)) = true := decide_eq_true (by omega)
      simp only [hd, cond_true, idx_get hlt, Option.bind_some, drop_cons hlt, chkCuts]
      rw [wrap_succ (by omega)]
      have hlo : lo x (i + 1) = x.Cuts[i] := by simp [lo, hlt]
      by_cases hsz : 16 < (x.Cuts[i]).size
      · have : decide (((x.Cuts[i]).size : Int) > 16) = true := decide_eq_true (by omega)
        simp [this, hsz]
      · have hszd : decide (((x.Cuts[i]).size : Int) > 16) = false := decide_eq_false (by omega)
        simp only [hszd, cond_false, if_neg hsz]
        have hc1 : (bif sEq x.Cuts[i] (ByteArray.mk #[]) then some true else bif decide ((i : Int) > 0) then (idx x.Cuts (IntKind.i64.wrap ((i : Int) - 1))).bind fun x86 => some (!sLt x86 x.Cuts[i]) else some false) = some (!sLt (lo x i) x.Cuts[i]) := by
          cases i with
          | zero =>
            have h3 : decide (((0 : Nat) : Int) > 0) = false := rfl
            rw [h3]
            show _ = some (!sLt nil _)
            rw [sLt_nil_left, Bool.not_not]
            cases sEq x.Cuts[0] (ByteArray.mk #[]) <;> rfl
          | succ j =>
            have h3 : decide (((j + 1 : Nat) : Int) > 0) = true := decide_eq_true (by omega)
            have hj : j < x.Cuts.length := by omega
            rw [h3, wrap_pred (by omega), idx_get hj]
            have hgj : lo x (j + 1) = x.Cuts[j] := by simp [lo, hj]
            rw [hgj]
            simp only [cond_true, Option.bind_some]
            cases he : sEq x.Cuts[j + 1] (ByteArray.mk #[]) with
            | false => rfl
            | true =>
              have h1 : sLt x.Cuts[j] x.Cuts[j + 1] = sLt x.Cuts[j] nil := (sLt_congr' he)
              rw [h1, sLt_nil]; rfl
        have hc2 : (sLt x.Cuts[i] (lo x i) || sEq x.Cuts[i] (lo x i)) = !sLt (lo x i) x.Cuts[i] := sLe_iff _ _
        rw [hc1, hc2]
        simp only [Option.bind_some]
        have := ih (i + 1) (by omega) h8 hn8 (by omega)
        rw [hlo] at this
        cases hl : sLt (lo x i) x.Cuts[i] with
        | true => simp only [Bool.not_true, cond_false, if_true]; exact this
        | false => simp
    · have hd : decide ((i : Int) < (x.Cuts.length : Int)) = false := decide_eq_false (by omega)
      rw [hd, List.drop_eq_nil_of_le (by omega)]
      simp only [cond_false, chkCuts]
      have := chk_L2 N x nodes N 0 (by omega) hn8 (by omega)
      simpa using this
theorem chk_eq (N : Nat) (hN : 100 ≤ N) (x : T_api_Map) (nodes : Int) (hx : x.Cuts.length ≤ maxLen) : M.span_Check N x nodes = some (chk x nodes) ∧ M.ref08_Check N x nodes = some (chk x nodes) := by
  unfold M.span_Check M.ref08_Check chk
  have hv : (bif decide (nodes < 1) then (some true) else (some (decide (nodes > 4)))) = some (decide (nodes < 1 ∨ nodes > 4)) := by
    by_cases h : nodes < 1 <;> simp [h]
  rw [hv]
  simp only [Option.bind_some]
  by_cases h1 : nodes < 1 ∨ nodes > 4
  · simp [h1]
  · simp only [decide_eq_false h1, cond_false, if_neg h1]
    by_cases h2 : 8 < x.Nodes.length
    · have : decide (((x.Nodes).length : Int) > 8) = true := decide_eq_true (by omega)
      simp [this, h2]
    · have hd : decide (((x.Nodes).length : Int) > 8) = false := decide_eq_false (by omega)
      simp only [hd, cond_false, if_neg h2]
      have hml : maxLen ≤ 9223372036854775807 := by decide
      by_cases h3 : form x
      · have h3' : x.Nodes.length = x.Cuts.length + 1 := h3
        rw [form_dec x (by omega), decide_eq_true h3, if_pos h3]
        have := chk_L1 N hN x nodes N 0 (by omega) (by omega) (by omega) (by omega)
        simpa [lo] using this
      · have hb : (((x.Nodes).length : Int) != IntKind.i64.wrap (((x.Cuts).length : Int) + 1)) = true := by
          have h3' : x.Nodes.length ≠ x.Cuts.length + 1 := h3
          rw [bne_iff_ne, IntKind.wrap_i64]
          omega
        rw [hb, if_neg h3]
        exact ⟨rfl, rfl⟩
structure Right (x : T_api_Map) (nodes : Int) : Prop where
  lo1 : 1 ≤ nodes
  hi4 : nodes ≤ 4
  most : x.Nodes.length ≤ 8
  form : x.Nodes.length = x.Cuts.length + 1
  size : ∀ i, i < x.Cuts.length → (x.Cuts.getD i nil).size ≤ 16
  asc : ∀ i, i < x.Cuts.length → sLt (lo x i) (x.Cuts.getD i nil) = true
  node : ∀ n ∈ x.Nodes, 0 ≤ n ∧ n < nodes
theorem chkNodes_iff (nodes : Int) : ∀ l : List Int, chkNodes nodes l = 0 ↔ ∀ n ∈ l, 0 ≤ n ∧ n < nodes := fun l => by
  induction l with
  | nil => simp [chkNodes]
  | cons n l ih =>
    simp only [chkNodes, List.mem_cons, forall_eq_or_imp]
    by_cases h : n < 0 ∨ n ≥ nodes
    · rw [if_pos h]
      constructor
      · intro h'; cases h'
      · intro h'; omega
    · rw [if_neg h, ih]
      constructor
      · intro h'; exact ⟨by omega, h'⟩
      · intro h'; exact h'.2
def ascFrom (prev : ByteArray) (l : List ByteArray) : Prop := ∀ i, i < l.length → (l.getD i nil).size ≤ 16 ∧ sLt ((prev :: l).getD i nil) (l.getD i nil) = true
theorem chkCuts_iff (k : Int) : ∀ (l : List ByteArray) (prev : ByteArray), chkCuts prev l k = 0 ↔ ascFrom prev l ∧ k = 0 := fun l => by
  induction l with
  | nil => intro prev; simp [chkCuts, ascFrom]
  | cons c l ih =>
    intro prev
    simp only [chkCuts]
    by_cases h : 16 < c.size
    · rw [if_pos h]
      constructor
      · intro h'; cases h'
      · rintro ⟨h', _⟩
        have := (h' 0 (by simp)).1
        simp at this; omega
    · rw [if_neg h]
      cases hl : sLt prev c with
      | false =>
        simp only [Bool.false_eq_true, if_false]
        constructor
        · intro h'; cases h'
        · rintro ⟨h', _⟩
          have := (h' 0 (by simp)).2
          simp [hl] at this
      | true =>
        simp only [if_true, ih]
        constructor
        · rintro ⟨h1, h2⟩
          refine ⟨fun i hi => ?_, h2⟩
          cases i with
          | zero => exact ⟨by simp; omega, by simpa using hl⟩
          | succ i =>
            have := h1 i (by simpa using hi)
            simpa using this
        · rintro ⟨h1, h2⟩
          refine ⟨fun i hi => ?_, h2⟩
          have := h1 (i + 1) (by simpa using hi)
          simpa using this
theorem lo_eq (x : T_api_Map) (i : Nat) : lo x i = (nil :: x.Cuts).getD i nil := by cases i <;> simp [lo]
theorem chk_iff (x : T_api_Map) (nodes : Int) : chk x nodes = 0 ↔ Right x nodes := by
  unfold chk
  by_cases h1 : nodes < 1 ∨ nodes > 4
  · rw [if_pos h1]
    constructor
    · intro h; cases h
    · intro h; have := h.lo1; have := h.hi4; omega
  · rw [if_neg h1]
    by_cases h2 : 8 < x.Nodes.length
    · rw [if_pos h2]
      constructor
      · intro h; cases h
      · intro h; have := h.most; omega
    · rw [if_neg h2]
      by_cases h3 : form x
      · rw [if_pos h3, chkCuts_iff, chkNodes_iff]
        constructor
        · rintro ⟨ha, hn⟩
          exact ⟨by omega, by omega, by omega, h3, fun i hi => (ha i hi).1, fun i hi => by rw [lo_eq]; exact (ha i hi).2, hn⟩
        · intro h
          exact ⟨fun i hi => ⟨h.size i hi, by have := h.asc i hi; rwa [lo_eq] at this⟩, h.node⟩
      · rw [if_neg h3]
        constructor
        · intro h; cases h
        · intro h; exact absurd h.form h3
def rising (l : List ByteArray) : Prop := ∀ i, i < l.length → sLt ((nil :: l).getD i nil) (l.getD i nil) = true
theorem Right.rising {x : T_api_Map} {nodes : Int} (h : Right x nodes) : rising x.Cuts := fun i hi => by rw [← lo_eq]; exact h.asc i hi
theorem cut_ne_nil {l : List ByteArray} (h : rising l) (j : Nat) (hj : j < l.length) : sEq (l.getD j nil) nil = false := by
  cases he : sEq (l.getD j nil) nil with
  | false => rfl
  | true =>
    have := h j hj
    rw [sLt_congr' he, sLt_nil] at this
    cases this
end Go.Cf
namespace Go.Cf
open Go
theorem apd_ok {α : Type} {l m : List α} (h : l.length + m.length < 2147483648) : apd l m = some (l ++ m) := by simp [apd, h]
theorem slc_ok {α : Type} {l : List α} {lo hi : Nat} (h1 : lo ≤ hi) (h2 : hi ≤ l.length) : slc l (lo : Int) (hi : Int) = some ((l.take hi).drop lo) := by
  unfold slc
  rw [if_pos ⟨by omega, by omega, by omega⟩]
  simp
theorem slc_take {α : Type} {l : List α} {hi : Nat} (h2 : hi ≤ l.length) : slc l 0 (hi : Int) = some (l.take hi) := by
  have := slc_ok (l := l) (lo := 0) (hi := hi) (by omega) h2
  simpa using this
theorem slc_drop {α : Type} {l : List α} {lo : Nat} (h1 : lo ≤ l.length) : slc l (lo : Int) (l.length : Int) = some (l.drop lo) := by
  have := slc_ok (l := l) (lo := lo) (hi := l.length) h1 (Nat.le_refl _)
  simpa using this
def empt : T_api_Map := ⟨[], []⟩
def insAt {α : Type} (l : List α) (i : Nat) (a : α) : List α := l.take i ++ a :: l.drop i
theorem insAt_length {α : Type} {l : List α} {i : Nat} {a : α} (h : i ≤ l.length) : (insAt l i a).length = l.length + 1 := by
  simp [insAt]; omega
theorem insAt_lt {α : Type} {l : List α} {i k : Nat} {a : α} (hi : i ≤ l.length) (h : k < i) : (insAt l i a)[k]? = l[k]? := by
  unfold insAt
  rw [List.getElem?_append_left (by simp; omega), List.getElem?_take, if_pos h]
theorem insAt_eq {α : Type} {l : List α} {i : Nat} {a : α} (hi : i ≤ l.length) : (insAt l i a)[i]? = some a := by
  unfold insAt
  rw [List.getElem?_append_right (by rw [List.length_take, Nat.min_eq_left hi]; exact Nat.le_refl _), List.length_take, Nat.min_eq_left hi]
  simp
theorem insAt_gt {α : Type} {l : List α} {i k : Nat} {a : α} (hi : i ≤ l.length) (h : i ≤ k) : (insAt l i a)[k + 1]? = l[k]? := by
  unfold insAt
  rw [List.getElem?_append_right (by simp; omega), List.length_take, Nat.min_eq_left hi]
  rw [show k + 1 - i = (k - i) + 1 from by omega, List.getElem?_cons_succ, List.getElem?_drop]
  congr 1; omega
theorem take_next {α : Type} {X : List α} {k : Nat} {a : α} (h : X[k]? = some a) : X.take k ++ [a] = X.take (k + 1) := by
  rw [List.take_add_one, h]; rfl
theorem take_none {α : Type} {X : List α} {k : Nat} (h : X[k]? = none) : X.take k = X.take (k + 1) := by
  rw [List.take_add_one, h]; simp
def splitE (x : T_api_Map) (nodes i : Int) (key : ByteArray) : Int :=
  if chk x nodes ≠ 0 then chk x nodes else if ¬ (0 ≤ i ∧ i < x.Nodes.length) then 7
  else if 16 < key.size ∨ sLt (lo x i.toNat) key = false ∨ wthn key (lo x i.toNat) (hi x i.toNat) = false then 14 else if x.Nodes.length = 8 then 9 else 0
def splitM (x : T_api_Map) (i : Nat) (key : ByteArray) : T_api_Map := ⟨insAt x.Cuts i key, insAt x.Nodes i (x.Nodes.getD i 0)⟩
def splitR (x : T_api_Map) (nodes i : Int) (key : ByteArray) : T_api_Map × Int := if splitE x nodes i key = 0 then (splitM x i.toNat key, 0) else (empt, splitE x nodes i key)
theorem refSplit_L1 (N : Nat) (x : T_api_Map) (i : Nat) (key : ByteArray) (hf : x.Nodes.length = x.Cuts.length + 1) (h8 : x.Nodes.length ≤ 8) (hi' : i < x.Nodes.length) : ∀ (fuel k : Nat), x.Nodes.length - k < fuel → k ≤ x.Nodes.length →
    M.ref08_Split_L1 N fuel x (i : Int) key (if k ≤ i then (splitM x i key).Cuts.take k else (splitM x i key).Cuts.take (k + 1)) (if k ≤ i then (splitM x i key).Nodes.take k else (splitM x i key).Nodes.take (k + 1)) (k : Int) = some (splitM x i key, 0) := by
  intro fuel
  induction fuel with
  | zero => intro k h; omega
  | succ fuel ih =>
    intro k hk hkl
    simp only [M.ref08_Split_L1, M.ref08_Split_k2, M.ref08_Split_k3]
    have hcl : (splitM x i key).Cuts.length = x.Cuts.length + 1 := insAt_length (by omega)
    have hnl : (splitM x i key).Nodes.length = x.Nodes.length + 1 := insAt_length (by omega)
    by_cases hlt : k < x.Nodes.length
    · have hd : decide ((k : Int) < (x.Nodes.length : Int)) = true := decide_eq_true (by omega)
      simp only [hd, cond_true, idx_get hlt, Option.bind_some]
      rw [wrap_succ (by omega)]
      have hIH := ih (k + 1) (by omega) (by omega)
      have hxk : x.Nodes[k]? = some x.Nodes[k] := List.getElem?_eq_getElem hlt
      rcases Nat.lt_trichotomy k i with hki | hki | hki
      · -- ahead of the cut
        have hkc : k < x.Cuts.length := by omega
        have hb : ((k : Int) == (i : Int)) = false := by simp; omega
        rw [if_pos (by omega), if_pos (by omega)]
        rw [if_pos (by omega), if_pos (by omega)] at hIH
        rw [apd_ok (by simp; omega)]
        have hdc : decide ((k : Int) < (x.Cuts.length : Int)) = true := decide_eq_true (by omega)
        simp only [Option.bind_some, hb, cond_false, hdc, cond_true, idx_get hkc]
        rw [apd_ok (by simp; omega)]
        simp only [Option.bind_some]
        rw [take_next (show (splitM x i key).Nodes[k]? = some x.Nodes[k] from (insAt_lt (by omega) hki).trans hxk), take_next (show (splitM x i key).Cuts[k]? = some x.Cuts[k] from (insAt_lt (by omega) hki).trans (List.getElem?_eq_getElem hkc))]
        exact hIH
      · subst hki
        have hb : ((k : Int) == (k : Int)) = true := by simp
        rw [if_pos (by omega), if_pos (by omega)]
        rw [if_neg (by omega), if_neg (by omega)] at hIH
        rw [apd_ok (by simp; omega)]
        have hgd : x.Nodes.getD k 0 = x.Nodes[k] := by simp [hlt]
        simp only [Option.bind_some, hb, cond_true]
        rw [take_next (show (splitM x k key).Nodes[k]? = some x.Nodes[k] from by rw [← hgd]; exact insAt_eq (by omega))]
        rw [apd_ok (by simp; omega)]
        simp only [Option.bind_some]
        rw [apd_ok (by simp; omega)]
        simp only [Option.bind_some]
        rw [take_next (show (splitM x k key).Nodes[k + 1]? = some x.Nodes[k] from (insAt_gt (by omega) (Nat.le_refl _)).trans hxk), take_next (show (splitM x k key).Cuts[k]? = some key from insAt_eq (by omega))]
        by_cases hkc : k < x.Cuts.length
        · have hdc : decide ((k : Int) < (x.Cuts.length : Int)) = true := decide_eq_true (by omega)
          simp only [hdc, cond_true, idx_get hkc, Option.bind_some]
          rw [apd_ok (by simp; omega)]
          simp only [Option.bind_some]
          rw [take_next (show (splitM x k key).Cuts[k + 1]? = some x.Cuts[k] from (insAt_gt (by omega) (Nat.le_refl _)).trans (List.getElem?_eq_getElem hkc))]
          exact hIH
        · have hdc : decide ((k : Int) < (x.Cuts.length : Int)) = false := decide_eq_false (by omega)
          simp only [hdc, cond_false]
          rw [take_none (X := (splitM x k key).Cuts) (k := k + 1) (List.getElem?_eq_none (by omega))]
          exact hIH
      · have hb : ((k : Int) == (i : Int)) = false := by simp; omega
        rw [if_neg (by omega), if_neg (by omega)]
        rw [if_neg (by omega), if_neg (by omega)] at hIH
        rw [apd_ok (by simp; omega)]
        simp only [Option.bind_some, hb, cond_false]
        rw [take_next (show (splitM x i key).Nodes[k + 1]? = some x.Nodes[k] from (insAt_gt (by omega) (by omega)).trans hxk)]
        by_cases hkc : k < x.Cuts.length
        · have hdc : decide ((k : Int) < (x.Cuts.length : Int)) = true := decide_eq_true (by omega)
          simp only [hdc, cond_true, idx_get hkc, Option.bind_some]
          rw [apd_ok (by simp; omega)]
          simp only [Option.bind_some]
          rw [take_next (show (splitM x i key).Cuts[k + 1]? = some x.Cuts[k] from (insAt_gt (by omega) (by omega)).trans (List.getElem?_eq_getElem hkc))]
          exact hIH
        · have hdc : decide ((k : Int) < (x.Cuts.length : Int)) = false := decide_eq_false (by omega)
          simp only [hdc, cond_false]
          rw [take_none (X := (splitM x i key).Cuts) (k := k + 1) (List.getElem?_eq_none (by omega))]
          exact hIH
    · have hd : decide ((k : Int) < (x.Nodes.length : Int)) = false := decide_eq_false (by omega)
      rw [hd, if_neg (by omega), if_neg (by omega), List.take_of_length_le (by omega), List.take_of_length_le (by omega)]
      rfl
theorem split_eq (N : Nat) (hN : 100 ≤ N) (x : T_api_Map) (nodes i : Int) (key : ByteArray) (hx : x.Cuts.length ≤ maxLen) : M.span_Split N x nodes i key = some (splitR x nodes i key) ∧ M.ref08_Split N x nodes i key = some (splitR x nodes i key) := by
  have hc := chk_eq N hN ⟨x.Cuts, x.Nodes⟩ nodes hx
  unfold M.span_Split M.ref08_Split splitR splitE
  rw [hc.1, hc.2]
  simp only [Option.bind_some]
  by_cases h0 : chk x nodes = 0
  · have hR := (chk_iff x nodes).1 h0
    have hf := hR.form
    have hmost := hR.most
    have hs : x.Cuts.length ≤ 1000000 := by omega
    rw [show chk ⟨x.Cuts, x.Nodes⟩ nodes = 0 from h0]
    simp only [bne_self_eq_false, cond_false, h0, ne_eq, not_true, if_false]
    rw [show (T_api_Map.mk x.Cuts x.Nodes) = x from rfl, at_eq N x hs (by omega) i]
    simp only [Option.bind_some]
    by_cases hin : 0 ≤ i ∧ i < x.Nodes.length
    · rw [if_pos ⟨hf, hin⟩]
      obtain ⟨k, rfl⟩ : ∃ k : Nat, i = k := ⟨i.toNat, by omega⟩
      have hk : k < x.Nodes.length := by omega
      simp only [Int.toNat_natCast, ends_in N x hs hf k hk, Option.bind_some, Bool.not_true, cond_false, hin, not_true, if_false, (within_eq N key _ _).1, (within_eq N key _ _).2, shd, and_self]
      have hv1 : (bif decide ((key.size : Int) > 16) then (some true) else (bif (sLt key (lo x k) || sEq key (lo x k)) then (some true) else (some (!wthn key (lo x k) (hi x k))))) = some (decide (16 < key.size ∨ sLt (lo x k) key = false ∨ wthn key (lo x k) (hi x k) = false)) := by
        rw [sLe_iff, show decide ((key.size : Int) > 16) = decide (16 < key.size) from decide_eq_decide.2 (by omega)]
        by_cases h1 : 16 < key.size
        · simp [h1]
        · cases h2 : sLt (lo x k) key <;> cases h3 : wthn key (lo x k) (hi x k) <;> simp [h1]
      have hv2 : (bif decide ((key.size : Int) > 16) then (some true) else (bif (!wthn key (lo x k) (hi x k)) then (some true) else (some (sEq key (lo x k))))) = some (decide (16 < key.size ∨ sLt (lo x k) key = false ∨ wthn key (lo x k) (hi x k) = false)) := by
        rw [show decide ((key.size : Int) > 16) = decide (16 < key.size) from decide_eq_decide.2 (by omega)]
        by_cases h1 : 16 < key.size
        · simp [h1]
        · have hle := sLe_iff key (lo x k)
          cases h3 : wthn key (lo x k) (hi x k) with
          | false => simp [h1]
          | true =>
            have : sLt key (lo x k) = false := by
              unfold wthn at h3
              simp only [Bool.and_eq_true, Bool.not_eq_true'] at h3
              exact h3.1
            rw [this, Bool.false_or] at hle
            simp [h1, hle]
      rw [hv1, hv2]
      simp only [Option.bind_some]
      by_cases hbad : 16 < key.size ∨ sLt (lo x k) key = false ∨ wthn key (lo x k) (hi x k) = false
      · simp only [decide_eq_true hbad, cond_true, if_pos hbad]
        exact ⟨rfl, rfl⟩
      · simp only [decide_eq_false hbad, cond_false, if_neg hbad]
        by_cases hfull : x.Nodes.length = 8
        · rw [if_pos hfull, hfull]
          exact ⟨rfl, rfl⟩
        · have hb1 : (((x.Nodes).length : Int) == 8) = false := by simp; omega
          have hb2 : decide (((x.Nodes).length : Int) ≥ 8) = false := decide_eq_false (by omega)
          simp only [hb1, hb2, cond_false, if_neg hfull, if_true]
          constructor
          · rw [slc_take (by omega), slc_take (by omega), slc_drop (by omega), slc_drop (by omega)]
            simp only [Option.bind_some]
            rw [apd_ok (by simp; omega), apd_ok (by simp; omega)]
            simp only [Option.bind_some, List.nil_append]
            rw [apd_ok (by simp; omega), apd_ok (by simp; omega)]
            simp only [Option.bind_some]
            rw [apd_ok (by simp; omega), apd_ok (by simp; omega)]
            simp [splitM, insAt]
          · have := refSplit_L1 N x k key hf hmost hk N 0 (by omega) (by omega)
            simpa using this
    · rw [if_neg (fun h => hin h.2)]
      simp only [ends_out N x hs i (fun h => hin h.2), Option.bind_some, hin, not_false_eq_true, if_true, Bool.not_false, cond_true]
      exact ⟨rfl, rfl⟩
  · have h0' : chk ⟨x.Cuts, x.Nodes⟩ nodes ≠ 0 := h0
    have hb : (chk ⟨x.Cuts, x.Nodes⟩ nodes != 0) = true := by simpa using h0
    simp only [hb, cond_true, ne_eq, h0, not_false_eq_true, if_true, if_false]
    exact ⟨rfl, rfl⟩
def mergeE (x : T_api_Map) (nodes i : Int) : Int :=
  if chk x nodes ≠ 0 then chk x nodes else if ¬ (0 ≤ i ∧ i < x.Cuts.length) then 7
  else if x.Nodes.getD i.toNat 0 ≠ x.Nodes.getD (i.toNat + 1) 0 then 18 else 0
def mergeM (x : T_api_Map) (i : Nat) : T_api_Map := ⟨x.Cuts.eraseIdx i, x.Nodes.eraseIdx i⟩
def mergeR (x : T_api_Map) (nodes i : Int) : T_api_Map × Int := if mergeE x nodes i = 0 then (mergeM x i.toNat, 0) else (empt, mergeE x nodes i)
theorem erase_lt {α : Type} {l : List α} {i k : Nat} (h : k < i) : (l.eraseIdx i)[k]? = l[k]? := List.getElem?_eraseIdx_of_lt h
theorem erase_ge {α : Type} {l : List α} {i k : Nat} (h : i ≤ k) : (l.eraseIdx i)[k]? = l[k + 1]? := List.getElem?_eraseIdx_of_ge h
theorem refMerge_L1 (N : Nat) (x : T_api_Map) (i : Nat) (hf : x.Nodes.length = x.Cuts.length + 1) (h8 : x.Nodes.length ≤ 8) (hi' : i < x.Cuts.length) : ∀ (fuel k : Nat), x.Nodes.length - k < fuel → k ≤ x.Nodes.length →
    M.ref08_Merge_L1 N fuel x (i : Int) (if k ≤ i then (mergeM x i).Cuts.take k else (mergeM x i).Cuts.take (k - 1)) (if k ≤ i then (mergeM x i).Nodes.take k else (mergeM x i).Nodes.take (k - 1)) (k : Int) = some (mergeM x i, 0) := by
  intro fuel
  induction fuel with
  | zero => intro k h; omega
  | succ fuel ih =>
    intro k hk hkl
    simp only [M.ref08_Merge_L1, M.ref08_Merge_k2, M.ref08_Merge_k3]
    have hcl : (mergeM x i).Cuts.length = x.Cuts.length - 1 := List.length_eraseIdx_of_lt hi'
    have hnl : (mergeM x i).Nodes.length = x.Nodes.length - 1 := List.length_eraseIdx_of_lt (by omega)
    by_cases hlt : k < x.Nodes.length
    · have hd : decide ((k : Int) < (x.Nodes.length : Int)) = true := decide_eq_true (by omega)
      simp only [hd, cond_true, idx_get hlt, Option.bind_some]
      rw [wrap_succ (by omega)]
      have hIH := ih (k + 1) (by omega) (by omega)
      have hxk : x.Nodes[k]? = some x.Nodes[k] := List.getElem?_eq_getElem hlt
      rcases Nat.lt_trichotomy k i with hki | hki | hki
      · have hkc : k < x.Cuts.length := by omega
        have hb : ((k : Int) != (i : Int)) = true := by simp; omega
        rw [if_pos (by omega), if_pos (by omega)]
        rw [if_pos (by omega), if_pos (by omega)] at hIH
        have hdc : decide ((k : Int) < (x.Cuts.length : Int)) = true := decide_eq_true (by omega)
        simp only [hb, cond_true, hdc, Option.bind_some, idx_get hkc]
        rw [apd_ok (by simp; omega)]
        simp only [Option.bind_some]
        rw [apd_ok (by simp; omega)]
        simp only [Option.bind_some]
        rw [take_next (show (mergeM x i).Nodes[k]? = some x.Nodes[k] from (erase_lt hki).trans hxk), take_next (show (mergeM x i).Cuts[k]? = some x.Cuts[k] from (erase_lt hki).trans (List.getElem?_eq_getElem hkc))]
        exact hIH
      · subst hki
        have hb : ((k : Int) != (k : Int)) = false := by simp
        rw [if_pos (by omega), if_pos (by omega)]
        rw [if_neg (by omega), if_neg (by omega), Nat.add_sub_cancel] at hIH
        have hdc : decide ((k : Int) < (x.Cuts.length : Int)) = true := decide_eq_true (by omega)
        simp only [hb, cond_false, hdc, cond_true, Option.bind_some]
        exact hIH
      · have hb : ((k : Int) != (i : Int)) = true := by simp; omega
        rw [if_neg (by omega), if_neg (by omega)]
        rw [if_neg (by omega), if_neg (by omega), Nat.add_sub_cancel] at hIH
        simp only [hb, cond_true]
        rw [apd_ok (by simp; omega)]
        simp only [Option.bind_some]
        have hk1 : k - 1 + 1 = k := by omega
        rw [take_next (show (mergeM x i).Nodes[k - 1]? = some x.Nodes[k] from (erase_ge (by omega)).trans (by rw [hk1]; exact hxk)), hk1]
        by_cases hkc : k < x.Cuts.length
        · have hdc : decide ((k : Int) < (x.Cuts.length : Int)) = true := decide_eq_true (by omega)
          simp only [hdc, cond_true, idx_get hkc, Option.bind_some]
          rw [apd_ok (by simp; omega)]
          simp only [Option.bind_some]
          rw [take_next (show (mergeM x i).Cuts[k - 1]? = some x.Cuts[k] from (erase_ge (by omega)).trans (by rw [hk1]; exact List.getElem?_eq_getElem hkc)), hk1]
          exact hIH
        · have hdc : decide ((k : Int) < (x.Cuts.length : Int)) = false := decide_eq_false (by omega)
          simp only [hdc, cond_false, Option.bind_some]
          have := take_none (X := (mergeM x i).Cuts) (k := k - 1) (List.getElem?_eq_none (by omega))
          rw [hk1] at this
          rw [this]
          exact hIH
    · have hd : decide ((k : Int) < (x.Nodes.length : Int)) = false := decide_eq_false (by omega)
      rw [hd, if_neg (by omega), if_neg (by omega), List.take_of_length_le (by omega), List.take_of_length_le (by omega)]
      rfl
theorem merge_eq (N : Nat) (hN : 100 ≤ N) (x : T_api_Map) (nodes i : Int) (hx : x.Cuts.length ≤ maxLen) : M.span_Merge N x nodes i = some (mergeR x nodes i) ∧ M.ref08_Merge N x nodes i = some (mergeR x nodes i) := by
  have hc := chk_eq N hN ⟨x.Cuts, x.Nodes⟩ nodes hx
  unfold M.span_Merge M.ref08_Merge mergeR mergeE
  rw [hc.1, hc.2]
  simp only [Option.bind_some]
  by_cases h0 : chk x nodes = 0
  · have hR := (chk_iff x nodes).1 h0
    have hf := hR.form
    have hmost := hR.most
    rw [show chk ⟨x.Cuts, x.Nodes⟩ nodes = 0 from h0]
    simp only [bne_self_eq_false, cond_false, h0, ne_eq, not_true, if_false]
    have hv : (bif decide (i < 0) then (some true) else (some (decide (i ≥ ((x.Cuts).length : Int))))) = some (decide (¬ (0 ≤ i ∧ i < x.Cuts.length))) := by
      by_cases h : i < 0
      · rw [decide_eq_true h, decide_eq_true (show ¬ (0 ≤ i ∧ i < (x.Cuts.length : Int)) by omega)]; rfl
      · rw [decide_eq_false h]
        simp only [cond_false, Option.some.injEq]
        exact decide_eq_decide.2 (by omega)
    rw [hv]
    simp only [Option.bind_some]
    by_cases hin : 0 ≤ i ∧ i < x.Cuts.length
    · obtain ⟨k, rfl⟩ : ∃ k : Nat, i = k := ⟨i.toNat, by omega⟩
      have hk : k < x.Cuts.length := by omega
      simp only [hin, not_true, decide_false, cond_false, if_false, Int.toNat_natCast, and_self]
      rw [wrap_succ (by omega), idx_getD 0 (show k < x.Nodes.length by omega), idx_getD 0 (show k + 1 < x.Nodes.length by omega)]
      simp only [Option.bind_some]
      by_cases hn : x.Nodes.getD k 0 = x.Nodes.getD (k + 1) 0
      · have hb : (x.Nodes.getD k 0 != x.Nodes.getD (k + 1) 0) = false := by rw [hn, bne_self_eq_false]
        have he : (if ¬x.Nodes.getD k 0 = x.Nodes.getD (k + 1) 0 then (18 : Int) else 0) = 0 := if_neg (fun h => h hn)
        simp only [hb, cond_false, he, if_true]
        constructor
        · rw [slc_take (by omega), slc_take (by omega), slc_drop (by omega), slc_drop (by omega)]
          simp only [Option.bind_some]
          rw [apd_ok (by simp; omega), apd_ok (by simp; omega)]
          simp only [Option.bind_some, List.nil_append]
          rw [apd_ok (by simp; omega), apd_ok (by simp; omega)]
          simp [mergeM, List.eraseIdx_eq_take_drop_succ]
        · have := refMerge_L1 N x k hf hmost hk N 0 (by omega) (by omega)
          simpa using this
      · have hb : (x.Nodes.getD k 0 != x.Nodes.getD (k + 1) 0) = true := bne_iff_ne.2 hn
        simp only [hb, cond_true, hn, not_false_eq_true, if_true]
        exact ⟨rfl, rfl⟩
    · simp only [hin, not_false_eq_true, decide_true, cond_true, if_true]
      exact ⟨rfl, rfl⟩
  · have hb : (chk ⟨x.Cuts, x.Nodes⟩ nodes != 0) = true := by simpa using h0
    simp only [hb, cond_true, ne_eq, h0, not_false_eq_true, if_true, if_false]
    exact ⟨rfl, rfl⟩
theorem copy_eq (N : Nat) (x : T_api_Map) (h1 : x.Cuts.length < 2147483648) (h2 : x.Nodes.length < 2147483648) : M.span_Copy N x = some x ∧ M.ref08_Copy N x = some x := by
  unfold M.span_Copy M.ref08_Copy
  rw [apd_ok (by simpa using h1), apd_ok (by simpa using h2)]
  exact ⟨rfl, rfl⟩
def moveE (x : T_api_Map) (nodes i node : Int) : Int :=
  if chk x nodes ≠ 0 then chk x nodes else if ¬ (0 ≤ i ∧ i < x.Nodes.length) then 7
  else if ¬ (0 ≤ node ∧ node < nodes) then 1 else if x.Nodes.getD i.toNat 0 = node then 8 else 0
def moveM (x : T_api_Map) (i : Nat) (node : Int) : T_api_Map := ⟨x.Cuts, x.Nodes.set i node⟩
def moveR (x : T_api_Map) (nodes i node : Int) : T_api_Map × Int := if moveE x nodes i node = 0 then (moveM x i.toNat node, 0) else (empt, moveE x nodes i node)
theorem move_eq (N : Nat) (hN : 100 ≤ N) (x : T_api_Map) (nodes i node : Int) (hx : x.Cuts.length ≤ maxLen) : M.span_Move N x nodes i node = some (moveR x nodes i node) ∧ M.ref08_Move N x nodes i node = some (moveR x nodes i node) := by
  have hc := chk_eq N hN ⟨x.Cuts, x.Nodes⟩ nodes hx
  unfold M.span_Move M.ref08_Move moveR moveE
  rw [hc.1, hc.2]
  simp only [Option.bind_some]
  by_cases h0 : chk x nodes = 0
  · have hR := (chk_iff x nodes).1 h0
    have hf := hR.form
    have hmost := hR.most
    rw [show chk ⟨x.Cuts, x.Nodes⟩ nodes = 0 from h0]
    simp only [bne_self_eq_false, cond_false, h0, ne_eq, not_true, if_false]
    have hv : ∀ i n : Int, (bif decide (i < 0) then (some true) else (some (decide (i ≥ n)))) = some (decide (¬ (0 ≤ i ∧ i < n))) := fun i n => by
      by_cases h : i < 0
      · rw [decide_eq_true h, decide_eq_true (show ¬ (0 ≤ i ∧ i < n) by omega)]; rfl
      · rw [decide_eq_false h]
        simp only [cond_false, Option.some.injEq]
        exact decide_eq_decide.2 (by omega)
    rw [hv, hv]
    simp only [Option.bind_some]
    by_cases hin : 0 ≤ i ∧ i < x.Nodes.length
    · obtain ⟨k, rfl⟩ : ∃ k : Nat, i = k := ⟨i.toNat, by omega⟩
      have hk : k < x.Nodes.length := by omega
      simp only [hin, not_true, decide_false, cond_false, if_false, Int.toNat_natCast, and_self]
      by_cases hnd : 0 ≤ node ∧ node < nodes
      · simp only [hnd, not_true, decide_false, cond_false, if_false, and_self]
        rw [idx_getD 0 hk]
        simp only [Option.bind_some]
        by_cases hn : x.Nodes.getD k 0 = node
        · have hb : (x.Nodes.getD k 0 == node) = true := beq_iff_eq.2 hn
          simp only [hb, cond_true, if_pos hn]
          exact ⟨rfl, rfl⟩
        · have hb : (x.Nodes.getD k 0 == node) = false := beq_eq_false_iff_ne.2 hn
          have hcp := copy_eq N ⟨x.Cuts, x.Nodes⟩ (show x.Cuts.length < _ by omega) (show x.Nodes.length < _ by omega)
          simp only [hb, cond_false, if_neg hn, if_true, hcp.1, hcp.2, Option.bind_some]
          rw [idx_getD 0 hk]
          exact ⟨rfl, rfl⟩
      · simp only [hnd, not_false_eq_true, decide_true, cond_true, if_true]
        exact ⟨rfl, rfl⟩
    · simp only [hin, not_false_eq_true, decide_true, cond_true, if_true]
      exact ⟨rfl, rfl⟩
  · have hb : (chk ⟨x.Cuts, x.Nodes⟩ nodes != 0) = true := by simpa using h0
    simp only [hb, cond_true, ne_eq, h0, not_false_eq_true, if_true, if_false]
    exact ⟨rfl, rfl⟩
theorem same_L2 (N : Nat) (x y : T_api_Map) (hn : x.Nodes = y.Nodes) (hs : x.Nodes.length ≤ 1000000) : ∀ (fuel i : Nat), x.Nodes.length - i < fuel → i ≤ x.Nodes.length → M.ref08_Same_L2 N fuel x y (i : Int) = some true := by
  intro fuel
  induction fuel with
  | zero => intro i h; omega
  | succ fuel ih =>
    intro i hf hi
    simp only [M.ref08_Same_L2]
    by_cases hlt : i < x.Nodes.length
    · have hd : decide ((i : Int) < (x.Nodes.length : Int)) = true := decide_eq_true (by omega)
      rw [hd, ← hn, idx_get hlt, wrap_succ (by omega)]
      simp only [cond_true, Option.bind_some, bne_self_eq_false, cond_false]
      exact ih (i + 1) (by omega) (by omega)
    · rw [decide_eq_false (by omega : ¬ (i : Int) < (x.Nodes.length : Int))]; rfl
theorem same_L1 (N : Nat) (x : T_api_Map) (hc : x.Cuts.length ≤ 1000000) (hs : x.Nodes.length ≤ 1000000) (hN : x.Nodes.length < N) : ∀ (fuel i : Nat), x.Cuts.length - i < fuel → i ≤ x.Cuts.length → M.ref08_Same_L1 N fuel x x (i : Int) = some true := by
  intro fuel
  induction fuel with
  | zero => intro i h; omega
  | succ fuel ih =>
    intro i hf hi
    simp only [M.ref08_Same_L1]
    by_cases hlt : i < x.Cuts.length
    · have hd : decide ((i : Int) < (x.Cuts.length : Int)) = true := decide_eq_true (by omega)
      rw [hd, idx_get hlt, wrap_succ (by omega)]
      simp only [cond_true, Option.bind_some, sEq_refl, Bool.not_true, cond_false]
      exact ih (i + 1) (by omega) (by omega)
    · rw [decide_eq_false (by omega : ¬ (i : Int) < (x.Cuts.length : Int))]
      exact same_L2 N x x rfl hs N 0 (by omega) (by omega)
theorem same_refl (N : Nat) (x : T_api_Map) (hc : x.Cuts.length ≤ 1000000) (hs : x.Nodes.length ≤ 1000000) (hN : x.Nodes.length < N) (hN' : x.Cuts.length < N) : M.ref08_Same N x x = some true := by
  unfold M.ref08_Same
  simp only [bne_self_eq_false, cond_false, Option.bind_some]
  exact same_L1 N x hc hs hN N 0 (by omega) (by omega)
end Go.Cf
namespace Go.Cf
open Go
theorem getD_of {α : Type} {l m : List α} {i j : Nat} {d : α} (h : l[i]? = m[j]?) : l.getD i d = m.getD j d := by
  rw [List.getD_eq_getElem?_getD, List.getD_eq_getElem?_getD, h]
theorem getD_some {α : Type} {l : List α} {i : Nat} {d a : α} (h : l[i]? = some a) : l.getD i d = a := by
  rw [List.getD_eq_getElem?_getD, h]; rfl
theorem getD_mem {α : Type} {l : List α} {i : Nat} {d : α} (h : i < l.length) : l.getD i d ∈ l := by
  rw [List.getD_eq_getElem?_getD, List.getElem?_eq_getElem h]; exact List.getElem_mem h
structure SplitOk (x : T_api_Map) (nodes : Int) (i : Nat) (key : ByteArray) : Prop where
  right : Right x nodes
  lt : i < x.Nodes.length
  size : key.size ≤ 16
  above : sLt (lo x i) key = true
  within : wthn key (lo x i) (hi x i) = true
  room : x.Nodes.length ≠ 8
theorem split_ok {x : T_api_Map} {nodes i : Int} {key : ByteArray} (h : splitE x nodes i key = 0) : 0 ≤ i ∧ SplitOk x nodes i.toNat key := by
  unfold splitE at h
  by_cases h0 : chk x nodes = 0
  · rw [if_neg (fun h' => h' h0)] at h
    by_cases h1 : 0 ≤ i ∧ i < x.Nodes.length
    · rw [if_neg (fun h' => h' h1)] at h
      by_cases h2 : 16 < key.size ∨ sLt (lo x i.toNat) key = false ∨ wthn key (lo x i.toNat) (hi x i.toNat) = false
      · rw [if_pos h2] at h; cases h
      · rw [if_neg h2] at h
        by_cases h3 : x.Nodes.length = 8
        · rw [if_pos h3] at h; cases h
        · simp only [not_or, Bool.not_eq_false] at h2
          exact ⟨h1.1, (chk_iff x nodes).1 h0, by omega, by omega, h2.2.1, h2.2.2, h3⟩
    · rw [if_pos h1] at h; cases h
  · rw [if_pos h0] at h; exact absurd h h0
theorem SplitOk.below {x : T_api_Map} {nodes : Int} {i : Nat} {key : ByteArray} (h : SplitOk x nodes i key) (hi' : i < x.Cuts.length) : sLt key (x.Cuts.getD i nil) = true := by
  have := h.within
  unfold wthn hi at this
  rw [cut_ne_nil h.right.rising i hi'] at this
  simp only [Bool.false_or, Bool.and_eq_true] at this
  exact this.2
theorem SplitOk.le {x : T_api_Map} {nodes : Int} {i : Nat} {key : ByteArray} (h : SplitOk x nodes i key) : i ≤ x.Cuts.length := by have := h.right.form; have := h.lt; omega
theorem right_split {x : T_api_Map} {nodes : Int} {i : Nat} {key : ByteArray} (h : SplitOk x nodes i key) : Right (splitM x i key) nodes := by
  have hR := h.right
  have hle := h.le
  have hlt := h.lt
  have hcl : (splitM x i key).Cuts.length = x.Cuts.length + 1 := insAt_length hle
  have hnl : (splitM x i key).Nodes.length = x.Nodes.length + 1 := insAt_length (by omega)
  refine ⟨hR.lo1, hR.hi4, ?_, ?_, fun j hj => ?_, fun j hj => ?_, fun n hn => ?_⟩
  · have := h.room; have := hR.most; omega
  · have := hR.form; omega
  · rcases Nat.lt_trichotomy j i with hji | hji | hji
    · rw [show (splitM x i key).Cuts.getD j nil = x.Cuts.getD j nil from getD_of (insAt_lt hle hji)]
      exact hR.size j (by omega)
    · subst hji
      rw [show (splitM x j key).Cuts.getD j nil = key from getD_some (insAt_eq hle)]
      exact h.size
    · obtain ⟨k, rfl⟩ : ∃ k, j = k + 1 := ⟨j - 1, by omega⟩
      rw [show (splitM x i key).Cuts.getD (k + 1) nil = x.Cuts.getD k nil from getD_of (insAt_gt hle (by omega))]
      exact hR.size k (by omega)
  · have hlo : ∀ k, k ≤ i → lo (splitM x i key) k = lo x k := fun k hk => by
      cases k with
      | zero => rfl
      | succ k => exact getD_of (insAt_lt hle (by omega))
    rcases Nat.lt_trichotomy j i with hji | hji | hji
    · rw [hlo j (by omega), show (splitM x i key).Cuts.getD j nil = x.Cuts.getD j nil from getD_of (insAt_lt hle hji)]
      exact hR.asc j (by omega)
    · subst hji
      rw [hlo j (Nat.le_refl _), show (splitM x j key).Cuts.getD j nil = key from getD_some (insAt_eq hle)]
      exact h.above
    · obtain ⟨k, rfl⟩ : ∃ k, j = k + 1 := ⟨j - 1, by omega⟩
      rw [show (splitM x i key).Cuts.getD (k + 1) nil = x.Cuts.getD k nil from getD_of (insAt_gt hle (by omega))]
      show sLt ((splitM x i key).Cuts.getD k nil) _ = true
      by_cases hk : k = i
      · subst hk
        rw [show (splitM x k key).Cuts.getD k nil = key from getD_some (insAt_eq hle)]
        exact h.below (by omega)
      · obtain ⟨q, rfl⟩ : ∃ q, k = q + 1 := ⟨k - 1, by omega⟩
        rw [show (splitM x i key).Cuts.getD (q + 1) nil = x.Cuts.getD q nil from getD_of (insAt_gt hle (by omega))]
        exact hR.asc (q + 1) (by omega)
  · have hn' : n ∈ x.Nodes.take i ++ x.Nodes.getD i 0 :: x.Nodes.drop i := hn
    rcases List.mem_append.1 hn' with hn' | hn'
    · exact hR.node n (List.mem_of_mem_take hn')
    · rcases List.mem_cons.1 hn' with rfl | hn'
      · exact hR.node _ (getD_mem hlt)
      · exact hR.node n (List.mem_of_mem_drop hn')
structure MergeOk (x : T_api_Map) (nodes : Int) (i : Nat) : Prop where
  right : Right x nodes
  lt : i < x.Cuts.length
  same : x.Nodes.getD i 0 = x.Nodes.getD (i + 1) 0
theorem merge_ok {x : T_api_Map} {nodes i : Int} (h : mergeE x nodes i = 0) : 0 ≤ i ∧ MergeOk x nodes i.toNat := by
  unfold mergeE at h
  by_cases h0 : chk x nodes = 0
  · rw [if_neg (fun h' => h' h0)] at h
    by_cases h1 : 0 ≤ i ∧ i < x.Cuts.length
    · rw [if_neg (fun h' => h' h1)] at h
      by_cases h2 : x.Nodes.getD i.toNat 0 = x.Nodes.getD (i.toNat + 1) 0
      · exact ⟨h1.1, (chk_iff x nodes).1 h0, by omega, h2⟩
      · rw [if_pos h2] at h; cases h
    · rw [if_pos h1] at h; cases h
  · rw [if_pos h0] at h; exact absurd h h0
theorem right_merge {x : T_api_Map} {nodes : Int} {i : Nat} (h : MergeOk x nodes i) : Right (mergeM x i) nodes := by
  have hR := h.right
  have hlt := h.lt
  have hf := hR.form
  have hcl : (mergeM x i).Cuts.length = x.Cuts.length - 1 := List.length_eraseIdx_of_lt hlt
  have hnl : (mergeM x i).Nodes.length = x.Nodes.length - 1 := List.length_eraseIdx_of_lt (by omega)
  have hc : ∀ j, (mergeM x i).Cuts.getD j nil = if j < i then x.Cuts.getD j nil else x.Cuts.getD (j + 1) nil := fun j => by
    split
    · exact getD_of (erase_lt (by omega))
    · exact getD_of (erase_ge (by omega))
  refine ⟨hR.lo1, hR.hi4, by have := hR.most; omega, by omega, fun j hj => ?_, fun j hj => ?_, fun n hn => hR.node n (List.mem_of_mem_eraseIdx hn)⟩
  · rw [hc]
    split
    · exact hR.size j (by omega)
    · exact hR.size (j + 1) (by omega)
  · rw [hc]
    have hlo : lo (mergeM x i) j = if j ≤ i then lo x j else lo x (j + 1) := by
      cases j with
      | zero => rfl
      | succ j =>
        show (mergeM x i).Cuts.getD j nil = _
        rw [hc]
        by_cases hji : j < i
        · rw [if_pos hji, if_pos (by omega)]; rfl
        · rw [if_neg hji, if_neg (by omega)]; rfl
    rw [hlo]
    rcases Nat.lt_trichotomy j i with hji | hji | hji
    · rw [if_pos (by omega), if_pos hji]; exact hR.asc j (by omega)
    · subst hji
      rw [if_pos (Nat.le_refl _), if_neg (by omega)]
      exact sLt_trans (hR.asc j hlt) (hR.asc (j + 1) (by omega))
    · rw [if_neg (by omega), if_neg (by omega)]; exact hR.asc (j + 1) (by omega)
structure MoveOk (x : T_api_Map) (nodes : Int) (i : Nat) (node : Int) : Prop where
  right : Right x nodes
  lt : i < x.Nodes.length
  node : 0 ≤ node ∧ node < nodes
theorem move_ok {x : T_api_Map} {nodes i node : Int} (h : moveE x nodes i node = 0) : 0 ≤ i ∧ MoveOk x nodes i.toNat node := by
  unfold moveE at h
  by_cases h0 : chk x nodes = 0
  · rw [if_neg (fun h' => h' h0)] at h
    by_cases h1 : 0 ≤ i ∧ i < x.Nodes.length
    · rw [if_neg (fun h' => h' h1)] at h
      by_cases h2 : 0 ≤ node ∧ node < nodes
      · exact ⟨h1.1, (chk_iff x nodes).1 h0, by omega, h2⟩
      · rw [if_pos h2] at h; cases h
    · rw [if_pos h1] at h; cases h
  · rw [if_pos h0] at h; exact absurd h h0
theorem right_move {x : T_api_Map} {nodes : Int} {i : Nat} {node : Int} (h : MoveOk x nodes i node) : Right (moveM x i node) nodes := by
  have hR := h.right
  have hlo : ∀ j, lo (moveM x i node) j = lo x j := fun j => by cases j <;> rfl
  refine ⟨hR.lo1, hR.hi4, by have := hR.most; simpa [moveM] using this, by have := hR.form; simpa [moveM] using this, hR.size, fun j hj => by rw [hlo]; exact hR.asc j hj, fun n hn => ?_⟩
  rcases List.mem_or_eq_of_mem_set hn with hn | rfl
  · exact hR.node n hn
  · exact h.node
end Go.Cf
namespace Go.Cf
open Go
def told (s : T_config_State) : T_ref18_State := ⟨s.Pool, s.Nodes, s.Members, s.Maps, s.Modes⟩
structure OkSt (s : T_config_State) : Prop where
  mem : s.Members.length = 4
  maps : s.Maps.length = 4
  modes : s.Modes.length = 21
  small : ∀ m ∈ s.Maps, m.Cuts.length ≤ 60 ∧ m.Nodes.length ≤ 60
theorem mapD (x : T_api_Map) : (T_api_Map.mk x.Cuts x.Nodes) = x := rfl
theorem csD (s : T_config_State) : (T_config_State.mk s.Pool s.Nodes s.Members s.Maps s.Modes) = s := rfl
theorem rsD (s : T_ref18_State) : (T_ref18_State.mk s.Pool s.Nodes s.Members s.Maps s.Modes) = s := rfl
theorem cmdD (c : T_api_Cmd) : (T_api_Cmd.mk c.Kind c.DC c.Shard c.Node c.Mode c.Key) = c := rfl
theorem place_eq (N dc j : Nat) (hdc : dc < 4) (hj : j ≤ 5) : M.api_Place N (dc : Int) ((j : Int) - 1) = some ((5 * dc + j + 1 : Nat) : Int) := by
  unfold M.api_Place
  rw [wrap_small (x := 5 * (dc : Int)) (by omega) (by omega), wrap_small (x := 1 + 5 * (dc : Int)) (by omega) (by omega), wrap_small (x := 1 + 5 * (dc : Int) + ((j : Int) - 1)) (by omega) (by omega), wrap_small (by omega) (by omega)]
  congr 1; omega
def cnt (l : List Bool) : Nat := l.countP id
theorem count_L1 (N : Nat) (s : T_config_State) (hl : s.Members.length = 4) : ∀ (fuel i n : Nat), 4 - i < fuel → i ≤ 4 → n ≤ i → M.config_Count_L1 N fuel s (n : Int) (i : Int) = some ((n + cnt (s.Members.drop i) : Nat) : Int) ∧ M.ref18_Count_L1 N fuel (told s) (n : Int) (i : Int) = some ((n + cnt (s.Members.drop i) : Nat) : Int) := by
  intro fuel
  induction fuel with
  | zero => intro i n h; omega
  | succ fuel ih =>
    intro i n hf hi hn
    simp only [M.config_Count_L1, M.ref18_Count_L1, M.config_Count_k2, M.ref18_Count_k2]
    by_cases hlt : i < 4
    · have hil : i < s.Members.length := by omega
      rw [decide_eq_true (by omega : (i : Int) < 4)]
      show (bif true then (Option.bind (idx s.Members (i : Int)) _) else _) = _ ∧ (bif true then (Option.bind (idx s.Members (i : Int)) _) else _) = _
      rw [idx_get hil, wrap_succ (i := i) (by omega), wrap_succ (i := n) (by omega), drop_cons hil]
      simp only [cond_true, Option.bind_some, cnt, List.countP_cons, id]
      cases s.Members[i] with
      | true =>
        simp only [cond_true, if_true]
        have := ih (i + 1) (n + 1) (by omega) (by omega) (by omega)
        rw [show n + (List.countP id (s.Members.drop (i + 1)) + 1) = n + 1 + cnt (s.Members.drop (i + 1)) from by unfold cnt; omega]
        exact this
      | false =>
        simp only [cond_false]
        exact ih (i + 1) n (by omega) (by omega) (by omega)
    · rw [decide_eq_false (by omega : ¬ (i : Int) < 4), List.drop_eq_nil_of_le (by omega)]
      exact ⟨rfl, rfl⟩
theorem count_eq (N : Nat) (hN : 100 ≤ N) (s : T_config_State) (hl : s.Members.length = 4) : M.config_Count N s = some ((cnt s.Members : Nat) : Int) ∧ M.ref18_Count N (told s) = some ((cnt s.Members : Nat) : Int) := by
  have := count_L1 N s hl N 0 0 (by omega) (by omega) (by omega)
  simpa [M.config_Count, M.ref18_Count] using this
theorem or2 (a b : Prop) [Decidable a] [Decidable b] : (bif decide a then (some true) else (some (decide b))) = some (decide (a ∨ b)) := by
  by_cases ha : a <;> simp [ha]
end Go.Cf
namespace Go.Cf
open Go
theorem awake18 : M.law18_awake 1000 = some true := by kernel_rfl
theorem cEq_refl : ∀ l : List Value, (∀ v ∈ l, vEq v v = true) → cEq l l = true := fun l => by
  induction l with
  | nil => intro _; rfl
  | cons v l ih => intro h; simp [cEq, h v (by simp), ih fun u hu => h u (by simp [hu])]
theorem cEq_bools (n : Nat) (l : List Bool) : cEq (flat [(n, encs fBool l)]) (flat [(n, encs fBool l)]) = true := by
  refine cEq_refl _ fun v hv => ?_
  simp only [flat, List.flatMap_cons, List.flatMap_nil, List.append_nil, encs, List.mem_flatMap] at hv
  obtain ⟨b, _, hb⟩ := hv
  have : v = .bool b := by simpa [fBool] using hb
  subst this; simp [vEq]
theorem cEq_ints (n : Nat) (l : List Int) : cEq (flat [(n, encs (fInt .i64) l)]) (flat [(n, encs (fInt .i64) l)]) = true := by
  refine cEq_refl _ fun v hv => ?_
  simp only [flat, List.flatMap_cons, List.flatMap_nil, List.append_nil, encs, List.mem_flatMap] at hv
  obtain ⟨b, _, hb⟩ := hv
  have : v = .int .i64 b := by simpa [fInt] using hb
  subst this; simp [vEq]
theorem sameS_L1 (N : Nat) (hN : 100 ≤ N) (s : T_config_State) (ho : OkSt s) : ∀ (fuel i : Nat), 4 - i < fuel → i ≤ 4 → M.ref18_Same_L1 N fuel (told s) (told s) (i : Int) = some true := by
  intro fuel
  induction fuel with
  | zero => intro i h; omega
  | succ fuel ih =>
    intro i hf hi
    simp only [M.ref18_Same_L1]
    by_cases hlt : i < 4
    · have hl : i < s.Maps.length := by rw [ho.maps]; exact hlt
      obtain ⟨h1, h2⟩ := ho.small _ (List.getElem_mem hl)
      rw [decide_eq_true (by omega : (i : Int) < 4), show (told s).Maps = s.Maps from rfl, idx_get hl, wrap_succ (by omega)]
      simp only [cond_true, Option.bind_some, mapD, same_refl N (s.Maps[i]) (by omega) (by omega) (by omega) (by omega), Bool.not_true, cond_false]
      exact ih (i + 1) (by omega) (by omega)
    · rw [decide_eq_false (by omega : ¬ (i : Int) < 4)]; rfl
theorem sameR_refl (N : Nat) (hN : 100 ≤ N) (s : T_config_State) (ho : OkSt s) : M.ref18_Same N (told s) (told s) = some true := by
  unfold M.ref18_Same
  simp only [bne_self_eq_false, cEq_bools, cEq_ints, Bool.not_true, cond_false, Option.bind_some]
  exact sameS_L1 N hN s ho N 0 (by omega) (by omega)
theorem told_eq (N : Nat) (s : T_config_State) : M.law18_Told N s = some (told s) := rfl
theorem sameS_refl (N : Nat) (hN : 100 ≤ N) (s : T_config_State) (ho : OkSt s) : M.law18_Same N s (told s) = some true := by
  unfold M.law18_Same
  simp only [csD, rsD, told_eq, Option.bind_some, sameR_refl N hN s ho]
theorem great18_L1 (N : Nat) (s : T_config_State) (hm : s.Maps.length = 4) : ∀ (fuel i : Nat), 4 - i < fuel → i ≤ 4 → (∃ b, M.law18_great_L1 N fuel s (i : Int) = some b ∧ (b = false → ∀ m ∈ s.Maps.drop i, m.Cuts.length ≤ 60 ∧ m.Nodes.length ≤ 60)) := by
  intro fuel
  induction fuel with
  | zero => intro i h; omega
  | succ fuel ih =>
    intro i hf hi
    simp only [M.law18_great_L1]
    by_cases hlt : i < 4
    · have hl : i < s.Maps.length := by omega
      rw [decide_eq_true (by omega : (i : Int) < 4), idx_get hl, wrap_succ (by omega), drop_cons hl]
      simp only [cond_true, Option.bind_some, or2]
      by_cases hb : ((s.Maps[i].Cuts.length : Nat) : Int) > 60 ∨ ((s.Maps[i].Nodes.length : Nat) : Int) > 60
      · rw [decide_eq_true hb]
        exact ⟨true, rfl, fun h => by cases h⟩
      · rw [decide_eq_false hb]
        simp only [cond_false]
        obtain ⟨b, h1, h2⟩ := ih (i + 1) (by omega) (by omega)
        refine ⟨b, h1, fun h m hm => ?_⟩
        rcases List.mem_cons.1 hm with rfl | hm
        · omega
        · exact h2 h m hm
    · rw [decide_eq_false (by omega : ¬ (i : Int) < 4)]
      exact ⟨false, rfl, fun _ m hm => by rw [List.drop_eq_nil_of_le (by omega)] at hm; cases hm⟩
theorem great18 (N : Nat) (hN : 100 ≤ N) (s : T_config_State) (h1 : s.Members.length = 4) (h2 : s.Maps.length = 4) (h3 : s.Modes.length = 21) : ∃ b, M.law18_great N s = some b ∧ (b = false → OkSt s) := by
  obtain ⟨b, hb, hs⟩ := great18_L1 N s h2 N 0 (by omega) (by omega)
  exact ⟨b, hb, fun h => ⟨h1, h2, h3, by simpa using hs h⟩⟩
end Go.Cf
namespace Go.Cf
open Go
def Small20 (s : T_config_State) : Prop := ∀ i, i < 4 → (s.Maps.getD i zm_api_Map).Cuts.length ≤ 61 ∧ (s.Maps.getD i zm_api_Map).Nodes.length ≤ 61
def Sm20 (o : Option (T_config_State × Int)) : Prop := ∃ v, o = some v ∧ Small20 v.1
theorem small4 {p n : Int} {b : List Bool} {l : List Int} {m0 m1 m2 m3 : T_api_Map} (h0 : m0.Cuts.length ≤ 61 ∧ m0.Nodes.length ≤ 61) (h1 : m1.Cuts.length ≤ 61 ∧ m1.Nodes.length ≤ 61) (h2 : m2.Cuts.length ≤ 61 ∧ m2.Nodes.length ≤ 61) (h3 : m3.Cuts.length ≤ 61 ∧ m3.Nodes.length ≤ 61) : Small20 ⟨p, n, b, [m0, m1, m2, m3], l⟩ := fun i hi => by
  match i, hi with
  | 0, _ => exact h0
  | 1, _ => exact h1
  | 2, _ => exact h2
  | 3, _ => exact h3
theorem e61 : (T_api_Map.mk ([] : List ByteArray) ([] : List Int)).Cuts.length ≤ 61 ∧ (T_api_Map.mk ([] : List ByteArray) ([] : List Int)).Nodes.length ≤ 61 := by decide
theorem sm_zero (e : Int) : Sm20 (some ((T_config_State.mk 0 0 (List.replicate 4 false) [(T_api_Map.mk ([] : List ByteArray) ([] : List Int)), (T_api_Map.mk ([] : List ByteArray) ([] : List Int)), (T_api_Map.mk ([] : List ByteArray) ([] : List Int)), (T_api_Map.mk ([] : List ByteArray) ([] : List Int))] (List.replicate 21 0)), e)) := ⟨_, rfl, small4 e61 e61 e61 e61⟩
theorem sm_bif {b : Bool} {x y : Option (T_config_State × Int)} (h1 : b = true → Sm20 x) (h2 : b = false → Sm20 y) : Sm20 (bif b then x else y) := by cases b; exact h2 rfl; exact h1 rfl
theorem sm_bind {α : Type} {o : Option α} {f : α → Option (T_config_State × Int)} (h1 : ∃ v, o = some v) (h2 : ∀ v, o = some v → Sm20 (f v)) : Sm20 (Option.bind o f) := by obtain ⟨v, rfl⟩ := h1; exact h2 v rfl
theorem copy_x20 (s : T_config_State) (ho : OkSt s) : M.config_Copy_x 1000 s = some s := by
  obtain ⟨p, n, b, maps, l⟩ := s
  match maps, ho with
  | [m0, m1, m2, m3], ho =>
    have hc : ∀ m ∈ [m0, m1, m2, m3], M.span_Copy 1000 m = some m := fun m hm => by
      have := ho.small m hm
      exact (copy_eq 1000 m (by omega) (by omega)).1
    unfold M.config_Copy_x
    show Option.bind (M.span_Copy 1000 m0) _ = _
    rw [hc m0 (by simp)]
    show Option.bind (M.span_Copy 1000 m1) _ = _
    rw [hc m1 (by simp)]
    show Option.bind (M.span_Copy 1000 m2) _ = _
    rw [hc m2 (by simp)]
    show Option.bind (M.span_Copy 1000 m3) _ = _
    rw [hc m3 (by simp)]
    rfl
  | [], ho => have := ho.maps; simp at this
  | [_], ho => have := ho.maps; simp at this
  | [_, _], ho => have := ho.maps; simp at this
  | [_, _, _], ho => have := ho.maps; simp at this
  | _ :: _ :: _ :: _ :: _ :: _, ho => have := ho.maps; simp at this
theorem both_x_L1 (N : Nat) (dc : Nat) (hdc : dc < 4) : ∀ (fuel k j : Nat) (l : List Int), k < fuel → j + k = 5 → l.length = 21 → ∃ l', M.config_State_both_x_L1 N fuel (dc : Int) l ((j : Int) - 1) = some l' := by
  intro fuel
  induction fuel with
  | zero => intro k j l h; omega
  | succ fuel ih =>
    intro k j l hk hj hl
    simp only [M.config_State_both_x_L1]
    by_cases hlt : j < 5
    · rw [decide_eq_true (by omega : (j : Int) - 1 < 4), place_eq N dc j hdc (by omega)]
      simp only [cond_true, Option.bind_some]
      rw [idx_get (by omega : 5 * dc + j + 1 < l.length)]
      simp only [Option.bind_some]
      rw [wrap_small (by omega) (by omega), show (j : Int) - 1 + 1 = ((j + 1 : Nat) : Int) - 1 by omega]
      exact ih (k - 1) (j + 1) _ (by omega) (by omega) (by rw [List.length_set]; exact hl)
    · rw [decide_eq_false (by omega : ¬ (j : Int) - 1 < 4)]
      exact ⟨_, rfl⟩
theorem both_x20 (l : List Int) (hl : l.length = 21) (dc : Int) (h0 : 0 ≤ dc) (h4 : dc < 4) : ∃ l', M.config_State_both_x 1000 l dc = some l' := by
  obtain ⟨d, rfl⟩ : ∃ d : Nat, dc = d := ⟨dc.toNat, by omega⟩
  exact both_x_L1 1000 d (by omega) 1000 5 0 l (by omega) (by omega) hl
theorem any_x_L1 (N : Nat) (l : List Int) (m : Int) (hl : l.length = 21) : ∀ (fuel i : Nat), 21 - i < fuel → i ≤ 21 → ∃ b, M.config_State_any_x_L1 N fuel l m (i : Int) = some b := by
  intro fuel
  induction fuel with
  | zero => intro i h; omega
  | succ fuel ih =>
    intro i hf hi
    simp only [M.config_State_any_x_L1]
    by_cases hlt : i < 21
    · rw [decide_eq_true (by omega : (i : Int) < 21), idx_get (by omega : i < l.length)]
      simp only [cond_true, Option.bind_some]
      cases (l[i] == m) with
      | true => exact ⟨_, rfl⟩
      | false =>
        simp only [cond_false]
        rw [wrap_succ (by omega)]
        exact ih (i + 1) (by omega) (by omega)
    · rw [decide_eq_false (by omega : ¬ (i : Int) < 21)]
      exact ⟨_, rfl⟩
theorem any_x20 (l : List Int) (m : Int) (hl : l.length = 21) : ∃ b, M.config_State_any_x 1000 l m = some b := any_x_L1 1000 l m hl 1000 0 (by omega) (by omega)
theorem ob {α β : Type} {o : Option α} {f : α → Option β} (h1 : ∃ v, o = some v) (h2 : ∀ v, o = some v → ∃ r, f v = some r) : ∃ r, Option.bind o f = some r := by obtain ⟨v, rfl⟩ := h1; exact h2 v rfl
theorem obif {β : Type} {b : Bool} {x y : Option β} (h1 : b = true → ∃ r, x = some r) (h2 : b = false → ∃ r, y = some r) : ∃ r, (bif b then x else y) = some r := by cases b; exact h2 rfl; exact h1 rfl
theorem speak_x20 (nodes : Int) (l : List Int) (hl : l.length = 21) (c : T_api_Cmd) (h0 : 0 ≤ c.DC) (h4 : c.DC < 4) : ∃ r, M.config_State_speak_x 1000 nodes l c = some r := by
  unfold M.config_State_speak_x M.config_State_speak_x_k1 M.config_State_speak_x_k2
  have hb : ∀ b1 b2 b3 b4 b5 : Bool, (bif b1 then some true else (bif b2 then some true else (bif b3 then some true else (bif b4 then some true else some b5)))) = some (b1 || b2 || b3 || b4 || b5) := by decide
  rw [hb]
  simp only [Option.bind_some]
  refine obif (fun _ => ⟨_, rfl⟩) fun hv => ?_
  simp only [Bool.or_eq_false_iff, decide_eq_false_iff_not] at hv
  obtain ⟨d, hd⟩ : ∃ d : Nat, c.DC = d := ⟨c.DC.toNat, by omega⟩
  obtain ⟨n, hn⟩ : ∃ n : Nat, c.Node = n := ⟨c.Node.toNat, by omega⟩
  have hn4 : n ≤ 4 := by omega
  rw [hn, wrap_small (by omega) (by omega), hd, place_eq 1000 d n (by omega) (by omega)]
  simp only [Option.bind_some]
  have hi : idx l ((5 * d + n + 1 : Nat) : Int) = some (l[5 * d + n + 1]'(by omega)) := idx_get (by omega)
  rw [hi]
  simp only [Option.bind_some]
  have k2 : ∀ (x : Option (Int × List Int)) (v : Bool), (∃ r, x = some r) → ∃ r, (bif v then (some ((15 : Int), l)) else (Option.bind (bif (c.Mode == 3) then (Option.bind (M.config_State_any_x 1000 l 1) fun x30 => (some x30)) else (some false)) fun v29 => (bif v29 then (bif v29 then (some ((15 : Int), l)) else x) else (Option.bind (bif (c.Mode == 1) then (Option.bind (M.config_State_any_x 1000 l 3) fun x33 => (some x33)) else (some false)) fun v32 => (bif v32 then (some ((15 : Int), l)) else x))))) = some r := fun x v hx => by
    refine obif (fun _ => ⟨_, rfl⟩) fun _ => ob (obif (fun _ => ob (any_x20 l 1 hl) fun v _ => ⟨_, rfl⟩) fun _ => ⟨_, rfl⟩) fun v29 _ => obif (fun _ => obif (fun _ => ⟨_, rfl⟩) fun _ => hx) fun _ => ob (obif (fun _ => ob (any_x20 l 3 hl) fun v _ => ⟨_, rfl⟩) fun _ => ⟨_, rfl⟩) fun v32 _ => obif (fun _ => ⟨_, rfl⟩) fun _ => hx
  refine obif (fun _ => ⟨_, rfl⟩) fun _ => ob (obif (fun _ => ⟨_, rfl⟩) fun _ => ⟨_, rfl⟩) fun v36 _ => obif (fun _ => k2 _ _ ⟨_, rfl⟩) fun _ => ob (obif (fun _ => ⟨_, rfl⟩) fun _ => ⟨_, rfl⟩) fun v39 _ => k2 _ _ ⟨_, rfl⟩
theorem few20_split (x : T_api_Map) (nodes i : Int) (key : ByteArray) : (splitR x nodes i key).1.Cuts.length ≤ 61 ∧ (splitR x nodes i key).1.Nodes.length ≤ 61 := by
  unfold splitR
  by_cases h : splitE x nodes i key = 0
  · have hr := right_split (split_ok h).2; have := hr.form; have := hr.most
    rw [if_pos h]; exact ⟨by show (splitM x i.toNat key).Cuts.length ≤ 61; omega, by show (splitM x i.toNat key).Nodes.length ≤ 61; omega⟩
  · rw [if_neg h]; exact ⟨by simp [empt], by simp [empt]⟩
theorem few20_merge (x : T_api_Map) (nodes i : Int) : (mergeR x nodes i).1.Cuts.length ≤ 61 ∧ (mergeR x nodes i).1.Nodes.length ≤ 61 := by
  unfold mergeR
  by_cases h : mergeE x nodes i = 0
  · have hr := right_merge (merge_ok h).2; have := hr.form; have := hr.most
    rw [if_pos h]; exact ⟨by show (mergeM x i.toNat).Cuts.length ≤ 61; omega, by show (mergeM x i.toNat).Nodes.length ≤ 61; omega⟩
  · rw [if_neg h]; exact ⟨by simp [empt], by simp [empt]⟩
theorem few20_move (x : T_api_Map) (nodes i node : Int) : (moveR x nodes i node).1.Cuts.length ≤ 61 ∧ (moveR x nodes i node).1.Nodes.length ≤ 61 := by
  unfold moveR
  by_cases h : moveE x nodes i node = 0
  · have hr := right_move (move_ok h).2; have := hr.form; have := hr.most
    rw [if_pos h]; exact ⟨by show (moveM x i.toNat node).Cuts.length ≤ 61; omega, by show (moveM x i.toNat node).Nodes.length ≤ 61; omega⟩
  · rw [if_neg h]; exact ⟨by simp [empt], by simp [empt]⟩
/-- a map of a configuration, as it is held -/
def sz (s : T_config_State) (i : Nat) : Prop := (s.Maps.getD i zm_api_Map).Cuts.length ≤ 60 ∧ (s.Maps.getD i zm_api_Map).Nodes.length ≤ 60
theorem sz_of {s : T_config_State} (ho : OkSt s) (i : Nat) (hi : i < 4) : sz s i := by
  have hm := ho.maps
  have e : s.Maps.getD i zm_api_Map = s.Maps[i]'(by omega) := by rw [List.getD_eq_getElem?_getD, List.getElem?_eq_getElem (by omega)]; rfl
  unfold sz
  rw [e]
  exact ho.small _ (List.getElem_mem _)
theorem sz61 {s : T_config_State} {i : Nat} (h : sz s i) : (T_api_Map.mk (s.Maps.getD i zm_api_Map).Cuts (s.Maps.getD i zm_api_Map).Nodes).Cuts.length ≤ 61 ∧ (T_api_Map.mk (s.Maps.getD i zm_api_Map).Cuts (s.Maps.getD i zm_api_Map).Nodes).Nodes.length ≤ 61 := ⟨Nat.le_succ_of_le h.1, Nat.le_succ_of_le h.2⟩
theorem apply_x20 (s : T_config_State) (c : T_api_Cmd) (ho : OkSt s) : Sm20 (M.config_Apply_x 1000 s c) := by
  have z0 := sz_of ho 0 (by omega); have z1 := sz_of ho 1 (by omega); have z2 := sz_of ho 2 (by omega); have z3 := sz_of ho 3 (by omega)
  have h0 := sz61 z0; have h1 := sz61 z1; have h2 := sz61 z2; have h3 := sz61 z3
  have hmem := ho.mem
  have hmod := ho.modes
  have hms : (T_config_State.mk s.Pool s.Nodes s.Members [(T_api_Map.mk ((s.Maps.getD 0 zm_api_Map).Cuts) ((s.Maps.getD 0 zm_api_Map).Nodes)), (T_api_Map.mk ((s.Maps.getD 1 zm_api_Map).Cuts) ((s.Maps.getD 1 zm_api_Map).Nodes)), (T_api_Map.mk ((s.Maps.getD 2 zm_api_Map).Cuts) ((s.Maps.getD 2 zm_api_Map).Nodes)), (T_api_Map.mk ((s.Maps.getD 3 zm_api_Map).Cuts) ((s.Maps.getD 3 zm_api_Map).Nodes))] s.Modes) = s := by
    obtain ⟨p, n, b, maps, l⟩ := s
    match maps, ho.maps with
    | [m0, m1, m2, m3], _ => rfl
  unfold M.config_Apply_x
  rw [hms, copy_x20 s ho]
  have hmap : ∀ i, sz s i → (s.Maps.getD i zm_api_Map).Cuts.length ≤ maxLen := fun i h => Nat.le_trans h.1 (by decide)
  have k1 : ∀ mem modes cuts nodes e, cuts.length ≤ 61 → nodes.length ≤ 61 → Sm20 (M.config_Apply_x_k1 1000 c s mem modes cuts nodes e) := fun mem modes cuts nodes e hc hn => sm_bif (fun _ => sm_zero _) fun _ => ⟨_, rfl, small4 ⟨hc, hn⟩ h1 h2 h3⟩
  have k2 : ∀ mem modes cuts nodes e, cuts.length ≤ 61 → nodes.length ≤ 61 → Sm20 (M.config_Apply_x_k2 1000 c s mem modes cuts nodes e) := fun mem modes cuts nodes e hc hn => sm_bif (fun _ => sm_zero _) fun _ => ⟨_, rfl, small4 h0 ⟨hc, hn⟩ h2 h3⟩
  have k3 : ∀ mem modes cuts nodes e, cuts.length ≤ 61 → nodes.length ≤ 61 → Sm20 (M.config_Apply_x_k3 1000 c s mem modes cuts nodes e) := fun mem modes cuts nodes e hc hn => sm_bif (fun _ => sm_zero _) fun _ => ⟨_, rfl, small4 h0 h1 ⟨hc, hn⟩ h3⟩
  have k4 : ∀ mem modes cuts nodes e, cuts.length ≤ 61 → nodes.length ≤ 61 → Sm20 (M.config_Apply_x_k4 1000 c s mem modes cuts nodes e) := fun mem modes cuts nodes e hc hn => sm_bif (fun _ => sm_zero _) fun _ => ⟨_, rfl, small4 h0 h1 h2 ⟨hc, hn⟩⟩
  have wh : M.span_Whole 1000 0 = some ⟨[], [0]⟩ := rfl
  have e61' : (T_api_Map.mk ([] : List ByteArray) [(0 : Int)]).Cuts.length ≤ 61 ∧ (T_api_Map.mk ([] : List ByteArray) [(0 : Int)]).Nodes.length ≤ 61 := by decide
  have spl := fun (i : Nat) (hz : sz s i) => (split_eq 1000 (by omega) (s.Maps.getD i zm_api_Map) s.Nodes c.Shard c.Key (hmap i hz)).1
  have mer := fun (i : Nat) (hz : sz s i) => (merge_eq 1000 (by omega) (s.Maps.getD i zm_api_Map) s.Nodes c.Shard (hmap i hz)).1
  have mov := fun (i : Nat) (hz : sz s i) => (move_eq 1000 (by omega) (s.Maps.getD i zm_api_Map) s.Nodes c.Shard c.Node (hmap i hz)).1
  have cnt1 : ∃ v, M.config_Count 1000 s = some v := ⟨_, (count_eq 1000 (by omega) s hmem).1⟩
  have bth := fun (dc : Int) (h0 : 0 ≤ dc) (h4 : dc < 4) => both_x20 s.Modes hmod dc h0 h4
  have spk := fun (dc : Int) (h0 : 0 ≤ dc) (h4 : dc < 4) => speak_x20 s.Nodes s.Modes hmod ⟨c.Kind, dc, c.Shard, c.Node, c.Mode, c.Key⟩ h0 h4
  have idm : ∀ dc : Int, 0 ≤ dc → dc < 4 → ∃ v, idx s.Members dc = some v := fun dc h0 h4 => by
    obtain ⟨d, rfl⟩ : ∃ d : Nat, dc = d := ⟨dc.toNat, by omega⟩
    exact ⟨_, idx_get (by omega)⟩
  have blk : ∀ (i : Nat) (dc : Int) (K : List Bool → List Int → List ByteArray → List Int → Int → Option (T_config_State × Int)), sz s i → 0 ≤ dc → dc < 4 → (∀ mem modes cuts nodes e, cuts.length ≤ 61 → nodes.length ≤ 61 → Sm20 (K mem modes cuts nodes e)) →
      Sm20 (bif (c.Kind == 2) then (Option.bind (M.config_Count 1000 s) fun x122 => (bif (x122 == 1) then (some ((T_config_State.mk 0 0 (List.replicate 4 false) [(T_api_Map.mk ([] : List ByteArray) ([] : List Int)), (T_api_Map.mk ([] : List ByteArray) ([] : List Int)), (T_api_Map.mk ([] : List ByteArray) ([] : List Int)), (T_api_Map.mk ([] : List ByteArray) ([] : List Int))] (List.replicate 21 0)), 13)) else (Option.bind (idx s.Members dc) fun x125 => (Option.bind (M.config_State_both_x 1000 s.Modes dc) fun x127 => (K (List.set s.Members (Int.toNat dc) false) x127 ([] : List ByteArray) ([] : List Int) 0))))) else (bif (c.Kind == 3) then (Option.bind (M.span_Split 1000 (s.Maps.getD i zm_api_Map) s.Nodes c.Shard c.Key) fun x129 => (K s.Members s.Modes x129.1.Cuts x129.1.Nodes x129.2)) else (bif (c.Kind == 4) then (Option.bind (M.span_Merge 1000 (s.Maps.getD i zm_api_Map) s.Nodes c.Shard) fun x135 => (K s.Members s.Modes x135.1.Cuts x135.1.Nodes x135.2)) else (bif (c.Kind == 5) then (Option.bind (M.span_Move 1000 (s.Maps.getD i zm_api_Map) s.Nodes c.Shard c.Node) fun x141 => (K s.Members s.Modes x141.1.Cuts x141.1.Nodes x141.2)) else (Option.bind (M.config_State_speak_x 1000 s.Nodes s.Modes (T_api_Cmd.mk c.Kind dc c.Shard c.Node c.Mode c.Key)) fun x146 => (K s.Members x146.2 ((s.Maps.getD i zm_api_Map).Cuts) ((s.Maps.getD i zm_api_Map).Nodes) x146.1)))))) := by
    intro i dc K hz hd0 hd4 hK
    refine sm_bif (fun _ => sm_bind cnt1 fun _ _ => sm_bif (fun _ => sm_zero _) fun _ => sm_bind (idm dc hd0 hd4) fun _ _ => sm_bind (bth dc hd0 hd4) fun _ _ => hK _ _ _ _ _ (by decide) (by decide)) fun _ => ?_
    refine sm_bif (fun _ => ?_) fun _ => sm_bif (fun _ => ?_) fun _ => sm_bif (fun _ => ?_) fun _ => sm_bind (spk dc hd0 hd4) fun v _ => hK _ _ _ _ _ (Nat.le_succ_of_le hz.1) (Nat.le_succ_of_le hz.2)
    · rw [spl i hz]; exact hK _ _ _ _ _ (few20_split ..).1 (few20_split ..).2
    · rw [mer i hz]; exact hK _ _ _ _ _ (few20_merge ..).1 (few20_merge ..).2
    · rw [mov i hz]; exact hK _ _ _ _ _ (few20_move ..).1 (few20_move ..).2
  refine sm_bind (o := some s) ⟨_, rfl⟩ fun s' hs' => ?_
  obtain rfl : s = s' := Option.some.inj hs'
  refine sm_bind (by cases decide (c.Kind < 1) <;> exact ⟨_, rfl⟩) fun v50 _ => sm_bif (fun _ => sm_zero _) fun _ => ?_
  refine sm_bind (by cases decide (c.DC < 0) <;> cases decide (c.DC ≥ 4) <;> exact ⟨_, rfl⟩) fun v55 hv => sm_bif (fun _ => sm_zero _) fun hv55 => ?_
  subst hv55
  have hlo : 0 ≤ c.DC := by
    rcases Int.lt_or_le c.DC 0 with h | h
    · rw [decide_eq_true h] at hv; cases hv
    · exact h
  have hhi : c.DC < 4 := by
    rw [decide_eq_false (by omega : ¬ c.DC < 0)] at hv
    rcases Int.lt_or_le c.DC 4 with h | h
    · exact h
    · rw [decide_eq_true (show c.DC ≥ 4 from h)] at hv; cases hv
  refine sm_bif (fun _ => sm_bind (idm _ hlo hhi) fun _ _ => sm_bif (fun _ => sm_zero _) fun _ => sm_bind (idm _ hlo hhi) fun _ _ => ?_) fun _ => sm_bind (idm _ hlo hhi) fun _ _ => sm_bif (fun _ => sm_zero _) fun _ => ?_
  · refine sm_bif (fun _ => ?_) fun n0 => sm_bif (fun _ => ?_) fun n1 => sm_bif (fun _ => ?_) fun n2 => sm_bif (fun _ => ?_) fun n3 => ?_
    · rw [wh, Option.bind_some]; exact sm_bind (bth 0 (by omega) (by omega)) fun _ _ => ⟨_, rfl, small4 e61' h1 h2 h3⟩
    · rw [wh, Option.bind_some]; exact sm_bind (bth 1 (by omega) (by omega)) fun _ _ => ⟨_, rfl, small4 h0 e61' h2 h3⟩
    · rw [wh, Option.bind_some]; exact sm_bind (bth 2 (by omega) (by omega)) fun _ _ => ⟨_, rfl, small4 h0 h1 e61' h3⟩
    · rw [wh, Option.bind_some]; exact sm_bind (bth 3 (by omega) (by omega)) fun _ _ => ⟨_, rfl, small4 h0 h1 h2 e61'⟩
    · simp only [beq_eq_false_iff_ne, ne_eq] at n0 n1 n2 n3; omega
  · rw [hms]
    refine sm_bif (fun _ => ?_) fun n0 => sm_bif (fun _ => ?_) fun n1 => sm_bif (fun _ => ?_) fun n2 => sm_bif (fun _ => ?_) fun n3 => ?_
    · exact blk 0 0 _ z0 (by omega) (by omega) k1
    · exact blk 1 1 _ z1 (by omega) (by omega) k2
    · exact blk 2 2 _ z2 (by omega) (by omega) k3
    · exact blk 3 3 _ z3 (by omega) (by omega) k4
    · simp only [beq_eq_false_iff_ne, ne_eq] at n0 n1 n2 n3; omega
/-- a loop that turns each element of a list, whatever comes behind it -/
theorem turnAll20 {α : Type} (L : Nat → List α → Int → Option Bool) (K : Nat) (g : α → Option α) (rest : List α → Option Bool)
    (h : ∀ fuel y i, L (fuel + 1) y i = bif decide (i < (K : Int)) then (Option.bind (idx y i) fun x => Option.bind (g x) fun z => Option.bind (idx y i) fun _ => L fuel (y.set i.toNat z) (IntKind.i64.wrap (i + 1))) else rest y)
    (hg : ∀ x, ∃ z, g x = some z) (hr : ∀ y, rest y = some true) (hK : K ≤ 100000) : ∀ (fuel i : Nat) (y : List α), y.length = K → K - i < fuel → i ≤ K → L fuel y (i : Int) = some true := by
  intro fuel
  induction fuel with
  | zero => intro i y _ h; omega
  | succ fuel ih =>
    intro i y hy hf hi
    rw [h]
    by_cases hlt : i < K
    · obtain ⟨z, hz⟩ := hg (y[i]'(by omega))
      rw [decide_eq_true (by omega : (i : Int) < (K : Int)), idx_get (by omega : i < y.length)]
      simp only [cond_true, Option.bind_some, hz]
      rw [wrap_succ (by omega)]
      exact ih (i + 1) _ (by rw [List.length_set]; exact hy) (by omega) (by omega)
    · rw [decide_eq_false (by omega : ¬ (i : Int) < (K : Int))]
      exact hr y
theorem other20 (x : ByteArray) : ∃ z, M.law18_other 1000 x = some z := by
  unfold M.law18_other
  cases sEq x (ByteArray.mk #[63]) <;> exact ⟨_, rfl⟩
theorem pLoops20 (s : T_config_State) (b : T_ref18_State) (x : T_config_State × Int) (y : T_config_State) (hx : Small20 x.1) (hy : Small20 y)
    (hend : (Option.bind (Option.bind (M.law18_awake 1000 ) fun x1205 => (bif x1205 then (Option.bind (M.law18_Same 1000 (T_config_State.mk s.Pool s.Nodes s.Members [(T_api_Map.mk ((s.Maps.getD 0 zm_api_Map).Cuts) ((s.Maps.getD 0 zm_api_Map).Nodes)), (T_api_Map.mk ((s.Maps.getD 1 zm_api_Map).Cuts) ((s.Maps.getD 1 zm_api_Map).Nodes)), (T_api_Map.mk ((s.Maps.getD 2 zm_api_Map).Cuts) ((s.Maps.getD 2 zm_api_Map).Nodes)), (T_api_Map.mk ((s.Maps.getD 3 zm_api_Map).Cuts) ((s.Maps.getD 3 zm_api_Map).Nodes))] s.Modes) (T_ref18_State.mk b.Pool b.Nodes b.Members b.Maps b.Modes)) fun x1206 => (some x1206)) else (some false))) fun v1204 => (some v1204)) = some true) :
    M.law18_ConfigOwns_x_L1 1000 1000 s b x y (x.1.Maps.getD 0 zm_api_Map).Cuts 0 = some true := by
  have w16 : ∀ y1 y2 y3 y4 y5 y6 y7 y8 y9 y10 y11 y12 y13 y14 y15 y16, y16.length = (y.Maps.getD 3 zm_api_Map).Nodes.length → M.law18_ConfigOwns_x_L16 1000 1000 s b x y y1 y2 y3 y4 y5 y6 y7 y8 y9 y10 y11 y12 y13 y14 y15 y16 0 = some true := fun y1 y2 y3 y4 y5 y6 y7 y8 y9 y10 y11 y12 y13 y14 y15 y16 h =>
    turnAll20 (fun f z i => M.law18_ConfigOwns_x_L16 1000 f s b x y y1 y2 y3 y4 y5 y6 y7 y8 y9 y10 y11 y12 y13 y14 y15 z i) (y.Maps.getD 3 zm_api_Map).Nodes.length (fun v => some (IntKind.i64.wrap (v + 1))) _ (fun _ _ _ => rfl) (fun _ => ⟨_, rfl⟩) (fun _ => hend) (by have := hy 3 (by omega); omega) 1000 0 y16 h (by have := hy 3 (by omega); omega) (by omega)
  have w15 : ∀ y1 y2 y3 y4 y5 y6 y7 y8 y9 y10 y11 y12 y13 y14 y15, y15.length = (y.Maps.getD 3 zm_api_Map).Cuts.length → M.law18_ConfigOwns_x_L15 1000 1000 s b x y y1 y2 y3 y4 y5 y6 y7 y8 y9 y10 y11 y12 y13 y14 y15 0 = some true := fun y1 y2 y3 y4 y5 y6 y7 y8 y9 y10 y11 y12 y13 y14 y15 h =>
    turnAll20 (fun f z i => M.law18_ConfigOwns_x_L15 1000 f s b x y y1 y2 y3 y4 y5 y6 y7 y8 y9 y10 y11 y12 y13 y14 z i) (y.Maps.getD 3 zm_api_Map).Cuts.length (M.law18_other 1000) _ (fun _ _ _ => rfl) other20 (fun _ => w16 _ _ _ _ _ _ _ _ _ _ _ _ _ _ _ _ rfl) (by have := hy 3 (by omega); omega) 1000 0 y15 h (by have := hy 3 (by omega); omega) (by omega)
  have w14 : ∀ y1 y2 y3 y4 y5 y6 y7 y8 y9 y10 y11 y12 y13 y14, y14.length = (x.1.Maps.getD 3 zm_api_Map).Nodes.length → M.law18_ConfigOwns_x_L14 1000 1000 s b x y y1 y2 y3 y4 y5 y6 y7 y8 y9 y10 y11 y12 y13 y14 0 = some true := fun y1 y2 y3 y4 y5 y6 y7 y8 y9 y10 y11 y12 y13 y14 h =>
    turnAll20 (fun f z i => M.law18_ConfigOwns_x_L14 1000 f s b x y y1 y2 y3 y4 y5 y6 y7 y8 y9 y10 y11 y12 y13 z i) (x.1.Maps.getD 3 zm_api_Map).Nodes.length (fun v => some (IntKind.i64.wrap (v + 1))) _ (fun _ _ _ => rfl) (fun _ => ⟨_, rfl⟩) (fun _ => w15 _ _ _ _ _ _ _ _ _ _ _ _ _ _ _ rfl) (by have := hx 3 (by omega); omega) 1000 0 y14 h (by have := hx 3 (by omega); omega) (by omega)
  have w13 : ∀ y1 y2 y3 y4 y5 y6 y7 y8 y9 y10 y11 y12 y13, y13.length = (x.1.Maps.getD 3 zm_api_Map).Cuts.length → M.law18_ConfigOwns_x_L13 1000 1000 s b x y y1 y2 y3 y4 y5 y6 y7 y8 y9 y10 y11 y12 y13 0 = some true := fun y1 y2 y3 y4 y5 y6 y7 y8 y9 y10 y11 y12 y13 h =>
    turnAll20 (fun f z i => M.law18_ConfigOwns_x_L13 1000 f s b x y y1 y2 y3 y4 y5 y6 y7 y8 y9 y10 y11 y12 z i) (x.1.Maps.getD 3 zm_api_Map).Cuts.length (M.law18_other 1000) _ (fun _ _ _ => rfl) other20 (fun _ => w14 _ _ _ _ _ _ _ _ _ _ _ _ _ _ rfl) (by have := hx 3 (by omega); omega) 1000 0 y13 h (by have := hx 3 (by omega); omega) (by omega)
  have w12 : ∀ y1 y2 y3 y4 y5 y6 y7 y8 y9 y10 y11 y12, y12.length = (y.Maps.getD 2 zm_api_Map).Nodes.length → M.law18_ConfigOwns_x_L12 1000 1000 s b x y y1 y2 y3 y4 y5 y6 y7 y8 y9 y10 y11 y12 0 = some true := fun y1 y2 y3 y4 y5 y6 y7 y8 y9 y10 y11 y12 h =>
    turnAll20 (fun f z i => M.law18_ConfigOwns_x_L12 1000 f s b x y y1 y2 y3 y4 y5 y6 y7 y8 y9 y10 y11 z i) (y.Maps.getD 2 zm_api_Map).Nodes.length (fun v => some (IntKind.i64.wrap (v + 1))) _ (fun _ _ _ => rfl) (fun _ => ⟨_, rfl⟩) (fun _ => w13 _ _ _ _ _ _ _ _ _ _ _ _ _ rfl) (by have := hy 2 (by omega); omega) 1000 0 y12 h (by have := hy 2 (by omega); omega) (by omega)
  have w11 : ∀ y1 y2 y3 y4 y5 y6 y7 y8 y9 y10 y11, y11.length = (y.Maps.getD 2 zm_api_Map).Cuts.length → M.law18_ConfigOwns_x_L11 1000 1000 s b x y y1 y2 y3 y4 y5 y6 y7 y8 y9 y10 y11 0 = some true := fun y1 y2 y3 y4 y5 y6 y7 y8 y9 y10 y11 h =>
    turnAll20 (fun f z i => M.law18_ConfigOwns_x_L11 1000 f s b x y y1 y2 y3 y4 y5 y6 y7 y8 y9 y10 z i) (y.Maps.getD 2 zm_api_Map).Cuts.length (M.law18_other 1000) _ (fun _ _ _ => rfl) other20 (fun _ => w12 _ _ _ _ _ _ _ _ _ _ _ _ rfl) (by have := hy 2 (by omega); omega) 1000 0 y11 h (by have := hy 2 (by omega); omega) (by omega)
  have w10 : ∀ y1 y2 y3 y4 y5 y6 y7 y8 y9 y10, y10.length = (x.1.Maps.getD 2 zm_api_Map).Nodes.length → M.law18_ConfigOwns_x_L10 1000 1000 s b x y y1 y2 y3 y4 y5 y6 y7 y8 y9 y10 0 = some true := fun y1 y2 y3 y4 y5 y6 y7 y8 y9 y10 h =>
    turnAll20 (fun f z i => M.law18_ConfigOwns_x_L10 1000 f s b x y y1 y2 y3 y4 y5 y6 y7 y8 y9 z i) (x.1.Maps.getD 2 zm_api_Map).Nodes.length (fun v => some (IntKind.i64.wrap (v + 1))) _ (fun _ _ _ => rfl) (fun _ => ⟨_, rfl⟩) (fun _ => w11 _ _ _ _ _ _ _ _ _ _ _ rfl) (by have := hx 2 (by omega); omega) 1000 0 y10 h (by have := hx 2 (by omega); omega) (by omega)
  have w9 : ∀ y1 y2 y3 y4 y5 y6 y7 y8 y9, y9.length = (x.1.Maps.getD 2 zm_api_Map).Cuts.length → M.law18_ConfigOwns_x_L9 1000 1000 s b x y y1 y2 y3 y4 y5 y6 y7 y8 y9 0 = some true := fun y1 y2 y3 y4 y5 y6 y7 y8 y9 h =>
    turnAll20 (fun f z i => M.law18_ConfigOwns_x_L9 1000 f s b x y y1 y2 y3 y4 y5 y6 y7 y8 z i) (x.1.Maps.getD 2 zm_api_Map).Cuts.length (M.law18_other 1000) _ (fun _ _ _ => rfl) other20 (fun _ => w10 _ _ _ _ _ _ _ _ _ _ rfl) (by have := hx 2 (by omega); omega) 1000 0 y9 h (by have := hx 2 (by omega); omega) (by omega)
  have w8 : ∀ y1 y2 y3 y4 y5 y6 y7 y8, y8.length = (y.Maps.getD 1 zm_api_Map).Nodes.length → M.law18_ConfigOwns_x_L8 1000 1000 s b x y y1 y2 y3 y4 y5 y6 y7 y8 0 = some true := fun y1 y2 y3 y4 y5 y6 y7 y8 h =>
    turnAll20 (fun f z i => M.law18_ConfigOwns_x_L8 1000 f s b x y y1 y2 y3 y4 y5 y6 y7 z i) (y.Maps.getD 1 zm_api_Map).Nodes.length (fun v => some (IntKind.i64.wrap (v + 1))) _ (fun _ _ _ => rfl) (fun _ => ⟨_, rfl⟩) (fun _ => w9 _ _ _ _ _ _ _ _ _ rfl) (by have := hy 1 (by omega); omega) 1000 0 y8 h (by have := hy 1 (by omega); omega) (by omega)
  have w7 : ∀ y1 y2 y3 y4 y5 y6 y7, y7.length = (y.Maps.getD 1 zm_api_Map).Cuts.length → M.law18_ConfigOwns_x_L7 1000 1000 s b x y y1 y2 y3 y4 y5 y6 y7 0 = some true := fun y1 y2 y3 y4 y5 y6 y7 h =>
    turnAll20 (fun f z i => M.law18_ConfigOwns_x_L7 1000 f s b x y y1 y2 y3 y4 y5 y6 z i) (y.Maps.getD 1 zm_api_Map).Cuts.length (M.law18_other 1000) _ (fun _ _ _ => rfl) other20 (fun _ => w8 _ _ _ _ _ _ _ _ rfl) (by have := hy 1 (by omega); omega) 1000 0 y7 h (by have := hy 1 (by omega); omega) (by omega)
  have w6 : ∀ y1 y2 y3 y4 y5 y6, y6.length = (x.1.Maps.getD 1 zm_api_Map).Nodes.length → M.law18_ConfigOwns_x_L6 1000 1000 s b x y y1 y2 y3 y4 y5 y6 0 = some true := fun y1 y2 y3 y4 y5 y6 h =>
    turnAll20 (fun f z i => M.law18_ConfigOwns_x_L6 1000 f s b x y y1 y2 y3 y4 y5 z i) (x.1.Maps.getD 1 zm_api_Map).Nodes.length (fun v => some (IntKind.i64.wrap (v + 1))) _ (fun _ _ _ => rfl) (fun _ => ⟨_, rfl⟩) (fun _ => w7 _ _ _ _ _ _ _ rfl) (by have := hx 1 (by omega); omega) 1000 0 y6 h (by have := hx 1 (by omega); omega) (by omega)
  have w5 : ∀ y1 y2 y3 y4 y5, y5.length = (x.1.Maps.getD 1 zm_api_Map).Cuts.length → M.law18_ConfigOwns_x_L5 1000 1000 s b x y y1 y2 y3 y4 y5 0 = some true := fun y1 y2 y3 y4 y5 h =>
    turnAll20 (fun f z i => M.law18_ConfigOwns_x_L5 1000 f s b x y y1 y2 y3 y4 z i) (x.1.Maps.getD 1 zm_api_Map).Cuts.length (M.law18_other 1000) _ (fun _ _ _ => rfl) other20 (fun _ => w6 _ _ _ _ _ _ rfl) (by have := hx 1 (by omega); omega) 1000 0 y5 h (by have := hx 1 (by omega); omega) (by omega)
  have w4 : ∀ y1 y2 y3 y4, y4.length = (y.Maps.getD 0 zm_api_Map).Nodes.length → M.law18_ConfigOwns_x_L4 1000 1000 s b x y y1 y2 y3 y4 0 = some true := fun y1 y2 y3 y4 h =>
    turnAll20 (fun f z i => M.law18_ConfigOwns_x_L4 1000 f s b x y y1 y2 y3 z i) (y.Maps.getD 0 zm_api_Map).Nodes.length (fun v => some (IntKind.i64.wrap (v + 1))) _ (fun _ _ _ => rfl) (fun _ => ⟨_, rfl⟩) (fun _ => w5 _ _ _ _ _ rfl) (by have := hy 0 (by omega); omega) 1000 0 y4 h (by have := hy 0 (by omega); omega) (by omega)
  have w3 : ∀ y1 y2 y3, y3.length = (y.Maps.getD 0 zm_api_Map).Cuts.length → M.law18_ConfigOwns_x_L3 1000 1000 s b x y y1 y2 y3 0 = some true := fun y1 y2 y3 h =>
    turnAll20 (fun f z i => M.law18_ConfigOwns_x_L3 1000 f s b x y y1 y2 z i) (y.Maps.getD 0 zm_api_Map).Cuts.length (M.law18_other 1000) _ (fun _ _ _ => rfl) other20 (fun _ => w4 _ _ _ _ rfl) (by have := hy 0 (by omega); omega) 1000 0 y3 h (by have := hy 0 (by omega); omega) (by omega)
  have w2 : ∀ y1 y2, y2.length = (x.1.Maps.getD 0 zm_api_Map).Nodes.length → M.law18_ConfigOwns_x_L2 1000 1000 s b x y y1 y2 0 = some true := fun y1 y2 h =>
    turnAll20 (fun f z i => M.law18_ConfigOwns_x_L2 1000 f s b x y y1 z i) (x.1.Maps.getD 0 zm_api_Map).Nodes.length (fun v => some (IntKind.i64.wrap (v + 1))) _ (fun _ _ _ => rfl) (fun _ => ⟨_, rfl⟩) (fun _ => w3 _ _ _ rfl) (by have := hx 0 (by omega); omega) 1000 0 y2 h (by have := hx 0 (by omega); omega) (by omega)
  have w1 : ∀ y1, y1.length = (x.1.Maps.getD 0 zm_api_Map).Cuts.length → M.law18_ConfigOwns_x_L1 1000 1000 s b x y y1 0 = some true := fun y1 h =>
    turnAll20 (fun f z i => M.law18_ConfigOwns_x_L1 1000 f s b x y  z i) (x.1.Maps.getD 0 zm_api_Map).Cuts.length (M.law18_other 1000) _ (fun _ _ _ => rfl) other20 (fun _ => w2 _ _ rfl) (by have := hx 0 (by omega); omega) 1000 0 y1 h (by have := hx 0 (by omega); omega) (by omega)
  exact w1 _ rfl
theorem pConfigOwns (s : T_config_State) (c : T_api_Cmd) (h1 : s.Members.length = 4) (h2 : s.Maps.length = 4) (h3 : s.Modes.length = 21) : M.law18_ConfigOwns_x 1000 s c = some true := by
  unfold M.law18_ConfigOwns_x
  have hms : (T_config_State.mk s.Pool s.Nodes s.Members [(T_api_Map.mk ((s.Maps.getD 0 zm_api_Map).Cuts) ((s.Maps.getD 0 zm_api_Map).Nodes)), (T_api_Map.mk ((s.Maps.getD 1 zm_api_Map).Cuts) ((s.Maps.getD 1 zm_api_Map).Nodes)), (T_api_Map.mk ((s.Maps.getD 2 zm_api_Map).Cuts) ((s.Maps.getD 2 zm_api_Map).Nodes)), (T_api_Map.mk ((s.Maps.getD 3 zm_api_Map).Cuts) ((s.Maps.getD 3 zm_api_Map).Nodes))] s.Modes) = s := by
    obtain ⟨p, n, b, maps, l⟩ := s
    match maps, h2 with
    | [m0, m1, m2, m3], _ => rfl
  obtain ⟨b, hb, ho⟩ := great18 1000 (by omega) s h1 h2 h3
  rw [hms, hb, cmdD c]
  simp only [Option.bind_some, awake18]
  cases b with
  | true => rfl
  | false =>
    have ho := ho rfl
    obtain ⟨r, hr, hsm⟩ := apply_x20 s c ho
    simp only [cond_false, copy_x20 s ho, hr, told_eq, rsD, Option.bind_some, hms, sameS_refl 1000 (by omega) s ho, Bool.not_true]
    refine pLoops20 s (told s) r s hsm (fun i hi => ⟨Nat.le_succ_of_le (sz_of ho i hi).1, Nat.le_succ_of_le (sz_of ho i hi).2⟩) ?_
    simp only [awake18, Option.bind_some, cond_true, hms, rsD, sameS_refl 1000 (by omega) s ho]
end Go.Cf
