/- Plain facts: indices, numbers, strings, maps by rising keys. -/
import Derived.Laws.BitsLemmas
import Derived.Test.YteeafoagaaedcaaZK2
import Derived.Test.YteeafoagaaedcaaZMt1
import Derived.Test.YteeafoagaaedcaaZMt2
import Derived.Test.YteeafoagaaedcaaZMt4
import Derived.Test.YteeafoagaaedcaaZM1
import Derived.Test.YteeafoagaaedcaaZMtO
namespace Go.Cf
open Go
theorem idx_get {α : Type} {l : List α} {i : Nat} (h : i < l.length) : idx l (i : Int) = some l[i] := by
  simp [idx, h]
theorem wrap_small {x : Int} (h0 : -9223372036854775808 ≤ x) (h1 : x < 9223372036854775808) : IntKind.i64.wrap x = x := by
  rw [IntKind.wrap_i64]; omega
theorem wrap_succ {i : Nat} (h : i < 4611686018427387904) : IntKind.i64.wrap ((i : Int) + 1) = ((i + 1 : Nat) : Int) := by rw [wrap_small] <;> omega
abbrev nil : ByteArray := ByteArray.mk #[]
theorem sEq_refl (a : ByteArray) : sEq a a = true := by simp [sEq]
theorem sEq_iff {a b : ByteArray} : sEq a b = true ↔ a.toList = b.toList := by simp [sEq]
theorem drop_cons {α : Type} {l : List α} {i : Nat} (h : i < l.length) : l.drop i = l[i] :: l.drop (i + 1) := List.drop_eq_getElem_cons h
theorem apd_ok {α : Type} {l m : List α} (h : l.length + m.length < 2147483648) : apd l m = some (l ++ m) := by simp [apd, h]
theorem sEq_dec (a b : ByteArray) : sEq a b = decide (a = b) := by
  cases h : sEq a b with
  | true => exact (decide_eq_true (ba_toList_inj (sEq_iff.1 h))).symm
  | false =>
    refine (decide_eq_false fun e => ?_).symm
    subst e; rw [sEq_refl] at h; cases h
theorem ba_beq (a b : ByteArray) : (a == b) = true ↔ a = b := by
  cases a with | mk a => cases b with | mk b => show (a == b) = true ↔ _; simp
section
variable {K V : Type} [DecidableEq K] [KO K]
omit [KO K] in
theorem mgt_some {l : List (K × V)} {k : K} {v z : V} (h : lFind l k = some v) : mgt (some l) k z = some (v, true) := by simp [mgt, mGet, h]
theorem lPut_length {l : List (K × V)} (h : Srt l) (k : K) (v : V) : (lPut l k v).length = if (lFind l k).isSome then l.length else l.length + 1 := by
  induction l with
  | nil => rfl
  | cons x l ih =>
    obtain ⟨h1, h2⟩ := List.pairwise_cons.1 h
    simp only [lPut]
    split
    · rename_i e; simp [lFind, e]
    · rename_i e
      split
      · rename_i q
        have : lFind (x :: l) k = none := lFind_none.2 fun p hp => by
          rcases List.mem_cons.1 hp with rfl | hp
          · exact e
          · intro e2
            have h3 := h1 p hp
            rw [e2] at h3
            have := KO.tr _ _ _ q h3
            rw [KO.irr] at this; cases this
        rw [this]; rfl
      · have he : lFind (x :: l) k = lFind l k := by
          unfold lFind
          rw [List.find?_cons_of_neg (by simpa using e)]
        rw [he, List.length_cons, ih h2]
        split <;> simp
def inL {K : Type} [DecidableEq K] (left : List K) (k : K) : Bool := decide (k ∈ left)
omit [KO K] in
theorem inL_iff {left : List K} {k : K} : inL left k = true ↔ k ∈ left := by simp [inL]
omit [KO K] in
theorem kRem_lt {left : List K} {k : K} (h : k ∈ left) : (kRem left k).length < left.length := by
  induction left with
  | nil => cases h
  | cons x l ih =>
    simp only [kRem, List.filter_cons] at ih ⊢
    by_cases e : x = k
    · subst e
      simp only [ne_eq, not_true_eq_false, decide_false, Bool.false_eq_true, if_false, List.length_cons]
      exact Nat.lt_succ_of_le (List.length_filter_le _ _)
    · simp only [ne_eq, e, not_false_eq_true, decide_true, if_true, List.length_cons]
      have : k ∈ l := by
        rcases List.mem_cons.1 h with h | h
        · exact absurd h.symm e
        · exact h
      exact Nat.succ_lt_succ (ih this)
omit [KO K] in
theorem mem_kRem {left : List K} {k k' : K} : k' ∈ kRem left k ↔ k' ∈ left ∧ k' ≠ k := by simp [kRem]
omit [KO K] in
theorem inL_kRem {left : List K} {k k' : K} : inL (kRem left k) k' = (inL left k' && decide (k' ≠ k)) := by
  unfold inL
  by_cases h1 : k' ∈ left <;> by_cases h2 : k' = k <;> simp [mem_kRem, h1, h2]
theorem Srt.inj {l : List (K × V)} (h : Srt l) {x y : K × V} (hx : x ∈ l) (hy : y ∈ l) (e : x.1 = y.1) : x = y := by
  obtain ⟨i, hi⟩ := List.mem_iff_getElem?.1 hx
  obtain ⟨j, hj⟩ := List.mem_iff_getElem?.1 hy
  have h1 := lFind_at h.nodup hi
  have h2 := lFind_at h.nodup hj
  rw [e, h2] at h1
  exact Prod.ext e (Option.some.inj h1).symm
theorem Srt.find {l : List (K × V)} (h : Srt l) {x : K × V} (hx : x ∈ l) : lFind l x.1 = some x.2 := by
  obtain ⟨i, hi⟩ := List.mem_iff_getElem?.1 hx
  exact lFind_at h.nodup hi
end
end Go.Cf
namespace Go.Cf
open Go
abbrev Ver := T_api_Ver
def noVer : Ver := ⟨ByteArray.empty, ByteArray.empty, false, 0, 0, 0⟩
theorem cEq_v (a b : Ver) : cEq (flat [(1, [.string (a.Key)]), (1, [.string (a.Val)]), (1, [.bool (a.Gone)]), (1, [.int .u64 (a.TS)]), (1, [.int .i64 (a.DC)]), (1, [.int .i64 (a.Tx)])]) (flat [(1, [.string (b.Key)]), (1, [.string (b.Val)]), (1, [.bool (b.Gone)]), (1, [.int .u64 (b.TS)]), (1, [.int .i64 (b.DC)]), (1, [.int .i64 (b.Tx)])]) = true ↔ a = b := by
  cases a; cases b
  simp [flat, cEq, vEq, ba_beq]
instance : DecidableEq Ver := fun a b => decidable_of_iff _ (cEq_v a b)
/-- is a's mark ahead of b's? -/
def ltM (a b : Ver) : Bool := if a.TS = b.TS then (if a.DC = b.DC then decide (a.Tx < b.Tx) else decide (a.DC < b.DC)) else decide (a.TS < b.TS)
/-- have both the same mark? -/
def eqM (a b : Ver) : Bool := decide (a.TS = b.TS ∧ a.DC = b.DC ∧ a.Tx = b.Tx)
def cmpM (a b : Ver) : Int := if eqM a b then 0 else if ltM a b then -1 else 1
theorem eqM_iff {a b : Ver} : eqM a b = true ↔ a.TS = b.TS ∧ a.DC = b.DC ∧ a.Tx = b.Tx := by simp [eqM]
theorem eqM_symm {a b : Ver} (h : eqM a b = true) : eqM b a = true := by rw [eqM_iff] at *; exact ⟨h.1.symm, h.2.1.symm, h.2.2.symm⟩
theorem ltM_iff {a b : Ver} : ltM a b = true ↔ a.TS < b.TS ∨ (a.TS = b.TS ∧ (a.DC < b.DC ∨ (a.DC = b.DC ∧ a.Tx < b.Tx))) := by
  unfold ltM
  by_cases h1 : a.TS = b.TS
  · rw [if_pos h1]
    by_cases h2 : a.DC = b.DC
    · rw [if_pos h2, decide_eq_true_eq]; omega
    · rw [if_neg h2, decide_eq_true_eq]; omega
  · rw [if_neg h1, decide_eq_true_eq]; omega
theorem ltM_false {a b : Ver} : ltM a b = false ↔ ¬ (a.TS < b.TS ∨ (a.TS = b.TS ∧ (a.DC < b.DC ∨ (a.DC = b.DC ∧ a.Tx < b.Tx)))) := by
  rw [← ltM_iff]; simp
theorem ltM_irr (a : Ver) : ltM a a = false := by rw [ltM_false]; omega
theorem ltM_tr {a b c : Ver} (h : ltM a b = true) (k : ltM b c = true) : ltM a c = true := by rw [ltM_iff] at *; omega
theorem ltM_asy {a b : Ver} (h : ltM a b = true) : ltM b a = false := by rw [ltM_iff] at h; rw [ltM_false]; omega
theorem eqM_of {a b : Ver} (h : ltM a b = false) (k : ltM b a = false) : eqM a b = true := by rw [ltM_false] at *; rw [eqM_iff]; omega
theorem ltM_ne {a b : Ver} (h : ltM a b = true) : eqM a b = false := by
  cases e : eqM a b with
  | false => rfl
  | true => rw [eqM_iff] at e; rw [ltM_iff] at h; omega
theorem eqM_nlt {a b : Ver} (h : eqM a b = true) : ltM a b = false := by
  cases e : ltM a b with
  | false => rfl
  | true => rw [ltM_ne e] at h; cases h
theorem eqM_dec (a b : Ver) : eqM a b = (!ltM a b && !ltM b a) := by
  cases h : eqM a b with
  | true => rw [eqM_nlt h, eqM_nlt (eqM_symm h)]; rfl
  | false =>
    cases h1 : ltM a b with
    | true => rfl
    | false =>
      cases h2 : ltM b a with
      | true => rfl
      | false => rw [eqM_of h1 h2] at h; cases h
theorem ltM_ge' {a b c : Ver} (h : ltM a b = true) (k : ltM c b = false) : ltM a c = true := by rw [ltM_false] at k; rw [ltM_iff] at *; omega
theorem cmp_eq (N : Nat) (a b : Ver) : M.hlc_Cmp N (T_api_Mark.mk a.TS a.DC a.Tx) (T_api_Mark.mk b.TS b.DC b.Tx) = some (cmpM a b) := by
  unfold M.hlc_Cmp M.hlc_sign cmpM eqM ltM
  by_cases h1 : a.TS = b.TS
  · by_cases h2 : a.DC = b.DC
    · by_cases h3 : a.Tx = b.Tx
      · simp [h1, h2, h3]
      · simp only [h1, h2, h3, bne_self_eq_false, cond_false, and_false, decide_false, if_true, Bool.false_eq_true, if_false]
        rw [show (a.Tx != b.Tx) = true by simpa using h3, cond_true]
        by_cases h4 : a.Tx < b.Tx <;> simp [h4]
    · simp only [h1, h2, bne_self_eq_false, cond_false, false_and, and_false, decide_false, if_true, Bool.false_eq_true, if_false]
      rw [show (a.DC != b.DC) = true by simpa using h2, cond_true]
      by_cases h4 : a.DC < b.DC <;> simp [h4]
  · simp only [h1, false_and, decide_false, Bool.false_eq_true, if_false]
    rw [show (a.TS != b.TS) = true by simpa using h1, cond_true]
    by_cases h4 : a.TS < b.TS <;> simp [h4]
theorem cmpM_lt (a b : Ver) : decide (cmpM a b < 0) = ltM a b := by
  unfold cmpM
  rw [eqM_dec]
  cases h1 : ltM a b with
  | true => simp
  | false => cases ltM b a <;> simp
theorem cmpM_ge (a b : Ver) : decide (cmpM a b ≥ 0) = !ltM a b := by
  rw [← cmpM_lt]
  by_cases h : cmpM a b < 0
  · rw [decide_eq_true h, decide_eq_false (by omega)]; rfl
  · rw [decide_eq_false h, decide_eq_true (by omega)]; rfl
theorem cmpM_eq (a b : Ver) : (cmpM a b == 0) = eqM a b := by
  unfold cmpM
  cases eqM a b with
  | true => rfl
  | false => cases ltM a b <;> rfl
theorem cmpM_gt (a b : Ver) : decide (cmpM a b > 0) = ltM b a := by
  unfold cmpM
  rw [eqM_dec]
  cases h1 : ltM a b with
  | true => rw [ltM_asy h1]; rfl
  | false => cases ltM b a <;> simp
/-- what is seen at a time, going on from b -/
def stepB (snap : Int) (b : Option Ver) (x : Ver) : Option Ver := if decide (x.TS ≤ snap) && (match b with | none => true | some y => ltM y x) then some x else b
def seenF (l : List Ver) (snap : Int) : Option Ver := l.foldl (stepB snap) none
/-- the place r is that of b -/
def BI (l : List Ver) (r : Int) (b : Option Ver) : Prop := match b with | none => r = -1 | some v => ∃ j : Nat, r = (j : Int) ∧ l[j]? = some v
def trimF (l : List Ver) (f : Int) : List Ver := match seenF l f with | none => l | some b => l.filter fun x => !ltM x b
theorem at_L1 (N : Nat) (l : List Ver) (snap : Int) (hl : l.length ≤ 1000000) : ∀ (fuel i : Nat) (best : Int) (b : Option Ver), l.length - i < fuel → i ≤ l.length → BI l best b →
    ∃ r, M.chain_at_L1 N fuel l snap best (i : Int) = some r ∧ BI l r ((l.drop i).foldl (stepB snap) b) := fun fuel => by
  induction fuel with
  | zero => intro i best b hf; omega
  | succ fuel ih =>
    intro i best b hf hi hb
    unfold M.chain_at_L1
    rcases Nat.lt_or_ge i l.length with hlt | hge
    · rw [decide_eq_true (show (i : Int) < (l.length : Int) by omega), cond_true, idx_get hlt, drop_cons hlt]
      simp only [Option.bind_some, M.chain_at_k2, List.foldl_cons, wrap_succ (show i < 4611686018427387904 by omega)]
      have hbi : BI l (i : Int) (some l[i]) := ⟨i, rfl, List.getElem?_eq_getElem hlt⟩
      by_cases hts : l[i].TS ≤ snap
      · rw [decide_eq_true hts, cond_true]
        cases b with
        | none =>
          have hb' : best = -1 := hb
          subst hb'
          simp only [Int.reduceNeg, show decide ((-1 : Int) < 0) = true from rfl, cond_true, Option.bind_some]
          have := ih (i + 1) (i : Int) (some l[i]) (by omega) (by omega) hbi
          simpa [stepB, hts] using this
        | some y =>
          obtain ⟨j, rfl, hj⟩ := hb
          obtain ⟨hjl, hjy⟩ := List.getElem?_eq_some_iff.1 hj
          rw [decide_eq_false (show ¬ (j : Int) < 0 by omega), cond_false, idx_get hjl, hjy]
          simp only [Option.bind_some, M.hlc_Of, cmp_eq N y l[i], cmpM_lt]
          cases hc : ltM y l[i] with
          | true =>
            have := ih (i + 1) (i : Int) (some l[i]) (by omega) (by omega) hbi
            simpa [stepB, hts, hc] using this
          | false =>
            have := ih (i + 1) (j : Int) (some y) (by omega) (by omega) ⟨j, rfl, hj⟩
            simpa [stepB, hts, hc] using this
      · rw [decide_eq_false hts, cond_false]
        simp only [Option.bind_some, cond_false]
        have := ih (i + 1) best b (by omega) (by omega) hb
        simpa [stepB, hts] using this
    · rw [decide_eq_false (show ¬ (i : Int) < (l.length : Int) by omega), cond_false, List.drop_of_length_le hge]
      exact ⟨best, rfl, hb⟩
theorem at_eq (N : Nat) (l : List Ver) (snap : Int) (hl : l.length ≤ 1000000) (hN : l.length < N) : ∃ r, M.chain_at N l snap = some r ∧ BI l r (seenF l snap) := by
  have := at_L1 N l snap hl N 0 (-1) none (by omega) (Nat.zero_le _) rfl
  rwa [List.drop_zero] at this
theorem At_eq (N : Nat) (l : List Ver) (snap : Int) (hl : l.length ≤ 1000000) (hN : l.length < N) : M.chain_At N l snap = some ((seenF l snap).getD noVer, (seenF l snap).isSome) := by
  obtain ⟨r, h1, h2⟩ := at_eq N l snap hl hN
  unfold M.chain_At
  rw [h1]
  cases hs : seenF l snap with
  | none =>
    rw [hs] at h2
    have h2' : r = -1 := h2
    subst h2'
    rfl
  | some v =>
    rw [hs] at h2
    obtain ⟨j, rfl, hj⟩ := h2
    obtain ⟨hjl, hjy⟩ := List.getElem?_eq_some_iff.1 hj
    simp only [Option.bind_some]
    rw [decide_eq_true (show (j : Int) ≥ 0 by omega), cond_true, idx_get hjl, hjy]
    rfl
theorem trim_L1 (N : Nat) (l : List Ver) (f r : Int) (hr : BI l r (seenF l f)) (hl : l.length ≤ 1000000) : ∀ (fuel i : Nat) (out : List Ver), l.length - i < fuel → i ≤ l.length → out.length ≤ i →
    M.chain_Trim_L1 N fuel l r out (i : Int) = some (out ++ (l.drop i).filter (fun x => match seenF l f with | none => true | some b => !ltM x b), (l.length : Int) - ((out ++ (l.drop i).filter (fun x => match seenF l f with | none => true | some b => !ltM x b)).length : Int)) := fun fuel => by
  induction fuel with
  | zero => intro i out hf; omega
  | succ fuel ih =>
    intro i out hf hi ho
    unfold M.chain_Trim_L1
    rcases Nat.lt_or_ge i l.length with hlt | hge
    · rw [decide_eq_true (show (i : Int) < (l.length : Int) by omega), cond_true, idx_get hlt, drop_cons hlt]
      simp only [Option.bind_some, M.chain_Trim_k2, List.filter_cons, wrap_succ (show i < 4611686018427387904 by omega)]
      have hk : (bif decide (r < 0) then some true else (Option.bind (M.hlc_Of N l[i]) fun x79 => Option.bind (idx l r) fun x80 => Option.bind (M.hlc_Of N x80) fun x83 => Option.bind (M.hlc_Cmp N (T_api_Mark.mk x79.TS x79.DC x79.Tx) (T_api_Mark.mk x83.TS x83.DC x83.Tx)) fun x84 => some (decide (x84 ≥ 0)))) = some (match seenF l f with | none => true | some b => !ltM l[i] b) := by
        cases hs : seenF l f with
        | none =>
          rw [hs] at hr
          have hr' : r = -1 := hr
          subst hr'; rfl
        | some y =>
          rw [hs] at hr
          obtain ⟨j, rfl, hj⟩ := hr
          obtain ⟨hjl, hjy⟩ := List.getElem?_eq_some_iff.1 hj
          rw [decide_eq_false (show ¬ (j : Int) < 0 by omega), cond_false, idx_get hjl, hjy]
          simp only [Option.bind_some, M.hlc_Of, cmp_eq N l[i] y, cmpM_ge]
      rw [show (bif decide (r < 0) then some true else (Option.bind (M.hlc_Of N (T_api_Ver.mk l[i].Key l[i].Val l[i].Gone l[i].TS l[i].DC l[i].Tx)) fun x79 => Option.bind (idx l r) fun x80 => Option.bind (M.hlc_Of N (T_api_Ver.mk x80.Key x80.Val x80.Gone x80.TS x80.DC x80.Tx)) fun x83 => Option.bind (M.hlc_Cmp N (T_api_Mark.mk x79.TS x79.DC x79.Tx) (T_api_Mark.mk x83.TS x83.DC x83.Tx)) fun x84 => some (decide (x84 ≥ 0)))) = _ from hk]
      simp only [Option.bind_some]
      cases hb : (match seenF l f with | none => true | some b => !ltM l[i] b) with
      | true =>
        rw [cond_true, apd_ok (by simp; omega)]
        simp only [Option.bind_some, if_true]
        have := ih (i + 1) (out ++ [l[i]]) (by omega) (by omega) (by simp; omega)
        rw [List.append_assoc, List.singleton_append] at this
        exact this
      | false =>
        rw [cond_false]
        simp only [Bool.false_eq_true, if_false]
        exact ih (i + 1) out (by omega) (by omega) (by omega)
    · rw [decide_eq_false (show ¬ (i : Int) < (l.length : Int) by omega), cond_false, List.drop_of_length_le hge, List.filter_nil, List.append_nil, wrap_small (by omega) (by omega)]
theorem trim_filter (l : List Ver) (f : Int) : l.filter (fun x => match seenF l f with | none => true | some b => !ltM x b) = trimF l f := by
  unfold trimF
  cases seenF l f with
  | none => simp
  | some b => rfl
theorem Trim_eq (N : Nat) (l : List Ver) (f : Int) (hl : l.length ≤ 1000000) (hN : l.length < N) : M.chain_Trim N l f = some (trimF l f, (l.length : Int) - ((trimF l f).length : Int)) := by
  obtain ⟨r, h1, h2⟩ := at_eq N l f hl hN
  unfold M.chain_Trim
  rw [h1]
  simp only [Option.bind_some]
  have := trim_L1 N l f r h2 hl N 0 [] (by omega) (Nat.zero_le _) (by simp)
  simp only [List.drop_zero, List.nil_append, trim_filter] at this
  exact this
/-- a chain with one more -/
def insM (l : List Ver) (v : Ver) : List Ver := match l.findIdx? (fun x => ltM v x) with | none => l ++ [v] | some j => l.take j ++ v :: l.drop j
def putF (l : List Ver) (v : Ver) : List Ver × Int := match l.find? (fun x => eqM x v) with | some x => ([], if x = v then 8 else 3) | none => (insM l v, 0)
def BP (r : Int) (o : Option Nat) : Prop := match o with | none => r = -1 | some j => r = (j : Int)
theorem put_k3 (N : Nat) (l : List Ver) (v : Ver) (hl : l.length ≤ 1000000) (j : Nat) (hj : j ≤ l.length) : M.chain_Put_k3 N l v (j : Int) = some (l.take j ++ v :: l.drop j, 0) := by
  unfold M.chain_Put_k3
  rw [wrap_succ (by omega)]
  have hm : mkc ((l.length + 1 : Nat) : Int) = some (l.length + 1) := by
    unfold mkc
    rw [if_pos (by omega)]
    simp
  have hs1 : slc l 0 (j : Int) = some (l.take j) := by
    unfold slc
    rw [if_pos (by omega)]
    simp
  have hs2 : slc l (j : Int) (l.length : Int) = some (l.drop j) := by
    unfold slc
    rw [if_pos (by omega)]
    simp
  rw [hm]
  simp only [Option.bind_some, hs1, hs2]
  rw [apd_ok (by simp; omega)]
  simp only [Option.bind_some, List.nil_append]
  rw [apd_ok (by simp; omega)]
  simp only [Option.bind_some]
  rw [apd_ok (by simp; omega)]
  simp
theorem put_L1 (N : Nat) (l : List Ver) (v : Ver) (hl : l.length ≤ 1000000) : ∀ (fuel i : Nat) (r : Int), l.length - i < fuel → i ≤ l.length → (l.take i).find? (fun x => eqM x v) = none → BP r ((l.take i).findIdx? (fun x => ltM v x)) →
    M.chain_Put_L1 N fuel l v r (i : Int) = some (putF l v) := fun fuel => by
  induction fuel with
  | zero => intro i r hf; omega
  | succ fuel ih =>
    intro i r hf hi hn hr
    unfold M.chain_Put_L1
    rcases Nat.lt_or_ge i l.length with hlt | hge
    · rw [decide_eq_true (show (i : Int) < (l.length : Int) by omega), cond_true, idx_get hlt]
      simp only [Option.bind_some, M.chain_Put_k2, M.hlc_Of, cmp_eq N l[i] v, cmpM_eq, cmpM_gt, wrap_succ (show i < 4611686018427387904 by omega)]
      have htk : l.take (i + 1) = l.take i ++ [l[i]] := by rw [List.take_add_one, List.getElem?_eq_getElem hlt]; rfl
      cases he : eqM l[i] v with
      | true =>
        have hf : l.find? (fun x => eqM x v) = some l[i] := by
          have hsp : l.find? (fun x => eqM x v) = (l.take i ++ l[i] :: l.drop (i + 1)).find? (fun x => eqM x v) := by rw [← drop_cons hlt, List.take_append_drop]
          rw [hsp, List.find?_append, hn, Option.none_or]
          exact List.find?_cons_of_pos (p := fun x => eqM x v) he
        simp only [cond_true, Option.bind_some]
        unfold putF
        rw [hf]
        simp only
        by_cases hv : l[i] = v
        · rw [(cEq_v l[i] v).2 hv, cond_true, if_pos hv]
        · have : cEq (flat [(1, [.string (l[i].Key)]), (1, [.string (l[i].Val)]), (1, [.bool (l[i].Gone)]), (1, [.int .u64 (l[i].TS)]), (1, [.int .i64 (l[i].DC)]), (1, [.int .i64 (l[i].Tx)])]) (flat [(1, [.string (v.Key)]), (1, [.string (v.Val)]), (1, [.bool (v.Gone)]), (1, [.int .u64 (v.TS)]), (1, [.int .i64 (v.DC)]), (1, [.int .i64 (v.Tx)])]) = false := by
            rw [Bool.eq_false_iff, ne_eq, cEq_v]; exact hv
          rw [this, cond_false, if_neg hv]
      | false =>
        simp only [cond_false, Option.bind_some]
        have hn' : (l.take (i + 1)).find? (fun x => eqM x v) = none := by
          rw [htk, List.find?_append, hn]; simp [he]
        have hfi : (l.take (i + 1)).findIdx? (fun x => ltM v x) = match (l.take i).findIdx? (fun x => ltM v x) with | some j => some j | none => if ltM v l[i] then some i else none := by
          rw [htk, List.findIdx?_append]
          cases (l.take i).findIdx? (fun x => ltM v x) with
          | some j => simp
          | none => simp [List.findIdx?_cons, List.length_take, Nat.min_eq_left hi]
        cases ho : (l.take i).findIdx? (fun x => ltM v x) with
        | none =>
          rw [ho] at hr hfi
          have hr' : r = -1 := hr
          subst hr'
          cases hg : ltM v l[i] with
          | true =>
            rw [hg] at hfi
            simp only [cond_true, Option.bind_some, show decide ((-1 : Int) < 0) = true from rfl]
            exact ih (i + 1) (i : Int) (by omega) (by omega) hn' (by rw [hfi]; rfl)
          | false =>
            rw [hg] at hfi
            simp only [cond_false, Option.bind_some]
            exact ih (i + 1) (-1) (by omega) (by omega) hn' (by rw [hfi]; rfl)
        | some j =>
          rw [ho] at hr hfi
          have hr' : r = (j : Int) := hr
          subst hr'
          cases hg : ltM v l[i] with
          | true =>
            simp only [cond_true, Option.bind_some, decide_eq_false (show ¬ (j : Int) < 0 by omega), cond_false]
            exact ih (i + 1) (j : Int) (by omega) (by omega) hn' (by rw [hfi]; rfl)
          | false =>
            simp only [cond_false, Option.bind_some]
            exact ih (i + 1) (j : Int) (by omega) (by omega) hn' (by rw [hfi]; rfl)
    · rw [decide_eq_false (show ¬ (i : Int) < (l.length : Int) by omega), cond_false]
      rw [List.take_of_length_le hge] at hn hr
      unfold putF
      rw [hn]
      simp only
      unfold insM
      cases ho : l.findIdx? (fun x => ltM v x) with
      | none =>
        rw [ho] at hr
        have hr' : r = -1 := hr
        subst hr'
        rw [show decide ((-1 : Int) < 0) = true from rfl, cond_true, put_k3 N l v hl l.length (Nat.le_refl _)]
        simp
      | some j =>
        rw [ho] at hr
        have hr' : r = (j : Int) := hr
        subst hr'
        have hjl : j < l.length := (List.findIdx?_eq_some_iff_getElem.1 ho).1
        rw [decide_eq_false (show ¬ (j : Int) < 0 by omega), cond_false, put_k3 N l v hl j (by omega)]
theorem Put_eq (N : Nat) (l : List Ver) (v : Ver) (hl : l.length ≤ 1000000) (hN : l.length < N) : M.chain_Put N l v = some (putF l v) :=
  put_L1 N l v hl N 0 (-1) (by omega) (Nat.zero_le _) rfl rfl
end Go.Cf
namespace Go.Cf
open Go
abbrev SL := List (ByteArray × List Ver)
/-- what is wrong with a version -/
def chk (v : Ver) : Int := if v.Key.size > 16 ∨ v.Val.size > 64 then 6 else if v.Key = nil ∨ (v.Gone = true ∧ v.Val ≠ nil) ∨ v.DC < 0 ∨ v.DC ≥ 4 ∨ v.Tx < 0 ∨ v.Tx > 1073741824 then 1 else 0
theorem check_eq (N : Nat) (v : Ver) : M.store_Check N v = some (chk v) := by
  unfold M.store_Check chk
  by_cases h1 : v.Key.size > 16
  · rw [decide_eq_true (show ((v.Key.size : Nat) : Int) > 16 by omega)]; simp [h1]
  · rw [decide_eq_false (show ¬ ((v.Key.size : Nat) : Int) > 16 by omega), cond_false]
    by_cases h2 : v.Val.size > 64
    · rw [decide_eq_true (show ((v.Val.size : Nat) : Int) > 64 by omega)]; simp [h2]
    · rw [decide_eq_false (show ¬ ((v.Val.size : Nat) : Int) > 64 by omega), if_neg (by omega)]
      simp only [Option.bind_some, cond_false, sEq_dec]
      by_cases h3 : v.Key = nil
      · simp [h3]
      · rw [decide_eq_false h3, cond_false]
        have hrest : (bif decide (v.DC < 0) then some true else bif decide (v.DC ≥ 4) then some true else bif decide (v.Tx < 0) then some true else some (decide (v.Tx > 1073741824))) = some (decide (v.DC < 0 ∨ v.DC ≥ 4 ∨ v.Tx < 0 ∨ v.Tx > 1073741824)) := by
          by_cases a1 : v.DC < 0
          · simp [a1]
          · by_cases a2 : v.DC ≥ 4
            · simp [a1, a2]
            · by_cases a3 : v.Tx < 0
              · simp [a1, a2, a3]
              · simp [a1, a2, a3]
        rw [hrest]
        cases hg : v.Gone with
        | false =>
          simp only [cond_false, Option.bind_some, h3, Bool.false_eq_true, false_and, false_or]
          by_cases h4 : v.DC < 0 ∨ v.DC ≥ 4 ∨ v.Tx < 0 ∨ v.Tx > 1073741824
          · rw [decide_eq_true h4, if_pos h4]; rfl
          · rw [decide_eq_false h4, if_neg h4]; rfl
        | true =>
          simp only [cond_true, h3, true_and, false_or]
          by_cases h5 : v.Val = nil
          · simp only [h5, decide_true, Bool.not_true, cond_false, Option.bind_some, ne_eq, not_true_eq_false, false_or]
            by_cases h4 : v.DC < 0 ∨ v.DC ≥ 4 ∨ v.Tx < 0 ∨ v.Tx > 1073741824
            · rw [decide_eq_true h4, if_pos h4]; rfl
            · rw [decide_eq_false h4, if_neg h4]; rfl
          · simp [h5]
theorem chk_key {v : Ver} (h : chk v = 0) : v.Key.size ≤ 16 ∧ v.Key ≠ nil := by
  unfold chk at h
  split at h
  · omega
  · split at h
    · omega
    · rename_i h1 h2
      exact ⟨by omega, fun e => h2 (.inl e)⟩
/-- a key's chain -/
def chOf (l : SL) (k : ByteArray) : List Ver := (lFind l k).getD []
theorem mgt_chOf (l : SL) (k : ByteArray) : mgt (some l) k ([] : List Ver) = some (chOf l k, (lFind l k).isSome) := rfl
def putE (l : SL) (f : Int) (v : Ver) : Int :=
  if chk v ≠ 0 then chk v else if (putF (chOf l v.Key) v).2 ≠ 0 then (putF (chOf l v.Key) v).2 else match seenF (chOf l v.Key) f with | some x => if ltM v x then 11 else 0 | none => 0
def putL (l : SL) (f : Int) (v : Ver) : SL := if putE l f v = 0 then lPut l v.Key (trimF (putF (chOf l v.Key) v).1 f) else l
theorem insM_length (l : List Ver) (v : Ver) : (insM l v).length = l.length + 1 := by
  unfold insM
  cases h : l.findIdx? (fun x => ltM v x) with
  | none => simp
  | some j =>
    have hj : j < l.length := (List.findIdx?_eq_some_iff_getElem.1 h).1
    simp; omega
theorem putF_length (l : List Ver) (v : Ver) : (putF l v).1.length ≤ l.length + 1 := by
  unfold putF
  cases l.find? (fun x => eqM x v) with
  | none => simp only [insM_length]; exact Nat.le_refl _
  | some x => simp
theorem trimF_length (l : List Ver) (f : Int) : (trimF l f).length ≤ l.length := by
  unfold trimF
  cases seenF l f with
  | none => exact Nat.le_refl _
  | some b => exact List.length_filter_le _ _
theorem put_eq (N : Nat) (l : SL) (f : Int) (v : Ver) (hl : (chOf l v.Key).length < 1000000) (hN : (chOf l v.Key).length + 1 < N) :
    M.store_Store_Put N ⟨some l, f⟩ v = some (putE l f v, ⟨some (putL l f v), f⟩) := by
  unfold M.store_Store_Put
  rw [show M.store_Check N (T_api_Ver.mk v.Key v.Val v.Gone v.TS v.DC v.Tx) = _ from check_eq N v]
  simp only [Option.bind_some, mgt_chOf]
  by_cases h1 : chk v = 0
  · rw [show (chk v != 0) = false by simp [h1], cond_false]
    rw [show M.chain_Put N (chOf l v.Key) (T_api_Ver.mk v.Key v.Val v.Gone v.TS v.DC v.Tx) = _ from Put_eq N _ v (by omega) (by omega)]
    simp only [Option.bind_some]
    by_cases h2 : (putF (chOf l v.Key) v).2 = 0
    · rw [show ((putF (chOf l v.Key) v).2 != 0) = false by simp [h2], cond_false, At_eq N _ f (by omega) (by omega)]
      have h3 := putF_length (chOf l v.Key) v
      have hT := Trim_eq N (putF (chOf l v.Key) v).1 f (by omega) (by omega)
      have hE : putE l f v = match seenF (chOf l v.Key) f with | some x => if ltM v x then 11 else 0 | none => 0 := by
        unfold putE; rw [if_neg (by simp [h1]), if_neg (by simp [h2])]
      simp only [Option.bind_some]
      have hok : putE l f v = 0 → putL l f v = lPut l v.Key (trimF (putF (chOf l v.Key) v).1 f) := fun h => by unfold putL; rw [if_pos h]
      have hno : putE l f v = 11 → putL l f v = l := fun h => by unfold putL; rw [if_neg (by omega)]
      cases hs : seenF (chOf l v.Key) f with
      | none =>
        rw [hs] at hE
        rw [hok hE, hE]
        simp only [Option.isSome_none, cond_false, Option.bind_some, hT, mPut, Option.map_some]
      | some x =>
        rw [hs] at hE
        simp only [Option.isSome_some, Option.getD_some, cond_true, M.hlc_Of, Option.bind_some, cmp_eq N v x, cmpM_lt]
        cases hx : ltM v x with
        | true =>
          simp only [hx, if_true] at hE
          rw [hno hE, hE]; rfl
        | false =>
          simp only [hx, Bool.false_eq_true, if_false] at hE
          rw [hok hE, hE]
          simp only [cond_false, hT, Option.bind_some, mPut, Option.map_some]
    · have hE : putE l f v = (putF (chOf l v.Key) v).2 := by unfold putE; rw [if_neg (by simp [h1]), if_pos h2]
      have hL : putL l f v = l := by unfold putL; rw [if_neg (by rw [hE]; exact h2)]
      rw [show ((putF (chOf l v.Key) v).2 != 0) = true by simp [h2], cond_true, hE, hL]
  · have hE : putE l f v = chk v := by unfold putE; rw [if_pos h1]
    have hL : putL l f v = l := by unfold putL; rw [if_neg (by rw [hE]; exact h1)]
    rw [show (chk v != 0) = true by simp [h1], cond_true, hE, hL]
/-- what holds of every store: keys rise and are short; there are at most n chains, and n versions -/
def totL (l : SL) : Nat := (l.map fun p => p.2.length).sum
structure SB10 (l : SL) (n : Nat) : Prop where
  srt : Srt l
  key : ∀ p ∈ l, p.1.size ≤ 16
  len : l.length ≤ n
  tot : totL l ≤ n
theorem SB10.mono {l : SL} {n m : Nat} (h : SB10 l n) (hm : n ≤ m) : SB10 l m := ⟨h.srt, h.key, Nat.le_trans h.len hm, Nat.le_trans h.tot hm⟩
theorem SB10.nil : SB10 [] 0 := ⟨List.Pairwise.nil, (fun _ h => by cases h), Nat.le_refl _, Nat.le_refl _⟩
theorem sum_zero {α : Type} (l : List α) : (l.map fun _ => 0).sum = 0 := by
  induction l with
  | nil => rfl
  | cons x l ih => simpa using ih
theorem sum_le {α : Type} {l : List α} {a b : α → Nat} (h : ∀ q ∈ l, a q ≤ b q) : (l.map a).sum ≤ (l.map b).sum := by
  induction l with
  | nil => exact Nat.le_refl _
  | cons x l ih =>
    have h1 := h x (by simp)
    have h2 := ih fun q hq => h q (List.mem_cons_of_mem _ hq)
    simp only [List.map_cons, List.sum_cons]; omega
theorem chain_le {l : SL} {p : ByteArray × List Ver} (h : p ∈ l) : p.2.length ≤ totL l := by
  induction l with
  | nil => cases h
  | cons x l ih =>
    simp only [totL, List.map_cons, List.sum_cons] at *
    rcases List.mem_cons.1 h with rfl | h
    · omega
    · have := ih h; omega
theorem chOf_mem {l : SL} {k : ByteArray} {c : List Ver} (h : lFind l k = some c) : (k, c) ∈ l ∧ chOf l k = c := ⟨lFind_some h, by unfold chOf; rw [h]; rfl⟩
theorem chOf_le (l : SL) (k : ByteArray) : (chOf l k).length ≤ totL l := by
  cases h : lFind l k with
  | none => unfold chOf; rw [h]; simp
  | some c =>
    obtain ⟨h1, h2⟩ := chOf_mem h
    rw [h2]; exact chain_le h1
theorem lFind_cons (x : ByteArray × List Ver) (l : SL) (k : ByteArray) : lFind (x :: l) k = if x.1 = k then some x.2 else lFind l k := by
  unfold lFind
  by_cases e : x.1 = k
  · rw [List.find?_cons_of_pos (by simpa using e), if_pos e]; rfl
  · rw [List.find?_cons_of_neg (by simpa using e), if_neg e]
theorem lt_find {l : SL} {k : ByteArray} {x : ByteArray × List Ver} (h : Srt (x :: l)) (hk : KO.lt k x.1 = true) : lFind (x :: l) k = none := by
  obtain ⟨h1, _⟩ := List.pairwise_cons.1 h
  refine lFind_none.2 fun p hp e => ?_
  rcases List.mem_cons.1 hp with rfl | hp
  · rw [e, KO.irr] at hk; cases hk
  · have h3 := KO.tr _ _ _ hk (h1 p hp)
    rw [e, KO.irr] at h3; cases h3
theorem lPut_tot {l : SL} (h : Srt l) (k : ByteArray) (c : List Ver) : totL (lPut l k c) + (chOf l k).length = totL l + c.length := by
  induction l with
  | nil => simp [lPut, totL, chOf, lFind]
  | cons x l ih =>
    obtain ⟨_, h2⟩ := List.pairwise_cons.1 h
    simp only [lPut]
    by_cases e : x.1 = k
    · rw [if_pos e]
      have : chOf (x :: l) k = x.2 := by unfold chOf; rw [lFind_cons, if_pos e]; rfl
      rw [this]; simp only [totL, List.map_cons, List.sum_cons]; omega
    · rw [if_neg e]
      by_cases q : KO.lt k x.1 = true
      · rw [if_pos q]
        have : chOf (x :: l) k = [] := by unfold chOf; rw [lt_find h q]; rfl
        rw [this]; simp only [totL, List.map_cons, List.sum_cons, List.length_nil]; omega
      · rw [if_neg q]
        have he : chOf (x :: l) k = chOf l k := by unfold chOf; rw [lFind_cons, if_neg e]
        have := ih h2
        rw [he]; simp only [totL, List.map_cons, List.sum_cons] at *; omega
theorem putL_ok {l : SL} {n : Nat} (h : SB10 l n) (f : Int) (v : Ver) : SB10 (putL l f v) (n + 1) := by
  unfold putL
  split
  · rename_i he
    have hc : chk v = 0 := by
      unfold putE at he
      split at he
      · rename_i h1; exact absurd he h1
      · rename_i h1; simpa using h1
    refine ⟨lPut_srt h.srt _ _, fun p hp => ?_, ?_, ?_⟩
    · rcases lPut_mem hp with rfl | hp
      · exact (chk_key hc).1
      · exact h.key p hp
    · have := lPut_length h.srt v.Key (trimF (putF (chOf l v.Key) v).1 f)
      have := h.len
      split at * <;> omega
    · have h1 := lPut_tot h.srt v.Key (trimF (putF (chOf l v.Key) v).1 f)
      have h2 := trimF_length (putF (chOf l v.Key) v).1 f
      have h3 := putF_length (chOf l v.Key) v
      have := h.tot
      omega
  · exact h.mono (by omega)
/-- versions taken one by one -/
def loadL (f : Int) (l : SL) (vs : List Ver) : SL := vs.foldl (fun l v => putL l f v) l
def loadN (f : Int) (l : SL) : List Ver → Nat
  | [] => 0
  | v :: vs => (if putE l f v = 0 then 1 else 0) + loadN f (putL l f v) vs
theorem loadL_ok {l : SL} {n : Nat} (h : SB10 l n) (f : Int) (vs : List Ver) : SB10 (loadL f l vs) (n + vs.length) := by
  induction vs generalizing l n with
  | nil => exact h
  | cons v vs ih =>
    have := ih (putL_ok h f v)
    rw [List.length_cons, show n + (vs.length + 1) = n + 1 + vs.length by omega]
    exact this
theorem load_L1 (N : Nat) (f : Int) (vs : List Ver) : ∀ (fuel i : Nat) (l : SL) (n m : Nat), vs.length - i < fuel → i ≤ vs.length → SB10 l n → n + (vs.length - i) + 1 < N → n + (vs.length - i) < 1000000 → m + (vs.length - i) < 1000000 → vs.length < 1000000 →
    M.store_Store_Load_L1 N fuel vs (some l) f (m : Int) (i : Int) = some (((m + loadN f l (vs.drop i) : Nat) : Int), ⟨some (loadL f l (vs.drop i)), f⟩) := fun fuel => by
  induction fuel with
  | zero => intro i l n m hf; omega
  | succ fuel ih =>
    intro i l n m hf hi h hN hn hm hv
    unfold M.store_Store_Load_L1
    rcases Nat.lt_or_ge i vs.length with hlt | hge
    · have hc := chOf_le l vs[i].Key
      have ht := h.tot
      rw [decide_eq_true (show (i : Int) < (vs.length : Int) by omega), cond_true, idx_get hlt, drop_cons hlt]
      simp only [Option.bind_some]
      rw [show M.store_Store_Put N (T_store_Store.mk (some l) f) (T_api_Ver.mk vs[i].Key vs[i].Val vs[i].Gone vs[i].TS vs[i].DC vs[i].Tx) = _ from put_eq N l f vs[i] (by omega) (by omega)]
      simp only [Option.bind_some, M.store_Store_Load_k2, wrap_succ (show i < 4611686018427387904 by omega), wrap_succ (show m < 4611686018427387904 by omega)]
      have hp := putL_ok h f vs[i]
      by_cases e : putE l f vs[i] = 0
      · rw [show (putE l f vs[i] == 0) = true by simp [e], cond_true, ih (i + 1) (putL l f vs[i]) (n + 1) (m + 1) (by omega) (by omega) hp (by omega) (by omega) (by omega) hv]
        simp only [loadN, loadL, List.foldl_cons, e, if_true]
        rw [show m + 1 + loadN f (putL l f vs[i]) (vs.drop (i + 1)) = m + (1 + loadN f (putL l f vs[i]) (vs.drop (i + 1))) by omega]
      · rw [show (putE l f vs[i] == 0) = false by simp [e], cond_false, ih (i + 1) (putL l f vs[i]) (n + 1) m (by omega) (by omega) hp (by omega) (by omega) (by omega) hv]
        simp only [loadN, loadL, List.foldl_cons, e, if_false, Nat.zero_add]
    · rw [decide_eq_false (show ¬ (i : Int) < (vs.length : Int) by omega), cond_false, List.drop_of_length_le hge]
      simp [loadN, loadL]
theorem load_eq (N : Nat) (f : Int) (vs : List Ver) (l : SL) (n : Nat) (h : SB10 l n) (hN : n + vs.length + 1 < N) (hn : n + vs.length < 1000000) :
    M.store_Store_Load N ⟨some l, f⟩ vs = some ((loadN f l vs : Int), ⟨some (loadL f l vs), f⟩) := by
  have := load_L1 N f vs N 0 l n 0 (by omega) (Nat.zero_le _) h (by omega) (by omega) (by omega) (by omega)
  simpa [M.store_Store_Load] using this
/-- what is seen -/
def getV (l : SL) (k : ByteArray) (t : Int) : Option Ver := seenF (chOf l k) t
theorem get_eq (N : Nat) (l : SL) (f : Int) (k : ByteArray) (t : Int) (hl : (chOf l k).length < 1000000) (hN : (chOf l k).length < N) :
    M.store_Store_Get N ⟨some l, f⟩ k t = some (if t < f then (noVer, false, 11) else ((getV l k t).getD noVer, (getV l k t).isSome, 0)) := by
  unfold M.store_Store_Get
  by_cases h : t < f
  · rw [decide_eq_true h, if_pos h]; rfl
  · rw [decide_eq_false h, if_neg h, cond_false, mgt_chOf]
    simp only [Option.bind_some]
    rw [At_eq N _ t (by omega) hN]
    rfl
/-- is a key in a span? -/
def wth (k lo hi : ByteArray) : Bool := !sLt k lo && (sEq hi nil || sLt k hi)
theorem within_eq (N : Nat) (k lo hi : ByteArray) : M.span_Within N k lo hi = some (wth k lo hi) := by
  unfold M.span_Within wth
  cases sLt k lo <;> cases sEq hi nil <;> simp_all
def allS (l : SL) (lo hi : ByteArray) : List Ver := (l.filter fun p => wth p.1 lo hi).flatMap (·.2)
theorem allS_cons (x : ByteArray × List Ver) (l : SL) (lo hi : ByteArray) : allS (x :: l) lo hi = (if wth x.1 lo hi then x.2 else []) ++ allS l lo hi := by
  unfold allS
  rw [List.filter_cons]
  split <;> simp
theorem allS_len (l : SL) (lo hi : ByteArray) : (allS l lo hi).length ≤ totL l := by
  induction l with
  | nil => exact Nat.le_refl _
  | cons x l ih =>
    rw [allS_cons]
    simp only [totL, List.map_cons, List.sum_cons, List.length_append] at *
    split
    · omega
    · simp only [List.length_nil]; omega
/-- an iterator's rounds, and what comes behind them -/
def runK {σ : Type} (B : σ → Ver → Option (σ × Bool)) : List Ver → σ → (σ → Option σ) → Option σ
  | [], s, k => k s
  | v :: vs, s, k => Option.bind (B s v) fun r => bif !r.2 then some r.1 else runK B vs r.1 k
theorem runK_append {σ : Type} (B : σ → Ver → Option (σ × Bool)) (xs ys : List Ver) (s : σ) (k : σ → Option σ) : runK B (xs ++ ys) s k = runK B xs s fun s' => runK B ys s' k := by
  induction xs generalizing s with
  | nil => rfl
  | cons x xs ih => simp only [List.cons_append, runK, ih]
theorem all_L3 (N : Nat) {σ : Type} (B : σ → Ver → Option (σ × Bool)) (rec1 : T_store_Store → ByteArray → ByteArray → List ByteArray → Int → σ → Option σ) (st : T_store_Store) (lo hi : ByteArray) (ks : List ByteArray) (i : Int) (c : List Ver) (is : Bool) (hc : c.length < 1000000) :
    ∀ (fuel j : Nat) (s : σ), c.length - j < fuel → j ≤ c.length →
      M.store_Store_All_1_L3 N B rec1 fuel st lo hi ks i (c, is) (j : Int) s = runK B (c.drop j) s fun s' => rec1 st lo hi ks (IntKind.i64.wrap (i + 1)) s' := fun fuel => by
  induction fuel with
  | zero => intro j s hf; omega
  | succ fuel ih =>
    intro j s hf hj
    unfold M.store_Store_All_1_L3
    rcases Nat.lt_or_ge j c.length with hlt | hge
    · simp only
      rw [decide_eq_true (show (j : Int) < (c.length : Int) by omega), cond_true, idx_get hlt, drop_cons hlt]
      simp only [Option.bind_some, runK, wrap_succ (show j < 4611686018427387904 by omega)]
      congr 1
      funext r
      rw [ih (j + 1) r.1 (by omega) (by omega)]
    · simp only
      rw [decide_eq_false (show ¬ (j : Int) < (c.length : Int) by omega), cond_false, List.drop_of_length_le hge]
      rfl
theorem all_L1 (N : Nat) {σ : Type} (B : σ → Ver → Option (σ × Bool)) (l : SL) (f : Int) (lo hi : ByteArray) (hs : Srt l) (hl : l.length < 1000000) (ht : totL l < N) (ht' : totL l < 1000000) :
    ∀ (fuel i : Nat) (s : σ), l.length - i < fuel → i ≤ l.length →
      M.store_Store_All_1_L1 N B fuel ⟨some l, f⟩ lo hi (l.map (·.1)) (i : Int) s = runK B (allS (l.drop i) lo hi) s some := fun fuel => by
  induction fuel with
  | zero => intro i s hf; omega
  | succ fuel ih =>
    intro i s hf hi'
    unfold M.store_Store_All_1_L1
    rcases Nat.lt_or_ge i l.length with hlt | hge
    · have hm : l[i] ∈ l := List.getElem_mem hlt
      have hcl := chain_le hm
      rw [decide_eq_true (show (i : Int) < ((l.map (·.1)).length : Int) by rw [List.length_map]; omega), cond_true, idx_get (by simpa using hlt), drop_cons hlt, allS_cons, runK_append]
      simp only [Option.bind_some, List.getElem_map, within_eq, M.store_Store_All_1_k2]
      have hr : ∀ s', M.store_Store_All_1_L1 N B fuel ⟨some l, f⟩ lo hi (l.map (·.1)) (IntKind.i64.wrap ((i : Int) + 1)) s' = runK B (allS (l.drop (i + 1)) lo hi) s' some := fun s' => by
        rw [wrap_succ (by omega)]; exact ih (i + 1) s' (by omega) (by omega)
      cases hw : wth l[i].1 lo hi with
      | false =>
        simp only [Bool.not_false, cond_true, Bool.false_eq_true, if_false, runK]
        exact hr s
      | true =>
        simp only [Bool.not_true, cond_false, if_true]
        rw [mgt_some (hs.find hm)]
        simp only [Option.bind_some]
        have := all_L3 N B (M.store_Store_All_1_L1 N B fuel) ⟨some l, f⟩ lo hi (l.map (·.1)) (i : Int) l[i].2 true (by omega) N 0 s (by omega) (Nat.zero_le _)
        rw [List.drop_zero] at this
        rw [show (0 : Int) = ((0 : Nat) : Int) from rfl, this]
        congr 1
        funext s'
        exact hr s'
    · rw [decide_eq_false (show ¬ (i : Int) < ((l.map (·.1)).length : Int) by rw [List.length_map]; omega), cond_false, List.drop_of_length_le hge]
      rfl
theorem all_eq (N : Nat) {σ : Type} (B : σ → Ver → Option (σ × Bool)) (l : SL) (f : Int) (lo hi : ByteArray) (n : Nat) (h : SB10 l n) (hN : n < N) (hn : n < 1000000) (s : σ) :
    M.store_Store_All_1 N B ⟨some l, f⟩ lo hi s = runK B (allS l lo hi) s some := by
  have h1 := h.len
  have h2 := h.tot
  have hk : srtK (some l) = some (l.map (·.1)) := by
    unfold srtK
    rw [if_pos]
    · rfl
    · simp only [Bool.and_eq_true, List.all_eq_true, decide_eq_true_eq]
      refine ⟨fun k hk => ?_, by simp [mKeys]; omega⟩
      obtain ⟨p, hp, rfl⟩ := List.mem_map.1 (show k ∈ l.map (·.1) from hk)
      have := h.key p hp
      unfold maxLen; omega
  unfold M.store_Store_All_1
  simp only [M.maps_Keys_map_string___api_Ver_string___api_Ver_, Option.bind_some, hk]
  have := all_L1 N B l f lo hi h.srt (by omega) (by omega) (by omega) N 0 s (by omega) (Nat.zero_le _)
  rw [List.drop_zero] at this
  exact this
def sumIf (p : ByteArray × List Ver → Bool) (g : ByteArray × List Ver → Nat) (l : SL) : Nat := (l.map fun q => if p q then g q else 0).sum
theorem sumIf_congr {p p' : ByteArray × List Ver → Bool} {g : ByteArray × List Ver → Nat} {l : SL} (h : ∀ q ∈ l, p q = p' q) : sumIf p g l = sumIf p' g l := by
  unfold sumIf
  congr 1
  exact List.map_congr_left fun q hq => by rw [h q hq]
theorem sumIf_more {p p' : ByteArray × List Ver → Bool} {g : ByteArray × List Ver → Nat} {l : SL} (hs : Srt l) {x : ByteArray × List Ver} (hx : x ∈ l) (h0 : p x = false) (h1 : p' x = true) (h : ∀ q ∈ l, q ≠ x → p q = p' q) : sumIf p' g l = sumIf p g l + g x := by
  induction l with
  | nil => cases hx
  | cons y l ih =>
    obtain ⟨hy, hl⟩ := List.pairwise_cons.1 hs
    have hc : ∀ (q : ByteArray × List Ver → Bool), sumIf q g (y :: l) = (if q y then g y else 0) + sumIf q g l := fun q => by simp [sumIf]
    rw [hc, hc]
    by_cases e : x = y
    · subst e
      have : sumIf p g l = sumIf p' g l := sumIf_congr fun q hq => h q (List.mem_cons_of_mem _ hq) fun e => by
        have := hy q hq; rw [e, KO.irr] at this; cases this
      rw [this, h0, h1]; simp; omega
    · have hxl : x ∈ l := by rcases List.mem_cons.1 hx with hx | hx; exact absurd hx e; exact hx
      have := ih hl hxl fun q hq => h q (List.mem_cons_of_mem _ hq)
      rw [this, h y (by simp) (Ne.symm e)]; omega
theorem sumIf_le (p : ByteArray × List Ver → Bool) (l : SL) : sumIf p (fun q => q.2.length) l ≤ totL l := by
  induction l with
  | nil => exact Nat.le_refl _
  | cons x l ih =>
    simp only [sumIf, totL, List.map_cons, List.sum_cons] at *
    split <;> omega
/-- all chains are trimmed -/
def trimS (l : SL) (f : Int) : SL := l.map fun p => (p.1, trimF p.2 f)
theorem lPut_old {l : SL} (h : Srt l) {k : ByteArray} (hk : (lFind l k).isSome = true) (c : List Ver) : lPut l k c = l.map fun p => if p.1 = k then (k, c) else p := by
  induction l with
  | nil => cases hk
  | cons x l ih =>
    obtain ⟨h1, h2⟩ := List.pairwise_cons.1 h
    simp only [lPut, List.map_cons]
    by_cases e : x.1 = k
    · rw [if_pos e, if_pos e]
      congr 1
      refine (List.map_id l).symm.trans (List.map_congr_left fun p hp => ?_)
      rw [if_neg fun e2 => ?_]
      · rfl
      · have := h1 p hp; rw [e, e2, KO.irr] at this; cases this
    · rw [if_neg e, if_neg e]
      by_cases q : KO.lt k x.1 = true
      · rw [lt_find h q] at hk; cases hk
      · rw [if_neg q, ih h2 (by rwa [lFind_cons, if_neg e] at hk)]
theorem map_srt {l : SL} (h : Srt l) (g : ByteArray × List Ver → List Ver) : Srt (l.map fun p => (p.1, g p)) := by
  unfold Srt at *
  rw [List.pairwise_map]
  exact h
theorem map_find {l : SL} (g : ByteArray × List Ver → List Ver) {x : ByteArray × List Ver} (h : Srt l) (hx : x ∈ l) : lFind (l.map fun p => (p.1, g p)) x.1 = some (g x) :=
  (map_srt h g).find (List.mem_map.2 ⟨x, hx, rfl⟩)
theorem trim_L1' (N : Nat) (l : SL) (f f' : Int) (hs : Srt l) (ht : totL l < 1000000) (hN : totL l < N) : ∀ (fuel : Nat) (left : List ByteArray), left.length < fuel →
    M.store_Store_Trim_L1 N fuel ⟨some l, f⟩ f' (some (l.map fun p => (p.1, if inL left p.1 then p.2 else trimF p.2 (if f' > f then f' else f)))) (sumIf (fun p => !inL left p.1) (fun q => q.2.length - (trimF q.2 (if f' > f then f' else f)).length) l : Int) left =
      some ((sumIf (fun _ => true) (fun q => q.2.length - (trimF q.2 (if f' > f then f' else f)).length) l : Int), ⟨some (trimS l (if f' > f then f' else f)), if f' > f then f' else f⟩) := fun fuel => by
  generalize hF : (if f' > f then f' else f) = F
  induction fuel with
  | zero => intro left h; omega
  | succ fuel ih =>
    intro left hf
    unfold M.store_Store_Trim_L1
    simp only [hF]
    cases hc : cands (some (l.map fun p => (p.1, if inL left p.1 then p.2 else trimF p.2 F))) left with
    | nil =>
      have hno : ∀ p ∈ l, inL left p.1 = false := fun p hp => by
        cases hpl : inL left p.1 with
        | false => rfl
        | true =>
          have : (p.1, if inL left p.1 then p.2 else trimF p.2 F) ∈ cands (some (l.map fun p => (p.1, if inL left p.1 then p.2 else trimF p.2 F))) left := by
            simp only [cands, Option.getD_some, List.mem_filter, decide_eq_true_eq]
            exact ⟨List.mem_map.2 ⟨p, hp, rfl⟩, inL_iff.1 hpl⟩
          rw [hc] at this; cases this
      simp only [List.isEmpty_nil, cond_true, Option.some.injEq, Prod.mk.injEq, T_store_Store.mk.injEq, and_true]
      refine ⟨?_, ?_⟩
      · congr 1
        exact sumIf_congr fun p hp => by rw [hno p hp]; rfl
      · exact List.map_congr_left fun p hp => by rw [hno p hp]; rfl
    | cons x0 xs =>
      rw [← hc]
      have hne : (cands (some (l.map fun p => (p.1, if inL left p.1 then p.2 else trimF p.2 F))) left).isEmpty = false := by rw [hc]; rfl
      rw [hne, cond_false]
      refine allAgree_mk (by rw [hc]; simp) fun y hy => ?_
      simp only [cands, Option.getD_some, List.mem_filter, decide_eq_true_eq] at hy
      obtain ⟨hym, hyl⟩ := hy
      obtain ⟨x, hxc, rfl⟩ := List.mem_map.1 hym
      simp only at hyl
      have hlt := kRem_lt hyl
      have hcl := chain_le hxc
      simp only [inL_iff.2 hyl, if_true]
      rw [Trim_eq N x.2 F (by omega) (by omega)]
      have hle : sumIf (fun p => !inL left p.1) (fun q => q.2.length - (trimF q.2 F).length) l ≤ totL l := by
        refine Nat.le_trans ?_ (sumIf_le (fun p => !inL left p.1) l)
        unfold sumIf
        refine sum_le fun q hq => ?_
        split
        · exact Nat.sub_le _ _
        · exact Nat.le_refl _
      have htl := trimF_length x.2 F
      have hmore : sumIf (fun p => !inL (kRem left x.1) p.1) (fun q => q.2.length - (trimF q.2 F).length) l = sumIf (fun p => !inL left p.1) (fun q => q.2.length - (trimF q.2 F).length) l + (x.2.length - (trimF x.2 F).length) := by
        refine sumIf_more hs hxc (by simp [inL_iff.2 hyl]) (by simp [inL_kRem]) fun q hq hqx => ?_
        have : q.1 ≠ x.1 := fun e => hqx (hs.inj hq hxc e)
        simp [inL_kRem, this]
      have hfind := map_find (fun p => if inL left p.1 then p.2 else trimF p.2 F) hs hxc
      have hset : mSet (some (l.map fun p => (p.1, if inL left p.1 then p.2 else trimF p.2 F))) x.1 (trimF x.2 F) = some (some (l.map fun p => (p.1, if inL (kRem left x.1) p.1 then p.2 else trimF p.2 F))) := by
        unfold mSet
        rw [if_pos (by simp [mGet, hfind])]
        simp only [mPut, Option.map_some]
        rw [lPut_old (map_srt hs _) (by rw [hfind]; rfl), List.map_map]
        congr 2
        refine List.map_congr_left fun p hp => ?_
        simp only [Function.comp_apply]
        by_cases e : p.1 = x.1
        · have : p = x := hs.inj hp hxc e
          subst this
          simp [inL_kRem]
        · simp [inL_kRem, e]
      simp only [Option.bind_some, hset]
      rw [← ih (kRem left x.1) (by omega)]
      congr 1
      rw [wrap_small (by omega) (by omega), hmore]; omega
def trimN (l : SL) (f : Int) : Nat := sumIf (fun _ => true) (fun q => q.2.length - (trimF q.2 f).length) l
theorem strim_eq (N : Nat) (l : SL) (f f' : Int) (n : Nat) (h : SB10 l n) (hN : n < N) (hn : n < 1000000) :
    M.store_Store_Trim N ⟨some l, f⟩ f' = some ((trimN l (if f' > f then f' else f) : Int), ⟨some (trimS l (if f' > f then f' else f)), if f' > f then f' else f⟩) := by
  have h1 := h.len
  have h2 := h.tot
  have hin : ∀ p ∈ l, inL (mKeys (some l)) p.1 = true := fun p hp => inL_iff.2 (List.mem_map.2 ⟨p, hp, rfl⟩)
  have := trim_L1' N l f f' h.srt (by omega) (by omega) N (mKeys (some l)) (by simp [mKeys]; omega)
  rw [show (l.map fun p => (p.1, if inL (mKeys (some l)) p.1 then p.2 else trimF p.2 (if f' > f then f' else f))) = l from
    (List.map_congr_left fun p hp => by rw [hin p hp]; rfl).trans (List.map_id l)] at this
  rw [show sumIf (fun p => !inL (mKeys (some l)) p.1) (fun q => q.2.length - (trimF q.2 (if f' > f then f' else f)).length) l = 0 from by
    rw [sumIf_congr (p' := fun _ => false) fun p hp => by rw [hin p hp]; rfl]
    exact sum_zero l] at this
  exact this
theorem trimS_ok {l : SL} {n : Nat} (h : SB10 l n) (f : Int) : SB10 (trimS l f) n where
  srt := map_srt h.srt _
  key := fun p hp => by obtain ⟨q, hq, rfl⟩ := List.mem_map.1 hp; exact h.key q hq
  len := by rw [trimS, List.length_map]; exact h.len
  tot := by
    refine Nat.le_trans ?_ h.tot
    unfold totL trimS
    rw [List.map_map]
    exact sum_le fun q _ => trimF_length q.2 f
end Go.Cf
namespace Go.Cf
open Go
theorem snoc_ind {α : Type} {P : List α → Prop} (h0 : P []) (h1 : ∀ l x, P l → P (l ++ [x])) : ∀ l, P l := fun l => by
  rw [← List.reverse_reverse l]
  induction l.reverse with
  | nil => exact h0
  | cons x l ih => rw [List.reverse_cons]; exact h1 _ _ ih
theorem seen_snoc (l : List Ver) (x : Ver) (f : Int) : seenF (l ++ [x]) f = stepB f (seenF l f) x := by simp [seenF, List.foldl_append]
theorem seen_spec (f : Int) : ∀ l : List Ver, match seenF l f with | none => ∀ x ∈ l, ¬ x.TS ≤ f | some b => b ∈ l ∧ b.TS ≤ f ∧ ∀ x ∈ l, x.TS ≤ f → ltM b x = false := by
  refine snoc_ind (by intro x hx; cases hx) fun l x ih => ?_
  rw [seen_snoc]
  cases hs : seenF l f with
  | none =>
    rw [hs] at ih
    simp only at ih
    unfold stepB
    by_cases hx : x.TS ≤ f
    · simp only [hx, decide_true, Bool.true_and, if_true]
      refine ⟨by simp, trivial, fun y hy hyf => ?_⟩
      rcases List.mem_append.1 hy with hy | hy
      · exact absurd hyf (ih y hy)
      · simp only [List.mem_singleton] at hy; subst hy; exact ltM_irr _
    · simp only [hx, decide_false, Bool.false_and, Bool.false_eq_true, if_false]
      intro y hy
      rcases List.mem_append.1 hy with hy | hy
      · exact ih y hy
      · simp only [List.mem_singleton] at hy; subst hy; exact hx
  | some b =>
    rw [hs] at ih
    obtain ⟨h1, h2, h3⟩ := ih
    unfold stepB
    by_cases hx : x.TS ≤ f
    · cases hb : ltM b x with
      | true =>
        simp only [hx, decide_true, Bool.true_and, hb, if_true]
        refine ⟨by simp, trivial, fun y hy hyf => ?_⟩
        rcases List.mem_append.1 hy with hy | hy
        · have := h3 y hy hyf
          cases hc : ltM x y with
          | false => rfl
          | true => rw [ltM_tr hb hc] at this; cases this
        · simp only [List.mem_singleton] at hy; subst hy; exact ltM_irr _
      | false =>
        simp only [hx, decide_true, Bool.true_and, hb, Bool.false_eq_true, if_false]
        refine ⟨List.mem_append.2 (.inl h1), h2, fun y hy hyf => ?_⟩
        rcases List.mem_append.1 hy with hy | hy
        · exact h3 y hy hyf
        · simp only [List.mem_singleton] at hy; subst hy; exact hb
    · simp only [hx, decide_false, Bool.false_and, Bool.false_eq_true, if_false]
      refine ⟨List.mem_append.2 (.inl h1), h2, fun y hy hyf => ?_⟩
      rcases List.mem_append.1 hy with hy | hy
      · exact h3 y hy hyf
      · simp only [List.mem_singleton] at hy; subst hy; exact absurd hyf hx
theorem seen_none {l : List Ver} {f : Int} : seenF l f = none ↔ ∀ x ∈ l, ¬ x.TS ≤ f := by
  have h := seen_spec f l
  cases hs : seenF l f with
  | none => rw [hs] at h; exact ⟨fun _ => h, fun _ => rfl⟩
  | some b => rw [hs] at h; exact ⟨(fun e => by cases e), fun k => absurd h.2.1 (k b h.1)⟩
theorem seen_some {l : List Ver} {f : Int} {b : Ver} (hs : seenF l f = some b) : b ∈ l ∧ b.TS ≤ f ∧ ∀ x ∈ l, x.TS ≤ f → ltM b x = false := by
  have h := seen_spec f l
  rw [hs] at h; exact h
/-- marks rise -/
abbrev Rise (l : List Ver) : Prop := l.Pairwise fun a b => ltM a b = true
theorem Rise.inj {l : List Ver} (h : Rise l) {a b : Ver} (ha : a ∈ l) (hb : b ∈ l) (h1 : ltM a b = false) (h2 : ltM b a = false) : a = b := by
  induction l with
  | nil => cases ha
  | cons x l ih =>
    obtain ⟨hx, hl⟩ := List.pairwise_cons.1 h
    rcases List.mem_cons.1 ha with ea | ha'
    · rcases List.mem_cons.1 hb with eb | hb'
      · rw [ea, eb]
      · rw [ea, hx b hb'] at h1; cases h1
    · rcases List.mem_cons.1 hb with eb | hb'
      · rw [eb, hx a ha'] at h2; cases h2
      · exact ih hl ha' hb'
theorem seen_of {l : List Ver} {f : Int} {b : Ver} (h : Rise l) (hb : b ∈ l) (hf : b.TS ≤ f) (hm : ∀ x ∈ l, x.TS ≤ f → ltM b x = false) : seenF l f = some b := by
  cases hs : seenF l f with
  | none => exact absurd hf (seen_none.1 hs b hb)
  | some c =>
    obtain ⟨h1, h2, h3⟩ := seen_some hs
    rw [h.inj h1 hb (h3 b hb hf) (hm c h1 h2)]
theorem mem_trimF {l : List Ver} {f : Int} {x : Ver} : x ∈ trimF l f ↔ x ∈ l ∧ ∀ b ∈ l, b.TS ≤ f → ltM x b = false := by
  unfold trimF
  cases hs : seenF l f with
  | none => exact ⟨fun h => ⟨h, fun b hb hf => absurd hf (seen_none.1 hs b hb)⟩, fun h => h.1⟩
  | some b =>
    obtain ⟨h1, h2, h3⟩ := seen_some hs
    simp only [List.mem_filter, Bool.not_eq_true']
    refine ⟨fun ⟨hx, hxb⟩ => ⟨hx, fun c hc hcf => ?_⟩, fun ⟨hx, hxb⟩ => ⟨hx, hxb b h1 h2⟩⟩
    cases hxc : ltM x c with
    | false => rfl
    | true => rw [ltM_ge' hxc (h3 c hc hcf)] at hxb; cases hxb
theorem trimF_sub (l : List Ver) (f : Int) : (trimF l f).Sublist l := by
  unfold trimF
  cases seenF l f with
  | none => exact List.Sublist.refl _
  | some b => exact List.filter_sublist
theorem trimF_rise {l : List Ver} (h : Rise l) (f : Int) : Rise (trimF l f) := List.Pairwise.sublist (trimF_sub l f) h
/-- what is seen is kept -/
theorem trim_max {l : List Ver} {f : Int} {b : Ver} (hb : b ∈ l) (hf : b.TS ≤ f) : ∃ m, m ∈ trimF l f ∧ m.TS ≤ f ∧ ltM m b = false ∧ seenF l f = some m := by
  cases hs : seenF l f with
  | none => exact absurd hf (seen_none.1 hs b hb)
  | some m =>
    obtain ⟨h1, h2, h3⟩ := seen_some hs
    exact ⟨m, mem_trimF.2 ⟨h1, h3⟩, h2, h3 b hb hf, rfl⟩
/-- lists that rise and have the same members are the same -/
theorem Rise.ext : ∀ {l l' : List Ver}, Rise l → Rise l' → (∀ x, x ∈ l ↔ x ∈ l') → l = l' := fun {l} => by
  induction l with
  | nil =>
    intro l' _ _ hm
    cases l' with
    | nil => rfl
    | cons y l' => exact absurd ((hm y).2 (by simp)) (by simp)
  | cons x l ih =>
    intro l' h h' hm
    cases l' with
    | nil => exact absurd ((hm x).1 (by simp)) (by simp)
    | cons y l' =>
      obtain ⟨hx, hl⟩ := List.pairwise_cons.1 h
      obtain ⟨hy, hl'⟩ := List.pairwise_cons.1 h'
      have e : x = y := by
        rcases List.mem_cons.1 ((hm x).1 (by simp)) with e | hxl
        · exact e
        · rcases List.mem_cons.1 ((hm y).2 (by simp)) with e | hyl
          · exact e.symm
          · have h1 := hx y hyl
            have h2 := hy x hxl
            rw [ltM_asy h1] at h2; cases h2
      subst e
      rw [ih hl hl' fun z => ?_]
      refine ⟨fun hz => ?_, fun hz => ?_⟩
      · rcases List.mem_cons.1 ((hm z).1 (List.mem_cons_of_mem _ hz)) with e | h
        · subst e; have := hx _ hz; rw [ltM_irr] at this; cases this
        · exact h
      · rcases List.mem_cons.1 ((hm z).2 (List.mem_cons_of_mem _ hz)) with e | h
        · subst e; have := hy _ hz; rw [ltM_irr] at this; cases this
        · exact h
theorem mem_insM {l : List Ver} {v x : Ver} : x ∈ insM l v ↔ x = v ∨ x ∈ l := by
  unfold insM
  cases l.findIdx? (fun x => ltM v x) with
  | none => simp only [List.mem_append, List.mem_singleton]; exact or_comm
  | some j =>
    simp only [List.mem_append, List.mem_cons]
    conv => rhs; rhs; rw [← List.take_append_drop j l, List.mem_append]
    constructor
    · rintro (h | h | h)
      · exact .inr (.inl h)
      · exact .inl h
      · exact .inr (.inr h)
    · rintro (h | h | h)
      · exact .inr (.inl h)
      · exact .inl h
      · exact .inr (.inr h)
theorem insM_rise {l : List Ver} {v : Ver} (h : Rise l) (hn : ∀ x ∈ l, eqM x v = false) : Rise (insM l v) := by
  have tot : ∀ x ∈ l, ltM v x = false → ltM x v = true := fun x hx hf => by
    have := hn x hx
    rw [eqM_dec, hf] at this
    simpa using this
  unfold insM
  cases ho : l.findIdx? (fun x => ltM v x) with
  | none =>
    refine List.pairwise_append.2 ⟨h, List.pairwise_singleton _ _, fun a ha b hb => ?_⟩
    simp only [List.mem_singleton] at hb; subst hb
    have := List.findIdx?_eq_none_iff.1 ho a ha
    exact tot a ha this
  | some j =>
    obtain ⟨hj, h1, h2⟩ := List.findIdx?_eq_some_iff_getElem.1 ho
    have hsp : Rise (l.take j ++ l.drop j) := by rw [List.take_append_drop]; exact h
    obtain ⟨ha, hb, hab⟩ := List.pairwise_append.1 hsp
    have htk : ∀ x ∈ l.take j, ltM x v = true := fun x hx => by
      obtain ⟨i, hi, rfl⟩ := List.getElem_of_mem hx
      have hij : i < j := by have := hi; rw [List.length_take] at this; omega
      rw [List.getElem_take]
      refine tot _ (List.getElem_mem _) ?_
      simpa using h2 i hij
    have hdr : ∀ x ∈ l.drop j, ltM v x = true := fun x hx => by
      rw [drop_cons hj] at hx
      rcases List.mem_cons.1 hx with rfl | hx
      · exact h1
      · rw [drop_cons hj] at hb
        exact ltM_tr h1 ((List.pairwise_cons.1 hb).1 x hx)
    refine List.pairwise_append.2 ⟨ha, List.pairwise_cons.2 ⟨hdr, hb⟩, fun x hx y hy => ?_⟩
    rcases List.mem_cons.1 hy with rfl | hy
    · exact htk x hx
    · exact hab x hx y hy
theorem putF_ok {l : List Ver} {v : Ver} (h : (putF l v).2 = 0) : (∀ x ∈ l, eqM x v = false) ∧ (putF l v).1 = insM l v := by
  unfold putF at *
  cases hf : l.find? (fun x => eqM x v) with
  | none =>
    rw [hf] at h
    refine ⟨fun x hx => ?_, rfl⟩
    have := List.find?_eq_none.1 hf x hx
    simpa using this
  | some x =>
    rw [hf] at h
    simp only at h
    split at h <;> omega
theorem putF_new {l : List Ver} {v : Ver} (h : ∀ x ∈ l, eqM x v = false) : putF l v = (insM l v, 0) := by
  unfold putF
  rw [List.find?_eq_none.2 fun x hx => by rw [h x hx]; decide]
/-- trimmed, grown, trimmed: as if it hadn't been trimmed ahead -/
theorem trim_ins {S : List Ver} {f : Int} {v : Ver} (h : Rise S) (hn : ∀ x ∈ S, eqM x v = false) : trimF (insM (trimF S f) v) f = trimF (insM S v) f := by
  refine Rise.ext (trimF_rise (insM_rise (trimF_rise h f) fun x hx => hn x ((trimF_sub S f).subset hx)) f) (trimF_rise (insM_rise h hn) f) fun x => ?_
  rw [mem_trimF, mem_trimF]
  simp only [mem_insM]
  constructor
  · rintro ⟨h1, h2⟩
    refine ⟨h1.imp id fun k => (trimF_sub S f).subset k, fun b hb hbf => ?_⟩
    rcases hb with rfl | hb
    · exact h2 _ (.inl rfl) hbf
    · obtain ⟨m, hm, hmf, hmb, _⟩ := trim_max hb hbf
      have := h2 m (.inr hm) hmf
      cases hxb : ltM x b with
      | false => rfl
      | true => rw [ltM_ge' hxb hmb] at this; cases this
  · rintro ⟨h1, h2⟩
    refine ⟨?_, fun b hb hbf => h2 b (hb.imp id fun k => (trimF_sub S f).subset k) hbf⟩
    rcases h1 with h1 | h1
    · exact .inl h1
    · exact .inr (mem_trimF.2 ⟨h1, fun b hb hbf => h2 b (.inr hb) hbf⟩)
theorem trim_trim {S : List Ver} {f g : Int} (h : Rise S) (hfg : f ≤ g) : trimF (trimF S f) g = trimF S g := by
  refine Rise.ext (trimF_rise (trimF_rise h f) g) (trimF_rise h g) fun x => ⟨fun h0 => ?_, fun h0 => ?_⟩
  · obtain ⟨h1, h2⟩ := mem_trimF.1 h0
    obtain ⟨h3, h4⟩ := mem_trimF.1 h1
    refine mem_trimF.2 ⟨h3, fun b hb hbg => ?_⟩
    by_cases hbf : b.TS ≤ f
    · exact h4 b hb hbf
    · by_cases hbt : b ∈ trimF S f
      · exact h2 b hbt hbg
      · exfalso
        refine hbt (mem_trimF.2 ⟨hb, fun c hc hcf => ?_⟩)
        rw [ltM_false]; omega
  · obtain ⟨h1, h2⟩ := mem_trimF.1 h0
    exact mem_trimF.2 ⟨mem_trimF.2 ⟨h1, fun b hb hbf => h2 b hb (by omega)⟩, fun b hb hbg => h2 b ((trimF_sub S f).subset hb) hbg⟩
theorem seen_trim {S : List Ver} {f g : Int} (h : Rise S) (hfg : f ≤ g) : seenF (trimF S f) g = seenF S g := by
  cases hs : seenF S g with
  | none =>
    rw [seen_none] at *
    exact fun x hx => hs x ((trimF_sub S f).subset hx)
  | some b =>
    obtain ⟨h1, h2, h3⟩ := seen_some hs
    exact seen_of (trimF_rise h f) (mem_trimF.2 ⟨h1, fun c hc hcf => h3 c hc (by omega)⟩) h2 fun x hx hxg => h3 x ((trimF_sub S f).subset hx) hxg
/-- a version that is older than what is seen changes nothing -/
theorem trim_old {S : List Ver} {f : Int} {v x : Ver} (h : Rise S) (hn : ∀ x ∈ S, eqM x v = false) (hs : seenF S f = some x) (hx : ltM v x = true) : trimF (insM S v) f = trimF S f := by
  obtain ⟨h1, h2, h3⟩ := seen_some hs
  refine Rise.ext (trimF_rise (insM_rise h hn) f) (trimF_rise h f) fun y => ?_
  rw [mem_trimF, mem_trimF]
  simp only [mem_insM]
  constructor
  · rintro ⟨k1, k2⟩
    rcases k1 with rfl | k1
    · have := k2 x (.inr h1) h2
      rw [hx] at this; cases this
    · exact ⟨k1, fun b hb hbf => k2 b (.inr hb) hbf⟩
  · rintro ⟨k1, k2⟩
    refine ⟨.inr k1, fun b hb hbf => ?_⟩
    rcases hb with rfl | hb
    · have := k2 x h1 h2
      cases hyb : ltM y b with
      | false => rfl
      | true => rw [ltM_tr hyb hx] at this; cases this
    · exact k2 b hb hbf
structure ChOk (k : ByteArray) (f : Int) (c : List Ver) : Prop where
  key : ∀ v ∈ c, v.Key = k ∧ chk v = 0
  rise : Rise c
  ne : c ≠ []
  trm : trimF c f = c
structure SOk10 (l : SL) (f : Int) : Prop where
  srt : Srt l
  ch : ∀ p ∈ l, ChOk p.1 f p.2
theorem SOk10.nil (f : Int) : SOk10 [] f := ⟨List.Pairwise.nil, fun _ h => by cases h⟩
theorem SOk10.of {l : SL} {f : Int} (h : SOk10 l f) {k : ByteArray} {c : List Ver} (hc : lFind l k = some c) : ChOk k f c := h.ch (k, c) (lFind_some hc)
theorem SOk10.rise {l : SL} {f : Int} (h : SOk10 l f) (k : ByteArray) : Rise (chOf l k) := by
  unfold chOf
  cases hc : lFind l k with
  | none => exact List.Pairwise.nil
  | some c => exact (h.of hc).rise
theorem SOk10.key {l : SL} {f : Int} (h : SOk10 l f) {k : ByteArray} {v : Ver} (hv : v ∈ chOf l k) : v.Key = k ∧ chk v = 0 := by
  unfold chOf at hv
  cases hc : lFind l k with
  | none => rw [hc] at hv; cases hv
  | some c => rw [hc] at hv; exact (h.of hc).key v hv
theorem SOk10.trm {l : SL} {f : Int} (h : SOk10 l f) (k : ByteArray) : trimF (chOf l k) f = chOf l k := by
  unfold chOf
  cases hc : lFind l k with
  | none => rfl
  | some c => exact (h.of hc).trm
theorem putE_ok {l : SL} {f : Int} {v : Ver} (h : putE l f v = 0) : chk v = 0 ∧ (∀ x ∈ chOf l v.Key, eqM x v = false) ∧ (∀ x, seenF (chOf l v.Key) f = some x → ltM v x = false) ∧ putL l f v = lPut l v.Key (trimF (insM (chOf l v.Key) v) f) := by
  have h0 := h
  unfold putE at h
  split at h
  · rename_i h1; exact absurd h h1
  · rename_i h1
    split at h
    · rename_i h2; exact absurd h h2
    · rename_i h2
      have h1' : chk v = 0 := by simpa using h1
      have h2' : (putF (chOf l v.Key) v).2 = 0 := by simpa using h2
      obtain ⟨h3, h4⟩ := putF_ok h2'
      refine ⟨h1', h3, fun x hx => ?_, ?_⟩
      · rw [hx] at h
        simp only at h
        split at h
        · omega
        · rename_i h5; simpa using h5
      · unfold putL; rw [if_pos h0, h4]
theorem putE_mk {l : SL} {f : Int} {v : Ver} (h1 : chk v = 0) (h2 : ∀ x ∈ chOf l v.Key, eqM x v = false) (h3 : ∀ x, seenF (chOf l v.Key) f = some x → ltM v x = false) : putE l f v = 0 := by
  unfold putE
  rw [if_neg (by simp [h1]), putF_new h2, if_neg (by simp)]
  cases hs : seenF (chOf l v.Key) f with
  | none => rfl
  | some x => simp [h3 x hs]
theorem putL_no {l : SL} {f : Int} {v : Ver} (h : putE l f v ≠ 0) : putL l f v = l := by unfold putL; rw [if_neg h]
theorem awake10 (N : Nat) (hN : 3 ≤ N) : M.law10_awake N = some true := by
  have h1 : M.store_Store_Put N (T_store_Store.mk (some []) 0) (T_api_Ver.mk (ByteArray.mk #[97]) ByteArray.empty false 3 0 0) = _ := put_eq N [] 0 ⟨ByteArray.mk #[97], ByteArray.empty, false, 3, 0, 0⟩ (by decide) (by simp [chOf, lFind]; omega)
  have h2 : putE [] 0 ⟨ByteArray.mk #[97], ByteArray.empty, false, 3, 0, 0⟩ = 0 := by decide +kernel
  have h3 : putL [] 0 ⟨ByteArray.mk #[97], ByteArray.empty, false, 3, 0, 0⟩ = [(ByteArray.mk #[97], [⟨ByteArray.mk #[97], ByteArray.empty, false, 3, 0, 0⟩])] := by
    unfold putL; rw [h2]; rfl
  have h4 : M.store_Store_Get N (T_store_Store.mk (some [(ByteArray.mk #[97], [⟨ByteArray.mk #[97], ByteArray.empty, false, 3, 0, 0⟩])]) 0) (ByteArray.mk #[97]) 3 = _ := get_eq N _ _ _ _ (by simp [chOf, lFind]) (by simp [chOf, lFind]; omega)
  unfold M.law10_awake M.store_New
  simp only [Option.bind_some]
  rw [h1, h2, h3]
  simp only [Option.bind_some, bne_self_eq_false, cond_false]
  rw [h4]
  rfl
theorem few_eq (N : Nat) (l : List Ver) (n : Nat) (hn : n ≤ 1000000) : M.law10_few N l (n : Int) = some (l.take n) := by
  unfold M.law10_few
  have : slc l 0 (if (n : Int) < (l.length : Int) then (n : Int) else (l.length : Int)) = some (l.take n) := by
    unfold slc
    by_cases h : n < l.length
    · rw [if_pos (show (n : Int) < (l.length : Int) by omega), if_pos (by omega)]; simp
    · rw [if_neg (show ¬ (n : Int) < (l.length : Int) by omega), if_pos (by omega)]
      simp [List.take_of_length_le (show l.length ≤ n by omega)]
  rw [this]; rfl
theorem app_run (vs : List Ver) : ∀ (out : List Ver), out.length + vs.length < 1000000 → runK (fun (v72 : ((List T_api_Ver) × Nat)) x18 => bif (v72.2 == 0) then (Option.bind (apd v72.1 [(T_api_Ver.mk x18.Key x18.Val x18.Gone x18.TS x18.DC x18.Tx)]) fun x75 => (some (((x75, 0)), true))) else none) vs (out, 0) some = some (out ++ vs, 0) := by
  induction vs with
  | nil => intro out _; simp [runK]
  | cons v vs ih =>
    intro out h
    simp only [runK, beq_self_eq_true, cond_true, List.length_cons] at *
    rw [apd_ok (by simp; omega)]
    simp only [Option.bind_some, Bool.not_true, cond_false]
    rw [ih (out ++ [T_api_Ver.mk v.Key v.Val v.Gone v.TS v.DC v.Tx]) (by simp; omega)]
    simp
theorem lAll_eq (N : Nat) (l : SL) (f : Int) (lo hi : ByteArray) (n : Nat) (h : SB10 l n) (hN : n < N) (hn : n < 1000000) : M.law10_All N ⟨some l, f⟩ lo hi = some (allS l lo hi) := by
  have h1 := allS_len l lo hi
  have h2 := h.tot
  unfold M.law10_All
  simp only [M.store_Store_All, Option.bind_some]
  rw [all_eq N _ l f lo hi n h hN hn]
  have := app_run (allS l lo hi) [] (by simp; omega)
  rw [List.nil_append] at this
  rw [this]
  rfl
end Go.Cf
namespace Go.Cf
open Go
theorem sameV_L1 (N : Nat) (l : List Ver) (hl : l.length < 4611686018427387904) : ∀ (fuel i : Nat), l.length - i < fuel → i ≤ l.length → M.ref04_SameVers_L1 N fuel l l (i : Int) = some true := fun fuel => by
  induction fuel with
  | zero => intro i hf; omega
  | succ fuel ih =>
    intro i hf hi
    unfold M.ref04_SameVers_L1
    rcases Nat.lt_or_ge i l.length with hlt | hge
    · rw [decide_eq_true (show (i : Int) < (l.length : Int) by omega), cond_true, idx_get hlt]
      simp only [Option.bind_some]
      rw [(cEq_v l[i] l[i]).2 rfl, wrap_succ (by omega)]
      exact ih (i + 1) (by omega) (by omega)
    · rw [decide_eq_false (show ¬ (i : Int) < (l.length : Int) by omega), cond_false]
theorem sameV (N : Nat) (l : List Ver) (hN : l.length < N) (hl : l.length < 4611686018427387904) : M.ref04_SameVers N l l = some true := by
  unfold M.ref04_SameVers
  rw [bne_self_eq_false, cond_false]
  exact sameV_L1 N l hl N 0 (by omega) (Nat.zero_le _)
/-- a chain that doesn't take v -/
def RefC (c : List Ver) (f : Int) (v : Ver) : Prop := (∃ x ∈ c, eqM x v = true) ∨ ∃ x, seenF c f = some x ∧ ltM v x = true
def Ref (l : SL) (f : Int) (v : Ver) : Prop := chk v ≠ 0 ∨ RefC (chOf l v.Key) f v
theorem ref_iff {l : SL} {f : Int} {v : Ver} : putE l f v ≠ 0 ↔ Ref l f v := by
  constructor
  · intro h
    unfold Ref RefC
    by_cases h1 : chk v = 0
    · by_cases h2 : ∃ x ∈ chOf l v.Key, eqM x v = true
      · exact .inr (.inl h2)
      · refine .inr (.inr ?_)
        cases hs : seenF (chOf l v.Key) f with
        | none => exact absurd (putE_mk h1 (fun x hx => by cases e : eqM x v with | false => rfl | true => exact absurd ⟨x, hx, e⟩ h2) (fun x hx => by rw [hs] at hx; cases hx)) h
        | some x =>
          refine ⟨x, rfl, ?_⟩
          cases e : ltM v x with
          | true => rfl
          | false => exact absurd (putE_mk h1 (fun y hy => by cases e : eqM y v with | false => rfl | true => exact absurd ⟨y, hy, e⟩ h2) (fun y hy => by rw [hs] at hy; cases hy; exact e)) h
    · exact .inl h1
  · intro h e
    obtain ⟨h1, h2, h3, _⟩ := putE_ok e
    rcases h with h | ⟨x, hx, he⟩ | ⟨x, hx, he⟩
    · exact h h1
    · rw [h2 x hx] at he; cases he
    · rw [h3 x hx] at he; cases he
end Go.Cf
namespace Go.Cf
open Go
theorem wrap_succ2 {i n : Nat} (h : i < n) (hn : n ≤ 9223372036854775807) : IntKind.i64.wrap ((i : Int) + 1) = ((i + 1 : Nat) : Int) := by rw [wrap_small (by omega) (by omega)]; omega
/-- do both have the same key and mark? -/
def sameKM (x v : Ver) : Bool := sEq x.Key v.Key && (x.TS == v.TS && (x.DC == v.DC && x.Tx == v.Tx))
theorem sameKM_iff {x v : Ver} : sameKM x v = true ↔ x.Key = v.Key ∧ eqM x v = true := by
  unfold sameKM
  rw [sEq_dec, eqM_iff]
  simp
abbrev Dist (l : List Ver) : Prop := l.Pairwise fun a b => sameKM a b = false
theorem sameKM_symm {a b : Ver} (h : sameKM a b = false) : sameKM b a = false := by
  cases e : sameKM b a with
  | false => rfl
  | true =>
    obtain ⟨h1, h2⟩ := sameKM_iff.1 e
    have : sameKM a b = true := sameKM_iff.2 ⟨h1.symm, eqM_symm h2⟩
    rw [this] at h; cases h
theorem once_L3 (N : Nat) (rec1 : List Ver → List Ver → Int → Option (List Ver)) (l : List Ver) (i : Int) (v : Ver) (out : List Ver) (ho : out.length < 1000000) : ∀ (fuel j : Nat), out.length - j < fuel → j ≤ out.length →
    M.law10_once_L3 N rec1 fuel l out i v (j : Int) = (bif (out.drop j).any (fun x => sameKM x v) then rec1 l out (IntKind.i64.wrap (i + 1)) else rec1 l (out ++ [v]) (IntKind.i64.wrap (i + 1))) := fun fuel => by
  induction fuel with
  | zero => intro j hf; omega
  | succ fuel ih =>
    intro j hf hj
    unfold M.law10_once_L3
    rcases Nat.lt_or_ge j out.length with hlt | hge
    · rw [decide_eq_true (show (j : Int) < (out.length : Int) by omega), cond_true, idx_get hlt, drop_cons hlt]
      simp only [Option.bind_some, List.any_cons, M.law10_once_k2, wrap_succ (show j < 4611686018427387904 by omega)]
      have hb : (bif (sEq out[j].Key v.Key) then (bif (out[j].TS == v.TS) then (bif (out[j].DC == v.DC) then (some (out[j].Tx == v.Tx)) else (some false)) else (some false)) else (some false)) = some (sameKM out[j] v) := by
        unfold sameKM
        cases sEq out[j].Key v.Key <;> cases (out[j].TS == v.TS) <;> cases (out[j].DC == v.DC) <;> rfl
      rw [hb]
      simp only [Option.bind_some]
      cases hs : sameKM out[j] v with
      | true => simp
      | false =>
        simp only [cond_false, Bool.false_or]
        exact ih (j + 1) (by omega) (by omega)
    · rw [decide_eq_false (show ¬ (j : Int) < (out.length : Int) by omega), cond_false, apd_ok (by simp; omega), List.drop_of_length_le hge]
      simp [M.law10_once_k2]
theorem once_L1 (N : Nat) (hN : 1000 ≤ N) (l : List Ver) (hl : l.length ≤ 30) : ∀ (fuel i : Nat) (out : List Ver), l.length - i < fuel → i ≤ l.length → out.length ≤ i → Dist out →
    ∃ r, M.law10_once_L1 N fuel l out (i : Int) = some r ∧ r.length ≤ l.length ∧ Dist r := fun fuel => by
  induction fuel with
  | zero => intro i out hf; omega
  | succ fuel ih =>
    intro i out hf hi ho hd
    unfold M.law10_once_L1
    rcases Nat.lt_or_ge i l.length with hlt | hge
    · rw [decide_eq_true (show (i : Int) < (l.length : Int) by omega), cond_true, idx_get hlt]
      simp only [Option.bind_some]
      rw [show (0 : Int) = ((0 : Nat) : Int) from rfl, once_L3 N _ l (i : Int) l[i] out (by omega) N 0 (by omega) (Nat.zero_le _), List.drop_zero, wrap_succ (by omega)]
      cases ha : out.any (fun x => sameKM x l[i]) with
      | true => rw [cond_true]; exact ih (i + 1) out (by omega) (by omega) (by omega) hd
      | false =>
        rw [cond_false]
        refine ih (i + 1) (out ++ [l[i]]) (by omega) (by omega) (by simp; omega) ?_
        refine List.pairwise_append.2 ⟨hd, List.pairwise_singleton _ _, fun a h b hb => ?_⟩
        simp only [List.mem_singleton] at hb
        subst hb
        cases e : sameKM a l[i] with
        | false => rfl
        | true => rw [List.any_eq_true.2 ⟨a, h, e⟩] at ha; cases ha
    · rw [decide_eq_false (show ¬ (i : Int) < (l.length : Int) by omega), cond_false]
      exact ⟨out, rfl, by omega, hd⟩
/-- the versions of a key, by rising marks -/
def insF (ps : List Ver) (k : ByteArray) : List Ver := (ps.filter fun v => decide (chk v = 0 ∧ v.Key = k)).foldl insM []
theorem insF_snoc (ps : List Ver) (v : Ver) (k : ByteArray) : insF (ps ++ [v]) k = if chk v = 0 ∧ v.Key = k then insM (insF ps k) v else insF ps k := by
  unfold insF
  rw [List.filter_append, List.foldl_append]
  by_cases h : chk v = 0 ∧ v.Key = k
  · rw [if_pos h, List.filter_cons_of_pos (by simpa using h)]; rfl
  · rw [if_neg h, List.filter_cons_of_neg (by simpa using h)]; rfl
theorem mem_insF (k : ByteArray) : ∀ (ps : List Ver) {x : Ver}, x ∈ insF ps k ↔ x ∈ ps ∧ chk x = 0 ∧ x.Key = k := by
  refine snoc_ind (by simp [insF]) fun ps v ih => ?_
  intro x
  rw [insF_snoc]
  by_cases h : chk v = 0 ∧ v.Key = k
  · rw [if_pos h, mem_insM, ih, List.mem_append, List.mem_singleton]
    constructor
    · rintro (rfl | ⟨h1, h2⟩)
      · exact ⟨.inr rfl, h⟩
      · exact ⟨.inl h1, h2⟩
    · rintro ⟨h1 | rfl, h2⟩
      · exact .inr ⟨h1, h2⟩
      · exact .inl rfl
  · rw [if_neg h, ih, List.mem_append, List.mem_singleton]
    constructor
    · rintro ⟨h1, h2⟩; exact ⟨.inl h1, h2⟩
    · rintro ⟨h1 | rfl, h2⟩
      · exact ⟨h1, h2⟩
      · exact absurd h2 h
theorem dist_new {ps : List Ver} {v : Ver} (h : Dist (ps ++ [v])) {x : Ver} (hx : x ∈ insF ps v.Key) : eqM x v = false := by
  obtain ⟨h1, _, h3⟩ := (mem_insF _ ps).1 hx
  have := (List.pairwise_append.1 h).2.2 x h1 v (by simp)
  cases e : eqM x v with
  | false => rfl
  | true => rw [sameKM_iff.2 ⟨h3, e⟩] at this; cases this
theorem insF_rise (k : ByteArray) : ∀ (ps : List Ver), Dist ps → Rise (insF ps k) := by
  refine snoc_ind (fun _ => List.Pairwise.nil) fun ps v ih h => ?_
  have hp := ih (List.pairwise_append.1 h).1
  rw [insF_snoc]
  split
  · rename_i hv
    refine insM_rise hp fun x hx => dist_new h ?_
    rw [hv.2]; exact hx
  · exact hp
/-- the store has what was put, trimmed -/
structure InvO (l : SL) (F : Int) (ps : List Ver) : Prop where
  srt : Srt l
  at_ : ∀ k, lFind l k = if insF ps k = [] then none else some (trimF (insF ps k) F)
theorem InvO.chOf {l : SL} {F : Int} {ps : List Ver} (h : InvO l F ps) (k : ByteArray) : chOf l k = trimF (insF ps k) F := by
  unfold Cf.chOf
  rw [h.at_ k]
  split
  · rename_i e; rw [e]; rfl
  · rfl
theorem InvO.put {l : SL} {F : Int} {ps : List Ver} (h : InvO l F ps) {v : Ver} (hd : Dist (ps ++ [v])) : InvO (putL l F v) F (ps ++ [v]) := by
  have hR := insF_rise v.Key ps (List.pairwise_append.1 hd).1
  have hnew : ∀ x ∈ insF ps v.Key, eqM x v = false := fun x hx => dist_new hd hx
  by_cases he : putE l F v = 0
  · obtain ⟨h1, h2, h3, h4⟩ := putE_ok he
    rw [h4, h.chOf, trim_ins hR hnew]
    refine ⟨lPut_srt h.srt _ _, fun k => ?_⟩
    rw [lPut_find]
    by_cases hk : k = v.Key
    · subst hk
      have e1 : insF (ps ++ [v]) v.Key = insM (insF ps v.Key) v := (insF_snoc ps v v.Key).trans (if_pos ⟨h1, rfl⟩)
      rw [e1, if_pos rfl, if_neg (List.ne_nil_of_mem (mem_insM.2 (.inl rfl)))]
    · have e1 : insF (ps ++ [v]) k = insF ps k := (insF_snoc ps v k).trans (if_neg fun e => hk e.2.symm)
      rw [e1, if_neg hk]
      exact h.at_ k
  · rw [putL_no he]
    refine ⟨h.srt, fun k => ?_⟩
    by_cases hv : chk v = 0 ∧ v.Key = k
    · obtain ⟨hv1, rfl⟩ := hv
      have e1 : insF (ps ++ [v]) v.Key = insM (insF ps v.Key) v := (insF_snoc ps v v.Key).trans (if_pos ⟨hv1, rfl⟩)
      rw [e1]
      have hr := ref_iff.1 he
      rcases hr with hr | hr | hr
      · exact absurd hv1 hr
      · obtain ⟨x, hx, hxv⟩ := hr
        rw [h.chOf] at hx
        rw [hnew x ((trimF_sub _ F).subset hx)] at hxv; cases hxv
      · obtain ⟨x, hx, hvx⟩ := hr
        rw [h.chOf, seen_trim hR (Int.le_refl _)] at hx
        rw [trim_old hR hnew hx hvx, if_neg (List.ne_nil_of_mem (mem_insM.2 (.inl rfl))), h.at_, if_neg (List.ne_nil_of_mem (seen_some hx).1)]
    · have e1 : insF (ps ++ [v]) k = insF ps k := (insF_snoc ps v k).trans (if_neg hv)
      rw [e1]; exact h.at_ k
theorem trimS_find (l : SL) (g : Int) (k : ByteArray) : lFind (trimS l g) k = (lFind l k).map fun c => trimF c g := by
  unfold trimS
  induction l with
  | nil => rfl
  | cons x l ih =>
    rw [List.map_cons, lFind_cons, lFind_cons]
    simp only
    split
    · rfl
    · exact ih
theorem InvO.trim {l : SL} {F g : Int} {ps : List Ver} (h : InvO l F ps) (hd : Dist ps) (hg : F ≤ g) : InvO (trimS l g) g ps where
  srt := map_srt h.srt _
  at_ := fun k => by
    rw [trimS_find, h.at_]
    split
    · rfl
    · rw [Option.map_some, trim_trim (insF_rise k ps hd) hg]
theorem InvO.nil (F : Int) : InvO [] F [] := ⟨List.Pairwise.nil, fun _ => rfl⟩
theorem InvO.load {F : Int} : ∀ (vs ps : List Ver) {l : SL}, InvO l F ps → Dist (ps ++ vs) → InvO (loadL F l vs) F (ps ++ vs) := fun vs => by
  induction vs with
  | nil => intro ps l h _; rw [List.append_nil]; exact h
  | cons v vs ih =>
    intro ps l h hd
    have e : ps ++ v :: vs = (ps ++ [v]) ++ vs := by simp
    rw [e] at hd ⊢
    exact ih (ps ++ [v]) (h.put (List.pairwise_append.1 hd).1) hd
theorem Dist.perm {l m : List Ver} (h : Dist l) (hp : m.Perm l) : Dist m := (hp.pairwise_iff (fun h => sameKM_symm h)).2 h
theorem InvO.same {l l' : SL} {F : Int} {ps qs : List Ver} (h : InvO l F ps) (h' : InvO l' F qs) (hd : Dist ps) (hp : qs.Perm ps) : l = l' := by
  refine h.srt.ext h'.srt fun k => ?_
  have e : insF ps k = insF qs k := Rise.ext (insF_rise k ps hd) (insF_rise k qs (hd.perm hp)) fun x => by rw [mem_insF, mem_insF, hp.mem_iff]
  rw [h.at_, h'.at_, e]
section
variable (N : Nat) (hN : 1000 ≤ N) (fl : List Int) (hfl' : fl.length ≤ 9223372036854775807) (key : ByteArray) (snap : Int)
include hN
theorem order_L4 (top : Int) (htop : ∀ f ∈ fl, f ≤ top) (l m : List Ver) (hl : l.length ≤ 30) (hd : Dist l) (hp : m.Perm l) (n0 : Int) (la : SL) (ha : InvO la top l) (hba : SB10 la 100) : ∀ (fuel i : Nat) (lb : SL) (F : Int), m.length - i < fuel → i ≤ m.length → F ≤ top → InvO lb F (m.take i) → SB10 lb i →
    M.law10_StoreOrder_L4 N fuel fl key snap top m (n0, ⟨some la, top⟩) (some lb) F (i : Int) = some true := fun fuel => by
  have hml : m.length = l.length := hp.length_eq
  have hdm : Dist m := hd.perm hp
  induction fuel with
  | zero => intro i lb F hf; omega
  | succ fuel ih =>
    intro i lb F hf hi hF h hb
    unfold M.law10_StoreOrder_L4
    rcases Nat.lt_or_ge i m.length with hlt | hge
    · rw [decide_eq_true (show (i : Int) < (m.length : Int) by omega), cond_true, idx_get hlt]
      simp only [Option.bind_some]
      have htk : m.take (i + 1) = m.take i ++ [m[i]] := by rw [List.take_add_one, List.getElem?_eq_getElem hlt]; rfl
      have hdt : Dist (m.take i ++ [m[i]]) := by rw [← htk]; exact hdm.sublist (List.take_sublist _ _)
      have go : ∀ (lc : SL) (G : Int), G ≤ top → InvO lc G (m.take i) → SB10 lc i → M.law10_StoreOrder_k5 N (M.law10_StoreOrder_L4 N fuel) fl key snap top m (n0, ⟨some la, top⟩) (i : Int) m[i] (some lc) G = some true := fun lc G hG hc hbc => by
        unfold M.law10_StoreOrder_k5
        have h1 := chOf_le lc m[i].Key
        have h2 := hbc.tot
        rw [show M.store_Store_Put N (T_store_Store.mk (some lc) G) (T_api_Ver.mk m[i].Key m[i].Val m[i].Gone m[i].TS m[i].DC m[i].Tx) = _ from put_eq N lc G m[i] (by omega) (by omega)]
        simp only [Option.bind_some]
        rw [wrap_succ (by omega)]
        exact ih (i + 1) (putL lc G m[i]) G (by omega) (by omega) hG (by rw [htk]; exact hc.put hdt) (putL_ok hbc G m[i])
      by_cases hfi : i < fl.length
      · rw [decide_eq_true (show (i : Int) < (fl.length : Int) by omega), cond_true, idx_get hfi]
        simp only [Option.bind_some]
        rw [strim_eq N lb F fl[i] i hb (by omega) (by omega)]
        simp only [Option.bind_some]
        have hge' : F ≤ (if fl[i] > F then fl[i] else F) := by split <;> omega
        refine go _ _ ?_ (h.trim (hdm.sublist (List.take_sublist _ _)) hge') (trimS_ok hb _)
        have := htop _ (List.getElem_mem hfi)
        split <;> omega
      · rw [decide_eq_false (show ¬ (i : Int) < (fl.length : Int) by omega), cond_false]
        exact go lb F hF h hb
    · rw [decide_eq_false (show ¬ (i : Int) < (m.length : Int) by omega), cond_false]
      rw [List.take_of_length_le hge] at h
      rw [strim_eq N lb F top i hb (by omega) (by omega)]
      have hT : (if top > F then top else F) = top := by split <;> omega
      rw [hT]
      have hB := h.trim hdm hF
      have hbB := trimS_ok hb top
      have he : la = trimS lb top := ha.same hB hd hp
      rw [← he] at hbB ⊢
      have h1 := chOf_le la key
      have h2 := hba.tot
      have hal := allS_len la (ByteArray.mk #[]) (ByteArray.mk #[])
      simp only [Option.bind_some]
      rw [get_eq N la top key _ (by omega) (by omega), if_neg (by split <;> omega)]
      simp only [Option.bind_some, awake10 N (by omega), cond_true, beq_self_eq_true, (cEq_v _ _).2 rfl]
      rw [lAll_eq N la top _ _ 100 hba (by omega) (by omega)]
      simp only [Option.bind_some]
      rw [sameV N _ (by omega) (by omega)]
      rfl
theorem order_L2 (sw : List (List Int)) (hsw : ∀ s ∈ sw, s.length = 2) (hsl : sw.length ≤ 9223372036854775807) (top : Int) (h0 : 0 ≤ top) (htop : ∀ f ∈ fl, f ≤ top) (l : List Ver) (hl : l.length ≤ 30) (hd : Dist l) : ∀ (fuel i : Nat) (m : List Ver), sw.length - i < fuel → i ≤ sw.length → m.Perm l →
    M.law10_StoreOrder_L2 N fuel sw fl key snap l ⟨some [], 0⟩ ⟨some [], 0⟩ top m (i : Int) = some true := fun fuel => by
  induction fuel with
  | zero => intro i m hf; omega
  | succ fuel ih =>
    intro i m hf hi hp
    have hml : m.length = l.length := hp.length_eq
    unfold M.law10_StoreOrder_L2
    rcases Nat.lt_or_ge i sw.length with hlt | hge
    · rw [decide_eq_true (show (i : Int) < (sw.length : Int) by omega), cond_true, idx_get hlt]
      simp only [Option.bind_some, M.law10_StoreOrder_k3, wrap_succ2 hlt hsl]
      have h2 := hsw _ (List.getElem_mem hlt)
      generalize sw[i] = s at h2
      by_cases hm : 0 < m.length
      · rw [decide_eq_true (show (m.length : Int) > 0 by omega), cond_true]
        have key2 : ∀ x : Int, ∃ j : Nat, j < m.length ∧ remV .u64 (IntKind.u64.wrap x) (IntKind.u64.wrap (m.length : Int)) = some (j : Int) := fun x => by
          have hw : IntKind.u64.wrap (m.length : Int) = (m.length : Int) := by rw [IntKind.wrap_u64]; omega
          have hx := IntKind.wrap_u64 x
          rw [hw]
          generalize IntKind.u64.wrap x = y at hx
          have hy : 0 ≤ y := by rw [hx]; omega
          have hmod : Int.tmod y (m.length : Int) = ((y.toNat % m.length : Nat) : Int) := by
            have hyn : ((y.toNat : Nat) : Int) = y := Int.toNat_of_nonneg hy
            rw [Int.tmod_eq_emod_of_nonneg hy, Int.natCast_emod, hyn]
          refine ⟨y.toNat % m.length, Nat.mod_lt _ hm, ?_⟩
          unfold remV
          rw [if_neg (by omega), hmod]
        have h20 : idx s 0 = some (s[0]'(by omega)) := idx_get (i := 0) (by omega)
        have h21 : idx s 1 = some (s[1]'(by omega)) := idx_get (i := 1) (by omega)
        obtain ⟨j, hj, ej⟩ := key2 (s[0]'(by omega))
        obtain ⟨k, hk, ek⟩ := key2 (s[1]'(by omega))
        rw [h20, h21]
        simp only [Option.bind_some, ej, ek]
        rw [wrap_small (show -9223372036854775808 ≤ (j : Int) by omega) (by omega), wrap_small (show -9223372036854775808 ≤ (k : Int) by omega) (by omega), idx_get hk, idx_get hj]
        simp only [Option.bind_some, Int.toNat_natCast]
        rw [idx_get (by simpa using hk)]
        simp only [Option.bind_some]
        refine ih (i + 1) _ (by omega) (by omega) (List.Perm.trans ?_ hp)
        exact List.set_set_perm hj hk
      · rw [decide_eq_false (show ¬ (m.length : Int) > 0 by omega), cond_false]
        exact ih (i + 1) m (by omega) (by omega) hp
    · rw [decide_eq_false (show ¬ (i : Int) < (sw.length : Int) by omega), cond_false]
      rw [load_eq N 0 l [] 0 SB10.nil (by omega) (by omega)]
      have hI : InvO (loadL 0 [] l) 0 l := InvO.load l [] (InvO.nil 0) hd
      have hb : SB10 (loadL 0 [] l) 100 := (loadL_ok SB10.nil 0 l).mono (by omega)
      simp only [Option.bind_some]
      rw [strim_eq N _ 0 top 100 hb (by omega) (by omega)]
      have hT : (if top > 0 then top else 0) = top := by split <;> omega
      rw [hT]
      simp only [Option.bind_some]
      exact order_L4 N hN fl key snap top htop l m hl hd hp _ _ (hI.trim hd h0) (trimS_ok hb top) N 0 [] 0 (by omega) (Nat.zero_le _) h0 (InvO.nil 0) SB10.nil
include hfl'
theorem order_L1 (sw : List (List Int)) (hsw : ∀ s ∈ sw, s.length = 2) (hsl : sw.length ≤ 9223372036854775807) (hsn : sw.length < N) (l : List Ver) (hl : l.length ≤ 30) (hd : Dist l) : ∀ (fuel i : Nat) (top : Int), fl.length - i < fuel → i ≤ fl.length → 0 ≤ top → (∀ f ∈ fl.take i, f ≤ top) →
    M.law10_StoreOrder_L1 N fuel sw fl key snap l ⟨some [], 0⟩ ⟨some [], 0⟩ top (i : Int) = some true := fun fuel => by
  induction fuel with
  | zero => intro i top hf; omega
  | succ fuel ih =>
    intro i top hf hi h0 ht
    unfold M.law10_StoreOrder_L1
    rcases Nat.lt_or_ge i fl.length with hlt | hge
    · rw [decide_eq_true (show (i : Int) < (fl.length : Int) by omega), cond_true, idx_get hlt]
      simp only [Option.bind_some]
      rw [wrap_succ2 hlt hfl']
      refine ih (i + 1) _ (by omega) (by omega) (by split <;> omega) fun f hf => ?_
      rw [List.take_add_one, List.getElem?_eq_getElem hlt, List.mem_append] at hf
      rcases hf with hf | hf
      · have := ht f hf; split <;> omega
      · simp at hf; subst hf; split <;> omega
    · rw [decide_eq_false (show ¬ (i : Int) < (fl.length : Int) by omega), cond_false, apd_ok (by simp; omega), List.nil_append]
      simp only [Option.bind_some]
      rw [List.take_of_length_le hge] at ht
      exact order_L2 N hN fl key snap sw hsw hsl top h0 ht l hl hd N 0 l (by omega) (Nat.zero_le _) (List.Perm.refl _)
end
theorem pStoreOrder (N : Nat) (hN : 1000 ≤ N) (vs0 : List Ver) (sw : List (List Int)) (fl : List Int) (key : ByteArray) (snap : Int) (hsw : ∀ s ∈ sw, s.length = 2) (hsl : sw.length ≤ 9223372036854775807) (hsn : sw.length < N) (hfl : fl.length < N) (hfl' : fl.length ≤ 9223372036854775807) :
    M.law10_StoreOrder N vs0 sw fl key snap = some true := by
  unfold M.law10_StoreOrder
  have hfew : M.law10_few N vs0 30 = some (vs0.take 30) := few_eq N vs0 30 (by omega)
  have hvl : (vs0.take 30).length ≤ 30 := by simp; omega
  obtain ⟨r, h1, h2, h3⟩ := once_L1 N hN (vs0.take 30) hvl N 0 [] (by omega) (Nat.zero_le _) (by simp) List.Pairwise.nil
  have h1' : M.law10_once N (vs0.take 30) = some r := h1
  simp only [hfew, h1', M.store_New, Option.bind_some]
  exact order_L1 N hN fl hfl' key snap sw hsw hsl hsn r (by omega) h3 N 0 0 (by omega) (Nat.zero_le _) (Int.le_refl _) fun f hf => by simp at hf
theorem arrLen {α : Type} {n : Nat} {T : Ty (List α)} {κ : Gh} {w : World} {p : Option Addr} {c : Nat} {l : List (List α)} (hT : ∀ cs x, T.rep κ w cs x → x.length = n) (h : Ro T κ w p c l) : ∀ s ∈ l, s.length = n := fun s hs => by
  obtain ⟨i, hi⟩ := List.mem_iff_getElem?.1 hs
  obtain ⟨_, _, h3⟩ := h
  rcases h3 with ⟨rfl, _⟩ | ⟨b, off, n, _, _, _, hc⟩
  · cases hs
  · obtain ⟨cs, hr, _⟩ := hc i s hi
    exact hT cs s hr
end Go.Cf
