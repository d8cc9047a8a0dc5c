/- Plain facts: indices, numbers, strings, maps by rising keys. -/
import Derived.Laws.BitsLemmas
import Derived.Test.YteeafoagaaedcaaZK2
import Derived.Test.YteeafoagaaedcaaZMt1
import Derived.Test.YteeafoagaaedcaaZMt2
import Derived.Test.YteeafoagaaedcaaZMt4
import Derived.Test.YteeafoagaaedcaaZM1
import Derived.Test.YteeafoagaaedcaaZMtN
namespace Go.Cf
open Go
theorem idx_get {α : Type} {l : List α} {i : Nat} (h : i < l.length) : idx l (i : Int) = some l[i] := by
  simp [idx, h]
theorem wrap_small {x : Int} (h0 : -9223372036854775808 ≤ x) (h1 : x < 9223372036854775808) : IntKind.i64.wrap x = x := by
  rw [IntKind.wrap_i64]; omega
theorem wrap_succ {i : Nat} (h : i < 4611686018427387904) : IntKind.i64.wrap ((i : Int) + 1) = ((i + 1 : Nat) : Int) := by rw [wrap_small] <;> omega
abbrev nil : ByteArray := ByteArray.mk #[]
theorem sEq_refl (a : ByteArray) : sEq a a = true := by simp [sEq]
theorem sEq_iff {a b : ByteArray} : sEq a b = true ↔ a.toList = b.toList := by simp [sEq]
theorem drop_cons {α : Type} {l : List α} {i : Nat} (h : i < l.length) : l.drop i = l[i] :: l.drop (i + 1) := List.drop_eq_getElem_cons h
theorem apd_ok {α : Type} {l m : List α} (h : l.length + m.length < 2147483648) : apd l m = some (l ++ m) := by simp [apd, h]
theorem sEq_dec (a b : ByteArray) : sEq a b = decide (a = b) := by
  cases h : sEq a b with
  | true => exact (decide_eq_true (ba_toList_inj (sEq_iff.1 h))).symm
  | false =>
    refine (decide_eq_false fun e => ?_).symm
    subst e; rw [sEq_refl] at h; cases h
theorem ba_beq (a b : ByteArray) : (a == b) = true ↔ a = b := by
  cases a with | mk a => cases b with | mk b => show (a == b) = true ↔ _; simp
section
variable {K V : Type} [DecidableEq K] [KO K]
theorem Srt.inj {l : List (K × V)} (h : Srt l) {x y : K × V} (hx : x ∈ l) (hy : y ∈ l) (e : x.1 = y.1) : x = y := by
  obtain ⟨i, hi⟩ := List.mem_iff_getElem?.1 hx
  obtain ⟨j, hj⟩ := List.mem_iff_getElem?.1 hy
  have h1 := lFind_at h.nodup hi
  have h2 := lFind_at h.nodup hj
  rw [e, h2] at h1
  exact Prod.ext e (Option.some.inj h1).symm
theorem Srt.find {l : List (K × V)} (h : Srt l) {x : K × V} (hx : x ∈ l) : lFind l x.1 = some x.2 := by
  obtain ⟨i, hi⟩ := List.mem_iff_getElem?.1 hx
  exact lFind_at h.nodup hi
end
end Go.Cf
namespace Go.Cf
open Go
abbrev Ver := T_api_Ver
def noVer : Ver := ⟨ByteArray.empty, ByteArray.empty, false, 0, 0, 0⟩
theorem cEq_v (a b : Ver) : cEq (flat [(1, [.string (a.Key)]), (1, [.string (a.Val)]), (1, [.bool (a.Gone)]), (1, [.int .u64 (a.TS)]), (1, [.int .i64 (a.DC)]), (1, [.int .i64 (a.Tx)])]) (flat [(1, [.string (b.Key)]), (1, [.string (b.Val)]), (1, [.bool (b.Gone)]), (1, [.int .u64 (b.TS)]), (1, [.int .i64 (b.DC)]), (1, [.int .i64 (b.Tx)])]) = true ↔ a = b := by
  cases a; cases b
  simp [flat, cEq, vEq, ba_beq]
instance : DecidableEq Ver := fun a b => decidable_of_iff _ (cEq_v a b)
/-- is a's mark ahead of b's? -/
def ltM (a b : Ver) : Bool := if a.TS = b.TS then (if a.DC = b.DC then decide (a.Tx < b.Tx) else decide (a.DC < b.DC)) else decide (a.TS < b.TS)
/-- have both the same mark? -/
def eqM (a b : Ver) : Bool := decide (a.TS = b.TS ∧ a.DC = b.DC ∧ a.Tx = b.Tx)
def cmpM (a b : Ver) : Int := if eqM a b then 0 else if ltM a b then -1 else 1
theorem eqM_iff {a b : Ver} : eqM a b = true ↔ a.TS = b.TS ∧ a.DC = b.DC ∧ a.Tx = b.Tx := by simp [eqM]
theorem eqM_symm {a b : Ver} (h : eqM a b = true) : eqM b a = true := by rw [eqM_iff] at *; exact ⟨h.1.symm, h.2.1.symm, h.2.2.symm⟩
theorem ltM_iff {a b : Ver} : ltM a b = true ↔ a.TS < b.TS ∨ (a.TS = b.TS ∧ (a.DC < b.DC ∨ (a.DC = b.DC ∧ a.Tx < b.Tx))) := by
  unfold ltM
  by_cases h1 : a.TS = b.TS
  · rw [if_pos h1]
    by_cases h2 : a.DC = b.DC
    · rw [if_pos h2, decide_eq_true_eq]; omega
    · rw [if_neg h2, decide_eq_true_eq]; omega
  · rw [if_neg h1, decide_eq_true_eq]; omega
theorem ltM_false {a b : Ver} : ltM a b = false ↔ ¬ (a.TS < b.TS ∨ (a.TS = b.TS ∧ (a.DC < b.DC ∨ (a.DC = b.DC ∧ a.Tx < b.Tx)))) := by
  rw [← ltM_iff]; simp
theorem ltM_irr (a : Ver) : ltM a a = false := by rw [ltM_false]; omega
theorem ltM_asy {a b : Ver} (h : ltM a b = true) : ltM b a = false := by rw [ltM_iff] at h; rw [ltM_false]; omega
theorem eqM_of {a b : Ver} (h : ltM a b = false) (k : ltM b a = false) : eqM a b = true := by rw [ltM_false] at *; rw [eqM_iff]; omega
theorem ltM_ne {a b : Ver} (h : ltM a b = true) : eqM a b = false := by
  cases e : eqM a b with
  | false => rfl
  | true => rw [eqM_iff] at e; rw [ltM_iff] at h; omega
theorem eqM_nlt {a b : Ver} (h : eqM a b = true) : ltM a b = false := by
  cases e : ltM a b with
  | false => rfl
  | true => rw [ltM_ne e] at h; cases h
theorem eqM_dec (a b : Ver) : eqM a b = (!ltM a b && !ltM b a) := by
  cases h : eqM a b with
  | true => rw [eqM_nlt h, eqM_nlt (eqM_symm h)]; rfl
  | false =>
    cases h1 : ltM a b with
    | true => rfl
    | false =>
      cases h2 : ltM b a with
      | true => rfl
      | false => rw [eqM_of h1 h2] at h; cases h
theorem cmp_eq (N : Nat) (a b : Ver) : M.hlc_Cmp N (T_api_Mark.mk a.TS a.DC a.Tx) (T_api_Mark.mk b.TS b.DC b.Tx) = some (cmpM a b) := by
  unfold M.hlc_Cmp M.hlc_sign cmpM eqM ltM
  by_cases h1 : a.TS = b.TS
  · by_cases h2 : a.DC = b.DC
    · by_cases h3 : a.Tx = b.Tx
      · simp [h1, h2, h3]
      · simp only [h1, h2, h3, bne_self_eq_false, cond_false, and_false, decide_false, if_true, Bool.false_eq_true, if_false]
        rw [show (a.Tx != b.Tx) = true by simpa using h3, cond_true]
        by_cases h4 : a.Tx < b.Tx <;> simp [h4]
    · simp only [h1, h2, bne_self_eq_false, cond_false, false_and, and_false, decide_false, if_true, Bool.false_eq_true, if_false]
      rw [show (a.DC != b.DC) = true by simpa using h2, cond_true]
      by_cases h4 : a.DC < b.DC <;> simp [h4]
  · simp only [h1, false_and, decide_false, Bool.false_eq_true, if_false]
    rw [show (a.TS != b.TS) = true by simpa using h1, cond_true]
    by_cases h4 : a.TS < b.TS <;> simp [h4]
theorem cmpM_lt (a b : Ver) : decide (cmpM a b < 0) = ltM a b := by
  unfold cmpM
  rw [eqM_dec]
  cases h1 : ltM a b with
  | true => simp
  | false => cases ltM b a <;> simp
theorem cmpM_ge (a b : Ver) : decide (cmpM a b ≥ 0) = !ltM a b := by
  rw [← cmpM_lt]
  by_cases h : cmpM a b < 0
  · rw [decide_eq_true h, decide_eq_false (by omega)]; rfl
  · rw [decide_eq_false h, decide_eq_true (by omega)]; rfl
theorem cmpM_eq (a b : Ver) : (cmpM a b == 0) = eqM a b := by
  unfold cmpM
  cases eqM a b with
  | true => rfl
  | false => cases ltM a b <;> rfl
theorem cmpM_gt (a b : Ver) : decide (cmpM a b > 0) = ltM b a := by
  unfold cmpM
  rw [eqM_dec]
  cases h1 : ltM a b with
  | true => rw [ltM_asy h1]; rfl
  | false => cases ltM b a <;> simp
/-- what is seen at a time, going on from b -/
def stepB (snap : Int) (b : Option Ver) (x : Ver) : Option Ver := if decide (x.TS ≤ snap) && (match b with | none => true | some y => ltM y x) then some x else b
def seenF (l : List Ver) (snap : Int) : Option Ver := l.foldl (stepB snap) none
/-- the place r is that of b -/
def BI (l : List Ver) (r : Int) (b : Option Ver) : Prop := match b with | none => r = -1 | some v => ∃ j : Nat, r = (j : Int) ∧ l[j]? = some v
def trimF (l : List Ver) (f : Int) : List Ver := match seenF l f with | none => l | some b => l.filter fun x => !ltM x b
theorem at_L1 (N : Nat) (l : List Ver) (snap : Int) (hl : l.length ≤ 1000000) : ∀ (fuel i : Nat) (best : Int) (b : Option Ver), l.length - i < fuel → i ≤ l.length → BI l best b →
    ∃ r, M.chain_at_L1 N fuel l snap best (i : Int) = some r ∧ BI l r ((l.drop i).foldl (stepB snap) b) := fun fuel => by
  induction fuel with
  | zero => intro i best b hf; omega
  | succ fuel ih =>
    intro i best b hf hi hb
    unfold M.chain_at_L1
    rcases Nat.lt_or_ge i l.length with hlt | hge
    · rw [decide_eq_true (show (i : Int) < (l.length : Int) by omega), cond_true, idx_get hlt, drop_cons hlt]
      simp only [Option.bind_some, M.chain_at_k2, List.foldl_cons, wrap_succ (show i < 4611686018427387904 by omega)]
      have hbi : BI l (i : Int) (some l[i]) := ⟨i, rfl, List.getElem?_eq_getElem hlt⟩
      by_cases hts : l[i].TS ≤ snap
      · rw [decide_eq_true hts, cond_true]
        cases b with
        | none =>
          have hb' : best = -1 := hb
          subst hb'
          simp only [Int.reduceNeg, show decide ((-1 : Int) < 0) = true from rfl, cond_true, Option.bind_some]
          have := ih (i + 1) (i : Int) (some l[i]) (by omega) (by omega) hbi
          simpa [stepB, hts] using this
        | some y =>
          obtain ⟨j, rfl, hj⟩ := hb
          obtain ⟨hjl, hjy⟩ := List.getElem?_eq_some_iff.1 hj
          rw [decide_eq_false (show ¬ (j : Int) < 0 by omega), cond_false, idx_get hjl, hjy]
          simp only [Option.bind_some, M.hlc_Of, cmp_eq N y l[i], cmpM_lt]
          cases hc : ltM y l[i] with
          | true =>
            have := ih (i + 1) (i : Int) (some l[i]) (by omega) (by omega) hbi
            simpa [stepB, hts, hc] using this
          | false =>
            have := ih (i + 1) (j : Int) (some y) (by omega) (by omega) ⟨j, rfl, hj⟩
            simpa [stepB, hts, hc] using this
      · rw [decide_eq_false hts, cond_false]
        simp only [Option.bind_some, cond_false]
        have := ih (i + 1) best b (by omega) (by omega) hb
        simpa [stepB, hts] using this
    · rw [decide_eq_false (show ¬ (i : Int) < (l.length : Int) by omega), cond_false, List.drop_of_length_le hge]
      exact ⟨best, rfl, hb⟩
theorem at_eq (N : Nat) (l : List Ver) (snap : Int) (hl : l.length ≤ 1000000) (hN : l.length < N) : ∃ r, M.chain_at N l snap = some r ∧ BI l r (seenF l snap) := by
  have := at_L1 N l snap hl N 0 (-1) none (by omega) (Nat.zero_le _) rfl
  rwa [List.drop_zero] at this
theorem At_eq (N : Nat) (l : List Ver) (snap : Int) (hl : l.length ≤ 1000000) (hN : l.length < N) : M.chain_At N l snap = some ((seenF l snap).getD noVer, (seenF l snap).isSome) := by
  obtain ⟨r, h1, h2⟩ := at_eq N l snap hl hN
  unfold M.chain_At
  rw [h1]
  cases hs : seenF l snap with
  | none =>
    rw [hs] at h2
    have h2' : r = -1 := h2
    subst h2'
    rfl
  | some v =>
    rw [hs] at h2
    obtain ⟨j, rfl, hj⟩ := h2
    obtain ⟨hjl, hjy⟩ := List.getElem?_eq_some_iff.1 hj
    simp only [Option.bind_some]
    rw [decide_eq_true (show (j : Int) ≥ 0 by omega), cond_true, idx_get hjl, hjy]
    rfl
theorem trim_L1 (N : Nat) (l : List Ver) (f r : Int) (hr : BI l r (seenF l f)) (hl : l.length ≤ 1000000) : ∀ (fuel i : Nat) (out : List Ver), l.length - i < fuel → i ≤ l.length → out.length ≤ i →
    M.chain_Trim_L1 N fuel l r out (i : Int) = some (out ++ (l.drop i).filter (fun x => match seenF l f with | none => true | some b => !ltM x b), (l.length : Int) - ((out ++ (l.drop i).filter (fun x => match seenF l f with | none => true | some b => !ltM x b)).length : Int)) := fun fuel => by
  induction fuel with
  | zero => intro i out hf; omega
  | succ fuel ih =>
    intro i out hf hi ho
    unfold M.chain_Trim_L1
    rcases Nat.lt_or_ge i l.length with hlt | hge
    · rw [decide_eq_true (show (i : Int) < (l.length : Int) by omega), cond_true, idx_get hlt, drop_cons hlt]
      simp only [Option.bind_some, M.chain_Trim_k2, List.filter_cons, wrap_succ (show i < 4611686018427387904 by omega)]
      have hk : (bif decide (r < 0) then some true else (Option.bind (M.hlc_Of N l[i]) fun x79 => Option.bind (idx l r) fun x80 => Option.bind (M.hlc_Of N x80) fun x83 => Option.bind (M.hlc_Cmp N (T_api_Mark.mk x79.TS x79.DC x79.Tx) (T_api_Mark.mk x83.TS x83.DC x83.Tx)) fun x84 => some (decide (x84 ≥ 0)))) = some (match seenF l f with | none => true | some b => !ltM l[i] b) := by
        cases hs : seenF l f with
        | none =>
          rw [hs] at hr
          have hr' : r = -1 := hr
          subst hr'; rfl
        | some y =>
          rw [hs] at hr
          obtain ⟨j, rfl, hj⟩ := hr
          obtain ⟨hjl, hjy⟩ := List.getElem?_eq_some_iff.1 hj
          rw [decide_eq_false (show ¬ (j : Int) < 0 by omega), cond_false, idx_get hjl, hjy]
          simp only [Option.bind_some, M.hlc_Of, cmp_eq N l[i] y, cmpM_ge]
      rw [show (bif decide (r < 0) then some true else (Option.bind (M.hlc_Of N (T_api_Ver.mk l[i].Key l[i].Val l[i].Gone l[i].TS l[i].DC l[i].Tx)) fun x79 => Option.bind (idx l r) fun x80 => Option.bind (M.hlc_Of N (T_api_Ver.mk x80.Key x80.Val x80.Gone x80.TS x80.DC x80.Tx)) fun x83 => Option.bind (M.hlc_Cmp N (T_api_Mark.mk x79.TS x79.DC x79.Tx) (T_api_Mark.mk x83.TS x83.DC x83.Tx)) fun x84 => some (decide (x84 ≥ 0)))) = _ from hk]
      simp only [Option.bind_some]
      cases hb : (match seenF l f with | none => true | some b => !ltM l[i] b) with
      | true =>
        rw [cond_true, apd_ok (by simp; omega)]
        simp only [Option.bind_some, if_true]
        have := ih (i + 1) (out ++ [l[i]]) (by omega) (by omega) (by simp; omega)
        rw [List.append_assoc, List.singleton_append] at this
        exact this
      | false =>
        rw [cond_false]
        simp only [Bool.false_eq_true, if_false]
        exact ih (i + 1) out (by omega) (by omega) (by omega)
    · rw [decide_eq_false (show ¬ (i : Int) < (l.length : Int) by omega), cond_false, List.drop_of_length_le hge, List.filter_nil, List.append_nil, wrap_small (by omega) (by omega)]
theorem trim_filter (l : List Ver) (f : Int) : l.filter (fun x => match seenF l f with | none => true | some b => !ltM x b) = trimF l f := by
  unfold trimF
  cases seenF l f with
  | none => simp
  | some b => rfl
theorem Trim_eq (N : Nat) (l : List Ver) (f : Int) (hl : l.length ≤ 1000000) (hN : l.length < N) : M.chain_Trim N l f = some (trimF l f, (l.length : Int) - ((trimF l f).length : Int)) := by
  obtain ⟨r, h1, h2⟩ := at_eq N l f hl hN
  unfold M.chain_Trim
  rw [h1]
  simp only [Option.bind_some]
  have := trim_L1 N l f r h2 hl N 0 [] (by omega) (Nat.zero_le _) (by simp)
  simp only [List.drop_zero, List.nil_append, trim_filter] at this
  exact this
/-- a chain with one more -/
def insM (l : List Ver) (v : Ver) : List Ver := match l.findIdx? (fun x => ltM v x) with | none => l ++ [v] | some j => l.take j ++ v :: l.drop j
def putF (l : List Ver) (v : Ver) : List Ver × Int := match l.find? (fun x => eqM x v) with | some x => ([], if x = v then 8 else 3) | none => (insM l v, 0)
def BP (r : Int) (o : Option Nat) : Prop := match o with | none => r = -1 | some j => r = (j : Int)
theorem put_k3 (N : Nat) (l : List Ver) (v : Ver) (hl : l.length ≤ 1000000) (j : Nat) (hj : j ≤ l.length) : M.chain_Put_k3 N l v (j : Int) = some (l.take j ++ v :: l.drop j, 0) := by
  unfold M.chain_Put_k3
  rw [wrap_succ (by omega)]
  have hm : mkc ((l.length + 1 : Nat) : Int) = some (l.length + 1) := by
    unfold mkc
    rw [if_pos (by omega)]
    simp
  have hs1 : slc l 0 (j : Int) = some (l.take j) := by
    unfold slc
    rw [if_pos (by omega)]
    simp
  have hs2 : slc l (j : Int) (l.length : Int) = some (l.drop j) := by
    unfold slc
    rw [if_pos (by omega)]
    simp
  rw [hm]
  simp only [Option.bind_some, hs1, hs2]
  rw [apd_ok (by simp; omega)]
  simp only [Option.bind_some, List.nil_append]
  rw [apd_ok (by simp; omega)]
  simp only [Option.bind_some]
  rw [apd_ok (by simp; omega)]
  simp
theorem put_L1 (N : Nat) (l : List Ver) (v : Ver) (hl : l.length ≤ 1000000) : ∀ (fuel i : Nat) (r : Int), l.length - i < fuel → i ≤ l.length → (l.take i).find? (fun x => eqM x v) = none → BP r ((l.take i).findIdx? (fun x => ltM v x)) →
    M.chain_Put_L1 N fuel l v r (i : Int) = some (putF l v) := fun fuel => by
  induction fuel with
  | zero => intro i r hf; omega
  | succ fuel ih =>
    intro i r hf hi hn hr
    unfold M.chain_Put_L1
    rcases Nat.lt_or_ge i l.length with hlt | hge
    · rw [decide_eq_true (show (i : Int) < (l.length : Int) by omega), cond_true, idx_get hlt]
      simp only [Option.bind_some, M.chain_Put_k2, M.hlc_Of, cmp_eq N l[i] v, cmpM_eq, cmpM_gt, wrap_succ (show i < 4611686018427387904 by omega)]
      have htk : l.take (i + 1) = l.take i ++ [l[i]] := by rw [List.take_add_one, List.getElem?_eq_getElem hlt]; rfl
      cases he : eqM l[i] v with
      | true =>
        have hf : l.find? (fun x => eqM x v) = some l[i] := by
          have hsp : l.find? (fun x => eqM x v) = (l.take i ++ l[i] :: l.drop (i + 1)).find? (fun x => eqM x v) := by rw [← drop_cons hlt, List.take_append_drop]
          rw [hsp, List.find?_append, hn, Option.none_or]
          exact List.find?_cons_of_pos (p := fun x => eqM x v) he
        simp only [cond_true, Option.bind_some]
        unfold putF
        rw [hf]
        simp only
        by_cases hv : l[i] = v
        · rw [(cEq_v l[i] v).2 hv, cond_true, if_pos hv]
        · have : cEq (flat [(1, [.string (l[i].Key)]), (1, [.string (l[i].Val)]), (1, [.bool (l[i].Gone)]), (1, [.int .u64 (l[i].TS)]), (1, [.int .i64 (l[i].DC)]), (1, [.int .i64 (l[i].Tx)])]) (flat [(1, [.string (v.Key)]), (1, [.string (v.Val)]), (1, [.bool (v.Gone)]), (1, [.int .u64 (v.TS)]), (1, [.int .i64 (v.DC)]), (1, [.int .i64 (v.Tx)])]) = false := by
            rw [Bool.eq_false_iff, ne_eq, cEq_v]; exact hv
          rw [this, cond_false, if_neg hv]
      | false =>
        simp only [cond_false, Option.bind_some]
        have hn' : (l.take (i + 1)).find? (fun x => eqM x v) = none := by
          rw [htk, List.find?_append, hn]; simp [he]
        have hfi : (l.take (i + 1)).findIdx? (fun x => ltM v x) = match (l.take i).findIdx? (fun x => ltM v x) with | some j => some j | none => if ltM v l[i] then some i else none := by
          rw [htk, List.findIdx?_append]
          cases (l.take i).findIdx? (fun x => ltM v x) with
          | some j => simp
          | none => simp [List.findIdx?_cons, List.length_take, Nat.min_eq_left hi]
        cases ho : (l.take i).findIdx? (fun x => ltM v x) with
        | none =>
          rw [ho] at hr hfi
          have hr' : r = -1 := hr
          subst hr'
          cases hg : ltM v l[i] with
          | true =>
            rw [hg] at hfi
            simp only [cond_true, Option.bind_some, show decide ((-1 : Int) < 0) = true from rfl]
            exact ih (i + 1) (i : Int) (by omega) (by omega) hn' (by rw [hfi]; rfl)
          | false =>
            rw [hg] at hfi
            simp only [cond_false, Option.bind_some]
            exact ih (i + 1) (-1) (by omega) (by omega) hn' (by rw [hfi]; rfl)
        | some j =>
          rw [ho] at hr hfi
          have hr' : r = (j : Int) := hr
          subst hr'
          cases hg : ltM v l[i] with
          | true =>
            simp only [cond_true, Option.bind_some, decide_eq_false (show ¬ (j : Int) < 0 by omega), cond_false]
            exact ih (i + 1) (j : Int) (by omega) (by omega) hn' (by rw [hfi]; rfl)
          | false =>
            simp only [cond_false, Option.bind_some]
            exact ih (i + 1) (j : Int) (by omega) (by omega) hn' (by rw [hfi]; rfl)
    · rw [decide_eq_false (show ¬ (i : Int) < (l.length : Int) by omega), cond_false]
      rw [List.take_of_length_le hge] at hn hr
      unfold putF
      rw [hn]
      simp only
      unfold insM
      cases ho : l.findIdx? (fun x => ltM v x) with
      | none =>
        rw [ho] at hr
        have hr' : r = -1 := hr
        subst hr'
        rw [show decide ((-1 : Int) < 0) = true from rfl, cond_true, put_k3 N l v hl l.length (Nat.le_refl _)]
        simp
      | some j =>
        rw [ho] at hr
        have hr' : r = (j : Int) := hr
        subst hr'
        have hjl : j < l.length := (List.findIdx?_eq_some_iff_getElem.1 ho).1
        rw [decide_eq_false (show ¬ (j : Int) < 0 by omega), cond_false, put_k3 N l v hl j (by omega)]
theorem Put_eq (N : Nat) (l : List Ver) (v : Ver) (hl : l.length ≤ 1000000) (hN : l.length < N) : M.chain_Put N l v = some (putF l v) :=
  put_L1 N l v hl N 0 (-1) (by omega) (Nat.zero_le _) rfl rfl
end Go.Cf
namespace Go.Cf
open Go
abbrev SL := List (ByteArray × List Ver)
/-- what is wrong with a version -/
def chk (v : Ver) : Int := if v.Key.size > 16 ∨ v.Val.size > 64 then 6 else if v.Key = nil ∨ (v.Gone = true ∧ v.Val ≠ nil) ∨ v.DC < 0 ∨ v.DC ≥ 4 ∨ v.Tx < 0 ∨ v.Tx > 1073741824 then 1 else 0
theorem check_eq (N : Nat) (v : Ver) : M.store_Check N v = some (chk v) := by
  unfold M.store_Check chk
  by_cases h1 : v.Key.size > 16
  · rw [decide_eq_true (show ((v.Key.size : Nat) : Int) > 16 by omega)]; simp [h1]
  · rw [decide_eq_false (show ¬ ((v.Key.size : Nat) : Int) > 16 by omega), cond_false]
    by_cases h2 : v.Val.size > 64
    · rw [decide_eq_true (show ((v.Val.size : Nat) : Int) > 64 by omega)]; simp [h2]
    · rw [decide_eq_false (show ¬ ((v.Val.size : Nat) : Int) > 64 by omega), if_neg (by omega)]
      simp only [Option.bind_some, cond_false, sEq_dec]
      by_cases h3 : v.Key = nil
      · simp [h3]
      · rw [decide_eq_false h3, cond_false]
        have hrest : (bif decide (v.DC < 0) then some true else bif decide (v.DC ≥ 4) then some true else bif decide (v.Tx < 0) then some true else some (decide (v.Tx > 1073741824))) = some (decide (v.DC < 0 ∨ v.DC ≥ 4 ∨ v.Tx < 0 ∨ v.Tx > 1073741824)) := by
          by_cases a1 : v.DC < 0
          · simp [a1]
          · by_cases a2 : v.DC ≥ 4
            · simp [a1, a2]
            · by_cases a3 : v.Tx < 0
              · simp [a1, a2, a3]
              · simp [a1, a2, a3]
        rw [hrest]
        cases hg : v.Gone with
        | false =>
          simp only [cond_false, Option.bind_some, h3, Bool.false_eq_true, false_and, false_or]
          by_cases h4 : v.DC < 0 ∨ v.DC ≥ 4 ∨ v.Tx < 0 ∨ v.Tx > 1073741824
          · rw [decide_eq_true h4, if_pos h4]; rfl
          · rw [decide_eq_false h4, if_neg h4]; rfl
        | true =>
          simp only [cond_true, h3, true_and, false_or]
          by_cases h5 : v.Val = nil
          · simp only [h5, decide_true, Bool.not_true, cond_false, Option.bind_some, ne_eq, not_true_eq_false, false_or]
            by_cases h4 : v.DC < 0 ∨ v.DC ≥ 4 ∨ v.Tx < 0 ∨ v.Tx > 1073741824
            · rw [decide_eq_true h4, if_pos h4]; rfl
            · rw [decide_eq_false h4, if_neg h4]; rfl
          · simp [h5]
/-- a key's chain -/
def chOf (l : SL) (k : ByteArray) : List Ver := (lFind l k).getD []
theorem mgt_chOf (l : SL) (k : ByteArray) : mgt (some l) k ([] : List Ver) = some (chOf l k, (lFind l k).isSome) := rfl
def putE (l : SL) (f : Int) (v : Ver) : Int :=
  if chk v ≠ 0 then chk v else if (putF (chOf l v.Key) v).2 ≠ 0 then (putF (chOf l v.Key) v).2 else match seenF (chOf l v.Key) f with | some x => if ltM v x then 11 else 0 | none => 0
def putL (l : SL) (f : Int) (v : Ver) : SL := if putE l f v = 0 then lPut l v.Key (trimF (putF (chOf l v.Key) v).1 f) else l
theorem insM_length (l : List Ver) (v : Ver) : (insM l v).length = l.length + 1 := by
  unfold insM
  cases h : l.findIdx? (fun x => ltM v x) with
  | none => simp
  | some j =>
    have hj : j < l.length := (List.findIdx?_eq_some_iff_getElem.1 h).1
    simp; omega
theorem putF_length (l : List Ver) (v : Ver) : (putF l v).1.length ≤ l.length + 1 := by
  unfold putF
  cases l.find? (fun x => eqM x v) with
  | none => simp only [insM_length]; exact Nat.le_refl _
  | some x => simp
theorem put_eq (N : Nat) (l : SL) (f : Int) (v : Ver) (hl : (chOf l v.Key).length < 1000000) (hN : (chOf l v.Key).length + 1 < N) :
    M.store_Store_Put N ⟨some l, f⟩ v = some (putE l f v, ⟨some (putL l f v), f⟩) := by
  unfold M.store_Store_Put
  rw [show M.store_Check N (T_api_Ver.mk v.Key v.Val v.Gone v.TS v.DC v.Tx) = _ from check_eq N v]
  simp only [Option.bind_some, mgt_chOf]
  by_cases h1 : chk v = 0
  · rw [show (chk v != 0) = false by simp [h1], cond_false]
    rw [show M.chain_Put N (chOf l v.Key) (T_api_Ver.mk v.Key v.Val v.Gone v.TS v.DC v.Tx) = _ from Put_eq N _ v (by omega) (by omega)]
    simp only [Option.bind_some]
    by_cases h2 : (putF (chOf l v.Key) v).2 = 0
    · rw [show ((putF (chOf l v.Key) v).2 != 0) = false by simp [h2], cond_false, At_eq N _ f (by omega) (by omega)]
      have h3 := putF_length (chOf l v.Key) v
      have hT := Trim_eq N (putF (chOf l v.Key) v).1 f (by omega) (by omega)
      have hE : putE l f v = match seenF (chOf l v.Key) f with | some x => if ltM v x then 11 else 0 | none => 0 := by
        unfold putE; rw [if_neg (by simp [h1]), if_neg (by simp [h2])]
      simp only [Option.bind_some]
      have hok : putE l f v = 0 → putL l f v = lPut l v.Key (trimF (putF (chOf l v.Key) v).1 f) := fun h => by unfold putL; rw [if_pos h]
      have hno : putE l f v = 11 → putL l f v = l := fun h => by unfold putL; rw [if_neg (by omega)]
      cases hs : seenF (chOf l v.Key) f with
      | none =>
        rw [hs] at hE
        rw [hok hE, hE]
        simp only [Option.isSome_none, cond_false, Option.bind_some, hT, mPut, Option.map_some]
      | some x =>
        rw [hs] at hE
        simp only [Option.isSome_some, Option.getD_some, cond_true, M.hlc_Of, Option.bind_some, cmp_eq N v x, cmpM_lt]
        cases hx : ltM v x with
        | true =>
          simp only [hx, if_true] at hE
          rw [hno hE, hE]; rfl
        | false =>
          simp only [hx, Bool.false_eq_true, if_false] at hE
          rw [hok hE, hE]
          simp only [cond_false, hT, Option.bind_some, mPut, Option.map_some]
    · have hE : putE l f v = (putF (chOf l v.Key) v).2 := by unfold putE; rw [if_neg (by simp [h1]), if_pos h2]
      have hL : putL l f v = l := by unfold putL; rw [if_neg (by rw [hE]; exact h2)]
      rw [show ((putF (chOf l v.Key) v).2 != 0) = true by simp [h2], cond_true, hE, hL]
  · have hE : putE l f v = chk v := by unfold putE; rw [if_pos h1]
    have hL : putL l f v = l := by unfold putL; rw [if_neg (by rw [hE]; exact h1)]
    rw [show (chk v != 0) = true by simp [h1], cond_true, hE, hL]
/-- what holds of every store: keys rise and are short; there are at most n chains, and n versions -/
def totL (l : SL) : Nat := (l.map fun p => p.2.length).sum
structure SB10 (l : SL) (n : Nat) : Prop where
  srt : Srt l
  key : ∀ p ∈ l, p.1.size ≤ 16
  len : l.length ≤ n
  tot : totL l ≤ n
theorem SB10.mono {l : SL} {n m : Nat} (h : SB10 l n) (hm : n ≤ m) : SB10 l m := ⟨h.srt, h.key, Nat.le_trans h.len hm, Nat.le_trans h.tot hm⟩
theorem SB10.nil : SB10 [] 0 := ⟨List.Pairwise.nil, (fun _ h => by cases h), Nat.le_refl _, Nat.le_refl _⟩
/-- what is seen -/
def getV (l : SL) (k : ByteArray) (t : Int) : Option Ver := seenF (chOf l k) t
theorem get_eq (N : Nat) (l : SL) (f : Int) (k : ByteArray) (t : Int) (hl : (chOf l k).length < 1000000) (hN : (chOf l k).length < N) :
    M.store_Store_Get N ⟨some l, f⟩ k t = some (if t < f then (noVer, false, 11) else ((getV l k t).getD noVer, (getV l k t).isSome, 0)) := by
  unfold M.store_Store_Get
  by_cases h : t < f
  · rw [decide_eq_true h, if_pos h]; rfl
  · rw [decide_eq_false h, if_neg h, cond_false, mgt_chOf]
    simp only [Option.bind_some]
    rw [At_eq N _ t (by omega) hN]
    rfl
end Go.Cf
namespace Go.Cf
open Go
/-- marks rise -/
abbrev Rise (l : List Ver) : Prop := l.Pairwise fun a b => ltM a b = true
theorem Rise.inj {l : List Ver} (h : Rise l) {a b : Ver} (ha : a ∈ l) (hb : b ∈ l) (h1 : ltM a b = false) (h2 : ltM b a = false) : a = b := by
  induction l with
  | nil => cases ha
  | cons x l ih =>
    obtain ⟨hx, hl⟩ := List.pairwise_cons.1 h
    rcases List.mem_cons.1 ha with ea | ha'
    · rcases List.mem_cons.1 hb with eb | hb'
      · rw [ea, eb]
      · rw [ea, hx b hb'] at h1; cases h1
    · rcases List.mem_cons.1 hb with eb | hb'
      · rw [eb, hx a ha'] at h2; cases h2
      · exact ih hl ha' hb'
/-- lists that rise and have the same members are the same -/
theorem Rise.ext : ∀ {l l' : List Ver}, Rise l → Rise l' → (∀ x, x ∈ l ↔ x ∈ l') → l = l' := fun {l} => by
  induction l with
  | nil =>
    intro l' _ _ hm
    cases l' with
    | nil => rfl
    | cons y l' => exact absurd ((hm y).2 (by simp)) (by simp)
  | cons x l ih =>
    intro l' h h' hm
    cases l' with
    | nil => exact absurd ((hm x).1 (by simp)) (by simp)
    | cons y l' =>
      obtain ⟨hx, hl⟩ := List.pairwise_cons.1 h
      obtain ⟨hy, hl'⟩ := List.pairwise_cons.1 h'
      have e : x = y := by
        rcases List.mem_cons.1 ((hm x).1 (by simp)) with e | hxl
        · exact e
        · rcases List.mem_cons.1 ((hm y).2 (by simp)) with e | hyl
          · exact e.symm
          · have h1 := hx y hyl
            have h2 := hy x hxl
            rw [ltM_asy h1] at h2; cases h2
      subst e
      rw [ih hl hl' fun z => ?_]
      refine ⟨fun hz => ?_, fun hz => ?_⟩
      · rcases List.mem_cons.1 ((hm z).1 (List.mem_cons_of_mem _ hz)) with e | h
        · subst e; have := hx _ hz; rw [ltM_irr] at this; cases this
        · exact h
      · rcases List.mem_cons.1 ((hm z).2 (List.mem_cons_of_mem _ hz)) with e | h
        · subst e; have := hy _ hz; rw [ltM_irr] at this; cases this
        · exact h
structure ChOk (k : ByteArray) (f : Int) (c : List Ver) : Prop where
  key : ∀ v ∈ c, v.Key = k ∧ chk v = 0
  rise : Rise c
  ne : c ≠ []
  trm : trimF c f = c
structure SOk10 (l : SL) (f : Int) : Prop where
  srt : Srt l
  ch : ∀ p ∈ l, ChOk p.1 f p.2
theorem SOk10.nil (f : Int) : SOk10 [] f := ⟨List.Pairwise.nil, fun _ h => by cases h⟩
theorem SOk10.of {l : SL} {f : Int} (h : SOk10 l f) {k : ByteArray} {c : List Ver} (hc : lFind l k = some c) : ChOk k f c := h.ch (k, c) (lFind_some hc)
theorem SOk10.rise {l : SL} {f : Int} (h : SOk10 l f) (k : ByteArray) : Rise (chOf l k) := by
  unfold chOf
  cases hc : lFind l k with
  | none => exact List.Pairwise.nil
  | some c => exact (h.of hc).rise
theorem SOk10.key {l : SL} {f : Int} (h : SOk10 l f) {k : ByteArray} {v : Ver} (hv : v ∈ chOf l k) : v.Key = k ∧ chk v = 0 := by
  unfold chOf at hv
  cases hc : lFind l k with
  | none => rw [hc] at hv; cases hv
  | some c => rw [hc] at hv; exact (h.of hc).key v hv
theorem SOk10.trm {l : SL} {f : Int} (h : SOk10 l f) (k : ByteArray) : trimF (chOf l k) f = chOf l k := by
  unfold chOf
  cases hc : lFind l k with
  | none => rfl
  | some c => exact (h.of hc).trm
theorem awake10 (N : Nat) (hN : 3 ≤ N) : M.law10_awake N = some true := by
  have h1 : M.store_Store_Put N (T_store_Store.mk (some []) 0) (T_api_Ver.mk (ByteArray.mk #[97]) ByteArray.empty false 3 0 0) = _ := put_eq N [] 0 ⟨ByteArray.mk #[97], ByteArray.empty, false, 3, 0, 0⟩ (by decide) (by simp [chOf, lFind]; omega)
  have h2 : putE [] 0 ⟨ByteArray.mk #[97], ByteArray.empty, false, 3, 0, 0⟩ = 0 := by decide +kernel
  have h3 : putL [] 0 ⟨ByteArray.mk #[97], ByteArray.empty, false, 3, 0, 0⟩ = [(ByteArray.mk #[97], [⟨ByteArray.mk #[97], ByteArray.empty, false, 3, 0, 0⟩])] := by
    unfold putL; rw [h2]; rfl
  have h4 : M.store_Store_Get N (T_store_Store.mk (some [(ByteArray.mk #[97], [⟨ByteArray.mk #[97], ByteArray.empty, false, 3, 0, 0⟩])]) 0) (ByteArray.mk #[97]) 3 = _ := get_eq N _ _ _ _ (by simp [chOf, lFind]) (by simp [chOf, lFind]; omega)
  unfold M.law10_awake M.store_New
  simp only [Option.bind_some]
  rw [h1, h2, h3]
  simp only [Option.bind_some, bne_self_eq_false, cond_false]
  rw [h4]
  rfl
end Go.Cf
namespace Go.Cf
open Go
theorem pStoreNone (N : Nat) (hN : 1000 ≤ N) (v : Ver) (k : ByteArray) (t : Int) : M.law10_StoreNone N v k t = some true := by
  obtain ⟨n, rfl⟩ : ∃ n, N = n + 2 := ⟨N - 2, by omega⟩
  have h := (cEq_v noVer noVer).2 rfl
  simp only [noVer] at h
  unfold M.law10_StoreNone
  simp only [M.store_Store_Get_nil0, M.store_Store_Put_nil0, M.store_Store_Load_nil0, M.store_Store_Load_nil0_L1, M.store_Store_Load_nil0_k2, M.store_Store_All_nil0, M.store_Store_All_1_nil0, M.store_Store_Drop_nil0, M.store_Store_Trim_nil0, M.store_Store_Floor_nil0, M.store_Store_Len_nil0, M.law10_All_nil0, Option.bind_some, awake10 (n + 2) (by omega), cond_true, beq_self_eq_true, h, Bool.not_false]
  rfl
end Go.Cf
