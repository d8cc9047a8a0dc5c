/- The plain law of SpanChecks. -/
import Derived.Test.YtjohablgnnbelaaM4
import Derived.Test.YtjohablgnnbelaaPl1
import Derived.Laws.BitsLemmas
namespace Go.Cf
open Go
theorem idx_get {α : Type} {l : List α} {i : Nat} (h : i < l.length) : idx l (i : Int) = some l[i] := by
  simp [idx, h]
theorem wrap_small {x : Int} (h0 : -9223372036854775808 ≤ x) (h1 : x < 9223372036854775808) : IntKind.i64.wrap x = x := by
  rw [IntKind.wrap_i64]; omega
theorem check_L2 (x : T_api_Map) (nodes : Int) : ∀ (fuel i : Nat), x.Nodes.length - i < fuel → x.Nodes.length ≤ 8 → i ≤ x.Nodes.length → ∃ e, M.span_Check_L2 100 fuel x nodes (i : Int) = some e ∧ M.ref08_Check_L2 100 fuel x nodes (i : Int) = some e := by
  intro fuel
  induction fuel with
  | zero => intro i h; omega
  | succ fuel ih =>
    intro i hf h8 hi
    simp only [M.span_Check_L2, M.ref08_Check_L2, Bool.cond_decide]
    by_cases hlt : (i : Int) < (x.Nodes.length : Int)
    · have hin : i < x.Nodes.length := by omega
      simp only [hlt, if_true, idx_get hin, Option.bind_some]
      have hw : IntKind.i64.wrap ((i : Int) + 1) = ((i + 1 : Nat) : Int) := by rw [wrap_small] <;> omega
      rw [hw]
      by_cases h0 : x.Nodes[i] < 0
      · simp [h0]
      · simp only [h0, if_false, Option.bind_some]
        cases hd : decide (x.Nodes[i] ≥ nodes) with
        | true => simp
        | false => simp only [cond_false]; exact ih (i + 1) (by omega) h8 (by omega)
    · simp [hlt]
def ahead (x : T_api_Map) : Nat → ByteArray
  | 0 => ByteArray.mk #[]
  | i + 1 => x.Cuts.getD i (ByteArray.mk #[])
theorem sEq_nil {a : ByteArray} (h : sEq a (ByteArray.mk #[]) = true) : a.toList = [] := by
  unfold sEq at h
  have : (ByteArray.mk #[]).toList = [] := by kernel_rfl
  rw [this] at h
  simpa using h
theorem check_L1 (x : T_api_Map) (nodes : Int) : ∀ (fuel i : Nat), x.Cuts.length - i < fuel → x.Cuts.length ≤ 8 → x.Nodes.length ≤ 8 → i ≤ x.Cuts.length → ∃ e, M.span_Check_L1 100 fuel x nodes (i : Int) = some e ∧ M.ref08_Check_L1 100 fuel x nodes (ahead x i) (i : Int) = some e := by
  intro fuel
  induction fuel with
  | zero => intro i h; omega
  | succ fuel ih =>
    intro i hf h8 hn8 hi
    simp only [M.span_Check_L1, M.ref08_Check_L1]
    by_cases hlt : (i : Int) < (x.Cuts.length : Int)
    · have hin : i < x.Cuts.length := by omega
      simp only [hlt, decide_true, cond_true, idx_get hin, Option.bind_some]
      have hw : IntKind.i64.wrap ((i : Int) + 1) = ((i + 1 : Nat) : Int) := by rw [wrap_small] <;> omega
      have hah : ahead x (i + 1) = x.Cuts[i] := by simp [ahead, hin]
      rw [hw]
      cases hsz : decide (((x.Cuts[i]).size : Int) > 16) with
      | true => simp
      | false =>
        simp only [cond_false]
        have hcond : (bif sEq x.Cuts[i] (ByteArray.mk #[]) then some true else bif decide ((i : Int) > 0) then (idx x.Cuts (IntKind.i64.wrap ((i : Int) - 1))).bind fun x86 => some (!sLt x86 x.Cuts[i]) else some false) = some (sLt x.Cuts[i] (ahead x i) || sEq x.Cuts[i] (ahead x i)) := by
          cases i with
          | zero =>
            have h0 : sLt x.Cuts[0] (ByteArray.mk #[]) = false := by
              unfold sLt
              have : (ByteArray.mk #[]).toList = [] := by kernel_rfl
              rw [this]; exact bl_nil _
            simp only [ahead, h0, Bool.false_or]
            cases sEq x.Cuts[0] (ByteArray.mk #[]) <;> simp
          | succ j =>
            have hj : j < x.Cuts.length := by omega
            have hwj : IntKind.i64.wrap (((j + 1 : Nat) : Int) - 1) = (j : Int) := by rw [wrap_small] <;> omega
            have hpos : decide (((j + 1 : Nat) : Int) > 0) = true := decide_eq_true (by omega)
            have hgj : ahead x (j + 1) = x.Cuts[j] := by simp [ahead, hj]
            rw [hwj, idx_get hj, hpos, hgj]
            simp only [cond_true, Option.bind_some, sLt_not]
            cases he : sEq x.Cuts[j + 1] (ByteArray.mk #[]) with
            | false => rfl
            | true =>
              have hnil := sEq_nil he
              have : (sLt x.Cuts[j + 1] x.Cuts[j] || sEq x.Cuts[j + 1] x.Cuts[j]) = true := by
                unfold sLt sEq
                rw [hnil]
                cases x.Cuts[j].toList <;> simp [Op.bytesLess]
              rw [this]; rfl
        rw [hcond]
        simp only [Option.bind_some]
        cases hv : (sLt x.Cuts[i] (ahead x i) || sEq x.Cuts[i] (ahead x i)) with
        | true => simp
        | false =>
          simp only [cond_false]
          rw [← hah]
          exact ih (i + 1) (by omega) h8 hn8 (by omega)
    · simp only [hlt, decide_false, cond_false]
      exact check_L2 x nodes 100 0 (by omega) hn8 (by omega)
theorem check_eq (x : T_api_Map) (nodes : Int) (hx : x.Cuts.length ≤ maxLen) : ∃ e, M.span_Check 100 x nodes = some e ∧ M.ref08_Check 100 x nodes = some e := by
  unfold M.span_Check M.ref08_Check
  have hm : maxLen = 4611686018427387904 ∨ True := .inr trivial
  have hv : ∃ b, (bif decide (nodes < 1) then (some true) else (some (decide (nodes > 4)))) = some b := by cases decide (nodes < 1) <;> exact ⟨_, rfl⟩
  obtain ⟨b, hb⟩ := hv
  rw [hb]
  simp only [Option.bind_some]
  cases b with
  | true => exact ⟨_, rfl, rfl⟩
  | false =>
    simp only [cond_false]
    cases h1 : decide (((x.Nodes).length : Int) > 8) with
    | true => exact ⟨_, rfl, rfl⟩
    | false =>
      simp only [cond_false]
      cases h2 : (((x.Nodes).length : Int) != IntKind.i64.wrap (((x.Cuts).length : Int) + 1)) with
      | true => exact ⟨_, rfl, rfl⟩
      | false =>
        simp only [cond_false]
        have hn : x.Nodes.length ≤ 8 := by simp at h1; omega
        have he : ((x.Nodes).length : Int) = IntKind.i64.wrap (((x.Cuts).length : Int) + 1) := by simpa using h2
        have hml : maxLen ≤ 9223372036854775807 := by decide
        rw [IntKind.wrap_i64] at he
        exact check_L1 x nodes 100 0 (by omega) (by omega) hn (by omega)
theorem pAwake : M.law08_awake 100 = some true := by kernel_rfl
theorem pSpanChecks (x : T_api_Map) (nodes : Int) (hx : x.Cuts.length ≤ maxLen) : M.law08_SpanChecks 100 x nodes = some true := by
  obtain ⟨e, h1, h2⟩ := check_eq x nodes hx
  unfold M.law08_SpanChecks
  simp only [pAwake, h1, h2, Option.bind_some, cond_true, beq_self_eq_true]
end Go.Cf
