/- The plain law of ConfigStarts: the model answers true, of any numbers. -/
import Derived.Test.YtjohablgnnbelaaM3
namespace Go.Cf
open Go

theorem pConfigStartsIn : ([1, 2, 3, 4] : List Int).all (fun a1 => ([1, 2, 3, 4] : List Int).all fun a2 => ([1, 2, 3, 4] : List Int).all fun a3 => !(decide (a2 ≤ a1)) || (M.law18_ConfigStarts 100 a1 a2 a3 == some true)) = true := by kernel_rfl
theorem pConfigStarts (a1 a2 a3 : Int) : M.law18_ConfigStarts 100 a1 a2 a3 = some true := by
  by_cases h : (1 ≤ a1 ∧ a1 ≤ 4) ∧ (1 ≤ a2 ∧ a2 ≤ a1) ∧ (1 ≤ a3 ∧ a3 ≤ 4)
  · obtain ⟨⟨h1, h2⟩, ⟨h3, h4⟩, h5, h6⟩ := h
    have m1 : a1 ∈ ([1, 2, 3, 4] : List Int) := by simp; omega
    have m2 : a2 ∈ ([1, 2, 3, 4] : List Int) := by simp; omega
    have m3 : a3 ∈ ([1, 2, 3, 4] : List Int) := by simp; omega
    have h := List.all_eq_true.1 (List.all_eq_true.1 (List.all_eq_true.1 pConfigStartsIn a1 m1) a2 m2) a3 m3
    simpa [h4] using h
  · have hv : (bif decide (a1 < 1) then (some true) else (bif decide (a1 > 4) then (some true) else (bif decide (a2 < 1) then (some true) else (bif decide (a2 > a1) then (some true) else (bif decide (a3 < 1) then (some true) else (some (decide (a3 > 4)))))))) = some true := by
      simp only [Bool.cond_decide]
      repeat' split
      all_goals first | rfl | (simp; omega)
    unfold M.law18_ConfigStarts M.config_Start M.ref18_Start
    rw [hv]
    show _ = some true
    kernel_rfl
end Go.Cf
