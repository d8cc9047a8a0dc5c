/- What the arguments of the laws read as. Printed by a program of ours (joiner.py). -/
import Derived.Test.YtogjpknjolkjaaaRows
import Derived.Test.YtogjpknjolkjaaaZK2
namespace Go.Cf
open Go Go.Proofs
def ok_api_Map (x : T_api_Map) : Prop := (∀ y ∈ x.Cuts, okS y) ∧ (∀ y ∈ x.Nodes, inI .i64 y)
set_option maxRecDepth 100000 in
theorem rd_api_Map : RdT Try.prog t_api_Map ok_api_Map 25 := fun H enc W n cs d h => by
  obtain ⟨hl, k, hf⟩ := rd_struct Try.underlying25 h
  rw [show Try.prog.cellsOf 25 = 2 from by kernel_rfl] at hl
  have c22 : Try.prog.cellsOf 22 = 1 := by kernel_rfl
  have c23 : Try.prog.cellsOf 23 = 1 := by kernel_rfl
  obtain ⟨d0, h0⟩ := hf _ (List.mem_of_getElem? (i := 0) rfl)
  obtain ⟨d1, h1⟩ := hf _ (List.mem_of_getElem? (i := 1) rfl)
  simp only [c22, c23] at h0 h1
  obtain ⟨p0, k0, x0, K0, e0, o0, r0⟩ := rd_slice (t := fStr.ty) Try.underlying22 (rd_str Try.underlying9) (by kernel_rfl) (by decide) h0
  obtain ⟨p1, k1, x1, K1, e1, o1, r1⟩ := rd_slice (t := (fInt .i64).ty) Try.underlying23 (rd_int Try.underlying3) (by kernel_rfl) (by decide) h1
  refine ⟨⟨x0, x1⟩, max K0 (max K1 0), ⟨o0, o1⟩, fun K hK => ?_⟩
  have e : cs = (List.take 1 (List.drop 0 cs) ++ (List.take 1 (List.drop 1 cs) ++ [])) := pieces [1, 1] hl
  rw [e0, e1] at e
  refine ⟨(p0, k0, p1, k1), e.trans rfl, fun m hm => ?_⟩
  simp only [List.mem_cons, List.not_mem_nil, or_false] at hm
  rcases hm with rfl | rfl
  · exact r0 K (by omega)
  · exact r1 K (by omega)
end Go.Cf
