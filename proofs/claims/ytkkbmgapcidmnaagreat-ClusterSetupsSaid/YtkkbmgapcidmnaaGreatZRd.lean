/- What the arguments of the laws read as. Printed by a program of ours (joiner.py). -/
import Derived.Test.YtkkbmgapcidmnaaGreatRows
import Derived.Test.YtkkbmgapcidmnaaGreatZK2
namespace Go.Cf
open Go Go.Proofs
def ok_cluster_Setup (x : T_cluster_Setup) : Prop := inI .i64 x.Pool ∧ inI .i64 x.Members ∧ inI .i64 x.Nodes ∧ okB x.Plain
set_option maxRecDepth 100000 in
theorem rd_cluster_Setup : RdT Tryz.prog f_cluster_Setup.ty ok_cluster_Setup 23 := fun H enc W n cs d h => by
  obtain ⟨hl, k, hf⟩ := rd_struct Tryz.underlying23 h
  rw [show Tryz.prog.cellsOf 23 = 4 from by kernel_rfl] at hl
  have c3 : Tryz.prog.cellsOf 3 = 1 := by kernel_rfl
  have c4 : Tryz.prog.cellsOf 4 = 1 := by kernel_rfl
  obtain ⟨d0, h0⟩ := hf _ (List.mem_of_getElem? (i := 0) rfl)
  obtain ⟨d1, h1⟩ := hf _ (List.mem_of_getElem? (i := 1) rfl)
  obtain ⟨d2, h2⟩ := hf _ (List.mem_of_getElem? (i := 2) rfl)
  obtain ⟨d3, h3⟩ := hf _ (List.mem_of_getElem? (i := 3) rfl)
  simp only [c3, c4] at h0 h1 h2 h3
  obtain ⟨x0, K0, o0, r0⟩ := (rd_int Tryz.underlying3) _ _ _ _ _ _ h0
  obtain ⟨x1, K1, o1, r1⟩ := (rd_int Tryz.underlying3) _ _ _ _ _ _ h1
  obtain ⟨x2, K2, o2, r2⟩ := (rd_int Tryz.underlying3) _ _ _ _ _ _ h2
  obtain ⟨x3, K3, o3, r3⟩ := (rd_bool Tryz.underlying4) _ _ _ _ _ _ h3
  refine ⟨⟨x0, x1, x2, x3⟩, max K0 (max K1 (max K2 (max K3 0))), ⟨o0, o1, o2, o3⟩, fun K hK => ?_⟩
  have q0 : List.take 1 (List.drop 0 cs) = _ := r0 K (by omega)
  have q1 : List.take 1 (List.drop 1 cs) = _ := r1 K (by omega)
  have q2 : List.take 1 (List.drop 2 cs) = _ := r2 K (by omega)
  have q3 : List.take 1 (List.drop 3 cs) = _ := r3 K (by omega)
  have e : cs = (List.take 1 (List.drop 0 cs) ++ (List.take 1 (List.drop 1 cs) ++ (List.take 1 (List.drop 2 cs) ++ (List.take 1 (List.drop 3 cs) ++ [])))) := pieces [1, 1, 1, 1] hl
  rw [q0, q1, q2, q3] at e
  exact e
end Go.Cf
