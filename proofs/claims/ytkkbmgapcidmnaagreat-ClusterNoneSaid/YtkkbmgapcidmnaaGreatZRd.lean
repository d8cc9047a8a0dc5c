/- What the arguments of the laws read as. Printed by a program of ours (joiner.py). -/
import Derived.Test.YtkkbmgapcidmnaaGreatRows
import Derived.Test.YtkkbmgapcidmnaaGreatZK2
namespace Go.Cf
open Go Go.Proofs
def ok_api_Cmd (x : T_api_Cmd) : Prop := inI .i64 x.Kind ∧ inI .i64 x.DC ∧ inI .i64 x.Shard ∧ inI .i64 x.Node ∧ inI .i64 x.Mode ∧ okS x.Key
set_option maxRecDepth 100000 in
theorem rd_api_Cmd : RdT Tryz.prog f_api_Cmd.ty ok_api_Cmd 56 := fun H enc W n cs d h => by
  obtain ⟨hl, k, hf⟩ := rd_struct Tryz.underlying56 h
  rw [show Tryz.prog.cellsOf 56 = 6 from by kernel_rfl] at hl
  have c3 : Tryz.prog.cellsOf 3 = 1 := by kernel_rfl
  have c9 : Tryz.prog.cellsOf 9 = 1 := by kernel_rfl
  obtain ⟨d0, h0⟩ := hf _ (List.mem_of_getElem? (i := 0) rfl)
  obtain ⟨d1, h1⟩ := hf _ (List.mem_of_getElem? (i := 1) rfl)
  obtain ⟨d2, h2⟩ := hf _ (List.mem_of_getElem? (i := 2) rfl)
  obtain ⟨d3, h3⟩ := hf _ (List.mem_of_getElem? (i := 3) rfl)
  obtain ⟨d4, h4⟩ := hf _ (List.mem_of_getElem? (i := 4) rfl)
  obtain ⟨d5, h5⟩ := hf _ (List.mem_of_getElem? (i := 5) rfl)
  simp only [c3, c9] at h0 h1 h2 h3 h4 h5
  obtain ⟨x0, K0, o0, r0⟩ := (rd_int Tryz.underlying3) _ _ _ _ _ _ h0
  obtain ⟨x1, K1, o1, r1⟩ := (rd_int Tryz.underlying3) _ _ _ _ _ _ h1
  obtain ⟨x2, K2, o2, r2⟩ := (rd_int Tryz.underlying3) _ _ _ _ _ _ h2
  obtain ⟨x3, K3, o3, r3⟩ := (rd_int Tryz.underlying3) _ _ _ _ _ _ h3
  obtain ⟨x4, K4, o4, r4⟩ := (rd_int Tryz.underlying3) _ _ _ _ _ _ h4
  obtain ⟨x5, K5, o5, r5⟩ := (rd_str Tryz.underlying9) _ _ _ _ _ _ h5
  refine ⟨⟨x0, x1, x2, x3, x4, x5⟩, max K0 (max K1 (max K2 (max K3 (max K4 (max K5 0))))), ⟨o0, o1, o2, o3, o4, o5⟩, fun K hK => ?_⟩
  have q0 : List.take 1 (List.drop 0 cs) = _ := r0 K (by omega)
  have q1 : List.take 1 (List.drop 1 cs) = _ := r1 K (by omega)
  have q2 : List.take 1 (List.drop 2 cs) = _ := r2 K (by omega)
  have q3 : List.take 1 (List.drop 3 cs) = _ := r3 K (by omega)
  have q4 : List.take 1 (List.drop 4 cs) = _ := r4 K (by omega)
  have q5 : List.take 1 (List.drop 5 cs) = _ := r5 K (by omega)
  have e : cs = (List.take 1 (List.drop 0 cs) ++ (List.take 1 (List.drop 1 cs) ++ (List.take 1 (List.drop 2 cs) ++ (List.take 1 (List.drop 3 cs) ++ (List.take 1 (List.drop 4 cs) ++ (List.take 1 (List.drop 5 cs) ++ [])))))) := pieces [1, 1, 1, 1, 1, 1] hl
  rw [q0, q1, q2, q3, q4, q5] at e
  exact e
def ok_cluster_Op (x : T_cluster_Op) : Prop := inI .i64 x.Kind ∧ inI .i64 x.Who ∧ inI .i64 x.A ∧ inI .i64 x.B ∧ inI .i64 x.N ∧ okS x.Key ∧ okS x.Val ∧ ok_api_Cmd x.Cmd
set_option maxRecDepth 100000 in
theorem rd_cluster_Op : RdT Tryz.prog f_cluster_Op.ty ok_cluster_Op 58 := fun H enc W n cs d h => by
  obtain ⟨hl, k, hf⟩ := rd_struct Tryz.underlying58 h
  rw [show Tryz.prog.cellsOf 58 = 13 from by kernel_rfl] at hl
  have c3 : Tryz.prog.cellsOf 3 = 1 := by kernel_rfl
  have c9 : Tryz.prog.cellsOf 9 = 1 := by kernel_rfl
  have c56 : Tryz.prog.cellsOf 56 = 6 := by kernel_rfl
  obtain ⟨d0, h0⟩ := hf _ (List.mem_of_getElem? (i := 0) rfl)
  obtain ⟨d1, h1⟩ := hf _ (List.mem_of_getElem? (i := 1) rfl)
  obtain ⟨d2, h2⟩ := hf _ (List.mem_of_getElem? (i := 2) rfl)
  obtain ⟨d3, h3⟩ := hf _ (List.mem_of_getElem? (i := 3) rfl)
  obtain ⟨d4, h4⟩ := hf _ (List.mem_of_getElem? (i := 4) rfl)
  obtain ⟨d5, h5⟩ := hf _ (List.mem_of_getElem? (i := 5) rfl)
  obtain ⟨d6, h6⟩ := hf _ (List.mem_of_getElem? (i := 6) rfl)
  obtain ⟨d7, h7⟩ := hf _ (List.mem_of_getElem? (i := 7) rfl)
  simp only [c3, c9, c56] at h0 h1 h2 h3 h4 h5 h6 h7
  obtain ⟨x0, K0, o0, r0⟩ := (rd_int Tryz.underlying3) _ _ _ _ _ _ h0
  obtain ⟨x1, K1, o1, r1⟩ := (rd_int Tryz.underlying3) _ _ _ _ _ _ h1
  obtain ⟨x2, K2, o2, r2⟩ := (rd_int Tryz.underlying3) _ _ _ _ _ _ h2
  obtain ⟨x3, K3, o3, r3⟩ := (rd_int Tryz.underlying3) _ _ _ _ _ _ h3
  obtain ⟨x4, K4, o4, r4⟩ := (rd_int Tryz.underlying3) _ _ _ _ _ _ h4
  obtain ⟨x5, K5, o5, r5⟩ := (rd_str Tryz.underlying9) _ _ _ _ _ _ h5
  obtain ⟨x6, K6, o6, r6⟩ := (rd_str Tryz.underlying9) _ _ _ _ _ _ h6
  obtain ⟨x7, K7, o7, r7⟩ := rd_api_Cmd _ _ _ _ _ _ h7
  refine ⟨⟨x0, x1, x2, x3, x4, x5, x6, x7⟩, max K0 (max K1 (max K2 (max K3 (max K4 (max K5 (max K6 (max K7 0))))))), ⟨o0, o1, o2, o3, o4, o5, o6, o7⟩, fun K hK => ?_⟩
  have q0 : List.take 1 (List.drop 0 cs) = _ := r0 K (by omega)
  have q1 : List.take 1 (List.drop 1 cs) = _ := r1 K (by omega)
  have q2 : List.take 1 (List.drop 2 cs) = _ := r2 K (by omega)
  have q3 : List.take 1 (List.drop 3 cs) = _ := r3 K (by omega)
  have q4 : List.take 1 (List.drop 4 cs) = _ := r4 K (by omega)
  have q5 : List.take 1 (List.drop 5 cs) = _ := r5 K (by omega)
  have q6 : List.take 1 (List.drop 6 cs) = _ := r6 K (by omega)
  have q7 : List.take 6 (List.drop 7 cs) = _ := r7 K (by omega)
  have e : cs = (List.take 1 (List.drop 0 cs) ++ (List.take 1 (List.drop 1 cs) ++ (List.take 1 (List.drop 2 cs) ++ (List.take 1 (List.drop 3 cs) ++ (List.take 1 (List.drop 4 cs) ++ (List.take 1 (List.drop 5 cs) ++ (List.take 1 (List.drop 6 cs) ++ (List.take 6 (List.drop 7 cs) ++ [])))))))) := pieces [1, 1, 1, 1, 1, 1, 1, 6] hl
  rw [q0, q1, q2, q3, q4, q5, q6, q7] at e
  exact e
end Go.Cf
