/- What the arguments of the laws read as. Printed by a program of ours (joiner.py). -/
import Derived.Test.YtogjpknjolkjaaaRows
import Derived.Test.YtogjpknjolkjaaaZK2
namespace Go.Cf
open Go Go.Proofs
def ok_api_Map (x : T_api_Map) : Prop := (∀ y ∈ x.Cuts, okS y) ∧ (∀ y ∈ x.Nodes, inI .i64 y)
set_option maxRecDepth 100000 in
theorem rd_api_Map : RdT Try.prog t_api_Map ok_api_Map 25 := fun H enc W n cs d h => by
  obtain ⟨hl, k, hf⟩ := rd_struct Try.underlying25 h
  rw [show Try.prog.cellsOf 25 = 2 from by kernel_rfl] at hl
  have c22 : Try.prog.cellsOf 22 = 1 := by kernel_rfl
  have c23 : Try.prog.cellsOf 23 = 1 := by kernel_rfl
  obtain ⟨d0, h0⟩ := hf _ (List.mem_of_getElem? (i := 0) rfl)
  obtain ⟨d1, h1⟩ := hf _ (List.mem_of_getElem? (i := 1) rfl)
  simp only [c22, c23] at h0 h1
  obtain ⟨p0, k0, x0, K0, e0, o0, r0⟩ := rd_slice (t := fStr.ty) Try.underlying22 (rd_str Try.underlying9) (by kernel_rfl) (by decide) h0
  obtain ⟨p1, k1, x1, K1, e1, o1, r1⟩ := rd_slice (t := (fInt .i64).ty) Try.underlying23 (rd_int Try.underlying3) (by kernel_rfl) (by decide) h1
  refine ⟨⟨x0, x1⟩, max K0 (max K1 0), ⟨o0, o1⟩, fun K hK => ?_⟩
  have e : cs = (List.take 1 (List.drop 0 cs) ++ (List.take 1 (List.drop 1 cs) ++ [])) := pieces [1, 1] hl
  rw [e0, e1] at e
  refine ⟨(p0, k0, p1, k1), e.trans rfl, fun m hm => ?_⟩
  simp only [List.mem_cons, List.not_mem_nil, or_false] at hm
  rcases hm with rfl | rfl
  · exact r0 K (by omega)
  · exact r1 K (by omega)
def ok_config_State (x : T_config_State) : Prop := inI .i64 x.Pool ∧ inI .i64 x.Nodes ∧ (∀ y ∈ x.Members, okB y) ∧ (∀ y ∈ x.Maps, ok_api_Map y) ∧ (∀ y ∈ x.Modes, inI .i64 y)
set_option maxRecDepth 100000 in
theorem rd_config_State : RdT Try.prog t_config_State ok_config_State 56 := fun H enc W n cs d h => by
  obtain ⟨hl, k, hf⟩ := rd_struct Try.underlying56 h
  rw [show Try.prog.cellsOf 56 = 35 from by kernel_rfl] at hl
  have c3 : Try.prog.cellsOf 3 = 1 := by kernel_rfl
  have c52 : Try.prog.cellsOf 52 = 4 := by kernel_rfl
  have c53 : Try.prog.cellsOf 53 = 8 := by kernel_rfl
  have c54 : Try.prog.cellsOf 54 = 21 := by kernel_rfl
  obtain ⟨d0, h0⟩ := hf _ (List.mem_of_getElem? (i := 0) rfl)
  obtain ⟨d1, h1⟩ := hf _ (List.mem_of_getElem? (i := 1) rfl)
  obtain ⟨d2, h2⟩ := hf _ (List.mem_of_getElem? (i := 2) rfl)
  obtain ⟨d3, h3⟩ := hf _ (List.mem_of_getElem? (i := 3) rfl)
  obtain ⟨d4, h4⟩ := hf _ (List.mem_of_getElem? (i := 4) rfl)
  simp only [c3, c52, c53, c54] at h0 h1 h2 h3 h4
  obtain ⟨x0, K0, o0, r0⟩ := (rd_int Try.underlying3) _ _ _ _ _ _ h0
  obtain ⟨x1, K1, o1, r1⟩ := (rd_int Try.underlying3) _ _ _ _ _ _ h1
  obtain ⟨x2, l2, e2, o2⟩ := rd_arr (t := fBool) Try.underlying52 (rd_bool Try.underlying4) (by kernel_rfl) (by kernel_rfl) h2
  obtain ⟨x3, K3, o3, r3⟩ := rd_arrT (t := t_api_Map) Try.underlying53 rd_api_Map (by kernel_rfl) (by kernel_rfl) h3
  obtain ⟨x4, l4, e4, o4⟩ := rd_arr (t := (fInt .i64)) Try.underlying54 (rd_int Try.underlying3) (by kernel_rfl) (by kernel_rfl) h4
  refine ⟨⟨x0, x1, x2, x3, x4⟩, max K0 (max K1 (max K3 0)), ⟨o0, o1, o2, o3, o4⟩, fun K hK => ?_⟩
  have q0 : List.take 1 (List.drop 0 cs) = _ := r0 K (by omega)
  have q1 : List.take 1 (List.drop 1 cs) = _ := r1 K (by omega)
  have e : cs = (List.take 1 (List.drop 0 cs) ++ (List.take 1 (List.drop 1 cs) ++ (List.take 4 (List.drop 2 cs) ++ (List.take 8 (List.drop 6 cs) ++ (List.take 21 (List.drop 14 cs) ++ []))))) := pieces [1, 1, 4, 8, 21] hl
  rw [q0, q1, e2, e4] at e
  refine ⟨(List.take 8 (List.drop 6 cs)), e.trans rfl, fun m hm => ?_⟩
  simp only [List.mem_cons, List.not_mem_nil, or_false] at hm
  rcases hm with rfl | rfl | rfl
  · exact l2
  · exact r3 K (by omega)
  · exact l4
def ok_api_Cmd (x : T_api_Cmd) : Prop := inI .i64 x.Kind ∧ inI .i64 x.DC ∧ inI .i64 x.Shard ∧ inI .i64 x.Node ∧ inI .i64 x.Mode ∧ okS x.Key
set_option maxRecDepth 100000 in
theorem rd_api_Cmd : RdT Try.prog f_api_Cmd.ty ok_api_Cmd 58 := fun H enc W n cs d h => by
  obtain ⟨hl, k, hf⟩ := rd_struct Try.underlying58 h
  rw [show Try.prog.cellsOf 58 = 6 from by kernel_rfl] at hl
  have c3 : Try.prog.cellsOf 3 = 1 := by kernel_rfl
  have c9 : Try.prog.cellsOf 9 = 1 := by kernel_rfl
  obtain ⟨d0, h0⟩ := hf _ (List.mem_of_getElem? (i := 0) rfl)
  obtain ⟨d1, h1⟩ := hf _ (List.mem_of_getElem? (i := 1) rfl)
  obtain ⟨d2, h2⟩ := hf _ (List.mem_of_getElem? (i := 2) rfl)
  obtain ⟨d3, h3⟩ := hf _ (List.mem_of_getElem? (i := 3) rfl)
  obtain ⟨d4, h4⟩ := hf _ (List.mem_of_getElem? (i := 4) rfl)
  obtain ⟨d5, h5⟩ := hf _ (List.mem_of_getElem? (i := 5) rfl)
  simp only [c3, c9] at h0 h1 h2 h3 h4 h5
  obtain ⟨x0, K0, o0, r0⟩ := (rd_int Try.underlying3) _ _ _ _ _ _ h0
  obtain ⟨x1, K1, o1, r1⟩ := (rd_int Try.underlying3) _ _ _ _ _ _ h1
  obtain ⟨x2, K2, o2, r2⟩ := (rd_int Try.underlying3) _ _ _ _ _ _ h2
  obtain ⟨x3, K3, o3, r3⟩ := (rd_int Try.underlying3) _ _ _ _ _ _ h3
  obtain ⟨x4, K4, o4, r4⟩ := (rd_int Try.underlying3) _ _ _ _ _ _ h4
  obtain ⟨x5, K5, o5, r5⟩ := (rd_str Try.underlying9) _ _ _ _ _ _ h5
  refine ⟨⟨x0, x1, x2, x3, x4, x5⟩, max K0 (max K1 (max K2 (max K3 (max K4 (max K5 0))))), ⟨o0, o1, o2, o3, o4, o5⟩, fun K hK => ?_⟩
  have q0 : List.take 1 (List.drop 0 cs) = _ := r0 K (by omega)
  have q1 : List.take 1 (List.drop 1 cs) = _ := r1 K (by omega)
  have q2 : List.take 1 (List.drop 2 cs) = _ := r2 K (by omega)
  have q3 : List.take 1 (List.drop 3 cs) = _ := r3 K (by omega)
  have q4 : List.take 1 (List.drop 4 cs) = _ := r4 K (by omega)
  have q5 : List.take 1 (List.drop 5 cs) = _ := r5 K (by omega)
  have e : cs = (List.take 1 (List.drop 0 cs) ++ (List.take 1 (List.drop 1 cs) ++ (List.take 1 (List.drop 2 cs) ++ (List.take 1 (List.drop 3 cs) ++ (List.take 1 (List.drop 4 cs) ++ (List.take 1 (List.drop 5 cs) ++ [])))))) := pieces [1, 1, 1, 1, 1, 1] hl
  rw [q0, q1, q2, q3, q4, q5] at e
  exact e
end Go.Cf
