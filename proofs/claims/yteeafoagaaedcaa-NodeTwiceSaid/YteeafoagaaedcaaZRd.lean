/- What the arguments of the laws read as. Printed by a program of ours (joiner.py). -/
import Derived.Test.YteeafoagaaedcaaRows
import Derived.Test.YteeafoagaaedcaaZK2
namespace Go.Cf
open Go Go.Proofs
def ok_api_Ver (x : T_api_Ver) : Prop := okS x.Key ∧ okS x.Val ∧ okB x.Gone ∧ inI .u64 x.TS ∧ inI .i64 x.DC ∧ inI .i64 x.Tx
set_option maxRecDepth 100000 in
theorem rd_api_Ver : RdT Try.prog f_api_Ver.ty ok_api_Ver 37 := fun H enc W n cs d h => by
  obtain ⟨hl, k, hf⟩ := rd_struct Try.underlying37 h
  rw [show Try.prog.cellsOf 37 = 6 from by kernel_rfl] at hl
  have c3 : Try.prog.cellsOf 3 = 1 := by kernel_rfl
  have c4 : Try.prog.cellsOf 4 = 1 := by kernel_rfl
  have c9 : Try.prog.cellsOf 9 = 1 := by kernel_rfl
  have c25 : Try.prog.cellsOf 25 = 1 := by kernel_rfl
  obtain ⟨d0, h0⟩ := hf _ (List.mem_of_getElem? (i := 0) rfl)
  obtain ⟨d1, h1⟩ := hf _ (List.mem_of_getElem? (i := 1) rfl)
  obtain ⟨d2, h2⟩ := hf _ (List.mem_of_getElem? (i := 2) rfl)
  obtain ⟨d3, h3⟩ := hf _ (List.mem_of_getElem? (i := 3) rfl)
  obtain ⟨d4, h4⟩ := hf _ (List.mem_of_getElem? (i := 4) rfl)
  obtain ⟨d5, h5⟩ := hf _ (List.mem_of_getElem? (i := 5) rfl)
  simp only [c3, c4, c9, c25] at h0 h1 h2 h3 h4 h5
  obtain ⟨x0, K0, o0, r0⟩ := (rd_str Try.underlying9) _ _ _ _ _ _ h0
  obtain ⟨x1, K1, o1, r1⟩ := (rd_str Try.underlying9) _ _ _ _ _ _ h1
  obtain ⟨x2, K2, o2, r2⟩ := (rd_bool Try.underlying4) _ _ _ _ _ _ h2
  obtain ⟨x3, K3, o3, r3⟩ := (rd_int Try.underlying25) _ _ _ _ _ _ h3
  obtain ⟨x4, K4, o4, r4⟩ := (rd_int Try.underlying3) _ _ _ _ _ _ h4
  obtain ⟨x5, K5, o5, r5⟩ := (rd_int Try.underlying3) _ _ _ _ _ _ h5
  refine ⟨⟨x0, x1, x2, x3, x4, x5⟩, max K0 (max K1 (max K2 (max K3 (max K4 (max K5 0))))), ⟨o0, o1, o2, o3, o4, o5⟩, fun K hK => ?_⟩
  have q0 : List.take 1 (List.drop 0 cs) = _ := r0 K (by omega)
  have q1 : List.take 1 (List.drop 1 cs) = _ := r1 K (by omega)
  have q2 : List.take 1 (List.drop 2 cs) = _ := r2 K (by omega)
  have q3 : List.take 1 (List.drop 3 cs) = _ := r3 K (by omega)
  have q4 : List.take 1 (List.drop 4 cs) = _ := r4 K (by omega)
  have q5 : List.take 1 (List.drop 5 cs) = _ := r5 K (by omega)
  have e : cs = (List.take 1 (List.drop 0 cs) ++ (List.take 1 (List.drop 1 cs) ++ (List.take 1 (List.drop 2 cs) ++ (List.take 1 (List.drop 3 cs) ++ (List.take 1 (List.drop 4 cs) ++ (List.take 1 (List.drop 5 cs) ++ [])))))) := pieces [1, 1, 1, 1, 1, 1] hl
  rw [q0, q1, q2, q3, q4, q5] at e
  exact e
def ok_api_Cmd (x : T_api_Cmd) : Prop := inI .i64 x.Kind ∧ inI .i64 x.DC ∧ inI .i64 x.Shard ∧ inI .i64 x.Node ∧ inI .i64 x.Mode ∧ okS x.Key
set_option maxRecDepth 100000 in
theorem rd_api_Cmd : RdT Try.prog f_api_Cmd.ty ok_api_Cmd 91 := fun H enc W n cs d h => by
  obtain ⟨hl, k, hf⟩ := rd_struct Try.underlying91 h
  rw [show Try.prog.cellsOf 91 = 6 from by kernel_rfl] at hl
  have c3 : Try.prog.cellsOf 3 = 1 := by kernel_rfl
  have c9 : Try.prog.cellsOf 9 = 1 := by kernel_rfl
  obtain ⟨d0, h0⟩ := hf _ (List.mem_of_getElem? (i := 0) rfl)
  obtain ⟨d1, h1⟩ := hf _ (List.mem_of_getElem? (i := 1) rfl)
  obtain ⟨d2, h2⟩ := hf _ (List.mem_of_getElem? (i := 2) rfl)
  obtain ⟨d3, h3⟩ := hf _ (List.mem_of_getElem? (i := 3) rfl)
  obtain ⟨d4, h4⟩ := hf _ (List.mem_of_getElem? (i := 4) rfl)
  obtain ⟨d5, h5⟩ := hf _ (List.mem_of_getElem? (i := 5) rfl)
  simp only [c3, c9] at h0 h1 h2 h3 h4 h5
  obtain ⟨x0, K0, o0, r0⟩ := (rd_int Try.underlying3) _ _ _ _ _ _ h0
  obtain ⟨x1, K1, o1, r1⟩ := (rd_int Try.underlying3) _ _ _ _ _ _ h1
  obtain ⟨x2, K2, o2, r2⟩ := (rd_int Try.underlying3) _ _ _ _ _ _ h2
  obtain ⟨x3, K3, o3, r3⟩ := (rd_int Try.underlying3) _ _ _ _ _ _ h3
  obtain ⟨x4, K4, o4, r4⟩ := (rd_int Try.underlying3) _ _ _ _ _ _ h4
  obtain ⟨x5, K5, o5, r5⟩ := (rd_str Try.underlying9) _ _ _ _ _ _ h5
  refine ⟨⟨x0, x1, x2, x3, x4, x5⟩, max K0 (max K1 (max K2 (max K3 (max K4 (max K5 0))))), ⟨o0, o1, o2, o3, o4, o5⟩, fun K hK => ?_⟩
  have q0 : List.take 1 (List.drop 0 cs) = _ := r0 K (by omega)
  have q1 : List.take 1 (List.drop 1 cs) = _ := r1 K (by omega)
  have q2 : List.take 1 (List.drop 2 cs) = _ := r2 K (by omega)
  have q3 : List.take 1 (List.drop 3 cs) = _ := r3 K (by omega)
  have q4 : List.take 1 (List.drop 4 cs) = _ := r4 K (by omega)
  have q5 : List.take 1 (List.drop 5 cs) = _ := r5 K (by omega)
  have e : cs = (List.take 1 (List.drop 0 cs) ++ (List.take 1 (List.drop 1 cs) ++ (List.take 1 (List.drop 2 cs) ++ (List.take 1 (List.drop 3 cs) ++ (List.take 1 (List.drop 4 cs) ++ (List.take 1 (List.drop 5 cs) ++ [])))))) := pieces [1, 1, 1, 1, 1, 1] hl
  rw [q0, q1, q2, q3, q4, q5] at e
  exact e
def ok_api_Msg (x : T_api_Msg) : Prop := inI .i64 x.Kind ∧ inI .u64 x.Id ∧ inI .u64 x.N ∧ inI .u64 x.TS ∧ okS x.Lo ∧ okS x.Hi ∧ (∀ y ∈ x.Vers, ok_api_Ver y) ∧ (∀ y ∈ x.Vec, inI .u64 y) ∧ ok_api_Cmd x.Cmd
set_option maxRecDepth 100000 in
theorem rd_api_Msg : RdT Try.prog t_api_Msg ok_api_Msg 93 := fun H enc W n cs d h => by
  obtain ⟨hl, k, hf⟩ := rd_struct Try.underlying93 h
  rw [show Try.prog.cellsOf 93 = 14 from by kernel_rfl] at hl
  have c3 : Try.prog.cellsOf 3 = 1 := by kernel_rfl
  have c9 : Try.prog.cellsOf 9 = 1 := by kernel_rfl
  have c25 : Try.prog.cellsOf 25 = 1 := by kernel_rfl
  have c39 : Try.prog.cellsOf 39 = 1 := by kernel_rfl
  have c66 : Try.prog.cellsOf 66 = 1 := by kernel_rfl
  have c91 : Try.prog.cellsOf 91 = 6 := by kernel_rfl
  obtain ⟨d0, h0⟩ := hf _ (List.mem_of_getElem? (i := 0) rfl)
  obtain ⟨d1, h1⟩ := hf _ (List.mem_of_getElem? (i := 1) rfl)
  obtain ⟨d2, h2⟩ := hf _ (List.mem_of_getElem? (i := 2) rfl)
  obtain ⟨d3, h3⟩ := hf _ (List.mem_of_getElem? (i := 3) rfl)
  obtain ⟨d4, h4⟩ := hf _ (List.mem_of_getElem? (i := 4) rfl)
  obtain ⟨d5, h5⟩ := hf _ (List.mem_of_getElem? (i := 5) rfl)
  obtain ⟨d6, h6⟩ := hf _ (List.mem_of_getElem? (i := 6) rfl)
  obtain ⟨d7, h7⟩ := hf _ (List.mem_of_getElem? (i := 7) rfl)
  obtain ⟨d8, h8⟩ := hf _ (List.mem_of_getElem? (i := 8) rfl)
  simp only [c3, c9, c25, c39, c66, c91] at h0 h1 h2 h3 h4 h5 h6 h7 h8
  obtain ⟨x0, K0, o0, r0⟩ := (rd_int Try.underlying3) _ _ _ _ _ _ h0
  obtain ⟨x1, K1, o1, r1⟩ := (rd_int Try.underlying25) _ _ _ _ _ _ h1
  obtain ⟨x2, K2, o2, r2⟩ := (rd_int Try.underlying25) _ _ _ _ _ _ h2
  obtain ⟨x3, K3, o3, r3⟩ := (rd_int Try.underlying25) _ _ _ _ _ _ h3
  obtain ⟨x4, K4, o4, r4⟩ := (rd_str Try.underlying9) _ _ _ _ _ _ h4
  obtain ⟨x5, K5, o5, r5⟩ := (rd_str Try.underlying9) _ _ _ _ _ _ h5
  obtain ⟨p6, k6, x6, K6, e6, o6, r6⟩ := rd_slice (t := f_api_Ver.ty) Try.underlying39 rd_api_Ver (by kernel_rfl) (by decide) h6
  obtain ⟨p7, k7, x7, K7, e7, o7, r7⟩ := rd_slice (t := (fInt .u64).ty) Try.underlying66 (rd_int Try.underlying25) (by kernel_rfl) (by decide) h7
  obtain ⟨x8, K8, o8, r8⟩ := rd_api_Cmd _ _ _ _ _ _ h8
  refine ⟨⟨x0, x1, x2, x3, x4, x5, x6, x7, x8⟩, max K0 (max K1 (max K2 (max K3 (max K4 (max K5 (max K6 (max K7 (max K8 0)))))))), ⟨o0, o1, o2, o3, o4, o5, o6, o7, o8⟩, fun K hK => ?_⟩
  have q0 : List.take 1 (List.drop 0 cs) = _ := r0 K (by omega)
  have q1 : List.take 1 (List.drop 1 cs) = _ := r1 K (by omega)
  have q2 : List.take 1 (List.drop 2 cs) = _ := r2 K (by omega)
  have q3 : List.take 1 (List.drop 3 cs) = _ := r3 K (by omega)
  have q4 : List.take 1 (List.drop 4 cs) = _ := r4 K (by omega)
  have q5 : List.take 1 (List.drop 5 cs) = _ := r5 K (by omega)
  have q8 : List.take 6 (List.drop 8 cs) = _ := r8 K (by omega)
  have e : cs = (List.take 1 (List.drop 0 cs) ++ (List.take 1 (List.drop 1 cs) ++ (List.take 1 (List.drop 2 cs) ++ (List.take 1 (List.drop 3 cs) ++ (List.take 1 (List.drop 4 cs) ++ (List.take 1 (List.drop 5 cs) ++ (List.take 1 (List.drop 6 cs) ++ (List.take 1 (List.drop 7 cs) ++ (List.take 6 (List.drop 8 cs) ++ []))))))))) := pieces [1, 1, 1, 1, 1, 1, 1, 1, 6] hl
  rw [q0, q1, q2, q3, q4, q5, e6, e7, q8] at e
  refine ⟨(p6, k6, p7, k7), e.trans rfl, fun m hm => ?_⟩
  simp only [List.mem_cons, List.not_mem_nil, or_false] at hm
  rcases hm with rfl | rfl
  · exact r6 K (by omega)
  · exact r7 K (by omega)
def ok_law20_Op (x : T_law20_Op) : Prop := ok_api_Msg x.Msg ∧ inI .i64 x.Ms
set_option maxRecDepth 100000 in
theorem rd_law20_Op : RdT Try.prog t_law20_Op ok_law20_Op 104 := fun H enc W n cs d h => by
  obtain ⟨hl, k, hf⟩ := rd_struct Try.underlying104 h
  rw [show Try.prog.cellsOf 104 = 15 from by kernel_rfl] at hl
  have c3 : Try.prog.cellsOf 3 = 1 := by kernel_rfl
  have c93 : Try.prog.cellsOf 93 = 14 := by kernel_rfl
  obtain ⟨d0, h0⟩ := hf _ (List.mem_of_getElem? (i := 0) rfl)
  obtain ⟨d1, h1⟩ := hf _ (List.mem_of_getElem? (i := 1) rfl)
  simp only [c3, c93] at h0 h1
  obtain ⟨x0, K0, o0, r0⟩ := rd_api_Msg _ _ _ _ _ _ h0
  obtain ⟨x1, K1, o1, r1⟩ := (rd_int Try.underlying3) _ _ _ _ _ _ h1
  refine ⟨⟨x0, x1⟩, max K0 (max K1 0), ⟨o0, o1⟩, fun K hK => ?_⟩
  obtain ⟨g0, q0, f0⟩ := r0 K (by omega)
  have q1 : List.take 1 (List.drop 14 cs) = _ := r1 K (by omega)
  have e : cs = (List.take 14 (List.drop 0 cs) ++ (List.take 1 (List.drop 14 cs) ++ [])) := pieces [14, 1] hl
  rw [(show List.take 14 (List.drop 0 cs) = _ from q0), q1] at e
  refine ⟨(g0.1, g0.2.1, g0.2.2.1, g0.2.2.2), e.trans rfl, fun m hm => ?_⟩
  simp only [List.mem_cons, List.not_mem_nil, or_false] at hm
  rcases hm with rfl | rfl
  · exact f0 _ (List.mem_of_getElem? (i := 0) rfl)
  · exact f0 _ (List.mem_of_getElem? (i := 1) rfl)
end Go.Cf
