/- What the arguments of the laws read as. Printed by a program of ours (joiner.py). -/
import Derived.Test.YtcplebnnanjngaaGreatRows
import Derived.Test.YtcplebnnanjngaaGreatZK2
set_option linter.unusedVariables false
namespace Go.Cf
open Go Go.Proofs
def zA (x:jB):Prop:=okS x.Key∧okS x.Val∧okB x.Gone∧inI .u64 x.TS∧inI .i64 x.DC∧inI .i64 x.Tx
set_option maxRecDepth 100000 in
theorem BQ:RdT Tryz.prog jG.ty zA 48:=λH enc W n cs d h=>by
 obtain ⟨hl,k,hf⟩:=yH Tryz.underlying48 h
 rw [show Tryz.prog.cellsOf 48=6 from by kernel_rfl] at hl
 have c3:Tryz.prog.cellsOf 3=1:=by kernel_rfl
 have c4:Tryz.prog.cellsOf 4=1:=by kernel_rfl
 have c9:Tryz.prog.cellsOf 9=1:=by kernel_rfl
 have c32:Tryz.prog.cellsOf 32=1:=by kernel_rfl
 obtain ⟨d0,h0⟩:=hf _ (List.mem_of_getElem? (i:=0) rfl)
 obtain ⟨d1,h1⟩:=hf _ (List.mem_of_getElem? (i:=1) rfl)
 obtain ⟨d2,h2⟩:=hf _ (List.mem_of_getElem? (i:=2) rfl)
 obtain ⟨d3,h3⟩:=hf _ (List.mem_of_getElem? (i:=3) rfl)
 obtain ⟨d4,h4⟩:=hf _ (List.mem_of_getElem? (i:=4) rfl)
 obtain ⟨d5,h5⟩:=hf _ (List.mem_of_getElem? (i:=5) rfl)
 simp only [c3,c4,c9,c32] at h0 h1 h2 h3 h4 h5
 obtain ⟨x0,K0,o0,r0⟩:=(AG Tryz.underlying9) _ _ _ _ _ _ h0
 obtain ⟨x1,K1,o1,r1⟩:=(AG Tryz.underlying9) _ _ _ _ _ _ h1
 obtain ⟨x2,K2,o2,r2⟩:=(HC Tryz.underlying4) _ _ _ _ _ _ h2
 obtain ⟨x3,K3,o3,r3⟩:=(sH Tryz.underlying32) _ _ _ _ _ _ h3
 obtain ⟨x4,K4,o4,r4⟩:=(sH Tryz.underlying3) _ _ _ _ _ _ h4
 obtain ⟨x5,K5,o5,r5⟩:=(sH Tryz.underlying3) _ _ _ _ _ _ h5
 refine ⟨⟨x0,x1,x2,x3,x4,x5⟩,max K0 (max K1 (max K2 (max K3 (max K4 (max K5 0))))),⟨o0,o1,o2,o3,o4,o5⟩,λK hK=>?_⟩
 have q0:List.take 1 (List.drop 0 cs)=_:=r0 K (by omega)
 have q1:List.take 1 (List.drop 1 cs)=_:=r1 K (by omega)
 have q2:List.take 1 (List.drop 2 cs)=_:=r2 K (by omega)
 have q3:List.take 1 (List.drop 3 cs)=_:=r3 K (by omega)
 have q4:List.take 1 (List.drop 4 cs)=_:=r4 K (by omega)
 have q5:List.take 1 (List.drop 5 cs)=_:=r5 K (by omega)
 have e:cs=(List.take 1 (List.drop 0 cs)++(List.take 1 (List.drop 1 cs)++(List.take 1 (List.drop 2 cs)++(List.take 1 (List.drop 3 cs)++(List.take 1 (List.drop 4 cs)++(List.take 1 (List.drop 5 cs)++[])))))):=DM [1,1,1,1,1,1] hl
 rw [q0,q1,q2,q3,q4,q5] at e
 exact e
def BT (x:jU):Prop:=inI .i64 x.Kind∧inI .i64 x.DC∧inI .i64 x.Shard∧inI .i64 x.Node∧inI .i64 x.Mode∧okS x.Key
set_option maxRecDepth 100000 in
theorem GD:RdT Tryz.prog II.ty BT 36:=λH enc W n cs d h=>by
 obtain ⟨hl,k,hf⟩:=yH Tryz.underlying36 h
 rw [show Tryz.prog.cellsOf 36=6 from by kernel_rfl] at hl
 have c3:Tryz.prog.cellsOf 3=1:=by kernel_rfl
 have c9:Tryz.prog.cellsOf 9=1:=by kernel_rfl
 obtain ⟨d0,h0⟩:=hf _ (List.mem_of_getElem? (i:=0) rfl)
 obtain ⟨d1,h1⟩:=hf _ (List.mem_of_getElem? (i:=1) rfl)
 obtain ⟨d2,h2⟩:=hf _ (List.mem_of_getElem? (i:=2) rfl)
 obtain ⟨d3,h3⟩:=hf _ (List.mem_of_getElem? (i:=3) rfl)
 obtain ⟨d4,h4⟩:=hf _ (List.mem_of_getElem? (i:=4) rfl)
 obtain ⟨d5,h5⟩:=hf _ (List.mem_of_getElem? (i:=5) rfl)
 simp only [c3,c9] at h0 h1 h2 h3 h4 h5
 obtain ⟨x0,K0,o0,r0⟩:=(sH Tryz.underlying3) _ _ _ _ _ _ h0
 obtain ⟨x1,K1,o1,r1⟩:=(sH Tryz.underlying3) _ _ _ _ _ _ h1
 obtain ⟨x2,K2,o2,r2⟩:=(sH Tryz.underlying3) _ _ _ _ _ _ h2
 obtain ⟨x3,K3,o3,r3⟩:=(sH Tryz.underlying3) _ _ _ _ _ _ h3
 obtain ⟨x4,K4,o4,r4⟩:=(sH Tryz.underlying3) _ _ _ _ _ _ h4
 obtain ⟨x5,K5,o5,r5⟩:=(AG Tryz.underlying9) _ _ _ _ _ _ h5
 refine ⟨⟨x0,x1,x2,x3,x4,x5⟩,max K0 (max K1 (max K2 (max K3 (max K4 (max K5 0))))),⟨o0,o1,o2,o3,o4,o5⟩,λK hK=>?_⟩
 have q0:List.take 1 (List.drop 0 cs)=_:=r0 K (by omega)
 have q1:List.take 1 (List.drop 1 cs)=_:=r1 K (by omega)
 have q2:List.take 1 (List.drop 2 cs)=_:=r2 K (by omega)
 have q3:List.take 1 (List.drop 3 cs)=_:=r3 K (by omega)
 have q4:List.take 1 (List.drop 4 cs)=_:=r4 K (by omega)
 have q5:List.take 1 (List.drop 5 cs)=_:=r5 K (by omega)
 have e:cs=(List.take 1 (List.drop 0 cs)++(List.take 1 (List.drop 1 cs)++(List.take 1 (List.drop 2 cs)++(List.take 1 (List.drop 3 cs)++(List.take 1 (List.drop 4 cs)++(List.take 1 (List.drop 5 cs)++[])))))):=DM [1,1,1,1,1,1] hl
 rw [q0,q1,q2,q3,q4,q5] at e
 exact e
def BS (x:jF):Prop:=inI .i64 x.Kind∧inI .u64 x.Id∧inI .u64 x.N∧inI .u64 x.TS∧okS x.Lo∧okS x.Hi∧(∀y∈x.Vers,zA y)∧(∀y∈x.Vec,inI .u64 y)∧BT x.Cmd
set_option maxRecDepth 100000 in
theorem GC:RdT Tryz.prog I7 BS 38:=λH enc W n cs d h=>by
 obtain ⟨hl,k,hf⟩:=yH Tryz.underlying38 h
 rw [show Tryz.prog.cellsOf 38=14 from by kernel_rfl] at hl
 have c3:Tryz.prog.cellsOf 3=1:=by kernel_rfl
 have c9:Tryz.prog.cellsOf 9=1:=by kernel_rfl
 have c32:Tryz.prog.cellsOf 32=1:=by kernel_rfl
 have c33:Tryz.prog.cellsOf 33=1:=by kernel_rfl
 have c34:Tryz.prog.cellsOf 34=1:=by kernel_rfl
 have c36:Tryz.prog.cellsOf 36=6:=by kernel_rfl
 obtain ⟨d0,h0⟩:=hf _ (List.mem_of_getElem? (i:=0) rfl)
 obtain ⟨d1,h1⟩:=hf _ (List.mem_of_getElem? (i:=1) rfl)
 obtain ⟨d2,h2⟩:=hf _ (List.mem_of_getElem? (i:=2) rfl)
 obtain ⟨d3,h3⟩:=hf _ (List.mem_of_getElem? (i:=3) rfl)
 obtain ⟨d4,h4⟩:=hf _ (List.mem_of_getElem? (i:=4) rfl)
 obtain ⟨d5,h5⟩:=hf _ (List.mem_of_getElem? (i:=5) rfl)
 obtain ⟨d6,h6⟩:=hf _ (List.mem_of_getElem? (i:=6) rfl)
 obtain ⟨d7,h7⟩:=hf _ (List.mem_of_getElem? (i:=7) rfl)
 obtain ⟨d8,h8⟩:=hf _ (List.mem_of_getElem? (i:=8) rfl)
 simp only [c3,c9,c32,c33,c34,c36] at h0 h1 h2 h3 h4 h5 h6 h7 h8
 obtain ⟨x0,K0,o0,r0⟩:=(sH Tryz.underlying3) _ _ _ _ _ _ h0
 obtain ⟨x1,K1,o1,r1⟩:=(sH Tryz.underlying32) _ _ _ _ _ _ h1
 obtain ⟨x2,K2,o2,r2⟩:=(sH Tryz.underlying32) _ _ _ _ _ _ h2
 obtain ⟨x3,K3,o3,r3⟩:=(sH Tryz.underlying32) _ _ _ _ _ _ h3
 obtain ⟨x4,K4,o4,r4⟩:=(AG Tryz.underlying9) _ _ _ _ _ _ h4
 obtain ⟨x5,K5,o5,r5⟩:=(AG Tryz.underlying9) _ _ _ _ _ _ h5
 obtain ⟨p6,k6,x6,K6,e6,o6,r6⟩:=zS (t:=jG.ty) Tryz.underlying33 BQ (by kernel_rfl) (by decide) h6
 obtain ⟨p7,k7,x7,K7,e7,o7,r7⟩:=zS (t:=(fInt .u64).ty) Tryz.underlying34 (sH Tryz.underlying32) (by kernel_rfl) (by decide) h7
 obtain ⟨x8,K8,o8,r8⟩:=GD _ _ _ _ _ _ h8
 refine ⟨⟨x0,x1,x2,x3,x4,x5,x6,x7,x8⟩,max K0 (max K1 (max K2 (max K3 (max K4 (max K5 (max K6 (max K7 (max K8 0)))))))),⟨o0,o1,o2,o3,o4,o5,o6,o7,o8⟩,λK hK=>?_⟩
 have q0:List.take 1 (List.drop 0 cs)=_:=r0 K (by omega)
 have q1:List.take 1 (List.drop 1 cs)=_:=r1 K (by omega)
 have q2:List.take 1 (List.drop 2 cs)=_:=r2 K (by omega)
 have q3:List.take 1 (List.drop 3 cs)=_:=r3 K (by omega)
 have q4:List.take 1 (List.drop 4 cs)=_:=r4 K (by omega)
 have q5:List.take 1 (List.drop 5 cs)=_:=r5 K (by omega)
 have q8:List.take 6 (List.drop 8 cs)=_:=r8 K (by omega)
 have e:cs=(List.take 1 (List.drop 0 cs)++(List.take 1 (List.drop 1 cs)++(List.take 1 (List.drop 2 cs)++(List.take 1 (List.drop 3 cs)++(List.take 1 (List.drop 4 cs)++(List.take 1 (List.drop 5 cs)++(List.take 1 (List.drop 6 cs)++(List.take 1 (List.drop 7 cs)++(List.take 6 (List.drop 8 cs)++[]))))))))):=DM [1,1,1,1,1,1,1,1,6] hl
 rw [q0,q1,q2,q3,q4,q5,e6,e7,q8] at e
 refine ⟨(p6,k6,p7,k7),e.trans rfl,λm hm=>?_⟩
 simp only [List.mem_cons,List.not_mem_nil,or_false] at hm
 rcases hm with rfl|rfl
 ·exact r6 K (by omega)
 ·exact r7 K (by omega)
def xZ (x:kG):Prop:=inI .i64 x.Kind∧inI .i64 x.From∧inI .i64 x.Call∧BS x.Msg∧okS x.Key∧inI .u64 x.T∧(∀y∈x.Writes,zA y)
set_option maxRecDepth 100000 in
theorem EN:RdT Tryz.prog lL xZ 40:=λH enc W n cs d h=>by
 obtain ⟨hl,k,hf⟩:=yH Tryz.underlying40 h
 rw [show Tryz.prog.cellsOf 40=20 from by kernel_rfl] at hl
 have c3:Tryz.prog.cellsOf 3=1:=by kernel_rfl
 have c9:Tryz.prog.cellsOf 9=1:=by kernel_rfl
 have c32:Tryz.prog.cellsOf 32=1:=by kernel_rfl
 have c33:Tryz.prog.cellsOf 33=1:=by kernel_rfl
 have c38:Tryz.prog.cellsOf 38=14:=by kernel_rfl
 obtain ⟨d0,h0⟩:=hf _ (List.mem_of_getElem? (i:=0) rfl)
 obtain ⟨d1,h1⟩:=hf _ (List.mem_of_getElem? (i:=1) rfl)
 obtain ⟨d2,h2⟩:=hf _ (List.mem_of_getElem? (i:=2) rfl)
 obtain ⟨d3,h3⟩:=hf _ (List.mem_of_getElem? (i:=3) rfl)
 obtain ⟨d4,h4⟩:=hf _ (List.mem_of_getElem? (i:=4) rfl)
 obtain ⟨d5,h5⟩:=hf _ (List.mem_of_getElem? (i:=5) rfl)
 obtain ⟨d6,h6⟩:=hf _ (List.mem_of_getElem? (i:=6) rfl)
 simp only [c3,c9,c32,c33,c38] at h0 h1 h2 h3 h4 h5 h6
 obtain ⟨x0,K0,o0,r0⟩:=(sH Tryz.underlying3) _ _ _ _ _ _ h0
 obtain ⟨x1,K1,o1,r1⟩:=(sH Tryz.underlying3) _ _ _ _ _ _ h1
 obtain ⟨x2,K2,o2,r2⟩:=(sH Tryz.underlying3) _ _ _ _ _ _ h2
 obtain ⟨x3,K3,o3,r3⟩:=GC _ _ _ _ _ _ h3
 obtain ⟨x4,K4,o4,r4⟩:=(AG Tryz.underlying9) _ _ _ _ _ _ h4
 obtain ⟨x5,K5,o5,r5⟩:=(sH Tryz.underlying32) _ _ _ _ _ _ h5
 obtain ⟨p6,k6,x6,K6,e6,o6,r6⟩:=zS (t:=jG.ty) Tryz.underlying33 BQ (by kernel_rfl) (by decide) h6
 refine ⟨⟨x0,x1,x2,x3,x4,x5,x6⟩,max K0 (max K1 (max K2 (max K3 (max K4 (max K5 (max K6 0)))))),⟨o0,o1,o2,o3,o4,o5,o6⟩,λK hK=>?_⟩
 have q0:List.take 1 (List.drop 0 cs)=_:=r0 K (by omega)
 have q1:List.take 1 (List.drop 1 cs)=_:=r1 K (by omega)
 have q2:List.take 1 (List.drop 2 cs)=_:=r2 K (by omega)
 obtain ⟨g3,q3,f3⟩:=r3 K (by omega)
 have q4:List.take 1 (List.drop 17 cs)=_:=r4 K (by omega)
 have q5:List.take 1 (List.drop 18 cs)=_:=r5 K (by omega)
 have e:cs=(List.take 1 (List.drop 0 cs)++(List.take 1 (List.drop 1 cs)++(List.take 1 (List.drop 2 cs)++(List.take 14 (List.drop 3 cs)++(List.take 1 (List.drop 17 cs)++(List.take 1 (List.drop 18 cs)++(List.take 1 (List.drop 19 cs)++[]))))))):=DM [1,1,1,14,1,1,1] hl
 rw [q0,q1,q2,(show List.take 14 (List.drop 3 cs)=_ from q3),q4,q5,e6] at e
 refine ⟨(g3.1,g3.2.1,g3.2.2.1,g3.2.2.2,p6,k6),e.trans rfl,λm hm=>?_⟩
 simp only [List.mem_cons,List.not_mem_nil,or_false] at hm
 rcases hm with rfl|rfl|rfl
 ·exact f3 _ (List.mem_of_getElem? (i:=0) rfl)
 ·exact f3 _ (List.mem_of_getElem? (i:=1) rfl)
 ·exact r6 K (by omega)
end Go.Cf
