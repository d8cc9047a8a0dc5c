/- The proof of the statement 'GateHolds': the walk, its plain law, and the row's step (printed by joiner.py; it began as the shell that proof-skeleton.mjs writes). -/
import Derived.Test.YtcplebnnanjngaaGreatRows
import Derived.WalkKit
import Derived.ProofKit
import Derived.OpenShut
import Derived.Test.YtcplebnnanjngaaGreatZInit
import Derived.Test.YtcplebnnanjngaaGreatZK2
import Derived.Test.YtcplebnnanjngaaGreatZWhgH
import Derived.Test.YtcplebnnanjngaaGreatZP1
namespace Go.Proofs.YtcplebnnanjngaaGreat.gateHolds
open Go.ChangeShapes Go.WideShapes Go.ChangeAt Go.RowKit
set_option linter.unusedVariables false
theorem own:ownKnob Tryz.prog.godebug=none:=by kernel_rfl
theorem walk (x0:ByteArray)(x1:ByteArray)(x2:Bool)(x3:Int)(ok0:Cf.okS x0)(ok1:Cf.okS x1)(ok2:Cf.okB x2)(ok3:Cf.inI .u64 x3)(w:World)(K:Nat)(hR : ∀m∈([]:List Cf.MP),m.p (Cf.gh K w) w) :
  Calls Tryz.prog 4 #[.string (x0),.string (x1),.bool (x2),.int .u64 (x3)] w fun e w'=>e = .returned (.bool true)∧w.keptBut w' (fun _=>False) ∧ ∀b,b<w.heap.size→w'.heap[b]? = w.heap[b]? := by
 exact Cf.law_kept rfl (Cf.C_law22_GateHolds (100) (Cf.gh_fresh K w) x0 x1 x2 x3 hR (Cf.pGateHolds x0 x1 x2 x3))
set_option maxRecDepth 100000 in
theorem lifted (os:Os)(started:os.Started)(H:Type)(enc:TypeId×Value→H) :
  ReturnsInHanded {} Tryz.checked os 4 .any (Rows.gateHoldsSpec.pre6 enc Tryz.prog Tryz.f4 Rows.gateHoldsRow.domain false) (Rows.gateHoldsSpec.post enc Tryz.prog Tryz.f4 false true false false):=by
 refine returnsInHanded_of_change (C:=Tryz.checked) own started (by kernel_rfl) Tryz.func4
  (ChangeSpec.witness6 (enc:=enc) (C:=Tryz.checked) false ⟨#[],#[.string (ByteArray.empty),.string (ByteArray.empty),.bool (false),.int .u64 (0)],[]⟩ 8 (by kernel_rfl) (by kernel_rfl) (by kernel_rfl) (by kernel_rfl)) ?_
 intro W base args ds gs before hval0 hW hcnd _
 have hval : ∀(j:Nat) t v,Tryz.f4.params[j]? = some t→args[j]? = some v→Value.okWide Tryz.prog W .any base t v:=hval0
 have hW':=hW
 obtain ⟨p,q,hA0,hV,rfl,hfz,hnd⟩:=hW
 have hA:DataW.TrodAll enc Tryz.prog W 0 (fun _=>true) true Tryz.f4.params.toList args.toList ds p:=hA0
 have hA1:=hA
 rw [Tryz.params4] at hA hval
 obtain ⟨v0,vs0,d0,ds0,p0,q0,hargs,rfl,rfl,h0,r0⟩:=trodAll_cons hA
 obtain ⟨v1,vs1,d1,ds1,p1,q1,rfl,rfl,rfl,h1,r1⟩:=trodAll_cons r0
 obtain ⟨v2,vs2,d2,ds2,p2,q2,rfl,rfl,rfl,h2,r2⟩:=trodAll_cons r1
 obtain ⟨v3,vs3,d3,ds3,p3,q3,rfl,rfl,rfl,h3,r3⟩:=trodAll_cons r2
 obtain ⟨rfl,rfl,rfl⟩:=trodAll_nil r3
 obtain rfl:args = #[v0,v1,v2,v3]:=by cases args; simp_all
 obtain ⟨rfl,rfl⟩:=trodVars_none hV
 obtain ⟨x0,rfl,ok0⟩:=Cf.arg_str Tryz.underlying9 h0 (hval 0 9 v0 rfl rfl)
 obtain ⟨x1,rfl,ok1⟩:=Cf.arg_str Tryz.underlying9 h1 (hval 1 9 v1 rfl rfl)
 obtain ⟨x2,rfl⟩:=Cf.arg_bool Tryz.underlying4 h2 (hval 2 4 v2 rfl rfl)
 have ok2:Cf.okB x2:=trivial
 obtain ⟨x3,rfl,ok3⟩:=Cf.arg_int Tryz.underlying32 h3 (hval 3 32 v3 rfl rfl)
 have hlt:=hW'.lt
 simp only [List.append_nil] at hW' hlt hA1
 obtain ⟨K,hK⟩ : ∃K,0≤K:=⟨_,Nat.le_refl _⟩
 have hR : ∀m∈([]:List Cf.MP),m.p (Cf.gh K W) W:=fun m hm=>by
  simp only [List.mem_cons,List.not_mem_nil,or_false] at hm
 refine (walk x0 x1 x2 x3 ok0 ok1 ok2 ok3 W K hR).mono fun e W' ⟨he,hg,hsame⟩=>?_
 subst he
 exact ⟨_,rfl,Cf.post_kept (pv:=[]) hW' (fun _ _ _=>(trodAll_cons_mk (shut_bool Tryz.underlying4 _) trodAll_mk0)) (fun sp hsp=>Cf.trodAll_stays (by kernel_rfl) (by kernel_rfl) hA1 (fun p hp=>Cf.sameAt_of hsame (hlt p hp)) hsp) (fun _ _=>rfl) (by simp)
  (World.keptBut_mono (fun _ f=>f.elim) hg)⟩
theorem joined:joinedFacts Tryz.pinned.checked.prog 4 Tryz.f4 Rows.gateHoldsSpec Rows.gateHoldsRow=true:=by
 unfold joinedFacts
 rw [Cf.mayEnter,Cf.liftsFinal,Cf.make]
 show _=true
 kernel_rfl
theorem over:Rows.gateHoldsRow.holds Tryz.pinned (OpenSpec.ofChange Rows.gateHoldsSpec):=
 OpenClaim.holds_of_wide 4 Tryz.f4 rfl rfl rfl rfl rfl rfl rfl ⟨rfl,rfl,rfl,rfl,rfl⟩ rfl rfl rfl rfl rfl (by kernel_rfl) Tryz.func4 joined
  (of_decide_eq_true (by kernel_rfl)) (by unfold Func.isWrapper; first|(rw [if_pos (by decide +kernel)]; kernel_rfl)|(rw [if_neg (by decide +kernel)]; exact ⟨rfl,rfl⟩))
  (fun os started H enc _=>lifted os started H enc)
theorem proved:Rows.GateHoldsSaid:=
 over
#print axioms proved
end Go.Proofs.YtcplebnnanjngaaGreat.gateHolds
