/- The proof of the statement 'NodeOwns': the walk, its plain law, and the row's step (printed by joiner.py; it began as the shell that proof-skeleton.mjs writes). -/
import Derived.Test.YteeafoagaaedcaaRows
import Derived.WalkKit
import Derived.ProofKit
import Derived.OpenShut
import Derived.Test.YteeafoagaaedcaaZInit
import Derived.Test.YteeafoagaaedcaaZRd
import Derived.Test.YteeafoagaaedcaaZWnO
import Derived.Test.YteeafoagaaedcaaZP1
namespace Go.Proofs.Yteeafoagaaedcaa.nodeOwns
open Go.ChangeShapes Go.WideShapes Go.ChangeAt Go.RowKit
set_option linter.unusedVariables false
theorem own:ownKnob Try.prog.godebug=none:=by kernel_rfl
theorem walk (x0:(List Cf.T_api_Ver))(p1:Option Addr)(c2:Nat)(ok0:(∀y∈x0,Cf.ok_api_Ver y))(w:World)(K:Nat)(hR : ∀m∈([Cf.Ro.mp Cf.f_api_Ver.ty p1 c2 x0]:List Cf.MP),m.p (Cf.gh K w) w) :
  Calls Try.prog 16 #[.slice p1 (x0).length c2] w fun e w'=>e = .returned (.bool true)∧w.keptBut w' (fun _=>False) ∧ ∀b,b<w.heap.size→w'.heap[b]? = w.heap[b]? := by
 exact Cf.law_kept rfl (Cf.C_law20_NodeOwns (10000) (Cf.gh_fresh K w) x0 p1 c2 hR (Cf.pNodeOwns 10000 (by decide) x0))
set_option maxRecDepth 100000 in
set_option maxHeartbeats 1000000 in
theorem lifted (os:Os)(started:os.Started)(H:Type)(enc:TypeId×Value→H) :
  ReturnsInHanded {} Try.checked os 16 .any (Rows.nodeOwnsSpec.pre6 enc Try.prog Try.f16 Rows.nodeOwnsRow.domain false) (Rows.nodeOwnsSpec.post enc Try.prog Try.f16 false true false false):=by
 refine returnsInHanded_of_change (C:=Try.checked) own started (by kernel_rfl) Try.func16
  (ChangeSpec.witness6 (enc:=enc) (C:=Try.checked) false ⟨#[],#[.slice none 0 0],[]⟩ 8 (by kernel_rfl) (by kernel_rfl) (by kernel_rfl) (by kernel_rfl)) ?_
 intro W base args ds gs before hval0 hW hcnd _
 have hval : ∀(j:Nat) t v,Try.f16.params[j]? = some t→args[j]? = some v→Value.okWide Try.prog W .any base t v:=hval0
 have hW':=hW
 obtain ⟨p,q,hA0,hV,rfl,hfz,hnd⟩:=hW
 have hA:DataW.TrodAll enc Try.prog W 0 (fun _=>true) true Try.f16.params.toList args.toList ds p:=hA0
 have hA1:=hA
 rw [Try.params16] at hA hval
 obtain ⟨v0,vs0,d0,ds0,p0,q0,hargs,rfl,rfl,h0,r0⟩:=trodAll_cons hA
 obtain ⟨rfl,rfl,rfl⟩:=trodAll_nil r0
 obtain rfl:args = #[v0]:=by cases args; simp_all
 obtain ⟨rfl,rfl⟩:=trodVars_none hV
 obtain ⟨n0,e0,t0⟩:=Cf.arg_slice Try.underlying39 h0 (hval 0 39 v0 rfl rfl)
 obtain ⟨p1,c2,x0,K0,q0,ok0,rr0⟩:=Cf.rd_slice (t:=Cf.f_api_Ver.ty) Try.underlying39 Cf.rd_api_Ver (by kernel_rfl) (by decide) t0
 obtain rfl:v0=_:=List.head_eq_of_cons_eq q0
 have hlt:=hW'.lt
 simp only [List.append_nil] at hW' hlt hA1
 obtain ⟨K,hK⟩ : ∃K,(max K0 0)≤K:=⟨_,Nat.le_refl _⟩
 have hR : ∀m∈([Cf.Ro.mp Cf.f_api_Ver.ty p1 c2 x0]:List Cf.MP),m.p (Cf.gh K W) W:=fun m hm=>by
  simp only [List.mem_cons,List.not_mem_nil,or_false] at hm
  rcases hm with rfl
  ·exact rr0 K (by omega)
 refine (walk x0 p1 c2 ok0 W K hR).mono fun e W' ⟨he,hg,hsame⟩=>?_
 subst he
 exact ⟨_,rfl,Cf.post_kept (pv:=[]) hW' (fun _ _ _=>(trodAll_cons_mk (shut_bool Try.underlying4 _) trodAll_mk0)) (fun sp hsp=>Cf.trodAll_stays (by kernel_rfl) (by kernel_rfl) hA1 (fun p hp=>Cf.sameAt_of hsame (hlt p hp)) hsp) (fun _ _=>rfl) (by simp)
  (World.keptBut_mono (fun _ f=>f.elim) hg)⟩
theorem joined:joinedFacts Try.pinned.checked.prog 16 Try.f16 Rows.nodeOwnsSpec Rows.nodeOwnsRow=true:=by
 unfold joinedFacts
 rw [Cf.mayEnter,Cf.liftsFinal,Cf.make]
 show _=true
 kernel_rfl
theorem over:Rows.nodeOwnsRow.holds Try.pinned (OpenSpec.ofChange Rows.nodeOwnsSpec):=
 OpenClaim.holds_of_wide 16 Try.f16 rfl rfl rfl rfl rfl rfl rfl ⟨rfl,rfl,rfl,rfl,rfl⟩ rfl rfl rfl rfl rfl (by kernel_rfl) Try.func16 joined
  (of_decide_eq_true (by kernel_rfl)) (by unfold Func.isWrapper; first|(rw [if_pos (by decide +kernel)]; kernel_rfl)|(rw [if_neg (by decide +kernel)]; exact ⟨rfl,rfl⟩))
  (fun os started H enc _=>lifted os started H enc)
theorem proved:Rows.NodeOwnsSaid:=
 over
#print axioms proved
end Go.Proofs.Yteeafoagaaedcaa.nodeOwns
