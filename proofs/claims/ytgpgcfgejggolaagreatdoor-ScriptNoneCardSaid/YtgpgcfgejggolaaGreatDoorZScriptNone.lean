/- The proof of the statement 'ScriptNone': the walk, its plain law, and the row's step (printed by joiner.py; it began as the shell that proof-skeleton.mjs writes). -/
import Derived.Test.YtgpgcfgejggolaaGreatDoorRows
import Derived.WalkKit
import Derived.ProofKit
import Derived.OpenShut
import Derived.Test.YtgpgcfgejggolaaGreatDoorCards
import Derived.Test.YtgpgcfgejggolaaGreatDoorTie
import Derived.Lay
import Derived.Deep.DeepHandedRow
import Derived.Test.YtgpgcfgejggolaaGreatDoorZInit
import Derived.Test.YtgpgcfgejggolaaGreatDoorZGl
import Derived.Test.YtgpgcfgejggolaaGreatDoorZNj5
import Derived.Test.YtgpgcfgejggolaaGreatDoorZWwN
import Derived.Test.YtgpgcfgejggolaaGreatDoorZP1
namespace Go.Proofs.YtgpgcfgejggolaaGreatDoor.scriptNone
open Go.ChangeShapes Go.WideShapes Go.ChangeAt Go.RowKit
set_option linter.unusedVariables false
theorem own:ownKnob Tryz.prog.godebug=none:=by kernel_rfl
theorem walk (x0:ByteArray)(w:World)(K:Nat)(hR : ∀m∈([Cf.GL]:List Cf.MP),m.p (Cf.gh K w) w) :
  Calls Tryz.prog 5 #[.string (x0)] w fun e w'=>e = .returned (.bool true)∧w.keptBut w' (fun _=>False) ∧ ∀b,b<w.heap.size→w'.heap[b]? = w.heap[b]? := by
 exact Cf.law_kept rfl (Cf.C_law24_ScriptNone (1000) (Cf.gh_fresh K w) x0 hR (Cf.pScriptNone x0))
set_option maxRecDepth 100000 in
set_option maxHeartbeats 1000000 in
theorem lifted (os:Os)(started:os.Started)(H:Type)(enc:TypeId×Value→H)(F:Stop.Interp) :
  ReturnsInHanded {} Tryz.checked os 5 .any ((OpenSpec.ofChange Rows.scriptNoneSpec).preRow enc Tryz.prog Tryz.f5 Rows.scriptNoneRow.domain false Rows.scriptNoneRow.laid) (((OpenSpec.ofChange Rows.scriptNoneSpec).at F).post enc Tryz.prog Tryz.f5 false true false false):=by
 refine returnsInHanded_of_row (C:=Tryz.checked) (s:=OpenSpec.ofChange Rows.scriptNoneSpec) own started (by kernel_rfl) Tryz.func5
  (ChangeSpec.witness_shaped (enc:=enc) (C:=Tryz.checked) (os:=os) (X:=fun w _=>laidMetH Tryz.prog Rows.scriptNoneRow.laid w) false (World.laidAll Tryz.prog os Rows.scriptNoneRow.laid) #[.string (ByteArray.empty)] 8 (World.laidAll_os _ _ _)
   (World.shaped_of_ZipB (by kernel_rfl) (by kernel_rfl)) (by kernel_rfl) (by kernel_rfl) (by kernel_rfl)
   (by rw [MakeChecks.laidMetH_plain _ _ _ (by kernel_rfl)]; exact laidMet_laidAll _ (by kernel_rfl) (by kernel_rfl))) ?_
 intro W base args ds gs before hval0 hW hcnd _ _ hL hsh _
 have hval : ∀(j:Nat) t v,Tryz.f5.params[j]? = some t→args[j]? = some v→Value.okWide Tryz.prog W .any base t v:=hval0
 have hW':=hW
 obtain ⟨p,q,hA0,hV,rfl,hfz,hnd⟩:=hW
 have hA:DataW.TrodAll enc Tryz.prog W 0 (fun _=>true) true Tryz.f5.params.toList args.toList ds p:=hA0
 have hA1:=hA
 rw [Tryz.params5] at hA hval
 obtain ⟨v0,vs0,d0,ds0,p0,q0,hargs,rfl,rfl,h0,r0⟩:=trodAll_cons hA
 obtain ⟨rfl,rfl,rfl⟩:=trodAll_nil r0
 obtain rfl:args = #[v0]:=by cases args; simp_all
 obtain ⟨rfl,rfl⟩:=trodVars_none hV
 obtain ⟨x0,rfl,ok0⟩:=Cf.arg_str Tryz.underlying9 h0 (hval 0 9 v0 rfl rfl)
 have hlt:=hW'.lt
 simp only [List.append_nil] at hW' hlt hA1
 obtain ⟨K,hK⟩ : ∃K,21≤K:=⟨_,Nat.le_refl _⟩
 have hR : ∀m∈([Cf.GL]:List Cf.MP),m.p (Cf.gh K W) W:=fun m hm=>by
  obtain rfl:=List.mem_singleton.1 hm
  exact Cf.gl_of hK hsh hL (by kernel_rfl) (by simp [Rows.scriptNoneRow]) (by simp [Rows.scriptNoneRow]) (by simp [Rows.scriptNoneRow])
 refine (walk x0 W K hR).mono fun e W' ⟨he,hg,hsame⟩=>?_
 subst he
 exact ⟨_,rfl,Cf.post_kept (pv:=[]) hW' (fun _ _ _=>(trodAll_cons_mk (shut_bool Tryz.underlying4 _) trodAll_mk0)) (fun sp hsp=>Cf.trodAll_stays (by kernel_rfl) (by kernel_rfl) hA1 (fun p hp=>Cf.sameAt_of hsame (hlt p hp)) hsp) (fun _ _=>rfl) (by simp)
  (World.keptBut_mono (fun _ f=>f.elim) hg)⟩
theorem said:Rows.ScriptNoneSaid:=
 OpenClaim.holds_of_cond 5 Tryz.f5 rfl rfl rfl rfl rfl rfl rfl ⟨rfl,rfl,rfl,rfl,rfl⟩ rfl rfl rfl rfl rfl (by kernel_rfl) Tryz.func5 Cf.joined5
  (of_decide_eq_true (by kernel_rfl)) (by unfold Func.isWrapper; first|(rw [if_pos (by decide +kernel)]; kernel_rfl)|(rw [if_neg (by decide +kernel)]; exact ⟨rfl,rfl⟩))
  (fun os started H enc _ F=>by rw [OpenClaim.pre_eq_preRow]; exact lifted os started H enc F)
theorem plain (f:FuncId)(fn:Func)(hf:Tryz.pinned.checked.prog.funcNamed "confluence/confluencelaw24.ScriptNone" = some f) (hfn:Tryz.pinned.checked.prog.funcs[f]? = some fn) :
  true=Tryz.pinned.checked.prog.looks [] ∧ ∀(j:Nat) t,fn.params[j]? = some t→Tryz.pinned.checked.prog.wantsStandIn t=false:=by
 obtain rfl:f=5:=Option.some.inj ((show Tryz.prog.funcNamed "confluence/confluencelaw24.ScriptNone" = some 5 by kernel_rfl).symm.trans hf) |>.symm
 obtain rfl:fn=Tryz.f5:=(Option.some.inj (Tryz.func5.symm.trans hfn)).symm
 refine ⟨by kernel_rfl,fun j t ht=>?_⟩
 rw [Tryz.params5] at ht
 have hm:t∈[9]:=by simpa using Array.mem_of_getElem? ht
 have hall:([9].all fun u => !Tryz.prog.wantsStandIn u)=true:=by kernel_rfl
 exact (show Tryz.prog.wantsStandIn t=false by simpa using List.all_eq_true.1 hall t hm)
theorem proved:Rows.ScriptNoneCardSaid:=
 Claim7.holds_tied_plain_at .later [] _ _ _ _ said (fun _ h=>by cases h) (by kernel_rfl) (fun _ h=>by cases h) scriptNone_row_tie rfl ⟨rfl,rfl⟩ (by kernel_rfl) rfl plain (by kernel_rfl)
#print axioms proved
end Go.Proofs.YtgpgcfgejggolaaGreatDoor.scriptNone
