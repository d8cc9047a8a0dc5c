/- The proof of the statement 'ClusterSetups': the walk, its plain law, and the row's step (printed by joiner.py; it began as the shell that proof-skeleton.mjs writes). -/
import Derived.Test.YtkkbmgapcidmnaaGreatRows
import Derived.WalkKit
import Derived.ProofKit
import Derived.OpenShut
import Derived.Test.YtkkbmgapcidmnaaGreatZInit
import Derived.Test.YtkkbmgapcidmnaaGreatZRd
import Derived.Test.YtkkbmgapcidmnaaGreatZClS
/- The proof of the statement 'ClusterSetups': the walk, its plain law, and the row's step (printed by joiner.py; it began as the shell that proof-skeleton.mjs writes). -/
namespace Go.Proofs.YtkkbmgapcidmnaaGreat.clusterSetups
open Go.ChangeShapes Go.WideShapes Go.ChangeAt Go.RowKit
set_option linter.unusedVariables false
theorem own : ownKnob Tryz.prog.godebug = none := by kernel_rfl
theorem walk (x0 : Cf.T_cluster_Setup) (ok0 : Cf.ok_cluster_Setup x0) (w : World) (K : Nat) (hR : ∀ m ∈ ([] : List Cf.MP), m.p (Cf.gh K w) w) :
    Calls Tryz.prog 3 #[.agg (Cf.flat [(1, [.int .i64 (x0.Pool)]), (1, [.int .i64 (x0.Members)]), (1, [.int .i64 (x0.Nodes)]), (1, [.bool (x0.Plain)])]).toArray] w fun e w' => e = .returned (.bool true) ∧ w.keptBut w' (fun _ => False) ∧ ∀ b, b < w.heap.size → w'.heap[b]? = w.heap[b]? := by
  exact Ce.setupsWalk x0 w
set_option maxRecDepth 100000 in
set_option maxHeartbeats 1000000 in
theorem lifted (os : Os) (started : os.Started) (H : Type) (enc : TypeId × Value → H) :
    ReturnsInHanded {} Tryz.checked os 3 .any (Rows.clusterSetupsSpec.pre6 enc Tryz.prog Tryz.f3 Rows.clusterSetupsRow.domain false) (Rows.clusterSetupsSpec.post enc Tryz.prog Tryz.f3 false true false false) := by
  refine returnsInHanded_of_change (C := Tryz.checked) own started (by kernel_rfl) Tryz.func3
    (ChangeSpec.witness6 (enc := enc) (C := Tryz.checked) false ⟨#[], #[.agg (Cf.flat [(1, [.int .i64 (0)]), (1, [.int .i64 (0)]), (1, [.int .i64 (0)]), (1, [.bool (false)])]).toArray], []⟩ 8 (by kernel_rfl) (by kernel_rfl) (by kernel_rfl) (by kernel_rfl)) ?_
  intro W base args ds gs before hval0 hW hcnd _
  have hval : ∀ (j : Nat) t v, Tryz.f3.params[j]? = some t → args[j]? = some v → Value.okWide Tryz.prog W .any base t v := hval0
  have hW' := hW
  obtain ⟨p, q, hA0, hV, rfl, hfz, hnd⟩ := hW
  have hA : DataW.TrodAll enc Tryz.prog W 0 (fun _ => true) true Tryz.f3.params.toList args.toList ds p := hA0
  have hA1 := hA
  rw [Tryz.params3] at hA hval
  obtain ⟨v0, vs0, d0, ds0, p0, q0, hargs, rfl, rfl, h0, r0⟩ := trodAll_cons hA
  obtain ⟨rfl, rfl, rfl⟩ := trodAll_nil r0
  obtain rfl : args = #[v0] := by cases args; simp_all
  obtain ⟨rfl, rfl⟩ := trodVars_none hV
  obtain ⟨ce0, rfl, n0, e0, t0⟩ := Cf.arg_struct Tryz.underlying23 h0 (hval 0 23 v0 rfl rfl)
  obtain ⟨x0, K0, ok0, rr0⟩ := Cf.rd_cluster_Setup _ _ _ _ _ _ t0
  have hlt := hW'.lt
  simp only [List.append_nil] at hW' hlt hA1
  obtain ⟨K, hK⟩ : ∃ K, (max K0 0) ≤ K := ⟨_, Nat.le_refl _⟩
  have hq0 : ce0 = Cf.f_cluster_Setup.enc x0 := rr0 K (by omega)
  subst hq0
  have hR : ∀ m ∈ ([] : List Cf.MP), m.p (Cf.gh K W) W := fun m hm => by
    simp only [List.mem_cons, List.not_mem_nil, or_false] at hm
  refine (walk x0 ok0  W K hR).mono fun e W' ⟨he, hg, hsame⟩ => ?_
  subst he
  exact ⟨_, rfl, Cf.post_kept (pv := []) hW' (fun _ _ _ => (trodAll_cons_mk (shut_bool Tryz.underlying4 _) trodAll_mk0)) (fun sp hsp => Cf.trodAll_stays (by kernel_rfl) (by kernel_rfl) hA1 (fun p hp => Cf.sameAt_of hsame (hlt p hp)) hsp) (fun _ _ => rfl) (by simp)
    (World.keptBut_mono (fun _ f => f.elim) hg)⟩
theorem joined : joinedFacts Tryz.pinned.checked.prog 3 Tryz.f3 Rows.clusterSetupsSpec Rows.clusterSetupsRow = true := by
  unfold joinedFacts
  rw [Cf.mayEnter, Cf.liftsFinal, Cf.make]
  show _ = true
  kernel_rfl
theorem over : Rows.clusterSetupsRow.holds Tryz.pinned (OpenSpec.ofChange Rows.clusterSetupsSpec) :=
  OpenClaim.holds_of_wide 3 Tryz.f3 rfl rfl rfl rfl rfl rfl rfl ⟨rfl, rfl, rfl, rfl, rfl⟩ rfl rfl rfl rfl rfl (by kernel_rfl) Tryz.func3 joined
    (of_decide_eq_true (by kernel_rfl)) (by unfold Func.isWrapper; first | (rw [if_pos (by decide +kernel)]; kernel_rfl) | (rw [if_neg (by decide +kernel)]; exact ⟨rfl, rfl⟩))
    (fun os started H enc _ => lifted os started H enc)
theorem proved : Rows.ClusterSetupsSaid :=
  over
#print axioms proved
end Go.Proofs.YtkkbmgapcidmnaaGreat.clusterSetups

