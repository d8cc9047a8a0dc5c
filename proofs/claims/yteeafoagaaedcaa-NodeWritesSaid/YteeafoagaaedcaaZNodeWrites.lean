/- The proof of the statement 'NodeWrites': the walk, its plain law, and the row's step (printed by joiner.py; it began as the shell that proof-skeleton.mjs writes). -/
import Derived.Test.YteeafoagaaedcaaRows
import Derived.WalkKit
import Derived.ProofKit
import Derived.OpenShut
import Derived.Test.YteeafoagaaedcaaZInit
import Derived.Test.YteeafoagaaedcaaZRd
import Derived.Test.YteeafoagaaedcaaZWnW
import Derived.Test.YteeafoagaaedcaaZP1
/- The proof of the statement 'NodeWrites': the walk, its plain law, and the row's step (printed by joiner.py; it began as the shell that proof-skeleton.mjs writes). -/
namespace Go.Proofs.Yteeafoagaaedcaa.nodeWrites
open Go.ChangeShapes Go.WideShapes Go.ChangeAt Go.RowKit
set_option linter.unusedVariables false
theorem own : ownKnob Try.prog.godebug = none := by kernel_rfl
theorem walk (x0 : Int) (x1 : Int) (x2 : Int) (x3 : Cf.T_api_Ver) (x4 : Int) (ok0 : Cf.inI .u64 x0) (ok1 : Cf.inI .u64 x1) (ok2 : Cf.inI .i64 x2) (ok3 : Cf.ok_api_Ver x3) (ok4 : Cf.inI .u64 x4) (w : World) (K : Nat) (hR : ∀ m ∈ ([] : List Cf.MP), m.p (Cf.gh K w) w) :
    Calls Try.prog 15 #[.int .u64 (x0), .int .u64 (x1), .int .i64 (x2), .agg (Cf.flat [(1, [.string (x3.Key)]), (1, [.string (x3.Val)]), (1, [.bool (x3.Gone)]), (1, [.int .u64 (x3.TS)]), (1, [.int .i64 (x3.DC)]), (1, [.int .i64 (x3.Tx)])]).toArray, .int .u64 (x4)] w fun e w' => e = .returned (.bool true) ∧ w.keptBut w' (fun _ => False) ∧ ∀ b, b < w.heap.size → w'.heap[b]? = w.heap[b]? := by
  exact Cf.law_kept rfl (Cf.C_law20_NodeWrites (1000) (Cf.gh_fresh K w) x0 x1 x2 x3 x4  hR (Cf.pNodeWrites 1000 (by decide) x0 x1 x2 x3 x4 ok0 ok1 ok4))
set_option maxRecDepth 100000 in
theorem lifted (os : Os) (started : os.Started) (H : Type) (enc : TypeId × Value → H) :
    ReturnsInHanded {} Try.checked os 15 .any (Rows.nodeWritesSpec.pre6 enc Try.prog Try.f15 Rows.nodeWritesRow.domain false) (Rows.nodeWritesSpec.post enc Try.prog Try.f15 false true false false) := by
  refine returnsInHanded_of_change (C := Try.checked) own started (by kernel_rfl) Try.func15
    (ChangeSpec.witness6 (enc := enc) (C := Try.checked) false ⟨#[], #[.int .u64 (0), .int .u64 (0), .int .i64 (0), .agg (Cf.flat [(1, [.string (ByteArray.empty)]), (1, [.string (ByteArray.empty)]), (1, [.bool (false)]), (1, [.int .u64 (0)]), (1, [.int .i64 (0)]), (1, [.int .i64 (0)])]).toArray, .int .u64 (0)], []⟩ 8 (by kernel_rfl) (by kernel_rfl) (by kernel_rfl) (by kernel_rfl)) ?_
  intro W base args ds gs before hval0 hW hcnd _
  have hval : ∀ (j : Nat) t v, Try.f15.params[j]? = some t → args[j]? = some v → Value.okWide Try.prog W .any base t v := hval0
  have hW' := hW
  obtain ⟨p, q, hA0, hV, rfl, hfz, hnd⟩ := hW
  have hA : DataW.TrodAll enc Try.prog W 0 (fun _ => true) true Try.f15.params.toList args.toList ds p := hA0
  have hA1 := hA
  rw [Try.params15] at hA hval
  obtain ⟨v0, vs0, d0, ds0, p0, q0, hargs, rfl, rfl, h0, r0⟩ := trodAll_cons hA
  obtain ⟨v1, vs1, d1, ds1, p1, q1, rfl, rfl, rfl, h1, r1⟩ := trodAll_cons r0
  obtain ⟨v2, vs2, d2, ds2, p2, q2, rfl, rfl, rfl, h2, r2⟩ := trodAll_cons r1
  obtain ⟨v3, vs3, d3, ds3, p3, q3, rfl, rfl, rfl, h3, r3⟩ := trodAll_cons r2
  obtain ⟨v4, vs4, d4, ds4, p4, q4, rfl, rfl, rfl, h4, r4⟩ := trodAll_cons r3
  obtain ⟨rfl, rfl, rfl⟩ := trodAll_nil r4
  obtain rfl : args = #[v0, v1, v2, v3, v4] := by cases args; simp_all
  obtain ⟨rfl, rfl⟩ := trodVars_none hV
  obtain ⟨x0, rfl, ok0⟩ := Cf.arg_int Try.underlying25 h0 (hval 0 25 v0 rfl rfl)
  obtain ⟨x1, rfl, ok1⟩ := Cf.arg_int Try.underlying25 h1 (hval 1 25 v1 rfl rfl)
  obtain ⟨x2, rfl, ok2⟩ := Cf.arg_int Try.underlying3 h2 (hval 2 3 v2 rfl rfl)
  obtain ⟨ce3, rfl, n3, e3, t3⟩ := Cf.arg_struct Try.underlying37 h3 (hval 3 37 v3 rfl rfl)
  obtain ⟨x3, K3, ok3, rr3⟩ := Cf.rd_api_Ver _ _ _ _ _ _ t3
  obtain ⟨x4, rfl, ok4⟩ := Cf.arg_int Try.underlying25 h4 (hval 4 25 v4 rfl rfl)
  have hlt := hW'.lt
  simp only [List.append_nil] at hW' hlt hA1
  obtain ⟨K, hK⟩ : ∃ K, (max K3 0) ≤ K := ⟨_, Nat.le_refl _⟩
  have hq3 : ce3 = Cf.f_api_Ver.enc x3 := rr3 K (by omega)
  subst hq3
  have hR : ∀ m ∈ ([] : List Cf.MP), m.p (Cf.gh K W) W := fun m hm => by
    simp only [List.mem_cons, List.not_mem_nil, or_false] at hm
  refine (walk x0 x1 x2 x3 x4 ok0 ok1 ok2 ok3 ok4  W K hR).mono fun e W' ⟨he, hg, hsame⟩ => ?_
  subst he
  exact ⟨_, rfl, Cf.post_kept (pv := []) hW' (fun _ _ _ => (trodAll_cons_mk (shut_bool Try.underlying4 _) trodAll_mk0)) (fun sp hsp => Cf.trodAll_stays (by kernel_rfl) (by kernel_rfl) hA1 (fun p hp => Cf.sameAt_of hsame (hlt p hp)) hsp) (fun _ _ => rfl) (by simp)
    (World.keptBut_mono (fun _ f => f.elim) hg)⟩
theorem joined : joinedFacts Try.pinned.checked.prog 15 Try.f15 Rows.nodeWritesSpec Rows.nodeWritesRow = true := by
  unfold joinedFacts
  rw [Cf.mayEnter, Cf.liftsFinal, Cf.make]
  show _ = true
  kernel_rfl
theorem over : Rows.nodeWritesRow.holds Try.pinned (OpenSpec.ofChange Rows.nodeWritesSpec) :=
  OpenClaim.holds_of_wide 15 Try.f15 rfl rfl rfl rfl rfl rfl rfl ⟨rfl, rfl, rfl, rfl, rfl⟩ rfl rfl rfl rfl rfl (by kernel_rfl) Try.func15 joined
    (of_decide_eq_true (by kernel_rfl)) (by unfold Func.isWrapper; first | (rw [if_pos (by decide +kernel)]; kernel_rfl) | (rw [if_neg (by decide +kernel)]; exact ⟨rfl, rfl⟩))
    (fun os started H enc _ => lifted os started H enc)
theorem proved : Rows.NodeWritesSaid :=
  over
#print axioms proved
end Go.Proofs.Yteeafoagaaedcaa.nodeWrites

