/- The proof of the statement 'StoreNone': the walk, its plain law, and the row's step (printed by joiner.py; it began as the shell that proof-skeleton.mjs writes). -/
import Derived.Test.YteeafoagaaedcaaRows
import Derived.WalkKit
import Derived.ProofKit
import Derived.OpenShut
import Derived.Test.YteeafoagaaedcaaZInit
import Derived.Test.YteeafoagaaedcaaZRd
import Derived.Test.YteeafoagaaedcaaZWtN
import Derived.Test.YteeafoagaaedcaaZP1
/- The proof of the statement 'StoreNone': the walk, its plain law, and the row's step (printed by joiner.py; it began as the shell that proof-skeleton.mjs writes). -/
namespace Go.Proofs.Yteeafoagaaedcaa.storeNone
open Go.ChangeShapes Go.WideShapes Go.ChangeAt Go.RowKit
set_option linter.unusedVariables false
theorem own : ownKnob Try.prog.godebug = none := by kernel_rfl
theorem walk (x0 : Cf.T_api_Ver) (x1 : ByteArray) (x2 : Int) (ok0 : Cf.ok_api_Ver x0) (ok1 : Cf.okS x1) (ok2 : Cf.inI .u64 x2) (w : World) (K : Nat) (hR : ∀ m ∈ ([] : List Cf.MP), m.p (Cf.gh K w) w) :
    Calls Try.prog 13 #[.agg (Cf.flat [(1, [.string (x0.Key)]), (1, [.string (x0.Val)]), (1, [.bool (x0.Gone)]), (1, [.int .u64 (x0.TS)]), (1, [.int .i64 (x0.DC)]), (1, [.int .i64 (x0.Tx)])]).toArray, .string (x1), .int .u64 (x2)] w fun e w' => e = .returned (.bool true) ∧ w.keptBut w' (fun _ => False) ∧ ∀ b, b < w.heap.size → w'.heap[b]? = w.heap[b]? := by
  exact Cf.law_kept rfl (Cf.C_law10_StoreNone (1000) (Cf.gh_fresh K w) x0 x1 x2  hR (Cf.pStoreNone 1000 (by decide) x0 x1 x2))
set_option maxRecDepth 100000 in
theorem lifted (os : Os) (started : os.Started) (H : Type) (enc : TypeId × Value → H) :
    ReturnsInHanded {} Try.checked os 13 .any (Rows.storeNoneSpec.pre6 enc Try.prog Try.f13 Rows.storeNoneRow.domain false) (Rows.storeNoneSpec.post enc Try.prog Try.f13 false true false false) := by
  refine returnsInHanded_of_change (C := Try.checked) own started (by kernel_rfl) Try.func13
    (ChangeSpec.witness6 (enc := enc) (C := Try.checked) false ⟨#[], #[.agg (Cf.flat [(1, [.string (ByteArray.empty)]), (1, [.string (ByteArray.empty)]), (1, [.bool (false)]), (1, [.int .u64 (0)]), (1, [.int .i64 (0)]), (1, [.int .i64 (0)])]).toArray, .string (ByteArray.empty), .int .u64 (0)], []⟩ 8 (by kernel_rfl) (by kernel_rfl) (by kernel_rfl) (by kernel_rfl)) ?_
  intro W base args ds gs before hval0 hW hcnd _
  have hval : ∀ (j : Nat) t v, Try.f13.params[j]? = some t → args[j]? = some v → Value.okWide Try.prog W .any base t v := hval0
  have hW' := hW
  obtain ⟨p, q, hA0, hV, rfl, hfz, hnd⟩ := hW
  have hA : DataW.TrodAll enc Try.prog W 0 (fun _ => true) true Try.f13.params.toList args.toList ds p := hA0
  have hA1 := hA
  rw [Try.params13] at hA hval
  obtain ⟨v0, vs0, d0, ds0, p0, q0, hargs, rfl, rfl, h0, r0⟩ := trodAll_cons hA
  obtain ⟨v1, vs1, d1, ds1, p1, q1, rfl, rfl, rfl, h1, r1⟩ := trodAll_cons r0
  obtain ⟨v2, vs2, d2, ds2, p2, q2, rfl, rfl, rfl, h2, r2⟩ := trodAll_cons r1
  obtain ⟨rfl, rfl, rfl⟩ := trodAll_nil r2
  obtain rfl : args = #[v0, v1, v2] := by cases args; simp_all
  obtain ⟨rfl, rfl⟩ := trodVars_none hV
  obtain ⟨ce0, rfl, n0, e0, t0⟩ := Cf.arg_struct Try.underlying37 h0 (hval 0 37 v0 rfl rfl)
  obtain ⟨x0, K0, ok0, rr0⟩ := Cf.rd_api_Ver _ _ _ _ _ _ t0
  obtain ⟨x1, rfl, ok1⟩ := Cf.arg_str Try.underlying9 h1 (hval 1 9 v1 rfl rfl)
  obtain ⟨x2, rfl, ok2⟩ := Cf.arg_int Try.underlying25 h2 (hval 2 25 v2 rfl rfl)
  have hlt := hW'.lt
  simp only [List.append_nil] at hW' hlt hA1
  obtain ⟨K, hK⟩ : ∃ K, (max K0 0) ≤ K := ⟨_, Nat.le_refl _⟩
  have hq0 : ce0 = Cf.f_api_Ver.enc x0 := rr0 K (by omega)
  subst hq0
  have hR : ∀ m ∈ ([] : List Cf.MP), m.p (Cf.gh K W) W := fun m hm => by
    simp only [List.mem_cons, List.not_mem_nil, or_false] at hm
  refine (walk x0 x1 x2 ok0 ok1 ok2  W K hR).mono fun e W' ⟨he, hg, hsame⟩ => ?_
  subst he
  exact ⟨_, rfl, Cf.post_kept (pv := []) hW' (fun _ _ _ => (trodAll_cons_mk (shut_bool Try.underlying4 _) trodAll_mk0)) (fun sp hsp => Cf.trodAll_stays (by kernel_rfl) (by kernel_rfl) hA1 (fun p hp => Cf.sameAt_of hsame (hlt p hp)) hsp) (fun _ _ => rfl) (by simp)
    (World.keptBut_mono (fun _ f => f.elim) hg)⟩
theorem joined : joinedFacts Try.pinned.checked.prog 13 Try.f13 Rows.storeNoneSpec Rows.storeNoneRow = true := by
  unfold joinedFacts
  rw [Cf.mayEnter, Cf.liftsFinal, Cf.make]
  show _ = true
  kernel_rfl
theorem over : Rows.storeNoneRow.holds Try.pinned (OpenSpec.ofChange Rows.storeNoneSpec) :=
  OpenClaim.holds_of_wide 13 Try.f13 rfl rfl rfl rfl rfl rfl rfl ⟨rfl, rfl, rfl, rfl, rfl⟩ rfl rfl rfl rfl rfl (by kernel_rfl) Try.func13 joined
    (of_decide_eq_true (by kernel_rfl)) (by unfold Func.isWrapper; first | (rw [if_pos (by decide +kernel)]; kernel_rfl) | (rw [if_neg (by decide +kernel)]; exact ⟨rfl, rfl⟩))
    (fun os started H enc _ => lifted os started H enc)
theorem proved : Rows.StoreNoneSaid :=
  over
#print axioms proved
end Go.Proofs.Yteeafoagaaedcaa.storeNone

