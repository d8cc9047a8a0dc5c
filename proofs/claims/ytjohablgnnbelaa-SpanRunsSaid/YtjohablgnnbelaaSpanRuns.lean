/- The proof of the statement 'SpanRuns': the walk, its plain law, and the row's step (printed by joiner.py; it began as the shell that proof-skeleton.mjs writes). -/
import Derived.Test.YtjohablgnnbelaaRows
import Derived.WalkKit
import Derived.ProofKit
import Derived.OpenShut
import Derived.Test.YtjohablgnnbelaaInit
import Derived.Test.YtjohablgnnbelaaRd
import Derived.Test.YtjohablgnnbelaaW5r
import Derived.Test.YtjohablgnnbelaaP6
namespace Go.Proofs.Ytjohablgnnbelaa.spanRuns
open Go.ChangeShapes Go.WideShapes Go.ChangeAt Go.RowKit
set_option linter.unusedVariables false
theorem own : ownKnob Try.prog.godebug = none := by kernel_rfl
theorem walk (x0 : Int) (x1 : (List Cf.T_api_Cmd)) (p1 : Option Addr) (c2 : Nat) (x2 : ByteArray) (ok0 : Cf.inI .i64 x0) (ok1 : (∀ y ∈ x1, Cf.ok_api_Cmd y)) (ok2 : Cf.okS x2) (w : World) (K : Nat) (hR : ∀ m ∈ ([Cf.Ro.mp Cf.f_api_Cmd.ty p1 c2 x1] : List Cf.MP), m.p (Cf.gh K w) w) :
    Calls Try.prog 11 #[.int .i64 (x0), .slice p1 (x1).length c2, .string (x2)] w fun e w' => e = .returned (.bool true) ∧ Grown w w' ∧ ∀ b, b < w.heap.size → w'.heap[b]? = w.heap[b]? := by
  exact Cf.law_kept rfl (Cf.C_law08_SpanRuns (1000) (Cf.gh_fresh K w) x0 x1 x2 p1 c2 hR (Cf.pSpanRuns x0 x1 x2))
set_option maxRecDepth 100000 in
theorem lifted (os : Os) (started : os.Started) (H : Type) (enc : TypeId × Value → H) :
    ReturnsInHanded {} Try.checked os 11 .any (Rows.spanRunsSpec.pre6 enc Try.prog Try.f11 Rows.spanRunsRow.domain false) (Rows.spanRunsSpec.post enc Try.prog Try.f11 false true false false) := by
  refine returnsInHanded_of_change (C := Try.checked) own started (by kernel_rfl) Try.func11
    (ChangeSpec.witness6 (enc := enc) (C := Try.checked) false ⟨#[], #[.int .i64 (0), .slice none 0 0, .string (ByteArray.empty)], []⟩ 8 (by kernel_rfl) (by kernel_rfl) (by kernel_rfl) (by kernel_rfl)) ?_
  intro W base args ds gs before hval0 hW hcnd _
  have hval : ∀ (j : Nat) t v, Try.f11.params[j]? = some t → args[j]? = some v → Value.okWide Try.prog W .any base t v := hval0
  have hW' := hW
  obtain ⟨p, q, hA0, hV, rfl, hfz, hnd⟩ := hW
  have hA : DataW.TrodAll enc Try.prog W 0 (fun _ => true) true Try.f11.params.toList args.toList ds p := hA0
  have hA1 := hA
  rw [Try.params11] at hA hval
  obtain ⟨v0, vs0, d0, ds0, p0, q0, hargs, rfl, rfl, h0, r0⟩ := trodAll_cons hA
  obtain ⟨v1, vs1, d1, ds1, p1, q1, rfl, rfl, rfl, h1, r1⟩ := trodAll_cons r0
  obtain ⟨v2, vs2, d2, ds2, p2, q2, rfl, rfl, rfl, h2, r2⟩ := trodAll_cons r1
  obtain ⟨rfl, rfl, rfl⟩ := trodAll_nil r2
  obtain rfl : args = #[v0, v1, v2] := by cases args; simp_all
  obtain ⟨rfl, rfl⟩ := trodVars_none hV
  obtain ⟨x0, rfl, ok0⟩ := Cf.arg_int Try.underlying3 h0 (hval 0 3 v0 rfl rfl)
  obtain ⟨n1, e1, t1⟩ := Cf.arg_slice Try.underlying68 h1 (hval 1 68 v1 rfl rfl)
  obtain ⟨p1, c2, x1, K1, q1, ok1, rr1⟩ := Cf.rd_slice (t := Cf.f_api_Cmd.ty) Try.underlying68 Cf.rd_api_Cmd (by kernel_rfl) (by decide) t1
  obtain rfl : v1 = _ := List.head_eq_of_cons_eq q1
  obtain ⟨x2, rfl, ok2⟩ := Cf.arg_str Try.underlying9 h2 (hval 2 9 v2 rfl rfl)
  have hlt := hW'.lt
  simp only [List.append_nil] at hW' hlt hA1
  obtain ⟨K, hK⟩ : ∃ K, (max K1 0) ≤ K := ⟨_, Nat.le_refl _⟩
  have hR : ∀ m ∈ ([Cf.Ro.mp Cf.f_api_Cmd.ty p1 c2 x1] : List Cf.MP), m.p (Cf.gh K W) W := fun m hm => by
    simp only [List.mem_cons, List.not_mem_nil, or_false] at hm
    rcases hm with rfl
    · exact rr1 K (by omega)
  refine (walk x0 x1 p1 c2 x2 ok0 ok1 ok2  W K hR).mono fun e W' ⟨he, hg, hsame⟩ => ?_
  subst he
  exact ⟨_, rfl, post_of_same (pv := []) hW' (fun _ _ _ => (trodAll_cons_mk (shut_bool Try.underlying4 _) trodAll_mk0)) (fun sp hsp => Cf.trodAll_stays (by kernel_rfl) (by kernel_rfl) hA1 (fun p hp => Cf.sameAt_of hsame (hlt p hp)) hsp) (fun _ _ => rfl) (by simp)
    (hg.frame _) hg.2.1 (ok_one (by kernel_rfl) rfl (okWide_bool_mk Try.underlying4 _))⟩
theorem joined : joinedFacts Try.pinned.checked.prog 11 Try.f11 Rows.spanRunsSpec Rows.spanRunsRow = true := by
  unfold joinedFacts
  rw [Cf.mayEnter, Cf.liftsFinal, Cf.make]
  show _ = true
  kernel_rfl
theorem over : Rows.spanRunsRow.holds Try.pinned (OpenSpec.ofChange Rows.spanRunsSpec) :=
  OpenClaim.holds_of_wide 11 Try.f11 rfl rfl rfl rfl rfl rfl rfl ⟨rfl, rfl, rfl, rfl, rfl⟩ rfl rfl rfl rfl rfl (by kernel_rfl) Try.func11 joined
    (of_decide_eq_true (by kernel_rfl)) (by unfold Func.isWrapper; first | (rw [if_pos (by decide +kernel)]; kernel_rfl) | (rw [if_neg (by decide +kernel)]; exact ⟨rfl, rfl⟩))
    (fun os started H enc _ => lifted os started H enc)
theorem proved : Rows.SpanRunsSaid :=
  over
#print axioms proved
end Go.Proofs.Ytjohablgnnbelaa.spanRuns
