/- The proof of the statement 'SpanChecks' (began as the shell that proof-skeleton.mjs writes). -/
import Derived.Test.YtjohablgnnbelaaRows
import Derived.WalkKit
import Derived.ProofKit
import Derived.OpenShut
import Derived.Test.YtjohablgnnbelaaKit11
import Derived.Test.YtjohablgnnbelaaInit
import Derived.Test.YtjohablgnnbelaaW4
import Derived.Test.YtjohablgnnbelaaP2
import Derived.Test.YtjohablgnnbelaaRd
namespace Go.Proofs.Ytjohablgnnbelaa.spanChecks
open Go.ChangeShapes Go.WideShapes Go.ChangeAt Go.RowKit
set_option linter.unusedVariables false      -- a walk need not use every 'w<i>' (that an integer argument fits its kind)

theorem own : ownKnob Try.prog.godebug = none := by kernel_rfl

/-! the walk -/
theorem walk (x : Cf.T_api_Map) (p1 : Option Addr) (c1 : Nat) (p2 : Option Addr) (c2 : Nat) (a1 : Int) (w : World) (K : Nat) (hR : ∀ m ∈ [Cf.Ro.mp Cf.fStr.ty p1 c1 x.Cuts, Cf.Ro.mp (Cf.fInt .i64).ty p2 c2 x.Nodes], m.p (Cf.gh K w) w) :
    Calls Try.prog 4 #[.agg (Cf.flat [(1, [.slice p1 x.Cuts.length c1]), (1, [.slice p2 x.Nodes.length c2])]).toArray, .int .i64 a1] w fun e w' => e = .returned (.bool true) ∧ Grown w w' ∧ ∀ b, b < w.heap.size → w'.heap[b]? = w.heap[b]? := by
  have hlen : x.Cuts.length ≤ maxLen := by
    have h := hR (Cf.Ro.mp Cf.fStr.ty p1 c1 x.Cuts) (by simp)
    exact Nat.le_trans h.1 h.2.1
  exact Cf.law_kept rfl (Cf.C_law08_SpanChecks 100 (Cf.gh_fresh K w) x a1 p1 c1 p2 c2 hR (Cf.pSpanChecks x a1 hlen))

/-! ### THE ROW's STEP: WRITTEN OUT: LEAVE IT -/
set_option maxRecDepth 100000 in
theorem lifted (os : Os) (started : os.Started) (H : Type) (enc : TypeId × Value → H) :
    ReturnsInHanded {} Try.checked os 4 .any (Rows.spanChecksSpec.pre6 enc Try.prog Try.f4 Rows.spanChecksRow.domain false) (Rows.spanChecksSpec.post enc Try.prog Try.f4 false true false false) := by
  refine returnsInHanded_of_change (C := Try.checked) own started (by kernel_rfl) Try.func4
    (ChangeSpec.witness6 (enc := enc) (C := Try.checked) false ⟨#[], #[.agg #[.slice none 0 0, .slice none 0 0], .int .i64 0], []⟩ 8 (by kernel_rfl) (by kernel_rfl) (by kernel_rfl) (by kernel_rfl)) ?_
  intro W base args ds gs before hval0 hW hcnd _
  have hval : ∀ (j : Nat) t v, Try.f4.params[j]? = some t → args[j]? = some v → Value.okWide Try.prog W .any base t v := hval0
  have hW' := hW
  obtain ⟨p, q, hA0, hV, rfl, hfz, hnd⟩ := hW
  have hA : DataW.TrodAll enc Try.prog W 0 (fun _ => true) true Try.f4.params.toList args.toList ds p := hA0
  have hA1 := hA
  rw [Try.params4] at hA hval
  obtain ⟨v0, vs0, d0, ds0, p0, q0, hargs, rfl, rfl, h0, r0⟩ := trodAll_cons hA
  obtain ⟨v1, vs1, d1, ds1, p1, q1, rfl, rfl, rfl, h1, r1⟩ := trodAll_cons r0
  obtain ⟨rfl, rfl, rfl⟩ := trodAll_nil r1
  obtain rfl : args = #[v0, v1] := by cases args; simp_all
  obtain ⟨rfl, rfl⟩ := trodVars_none hV
  have hb0 := hval 0 26 v0 rfl rfl
  obtain ⟨a1, rfl, rfl, rfl, w1⟩ := open_int Try.underlying3 (hval 1 3 v1 rfl rfl) h1
  obtain ⟨x, p1, c1, p2, c2, K0, rfl, hR⟩ := Cf.rd_Map h0 hb0
  have hlt := hW'.lt
  simp only [List.append_nil] at hW' hlt hA1
  refine (walk x p1 c1 p2 c2 a1 W K0 (hR K0 (Nat.le_refl _))).mono fun e W' ⟨he, hg, hsame⟩ => ?_
  subst he
  exact ⟨_, rfl, post_of_same (pa := p0) (pv := []) hW' (fun _ _ _ => (trodAll_cons_mk (shut_bool Try.underlying4 _) trodAll_mk0)) (fun sp hsp => Cf.trodAll_stays (by kernel_rfl) (by kernel_rfl) hA1 (fun p hp => Cf.sameAt_of hsame (hlt p hp)) hsp) (fun _ _ => rfl) (by simp)
    (hg.frame _) hg.2.1 (ok_one (by kernel_rfl) rfl (okWide_bool_mk Try.underlying4 _))⟩

theorem joined : joinedFacts Try.pinned.checked.prog 4 Try.f4 Rows.spanChecksSpec Rows.spanChecksRow = true := by
  unfold joinedFacts
  rw [Cf.mayEnter, Cf.liftsFinal, Cf.make]
  show _ = true
  kernel_rfl
theorem over : Rows.spanChecksRow.holds Try.pinned (OpenSpec.ofChange Rows.spanChecksSpec) :=
  OpenClaim.holds_of_wide 4 Try.f4 rfl rfl rfl rfl rfl rfl rfl ⟨rfl, rfl, rfl, rfl, rfl⟩ rfl rfl rfl rfl rfl (by kernel_rfl) Try.func4 joined
    (of_decide_eq_true (by kernel_rfl)) (by unfold Func.isWrapper; first | (rw [if_pos (by decide +kernel)]; kernel_rfl) | (rw [if_neg (by decide +kernel)]; exact ⟨rfl, rfl⟩))
    (fun os started H enc _ => lifted os started H enc)

theorem proved : Rows.SpanChecksSaid :=
  over
#print axioms proved
end Go.Proofs.Ytjohablgnnbelaa.spanChecks
