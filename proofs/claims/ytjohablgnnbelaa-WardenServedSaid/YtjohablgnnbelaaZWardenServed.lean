/- The proof of the statement 'WardenServed': the walk, its plain law, and the row's step (printed by joiner.py; it began as the shell that proof-skeleton.mjs writes). -/
import Derived.Test.YtjohablgnnbelaaRows
import Derived.WalkKit
import Derived.ProofKit
import Derived.OpenShut
import Derived.Test.YtjohablgnnbelaaZInit
import Derived.Test.YtjohablgnnbelaaZRd
import Derived.Test.YtjohablgnnbelaaZW9s
import Derived.Test.YtjohablgnnbelaaZP1
/- The proof of the statement 'WardenServed': the walk, its plain law, and the row's step (printed by joiner.py; it began as the shell that proof-skeleton.mjs writes). -/
namespace Go.Proofs.Ytjohablgnnbelaa.wardenServed
open Go.ChangeShapes Go.WideShapes Go.ChangeAt Go.RowKit
set_option linter.unusedVariables false
theorem own : ownKnob Try.prog.godebug = none := by kernel_rfl
theorem walk (x0 : Int) (x1 : Int) (x2 : Int) (x3 : (List Cf.T_api_Cmd)) (p1 : Option Addr) (c2 : Nat) (x4 : (List Int)) (p3 : Option Addr) (c4 : Nat) (x5 : (List Int)) (p5 : Option Addr) (c6 : Nat) (ok0 : Cf.inI .i64 x0) (ok1 : Cf.inI .i64 x1) (ok2 : Cf.inI .i64 x2) (ok3 : (∀ y ∈ x3, Cf.ok_api_Cmd y)) (ok4 : (∀ y ∈ x4, Cf.inI .i64 y)) (ok5 : (∀ y ∈ x5, Cf.inI .u64 y)) (w : World) (K : Nat) (hR : ∀ m ∈ ([Cf.Ro.mp Cf.f_api_Cmd.ty p1 c2 x3, Cf.Ro.mp (Cf.fInt .i64).ty p3 c4 x4, Cf.Ro.mp (Cf.fInt .u64).ty p5 c6 x5] : List Cf.MP), m.p (Cf.gh K w) w) :
    Calls Try.prog 20 #[.int .i64 (x0), .int .i64 (x1), .int .i64 (x2), .slice p1 (x3).length c2, .slice p3 (x4).length c4, .slice p5 (x5).length c6] w fun e w' => e = .returned (.bool true) ∧ Grown w w' ∧ ∀ b, b < w.heap.size → w'.heap[b]? = w.heap[b]? := by
  exact Cf.law_kept rfl (Cf.C_law19_WardenServed (1000) (Cf.gh_fresh K w) x0 x1 x2 x3 x4 x5 p1 c2 p3 c4 p5 c6 hR (Cf.pWardenServed x0 x1 x2 x3 x4 x5))
set_option maxRecDepth 100000 in
theorem lifted (os : Os) (started : os.Started) (H : Type) (enc : TypeId × Value → H) :
    ReturnsInHanded {} Try.checked os 20 .any (Rows.wardenServedSpec.pre6 enc Try.prog Try.f20 Rows.wardenServedRow.domain false) (Rows.wardenServedSpec.post enc Try.prog Try.f20 false true false false) := by
  refine returnsInHanded_of_change (C := Try.checked) own started (by kernel_rfl) Try.func20
    (ChangeSpec.witness6 (enc := enc) (C := Try.checked) false ⟨#[], #[.int .i64 (0), .int .i64 (0), .int .i64 (0), .slice none 0 0, .slice none 0 0, .slice none 0 0], []⟩ 8 (by kernel_rfl) (by kernel_rfl) (by kernel_rfl) (by kernel_rfl)) ?_
  intro W base args ds gs before hval0 hW hcnd _
  have hval : ∀ (j : Nat) t v, Try.f20.params[j]? = some t → args[j]? = some v → Value.okWide Try.prog W .any base t v := hval0
  have hW' := hW
  obtain ⟨p, q, hA0, hV, rfl, hfz, hnd⟩ := hW
  have hA : DataW.TrodAll enc Try.prog W 0 (fun _ => true) true Try.f20.params.toList args.toList ds p := hA0
  have hA1 := hA
  rw [Try.params20] at hA hval
  obtain ⟨v0, vs0, d0, ds0, p0, q0, hargs, rfl, rfl, h0, r0⟩ := trodAll_cons hA
  obtain ⟨v1, vs1, d1, ds1, p1, q1, rfl, rfl, rfl, h1, r1⟩ := trodAll_cons r0
  obtain ⟨v2, vs2, d2, ds2, p2, q2, rfl, rfl, rfl, h2, r2⟩ := trodAll_cons r1
  obtain ⟨v3, vs3, d3, ds3, p3, q3, rfl, rfl, rfl, h3, r3⟩ := trodAll_cons r2
  obtain ⟨v4, vs4, d4, ds4, p4, q4, rfl, rfl, rfl, h4, r4⟩ := trodAll_cons r3
  obtain ⟨v5, vs5, d5, ds5, p5, q5, rfl, rfl, rfl, h5, r5⟩ := trodAll_cons r4
  obtain ⟨rfl, rfl, rfl⟩ := trodAll_nil r5
  obtain rfl : args = #[v0, v1, v2, v3, v4, v5] := by cases args; simp_all
  obtain ⟨rfl, rfl⟩ := trodVars_none hV
  obtain ⟨x0, rfl, ok0⟩ := Cf.arg_int Try.underlying3 h0 (hval 0 3 v0 rfl rfl)
  obtain ⟨x1, rfl, ok1⟩ := Cf.arg_int Try.underlying3 h1 (hval 1 3 v1 rfl rfl)
  obtain ⟨x2, rfl, ok2⟩ := Cf.arg_int Try.underlying3 h2 (hval 2 3 v2 rfl rfl)
  obtain ⟨n3, e3, t3⟩ := Cf.arg_slice Try.underlying68 h3 (hval 3 68 v3 rfl rfl)
  obtain ⟨p1, c2, x3, K3, q3, ok3, rr3⟩ := Cf.rd_slice (t := Cf.f_api_Cmd.ty) Try.underlying68 Cf.rd_api_Cmd (by kernel_rfl) (by decide) t3
  obtain rfl : v3 = _ := List.head_eq_of_cons_eq q3
  obtain ⟨n4, e4, t4⟩ := Cf.arg_slice Try.underlying24 h4 (hval 4 24 v4 rfl rfl)
  obtain ⟨p3, c4, x4, K4, q4, ok4, rr4⟩ := Cf.rd_slice (t := (Cf.fInt .i64).ty) Try.underlying24 (Cf.rd_int Try.underlying3) (by kernel_rfl) (by decide) t4
  obtain rfl : v4 = _ := List.head_eq_of_cons_eq q4
  obtain ⟨n5, e5, t5⟩ := Cf.arg_slice Try.underlying94 h5 (hval 5 94 v5 rfl rfl)
  obtain ⟨p5, c6, x5, K5, q5, ok5, rr5⟩ := Cf.rd_slice (t := (Cf.fInt .u64).ty) Try.underlying94 (Cf.rd_int Try.underlying92) (by kernel_rfl) (by decide) t5
  obtain rfl : v5 = _ := List.head_eq_of_cons_eq q5
  have hlt := hW'.lt
  simp only [List.append_nil] at hW' hlt hA1
  obtain ⟨K, hK⟩ : ∃ K, (max K3 (max K4 (max K5 0))) ≤ K := ⟨_, Nat.le_refl _⟩
  have hR : ∀ m ∈ ([Cf.Ro.mp Cf.f_api_Cmd.ty p1 c2 x3, Cf.Ro.mp (Cf.fInt .i64).ty p3 c4 x4, Cf.Ro.mp (Cf.fInt .u64).ty p5 c6 x5] : List Cf.MP), m.p (Cf.gh K W) W := fun m hm => by
    simp only [List.mem_cons, List.not_mem_nil, or_false] at hm
    rcases hm with rfl | rfl | rfl
    · exact rr3 K (by omega)
    · exact rr4 K (by omega)
    · exact rr5 K (by omega)
  refine (walk x0 x1 x2 x3 p1 c2 x4 p3 c4 x5 p5 c6 ok0 ok1 ok2 ok3 ok4 ok5  W K hR).mono fun e W' ⟨he, hg, hsame⟩ => ?_
  subst he
  exact ⟨_, rfl, post_of_same (pv := []) hW' (fun _ _ _ => (trodAll_cons_mk (shut_bool Try.underlying4 _) trodAll_mk0)) (fun sp hsp => Cf.trodAll_stays (by kernel_rfl) (by kernel_rfl) hA1 (fun p hp => Cf.sameAt_of hsame (hlt p hp)) hsp) (fun _ _ => rfl) (by simp)
    (hg.frame _) hg.2.1 (ok_one (by kernel_rfl) rfl (okWide_bool_mk Try.underlying4 _))⟩
theorem joined : joinedFacts Try.pinned.checked.prog 20 Try.f20 Rows.wardenServedSpec Rows.wardenServedRow = true := by
  unfold joinedFacts
  rw [Cf.mayEnter, Cf.liftsFinal, Cf.make]
  show _ = true
  kernel_rfl
theorem over : Rows.wardenServedRow.holds Try.pinned (OpenSpec.ofChange Rows.wardenServedSpec) :=
  OpenClaim.holds_of_wide 20 Try.f20 rfl rfl rfl rfl rfl rfl rfl ⟨rfl, rfl, rfl, rfl, rfl⟩ rfl rfl rfl rfl rfl (by kernel_rfl) Try.func20 joined
    (of_decide_eq_true (by kernel_rfl)) (by unfold Func.isWrapper; first | (rw [if_pos (by decide +kernel)]; kernel_rfl) | (rw [if_neg (by decide +kernel)]; exact ⟨rfl, rfl⟩))
    (fun os started H enc _ => lifted os started H enc)
theorem proved : Rows.WardenServedSaid :=
  over
#print axioms proved
end Go.Proofs.Ytjohablgnnbelaa.wardenServed

