/- The proof of the statement 'NodeMoves': the walk, its plain law, and the row's step (printed by joiner.py; it began as the shell that proof-skeleton.mjs writes). -/
import Derived.Test.YteeafoagaaedcaaRows
import Derived.WalkKit
import Derived.ProofKit
import Derived.OpenShut
import Derived.Test.YteeafoagaaedcaaZInit
import Derived.Test.YteeafoagaaedcaaZRd
import Derived.Test.YteeafoagaaedcaaZWnM
import Derived.Test.YteeafoagaaedcaaZP1
/- The proof of the statement 'NodeMoves': the walk, its plain law, and the row's step (printed by joiner.py; it began as the shell that proof-skeleton.mjs writes). -/
namespace Go.Proofs.Yteeafoagaaedcaa.nodeMoves
open Go.ChangeShapes Go.WideShapes Go.ChangeAt Go.RowKit
set_option linter.unusedVariables false
theorem own : ownKnob Try.prog.godebug = none := by kernel_rfl
theorem walk (x0 : (List Cf.T_api_Ver)) (p1 : Option Addr) (c2 : Nat) (x1 : Int) (x2 : ByteArray) (x3 : ByteArray) (x4 : ByteArray) (x5 : Int) (ok0 : (∀ y ∈ x0, Cf.ok_api_Ver y)) (ok1 : Cf.inI .u64 x1) (ok2 : Cf.okS x2) (ok3 : Cf.okS x3) (ok4 : Cf.okS x4) (ok5 : Cf.inI .u64 x5) (w : World) (K : Nat) (hR : ∀ m ∈ ([Cf.Ro.mp Cf.f_api_Ver.ty p1 c2 x0] : List Cf.MP), m.p (Cf.gh K w) w) :
    Calls Try.prog 14 #[.slice p1 (x0).length c2, .int .u64 (x1), .string (x2), .string (x3), .string (x4), .int .u64 (x5)] w fun e w' => e = .returned (.bool true) ∧ w.keptBut w' (fun _ => False) ∧ ∀ b, b < w.heap.size → w'.heap[b]? = w.heap[b]? := by
  exact Cf.law_kept rfl (Cf.C_law20_NodeMoves (1000) (Cf.gh_fresh K w) x0 x1 x2 x3 x4 x5 p1 c2 hR (Cf.pNodeMoves 1000 (by decide) x0 x1 x2 x3 x4 x5 ok1))
set_option maxRecDepth 100000 in
theorem lifted (os : Os) (started : os.Started) (H : Type) (enc : TypeId × Value → H) :
    ReturnsInHanded {} Try.checked os 14 .any (Rows.nodeMovesSpec.pre6 enc Try.prog Try.f14 Rows.nodeMovesRow.domain false) (Rows.nodeMovesSpec.post enc Try.prog Try.f14 false true false false) := by
  refine returnsInHanded_of_change (C := Try.checked) own started (by kernel_rfl) Try.func14
    (ChangeSpec.witness6 (enc := enc) (C := Try.checked) false ⟨#[], #[.slice none 0 0, .int .u64 (0), .string (ByteArray.empty), .string (ByteArray.empty), .string (ByteArray.empty), .int .u64 (0)], []⟩ 8 (by kernel_rfl) (by kernel_rfl) (by kernel_rfl) (by kernel_rfl)) ?_
  intro W base args ds gs before hval0 hW hcnd _
  have hval : ∀ (j : Nat) t v, Try.f14.params[j]? = some t → args[j]? = some v → Value.okWide Try.prog W .any base t v := hval0
  have hW' := hW
  obtain ⟨p, q, hA0, hV, rfl, hfz, hnd⟩ := hW
  have hA : DataW.TrodAll enc Try.prog W 0 (fun _ => true) true Try.f14.params.toList args.toList ds p := hA0
  have hA1 := hA
  rw [Try.params14] at hA hval
  obtain ⟨v0, vs0, d0, ds0, p0, q0, hargs, rfl, rfl, h0, r0⟩ := trodAll_cons hA
  obtain ⟨v1, vs1, d1, ds1, p1, q1, rfl, rfl, rfl, h1, r1⟩ := trodAll_cons r0
  obtain ⟨v2, vs2, d2, ds2, p2, q2, rfl, rfl, rfl, h2, r2⟩ := trodAll_cons r1
  obtain ⟨v3, vs3, d3, ds3, p3, q3, rfl, rfl, rfl, h3, r3⟩ := trodAll_cons r2
  obtain ⟨v4, vs4, d4, ds4, p4, q4, rfl, rfl, rfl, h4, r4⟩ := trodAll_cons r3
  obtain ⟨v5, vs5, d5, ds5, p5, q5, rfl, rfl, rfl, h5, r5⟩ := trodAll_cons r4
  obtain ⟨rfl, rfl, rfl⟩ := trodAll_nil r5
  obtain rfl : args = #[v0, v1, v2, v3, v4, v5] := by cases args; simp_all
  obtain ⟨rfl, rfl⟩ := trodVars_none hV
  obtain ⟨n0, e0, t0⟩ := Cf.arg_slice Try.underlying39 h0 (hval 0 39 v0 rfl rfl)
  obtain ⟨p1, c2, x0, K0, q0, ok0, rr0⟩ := Cf.rd_slice (t := Cf.f_api_Ver.ty) Try.underlying39 Cf.rd_api_Ver (by kernel_rfl) (by decide) t0
  obtain rfl : v0 = _ := List.head_eq_of_cons_eq q0
  obtain ⟨x1, rfl, ok1⟩ := Cf.arg_int Try.underlying25 h1 (hval 1 25 v1 rfl rfl)
  obtain ⟨x2, rfl, ok2⟩ := Cf.arg_str Try.underlying9 h2 (hval 2 9 v2 rfl rfl)
  obtain ⟨x3, rfl, ok3⟩ := Cf.arg_str Try.underlying9 h3 (hval 3 9 v3 rfl rfl)
  obtain ⟨x4, rfl, ok4⟩ := Cf.arg_str Try.underlying9 h4 (hval 4 9 v4 rfl rfl)
  obtain ⟨x5, rfl, ok5⟩ := Cf.arg_int Try.underlying25 h5 (hval 5 25 v5 rfl rfl)
  have hlt := hW'.lt
  simp only [List.append_nil] at hW' hlt hA1
  obtain ⟨K, hK⟩ : ∃ K, (max K0 0) ≤ K := ⟨_, Nat.le_refl _⟩
  have hR : ∀ m ∈ ([Cf.Ro.mp Cf.f_api_Ver.ty p1 c2 x0] : List Cf.MP), m.p (Cf.gh K W) W := fun m hm => by
    simp only [List.mem_cons, List.not_mem_nil, or_false] at hm
    rcases hm with rfl
    · exact rr0 K (by omega)
  refine (walk x0 p1 c2 x1 x2 x3 x4 x5 ok0 ok1 ok2 ok3 ok4 ok5  W K hR).mono fun e W' ⟨he, hg, hsame⟩ => ?_
  subst he
  exact ⟨_, rfl, Cf.post_kept (pv := []) hW' (fun _ _ _ => (trodAll_cons_mk (shut_bool Try.underlying4 _) trodAll_mk0)) (fun sp hsp => Cf.trodAll_stays (by kernel_rfl) (by kernel_rfl) hA1 (fun p hp => Cf.sameAt_of hsame (hlt p hp)) hsp) (fun _ _ => rfl) (by simp)
    (World.keptBut_mono (fun _ f => f.elim) hg)⟩
theorem joined : joinedFacts Try.pinned.checked.prog 14 Try.f14 Rows.nodeMovesSpec Rows.nodeMovesRow = true := by
  unfold joinedFacts
  rw [Cf.mayEnter, Cf.liftsFinal, Cf.make]
  show _ = true
  kernel_rfl
theorem over : Rows.nodeMovesRow.holds Try.pinned (OpenSpec.ofChange Rows.nodeMovesSpec) :=
  OpenClaim.holds_of_wide 14 Try.f14 rfl rfl rfl rfl rfl rfl rfl ⟨rfl, rfl, rfl, rfl, rfl⟩ rfl rfl rfl rfl rfl (by kernel_rfl) Try.func14 joined
    (of_decide_eq_true (by kernel_rfl)) (by unfold Func.isWrapper; first | (rw [if_pos (by decide +kernel)]; kernel_rfl) | (rw [if_neg (by decide +kernel)]; exact ⟨rfl, rfl⟩))
    (fun os started H enc _ => lifted os started H enc)
theorem proved : Rows.NodeMovesSaid :=
  over
#print axioms proved
end Go.Proofs.Yteeafoagaaedcaa.nodeMoves

