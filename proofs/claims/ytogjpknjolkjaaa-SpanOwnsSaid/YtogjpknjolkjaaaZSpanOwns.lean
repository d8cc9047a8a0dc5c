/- The proof of the statement 'SpanOwns': the walk, its plain law, and the row's step (printed by joiner.py; it began as the shell that proof-skeleton.mjs writes). -/
import Derived.Test.YtogjpknjolkjaaaRows
import Derived.WalkKit
import Derived.ProofKit
import Derived.OpenShut
import Derived.Test.YtogjpknjolkjaaaZInit
import Derived.Test.YtogjpknjolkjaaaZRd
import Derived.Test.YtogjpknjolkjaaaZW4o
import Derived.Test.YtogjpknjolkjaaaZP1
/- The proof of the statement 'SpanOwns': the walk, its plain law, and the row's step (printed by joiner.py; it began as the shell that proof-skeleton.mjs writes). -/
namespace Go.Proofs.Ytogjpknjolkjaaa.spanOwns
open Go.ChangeShapes Go.WideShapes Go.ChangeAt Go.RowKit
set_option linter.unusedVariables false
theorem own : ownKnob Try.prog.godebug = none := by kernel_rfl
theorem walk (x0 : Cf.T_api_Map) (p1 : Option Addr) (c2 : Nat) (p3 : Option Addr) (c4 : Nat) (x1 : Int) (x2 : Int) (x3 : Int) (x4 : ByteArray) (ok0 : Cf.ok_api_Map x0) (ok1 : Cf.inI .i64 x1) (ok2 : Cf.inI .i64 x2) (ok3 : Cf.inI .i64 x3) (ok4 : Cf.okS x4) (w : World) (K : Nat) (hR : ∀ m ∈ ([Cf.Ro.mp Cf.fStr.ty p1 c2 x0.Cuts, Cf.Ro.mp (Cf.fInt .i64).ty p3 c4 x0.Nodes] : List Cf.MP), m.p (Cf.gh K w) w) :
    Calls Try.prog 6 #[.agg (Cf.flat [(1, [.slice p1 (x0.Cuts).length c2]), (1, [.slice p3 (x0.Nodes).length c4])]).toArray, .int .i64 (x1), .int .i64 (x2), .int .i64 (x3), .string (x4)] w fun e w' => e = .returned (.bool true) ∧ w.keptBut w' (fun _ => False) ∧ ∀ b, b < w.heap.size → w'.heap[b]? = w.heap[b]? := by
  exact Cf.law_kept rfl (Cf.C_law08_SpanOwns (1000) (Cf.gh_fresh K w) x0 x1 x2 x3 x4 p1 c2 p3 c4 hR (Cf.pSpanOwns x0 x1 x2 x3 x4 (Cf.lenR hR 0 rfl)))
set_option maxRecDepth 100000 in
theorem lifted (os : Os) (started : os.Started) (H : Type) (enc : TypeId × Value → H) :
    ReturnsInHanded {} Try.checked os 6 .any (Rows.spanOwnsSpec.pre6 enc Try.prog Try.f6 Rows.spanOwnsRow.domain false) (Rows.spanOwnsSpec.post enc Try.prog Try.f6 false true false false) := by
  refine returnsInHanded_of_change (C := Try.checked) own started (by kernel_rfl) Try.func6
    (ChangeSpec.witness6 (enc := enc) (C := Try.checked) false ⟨#[], #[.agg (Cf.flat [(1, [.slice none 0 0]), (1, [.slice none 0 0])]).toArray, .int .i64 (0), .int .i64 (0), .int .i64 (0), .string (ByteArray.empty)], []⟩ 8 (by kernel_rfl) (by kernel_rfl) (by kernel_rfl) (by kernel_rfl)) ?_
  intro W base args ds gs before hval0 hW hcnd _
  have hval : ∀ (j : Nat) t v, Try.f6.params[j]? = some t → args[j]? = some v → Value.okWide Try.prog W .any base t v := hval0
  have hW' := hW
  obtain ⟨p, q, hA0, hV, rfl, hfz, hnd⟩ := hW
  have hA : DataW.TrodAll enc Try.prog W 0 (fun _ => true) true Try.f6.params.toList args.toList ds p := hA0
  have hA1 := hA
  rw [Try.params6] at hA hval
  obtain ⟨v0, vs0, d0, ds0, p0, q0, hargs, rfl, rfl, h0, r0⟩ := trodAll_cons hA
  obtain ⟨v1, vs1, d1, ds1, p1, q1, rfl, rfl, rfl, h1, r1⟩ := trodAll_cons r0
  obtain ⟨v2, vs2, d2, ds2, p2, q2, rfl, rfl, rfl, h2, r2⟩ := trodAll_cons r1
  obtain ⟨v3, vs3, d3, ds3, p3, q3, rfl, rfl, rfl, h3, r3⟩ := trodAll_cons r2
  obtain ⟨v4, vs4, d4, ds4, p4, q4, rfl, rfl, rfl, h4, r4⟩ := trodAll_cons r3
  obtain ⟨rfl, rfl, rfl⟩ := trodAll_nil r4
  obtain rfl : args = #[v0, v1, v2, v3, v4] := by cases args; simp_all
  obtain ⟨rfl, rfl⟩ := trodVars_none hV
  obtain ⟨ce0, rfl, n0, e0, t0⟩ := Cf.arg_struct Try.underlying25 h0 (hval 0 25 v0 rfl rfl)
  obtain ⟨x0, K0, ok0, rr0⟩ := Cf.rd_api_Map _ _ _ _ _ _ t0
  obtain ⟨x1, rfl, ok1⟩ := Cf.arg_int Try.underlying3 h1 (hval 1 3 v1 rfl rfl)
  obtain ⟨x2, rfl, ok2⟩ := Cf.arg_int Try.underlying3 h2 (hval 2 3 v2 rfl rfl)
  obtain ⟨x3, rfl, ok3⟩ := Cf.arg_int Try.underlying3 h3 (hval 3 3 v3 rfl rfl)
  obtain ⟨x4, rfl, ok4⟩ := Cf.arg_str Try.underlying9 h4 (hval 4 9 v4 rfl rfl)
  have hlt := hW'.lt
  simp only [List.append_nil] at hW' hlt hA1
  obtain ⟨K, hK⟩ : ∃ K, (max K0 0) ≤ K := ⟨_, Nat.le_refl _⟩
  obtain ⟨⟨p1, c2, p3, c4⟩, rfl, f0⟩ := rr0 K (by omega)
  have hR : ∀ m ∈ ([Cf.Ro.mp Cf.fStr.ty p1 c2 x0.Cuts, Cf.Ro.mp (Cf.fInt .i64).ty p3 c4 x0.Nodes] : List Cf.MP), m.p (Cf.gh K W) W := fun m hm => by
    simp only [List.mem_cons, List.not_mem_nil, or_false] at hm
    rcases hm with rfl | rfl
    · exact f0 _ (List.mem_of_getElem? (i := 0) rfl)
    · exact f0 _ (List.mem_of_getElem? (i := 1) rfl)
  refine (walk x0 p1 c2 p3 c4 x1 x2 x3 x4 ok0 ok1 ok2 ok3 ok4  W K hR).mono fun e W' ⟨he, hg, hsame⟩ => ?_
  subst he
  exact ⟨_, rfl, Cf.post_kept (pv := []) hW' (fun _ _ _ => (trodAll_cons_mk (shut_bool Try.underlying4 _) trodAll_mk0)) (fun sp hsp => Cf.trodAll_stays (by kernel_rfl) (by kernel_rfl) hA1 (fun p hp => Cf.sameAt_of hsame (hlt p hp)) hsp) (fun _ _ => rfl) (by simp)
    (World.keptBut_mono (fun _ f => f.elim) hg)⟩
theorem joined : joinedFacts Try.pinned.checked.prog 6 Try.f6 Rows.spanOwnsSpec Rows.spanOwnsRow = true := by
  unfold joinedFacts
  rw [Cf.mayEnter, Cf.liftsFinal, Cf.make]
  show _ = true
  kernel_rfl
theorem over : Rows.spanOwnsRow.holds Try.pinned (OpenSpec.ofChange Rows.spanOwnsSpec) :=
  OpenClaim.holds_of_wide 6 Try.f6 rfl rfl rfl rfl rfl rfl rfl ⟨rfl, rfl, rfl, rfl, rfl⟩ rfl rfl rfl rfl rfl (by kernel_rfl) Try.func6 joined
    (of_decide_eq_true (by kernel_rfl)) (by unfold Func.isWrapper; first | (rw [if_pos (by decide +kernel)]; kernel_rfl) | (rw [if_neg (by decide +kernel)]; exact ⟨rfl, rfl⟩))
    (fun os started H enc _ => lifted os started H enc)
theorem proved : Rows.SpanOwnsSaid :=
  over
#print axioms proved
end Go.Proofs.Ytogjpknjolkjaaa.spanOwns

