/- The proof of the statement 'StoreOrder': the walk, its plain law, and the row's step (printed by joiner.py; it began as the shell that proof-skeleton.mjs writes). -/
import Derived.Test.YteeafoagaaedcaaRows
import Derived.WalkKit
import Derived.ProofKit
import Derived.OpenShut
import Derived.Test.YteeafoagaaedcaaZInit
import Derived.Test.YteeafoagaaedcaaZRd
import Derived.Test.YteeafoagaaedcaaZWtO
import Derived.Test.YteeafoagaaedcaaZP1
/- The proof of the statement 'StoreOrder': the walk, its plain law, and the row's step (printed by joiner.py; it began as the shell that proof-skeleton.mjs writes). -/
namespace Go.Proofs.Yteeafoagaaedcaa.storeOrder
open Go.ChangeShapes Go.WideShapes Go.ChangeAt Go.RowKit
set_option linter.unusedVariables false
theorem own : ownKnob Try.prog.godebug = none := by kernel_rfl
theorem walk (x0 : (List Cf.T_api_Ver)) (p1 : Option Addr) (c2 : Nat) (x1 : (List (List Int))) (p3 : Option Addr) (c4 : Nat) (x2 : (List Int)) (p5 : Option Addr) (c6 : Nat) (x3 : ByteArray) (x4 : Int) (ok0 : (∀ y ∈ x0, Cf.ok_api_Ver y)) (ok1 : (∀ y ∈ x1, (∀ y' ∈ y, Cf.inI .i64 y'))) (ok2 : (∀ y ∈ x2, Cf.inI .u64 y)) (ok3 : Cf.okS x3) (ok4 : Cf.inI .u64 x4) (w : World) (K : Nat) (hR : ∀ m ∈ ([Cf.Ro.mp Cf.f_api_Ver.ty p1 c2 x0, Cf.Ro.mp Cf.tA68 p3 c4 x1, Cf.Ro.mp (Cf.fInt .u64).ty p5 c6 x2] : List Cf.MP), m.p (Cf.gh K w) w) :
    Calls Try.prog 9 #[.slice p1 (x0).length c2, .slice p3 (x1).length c4, .slice p5 (x2).length c6, .string (x3), .int .u64 (x4)] w fun e w' => e = .returned (.bool true) ∧ w.keptBut w' (fun _ => False) ∧ ∀ b, b < w.heap.size → w'.heap[b]? = w.heap[b]? := by
  exact Cf.law_kept rfl (Cf.C_law10_StoreOrder (x1.length + x2.length + 1000) (Cf.gh_fresh K w) x0 x1 x2 x3 x4 p1 c2 p3 c4 p5 c6 hR (Cf.pStoreOrder (x1.length + x2.length + 1000) (by omega) x0 x1 x2 x3 x4 (Cf.arrLen (T := Cf.tA68) (by rintro cs x ⟨h, _, hf⟩; exact hf _ (List.mem_of_getElem? (i := 0) rfl)) (hR _ (List.mem_of_getElem? (i := 1) rfl))) (Cf.lenR hR 1 rfl) (by omega) (by omega) (Cf.lenR hR 2 rfl)))
set_option maxRecDepth 100000 in
theorem lifted (os : Os) (started : os.Started) (H : Type) (enc : TypeId × Value → H) :
    ReturnsInHanded {} Try.checked os 9 .any (Rows.storeOrderSpec.pre6 enc Try.prog Try.f9 Rows.storeOrderRow.domain false) (Rows.storeOrderSpec.post enc Try.prog Try.f9 false true false false) := by
  refine returnsInHanded_of_change (C := Try.checked) own started (by kernel_rfl) Try.func9
    (ChangeSpec.witness6 (enc := enc) (C := Try.checked) false ⟨#[], #[.slice none 0 0, .slice none 0 0, .slice none 0 0, .string (ByteArray.empty), .int .u64 (0)], []⟩ 8 (by kernel_rfl) (by kernel_rfl) (by kernel_rfl) (by kernel_rfl)) ?_
  intro W base args ds gs before hval0 hW hcnd _
  have hval : ∀ (j : Nat) t v, Try.f9.params[j]? = some t → args[j]? = some v → Value.okWide Try.prog W .any base t v := hval0
  have hW' := hW
  obtain ⟨p, q, hA0, hV, rfl, hfz, hnd⟩ := hW
  have hA : DataW.TrodAll enc Try.prog W 0 (fun _ => true) true Try.f9.params.toList args.toList ds p := hA0
  have hA1 := hA
  rw [Try.params9] at hA hval
  obtain ⟨v0, vs0, d0, ds0, p0, q0, hargs, rfl, rfl, h0, r0⟩ := trodAll_cons hA
  obtain ⟨v1, vs1, d1, ds1, p1, q1, rfl, rfl, rfl, h1, r1⟩ := trodAll_cons r0
  obtain ⟨v2, vs2, d2, ds2, p2, q2, rfl, rfl, rfl, h2, r2⟩ := trodAll_cons r1
  obtain ⟨v3, vs3, d3, ds3, p3, q3, rfl, rfl, rfl, h3, r3⟩ := trodAll_cons r2
  obtain ⟨v4, vs4, d4, ds4, p4, q4, rfl, rfl, rfl, h4, r4⟩ := trodAll_cons r3
  obtain ⟨rfl, rfl, rfl⟩ := trodAll_nil r4
  obtain rfl : args = #[v0, v1, v2, v3, v4] := by cases args; simp_all
  obtain ⟨rfl, rfl⟩ := trodVars_none hV
  obtain ⟨n0, e0, t0⟩ := Cf.arg_slice Try.underlying39 h0 (hval 0 39 v0 rfl rfl)
  obtain ⟨p1, c2, x0, K0, q0, ok0, rr0⟩ := Cf.rd_slice (t := Cf.f_api_Ver.ty) Try.underlying39 Cf.rd_api_Ver (by kernel_rfl) (by decide) t0
  obtain rfl : v0 = _ := List.head_eq_of_cons_eq q0
  obtain ⟨n1, e1, t1⟩ := Cf.arg_slice Try.underlying65 h1 (hval 1 65 v1 rfl rfl)
  obtain ⟨p3, c4, x1, K1, q1, ok1, rr1⟩ := Cf.rd_slice (t := Cf.tA68) Try.underlying65 Cf.rd_A68 (by kernel_rfl) (by decide) t1
  obtain rfl : v1 = _ := List.head_eq_of_cons_eq q1
  obtain ⟨n2, e2, t2⟩ := Cf.arg_slice Try.underlying66 h2 (hval 2 66 v2 rfl rfl)
  obtain ⟨p5, c6, x2, K2, q2, ok2, rr2⟩ := Cf.rd_slice (t := (Cf.fInt .u64).ty) Try.underlying66 (Cf.rd_int Try.underlying25) (by kernel_rfl) (by decide) t2
  obtain rfl : v2 = _ := List.head_eq_of_cons_eq q2
  obtain ⟨x3, rfl, ok3⟩ := Cf.arg_str Try.underlying9 h3 (hval 3 9 v3 rfl rfl)
  obtain ⟨x4, rfl, ok4⟩ := Cf.arg_int Try.underlying25 h4 (hval 4 25 v4 rfl rfl)
  have hlt := hW'.lt
  simp only [List.append_nil] at hW' hlt hA1
  obtain ⟨K, hK⟩ : ∃ K, (max K0 (max K1 (max K2 0))) ≤ K := ⟨_, Nat.le_refl _⟩
  have hR : ∀ m ∈ ([Cf.Ro.mp Cf.f_api_Ver.ty p1 c2 x0, Cf.Ro.mp Cf.tA68 p3 c4 x1, Cf.Ro.mp (Cf.fInt .u64).ty p5 c6 x2] : List Cf.MP), m.p (Cf.gh K W) W := fun m hm => by
    simp only [List.mem_cons, List.not_mem_nil, or_false] at hm
    rcases hm with rfl | rfl | rfl
    · exact rr0 K (by omega)
    · exact rr1 K (by omega)
    · exact rr2 K (by omega)
  refine (walk x0 p1 c2 x1 p3 c4 x2 p5 c6 x3 x4 ok0 ok1 ok2 ok3 ok4  W K hR).mono fun e W' ⟨he, hg, hsame⟩ => ?_
  subst he
  exact ⟨_, rfl, Cf.post_kept (pv := []) hW' (fun _ _ _ => (trodAll_cons_mk (shut_bool Try.underlying4 _) trodAll_mk0)) (fun sp hsp => Cf.trodAll_stays (by kernel_rfl) (by kernel_rfl) hA1 (fun p hp => Cf.sameAt_of hsame (hlt p hp)) hsp) (fun _ _ => rfl) (by simp)
    (World.keptBut_mono (fun _ f => f.elim) hg)⟩
theorem joined : joinedFacts Try.pinned.checked.prog 9 Try.f9 Rows.storeOrderSpec Rows.storeOrderRow = true := by
  unfold joinedFacts
  rw [Cf.mayEnter, Cf.liftsFinal, Cf.make]
  show _ = true
  kernel_rfl
theorem over : Rows.storeOrderRow.holds Try.pinned (OpenSpec.ofChange Rows.storeOrderSpec) :=
  OpenClaim.holds_of_wide 9 Try.f9 rfl rfl rfl rfl rfl rfl rfl ⟨rfl, rfl, rfl, rfl, rfl⟩ rfl rfl rfl rfl rfl (by kernel_rfl) Try.func9 joined
    (of_decide_eq_true (by kernel_rfl)) (by unfold Func.isWrapper; first | (rw [if_pos (by decide +kernel)]; kernel_rfl) | (rw [if_neg (by decide +kernel)]; exact ⟨rfl, rfl⟩))
    (fun os started H enc _ => lifted os started H enc)
theorem proved : Rows.StoreOrderSaid :=
  over
#print axioms proved
end Go.Proofs.Yteeafoagaaedcaa.storeOrder

