/- The proof of the statement 'NodeTwice': the walk, its plain law, and the row's step (printed by joiner.py; it began as the shell that proof-skeleton.mjs writes). -/
import Derived.Test.YteeafoagaaedcaaRows
import Derived.WalkKit
import Derived.ProofKit
import Derived.OpenShut
import Derived.Test.YteeafoagaaedcaaZInit
import Derived.Test.YteeafoagaaedcaaZRd
import Derived.Test.YteeafoagaaedcaaZWnT
import Derived.Test.YteeafoagaaedcaaZP1
/- The proof of the statement 'NodeTwice': the walk, its plain law, and the row's step (printed by joiner.py; it began as the shell that proof-skeleton.mjs writes). -/
namespace Go.Proofs.Yteeafoagaaedcaa.nodeTwice
open Go.ChangeShapes Go.WideShapes Go.ChangeAt Go.RowKit
set_option linter.unusedVariables false
theorem own : ownKnob Try.prog.godebug = none := by kernel_rfl
theorem walk (x0 : Int) (x1 : (List Cf.T_law20_Op)) (p1 : Option Addr) (c2 : Nat) (x2 : Cf.T_law20_Op) (p3 : Option Addr) (c4 : Nat) (p5 : Option Addr) (c6 : Nat) (x3 : ByteArray) (ok0 : Cf.inI .i64 x0) (ok1 : (∀ y ∈ x1, Cf.ok_law20_Op y)) (ok2 : Cf.ok_law20_Op x2) (ok3 : Cf.okS x3) (w : World) (K : Nat) (hR : ∀ m ∈ ([Cf.Ro.mp Cf.t_law20_Op p1 c2 x1, Cf.Ro.mp Cf.f_api_Ver.ty p3 c4 x2.Msg.Vers, Cf.Ro.mp (Cf.fInt .u64).ty p5 c6 x2.Msg.Vec] : List Cf.MP), m.p (Cf.gh K w) w) :
    Calls Try.prog 17 #[.int .i64 (x0), .slice p1 (x1).length c2, .agg (Cf.flat [(1, [.int .i64 (x2.Msg.Kind)]), (1, [.int .u64 (x2.Msg.Id)]), (1, [.int .u64 (x2.Msg.N)]), (1, [.int .u64 (x2.Msg.TS)]), (1, [.string (x2.Msg.Lo)]), (1, [.string (x2.Msg.Hi)]), (1, [.slice p3 (x2.Msg.Vers).length c4]), (1, [.slice p5 (x2.Msg.Vec).length c6]), (1, [.int .i64 (x2.Msg.Cmd.Kind)]), (1, [.int .i64 (x2.Msg.Cmd.DC)]), (1, [.int .i64 (x2.Msg.Cmd.Shard)]), (1, [.int .i64 (x2.Msg.Cmd.Node)]), (1, [.int .i64 (x2.Msg.Cmd.Mode)]), (1, [.string (x2.Msg.Cmd.Key)]), (1, [.int .i64 (x2.Ms)])]).toArray, .string (x3)] w fun e w' => e = .returned (.bool true) ∧ w.keptBut w' (fun _ => False) ∧ ∀ b, b < w.heap.size → w'.heap[b]? = w.heap[b]? := by
  exact Cf.law_kept rfl (Cf.C_law20_NodeTwice (10000000000000) (Cf.gh_fresh K w) x0 x1 x2 x3 p1 c2 p3 c4 p5 c6 hR (Cf.pNodeTwice 10000000000000 (by decide) x0 x1 x2 x3))
set_option maxRecDepth 100000 in
theorem lifted (os : Os) (started : os.Started) (H : Type) (enc : TypeId × Value → H) :
    ReturnsInHanded {} Try.checked os 17 .any (Rows.nodeTwiceSpec.pre6 enc Try.prog Try.f17 Rows.nodeTwiceRow.domain false) (Rows.nodeTwiceSpec.post enc Try.prog Try.f17 false true false false) := by
  refine returnsInHanded_of_change (C := Try.checked) own started (by kernel_rfl) Try.func17
    (ChangeSpec.witness6 (enc := enc) (C := Try.checked) false ⟨#[], #[.int .i64 (0), .slice none 0 0, .agg (Cf.flat [(1, [.int .i64 (0)]), (1, [.int .u64 (0)]), (1, [.int .u64 (0)]), (1, [.int .u64 (0)]), (1, [.string (ByteArray.empty)]), (1, [.string (ByteArray.empty)]), (1, [.slice none 0 0]), (1, [.slice none 0 0]), (1, [.int .i64 (0)]), (1, [.int .i64 (0)]), (1, [.int .i64 (0)]), (1, [.int .i64 (0)]), (1, [.int .i64 (0)]), (1, [.string (ByteArray.empty)]), (1, [.int .i64 (0)])]).toArray, .string (ByteArray.empty)], []⟩ 8 (by kernel_rfl) (by kernel_rfl) (by kernel_rfl) (by kernel_rfl)) ?_
  intro W base args ds gs before hval0 hW hcnd _
  have hval : ∀ (j : Nat) t v, Try.f17.params[j]? = some t → args[j]? = some v → Value.okWide Try.prog W .any base t v := hval0
  have hW' := hW
  obtain ⟨p, q, hA0, hV, rfl, hfz, hnd⟩ := hW
  have hA : DataW.TrodAll enc Try.prog W 0 (fun _ => true) true Try.f17.params.toList args.toList ds p := hA0
  have hA1 := hA
  rw [Try.params17] at hA hval
  obtain ⟨v0, vs0, d0, ds0, p0, q0, hargs, rfl, rfl, h0, r0⟩ := trodAll_cons hA
  obtain ⟨v1, vs1, d1, ds1, p1, q1, rfl, rfl, rfl, h1, r1⟩ := trodAll_cons r0
  obtain ⟨v2, vs2, d2, ds2, p2, q2, rfl, rfl, rfl, h2, r2⟩ := trodAll_cons r1
  obtain ⟨v3, vs3, d3, ds3, p3, q3, rfl, rfl, rfl, h3, r3⟩ := trodAll_cons r2
  obtain ⟨rfl, rfl, rfl⟩ := trodAll_nil r3
  obtain rfl : args = #[v0, v1, v2, v3] := by cases args; simp_all
  obtain ⟨rfl, rfl⟩ := trodVars_none hV
  obtain ⟨x0, rfl, ok0⟩ := Cf.arg_int Try.underlying3 h0 (hval 0 3 v0 rfl rfl)
  obtain ⟨n1, e1, t1⟩ := Cf.arg_slice Try.underlying102 h1 (hval 1 102 v1 rfl rfl)
  obtain ⟨p1, c2, x1, K1, q1, ok1, rr1⟩ := Cf.rd_slice (t := Cf.t_law20_Op) Try.underlying102 Cf.rd_law20_Op (by kernel_rfl) (by decide) t1
  obtain rfl : v1 = _ := List.head_eq_of_cons_eq q1
  obtain ⟨ce2, rfl, n2, e2, t2⟩ := Cf.arg_struct Try.underlying104 h2 (hval 2 104 v2 rfl rfl)
  obtain ⟨x2, K2, ok2, rr2⟩ := Cf.rd_law20_Op _ _ _ _ _ _ t2
  obtain ⟨x3, rfl, ok3⟩ := Cf.arg_str Try.underlying9 h3 (hval 3 9 v3 rfl rfl)
  have hlt := hW'.lt
  simp only [List.append_nil] at hW' hlt hA1
  obtain ⟨K, hK⟩ : ∃ K, (max K1 (max K2 0)) ≤ K := ⟨_, Nat.le_refl _⟩
  obtain ⟨⟨p3, c4, p5, c6⟩, rfl, f2⟩ := rr2 K (by omega)
  have hR : ∀ m ∈ ([Cf.Ro.mp Cf.t_law20_Op p1 c2 x1, Cf.Ro.mp Cf.f_api_Ver.ty p3 c4 x2.Msg.Vers, Cf.Ro.mp (Cf.fInt .u64).ty p5 c6 x2.Msg.Vec] : List Cf.MP), m.p (Cf.gh K W) W := fun m hm => by
    simp only [List.mem_cons, List.not_mem_nil, or_false] at hm
    rcases hm with rfl | rfl | rfl
    · exact rr1 K (by omega)
    · exact f2 _ (List.mem_of_getElem? (i := 0) rfl)
    · exact f2 _ (List.mem_of_getElem? (i := 1) rfl)
  refine (walk x0 x1 p1 c2 x2 p3 c4 p5 c6 x3 ok0 ok1 ok2 ok3  W K hR).mono fun e W' ⟨he, hg, hsame⟩ => ?_
  subst he
  exact ⟨_, rfl, Cf.post_kept (pv := []) hW' (fun _ _ _ => (trodAll_cons_mk (shut_bool Try.underlying4 _) trodAll_mk0)) (fun sp hsp => Cf.trodAll_stays (by kernel_rfl) (by kernel_rfl) hA1 (fun p hp => Cf.sameAt_of hsame (hlt p hp)) hsp) (fun _ _ => rfl) (by simp)
    (World.keptBut_mono (fun _ f => f.elim) hg)⟩
theorem joined : joinedFacts Try.pinned.checked.prog 17 Try.f17 Rows.nodeTwiceSpec Rows.nodeTwiceRow = true := by
  unfold joinedFacts
  rw [Cf.mayEnter, Cf.liftsFinal, Cf.make]
  show _ = true
  kernel_rfl
theorem over : Rows.nodeTwiceRow.holds Try.pinned (OpenSpec.ofChange Rows.nodeTwiceSpec) :=
  OpenClaim.holds_of_wide 17 Try.f17 rfl rfl rfl rfl rfl rfl rfl ⟨rfl, rfl, rfl, rfl, rfl⟩ rfl rfl rfl rfl rfl (by kernel_rfl) Try.func17 joined
    (of_decide_eq_true (by kernel_rfl)) (by unfold Func.isWrapper; first | (rw [if_pos (by decide +kernel)]; kernel_rfl) | (rw [if_neg (by decide +kernel)]; exact ⟨rfl, rfl⟩))
    (fun os started H enc _ => lifted os started H enc)
theorem proved : Rows.NodeTwiceSaid :=
  over
#print axioms proved
end Go.Proofs.Yteeafoagaaedcaa.nodeTwice

