/- The proof of the statement 'WardenNone': the walk, its plain law, and the row's step (printed by joiner.py; it began as the shell that proof-skeleton.mjs writes). -/
import Derived.Test.YtjohablgnnbelaaRows
import Derived.WalkKit
import Derived.ProofKit
import Derived.OpenShut
import Derived.Test.YtjohablgnnbelaaInit
import Derived.Test.YtjohablgnnbelaaRd
import Derived.Test.YtjohablgnnbelaaW9n
import Derived.Test.YtjohablgnnbelaaP11
namespace Go.Proofs.Ytjohablgnnbelaa.wardenNone
open Go.ChangeShapes Go.WideShapes Go.ChangeAt Go.RowKit
set_option linter.unusedVariables false
theorem own : ownKnob Try.prog.godebug = none := by kernel_rfl
theorem walk (x0 : Cf.T_law19_Op) (p1 : Option Addr) (c2 : Nat) (p3 : Option Addr) (c4 : Nat) (ok0 : Cf.ok_law19_Op x0) (w : World) (K : Nat) (hR : ∀ m ∈ ([Cf.Ro.mp Cf.f_api_Ver.ty p1 c2 x0.Msg.Vers, Cf.Ro.mp (Cf.fInt .u64).ty p3 c4 x0.Msg.Vec] : List Cf.MP), m.p (Cf.gh K w) w) :
    Calls Try.prog 22 #[.agg (Cf.flat [(1, [.bool (x0.Ask)]), (1, [.int .i64 (x0.Cmd.Kind)]), (1, [.int .i64 (x0.Cmd.DC)]), (1, [.int .i64 (x0.Cmd.Shard)]), (1, [.int .i64 (x0.Cmd.Node)]), (1, [.int .i64 (x0.Cmd.Mode)]), (1, [.string (x0.Cmd.Key)]), (1, [.int .i64 (x0.DC)]), (1, [.int .i64 (x0.Msg.Kind)]), (1, [.int .u64 (x0.Msg.Id)]), (1, [.int .u64 (x0.Msg.N)]), (1, [.int .u64 (x0.Msg.TS)]), (1, [.string (x0.Msg.Lo)]), (1, [.string (x0.Msg.Hi)]), (1, [.slice p1 (x0.Msg.Vers).length c2]), (1, [.slice p3 (x0.Msg.Vec).length c4]), (1, [.int .i64 (x0.Msg.Cmd.Kind)]), (1, [.int .i64 (x0.Msg.Cmd.DC)]), (1, [.int .i64 (x0.Msg.Cmd.Shard)]), (1, [.int .i64 (x0.Msg.Cmd.Node)]), (1, [.int .i64 (x0.Msg.Cmd.Mode)]), (1, [.string (x0.Msg.Cmd.Key)])]).toArray] w fun e w' => e = .returned (.bool true) ∧ Grown w w' ∧ ∀ b, b < w.heap.size → w'.heap[b]? = w.heap[b]? := by
  exact Cf.law_kept rfl (Cf.C_law19_WardenNone (1000) (Cf.gh_fresh K w) x0 p1 c2 p3 c4 hR (Cf.pWardenNone x0))
set_option maxRecDepth 100000 in
theorem lifted (os : Os) (started : os.Started) (H : Type) (enc : TypeId × Value → H) :
    ReturnsInHanded {} Try.checked os 22 .any (Rows.wardenNoneSpec.pre6 enc Try.prog Try.f22 Rows.wardenNoneRow.domain false) (Rows.wardenNoneSpec.post enc Try.prog Try.f22 false true false false) := by
  refine returnsInHanded_of_change (C := Try.checked) own started (by kernel_rfl) Try.func22
    (ChangeSpec.witness6 (enc := enc) (C := Try.checked) false ⟨#[], #[.agg (Cf.flat [(1, [.bool (false)]), (1, [.int .i64 (0)]), (1, [.int .i64 (0)]), (1, [.int .i64 (0)]), (1, [.int .i64 (0)]), (1, [.int .i64 (0)]), (1, [.string (ByteArray.empty)]), (1, [.int .i64 (0)]), (1, [.int .i64 (0)]), (1, [.int .u64 (0)]), (1, [.int .u64 (0)]), (1, [.int .u64 (0)]), (1, [.string (ByteArray.empty)]), (1, [.string (ByteArray.empty)]), (1, [.slice none 0 0]), (1, [.slice none 0 0]), (1, [.int .i64 (0)]), (1, [.int .i64 (0)]), (1, [.int .i64 (0)]), (1, [.int .i64 (0)]), (1, [.int .i64 (0)]), (1, [.string (ByteArray.empty)])]).toArray], []⟩ 8 (by kernel_rfl) (by kernel_rfl) (by kernel_rfl) (by kernel_rfl)) ?_
  intro W base args ds gs before hval0 hW hcnd _
  have hval : ∀ (j : Nat) t v, Try.f22.params[j]? = some t → args[j]? = some v → Value.okWide Try.prog W .any base t v := hval0
  have hW' := hW
  obtain ⟨p, q, hA0, hV, rfl, hfz, hnd⟩ := hW
  have hA : DataW.TrodAll enc Try.prog W 0 (fun _ => true) true Try.f22.params.toList args.toList ds p := hA0
  have hA1 := hA
  rw [Try.params22] at hA hval
  obtain ⟨v0, vs0, d0, ds0, p0, q0, hargs, rfl, rfl, h0, r0⟩ := trodAll_cons hA
  obtain ⟨rfl, rfl, rfl⟩ := trodAll_nil r0
  obtain rfl : args = #[v0] := by cases args; simp_all
  obtain ⟨rfl, rfl⟩ := trodVars_none hV
  obtain ⟨ce0, rfl, n0, e0, t0⟩ := Cf.arg_struct Try.underlying98 h0 (hval 0 98 v0 rfl rfl)
  obtain ⟨x0, K0, ok0, rr0⟩ := Cf.rd_law19_Op _ _ _ _ _ _ t0
  have hlt := hW'.lt
  simp only [List.append_nil] at hW' hlt hA1
  obtain ⟨K, hK⟩ : ∃ K, (max K0 0) ≤ K := ⟨_, Nat.le_refl _⟩
  obtain ⟨⟨p1, c2, p3, c4⟩, rfl, f0⟩ := rr0 K (by omega)
  have hR : ∀ m ∈ ([Cf.Ro.mp Cf.f_api_Ver.ty p1 c2 x0.Msg.Vers, Cf.Ro.mp (Cf.fInt .u64).ty p3 c4 x0.Msg.Vec] : List Cf.MP), m.p (Cf.gh K W) W := fun m hm => by
    simp only [List.mem_cons, List.not_mem_nil, or_false] at hm
    rcases hm with rfl | rfl
    · exact f0 _ (List.mem_of_getElem? (i := 0) rfl)
    · exact f0 _ (List.mem_of_getElem? (i := 1) rfl)
  refine (walk x0 p1 c2 p3 c4 ok0  W K hR).mono fun e W' ⟨he, hg, hsame⟩ => ?_
  subst he
  exact ⟨_, rfl, post_of_same (pv := []) hW' (fun _ _ _ => (trodAll_cons_mk (shut_bool Try.underlying4 _) trodAll_mk0)) (fun sp hsp => Cf.trodAll_stays (by kernel_rfl) (by kernel_rfl) hA1 (fun p hp => Cf.sameAt_of hsame (hlt p hp)) hsp) (fun _ _ => rfl) (by simp)
    (hg.frame _) hg.2.1 (ok_one (by kernel_rfl) rfl (okWide_bool_mk Try.underlying4 _))⟩
theorem joined : joinedFacts Try.pinned.checked.prog 22 Try.f22 Rows.wardenNoneSpec Rows.wardenNoneRow = true := by
  unfold joinedFacts
  rw [Cf.mayEnter, Cf.liftsFinal, Cf.make]
  show _ = true
  kernel_rfl
theorem over : Rows.wardenNoneRow.holds Try.pinned (OpenSpec.ofChange Rows.wardenNoneSpec) :=
  OpenClaim.holds_of_wide 22 Try.f22 rfl rfl rfl rfl rfl rfl rfl ⟨rfl, rfl, rfl, rfl, rfl⟩ rfl rfl rfl rfl rfl (by kernel_rfl) Try.func22 joined
    (of_decide_eq_true (by kernel_rfl)) (by unfold Func.isWrapper; first | (rw [if_pos (by decide +kernel)]; kernel_rfl) | (rw [if_neg (by decide +kernel)]; exact ⟨rfl, rfl⟩))
    (fun os started H enc _ => lifted os started H enc)
theorem proved : Rows.WardenNoneSaid :=
  over
#print axioms proved
end Go.Proofs.Ytjohablgnnbelaa.wardenNone
