/- The proof of the statement 'GateNone': the walk, its plain law, and the row's step (printed by joiner.py; it began as the shell that proof-skeleton.mjs writes). -/
import Derived.Test.YtcplebnnanjngaaGreatRows
import Derived.WalkKit
import Derived.ProofKit
import Derived.OpenShut
import Derived.Test.YtcplebnnanjngaaGreatZInit
import Derived.Test.YtcplebnnanjngaaGreatZnRd
import Derived.Test.YtcplebnnanjngaaGreatZWngN
import Derived.Test.YtcplebnnanjngaaGreatZP1
/- The proof of the statement 'GateNone': the walk, its plain law, and the row's step (printed by joiner.py; it began as the shell that proof-skeleton.mjs writes). -/
namespace Go.Proofs.YtcplebnnanjngaaGreat.gateNone
open Go.ChangeShapes Go.WideShapes Go.ChangeAt Go.RowKit
set_option linter.unusedVariables false
theorem own : ownKnob Tryz.prog.godebug = none := by kernel_rfl
theorem walk (x0 : Cf.T_law22_Op) (p1 : Option Addr) (c2 : Nat) (p3 : Option Addr) (c4 : Nat) (p5 : Option Addr) (c6 : Nat) (ok0 : Cf.ok_law22_Op x0) (w : World) (K : Nat) (hR : ∀ m ∈ ([Cf.Ro.mp Cf.f_api_Ver.ty p1 c2 x0.Msg.Vers, Cf.Ro.mp (Cf.fInt .u64).ty p3 c4 x0.Msg.Vec, Cf.Ro.mp Cf.f_api_Ver.ty p5 c6 x0.Writes] : List Cf.MP), m.p (Cf.gh K w) w) :
    Calls Tryz.prog 6 #[.agg (Cf.flat [(1, [.int .i64 (x0.Kind)]), (1, [.int .i64 (x0.From)]), (1, [.int .i64 (x0.Call)]), (1, [.int .i64 (x0.Msg.Kind)]), (1, [.int .u64 (x0.Msg.Id)]), (1, [.int .u64 (x0.Msg.N)]), (1, [.int .u64 (x0.Msg.TS)]), (1, [.string (x0.Msg.Lo)]), (1, [.string (x0.Msg.Hi)]), (1, [.slice p1 (x0.Msg.Vers).length c2]), (1, [.slice p3 (x0.Msg.Vec).length c4]), (1, [.int .i64 (x0.Msg.Cmd.Kind)]), (1, [.int .i64 (x0.Msg.Cmd.DC)]), (1, [.int .i64 (x0.Msg.Cmd.Shard)]), (1, [.int .i64 (x0.Msg.Cmd.Node)]), (1, [.int .i64 (x0.Msg.Cmd.Mode)]), (1, [.string (x0.Msg.Cmd.Key)]), (1, [.string (x0.Key)]), (1, [.int .u64 (x0.T)]), (1, [.slice p5 (x0.Writes).length c6])]).toArray] w fun e w' => e = .returned (.bool true) ∧ w.keptBut w' (fun _ => False) ∧ ∀ b, b < w.heap.size → w'.heap[b]? = w.heap[b]? := by
  exact Cf.law_kept rfl (Cf.C_law22_GateNone (100) (Cf.gh_fresh K w) x0 p1 c2 p3 c4 p5 c6 hR (Cf.pGateNone x0))
set_option maxRecDepth 100000 in
theorem lifted (os : Os) (started : os.Started) (H : Type) (enc : TypeId × Value → H) :
    ReturnsInHanded {} Tryz.checked os 6 .any (Rows.gateNoneSpec.pre6 enc Tryz.prog Tryz.f6 Rows.gateNoneRow.domain false) (Rows.gateNoneSpec.post enc Tryz.prog Tryz.f6 false true false false) := by
  refine returnsInHanded_of_change (C := Tryz.checked) own started (by kernel_rfl) Tryz.func6
    (ChangeSpec.witness6 (enc := enc) (C := Tryz.checked) false ⟨#[], #[.agg (Cf.flat [(1, [.int .i64 (0)]), (1, [.int .i64 (0)]), (1, [.int .i64 (0)]), (1, [.int .i64 (0)]), (1, [.int .u64 (0)]), (1, [.int .u64 (0)]), (1, [.int .u64 (0)]), (1, [.string (ByteArray.empty)]), (1, [.string (ByteArray.empty)]), (1, [.slice none 0 0]), (1, [.slice none 0 0]), (1, [.int .i64 (0)]), (1, [.int .i64 (0)]), (1, [.int .i64 (0)]), (1, [.int .i64 (0)]), (1, [.int .i64 (0)]), (1, [.string (ByteArray.empty)]), (1, [.string (ByteArray.empty)]), (1, [.int .u64 (0)]), (1, [.slice none 0 0])]).toArray], []⟩ 8 (by kernel_rfl) (by kernel_rfl) (by kernel_rfl) (by kernel_rfl)) ?_
  intro W base args ds gs before hval0 hW hcnd _
  have hval : ∀ (j : Nat) t v, Tryz.f6.params[j]? = some t → args[j]? = some v → Value.okWide Tryz.prog W .any base t v := hval0
  have hW' := hW
  obtain ⟨p, q, hA0, hV, rfl, hfz, hnd⟩ := hW
  have hA : DataW.TrodAll enc Tryz.prog W 0 (fun _ => true) true Tryz.f6.params.toList args.toList ds p := hA0
  have hA1 := hA
  rw [Tryz.params6] at hA hval
  obtain ⟨v0, vs0, d0, ds0, p0, q0, hargs, rfl, rfl, h0, r0⟩ := trodAll_cons hA
  obtain ⟨rfl, rfl, rfl⟩ := trodAll_nil r0
  obtain rfl : args = #[v0] := by cases args; simp_all
  obtain ⟨rfl, rfl⟩ := trodVars_none hV
  obtain ⟨ce0, rfl, n0, e0, t0⟩ := Cf.arg_struct Tryz.underlying40 h0 (hval 0 40 v0 rfl rfl)
  obtain ⟨x0, K0, ok0, rr0⟩ := Cf.rd_law22_Op _ _ _ _ _ _ t0
  have hlt := hW'.lt
  simp only [List.append_nil] at hW' hlt hA1
  obtain ⟨K, hK⟩ : ∃ K, (max K0 0) ≤ K := ⟨_, Nat.le_refl _⟩
  obtain ⟨⟨p1, c2, p3, c4, p5, c6⟩, rfl, f0⟩ := rr0 K (by omega)
  have hR : ∀ m ∈ ([Cf.Ro.mp Cf.f_api_Ver.ty p1 c2 x0.Msg.Vers, Cf.Ro.mp (Cf.fInt .u64).ty p3 c4 x0.Msg.Vec, Cf.Ro.mp Cf.f_api_Ver.ty p5 c6 x0.Writes] : List Cf.MP), m.p (Cf.gh K W) W := fun m hm => by
    simp only [List.mem_cons, List.not_mem_nil, or_false] at hm
    rcases hm with rfl | rfl | rfl
    · exact f0 _ (List.mem_of_getElem? (i := 0) rfl)
    · exact f0 _ (List.mem_of_getElem? (i := 1) rfl)
    · exact f0 _ (List.mem_of_getElem? (i := 2) rfl)
  refine (walk x0 p1 c2 p3 c4 p5 c6 ok0  W K hR).mono fun e W' ⟨he, hg, hsame⟩ => ?_
  subst he
  exact ⟨_, rfl, Cf.post_kept (pv := []) hW' (fun _ _ _ => (trodAll_cons_mk (shut_bool Tryz.underlying4 _) trodAll_mk0)) (fun sp hsp => Cf.trodAll_stays (by kernel_rfl) (by kernel_rfl) hA1 (fun p hp => Cf.sameAt_of hsame (hlt p hp)) hsp) (fun _ _ => rfl) (by simp)
    (World.keptBut_mono (fun _ f => f.elim) hg)⟩
theorem joined : joinedFacts Tryz.pinned.checked.prog 6 Tryz.f6 Rows.gateNoneSpec Rows.gateNoneRow = true := by
  unfold joinedFacts
  rw [Cf.mayEnter, Cf.liftsFinal, Cf.make]
  show _ = true
  kernel_rfl
theorem over : Rows.gateNoneRow.holds Tryz.pinned (OpenSpec.ofChange Rows.gateNoneSpec) :=
  OpenClaim.holds_of_wide 6 Tryz.f6 rfl rfl rfl rfl rfl rfl rfl ⟨rfl, rfl, rfl, rfl, rfl⟩ rfl rfl rfl rfl rfl (by kernel_rfl) Tryz.func6 joined
    (of_decide_eq_true (by kernel_rfl)) (by unfold Func.isWrapper; first | (rw [if_pos (by decide +kernel)]; kernel_rfl) | (rw [if_neg (by decide +kernel)]; exact ⟨rfl, rfl⟩))
    (fun os started H enc _ => lifted os started H enc)
theorem proved : Rows.GateNoneSaid :=
  over
#print axioms proved
end Go.Proofs.YtcplebnnanjngaaGreat.gateNone

