/- The proof of the statement 'ConfigOwns': the walk, its plain law, and the row's step (printed by joiner.py; it began as the shell that proof-skeleton.mjs writes). -/
import Derived.Test.YtogjpknjolkjaaaRows
import Derived.WalkKit
import Derived.ProofKit
import Derived.OpenShut
import Derived.Test.YtogjpknjolkjaaaZInit
import Derived.Test.YtogjpknjolkjaaaZRd
import Derived.Test.YtogjpknjolkjaaaZW7x
import Derived.Test.YtogjpknjolkjaaaZP1
/- The proof of the statement 'ConfigOwns': the walk, its plain law, and the row's step (printed by joiner.py; it began as the shell that proof-skeleton.mjs writes). -/
namespace Go.Proofs.Ytogjpknjolkjaaa.configOwns
open Go.ChangeShapes Go.WideShapes Go.ChangeAt Go.RowKit
set_option linter.unusedVariables false
theorem own : ownKnob Try.prog.godebug = none := by kernel_rfl
theorem walk (x0 : Cf.T_config_State) (cs1 : List Value) (x1 : Cf.T_api_Cmd) (ok0 : Cf.ok_config_State x0) (ok1 : Cf.ok_api_Cmd x1) (w : World) (K : Nat) (hR : ∀ m ∈ ([Cf.MP.const (List.length x0.Members = 4), Cf.Arr.mp Cf.t_api_Map cs1 4 x0.Maps, Cf.MP.const (List.length x0.Modes = 21)] : List Cf.MP), m.p (Cf.gh K w) w) :
    Calls Try.prog 7 #[.agg (Cf.flat [(1, [.int .i64 (x0.Pool)]), (1, [.int .i64 (x0.Nodes)]), (4, (Cf.encs Cf.fBool x0.Members)), (8, cs1), (21, (Cf.encs (Cf.fInt .i64) x0.Modes))]).toArray, .agg (Cf.flat [(1, [.int .i64 (x1.Kind)]), (1, [.int .i64 (x1.DC)]), (1, [.int .i64 (x1.Shard)]), (1, [.int .i64 (x1.Node)]), (1, [.int .i64 (x1.Mode)]), (1, [.string (x1.Key)])]).toArray] w fun e w' => e = .returned (.bool true) ∧ w.keptBut w' (fun _ => False) ∧ ∀ b, b < w.heap.size → w'.heap[b]? = w.heap[b]? := by
  exact Cf.law_kept rfl (Cf.C_law18_ConfigOwns_x (1000) (Cf.gh_fresh K w) x0 x1 cs1 hR (Cf.pConfigOwns x0 x1 (hR _ (List.mem_of_getElem? (i := 0) rfl)) (show Cf.ArrP _ _ _ _ _ _ from hR _ (List.mem_of_getElem? (i := 1) rfl)).1 (hR _ (List.mem_of_getElem? (i := 2) rfl))))
set_option maxRecDepth 100000 in
theorem lifted (os : Os) (started : os.Started) (H : Type) (enc : TypeId × Value → H) :
    ReturnsInHanded {} Try.checked os 7 .any (Rows.configOwnsSpec.pre6 enc Try.prog Try.f7 Rows.configOwnsRow.domain false) (Rows.configOwnsSpec.post enc Try.prog Try.f7 false true false false) := by
  refine returnsInHanded_of_change (C := Try.checked) own started (by kernel_rfl) Try.func7
    (ChangeSpec.witness6 (enc := enc) (C := Try.checked) false ⟨#[], #[.agg (Cf.flat [(1, [.int .i64 (0)]), (1, [.int .i64 (0)]), (4, (Cf.encs Cf.fBool (List.replicate 4 false))), (8, (List.replicate 4 (Cf.flat [(1, [.slice none 0 0]), (1, [.slice none 0 0])])).flatten), (21, (Cf.encs (Cf.fInt .i64) (List.replicate 21 0)))]).toArray, .agg (Cf.flat [(1, [.int .i64 (0)]), (1, [.int .i64 (0)]), (1, [.int .i64 (0)]), (1, [.int .i64 (0)]), (1, [.int .i64 (0)]), (1, [.string (ByteArray.empty)])]).toArray], []⟩ 8 (by kernel_rfl) (by kernel_rfl) (by kernel_rfl) (by kernel_rfl)) ?_
  intro W base args ds gs before hval0 hW hcnd _
  have hval : ∀ (j : Nat) t v, Try.f7.params[j]? = some t → args[j]? = some v → Value.okWide Try.prog W .any base t v := hval0
  have hW' := hW
  obtain ⟨p, q, hA0, hV, rfl, hfz, hnd⟩ := hW
  have hA : DataW.TrodAll enc Try.prog W 0 (fun _ => true) true Try.f7.params.toList args.toList ds p := hA0
  have hA1 := hA
  rw [Try.params7] at hA hval
  obtain ⟨v0, vs0, d0, ds0, p0, q0, hargs, rfl, rfl, h0, r0⟩ := trodAll_cons hA
  obtain ⟨v1, vs1, d1, ds1, p1, q1, rfl, rfl, rfl, h1, r1⟩ := trodAll_cons r0
  obtain ⟨rfl, rfl, rfl⟩ := trodAll_nil r1
  obtain rfl : args = #[v0, v1] := by cases args; simp_all
  obtain ⟨rfl, rfl⟩ := trodVars_none hV
  obtain ⟨ce0, rfl, n0, e0, t0⟩ := Cf.arg_struct Try.underlying56 h0 (hval 0 56 v0 rfl rfl)
  obtain ⟨x0, K0, ok0, rr0⟩ := Cf.rd_config_State _ _ _ _ _ _ t0
  obtain ⟨ce1, rfl, n1, e1, t1⟩ := Cf.arg_struct Try.underlying58 h1 (hval 1 58 v1 rfl rfl)
  obtain ⟨x1, K1, ok1, rr1⟩ := Cf.rd_api_Cmd _ _ _ _ _ _ t1
  have hlt := hW'.lt
  simp only [List.append_nil] at hW' hlt hA1
  obtain ⟨K, hK⟩ : ∃ K, (max K0 (max K1 0)) ≤ K := ⟨_, Nat.le_refl _⟩
  obtain ⟨cs1, rfl, f0⟩ := rr0 K (by omega)
  have hq1 : ce1 = Cf.f_api_Cmd.enc x1 := rr1 K (by omega)
  subst hq1
  have hR : ∀ m ∈ ([Cf.MP.const (List.length x0.Members = 4), Cf.Arr.mp Cf.t_api_Map cs1 4 x0.Maps, Cf.MP.const (List.length x0.Modes = 21)] : List Cf.MP), m.p (Cf.gh K W) W := fun m hm => by
    simp only [List.mem_cons, List.not_mem_nil, or_false] at hm
    rcases hm with rfl | rfl | rfl
    · exact f0 _ (List.mem_of_getElem? (i := 0) rfl)
    · exact f0 _ (List.mem_of_getElem? (i := 1) rfl)
    · exact f0 _ (List.mem_of_getElem? (i := 2) rfl)
  refine (walk x0 cs1 x1 ok0 ok1  W K hR).mono fun e W' ⟨he, hg, hsame⟩ => ?_
  subst he
  exact ⟨_, rfl, Cf.post_kept (pv := []) hW' (fun _ _ _ => (trodAll_cons_mk (shut_bool Try.underlying4 _) trodAll_mk0)) (fun sp hsp => Cf.trodAll_stays (by kernel_rfl) (by kernel_rfl) hA1 (fun p hp => Cf.sameAt_of hsame (hlt p hp)) hsp) (fun _ _ => rfl) (by simp)
    (World.keptBut_mono (fun _ f => f.elim) hg)⟩
theorem joined : joinedFacts Try.pinned.checked.prog 7 Try.f7 Rows.configOwnsSpec Rows.configOwnsRow = true := by
  unfold joinedFacts
  rw [Cf.mayEnter, Cf.liftsFinal, Cf.make]
  show _ = true
  kernel_rfl
theorem over : Rows.configOwnsRow.holds Try.pinned (OpenSpec.ofChange Rows.configOwnsSpec) :=
  OpenClaim.holds_of_wide 7 Try.f7 rfl rfl rfl rfl rfl rfl rfl ⟨rfl, rfl, rfl, rfl, rfl⟩ rfl rfl rfl rfl rfl (by kernel_rfl) Try.func7 joined
    (of_decide_eq_true (by kernel_rfl)) (by unfold Func.isWrapper; first | (rw [if_pos (by decide +kernel)]; kernel_rfl) | (rw [if_neg (by decide +kernel)]; exact ⟨rfl, rfl⟩))
    (fun os started H enc _ => lifted os started H enc)
theorem proved : Rows.ConfigOwnsSaid :=
  over
#print axioms proved
end Go.Proofs.Ytogjpknjolkjaaa.configOwns

