/- ClusterNone: the law's own run, of any call. -/
import Derived.Test.YtkkbmgapcidmnaaGreatZCaw
import Derived.Test.YtkkbmgapcidmnaaGreatZRd
set_option linter.unusedVariables false
open Go Go.Cf
namespace Go.Ce
noncomputable section
open Go.Proofs.Tryz
theorem noneRun : isTrue ((eng prog [] cutW 2000 60).call 4 [.agg #[tkn 0, tkn 1, tkn 2, tkn 3, tkn 4, tkn 5, tkn 6, tkn 7, tkn 8, tkn 9, tkn 10, tkn 11, tkn 12]] St0) = true := by kernel_rfl
theorem noneWalk (x0 : T_cluster_Op) (w : World) : Calls prog 4 #[.agg #[.int .i64 x0.Kind, .int .i64 x0.Who, .int .i64 x0.A, .int .i64 x0.B, .int .i64 x0.N, .string x0.Key, .string x0.Val, .int .i64 x0.Cmd.Kind, .int .i64 x0.Cmd.DC, .int .i64 x0.Cmd.Shard, .int .i64 x0.Cmd.Node, .int .i64 x0.Cmd.Mode, .string x0.Cmd.Key]] w
    fun e w' => e = .returned (.bool true) ∧ w.keptBut w' (fun _ => False) ∧ ∀ b, b < w.heap.size → w'.heap[b]? = w.heap[b]? := by
  obtain ⟨S1, h⟩ := isTrue_eq noneRun
  obtain ⟨A0, h0⟩ := dec_int x0.Kind
  obtain ⟨A1, h1⟩ := dec_int x0.Who
  obtain ⟨A2, h2⟩ := dec_int x0.A
  obtain ⟨A3, h3⟩ := dec_int x0.B
  obtain ⟨A4, h4⟩ := dec_int x0.N
  obtain ⟨A5, h5⟩ := dec_str x0.Key
  obtain ⟨A6, h6⟩ := dec_str x0.Val
  obtain ⟨A7, h7⟩ := dec_int x0.Cmd.Kind
  obtain ⟨A8, h8⟩ := dec_int x0.Cmd.DC
  obtain ⟨A9, h9⟩ := dec_int x0.Cmd.Shard
  obtain ⟨A10, h10⟩ := dec_int x0.Cmd.Node
  obtain ⟨A11, h11⟩ := dec_int x0.Cmd.Mode
  obtain ⟨A12, h12⟩ := dec_str x0.Cmd.Key
  let l := [A0, A1, A2, A3, A4, A5, A6, A7, A8, A9, A10, A11, A12]
  have hc : VRl (tokTh l) [tkn 0, tkn 1, tkn 2, tkn 3, tkn 4, tkn 5, tkn 6, tkn 7, tkn 8, tkn 9, tkn 10, tkn 11, tkn 12] [.int .i64 x0.Kind, .int .i64 x0.Who, .int .i64 x0.A, .int .i64 x0.B, .int .i64 x0.N, .string x0.Key, .string x0.Val, .int .i64 x0.Cmd.Kind, .int .i64 x0.Cmd.DC, .int .i64 x0.Cmd.Shard, .int .i64 x0.Cmd.Node, .int .i64 x0.Cmd.Mode, .string x0.Cmd.Key] :=
    .cons (tokV rfl h0) (.cons (tokV rfl h1) (.cons (tokV rfl h2) (.cons (tokV rfl h3) (.cons (tokV rfl h4) (.cons (tokV rfl h5) (.cons (tokV rfl h6) (.cons (tokV rfl h7) (.cons (tokV rfl h8) (.cons (tokV rfl h9) (.cons (tokV rfl h10) (.cons (tokV rfl h11) (.cons (tokV rfl h12) (.nil _)))))))))))))
  have ha := VRl.arr (cs := #[tkn 0, tkn 1, tkn 2, tkn 3, tkn 4, tkn 5, tkn 6, tkn 7, tkn 8, tkn 9, tkn 10, tkn 11, tkn 12]) (cs' := #[.int .i64 x0.Kind, .int .i64 x0.Who, .int .i64 x0.A, .int .i64 x0.B, .int .i64 x0.N, .string x0.Key, .string x0.Val, .int .i64 x0.Cmd.Kind, .int .i64 x0.Cmd.DC, .int .i64 x0.Cmd.Shard, .int .i64 x0.Cmd.Node, .int .i64 x0.Cmd.Mode, .string x0.Cmd.Key]) hc
  exact call_kept (eng_call mixd (fun x hx => by cases hx) cutW_ok h) l (.cons (.agg ha.1 ha.2) (.nil _)) rfl w
end
end Go.Ce
