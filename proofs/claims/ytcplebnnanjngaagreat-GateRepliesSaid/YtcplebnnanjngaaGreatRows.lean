/-
  No cell of these rows narrows 'for every input' (looked for: loops, veiled, ifaces, maps, wideKeys, modest, calm, conditions, laid).
  DERIVED. THE GIVEN ROWS OF THIS SEAT. 4 by the template 'for every input the law returns true; each argument reads behind the call as it read before'; 0 by the template 'total and deterministic' (their statements: YtcplebnnanjngaaGreatTotals.lean).
  GIVEN WITH THE SEED: the statements are not yours to turn. If you find one false, say at which input.
  Laid BY PROGRAM, IN A SANDBOX (cutbox-rows.mjs): the forced cells as the released guide's own fill.sh prints them over the translation a8fbae531735dc7d… (all of the seat's roots in one cut). By AI agents, Wed Nov 11 2026. No macro, syntax, notation, axiom, sorry.
-/
import Derived.Test.YtcplebnnanjngaaGreatChecked
import GoSem.Claim
import GoSem.ClaimJoined
import GoSem.ClaimMapViews
import Derived.JoinedTies
import Derived.KernelRfl
namespace Go.Proofs.YtcplebnnanjngaaGreat
/- THE CELL 'sum', in the pinned program and in every row, IS THE sha256 OF THE DUMP (.gsa) THAT YtcplebnnanjngaaGreatProg.lean LOADS. Nothing in Lean hashes anything: it is a label: what it is worth is what the hold of that sum in a sandbox is worth. -/
noncomputable def Tryz.pinned : Pinned := { name := "ytcplebnnanjngaagreat", sum := "a8fbae531735dc7d45c31769a98bfd218006f499c0d32dfe28975f80881bfd1a", checked := Tryz.checked }
namespace Rows
def none {H : Type} : Left H := { results := [], args := [] }

/-- 'confluencelaw22.GateStable': WHATEVER THE INPUT: true; the input reads as it did. -/
def gateStableSpec : ChangeSpec := { name := "gateStable", fn := fun _ => fun
  | [d1, d2, d3] => { results := [.lit (.bool true)], args := [d1, d2, d3] }
  | _ => none }
def gateStableRow : OpenClaim := { program := "ytcplebnnanjngaagreat", sum := "a8fbae531735dc7d45c31769a98bfd218006f499c0d32dfe28975f80881bfd1a", func := "confluence/confluencelaw22.GateStable", spec := "gateStable", unfollowed := true, recurses := true, apart := false }
def GateStableSaid : Prop := gateStableRow.holds Tryz.pinned (OpenSpec.ofChange gateStableSpec)

/-- ITS FALSE NEIGHBOUR: 'it returns false'. Refute it at one input. -/
def gateStableWrong : ChangeSpec := { name := "gateStable", fn := fun _ => fun
  | [d1, d2, d3] => { results := [.lit (.bool false)], args := [d1, d2, d3] }
  | _ => none }
def GateStableWrongFalsely : Prop := gateStableRow.holds Tryz.pinned (OpenSpec.ofChange gateStableWrong)

/-- 'confluencelaw22.GateHolds': WHATEVER THE INPUT: true; the input reads as it did. -/
def gateHoldsSpec : ChangeSpec := { name := "gateHolds", fn := fun _ => fun
  | [d1, d2, d3, d4] => { results := [.lit (.bool true)], args := [d1, d2, d3, d4] }
  | _ => none }
def gateHoldsRow : OpenClaim := { program := "ytcplebnnanjngaagreat", sum := "a8fbae531735dc7d45c31769a98bfd218006f499c0d32dfe28975f80881bfd1a", func := "confluence/confluencelaw22.GateHolds", spec := "gateHolds", unfollowed := true, recurses := true, apart := false }
def GateHoldsSaid : Prop := gateHoldsRow.holds Tryz.pinned (OpenSpec.ofChange gateHoldsSpec)

/-- ITS FALSE NEIGHBOUR: 'it returns false'. Refute it at one input. -/
def gateHoldsWrong : ChangeSpec := { name := "gateHolds", fn := fun _ => fun
  | [d1, d2, d3, d4] => { results := [.lit (.bool false)], args := [d1, d2, d3, d4] }
  | _ => none }
def GateHoldsWrongFalsely : Prop := gateHoldsRow.holds Tryz.pinned (OpenSpec.ofChange gateHoldsWrong)

/-- 'confluencelaw22.GateReplies': WHATEVER THE INPUT: true; the input reads as it did. -/
def gateRepliesSpec : ChangeSpec := { name := "gateReplies", fn := fun _ => fun
  | [d1, d2, d3] => { results := [.lit (.bool true)], args := [d1, d2, d3] }
  | _ => none }
def gateRepliesRow : OpenClaim := { program := "ytcplebnnanjngaagreat", sum := "a8fbae531735dc7d45c31769a98bfd218006f499c0d32dfe28975f80881bfd1a", func := "confluence/confluencelaw22.GateReplies", spec := "gateReplies", unfollowed := true, recurses := true, apart := false }
def GateRepliesSaid : Prop := gateRepliesRow.holds Tryz.pinned (OpenSpec.ofChange gateRepliesSpec)

/-- ITS FALSE NEIGHBOUR: 'it returns false'. Refute it at one input. -/
def gateRepliesWrong : ChangeSpec := { name := "gateReplies", fn := fun _ => fun
  | [d1, d2, d3] => { results := [.lit (.bool false)], args := [d1, d2, d3] }
  | _ => none }
def GateRepliesWrongFalsely : Prop := gateRepliesRow.holds Tryz.pinned (OpenSpec.ofChange gateRepliesWrong)

/-- 'confluencelaw22.GateNone': WHATEVER THE INPUT: true; the input reads as it did. -/
def gateNoneSpec : ChangeSpec := { name := "gateNone", fn := fun _ => fun
  | [d] => { results := [.lit (.bool true)], args := [d] }
  | _ => none }
def gateNoneRow : OpenClaim := { program := "ytcplebnnanjngaagreat", sum := "a8fbae531735dc7d45c31769a98bfd218006f499c0d32dfe28975f80881bfd1a", func := "confluence/confluencelaw22.GateNone", spec := "gateNone", unfollowed := true, recurses := true, apart := false }
def GateNoneSaid : Prop := gateNoneRow.holds Tryz.pinned (OpenSpec.ofChange gateNoneSpec)

/-- ITS FALSE NEIGHBOUR: 'it returns false'. Refute it at one input. -/
def gateNoneWrong : ChangeSpec := { name := "gateNone", fn := fun _ => fun
  | [d] => { results := [.lit (.bool false)], args := [d] }
  | _ => none }
def GateNoneWrongFalsely : Prop := gateNoneRow.holds Tryz.pinned (OpenSpec.ofChange gateNoneWrong)

/- THE SECOND FORM. 'bulk': how many values and letters a reading holds, each counted each time it is reached (what is shared counts as often as it is met; a slice's spare places count too). A statement '..UptoSaid' is the law's where the arguments, and the package variables that the reading takes, are together of bulk at most 1048576: NARROWER than '..Said'. Prove '..Said' where nothing that the law and all that it calls make is longer than what came in: it says more and counts as full. Else prove '..UptoSaid'. A law counts once. -/
mutual
def uptoBulk {H : Type} : DataW H → Nat
  | .lit (.string bytes) => bytes.length + 1
  | .lit _ => 1
  | .nil => 1
  | .ptr d => uptoBulk d + 1
  | .slice elems spare => uptoBulkAll elems + uptoBulkAll spare + 1
  | .agg parts => uptoBulkAll parts + 1
  | .iface _ d => uptoBulk d + 1
  | .map entries => uptoBulkEntries entries + 1
  | .held _ => 1
def uptoBulkAll {H : Type} : List (DataW H) → Nat
  | [] => 0
  | d :: r => uptoBulk d + uptoBulkAll r
def uptoBulkEntries {H : Type} : List (Lit × DataW H) → Nat
  | [] => 0
  | x :: r => uptoBulkEntry x + uptoBulkEntries r
def uptoBulkEntry {H : Type} : Lit × DataW H → Nat
  | (.string bytes, d) => bytes.length + uptoBulk d + 1
  | (_, d) => uptoBulk d + 1
 end
def uptoSmall : (H : Type) → List (DataW H) → Bool := fun _ ds => decide (uptoBulkAll ds ≤ 1048576)
def OpenSpec.upto (s : _root_.Go.ChangeSpec) : _root_.Go.OpenSpec := { _root_.Go.OpenSpec.ofChange s with cond := some uptoSmall }

/-- 'confluencelaw22.GateStable', WHERE WHAT IT READS IS OF BULK AT MOST 1048576: true; the input reads as it did. -/
def gateStableUptoRow : OpenClaim := { program := "ytcplebnnanjngaagreat", sum := "a8fbae531735dc7d45c31769a98bfd218006f499c0d32dfe28975f80881bfd1a", func := "confluence/confluencelaw22.GateStable", spec := "gateStable", unfollowed := true, recurses := true, apart := false, narrowed := true }
def GateStableUptoSaid : Prop := gateStableUptoRow.holds Tryz.pinned (OpenSpec.upto gateStableSpec)

/-- 'confluencelaw22.GateHolds', WHERE WHAT IT READS IS OF BULK AT MOST 1048576: true; the input reads as it did. -/
def gateHoldsUptoRow : OpenClaim := { program := "ytcplebnnanjngaagreat", sum := "a8fbae531735dc7d45c31769a98bfd218006f499c0d32dfe28975f80881bfd1a", func := "confluence/confluencelaw22.GateHolds", spec := "gateHolds", unfollowed := true, recurses := true, apart := false, narrowed := true }
def GateHoldsUptoSaid : Prop := gateHoldsUptoRow.holds Tryz.pinned (OpenSpec.upto gateHoldsSpec)

/-- 'confluencelaw22.GateReplies', WHERE WHAT IT READS IS OF BULK AT MOST 1048576: true; the input reads as it did. -/
def gateRepliesUptoRow : OpenClaim := { program := "ytcplebnnanjngaagreat", sum := "a8fbae531735dc7d45c31769a98bfd218006f499c0d32dfe28975f80881bfd1a", func := "confluence/confluencelaw22.GateReplies", spec := "gateReplies", unfollowed := true, recurses := true, apart := false, narrowed := true }
def GateRepliesUptoSaid : Prop := gateRepliesUptoRow.holds Tryz.pinned (OpenSpec.upto gateRepliesSpec)

/-- 'confluencelaw22.GateNone', WHERE WHAT IT READS IS OF BULK AT MOST 1048576: true; the input reads as it did. -/
def gateNoneUptoRow : OpenClaim := { program := "ytcplebnnanjngaagreat", sum := "a8fbae531735dc7d45c31769a98bfd218006f499c0d32dfe28975f80881bfd1a", func := "confluence/confluencelaw22.GateNone", spec := "gateNone", unfollowed := true, recurses := true, apart := false, narrowed := true }
def GateNoneUptoSaid : Prop := gateNoneUptoRow.holds Tryz.pinned (OpenSpec.upto gateNoneSpec)

end Rows
end Go.Proofs.YtcplebnnanjngaaGreat
