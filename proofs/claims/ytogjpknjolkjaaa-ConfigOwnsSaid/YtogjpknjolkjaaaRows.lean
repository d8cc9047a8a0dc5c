/-
  No cell of these rows narrows 'for every input' (looked for: loops, veiled, ifaces, maps, wideKeys, modest, calm, conditions, laid).
  DERIVED. THE GIVEN ROWS OF THIS SEAT. 11 by the template 'for every input the law returns true; each argument reads behind the call as it read before'; 0 by the template 'total and deterministic' (their statements: YtogjpknjolkjaaaTotals.lean).
  GIVEN WITH THE SEED: the statements are not yours to turn. If you find one false, say at which input.
  Laid BY PROGRAM, IN A SANDBOX (cutbox-rows.mjs): the forced cells as the released guide's own fill.sh prints them over the translation 2b194134b0101ba0… (all of the seat's roots in one cut). By AI agents, Wed Nov 11 2026. No macro, syntax, notation, axiom, sorry.
-/
import Derived.Test.YtogjpknjolkjaaaChecked
import GoSem.Claim
import GoSem.ClaimJoined
import GoSem.ClaimMapViews
import Derived.JoinedTies
import Derived.KernelRfl
namespace Go.Proofs.Ytogjpknjolkjaaa
/- THE CELL 'sum', in the pinned program and in every row, IS THE sha256 OF THE DUMP (.gsa) THAT YtogjpknjolkjaaaProg.lean LOADS. Nothing in Lean hashes anything: it is a label: what it is worth is what the hold of that sum in a sandbox is worth. -/
noncomputable def Try.pinned : Pinned := { name := "ytogjpknjolkjaaa", sum := "2b194134b0101ba086dda9a90ea0b21730767c7ba7bd03803cf1b6eaf80199be", checked := Try.checked }
namespace Rows
def none {H : Type} : Left H := { results := [], args := [] }

/-- 'confluencelaw08.SpanChecks': WHATEVER THE INPUT: true; the input reads as it did. -/
def spanChecksSpec : ChangeSpec := { name := "spanChecks", fn := fun _ => fun
  | [d1, d2] => { results := [.lit (.bool true)], args := [d1, d2] }
  | _ => none }
def spanChecksRow : OpenClaim := { program := "ytogjpknjolkjaaa", sum := "2b194134b0101ba086dda9a90ea0b21730767c7ba7bd03803cf1b6eaf80199be", func := "confluence/confluencelaw08.SpanChecks", spec := "spanChecks", unfollowed := true, recurses := true, apart := false }
def SpanChecksSaid : Prop := spanChecksRow.holds Try.pinned (OpenSpec.ofChange spanChecksSpec)

/-- ITS FALSE NEIGHBOUR: 'it returns false'. Refute it at one input. -/
def spanChecksWrong : ChangeSpec := { name := "spanChecks", fn := fun _ => fun
  | [d1, d2] => { results := [.lit (.bool false)], args := [d1, d2] }
  | _ => none }
def SpanChecksWrongFalsely : Prop := spanChecksRow.holds Try.pinned (OpenSpec.ofChange spanChecksWrong)

/-- 'confluencelaw08.SpanFinds': WHATEVER THE INPUT: true; the input reads as it did. -/
def spanFindsSpec : ChangeSpec := { name := "spanFinds", fn := fun _ => fun
  | [d1, d2, d3, d4, d5] => { results := [.lit (.bool true)], args := [d1, d2, d3, d4, d5] }
  | _ => none }
def spanFindsRow : OpenClaim := { program := "ytogjpknjolkjaaa", sum := "2b194134b0101ba086dda9a90ea0b21730767c7ba7bd03803cf1b6eaf80199be", func := "confluence/confluencelaw08.SpanFinds", spec := "spanFinds", unfollowed := true, recurses := true, apart := false }
def SpanFindsSaid : Prop := spanFindsRow.holds Try.pinned (OpenSpec.ofChange spanFindsSpec)

/-- ITS FALSE NEIGHBOUR: 'it returns false'. Refute it at one input. -/
def spanFindsWrong : ChangeSpec := { name := "spanFinds", fn := fun _ => fun
  | [d1, d2, d3, d4, d5] => { results := [.lit (.bool false)], args := [d1, d2, d3, d4, d5] }
  | _ => none }
def SpanFindsWrongFalsely : Prop := spanFindsRow.holds Try.pinned (OpenSpec.ofChange spanFindsWrong)

/-- 'confluencelaw08.SpanChanges': WHATEVER THE INPUT: true; the input reads as it did. -/
def spanChangesSpec : ChangeSpec := { name := "spanChanges", fn := fun _ => fun
  | [d1, d2, d3, d4, d5] => { results := [.lit (.bool true)], args := [d1, d2, d3, d4, d5] }
  | _ => none }
def spanChangesRow : OpenClaim := { program := "ytogjpknjolkjaaa", sum := "2b194134b0101ba086dda9a90ea0b21730767c7ba7bd03803cf1b6eaf80199be", func := "confluence/confluencelaw08.SpanChanges", spec := "spanChanges", unfollowed := true, recurses := true, apart := false }
def SpanChangesSaid : Prop := spanChangesRow.holds Try.pinned (OpenSpec.ofChange spanChangesSpec)

/-- ITS FALSE NEIGHBOUR: 'it returns false'. Refute it at one input. -/
def spanChangesWrong : ChangeSpec := { name := "spanChanges", fn := fun _ => fun
  | [d1, d2, d3, d4, d5] => { results := [.lit (.bool false)], args := [d1, d2, d3, d4, d5] }
  | _ => none }
def SpanChangesWrongFalsely : Prop := spanChangesRow.holds Try.pinned (OpenSpec.ofChange spanChangesWrong)

/-- 'confluencelaw08.SpanOwns': WHATEVER THE INPUT: true; the input reads as it did. -/
def spanOwnsSpec : ChangeSpec := { name := "spanOwns", fn := fun _ => fun
  | [d1, d2, d3, d4, d5] => { results := [.lit (.bool true)], args := [d1, d2, d3, d4, d5] }
  | _ => none }
def spanOwnsRow : OpenClaim := { program := "ytogjpknjolkjaaa", sum := "2b194134b0101ba086dda9a90ea0b21730767c7ba7bd03803cf1b6eaf80199be", func := "confluence/confluencelaw08.SpanOwns", spec := "spanOwns", unfollowed := true, recurses := true, apart := false }
def SpanOwnsSaid : Prop := spanOwnsRow.holds Try.pinned (OpenSpec.ofChange spanOwnsSpec)

/-- ITS FALSE NEIGHBOUR: 'it returns false'. Refute it at one input. -/
def spanOwnsWrong : ChangeSpec := { name := "spanOwns", fn := fun _ => fun
  | [d1, d2, d3, d4, d5] => { results := [.lit (.bool false)], args := [d1, d2, d3, d4, d5] }
  | _ => none }
def SpanOwnsWrongFalsely : Prop := spanOwnsRow.holds Try.pinned (OpenSpec.ofChange spanOwnsWrong)

/-- 'confluencelaw18.ConfigOwns': WHATEVER THE INPUT: true; the input reads as it did. -/
def configOwnsSpec : ChangeSpec := { name := "configOwns", fn := fun _ => fun
  | [d1, d2] => { results := [.lit (.bool true)], args := [d1, d2] }
  | _ => none }
def configOwnsRow : OpenClaim := { program := "ytogjpknjolkjaaa", sum := "2b194134b0101ba086dda9a90ea0b21730767c7ba7bd03803cf1b6eaf80199be", func := "confluence/confluencelaw18.ConfigOwns", spec := "configOwns", unfollowed := true, recurses := true, apart := false }
def ConfigOwnsSaid : Prop := configOwnsRow.holds Try.pinned (OpenSpec.ofChange configOwnsSpec)

/-- ITS FALSE NEIGHBOUR: 'it returns false'. Refute it at one input. -/
def configOwnsWrong : ChangeSpec := { name := "configOwns", fn := fun _ => fun
  | [d1, d2] => { results := [.lit (.bool false)], args := [d1, d2] }
  | _ => none }
def ConfigOwnsWrongFalsely : Prop := configOwnsRow.holds Try.pinned (OpenSpec.ofChange configOwnsWrong)

/-- 'confluencelaw18.ConfigApplies': WHATEVER THE INPUT: true; the input reads as it did. -/
def configAppliesSpec : ChangeSpec := { name := "configApplies", fn := fun _ => fun
  | [d1, d2] => { results := [.lit (.bool true)], args := [d1, d2] }
  | _ => none }
def configAppliesRow : OpenClaim := { program := "ytogjpknjolkjaaa", sum := "2b194134b0101ba086dda9a90ea0b21730767c7ba7bd03803cf1b6eaf80199be", func := "confluence/confluencelaw18.ConfigApplies", spec := "configApplies", unfollowed := true, recurses := true, apart := false }
def ConfigAppliesSaid : Prop := configAppliesRow.holds Try.pinned (OpenSpec.ofChange configAppliesSpec)

/-- ITS FALSE NEIGHBOUR: 'it returns false'. Refute it at one input. -/
def configAppliesWrong : ChangeSpec := { name := "configApplies", fn := fun _ => fun
  | [d1, d2] => { results := [.lit (.bool false)], args := [d1, d2] }
  | _ => none }
def ConfigAppliesWrongFalsely : Prop := configAppliesRow.holds Try.pinned (OpenSpec.ofChange configAppliesWrong)

/-- 'confluencelaw10.StoreTwice': WHATEVER THE INPUT: true; the input reads as it did. -/
def storeTwiceSpec : ChangeSpec := { name := "storeTwice", fn := fun _ => fun
  | [d1, d2] => { results := [.lit (.bool true)], args := [d1, d2] }
  | _ => none }
def storeTwiceRow : OpenClaim := { program := "ytogjpknjolkjaaa", sum := "2b194134b0101ba086dda9a90ea0b21730767c7ba7bd03803cf1b6eaf80199be", func := "confluence/confluencelaw10.StoreTwice", spec := "storeTwice", unfollowed := true, recurses := true, apart := false }
def StoreTwiceSaid : Prop := storeTwiceRow.holds Try.pinned (OpenSpec.ofChange storeTwiceSpec)

/-- ITS FALSE NEIGHBOUR: 'it returns false'. Refute it at one input. -/
def storeTwiceWrong : ChangeSpec := { name := "storeTwice", fn := fun _ => fun
  | [d1, d2] => { results := [.lit (.bool false)], args := [d1, d2] }
  | _ => none }
def StoreTwiceWrongFalsely : Prop := storeTwiceRow.holds Try.pinned (OpenSpec.ofChange storeTwiceWrong)

/-- 'confluencelaw10.StorePlays': WHATEVER THE INPUT: true; the input reads as it did. -/
def storePlaysSpec : ChangeSpec := { name := "storePlays", fn := fun _ => fun
  | [d] => { results := [.lit (.bool true)], args := [d] }
  | _ => none }
def storePlaysRow : OpenClaim := { program := "ytogjpknjolkjaaa", sum := "2b194134b0101ba086dda9a90ea0b21730767c7ba7bd03803cf1b6eaf80199be", func := "confluence/confluencelaw10.StorePlays", spec := "storePlays", unfollowed := true, recurses := true, apart := false }
def StorePlaysSaid : Prop := storePlaysRow.holds Try.pinned (OpenSpec.ofChange storePlaysSpec)

/-- ITS FALSE NEIGHBOUR: 'it returns false'. Refute it at one input. -/
def storePlaysWrong : ChangeSpec := { name := "storePlays", fn := fun _ => fun
  | [d] => { results := [.lit (.bool false)], args := [d] }
  | _ => none }
def StorePlaysWrongFalsely : Prop := storePlaysRow.holds Try.pinned (OpenSpec.ofChange storePlaysWrong)

/-- 'confluencelaw20.NodeMoves': WHATEVER THE INPUT: true; the input reads as it did. -/
def nodeMovesSpec : ChangeSpec := { name := "nodeMoves", fn := fun _ => fun
  | [d1, d2, d3, d4, d5, d6] => { results := [.lit (.bool true)], args := [d1, d2, d3, d4, d5, d6] }
  | _ => none }
def nodeMovesRow : OpenClaim := { program := "ytogjpknjolkjaaa", sum := "2b194134b0101ba086dda9a90ea0b21730767c7ba7bd03803cf1b6eaf80199be", func := "confluence/confluencelaw20.NodeMoves", spec := "nodeMoves", unfollowed := true, recurses := true, apart := false }
def NodeMovesSaid : Prop := nodeMovesRow.holds Try.pinned (OpenSpec.ofChange nodeMovesSpec)

/-- ITS FALSE NEIGHBOUR: 'it returns false'. Refute it at one input. -/
def nodeMovesWrong : ChangeSpec := { name := "nodeMoves", fn := fun _ => fun
  | [d1, d2, d3, d4, d5, d6] => { results := [.lit (.bool false)], args := [d1, d2, d3, d4, d5, d6] }
  | _ => none }
def NodeMovesWrongFalsely : Prop := nodeMovesRow.holds Try.pinned (OpenSpec.ofChange nodeMovesWrong)

/-- 'confluencelaw20.NodeOwns': WHATEVER THE INPUT: true; the input reads as it did. -/
def nodeOwnsSpec : ChangeSpec := { name := "nodeOwns", fn := fun _ => fun
  | [d] => { results := [.lit (.bool true)], args := [d] }
  | _ => none }
def nodeOwnsRow : OpenClaim := { program := "ytogjpknjolkjaaa", sum := "2b194134b0101ba086dda9a90ea0b21730767c7ba7bd03803cf1b6eaf80199be", func := "confluence/confluencelaw20.NodeOwns", spec := "nodeOwns", unfollowed := true, recurses := true, apart := false }
def NodeOwnsSaid : Prop := nodeOwnsRow.holds Try.pinned (OpenSpec.ofChange nodeOwnsSpec)

/-- ITS FALSE NEIGHBOUR: 'it returns false'. Refute it at one input. -/
def nodeOwnsWrong : ChangeSpec := { name := "nodeOwns", fn := fun _ => fun
  | [d] => { results := [.lit (.bool false)], args := [d] }
  | _ => none }
def NodeOwnsWrongFalsely : Prop := nodeOwnsRow.holds Try.pinned (OpenSpec.ofChange nodeOwnsWrong)

/-- 'confluencelaw20.NodeTwice': WHATEVER THE INPUT: true; the input reads as it did. -/
def nodeTwiceSpec : ChangeSpec := { name := "nodeTwice", fn := fun _ => fun
  | [d1, d2, d3, d4] => { results := [.lit (.bool true)], args := [d1, d2, d3, d4] }
  | _ => none }
def nodeTwiceRow : OpenClaim := { program := "ytogjpknjolkjaaa", sum := "2b194134b0101ba086dda9a90ea0b21730767c7ba7bd03803cf1b6eaf80199be", func := "confluence/confluencelaw20.NodeTwice", spec := "nodeTwice", unfollowed := true, recurses := true, apart := false }
def NodeTwiceSaid : Prop := nodeTwiceRow.holds Try.pinned (OpenSpec.ofChange nodeTwiceSpec)

/-- ITS FALSE NEIGHBOUR: 'it returns false'. Refute it at one input. -/
def nodeTwiceWrong : ChangeSpec := { name := "nodeTwice", fn := fun _ => fun
  | [d1, d2, d3, d4] => { results := [.lit (.bool false)], args := [d1, d2, d3, d4] }
  | _ => none }
def NodeTwiceWrongFalsely : Prop := nodeTwiceRow.holds Try.pinned (OpenSpec.ofChange nodeTwiceWrong)

/- THE SECOND FORM. 'bulk': how many values and letters a reading holds, each counted each time it is reached (what is shared counts as often as it is met; a slice's spare places count too). A statement '..UptoSaid' is the law's where the arguments, and the package variables that the reading takes, are together of bulk at most 1048576: NARROWER than '..Said'. Prove '..Said' where nothing that the law and all that it calls make is longer than what came in: it says more and counts as full. Else prove '..UptoSaid'. A law counts once. -/
mutual
def uptoBulk {H : Type} : DataW H → Nat
  | .lit (.string bytes) => bytes.length + 1
  | .lit _ => 1
  | .nil => 1
  | .ptr d => uptoBulk d + 1
  | .slice elems spare => uptoBulkAll elems + uptoBulkAll spare + 1
  | .agg parts => uptoBulkAll parts + 1
  | .iface _ d => uptoBulk d + 1
  | .map entries => uptoBulkEntries entries + 1
  | .held _ => 1
def uptoBulkAll {H : Type} : List (DataW H) → Nat
  | [] => 0
  | d :: r => uptoBulk d + uptoBulkAll r
def uptoBulkEntries {H : Type} : List (Lit × DataW H) → Nat
  | [] => 0
  | x :: r => uptoBulkEntry x + uptoBulkEntries r
def uptoBulkEntry {H : Type} : Lit × DataW H → Nat
  | (.string bytes, d) => bytes.length + uptoBulk d + 1
  | (_, d) => uptoBulk d + 1
 end
def uptoSmall : (H : Type) → List (DataW H) → Bool := fun _ ds => decide (uptoBulkAll ds ≤ 1048576)
def OpenSpec.upto (s : _root_.Go.ChangeSpec) : _root_.Go.OpenSpec := { _root_.Go.OpenSpec.ofChange s with cond := some uptoSmall }

/-- 'confluencelaw08.SpanChecks', WHERE WHAT IT READS IS OF BULK AT MOST 1048576: true; the input reads as it did. -/
def spanChecksUptoRow : OpenClaim := { program := "ytogjpknjolkjaaa", sum := "2b194134b0101ba086dda9a90ea0b21730767c7ba7bd03803cf1b6eaf80199be", func := "confluence/confluencelaw08.SpanChecks", spec := "spanChecks", unfollowed := true, recurses := true, apart := false, narrowed := true }
def SpanChecksUptoSaid : Prop := spanChecksUptoRow.holds Try.pinned (OpenSpec.upto spanChecksSpec)

/-- 'confluencelaw08.SpanFinds', WHERE WHAT IT READS IS OF BULK AT MOST 1048576: true; the input reads as it did. -/
def spanFindsUptoRow : OpenClaim := { program := "ytogjpknjolkjaaa", sum := "2b194134b0101ba086dda9a90ea0b21730767c7ba7bd03803cf1b6eaf80199be", func := "confluence/confluencelaw08.SpanFinds", spec := "spanFinds", unfollowed := true, recurses := true, apart := false, narrowed := true }
def SpanFindsUptoSaid : Prop := spanFindsUptoRow.holds Try.pinned (OpenSpec.upto spanFindsSpec)

/-- 'confluencelaw08.SpanChanges', WHERE WHAT IT READS IS OF BULK AT MOST 1048576: true; the input reads as it did. -/
def spanChangesUptoRow : OpenClaim := { program := "ytogjpknjolkjaaa", sum := "2b194134b0101ba086dda9a90ea0b21730767c7ba7bd03803cf1b6eaf80199be", func := "confluence/confluencelaw08.SpanChanges", spec := "spanChanges", unfollowed := true, recurses := true, apart := false, narrowed := true }
def SpanChangesUptoSaid : Prop := spanChangesUptoRow.holds Try.pinned (OpenSpec.upto spanChangesSpec)

/-- 'confluencelaw08.SpanOwns', WHERE WHAT IT READS IS OF BULK AT MOST 1048576: true; the input reads as it did. -/
def spanOwnsUptoRow : OpenClaim := { program := "ytogjpknjolkjaaa", sum := "2b194134b0101ba086dda9a90ea0b21730767c7ba7bd03803cf1b6eaf80199be", func := "confluence/confluencelaw08.SpanOwns", spec := "spanOwns", unfollowed := true, recurses := true, apart := false, narrowed := true }
def SpanOwnsUptoSaid : Prop := spanOwnsUptoRow.holds Try.pinned (OpenSpec.upto spanOwnsSpec)

/-- 'confluencelaw18.ConfigOwns', WHERE WHAT IT READS IS OF BULK AT MOST 1048576: true; the input reads as it did. -/
def configOwnsUptoRow : OpenClaim := { program := "ytogjpknjolkjaaa", sum := "2b194134b0101ba086dda9a90ea0b21730767c7ba7bd03803cf1b6eaf80199be", func := "confluence/confluencelaw18.ConfigOwns", spec := "configOwns", unfollowed := true, recurses := true, apart := false, narrowed := true }
def ConfigOwnsUptoSaid : Prop := configOwnsUptoRow.holds Try.pinned (OpenSpec.upto configOwnsSpec)

/-- 'confluencelaw18.ConfigApplies', WHERE WHAT IT READS IS OF BULK AT MOST 1048576: true; the input reads as it did. -/
def configAppliesUptoRow : OpenClaim := { program := "ytogjpknjolkjaaa", sum := "2b194134b0101ba086dda9a90ea0b21730767c7ba7bd03803cf1b6eaf80199be", func := "confluence/confluencelaw18.ConfigApplies", spec := "configApplies", unfollowed := true, recurses := true, apart := false, narrowed := true }
def ConfigAppliesUptoSaid : Prop := configAppliesUptoRow.holds Try.pinned (OpenSpec.upto configAppliesSpec)

/-- 'confluencelaw10.StoreTwice', WHERE WHAT IT READS IS OF BULK AT MOST 1048576: true; the input reads as it did. -/
def storeTwiceUptoRow : OpenClaim := { program := "ytogjpknjolkjaaa", sum := "2b194134b0101ba086dda9a90ea0b21730767c7ba7bd03803cf1b6eaf80199be", func := "confluence/confluencelaw10.StoreTwice", spec := "storeTwice", unfollowed := true, recurses := true, apart := false, narrowed := true }
def StoreTwiceUptoSaid : Prop := storeTwiceUptoRow.holds Try.pinned (OpenSpec.upto storeTwiceSpec)

/-- 'confluencelaw10.StorePlays', WHERE WHAT IT READS IS OF BULK AT MOST 1048576: true; the input reads as it did. -/
def storePlaysUptoRow : OpenClaim := { program := "ytogjpknjolkjaaa", sum := "2b194134b0101ba086dda9a90ea0b21730767c7ba7bd03803cf1b6eaf80199be", func := "confluence/confluencelaw10.StorePlays", spec := "storePlays", unfollowed := true, recurses := true, apart := false, narrowed := true }
def StorePlaysUptoSaid : Prop := storePlaysUptoRow.holds Try.pinned (OpenSpec.upto storePlaysSpec)

/-- 'confluencelaw20.NodeMoves', WHERE WHAT IT READS IS OF BULK AT MOST 1048576: true; the input reads as it did. -/
def nodeMovesUptoRow : OpenClaim := { program := "ytogjpknjolkjaaa", sum := "2b194134b0101ba086dda9a90ea0b21730767c7ba7bd03803cf1b6eaf80199be", func := "confluence/confluencelaw20.NodeMoves", spec := "nodeMoves", unfollowed := true, recurses := true, apart := false, narrowed := true }
def NodeMovesUptoSaid : Prop := nodeMovesUptoRow.holds Try.pinned (OpenSpec.upto nodeMovesSpec)

/-- 'confluencelaw20.NodeOwns', WHERE WHAT IT READS IS OF BULK AT MOST 1048576: true; the input reads as it did. -/
def nodeOwnsUptoRow : OpenClaim := { program := "ytogjpknjolkjaaa", sum := "2b194134b0101ba086dda9a90ea0b21730767c7ba7bd03803cf1b6eaf80199be", func := "confluence/confluencelaw20.NodeOwns", spec := "nodeOwns", unfollowed := true, recurses := true, apart := false, narrowed := true }
def NodeOwnsUptoSaid : Prop := nodeOwnsUptoRow.holds Try.pinned (OpenSpec.upto nodeOwnsSpec)

/-- 'confluencelaw20.NodeTwice', WHERE WHAT IT READS IS OF BULK AT MOST 1048576: true; the input reads as it did. -/
def nodeTwiceUptoRow : OpenClaim := { program := "ytogjpknjolkjaaa", sum := "2b194134b0101ba086dda9a90ea0b21730767c7ba7bd03803cf1b6eaf80199be", func := "confluence/confluencelaw20.NodeTwice", spec := "nodeTwice", unfollowed := true, recurses := true, apart := false, narrowed := true }
def NodeTwiceUptoSaid : Prop := nodeTwiceUptoRow.holds Try.pinned (OpenSpec.upto nodeTwiceSpec)

end Rows
end Go.Proofs.Ytogjpknjolkjaaa
