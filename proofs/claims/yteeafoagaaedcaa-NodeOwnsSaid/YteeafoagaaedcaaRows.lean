/-
  No cell of these rows narrows 'for every input' (looked for: loops, veiled, ifaces, maps, wideKeys, modest, calm, conditions, laid).
  DERIVED. THE GIVEN ROWS OF THIS SEAT. 18 by the template 'for every input the law returns true; each argument reads behind the call as it read before'; 0 by the template 'total and deterministic' (their statements: YteeafoagaaedcaaTotals.lean).
  GIVEN WITH THE SEED: the statements are not yours to turn. If you find one false, say at which input.
  Laid BY PROGRAM, IN A SANDBOX (cutbox-rows.mjs): the forced cells as the released guide's own fill.sh prints them over the translation 81b304c403146288… (all of the seat's roots in one cut). By AI agents, Wed Nov 11 2026. No macro, syntax, notation, axiom, sorry.
-/
import Derived.Test.YteeafoagaaedcaaChecked
import GoSem.Claim
import GoSem.ClaimJoined
import GoSem.ClaimMapViews
import Derived.JoinedTies
import Derived.KernelRfl
namespace Go.Proofs.Yteeafoagaaedcaa
/- THE CELL 'sum', in the pinned program and in every row, IS THE sha256 OF THE DUMP (.gsa) THAT YteeafoagaaedcaaProg.lean LOADS. Nothing in Lean hashes anything: it is a label: what it is worth is what the hold of that sum in a sandbox is worth. -/
noncomputable def Try.pinned : Pinned := { name := "yteeafoagaaedcaa", sum := "81b304c403146288f2cf4b20ca89b24e6d7bfc2bd3dabce3087fde7e8726f2ae", checked := Try.checked }
namespace Rows
def none {H : Type} : Left H := { results := [], args := [] }

/-- 'confluencelaw15.SessionLast': WHATEVER THE INPUT: true; the input reads as it did. -/
def sessionLastSpec : ChangeSpec := { name := "sessionLast", fn := fun _ => fun
  | [d] => { results := [.lit (.bool true)], args := [d] }
  | _ => none }
def sessionLastRow : OpenClaim := { program := "yteeafoagaaedcaa", sum := "81b304c403146288f2cf4b20ca89b24e6d7bfc2bd3dabce3087fde7e8726f2ae", func := "confluence/confluencelaw15.SessionLast", spec := "sessionLast", unfollowed := true, recurses := true, apart := false }
def SessionLastSaid : Prop := sessionLastRow.holds Try.pinned (OpenSpec.ofChange sessionLastSpec)

/-- ITS FALSE NEIGHBOUR: 'it returns false'. Refute it at one input. -/
def sessionLastWrong : ChangeSpec := { name := "sessionLast", fn := fun _ => fun
  | [d] => { results := [.lit (.bool false)], args := [d] }
  | _ => none }
def SessionLastWrongFalsely : Prop := sessionLastRow.holds Try.pinned (OpenSpec.ofChange sessionLastWrong)

/-- 'confluencelaw15.SessionRises': WHATEVER THE INPUT: true; the input reads as it did. -/
def sessionRisesSpec : ChangeSpec := { name := "sessionRises", fn := fun _ => fun
  | [d] => { results := [.lit (.bool true)], args := [d] }
  | _ => none }
def sessionRisesRow : OpenClaim := { program := "yteeafoagaaedcaa", sum := "81b304c403146288f2cf4b20ca89b24e6d7bfc2bd3dabce3087fde7e8726f2ae", func := "confluence/confluencelaw15.SessionRises", spec := "sessionRises", unfollowed := true, recurses := true, apart := false }
def SessionRisesSaid : Prop := sessionRisesRow.holds Try.pinned (OpenSpec.ofChange sessionRisesSpec)

/-- ITS FALSE NEIGHBOUR: 'it returns false'. Refute it at one input. -/
def sessionRisesWrong : ChangeSpec := { name := "sessionRises", fn := fun _ => fun
  | [d] => { results := [.lit (.bool false)], args := [d] }
  | _ => none }
def SessionRisesWrongFalsely : Prop := sessionRisesRow.holds Try.pinned (OpenSpec.ofChange sessionRisesWrong)

/-- 'confluencelaw15.SessionPlays': WHATEVER THE INPUT: true; the input reads as it did. -/
def sessionPlaysSpec : ChangeSpec := { name := "sessionPlays", fn := fun _ => fun
  | [d] => { results := [.lit (.bool true)], args := [d] }
  | _ => none }
def sessionPlaysRow : OpenClaim := { program := "yteeafoagaaedcaa", sum := "81b304c403146288f2cf4b20ca89b24e6d7bfc2bd3dabce3087fde7e8726f2ae", func := "confluence/confluencelaw15.SessionPlays", spec := "sessionPlays", unfollowed := true, recurses := true, apart := false }
def SessionPlaysSaid : Prop := sessionPlaysRow.holds Try.pinned (OpenSpec.ofChange sessionPlaysSpec)

/-- ITS FALSE NEIGHBOUR: 'it returns false'. Refute it at one input. -/
def sessionPlaysWrong : ChangeSpec := { name := "sessionPlays", fn := fun _ => fun
  | [d] => { results := [.lit (.bool false)], args := [d] }
  | _ => none }
def SessionPlaysWrongFalsely : Prop := sessionPlaysRow.holds Try.pinned (OpenSpec.ofChange sessionPlaysWrong)

/-- 'confluencelaw15.SessionOwn': WHATEVER THE INPUT: true; the input reads as it did. -/
def sessionOwnSpec : ChangeSpec := { name := "sessionOwn", fn := fun _ => fun
  | [d1, d2] => { results := [.lit (.bool true)], args := [d1, d2] }
  | _ => none }
def sessionOwnRow : OpenClaim := { program := "yteeafoagaaedcaa", sum := "81b304c403146288f2cf4b20ca89b24e6d7bfc2bd3dabce3087fde7e8726f2ae", func := "confluence/confluencelaw15.SessionOwn", spec := "sessionOwn", unfollowed := true, recurses := true, apart := false }
def SessionOwnSaid : Prop := sessionOwnRow.holds Try.pinned (OpenSpec.ofChange sessionOwnSpec)

/-- ITS FALSE NEIGHBOUR: 'it returns false'. Refute it at one input. -/
def sessionOwnWrong : ChangeSpec := { name := "sessionOwn", fn := fun _ => fun
  | [d1, d2] => { results := [.lit (.bool false)], args := [d1, d2] }
  | _ => none }
def SessionOwnWrongFalsely : Prop := sessionOwnRow.holds Try.pinned (OpenSpec.ofChange sessionOwnWrong)

/-- 'confluencelaw15.SessionNone': WHATEVER THE INPUT: true; the input reads as it did. -/
def sessionNoneSpec : ChangeSpec := { name := "sessionNone", fn := fun _ => fun
  | [d] => { results := [.lit (.bool true)], args := [d] }
  | _ => none }
def sessionNoneRow : OpenClaim := { program := "yteeafoagaaedcaa", sum := "81b304c403146288f2cf4b20ca89b24e6d7bfc2bd3dabce3087fde7e8726f2ae", func := "confluence/confluencelaw15.SessionNone", spec := "sessionNone", unfollowed := true, recurses := true, apart := false }
def SessionNoneSaid : Prop := sessionNoneRow.holds Try.pinned (OpenSpec.ofChange sessionNoneSpec)

/-- ITS FALSE NEIGHBOUR: 'it returns false'. Refute it at one input. -/
def sessionNoneWrong : ChangeSpec := { name := "sessionNone", fn := fun _ => fun
  | [d] => { results := [.lit (.bool false)], args := [d] }
  | _ => none }
def SessionNoneWrongFalsely : Prop := sessionNoneRow.holds Try.pinned (OpenSpec.ofChange sessionNoneWrong)

/-- 'confluencelaw10.StoreSpans': WHATEVER THE INPUT: true; the input reads as it did. -/
def storeSpansSpec : ChangeSpec := { name := "storeSpans", fn := fun _ => fun
  | [d1, d2, d3, d4] => { results := [.lit (.bool true)], args := [d1, d2, d3, d4] }
  | _ => none }
def storeSpansRow : OpenClaim := { program := "yteeafoagaaedcaa", sum := "81b304c403146288f2cf4b20ca89b24e6d7bfc2bd3dabce3087fde7e8726f2ae", func := "confluence/confluencelaw10.StoreSpans", spec := "storeSpans", unfollowed := true, recurses := true, apart := false }
def StoreSpansSaid : Prop := storeSpansRow.holds Try.pinned (OpenSpec.ofChange storeSpansSpec)

/-- ITS FALSE NEIGHBOUR: 'it returns false'. Refute it at one input. -/
def storeSpansWrong : ChangeSpec := { name := "storeSpans", fn := fun _ => fun
  | [d1, d2, d3, d4] => { results := [.lit (.bool false)], args := [d1, d2, d3, d4] }
  | _ => none }
def StoreSpansWrongFalsely : Prop := storeSpansRow.holds Try.pinned (OpenSpec.ofChange storeSpansWrong)

/-- 'confluencelaw10.StoreOrder': WHATEVER THE INPUT: true; the input reads as it did. -/
def storeOrderSpec : ChangeSpec := { name := "storeOrder", fn := fun _ => fun
  | [d1, d2, d3, d4, d5] => { results := [.lit (.bool true)], args := [d1, d2, d3, d4, d5] }
  | _ => none }
def storeOrderRow : OpenClaim := { program := "yteeafoagaaedcaa", sum := "81b304c403146288f2cf4b20ca89b24e6d7bfc2bd3dabce3087fde7e8726f2ae", func := "confluence/confluencelaw10.StoreOrder", spec := "storeOrder", unfollowed := true, recurses := true, apart := false }
def StoreOrderSaid : Prop := storeOrderRow.holds Try.pinned (OpenSpec.ofChange storeOrderSpec)

/-- ITS FALSE NEIGHBOUR: 'it returns false'. Refute it at one input. -/
def storeOrderWrong : ChangeSpec := { name := "storeOrder", fn := fun _ => fun
  | [d1, d2, d3, d4, d5] => { results := [.lit (.bool false)], args := [d1, d2, d3, d4, d5] }
  | _ => none }
def StoreOrderWrongFalsely : Prop := storeOrderRow.holds Try.pinned (OpenSpec.ofChange storeOrderWrong)

/-- 'confluencelaw10.StoreTwice': WHATEVER THE INPUT: true; the input reads as it did. -/
def storeTwiceSpec : ChangeSpec := { name := "storeTwice", fn := fun _ => fun
  | [d1, d2] => { results := [.lit (.bool true)], args := [d1, d2] }
  | _ => none }
def storeTwiceRow : OpenClaim := { program := "yteeafoagaaedcaa", sum := "81b304c403146288f2cf4b20ca89b24e6d7bfc2bd3dabce3087fde7e8726f2ae", func := "confluence/confluencelaw10.StoreTwice", spec := "storeTwice", unfollowed := true, recurses := true, apart := false }
def StoreTwiceSaid : Prop := storeTwiceRow.holds Try.pinned (OpenSpec.ofChange storeTwiceSpec)

/-- ITS FALSE NEIGHBOUR: 'it returns false'. Refute it at one input. -/
def storeTwiceWrong : ChangeSpec := { name := "storeTwice", fn := fun _ => fun
  | [d1, d2] => { results := [.lit (.bool false)], args := [d1, d2] }
  | _ => none }
def StoreTwiceWrongFalsely : Prop := storeTwiceRow.holds Try.pinned (OpenSpec.ofChange storeTwiceWrong)

/-- 'confluencelaw10.StoreMoves': WHATEVER THE INPUT: true; the input reads as it did. -/
def storeMovesSpec : ChangeSpec := { name := "storeMoves", fn := fun _ => fun
  | [d1, d2, d3, d4, d5, d6] => { results := [.lit (.bool true)], args := [d1, d2, d3, d4, d5, d6] }
  | _ => none }
def storeMovesRow : OpenClaim := { program := "yteeafoagaaedcaa", sum := "81b304c403146288f2cf4b20ca89b24e6d7bfc2bd3dabce3087fde7e8726f2ae", func := "confluence/confluencelaw10.StoreMoves", spec := "storeMoves", unfollowed := true, recurses := true, apart := false }
def StoreMovesSaid : Prop := storeMovesRow.holds Try.pinned (OpenSpec.ofChange storeMovesSpec)

/-- ITS FALSE NEIGHBOUR: 'it returns false'. Refute it at one input. -/
def storeMovesWrong : ChangeSpec := { name := "storeMoves", fn := fun _ => fun
  | [d1, d2, d3, d4, d5, d6] => { results := [.lit (.bool false)], args := [d1, d2, d3, d4, d5, d6] }
  | _ => none }
def StoreMovesWrongFalsely : Prop := storeMovesRow.holds Try.pinned (OpenSpec.ofChange storeMovesWrong)

/-- 'confluencelaw10.StorePlays': WHATEVER THE INPUT: true; the input reads as it did. -/
def storePlaysSpec : ChangeSpec := { name := "storePlays", fn := fun _ => fun
  | [d] => { results := [.lit (.bool true)], args := [d] }
  | _ => none }
def storePlaysRow : OpenClaim := { program := "yteeafoagaaedcaa", sum := "81b304c403146288f2cf4b20ca89b24e6d7bfc2bd3dabce3087fde7e8726f2ae", func := "confluence/confluencelaw10.StorePlays", spec := "storePlays", unfollowed := true, recurses := true, apart := false }
def StorePlaysSaid : Prop := storePlaysRow.holds Try.pinned (OpenSpec.ofChange storePlaysSpec)

/-- ITS FALSE NEIGHBOUR: 'it returns false'. Refute it at one input. -/
def storePlaysWrong : ChangeSpec := { name := "storePlays", fn := fun _ => fun
  | [d] => { results := [.lit (.bool false)], args := [d] }
  | _ => none }
def StorePlaysWrongFalsely : Prop := storePlaysRow.holds Try.pinned (OpenSpec.ofChange storePlaysWrong)

/-- 'confluencelaw10.StoreNone': WHATEVER THE INPUT: true; the input reads as it did. -/
def storeNoneSpec : ChangeSpec := { name := "storeNone", fn := fun _ => fun
  | [d1, d2, d3] => { results := [.lit (.bool true)], args := [d1, d2, d3] }
  | _ => none }
def storeNoneRow : OpenClaim := { program := "yteeafoagaaedcaa", sum := "81b304c403146288f2cf4b20ca89b24e6d7bfc2bd3dabce3087fde7e8726f2ae", func := "confluence/confluencelaw10.StoreNone", spec := "storeNone", unfollowed := true, recurses := true, apart := false }
def StoreNoneSaid : Prop := storeNoneRow.holds Try.pinned (OpenSpec.ofChange storeNoneSpec)

/-- ITS FALSE NEIGHBOUR: 'it returns false'. Refute it at one input. -/
def storeNoneWrong : ChangeSpec := { name := "storeNone", fn := fun _ => fun
  | [d1, d2, d3] => { results := [.lit (.bool false)], args := [d1, d2, d3] }
  | _ => none }
def StoreNoneWrongFalsely : Prop := storeNoneRow.holds Try.pinned (OpenSpec.ofChange storeNoneWrong)

/-- 'confluencelaw20.NodeMoves': WHATEVER THE INPUT: true; the input reads as it did. -/
def nodeMovesSpec : ChangeSpec := { name := "nodeMoves", fn := fun _ => fun
  | [d1, d2, d3, d4, d5, d6] => { results := [.lit (.bool true)], args := [d1, d2, d3, d4, d5, d6] }
  | _ => none }
def nodeMovesRow : OpenClaim := { program := "yteeafoagaaedcaa", sum := "81b304c403146288f2cf4b20ca89b24e6d7bfc2bd3dabce3087fde7e8726f2ae", func := "confluence/confluencelaw20.NodeMoves", spec := "nodeMoves", unfollowed := true, recurses := true, apart := false }
def NodeMovesSaid : Prop := nodeMovesRow.holds Try.pinned (OpenSpec.ofChange nodeMovesSpec)

/-- ITS FALSE NEIGHBOUR: 'it returns false'. Refute it at one input. -/
def nodeMovesWrong : ChangeSpec := { name := "nodeMoves", fn := fun _ => fun
  | [d1, d2, d3, d4, d5, d6] => { results := [.lit (.bool false)], args := [d1, d2, d3, d4, d5, d6] }
  | _ => none }
def NodeMovesWrongFalsely : Prop := nodeMovesRow.holds Try.pinned (OpenSpec.ofChange nodeMovesWrong)

/-- 'confluencelaw20.NodeWrites': WHATEVER THE INPUT: true; the input reads as it did. -/
def nodeWritesSpec : ChangeSpec := { name := "nodeWrites", fn := fun _ => fun
  | [d1, d2, d3, d4, d5] => { results := [.lit (.bool true)], args := [d1, d2, d3, d4, d5] }
  | _ => none }
def nodeWritesRow : OpenClaim := { program := "yteeafoagaaedcaa", sum := "81b304c403146288f2cf4b20ca89b24e6d7bfc2bd3dabce3087fde7e8726f2ae", func := "confluence/confluencelaw20.NodeWrites", spec := "nodeWrites", unfollowed := true, recurses := true, apart := false }
def NodeWritesSaid : Prop := nodeWritesRow.holds Try.pinned (OpenSpec.ofChange nodeWritesSpec)

/-- ITS FALSE NEIGHBOUR: 'it returns false'. Refute it at one input. -/
def nodeWritesWrong : ChangeSpec := { name := "nodeWrites", fn := fun _ => fun
  | [d1, d2, d3, d4, d5] => { results := [.lit (.bool false)], args := [d1, d2, d3, d4, d5] }
  | _ => none }
def NodeWritesWrongFalsely : Prop := nodeWritesRow.holds Try.pinned (OpenSpec.ofChange nodeWritesWrong)

/-- 'confluencelaw20.NodeOwns': WHATEVER THE INPUT: true; the input reads as it did. -/
def nodeOwnsSpec : ChangeSpec := { name := "nodeOwns", fn := fun _ => fun
  | [d] => { results := [.lit (.bool true)], args := [d] }
  | _ => none }
def nodeOwnsRow : OpenClaim := { program := "yteeafoagaaedcaa", sum := "81b304c403146288f2cf4b20ca89b24e6d7bfc2bd3dabce3087fde7e8726f2ae", func := "confluence/confluencelaw20.NodeOwns", spec := "nodeOwns", unfollowed := true, recurses := true, apart := false }
def NodeOwnsSaid : Prop := nodeOwnsRow.holds Try.pinned (OpenSpec.ofChange nodeOwnsSpec)

/-- ITS FALSE NEIGHBOUR: 'it returns false'. Refute it at one input. -/
def nodeOwnsWrong : ChangeSpec := { name := "nodeOwns", fn := fun _ => fun
  | [d] => { results := [.lit (.bool false)], args := [d] }
  | _ => none }
def NodeOwnsWrongFalsely : Prop := nodeOwnsRow.holds Try.pinned (OpenSpec.ofChange nodeOwnsWrong)

/-- 'confluencelaw20.NodeTwice': WHATEVER THE INPUT: true; the input reads as it did. -/
def nodeTwiceSpec : ChangeSpec := { name := "nodeTwice", fn := fun _ => fun
  | [d1, d2, d3, d4] => { results := [.lit (.bool true)], args := [d1, d2, d3, d4] }
  | _ => none }
def nodeTwiceRow : OpenClaim := { program := "yteeafoagaaedcaa", sum := "81b304c403146288f2cf4b20ca89b24e6d7bfc2bd3dabce3087fde7e8726f2ae", func := "confluence/confluencelaw20.NodeTwice", spec := "nodeTwice", unfollowed := true, recurses := true, apart := false }
def NodeTwiceSaid : Prop := nodeTwiceRow.holds Try.pinned (OpenSpec.ofChange nodeTwiceSpec)

/-- ITS FALSE NEIGHBOUR: 'it returns false'. Refute it at one input. -/
def nodeTwiceWrong : ChangeSpec := { name := "nodeTwice", fn := fun _ => fun
  | [d1, d2, d3, d4] => { results := [.lit (.bool false)], args := [d1, d2, d3, d4] }
  | _ => none }
def NodeTwiceWrongFalsely : Prop := nodeTwiceRow.holds Try.pinned (OpenSpec.ofChange nodeTwiceWrong)

/-- 'confluencelaw20.NodeStable': WHATEVER THE INPUT: true; the input reads as it did. -/
def nodeStableSpec : ChangeSpec := { name := "nodeStable", fn := fun _ => fun
  | [d1, d2] => { results := [.lit (.bool true)], args := [d1, d2] }
  | _ => none }
def nodeStableRow : OpenClaim := { program := "yteeafoagaaedcaa", sum := "81b304c403146288f2cf4b20ca89b24e6d7bfc2bd3dabce3087fde7e8726f2ae", func := "confluence/confluencelaw20.NodeStable", spec := "nodeStable", unfollowed := true, recurses := true, apart := false }
def NodeStableSaid : Prop := nodeStableRow.holds Try.pinned (OpenSpec.ofChange nodeStableSpec)

/-- ITS FALSE NEIGHBOUR: 'it returns false'. Refute it at one input. -/
def nodeStableWrong : ChangeSpec := { name := "nodeStable", fn := fun _ => fun
  | [d1, d2] => { results := [.lit (.bool false)], args := [d1, d2] }
  | _ => none }
def NodeStableWrongFalsely : Prop := nodeStableRow.holds Try.pinned (OpenSpec.ofChange nodeStableWrong)

/-- 'confluencelaw20.NodePlays': WHATEVER THE INPUT: true; the input reads as it did. -/
def nodePlaysSpec : ChangeSpec := { name := "nodePlays", fn := fun _ => fun
  | [d1, d2, d3, d4] => { results := [.lit (.bool true)], args := [d1, d2, d3, d4] }
  | _ => none }
def nodePlaysRow : OpenClaim := { program := "yteeafoagaaedcaa", sum := "81b304c403146288f2cf4b20ca89b24e6d7bfc2bd3dabce3087fde7e8726f2ae", func := "confluence/confluencelaw20.NodePlays", spec := "nodePlays", unfollowed := true, recurses := true, apart := false }
def NodePlaysSaid : Prop := nodePlaysRow.holds Try.pinned (OpenSpec.ofChange nodePlaysSpec)

/-- ITS FALSE NEIGHBOUR: 'it returns false'. Refute it at one input. -/
def nodePlaysWrong : ChangeSpec := { name := "nodePlays", fn := fun _ => fun
  | [d1, d2, d3, d4] => { results := [.lit (.bool false)], args := [d1, d2, d3, d4] }
  | _ => none }
def NodePlaysWrongFalsely : Prop := nodePlaysRow.holds Try.pinned (OpenSpec.ofChange nodePlaysWrong)

/-- 'confluencelaw20.NodeNone': WHATEVER THE INPUT: true; the input reads as it did. -/
def nodeNoneSpec : ChangeSpec := { name := "nodeNone", fn := fun _ => fun
  | [d1, d2] => { results := [.lit (.bool true)], args := [d1, d2] }
  | _ => none }
def nodeNoneRow : OpenClaim := { program := "yteeafoagaaedcaa", sum := "81b304c403146288f2cf4b20ca89b24e6d7bfc2bd3dabce3087fde7e8726f2ae", func := "confluence/confluencelaw20.NodeNone", spec := "nodeNone", unfollowed := true, recurses := true, apart := false }
def NodeNoneSaid : Prop := nodeNoneRow.holds Try.pinned (OpenSpec.ofChange nodeNoneSpec)

/-- ITS FALSE NEIGHBOUR: 'it returns false'. Refute it at one input. -/
def nodeNoneWrong : ChangeSpec := { name := "nodeNone", fn := fun _ => fun
  | [d1, d2] => { results := [.lit (.bool false)], args := [d1, d2] }
  | _ => none }
def NodeNoneWrongFalsely : Prop := nodeNoneRow.holds Try.pinned (OpenSpec.ofChange nodeNoneWrong)

/- THE SECOND FORM. 'bulk': how many values and letters a reading holds, each counted each time it is reached (what is shared counts as often as it is met; a slice's spare places count too). A statement '..UptoSaid' is the law's where the arguments, and the package variables that the reading takes, are together of bulk at most 1048576: NARROWER than '..Said'. Prove '..Said' where nothing that the law and all that it calls make is longer than what came in: it says more and counts as full. Else prove '..UptoSaid'. A law counts once. -/
mutual
def uptoBulk {H : Type} : DataW H → Nat
  | .lit (.string bytes) => bytes.length + 1
  | .lit _ => 1
  | .nil => 1
  | .ptr d => uptoBulk d + 1
  | .slice elems spare => uptoBulkAll elems + uptoBulkAll spare + 1
  | .agg parts => uptoBulkAll parts + 1
  | .iface _ d => uptoBulk d + 1
  | .map entries => uptoBulkEntries entries + 1
  | .held _ => 1
def uptoBulkAll {H : Type} : List (DataW H) → Nat
  | [] => 0
  | d :: r => uptoBulk d + uptoBulkAll r
def uptoBulkEntries {H : Type} : List (Lit × DataW H) → Nat
  | [] => 0
  | x :: r => uptoBulkEntry x + uptoBulkEntries r
def uptoBulkEntry {H : Type} : Lit × DataW H → Nat
  | (.string bytes, d) => bytes.length + uptoBulk d + 1
  | (_, d) => uptoBulk d + 1
 end
def uptoSmall : (H : Type) → List (DataW H) → Bool := fun _ ds => decide (uptoBulkAll ds ≤ 1048576)
def OpenSpec.upto (s : _root_.Go.ChangeSpec) : _root_.Go.OpenSpec := { _root_.Go.OpenSpec.ofChange s with cond := some uptoSmall }

/-- 'confluencelaw15.SessionLast', WHERE WHAT IT READS IS OF BULK AT MOST 1048576: true; the input reads as it did. -/
def sessionLastUptoRow : OpenClaim := { program := "yteeafoagaaedcaa", sum := "81b304c403146288f2cf4b20ca89b24e6d7bfc2bd3dabce3087fde7e8726f2ae", func := "confluence/confluencelaw15.SessionLast", spec := "sessionLast", unfollowed := true, recurses := true, apart := false, narrowed := true }
def SessionLastUptoSaid : Prop := sessionLastUptoRow.holds Try.pinned (OpenSpec.upto sessionLastSpec)

/-- 'confluencelaw15.SessionRises', WHERE WHAT IT READS IS OF BULK AT MOST 1048576: true; the input reads as it did. -/
def sessionRisesUptoRow : OpenClaim := { program := "yteeafoagaaedcaa", sum := "81b304c403146288f2cf4b20ca89b24e6d7bfc2bd3dabce3087fde7e8726f2ae", func := "confluence/confluencelaw15.SessionRises", spec := "sessionRises", unfollowed := true, recurses := true, apart := false, narrowed := true }
def SessionRisesUptoSaid : Prop := sessionRisesUptoRow.holds Try.pinned (OpenSpec.upto sessionRisesSpec)

/-- 'confluencelaw15.SessionPlays', WHERE WHAT IT READS IS OF BULK AT MOST 1048576: true; the input reads as it did. -/
def sessionPlaysUptoRow : OpenClaim := { program := "yteeafoagaaedcaa", sum := "81b304c403146288f2cf4b20ca89b24e6d7bfc2bd3dabce3087fde7e8726f2ae", func := "confluence/confluencelaw15.SessionPlays", spec := "sessionPlays", unfollowed := true, recurses := true, apart := false, narrowed := true }
def SessionPlaysUptoSaid : Prop := sessionPlaysUptoRow.holds Try.pinned (OpenSpec.upto sessionPlaysSpec)

/-- 'confluencelaw15.SessionOwn', WHERE WHAT IT READS IS OF BULK AT MOST 1048576: true; the input reads as it did. -/
def sessionOwnUptoRow : OpenClaim := { program := "yteeafoagaaedcaa", sum := "81b304c403146288f2cf4b20ca89b24e6d7bfc2bd3dabce3087fde7e8726f2ae", func := "confluence/confluencelaw15.SessionOwn", spec := "sessionOwn", unfollowed := true, recurses := true, apart := false, narrowed := true }
def SessionOwnUptoSaid : Prop := sessionOwnUptoRow.holds Try.pinned (OpenSpec.upto sessionOwnSpec)

/-- 'confluencelaw15.SessionNone', WHERE WHAT IT READS IS OF BULK AT MOST 1048576: true; the input reads as it did. -/
def sessionNoneUptoRow : OpenClaim := { program := "yteeafoagaaedcaa", sum := "81b304c403146288f2cf4b20ca89b24e6d7bfc2bd3dabce3087fde7e8726f2ae", func := "confluence/confluencelaw15.SessionNone", spec := "sessionNone", unfollowed := true, recurses := true, apart := false, narrowed := true }
def SessionNoneUptoSaid : Prop := sessionNoneUptoRow.holds Try.pinned (OpenSpec.upto sessionNoneSpec)

/-- 'confluencelaw10.StoreSpans', WHERE WHAT IT READS IS OF BULK AT MOST 1048576: true; the input reads as it did. -/
def storeSpansUptoRow : OpenClaim := { program := "yteeafoagaaedcaa", sum := "81b304c403146288f2cf4b20ca89b24e6d7bfc2bd3dabce3087fde7e8726f2ae", func := "confluence/confluencelaw10.StoreSpans", spec := "storeSpans", unfollowed := true, recurses := true, apart := false, narrowed := true }
def StoreSpansUptoSaid : Prop := storeSpansUptoRow.holds Try.pinned (OpenSpec.upto storeSpansSpec)

/-- 'confluencelaw10.StoreOrder', WHERE WHAT IT READS IS OF BULK AT MOST 1048576: true; the input reads as it did. -/
def storeOrderUptoRow : OpenClaim := { program := "yteeafoagaaedcaa", sum := "81b304c403146288f2cf4b20ca89b24e6d7bfc2bd3dabce3087fde7e8726f2ae", func := "confluence/confluencelaw10.StoreOrder", spec := "storeOrder", unfollowed := true, recurses := true, apart := false, narrowed := true }
def StoreOrderUptoSaid : Prop := storeOrderUptoRow.holds Try.pinned (OpenSpec.upto storeOrderSpec)

/-- 'confluencelaw10.StoreTwice', WHERE WHAT IT READS IS OF BULK AT MOST 1048576: true; the input reads as it did. -/
def storeTwiceUptoRow : OpenClaim := { program := "yteeafoagaaedcaa", sum := "81b304c403146288f2cf4b20ca89b24e6d7bfc2bd3dabce3087fde7e8726f2ae", func := "confluence/confluencelaw10.StoreTwice", spec := "storeTwice", unfollowed := true, recurses := true, apart := false, narrowed := true }
def StoreTwiceUptoSaid : Prop := storeTwiceUptoRow.holds Try.pinned (OpenSpec.upto storeTwiceSpec)

/-- 'confluencelaw10.StoreMoves', WHERE WHAT IT READS IS OF BULK AT MOST 1048576: true; the input reads as it did. -/
def storeMovesUptoRow : OpenClaim := { program := "yteeafoagaaedcaa", sum := "81b304c403146288f2cf4b20ca89b24e6d7bfc2bd3dabce3087fde7e8726f2ae", func := "confluence/confluencelaw10.StoreMoves", spec := "storeMoves", unfollowed := true, recurses := true, apart := false, narrowed := true }
def StoreMovesUptoSaid : Prop := storeMovesUptoRow.holds Try.pinned (OpenSpec.upto storeMovesSpec)

/-- 'confluencelaw10.StorePlays', WHERE WHAT IT READS IS OF BULK AT MOST 1048576: true; the input reads as it did. -/
def storePlaysUptoRow : OpenClaim := { program := "yteeafoagaaedcaa", sum := "81b304c403146288f2cf4b20ca89b24e6d7bfc2bd3dabce3087fde7e8726f2ae", func := "confluence/confluencelaw10.StorePlays", spec := "storePlays", unfollowed := true, recurses := true, apart := false, narrowed := true }
def StorePlaysUptoSaid : Prop := storePlaysUptoRow.holds Try.pinned (OpenSpec.upto storePlaysSpec)

/-- 'confluencelaw10.StoreNone', WHERE WHAT IT READS IS OF BULK AT MOST 1048576: true; the input reads as it did. -/
def storeNoneUptoRow : OpenClaim := { program := "yteeafoagaaedcaa", sum := "81b304c403146288f2cf4b20ca89b24e6d7bfc2bd3dabce3087fde7e8726f2ae", func := "confluence/confluencelaw10.StoreNone", spec := "storeNone", unfollowed := true, recurses := true, apart := false, narrowed := true }
def StoreNoneUptoSaid : Prop := storeNoneUptoRow.holds Try.pinned (OpenSpec.upto storeNoneSpec)

/-- 'confluencelaw20.NodeMoves', WHERE WHAT IT READS IS OF BULK AT MOST 1048576: true; the input reads as it did. -/
def nodeMovesUptoRow : OpenClaim := { program := "yteeafoagaaedcaa", sum := "81b304c403146288f2cf4b20ca89b24e6d7bfc2bd3dabce3087fde7e8726f2ae", func := "confluence/confluencelaw20.NodeMoves", spec := "nodeMoves", unfollowed := true, recurses := true, apart := false, narrowed := true }
def NodeMovesUptoSaid : Prop := nodeMovesUptoRow.holds Try.pinned (OpenSpec.upto nodeMovesSpec)

/-- 'confluencelaw20.NodeWrites', WHERE WHAT IT READS IS OF BULK AT MOST 1048576: true; the input reads as it did. -/
def nodeWritesUptoRow : OpenClaim := { program := "yteeafoagaaedcaa", sum := "81b304c403146288f2cf4b20ca89b24e6d7bfc2bd3dabce3087fde7e8726f2ae", func := "confluence/confluencelaw20.NodeWrites", spec := "nodeWrites", unfollowed := true, recurses := true, apart := false, narrowed := true }
def NodeWritesUptoSaid : Prop := nodeWritesUptoRow.holds Try.pinned (OpenSpec.upto nodeWritesSpec)

/-- 'confluencelaw20.NodeOwns', WHERE WHAT IT READS IS OF BULK AT MOST 1048576: true; the input reads as it did. -/
def nodeOwnsUptoRow : OpenClaim := { program := "yteeafoagaaedcaa", sum := "81b304c403146288f2cf4b20ca89b24e6d7bfc2bd3dabce3087fde7e8726f2ae", func := "confluence/confluencelaw20.NodeOwns", spec := "nodeOwns", unfollowed := true, recurses := true, apart := false, narrowed := true }
def NodeOwnsUptoSaid : Prop := nodeOwnsUptoRow.holds Try.pinned (OpenSpec.upto nodeOwnsSpec)

/-- 'confluencelaw20.NodeTwice', WHERE WHAT IT READS IS OF BULK AT MOST 1048576: true; the input reads as it did. -/
def nodeTwiceUptoRow : OpenClaim := { program := "yteeafoagaaedcaa", sum := "81b304c403146288f2cf4b20ca89b24e6d7bfc2bd3dabce3087fde7e8726f2ae", func := "confluence/confluencelaw20.NodeTwice", spec := "nodeTwice", unfollowed := true, recurses := true, apart := false, narrowed := true }
def NodeTwiceUptoSaid : Prop := nodeTwiceUptoRow.holds Try.pinned (OpenSpec.upto nodeTwiceSpec)

/-- 'confluencelaw20.NodeStable', WHERE WHAT IT READS IS OF BULK AT MOST 1048576: true; the input reads as it did. -/
def nodeStableUptoRow : OpenClaim := { program := "yteeafoagaaedcaa", sum := "81b304c403146288f2cf4b20ca89b24e6d7bfc2bd3dabce3087fde7e8726f2ae", func := "confluence/confluencelaw20.NodeStable", spec := "nodeStable", unfollowed := true, recurses := true, apart := false, narrowed := true }
def NodeStableUptoSaid : Prop := nodeStableUptoRow.holds Try.pinned (OpenSpec.upto nodeStableSpec)

/-- 'confluencelaw20.NodePlays', WHERE WHAT IT READS IS OF BULK AT MOST 1048576: true; the input reads as it did. -/
def nodePlaysUptoRow : OpenClaim := { program := "yteeafoagaaedcaa", sum := "81b304c403146288f2cf4b20ca89b24e6d7bfc2bd3dabce3087fde7e8726f2ae", func := "confluence/confluencelaw20.NodePlays", spec := "nodePlays", unfollowed := true, recurses := true, apart := false, narrowed := true }
def NodePlaysUptoSaid : Prop := nodePlaysUptoRow.holds Try.pinned (OpenSpec.upto nodePlaysSpec)

/-- 'confluencelaw20.NodeNone', WHERE WHAT IT READS IS OF BULK AT MOST 1048576: true; the input reads as it did. -/
def nodeNoneUptoRow : OpenClaim := { program := "yteeafoagaaedcaa", sum := "81b304c403146288f2cf4b20ca89b24e6d7bfc2bd3dabce3087fde7e8726f2ae", func := "confluence/confluencelaw20.NodeNone", spec := "nodeNone", unfollowed := true, recurses := true, apart := false, narrowed := true }
def NodeNoneUptoSaid : Prop := nodeNoneUptoRow.holds Try.pinned (OpenSpec.upto nodeNoneSpec)

end Rows
end Go.Proofs.Yteeafoagaaedcaa
