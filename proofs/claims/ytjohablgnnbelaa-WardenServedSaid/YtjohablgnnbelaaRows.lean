/-
  No cell of these rows narrows 'for every input' (looked for: loops, veiled, ifaces, maps, wideKeys, modest, calm, conditions, laid).
  DERIVED. THE GIVEN ROWS OF THIS SEAT. 20 by the template 'for every input the law returns true; each argument reads behind the call as it read before'; 0 by the template 'total and deterministic' (their statements: YtjohablgnnbelaaTotals.lean).
  GIVEN WITH THE SEED: the statements are not yours to turn. If you find one false, say at which input.
  Laid BY PROGRAM, IN A SANDBOX (cutbox-rows.mjs): the forced cells as the released guide's own fill.sh prints them over the translation 865616465f9b006d… (all of the seat's roots in one cut). By AI agents, Wed Nov 11 2026. No macro, syntax, notation, axiom, sorry.
-/
import Derived.Test.YtjohablgnnbelaaChecked
import GoSem.Claim
import GoSem.ClaimJoined
import GoSem.ClaimMapViews
import Derived.JoinedTies
import Derived.KernelRfl
namespace Go.Proofs.Ytjohablgnnbelaa
/- THE CELL 'sum', in the pinned program and in every row, IS THE sha256 OF THE DUMP (.gsa) THAT YtjohablgnnbelaaProg.lean LOADS. Nothing in Lean hashes anything: it is a label: what it is worth is what the hold of that sum in a sandbox is worth. -/
noncomputable def Try.pinned : Pinned := { name := "ytjohablgnnbelaa", sum := "865616465f9b006da54b0e04482d5bfacfc387818905e3a4fc7f5dec8742b2db", checked := Try.checked }
namespace Rows
def none {H : Type} : Left H := { results := [], args := [] }

/-- 'confluencelaw18.ConfigStarts': WHATEVER THE INPUT: true; the input reads as it did. -/
def configStartsSpec : ChangeSpec := { name := "configStarts", fn := fun _ => fun
  | [d1, d2, d3] => { results := [.lit (.bool true)], args := [d1, d2, d3] }
  | _ => none }
def configStartsRow : OpenClaim := { program := "ytjohablgnnbelaa", sum := "865616465f9b006da54b0e04482d5bfacfc387818905e3a4fc7f5dec8742b2db", func := "confluence/confluencelaw18.ConfigStarts", spec := "configStarts", apart := false }
def ConfigStartsSaid : Prop := configStartsRow.holds Try.pinned (OpenSpec.ofChange configStartsSpec)

/-- ITS FALSE NEIGHBOUR: 'it returns false'. Refute it at one input. -/
def configStartsWrong : ChangeSpec := { name := "configStarts", fn := fun _ => fun
  | [d1, d2, d3] => { results := [.lit (.bool false)], args := [d1, d2, d3] }
  | _ => none }
def ConfigStartsWrongFalsely : Prop := configStartsRow.holds Try.pinned (OpenSpec.ofChange configStartsWrong)

/-- 'confluencelaw08.SpanChecks': WHATEVER THE INPUT: true; the input reads as it did. -/
def spanChecksSpec : ChangeSpec := { name := "spanChecks", fn := fun _ => fun
  | [d1, d2] => { results := [.lit (.bool true)], args := [d1, d2] }
  | _ => none }
def spanChecksRow : OpenClaim := { program := "ytjohablgnnbelaa", sum := "865616465f9b006da54b0e04482d5bfacfc387818905e3a4fc7f5dec8742b2db", func := "confluence/confluencelaw08.SpanChecks", spec := "spanChecks", unfollowed := true, recurses := true, apart := false }
def SpanChecksSaid : Prop := spanChecksRow.holds Try.pinned (OpenSpec.ofChange spanChecksSpec)

/-- ITS FALSE NEIGHBOUR: 'it returns false'. Refute it at one input. -/
def spanChecksWrong : ChangeSpec := { name := "spanChecks", fn := fun _ => fun
  | [d1, d2] => { results := [.lit (.bool false)], args := [d1, d2] }
  | _ => none }
def SpanChecksWrongFalsely : Prop := spanChecksRow.holds Try.pinned (OpenSpec.ofChange spanChecksWrong)

/-- 'confluencelaw08.SpanFinds': WHATEVER THE INPUT: true; the input reads as it did. -/
def spanFindsSpec : ChangeSpec := { name := "spanFinds", fn := fun _ => fun
  | [d1, d2, d3, d4, d5] => { results := [.lit (.bool true)], args := [d1, d2, d3, d4, d5] }
  | _ => none }
def spanFindsRow : OpenClaim := { program := "ytjohablgnnbelaa", sum := "865616465f9b006da54b0e04482d5bfacfc387818905e3a4fc7f5dec8742b2db", func := "confluence/confluencelaw08.SpanFinds", spec := "spanFinds", unfollowed := true, recurses := true, apart := false }
def SpanFindsSaid : Prop := spanFindsRow.holds Try.pinned (OpenSpec.ofChange spanFindsSpec)

/-- ITS FALSE NEIGHBOUR: 'it returns false'. Refute it at one input. -/
def spanFindsWrong : ChangeSpec := { name := "spanFinds", fn := fun _ => fun
  | [d1, d2, d3, d4, d5] => { results := [.lit (.bool false)], args := [d1, d2, d3, d4, d5] }
  | _ => none }
def SpanFindsWrongFalsely : Prop := spanFindsRow.holds Try.pinned (OpenSpec.ofChange spanFindsWrong)

/-- 'confluencelaw08.SpanParts': WHATEVER THE INPUT: true; the input reads as it did. -/
def spanPartsSpec : ChangeSpec := { name := "spanParts", fn := fun _ => fun
  | [d1, d2, d3] => { results := [.lit (.bool true)], args := [d1, d2, d3] }
  | _ => none }
def spanPartsRow : OpenClaim := { program := "ytjohablgnnbelaa", sum := "865616465f9b006da54b0e04482d5bfacfc387818905e3a4fc7f5dec8742b2db", func := "confluence/confluencelaw08.SpanParts", spec := "spanParts", unfollowed := true, recurses := true, apart := false }
def SpanPartsSaid : Prop := spanPartsRow.holds Try.pinned (OpenSpec.ofChange spanPartsSpec)

/-- ITS FALSE NEIGHBOUR: 'it returns false'. Refute it at one input. -/
def spanPartsWrong : ChangeSpec := { name := "spanParts", fn := fun _ => fun
  | [d1, d2, d3] => { results := [.lit (.bool false)], args := [d1, d2, d3] }
  | _ => none }
def SpanPartsWrongFalsely : Prop := spanPartsRow.holds Try.pinned (OpenSpec.ofChange spanPartsWrong)

/-- 'confluencelaw08.SpanTurns': WHATEVER THE INPUT: true; the input reads as it did. -/
def spanTurnsSpec : ChangeSpec := { name := "spanTurns", fn := fun _ => fun
  | [d1, d2, d3, d4, d5] => { results := [.lit (.bool true)], args := [d1, d2, d3, d4, d5] }
  | _ => none }
def spanTurnsRow : OpenClaim := { program := "ytjohablgnnbelaa", sum := "865616465f9b006da54b0e04482d5bfacfc387818905e3a4fc7f5dec8742b2db", func := "confluence/confluencelaw08.SpanTurns", spec := "spanTurns", unfollowed := true, recurses := true, apart := false }
def SpanTurnsSaid : Prop := spanTurnsRow.holds Try.pinned (OpenSpec.ofChange spanTurnsSpec)

/-- ITS FALSE NEIGHBOUR: 'it returns false'. Refute it at one input. -/
def spanTurnsWrong : ChangeSpec := { name := "spanTurns", fn := fun _ => fun
  | [d1, d2, d3, d4, d5] => { results := [.lit (.bool false)], args := [d1, d2, d3, d4, d5] }
  | _ => none }
def SpanTurnsWrongFalsely : Prop := spanTurnsRow.holds Try.pinned (OpenSpec.ofChange spanTurnsWrong)

/-- 'confluencelaw08.SpanMoves': WHATEVER THE INPUT: true; the input reads as it did. -/
def spanMovesSpec : ChangeSpec := { name := "spanMoves", fn := fun _ => fun
  | [d1, d2, d3, d4, d5] => { results := [.lit (.bool true)], args := [d1, d2, d3, d4, d5] }
  | _ => none }
def spanMovesRow : OpenClaim := { program := "ytjohablgnnbelaa", sum := "865616465f9b006da54b0e04482d5bfacfc387818905e3a4fc7f5dec8742b2db", func := "confluence/confluencelaw08.SpanMoves", spec := "spanMoves", unfollowed := true, recurses := true, apart := false }
def SpanMovesSaid : Prop := spanMovesRow.holds Try.pinned (OpenSpec.ofChange spanMovesSpec)

/-- ITS FALSE NEIGHBOUR: 'it returns false'. Refute it at one input. -/
def spanMovesWrong : ChangeSpec := { name := "spanMoves", fn := fun _ => fun
  | [d1, d2, d3, d4, d5] => { results := [.lit (.bool false)], args := [d1, d2, d3, d4, d5] }
  | _ => none }
def SpanMovesWrongFalsely : Prop := spanMovesRow.holds Try.pinned (OpenSpec.ofChange spanMovesWrong)

/-- 'confluencelaw08.SpanChanges': WHATEVER THE INPUT: true; the input reads as it did. -/
def spanChangesSpec : ChangeSpec := { name := "spanChanges", fn := fun _ => fun
  | [d1, d2, d3, d4, d5] => { results := [.lit (.bool true)], args := [d1, d2, d3, d4, d5] }
  | _ => none }
def spanChangesRow : OpenClaim := { program := "ytjohablgnnbelaa", sum := "865616465f9b006da54b0e04482d5bfacfc387818905e3a4fc7f5dec8742b2db", func := "confluence/confluencelaw08.SpanChanges", spec := "spanChanges", unfollowed := true, recurses := true, apart := false }
def SpanChangesSaid : Prop := spanChangesRow.holds Try.pinned (OpenSpec.ofChange spanChangesSpec)

/-- ITS FALSE NEIGHBOUR: 'it returns false'. Refute it at one input. -/
def spanChangesWrong : ChangeSpec := { name := "spanChanges", fn := fun _ => fun
  | [d1, d2, d3, d4, d5] => { results := [.lit (.bool false)], args := [d1, d2, d3, d4, d5] }
  | _ => none }
def SpanChangesWrongFalsely : Prop := spanChangesRow.holds Try.pinned (OpenSpec.ofChange spanChangesWrong)

/-- 'confluencelaw08.SpanOwns': WHATEVER THE INPUT: true; the input reads as it did. -/
def spanOwnsSpec : ChangeSpec := { name := "spanOwns", fn := fun _ => fun
  | [d1, d2, d3, d4, d5] => { results := [.lit (.bool true)], args := [d1, d2, d3, d4, d5] }
  | _ => none }
def spanOwnsRow : OpenClaim := { program := "ytjohablgnnbelaa", sum := "865616465f9b006da54b0e04482d5bfacfc387818905e3a4fc7f5dec8742b2db", func := "confluence/confluencelaw08.SpanOwns", spec := "spanOwns", unfollowed := true, recurses := true, apart := false }
def SpanOwnsSaid : Prop := spanOwnsRow.holds Try.pinned (OpenSpec.ofChange spanOwnsSpec)

/-- ITS FALSE NEIGHBOUR: 'it returns false'. Refute it at one input. -/
def spanOwnsWrong : ChangeSpec := { name := "spanOwns", fn := fun _ => fun
  | [d1, d2, d3, d4, d5] => { results := [.lit (.bool false)], args := [d1, d2, d3, d4, d5] }
  | _ => none }
def SpanOwnsWrongFalsely : Prop := spanOwnsRow.holds Try.pinned (OpenSpec.ofChange spanOwnsWrong)

/-- 'confluencelaw08.SpanRuns': WHATEVER THE INPUT: true; the input reads as it did. -/
def spanRunsSpec : ChangeSpec := { name := "spanRuns", fn := fun _ => fun
  | [d1, d2, d3] => { results := [.lit (.bool true)], args := [d1, d2, d3] }
  | _ => none }
def spanRunsRow : OpenClaim := { program := "ytjohablgnnbelaa", sum := "865616465f9b006da54b0e04482d5bfacfc387818905e3a4fc7f5dec8742b2db", func := "confluence/confluencelaw08.SpanRuns", spec := "spanRuns", unfollowed := true, recurses := true, apart := false }
def SpanRunsSaid : Prop := spanRunsRow.holds Try.pinned (OpenSpec.ofChange spanRunsSpec)

/-- ITS FALSE NEIGHBOUR: 'it returns false'. Refute it at one input. -/
def spanRunsWrong : ChangeSpec := { name := "spanRuns", fn := fun _ => fun
  | [d1, d2, d3] => { results := [.lit (.bool false)], args := [d1, d2, d3] }
  | _ => none }
def SpanRunsWrongFalsely : Prop := spanRunsRow.holds Try.pinned (OpenSpec.ofChange spanRunsWrong)

/-- 'confluencelaw18.ConfigOne': WHATEVER THE INPUT: true; the input reads as it did. -/
def configOneSpec : ChangeSpec := { name := "configOne", fn := fun _ => fun
  | [d1, d2] => { results := [.lit (.bool true)], args := [d1, d2] }
  | _ => none }
def configOneRow : OpenClaim := { program := "ytjohablgnnbelaa", sum := "865616465f9b006da54b0e04482d5bfacfc387818905e3a4fc7f5dec8742b2db", func := "confluence/confluencelaw18.ConfigOne", spec := "configOne", unfollowed := true, recurses := true, apart := false }
def ConfigOneSaid : Prop := configOneRow.holds Try.pinned (OpenSpec.ofChange configOneSpec)

/-- ITS FALSE NEIGHBOUR: 'it returns false'. Refute it at one input. -/
def configOneWrong : ChangeSpec := { name := "configOne", fn := fun _ => fun
  | [d1, d2] => { results := [.lit (.bool false)], args := [d1, d2] }
  | _ => none }
def ConfigOneWrongFalsely : Prop := configOneRow.holds Try.pinned (OpenSpec.ofChange configOneWrong)

/-- 'confluencelaw18.ConfigBack': WHATEVER THE INPUT: true; the input reads as it did. -/
def configBackSpec : ChangeSpec := { name := "configBack", fn := fun _ => fun
  | [d1, d2, d3, d4] => { results := [.lit (.bool true)], args := [d1, d2, d3, d4] }
  | _ => none }
def configBackRow : OpenClaim := { program := "ytjohablgnnbelaa", sum := "865616465f9b006da54b0e04482d5bfacfc387818905e3a4fc7f5dec8742b2db", func := "confluence/confluencelaw18.ConfigBack", spec := "configBack", unfollowed := true, recurses := true, apart := false }
def ConfigBackSaid : Prop := configBackRow.holds Try.pinned (OpenSpec.ofChange configBackSpec)

/-- ITS FALSE NEIGHBOUR: 'it returns false'. Refute it at one input. -/
def configBackWrong : ChangeSpec := { name := "configBack", fn := fun _ => fun
  | [d1, d2, d3, d4] => { results := [.lit (.bool false)], args := [d1, d2, d3, d4] }
  | _ => none }
def ConfigBackWrongFalsely : Prop := configBackRow.holds Try.pinned (OpenSpec.ofChange configBackWrong)

/-- 'confluencelaw18.ConfigOwns': WHATEVER THE INPUT: true; the input reads as it did. -/
def configOwnsSpec : ChangeSpec := { name := "configOwns", fn := fun _ => fun
  | [d1, d2] => { results := [.lit (.bool true)], args := [d1, d2] }
  | _ => none }
def configOwnsRow : OpenClaim := { program := "ytjohablgnnbelaa", sum := "865616465f9b006da54b0e04482d5bfacfc387818905e3a4fc7f5dec8742b2db", func := "confluence/confluencelaw18.ConfigOwns", spec := "configOwns", unfollowed := true, recurses := true, apart := false }
def ConfigOwnsSaid : Prop := configOwnsRow.holds Try.pinned (OpenSpec.ofChange configOwnsSpec)

/-- ITS FALSE NEIGHBOUR: 'it returns false'. Refute it at one input. -/
def configOwnsWrong : ChangeSpec := { name := "configOwns", fn := fun _ => fun
  | [d1, d2] => { results := [.lit (.bool false)], args := [d1, d2] }
  | _ => none }
def ConfigOwnsWrongFalsely : Prop := configOwnsRow.holds Try.pinned (OpenSpec.ofChange configOwnsWrong)

/-- 'confluencelaw18.ConfigRuns': WHATEVER THE INPUT: true; the input reads as it did. -/
def configRunsSpec : ChangeSpec := { name := "configRuns", fn := fun _ => fun
  | [d1, d2, d3, d4] => { results := [.lit (.bool true)], args := [d1, d2, d3, d4] }
  | _ => none }
def configRunsRow : OpenClaim := { program := "ytjohablgnnbelaa", sum := "865616465f9b006da54b0e04482d5bfacfc387818905e3a4fc7f5dec8742b2db", func := "confluence/confluencelaw18.ConfigRuns", spec := "configRuns", unfollowed := true, recurses := true, apart := false }
def ConfigRunsSaid : Prop := configRunsRow.holds Try.pinned (OpenSpec.ofChange configRunsSpec)

/-- ITS FALSE NEIGHBOUR: 'it returns false'. Refute it at one input. -/
def configRunsWrong : ChangeSpec := { name := "configRuns", fn := fun _ => fun
  | [d1, d2, d3, d4] => { results := [.lit (.bool false)], args := [d1, d2, d3, d4] }
  | _ => none }
def ConfigRunsWrongFalsely : Prop := configRunsRow.holds Try.pinned (OpenSpec.ofChange configRunsWrong)

/-- 'confluencelaw18.ConfigApplies': WHATEVER THE INPUT: true; the input reads as it did. -/
def configAppliesSpec : ChangeSpec := { name := "configApplies", fn := fun _ => fun
  | [d1, d2] => { results := [.lit (.bool true)], args := [d1, d2] }
  | _ => none }
def configAppliesRow : OpenClaim := { program := "ytjohablgnnbelaa", sum := "865616465f9b006da54b0e04482d5bfacfc387818905e3a4fc7f5dec8742b2db", func := "confluence/confluencelaw18.ConfigApplies", spec := "configApplies", unfollowed := true, recurses := true, apart := false }
def ConfigAppliesSaid : Prop := configAppliesRow.holds Try.pinned (OpenSpec.ofChange configAppliesSpec)

/-- ITS FALSE NEIGHBOUR: 'it returns false'. Refute it at one input. -/
def configAppliesWrong : ChangeSpec := { name := "configApplies", fn := fun _ => fun
  | [d1, d2] => { results := [.lit (.bool false)], args := [d1, d2] }
  | _ => none }
def ConfigAppliesWrongFalsely : Prop := configAppliesRow.holds Try.pinned (OpenSpec.ofChange configAppliesWrong)

/-- 'confluencelaw19.WardenWaits': WHATEVER THE INPUT: true; the input reads as it did. -/
def wardenWaitsSpec : ChangeSpec := { name := "wardenWaits", fn := fun _ => fun
  | [d1, d2, d3, d4, d5, d6] => { results := [.lit (.bool true)], args := [d1, d2, d3, d4, d5, d6] }
  | _ => none }
def wardenWaitsRow : OpenClaim := { program := "ytjohablgnnbelaa", sum := "865616465f9b006da54b0e04482d5bfacfc387818905e3a4fc7f5dec8742b2db", func := "confluence/confluencelaw19.WardenWaits", spec := "wardenWaits", unfollowed := true, recurses := true, apart := false }
def WardenWaitsSaid : Prop := wardenWaitsRow.holds Try.pinned (OpenSpec.ofChange wardenWaitsSpec)

/-- ITS FALSE NEIGHBOUR: 'it returns false'. Refute it at one input. -/
def wardenWaitsWrong : ChangeSpec := { name := "wardenWaits", fn := fun _ => fun
  | [d1, d2, d3, d4, d5, d6] => { results := [.lit (.bool false)], args := [d1, d2, d3, d4, d5, d6] }
  | _ => none }
def WardenWaitsWrongFalsely : Prop := wardenWaitsRow.holds Try.pinned (OpenSpec.ofChange wardenWaitsWrong)

/-- 'confluencelaw19.WardenRuns': WHATEVER THE INPUT: true; the input reads as it did. -/
def wardenRunsSpec : ChangeSpec := { name := "wardenRuns", fn := fun _ => fun
  | [d1, d2, d3, d4] => { results := [.lit (.bool true)], args := [d1, d2, d3, d4] }
  | _ => none }
def wardenRunsRow : OpenClaim := { program := "ytjohablgnnbelaa", sum := "865616465f9b006da54b0e04482d5bfacfc387818905e3a4fc7f5dec8742b2db", func := "confluence/confluencelaw19.WardenRuns", spec := "wardenRuns", unfollowed := true, recurses := true, apart := false }
def WardenRunsSaid : Prop := wardenRunsRow.holds Try.pinned (OpenSpec.ofChange wardenRunsSpec)

/-- ITS FALSE NEIGHBOUR: 'it returns false'. Refute it at one input. -/
def wardenRunsWrong : ChangeSpec := { name := "wardenRuns", fn := fun _ => fun
  | [d1, d2, d3, d4] => { results := [.lit (.bool false)], args := [d1, d2, d3, d4] }
  | _ => none }
def WardenRunsWrongFalsely : Prop := wardenRunsRow.holds Try.pinned (OpenSpec.ofChange wardenRunsWrong)

/-- 'confluencelaw19.WardenModes': WHATEVER THE INPUT: true; the input reads as it did. -/
def wardenModesSpec : ChangeSpec := { name := "wardenModes", fn := fun _ => fun
  | [d1, d2, d3, d4, d5, d6] => { results := [.lit (.bool true)], args := [d1, d2, d3, d4, d5, d6] }
  | _ => none }
def wardenModesRow : OpenClaim := { program := "ytjohablgnnbelaa", sum := "865616465f9b006da54b0e04482d5bfacfc387818905e3a4fc7f5dec8742b2db", func := "confluence/confluencelaw19.WardenModes", spec := "wardenModes", unfollowed := true, recurses := true, apart := false }
def WardenModesSaid : Prop := wardenModesRow.holds Try.pinned (OpenSpec.ofChange wardenModesSpec)

/-- ITS FALSE NEIGHBOUR: 'it returns false'. Refute it at one input. -/
def wardenModesWrong : ChangeSpec := { name := "wardenModes", fn := fun _ => fun
  | [d1, d2, d3, d4, d5, d6] => { results := [.lit (.bool false)], args := [d1, d2, d3, d4, d5, d6] }
  | _ => none }
def WardenModesWrongFalsely : Prop := wardenModesRow.holds Try.pinned (OpenSpec.ofChange wardenModesWrong)

/-- 'confluencelaw19.WardenServed': WHATEVER THE INPUT: true; the input reads as it did. -/
def wardenServedSpec : ChangeSpec := { name := "wardenServed", fn := fun _ => fun
  | [d1, d2, d3, d4, d5, d6] => { results := [.lit (.bool true)], args := [d1, d2, d3, d4, d5, d6] }
  | _ => none }
def wardenServedRow : OpenClaim := { program := "ytjohablgnnbelaa", sum := "865616465f9b006da54b0e04482d5bfacfc387818905e3a4fc7f5dec8742b2db", func := "confluence/confluencelaw19.WardenServed", spec := "wardenServed", unfollowed := true, recurses := true, apart := false }
def WardenServedSaid : Prop := wardenServedRow.holds Try.pinned (OpenSpec.ofChange wardenServedSpec)

/-- ITS FALSE NEIGHBOUR: 'it returns false'. Refute it at one input. -/
def wardenServedWrong : ChangeSpec := { name := "wardenServed", fn := fun _ => fun
  | [d1, d2, d3, d4, d5, d6] => { results := [.lit (.bool false)], args := [d1, d2, d3, d4, d5, d6] }
  | _ => none }
def WardenServedWrongFalsely : Prop := wardenServedRow.holds Try.pinned (OpenSpec.ofChange wardenServedWrong)

/-- 'confluencelaw19.WardenPlays': WHATEVER THE INPUT: true; the input reads as it did. -/
def wardenPlaysSpec : ChangeSpec := { name := "wardenPlays", fn := fun _ => fun
  | [d1, d2, d3, d4] => { results := [.lit (.bool true)], args := [d1, d2, d3, d4] }
  | _ => none }
def wardenPlaysRow : OpenClaim := { program := "ytjohablgnnbelaa", sum := "865616465f9b006da54b0e04482d5bfacfc387818905e3a4fc7f5dec8742b2db", func := "confluence/confluencelaw19.WardenPlays", spec := "wardenPlays", unfollowed := true, recurses := true, apart := false }
def WardenPlaysSaid : Prop := wardenPlaysRow.holds Try.pinned (OpenSpec.ofChange wardenPlaysSpec)

/-- ITS FALSE NEIGHBOUR: 'it returns false'. Refute it at one input. -/
def wardenPlaysWrong : ChangeSpec := { name := "wardenPlays", fn := fun _ => fun
  | [d1, d2, d3, d4] => { results := [.lit (.bool false)], args := [d1, d2, d3, d4] }
  | _ => none }
def WardenPlaysWrongFalsely : Prop := wardenPlaysRow.holds Try.pinned (OpenSpec.ofChange wardenPlaysWrong)

/-- 'confluencelaw19.WardenNone': WHATEVER THE INPUT: true; the input reads as it did. -/
def wardenNoneSpec : ChangeSpec := { name := "wardenNone", fn := fun _ => fun
  | [d] => { results := [.lit (.bool true)], args := [d] }
  | _ => none }
def wardenNoneRow : OpenClaim := { program := "ytjohablgnnbelaa", sum := "865616465f9b006da54b0e04482d5bfacfc387818905e3a4fc7f5dec8742b2db", func := "confluence/confluencelaw19.WardenNone", spec := "wardenNone", unfollowed := true, recurses := true, apart := false }
def WardenNoneSaid : Prop := wardenNoneRow.holds Try.pinned (OpenSpec.ofChange wardenNoneSpec)

/-- ITS FALSE NEIGHBOUR: 'it returns false'. Refute it at one input. -/
def wardenNoneWrong : ChangeSpec := { name := "wardenNone", fn := fun _ => fun
  | [d] => { results := [.lit (.bool false)], args := [d] }
  | _ => none }
def WardenNoneWrongFalsely : Prop := wardenNoneRow.holds Try.pinned (OpenSpec.ofChange wardenNoneWrong)

/- THE SECOND FORM. 'bulk': how many values and letters a reading holds, each counted each time it is reached (what is shared counts as often as it is met; a slice's spare places count too). A statement '..UptoSaid' is the law's where the arguments, and the package variables that the reading takes, are together of bulk at most 1048576: NARROWER than '..Said'. Prove '..Said' where nothing that the law and all that it calls make is longer than what came in: it says more and counts as full. Else prove '..UptoSaid'. A law counts once. -/
mutual
def uptoBulk {H : Type} : DataW H → Nat
  | .lit (.string bytes) => bytes.length + 1
  | .lit _ => 1
  | .nil => 1
  | .ptr d => uptoBulk d + 1
  | .slice elems spare => uptoBulkAll elems + uptoBulkAll spare + 1
  | .agg parts => uptoBulkAll parts + 1
  | .iface _ d => uptoBulk d + 1
  | .map entries => uptoBulkEntries entries + 1
  | .held _ => 1
def uptoBulkAll {H : Type} : List (DataW H) → Nat
  | [] => 0
  | d :: r => uptoBulk d + uptoBulkAll r
def uptoBulkEntries {H : Type} : List (Lit × DataW H) → Nat
  | [] => 0
  | x :: r => uptoBulkEntry x + uptoBulkEntries r
def uptoBulkEntry {H : Type} : Lit × DataW H → Nat
  | (.string bytes, d) => bytes.length + uptoBulk d + 1
  | (_, d) => uptoBulk d + 1
 end
def uptoSmall : (H : Type) → List (DataW H) → Bool := fun _ ds => decide (uptoBulkAll ds ≤ 1048576)
def OpenSpec.upto (s : _root_.Go.ChangeSpec) : _root_.Go.OpenSpec := { _root_.Go.OpenSpec.ofChange s with cond := some uptoSmall }

/-- 'confluencelaw18.ConfigStarts', WHERE WHAT IT READS IS OF BULK AT MOST 1048576: true; the input reads as it did. -/
def configStartsUptoRow : OpenClaim := { program := "ytjohablgnnbelaa", sum := "865616465f9b006da54b0e04482d5bfacfc387818905e3a4fc7f5dec8742b2db", func := "confluence/confluencelaw18.ConfigStarts", spec := "configStarts", apart := false, narrowed := true }
def ConfigStartsUptoSaid : Prop := configStartsUptoRow.holds Try.pinned (OpenSpec.upto configStartsSpec)

/-- 'confluencelaw08.SpanChecks', WHERE WHAT IT READS IS OF BULK AT MOST 1048576: true; the input reads as it did. -/
def spanChecksUptoRow : OpenClaim := { program := "ytjohablgnnbelaa", sum := "865616465f9b006da54b0e04482d5bfacfc387818905e3a4fc7f5dec8742b2db", func := "confluence/confluencelaw08.SpanChecks", spec := "spanChecks", unfollowed := true, recurses := true, apart := false, narrowed := true }
def SpanChecksUptoSaid : Prop := spanChecksUptoRow.holds Try.pinned (OpenSpec.upto spanChecksSpec)

/-- 'confluencelaw08.SpanFinds', WHERE WHAT IT READS IS OF BULK AT MOST 1048576: true; the input reads as it did. -/
def spanFindsUptoRow : OpenClaim := { program := "ytjohablgnnbelaa", sum := "865616465f9b006da54b0e04482d5bfacfc387818905e3a4fc7f5dec8742b2db", func := "confluence/confluencelaw08.SpanFinds", spec := "spanFinds", unfollowed := true, recurses := true, apart := false, narrowed := true }
def SpanFindsUptoSaid : Prop := spanFindsUptoRow.holds Try.pinned (OpenSpec.upto spanFindsSpec)

/-- 'confluencelaw08.SpanParts', WHERE WHAT IT READS IS OF BULK AT MOST 1048576: true; the input reads as it did. -/
def spanPartsUptoRow : OpenClaim := { program := "ytjohablgnnbelaa", sum := "865616465f9b006da54b0e04482d5bfacfc387818905e3a4fc7f5dec8742b2db", func := "confluence/confluencelaw08.SpanParts", spec := "spanParts", unfollowed := true, recurses := true, apart := false, narrowed := true }
def SpanPartsUptoSaid : Prop := spanPartsUptoRow.holds Try.pinned (OpenSpec.upto spanPartsSpec)

/-- 'confluencelaw08.SpanTurns', WHERE WHAT IT READS IS OF BULK AT MOST 1048576: true; the input reads as it did. -/
def spanTurnsUptoRow : OpenClaim := { program := "ytjohablgnnbelaa", sum := "865616465f9b006da54b0e04482d5bfacfc387818905e3a4fc7f5dec8742b2db", func := "confluence/confluencelaw08.SpanTurns", spec := "spanTurns", unfollowed := true, recurses := true, apart := false, narrowed := true }
def SpanTurnsUptoSaid : Prop := spanTurnsUptoRow.holds Try.pinned (OpenSpec.upto spanTurnsSpec)

/-- 'confluencelaw08.SpanMoves', WHERE WHAT IT READS IS OF BULK AT MOST 1048576: true; the input reads as it did. -/
def spanMovesUptoRow : OpenClaim := { program := "ytjohablgnnbelaa", sum := "865616465f9b006da54b0e04482d5bfacfc387818905e3a4fc7f5dec8742b2db", func := "confluence/confluencelaw08.SpanMoves", spec := "spanMoves", unfollowed := true, recurses := true, apart := false, narrowed := true }
def SpanMovesUptoSaid : Prop := spanMovesUptoRow.holds Try.pinned (OpenSpec.upto spanMovesSpec)

/-- 'confluencelaw08.SpanChanges', WHERE WHAT IT READS IS OF BULK AT MOST 1048576: true; the input reads as it did. -/
def spanChangesUptoRow : OpenClaim := { program := "ytjohablgnnbelaa", sum := "865616465f9b006da54b0e04482d5bfacfc387818905e3a4fc7f5dec8742b2db", func := "confluence/confluencelaw08.SpanChanges", spec := "spanChanges", unfollowed := true, recurses := true, apart := false, narrowed := true }
def SpanChangesUptoSaid : Prop := spanChangesUptoRow.holds Try.pinned (OpenSpec.upto spanChangesSpec)

/-- 'confluencelaw08.SpanOwns', WHERE WHAT IT READS IS OF BULK AT MOST 1048576: true; the input reads as it did. -/
def spanOwnsUptoRow : OpenClaim := { program := "ytjohablgnnbelaa", sum := "865616465f9b006da54b0e04482d5bfacfc387818905e3a4fc7f5dec8742b2db", func := "confluence/confluencelaw08.SpanOwns", spec := "spanOwns", unfollowed := true, recurses := true, apart := false, narrowed := true }
def SpanOwnsUptoSaid : Prop := spanOwnsUptoRow.holds Try.pinned (OpenSpec.upto spanOwnsSpec)

/-- 'confluencelaw08.SpanRuns', WHERE WHAT IT READS IS OF BULK AT MOST 1048576: true; the input reads as it did. -/
def spanRunsUptoRow : OpenClaim := { program := "ytjohablgnnbelaa", sum := "865616465f9b006da54b0e04482d5bfacfc387818905e3a4fc7f5dec8742b2db", func := "confluence/confluencelaw08.SpanRuns", spec := "spanRuns", unfollowed := true, recurses := true, apart := false, narrowed := true }
def SpanRunsUptoSaid : Prop := spanRunsUptoRow.holds Try.pinned (OpenSpec.upto spanRunsSpec)

/-- 'confluencelaw18.ConfigOne', WHERE WHAT IT READS IS OF BULK AT MOST 1048576: true; the input reads as it did. -/
def configOneUptoRow : OpenClaim := { program := "ytjohablgnnbelaa", sum := "865616465f9b006da54b0e04482d5bfacfc387818905e3a4fc7f5dec8742b2db", func := "confluence/confluencelaw18.ConfigOne", spec := "configOne", unfollowed := true, recurses := true, apart := false, narrowed := true }
def ConfigOneUptoSaid : Prop := configOneUptoRow.holds Try.pinned (OpenSpec.upto configOneSpec)

/-- 'confluencelaw18.ConfigBack', WHERE WHAT IT READS IS OF BULK AT MOST 1048576: true; the input reads as it did. -/
def configBackUptoRow : OpenClaim := { program := "ytjohablgnnbelaa", sum := "865616465f9b006da54b0e04482d5bfacfc387818905e3a4fc7f5dec8742b2db", func := "confluence/confluencelaw18.ConfigBack", spec := "configBack", unfollowed := true, recurses := true, apart := false, narrowed := true }
def ConfigBackUptoSaid : Prop := configBackUptoRow.holds Try.pinned (OpenSpec.upto configBackSpec)

/-- 'confluencelaw18.ConfigOwns', WHERE WHAT IT READS IS OF BULK AT MOST 1048576: true; the input reads as it did. -/
def configOwnsUptoRow : OpenClaim := { program := "ytjohablgnnbelaa", sum := "865616465f9b006da54b0e04482d5bfacfc387818905e3a4fc7f5dec8742b2db", func := "confluence/confluencelaw18.ConfigOwns", spec := "configOwns", unfollowed := true, recurses := true, apart := false, narrowed := true }
def ConfigOwnsUptoSaid : Prop := configOwnsUptoRow.holds Try.pinned (OpenSpec.upto configOwnsSpec)

/-- 'confluencelaw18.ConfigRuns', WHERE WHAT IT READS IS OF BULK AT MOST 1048576: true; the input reads as it did. -/
def configRunsUptoRow : OpenClaim := { program := "ytjohablgnnbelaa", sum := "865616465f9b006da54b0e04482d5bfacfc387818905e3a4fc7f5dec8742b2db", func := "confluence/confluencelaw18.ConfigRuns", spec := "configRuns", unfollowed := true, recurses := true, apart := false, narrowed := true }
def ConfigRunsUptoSaid : Prop := configRunsUptoRow.holds Try.pinned (OpenSpec.upto configRunsSpec)

/-- 'confluencelaw18.ConfigApplies', WHERE WHAT IT READS IS OF BULK AT MOST 1048576: true; the input reads as it did. -/
def configAppliesUptoRow : OpenClaim := { program := "ytjohablgnnbelaa", sum := "865616465f9b006da54b0e04482d5bfacfc387818905e3a4fc7f5dec8742b2db", func := "confluence/confluencelaw18.ConfigApplies", spec := "configApplies", unfollowed := true, recurses := true, apart := false, narrowed := true }
def ConfigAppliesUptoSaid : Prop := configAppliesUptoRow.holds Try.pinned (OpenSpec.upto configAppliesSpec)

/-- 'confluencelaw19.WardenWaits', WHERE WHAT IT READS IS OF BULK AT MOST 1048576: true; the input reads as it did. -/
def wardenWaitsUptoRow : OpenClaim := { program := "ytjohablgnnbelaa", sum := "865616465f9b006da54b0e04482d5bfacfc387818905e3a4fc7f5dec8742b2db", func := "confluence/confluencelaw19.WardenWaits", spec := "wardenWaits", unfollowed := true, recurses := true, apart := false, narrowed := true }
def WardenWaitsUptoSaid : Prop := wardenWaitsUptoRow.holds Try.pinned (OpenSpec.upto wardenWaitsSpec)

/-- 'confluencelaw19.WardenRuns', WHERE WHAT IT READS IS OF BULK AT MOST 1048576: true; the input reads as it did. -/
def wardenRunsUptoRow : OpenClaim := { program := "ytjohablgnnbelaa", sum := "865616465f9b006da54b0e04482d5bfacfc387818905e3a4fc7f5dec8742b2db", func := "confluence/confluencelaw19.WardenRuns", spec := "wardenRuns", unfollowed := true, recurses := true, apart := false, narrowed := true }
def WardenRunsUptoSaid : Prop := wardenRunsUptoRow.holds Try.pinned (OpenSpec.upto wardenRunsSpec)

/-- 'confluencelaw19.WardenModes', WHERE WHAT IT READS IS OF BULK AT MOST 1048576: true; the input reads as it did. -/
def wardenModesUptoRow : OpenClaim := { program := "ytjohablgnnbelaa", sum := "865616465f9b006da54b0e04482d5bfacfc387818905e3a4fc7f5dec8742b2db", func := "confluence/confluencelaw19.WardenModes", spec := "wardenModes", unfollowed := true, recurses := true, apart := false, narrowed := true }
def WardenModesUptoSaid : Prop := wardenModesUptoRow.holds Try.pinned (OpenSpec.upto wardenModesSpec)

/-- 'confluencelaw19.WardenServed', WHERE WHAT IT READS IS OF BULK AT MOST 1048576: true; the input reads as it did. -/
def wardenServedUptoRow : OpenClaim := { program := "ytjohablgnnbelaa", sum := "865616465f9b006da54b0e04482d5bfacfc387818905e3a4fc7f5dec8742b2db", func := "confluence/confluencelaw19.WardenServed", spec := "wardenServed", unfollowed := true, recurses := true, apart := false, narrowed := true }
def WardenServedUptoSaid : Prop := wardenServedUptoRow.holds Try.pinned (OpenSpec.upto wardenServedSpec)

/-- 'confluencelaw19.WardenPlays', WHERE WHAT IT READS IS OF BULK AT MOST 1048576: true; the input reads as it did. -/
def wardenPlaysUptoRow : OpenClaim := { program := "ytjohablgnnbelaa", sum := "865616465f9b006da54b0e04482d5bfacfc387818905e3a4fc7f5dec8742b2db", func := "confluence/confluencelaw19.WardenPlays", spec := "wardenPlays", unfollowed := true, recurses := true, apart := false, narrowed := true }
def WardenPlaysUptoSaid : Prop := wardenPlaysUptoRow.holds Try.pinned (OpenSpec.upto wardenPlaysSpec)

/-- 'confluencelaw19.WardenNone', WHERE WHAT IT READS IS OF BULK AT MOST 1048576: true; the input reads as it did. -/
def wardenNoneUptoRow : OpenClaim := { program := "ytjohablgnnbelaa", sum := "865616465f9b006da54b0e04482d5bfacfc387818905e3a4fc7f5dec8742b2db", func := "confluence/confluencelaw19.WardenNone", spec := "wardenNone", unfollowed := true, recurses := true, apart := false, narrowed := true }
def WardenNoneUptoSaid : Prop := wardenNoneUptoRow.holds Try.pinned (OpenSpec.upto wardenNoneSpec)

end Rows
end Go.Proofs.Ytjohablgnnbelaa
