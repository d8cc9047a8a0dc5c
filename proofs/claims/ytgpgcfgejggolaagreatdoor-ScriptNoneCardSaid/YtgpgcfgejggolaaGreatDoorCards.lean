/-
  DERIVED. GIVEN WITH THE SEED: THE CARDS: each row of YtgpgcfgejggolaaGreatDoorRows.lean that lists a variable, with what it lists TIED to the program's text (the seventh form; the later family's looks); each row that meets fmt, with fmt's text TOLD by the authors' own Lean function (tested against real Go, not proved from fmt's source: count such statements apart). THE CARD IS WHAT COUNTS. Prove the row's statement (the work); the ties are given (YtgpgcfgejggolaaGreatDoorTie.lean); close each card by the builder's one call (the guide's Derived/Test/ToyasCard.lean, 'card_holds'). Laid BY PROGRAM, IN A SANDBOX (cutbox-door.mjs). By AI agents, Wed Nov 11 2026. No macro, syntax, notation, axiom, sorry.
-/
import Derived.Test.YtgpgcfgejggolaaGreatDoorRows
import GoSem.ClaimSeven
namespace Go.Proofs.YtgpgcfgejggolaaGreatDoor
namespace Rows

/-- THE TIED CARD OF 'confluencelaw24.ScriptWrong'. -/
def scriptWrongCard : Claim7 := { stood := { row := scriptWrongRow, standIns := [], harness := (true, "942c676ff0c5b64e7b3796660116271aca22d49dea6950aa12541b172bb058a8"), looks := true }, kinds := [], alts := [], laidByText := true, laidKinds := [.data, .data, .data, .data, .sentinel, .sentinel, .pinned], laidTests := true, laidLooks := .later }
def ScriptWrongCardSaid : Prop := Claim7.holds Tryz.pinned (.plain (OpenSpec.ofChange scriptWrongSpec)) scriptWrongCard

/-- THE TIED CARD OF 'confluencelaw24.ScriptLong'. -/
def scriptLongCard : Claim7 := { stood := { row := scriptLongRow, standIns := [], harness := (true, "942c676ff0c5b64e7b3796660116271aca22d49dea6950aa12541b172bb058a8"), looks := true }, kinds := [], alts := [], laidByText := true, laidKinds := [.data, .data, .data, .data, .sentinel, .sentinel, .pinned], laidTests := true, laidLooks := .later }
def ScriptLongCardSaid : Prop := Claim7.holds Tryz.pinned (.plain (OpenSpec.ofChange scriptLongSpec)) scriptLongCard

/-- THE TIED CARD OF 'confluencelaw24.ScriptNone'. -/
def scriptNoneCard : Claim7 := { stood := { row := scriptNoneRow, standIns := [], harness := (true, "942c676ff0c5b64e7b3796660116271aca22d49dea6950aa12541b172bb058a8"), looks := true }, kinds := [], alts := [], laidByText := true, laidKinds := [.data, .data, .data, .data, .sentinel, .sentinel, .pinned], laidTests := true, laidLooks := .later }
def ScriptNoneCardSaid : Prop := Claim7.holds Tryz.pinned (.plain (OpenSpec.ofChange scriptNoneSpec)) scriptNoneCard

/-- THE SECOND FORM's CARD OF 'confluencelaw24.ScriptWrong'. -/
def scriptWrongUptoCard : Claim7 := { stood := { row := scriptWrongUptoRow, standIns := [], harness := (true, "942c676ff0c5b64e7b3796660116271aca22d49dea6950aa12541b172bb058a8"), looks := true }, kinds := [], alts := [], laidByText := true, laidKinds := [.data, .data, .data, .data, .sentinel, .sentinel, .pinned], laidTests := true, laidLooks := .later }
def ScriptWrongUptoCardSaid : Prop := Claim7.holds Tryz.pinned (.plain (OpenSpec.upto scriptWrongSpec)) scriptWrongUptoCard

/-- THE SECOND FORM's CARD OF 'confluencelaw24.ScriptLong'. -/
def scriptLongUptoCard : Claim7 := { stood := { row := scriptLongUptoRow, standIns := [], harness := (true, "942c676ff0c5b64e7b3796660116271aca22d49dea6950aa12541b172bb058a8"), looks := true }, kinds := [], alts := [], laidByText := true, laidKinds := [.data, .data, .data, .data, .sentinel, .sentinel, .pinned], laidTests := true, laidLooks := .later }
def ScriptLongUptoCardSaid : Prop := Claim7.holds Tryz.pinned (.plain (OpenSpec.upto scriptLongSpec)) scriptLongUptoCard

/-- THE SECOND FORM's CARD OF 'confluencelaw24.ScriptNone'. -/
def scriptNoneUptoCard : Claim7 := { stood := { row := scriptNoneUptoRow, standIns := [], harness := (true, "942c676ff0c5b64e7b3796660116271aca22d49dea6950aa12541b172bb058a8"), looks := true }, kinds := [], alts := [], laidByText := true, laidKinds := [.data, .data, .data, .data, .sentinel, .sentinel, .pinned], laidTests := true, laidLooks := .later }
def ScriptNoneUptoCardSaid : Prop := Claim7.holds Tryz.pinned (.plain (OpenSpec.upto scriptNoneSpec)) scriptNoneUptoCard
end Rows
end Go.Proofs.YtgpgcfgejggolaaGreatDoor
