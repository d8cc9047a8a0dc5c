/-
  No cell of these rows narrows 'for every input' (looked for: loops, veiled, ifaces, maps, wideKeys, modest, calm, conditions, laid).
  DERIVED. THE GIVEN ROWS OF THIS SEAT. 2 by the template 'for every input the law returns true; each argument reads behind the call as it read before'; 0 by the template 'total and deterministic' (their statements: YtkkbmgapcidmnaaGreatTotals.lean).
  GIVEN WITH THE SEED: the statements are not yours to turn. If you find one false, say at which input.
  Laid BY PROGRAM, IN A SANDBOX (cutbox-rows.mjs): the forced cells as the released guide's own fill.sh prints them over the translation c296609fa523bafa… (all of the seat's roots in one cut). By AI agents, Wed Nov 11 2026. No macro, syntax, notation, axiom, sorry.
-/
import Derived.Test.YtkkbmgapcidmnaaGreatChecked
import GoSem.Claim
import GoSem.ClaimJoined
import GoSem.ClaimMapViews
import Derived.JoinedTies
import Derived.KernelRfl
namespace Go.Proofs.YtkkbmgapcidmnaaGreat
/- THE CELL 'sum', in the pinned program and in every row, IS THE sha256 OF THE DUMP (.gsa) THAT YtkkbmgapcidmnaaGreatProg.lean LOADS. Nothing in Lean hashes anything: it is a label: what it is worth is what the hold of that sum in a sandbox is worth. -/
noncomputable def Tryz.pinned : Pinned := { name := "ytkkbmgapcidmnaagreat", sum := "c296609fa523bafa85ccab2bba52fe52cbb59e14cd81544b34c452c79e61d2d9", checked := Tryz.checked }
namespace Rows
def none {H : Type} : Left H := { results := [], args := [] }

/-- 'confluencelaw23.ClusterSetups': WHATEVER THE INPUT: true; the input reads as it did. -/
def clusterSetupsSpec : ChangeSpec := { name := "clusterSetups", fn := fun _ => fun
  | [d] => { results := [.lit (.bool true)], args := [d] }
  | _ => none }
def clusterSetupsRow : OpenClaim := { program := "ytkkbmgapcidmnaagreat", sum := "c296609fa523bafa85ccab2bba52fe52cbb59e14cd81544b34c452c79e61d2d9", func := "confluence/confluencelaw23.ClusterSetups", spec := "clusterSetups", unfollowed := true, recurses := true, apart := false }
def ClusterSetupsSaid : Prop := clusterSetupsRow.holds Tryz.pinned (OpenSpec.ofChange clusterSetupsSpec)

/-- ITS FALSE NEIGHBOUR: 'it returns false'. Refute it at one input. -/
def clusterSetupsWrong : ChangeSpec := { name := "clusterSetups", fn := fun _ => fun
  | [d] => { results := [.lit (.bool false)], args := [d] }
  | _ => none }
def ClusterSetupsWrongFalsely : Prop := clusterSetupsRow.holds Tryz.pinned (OpenSpec.ofChange clusterSetupsWrong)

/-- 'confluencelaw23.ClusterNone': WHATEVER THE INPUT: true; the input reads as it did. -/
def clusterNoneSpec : ChangeSpec := { name := "clusterNone", fn := fun _ => fun
  | [d] => { results := [.lit (.bool true)], args := [d] }
  | _ => none }
def clusterNoneRow : OpenClaim := { program := "ytkkbmgapcidmnaagreat", sum := "c296609fa523bafa85ccab2bba52fe52cbb59e14cd81544b34c452c79e61d2d9", func := "confluence/confluencelaw23.ClusterNone", spec := "clusterNone", unfollowed := true, recurses := true, apart := false }
def ClusterNoneSaid : Prop := clusterNoneRow.holds Tryz.pinned (OpenSpec.ofChange clusterNoneSpec)

/-- ITS FALSE NEIGHBOUR: 'it returns false'. Refute it at one input. -/
def clusterNoneWrong : ChangeSpec := { name := "clusterNone", fn := fun _ => fun
  | [d] => { results := [.lit (.bool false)], args := [d] }
  | _ => none }
def ClusterNoneWrongFalsely : Prop := clusterNoneRow.holds Tryz.pinned (OpenSpec.ofChange clusterNoneWrong)

/- THE SECOND FORM. 'bulk': how many values and letters a reading holds, each counted each time it is reached (what is shared counts as often as it is met; a slice's spare places count too). A statement '..UptoSaid' is the law's where the arguments, and the package variables that the reading takes, are together of bulk at most 1048576: NARROWER than '..Said'. Prove '..Said' where nothing that the law and all that it calls make is longer than what came in: it says more and counts as full. Else prove '..UptoSaid'. A law counts once. -/
mutual
def uptoBulk {H : Type} : DataW H → Nat
  | .lit (.string bytes) => bytes.length + 1
  | .lit _ => 1
  | .nil => 1
  | .ptr d => uptoBulk d + 1
  | .slice elems spare => uptoBulkAll elems + uptoBulkAll spare + 1
  | .agg parts => uptoBulkAll parts + 1
  | .iface _ d => uptoBulk d + 1
  | .map entries => uptoBulkEntries entries + 1
  | .held _ => 1
def uptoBulkAll {H : Type} : List (DataW H) → Nat
  | [] => 0
  | d :: r => uptoBulk d + uptoBulkAll r
def uptoBulkEntries {H : Type} : List (Lit × DataW H) → Nat
  | [] => 0
  | x :: r => uptoBulkEntry x + uptoBulkEntries r
def uptoBulkEntry {H : Type} : Lit × DataW H → Nat
  | (.string bytes, d) => bytes.length + uptoBulk d + 1
  | (_, d) => uptoBulk d + 1
 end
def uptoSmall : (H : Type) → List (DataW H) → Bool := fun _ ds => decide (uptoBulkAll ds ≤ 1048576)
def OpenSpec.upto (s : _root_.Go.ChangeSpec) : _root_.Go.OpenSpec := { _root_.Go.OpenSpec.ofChange s with cond := some uptoSmall }

/-- 'confluencelaw23.ClusterSetups', WHERE WHAT IT READS IS OF BULK AT MOST 1048576: true; the input reads as it did. -/
def clusterSetupsUptoRow : OpenClaim := { program := "ytkkbmgapcidmnaagreat", sum := "c296609fa523bafa85ccab2bba52fe52cbb59e14cd81544b34c452c79e61d2d9", func := "confluence/confluencelaw23.ClusterSetups", spec := "clusterSetups", unfollowed := true, recurses := true, apart := false, narrowed := true }
def ClusterSetupsUptoSaid : Prop := clusterSetupsUptoRow.holds Tryz.pinned (OpenSpec.upto clusterSetupsSpec)

/-- 'confluencelaw23.ClusterNone', WHERE WHAT IT READS IS OF BULK AT MOST 1048576: true; the input reads as it did. -/
def clusterNoneUptoRow : OpenClaim := { program := "ytkkbmgapcidmnaagreat", sum := "c296609fa523bafa85ccab2bba52fe52cbb59e14cd81544b34c452c79e61d2d9", func := "confluence/confluencelaw23.ClusterNone", spec := "clusterNone", unfollowed := true, recurses := true, apart := false, narrowed := true }
def ClusterNoneUptoSaid : Prop := clusterNoneUptoRow.holds Tryz.pinned (OpenSpec.upto clusterNoneSpec)

end Rows
end Go.Proofs.YtkkbmgapcidmnaaGreat
