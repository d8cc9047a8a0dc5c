/- Closed facts of the rows of this seat, one by one. -/
import Derived.Test.YtgpgcfgejggolaaGreatDoorRows
import Derived.WalkKit
import Derived.ProofKit
namespace Go.Cf
open Go Go.Proofs Go.Proofs.YtgpgcfgejggolaaGreatDoor
theorem rec5:Tryz.pinned.checked.prog.recurses 5=Rows.scriptNoneRow.recurses:=(by kernel_rfl:Tryz.prog.recurses 5=Rows.scriptNoneRow.recurses)
end Go.Cf
