/- Closed facts of the rows of this seat, one by one. -/
import Derived.Test.YtgpgcfgejggolaaGreatDoorRows
import Derived.WalkKit
import Derived.ProofKit
namespace Go.Cf
open Go Go.Proofs Go.Proofs.YtgpgcfgejggolaaGreatDoor
theorem place5:Tryz.pinned.checked.prog.inPlace 5=Rows.scriptNoneRow.inPlace:=(by kernel_rfl:Tryz.prog.inPlace 5=Rows.scriptNoneRow.inPlace)
end Go.Cf
