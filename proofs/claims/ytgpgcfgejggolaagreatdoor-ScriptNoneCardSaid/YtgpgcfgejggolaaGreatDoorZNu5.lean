/- Closed facts of the rows of this seat, one by one. -/
import Derived.Test.YtgpgcfgejggolaaGreatDoorRows
import Derived.WalkKit
import Derived.ProofKit
namespace Go.Cf
open Go Go.Proofs Go.Proofs.YtgpgcfgejggolaaGreatDoor
theorem unf5:Tryz.pinned.checked.prog.unfollowed 5=Rows.scriptNoneRow.unfollowed:=(by kernel_rfl:Tryz.prog.unfollowed 5=Rows.scriptNoneRow.unfollowed)
end Go.Cf
