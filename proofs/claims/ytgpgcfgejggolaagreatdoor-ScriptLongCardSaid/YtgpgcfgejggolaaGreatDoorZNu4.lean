/- Closed facts of the rows of this seat, one by one. -/
import Derived.Test.YtgpgcfgejggolaaGreatDoorRows
import Derived.WalkKit
import Derived.ProofKit
namespace Go.Cf
open Go Go.Proofs Go.Proofs.YtgpgcfgejggolaaGreatDoor
theorem unf4:Tryz.pinned.checked.prog.unfollowed 4=Rows.scriptLongRow.unfollowed:=(by kernel_rfl:Tryz.prog.unfollowed 4=Rows.scriptLongRow.unfollowed)
end Go.Cf
