/- Closed facts of the rows of this seat, one by one. -/
import Derived.Test.YtgpgcfgejggolaaGreatDoorRows
import Derived.WalkKit
import Derived.ProofKit
namespace Go.Cf
open Go Go.Proofs Go.Proofs.YtgpgcfgejggolaaGreatDoor
theorem laid5:laidOutB Tryz.pinned.checked.prog=true:=(by kernel_rfl:laidOutB Tryz.prog=true)
theorem rowed5:mapsRowed Tryz.pinned.checked.prog=true:=(by kernel_rfl:mapsRowed Tryz.prog=true)
theorem keys5:Tryz.pinned.checked.prog.plainKeys=Rows.scriptNoneRow.plainKeys:=(by kernel_rfl:Tryz.prog.plainKeys=Rows.scriptNoneRow.plainKeys)
theorem heard5:Tryz.pinned.checked.prog.stopsHeard=true:=(by kernel_rfl:Tryz.prog.stopsHeard=true)
end Go.Cf
