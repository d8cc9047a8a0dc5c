/- Closed facts of the rows of this seat, one by one. -/
import Derived.Test.YtgpgcfgejggolaaGreatDoorRows
import Derived.WalkKit
import Derived.ProofKit
import Derived.OpenShut
import Derived.JoinedCond
import Derived.Test.YtgpgcfgejggolaaGreatDoorZInit
import Derived.Test.YtgpgcfgejggolaaGreatDoorZNm4
import Derived.Test.YtgpgcfgejggolaaGreatDoorZNl4
import Derived.Test.YtgpgcfgejggolaaGreatDoorZNi4
import Derived.Test.YtgpgcfgejggolaaGreatDoorZNu4
import Derived.Test.YtgpgcfgejggolaaGreatDoorZNr4
namespace Go.Cf
open Go Go.Proofs Go.Proofs.YtgpgcfgejggolaaGreatDoor
theorem joined4:joinedFacts Tryz.pinned.checked.prog 4 Tryz.f4 (OpenSpec.ofChange Rows.scriptLongSpec).bare Rows.scriptLongRow=true:=by
 have h:Tryz.pinned.checked.prog.varsNamed 4=Rows.scriptLongRow.named:=named4
 unfold joinedFacts
 rw [mayEnter,liftsFinal,make,h,laid4,rowed4,keys4,heard4,place4,unf4,rec4]
 show _=true
 kernel_rfl
end Go.Cf
