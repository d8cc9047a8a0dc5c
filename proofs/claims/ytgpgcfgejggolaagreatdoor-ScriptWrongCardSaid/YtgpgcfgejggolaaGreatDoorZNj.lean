/- Closed facts of the rows of this seat, one by one. -/
import Derived.Test.YtgpgcfgejggolaaGreatDoorRows
import Derived.WalkKit
import Derived.ProofKit
import Derived.OpenShut
import Derived.JoinedCond
import Derived.Test.YtgpgcfgejggolaaGreatDoorZInit
import Derived.Test.YtgpgcfgejggolaaGreatDoorZNm
import Derived.Test.YtgpgcfgejggolaaGreatDoorZNl
import Derived.Test.YtgpgcfgejggolaaGreatDoorZNi
import Derived.Test.YtgpgcfgejggolaaGreatDoorZNu
import Derived.Test.YtgpgcfgejggolaaGreatDoorZNr
namespace Go.Cf
open Go Go.Proofs Go.Proofs.YtgpgcfgejggolaaGreatDoor
theorem joined3:joinedFacts Tryz.pinned.checked.prog 3 Tryz.f3 (OpenSpec.ofChange Rows.scriptWrongSpec).bare Rows.scriptWrongRow=true:=by
 have h:Tryz.pinned.checked.prog.varsNamed 3=Rows.scriptWrongRow.named:=named3
 unfold joinedFacts
 rw [mayEnter,liftsFinal,make,h,laid3,rowed3,keys3,heard3,place3,unf3,rec3]
 show _=true
 kernel_rfl
end Go.Cf
