/- Closed facts of the rows of this seat, one by one. -/
import Derived.Test.YtgpgcfgejggolaaGreatDoorRows
import Derived.WalkKit
import Derived.ProofKit
import Derived.OpenShut
import Derived.JoinedCond
import Derived.Test.YtgpgcfgejggolaaGreatDoorZInit
import Derived.Test.YtgpgcfgejggolaaGreatDoorZNm5
import Derived.Test.YtgpgcfgejggolaaGreatDoorZNl5
import Derived.Test.YtgpgcfgejggolaaGreatDoorZNi5
import Derived.Test.YtgpgcfgejggolaaGreatDoorZNu5
import Derived.Test.YtgpgcfgejggolaaGreatDoorZNr5
namespace Go.Cf
open Go Go.Proofs Go.Proofs.YtgpgcfgejggolaaGreatDoor
theorem joined5:joinedFacts Tryz.pinned.checked.prog 5 Tryz.f5 (OpenSpec.ofChange Rows.scriptNoneSpec).bare Rows.scriptNoneRow=true:=by
 have h:Tryz.pinned.checked.prog.varsNamed 5=Rows.scriptNoneRow.named:=named5
 unfold joinedFacts
 rw [mayEnter,liftsFinal,make,h,laid5,rowed5,keys5,heard5,place5,unf5,rec5]
 show _=true
 kernel_rfl
end Go.Cf
