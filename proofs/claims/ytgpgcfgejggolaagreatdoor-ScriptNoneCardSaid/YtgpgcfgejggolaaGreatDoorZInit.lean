/- The program's word on its start, sign by sign: the kernel reads a long string too slowly. -/
import Derived.Test.YtgpgcfgejggolaaGreatDoorRows
import Derived.WalkKit
import Derived.ProofKit
namespace Go.Cf
open Go Go.Proofs
def initList:List Nat:=[104,97,114,110,101,115,115,32,57,52,50,99,54,55,54,102,102,48,99,53,98,54,52,101,55,98,51,55,57,54,54,54,48,49,49,54,50,55,49,97,99,97,50,50,100,52,57,100,101,97,54,57,53,48,97,97,49,50,53,52,49,98,49,55,50,98,98,48,53,56,97,56,32,99,117,116,32,97,116,32,99,111,110,102,108,117,101,110,99,101,47,99,111,110,102,108,117,101,110,99,101,108,97,119,50,52,46,83,99,114,105,112,116,87,114,111,110,103,32,99,111,110,102,108,117,101,110,99,101,47,99,111,110,102,108,117,101,110,99,101,108,97,119,50,52,46,83,99,114,105,112,116,76,111,110,103,32,99,111,110,102,108,117,101,110,99,101,47,99,111,110,102,108,117,101,110,99,101,108,97,119,50,52,46,83,99,114,105,112,116,78,111,110,101]
def initWords:List (List Nat):=[[99,117,116],[97,116],[99,111,110,102,108,117,101,110,99,101,47,99,111,110,102,108,117,101,110,99,101,108,97,119,50,52,46,83,99,114,105,112,116,87,114,111,110,103],[99,111,110,102,108,117,101,110,99,101,47,99,111,110,102,108,117,101,110,99,101,108,97,119,50,52,46,83,99,114,105,112,116,76,111,110,103],[99,111,110,102,108,117,101,110,99,101,47,99,111,110,102,108,117,101,110,99,101,108,97,119,50,52,46,83,99,114,105,112,116,78,111,110,101]]
theorem initSigns:Tryz.prog.initOrder.toList=initList.map Char.ofNat:=by
 have h:Tryz.prog.initOrder=String.ofList (initList.map Char.ofNat):=by kernel_rfl
 rw [h,String.toList_ofList]
theorem initBehind:behindMainWord (wordsSigns Tryz.prog.initOrder.toList)=initWords.map (·.map Char.ofNat):=by
 rw [initSigns]
 show _=initWords.map _
 kernel_rfl
theorem strip_cut (ws:List (List Char)):stripLifts liftWords ("cut".toList::ws)=([],"cut".toList::ws):=by kernel_rfl
theorem make_of {P:Program}{ws:List (List Char)}(h:behindMainWord (wordsSigns P.initOrder.toList) = "cut".toList::ws):P.make=some Make.cut:=by
 unfold Program.make
 rw [h]
 simp
theorem lifts_of {P:Program}{ws:List (List Char)}(h:behindMainWord (wordsSigns P.initOrder.toList) = "cut".toList::ws):P.liftsFinal=false:=by
 unfold Program.liftsFinal Program.headLifts
 simp only [h,strip_cut]
 simp
theorem mayEnter_of {P:Program}{ws:List (List Char)}(h:behindMainWord (wordsSigns P.initOrder.toList) = "cut".toList::ws) (h1:P.laysLater=false) (h2:P.bearsReflect=false) (h3:P.doorFits []=true):P.mayEnter=true:=by
 unfold Program.mayEnter
 rw [h]
 simp only [strip_cut,h1,h2,h3]
 simp
theorem initCut:behindMainWord (wordsSigns Tryz.prog.initOrder.toList) = "cut".toList::(initWords.tail.map (·.map Char.ofNat)):=initBehind.trans (by kernel_rfl)
theorem mayEnter:Go.Proofs.YtgpgcfgejggolaaGreatDoor.Tryz.pinned.checked.prog.mayEnter=true:=mayEnter_of (P:=Tryz.prog) initCut (by kernel_rfl) (by kernel_rfl) (by kernel_rfl)
theorem liftsFinal:Go.Proofs.YtgpgcfgejggolaaGreatDoor.Tryz.pinned.checked.prog.liftsFinal=false:=lifts_of (P:=Tryz.prog) initCut
theorem make:Go.Proofs.YtgpgcfgejggolaaGreatDoor.Tryz.pinned.checked.prog.make=some Make.cut:=make_of (P:=Tryz.prog) initCut
end Go.Cf
