/- The program's word on its start, sign by sign: the kernel reads a long string too slowly. -/
import Derived.Test.YtcplebnnanjngaaGreatRows
import Derived.WalkKit
import Derived.ProofKit
set_option linter.unusedVariables false
namespace Go.Cf
open Go Go.Proofs
def F4:List Nat:=[104,97,114,110,101,115,115,32,55,100,50,56,102,55,54,50,48,56,56,53,53,100,53,50,99,99,48,55,50,48,100,55,50,102,98,49,97,57,57,97,99,50,97,98,102,54,51,101,48,51,57,51,57,54,102,54,55,52,51,52,55,55,100,50,48,55,102,55,54,55,49,55,32,99,117,116,32,97,116,32,99,111,110,102,108,117,101,110,99,101,47,99,111,110,102,108,117,101,110,99,101,108,97,119,50,50,46,71,97,116,101,83,116,97,98,108,101,32,99,111,110,102,108,117,101,110,99,101,47,99,111,110,102,108,117,101,110,99,101,108,97,119,50,50,46,71,97,116,101,72,111,108,100,115,32,99,111,110,102,108,117,101,110,99,101,47,99,111,110,102,108,117,101,110,99,101,108,97,119,50,50,46,71,97,116,101,82,101,112,108,105,101,115,32,99,111,110,102,108,117,101,110,99,101,47,99,111,110,102,108,117,101,110,99,101,108,97,119,50,50,46,71,97,116,101,78,111,110,101]
def AM:List (List Nat):=[[99,117,116],[97,116],[99,111,110,102,108,117,101,110,99,101,47,99,111,110,102,108,117,101,110,99,101,108,97,119,50,50,46,71,97,116,101,83,116,97,98,108,101],[99,111,110,102,108,117,101,110,99,101,47,99,111,110,102,108,117,101,110,99,101,108,97,119,50,50,46,71,97,116,101,72,111,108,100,115],[99,111,110,102,108,117,101,110,99,101,47,99,111,110,102,108,117,101,110,99,101,108,97,119,50,50,46,71,97,116,101,82,101,112,108,105,101,115],[99,111,110,102,108,117,101,110,99,101,47,99,111,110,102,108,117,101,110,99,101,108,97,119,50,50,46,71,97,116,101,78,111,110,101]]
theorem IG:Tryz.prog.initOrder.toList=F4.map Char.ofNat:=by
 have h:Tryz.prog.initOrder=String.ofList (F4.map Char.ofNat):=by kernel_rfl
 rw [h,String.toList_ofList]
theorem GL:behindMainWord (wordsSigns Tryz.prog.initOrder.toList)=AM.map (·.map Char.ofNat):=by
 rw [IG]
 show _=AM.map _
 kernel_rfl
theorem CS (ws:List (List Char)):stripLifts liftWords ("cut".toList::ws)=([],"cut".toList::ws):=by kernel_rfl
theorem LD {P:Program}{ws:List (List Char)}(h:behindMainWord (wordsSigns P.initOrder.toList) = "cut".toList::ws):P.make=some Make.cut:=by
 unfold Program.make
 rw [h]
 simp
theorem JT {P:Program}{ws:List (List Char)}(h:behindMainWord (wordsSigns P.initOrder.toList) = "cut".toList::ws):P.liftsFinal=false:=by
 unfold Program.liftsFinal Program.headLifts
 simp only [h,CS]
 simp
theorem EV {P:Program}{ws:List (List Char)}(h:behindMainWord (wordsSigns P.initOrder.toList) = "cut".toList::ws) (h1:P.laysLater=false) (h2:P.bearsReflect=false) (h3:P.doorFits []=true):P.mayEnter=true:=by
 unfold Program.mayEnter
 rw [h]
 simp only [CS,h1,h2,h3]
 simp
theorem DU:behindMainWord (wordsSigns Tryz.prog.initOrder.toList) = "cut".toList::(AM.tail.map (·.map Char.ofNat)):=GL.trans (by kernel_rfl)
theorem mayEnter:Go.Proofs.YtcplebnnanjngaaGreat.Tryz.pinned.checked.prog.mayEnter=true:=EV (P:=Tryz.prog) DU (by kernel_rfl) (by kernel_rfl) (by kernel_rfl)
theorem liftsFinal:Go.Proofs.YtcplebnnanjngaaGreat.Tryz.pinned.checked.prog.liftsFinal=false:=JT (P:=Tryz.prog) DU
theorem make:Go.Proofs.YtcplebnnanjngaaGreat.Tryz.pinned.checked.prog.make=some Make.cut:=LD (P:=Tryz.prog) DU
end Go.Cf
