/- The program's word on its start, sign by sign: the kernel reads a long string too slowly. -/
import Derived.Test.YtkkbmgapcidmnaaGreatRows
import Derived.WalkKit
import Derived.ProofKit
namespace Go.Cf
open Go Go.Proofs
def initList : List Nat := [104, 97, 114, 110, 101, 115, 115, 32, 55, 52, 100, 55, 56, 51, 54, 100, 50, 51, 49, 101, 101, 53, 51, 49, 51, 51, 49, 101, 97, 98, 102, 52, 57, 49, 98, 50, 51, 52, 101, 55, 99, 50, 49, 54, 102, 52, 52, 100, 49, 54, 53, 57, 102, 49, 57, 49, 50, 57, 53, 97, 101, 99, 101, 55, 99, 54, 48, 57, 56, 101, 55, 98, 32, 99, 117, 116, 32, 97, 116, 32, 99, 111, 110, 102, 108, 117, 101, 110, 99, 101, 47, 99, 111, 110, 102, 108, 117, 101, 110, 99, 101, 108, 97, 119, 50, 51, 46, 67, 108, 117, 115, 116, 101, 114, 83, 101, 116, 117, 112, 115, 32, 99, 111, 110, 102, 108, 117, 101, 110, 99, 101, 47, 99, 111, 110, 102, 108, 117, 101, 110, 99, 101, 108, 97, 119, 50, 51, 46, 67, 108, 117, 115, 116, 101, 114, 78, 111, 110, 101]
def initWords : List (List Nat) := [[99, 117, 116], [97, 116], [99, 111, 110, 102, 108, 117, 101, 110, 99, 101, 47, 99, 111, 110, 102, 108, 117, 101, 110, 99, 101, 108, 97, 119, 50, 51, 46, 67, 108, 117, 115, 116, 101, 114, 83, 101, 116, 117, 112, 115], [99, 111, 110, 102, 108, 117, 101, 110, 99, 101, 47, 99, 111, 110, 102, 108, 117, 101, 110, 99, 101, 108, 97, 119, 50, 51, 46, 67, 108, 117, 115, 116, 101, 114, 78, 111, 110, 101]]
theorem initSigns : Tryz.prog.initOrder.toList = initList.map Char.ofNat := by
  have h : Tryz.prog.initOrder = String.ofList (initList.map Char.ofNat) := by kernel_rfl
  rw [h, String.toList_ofList]
theorem initBehind : behindMainWord (wordsSigns Tryz.prog.initOrder.toList) = initWords.map (·.map Char.ofNat) := by
  rw [initSigns]
  show _ = initWords.map _
  kernel_rfl
theorem strip_cut (ws : List (List Char)) : stripLifts liftWords ("cut".toList :: ws) = ([], "cut".toList :: ws) := by kernel_rfl
theorem make_of {P : Program} {ws : List (List Char)} (h : behindMainWord (wordsSigns P.initOrder.toList) = "cut".toList :: ws) : P.make = some Make.cut := by
  unfold Program.make
  rw [h]
  simp
theorem lifts_of {P : Program} {ws : List (List Char)} (h : behindMainWord (wordsSigns P.initOrder.toList) = "cut".toList :: ws) : P.liftsFinal = false := by
  unfold Program.liftsFinal Program.headLifts
  simp only [h, strip_cut]
  simp
theorem mayEnter_of {P : Program} {ws : List (List Char)} (h : behindMainWord (wordsSigns P.initOrder.toList) = "cut".toList :: ws) (h1 : P.laysLater = false) (h2 : P.bearsReflect = false) (h3 : P.doorFits [] = true) : P.mayEnter = true := by
  unfold Program.mayEnter
  rw [h]
  simp only [strip_cut, h1, h2, h3]
  simp
theorem initCut : behindMainWord (wordsSigns Tryz.prog.initOrder.toList) = "cut".toList :: (initWords.tail.map (·.map Char.ofNat)) := initBehind.trans (by kernel_rfl)
theorem mayEnter : Go.Proofs.YtkkbmgapcidmnaaGreat.Tryz.pinned.checked.prog.mayEnter = true := mayEnter_of (P := Tryz.prog) initCut (by kernel_rfl) (by kernel_rfl) (by kernel_rfl)
theorem liftsFinal : Go.Proofs.YtkkbmgapcidmnaaGreat.Tryz.pinned.checked.prog.liftsFinal = false := lifts_of (P := Tryz.prog) initCut
theorem make : Go.Proofs.YtkkbmgapcidmnaaGreat.Tryz.pinned.checked.prog.make = some Make.cut := make_of (P := Tryz.prog) initCut
end Go.Cf
