/- What the functions compute, as Lean functions (none: a panic, an empty purse, or a size that is not followed). Printed by a program of ours out of the translation. -/
import Derived.Test.YteeafoagaaedcaaZMt1
namespace Go.Cf.M
open Go Go.Cf
set_option linter.unusedVariables false
noncomputable section
def hlc_Recv (N : Nat) (a1 : Int) (a2 : Int) (a3 : Int) : Option (Int × Int) :=
  (Option.bind (hlc_after N (if a2 > a1 then a2 else a1) a3) fun x6 => (some (x6.1, x6.2)))
def hlc_Raise (N : Nat) (a1 : Int) (a2 : Int) : Option (Int × Int) :=
  (Option.bind (bif decide (a2 < 0) then (some true) else (some (decide (a2 > 281474976710655)))) fun v7 => (bif v7 then (some (0, 1)) else (some ((if IntKind.u64.wrap ((IntKind.u64.wrap a2) * 2 ^ 16) > a1 then IntKind.u64.wrap ((IntKind.u64.wrap a2) * 2 ^ 16) else a1), 0))))
def part_New (N : Nat)  : Option (T_part_Part) :=
  (some (T_part_Part.mk 0 (some [])))
def part_Part_Prepare (N : Nat) (a1 : T_part_Part) (a6 : Int) (a7 : Int) (a8 : Int) : Option (Int × Int × T_part_Part) :=
  (Option.bind (mgt a1.open_ a6 0) fun x14 => (bif x14.2 then (some (0, 8, (T_part_Part.mk a1.clock a1.open_))) else (Option.bind (hlc_Recv N a1.clock a7 a8) fun x18 => (bif (x18.2 != 0) then (some (0, x18.2, (T_part_Part.mk a1.clock a1.open_))) else (Option.bind (mgt a1.open_ a6 0) fun x23 => (Option.bind (mPut a1.open_ a6 x23.1) fun x24 => (Option.bind (mPut x24 a6 x18.1) fun x29 => (some (x18.1, 0, (T_part_Part.mk x18.1 x29))))))))))
def part_Part_Commit (N : Nat) (a1 : T_part_Part) (a6 : Int) (a7 : Int) (a8 : Int) : Option (Int × T_part_Part) :=
  (Option.bind (bif decide (a8 < 0) then (some true) else (some (decide (a8 > 281474976710655)))) fun v13 => (bif v13 then (some (1, (T_part_Part.mk a1.clock a1.open_))) else (Option.bind (mgt a1.open_ a6 0) fun x16 => (bif (!x16.2) then (some (7, (T_part_Part.mk a1.clock a1.open_))) else (bif decide (a7 < x16.1) then (some (11, (T_part_Part.mk a1.clock a1.open_))) else (Option.bind (hlc_Raise N (if a7 > a1.clock then a7 else a1.clock) a8) fun x26 => (some (0, (T_part_Part.mk x26.1 (mDel a1.open_ a6))))))))))
def part_Part_See (N : Nat) (a1 : T_part_Part) (a6 : Int) : Option (T_part_Part) :=
  (some (T_part_Part.mk (if a6 > a1.clock then a6 else a1.clock) a1.open_))
def part_Part_Clock (N : Nat) (a1 : T_part_Part) : Option (Int) :=
  (some a1.clock)
def part_Part_Open (N : Nat) (a1 : T_part_Part) : Option (Int) :=
  (some (mLen a1.open_ : Int))
end
end Go.Cf.M
