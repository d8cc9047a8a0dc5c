/- What the functions compute, as Lean functions (none: a panic, an empty purse, or a size that is not followed). Printed by a program of ours out of the translation. -/
import Derived.Test.YteeafoagaaedcaaZMt1
namespace Go.Cf.M
open Go Go.Cf
set_option linter.unusedVariables false
noncomputable section
def ref10_Check (N : Nat) (a1 : T_api_Ver) : Option (Int) :=
  (Option.bind (bif decide (((a1.Key).size : Int) > 16) then (some true) else (some (decide (((a1.Val).size : Int) > 64)))) fun v7 => (bif v7 then (some 6) else (Option.bind (bif (sEq a1.Key (ByteArray.mk #[])) then (some true) else (bif a1.Gone then (bif (!sEq a1.Val (ByteArray.mk #[])) then (some true) else (bif decide (a1.DC < 0) then (some true) else (bif decide (a1.DC > 3) then (some true) else (bif decide (a1.Tx < 0) then (some true) else (some (decide (a1.Tx > 1073741824))))))) else (bif decide (a1.DC < 0) then (some true) else (bif decide (a1.DC > 3) then (some true) else (bif decide (a1.Tx < 0) then (some true) else (some (decide (a1.Tx > 1073741824)))))))) fun v12 => (bif v12 then (some 1) else (some 0)))))
end
end Go.Cf.M
