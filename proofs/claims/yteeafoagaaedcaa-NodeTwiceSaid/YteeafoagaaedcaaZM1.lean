/- What the functions compute, as Lean functions (none: a panic, an empty purse, or a size that is not followed). Printed by a program of ours out of the translation. -/
import Derived.Test.YteeafoagaaedcaaZK2
namespace Go.Cf.M
open Go Go.Cf
set_option linter.unusedVariables false
noncomputable section
def ref04_SameVers_L1 (N : Nat) : Nat → (List T_api_Ver) → (List T_api_Ver) → Int → Option (Bool)
  | 0, _, _, _ => none
  | fuel1 + 1, a1, a4, y63 => (bif decide (y63 < ((a1).length : Int)) then (Option.bind (idx a1 y63) fun x68 => (Option.bind (idx a4 y63) fun x71 => (bif (!(cEq (flat [(1, [.string (x68.Key)]), (1, [.string (x68.Val)]), (1, [.bool (x68.Gone)]), (1, [.int .u64 (x68.TS)]), (1, [.int .i64 (x68.DC)]), (1, [.int .i64 (x68.Tx)])]) (flat [(1, [.string (x71.Key)]), (1, [.string (x71.Val)]), (1, [.bool (x71.Gone)]), (1, [.int .u64 (x71.TS)]), (1, [.int .i64 (x71.DC)]), (1, [.int .i64 (x71.Tx)])]))) then (some false) else ((ref04_SameVers_L1 N fuel1) a1 a4 (IntKind.i64.wrap (y63 + 1)))))) else (some true))
def ref04_SameVers (N : Nat) (a1 : (List T_api_Ver)) (a4 : (List T_api_Ver)) : Option (Bool) :=
  (bif (((a1).length : Int) != ((a4).length : Int)) then (some false) else (ref04_SameVers_L1 N N a1 a4 0))
end
end Go.Cf.M
