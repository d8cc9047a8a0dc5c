/- What the functions compute, as Lean functions (none: a panic, an empty purse, or a size that is not followed). Printed by a program of ours out of the translation. -/
import Derived.Test.YteeafoagaaedcaaZK2
namespace Go.Cf.M
open Go Go.Cf
set_option linter.unusedVariables false
noncomputable section
def ref04_SameVers_L1 (N : Nat) : Nat → (List T_api_Ver) → (List T_api_Ver) → Int → Option (Bool)
  | 0, _, _, _ => none
  | fuel1 + 1, a1, a4, y63 => (bif decide (y63 < ((a1).length : Int)) then (Option.bind (idx a1 y63) fun x68 => (Option.bind (idx a4 y63) fun x71 => (bif (!(cEq (flat [(1, [.string (x68.Key)]), (1, [.string (x68.Val)]), (1, [.bool (x68.Gone)]), (1, [.int .u64 (x68.TS)]), (1, [.int .i64 (x68.DC)]), (1, [.int .i64 (x68.Tx)])]) (flat [(1, [.string (x71.Key)]), (1, [.string (x71.Val)]), (1, [.bool (x71.Gone)]), (1, [.int .u64 (x71.TS)]), (1, [.int .i64 (x71.DC)]), (1, [.int .i64 (x71.Tx)])]))) then (some false) else ((ref04_SameVers_L1 N fuel1) a1 a4 (IntKind.i64.wrap (y63 + 1)))))) else (some true))
def ref04_SameVers (N : Nat) (a1 : (List T_api_Ver)) (a4 : (List T_api_Ver)) : Option (Bool) :=
  (bif (((a1).length : Int) != ((a4).length : Int)) then (some false) else (ref04_SameVers_L1 N N a1 a4 0))
def ref04_Same_L1 (N : Nat) : Nat → T_api_Msg → T_api_Msg → Int → Option (Bool)
  | 0, _, _, _ => none
  | fuel1 + 1, a1, a6, y71 => (bif decide (y71 < ((a1.Vec).length : Int)) then (Option.bind (idx a1.Vec y71) fun x76 => (Option.bind (idx a6.Vec y71) fun x79 => (bif (x76 != x79) then (some false) else ((ref04_Same_L1 N fuel1) a1 a6 (IntKind.i64.wrap (y71 + 1)))))) else (Option.bind (ref04_SameVers N a1.Vers a6.Vers) fun x84 => (some x84)))
def ref04_Same (N : Nat) (a1 : T_api_Msg) (a6 : T_api_Msg) : Option (Bool) :=
  (Option.bind (bif (a1.Kind != a6.Kind) then (some true) else (bif (a1.Id != a6.Id) then (some true) else (bif (a1.N != a6.N) then (some true) else (bif (a1.TS != a6.TS) then (some true) else (bif (!sEq a1.Lo a6.Lo) then (some true) else (bif (!sEq a1.Hi a6.Hi) then (some true) else (bif (!(cEq (flat [(1, [.int .i64 (a1.Cmd.Kind)]), (1, [.int .i64 (a1.Cmd.DC)]), (1, [.int .i64 (a1.Cmd.Shard)]), (1, [.int .i64 (a1.Cmd.Node)]), (1, [.int .i64 (a1.Cmd.Mode)]), (1, [.string (a1.Cmd.Key)])]) (flat [(1, [.int .i64 (a6.Cmd.Kind)]), (1, [.int .i64 (a6.Cmd.DC)]), (1, [.int .i64 (a6.Cmd.Shard)]), (1, [.int .i64 (a6.Cmd.Node)]), (1, [.int .i64 (a6.Cmd.Mode)]), (1, [.string (a6.Cmd.Key)])]))) then (some true) else (some (((a1.Vec).length : Int) != ((a6.Vec).length : Int)))))))))) fun v17 => (bif v17 then (some false) else (ref04_Same_L1 N N a1 a6 0)))
end
end Go.Cf.M
