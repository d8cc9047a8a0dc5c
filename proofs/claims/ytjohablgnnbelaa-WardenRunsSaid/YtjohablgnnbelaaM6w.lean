/- What the functions compute, as Lean functions (none: a panic, an empty purse, or a size that is not followed). Printed by a program of ours out of the translation. -/
import Derived.Test.YtjohablgnnbelaaTy
namespace Go.Cf.M
open Go Go.Cf
set_option linter.unusedVariables false
-- confluencelaw18.great
def law18_great_L1 (N : Nat) : Nat → T_config_State → Int → Option (Bool)
  | 0, _, _ => none
  | fuel1 + 1, a1, y57 => (bif decide (y57 < 4) then (Option.bind (idx a1.Maps y57) fun x62 => (Option.bind (bif decide (((x62.Cuts).length : Int) > 60) then (some true) else (some (decide (((x62.Nodes).length : Int) > 60)))) fun v70 => (bif v70 then (some true) else ((law18_great_L1 N fuel1) a1 (IntKind.i64.wrap (y57 + 1)))))) else (some false))
def law18_great (N : Nat) (a1 : T_config_State) : Option (Bool) :=
  (law18_great_L1 N N a1 0)
-- wire.Agree
def wire_Agree (N : Nat) (a1 : Int) (a2 : Int) : Option (Int) :=
  (Option.bind (bif decide (a1 < 1) then (some true) else (bif decide (a1 > 3) then (some true) else (bif decide (a2 < 1) then (some true) else (some (decide (a2 > 3)))))) fun v7 => (bif v7 then (some 0) else (Option.bind (bif (a1 != 1) then (some (a2 != 1)) else (some false)) fun v11 => (bif v11 then (some 2) else (Option.bind (bif (a1 != 3) then (some (a2 != 3)) else (some false)) fun v15 => (bif v15 then (some 1) else (some 0)))))))
end Go.Cf.M
