/- What the functions compute, as Lean functions (none: a panic, an empty purse, or a size that is not followed). Printed by a program of ours out of the translation. -/
import Derived.Test.YtjohablgnnbelaaM1
import Derived.Test.YtjohablgnnbelaaM2
import Derived.Test.YtjohablgnnbelaaM2b
import Derived.Test.YtjohablgnnbelaaM2c
import Derived.Test.YtjohablgnnbelaaM4
namespace Go.Cf.M
open Go Go.Cf
set_option linter.unusedVariables false
-- confluencelaw08.SpanTurns
def law08_SpanTurns (N : Nat) (a1 : T_api_Map) (a6 : Int) (a7 : Int) (a8 : ByteArray) (a9 : ByteArray) : Option (Bool) :=
  (Option.bind (span_Split N (T_api_Map.mk a1.Cuts a1.Nodes) a6 a7 a8) fun x13 => (bif (x13.2 != 0) then (Option.bind (Option.bind (law08_awake N ) fun x24 => (bif x24 then (some (IntKind.i64.wrap (((x13.1.Cuts).length : Int) + ((x13.1.Nodes).length : Int)) == 0)) else (some false))) fun v23 => (some v23)) else (Option.bind (span_Merge N (T_api_Map.mk x13.1.Cuts x13.1.Nodes) a6 a7) fun x26 => (Option.bind (Option.bind (law08_awake N ) fun x35 => (bif x35 then (bif (x26.2 == 0) then (Option.bind (ref08_Same N (T_api_Map.mk a1.Cuts a1.Nodes) (T_api_Map.mk x26.1.Cuts x26.1.Nodes)) fun x38 => (bif x38 then (Option.bind (span_Owner N (T_api_Map.mk x13.1.Cuts x13.1.Nodes) a9) fun x40 => (Option.bind (span_Owner N (T_api_Map.mk a1.Cuts a1.Nodes) a9) fun x41 => (bif (x40 == x41) then (bif (((x13.1.Nodes).length : Int) == IntKind.i64.wrap (((a1.Nodes).length : Int) + 1)) then (Option.bind (span_Find N (T_api_Map.mk x13.1.Cuts x13.1.Nodes) a8) fun x44 => (some (x44 == IntKind.i64.wrap (a7 + 1)))) else (some false)) else (some false)))) else (some false))) else (some false)) else (some false))) fun v34 => (some v34)))))
end Go.Cf.M
