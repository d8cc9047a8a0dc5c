/- What the functions compute, as Lean functions (none: a panic, an empty purse, or a size that is not followed). Printed by a program of ours out of the translation. -/
import Derived.Test.YtjohablgnnbelaaM1
import Derived.Test.YtjohablgnnbelaaM2c
namespace Go.Cf.M
open Go Go.Cf
set_option linter.unusedVariables false
-- confluencelaw08.awake
def law08_awake (N : Nat)  : Option (Bool) :=
  (Option.bind (span_Whole N 0) fun x3 => (Option.bind (span_Split N (T_api_Map.mk x3.Cuts x3.Nodes) 2 0 (ByteArray.mk #[109])) fun x8 => (Option.bind (bif (x8.2 == 0) then (bif (((x8.1.Cuts).length : Int) == 1) then (Option.bind (span_Find N (T_api_Map.mk x8.1.Cuts x8.1.Nodes) (ByteArray.mk #[110])) fun x17 => (some (x17 == 1))) else (some false)) else (some false)) fun v16 => (some v16))))
-- confluencelaw08.SpanChecks
def law08_SpanChecks (N : Nat) (a1 : T_api_Map) (a6 : Int) : Option (Bool) :=
  (Option.bind (Option.bind (law08_awake N ) fun x12 => (bif x12 then (Option.bind (span_Check N (T_api_Map.mk a1.Cuts a1.Nodes) a6) fun x14 => (Option.bind (ref08_Check N (T_api_Map.mk a1.Cuts a1.Nodes) a6) fun x15 => (some (x14 == x15)))) else (some false))) fun v11 => (some v11))
end Go.Cf.M
