/- What the functions compute, as Lean functions (none: a panic, an empty purse, or a size that is not followed). Printed by a program of ours out of the translation. -/
import Derived.Test.YtjohablgnnbelaaM1
import Derived.Test.YtjohablgnnbelaaM2b
import Derived.Test.YtjohablgnnbelaaM4
namespace Go.Cf.M
open Go Go.Cf
set_option linter.unusedVariables false
-- confluencelaw08.SpanMoves
def law08_SpanMoves_k1 (N : Nat) (a9 : ByteArray) (x13 : (T_api_Map × Int)) (y27 : Int) : Option (Bool) :=
  (Option.bind (Option.bind (law08_awake N ) fun x31 => (bif x31 then (Option.bind (span_Owner N (T_api_Map.mk x13.1.Cuts x13.1.Nodes) a9) fun x32 => (some (x32 == y27))) else (some false))) fun v30 => (some v30))
def law08_SpanMoves (N : Nat) (a1 : T_api_Map) (a6 : Int) (a7 : Int) (a8 : Int) (a9 : ByteArray) : Option (Bool) :=
  (Option.bind (span_Move N (T_api_Map.mk a1.Cuts a1.Nodes) a6 a7 a8) fun x13 => (bif (x13.2 != 0) then (Option.bind (Option.bind (law08_awake N ) fun x24 => (bif x24 then (some (((x13.1.Nodes).length : Int) == 0)) else (some false))) fun v23 => (some v23)) else (Option.bind (span_Owner N (T_api_Map.mk a1.Cuts a1.Nodes) a9) fun x26 => (Option.bind (span_Find N (T_api_Map.mk a1.Cuts a1.Nodes) a9) fun x34 => (bif (x34 == a7) then (law08_SpanMoves_k1 N a9 x13 a8) else (law08_SpanMoves_k1 N a9 x13 x26))))))
end Go.Cf.M
