/- What the functions compute, as Lean functions (none: a panic, an empty purse, or a size that is not followed). Printed by a program of ours out of the translation. -/
import Derived.Test.YtjohablgnnbelaaM1
import Derived.Test.YtjohablgnnbelaaM2c
import Derived.Test.YtjohablgnnbelaaM4
namespace Go.Cf.M
open Go Go.Cf
set_option linter.unusedVariables false
-- confluencelaw08.SpanParts
def law08_SpanParts (N : Nat) (a1 : T_api_Map) (a6 : Int) (a7 : ByteArray) : Option (Bool) :=
  (Option.bind (law08_awake N ) fun x14 => (bif (!x14) then (some false) else (Option.bind (span_Check N (T_api_Map.mk a1.Cuts a1.Nodes) a6) fun x18 => (bif (x18 != 0) then (Option.bind (law08_awake N ) fun x20 => (some x20)) else (Option.bind (span_Shards N (T_api_Map.mk a1.Cuts a1.Nodes)) fun x26 => (Option.bind (span_Shards_1 N (σ := (Int × Int × Nat)) (fun (v82 : (Int × Int × Nat)) x28 x29 => bif (v82.2.2 == 0) then (Option.bind (span_Within N a7 x29.Lo x29.Hi) fun x86 => (bif x86 then (Option.bind (span_Find N (T_api_Map.mk a1.Cuts a1.Nodes) a7) fun x90 => (bif (x28 != x90) then (some (((x29.Node, IntKind.i64.wrap (v82.2.1 + 1), 1)), false)) else (some (((x29.Node, IntKind.i64.wrap (v82.2.1 + 1), 0)), true)))) else (some (((v82.1, v82.2.1, 0)), true)))) else none) (T_api_Map.mk a1.Cuts a1.Nodes) ((-1), 0, 0)) fun v92 => (bif (v92.2.2 == 0) then (Option.bind (Option.bind (law08_awake N ) fun x96 => (bif x96 then (bif (v92.2.1 == 1) then (Option.bind (span_Owner N (T_api_Map.mk a1.Cuts a1.Nodes) a7) fun x99 => (some (v92.1 == x99))) else (some false)) else (some false))) fun v95 => (some v95)) else (bif (v92.2.2 == 1) then (some false) else none))))))))
end Go.Cf.M
