/- What the functions compute, as Lean functions (none: a panic, an empty purse, or a size that is not followed). Printed by a program of ours out of the translation. -/
import Derived.Test.YtjohablgnnbelaaM1
import Derived.Test.YtjohablgnnbelaaM2b
import Derived.Test.YtjohablgnnbelaaM2c
import Derived.Test.YtjohablgnnbelaaM4
namespace Go.Cf.M
open Go Go.Cf
set_option linter.unusedVariables false
-- confluencelaw08.SpanRuns
def law08_SpanRuns_k3 (N : Nat) (rec1 : Int → (List T_api_Cmd) → ByteArray → (List ByteArray) → (List Int) → Int → Option (Bool)) (a1 : Int) (a2 : (List T_api_Cmd)) (a5 : ByteArray) (y73 : Int) (y98 : (List ByteArray)) (y101 : (List Int)) : Option (Bool) :=
  (Option.bind (span_Owner N (T_api_Map.mk y98 y101) a5) fun x105 => (Option.bind (Option.bind (span_Check N (T_api_Map.mk y98 y101) (IntKind.i64.wrap ((IntKind.i64.wrap (Int.tmod (IntKind.u64.wrap a1) 4)) + 1))) fun x109 => (bif (x109 != 0) then (some true) else (bif decide (x105 < 0) then (some true) else (some (decide (x105 ≥ IntKind.i64.wrap ((IntKind.i64.wrap (Int.tmod (IntKind.u64.wrap a1) 4)) + 1))))))) fun v108 => (bif v108 then (some false) else (rec1 a1 a2 a5 y98 y101 (IntKind.i64.wrap (y73 + 1))))))
def law08_SpanRuns_k2 (N : Nat) (rec1 : Int → (List T_api_Cmd) → ByteArray → (List ByteArray) → (List Int) → Int → Option (Bool)) (a1 : Int) (a2 : (List T_api_Cmd)) (a5 : ByteArray) (y67 : (List ByteArray)) (y70 : (List Int)) (y73 : Int) (y91 : (List ByteArray)) (y94 : (List Int)) (y97 : Int) : Option (Bool) :=
  (bif (y97 == 0) then (law08_SpanRuns_k3 N rec1 a1 a2 a5 y73 y91 y94) else (law08_SpanRuns_k3 N rec1 a1 a2 a5 y73 y67 y70))
def law08_SpanRuns_L1 (N : Nat) : Nat → Int → (List T_api_Cmd) → ByteArray → (List ByteArray) → (List Int) → Int → Option (Bool)
  | 0, _, _, _, _, _, _ => none
  | fuel1 + 1, a1, a2, a5, y67, y70, y73 => (Option.bind (bif decide (y73 < ((a2).length : Int)) then (some (decide (y73 < 60))) else (some false)) fun v77 => (bif v77 then (Option.bind (idx a2 y73) fun x80 => (Option.bind (span_Move N (T_api_Map.mk y67 y70) (IntKind.i64.wrap ((IntKind.i64.wrap (Int.tmod (IntKind.u64.wrap a1) 4)) + 1)) x80.Shard x80.Node) fun x85 => (bif (x80.Kind == 3) then (Option.bind (span_Split N (T_api_Map.mk y67 y70) (IntKind.i64.wrap ((IntKind.i64.wrap (Int.tmod (IntKind.u64.wrap a1) 4)) + 1)) x80.Shard x80.Key) fun x114 => (law08_SpanRuns_k2 N (law08_SpanRuns_L1 N fuel1) a1 a2 a5 y67 y70 y73 x114.1.Cuts x114.1.Nodes x114.2)) else (bif (x80.Kind == 4) then (Option.bind (span_Merge N (T_api_Map.mk y67 y70) (IntKind.i64.wrap ((IntKind.i64.wrap (Int.tmod (IntKind.u64.wrap a1) 4)) + 1)) x80.Shard) fun x120 => (law08_SpanRuns_k2 N (law08_SpanRuns_L1 N fuel1) a1 a2 a5 y67 y70 y73 x120.1.Cuts x120.1.Nodes x120.2)) else (law08_SpanRuns_k2 N (law08_SpanRuns_L1 N fuel1) a1 a2 a5 y67 y70 y73 x85.1.Cuts x85.1.Nodes x85.2))))) else (Option.bind (law08_awake N ) fun x126 => (some x126))))
def law08_SpanRuns (N : Nat) (a1 : Int) (a2 : (List T_api_Cmd)) (a5 : ByteArray) : Option (Bool) :=
  (Option.bind (span_Whole N 0) fun x8 => (law08_SpanRuns_L1 N N a1 a2 a5 x8.Cuts x8.Nodes 0))
end Go.Cf.M
