/- What the functions compute, as Lean functions (none: a panic, an empty purse, or a size that is not followed). Printed by a program of ours out of the translation. -/
import Derived.Test.YtjohablgnnbelaaM2
import Derived.Test.YtjohablgnnbelaaM3
import Derived.Test.YtjohablgnnbelaaM6
import Derived.Test.YtjohablgnnbelaaM6w
namespace Go.Cf.M
open Go Go.Cf
set_option linter.unusedVariables false
-- confluencelaw18.ConfigOne
def law18_ConfigOne_L2 (N : Nat) : Nat → T_config_State → T_api_Cmd → (T_config_State × Int) → Int → Option (Bool)
  | 0, _, _, _, _ => none
  | fuel2 + 1, a1, a3, x13, y149 => (bif decide (y149 < 21) then (Option.bind (bif (y149 == 0) then (Option.bind (idx x13.1.Modes y149) fun x157 => (Option.bind (idx a1.Modes y149) fun x158 => (some (x157 != x158)))) else (bif (IntKind.i64.wrap (Int.tdiv (IntKind.i64.wrap (y149 - 1)) 5) != a3.DC) then (Option.bind (idx x13.1.Modes y149) fun x159 => (Option.bind (idx a1.Modes y149) fun x160 => (some (x159 != x160)))) else (some false))) fun v156 => (bif v156 then (some false) else ((law18_ConfigOne_L2 N fuel2) a1 a3 x13 (IntKind.i64.wrap (y149 + 1))))) else (Option.bind (Option.bind (law18_awake N ) fun x165 => (bif x165 then (bif (x13.1.Pool == a1.Pool) then (some (x13.1.Nodes == a1.Nodes)) else (some false)) else (some false))) fun v164 => (some v164)))
def law18_ConfigOne_L1 (N : Nat) : Nat → T_config_State → T_api_Cmd → (T_config_State × Int) → Int → Option (Bool)
  | 0, _, _, _, _ => none
  | fuel1 + 1, a1, a3, x13, y75 => (bif decide (y75 < 4) then (Option.bind (bif (y75 != a3.DC) then (Option.bind (idx x13.1.Members y75) fun x83 => (Option.bind (idx a1.Members y75) fun x84 => (bif (!(x83 == x84)) then (some true) else (Option.bind (idx x13.1.Maps y75) fun x85 => (Option.bind (idx a1.Maps y75) fun x90 => (Option.bind (ref08_Same N (T_api_Map.mk x85.Cuts x85.Nodes) (T_api_Map.mk x90.Cuts x90.Nodes)) fun x95 => (some (!x95)))))))) else (some false)) fun v82 => (bif v82 then (some false) else ((law18_ConfigOne_L1 N fuel1) a1 a3 x13 (IntKind.i64.wrap (y75 + 1))))) else (law18_ConfigOne_L2 N N a1 a3 x13 0))
def law18_ConfigOne (N : Nat) (a1 : T_config_State) (a3 : T_api_Cmd) : Option (Bool) :=
  (Option.bind (law18_great N (T_config_State.mk a1.Pool a1.Nodes a1.Members a1.Maps a1.Modes)) fun x9 => (bif x9 then (Option.bind (law18_awake N ) fun x11 => (some x11)) else (Option.bind (config_Apply N (T_config_State.mk a1.Pool a1.Nodes a1.Members a1.Maps a1.Modes) (T_api_Cmd.mk a3.Kind a3.DC a3.Shard a3.Node a3.Mode a3.Key)) fun x13 => (bif (x13.2 != 0) then (Option.bind (Option.bind (law18_awake N ) fun x21 => (bif x21 then (Option.bind (law18_Same N (T_config_State.mk x13.1.Pool x13.1.Nodes x13.1.Members x13.1.Maps x13.1.Modes) (T_ref18_State.mk 0 0 (List.replicate 4 false) (List.replicate 4 (T_api_Map.mk ([] : List ByteArray) ([] : List Int))) (List.replicate 21 0))) fun x22 => (some x22)) else (some false))) fun v20 => (some v20)) else (law18_ConfigOne_L1 N N a1 a3 x13 0)))))
end Go.Cf.M
