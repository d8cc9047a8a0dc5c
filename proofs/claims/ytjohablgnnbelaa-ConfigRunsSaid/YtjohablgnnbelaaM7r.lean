/- What the functions compute, as Lean functions (none: a panic, an empty purse, or a size that is not followed). Printed by a program of ours out of the translation. -/
import Derived.Test.YtjohablgnnbelaaM1
import Derived.Test.YtjohablgnnbelaaM3
import Derived.Test.YtjohablgnnbelaaM6
import Derived.Test.YtjohablgnnbelaaM6w
namespace Go.Cf.M
open Go Go.Cf
set_option linter.unusedVariables false
-- confluencelaw18.ConfigRuns
def law18_ConfigRuns_k2 (N : Nat) (rec1 : Int → Int → (List T_api_Cmd) → Int → Int → (List Bool) → (List T_api_Map) → (List Int) → Int → Option (Bool)) (a1 : Int) (a3 : Int) (a4 : (List T_api_Cmd)) (y76 : Int) (y81 : Int) (y82 : Int) (y83 : (List Bool)) (y84 : (List T_api_Map)) (y86 : (List Int)) : Option (Bool) :=
  (rec1 a1 a3 a4 y81 y82 y83 y84 y86 (IntKind.i64.wrap (y76 + 1)))
def law18_ConfigRuns_k4 (N : Nat) (rec3 : Int → Int → (List T_api_Cmd) → Int → (Int × Int × (List Bool) × (List T_api_Map) × (List Int) × Int) → Int → Int → Option (Bool)) (a1 : Int) (a3 : Int) (a4 : (List T_api_Cmd)) (y76 : Int) (v96 : (Int × Int × (List Bool) × (List T_api_Map) × (List Int) × Int)) (y163 : Int) (x168 : T_api_Map) (y174 : Int) : Option (Bool) :=
  (Option.bind (Option.bind (idx v96.2.2.1 y163) fun x178 => (Option.bind (ref08_Check N (T_api_Map.mk x168.Cuts x168.Nodes) a3) fun x179 => (bif (!(x178 == (x179 == 0))) then (some true) else (Option.bind (idx v96.2.2.1 y163) fun x180 => (bif (!x180) then (some (decide (IntKind.i64.wrap (((x168.Nodes).length : Int) + ((x168.Cuts).length : Int)) > 0))) else (some false)))))) fun v177 => (bif v177 then (some false) else (rec3 a1 a3 a4 y76 v96 y174 (IntKind.i64.wrap (y163 + 1)))))
def law18_ConfigRuns_L6 (N : Nat) (rec5 : Int → Int → (List T_api_Cmd) → Int → (Int × Int × (List Bool) × (List T_api_Map) × (List Int) × Int) → Int → Int → Option (Bool)) : Nat → Int → Int → (List T_api_Cmd) → Int → (Int × Int × (List Bool) × (List T_api_Map) × (List Int) × Int) → Int → Int → Int → Int → Option (Bool)
  | 0, _, _, _, _, _, _, _, _, _ => none
  | fuel6 + 1, a1, a3, a4, y76, v96, y162, y236, x241, y293 => (bif decide (y293 < 21) then (Option.bind (idx v96.2.2.2.2.1 y293) fun x298 => (Option.bind (wire_Agree N x241 x298) fun x300 => (bif (x300 == 0) then (some false) else ((law18_ConfigRuns_L6 N rec5 fuel6) a1 a3 a4 y76 v96 y162 y236 x241 (IntKind.i64.wrap (y293 + 1)))))) else (rec5 a1 a3 a4 y76 v96 y162 (IntKind.i64.wrap (y236 + 1))))
def law18_ConfigRuns_L5 (N : Nat) (rec1 : Int → Int → (List T_api_Cmd) → Int → Int → (List Bool) → (List T_api_Map) → (List Int) → Int → Option (Bool)) : Nat → Int → Int → (List T_api_Cmd) → Int → (Int × Int × (List Bool) × (List T_api_Map) × (List Int) × Int) → Int → Int → Option (Bool)
  | 0, _, _, _, _, _, _, _ => none
  | fuel5 + 1, a1, a3, a4, y76, v96, y162, y236 => (bif decide (y236 < 21) then (Option.bind (idx v96.2.2.2.2.1 y236) fun x241 => (law18_ConfigRuns_L6 N (law18_ConfigRuns_L5 N rec1 fuel5) N a1 a3 a4 y76 v96 y162 y236 x241 0)) else (Option.bind (bif (y162 == 0) then (some true) else (Option.bind (config_Count N (T_config_State.mk v96.1 v96.2.1 v96.2.2.1 v96.2.2.2.1 v96.2.2.2.2.1)) fun x305 => (bif (y162 != x305) then (some true) else (bif (v96.1 != a1) then (some true) else (some (v96.2.1 != a3)))))) fun v304 => (bif v304 then (some false) else (law18_ConfigRuns_k2 N rec1 a1 a3 a4 y76 v96.1 v96.2.1 v96.2.2.1 v96.2.2.2.1 v96.2.2.2.2.1))))
def law18_ConfigRuns_L3 (N : Nat) (rec1 : Int → Int → (List T_api_Cmd) → Int → Int → (List Bool) → (List T_api_Map) → (List Int) → Int → Option (Bool)) : Nat → Int → Int → (List T_api_Cmd) → Int → (Int × Int × (List Bool) × (List T_api_Map) × (List Int) × Int) → Int → Int → Option (Bool)
  | 0, _, _, _, _, _, _, _ => none
  | fuel3 + 1, a1, a3, a4, y76, v96, y162, y163 => (bif decide (y163 < 4) then (Option.bind (idx v96.2.2.2.1 y163) fun x168 => (Option.bind (idx v96.2.2.1 y163) fun x183 => (bif x183 then (law18_ConfigRuns_k4 N (law18_ConfigRuns_L3 N rec1 fuel3) a1 a3 a4 y76 v96 y163 x168 (IntKind.i64.wrap (y162 + 1))) else (law18_ConfigRuns_k4 N (law18_ConfigRuns_L3 N rec1 fuel3) a1 a3 a4 y76 v96 y163 x168 y162)))) else (law18_ConfigRuns_L5 N rec1 N a1 a3 a4 y76 v96 y162 0))
def law18_ConfigRuns_L1 (N : Nat) : Nat → Int → Int → (List T_api_Cmd) → Int → Int → (List Bool) → (List T_api_Map) → (List Int) → Int → Option (Bool)
  | 0, _, _, _, _, _, _, _, _, _ => none
  | fuel1 + 1, a1, a3, a4, y70, y71, y72, y73, y75, y76 => (Option.bind (bif decide (y76 < ((a4).length : Int)) then (some (decide (y76 < 80))) else (some false)) fun v80 => (bif v80 then (Option.bind (Option.bind (idx a4 y76) fun x97 => (Option.bind (config_Apply N (T_config_State.mk y70 y71 y72 y73 y75) (T_api_Cmd.mk x97.Kind x97.DC x97.Shard x97.Node x97.Mode x97.Key)) fun x100 => (some (x100.1.Pool, x100.1.Nodes, x100.1.Members, x100.1.Maps, x100.1.Modes, x100.2)))) fun v96 => (bif (v96.2.2.2.2.2 != 0) then (bif (v96.1 != 0) then (some false) else (law18_ConfigRuns_k2 N (law18_ConfigRuns_L1 N fuel1) a1 a3 a4 y76 y70 y71 y72 y73 y75)) else (law18_ConfigRuns_L3 N (law18_ConfigRuns_L1 N fuel1) N a1 a3 a4 y76 v96 0 0))) else (Option.bind (law18_awake N ) fun x308 => (some x308))))
def law18_ConfigRuns (N : Nat) (a1 : Int) (a2 : Int) (a3 : Int) (a4 : (List T_api_Cmd)) : Option (Bool) :=
  (Option.bind (config_Start N a1 a2 a3) fun x9 => (bif (x9.2 != 0) then (Option.bind (Option.bind (law18_awake N ) fun x17 => (bif x17 then (some (x9.2 == 1)) else (some false))) fun v16 => (some v16)) else (law18_ConfigRuns_L1 N N a1 a3 a4 x9.1.Pool x9.1.Nodes x9.1.Members x9.1.Maps x9.1.Modes 0)))
end Go.Cf.M
