/- What the functions compute, as Lean functions (none: a panic, an empty purse, or a size that is not followed). Printed by a program of ours out of the translation. -/
import Derived.Test.YtjohablgnnbelaaM1
import Derived.Test.YtjohablgnnbelaaM2
namespace Go.Cf.M
open Go Go.Cf
set_option linter.unusedVariables false
-- config.Start
def config_Start_L3 (N : Nat) (rec2 : Int → Int → Int → (List Bool) → (List T_api_Map) → (List Int) → Int → Option (T_config_State × Int)) : Nat → Int → Int → Int → (List Bool) → (List T_api_Map) → Int → (T_api_Map) → (List Int) → Int → Option (T_config_State × Int)
  | 0, _, _, _, _, _, _, _, _, _ => none
  | fuel3 + 1, a1, a2, a3, y124, y125, y128, x136, y193, y194 => (bif decide (y194 < a3) then (Option.bind (api_Place N y128 y194) fun x198 => (Option.bind (idx y193 x198) fun x199 => ((config_Start_L3 N rec2 fuel3) a1 a2 a3 y124 y125 y128 x136 (List.set y193 (Int.toNat x198) 1) (IntKind.i64.wrap (y194 + 1))))) else (rec2 a1 a2 a3 (List.set y124 (Int.toNat y128) true) (List.set y125 (Int.toNat y128) (T_api_Map.mk x136.Cuts x136.Nodes)) y193 (IntKind.i64.wrap (y128 + 1))))
def config_Start_L2 (N : Nat) : Nat → Int → Int → Int → (List Bool) → (List T_api_Map) → (List Int) → Int → Option (T_config_State × Int)
  | 0, _, _, _, _, _, _, _ => none
  | fuel2 + 1, a1, a2, a3, y124, y125, y127, y128 => (bif decide (y128 < a2) then (Option.bind (idx y124 y128) fun x134 => (Option.bind (span_Whole N 0) fun x136 => (Option.bind (idx y125 y128) fun x141 => (config_Start_L3 N (config_Start_L2 N fuel2) N a1 a2 a3 y124 y125 y128 x136 y127 (-1))))) else (some ((T_config_State.mk a1 a3 y124 y125 y127), 0)))
def config_Start_L1 (N : Nat) : Nat → Int → Int → Int → (List Int) → Int → Option (T_config_State × Int)
  | 0, _, _, _, _, _ => none
  | fuel1 + 1, a1, a2, a3, y65, y66 => (bif decide (y66 < 21) then (Option.bind (idx y65 y66) fun x71 => ((config_Start_L1 N fuel1) a1 a2 a3 (List.set y65 (Int.toNat y66) 2) (IntKind.i64.wrap (y66 + 1)))) else (config_Start_L2 N N a1 a2 a3 (List.replicate 4 false) (List.replicate 4 (T_api_Map.mk ([] : List ByteArray) ([] : List Int))) y65 0))
def config_Start (N : Nat) (a1 : Int) (a2 : Int) (a3 : Int) : Option (T_config_State × Int) :=
  (Option.bind (bif decide (a1 < 1) then (some true) else (bif decide (a1 > 4) then (some true) else (bif decide (a2 < 1) then (some true) else (bif decide (a2 > a1) then (some true) else (bif decide (a3 < 1) then (some true) else (some (decide (a3 > 4)))))))) fun v9 => (bif v9 then (some ((T_config_State.mk 0 0 (List.replicate 4 false) (List.replicate 4 (T_api_Map.mk ([] : List ByteArray) ([] : List Int))) (List.replicate 21 0)), 1)) else (config_Start_L1 N N a1 a2 a3 (List.replicate 21 0) 0)))
-- confluenceref18.Start
def ref18_Start_k2 (N : Nat) (rec1 : Int → Int → Int → (List Int) → Int → Option (T_ref18_State × Int)) (a1 : Int) (a2 : Int) (a3 : Int) (y66 : Int) (y69 : (List Int)) : Option (T_ref18_State × Int) :=
  (rec1 a1 a2 a3 y69 (IntKind.i64.wrap (y66 + 1)))
def ref18_Start_L3 (N : Nat) : Nat → Int → Int → Int → (List Int) → (List Bool) → (List T_api_Map) → Int → Option (T_ref18_State × Int)
  | 0, _, _, _, _, _, _, _ => none
  | fuel3 + 1, a1, a2, a3, y65, y128, y129, y131 => (bif decide (y131 < a2) then (Option.bind (idx y128 y131) fun x136 => (Option.bind (idx y129 y131) fun x138 => ((ref18_Start_L3 N fuel3) a1 a2 a3 y65 (List.set y128 (Int.toNat y131) true) (List.set y129 (Int.toNat y131) (T_api_Map.mk ([] : List ByteArray) [0])) (IntKind.i64.wrap (y131 + 1))))) else (some ((T_ref18_State.mk a1 a3 y128 y129 y65), 0)))
def ref18_Start_L1 (N : Nat) : Nat → Int → Int → Int → (List Int) → Int → Option (T_ref18_State × Int)
  | 0, _, _, _, _, _ => none
  | fuel1 + 1, a1, a2, a3, y65, y66 => (bif decide (y66 ≤ 20) then (Option.bind (idx y65 y66) fun x71 => (Option.bind (bif decide (y66 > 0) then (bif decide (IntKind.i64.wrap (Int.tdiv (IntKind.i64.wrap (y66 - 1)) 5) < a2) then (some (decide (Int.tmod (IntKind.i64.wrap (y66 - 1)) 5 ≤ a3))) else (some false)) else (some false)) fun v74 => (bif v74 then (Option.bind (idx (List.set y65 (Int.toNat y66) 2) y66) fun x75 => (ref18_Start_k2 N (ref18_Start_L1 N fuel1) a1 a2 a3 y66 (List.set (List.set y65 (Int.toNat y66) 2) (Int.toNat y66) 1))) else (ref18_Start_k2 N (ref18_Start_L1 N fuel1) a1 a2 a3 y66 (List.set y65 (Int.toNat y66) 2))))) else (ref18_Start_L3 N N a1 a2 a3 y65 (List.replicate 4 false) (List.replicate 4 (T_api_Map.mk ([] : List ByteArray) ([] : List Int))) 0))
def ref18_Start (N : Nat) (a1 : Int) (a2 : Int) (a3 : Int) : Option (T_ref18_State × Int) :=
  (Option.bind (bif decide (a1 < 1) then (some true) else (bif decide (a1 > 4) then (some true) else (bif decide (a2 < 1) then (some true) else (bif decide (a2 > a1) then (some true) else (bif decide (a3 < 1) then (some true) else (some (decide (a3 > 4)))))))) fun v9 => (bif v9 then (some ((T_ref18_State.mk 0 0 (List.replicate 4 false) (List.replicate 4 (T_api_Map.mk ([] : List ByteArray) ([] : List Int))) (List.replicate 21 0)), 1)) else (ref18_Start_L1 N N a1 a2 a3 (List.replicate 21 0) 0)))
-- config.Count
def config_Count_k2 (N : Nat) (rec1 : T_config_State → Int → Int → Option (Int)) (a1 : T_config_State) (y59 : Int) (y62 : Int) : Option (Int) :=
  (rec1 a1 y62 (IntKind.i64.wrap (y59 + 1)))
def config_Count_L1 (N : Nat) : Nat → T_config_State → Int → Int → Option (Int)
  | 0, _, _, _ => none
  | fuel1 + 1, a1, y58, y59 => (bif decide (y59 < 4) then (Option.bind (idx a1.Members y59) fun x64 => (bif x64 then (config_Count_k2 N (config_Count_L1 N fuel1) a1 y59 (IntKind.i64.wrap (y58 + 1))) else (config_Count_k2 N (config_Count_L1 N fuel1) a1 y59 y58))) else (some y58))
def config_Count (N : Nat) (a1 : T_config_State) : Option (Int) :=
  (config_Count_L1 N N a1 0 0)
-- confluenceref18.Count
def ref18_Count_k2 (N : Nat) (rec1 : T_ref18_State → Int → Int → Option (Int)) (a1 : T_ref18_State) (y59 : Int) (y62 : Int) : Option (Int) :=
  (rec1 a1 y62 (IntKind.i64.wrap (y59 + 1)))
def ref18_Count_L1 (N : Nat) : Nat → T_ref18_State → Int → Int → Option (Int)
  | 0, _, _, _ => none
  | fuel1 + 1, a1, y58, y59 => (bif decide (y59 < 4) then (Option.bind (idx a1.Members y59) fun x64 => (bif x64 then (ref18_Count_k2 N (ref18_Count_L1 N fuel1) a1 y59 (IntKind.i64.wrap (y58 + 1))) else (ref18_Count_k2 N (ref18_Count_L1 N fuel1) a1 y59 y58))) else (some y58))
def ref18_Count (N : Nat) (a1 : T_ref18_State) : Option (Int) :=
  (ref18_Count_L1 N N a1 0 0)
-- confluencelaw18.Told
def law18_Told (N : Nat) (a1 : T_config_State) : Option (T_ref18_State) :=
  (some (T_ref18_State.mk a1.Pool a1.Nodes a1.Members a1.Maps a1.Modes))
-- confluenceref18.Same
def ref18_Same_L1 (N : Nat) : Nat → T_ref18_State → T_ref18_State → Int → Option (Bool)
  | 0, _, _, _ => none
  | fuel1 + 1, a1, a3, y65 => (bif decide (y65 < 4) then (Option.bind (idx a1.Maps y65) fun x70 => (Option.bind (idx a3.Maps y65) fun x75 => (Option.bind (ref08_Same N (T_api_Map.mk x70.Cuts x70.Nodes) (T_api_Map.mk x75.Cuts x75.Nodes)) fun x80 => (bif (!x80) then (some false) else ((ref18_Same_L1 N fuel1) a1 a3 (IntKind.i64.wrap (y65 + 1))))))) else (some true))
def ref18_Same (N : Nat) (a1 : T_ref18_State) (a3 : T_ref18_State) : Option (Bool) :=
  (Option.bind (bif (a1.Pool != a3.Pool) then (some true) else (bif (a1.Nodes != a3.Nodes) then (some true) else (bif (!(cEq (flat [(4, (encs fBool a1.Members))]) (flat [(4, (encs fBool a3.Members))]))) then (some true) else (some (!(cEq (flat [(21, (encs (fInt .i64) a1.Modes))]) (flat [(21, (encs (fInt .i64) a3.Modes))]))))))) fun v11 => (bif v11 then (some false) else (ref18_Same_L1 N N a1 a3 0)))
-- confluencelaw18.Same
def law18_Same (N : Nat) (a1 : T_config_State) (a3 : T_ref18_State) : Option (Bool) :=
  (Option.bind (law18_Told N (T_config_State.mk a1.Pool a1.Nodes a1.Members a1.Maps a1.Modes)) fun x9 => (Option.bind (ref18_Same N (T_ref18_State.mk x9.Pool x9.Nodes x9.Members x9.Maps x9.Modes) (T_ref18_State.mk a3.Pool a3.Nodes a3.Members a3.Maps a3.Modes)) fun x11 => (some x11)))
-- confluencelaw18.awake
def law18_awake (N : Nat)  : Option (Bool) :=
  (Option.bind (config_Start N 2 1 2) fun x3 => (Option.bind (bif (x3.2 == 0) then (bif (x3.1.Pool == 2) then (Option.bind (idx x3.1.Members 0) fun x9 => (bif x9 then (Option.bind (idx x3.1.Members 1) fun x10 => (some (!x10))) else (some false))) else (some false)) else (some false)) fun v8 => (some v8)))
-- confluencelaw18.ConfigStarts
def law18_ConfigStarts (N : Nat) (a1 : Int) (a2 : Int) (a3 : Int) : Option (Bool) :=
  (Option.bind (config_Start N a1 a2 a3) fun x6 => (Option.bind (ref18_Start N a1 a2 a3) fun x10 => (Option.bind (Option.bind (law18_awake N ) fun x16 => (bif x16 then (bif (x6.2 == x10.2) then (Option.bind (law18_Same N (T_config_State.mk x6.1.Pool x6.1.Nodes x6.1.Members x6.1.Maps x6.1.Modes) (T_ref18_State.mk x10.1.Pool x10.1.Nodes x10.1.Members x10.1.Maps x10.1.Modes)) fun x19 => (bif x19 then (Option.bind (config_Count N (T_config_State.mk x6.1.Pool x6.1.Nodes x6.1.Members x6.1.Maps x6.1.Modes)) fun x21 => (Option.bind (ref18_Count N (T_ref18_State.mk x10.1.Pool x10.1.Nodes x10.1.Members x10.1.Maps x10.1.Modes)) fun x22 => (some (x21 == x22)))) else (some false))) else (some false)) else (some false))) fun v15 => (some v15))))
end Go.Cf.M
