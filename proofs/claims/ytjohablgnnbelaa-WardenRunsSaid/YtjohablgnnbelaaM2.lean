/- What the functions compute, as Lean functions (none: a panic, an empty purse, or a size that is not followed). Printed by a program of ours out of the translation. -/
import Derived.Test.YtjohablgnnbelaaM1
namespace Go.Cf.M
open Go Go.Cf
set_option linter.unusedVariables false
-- confluenceref08.Same
def ref08_Same_L2 (N : Nat) : Nat → T_api_Map → T_api_Map → Int → Option (Bool)
  | 0, _, _, _ => none
  | fuel2 + 1, a1, a6, y135 => (bif decide (y135 < ((a1.Nodes).length : Int)) then (Option.bind (idx a1.Nodes y135) fun x140 => (Option.bind (idx a6.Nodes y135) fun x143 => (bif (x140 != x143) then (some false) else ((ref08_Same_L2 N fuel2) a1 a6 (IntKind.i64.wrap (y135 + 1)))))) else (some true))
def ref08_Same_L1 (N : Nat) : Nat → T_api_Map → T_api_Map → Int → Option (Bool)
  | 0, _, _, _ => none
  | fuel1 + 1, a1, a6, y71 => (bif decide (y71 < ((a1.Cuts).length : Int)) then (Option.bind (idx a1.Cuts y71) fun x76 => (Option.bind (idx a6.Cuts y71) fun x79 => (bif (!sEq x76 x79) then (some false) else ((ref08_Same_L1 N fuel1) a1 a6 (IntKind.i64.wrap (y71 + 1)))))) else (ref08_Same_L2 N N a1 a6 0))
def ref08_Same (N : Nat) (a1 : T_api_Map) (a6 : T_api_Map) : Option (Bool) :=
  (Option.bind (bif (((a1.Cuts).length : Int) != ((a6.Cuts).length : Int)) then (some true) else (some (((a1.Nodes).length : Int) != ((a6.Nodes).length : Int)))) fun v17 => (bif v17 then (some false) else (ref08_Same_L1 N N a1 a6 0)))
-- confluenceref08.Ends
def ref08_Ends_k2 (N : Nat) (y15 : ByteArray) (y16 : ByteArray) : Option (ByteArray × ByteArray × Bool) :=
  (some (y15, y16, true))
def ref08_Ends_k1 (N : Nat) (a1 : T_api_Map) (a6 : Int) (y15 : ByteArray) : Option (ByteArray × ByteArray × Bool) :=
  (bif decide (a6 < ((a1.Cuts).length : Int)) then (Option.bind (idx a1.Cuts a6) fun x19 => (ref08_Ends_k2 N y15 x19)) else (ref08_Ends_k2 N y15 (ByteArray.mk #[])))
def ref08_Ends (N : Nat) (a1 : T_api_Map) (a6 : Int) : Option (ByteArray × ByteArray × Bool) :=
  (Option.bind (bif (((a1.Nodes).length : Int) != IntKind.i64.wrap (((a1.Cuts).length : Int) + 1)) then (some true) else (bif decide (a6 < 0) then (some true) else (some (decide (a6 ≥ ((a1.Nodes).length : Int)))))) fun v12 => (bif v12 then (some ((ByteArray.mk #[]), (ByteArray.mk #[]), false)) else (bif decide (a6 > 0) then (Option.bind (idx a1.Cuts (IntKind.i64.wrap (a6 - 1))) fun x23 => (ref08_Ends_k1 N a1 a6 x23)) else (ref08_Ends_k1 N a1 a6 (ByteArray.mk #[])))))
-- confluenceref08.Copy
def ref08_Copy (N : Nat) (a1 : T_api_Map) : Option (T_api_Map) :=
  (Option.bind (Option.bind (apd ([] : List ByteArray) a1.Cuts) fun x18 => (Option.bind (apd ([] : List Int) a1.Nodes) fun x22 => (some (x18, x22)))) fun v16 => (some (T_api_Map.mk v16.1 v16.2)))
-- span.Copy
def span_Copy (N : Nat) (a1 : T_api_Map) : Option (T_api_Map) :=
  (Option.bind (apd ([] : List ByteArray) a1.Cuts) fun x10 => (Option.bind (apd ([] : List Int) a1.Nodes) fun x13 => (some (T_api_Map.mk x10 x13))))
-- confluenceref08.Split
def ref08_Split_k2 (N : Nat) (rec1 : T_api_Map → Int → ByteArray → (List ByteArray) → (List Int) → Int → Option (T_api_Map × Int)) (a1 : T_api_Map) (a7 : Int) (a8 : ByteArray) (y91 : Int) (y94 : (List ByteArray)) (y97 : (List Int)) : Option (T_api_Map × Int) :=
  (rec1 a1 a7 a8 y94 y97 (IntKind.i64.wrap (y91 + 1)))
def ref08_Split_k3 (N : Nat) (rec1 : T_api_Map → Int → ByteArray → (List ByteArray) → (List Int) → Int → Option (T_api_Map × Int)) (a1 : T_api_Map) (a7 : Int) (a8 : ByteArray) (y91 : Int) (y108 : (List ByteArray)) (y111 : (List Int)) : Option (T_api_Map × Int) :=
  (bif decide (y91 < ((a1.Cuts).length : Int)) then (Option.bind (idx a1.Cuts y91) fun x115 => (Option.bind (apd y108 [x115]) fun x119 => (ref08_Split_k2 N rec1 a1 a7 a8 y91 x119 y111))) else (ref08_Split_k2 N rec1 a1 a7 a8 y91 y108 y111))
def ref08_Split_L1 (N : Nat) : Nat → T_api_Map → Int → ByteArray → (List ByteArray) → (List Int) → Int → Option (T_api_Map × Int)
  | 0, _, _, _, _, _, _ => none
  | fuel1 + 1, a1, a7, a8, y85, y88, y91 => (bif decide (y91 < ((a1.Nodes).length : Int)) then (Option.bind (idx a1.Nodes y91) fun x101 => (Option.bind (apd y88 [x101]) fun x105 => (bif (y91 == a7) then (Option.bind (idx a1.Nodes y91) fun x124 => (Option.bind (apd x105 [x124]) fun x128 => (Option.bind (apd y85 [a8]) fun x132 => (ref08_Split_k3 N (ref08_Split_L1 N fuel1) a1 a7 a8 y91 x132 x128)))) else (ref08_Split_k3 N (ref08_Split_L1 N fuel1) a1 a7 a8 y91 y85 x105)))) else (some ((T_api_Map.mk y85 y88), 0)))
def ref08_Split (N : Nat) (a1 : T_api_Map) (a6 : Int) (a7 : Int) (a8 : ByteArray) : Option (T_api_Map × Int) :=
  (Option.bind (ref08_Check N (T_api_Map.mk a1.Cuts a1.Nodes) a6) fun x14 => (bif (x14 != 0) then (some ((T_api_Map.mk ([] : List ByteArray) ([] : List Int)), x14)) else (Option.bind (ref08_Ends N (T_api_Map.mk a1.Cuts a1.Nodes) a7) fun x18 => (bif (!x18.2.2) then (some ((T_api_Map.mk ([] : List ByteArray) ([] : List Int)), 7)) else (Option.bind (bif decide (((a8).size : Int) > 16) then (some true) else (Option.bind (ref08_Within N a8 x18.1 x18.2.1) fun x26 => (bif (!x26) then (some true) else (some (sEq a8 x18.1))))) fun v25 => (bif v25 then (some ((T_api_Map.mk ([] : List ByteArray) ([] : List Int)), 14)) else (bif decide (((a1.Nodes).length : Int) ≥ 8) then (some ((T_api_Map.mk ([] : List ByteArray) ([] : List Int)), 9)) else (ref08_Split_L1 N N a1 a7 a8 ([] : List ByteArray) ([] : List Int) 0))))))))
-- confluenceref08.Merge
def ref08_Merge_k2 (N : Nat) (rec1 : T_api_Map → Int → (List ByteArray) → (List Int) → Int → Option (T_api_Map × Int)) (a1 : T_api_Map) (a7 : Int) (y90 : Int) (y93 : (List ByteArray)) (y96 : (List Int)) : Option (T_api_Map × Int) :=
  (rec1 a1 a7 y93 y96 (IntKind.i64.wrap (y90 + 1)))
def ref08_Merge_k3 (N : Nat) (rec1 : T_api_Map → Int → (List ByteArray) → (List Int) → Int → Option (T_api_Map × Int)) (a1 : T_api_Map) (a7 : Int) (y84 : (List ByteArray)) (y90 : Int) (y99 : (List Int)) : Option (T_api_Map × Int) :=
  (Option.bind (bif decide (y90 < ((a1.Cuts).length : Int)) then (some (y90 != a7)) else (some false)) fun v104 => (bif v104 then (Option.bind (idx a1.Cuts y90) fun x105 => (Option.bind (apd y84 [x105]) fun x109 => (ref08_Merge_k2 N rec1 a1 a7 y90 x109 y99))) else (ref08_Merge_k2 N rec1 a1 a7 y90 y84 y99)))
def ref08_Merge_L1 (N : Nat) : Nat → T_api_Map → Int → (List ByteArray) → (List Int) → Int → Option (T_api_Map × Int)
  | 0, _, _, _, _, _ => none
  | fuel1 + 1, a1, a7, y84, y87, y90 => (bif decide (y90 < ((a1.Nodes).length : Int)) then (bif (y90 != a7) then (Option.bind (idx a1.Nodes y90) fun x113 => (Option.bind (apd y87 [x113]) fun x117 => (ref08_Merge_k3 N (ref08_Merge_L1 N fuel1) a1 a7 y84 y90 x117))) else (ref08_Merge_k3 N (ref08_Merge_L1 N fuel1) a1 a7 y84 y90 y87)) else (some ((T_api_Map.mk y84 y87), 0)))
def ref08_Merge (N : Nat) (a1 : T_api_Map) (a6 : Int) (a7 : Int) : Option (T_api_Map × Int) :=
  (Option.bind (ref08_Check N (T_api_Map.mk a1.Cuts a1.Nodes) a6) fun x13 => (bif (x13 != 0) then (some ((T_api_Map.mk ([] : List ByteArray) ([] : List Int)), x13)) else (Option.bind (bif decide (a7 < 0) then (some true) else (some (decide (a7 ≥ ((a1.Cuts).length : Int))))) fun v19 => (bif v19 then (some ((T_api_Map.mk ([] : List ByteArray) ([] : List Int)), 7)) else (Option.bind (idx a1.Nodes a7) fun x23 => (Option.bind (idx a1.Nodes (IntKind.i64.wrap (a7 + 1))) fun x26 => (bif (x23 != x26) then (some ((T_api_Map.mk ([] : List ByteArray) ([] : List Int)), 18)) else (ref08_Merge_L1 N N a1 a7 ([] : List ByteArray) ([] : List Int) 0))))))))
end Go.Cf.M
