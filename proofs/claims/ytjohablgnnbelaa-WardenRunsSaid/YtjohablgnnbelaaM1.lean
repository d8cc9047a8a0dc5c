/- What the functions compute, as Lean functions (none: a panic, an empty purse, or a size that is not followed). Printed by a program of ours out of the translation. -/
import Derived.Test.YtjohablgnnbelaaTy
namespace Go.Cf.M
open Go Go.Cf
set_option linter.unusedVariables false
-- api.Place
def api_Place (N : Nat) (a1 : Int) (a2 : Int) : Option (Int) :=
  (some (IntKind.i64.wrap ((IntKind.i64.wrap ((IntKind.i64.wrap (1 + (IntKind.i64.wrap (5 * a1)))) + a2)) + 1)))
-- span.Within
def span_Within (N : Nat) (a1 : ByteArray) (a2 : ByteArray) (a3 : ByteArray) : Option (Bool) :=
  (Option.bind (bif (!sLt a1 a2) then (bif (sEq a3 (ByteArray.mk #[])) then (some true) else (some (sLt a1 a3))) else (some false)) fun v7 => (some v7))
-- confluenceref08.Within
def ref08_Within (N : Nat) (a1 : ByteArray) (a2 : ByteArray) (a3 : ByteArray) : Option (Bool) :=
  (Option.bind (bif (!(sLt a1 a2)) then (bif (sEq a3 (ByteArray.mk #[])) then (some true) else (some (sLt a1 a3))) else (some false)) fun v7 => (some v7))
-- confluencelaw08.other
def law08_other (N : Nat) (a1 : ByteArray) : Option (ByteArray) :=
  (bif (sEq a1 (ByteArray.mk #[63])) then (some (ByteArray.mk #[33])) else (some (ByteArray.mk #[63])))
-- span.Whole
def span_Whole (N : Nat) (a1 : Int) : Option (T_api_Map) :=
  (some (T_api_Map.mk ([] : List ByteArray) [a1]))
-- span.Find
def span_Find_k2 (N : Nat) (rec1 : T_api_Map → ByteArray → Int → Int → Option (Int)) (a1 : T_api_Map) (a6 : ByteArray) (y63 : Int) (y66 : Int) : Option (Int) :=
  (rec1 a1 a6 y66 (IntKind.i64.wrap (y63 + 1)))
def span_Find_L1 (N : Nat) : Nat → T_api_Map → ByteArray → Int → Int → Option (Int)
  | 0, _, _, _, _ => none
  | fuel1 + 1, a1, a6, y62, y63 => (bif decide (y63 < ((a1.Cuts).length : Int)) then (Option.bind (idx a1.Cuts y63) fun x68 => (bif (sLt x68 a6 || sEq x68 a6) then (span_Find_k2 N (span_Find_L1 N fuel1) a1 a6 y63 (IntKind.i64.wrap (y62 + 1))) else (span_Find_k2 N (span_Find_L1 N fuel1) a1 a6 y63 y62))) else (some y62))
def span_Find (N : Nat) (a1 : T_api_Map) (a6 : ByteArray) : Option (Int) :=
  (span_Find_L1 N N a1 a6 0 0)
-- confluenceref08.Find
def ref08_Find_k2 (N : Nat) (rec1 : T_api_Map → ByteArray → Int → Int → Option (Int)) (a1 : T_api_Map) (a6 : ByteArray) (y63 : Int) (y66 : Int) : Option (Int) :=
  (rec1 a1 a6 y66 (IntKind.i64.wrap (y63 + 1)))
def ref08_Find_L1 (N : Nat) : Nat → T_api_Map → ByteArray → Int → Int → Option (Int)
  | 0, _, _, _, _ => none
  | fuel1 + 1, a1, a6, y62, y63 => (bif decide (y63 < ((a1.Cuts).length : Int)) then (Option.bind (idx a1.Cuts y63) fun x68 => (bif (!(sLt a6 x68)) then (ref08_Find_k2 N (ref08_Find_L1 N fuel1) a1 a6 y63 (IntKind.i64.wrap (y62 + 1))) else (ref08_Find_k2 N (ref08_Find_L1 N fuel1) a1 a6 y63 y62))) else (some y62))
def ref08_Find (N : Nat) (a1 : T_api_Map) (a6 : ByteArray) : Option (Int) :=
  (ref08_Find_L1 N N a1 a6 0 0)
-- span.Owner
def span_Owner (N : Nat) (a1 : T_api_Map) (a6 : ByteArray) : Option (Int) :=
  (Option.bind (span_Find N (T_api_Map.mk a1.Cuts a1.Nodes) a6) fun x11 => (bif decide (x11 < ((a1.Nodes).length : Int)) then (Option.bind (idx a1.Nodes x11) fun x14 => (some x14)) else (some (-1))))
-- confluenceref08.Owner
def ref08_Owner (N : Nat) (a1 : T_api_Map) (a6 : ByteArray) : Option (Int) :=
  (Option.bind (ref08_Find N (T_api_Map.mk a1.Cuts a1.Nodes) a6) fun x10 => (bif decide (x10 ≥ ((a1.Nodes).length : Int)) then (some (-1)) else (Option.bind (idx a1.Nodes x10) fun x15 => (some x15))))
-- span.Check
def span_Check_L2 (N : Nat) : Nat → T_api_Map → Int → Int → Option (Int)
  | 0, _, _, _ => none
  | fuel2 + 1, a1, a6, y142 => (bif decide (y142 < ((a1.Nodes).length : Int)) then (Option.bind (idx a1.Nodes y142) fun x147 => (Option.bind (bif decide (x147 < 0) then (some true) else (some (decide (x147 ≥ a6)))) fun v152 => (bif v152 then (some 7) else ((span_Check_L2 N fuel2) a1 a6 (IntKind.i64.wrap (y142 + 1)))))) else (some 0))
def span_Check_L1 (N : Nat) : Nat → T_api_Map → Int → Int → Option (Int)
  | 0, _, _, _ => none
  | fuel1 + 1, a1, a6, y72 => (bif decide (y72 < ((a1.Cuts).length : Int)) then (Option.bind (idx a1.Cuts y72) fun x77 => (bif decide (((x77).size : Int) > 16) then (some 6) else (Option.bind (bif (sEq x77 (ByteArray.mk #[])) then (some true) else (bif decide (y72 > 0) then (Option.bind (idx a1.Cuts (IntKind.i64.wrap (y72 - 1))) fun x86 => (some (!sLt x86 x77))) else (some false))) fun v85 => (bif v85 then (some 3) else ((span_Check_L1 N fuel1) a1 a6 (IntKind.i64.wrap (y72 + 1))))))) else (span_Check_L2 N N a1 a6 0))
def span_Check (N : Nat) (a1 : T_api_Map) (a6 : Int) : Option (Int) :=
  (Option.bind (bif decide (a6 < 1) then (some true) else (some (decide (a6 > 4)))) fun v12 => (bif v12 then (some 1) else (bif decide (((a1.Nodes).length : Int) > 8) then (some 9) else (bif (((a1.Nodes).length : Int) != IntKind.i64.wrap (((a1.Cuts).length : Int) + 1)) then (some 3) else (span_Check_L1 N N a1 a6 0)))))
-- confluenceref08.Check
def ref08_Check_L2 (N : Nat) : Nat → T_api_Map → Int → Int → Option (Int)
  | 0, _, _, _ => none
  | fuel2 + 1, a1, a6, y145 => (bif decide (y145 < ((a1.Nodes).length : Int)) then (Option.bind (Option.bind (idx a1.Nodes y145) fun x152 => (bif decide (x152 < 0) then (some true) else (Option.bind (idx a1.Nodes y145) fun x155 => (some (decide (x155 ≥ a6)))))) fun v151 => (bif v151 then (some 7) else ((ref08_Check_L2 N fuel2) a1 a6 (IntKind.i64.wrap (y145 + 1))))) else (some 0))
def ref08_Check_L1 (N : Nat) : Nat → T_api_Map → Int → ByteArray → Int → Option (Int)
  | 0, _, _, _, _ => none
  | fuel1 + 1, a1, a6, y73, y74 => (bif decide (y74 < ((a1.Cuts).length : Int)) then (Option.bind (idx a1.Cuts y74) fun x80 => (bif decide (((x80).size : Int) > 16) then (some 6) else (Option.bind (idx a1.Cuts y74) fun x86 => (bif (sLt x86 y73 || sEq x86 y73) then (some 3) else (Option.bind (idx a1.Cuts y74) fun x90 => ((ref08_Check_L1 N fuel1) a1 a6 x90 (IntKind.i64.wrap (y74 + 1)))))))) else (ref08_Check_L2 N N a1 a6 0))
def ref08_Check (N : Nat) (a1 : T_api_Map) (a6 : Int) : Option (Int) :=
  (Option.bind (bif decide (a6 < 1) then (some true) else (some (decide (a6 > 4)))) fun v12 => (bif v12 then (some 1) else (bif decide (((a1.Nodes).length : Int) > 8) then (some 9) else (bif (((a1.Nodes).length : Int) != IntKind.i64.wrap (((a1.Cuts).length : Int) + 1)) then (some 3) else (ref08_Check_L1 N N a1 a6 (ByteArray.mk #[]) 0)))))
-- confluencelaw08.great
def law08_great (N : Nat) (a1 : T_api_Map) : Option (Bool) :=
  (Option.bind (bif decide (((a1.Cuts).length : Int) > 300) then (some true) else (some (decide (((a1.Nodes).length : Int) > 300)))) fun v10 => (some v10))
end Go.Cf.M
