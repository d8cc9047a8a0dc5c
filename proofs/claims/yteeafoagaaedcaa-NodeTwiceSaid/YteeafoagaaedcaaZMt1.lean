/- What the functions compute, as Lean functions (none: a panic, an empty purse, or a size that is not followed). Printed by a program of ours out of the translation. -/
import Derived.Test.YteeafoagaaedcaaZK2
namespace Go.Cf.M
open Go Go.Cf
set_option linter.unusedVariables false
noncomputable section
def store_Check (N : Nat) (a1 : T_api_Ver) : Option (Int) :=
  (Option.bind (bif decide (((a1.Key).size : Int) > 16) then (some true) else (some (decide (((a1.Val).size : Int) > 64)))) fun v7 => (bif v7 then (some 6) else (Option.bind (bif (sEq a1.Key (ByteArray.mk #[])) then (some true) else (bif a1.Gone then (bif (!sEq a1.Val (ByteArray.mk #[])) then (some true) else (bif decide (a1.DC < 0) then (some true) else (bif decide (a1.DC ≥ 4) then (some true) else (bif decide (a1.Tx < 0) then (some true) else (some (decide (a1.Tx > 1073741824))))))) else (bif decide (a1.DC < 0) then (some true) else (bif decide (a1.DC ≥ 4) then (some true) else (bif decide (a1.Tx < 0) then (some true) else (some (decide (a1.Tx > 1073741824)))))))) fun v12 => (bif v12 then (some 1) else (some 0)))))
def store_New (N : Nat)  : Option (T_store_Store) :=
  (some (T_store_Store.mk (some []) 0))
def span_Within (N : Nat) (a1 : ByteArray) (a2 : ByteArray) (a3 : ByteArray) : Option (Bool) :=
  (Option.bind (bif (!sLt a1 a2) then (bif (sEq a3 (ByteArray.mk #[])) then (some true) else (some (sLt a1 a3))) else (some false)) fun v7 => (some v7))
def hlc_Of (N : Nat) (a1 : T_api_Ver) : Option (T_api_Mark) :=
  (some (T_api_Mark.mk a1.TS a1.DC a1.Tx))
def hlc_sign (N : Nat) (a1 : Bool) : Option (Int) :=
  (bif a1 then (some (-1)) else (some 1))
def hlc_Cmp (N : Nat) (a1 : T_api_Mark) (a2 : T_api_Mark) : Option (Int) :=
  (bif (a1.TS != a2.TS) then (Option.bind (hlc_sign N (decide (a1.TS < a2.TS))) fun x9 => (some x9)) else (bif (a1.DC != a2.DC) then (Option.bind (hlc_sign N (decide (a1.DC < a2.DC))) fun x12 => (some x12)) else (bif (a1.Tx != a2.Tx) then (Option.bind (hlc_sign N (decide (a1.Tx < a2.Tx))) fun x15 => (some x15)) else (some 0))))
def hlc_after (N : Nat) (a1 : Int) (a2 : Int) : Option (Int × Int) :=
  (Option.bind (bif decide (a2 < 0) then (some true) else (some (decide (a2 > 281474976710655)))) fun v7 => (bif v7 then (some (0, 1)) else (bif decide (IntKind.u64.wrap ((IntKind.u64.wrap a2) * 2 ^ 16) > a1) then (some (IntKind.u64.wrap ((IntKind.u64.wrap a2) * 2 ^ 16), 0)) else (bif (IntKind.u64.wrap (a1 + 1) == 0) then (some (0, 10)) else (some (IntKind.u64.wrap (a1 + 1), 0))))))
def chain_at_k2 (N : Nat) (rec1 : (List T_api_Ver) → Int → Int → Int → Option (Int)) (a1 : (List T_api_Ver)) (a4 : Int) (y60 : Int) (y63 : Int) : Option (Int) :=
  (rec1 a1 a4 y63 (IntKind.i64.wrap (y60 + 1)))
def chain_at_L1 (N : Nat) : Nat → (List T_api_Ver) → Int → Int → Int → Option (Int)
  | 0, _, _, _, _ => none
  | fuel1 + 1, a1, a4, y59, y60 => (bif decide (y60 < ((a1).length : Int)) then (Option.bind (idx a1 y60) fun x65 => (Option.bind (bif decide (x65.TS ≤ a4) then (bif decide (y59 < 0) then (some true) else (Option.bind (idx a1 y59) fun x74 => (Option.bind (hlc_Of N (T_api_Ver.mk x74.Key x74.Val x74.Gone x74.TS x74.DC x74.Tx)) fun x77 => (Option.bind (hlc_Of N (T_api_Ver.mk x65.Key x65.Val x65.Gone x65.TS x65.DC x65.Tx)) fun x78 => (Option.bind (hlc_Cmp N (T_api_Mark.mk x77.TS x77.DC x77.Tx) (T_api_Mark.mk x78.TS x78.DC x78.Tx)) fun x79 => (some (decide (x79 < 0)))))))) else (some false)) fun v71 => (bif v71 then (chain_at_k2 N (chain_at_L1 N fuel1) a1 a4 y60 y60) else (chain_at_k2 N (chain_at_L1 N fuel1) a1 a4 y60 y59)))) else (some y59))
def chain_at (N : Nat) (a1 : (List T_api_Ver)) (a4 : Int) : Option (Int) :=
  (chain_at_L1 N N a1 a4 (-1) 0)
def chain_At (N : Nat) (a1 : (List T_api_Ver)) (a4 : Int) : Option (T_api_Ver × Bool) :=
  (Option.bind (chain_at N a1 a4) fun x9 => (bif decide (x9 ≥ 0) then (Option.bind (idx a1 x9) fun x12 => (some ((T_api_Ver.mk x12.Key x12.Val x12.Gone x12.TS x12.DC x12.Tx), true))) else (some ((T_api_Ver.mk ByteArray.empty ByteArray.empty false 0 0 0), false))))
def chain_Put_k2 (N : Nat) (rec1 : (List T_api_Ver) → T_api_Ver → Int → Int → Option ((List T_api_Ver) × Int)) (a1 : (List T_api_Ver)) (a4 : T_api_Ver) (y61 : Int) (y64 : Int) : Option ((List T_api_Ver) × Int) :=
  (rec1 a1 a4 y64 (IntKind.i64.wrap (y61 + 1)))
def chain_Put_k3 (N : Nat) (a1 : (List T_api_Ver)) (a4 : T_api_Ver) (y85 : Int) : Option ((List T_api_Ver) × Int) :=
  (Option.bind (mkc (IntKind.i64.wrap (((a1).length : Int) + 1))) fun x87 => (Option.bind (Option.bind (slc a1 0 y85) fun x94 => (Option.bind (apd ([] : List T_api_Ver) x94) fun x97 => (Option.bind (apd x97 [(T_api_Ver.mk a4.Key a4.Val a4.Gone a4.TS a4.DC a4.Tx)]) fun x101 => (some x101)))) fun v93 => (Option.bind (slc a1 y85 ((a1).length : Int)) fun x105 => (Option.bind (apd v93 x105) fun x108 => (some (x108, 0))))))
def chain_Put_L1 (N : Nat) : Nat → (List T_api_Ver) → T_api_Ver → Int → Int → Option ((List T_api_Ver) × Int)
  | 0, _, _, _, _ => none
  | fuel1 + 1, a1, a4, y60, y61 => (bif decide (y61 < ((a1).length : Int)) then (Option.bind (idx a1 y61) fun x66 => (Option.bind (hlc_Of N (T_api_Ver.mk x66.Key x66.Val x66.Gone x66.TS x66.DC x66.Tx)) fun x71 => (Option.bind (hlc_Of N (T_api_Ver.mk a4.Key a4.Val a4.Gone a4.TS a4.DC a4.Tx)) fun x72 => (Option.bind (hlc_Cmp N (T_api_Mark.mk x71.TS x71.DC x71.Tx) (T_api_Mark.mk x72.TS x72.DC x72.Tx)) fun x73 => (Option.bind (bif (x73 == 0) then (some (cEq (flat [(1, [.string (x66.Key)]), (1, [.string (x66.Val)]), (1, [.bool (x66.Gone)]), (1, [.int .u64 (x66.TS)]), (1, [.int .i64 (x66.DC)]), (1, [.int .i64 (x66.Tx)])]) (flat [(1, [.string (a4.Key)]), (1, [.string (a4.Val)]), (1, [.bool (a4.Gone)]), (1, [.int .u64 (a4.TS)]), (1, [.int .i64 (a4.DC)]), (1, [.int .i64 (a4.Tx)])]))) else (some false)) fun v77 => (bif v77 then (some (([] : List T_api_Ver), 8)) else (bif (x73 == 0) then (some (([] : List T_api_Ver), 3)) else (Option.bind (bif decide (x73 > 0) then (some (decide (y60 < 0))) else (some false)) fun v84 => (bif v84 then (chain_Put_k2 N (chain_Put_L1 N fuel1) a1 a4 y61 y61) else (chain_Put_k2 N (chain_Put_L1 N fuel1) a1 a4 y61 y60)))))))))) else (bif decide (y60 < 0) then (chain_Put_k3 N a1 a4 ((a1).length : Int)) else (chain_Put_k3 N a1 a4 y60)))
def chain_Put (N : Nat) (a1 : (List T_api_Ver)) (a4 : T_api_Ver) : Option ((List T_api_Ver) × Int) :=
  (chain_Put_L1 N N a1 a4 (-1) 0)
def chain_Trim_k2 (N : Nat) (rec1 : (List T_api_Ver) → (Int) → (List T_api_Ver) → Int → Option ((List T_api_Ver) × Int)) (a1 : (List T_api_Ver)) (x7 : (Int)) (y64 : Int) (y67 : (List T_api_Ver)) : Option ((List T_api_Ver) × Int) :=
  (rec1 a1 x7 y67 (IntKind.i64.wrap (y64 + 1)))
def chain_Trim_L1 (N : Nat) : Nat → (List T_api_Ver) → (Int) → (List T_api_Ver) → Int → Option ((List T_api_Ver) × Int)
  | 0, _, _, _, _ => none
  | fuel1 + 1, a1, x7, y61, y64 => (bif decide (y64 < ((a1).length : Int)) then (Option.bind (idx a1 y64) fun x71 => (Option.bind (bif decide (x7 < 0) then (some true) else (Option.bind (hlc_Of N (T_api_Ver.mk x71.Key x71.Val x71.Gone x71.TS x71.DC x71.Tx)) fun x79 => (Option.bind (idx a1 x7) fun x80 => (Option.bind (hlc_Of N (T_api_Ver.mk x80.Key x80.Val x80.Gone x80.TS x80.DC x80.Tx)) fun x83 => (Option.bind (hlc_Cmp N (T_api_Mark.mk x79.TS x79.DC x79.Tx) (T_api_Mark.mk x83.TS x83.DC x83.Tx)) fun x84 => (some (decide (x84 ≥ 0)))))))) fun v77 => (bif v77 then (Option.bind (apd y61 [(T_api_Ver.mk x71.Key x71.Val x71.Gone x71.TS x71.DC x71.Tx)]) fun x86 => (chain_Trim_k2 N (chain_Trim_L1 N fuel1) a1 x7 y64 x86)) else (chain_Trim_k2 N (chain_Trim_L1 N fuel1) a1 x7 y64 y61)))) else (some (y61, IntKind.i64.wrap (((a1).length : Int) - ((y61).length : Int)))))
def chain_Trim (N : Nat) (a1 : (List T_api_Ver)) (a4 : Int) : Option ((List T_api_Ver) × Int) :=
  (Option.bind (chain_at N a1 a4) fun x7 => (chain_Trim_L1 N N a1 x7 ([] : List T_api_Ver) 0))
end
end Go.Cf.M
