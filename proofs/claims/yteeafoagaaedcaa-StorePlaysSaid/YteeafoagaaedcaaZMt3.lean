/- What the functions compute, as Lean functions (none: a panic, an empty purse, or a size that is not followed). Printed by a program of ours out of the translation. -/
import Derived.Test.YteeafoagaaedcaaZMt1
namespace Go.Cf.M
open Go Go.Cf
set_option linter.unusedVariables false
noncomputable section
def ref01_Of (N : Nat) (a1 : T_api_Ver) : Option (T_api_Mark) :=
  (some (T_api_Mark.mk a1.TS a1.DC a1.Tx))
def ref01_Less (N : Nat) (a1 : T_api_Mark) (a2 : T_api_Mark) : Option (Bool) :=
  (bif (a1.TS != a2.TS) then (some (decide (a1.TS < a2.TS))) else (bif (a1.DC != a2.DC) then (some (decide (a1.DC < a2.DC))) else (some (decide (a1.Tx < a2.Tx)))))
def ref09_less (N : Nat) (a1 : T_api_Ver) (a2 : T_api_Ver) : Option (Bool) :=
  (Option.bind (ref01_Of N (T_api_Ver.mk a1.Key a1.Val a1.Gone a1.TS a1.DC a1.Tx)) fun x7 => (Option.bind (ref01_Of N (T_api_Ver.mk a2.Key a2.Val a2.Gone a2.TS a2.DC a2.Tx)) fun x8 => (Option.bind (ref01_Less N (T_api_Mark.mk x7.TS x7.DC x7.Tx) (T_api_Mark.mk x8.TS x8.DC x8.Tx)) fun x9 => (some x9))))
def ref09_Seen_k2 (N : Nat) (rec1 : (List T_api_Ver) → Int → Int → Int → Option (Int)) (a1 : (List T_api_Ver)) (a4 : Int) (y60 : Int) (y63 : Int) : Option (Int) :=
  (rec1 a1 a4 y63 (IntKind.i64.wrap (y60 + 1)))
def ref09_Seen_L1 (N : Nat) : Nat → (List T_api_Ver) → Int → Int → Int → Option (Int)
  | 0, _, _, _, _ => none
  | fuel1 + 1, a1, a4, y59, y60 => (bif decide (y60 < ((a1).length : Int)) then (Option.bind (Option.bind (idx a1 y60) fun x67 => (bif decide (x67.TS ≤ a4) then (bif decide (y59 < 0) then (some true) else (Option.bind (idx a1 y59) fun x70 => (Option.bind (idx a1 y60) fun x73 => (Option.bind (ref09_less N (T_api_Ver.mk x70.Key x70.Val x70.Gone x70.TS x70.DC x70.Tx) (T_api_Ver.mk x73.Key x73.Val x73.Gone x73.TS x73.DC x73.Tx)) fun x76 => (some x76))))) else (some false))) fun v66 => (bif v66 then (ref09_Seen_k2 N (ref09_Seen_L1 N fuel1) a1 a4 y60 y60) else (ref09_Seen_k2 N (ref09_Seen_L1 N fuel1) a1 a4 y60 y59))) else (some y59))
def ref09_Seen (N : Nat) (a1 : (List T_api_Ver)) (a4 : Int) : Option (Int) :=
  (ref09_Seen_L1 N N a1 a4 (-1) 0)
def ref09_At (N : Nat) (a1 : (List T_api_Ver)) (a4 : Int) : Option (T_api_Ver × Bool) :=
  (Option.bind (ref09_Seen N a1 a4) fun x8 => (bif decide (x8 < 0) then (some ((T_api_Ver.mk ByteArray.empty ByteArray.empty false 0 0 0), false)) else (Option.bind (idx a1 x8) fun x13 => (some ((T_api_Ver.mk x13.Key x13.Val x13.Gone x13.TS x13.DC x13.Tx), true)))))
def ref09_Put_k3 (N : Nat) (rec2 : (List T_api_Ver) → T_api_Ver → (List T_api_Ver) → Bool → Int → Option ((List T_api_Ver) × Int)) (a1 : (List T_api_Ver)) (a4 : T_api_Ver) (y140 : Int) (y144 : (List T_api_Ver)) (y147 : Bool) : Option ((List T_api_Ver) × Int) :=
  (Option.bind (idx a1 y140) fun x148 => (Option.bind (apd y144 [(T_api_Ver.mk x148.Key x148.Val x148.Gone x148.TS x148.DC x148.Tx)]) fun x152 => (rec2 a1 a4 x152 y147 (IntKind.i64.wrap (y140 + 1)))))
def ref09_Put_k4 (N : Nat) (y166 : (List T_api_Ver)) : Option ((List T_api_Ver) × Int) :=
  (some (y166, 0))
def ref09_Put_L2 (N : Nat) : Nat → (List T_api_Ver) → T_api_Ver → (List T_api_Ver) → Bool → Int → Option ((List T_api_Ver) × Int)
  | 0, _, _, _, _, _ => none
  | fuel2 + 1, a1, a4, y136, y139, y140 => (bif decide (y140 < ((a1).length : Int)) then (Option.bind (bif (!y139) then (Option.bind (idx a1 y140) fun x158 => (Option.bind (ref09_less N (T_api_Ver.mk a4.Key a4.Val a4.Gone a4.TS a4.DC a4.Tx) (T_api_Ver.mk x158.Key x158.Val x158.Gone x158.TS x158.DC x158.Tx)) fun x161 => (some x161))) else (some false)) fun v157 => (bif v157 then (Option.bind (apd y136 [(T_api_Ver.mk a4.Key a4.Val a4.Gone a4.TS a4.DC a4.Tx)]) fun x163 => (ref09_Put_k3 N (ref09_Put_L2 N fuel2) a1 a4 y140 x163 true)) else (ref09_Put_k3 N (ref09_Put_L2 N fuel2) a1 a4 y140 y136 y139))) else (bif (!y139) then (Option.bind (apd y136 [(T_api_Ver.mk a4.Key a4.Val a4.Gone a4.TS a4.DC a4.Tx)]) fun x172 => (ref09_Put_k4 N x172)) else (ref09_Put_k4 N y136)))
def ref09_Put_L1 (N : Nat) : Nat → (List T_api_Ver) → T_api_Ver → Int → Option ((List T_api_Ver) × Int)
  | 0, _, _, _ => none
  | fuel1 + 1, a1, a4, y59 => (bif decide (y59 < ((a1).length : Int)) then (Option.bind (Option.bind (idx a1 y59) fun x66 => (Option.bind (ref09_less N (T_api_Ver.mk x66.Key x66.Val x66.Gone x66.TS x66.DC x66.Tx) (T_api_Ver.mk a4.Key a4.Val a4.Gone a4.TS a4.DC a4.Tx)) fun x69 => (bif (!x69) then (Option.bind (idx a1 y59) fun x71 => (Option.bind (ref09_less N (T_api_Ver.mk a4.Key a4.Val a4.Gone a4.TS a4.DC a4.Tx) (T_api_Ver.mk x71.Key x71.Val x71.Gone x71.TS x71.DC x71.Tx)) fun x74 => (some (!x74)))) else (some false)))) fun v65 => (bif v65 then (Option.bind (idx a1 y59) fun x77 => (bif (cEq (flat [(1, [.string (x77.Key)]), (1, [.string (x77.Val)]), (1, [.bool (x77.Gone)]), (1, [.int .u64 (x77.TS)]), (1, [.int .i64 (x77.DC)]), (1, [.int .i64 (x77.Tx)])]) (flat [(1, [.string (a4.Key)]), (1, [.string (a4.Val)]), (1, [.bool (a4.Gone)]), (1, [.int .u64 (a4.TS)]), (1, [.int .i64 (a4.DC)]), (1, [.int .i64 (a4.Tx)])])) then (some (([] : List T_api_Ver), 8)) else (some (([] : List T_api_Ver), 3)))) else ((ref09_Put_L1 N fuel1) a1 a4 (IntKind.i64.wrap (y59 + 1))))) else (ref09_Put_L2 N N a1 a4 ([] : List T_api_Ver) false 0))
def ref09_Put (N : Nat) (a1 : (List T_api_Ver)) (a4 : T_api_Ver) : Option ((List T_api_Ver) × Int) :=
  (ref09_Put_L1 N N a1 a4 0)
def ref09_Trim_k2 (N : Nat) (rec1 : (List T_api_Ver) → (Int) → (List T_api_Ver) → Int → Option ((List T_api_Ver) × Int)) (a1 : (List T_api_Ver)) (x7 : (Int)) (y64 : Int) (y67 : (List T_api_Ver)) : Option ((List T_api_Ver) × Int) :=
  (rec1 a1 x7 y67 (IntKind.i64.wrap (y64 + 1)))
def ref09_Trim_L1 (N : Nat) : Nat → (List T_api_Ver) → (Int) → (List T_api_Ver) → Int → Option ((List T_api_Ver) × Int)
  | 0, _, _, _, _ => none
  | fuel1 + 1, a1, x7, y61, y64 => (bif decide (y64 < ((a1).length : Int)) then (Option.bind (bif decide (x7 < 0) then (some true) else (Option.bind (idx a1 y64) fun x73 => (Option.bind (idx a1 x7) fun x76 => (Option.bind (ref09_less N (T_api_Ver.mk x73.Key x73.Val x73.Gone x73.TS x73.DC x73.Tx) (T_api_Ver.mk x76.Key x76.Val x76.Gone x76.TS x76.DC x76.Tx)) fun x79 => (some (!x79)))))) fun v72 => (bif v72 then (Option.bind (idx a1 y64) fun x80 => (Option.bind (apd y61 [(T_api_Ver.mk x80.Key x80.Val x80.Gone x80.TS x80.DC x80.Tx)]) fun x84 => (ref09_Trim_k2 N (ref09_Trim_L1 N fuel1) a1 x7 y64 x84))) else (ref09_Trim_k2 N (ref09_Trim_L1 N fuel1) a1 x7 y64 y61))) else (some (y61, IntKind.i64.wrap (((a1).length : Int) - ((y61).length : Int)))))
def ref09_Trim (N : Nat) (a1 : (List T_api_Ver)) (a4 : Int) : Option ((List T_api_Ver) × Int) :=
  (Option.bind (ref09_Seen N a1 a4) fun x7 => (ref09_Trim_L1 N N a1 x7 ([] : List T_api_Ver) 0))
def ref10_Check (N : Nat) (a1 : T_api_Ver) : Option (Int) :=
  (Option.bind (bif decide (((a1.Key).size : Int) > 16) then (some true) else (some (decide (((a1.Val).size : Int) > 64)))) fun v7 => (bif v7 then (some 6) else (Option.bind (bif (sEq a1.Key (ByteArray.mk #[])) then (some true) else (bif a1.Gone then (bif (!sEq a1.Val (ByteArray.mk #[])) then (some true) else (bif decide (a1.DC < 0) then (some true) else (bif decide (a1.DC > 3) then (some true) else (bif decide (a1.Tx < 0) then (some true) else (some (decide (a1.Tx > 1073741824))))))) else (bif decide (a1.DC < 0) then (some true) else (bif decide (a1.DC > 3) then (some true) else (bif decide (a1.Tx < 0) then (some true) else (some (decide (a1.Tx > 1073741824)))))))) fun v12 => (bif v12 then (some 1) else (some 0)))))
def ref10_Store_Of_L1 (N : Nat) : Nat → T_ref10_Store → ByteArray → Int → Option ((List T_api_Ver))
  | 0, _, _, _ => none
  | fuel1 + 1, a1, a5, y59 => (bif decide (y59 < ((a1.Chains).length : Int)) then (Option.bind (idx a1.Chains y59) fun x64 => (bif (sEq x64.Key a5) then (Option.bind (idx a1.Chains y59) fun x70 => (some x70.Vers)) else ((ref10_Store_Of_L1 N fuel1) a1 a5 (IntKind.i64.wrap (y59 + 1))))) else (some ([] : List T_api_Ver)))
def ref10_Store_Of (N : Nat) (a1 : T_ref10_Store) (a5 : ByteArray) : Option ((List T_api_Ver)) :=
  (ref10_Store_Of_L1 N N a1 a5 0)
def ref10_Store_set_k2 (N : Nat) (rec1 : T_ref10_Store → ByteArray → (List T_api_Ver) → (List T_ref10_Chain) → Bool → Int → Option (T_ref10_Store)) (a1 : T_ref10_Store) (a5 : ByteArray) (a6 : (List T_api_Ver)) (y67 : Int) (y70 : (List T_ref10_Chain)) (y73 : Bool) : Option (T_ref10_Store) :=
  (rec1 a1 a5 a6 y70 y73 (IntKind.i64.wrap (y67 + 1)))
def ref10_Store_set_k3 (N : Nat) (rec1 : T_ref10_Store → ByteArray → (List T_api_Ver) → (List T_ref10_Chain) → Bool → Int → Option (T_ref10_Store)) (a1 : T_ref10_Store) (a5 : ByteArray) (a6 : (List T_api_Ver)) (y67 : Int) (y74 : (List T_ref10_Chain)) (y77 : Bool) : Option (T_ref10_Store) :=
  (Option.bind (idx a1.Chains y67) fun x79 => (bif (!sEq x79.Key a5) then (Option.bind (idx a1.Chains y67) fun x84 => (Option.bind (apd y74 [(T_ref10_Chain.mk x84.Key x84.Vers)]) fun x90 => (ref10_Store_set_k2 N rec1 a1 a5 a6 y67 x90 y77))) else (ref10_Store_set_k2 N rec1 a1 a5 a6 y67 y74 y77)))
def ref10_Store_set_k4 (N : Nat) (a1 : T_ref10_Store) (y105 : (List T_ref10_Chain)) : Option (T_ref10_Store) :=
  (some (T_ref10_Store.mk y105 a1.Floor))
def ref10_Store_set_L1 (N : Nat) : Nat → T_ref10_Store → ByteArray → (List T_api_Ver) → (List T_ref10_Chain) → Bool → Int → Option (T_ref10_Store)
  | 0, _, _, _, _, _, _ => none
  | fuel1 + 1, a1, a5, a6, y63, y66, y67 => (bif decide (y67 < ((a1.Chains).length : Int)) then (Option.bind (bif (!y66) then (Option.bind (idx a1.Chains y67) fun x96 => (some (sLt a5 x96.Key || sEq a5 x96.Key))) else (some false)) fun v95 => (bif v95 then (Option.bind (apd y63 [(T_ref10_Chain.mk a5 a6)]) fun x102 => (ref10_Store_set_k3 N (ref10_Store_set_L1 N fuel1) a1 a5 a6 y67 x102 true)) else (ref10_Store_set_k3 N (ref10_Store_set_L1 N fuel1) a1 a5 a6 y67 y63 y66))) else (bif (!y66) then (Option.bind (apd y63 [(T_ref10_Chain.mk a5 a6)]) fun x110 => (ref10_Store_set_k4 N a1 x110)) else (ref10_Store_set_k4 N a1 y63)))
def ref10_Store_set (N : Nat) (a1 : T_ref10_Store) (a5 : ByteArray) (a6 : (List T_api_Ver)) : Option (T_ref10_Store) :=
  (ref10_Store_set_L1 N N a1 a5 a6 ([] : List T_ref10_Chain) false 0)
def ref10_Store_Put (N : Nat) (a1 : T_ref10_Store) (a5 : T_api_Ver) : Option (Int × T_ref10_Store) :=
  (Option.bind (ref10_Check N (T_api_Ver.mk a5.Key a5.Val a5.Gone a5.TS a5.DC a5.Tx)) fun x10 => (bif (x10 != 0) then (some (x10, (T_ref10_Store.mk a1.Chains a1.Floor))) else (Option.bind (ref10_Store_Of N (T_ref10_Store.mk a1.Chains a1.Floor) a5.Key) fun x14 => (Option.bind (ref09_Put N x14 (T_api_Ver.mk a5.Key a5.Val a5.Gone a5.TS a5.DC a5.Tx)) fun x18 => (bif (x18.2 != 0) then (some (x18.2, (T_ref10_Store.mk a1.Chains a1.Floor))) else (Option.bind (ref09_At N x14 a1.Floor) fun x26 => (Option.bind (bif x26.2 then (Option.bind (ref01_Of N (T_api_Ver.mk a5.Key a5.Val a5.Gone a5.TS a5.DC a5.Tx)) fun x32 => (Option.bind (ref01_Of N (T_api_Ver.mk x26.1.Key x26.1.Val x26.1.Gone x26.1.TS x26.1.DC x26.1.Tx)) fun x33 => (Option.bind (ref01_Less N (T_api_Mark.mk x32.TS x32.DC x32.Tx) (T_api_Mark.mk x33.TS x33.DC x33.Tx)) fun x34 => (some x34)))) else (some false)) fun v30 => (bif v30 then (some (11, (T_ref10_Store.mk a1.Chains a1.Floor))) else (Option.bind (ref09_Trim N x18.1 a1.Floor) fun x37 => (Option.bind (ref10_Store_set N (T_ref10_Store.mk a1.Chains a1.Floor) a5.Key x37.1) fun x41 => (some (0, (T_ref10_Store.mk x41.Chains x41.Floor)))))))))))))
def ref10_Store_Load_k2 (N : Nat) (rec1 : (List T_api_Ver) → (List T_ref10_Chain) → Int → Int → Int → Option (Int × T_ref10_Store)) (a5 : (List T_api_Ver)) (y67 : Int) (y70 : (List T_ref10_Chain)) (y73 : Int) (y74 : Int) : Option (Int × T_ref10_Store) :=
  (rec1 a5 y70 y73 y74 (IntKind.i64.wrap (y67 + 1)))
def ref10_Store_Load_L1 (N : Nat) : Nat → (List T_api_Ver) → (List T_ref10_Chain) → Int → Int → Int → Option (Int × T_ref10_Store)
  | 0, _, _, _, _, _ => none
  | fuel1 + 1, a5, y62, y65, y66, y67 => (bif decide (y67 < ((a5).length : Int)) then (Option.bind (idx a5 y67) fun x76 => (Option.bind (ref10_Store_Put N (T_ref10_Store.mk y62 y65) (T_api_Ver.mk x76.Key x76.Val x76.Gone x76.TS x76.DC x76.Tx)) fun x79 => (bif (x79.1 == 0) then (ref10_Store_Load_k2 N (ref10_Store_Load_L1 N fuel1) a5 y67 x79.2.Chains x79.2.Floor (IntKind.i64.wrap (y66 + 1))) else (ref10_Store_Load_k2 N (ref10_Store_Load_L1 N fuel1) a5 y67 x79.2.Chains x79.2.Floor y66)))) else (some (y66, (T_ref10_Store.mk y62 y65))))
def ref10_Store_Load (N : Nat) (a1 : T_ref10_Store) (a5 : (List T_api_Ver)) : Option (Int × T_ref10_Store) :=
  (ref10_Store_Load_L1 N N a5 a1.Chains a1.Floor 0 0)
def ref10_Store_Get (N : Nat) (a1 : T_ref10_Store) (a5 : ByteArray) (a6 : Int) : Option (T_api_Ver × Bool × Int) :=
  (bif decide (a6 < a1.Floor) then (some ((T_api_Ver.mk ByteArray.empty ByteArray.empty false 0 0 0), false, 11)) else (Option.bind (ref10_Store_Of N (T_ref10_Store.mk a1.Chains a1.Floor) a5) fun x13 => (Option.bind (ref09_At N x13 a6) fun x16 => (some ((T_api_Ver.mk x16.1.Key x16.1.Val x16.1.Gone x16.1.TS x16.1.DC x16.1.Tx), x16.2, 0)))))
def ref10_Store_All_k2 (N : Nat) (rec1 : T_ref10_Store → ByteArray → ByteArray → (List T_api_Ver) → Int → Option ((List T_api_Ver))) (a1 : T_ref10_Store) (a5 : ByteArray) (a6 : ByteArray) (y64 : Int) (y67 : (List T_api_Ver)) : Option ((List T_api_Ver)) :=
  (rec1 a1 a5 a6 y67 (IntKind.i64.wrap (y64 + 1)))
def ref10_Store_All_L1 (N : Nat) : Nat → T_ref10_Store → ByteArray → ByteArray → (List T_api_Ver) → Int → Option ((List T_api_Ver))
  | 0, _, _, _, _, _ => none
  | fuel1 + 1, a1, a5, a6, y61, y64 => (bif decide (y64 < ((a1.Chains).length : Int)) then (Option.bind (idx a1.Chains y64) fun x71 => (Option.bind (ref08_Within N x71.Key a5 a6) fun x76 => (bif x76 then (Option.bind (idx a1.Chains y64) fun x77 => (Option.bind (apd y61 x77.Vers) fun x82 => (ref10_Store_All_k2 N (ref10_Store_All_L1 N fuel1) a1 a5 a6 y64 x82))) else (ref10_Store_All_k2 N (ref10_Store_All_L1 N fuel1) a1 a5 a6 y64 y61)))) else (some y61))
def ref10_Store_All (N : Nat) (a1 : T_ref10_Store) (a5 : ByteArray) (a6 : ByteArray) : Option ((List T_api_Ver)) :=
  (ref10_Store_All_L1 N N a1 a5 a6 ([] : List T_api_Ver) 0)
def ref10_Store_Drop_k2 (N : Nat) (rec1 : T_ref10_Store → ByteArray → ByteArray → ((List T_api_Ver)) → (List T_ref10_Chain) → Int → Option (Int × T_ref10_Store)) (a1 : T_ref10_Store) (a5 : ByteArray) (a6 : ByteArray) (x9 : ((List T_api_Ver))) (y68 : Int) (y71 : (List T_ref10_Chain)) : Option (Int × T_ref10_Store) :=
  (rec1 a1 a5 a6 x9 y71 (IntKind.i64.wrap (y68 + 1)))
def ref10_Store_Drop_L1 (N : Nat) : Nat → T_ref10_Store → ByteArray → ByteArray → ((List T_api_Ver)) → (List T_ref10_Chain) → Int → Option (Int × T_ref10_Store)
  | 0, _, _, _, _, _, _ => none
  | fuel1 + 1, a1, a5, a6, x9, y65, y68 => (bif decide (y68 < ((a1.Chains).length : Int)) then (Option.bind (idx a1.Chains y68) fun x75 => (Option.bind (ref08_Within N x75.Key a5 a6) fun x80 => (bif (!x80) then (Option.bind (idx a1.Chains y68) fun x81 => (Option.bind (apd y65 [(T_ref10_Chain.mk x81.Key x81.Vers)]) fun x87 => (ref10_Store_Drop_k2 N (ref10_Store_Drop_L1 N fuel1) a1 a5 a6 x9 y68 x87))) else (ref10_Store_Drop_k2 N (ref10_Store_Drop_L1 N fuel1) a1 a5 a6 x9 y68 y65)))) else (some (((x9).length : Int), (T_ref10_Store.mk y65 a1.Floor))))
def ref10_Store_Drop (N : Nat) (a1 : T_ref10_Store) (a5 : ByteArray) (a6 : ByteArray) : Option (Int × T_ref10_Store) :=
  (Option.bind (ref10_Store_All N (T_ref10_Store.mk a1.Chains a1.Floor) a5 a6) fun x9 => (ref10_Store_Drop_L1 N N a1 a5 a6 x9 ([] : List T_ref10_Chain) 0))
def ref10_Store_Trim_L2 (N : Nat) : Nat → T_ref10_Store → Int → Int → (List T_ref10_Chain) → Int → Option (Int × T_ref10_Store)
  | 0, _, _, _, _, _ => none
  | fuel2 + 1, a1, y7, y62, y63, y66 => (bif decide (y66 < ((a1.Chains).length : Int)) then (Option.bind (idx a1.Chains y66) fun x71 => (Option.bind (ref09_Trim N x71.Vers y7) fun x76 => (Option.bind (idx a1.Chains y66) fun x80 => (Option.bind (apd y63 [(T_ref10_Chain.mk x80.Key x76.1)]) fun x86 => ((ref10_Store_Trim_L2 N fuel2) a1 y7 (IntKind.i64.wrap (y62 + x76.2)) x86 (IntKind.i64.wrap (y66 + 1))))))) else (some (y62, (T_ref10_Store.mk y63 y7))))
def ref10_Store_Trim_k1 (N : Nat) (a1 : T_ref10_Store) (y7 : Int) : Option (Int × T_ref10_Store) :=
  (ref10_Store_Trim_L2 N N a1 y7 0 ([] : List T_ref10_Chain) 0)
def ref10_Store_Trim (N : Nat) (a1 : T_ref10_Store) (a5 : Int) : Option (Int × T_ref10_Store) :=
  (bif decide (a5 > a1.Floor) then (ref10_Store_Trim_k1 N a1 a5) else (ref10_Store_Trim_k1 N a1 a1.Floor))
end
end Go.Cf.M
