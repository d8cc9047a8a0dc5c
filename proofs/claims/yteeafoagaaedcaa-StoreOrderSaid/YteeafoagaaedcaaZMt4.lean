/- What the functions compute, as Lean functions (none: a panic, an empty purse, or a size that is not followed). Printed by a program of ours out of the translation. -/
import Derived.Test.YteeafoagaaedcaaZMt1
import Derived.Test.YteeafoagaaedcaaZMt2
namespace Go.Cf.M
open Go Go.Cf
set_option linter.unusedVariables false
noncomputable section
def law10_awake (N : Nat)  : Option (Bool) :=
  (Option.bind (store_New N ) fun x3 => (Option.bind (store_Store_Put N (T_store_Store.mk x3.chains x3.floor) (T_api_Ver.mk (ByteArray.mk #[97]) ByteArray.empty false 3 0 0)) fun x10 => (bif (x10.1 != 0) then (some false) else (Option.bind (store_Store_Get N (T_store_Store.mk x10.2.chains x10.2.floor) (ByteArray.mk #[97]) 3) fun x16 => (Option.bind (bif x16.2.1 then (bif (x16.2.2 == 0) then (some (x16.1.TS == 3)) else (some false)) else (some false)) fun v20 => (some v20))))))
def law10_few (N : Nat) (a1 : (List T_api_Ver)) (a4 : Int) : Option ((List T_api_Ver)) :=
  (Option.bind (slc a1 0 (if a4 < ((a1).length : Int) then a4 else ((a1).length : Int))) fun x7 => (some x7))
def law10_once_k2 (N : Nat) (rec1 : (List T_api_Ver) → (List T_api_Ver) → Int → Option ((List T_api_Ver))) (a1 : (List T_api_Ver)) (y62 : Int) (y65 : (List T_api_Ver)) : Option ((List T_api_Ver)) :=
  (rec1 a1 y65 (IntKind.i64.wrap (y62 + 1)))
def law10_once_L3 (N : Nat) (rec1 : (List T_api_Ver) → (List T_api_Ver) → Int → Option ((List T_api_Ver))) : Nat → (List T_api_Ver) → (List T_api_Ver) → Int → T_api_Ver → Int → Option ((List T_api_Ver))
  | 0, _, _, _, _, _ => none
  | fuel3 + 1, a1, y59, y62, x69, y125 => (bif decide (y125 < ((y59).length : Int)) then (Option.bind (idx y59 y125) fun x130 => (Option.bind (bif (sEq x130.Key x69.Key) then (bif (x130.TS == x69.TS) then (bif (x130.DC == x69.DC) then (some (x130.Tx == x69.Tx)) else (some false)) else (some false)) else (some false)) fun v136 => (bif v136 then (law10_once_k2 N rec1 a1 y62 y59) else ((law10_once_L3 N rec1 fuel3) a1 y59 y62 x69 (IntKind.i64.wrap (y125 + 1)))))) else (Option.bind (apd y59 [(T_api_Ver.mk x69.Key x69.Val x69.Gone x69.TS x69.DC x69.Tx)]) fun x138 => (law10_once_k2 N rec1 a1 y62 x138)))
def law10_once_L1 (N : Nat) : Nat → (List T_api_Ver) → (List T_api_Ver) → Int → Option ((List T_api_Ver))
  | 0, _, _, _ => none
  | fuel1 + 1, a1, y59, y62 => (bif decide (y62 < ((a1).length : Int)) then (Option.bind (idx a1 y62) fun x69 => (law10_once_L3 N (law10_once_L1 N fuel1) N a1 y59 y62 x69 0)) else (some y59))
def law10_once (N : Nat) (a1 : (List T_api_Ver)) : Option ((List T_api_Ver)) :=
  (law10_once_L1 N N a1 ([] : List T_api_Ver) 0)
def law10_All (N : Nat) (a1 : T_store_Store) (a6 : ByteArray) (a7 : ByteArray) : Option ((List T_api_Ver)) :=
  (Option.bind (store_Store_All N (T_store_Store.mk a1.chains a1.floor) a6 a7) fun x13 => (Option.bind (store_Store_All_1 N (σ := ((List T_api_Ver) × Nat)) (fun (v72 : ((List T_api_Ver) × Nat)) x18 => bif (v72.2 == 0) then (Option.bind (apd v72.1 [(T_api_Ver.mk x18.Key x18.Val x18.Gone x18.TS x18.DC x18.Tx)]) fun x75 => (some (((x75, 0)), true))) else none) (T_store_Store.mk a1.chains a1.floor) a6 a7 (([] : List T_api_Ver), 0)) fun v78 => (bif (v78.2 == 0) then (some v78.1) else none)))
end
end Go.Cf.M
