/- What the functions compute, as Lean functions (none: a panic, an empty purse, or a size that is not followed). Printed by a program of ours out of the translation. -/
import Derived.Test.YteeafoagaaedcaaZMt1
import Derived.Test.YteeafoagaaedcaaZMt2
namespace Go.Cf.M
open Go Go.Cf
set_option linter.unusedVariables false
noncomputable section
def law10_awake (N : Nat)  : Option (Bool) :=
  (Option.bind (store_New N ) fun x3 => (Option.bind (store_Store_Put N (T_store_Store.mk x3.chains x3.floor) (T_api_Ver.mk (ByteArray.mk #[97]) ByteArray.empty false 3 0 0)) fun x10 => (bif (x10.1 != 0) then (some false) else (Option.bind (store_Store_Get N (T_store_Store.mk x10.2.chains x10.2.floor) (ByteArray.mk #[97]) 3) fun x16 => (Option.bind (bif x16.2.1 then (bif (x16.2.2 == 0) then (some (x16.1.TS == 3)) else (some false)) else (some false)) fun v20 => (some v20))))))
def law10_few (N : Nat) (a1 : (List T_api_Ver)) (a4 : Int) : Option ((List T_api_Ver)) :=
  (Option.bind (slc a1 0 (if a4 < ((a1).length : Int) then a4 else ((a1).length : Int))) fun x7 => (some x7))
def law10_All (N : Nat) (a1 : T_store_Store) (a6 : ByteArray) (a7 : ByteArray) : Option ((List T_api_Ver)) :=
  (Option.bind (store_Store_All N (T_store_Store.mk a1.chains a1.floor) a6 a7) fun x13 => (Option.bind (store_Store_All_1 N (σ := ((List T_api_Ver) × Nat)) (fun (v72 : ((List T_api_Ver) × Nat)) x18 => bif (v72.2 == 0) then (Option.bind (apd v72.1 [(T_api_Ver.mk x18.Key x18.Val x18.Gone x18.TS x18.DC x18.Tx)]) fun x75 => (some (((x75, 0)), true))) else none) (T_store_Store.mk a1.chains a1.floor) a6 a7 (([] : List T_api_Ver), 0)) fun v78 => (bif (v78.2 == 0) then (some v78.1) else none)))
end
end Go.Cf.M
