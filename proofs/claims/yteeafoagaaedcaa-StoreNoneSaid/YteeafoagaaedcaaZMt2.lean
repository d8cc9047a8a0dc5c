/- What the functions compute, as Lean functions (none: a panic, an empty purse, or a size that is not followed). Printed by a program of ours out of the translation. -/
import Derived.Test.YteeafoagaaedcaaZMt1
namespace Go.Cf.M
open Go Go.Cf
set_option linter.unusedVariables false
noncomputable section
def store_Store_Put (N : Nat) (a1 : T_store_Store) (a6 : T_api_Ver) : Option (Int × T_store_Store) :=
  (Option.bind (store_Check N (T_api_Ver.mk a6.Key a6.Val a6.Gone a6.TS a6.DC a6.Tx)) fun x13 => (bif (x13 != 0) then (some (x13, (T_store_Store.mk a1.chains a1.floor))) else (Option.bind (mgt a1.chains a6.Key ([] : List T_api_Ver)) fun x17 => (Option.bind (chain_Put N x17.1 (T_api_Ver.mk a6.Key a6.Val a6.Gone a6.TS a6.DC a6.Tx)) fun x21 => (bif (x21.2 != 0) then (some (x21.2, (T_store_Store.mk a1.chains a1.floor))) else (Option.bind (chain_At N x17.1 a1.floor) fun x29 => (Option.bind (bif x29.2 then (Option.bind (hlc_Of N (T_api_Ver.mk a6.Key a6.Val a6.Gone a6.TS a6.DC a6.Tx)) fun x35 => (Option.bind (hlc_Of N (T_api_Ver.mk x29.1.Key x29.1.Val x29.1.Gone x29.1.TS x29.1.DC x29.1.Tx)) fun x36 => (Option.bind (hlc_Cmp N (T_api_Mark.mk x35.TS x35.DC x35.Tx) (T_api_Mark.mk x36.TS x36.DC x36.Tx)) fun x37 => (some (decide (x37 < 0)))))) else (some false)) fun v33 => (bif v33 then (some (11, (T_store_Store.mk a1.chains a1.floor))) else (Option.bind (chain_Trim N x21.1 a1.floor) fun x40 => (Option.bind (mPut a1.chains a6.Key x40.1) fun x44 => (some (0, (T_store_Store.mk x44 a1.floor)))))))))))))
def store_Store_Get (N : Nat) (a1 : T_store_Store) (a6 : ByteArray) (a7 : Int) : Option (T_api_Ver × Bool × Int) :=
  (bif decide (a7 < a1.floor) then (some ((T_api_Ver.mk ByteArray.empty ByteArray.empty false 0 0 0), false, 11)) else (Option.bind (mgt a1.chains a6 ([] : List T_api_Ver)) fun x16 => (Option.bind (chain_At N x16.1 a7) fun x19 => (some ((T_api_Ver.mk x19.1.Key x19.1.Val x19.1.Gone x19.1.TS x19.1.DC x19.1.Tx), x19.2, 0)))))
end
end Go.Cf.M
