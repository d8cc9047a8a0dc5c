/- What the functions compute, as Lean functions (none: a panic, an empty purse, or a size that is not followed). Printed by a program of ours out of the translation. -/
import Derived.Test.YteeafoagaaedcaaZMt1
import Derived.Test.YteeafoagaaedcaaZMt2
namespace Go.Cf.M
open Go Go.Cf
set_option linter.unusedVariables false
noncomputable section
def law10_awake (N : Nat)  : Option (Bool) :=
  (Option.bind (store_New N ) fun x3 => (Option.bind (store_Store_Put N (T_store_Store.mk x3.chains x3.floor) (T_api_Ver.mk (ByteArray.mk #[97]) ByteArray.empty false 3 0 0)) fun x10 => (bif (x10.1 != 0) then (some false) else (Option.bind (store_Store_Get N (T_store_Store.mk x10.2.chains x10.2.floor) (ByteArray.mk #[97]) 3) fun x16 => (Option.bind (bif x16.2.1 then (bif (x16.2.2 == 0) then (some (x16.1.TS == 3)) else (some false)) else (some false)) fun v20 => (some v20))))))
end
end Go.Cf.M
