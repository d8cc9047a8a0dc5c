/- What the functions compute, as Lean functions (none: a panic, an empty purse, or a size that is not followed). Printed by a program of ours out of the translation. -/
import Derived.Test.YteeafoagaaedcaaZM1
import Derived.Test.YteeafoagaaedcaaZMt1
import Derived.Test.YteeafoagaaedcaaZMt2
import Derived.Test.YteeafoagaaedcaaZMt4
namespace Go.Cf.M
open Go Go.Cf
set_option linter.unusedVariables false
noncomputable section
def law10_StoreTwice (N : Nat) (a1 : (List T_api_Ver)) (a4 : Int) : Option (Bool) :=
  (Option.bind (store_New N ) fun x7 => (Option.bind (store_Store_Trim N (T_store_Store.mk x7.chains x7.floor) a4) fun x15 => (Option.bind (law10_few N a1 40) fun x20 => (Option.bind (store_Store_Load N (T_store_Store.mk x15.2.chains x15.2.floor) x20) fun x23 => (Option.bind (law10_All N (T_store_Store.mk x23.2.chains x23.2.floor) (ByteArray.mk #[]) (ByteArray.mk #[])) fun x28 => (Option.bind (law10_few N a1 40) fun x32 => (Option.bind (store_Store_Load N (T_store_Store.mk x23.2.chains x23.2.floor) x32) fun x35 => (Option.bind (Option.bind (law10_awake N ) fun x42 => (bif x42 then (bif (x35.1 == 0) then (Option.bind (law10_All N (T_store_Store.mk x35.2.chains x35.2.floor) (ByteArray.mk #[]) (ByteArray.mk #[])) fun x43 => (Option.bind (ref04_SameVers N x43 x28) fun x46 => (some x46))) else (some false)) else (some false))) fun v41 => (some v41)))))))))
end
end Go.Cf.M
