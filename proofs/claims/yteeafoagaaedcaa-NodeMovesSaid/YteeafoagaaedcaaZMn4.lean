/- What the functions compute, as Lean functions (none: a panic, an empty purse, or a size that is not followed). Printed by a program of ours out of the translation. -/
import Derived.Test.YteeafoagaaedcaaZMt2
import Derived.Test.YteeafoagaaedcaaZMt1
import Derived.Test.YteeafoagaaedcaaZMn1
import Derived.Test.YteeafoagaaedcaaZMn2
import Derived.Test.YteeafoagaaedcaaZMn3
namespace Go.Cf.M
open Go Go.Cf
set_option linter.unusedVariables false
noncomputable section
def law20_awake (N : Nat)  : Option (Bool) :=
  (Option.bind (node_New N 0) fun x3 => (Option.bind (node_Node_Take N (T_node_Node.mk x3.dc (T_store_Store.mk x3.store.chains x3.store.floor) (T_part_Part.mk x3.part.clock x3.part.open_) x3.writes x3.owned x3.modes) (T_api_Msg.mk 6 0 0 0 ByteArray.empty ByteArray.empty ([] : List T_api_Ver) ([] : List Int) (T_api_Cmd.mk 0 0 0 0 0 ByteArray.empty)) 0) fun x23 => (Option.bind (node_Node_Take N (T_node_Node.mk x23.2.2.dc (T_store_Store.mk x23.2.2.store.chains x23.2.2.store.floor) (T_part_Part.mk x23.2.2.part.clock x23.2.2.part.open_) x23.2.2.writes x23.2.2.owned x23.2.2.modes) (T_api_Msg.mk 1 7 0 5 ByteArray.empty ByteArray.empty [(T_api_Ver.mk (ByteArray.mk #[97]) (ByteArray.mk #[120]) false 0 0 0)] ([] : List Int) (T_api_Cmd.mk 0 0 0 0 0 ByteArray.empty)) 0) fun x45 => (Option.bind (bif x45.2.1 then (bif (x45.1.Kind == 11) then (bif (x45.1.Id == 7) then (some (x45.1.TS == 6)) else (some false)) else (some false)) else (some false)) fun v68 => (some v68)))))
end
end Go.Cf.M
