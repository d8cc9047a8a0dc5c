/- What the functions compute, as Lean functions (none: a panic, an empty purse, or a size that is not followed). Printed by a program of ours out of the translation. -/
import Derived.Test.YteeafoagaaedcaaZMt2
import Derived.Test.YteeafoagaaedcaaZMt1
import Derived.Test.YteeafoagaaedcaaZMn1
import Derived.Test.YteeafoagaaedcaaZMn2
import Derived.Test.YteeafoagaaedcaaZMn3
namespace Go.Cf.M
open Go Go.Cf
set_option linter.unusedVariables false
noncomputable section
def node_Node_Versions (N : Nat) (a1 : T_node_Node) (a18 : ByteArray) (a19 : ByteArray) : Option (Unit) :=
  (Option.bind (store_Store_All N (T_store_Store.mk a1.store.chains a1.store.floor) a18 a19) fun x24 => (some ()))
def node_Node_Open (N : Nat) (a1 : T_node_Node) : Option (Int) :=
  (Option.bind (part_Part_Open N (T_part_Part.mk a1.part.clock a1.part.open_)) fun x22 => (some x22))
def law20_awake (N : Nat)  : Option (Bool) :=
  (Option.bind (node_New N 0) fun x3 => (Option.bind (node_Node_Take N (T_node_Node.mk x3.dc (T_store_Store.mk x3.store.chains x3.store.floor) (T_part_Part.mk x3.part.clock x3.part.open_) x3.writes x3.owned x3.modes) (T_api_Msg.mk 6 0 0 0 ByteArray.empty ByteArray.empty ([] : List T_api_Ver) ([] : List Int) (T_api_Cmd.mk 0 0 0 0 0 ByteArray.empty)) 0) fun x23 => (Option.bind (node_Node_Take N (T_node_Node.mk x23.2.2.dc (T_store_Store.mk x23.2.2.store.chains x23.2.2.store.floor) (T_part_Part.mk x23.2.2.part.clock x23.2.2.part.open_) x23.2.2.writes x23.2.2.owned x23.2.2.modes) (T_api_Msg.mk 1 7 0 5 ByteArray.empty ByteArray.empty [(T_api_Ver.mk (ByteArray.mk #[97]) (ByteArray.mk #[120]) false 0 0 0)] ([] : List Int) (T_api_Cmd.mk 0 0 0 0 0 ByteArray.empty)) 0) fun x45 => (Option.bind (bif x45.2.1 then (bif (x45.1.Kind == 11) then (bif (x45.1.Id == 7) then (some (x45.1.TS == 6)) else (some false)) else (some false)) else (some false)) fun v68 => (some v68)))))
def law20_Few (N : Nat) (a1 : T_api_Msg) : Option (T_api_Msg) :=
  (Option.bind (slc a1.Vers 0 (if 12 < ((a1.Vers).length : Int) then 12 else ((a1.Vers).length : Int))) fun x10 => (Option.bind (slc a1.Vec 0 (if 40 < ((a1.Vec).length : Int) then 40 else ((a1.Vec).length : Int))) fun x14 => (some (T_api_Msg.mk a1.Kind a1.Id a1.N a1.TS a1.Lo a1.Hi x10 x14 (T_api_Cmd.mk a1.Cmd.Kind a1.Cmd.DC a1.Cmd.Shard a1.Cmd.Node a1.Cmd.Mode a1.Cmd.Key)))))
def law20_all (N : Nat) (a1 : T_node_Node) (a18 : ByteArray) (a19 : ByteArray) : Option ((List T_api_Ver)) :=
  (Option.bind (node_Node_Versions N (T_node_Node.mk a1.dc (T_store_Store.mk a1.store.chains a1.store.floor) (T_part_Part.mk a1.part.clock a1.part.open_) a1.writes a1.owned a1.modes) a18 a19) fun x25 => (Option.bind (store_Store_All_1 N (σ := ((List T_api_Ver) × Nat)) (fun (v84 : ((List T_api_Ver) × Nat)) x30 => bif (v84.2 == 0) then (Option.bind (apd v84.1 [(T_api_Ver.mk x30.Key x30.Val x30.Gone x30.TS x30.DC x30.Tx)]) fun x87 => (some (((x87, 0)), true))) else none) (T_store_Store.mk a1.store.chains a1.store.floor) a18 a19 (([] : List T_api_Ver), 0)) fun v90 => (bif (v90.2 == 0) then (some v90.1) else none)))
end
end Go.Cf.M
