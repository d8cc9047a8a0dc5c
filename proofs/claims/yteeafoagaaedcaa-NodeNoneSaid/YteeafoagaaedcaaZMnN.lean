/- What the functions compute, as Lean functions (none: a panic, an empty purse, or a size that is not followed). Printed by a program of ours out of the translation. -/
import Derived.Test.YteeafoagaaedcaaZMt1
import Derived.Test.YteeafoagaaedcaaZMt2
import Derived.Test.YteeafoagaaedcaaZMtN
import Derived.Test.YteeafoagaaedcaaZMn1
import Derived.Test.YteeafoagaaedcaaZMn2
import Derived.Test.YteeafoagaaedcaaZMn3
import Derived.Test.YteeafoagaaedcaaZMn4
namespace Go.Cf.M
open Go Go.Cf
set_option linter.unusedVariables false
noncomputable section
def node_Node_Take_nil0 (N : Nat) (a1 : T_api_Msg) (a6 : Int) : Option (T_api_Msg × Bool) :=
  (some ((T_api_Msg.mk 0 0 0 0 ByteArray.empty ByteArray.empty ([] : List T_api_Ver) ([] : List Int) (T_api_Cmd.mk 0 0 0 0 0 ByteArray.empty)), false))
def node_Node_Beat_nil0 (N : Nat) (a1 : Int) : Option (T_api_Msg × Bool) :=
  (some ((T_api_Msg.mk 0 0 0 0 ByteArray.empty ByteArray.empty ([] : List T_api_Ver) ([] : List Int) (T_api_Cmd.mk 0 0 0 0 0 ByteArray.empty)), false))
def node_Node_Owns_nil0 (N : Nat) (a1 : ByteArray) : Option (Bool) :=
  (some false)
def node_Node_Versions_nil0 (N : Nat) (a1 : ByteArray) (a2 : ByteArray) : Option (Unit) :=
  (Option.bind (store_Store_All_nil0 N a1 a2) fun x7 => (some ()))
def node_Node_Mode_nil0 (N : Nat) (a1 : Int) : Option (Int) :=
  (some 0)
def node_Node_Open_nil0 (N : Nat)  : Option (Int) :=
  (some 0)
def law20_all_nil0 (N : Nat) (a1 : ByteArray) (a2 : ByteArray) : Option ((List T_api_Ver)) :=
  (Option.bind (node_Node_Versions_nil0 N a1 a2) fun x8 => (Option.bind (store_Store_All_1_nil0 N (σ := ((List T_api_Ver) × Nat)) (fun (v67 : ((List T_api_Ver) × Nat)) x13 => bif (v67.2 == 0) then (Option.bind (apd v67.1 [(T_api_Ver.mk x13.Key x13.Val x13.Gone x13.TS x13.DC x13.Tx)]) fun x70 => (some (((x70, 0)), true))) else none) a1 a2 (([] : List T_api_Ver), 0)) fun v73 => (bif (v73.2 == 0) then (some v73.1) else none)))
def law20_NodeNone (N : Nat) (a1 : T_law20_Op) (a6 : ByteArray) : Option (Bool) :=
  (Option.bind (node_Node_Take_nil0 N (T_api_Msg.mk a1.Msg.Kind a1.Msg.Id a1.Msg.N a1.Msg.TS a1.Msg.Lo a1.Msg.Hi a1.Msg.Vers a1.Msg.Vec (T_api_Cmd.mk a1.Msg.Cmd.Kind a1.Msg.Cmd.DC a1.Msg.Cmd.Shard a1.Msg.Cmd.Node a1.Msg.Cmd.Mode a1.Msg.Cmd.Key)) a1.Ms) fun x11 => (Option.bind (node_Node_Beat_nil0 N a1.Ms) fun x18 => (Option.bind (Option.bind (law20_awake N ) fun x27 => (bif x27 then (bif (!x11.2) then (bif (!x18.2) then (Option.bind (node_Node_Owns_nil0 N a6) fun x28 => (bif (!x28) then (Option.bind (law20_all_nil0 N (ByteArray.mk #[]) (ByteArray.mk #[])) fun x29 => (bif (((x29).length : Int) == 0) then (Option.bind (node_Node_Mode_nil0 N a1.Ms) fun x32 => (bif (x32 == 0) then (Option.bind (node_Node_Open_nil0 N ) fun x33 => (some (x33 == 0))) else (some false))) else (some false))) else (some false))) else (some false)) else (some false)) else (some false))) fun v26 => (some v26))))
end
end Go.Cf.M
