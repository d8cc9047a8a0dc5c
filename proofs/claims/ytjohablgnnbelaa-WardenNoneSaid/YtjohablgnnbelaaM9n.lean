/- What the functions compute, as Lean functions (none: a panic, an empty purse, or a size that is not followed). Printed by a program of ours out of the translation. -/
import Derived.Test.YtjohablgnnbelaaM1
import Derived.Test.YtjohablgnnbelaaM3
import Derived.Test.YtjohablgnnbelaaM6
import Derived.Test.YtjohablgnnbelaaM8
import Derived.Test.YtjohablgnnbelaaM8a
namespace Go.Cf.M
open Go Go.Cf
set_option linter.unusedVariables false
-- warden.Warden).Take
def warden_Warden_Take_nil0 (N : Nat) (a1 : Int) (a2 : T_api_Msg) : Option Unit :=
  (some ())
-- warden.Warden).Ask
def warden_Warden_Ask_nil0 (N : Nat) (a1 : T_api_Cmd) : Option (Int × Int) :=
  (some (0, 1))
-- warden.Warden).Out
def warden_Warden_Out_nil0 (N : Nat)  : Option ((List T_api_Mail)) :=
  (some ([] : List T_api_Mail))
-- warden.Warden).Acked
def warden_Warden_Acked_nil0 (N : Nat)  : Option (Int) :=
  (some 0)
-- warden.Warden).Pending
def warden_Warden_Pending_nil0 (N : Nat)  : Option (Int) :=
  (some 0)
-- warden.Warden).Now
def warden_Warden_Now_nil0 (N : Nat)  : Option (T_config_State) :=
  (some (T_config_State.mk 0 0 (List.replicate 4 false) (List.replicate 4 (T_api_Map.mk ([] : List ByteArray) ([] : List Int))) (List.replicate 21 0)))
-- warden.Warden).Tail
def warden_Warden_Tail_nil0 (N : Nat)  : Option (T_config_State) :=
  (some (T_config_State.mk 0 0 (List.replicate 4 false) (List.replicate 4 (T_api_Map.mk ([] : List ByteArray) ([] : List Int))) (List.replicate 21 0)))
-- warden.Warden).Modes
def warden_Warden_Modes_nil0 (N : Nat)  : Option ((List Int)) :=
  (some (List.replicate 21 0))
-- confluencelaw19.WardenNone
def law19_WardenNone (N : Nat) (a1 : T_law19_Op) : Option (Bool) :=
  (Option.bind (warden_Warden_Take_nil0 N a1.DC (T_api_Msg.mk a1.Msg.Kind a1.Msg.Id a1.Msg.N a1.Msg.TS a1.Msg.Lo a1.Msg.Hi a1.Msg.Vers a1.Msg.Vec (T_api_Cmd.mk a1.Msg.Cmd.Kind a1.Msg.Cmd.DC a1.Msg.Cmd.Shard a1.Msg.Cmd.Node a1.Msg.Cmd.Mode a1.Msg.Cmd.Key))) fun x10 => (Option.bind (warden_Warden_Ask_nil0 N (T_api_Cmd.mk a1.Cmd.Kind a1.Cmd.DC a1.Cmd.Shard a1.Cmd.Node a1.Cmd.Mode a1.Cmd.Key)) fun x12 => (Option.bind (Option.bind (law19_awake N ) fun x16 => (bif x16 then (bif (x12.1 == 0) then (bif (x12.2 == 1) then (Option.bind (warden_Warden_Out_nil0 N ) fun x17 => (bif (((x17).length : Int) == 0) then (Option.bind (warden_Warden_Acked_nil0 N ) fun x20 => (bif (x20 == 0) then (Option.bind (warden_Warden_Pending_nil0 N ) fun x21 => (bif (x21 == 0) then (Option.bind (warden_Warden_Now_nil0 N ) fun x22 => (Option.bind (law18_Same N (T_config_State.mk x22.Pool x22.Nodes x22.Members x22.Maps x22.Modes) (T_ref18_State.mk 0 0 (List.replicate 4 false) (List.replicate 4 (T_api_Map.mk ([] : List ByteArray) ([] : List Int))) (List.replicate 21 0))) fun x24 => (bif x24 then (Option.bind (warden_Warden_Tail_nil0 N ) fun x25 => (Option.bind (law18_Same N (T_config_State.mk x25.Pool x25.Nodes x25.Members x25.Maps x25.Modes) (T_ref18_State.mk 0 0 (List.replicate 4 false) (List.replicate 4 (T_api_Map.mk ([] : List ByteArray) ([] : List Int))) (List.replicate 21 0))) fun x27 => (bif x27 then (Option.bind (warden_Warden_Modes_nil0 N ) fun x28 => (some (cEq (flat [(21, (encs (fInt .i64) x28))]) (flat [(21, (encs (fInt .i64) (List.replicate 21 0)))])))) else (some false)))) else (some false)))) else (some false))) else (some false))) else (some false))) else (some false)) else (some false)) else (some false))) fun v15 => (some v15))))
end Go.Cf.M
