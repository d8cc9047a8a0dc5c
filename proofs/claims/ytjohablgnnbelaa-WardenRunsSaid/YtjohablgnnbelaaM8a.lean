/- What the functions compute, as Lean functions (none: a panic, an empty purse, or a size that is not followed). Printed by a program of ours out of the translation. -/
import Derived.Test.YtjohablgnnbelaaM3
import Derived.Test.YtjohablgnnbelaaM8
namespace Go.Cf.M
open Go Go.Cf
set_option linter.unusedVariables false
-- confluencelaw19.awake
def law19_awake (N : Nat)  : Option (Bool) :=
  (Option.bind (config_Start N 1 1 1) fun x3 => (Option.bind (warden_New N (T_config_State.mk x3.1.Pool x3.1.Nodes x3.1.Members x3.1.Maps x3.1.Modes)) fun x7 => (Option.bind (warden_Warden_Ask N (T_warden_Warden.mk (T_config_State.mk x7.now.Pool x7.now.Nodes x7.now.Members x7.now.Maps x7.now.Modes) (T_config_State.mk x7.tail.Pool x7.tail.Nodes x7.tail.Members x7.tail.Maps x7.tail.Modes) x7.queue x7.done x7.epoch x7.step_ x7.wait x7.mark_ x7.ready x7.out) (T_api_Cmd.mk 3 0 0 0 0 (ByteArray.mk #[109]))) fun x18 => (Option.bind (warden_Warden_Take N (T_warden_Warden.mk (T_config_State.mk x18.2.2.now.Pool x18.2.2.now.Nodes x18.2.2.now.Members x18.2.2.now.Maps x18.2.2.now.Modes) (T_config_State.mk x18.2.2.tail.Pool x18.2.2.tail.Nodes x18.2.2.tail.Members x18.2.2.tail.Maps x18.2.2.tail.Modes) x18.2.2.queue x18.2.2.done x18.2.2.epoch x18.2.2.step_ x18.2.2.wait x18.2.2.mark_ x18.2.2.ready x18.2.2.out) 0 (T_api_Msg.mk 23 1 0 0 ByteArray.empty ByteArray.empty ([] : List T_api_Ver) ([] : List Int) (T_api_Cmd.mk 0 0 0 0 0 ByteArray.empty))) fun x26 => (Option.bind (bif (x18.1 == 0) then (bif (x18.2.1 == 0) then (Option.bind (warden_Warden_Acked N (T_warden_Warden.mk (T_config_State.mk x26.now.Pool x26.now.Nodes x26.now.Members x26.now.Maps x26.now.Modes) (T_config_State.mk x26.tail.Pool x26.tail.Nodes x26.tail.Members x26.tail.Maps x26.tail.Modes) x26.queue x26.done x26.epoch x26.step_ x26.wait x26.mark_ x26.ready x26.out)) fun x36 => (some (x36 == 1))) else (some false)) else (some false)) fun v35 => (some v35))))))
end Go.Cf.M
