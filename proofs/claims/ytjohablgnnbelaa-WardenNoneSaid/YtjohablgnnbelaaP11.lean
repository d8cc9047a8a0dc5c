/- The plain law of WardenNone. -/
import Derived.Test.YtjohablgnnbelaaM9n
import Derived.Test.YtjohablgnnbelaaKit1
namespace Go.Cf
open Go
set_option maxRecDepth 100000 in
theorem awake19 : M.law19_awake 1000 = some true := by kernel_rfl
set_option maxRecDepth 100000 in
theorem zero19 : M.law18_Same 1000 (T_config_State.mk 0 0 (List.replicate 4 false) (List.replicate 4 (T_api_Map.mk ([] : List ByteArray) ([] : List Int))) (List.replicate 21 0)) (T_ref18_State.mk 0 0 (List.replicate 4 false) (List.replicate 4 (T_api_Map.mk ([] : List ByteArray) ([] : List Int))) (List.replicate 21 0)) = some true := by kernel_rfl
theorem pWardenNone (o : T_law19_Op) : M.law19_WardenNone 1000 o = some true := by
  unfold M.law19_WardenNone M.warden_Warden_Take_nil0 M.warden_Warden_Ask_nil0 M.warden_Warden_Out_nil0 M.warden_Warden_Acked_nil0 M.warden_Warden_Pending_nil0 M.warden_Warden_Now_nil0 M.warden_Warden_Tail_nil0 M.warden_Warden_Modes_nil0
  simp only [Option.bind_some, awake19, zero19]
  kernel_rfl
end Go.Cf
