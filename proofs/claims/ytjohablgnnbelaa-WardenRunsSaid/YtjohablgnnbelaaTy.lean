/- The types of the program, as data, and how they lie in cells. Printed by a program of ours (drv.py). -/
import Derived.Test.YtjohablgnnbelaaKit19
namespace Go.Cf
open Go
structure T_api_Map where
  Cuts : (List ByteArray)
  Nodes : (List Int)
structure T_span_Shard where
  Lo : ByteArray
  Hi : ByteArray
  Node : Int
structure T_config_State where
  Pool : Int
  Nodes : Int
  Members : (List Bool)
  Maps : (List T_api_Map)
  Modes : (List Int)
structure T_ref18_State where
  Pool : Int
  Nodes : Int
  Members : (List Bool)
  Maps : (List T_api_Map)
  Modes : (List Int)
structure T_api_Cmd where
  Kind : Int
  DC : Int
  Shard : Int
  Node : Int
  Mode : Int
  Key : ByteArray
structure T_api_Ver where
  Key : ByteArray
  Val : ByteArray
  Gone : Bool
  TS : Int
  DC : Int
  Tx : Int
structure T_api_Msg where
  Kind : Int
  Id : Int
  N : Int
  TS : Int
  Lo : ByteArray
  Hi : ByteArray
  Vers : (List T_api_Ver)
  Vec : (List Int)
  Cmd : T_api_Cmd
structure T_api_Mail where
  To : Int
  Msg : T_api_Msg
structure T_warden_Warden where
  now : T_config_State
  tail : T_config_State
  queue : (List T_api_Cmd)
  done : Int
  epoch : Int
  step_ : Int
  wait : (List Bool)
  mark_ : Int
  ready : Bool
  out : (List T_api_Mail)
structure T_ref19_Warden where
  Now : T_ref18_State
  Taken : (List T_api_Cmd)
  Done : Int
  Epoch : Int
  Entry : Int
  Wants : (List Bool)
  Ready : Bool
  Mark : Int
  Mail : (List T_api_Mail)
structure T_law19_Op where
  Ask : Bool
  Cmd : T_api_Cmd
  DC : Int
  Msg : T_api_Msg
def t_api_Map : Ty T_api_Map := Ty.of (H := Option Addr × Nat × Option Addr × Nat) 2 (fun h x => [(1, [.slice h.1 (x.Cuts).length h.2.1]), (1, [.slice h.2.2.1 (x.Nodes).length h.2.2.2])]) (fun h x => [Ro.mp fStr.ty h.1 h.2.1 x.Cuts, Ro.mp (fInt .i64).ty h.2.2.1 h.2.2.2 x.Nodes]) (fun h x κ w hR => by
  have hget : ∀ (i : Nat) {m : MP}, ([Ro.mp fStr.ty h.1 h.2.1 x.Cuts, Ro.mp (fInt .i64).ty h.2.2.1 h.2.2.2 x.Nodes] : List MP)[i]? = some m → m.p κ w := fun i m hi => hR m (List.mem_of_getElem? hi)
  exact (sgN 2 sgNil)) (fun _ _ => by kernel_rfl)
theorem z_api_Map (κ : Gh) (w : World) : (t_api_Map).rep κ w (flat [(1, [.slice none 0 0]), (1, [.slice none 0 0])]) (T_api_Map.mk ([] : List ByteArray) ([] : List Int)) :=
  ⟨(none, 0, none, 0), rfl, by
    intro m hm
    simp only [List.mem_cons, List.not_mem_nil, or_false] at hm
    rcases hm with rfl | rfl
    · exact Ro.nil _ _ _
    · exact Ro.nil _ _ _⟩
def f_span_Shard : FT T_span_Shard := ⟨3, fun x => [.string (x.Lo), .string (x.Hi), .int .i64 (x.Node)], fun _ => rfl, fun x v hv => by
  simp only [List.mem_cons, List.not_mem_nil, or_false] at hv
  rcases hv with rfl | rfl | rfl <;> rfl⟩
def t_config_State : Ty T_config_State := Ty.of (H := List Value) 35 (fun h x => [(1, [.int .i64 (x.Pool)]), (1, [.int .i64 (x.Nodes)]), (4, (encs fBool x.Members)), (8, h), (21, (encs (fInt .i64) x.Modes))]) (fun h x => [MP.const (List.length x.Members = 4), Arr.mp t_api_Map h 4 x.Maps, MP.const (List.length x.Modes = 21)]) (fun h x κ w hR => by
  have hget : ∀ (i : Nat) {m : MP}, ([MP.const (List.length x.Members = 4), Arr.mp t_api_Map h 4 x.Maps, MP.const (List.length x.Modes = 21)] : List MP)[i]? = some m → m.p κ w := fun i m hi => hR m (List.mem_of_getElem? hi)
  exact (sgN 2 (sgEnc (hget 0 rfl) (sgArr (hget 1 rfl) (sgEnc (hget 2 rfl) sgNil))))) (fun _ _ => by kernel_rfl)
theorem z_config_State (κ : Gh) (w : World) : (t_config_State).rep κ w (flat [(1, [.int .i64 (0)]), (1, [.int .i64 (0)]), (4, (encs fBool (List.replicate 4 false))), (8, (List.replicate 4 (flat [(1, [.slice none 0 0]), (1, [.slice none 0 0])])).flatten), (21, (encs (fInt .i64) (List.replicate 21 0)))]) (T_config_State.mk 0 0 (List.replicate 4 false) (List.replicate 4 (T_api_Map.mk ([] : List ByteArray) ([] : List Int))) (List.replicate 21 0)) :=
  ⟨(List.replicate 4 (flat [(1, [.slice none 0 0]), (1, [.slice none 0 0])])).flatten, rfl, by
    intro m hm
    simp only [List.mem_cons, List.not_mem_nil, or_false] at hm
    rcases hm with rfl | rfl | rfl
    · exact List.length_replicate
    · exact Arr.zero _ _ _ _ _ z_api_Map
    · exact List.length_replicate⟩
def t_ref18_State : Ty T_ref18_State := Ty.of (H := List Value) 35 (fun h x => [(1, [.int .i64 (x.Pool)]), (1, [.int .i64 (x.Nodes)]), (4, (encs fBool x.Members)), (8, h), (21, (encs (fInt .i64) x.Modes))]) (fun h x => [MP.const (List.length x.Members = 4), Arr.mp t_api_Map h 4 x.Maps, MP.const (List.length x.Modes = 21)]) (fun h x κ w hR => by
  have hget : ∀ (i : Nat) {m : MP}, ([MP.const (List.length x.Members = 4), Arr.mp t_api_Map h 4 x.Maps, MP.const (List.length x.Modes = 21)] : List MP)[i]? = some m → m.p κ w := fun i m hi => hR m (List.mem_of_getElem? hi)
  exact (sgN 2 (sgEnc (hget 0 rfl) (sgArr (hget 1 rfl) (sgEnc (hget 2 rfl) sgNil))))) (fun _ _ => by kernel_rfl)
theorem z_ref18_State (κ : Gh) (w : World) : (t_ref18_State).rep κ w (flat [(1, [.int .i64 (0)]), (1, [.int .i64 (0)]), (4, (encs fBool (List.replicate 4 false))), (8, (List.replicate 4 (flat [(1, [.slice none 0 0]), (1, [.slice none 0 0])])).flatten), (21, (encs (fInt .i64) (List.replicate 21 0)))]) (T_ref18_State.mk 0 0 (List.replicate 4 false) (List.replicate 4 (T_api_Map.mk ([] : List ByteArray) ([] : List Int))) (List.replicate 21 0)) :=
  ⟨(List.replicate 4 (flat [(1, [.slice none 0 0]), (1, [.slice none 0 0])])).flatten, rfl, by
    intro m hm
    simp only [List.mem_cons, List.not_mem_nil, or_false] at hm
    rcases hm with rfl | rfl | rfl
    · exact List.length_replicate
    · exact Arr.zero _ _ _ _ _ z_api_Map
    · exact List.length_replicate⟩
def f_api_Cmd : FT T_api_Cmd := ⟨6, fun x => [.int .i64 (x.Kind), .int .i64 (x.DC), .int .i64 (x.Shard), .int .i64 (x.Node), .int .i64 (x.Mode), .string (x.Key)], fun _ => rfl, fun x v hv => by
  simp only [List.mem_cons, List.not_mem_nil, or_false] at hv
  rcases hv with rfl | rfl | rfl | rfl | rfl | rfl <;> rfl⟩
def f_api_Ver : FT T_api_Ver := ⟨6, fun x => [.string (x.Key), .string (x.Val), .bool (x.Gone), .int .u64 (x.TS), .int .i64 (x.DC), .int .i64 (x.Tx)], fun _ => rfl, fun x v hv => by
  simp only [List.mem_cons, List.not_mem_nil, or_false] at hv
  rcases hv with rfl | rfl | rfl | rfl | rfl | rfl <;> rfl⟩
def t_api_Msg : Ty T_api_Msg := Ty.of (H := Option Addr × Nat × Option Addr × Nat) 14 (fun h x => [(1, [.int .i64 (x.Kind)]), (1, [.int .u64 (x.Id)]), (1, [.int .u64 (x.N)]), (1, [.int .u64 (x.TS)]), (1, [.string (x.Lo)]), (1, [.string (x.Hi)]), (1, [.slice h.1 (x.Vers).length h.2.1]), (1, [.slice h.2.2.1 (x.Vec).length h.2.2.2]), (1, [.int .i64 (x.Cmd.Kind)]), (1, [.int .i64 (x.Cmd.DC)]), (1, [.int .i64 (x.Cmd.Shard)]), (1, [.int .i64 (x.Cmd.Node)]), (1, [.int .i64 (x.Cmd.Mode)]), (1, [.string (x.Cmd.Key)])]) (fun h x => [Ro.mp f_api_Ver.ty h.1 h.2.1 x.Vers, Ro.mp (fInt .u64).ty h.2.2.1 h.2.2.2 x.Vec]) (fun h x κ w hR => by
  have hget : ∀ (i : Nat) {m : MP}, ([Ro.mp f_api_Ver.ty h.1 h.2.1 x.Vers, Ro.mp (fInt .u64).ty h.2.2.1 h.2.2.2 x.Vec] : List MP)[i]? = some m → m.p κ w := fun i m hi => hR m (List.mem_of_getElem? hi)
  exact (sgN 14 sgNil)) (fun _ _ => by kernel_rfl)
theorem z_api_Msg (κ : Gh) (w : World) : (t_api_Msg).rep κ w (flat [(1, [.int .i64 (0)]), (1, [.int .u64 (0)]), (1, [.int .u64 (0)]), (1, [.int .u64 (0)]), (1, [.string (ByteArray.empty)]), (1, [.string (ByteArray.empty)]), (1, [.slice none 0 0]), (1, [.slice none 0 0]), (1, [.int .i64 (0)]), (1, [.int .i64 (0)]), (1, [.int .i64 (0)]), (1, [.int .i64 (0)]), (1, [.int .i64 (0)]), (1, [.string (ByteArray.empty)])]) (T_api_Msg.mk 0 0 0 0 ByteArray.empty ByteArray.empty ([] : List T_api_Ver) ([] : List Int) (T_api_Cmd.mk 0 0 0 0 0 ByteArray.empty)) :=
  ⟨(none, 0, none, 0), rfl, by
    intro m hm
    simp only [List.mem_cons, List.not_mem_nil, or_false] at hm
    rcases hm with rfl | rfl
    · exact Ro.nil _ _ _
    · exact Ro.nil _ _ _⟩
def t_api_Mail : Ty T_api_Mail := Ty.of (H := Option Addr × Nat × Option Addr × Nat) 15 (fun h x => [(1, [.int .i64 (x.To)]), (1, [.int .i64 (x.Msg.Kind)]), (1, [.int .u64 (x.Msg.Id)]), (1, [.int .u64 (x.Msg.N)]), (1, [.int .u64 (x.Msg.TS)]), (1, [.string (x.Msg.Lo)]), (1, [.string (x.Msg.Hi)]), (1, [.slice h.1 (x.Msg.Vers).length h.2.1]), (1, [.slice h.2.2.1 (x.Msg.Vec).length h.2.2.2]), (1, [.int .i64 (x.Msg.Cmd.Kind)]), (1, [.int .i64 (x.Msg.Cmd.DC)]), (1, [.int .i64 (x.Msg.Cmd.Shard)]), (1, [.int .i64 (x.Msg.Cmd.Node)]), (1, [.int .i64 (x.Msg.Cmd.Mode)]), (1, [.string (x.Msg.Cmd.Key)])]) (fun h x => [Ro.mp f_api_Ver.ty h.1 h.2.1 x.Msg.Vers, Ro.mp (fInt .u64).ty h.2.2.1 h.2.2.2 x.Msg.Vec]) (fun h x κ w hR => by
  have hget : ∀ (i : Nat) {m : MP}, ([Ro.mp f_api_Ver.ty h.1 h.2.1 x.Msg.Vers, Ro.mp (fInt .u64).ty h.2.2.1 h.2.2.2 x.Msg.Vec] : List MP)[i]? = some m → m.p κ w := fun i m hi => hR m (List.mem_of_getElem? hi)
  exact (sgN 15 sgNil)) (fun _ _ => by kernel_rfl)
theorem z_api_Mail (κ : Gh) (w : World) : (t_api_Mail).rep κ w (flat [(1, [.int .i64 (0)]), (1, [.int .i64 (0)]), (1, [.int .u64 (0)]), (1, [.int .u64 (0)]), (1, [.int .u64 (0)]), (1, [.string (ByteArray.empty)]), (1, [.string (ByteArray.empty)]), (1, [.slice none 0 0]), (1, [.slice none 0 0]), (1, [.int .i64 (0)]), (1, [.int .i64 (0)]), (1, [.int .i64 (0)]), (1, [.int .i64 (0)]), (1, [.int .i64 (0)]), (1, [.string (ByteArray.empty)])]) (T_api_Mail.mk 0 (T_api_Msg.mk 0 0 0 0 ByteArray.empty ByteArray.empty ([] : List T_api_Ver) ([] : List Int) (T_api_Cmd.mk 0 0 0 0 0 ByteArray.empty))) :=
  ⟨(none, 0, none, 0), rfl, by
    intro m hm
    simp only [List.mem_cons, List.not_mem_nil, or_false] at hm
    rcases hm with rfl | rfl
    · exact Ro.nil _ _ _
    · exact Ro.nil _ _ _⟩
def t_warden_Warden : Ty T_warden_Warden := Ty.of (H := List Value × List Value × Option Addr × Nat × Option Addr × Nat) 81 (fun h x => [(1, [.int .i64 (x.now.Pool)]), (1, [.int .i64 (x.now.Nodes)]), (4, (encs fBool x.now.Members)), (8, h.1), (21, (encs (fInt .i64) x.now.Modes)), (1, [.int .i64 (x.tail.Pool)]), (1, [.int .i64 (x.tail.Nodes)]), (4, (encs fBool x.tail.Members)), (8, h.2.1), (21, (encs (fInt .i64) x.tail.Modes)), (1, [.slice h.2.2.1 (x.queue).length h.2.2.2.1]), (1, [.int .i64 (x.done)]), (1, [.int .i64 (x.epoch)]), (1, [.int .i64 (x.step_)]), (4, (encs fBool x.wait)), (1, [.int .u64 (x.mark_)]), (1, [.bool (x.ready)]), (1, [.slice h.2.2.2.2.1 (x.out).length h.2.2.2.2.2])]) (fun h x => [MP.const (List.length x.now.Members = 4), Arr.mp t_api_Map h.1 4 x.now.Maps, MP.const (List.length x.now.Modes = 21), MP.const (List.length x.tail.Members = 4), Arr.mp t_api_Map h.2.1 4 x.tail.Maps, MP.const (List.length x.tail.Modes = 21), Ro.mp f_api_Cmd.ty h.2.2.1 h.2.2.2.1 x.queue, MP.const (List.length x.wait = 4), Ro.mp t_api_Mail h.2.2.2.2.1 h.2.2.2.2.2 x.out]) (fun h x κ w hR => by
  have hget : ∀ (i : Nat) {m : MP}, ([MP.const (List.length x.now.Members = 4), Arr.mp t_api_Map h.1 4 x.now.Maps, MP.const (List.length x.now.Modes = 21), MP.const (List.length x.tail.Members = 4), Arr.mp t_api_Map h.2.1 4 x.tail.Maps, MP.const (List.length x.tail.Modes = 21), Ro.mp f_api_Cmd.ty h.2.2.1 h.2.2.2.1 x.queue, MP.const (List.length x.wait = 4), Ro.mp t_api_Mail h.2.2.2.2.1 h.2.2.2.2.2 x.out] : List MP)[i]? = some m → m.p κ w := fun i m hi => hR m (List.mem_of_getElem? hi)
  exact (sgN 2 (sgEnc (hget 0 rfl) (sgArr (hget 1 rfl) (sgEnc (hget 2 rfl) (sgN 2 (sgEnc (hget 3 rfl) (sgArr (hget 4 rfl) (sgEnc (hget 5 rfl) (sgN 4 (sgEnc (hget 7 rfl) (sgN 3 sgNil)))))))))))) (fun _ _ => by kernel_rfl)
theorem z_warden_Warden (κ : Gh) (w : World) : (t_warden_Warden).rep κ w (flat [(1, [.int .i64 (0)]), (1, [.int .i64 (0)]), (4, (encs fBool (List.replicate 4 false))), (8, (List.replicate 4 (flat [(1, [.slice none 0 0]), (1, [.slice none 0 0])])).flatten), (21, (encs (fInt .i64) (List.replicate 21 0))), (1, [.int .i64 (0)]), (1, [.int .i64 (0)]), (4, (encs fBool (List.replicate 4 false))), (8, (List.replicate 4 (flat [(1, [.slice none 0 0]), (1, [.slice none 0 0])])).flatten), (21, (encs (fInt .i64) (List.replicate 21 0))), (1, [.slice none 0 0]), (1, [.int .i64 (0)]), (1, [.int .i64 (0)]), (1, [.int .i64 (0)]), (4, (encs fBool (List.replicate 4 false))), (1, [.int .u64 (0)]), (1, [.bool (false)]), (1, [.slice none 0 0])]) (T_warden_Warden.mk (T_config_State.mk 0 0 (List.replicate 4 false) (List.replicate 4 (T_api_Map.mk ([] : List ByteArray) ([] : List Int))) (List.replicate 21 0)) (T_config_State.mk 0 0 (List.replicate 4 false) (List.replicate 4 (T_api_Map.mk ([] : List ByteArray) ([] : List Int))) (List.replicate 21 0)) ([] : List T_api_Cmd) 0 0 0 (List.replicate 4 false) 0 false ([] : List T_api_Mail)) :=
  ⟨((List.replicate 4 (flat [(1, [.slice none 0 0]), (1, [.slice none 0 0])])).flatten, (List.replicate 4 (flat [(1, [.slice none 0 0]), (1, [.slice none 0 0])])).flatten, none, 0, none, 0), rfl, by
    intro m hm
    simp only [List.mem_cons, List.not_mem_nil, or_false] at hm
    rcases hm with rfl | rfl | rfl | rfl | rfl | rfl | rfl | rfl | rfl
    · exact List.length_replicate
    · exact Arr.zero _ _ _ _ _ z_api_Map
    · exact List.length_replicate
    · exact List.length_replicate
    · exact Arr.zero _ _ _ _ _ z_api_Map
    · exact List.length_replicate
    · exact Ro.nil _ _ _
    · exact List.length_replicate
    · exact Ro.nil _ _ _⟩
def t_ref19_Warden : Ty T_ref19_Warden := Ty.of (H := List Value × Option Addr × Nat × Option Addr × Nat) 46 (fun h x => [(1, [.int .i64 (x.Now.Pool)]), (1, [.int .i64 (x.Now.Nodes)]), (4, (encs fBool x.Now.Members)), (8, h.1), (21, (encs (fInt .i64) x.Now.Modes)), (1, [.slice h.2.1 (x.Taken).length h.2.2.1]), (1, [.int .i64 (x.Done)]), (1, [.int .i64 (x.Epoch)]), (1, [.int .i64 (x.Entry)]), (4, (encs fBool x.Wants)), (1, [.bool (x.Ready)]), (1, [.int .u64 (x.Mark)]), (1, [.slice h.2.2.2.1 (x.Mail).length h.2.2.2.2])]) (fun h x => [MP.const (List.length x.Now.Members = 4), Arr.mp t_api_Map h.1 4 x.Now.Maps, MP.const (List.length x.Now.Modes = 21), Ro.mp f_api_Cmd.ty h.2.1 h.2.2.1 x.Taken, MP.const (List.length x.Wants = 4), Ro.mp t_api_Mail h.2.2.2.1 h.2.2.2.2 x.Mail]) (fun h x κ w hR => by
  have hget : ∀ (i : Nat) {m : MP}, ([MP.const (List.length x.Now.Members = 4), Arr.mp t_api_Map h.1 4 x.Now.Maps, MP.const (List.length x.Now.Modes = 21), Ro.mp f_api_Cmd.ty h.2.1 h.2.2.1 x.Taken, MP.const (List.length x.Wants = 4), Ro.mp t_api_Mail h.2.2.2.1 h.2.2.2.2 x.Mail] : List MP)[i]? = some m → m.p κ w := fun i m hi => hR m (List.mem_of_getElem? hi)
  exact (sgN 2 (sgEnc (hget 0 rfl) (sgArr (hget 1 rfl) (sgEnc (hget 2 rfl) (sgN 4 (sgEnc (hget 4 rfl) (sgN 3 sgNil)))))))) (fun _ _ => by kernel_rfl)
theorem z_ref19_Warden (κ : Gh) (w : World) : (t_ref19_Warden).rep κ w (flat [(1, [.int .i64 (0)]), (1, [.int .i64 (0)]), (4, (encs fBool (List.replicate 4 false))), (8, (List.replicate 4 (flat [(1, [.slice none 0 0]), (1, [.slice none 0 0])])).flatten), (21, (encs (fInt .i64) (List.replicate 21 0))), (1, [.slice none 0 0]), (1, [.int .i64 (0)]), (1, [.int .i64 (0)]), (1, [.int .i64 (0)]), (4, (encs fBool (List.replicate 4 false))), (1, [.bool (false)]), (1, [.int .u64 (0)]), (1, [.slice none 0 0])]) (T_ref19_Warden.mk (T_ref18_State.mk 0 0 (List.replicate 4 false) (List.replicate 4 (T_api_Map.mk ([] : List ByteArray) ([] : List Int))) (List.replicate 21 0)) ([] : List T_api_Cmd) 0 0 0 (List.replicate 4 false) false 0 ([] : List T_api_Mail)) :=
  ⟨((List.replicate 4 (flat [(1, [.slice none 0 0]), (1, [.slice none 0 0])])).flatten, none, 0, none, 0), rfl, by
    intro m hm
    simp only [List.mem_cons, List.not_mem_nil, or_false] at hm
    rcases hm with rfl | rfl | rfl | rfl | rfl | rfl
    · exact List.length_replicate
    · exact Arr.zero _ _ _ _ _ z_api_Map
    · exact List.length_replicate
    · exact Ro.nil _ _ _
    · exact List.length_replicate
    · exact Ro.nil _ _ _⟩
def t_law19_Op : Ty T_law19_Op := Ty.of (H := Option Addr × Nat × Option Addr × Nat) 22 (fun h x => [(1, [.bool (x.Ask)]), (1, [.int .i64 (x.Cmd.Kind)]), (1, [.int .i64 (x.Cmd.DC)]), (1, [.int .i64 (x.Cmd.Shard)]), (1, [.int .i64 (x.Cmd.Node)]), (1, [.int .i64 (x.Cmd.Mode)]), (1, [.string (x.Cmd.Key)]), (1, [.int .i64 (x.DC)]), (1, [.int .i64 (x.Msg.Kind)]), (1, [.int .u64 (x.Msg.Id)]), (1, [.int .u64 (x.Msg.N)]), (1, [.int .u64 (x.Msg.TS)]), (1, [.string (x.Msg.Lo)]), (1, [.string (x.Msg.Hi)]), (1, [.slice h.1 (x.Msg.Vers).length h.2.1]), (1, [.slice h.2.2.1 (x.Msg.Vec).length h.2.2.2]), (1, [.int .i64 (x.Msg.Cmd.Kind)]), (1, [.int .i64 (x.Msg.Cmd.DC)]), (1, [.int .i64 (x.Msg.Cmd.Shard)]), (1, [.int .i64 (x.Msg.Cmd.Node)]), (1, [.int .i64 (x.Msg.Cmd.Mode)]), (1, [.string (x.Msg.Cmd.Key)])]) (fun h x => [Ro.mp f_api_Ver.ty h.1 h.2.1 x.Msg.Vers, Ro.mp (fInt .u64).ty h.2.2.1 h.2.2.2 x.Msg.Vec]) (fun h x κ w hR => by
  have hget : ∀ (i : Nat) {m : MP}, ([Ro.mp f_api_Ver.ty h.1 h.2.1 x.Msg.Vers, Ro.mp (fInt .u64).ty h.2.2.1 h.2.2.2 x.Msg.Vec] : List MP)[i]? = some m → m.p κ w := fun i m hi => hR m (List.mem_of_getElem? hi)
  exact (sgN 22 sgNil)) (fun _ _ => by kernel_rfl)
theorem z_law19_Op (κ : Gh) (w : World) : (t_law19_Op).rep κ w (flat [(1, [.bool (false)]), (1, [.int .i64 (0)]), (1, [.int .i64 (0)]), (1, [.int .i64 (0)]), (1, [.int .i64 (0)]), (1, [.int .i64 (0)]), (1, [.string (ByteArray.empty)]), (1, [.int .i64 (0)]), (1, [.int .i64 (0)]), (1, [.int .u64 (0)]), (1, [.int .u64 (0)]), (1, [.int .u64 (0)]), (1, [.string (ByteArray.empty)]), (1, [.string (ByteArray.empty)]), (1, [.slice none 0 0]), (1, [.slice none 0 0]), (1, [.int .i64 (0)]), (1, [.int .i64 (0)]), (1, [.int .i64 (0)]), (1, [.int .i64 (0)]), (1, [.int .i64 (0)]), (1, [.string (ByteArray.empty)])]) (T_law19_Op.mk false (T_api_Cmd.mk 0 0 0 0 0 ByteArray.empty) 0 (T_api_Msg.mk 0 0 0 0 ByteArray.empty ByteArray.empty ([] : List T_api_Ver) ([] : List Int) (T_api_Cmd.mk 0 0 0 0 0 ByteArray.empty))) :=
  ⟨(none, 0, none, 0), rfl, by
    intro m hm
    simp only [List.mem_cons, List.not_mem_nil, or_false] at hm
    rcases hm with rfl | rfl
    · exact Ro.nil _ _ _
    · exact Ro.nil _ _ _⟩
end Go.Cf
