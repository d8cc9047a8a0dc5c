/- The types of the program, as data, and how they lie in cells. Printed by a program of ours (drv.py). -/
import Derived.Test.YtjohablgnnbelaaKit17
namespace Go.Cf
open Go
structure T_api_Map where
  Cuts : (List ByteArray)
  Nodes : (List Int)
structure T_span_Shard where
  Lo : ByteArray
  Hi : ByteArray
  Node : Int
structure T_config_State where
  Pool : Int
  Nodes : Int
  Members : (List Bool)
  Maps : (List T_api_Map)
  Modes : (List Int)
structure T_ref18_State where
  Pool : Int
  Nodes : Int
  Members : (List Bool)
  Maps : (List T_api_Map)
  Modes : (List Int)
structure T_api_Cmd where
  Kind : Int
  DC : Int
  Shard : Int
  Node : Int
  Mode : Int
  Key : ByteArray
def t_api_Map : Ty T_api_Map := Ty.of (H := Option Addr × Nat × Option Addr × Nat) 2 (fun h x => [(1, [.slice h.1 (x.Cuts).length h.2.1]), (1, [.slice h.2.2.1 (x.Nodes).length h.2.2.2])]) (fun h x => [Ro.mp fStr.ty h.1 h.2.1 x.Cuts, Ro.mp (fInt .i64).ty h.2.2.1 h.2.2.2 x.Nodes]) (fun h x κ w hR => by
  have hget : ∀ (i : Nat) {m : MP}, ([Ro.mp fStr.ty h.1 h.2.1 x.Cuts, Ro.mp (fInt .i64).ty h.2.2.1 h.2.2.2 x.Nodes] : List MP)[i]? = some m → m.p κ w := fun i m hi => hR m (List.mem_of_getElem? hi)
  exact (sgV rfl (sgV rfl sgNil))) (fun _ _ => rfl)
theorem z_api_Map (κ : Gh) (w : World) : (t_api_Map).rep κ w (flat [(1, [.slice none 0 0]), (1, [.slice none 0 0])]) (T_api_Map.mk ([] : List ByteArray) ([] : List Int)) :=
  ⟨(none, 0, none, 0), rfl, by
    intro m hm
    simp only [List.mem_cons, List.not_mem_nil, or_false] at hm
    rcases hm with rfl | rfl
    · exact Ro.nil _ _ _
    · exact Ro.nil _ _ _⟩
def f_span_Shard : FT T_span_Shard := ⟨3, fun x => [.string (x.Lo), .string (x.Hi), .int .i64 (x.Node)], fun _ => rfl, fun x v hv => by
  simp only [List.mem_cons, List.not_mem_nil, or_false] at hv
  rcases hv with rfl | rfl | rfl <;> rfl⟩
def t_config_State : Ty T_config_State := Ty.of (H := List Value) 35 (fun h x => [(1, [.int .i64 (x.Pool)]), (1, [.int .i64 (x.Nodes)]), (4, (encs fBool x.Members)), (8, h), (21, (encs (fInt .i64) x.Modes))]) (fun h x => [MP.const (List.length x.Members = 4), Arr.mp t_api_Map h 4 x.Maps, MP.const (List.length x.Modes = 21)]) (fun h x κ w hR => by
  have hget : ∀ (i : Nat) {m : MP}, ([MP.const (List.length x.Members = 4), Arr.mp t_api_Map h 4 x.Maps, MP.const (List.length x.Modes = 21)] : List MP)[i]? = some m → m.p κ w := fun i m hi => hR m (List.mem_of_getElem? hi)
  exact (sgV rfl (sgV rfl (sgEnc (hget 0 rfl) (sgArr (hget 1 rfl) (sgEnc (hget 2 rfl) sgNil)))))) (fun _ _ => rfl)
theorem z_config_State (κ : Gh) (w : World) : (t_config_State).rep κ w (flat [(1, [.int .i64 (0)]), (1, [.int .i64 (0)]), (4, (encs fBool (List.replicate 4 false))), (8, (List.replicate 4 (flat [(1, [.slice none 0 0]), (1, [.slice none 0 0])])).flatten), (21, (encs (fInt .i64) (List.replicate 21 0)))]) (T_config_State.mk 0 0 (List.replicate 4 false) (List.replicate 4 (T_api_Map.mk ([] : List ByteArray) ([] : List Int))) (List.replicate 21 0)) :=
  ⟨(List.replicate 4 (flat [(1, [.slice none 0 0]), (1, [.slice none 0 0])])).flatten, rfl, by
    intro m hm
    simp only [List.mem_cons, List.not_mem_nil, or_false] at hm
    rcases hm with rfl | rfl | rfl
    · exact List.length_replicate
    · exact Arr.zero _ _ _ _ _ z_api_Map
    · exact List.length_replicate⟩
def t_ref18_State : Ty T_ref18_State := Ty.of (H := List Value) 35 (fun h x => [(1, [.int .i64 (x.Pool)]), (1, [.int .i64 (x.Nodes)]), (4, (encs fBool x.Members)), (8, h), (21, (encs (fInt .i64) x.Modes))]) (fun h x => [MP.const (List.length x.Members = 4), Arr.mp t_api_Map h 4 x.Maps, MP.const (List.length x.Modes = 21)]) (fun h x κ w hR => by
  have hget : ∀ (i : Nat) {m : MP}, ([MP.const (List.length x.Members = 4), Arr.mp t_api_Map h 4 x.Maps, MP.const (List.length x.Modes = 21)] : List MP)[i]? = some m → m.p κ w := fun i m hi => hR m (List.mem_of_getElem? hi)
  exact (sgV rfl (sgV rfl (sgEnc (hget 0 rfl) (sgArr (hget 1 rfl) (sgEnc (hget 2 rfl) sgNil)))))) (fun _ _ => rfl)
theorem z_ref18_State (κ : Gh) (w : World) : (t_ref18_State).rep κ w (flat [(1, [.int .i64 (0)]), (1, [.int .i64 (0)]), (4, (encs fBool (List.replicate 4 false))), (8, (List.replicate 4 (flat [(1, [.slice none 0 0]), (1, [.slice none 0 0])])).flatten), (21, (encs (fInt .i64) (List.replicate 21 0)))]) (T_ref18_State.mk 0 0 (List.replicate 4 false) (List.replicate 4 (T_api_Map.mk ([] : List ByteArray) ([] : List Int))) (List.replicate 21 0)) :=
  ⟨(List.replicate 4 (flat [(1, [.slice none 0 0]), (1, [.slice none 0 0])])).flatten, rfl, by
    intro m hm
    simp only [List.mem_cons, List.not_mem_nil, or_false] at hm
    rcases hm with rfl | rfl | rfl
    · exact List.length_replicate
    · exact Arr.zero _ _ _ _ _ z_api_Map
    · exact List.length_replicate⟩
def f_api_Cmd : FT T_api_Cmd := ⟨6, fun x => [.int .i64 (x.Kind), .int .i64 (x.DC), .int .i64 (x.Shard), .int .i64 (x.Node), .int .i64 (x.Mode), .string (x.Key)], fun _ => rfl, fun x v hv => by
  simp only [List.mem_cons, List.not_mem_nil, or_false] at hv
  rcases hv with rfl | rfl | rfl | rfl | rfl | rfl <;> rfl⟩
end Go.Cf
