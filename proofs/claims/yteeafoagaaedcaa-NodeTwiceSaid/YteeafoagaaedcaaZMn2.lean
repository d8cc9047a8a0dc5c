/- What the functions compute, as Lean functions (none: a panic, an empty purse, or a size that is not followed). Printed by a program of ours out of the translation. -/
import Derived.Test.YteeafoagaaedcaaZMt1
import Derived.Test.YteeafoagaaedcaaZMt2
import Derived.Test.YteeafoagaaedcaaZMn1
namespace Go.Cf.M
open Go Go.Cf
set_option linter.unusedVariables false
noncomputable section
def node_New (N : Nat) (a1 : Int) : Option (T_node_Node) :=
  (Option.bind (store_New N ) fun x4 => (Option.bind (part_New N ) fun x9 => (some (T_node_Node.mk a1 (T_store_Store.mk x4.chains x4.floor) (T_part_Part.mk x9.clock x9.open_) (some []) ([] : List T_span_Shard) ([] : List Int)))))
def node_Node_Owns_L1 (N : Nat) : Nat → T_node_Node → ByteArray → Int → Option (Bool)
  | 0, _, _, _ => none
  | fuel1 + 1, a1, a18, y74 => (bif decide (y74 < ((a1.owned).length : Int)) then (Option.bind (idx a1.owned y74) fun x79 => (Option.bind (span_Within N a18 x79.Lo x79.Hi) fun x84 => (bif x84 then (some true) else ((node_Node_Owns_L1 N fuel1) a1 a18 (IntKind.i64.wrap (y74 + 1)))))) else (some false))
def node_Node_Owns (N : Nat) (a1 : T_node_Node) (a18 : ByteArray) : Option (Bool) :=
  (node_Node_Owns_L1 N N a1 a18 0)
def node_Node_prepare_L1 (N : Nat) : Nat → T_node_Node → T_api_Msg → Int → Int → Option (T_api_Msg × Bool × T_node_Node)
  | 0, _, _, _, _ => none
  | fuel1 + 1, a1, a18, a23, y84 => (bif decide (y84 < ((a18.Vers).length : Int)) then (Option.bind (idx a18.Vers y84) fun x89 => (Option.bind (Option.bind (node_Node_Owns N (T_node_Node.mk a1.dc (T_store_Store.mk a1.store.chains a1.store.floor) (T_part_Part.mk a1.part.clock a1.part.open_) a1.writes a1.owned a1.modes) x89.Key) fun x96 => (bif (!x96) then (some true) else (Option.bind (store_Check N (T_api_Ver.mk x89.Key x89.Val x89.Gone x89.TS x89.DC x89.Tx)) fun x97 => (some (x97 != 0))))) fun v95 => (bif v95 then (some ((T_api_Msg.mk 0 0 0 0 ByteArray.empty ByteArray.empty ([] : List T_api_Ver) ([] : List Int) (T_api_Cmd.mk 0 0 0 0 0 ByteArray.empty)), false, (T_node_Node.mk a1.dc (T_store_Store.mk a1.store.chains a1.store.floor) (T_part_Part.mk a1.part.clock a1.part.open_) a1.writes a1.owned a1.modes))) else ((node_Node_prepare_L1 N fuel1) a1 a18 a23 (IntKind.i64.wrap (y84 + 1)))))) else (Option.bind (part_Part_Prepare N (T_part_Part.mk a1.part.clock a1.part.open_) a18.Id a18.TS a23) fun x100 => (bif (x100.2.1 != 0) then (some ((T_api_Msg.mk 0 0 0 0 ByteArray.empty ByteArray.empty ([] : List T_api_Ver) ([] : List Int) (T_api_Cmd.mk 0 0 0 0 0 ByteArray.empty)), false, (T_node_Node.mk a1.dc (T_store_Store.mk a1.store.chains a1.store.floor) (T_part_Part.mk x100.2.2.clock x100.2.2.open_) a1.writes a1.owned a1.modes))) else (Option.bind (apd ([] : List T_api_Ver) a18.Vers) fun x108 => (Option.bind (mPut a1.writes a18.Id x108) fun x111 => (some ((T_api_Msg.mk 11 a18.Id 0 x100.1 ByteArray.empty ByteArray.empty ([] : List T_api_Ver) ([] : List Int) (T_api_Cmd.mk 0 0 0 0 0 ByteArray.empty)), true, (T_node_Node.mk a1.dc (T_store_Store.mk a1.store.chains a1.store.floor) (T_part_Part.mk x100.2.2.clock x100.2.2.open_) x111 a1.owned a1.modes))))))))
def node_Node_prepare (N : Nat) (a1 : T_node_Node) (a18 : T_api_Msg) (a23 : Int) : Option (T_api_Msg × Bool × T_node_Node) :=
  (Option.bind (bif (((a18.Vers).length : Int) == 0) then (some true) else (some (decide (a18.Id > 1073741824)))) fun v30 => (bif v30 then (some ((T_api_Msg.mk 0 0 0 0 ByteArray.empty ByteArray.empty ([] : List T_api_Ver) ([] : List Int) (T_api_Cmd.mk 0 0 0 0 0 ByteArray.empty)), false, (T_node_Node.mk a1.dc (T_store_Store.mk a1.store.chains a1.store.floor) (T_part_Part.mk a1.part.clock a1.part.open_) a1.writes a1.owned a1.modes))) else (node_Node_prepare_L1 N N a1 a18 a23 0)))
def node_Node_load_L1 (N : Nat) : Nat → T_node_Node → T_api_Msg → (Mp ByteArray (List T_api_Ver)) → Int → Int → (Mp Int Int) → Int → Option (T_node_Node)
  | 0, _, _, _, _, _, _, _ => none
  | fuel1 + 1, a1, a18, y79, y80, y81, y85, y86 => (bif decide (y86 < ((a18.Vers).length : Int)) then (Option.bind (idx a18.Vers y86) fun x91 => (Option.bind (store_Store_Put N (T_store_Store.mk y79 y80) (T_api_Ver.mk x91.Key x91.Val x91.Gone x91.TS x91.DC x91.Tx)) fun x96 => (Option.bind (part_Part_See N (T_part_Part.mk y81 y85) x91.TS) fun x100 => ((node_Node_load_L1 N fuel1) a1 a18 x96.2.chains x96.2.floor x100.clock x100.open_ (IntKind.i64.wrap (y86 + 1)))))) else (some (T_node_Node.mk a1.dc (T_store_Store.mk y79 y80) (T_part_Part.mk y81 y85) a1.writes a1.owned a1.modes)))
def node_Node_load (N : Nat) (a1 : T_node_Node) (a18 : T_api_Msg) : Option (T_node_Node) :=
  (node_Node_load_L1 N N a1 a18 a1.store.chains a1.store.floor a1.part.clock a1.part.open_ 0)
def node_before (N : Nat) (a1 : ByteArray) (a2 : ByteArray) : Option (Bool) :=
  (Option.bind (bif (!sEq a1 (ByteArray.mk #[])) then (bif (sEq a2 (ByteArray.mk #[])) then (some true) else (some (sLt a1 a2))) else (some false)) fun v6 => (some v6))
def node_Node_leave_k2 (N : Nat) (rec1 : T_node_Node → ByteArray → ByteArray → (List T_span_Shard) → Int → Option (T_node_Node)) (a1 : T_node_Node) (a18 : ByteArray) (a19 : ByteArray) (y76 : Int) (y79 : (List T_span_Shard)) : Option (T_node_Node) :=
  (rec1 a1 a18 a19 y79 (IntKind.i64.wrap (y76 + 1)))
def node_Node_leave_k3 (N : Nat) (rec1 : T_node_Node → ByteArray → ByteArray → (List T_span_Shard) → Int → Option (T_node_Node)) (a1 : T_node_Node) (a18 : ByteArray) (a19 : ByteArray) (y76 : Int) (x83 : T_span_Shard) (y87 : (List T_span_Shard)) : Option (T_node_Node) :=
  (Option.bind (node_before N a19 x83.Hi) fun x91 => (bif x91 then (Option.bind (apdW y87 [(T_span_Shard.mk (if (!sLt x83.Lo a19) = true then x83.Lo else a19) x83.Hi x83.Node)]) fun x96 => (node_Node_leave_k2 N rec1 a1 a18 a19 y76 x96)) else (node_Node_leave_k2 N rec1 a1 a18 a19 y76 y87)))
def node_Node_leave_k4 (N : Nat) (rec1 : T_node_Node → ByteArray → ByteArray → (List T_span_Shard) → Int → Option (T_node_Node)) (a1 : T_node_Node) (a18 : ByteArray) (a19 : ByteArray) (y73 : (List T_span_Shard)) (y76 : Int) (x83 : T_span_Shard) (y102 : ByteArray) : Option (T_node_Node) :=
  (Option.bind (apdW y73 [(T_span_Shard.mk x83.Lo y102 x83.Node)]) fun x104 => (node_Node_leave_k3 N rec1 a1 a18 a19 y76 x83 x104))
def node_Node_leave_L1 (N : Nat) : Nat → T_node_Node → ByteArray → ByteArray → (List T_span_Shard) → Int → Option (T_node_Node)
  | 0, _, _, _, _, _ => none
  | fuel1 + 1, a1, a18, a19, y73, y76 => (bif decide (y76 < ((a1.owned).length : Int)) then (Option.bind (idx a1.owned y76) fun x83 => (bif (sLt x83.Lo a18) then (Option.bind (node_before N a18 x83.Hi) fun x108 => (bif x108 then (node_Node_leave_k4 N (node_Node_leave_L1 N fuel1) a1 a18 a19 y73 y76 x83 a18) else (node_Node_leave_k4 N (node_Node_leave_L1 N fuel1) a1 a18 a19 y73 y76 x83 x83.Hi))) else (node_Node_leave_k3 N (node_Node_leave_L1 N fuel1) a1 a18 a19 y76 x83 y73))) else (some (T_node_Node.mk a1.dc (T_store_Store.mk a1.store.chains a1.store.floor) (T_part_Part.mk a1.part.clock a1.part.open_) a1.writes y73 a1.modes)))
def node_Node_leave (N : Nat) (a1 : T_node_Node) (a18 : ByteArray) (a19 : ByteArray) : Option (T_node_Node) :=
  (node_Node_leave_L1 N N a1 a18 a19 ([] : List T_span_Shard) 0)
def node_Node_own_L1 (N : Nat) : Nat → ByteArray → ByteArray → (T_node_Node) → Int → Option (T_node_Node)
  | 0, _, _, _, _ => none
  | fuel1 + 1, a18, a19, x21, y93 => (Option.bind (bif decide (y93 < ((x21.owned).length : Int)) then (Option.bind (idx x21.owned y93) fun x98 => (some (sLt x98.Lo a18))) else (some false)) fun v97 => (bif v97 then ((node_Node_own_L1 N fuel1) a18 a19 x21 (IntKind.i64.wrap (y93 + 1))) else (Option.bind (slc x21.owned 0 y93) fun x102 => (Option.bind (apdW ([] : List T_span_Shard) x102) fun x105 => (Option.bind (apdW x105 [(T_span_Shard.mk a18 a19 0)]) fun x109 => (Option.bind (slc x21.owned y93 ((x21.owned).length : Int)) fun x112 => (Option.bind (apdW x109 x112) fun x115 => (some (T_node_Node.mk x21.dc (T_store_Store.mk x21.store.chains x21.store.floor) (T_part_Part.mk x21.part.clock x21.part.open_) x21.writes x115 x21.modes)))))))))
def node_Node_own (N : Nat) (a1 : T_node_Node) (a18 : ByteArray) (a19 : ByteArray) : Option (T_node_Node) :=
  (Option.bind (node_Node_leave N (T_node_Node.mk a1.dc (T_store_Store.mk a1.store.chains a1.store.floor) (T_part_Part.mk a1.part.clock a1.part.open_) a1.writes a1.owned a1.modes) a18 a19) fun x21 => (Option.bind (bif (!sEq a19 (ByteArray.mk #[])) then (some (!sLt a18 a19)) else (some false)) fun v40 => (bif v40 then (some (T_node_Node.mk x21.dc (T_store_Store.mk x21.store.chains x21.store.floor) (T_part_Part.mk x21.part.clock x21.part.open_) x21.writes x21.owned x21.modes)) else (node_Node_own_L1 N N a18 a19 x21 0))))
end
end Go.Cf.M
