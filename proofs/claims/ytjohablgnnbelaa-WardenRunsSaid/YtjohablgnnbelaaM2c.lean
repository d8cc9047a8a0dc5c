/- What the functions compute, as Lean functions (none: a panic, an empty purse, or a size that is not followed). Printed by a program of ours out of the translation. -/
import Derived.Test.YtjohablgnnbelaaM1
namespace Go.Cf.M
open Go Go.Cf
set_option linter.unusedVariables false
-- span.Shards$1
def span_Shards_1_k3 (N : Nat) {σ : Type} (B : σ → Int → T_span_Shard → Option (σ × Bool)) (rec1 : T_api_Map → Int → σ → Option σ) (a3 : T_api_Map) (y62 : Int) (y63 : σ) (x69 : Int) (y74 : ByteArray) (y75 : ByteArray) : Option σ :=
  (Option.bind (B y63 y62 (T_span_Shard.mk y74 y75 x69)) fun y77 => (bif (!y77.2) then (some y77.1) else (rec1 a3 (IntKind.i64.wrap (y62 + 1)) y77.1)))
def span_Shards_1_k2 (N : Nat) {σ : Type} (B : σ → Int → T_span_Shard → Option (σ × Bool)) (rec1 : T_api_Map → Int → σ → Option σ) (a3 : T_api_Map) (y62 : Int) (y63 : σ) (x69 : Int) (y74 : ByteArray) : Option σ :=
  (bif decide (y62 < ((a3.Cuts).length : Int)) then (Option.bind (idx a3.Cuts y62) fun x80 => (span_Shards_1_k3 N B rec1 a3 y62 y63 x69 y74 x80)) else (span_Shards_1_k3 N B rec1 a3 y62 y63 x69 y74 ByteArray.empty))
def span_Shards_1_L1 (N : Nat) {σ : Type} (B : σ → Int → T_span_Shard → Option (σ × Bool)) : Nat → T_api_Map → Int → σ → Option σ
  | 0, _, _, _ => none
  | fuel1 + 1, a3, y62, y63 => (bif decide (y62 < ((a3.Nodes).length : Int)) then (Option.bind (idx a3.Nodes y62) fun x69 => (bif decide (y62 > 0) then (Option.bind (idx a3.Cuts (IntKind.i64.wrap (y62 - 1))) fun x84 => (span_Shards_1_k2 N B (span_Shards_1_L1 N B fuel1) a3 y62 y63 x69 x84)) else (span_Shards_1_k2 N B (span_Shards_1_L1 N B fuel1) a3 y62 y63 x69 ByteArray.empty))) else (some y63))
def span_Shards_1 (N : Nat) {σ : Type} (B : σ → Int → T_span_Shard → Option (σ × Bool)) (a3 : T_api_Map) (y1 : σ) : Option σ :=
  (bif (((a3.Nodes).length : Int) != IntKind.i64.wrap (((a3.Cuts).length : Int) + 1)) then (some y1) else (span_Shards_1_L1 N B N a3 0 y1))
-- span.Shards
def span_Shards (N : Nat) (a1 : T_api_Map) : Option Unit := some ()
-- span.At
def span_At (N : Nat) (a1 : T_api_Map) (a6 : Int) : Option (T_span_Shard × Bool) :=
  (Option.bind (span_Shards N (T_api_Map.mk a1.Cuts a1.Nodes)) fun x14 => (Option.bind (span_Shards_1 N (σ := (Bool × ByteArray × ByteArray × Int × Nat)) (fun (v72 : (Bool × ByteArray × ByteArray × Int × Nat)) x16 x17 => bif (v72.2.2.2.2 == 0) then (bif (x16 == a6) then (some (((true, x17.Lo, x17.Hi, x17.Node, 1)), false)) else (some (((v72.1, v72.2.1, v72.2.2.1, v72.2.2.2.1, 0)), true))) else none) (T_api_Map.mk a1.Cuts a1.Nodes) (false, ByteArray.empty, ByteArray.empty, 0, 0)) fun v77 => (bif (v77.2.2.2.2 == 0) then (some ((T_span_Shard.mk ByteArray.empty ByteArray.empty 0), false)) else (bif (v77.2.2.2.2 == 1) then (some ((T_span_Shard.mk v77.2.1 v77.2.2.1 v77.2.2.2.1), v77.1)) else none))))
-- span.Split
def span_Split (N : Nat) (a1 : T_api_Map) (a6 : Int) (a7 : Int) (a8 : ByteArray) : Option (T_api_Map × Int) :=
  (Option.bind (span_Check N (T_api_Map.mk a1.Cuts a1.Nodes) a6) fun x14 => (bif (x14 != 0) then (some ((T_api_Map.mk ([] : List ByteArray) ([] : List Int)), x14)) else (Option.bind (span_At N (T_api_Map.mk a1.Cuts a1.Nodes) a7) fun x18 => (bif (!x18.2) then (some ((T_api_Map.mk ([] : List ByteArray) ([] : List Int)), 7)) else (Option.bind (bif decide (((a8).size : Int) > 16) then (some true) else (bif (sLt a8 x18.1.Lo || sEq a8 x18.1.Lo) then (some true) else (Option.bind (span_Within N a8 x18.1.Lo x18.1.Hi) fun x27 => (some (!x27))))) fun v26 => (bif v26 then (some ((T_api_Map.mk ([] : List ByteArray) ([] : List Int)), 14)) else (bif (((a1.Nodes).length : Int) == 8) then (some ((T_api_Map.mk ([] : List ByteArray) ([] : List Int)), 9)) else (Option.bind (Option.bind (slc a1.Cuts 0 a7) fun x39 => (Option.bind (apd ([] : List ByteArray) x39) fun x42 => (Option.bind (apd x42 [a8]) fun x46 => (Option.bind (slc a1.Cuts a7 ((a1.Cuts).length : Int)) fun x49 => (Option.bind (apd x46 x49) fun x52 => (some x52)))))) fun v38 => (Option.bind (Option.bind (slc a1.Nodes 0 a7) fun x60 => (Option.bind (apd ([] : List Int) x60) fun x63 => (Option.bind (apd x63 [x18.1.Node]) fun x67 => (Option.bind (slc a1.Nodes a7 ((a1.Nodes).length : Int)) fun x70 => (Option.bind (apd x67 x70) fun x73 => (some x73)))))) fun v59 => (some ((T_api_Map.mk v38 v59), 0)))))))))))
end Go.Cf.M
