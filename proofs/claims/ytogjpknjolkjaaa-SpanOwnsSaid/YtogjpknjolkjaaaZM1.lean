/- What the functions compute, as Lean functions (none: a panic, an empty purse, or a size that is not followed). Printed by a program of ours out of the translation. -/
import Derived.Test.YtogjpknjolkjaaaZK2
namespace Go.Cf.M
open Go Go.Cf
set_option linter.unusedVariables false
noncomputable section
def span_Within (N : Nat) (a1 : ByteArray) (a2 : ByteArray) (a3 : ByteArray) : Option (Bool) :=
  (Option.bind (bif (!sLt a1 a2) then (bif (sEq a3 (ByteArray.mk #[])) then (some true) else (some (sLt a1 a3))) else (some false)) fun v7 => (some v7))
def ref08_Within (N : Nat) (a1 : ByteArray) (a2 : ByteArray) (a3 : ByteArray) : Option (Bool) :=
  (Option.bind (bif (!(sLt a1 a2)) then (bif (sEq a3 (ByteArray.mk #[])) then (some true) else (some (sLt a1 a3))) else (some false)) fun v7 => (some v7))
def law08_other (N : Nat) (a1 : ByteArray) : Option (ByteArray) :=
  (bif (sEq a1 (ByteArray.mk #[63])) then (some (ByteArray.mk #[33])) else (some (ByteArray.mk #[63])))
def span_Whole (N : Nat) (a1 : Int) : Option (T_api_Map) :=
  (some (T_api_Map.mk ([] : List ByteArray) [a1]))
def span_Find_k2 (N : Nat) (rec1 : T_api_Map → ByteArray → Int → Int → Option (Int)) (a1 : T_api_Map) (a6 : ByteArray) (y63 : Int) (y66 : Int) : Option (Int) :=
  (rec1 a1 a6 y66 (IntKind.i64.wrap (y63 + 1)))
def span_Find_L1 (N : Nat) : Nat → T_api_Map → ByteArray → Int → Int → Option (Int)
  | 0, _, _, _, _ => none
  | fuel1 + 1, a1, a6, y62, y63 => (bif decide (y63 < ((a1.Cuts).length : Int)) then (Option.bind (idx a1.Cuts y63) fun x68 => (bif (sLt x68 a6 || sEq x68 a6) then (span_Find_k2 N (span_Find_L1 N fuel1) a1 a6 y63 (IntKind.i64.wrap (y62 + 1))) else (span_Find_k2 N (span_Find_L1 N fuel1) a1 a6 y63 y62))) else (some y62))
def span_Find (N : Nat) (a1 : T_api_Map) (a6 : ByteArray) : Option (Int) :=
  (span_Find_L1 N N a1 a6 0 0)
def span_Check_L2 (N : Nat) : Nat → T_api_Map → Int → Int → Option (Int)
  | 0, _, _, _ => none
  | fuel2 + 1, a1, a6, y142 => (bif decide (y142 < ((a1.Nodes).length : Int)) then (Option.bind (idx a1.Nodes y142) fun x147 => (Option.bind (bif decide (x147 < 0) then (some true) else (some (decide (x147 ≥ a6)))) fun v152 => (bif v152 then (some 7) else ((span_Check_L2 N fuel2) a1 a6 (IntKind.i64.wrap (y142 + 1)))))) else (some 0))
def span_Check_L1 (N : Nat) : Nat → T_api_Map → Int → Int → Option (Int)
  | 0, _, _, _ => none
  | fuel1 + 1, a1, a6, y72 => (bif decide (y72 < ((a1.Cuts).length : Int)) then (Option.bind (idx a1.Cuts y72) fun x77 => (bif decide (((x77).size : Int) > 16) then (some 6) else (Option.bind (bif (sEq x77 (ByteArray.mk #[])) then (some true) else (bif decide (y72 > 0) then (Option.bind (idx a1.Cuts (IntKind.i64.wrap (y72 - 1))) fun x86 => (some (!sLt x86 x77))) else (some false))) fun v85 => (bif v85 then (some 3) else ((span_Check_L1 N fuel1) a1 a6 (IntKind.i64.wrap (y72 + 1))))))) else (span_Check_L2 N N a1 a6 0))
def span_Check (N : Nat) (a1 : T_api_Map) (a6 : Int) : Option (Int) :=
  (Option.bind (bif decide (a6 < 1) then (some true) else (some (decide (a6 > 4)))) fun v12 => (bif v12 then (some 1) else (bif decide (((a1.Nodes).length : Int) > 8) then (some 9) else (bif (((a1.Nodes).length : Int) != IntKind.i64.wrap (((a1.Cuts).length : Int) + 1)) then (some 3) else (span_Check_L1 N N a1 a6 0)))))
def ref08_Check_L2 (N : Nat) : Nat → T_api_Map → Int → Int → Option (Int)
  | 0, _, _, _ => none
  | fuel2 + 1, a1, a6, y145 => (bif decide (y145 < ((a1.Nodes).length : Int)) then (Option.bind (Option.bind (idx a1.Nodes y145) fun x152 => (bif decide (x152 < 0) then (some true) else (Option.bind (idx a1.Nodes y145) fun x155 => (some (decide (x155 ≥ a6)))))) fun v151 => (bif v151 then (some 7) else ((ref08_Check_L2 N fuel2) a1 a6 (IntKind.i64.wrap (y145 + 1))))) else (some 0))
def ref08_Check_L1 (N : Nat) : Nat → T_api_Map → Int → ByteArray → Int → Option (Int)
  | 0, _, _, _, _ => none
  | fuel1 + 1, a1, a6, y73, y74 => (bif decide (y74 < ((a1.Cuts).length : Int)) then (Option.bind (idx a1.Cuts y74) fun x80 => (bif decide (((x80).size : Int) > 16) then (some 6) else (Option.bind (idx a1.Cuts y74) fun x86 => (bif (sLt x86 y73 || sEq x86 y73) then (some 3) else (Option.bind (idx a1.Cuts y74) fun x90 => ((ref08_Check_L1 N fuel1) a1 a6 x90 (IntKind.i64.wrap (y74 + 1)))))))) else (ref08_Check_L2 N N a1 a6 0))
def ref08_Check (N : Nat) (a1 : T_api_Map) (a6 : Int) : Option (Int) :=
  (Option.bind (bif decide (a6 < 1) then (some true) else (some (decide (a6 > 4)))) fun v12 => (bif v12 then (some 1) else (bif decide (((a1.Nodes).length : Int) > 8) then (some 9) else (bif (((a1.Nodes).length : Int) != IntKind.i64.wrap (((a1.Cuts).length : Int) + 1)) then (some 3) else (ref08_Check_L1 N N a1 a6 (ByteArray.mk #[]) 0)))))
def law08_great (N : Nat) (a1 : T_api_Map) : Option (Bool) :=
  (Option.bind (bif decide (((a1.Cuts).length : Int) > 300) then (some true) else (some (decide (((a1.Nodes).length : Int) > 300)))) fun v10 => (some v10))
end
end Go.Cf.M
namespace Go.Cf.M
open Go Go.Cf
set_option linter.unusedVariables false
noncomputable section
def ref08_Same_L2 (N : Nat) : Nat → T_api_Map → T_api_Map → Int → Option (Bool)
  | 0, _, _, _ => none
  | fuel2 + 1, a1, a6, y135 => (bif decide (y135 < ((a1.Nodes).length : Int)) then (Option.bind (idx a1.Nodes y135) fun x140 => (Option.bind (idx a6.Nodes y135) fun x143 => (bif (x140 != x143) then (some false) else ((ref08_Same_L2 N fuel2) a1 a6 (IntKind.i64.wrap (y135 + 1)))))) else (some true))
def ref08_Same_L1 (N : Nat) : Nat → T_api_Map → T_api_Map → Int → Option (Bool)
  | 0, _, _, _ => none
  | fuel1 + 1, a1, a6, y71 => (bif decide (y71 < ((a1.Cuts).length : Int)) then (Option.bind (idx a1.Cuts y71) fun x76 => (Option.bind (idx a6.Cuts y71) fun x79 => (bif (!sEq x76 x79) then (some false) else ((ref08_Same_L1 N fuel1) a1 a6 (IntKind.i64.wrap (y71 + 1)))))) else (ref08_Same_L2 N N a1 a6 0))
def ref08_Same (N : Nat) (a1 : T_api_Map) (a6 : T_api_Map) : Option (Bool) :=
  (Option.bind (bif (((a1.Cuts).length : Int) != ((a6.Cuts).length : Int)) then (some true) else (some (((a1.Nodes).length : Int) != ((a6.Nodes).length : Int)))) fun v17 => (bif v17 then (some false) else (ref08_Same_L1 N N a1 a6 0)))
def ref08_Ends_k2 (N : Nat) (y15 : ByteArray) (y16 : ByteArray) : Option (ByteArray × ByteArray × Bool) :=
  (some (y15, y16, true))
def ref08_Ends_k1 (N : Nat) (a1 : T_api_Map) (a6 : Int) (y15 : ByteArray) : Option (ByteArray × ByteArray × Bool) :=
  (bif decide (a6 < ((a1.Cuts).length : Int)) then (Option.bind (idx a1.Cuts a6) fun x19 => (ref08_Ends_k2 N y15 x19)) else (ref08_Ends_k2 N y15 (ByteArray.mk #[])))
def ref08_Ends (N : Nat) (a1 : T_api_Map) (a6 : Int) : Option (ByteArray × ByteArray × Bool) :=
  (Option.bind (bif (((a1.Nodes).length : Int) != IntKind.i64.wrap (((a1.Cuts).length : Int) + 1)) then (some true) else (bif decide (a6 < 0) then (some true) else (some (decide (a6 ≥ ((a1.Nodes).length : Int)))))) fun v12 => (bif v12 then (some ((ByteArray.mk #[]), (ByteArray.mk #[]), false)) else (bif decide (a6 > 0) then (Option.bind (idx a1.Cuts (IntKind.i64.wrap (a6 - 1))) fun x23 => (ref08_Ends_k1 N a1 a6 x23)) else (ref08_Ends_k1 N a1 a6 (ByteArray.mk #[])))))
def ref08_Copy (N : Nat) (a1 : T_api_Map) : Option (T_api_Map) :=
  (Option.bind (Option.bind (apd ([] : List ByteArray) a1.Cuts) fun x18 => (Option.bind (apd ([] : List Int) a1.Nodes) fun x22 => (some (x18, x22)))) fun v16 => (some (T_api_Map.mk v16.1 v16.2)))
def span_Copy (N : Nat) (a1 : T_api_Map) : Option (T_api_Map) :=
  (Option.bind (apd ([] : List ByteArray) a1.Cuts) fun x10 => (Option.bind (apd ([] : List Int) a1.Nodes) fun x13 => (some (T_api_Map.mk x10 x13))))
def ref08_Split_k2 (N : Nat) (rec1 : T_api_Map → Int → ByteArray → (List ByteArray) → (List Int) → Int → Option (T_api_Map × Int)) (a1 : T_api_Map) (a7 : Int) (a8 : ByteArray) (y91 : Int) (y94 : (List ByteArray)) (y97 : (List Int)) : Option (T_api_Map × Int) :=
  (rec1 a1 a7 a8 y94 y97 (IntKind.i64.wrap (y91 + 1)))
def ref08_Split_k3 (N : Nat) (rec1 : T_api_Map → Int → ByteArray → (List ByteArray) → (List Int) → Int → Option (T_api_Map × Int)) (a1 : T_api_Map) (a7 : Int) (a8 : ByteArray) (y91 : Int) (y108 : (List ByteArray)) (y111 : (List Int)) : Option (T_api_Map × Int) :=
  (bif decide (y91 < ((a1.Cuts).length : Int)) then (Option.bind (idx a1.Cuts y91) fun x115 => (Option.bind (apd y108 [x115]) fun x119 => (ref08_Split_k2 N rec1 a1 a7 a8 y91 x119 y111))) else (ref08_Split_k2 N rec1 a1 a7 a8 y91 y108 y111))
def ref08_Split_L1 (N : Nat) : Nat → T_api_Map → Int → ByteArray → (List ByteArray) → (List Int) → Int → Option (T_api_Map × Int)
  | 0, _, _, _, _, _, _ => none
  | fuel1 + 1, a1, a7, a8, y85, y88, y91 => (bif decide (y91 < ((a1.Nodes).length : Int)) then (Option.bind (idx a1.Nodes y91) fun x101 => (Option.bind (apd y88 [x101]) fun x105 => (bif (y91 == a7) then (Option.bind (idx a1.Nodes y91) fun x124 => (Option.bind (apd x105 [x124]) fun x128 => (Option.bind (apd y85 [a8]) fun x132 => (ref08_Split_k3 N (ref08_Split_L1 N fuel1) a1 a7 a8 y91 x132 x128)))) else (ref08_Split_k3 N (ref08_Split_L1 N fuel1) a1 a7 a8 y91 y85 x105)))) else (some ((T_api_Map.mk y85 y88), 0)))
def ref08_Split (N : Nat) (a1 : T_api_Map) (a6 : Int) (a7 : Int) (a8 : ByteArray) : Option (T_api_Map × Int) :=
  (Option.bind (ref08_Check N (T_api_Map.mk a1.Cuts a1.Nodes) a6) fun x14 => (bif (x14 != 0) then (some ((T_api_Map.mk ([] : List ByteArray) ([] : List Int)), x14)) else (Option.bind (ref08_Ends N (T_api_Map.mk a1.Cuts a1.Nodes) a7) fun x18 => (bif (!x18.2.2) then (some ((T_api_Map.mk ([] : List ByteArray) ([] : List Int)), 7)) else (Option.bind (bif decide (((a8).size : Int) > 16) then (some true) else (Option.bind (ref08_Within N a8 x18.1 x18.2.1) fun x26 => (bif (!x26) then (some true) else (some (sEq a8 x18.1))))) fun v25 => (bif v25 then (some ((T_api_Map.mk ([] : List ByteArray) ([] : List Int)), 14)) else (bif decide (((a1.Nodes).length : Int) ≥ 8) then (some ((T_api_Map.mk ([] : List ByteArray) ([] : List Int)), 9)) else (ref08_Split_L1 N N a1 a7 a8 ([] : List ByteArray) ([] : List Int) 0))))))))
def ref08_Merge_k2 (N : Nat) (rec1 : T_api_Map → Int → (List ByteArray) → (List Int) → Int → Option (T_api_Map × Int)) (a1 : T_api_Map) (a7 : Int) (y90 : Int) (y93 : (List ByteArray)) (y96 : (List Int)) : Option (T_api_Map × Int) :=
  (rec1 a1 a7 y93 y96 (IntKind.i64.wrap (y90 + 1)))
def ref08_Merge_k3 (N : Nat) (rec1 : T_api_Map → Int → (List ByteArray) → (List Int) → Int → Option (T_api_Map × Int)) (a1 : T_api_Map) (a7 : Int) (y84 : (List ByteArray)) (y90 : Int) (y99 : (List Int)) : Option (T_api_Map × Int) :=
  (Option.bind (bif decide (y90 < ((a1.Cuts).length : Int)) then (some (y90 != a7)) else (some false)) fun v104 => (bif v104 then (Option.bind (idx a1.Cuts y90) fun x105 => (Option.bind (apd y84 [x105]) fun x109 => (ref08_Merge_k2 N rec1 a1 a7 y90 x109 y99))) else (ref08_Merge_k2 N rec1 a1 a7 y90 y84 y99)))
def ref08_Merge_L1 (N : Nat) : Nat → T_api_Map → Int → (List ByteArray) → (List Int) → Int → Option (T_api_Map × Int)
  | 0, _, _, _, _, _ => none
  | fuel1 + 1, a1, a7, y84, y87, y90 => (bif decide (y90 < ((a1.Nodes).length : Int)) then (bif (y90 != a7) then (Option.bind (idx a1.Nodes y90) fun x113 => (Option.bind (apd y87 [x113]) fun x117 => (ref08_Merge_k3 N (ref08_Merge_L1 N fuel1) a1 a7 y84 y90 x117))) else (ref08_Merge_k3 N (ref08_Merge_L1 N fuel1) a1 a7 y84 y90 y87)) else (some ((T_api_Map.mk y84 y87), 0)))
def ref08_Merge (N : Nat) (a1 : T_api_Map) (a6 : Int) (a7 : Int) : Option (T_api_Map × Int) :=
  (Option.bind (ref08_Check N (T_api_Map.mk a1.Cuts a1.Nodes) a6) fun x13 => (bif (x13 != 0) then (some ((T_api_Map.mk ([] : List ByteArray) ([] : List Int)), x13)) else (Option.bind (bif decide (a7 < 0) then (some true) else (some (decide (a7 ≥ ((a1.Cuts).length : Int))))) fun v19 => (bif v19 then (some ((T_api_Map.mk ([] : List ByteArray) ([] : List Int)), 7)) else (Option.bind (idx a1.Nodes a7) fun x23 => (Option.bind (idx a1.Nodes (IntKind.i64.wrap (a7 + 1))) fun x26 => (bif (x23 != x26) then (some ((T_api_Map.mk ([] : List ByteArray) ([] : List Int)), 18)) else (ref08_Merge_L1 N N a1 a7 ([] : List ByteArray) ([] : List Int) 0))))))))
end
end Go.Cf.M
namespace Go.Cf.M
open Go Go.Cf
set_option linter.unusedVariables false
noncomputable section
def span_Merge (N : Nat) (a1 : T_api_Map) (a6 : Int) (a7 : Int) : Option (T_api_Map × Int) :=
  (Option.bind (span_Check N (T_api_Map.mk a1.Cuts a1.Nodes) a6) fun x13 => (bif (x13 != 0) then (some ((T_api_Map.mk ([] : List ByteArray) ([] : List Int)), x13)) else (Option.bind (bif decide (a7 < 0) then (some true) else (some (decide (a7 ≥ ((a1.Cuts).length : Int))))) fun v19 => (bif v19 then (some ((T_api_Map.mk ([] : List ByteArray) ([] : List Int)), 7)) else (Option.bind (idx a1.Nodes a7) fun x23 => (Option.bind (idx a1.Nodes (IntKind.i64.wrap (a7 + 1))) fun x26 => (bif (x23 != x26) then (some ((T_api_Map.mk ([] : List ByteArray) ([] : List Int)), 18)) else (Option.bind (slc a1.Cuts 0 a7) fun x33 => (Option.bind (apd ([] : List ByteArray) x33) fun x36 => (Option.bind (slc a1.Cuts (IntKind.i64.wrap (a7 + 1)) ((a1.Cuts).length : Int)) fun x39 => (Option.bind (apd x36 x39) fun x42 => (Option.bind (slc a1.Nodes 0 a7) fun x46 => (Option.bind (apd ([] : List Int) x46) fun x49 => (Option.bind (slc a1.Nodes (IntKind.i64.wrap (a7 + 1)) ((a1.Nodes).length : Int)) fun x52 => (Option.bind (apd x49 x52) fun x55 => (some ((T_api_Map.mk x42 x55), 0)))))))))))))))))
def ref08_Move (N : Nat) (a1 : T_api_Map) (a6 : Int) (a7 : Int) (a8 : Int) : Option (T_api_Map × Int) :=
  (Option.bind (ref08_Check N (T_api_Map.mk a1.Cuts a1.Nodes) a6) fun x14 => (bif (x14 != 0) then (some ((T_api_Map.mk ([] : List ByteArray) ([] : List Int)), x14)) else (Option.bind (bif decide (a7 < 0) then (some true) else (some (decide (a7 ≥ ((a1.Nodes).length : Int))))) fun v20 => (bif v20 then (some ((T_api_Map.mk ([] : List ByteArray) ([] : List Int)), 7)) else (Option.bind (bif decide (a8 < 0) then (some true) else (some (decide (a8 ≥ a6)))) fun v25 => (bif v25 then (some ((T_api_Map.mk ([] : List ByteArray) ([] : List Int)), 1)) else (Option.bind (idx a1.Nodes a7) fun x29 => (bif (x29 == a8) then (some ((T_api_Map.mk ([] : List ByteArray) ([] : List Int)), 8)) else (Option.bind (ref08_Copy N (T_api_Map.mk a1.Cuts a1.Nodes)) fun x34 => (Option.bind (idx x34.Nodes a7) fun x41 => (some ((T_api_Map.mk x34.Cuts (List.set x34.Nodes (Int.toNat a7) a8)), 0))))))))))))
def span_Move (N : Nat) (a1 : T_api_Map) (a6 : Int) (a7 : Int) (a8 : Int) : Option (T_api_Map × Int) :=
  (Option.bind (span_Check N (T_api_Map.mk a1.Cuts a1.Nodes) a6) fun x14 => (bif (x14 != 0) then (some ((T_api_Map.mk ([] : List ByteArray) ([] : List Int)), x14)) else (Option.bind (bif decide (a7 < 0) then (some true) else (some (decide (a7 ≥ ((a1.Nodes).length : Int))))) fun v20 => (bif v20 then (some ((T_api_Map.mk ([] : List ByteArray) ([] : List Int)), 7)) else (Option.bind (bif decide (a8 < 0) then (some true) else (some (decide (a8 ≥ a6)))) fun v25 => (bif v25 then (some ((T_api_Map.mk ([] : List ByteArray) ([] : List Int)), 1)) else (Option.bind (idx a1.Nodes a7) fun x29 => (bif (x29 == a8) then (some ((T_api_Map.mk ([] : List ByteArray) ([] : List Int)), 8)) else (Option.bind (span_Copy N (T_api_Map.mk a1.Cuts a1.Nodes)) fun x34 => (Option.bind (idx x34.Nodes a7) fun x41 => (some ((T_api_Map.mk x34.Cuts (List.set x34.Nodes (Int.toNat a7) a8)), 0))))))))))))
end
end Go.Cf.M
namespace Go.Cf.M
open Go Go.Cf
set_option linter.unusedVariables false
noncomputable section
def span_Shards_1_k3 (N : Nat) {σ : Type} (B : σ → Int → T_span_Shard → Option (σ × Bool)) (rec1 : T_api_Map → Int → σ → Option σ) (a3 : T_api_Map) (y62 : Int) (y63 : σ) (x69 : Int) (y74 : ByteArray) (y75 : ByteArray) : Option σ :=
  (Option.bind (B y63 y62 (T_span_Shard.mk y74 y75 x69)) fun y77 => (bif (!y77.2) then (some y77.1) else (rec1 a3 (IntKind.i64.wrap (y62 + 1)) y77.1)))
def span_Shards_1_k2 (N : Nat) {σ : Type} (B : σ → Int → T_span_Shard → Option (σ × Bool)) (rec1 : T_api_Map → Int → σ → Option σ) (a3 : T_api_Map) (y62 : Int) (y63 : σ) (x69 : Int) (y74 : ByteArray) : Option σ :=
  (bif decide (y62 < ((a3.Cuts).length : Int)) then (Option.bind (idx a3.Cuts y62) fun x80 => (span_Shards_1_k3 N B rec1 a3 y62 y63 x69 y74 x80)) else (span_Shards_1_k3 N B rec1 a3 y62 y63 x69 y74 ByteArray.empty))
def span_Shards_1_L1 (N : Nat) {σ : Type} (B : σ → Int → T_span_Shard → Option (σ × Bool)) : Nat → T_api_Map → Int → σ → Option σ
  | 0, _, _, _ => none
  | fuel1 + 1, a3, y62, y63 => (bif decide (y62 < ((a3.Nodes).length : Int)) then (Option.bind (idx a3.Nodes y62) fun x69 => (bif decide (y62 > 0) then (Option.bind (idx a3.Cuts (IntKind.i64.wrap (y62 - 1))) fun x84 => (span_Shards_1_k2 N B (span_Shards_1_L1 N B fuel1) a3 y62 y63 x69 x84)) else (span_Shards_1_k2 N B (span_Shards_1_L1 N B fuel1) a3 y62 y63 x69 ByteArray.empty))) else (some y63))
def span_Shards_1 (N : Nat) {σ : Type} (B : σ → Int → T_span_Shard → Option (σ × Bool)) (a3 : T_api_Map) (y1 : σ) : Option σ :=
  (bif (((a3.Nodes).length : Int) != IntKind.i64.wrap (((a3.Cuts).length : Int) + 1)) then (some y1) else (span_Shards_1_L1 N B N a3 0 y1))
def span_Shards (N : Nat) (a1 : T_api_Map) : Option Unit := some ()
def span_At (N : Nat) (a1 : T_api_Map) (a6 : Int) : Option (T_span_Shard × Bool) :=
  (Option.bind (span_Shards N (T_api_Map.mk a1.Cuts a1.Nodes)) fun x14 => (Option.bind (span_Shards_1 N (σ := (Bool × ByteArray × ByteArray × Int × Nat)) (fun (v73 : (Bool × ByteArray × ByteArray × Int × Nat)) x17 x18 => bif (v73.2.2.2.2 == 0) then (bif (x17 == a6) then (some (((true, x18.Lo, x18.Hi, x18.Node, 1)), false)) else (some (((v73.1, v73.2.1, v73.2.2.1, v73.2.2.2.1, 0)), true))) else none) (T_api_Map.mk a1.Cuts a1.Nodes) (false, ByteArray.empty, ByteArray.empty, 0, 0)) fun v78 => (bif (v78.2.2.2.2 == 0) then (some ((T_span_Shard.mk ByteArray.empty ByteArray.empty 0), false)) else (bif (v78.2.2.2.2 == 1) then (some ((T_span_Shard.mk v78.2.1 v78.2.2.1 v78.2.2.2.1), v78.1)) else none))))
def span_Split (N : Nat) (a1 : T_api_Map) (a6 : Int) (a7 : Int) (a8 : ByteArray) : Option (T_api_Map × Int) :=
  (Option.bind (span_Check N (T_api_Map.mk a1.Cuts a1.Nodes) a6) fun x14 => (bif (x14 != 0) then (some ((T_api_Map.mk ([] : List ByteArray) ([] : List Int)), x14)) else (Option.bind (span_At N (T_api_Map.mk a1.Cuts a1.Nodes) a7) fun x18 => (bif (!x18.2) then (some ((T_api_Map.mk ([] : List ByteArray) ([] : List Int)), 7)) else (Option.bind (bif decide (((a8).size : Int) > 16) then (some true) else (bif (sLt a8 x18.1.Lo || sEq a8 x18.1.Lo) then (some true) else (Option.bind (span_Within N a8 x18.1.Lo x18.1.Hi) fun x27 => (some (!x27))))) fun v26 => (bif v26 then (some ((T_api_Map.mk ([] : List ByteArray) ([] : List Int)), 14)) else (bif (((a1.Nodes).length : Int) == 8) then (some ((T_api_Map.mk ([] : List ByteArray) ([] : List Int)), 9)) else (Option.bind (Option.bind (slc a1.Cuts 0 a7) fun x39 => (Option.bind (apd ([] : List ByteArray) x39) fun x42 => (Option.bind (apd x42 [a8]) fun x46 => (Option.bind (slc a1.Cuts a7 ((a1.Cuts).length : Int)) fun x49 => (Option.bind (apd x46 x49) fun x52 => (some x52)))))) fun v38 => (Option.bind (Option.bind (slc a1.Nodes 0 a7) fun x60 => (Option.bind (apd ([] : List Int) x60) fun x63 => (Option.bind (apd x63 [x18.1.Node]) fun x67 => (Option.bind (slc a1.Nodes a7 ((a1.Nodes).length : Int)) fun x70 => (Option.bind (apd x67 x70) fun x73 => (some x73)))))) fun v59 => (some ((T_api_Map.mk v38 v59), 0)))))))))))
end
end Go.Cf.M
namespace Go.Cf.M
open Go Go.Cf
set_option linter.unusedVariables false
noncomputable section
def law08_awake (N : Nat)  : Option (Bool) :=
  (Option.bind (span_Whole N 0) fun x3 => (Option.bind (span_Split N (T_api_Map.mk x3.Cuts x3.Nodes) 2 0 (ByteArray.mk #[109])) fun x8 => (Option.bind (bif (x8.2 == 0) then (bif (((x8.1.Cuts).length : Int) == 1) then (Option.bind (span_Find N (T_api_Map.mk x8.1.Cuts x8.1.Nodes) (ByteArray.mk #[110])) fun x17 => (some (x17 == 1))) else (some false)) else (some false)) fun v16 => (some v16))))
end
end Go.Cf.M
namespace Go.Cf.M
open Go Go.Cf
set_option linter.unusedVariables false
noncomputable section
def law08_SpanOwns_L8 (N : Nat) : Nat → T_api_Map → (T_api_Map) → (T_api_Map) → (List ByteArray) → (List Int) → (List ByteArray) → (List Int) → (List ByteArray) → (List Int) → (List ByteArray) → (List Int) → Int → Option (Bool)
  | 0, _, _, _, _, _, _, _, _, _, _, _, _ => none
  | fuel8 + 1, a1, x18, x46, y117, y181, y250, y314, y383, y447, y516, y580, y581 => (bif decide (y581 < ((x46.Nodes).length : Int)) then (Option.bind (idx y580 y581) fun x586 => (Option.bind (idx y580 y581) fun x589 => ((law08_SpanOwns_L8 N fuel8) a1 x18 x46 y117 y181 y250 y314 y383 y447 y516 (List.set y580 (Int.toNat y581) (IntKind.i64.wrap (x586 + 1))) (IntKind.i64.wrap (y581 + 1))))) else (Option.bind (Option.bind (law08_awake N ) fun x597 => (bif x597 then (Option.bind (ref08_Same N (T_api_Map.mk a1.Cuts a1.Nodes) (T_api_Map.mk x18.Cuts x18.Nodes)) fun x598 => (some x598)) else (some false))) fun v596 => (some v596)))
def law08_SpanOwns_L7 (N : Nat) : Nat → T_api_Map → (T_api_Map) → (T_api_Map) → (List ByteArray) → (List Int) → (List ByteArray) → (List Int) → (List ByteArray) → (List Int) → (List ByteArray) → Int → Option (Bool)
  | 0, _, _, _, _, _, _, _, _, _, _, _ => none
  | fuel7 + 1, a1, x18, x46, y117, y181, y250, y314, y383, y447, y516, y517 => (bif decide (y517 < ((x46.Cuts).length : Int)) then (Option.bind (idx y516 y517) fun x522 => (Option.bind (law08_other N x522) fun x525 => (Option.bind (idx y516 y517) fun x526 => ((law08_SpanOwns_L7 N fuel7) a1 x18 x46 y117 y181 y250 y314 y383 y447 (List.set y516 (Int.toNat y517) x525) (IntKind.i64.wrap (y517 + 1)))))) else (law08_SpanOwns_L8 N N a1 x18 x46 y117 y181 y250 y314 y383 y447 y516 x46.Nodes 0))
def law08_SpanOwns_L6 (N : Nat) : Nat → T_api_Map → (T_api_Map) → (T_api_Map × Int) → (T_api_Map) → (List ByteArray) → (List Int) → (List ByteArray) → (List Int) → (List ByteArray) → (List Int) → Int → Option (Bool)
  | 0, _, _, _, _, _, _, _, _, _, _, _ => none
  | fuel6 + 1, a1, x18, x39, x46, y117, y181, y250, y314, y383, y447, y448 => (bif decide (y448 < ((x39.1.Nodes).length : Int)) then (Option.bind (idx y447 y448) fun x453 => (Option.bind (idx y447 y448) fun x456 => ((law08_SpanOwns_L6 N fuel6) a1 x18 x39 x46 y117 y181 y250 y314 y383 (List.set y447 (Int.toNat y448) (IntKind.i64.wrap (x453 + 1))) (IntKind.i64.wrap (y448 + 1))))) else (law08_SpanOwns_L7 N N a1 x18 x46 y117 y181 y250 y314 y383 y447 x46.Cuts 0))
def law08_SpanOwns_L5 (N : Nat) : Nat → T_api_Map → (T_api_Map) → (T_api_Map × Int) → (T_api_Map) → (List ByteArray) → (List Int) → (List ByteArray) → (List Int) → (List ByteArray) → Int → Option (Bool)
  | 0, _, _, _, _, _, _, _, _, _, _ => none
  | fuel5 + 1, a1, x18, x39, x46, y117, y181, y250, y314, y383, y384 => (bif decide (y384 < ((x39.1.Cuts).length : Int)) then (Option.bind (idx y383 y384) fun x389 => (Option.bind (law08_other N x389) fun x392 => (Option.bind (idx y383 y384) fun x393 => ((law08_SpanOwns_L5 N fuel5) a1 x18 x39 x46 y117 y181 y250 y314 (List.set y383 (Int.toNat y384) x392) (IntKind.i64.wrap (y384 + 1)))))) else (law08_SpanOwns_L6 N N a1 x18 x39 x46 y117 y181 y250 y314 y383 x39.1.Nodes 0))
def law08_SpanOwns_L4 (N : Nat) : Nat → T_api_Map → (T_api_Map) → (T_api_Map × Int) → (T_api_Map × Int) → (T_api_Map) → (List ByteArray) → (List Int) → (List ByteArray) → (List Int) → Int → Option (Bool)
  | 0, _, _, _, _, _, _, _, _, _, _ => none
  | fuel4 + 1, a1, x18, x32, x39, x46, y117, y181, y250, y314, y315 => (bif decide (y315 < ((x32.1.Nodes).length : Int)) then (Option.bind (idx y314 y315) fun x320 => (Option.bind (idx y314 y315) fun x323 => ((law08_SpanOwns_L4 N fuel4) a1 x18 x32 x39 x46 y117 y181 y250 (List.set y314 (Int.toNat y315) (IntKind.i64.wrap (x320 + 1))) (IntKind.i64.wrap (y315 + 1))))) else (law08_SpanOwns_L5 N N a1 x18 x39 x46 y117 y181 y250 y314 x39.1.Cuts 0))
def law08_SpanOwns_L3 (N : Nat) : Nat → T_api_Map → (T_api_Map) → (T_api_Map × Int) → (T_api_Map × Int) → (T_api_Map) → (List ByteArray) → (List Int) → (List ByteArray) → Int → Option (Bool)
  | 0, _, _, _, _, _, _, _, _, _ => none
  | fuel3 + 1, a1, x18, x32, x39, x46, y117, y181, y250, y251 => (bif decide (y251 < ((x32.1.Cuts).length : Int)) then (Option.bind (idx y250 y251) fun x256 => (Option.bind (law08_other N x256) fun x259 => (Option.bind (idx y250 y251) fun x260 => ((law08_SpanOwns_L3 N fuel3) a1 x18 x32 x39 x46 y117 y181 (List.set y250 (Int.toNat y251) x259) (IntKind.i64.wrap (y251 + 1)))))) else (law08_SpanOwns_L4 N N a1 x18 x32 x39 x46 y117 y181 y250 x32.1.Nodes 0))
def law08_SpanOwns_L2 (N : Nat) : Nat → T_api_Map → (T_api_Map) → (T_api_Map × Int) → (T_api_Map × Int) → (T_api_Map × Int) → (T_api_Map) → (List ByteArray) → (List Int) → Int → Option (Bool)
  | 0, _, _, _, _, _, _, _, _, _ => none
  | fuel2 + 1, a1, x18, x25, x32, x39, x46, y117, y181, y182 => (bif decide (y182 < ((x25.1.Nodes).length : Int)) then (Option.bind (idx y181 y182) fun x187 => (Option.bind (idx y181 y182) fun x190 => ((law08_SpanOwns_L2 N fuel2) a1 x18 x25 x32 x39 x46 y117 (List.set y181 (Int.toNat y182) (IntKind.i64.wrap (x187 + 1))) (IntKind.i64.wrap (y182 + 1))))) else (law08_SpanOwns_L3 N N a1 x18 x32 x39 x46 y117 y181 x32.1.Cuts 0))
def law08_SpanOwns_L1 (N : Nat) : Nat → T_api_Map → (T_api_Map) → (T_api_Map × Int) → (T_api_Map × Int) → (T_api_Map × Int) → (T_api_Map) → (List ByteArray) → Int → Option (Bool)
  | 0, _, _, _, _, _, _, _, _ => none
  | fuel1 + 1, a1, x18, x25, x32, x39, x46, y117, y118 => (bif decide (y118 < ((x25.1.Cuts).length : Int)) then (Option.bind (idx y117 y118) fun x123 => (Option.bind (law08_other N x123) fun x126 => (Option.bind (idx y117 y118) fun x127 => ((law08_SpanOwns_L1 N fuel1) a1 x18 x25 x32 x39 x46 (List.set y117 (Int.toNat y118) x126) (IntKind.i64.wrap (y118 + 1)))))) else (law08_SpanOwns_L2 N N a1 x18 x25 x32 x39 x46 y117 x25.1.Nodes 0))
def law08_SpanOwns (N : Nat) (a1 : T_api_Map) (a6 : Int) (a7 : Int) (a8 : Int) (a9 : ByteArray) : Option (Bool) :=
  (Option.bind (law08_great N (T_api_Map.mk a1.Cuts a1.Nodes)) fun x14 => (bif x14 then (Option.bind (law08_awake N ) fun x16 => (some x16)) else (Option.bind (ref08_Copy N (T_api_Map.mk a1.Cuts a1.Nodes)) fun x18 => (Option.bind (span_Split N (T_api_Map.mk a1.Cuts a1.Nodes) a6 a7 a9) fun x25 => (Option.bind (span_Merge N (T_api_Map.mk a1.Cuts a1.Nodes) a6 a7) fun x32 => (Option.bind (span_Move N (T_api_Map.mk a1.Cuts a1.Nodes) a6 a7 a8) fun x39 => (Option.bind (span_Copy N (T_api_Map.mk a1.Cuts a1.Nodes)) fun x46 => (Option.bind (ref08_Same N (T_api_Map.mk x46.Cuts x46.Nodes) (T_api_Map.mk a1.Cuts a1.Nodes)) fun x54 => (bif (!x54) then (some false) else (law08_SpanOwns_L1 N N a1 x18 x25 x32 x39 x46 x25.1.Cuts 0))))))))))
end
end Go.Cf.M
