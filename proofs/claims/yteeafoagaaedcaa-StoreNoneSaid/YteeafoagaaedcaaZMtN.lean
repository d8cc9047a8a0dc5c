/- What the functions compute, as Lean functions (none: a panic, an empty purse, or a size that is not followed). Printed by a program of ours out of the translation. -/
import Derived.Test.YteeafoagaaedcaaZMt1
import Derived.Test.YteeafoagaaedcaaZMt2
import Derived.Test.YteeafoagaaedcaaZMt4
namespace Go.Cf.M
open Go Go.Cf
set_option linter.unusedVariables false
noncomputable section
def store_Store_Get_nil0 (N : Nat) (a1 : ByteArray) (a2 : Int) : Option (T_api_Ver × Bool × Int) :=
  (some ((T_api_Ver.mk ByteArray.empty ByteArray.empty false 0 0 0), false, 1))
def store_Store_Put_nil0 (N : Nat) (a1 : T_api_Ver) : Option (Int) :=
  (some 1)
def store_Store_Load_nil0_k2 (N : Nat) (rec1 : (List T_api_Ver) → Int → Int → Option (Int)) (a1 : (List T_api_Ver)) (y59 : Int) (y62 : Int) : Option (Int) :=
  (rec1 a1 y62 (IntKind.i64.wrap (y59 + 1)))
def store_Store_Load_nil0_L1 (N : Nat) : Nat → (List T_api_Ver) → Int → Int → Option (Int)
  | 0, _, _, _ => none
  | fuel1 + 1, a1, y58, y59 => (bif decide (y59 < ((a1).length : Int)) then (Option.bind (idx a1 y59) fun x64 => (Option.bind (store_Store_Put_nil0 N (T_api_Ver.mk x64.Key x64.Val x64.Gone x64.TS x64.DC x64.Tx)) fun x69 => (bif (x69 == 0) then (store_Store_Load_nil0_k2 N (store_Store_Load_nil0_L1 N fuel1) a1 y59 (IntKind.i64.wrap (y58 + 1))) else (store_Store_Load_nil0_k2 N (store_Store_Load_nil0_L1 N fuel1) a1 y59 y58)))) else (some y58))
def store_Store_Load_nil0 (N : Nat) (a1 : (List T_api_Ver)) : Option (Int) :=
  (store_Store_Load_nil0_L1 N N a1 0 0)
def store_Store_All_nil0 (N : Nat) (a1 : ByteArray) (a2 : ByteArray) : Option (Unit) :=
  (some ())
def store_Store_All_1_nil0 (N : Nat) {σ : Type} (B : σ → T_api_Ver → Option (σ × Bool)) (a4 : ByteArray) (a6 : ByteArray) (y1 : σ) : Option σ :=
  (some y1)
def store_Store_Drop_nil0 (N : Nat) (a1 : ByteArray) (a2 : ByteArray) : Option (Int) :=
  (some 0)
def store_Store_Trim_nil0 (N : Nat) (a1 : Int) : Option (Int) :=
  (some 0)
def store_Store_Floor_nil0 (N : Nat)  : Option (Int) :=
  (some 0)
def store_Store_Len_nil0 (N : Nat)  : Option (Int) :=
  (Option.bind (store_Store_All_nil0 N (ByteArray.mk #[]) (ByteArray.mk #[])) fun x6 => (Option.bind (store_Store_All_1_nil0 N (σ := (Int × Nat)) (fun (v63 : (Int × Nat)) x11 => bif (v63.2 == 0) then (some (((IntKind.i64.wrap (v63.1 + 1), 0)), true)) else none) (ByteArray.mk #[]) (ByteArray.mk #[]) (0, 0)) fun v64 => (bif (v64.2 == 0) then (some v64.1) else none)))
def law10_All_nil0 (N : Nat) (a1 : ByteArray) (a2 : ByteArray) : Option ((List T_api_Ver)) :=
  (Option.bind (store_Store_All_nil0 N a1 a2) fun x8 => (Option.bind (store_Store_All_1_nil0 N (σ := ((List T_api_Ver) × Nat)) (fun (v67 : ((List T_api_Ver) × Nat)) x13 => bif (v67.2 == 0) then (Option.bind (apd v67.1 [(T_api_Ver.mk x13.Key x13.Val x13.Gone x13.TS x13.DC x13.Tx)]) fun x70 => (some (((x70, 0)), true))) else none) a1 a2 (([] : List T_api_Ver), 0)) fun v73 => (bif (v73.2 == 0) then (some v73.1) else none)))
def law10_StoreNone (N : Nat) (a1 : T_api_Ver) (a2 : ByteArray) (a3 : Int) : Option (Bool) :=
  (Option.bind (store_Store_Get_nil0 N a2 a3) fun x8 => (Option.bind (Option.bind (law10_awake N ) fun x13 => (bif x13 then (Option.bind (store_Store_Put_nil0 N (T_api_Ver.mk a1.Key a1.Val a1.Gone a1.TS a1.DC a1.Tx)) fun x14 => (bif (x14 == 1) then (Option.bind (store_Store_Load_nil0 N [(T_api_Ver.mk a1.Key a1.Val a1.Gone a1.TS a1.DC a1.Tx)]) fun x16 => (bif (x16 == 0) then (bif (cEq (flat [(1, [.string (x8.1.Key)]), (1, [.string (x8.1.Val)]), (1, [.bool (x8.1.Gone)]), (1, [.int .u64 (x8.1.TS)]), (1, [.int .i64 (x8.1.DC)]), (1, [.int .i64 (x8.1.Tx)])]) (flat [(1, [.string (ByteArray.empty)]), (1, [.string (ByteArray.empty)]), (1, [.bool (false)]), (1, [.int .u64 (0)]), (1, [.int .i64 (0)]), (1, [.int .i64 (0)])])) then (bif (!x8.2.1) then (bif (x8.2.2 == 1) then (Option.bind (law10_All_nil0 N (ByteArray.mk #[]) (ByteArray.mk #[])) fun x17 => (bif (((x17).length : Int) == 0) then (Option.bind (store_Store_Drop_nil0 N (ByteArray.mk #[]) (ByteArray.mk #[])) fun x20 => (bif (x20 == 0) then (Option.bind (store_Store_Trim_nil0 N a3) fun x21 => (bif (x21 == 0) then (Option.bind (store_Store_Floor_nil0 N ) fun x22 => (bif (x22 == 0) then (Option.bind (store_Store_Len_nil0 N ) fun x23 => (some (x23 == 0))) else (some false))) else (some false))) else (some false))) else (some false))) else (some false)) else (some false)) else (some false)) else (some false))) else (some false))) else (some false))) fun v12 => (some v12)))
end
end Go.Cf.M
