/- What the functions compute, as Lean functions (none: a panic, an empty purse, or a size that is not followed). Printed by a program of ours out of the translation. -/
import Derived.Test.YteeafoagaaedcaaZMt1
namespace Go.Cf.M
open Go Go.Cf
set_option linter.unusedVariables false
noncomputable section
def maps_Keys_map_string___api_Ver_string___api_Ver_ (N : Nat) (a1 : (Mp ByteArray (List T_api_Ver))) : Option Unit := some ()
def store_Store_Put (N : Nat) (a1 : T_store_Store) (a6 : T_api_Ver) : Option (Int × T_store_Store) :=
  (Option.bind (store_Check N (T_api_Ver.mk a6.Key a6.Val a6.Gone a6.TS a6.DC a6.Tx)) fun x13 => (bif (x13 != 0) then (some (x13, (T_store_Store.mk a1.chains a1.floor))) else (Option.bind (mgt a1.chains a6.Key ([] : List T_api_Ver)) fun x17 => (Option.bind (chain_Put N x17.1 (T_api_Ver.mk a6.Key a6.Val a6.Gone a6.TS a6.DC a6.Tx)) fun x21 => (bif (x21.2 != 0) then (some (x21.2, (T_store_Store.mk a1.chains a1.floor))) else (Option.bind (chain_At N x17.1 a1.floor) fun x29 => (Option.bind (bif x29.2 then (Option.bind (hlc_Of N (T_api_Ver.mk a6.Key a6.Val a6.Gone a6.TS a6.DC a6.Tx)) fun x35 => (Option.bind (hlc_Of N (T_api_Ver.mk x29.1.Key x29.1.Val x29.1.Gone x29.1.TS x29.1.DC x29.1.Tx)) fun x36 => (Option.bind (hlc_Cmp N (T_api_Mark.mk x35.TS x35.DC x35.Tx) (T_api_Mark.mk x36.TS x36.DC x36.Tx)) fun x37 => (some (decide (x37 < 0)))))) else (some false)) fun v33 => (bif v33 then (some (11, (T_store_Store.mk a1.chains a1.floor))) else (Option.bind (chain_Trim N x21.1 a1.floor) fun x40 => (Option.bind (mPut a1.chains a6.Key x40.1) fun x44 => (some (0, (T_store_Store.mk x44 a1.floor)))))))))))))
def store_Store_Get (N : Nat) (a1 : T_store_Store) (a6 : ByteArray) (a7 : Int) : Option (T_api_Ver × Bool × Int) :=
  (bif decide (a7 < a1.floor) then (some ((T_api_Ver.mk ByteArray.empty ByteArray.empty false 0 0 0), false, 11)) else (Option.bind (mgt a1.chains a6 ([] : List T_api_Ver)) fun x16 => (Option.bind (chain_At N x16.1 a7) fun x19 => (some ((T_api_Ver.mk x19.1.Key x19.1.Val x19.1.Gone x19.1.TS x19.1.DC x19.1.Tx), x19.2, 0)))))
def store_Store_Drop_L1 (N : Nat) : Nat → T_store_Store → ByteArray → ByteArray → (Mp ByteArray (List T_api_Ver)) → Int → (List ByteArray) → Option (Int × T_store_Store)
  | 0, _, _, _, _, _, _ => none
  | fuel1 + 1, a1, a6, a7, y66, y67, y69 => (bif (cands y66 y69).isEmpty then (some (y67, (T_store_Store.mk y66 a1.floor))) else allAgree (cands y66 y69) fun x71 => (Option.bind (span_Within N x71.1 a6 a7) fun x81 => (bif x81 then ((store_Store_Drop_L1 N fuel1) a1 a6 a7 (mDel y66 x71.1) (IntKind.i64.wrap (y67 + ((x71.2).length : Int))) (kRem y69 x71.1)) else ((store_Store_Drop_L1 N fuel1) a1 a6 a7 y66 y67 (kRem y69 x71.1)))))
def store_Store_Drop (N : Nat) (a1 : T_store_Store) (a6 : ByteArray) (a7 : ByteArray) : Option (Int × T_store_Store) :=
  (store_Store_Drop_L1 N N a1 a6 a7 a1.chains 0 (mKeys a1.chains))
def store_Store_Trim_L1 (N : Nat) : Nat → T_store_Store → Int → (Mp ByteArray (List T_api_Ver)) → Int → (List ByteArray) → Option (Int × T_store_Store)
  | 0, _, _, _, _, _ => none
  | fuel1 + 1, a1, a6, y66, y67, y69 => (bif (cands y66 y69).isEmpty then (some (y67, (T_store_Store.mk y66 (if a6 > a1.floor then a6 else a1.floor)))) else allAgree (cands y66 y69) fun x71 => (Option.bind (chain_Trim N x71.2 (if a6 > a1.floor then a6 else a1.floor)) fun x81 => (Option.bind (mSet y66 x71.1 x81.1) fun x85 => ((store_Store_Trim_L1 N fuel1) a1 a6 x85 (IntKind.i64.wrap (y67 + x81.2)) (kRem y69 x71.1)))))
def store_Store_Trim (N : Nat) (a1 : T_store_Store) (a6 : Int) : Option (Int × T_store_Store) :=
  (store_Store_Trim_L1 N N a1 a6 a1.chains 0 (mKeys a1.chains))
def store_Store_Floor (N : Nat) (a1 : T_store_Store) : Option (Int) :=
  (some a1.floor)
def store_Store_All (N : Nat) (a1 : T_store_Store) (a6 : ByteArray) (a7 : ByteArray) : Option (Unit) :=
  (some ())
def store_Store_All_1_k2 (N : Nat) {σ : Type} (B : σ → T_api_Ver → Option (σ × Bool)) (rec1 : T_store_Store → ByteArray → ByteArray → (List ByteArray) → Int → σ → Option σ) (a3 : T_store_Store) (a9 : ByteArray) (a11 : ByteArray) (x19 : (List ByteArray)) (y72 : Int) (y77 : σ) : Option σ :=
  (rec1 a3 a9 a11 x19 (IntKind.i64.wrap (y72 + 1)) y77)
def store_Store_All_1_L3 (N : Nat) {σ : Type} (B : σ → T_api_Ver → Option (σ × Bool)) (rec1 : T_store_Store → ByteArray → ByteArray → (List ByteArray) → Int → σ → Option σ) : Nat → T_store_Store → ByteArray → ByteArray → (List ByteArray) → Int → ((List T_api_Ver) × Bool) → Int → σ → Option σ
  | 0, _, _, _, _, _, _, _, _ => none
  | fuel3 + 1, a3, a9, a11, x19, y72, x87, y140, y141 => (bif decide (y140 < ((x87.1).length : Int)) then (Option.bind (idx x87.1 y140) fun x147 => (Option.bind (B y141 (T_api_Ver.mk x147.Key x147.Val x147.Gone x147.TS x147.DC x147.Tx)) fun y152 => (bif (!y152.2) then (some y152.1) else ((store_Store_All_1_L3 N B rec1 fuel3) a3 a9 a11 x19 y72 x87 (IntKind.i64.wrap (y140 + 1)) y152.1)))) else (store_Store_All_1_k2 N B rec1 a3 a9 a11 x19 y72 y141))
def store_Store_All_1_L1 (N : Nat) {σ : Type} (B : σ → T_api_Ver → Option (σ × Bool)) : Nat → T_store_Store → ByteArray → ByteArray → (List ByteArray) → Int → σ → Option σ
  | 0, _, _, _, _, _, _ => none
  | fuel1 + 1, a3, a9, a11, x19, y72, y73 => (bif decide (y72 < ((x19).length : Int)) then (Option.bind (idx x19 y72) fun x80 => (Option.bind (span_Within N x80 a9 a11) fun x85 => (bif (!x85) then (store_Store_All_1_k2 N B (store_Store_All_1_L1 N B fuel1) a3 a9 a11 x19 y72 y73) else (Option.bind (mgt a3.chains x80 ([] : List T_api_Ver)) fun x87 => (store_Store_All_1_L3 N B (store_Store_All_1_L1 N B fuel1) N a3 a9 a11 x19 y72 x87 0 y73))))) else (some y73))
def store_Store_All_1 (N : Nat) {σ : Type} (B : σ → T_api_Ver → Option (σ × Bool)) (a3 : T_store_Store) (a9 : ByteArray) (a11 : ByteArray) (y1 : σ) : Option σ :=
  (Option.bind (maps_Keys_map_string___api_Ver_string___api_Ver_ N a3.chains) fun x17 => (Option.bind (srtK a3.chains) fun x19 => (store_Store_All_1_L1 N B N a3 a9 a11 x19 0 y1)))
end
end Go.Cf.M
