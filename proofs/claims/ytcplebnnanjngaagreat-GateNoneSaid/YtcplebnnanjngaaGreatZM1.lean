/- What the functions compute, as Lean functions (none: a panic, an empty purse, or a size that is not followed). Printed by a program of ours out of the translation. -/
import Derived.Test.YtcplebnnanjngaaGreatZK2
namespace Go.Cf.M
open Go Go.Cf
set_option linter.unusedVariables false
noncomputable section
def api_Place (N : Nat) (a1 : Int) (a2 : Int) : Option (Int) :=
  (some (IntKind.i64.wrap ((IntKind.i64.wrap ((IntKind.i64.wrap (1 + (IntKind.i64.wrap (5 * a1)))) + a2)) + 1)))
def span_Within (N : Nat) (a1 : ByteArray) (a2 : ByteArray) (a3 : ByteArray) : Option (Bool) :=
  (Option.bind (bif (!sLt a1 a2) then (bif (sEq a3 (ByteArray.mk #[])) then (some true) else (some (sLt a1 a3))) else (some false)) fun v7 => (some v7))
def span_Whole (N : Nat) (a1 : Int) : Option (T_api_Map) :=
  (some (T_api_Map.mk ([] : List ByteArray) [a1]))
def span_Find_k2 (N : Nat) (rec1 : T_api_Map → ByteArray → Int → Int → Option (Int)) (a1 : T_api_Map) (a6 : ByteArray) (y63 : Int) (y66 : Int) : Option (Int) :=
  (rec1 a1 a6 y66 (IntKind.i64.wrap (y63 + 1)))
def span_Find_L1 (N : Nat) : Nat → T_api_Map → ByteArray → Int → Int → Option (Int)
  | 0, _, _, _, _ => none
  | fuel1 + 1, a1, a6, y62, y63 => (bif decide (y63 < ((a1.Cuts).length : Int)) then (Option.bind (idx a1.Cuts y63) fun x68 => (bif (sLt x68 a6 || sEq x68 a6) then (span_Find_k2 N (span_Find_L1 N fuel1) a1 a6 y63 (IntKind.i64.wrap (y62 + 1))) else (span_Find_k2 N (span_Find_L1 N fuel1) a1 a6 y63 y62))) else (some y62))
def span_Find (N : Nat) (a1 : T_api_Map) (a6 : ByteArray) : Option (Int) :=
  (span_Find_L1 N N a1 a6 0 0)
def span_Owner (N : Nat) (a1 : T_api_Map) (a6 : ByteArray) : Option (Int) :=
  (Option.bind (span_Find N (T_api_Map.mk a1.Cuts a1.Nodes) a6) fun x11 => (bif decide (x11 < ((a1.Nodes).length : Int)) then (Option.bind (idx a1.Nodes x11) fun x14 => (some x14)) else (some (-1))))
end
end Go.Cf.M
namespace Go.Cf.M
open Go Go.Cf
set_option linter.unusedVariables false
noncomputable section
def gate_Gate_mail (N : Nat) (a2 : (List T_api_Mail)) (a7 : Int) (a8 : T_api_Msg) : Option ((List T_api_Mail)) :=
  (Option.bind (apd a2 [(T_api_Mail.mk a7 (T_api_Msg.mk a8.Kind a8.Id a8.N a8.TS a8.Lo a8.Hi a8.Vers a8.Vec (T_api_Cmd.mk a8.Cmd.Kind a8.Cmd.DC a8.Cmd.Shard a8.Cmd.Node a8.Cmd.Mode a8.Cmd.Key)))]) fun x16 => (some x16))
def gate_Gate_tell (N : Nat) (a1 : Int) (a3 : (List T_api_Mail)) (a8 : Int) (a9 : T_api_Msg) : Option ((List T_api_Mail)) :=
  (Option.bind (api_Place N a1 a8) fun x16 => (Option.bind (gate_Gate_mail N a3 x16 (T_api_Msg.mk a9.Kind a9.Id a9.N a9.TS a9.Lo a9.Hi a9.Vers a9.Vec (T_api_Cmd.mk a9.Cmd.Kind a9.Cmd.DC a9.Cmd.Shard a9.Cmd.Node a9.Cmd.Mode a9.Cmd.Key))) fun x17 => (some x17)))
def gate_Gate_Replies (N : Nat) (a2 : (List T_gate_Reply)) : Option ((List T_gate_Reply) × (List T_gate_Reply)) :=
  (some (a2, ([] : List T_gate_Reply)))
def gate_Gate_moving (N : Nat) (a2 : (Option T_gate_move)) (a7 : ByteArray) : Option (Bool × (Option T_gate_move)) :=
  (Option.bind (oCase a2 (some (none, false)) fun x15 => (Option.bind (span_Within N a7 x15.span.Lo x15.span.Hi) fun x17 => (some ((some x15), x17)))) fun v14 => (some (v14.2, v14.1)))
end
end Go.Cf.M
namespace Go.Cf.M
open Go Go.Cf
set_option linter.unusedVariables false
noncomputable section
def vec_New (N : Nat) (a1 : Int) (a2 : (List Bool)) : Option (T_vec_Vec) :=
  (some (T_vec_Vec.mk a1 a2 (List.replicate 4 0)))
end
end Go.Cf.M
namespace Go.Cf.M
open Go Go.Cf
set_option linter.unusedVariables false
noncomputable section
def stab_New (N : Nat) (a1 : Int) (a2 : Int) (a3 : (List Bool)) : Option ((Option T_stab_Table) × Int) :=
  (Option.bind (bif decide (a1 < 0) then (some true) else (bif decide (a1 ≥ 4) then (some true) else (bif decide (a2 < 1) then (some true) else (some (decide (a2 > 4)))))) fun v9 => (bif v9 then (some (none, 1)) else (Option.bind (Option.bind (mkl a2 0) fun x23 => (Option.bind (vec_New N 0 a3) fun x25 => (Option.bind (vec_New N 0 a3) fun x26 => (some (x23, x25.Epoch, x25.Has, x25.T, x26.Epoch, x26.Has, x26.T))))) fun v22 => (some ((some (T_stab_Table.mk a1 v22.1 (T_vec_Vec.mk v22.2.1 v22.2.2.1 v22.2.2.2.1) (T_vec_Vec.mk v22.2.2.2.2.1 v22.2.2.2.2.2.1 v22.2.2.2.2.2.2) 0)), 0)))))
def stab_Table_Stable (N : Nat) (a1 : T_stab_Table) : Option (Int) :=
  (some a1.stable)
def stab_Table_Local_L1 (N : Nat) : Nat → T_stab_Table → Int → Int → Option (Int)
  | 0, _, _, _ => none
  | fuel1 + 1, a1, y64, y65 => (bif decide (y65 < ((a1.beats).length : Int)) then (Option.bind (idx a1.beats y65) fun x70 => ((stab_Table_Local_L1 N fuel1) a1 (if x70 < y64 then x70 else y64) (IntKind.i64.wrap (y65 + 1)))) else (some y64))
def stab_Table_Local (N : Nat) (a1 : T_stab_Table) : Option (Int) :=
  (Option.bind (idx a1.beats 0) fun x9 => (stab_Table_Local_L1 N N a1 x9 0))
end
end Go.Cf.M
namespace Go.Cf.M
open Go Go.Cf
set_option linter.unusedVariables false
noncomputable section
def hlc_sign (N : Nat) (a1 : Bool) : Option (Int) :=
  (bif a1 then (some (-1)) else (some 1))
def hlc_Cmp (N : Nat) (a1 : T_api_Mark) (a2 : T_api_Mark) : Option (Int) :=
  (bif (a1.TS != a2.TS) then (Option.bind (hlc_sign N (decide (a1.TS < a2.TS))) fun x9 => (some x9)) else (bif (a1.DC != a2.DC) then (Option.bind (hlc_sign N (decide (a1.DC < a2.DC))) fun x12 => (some x12)) else (bif (a1.Tx != a2.Tx) then (Option.bind (hlc_sign N (decide (a1.Tx < a2.Tx))) fun x15 => (some x15)) else (some 0))))
def order_New (N : Nat)  : Option (T_order_Log) :=
  (some (T_order_Log.mk ([] : List T_api_Rec) ([] : List T_api_Rec) 0))
def order_mark (N : Nat) (a1 : T_api_Rec) : Option (T_api_Mark) :=
  (some (T_api_Mark.mk a1.TS a1.DC a1.Tx))
def order_Copy (N : Nat) (a1 : T_api_Rec) : Option (T_api_Rec) :=
  (Option.bind (apd ([] : List T_api_Ver) a1.Vers) fun x8 => (some (T_api_Rec.mk a1.TS a1.DC a1.Tx x8)))
def order_Log_Decide_k2 (N : Nat) (rec1 : T_order_Log → T_api_Rec → Int → Int → Option (Int × T_order_Log)) (a1 : T_order_Log) (a7 : T_api_Rec) (y71 : Int) (y74 : Int) : Option (Int × T_order_Log) :=
  (rec1 a1 a7 y74 (IntKind.i64.wrap (y71 + 1)))
def order_Log_Decide_L1 (N : Nat) : Nat → T_order_Log → T_api_Rec → Int → Int → Option (Int × T_order_Log)
  | 0, _, _, _, _ => none
  | fuel1 + 1, a1, a7, y70, y71 => (bif decide (y71 < ((a1.waiting).length : Int)) then (Option.bind (idx a1.waiting y71) fun x76 => (Option.bind (order_mark N (T_api_Rec.mk x76.TS x76.DC x76.Tx x76.Vers)) fun x83 => (Option.bind (order_mark N (T_api_Rec.mk a7.TS a7.DC a7.Tx a7.Vers)) fun x84 => (Option.bind (hlc_Cmp N (T_api_Mark.mk x83.TS x83.DC x83.Tx) (T_api_Mark.mk x84.TS x84.DC x84.Tx)) fun x85 => (bif (x85 == 0) then (some (8, (T_order_Log.mk a1.list a1.waiting a1.bound))) else (bif decide (x85 < 0) then (order_Log_Decide_k2 N (order_Log_Decide_L1 N fuel1) a1 a7 y71 (IntKind.i64.wrap (y71 + 1))) else (order_Log_Decide_k2 N (order_Log_Decide_L1 N fuel1) a1 a7 y71 y70))))))) else (Option.bind (slc a1.waiting 0 y70) fun x90 => (Option.bind (apd ([] : List T_api_Rec) x90) fun x93 => (Option.bind (order_Copy N (T_api_Rec.mk a7.TS a7.DC a7.Tx a7.Vers)) fun x96 => (Option.bind (apd x93 [(T_api_Rec.mk x96.TS x96.DC x96.Tx x96.Vers)]) fun x100 => (Option.bind (slc a1.waiting y70 ((a1.waiting).length : Int)) fun x104 => (Option.bind (apd x100 x104) fun x107 => (some (0, (T_order_Log.mk a1.list x107 a1.bound))))))))))
def order_Log_Decide (N : Nat) (a1 : T_order_Log) (a7 : T_api_Rec) : Option (Int × T_order_Log) :=
  (bif decide (a7.TS ≤ a1.bound) then (some (11, (T_order_Log.mk a1.list a1.waiting a1.bound))) else (order_Log_Decide_L1 N N a1 a7 0 0))
def order_Log_Release_L1 (N : Nat) : Nat → T_order_Log → Int → Int → Option (Int × T_order_Log)
  | 0, _, _, _ => none
  | fuel1 + 1, a1, a7, y64 => (Option.bind (bif decide (y64 < ((a1.waiting).length : Int)) then (Option.bind (idx a1.waiting y64) fun x69 => (some (decide (x69.TS ≤ (if a7 > a1.bound then a7 else a1.bound))))) else (some false)) fun v68 => (bif v68 then ((order_Log_Release_L1 N fuel1) a1 a7 (IntKind.i64.wrap (y64 + 1))) else (Option.bind (slc a1.waiting 0 y64) fun x75 => (Option.bind (apd a1.list x75) fun x78 => (Option.bind (slc a1.waiting y64 ((a1.waiting).length : Int)) fun x82 => (some (y64, (T_order_Log.mk x78 x82 (if a7 > a1.bound then a7 else a1.bound)))))))))
def order_Log_Release (N : Nat) (a1 : T_order_Log) (a7 : Int) : Option (Int × T_order_Log) :=
  (order_Log_Release_L1 N N a1 a7 0)
end
end Go.Cf.M
namespace Go.Cf.M
open Go Go.Cf
set_option linter.unusedVariables false
noncomputable section
def inbox_New (N : Nat) (a1 : Int) : Option (T_inbox_Box) :=
  (some (T_inbox_Box.mk (if 0 > a1 then 0 else a1) ([] : List T_api_Rec) 0 ([] : List Bool) (some []) 0))
def inbox_Box_Peek_nil0 (N : Nat)  : Option (T_api_Rec × Bool) :=
  (some ((T_api_Rec.mk 0 0 0 ([] : List T_api_Ver)), false))
end
end Go.Cf.M
namespace Go.Cf.M
open Go Go.Cf
set_option linter.unusedVariables false
noncomputable section
def coord_New (N : Nat)  : Option (T_coord_Table) :=
  (some (T_coord_Table.mk (some [])))
def coord_Shares_k2 (N : Nat) (rec1 : T_api_Map → (List T_api_Ver) → (List T_coord_Share) → Int → Option ((List T_coord_Share))) (a1 : T_api_Map) (a6 : (List T_api_Ver)) (y67 : Int) (y70 : (List T_coord_Share)) : Option ((List T_coord_Share)) :=
  (rec1 a1 a6 y70 (IntKind.i64.wrap (y67 + 1)))
def coord_Shares_k4 (N : Nat) (rec3 : T_api_Map → (List T_api_Ver) → (List T_coord_Share) → Int → (List T_api_Ver) → Int → Option ((List T_coord_Share))) (a1 : T_api_Map) (a6 : (List T_api_Ver)) (y64 : (List T_coord_Share)) (y67 : Int) (y131 : Int) (y134 : (List T_api_Ver)) : Option ((List T_coord_Share)) :=
  (rec3 a1 a6 y64 y67 y134 (IntKind.i64.wrap (y131 + 1)))
def coord_Shares_L3 (N : Nat) (rec1 : T_api_Map → (List T_api_Ver) → (List T_coord_Share) → Int → Option ((List T_coord_Share))) : Nat → T_api_Map → (List T_api_Ver) → (List T_coord_Share) → Int → (List T_api_Ver) → Int → Option ((List T_coord_Share))
  | 0, _, _, _, _, _, _ => none
  | fuel3 + 1, a1, a6, y64, y67, y128, y131 => (bif decide (y131 < ((a6).length : Int)) then (Option.bind (idx a6 y131) fun x138 => (Option.bind (span_Owner N (T_api_Map.mk a1.Cuts a1.Nodes) x138.Key) fun x143 => (bif (x143 == y67) then (Option.bind (apd y128 [(T_api_Ver.mk x138.Key x138.Val x138.Gone x138.TS x138.DC x138.Tx)]) fun x145 => (coord_Shares_k4 N (coord_Shares_L3 N rec1 fuel3) a1 a6 y64 y67 y131 x145)) else (coord_Shares_k4 N (coord_Shares_L3 N rec1 fuel3) a1 a6 y64 y67 y131 y128)))) else (bif decide (((y128).length : Int) > 0) then (Option.bind (apd y64 [(T_coord_Share.mk y67 y128)]) fun x150 => (coord_Shares_k2 N rec1 a1 a6 y67 x150)) else (coord_Shares_k2 N rec1 a1 a6 y67 y64)))
def coord_Shares_L1 (N : Nat) : Nat → T_api_Map → (List T_api_Ver) → (List T_coord_Share) → Int → Option ((List T_coord_Share))
  | 0, _, _, _, _ => none
  | fuel1 + 1, a1, a6, y64, y67 => (bif decide (y67 < 4) then (coord_Shares_L3 N (coord_Shares_L1 N fuel1) N a1 a6 y64 y67 ([] : List T_api_Ver) 0) else (some y64))
def coord_Shares (N : Nat) (a1 : T_api_Map) (a6 : (List T_api_Ver)) : Option ((List T_coord_Share)) :=
  (coord_Shares_L1 N N a1 a6 ([] : List T_coord_Share) 0)
def coord_Table_find_L1 (N : Nat) : Nat → T_coord_Table → Int → Int → T_coord_entry → Int → Option (Bool × Int)
  | 0, _, _, _, _, _ => none
  | fuel1 + 1, a1, a8, a9, x30, y95 => (bif decide (y95 < ((x30.shares).length : Int)) then (Option.bind (idx x30.shares y95) fun x100 => (bif (x100.Node == a9) then (some (true, 0)) else ((coord_Table_find_L1 N fuel1) a1 a8 a9 x30 (IntKind.i64.wrap (y95 + 1))))) else (some (false, 18)))
def coord_Table_find (N : Nat) (a1 : T_coord_Table) (a8 : Int) (a9 : Int) : Option (Bool × Int) :=
  (Option.bind (oCase (mGet a1.open_ a8) (some true) fun x21 => (some false)) fun v20 => (bif v20 then (some (false, 7)) else (oCase (mGet a1.open_ a8) none fun x30 => (coord_Table_find_L1 N N a1 a8 a9 x30 0))))
def coord_Table_Start_L2 (N : Nat) (rec1 : T_coord_Table → Int → Int → (List T_coord_Share) → (List T_coord_Share) → Int → Option (Int × T_coord_Table)) : Nat → T_coord_Table → Int → Int → (List T_coord_Share) → (List T_coord_Share) → Int → T_coord_Share → (List T_coord_Share) → Int → Option (Int × T_coord_Table)
  | 0, _, _, _, _, _, _, _, _, _ => none
  | fuel2 + 1, a1, a8, a9, a10, y86, y89, x94, x102, y155 => (bif decide (y155 < ((x102).length : Int)) then (Option.bind (idx x102 y155) fun x160 => (bif (x160.Node == x94.Node) then (some (3, (T_coord_Table.mk a1.open_))) else ((coord_Table_Start_L2 N rec1 fuel2) a1 a8 a9 a10 y86 y89 x94 x102 (IntKind.i64.wrap (y155 + 1))))) else (Option.bind (apd ([] : List T_api_Ver) x94.Vers) fun x168 => (Option.bind (apd y86 [(T_coord_Share.mk x94.Node x168)]) fun x172 => (rec1 a1 a8 a9 a10 x172 (IntKind.i64.wrap (y89 + 1))))))
def coord_Table_Start_L1 (N : Nat) : Nat → T_coord_Table → Int → Int → (List T_coord_Share) → (List T_coord_Share) → Int → Option (Int × T_coord_Table)
  | 0, _, _, _, _, _, _ => none
  | fuel1 + 1, a1, a8, a9, a10, y86, y89 => (bif decide (y89 < ((a10).length : Int)) then (Option.bind (idx a10 y89) fun x94 => (Option.bind (slc a10 0 y89) fun x102 => (coord_Table_Start_L2 N (coord_Table_Start_L1 N fuel1) N a1 a8 a9 a10 y86 y89 x94 x102 0))) else (Option.bind (mPut a1.open_ a8 (T_coord_entry.mk a9 y86 (some []) (some []) 0 false)) fun x177 => (some (0, (T_coord_Table.mk x177)))))
def coord_Table_Start (N : Nat) (a1 : T_coord_Table) (a8 : Int) (a9 : Int) (a10 : (List T_coord_Share)) : Option (Int × T_coord_Table) :=
  (bif (((a10).length : Int) == 0) then (some (1, (T_coord_Table.mk a1.open_))) else (Option.bind (oCase (mGet a1.open_ a8) (some false) fun x23 => (some true)) fun v21 => (bif v21 then (some (8, (T_coord_Table.mk a1.open_))) else (coord_Table_Start_L1 N N a1 a8 a9 a10 ([] : List T_coord_Share) 0))))
def coord_Table_Vote (N : Nat) (a1 : T_coord_Table) (a8 : Int) (a9 : Int) (a10 : Int) : Option (Int × Bool × Int × T_coord_Table) :=
  (Option.bind (coord_Table_find N (T_coord_Table.mk a1.open_) a8 a9) fun x13 => (bif (x13.2 != 0) then (some (0, false, x13.2, (T_coord_Table.mk a1.open_))) else (Option.bind (bif x13.1 then (mGet a1.open_ a8) else none) fun x21 => (Option.bind (mgt x21.votes a9 0) fun x34 => (bif x34.2 then (some (0, false, 8, (T_coord_Table.mk a1.open_))) else (Option.bind (mGet a1.open_ a8) fun x41 => (bif decide (a10 ≤ x41.low) then (some (0, false, 11, (T_coord_Table.mk a1.open_))) else (Option.bind (mGet a1.open_ a8) fun x58 => (Option.bind (mPut x58.votes a9 a10) fun x71 => (Option.bind (mGet (mPutD a1.open_ a8 (T_coord_entry.mk x58.low x58.shares x71 x58.ended x58.at_ x58.decided)) a8) fun x77 => (Option.bind (mGet (mPutD (mPutD a1.open_ a8 (T_coord_entry.mk x58.low x58.shares x71 x58.ended x58.at_ x58.decided)) a8 (T_coord_entry.mk x77.low x77.shares x77.votes x77.ended (if a10 > x77.at_ then a10 else x77.at_) x77.decided)) a8) fun x93 => (Option.bind (mGet (mPutD (mPutD (mPutD a1.open_ a8 (T_coord_entry.mk x58.low x58.shares x71 x58.ended x58.at_ x58.decided)) a8 (T_coord_entry.mk x77.low x77.shares x77.votes x77.ended (if a10 > x77.at_ then a10 else x77.at_) x77.decided)) a8 (T_coord_entry.mk x93.low x93.shares x93.votes x93.ended x93.at_ ((mLen x93.votes : Int) == ((x93.shares).length : Int)))) a8) fun x110 => (bif (!x110.decided) then (some (0, false, 0, (T_coord_Table.mk (mPutD (mPutD (mPutD a1.open_ a8 (T_coord_entry.mk x58.low x58.shares x71 x58.ended x58.at_ x58.decided)) a8 (T_coord_entry.mk x77.low x77.shares x77.votes x77.ended (if a10 > x77.at_ then a10 else x77.at_) x77.decided)) a8 (T_coord_entry.mk x93.low x93.shares x93.votes x93.ended x93.at_ ((mLen x93.votes : Int) == ((x93.shares).length : Int))))))) else (Option.bind (mGet (mPutD (mPutD (mPutD a1.open_ a8 (T_coord_entry.mk x58.low x58.shares x71 x58.ended x58.at_ x58.decided)) a8 (T_coord_entry.mk x77.low x77.shares x77.votes x77.ended (if a10 > x77.at_ then a10 else x77.at_) x77.decided)) a8 (T_coord_entry.mk x93.low x93.shares x93.votes x93.ended x93.at_ ((mLen x93.votes : Int) == ((x93.shares).length : Int)))) a8) fun x127 => (some (x127.at_, true, 0, (T_coord_Table.mk (mPutD (mPutD (mPutD a1.open_ a8 (T_coord_entry.mk x58.low x58.shares x71 x58.ended x58.at_ x58.decided)) a8 (T_coord_entry.mk x77.low x77.shares x77.votes x77.ended (if a10 > x77.at_ then a10 else x77.at_) x77.decided)) a8 (T_coord_entry.mk x93.low x93.shares x93.votes x93.ended x93.at_ ((mLen x93.votes : Int) == ((x93.shares).length : Int)))))))))))))))))))))
def coord_Table_End (N : Nat) (a1 : T_coord_Table) (a8 : Int) (a9 : Int) : Option (Bool × Int × T_coord_Table) :=
  (Option.bind (coord_Table_find N (T_coord_Table.mk a1.open_) a8 a9) fun x12 => (bif (x12.2 != 0) then (some (false, x12.2, (T_coord_Table.mk a1.open_))) else (Option.bind (bif x12.1 then (mGet a1.open_ a8) else none) fun x20 => (bif (!x20.decided) then (some (false, 19, (T_coord_Table.mk a1.open_))) else (Option.bind (mGet a1.open_ a8) fun x38 => (Option.bind (mgt x38.ended a9 false) fun x51 => (bif x51.1 then (some (false, 8, (T_coord_Table.mk a1.open_))) else (Option.bind (mGet a1.open_ a8) fun x56 => (Option.bind (mPut x56.ended a9 true) fun x69 => (Option.bind (mGet (mPutD a1.open_ a8 (T_coord_entry.mk x56.low x56.shares x56.votes x69 x56.at_ x56.decided)) a8) fun x76 => (bif decide ((mLen x76.ended : Int) < ((x76.shares).length : Int)) then (some (false, 0, (T_coord_Table.mk (mPutD a1.open_ a8 (T_coord_entry.mk x56.low x56.shares x56.votes x69 x56.at_ x56.decided))))) else (some (true, 0, (T_coord_Table.mk (mDel (mPutD a1.open_ a8 (T_coord_entry.mk x56.low x56.shares x56.votes x69 x56.at_ x56.decided)) a8)))))))))))))))
def coord_Table_Writes_L1 (N : Nat) : Nat → T_coord_Table → T_coord_entry → (List T_api_Ver) → Int → Option ((List T_api_Ver))
  | 0, _, _, _, _ => none
  | fuel1 + 1, a1, x27, y92, y95 => (bif decide (y95 < ((x27.shares).length : Int)) then (Option.bind (idx x27.shares y95) fun x100 => (Option.bind (apd y92 x100.Vers) fun x106 => ((coord_Table_Writes_L1 N fuel1) a1 x27 x106 (IntKind.i64.wrap (y95 + 1))))) else (some y92))
def coord_Table_Writes (N : Nat) (a1 : T_coord_Table) (a8 : Int) : Option ((List T_api_Ver)) :=
  (Option.bind (oCase (mGet a1.open_ a8) (some true) fun x16 => (some false)) fun v14 => (bif v14 then (some ([] : List T_api_Ver)) else (oCase (mGet a1.open_ a8) none fun x27 => (coord_Table_Writes_L1 N N a1 x27 ([] : List T_api_Ver) 0))))
def coord_Table_Nodes_L1 (N : Nat) : Nat → T_coord_Table → T_coord_entry → (List Int) → Int → Option ((List Int))
  | 0, _, _, _, _ => none
  | fuel1 + 1, a1, x27, y92, y95 => (bif decide (y95 < ((x27.shares).length : Int)) then (Option.bind (idx x27.shares y95) fun x100 => (Option.bind (apd y92 [x100.Node]) fun x107 => ((coord_Table_Nodes_L1 N fuel1) a1 x27 x107 (IntKind.i64.wrap (y95 + 1))))) else (some y92))
def coord_Table_Nodes (N : Nat) (a1 : T_coord_Table) (a8 : Int) : Option ((List Int)) :=
  (Option.bind (oCase (mGet a1.open_ a8) (some true) fun x16 => (some false)) fun v14 => (bif v14 then (some ([] : List Int)) else (oCase (mGet a1.open_ a8) none fun x27 => (coord_Table_Nodes_L1 N N a1 x27 ([] : List Int) 0))))
end
end Go.Cf.M
namespace Go.Cf.M
open Go Go.Cf
set_option linter.unusedVariables false
noncomputable section
def gate_Gate_ask_1 (N : Nat) (a1 : T_api_Ver) (a3 : (Option T_gate_move)) : Option (Bool × (Option T_gate_move)) :=
  (Option.bind (gate_Gate_moving N a3 a1.Key) fun x12 => (some (x12.1, x12.2)))
def slices_IndexFunc___api_Ver_api_Ver__c85_L1 (N : Nat) : Nat → (List T_api_Ver) → (Option T_gate_move) → Int → Option (Int × (Option T_gate_move))
  | 0, _, _, _ => none
  | fuel1 + 1, a1, y66, y67 => (bif decide (y67 < ((a1).length : Int)) then (Option.bind (idx a1 y67) fun x73 => (Option.bind (gate_Gate_ask_1 N (T_api_Ver.mk x73.Key x73.Val x73.Gone x73.TS x73.DC x73.Tx) y66) fun x76 => (bif x76.1 then (some (y67, x76.2)) else ((slices_IndexFunc___api_Ver_api_Ver__c85_L1 N fuel1) a1 x76.2 (IntKind.i64.wrap (y67 + 1)))))) else (some ((-1), y66)))
def slices_IndexFunc___api_Ver_api_Ver__c85 (N : Nat) (a1 : (List T_api_Ver)) (a5 : (Option T_gate_move)) : Option (Int × (Option T_gate_move)) :=
  (slices_IndexFunc___api_Ver_api_Ver__c85_L1 N N a1 a5 0)
def slices_ContainsFunc___api_Ver_api_Ver__c85 (N : Nat) (a1 : (List T_api_Ver)) (a5 : (Option T_gate_move)) : Option (Bool × (Option T_gate_move)) :=
  (Option.bind (slices_IndexFunc___api_Ver_api_Ver__c85 N a1 a5) fun x13 => (some (decide (x13.1 ≥ 0), x13.2)))
def gate_Gate_ask_L1 (N : Nat) : Nat → Int → Int → Int → T_api_Map → Int → (Mp Int T_gate_call) → (List T_gate_call) → Int → T_gate_call → ((Option T_gate_move) × Bool) → ((List T_coord_Share)) → (Int × T_coord_Table) → (Mp Int Int) → (List T_api_Mail) → Int → Option (Int × (Option T_coord_Table) × Int × (Mp Int Int) × (Option T_gate_move) × (List T_api_Mail))
  | 0, _, _, _, _, _, _, _, _, _, _, _, _, _, _, _ => none
  | fuel1 + 1, a1, a3, a4, a5, a14, a20, a24, a28, a38, v50, x68, x79, x87, y141, y144 => (bif decide (y144 < ((x68).length : Int)) then (Option.bind (idx x68 y144) fun x149 => (Option.bind (gate_Gate_tell N a1 y141 x149.Node (T_api_Msg.mk 1 (IntKind.u64.wrap ((IntKind.u64.wrap ((IntKind.u64.wrap a3) * 2 ^ 16)) + (IntKind.u64.wrap (IntKind.i64.wrap (a4 + 1))))) 0 a38.at_ ByteArray.empty ByteArray.empty x149.Vers ([] : List Int) (T_api_Cmd.mk 0 0 0 0 0 ByteArray.empty))) fun x155 => ((gate_Gate_ask_L1 N fuel1) a1 a3 a4 a5 a14 a20 a24 a28 a38 v50 x68 x79 x87 x155 (IntKind.i64.wrap (y144 + 1))))) else (some (IntKind.i64.wrap (a4 + 1), (some (T_coord_Table.mk x79.2.open_)), (if a38.at_ > a14 then a38.at_ else a14), x87, v50.1, y141)))
def gate_Gate_ask (N : Nat) (a1 : Int) (a3 : Int) (a4 : Int) (a5 : T_api_Map) (a11 : (Option T_coord_Table)) (a14 : Int) (a16 : (Mp Int Int)) (a20 : (Mp Int T_gate_call)) (a24 : (List T_gate_call)) (a28 : Int) (a29 : (Option T_gate_move)) (a33 : (List T_api_Mail)) (a38 : T_gate_call) : Option (Int × (Option T_coord_Table) × Int × (Mp Int Int) × (Option T_gate_move) × (List T_api_Mail)) :=
  (Option.bind (bif a38.read then (Option.bind (gate_Gate_moving N a29 a38.key) fun x51 => (bif x51.1 then (some (x51.2, true)) else (Option.bind (slices_ContainsFunc___api_Ver_api_Ver__c85 N a38.writes x51.2) fun x54 => (some (x54.2, x54.1))))) else (Option.bind (slices_ContainsFunc___api_Ver_api_Ver__c85 N a38.writes a29) fun x57 => (some (x57.2, x57.1)))) fun v50 => (bif v50.2 then none else (bif a38.read then none else (Option.bind (coord_Shares N (T_api_Map.mk a5.Cuts a5.Nodes) a38.writes) fun x68 => (Option.bind a11 fun x72 => (Option.bind (coord_Table_Start N (T_coord_Table.mk x72.open_) (IntKind.u64.wrap ((IntKind.u64.wrap ((IntKind.u64.wrap a3) * 2 ^ 16)) + (IntKind.u64.wrap (IntKind.i64.wrap (a4 + 1))))) a38.at_ x68) fun x79 => (Option.bind (mPut a16 (IntKind.u64.wrap ((IntKind.u64.wrap ((IntKind.u64.wrap a3) * 2 ^ 16)) + (IntKind.u64.wrap (IntKind.i64.wrap (a4 + 1))))) a38.id) fun x87 => (gate_Gate_ask_L1 N N a1 a3 a4 a5 a14 a20 a24 a28 a38 v50 x68 x79 x87 a33 0))))))))
end
end Go.Cf.M
namespace Go.Cf.M
open Go Go.Cf
set_option linter.unusedVariables false
noncomputable section
def gate_Gate_answered_L2 (N : Nat) : Nat → Int → Int → Int → Int → Int → T_api_Map → (List Bool) → (Option T_stab_Table) → Int → (List (Option T_inbox_Box)) → (Mp Int Int) → (Mp Int T_gate_call) → (List T_gate_call) → (Mp Int T_gate_load) → Int → (Option T_gate_move) → Int → Int → (List Int) → (List T_gate_Reply) → T_api_Msg → (Int × Bool × Int × T_coord_Table) → (List T_api_Ver) → (Int × T_order_Log) → ((List Int)) → (List T_api_Mail) → Int → Option ((Option T_order_Log) × (Option T_coord_Table) × Int × (Mp Int Int) × (List T_api_Mail) × (List T_gate_Reply))
  | 0, _, _, _, _, _, _, _, _, _, _, _, _, _, _, _, _, _, _, _, _, _, _, _, _, _, _, _ => none
  | fuel2 + 1, a1, a2, a4, a5, a6, a7, a13, a17, a26, a27, a31, a35, a39, a42, a46, a47, a50, a51, a52, a59, a64, x94, y160, x184, x197, y252, y255 => (bif decide (y255 < ((x197).length : Int)) then (Option.bind (idx x197 y255) fun x260 => (Option.bind (gate_Gate_tell N a1 y252 x260 (T_api_Msg.mk 2 a64.Id 0 x94.1 ByteArray.empty ByteArray.empty ([] : List T_api_Ver) ([] : List Int) (T_api_Cmd.mk 0 0 0 0 0 ByteArray.empty))) fun x263 => ((gate_Gate_answered_L2 N fuel2) a1 a2 a4 a5 a6 a7 a13 a17 a26 a27 a31 a35 a39 a42 a46 a47 a50 a51 a52 a59 a64 x94 y160 x184 x197 x263 (IntKind.i64.wrap (y255 + 1))))) else (Option.bind (mgt a31 a64.Id 0) fun x266 => (Option.bind (apd a59 [(T_gate_Reply.mk x266.1 2 false false (T_api_Ver.mk ByteArray.empty ByteArray.empty false 0 0 0) (T_api_Mark.mk x94.1 a1 (IntKind.i64.wrap a64.Id)))]) fun x268 => (some ((some (T_order_Log.mk x184.2.list x184.2.waiting x184.2.bound)), (some (T_coord_Table.mk x94.2.2.2.open_)), (if x94.1 > a26 then x94.1 else a26), a31, y252, x268)))))
def gate_Gate_answered_L1 (N : Nat) : Nat → Int → Int → Int → Int → Int → T_api_Map → (List Bool) → (Option T_stab_Table) → (Option T_order_Log) → Int → (List (Option T_inbox_Box)) → (Mp Int Int) → (Mp Int T_gate_call) → (List T_gate_call) → (Mp Int T_gate_load) → Int → (Option T_gate_move) → Int → Int → (List Int) → (List T_api_Mail) → (List T_gate_Reply) → T_api_Msg → ((List T_api_Ver)) → (Int × Bool × Int × T_coord_Table) → (List T_api_Ver) → Int → Option ((Option T_order_Log) × (Option T_coord_Table) × Int × (Mp Int Int) × (List T_api_Mail) × (List T_gate_Reply))
  | 0, _, _, _, _, _, _, _, _, _, _, _, _, _, _, _, _, _, _, _, _, _, _, _, _, _, _, _ => none
  | fuel1 + 1, a1, a2, a4, a5, a6, a7, a13, a17, a20, a26, a27, a31, a35, a39, a42, a46, a47, a50, a51, a52, a56, a59, a64, x83, x94, y160, y163 => (bif decide (y163 < ((x83).length : Int)) then (Option.bind (idx x83 y163) fun x168 => (Option.bind (apd y160 [(T_api_Ver.mk x168.Key x168.Val x168.Gone x94.1 a1 (IntKind.i64.wrap a64.Id))]) fun x174 => ((gate_Gate_answered_L1 N fuel1) a1 a2 a4 a5 a6 a7 a13 a17 a20 a26 a27 a31 a35 a39 a42 a46 a47 a50 a51 a52 a56 a59 a64 x83 x94 x174 (IntKind.i64.wrap (y163 + 1))))) else (Option.bind a20 fun x178 => (Option.bind (order_Log_Decide N (T_order_Log.mk x178.list x178.waiting x178.bound) (T_api_Rec.mk x94.1 a1 (IntKind.i64.wrap a64.Id) y160)) fun x184 => (Option.bind (coord_Table_Nodes N (T_coord_Table.mk ((T_coord_Table.mk x94.2.2.2.open_).open_)) a64.Id) fun x197 => (gate_Gate_answered_L2 N N a1 a2 a4 a5 a6 a7 a13 a17 a26 a27 a31 a35 a39 a42 a46 a47 a50 a51 a52 a59 a64 x94 y160 x184 x197 a56 0)))))
def gate_Gate_answered (N : Nat) (a1 : Int) (a2 : Int) (a4 : Int) (a5 : Int) (a6 : Int) (a7 : T_api_Map) (a13 : (List Bool)) (a17 : (Option T_stab_Table)) (a20 : (Option T_order_Log)) (a23 : (Option T_coord_Table)) (a26 : Int) (a27 : (List (Option T_inbox_Box))) (a31 : (Mp Int Int)) (a35 : (Mp Int T_gate_call)) (a39 : (List T_gate_call)) (a42 : (Mp Int T_gate_load)) (a46 : Int) (a47 : (Option T_gate_move)) (a50 : Int) (a51 : Int) (a52 : (List Int)) (a56 : (List T_api_Mail)) (a59 : (List T_gate_Reply)) (a63 : Int) (a64 : T_api_Msg) : Option ((Option T_order_Log) × (Option T_coord_Table) × Int × (Mp Int Int) × (List T_api_Mail) × (List T_gate_Reply)) :=
  (bif (a64.Kind == 17) then none else (bif (a64.Kind == 11) then (Option.bind a23 fun x76 => (Option.bind (coord_Table_Writes N (T_coord_Table.mk x76.open_) a64.Id) fun x83 => (Option.bind (coord_Table_Vote N (T_coord_Table.mk x76.open_) a64.Id a63 a64.TS) fun x94 => (Option.bind (bif (x94.2.2.1 != 0) then (some true) else (some (!x94.2.1))) fun v104 => (bif v104 then (some (a20, (some (T_coord_Table.mk x94.2.2.2.open_)), a26, a31, a56, a59)) else (gate_Gate_answered_L1 N N a1 a2 a4 a5 a6 a7 a13 a17 a20 a26 a27 a31 a35 a39 a42 a46 a47 a50 a51 a52 a56 a59 a64 x83 x94 ([] : List T_api_Ver) 0)))))) else (bif (a64.Kind == 12) then (Option.bind a23 fun x273 => (Option.bind (coord_Table_End N (T_coord_Table.mk x273.open_) a64.Id a63) fun x280 => (bif x280.1 then (Option.bind (mgt a31 a64.Id 0) fun x289 => (Option.bind (apd a59 [(T_gate_Reply.mk x289.1 3 false false (T_api_Ver.mk ByteArray.empty ByteArray.empty false 0 0 0) (T_api_Mark.mk 0 0 0))]) fun x291 => (some (a20, (some (T_coord_Table.mk x280.2.2.open_)), a26, (mDel a31 a64.Id), a56, x291)))) else (some (a20, (some (T_coord_Table.mk x280.2.2.open_)), a26, a31, a56, a59))))) else (bif (a64.Kind == 13) then none else (bif (a64.Kind == 14) then none else (bif (a64.Kind == 15) then none else (bif (a64.Kind == 16) then none else (bif (a64.Kind == 26) then none else (some (a20, a23, a26, a31, a56, a59))))))))))
end
end Go.Cf.M
namespace Go.Cf.M
open Go Go.Cf
set_option linter.unusedVariables false
noncomputable section
def gate_Gate_ship_k2 (N : Nat) (rec1 : (List Int) → (List T_api_Mail) → T_stab_Table → (Int × T_order_Log) → Int → Option ((Option T_stab_Table) × (Option T_order_Log))) (a9 : (List Int)) (a11 : (List T_api_Mail)) (x19 : T_stab_Table) (x30 : (Int × T_order_Log)) (y88 : Int) : Option ((Option T_stab_Table) × (Option T_order_Log)) :=
  (rec1 a9 a11 x19 x30 (IntKind.i64.wrap (y88 + 1)))
def gate_Gate_ship_L1 (N : Nat) : Nat → (List Int) → (List T_api_Mail) → T_stab_Table → (Int × T_order_Log) → Int → Option ((Option T_stab_Table) × (Option T_order_Log))
  | 0, _, _, _, _, _ => none
  | fuel1 + 1, a9, a11, x19, x30, y88 => (bif decide (y88 < 4) then (Option.bind (idx a9 y88) fun x92 => (bif decide (x92 < 0) then (gate_Gate_ship_k2 N (gate_Gate_ship_L1 N fuel1) a9 a11 x19 x30 y88) else none)) else (some ((some x19), (some (T_order_Log.mk x30.2.list x30.2.waiting x30.2.bound)))))
def gate_Gate_ship (N : Nat) (a2 : (Option T_stab_Table)) (a5 : (Option T_order_Log)) (a9 : (List Int)) (a11 : (List T_api_Mail)) : Option ((Option T_stab_Table) × (Option T_order_Log)) :=
  (Option.bind a2 fun x19 => (Option.bind a5 fun x23 => (Option.bind (stab_Table_Local N (T_stab_Table.mk x19.dc x19.beats (T_vec_Vec.mk x19.got.Epoch x19.got.Has x19.got.T) (T_vec_Vec.mk x19.known.Epoch x19.known.Has x19.known.T) x19.stable)) fun x29 => (Option.bind (order_Log_Release N (T_order_Log.mk x23.list x23.waiting x23.bound) x29) fun x30 => (gate_Gate_ship_L1 N N a9 a11 x19 x30 0)))))
def gate_Gate_load_k2 (N : Nat) (rec1 : Int → T_api_Map → Int → (List (Option T_inbox_Box)) → (Mp Int T_gate_load) → Int → (Option T_gate_move) → (List T_api_Mail) → Int → Option Unit) (a1 : Int) (a3 : T_api_Map) (a9 : Int) (a10 : (List (Option T_inbox_Box))) (a14 : (Mp Int T_gate_load)) (a18 : Int) (a19 : (Option T_gate_move)) (a23 : (List T_api_Mail)) (y81 : Int) : Option Unit :=
  (rec1 a1 a3 a9 a10 a14 a18 a19 a23 (IntKind.i64.wrap (y81 + 1)))
def gate_Gate_load_L3 (N : Nat) (rec1 : Int → T_api_Map → Int → (List (Option T_inbox_Box)) → (Mp Int T_gate_load) → Int → (Option T_gate_move) → (List T_api_Mail) → Int → Option Unit) : Nat → Int → T_api_Map → Int → (List (Option T_inbox_Box)) → (Mp Int T_gate_load) → Int → (Option T_gate_move) → (List T_api_Mail) → Int → Option Unit
  | 0, _, _, _, _, _, _, _, _, _ => none
  | fuel3 + 1, a1, a3, a9, a10, a14, a18, a19, a23, y81 => (Option.bind (idx a10 y81) fun x90 => (oCase x90 (Option.bind (inbox_Box_Peek_nil0 N ) fun x103 => (bif (!x103.2) then (gate_Gate_load_k2 N rec1 a1 a3 a9 a10 a14 a18 a19 a23 y81) else none)) fun x93 => none))
def gate_Gate_load_L1 (N : Nat) : Nat → Int → T_api_Map → Int → (List (Option T_inbox_Box)) → (Mp Int T_gate_load) → Int → (Option T_gate_move) → (List T_api_Mail) → Int → Option Unit
  | 0, _, _, _, _, _, _, _, _, _ => none
  | fuel1 + 1, a1, a3, a9, a10, a14, a18, a19, a23, y81 => (bif decide (y81 < 4) then (Option.bind (idx a10 y81) fun x86 => (gate_Gate_load_L3 N (gate_Gate_load_L1 N fuel1) N a1 a3 a9 a10 a14 a18 a19 a23 y81)) else (some ()))
def gate_Gate_load (N : Nat) (a1 : Int) (a3 : T_api_Map) (a9 : Int) (a10 : (List (Option T_inbox_Box))) (a14 : (Mp Int T_gate_load)) (a18 : Int) (a19 : (Option T_gate_move)) (a23 : (List T_api_Mail)) : Option Unit :=
  (gate_Gate_load_L1 N N a1 a3 a9 a10 a14 a18 a19 a23 0)
def gate_Gate_moves (N : Nat) (a1 : Int) (a3 : (Option T_coord_Table)) (a7 : (Mp Int T_gate_call)) (a12 : (Mp Int T_gate_load)) (a17 : (Option T_gate_move)) (a21 : (List T_api_Mail)) : Option ((Option T_coord_Table) × (Option T_gate_move)) :=
  (Option.bind (oCase a17 (some (a3, none)) fun x35 => (Option.bind a3 fun x37 => (bif (x35.step_ != 0) then (some ((some x37), (some x35))) else none))) fun v34 => (some (v34.1, v34.2)))
def gate_Gate_learns (N : Nat) (a1 : Int) (a3 : Int) (a4 : Int) (a6 : Bool) (a7 : (Option T_stab_Table)) (a11 : (List (Option T_inbox_Box))) (a14 : (List Int)) (a16 : (Mp Int T_gate_load)) (a21 : (List Int)) (a24 : Int) (a25 : Bool) (a26 : Bool) (a27 : Bool) (a28 : (List T_api_Mail)) : Option Unit :=
  (Option.bind (bif (a3 != 1) then (some true) else (some a27)) fun v36 => (bif v36 then (some ()) else none))
def slices_Index___bool_bool__own0_L1 (N : Nat) : Nat → (List Bool) → Bool → Int → Option (Int)
  | 0, _, _, _ => none
  | fuel1 + 1, a1, a4, y58 => (bif decide (y58 < ((a1).length : Int)) then (Option.bind (idx a1 y58) fun x64 => (bif (a4 == x64) then (some y58) else ((slices_Index___bool_bool__own0_L1 N fuel1) a1 a4 (IntKind.i64.wrap (y58 + 1))))) else (some (-1)))
def slices_Index___bool_bool__own0 (N : Nat) (a1 : (List Bool)) (a4 : Bool) : Option (Int) :=
  (slices_Index___bool_bool__own0_L1 N N a1 a4 0)
def slices_Contains___bool_bool__own0 (N : Nat) (a1 : (List Bool)) (a4 : Bool) : Option (Bool) :=
  (Option.bind (slices_Index___bool_bool__own0 N a1 a4) fun x7 => (some (decide (x7 ≥ 0))))
def gate_Gate_work_k2 (N : Nat) (a1 : Int) (a3 : Int) (a4 : Int) (a6 : T_api_Map) (a12 : (List Bool)) (a16 : Bool) (a26 : Int) (a27 : (List (Option T_inbox_Box))) (a30 : (List Int)) (a31 : (List Int)) (a33 : (Mp Int T_gate_call)) (a37 : (List T_gate_call)) (a40 : (Mp Int T_gate_load)) (a44 : Int) (a49 : (List Int)) (a52 : Int) (a53 : Bool) (a54 : Bool) (a55 : Bool) (a56 : (List T_api_Mail)) (y63 : (Option T_stab_Table)) (y66 : (Option T_order_Log)) (y69 : (Option T_coord_Table)) (y76 : (Option T_gate_move)) : Option ((Option T_stab_Table) × (Option T_order_Log) × (Option T_coord_Table) × (Option T_gate_move)) :=
  (Option.bind (bif (a3 == 3) then (bif (!a16) then (bif (!a55) then none else (some ())) else (some ())) else (some ())) fun v78 => (some (y63, y66, y69, y76)))
def gate_Gate_work_k1 (N : Nat) (a1 : Int) (a3 : Int) (a4 : Int) (a6 : T_api_Map) (a12 : (List Bool)) (a16 : Bool) (a26 : Int) (a27 : (List (Option T_inbox_Box))) (a30 : (List Int)) (a31 : (List Int)) (a33 : (Mp Int T_gate_call)) (a37 : (List T_gate_call)) (a40 : (Mp Int T_gate_load)) (a44 : Int) (a49 : (List Int)) (a52 : Int) (a53 : Bool) (a54 : Bool) (a55 : Bool) (a56 : (List T_api_Mail)) (y63 : (Option T_stab_Table)) (y66 : (Option T_order_Log)) (y69 : (Option T_coord_Table)) (y73 : (Option T_gate_move)) : Option ((Option T_stab_Table) × (Option T_order_Log) × (Option T_coord_Table) × (Option T_gate_move)) :=
  (Option.bind (oCase y73 (Option.bind (bif a16 then (Option.bind (slices_Contains___bool_bool__own0 N a12 false) fun x90 => (some (!x90))) else (some false)) fun v89 => (some (none, v89))) fun x85 => (Option.bind (bif a16 then (some ()) else (some ())) fun v87 => (some ((some x85), false)))) fun v84 => (bif v84.2 then none else (gate_Gate_work_k2 N a1 a3 a4 a6 a12 a16 a26 a27 a30 a31 a33 a37 a40 a44 a49 a52 a53 a54 a55 a56 y63 y66 y69 v84.1)))
def gate_Gate_work (N : Nat) (a1 : Int) (a3 : Int) (a4 : Int) (a6 : T_api_Map) (a12 : (List Bool)) (a16 : Bool) (a17 : (Option T_stab_Table)) (a20 : (Option T_order_Log)) (a23 : (Option T_coord_Table)) (a26 : Int) (a27 : (List (Option T_inbox_Box))) (a30 : (List Int)) (a31 : (List Int)) (a33 : (Mp Int T_gate_call)) (a37 : (List T_gate_call)) (a40 : (Mp Int T_gate_load)) (a44 : Int) (a45 : (Option T_gate_move)) (a49 : (List Int)) (a52 : Int) (a53 : Bool) (a54 : Bool) (a55 : Bool) (a56 : (List T_api_Mail)) : Option ((Option T_stab_Table) × (Option T_order_Log) × (Option T_coord_Table) × (Option T_gate_move)) :=
  (bif (a3 != 0) then (Option.bind (gate_Gate_ship N a17 a20 a30 a56) fun x94 => (Option.bind (gate_Gate_load N a1 (T_api_Map.mk a6.Cuts a6.Nodes) a26 a27 a40 a44 a45 a56) fun x100 => (Option.bind (gate_Gate_moves N a1 a23 a33 a40 a45 a56) fun x104 => (Option.bind (gate_Gate_learns N a1 a3 a4 a16 x94.1 a27 a30 a40 a49 a52 a53 a54 a55 a56) fun x109 => (gate_Gate_work_k1 N a1 a3 a4 a6 a12 a16 a26 a27 a30 a31 a33 a37 a40 a44 a49 a52 a53 a54 a55 a56 x94.1 x94.2 x104.1 x104.2))))) else (gate_Gate_work_k1 N a1 a3 a4 a6 a12 a16 a26 a27 a30 a31 a33 a37 a40 a44 a49 a52 a53 a54 a55 a56 a17 a20 a23 a45))
end
end Go.Cf.M
namespace Go.Cf.M
open Go Go.Cf
set_option linter.unusedVariables false
noncomputable section
def gate_Gate_Take_k1 (N : Nat) (a1 : Int) (a2 : Int) (a3 : Int) (a4 : Int) (a5 : Int) (a6 : Int) (a7 : T_api_Map) (a12 : (List Int)) (a15 : (List Bool)) (a18 : (List Int)) (a21 : Bool) (a22 : (Option T_stab_Table)) (a32 : (List (Option T_inbox_Box))) (a35 : (List Int)) (a36 : (List Int)) (a41 : (Mp Int T_gate_call)) (a45 : (List T_gate_call)) (a48 : (Mp Int T_gate_load)) (a52 : Int) (a53 : (Option T_gate_move)) (a56 : Int) (a57 : Int) (a58 : (List Int)) (a61 : (List Int)) (a64 : Int) (a65 : Bool) (a66 : Bool) (a67 : Bool) (y91 : (Option T_order_Log)) (y94 : (Option T_coord_Table)) (y95 : Int) (y100 : (Mp Int Int)) (y102 : (List T_api_Mail)) (y105 : (List T_gate_Reply)) : Option ((Option T_stab_Table) × (Option T_order_Log) × (Option T_coord_Table) × Int × (Mp Int Int) × (Option T_gate_move) × (List T_api_Mail) × (List T_gate_Reply)) :=
  (Option.bind (gate_Gate_work N a1 a3 a4 (T_api_Map.mk a7.Cuts a7.Nodes) a15 a21 a22 y91 y94 y95 a32 a35 a36 a41 a45 a48 a52 a53 a61 a64 a65 a66 a67 y102) fun x108 => (some (x108.1, x108.2.1, x108.2.2.1, y95, y100, x108.2.2.2, y102, y105)))
def gate_Gate_Take (N : Nat) (a1 : Int) (a2 : Int) (a3 : Int) (a4 : Int) (a5 : Int) (a6 : Int) (a7 : T_api_Map) (a12 : (List Int)) (a15 : (List Bool)) (a18 : (List Int)) (a21 : Bool) (a22 : (Option T_stab_Table)) (a25 : (Option T_order_Log)) (a28 : (Option T_coord_Table)) (a31 : Int) (a32 : (List (Option T_inbox_Box))) (a35 : (List Int)) (a36 : (List Int)) (a37 : (Mp Int Int)) (a41 : (Mp Int T_gate_call)) (a45 : (List T_gate_call)) (a48 : (Mp Int T_gate_load)) (a52 : Int) (a53 : (Option T_gate_move)) (a56 : Int) (a57 : Int) (a58 : (List Int)) (a61 : (List Int)) (a64 : Int) (a65 : Bool) (a66 : Bool) (a67 : Bool) (a68 : (List T_api_Mail)) (a71 : (List T_gate_Reply)) (a75 : Int) (a76 : T_api_Msg) : Option ((Option T_stab_Table) × (Option T_order_Log) × (Option T_coord_Table) × Int × (Mp Int Int) × (Option T_gate_move) × (List T_api_Mail) × (List T_gate_Reply)) :=
  (Option.bind (bif decide (a75 < 0) then (some true) else (some (decide (a75 > 20)))) fun v86 => (bif v86 then (some (a22, a25, a28, a31, a37, a53, a68, a71)) else (bif (a75 == 0) then none else (Option.bind (bif decide (IntKind.i64.wrap ((Int.tmod (IntKind.i64.wrap (a75 - 1)) 5) - 1) < 0) then (some (IntKind.i64.wrap (Int.tdiv (IntKind.i64.wrap (a75 - 1)) 5) != a1)) else (some false)) fun v121 => (bif v121 then none else (Option.bind (bif (IntKind.i64.wrap (Int.tdiv (IntKind.i64.wrap (a75 - 1)) 5) == a1) then (bif decide (IntKind.i64.wrap ((Int.tmod (IntKind.i64.wrap (a75 - 1)) 5) - 1) ≥ 0) then (some (decide (IntKind.i64.wrap ((Int.tmod (IntKind.i64.wrap (a75 - 1)) 5) - 1) < a2))) else (some false)) else (some false)) fun v124 => (bif v124 then (Option.bind (gate_Gate_answered N a1 a2 a4 a5 a6 (T_api_Map.mk a7.Cuts a7.Nodes) a15 a22 a25 a28 a31 a32 a37 a41 a45 a48 a52 a53 a56 a57 a58 a68 a71 (IntKind.i64.wrap ((Int.tmod (IntKind.i64.wrap (a75 - 1)) 5) - 1)) (T_api_Msg.mk a76.Kind a76.Id a76.N a76.TS a76.Lo a76.Hi a76.Vers a76.Vec (T_api_Cmd.mk a76.Cmd.Kind a76.Cmd.DC a76.Cmd.Shard a76.Cmd.Node a76.Cmd.Mode a76.Cmd.Key))) fun x125 => (gate_Gate_Take_k1 N a1 a2 a3 a4 a5 a6 a7 a12 a15 a18 a21 a22 a32 a35 a36 a41 a45 a48 a52 a53 a56 a57 a58 a61 a64 a65 a66 a67 x125.1 x125.2.1 x125.2.2.1 x125.2.2.2.1 x125.2.2.2.2.1 x125.2.2.2.2.2)) else (gate_Gate_Take_k1 N a1 a2 a3 a4 a5 a6 a7 a12 a15 a18 a21 a22 a32 a35 a36 a41 a45 a48 a52 a53 a56 a57 a58 a61 a64 a65 a66 a67 a25 a28 a31 a37 a68 a71))))))))
def gate_Gate_Commit (N : Nat) (a1 : Int) (a3 : Int) (a4 : Int) (a5 : Int) (a6 : Int) (a7 : T_api_Map) (a13 : (List Bool)) (a17 : Bool) (a18 : (Option T_stab_Table)) (a21 : (Option T_order_Log)) (a24 : (Option T_coord_Table)) (a27 : Int) (a28 : (List (Option T_inbox_Box))) (a31 : (List Int)) (a32 : (List Int)) (a33 : (Mp Int Int)) (a37 : (Mp Int T_gate_call)) (a41 : (List T_gate_call)) (a44 : (Mp Int T_gate_load)) (a48 : Int) (a49 : (Option T_gate_move)) (a53 : (List Int)) (a56 : Int) (a57 : Bool) (a58 : Bool) (a59 : Bool) (a60 : (List T_api_Mail)) (a65 : Int) (a66 : Int) (a67 : (List T_api_Ver)) : Option (Int × Int × (Option T_stab_Table) × (Option T_order_Log) × (Option T_coord_Table) × Int × (Mp Int Int) × (Option T_gate_move) × (List T_api_Mail)) :=
  (bif (a3 != 2) then (some (18, a6, a18, a21, a24, a27, a33, a49, a60)) else (Option.bind (bif (((a67).length : Int) == 0) then (some true) else (some (decide (((a67).length : Int) > 8)))) fun v77 => (bif v77 then (some (1, a6, a18, a21, a24, a27, a33, a49, a60)) else (Option.bind a18 fun x80 => (Option.bind (stab_Table_Stable N (T_stab_Table.mk x80.dc x80.beats (T_vec_Vec.mk x80.got.Epoch x80.got.Has x80.got.T) (T_vec_Vec.mk x80.known.Epoch x80.known.Has x80.known.T) x80.stable)) fun x84 => (Option.bind (apd ([] : List T_api_Ver) a67) fun x85 => (Option.bind (gate_Gate_ask N a1 a5 a6 (T_api_Map.mk a7.Cuts a7.Nodes) a24 a27 a33 a37 a41 a48 a49 a60 (T_gate_call.mk a65 false ByteArray.empty (if x84 > a66 then x84 else a66) x85)) fun x88 => (Option.bind (gate_Gate_work N a1 a3 a4 (T_api_Map.mk a7.Cuts a7.Nodes) a13 a17 (some x80) a21 x88.2.1 x88.2.2.1 a28 a31 a32 a37 a41 a44 a48 x88.2.2.2.2.1 a53 a56 a57 a58 a59 x88.2.2.2.2.2) fun x100 => (some (0, x88.1, x100.1, x100.2.1, x100.2.2.1, x88.2.2.1, x88.2.2.2.1, x100.2.2.2, x88.2.2.2.2.2))))))))))
end
end Go.Cf.M
namespace Go.Cf.M
open Go Go.Cf
set_option linter.unusedVariables false
noncomputable section
def gate_Gate_Take_nil0 (N : Nat) (a1 : Int) (a2 : T_api_Msg) : Option Unit :=
  (some ())
def gate_Gate_Hear_nil0 (N : Nat) (a1 : Int) (a2 : T_api_Msg) : Option Unit :=
  (some ())
def gate_Gate_Read_nil0 (N : Nat) (a1 : Int) (a2 : ByteArray) (a3 : Int) : Option (Int) :=
  (some 18)
def gate_Gate_Commit_nil0 (N : Nat) (a1 : Int) (a2 : Int) (a3 : (List T_api_Ver)) : Option (Int) :=
  (some 18)
def gate_Gate_Trim_nil0 (N : Nat)  : Option (Int) :=
  (some 18)
def gate_Gate_Note_nil0 (N : Nat) (a1 : Int) : Option (T_api_Msg × Bool) :=
  (some ((T_api_Msg.mk 0 0 0 0 ByteArray.empty ByteArray.empty ([] : List T_api_Ver) ([] : List Int) (T_api_Cmd.mk 0 0 0 0 0 ByteArray.empty)), false))
def gate_Gate_Sent_nil0 (N : Nat)  : Option ((List T_api_Mail)) :=
  (some ([] : List T_api_Mail))
def gate_Gate_Replies_nil0 (N : Nat)  : Option ((List T_gate_Reply)) :=
  (some ([] : List T_gate_Reply))
def gate_Gate_Role_nil0 (N : Nat)  : Option (Int) :=
  (some 0)
def gate_Gate_Stable_nil0 (N : Nat)  : Option (Int) :=
  (some 0)
def gate_Gate_Map_nil0 (N : Nat)  : Option (T_api_Map) :=
  (some (T_api_Map.mk ([] : List ByteArray) ([] : List Int)))
def gate_Gate_Mode_nil0 (N : Nat) (a1 : Int) : Option (Int) :=
  (some 0)
def gate_Gate_Waits_nil0 (N : Nat)  : Option ((List Int)) :=
  (some ([] : List Int))
end
end Go.Cf.M
namespace Go.Cf.M
open Go Go.Cf
set_option linter.unusedVariables false
noncomputable section
def law20_Few (N : Nat) (a1 : T_api_Msg) : Option (T_api_Msg) :=
  (Option.bind (slc a1.Vers 0 (if 12 < ((a1.Vers).length : Int) then 12 else ((a1.Vers).length : Int))) fun x10 => (Option.bind (slc a1.Vec 0 (if 40 < ((a1.Vec).length : Int) then 40 else ((a1.Vec).length : Int))) fun x14 => (some (T_api_Msg.mk a1.Kind a1.Id a1.N a1.TS a1.Lo a1.Hi x10 x14 (T_api_Cmd.mk a1.Cmd.Kind a1.Cmd.DC a1.Cmd.Shard a1.Cmd.Node a1.Cmd.Mode a1.Cmd.Key)))))
def law22_few (N : Nat) (a1 : T_law22_Op) : Option (T_law22_Op) :=
  (Option.bind (law20_Few N (T_api_Msg.mk a1.Msg.Kind a1.Msg.Id a1.Msg.N a1.Msg.TS a1.Msg.Lo a1.Msg.Hi a1.Msg.Vers a1.Msg.Vec (T_api_Cmd.mk a1.Msg.Cmd.Kind a1.Msg.Cmd.DC a1.Msg.Cmd.Shard a1.Msg.Cmd.Node a1.Msg.Cmd.Mode a1.Msg.Cmd.Key))) fun x12 => (Option.bind (slc a1.Writes 0 (if 12 < ((a1.Writes).length : Int) then 12 else ((a1.Writes).length : Int))) fun x18 => (some (T_law22_Op.mk a1.Kind a1.From a1.Call (T_api_Msg.mk x12.Kind x12.Id x12.N x12.TS x12.Lo x12.Hi x12.Vers x12.Vec (T_api_Cmd.mk x12.Cmd.Kind x12.Cmd.DC x12.Cmd.Shard x12.Cmd.Node x12.Cmd.Mode x12.Cmd.Key)) a1.Key a1.T x18))))
def law22_modes_L1 (N : Nat) : Nat → (List Int) → (List Int) → Int → Option ((List Int))
  | 0, _, _, _ => none
  | fuel1 + 1, x3, y57, y58 => (bif decide (y58 < ((x3).length : Int)) then (Option.bind (idx y57 y58) fun x63 => ((law22_modes_L1 N fuel1) x3 (List.set y57 (Int.toNat y58) 2) (IntKind.i64.wrap (y58 + 1)))) else (some y57))
def law22_modes (N : Nat)  : Option ((List Int)) :=
  (Option.bind (mkl 21 0) fun x3 => (law22_modes_L1 N N x3 x3 0))
end
end Go.Cf.M
namespace Go.Cf.M
open Go Go.Cf
set_option linter.unusedVariables false
noncomputable section
def gate_Gate_empty_L1 (N : Nat) : Nat → Int → (Mp Int Int) → (Mp Int T_gate_call) → (List T_gate_call) → (Mp Int T_gate_load) → (Option T_gate_move) → Int → (List Int) → (List Int) → Int → Bool → Bool → Bool → (T_order_Log) → (T_coord_Table) → (List Int) → (List Int) → Int → Option (Int × Int × Int × T_api_Map × (Option T_order_Log) × (Option T_coord_Table) × (List (Option T_inbox_Box)) × (List Int) × (List Int) × (Mp Int Int) × (Mp Int T_gate_call) × (List T_gate_call) × (Mp Int T_gate_load) × (Option T_gate_move) × Int × (List Int) × (List Int) × Int × Bool × Bool × Bool)
  | 0, _, _, _, _, _, _, _, _, _, _, _, _, _, _, _, _, _, _ => none
  | fuel1 + 1, a3, a24, a28, a32, a35, a40, a44, a45, a48, a51, a52, a53, a54, x59, x65, y127, y128, y129 => (bif decide (y129 < 4) then (Option.bind (idx y127 y129) fun x134 => (Option.bind (idx y128 y129) fun x135 => ((gate_Gate_empty_L1 N fuel1) a3 a24 a28 a32 a35 a40 a44 a45 a48 a51 a52 a53 a54 x59 x65 (List.set y127 (Int.toNat y129) (-1)) (List.set y128 (Int.toNat y129) 0) (IntKind.i64.wrap (y129 + 1))))) else (some (0, a3, 0, (T_api_Map.mk ([] : List ByteArray) ([] : List Int)), (some (T_order_Log.mk x59.list x59.waiting x59.bound)), (some (T_coord_Table.mk x65.open_)), (List.replicate 4 none), y127, y128, (mClr a24), (mClr a28), ([] : List T_gate_call), (mClr a35), none, 0, ([] : List Int), ([] : List Int), 0, false, false, false)))
def gate_Gate_empty (N : Nat) (a2 : Int) (a3 : Int) (a4 : Int) (a5 : Int) (a6 : T_api_Map) (a12 : (Option T_order_Log)) (a15 : (Option T_coord_Table)) (a19 : (List (Option T_inbox_Box))) (a22 : (List Int)) (a23 : (List Int)) (a24 : (Mp Int Int)) (a28 : (Mp Int T_gate_call)) (a32 : (List T_gate_call)) (a35 : (Mp Int T_gate_load)) (a40 : (Option T_gate_move)) (a44 : Int) (a45 : (List Int)) (a48 : (List Int)) (a51 : Int) (a52 : Bool) (a53 : Bool) (a54 : Bool) : Option (Int × Int × Int × T_api_Map × (Option T_order_Log) × (Option T_coord_Table) × (List (Option T_inbox_Box)) × (List Int) × (List Int) × (Mp Int Int) × (Mp Int T_gate_call) × (List T_gate_call) × (Mp Int T_gate_load) × (Option T_gate_move) × Int × (List Int) × (List Int) × Int × Bool × Bool × Bool) :=
  (Option.bind (order_New N ) fun x59 => (Option.bind (coord_New N ) fun x65 => (gate_Gate_empty_L1 N N a3 a24 a28 a32 a35 a40 a44 a45 a48 a51 a52 a53 a54 x59 x65 a22 a23 0)))
def gate_New_k2 (N : Nat) (a1 : Int) (a2 : Int) (x10 : ((Option T_stab_Table) × Int)) (x30 : (List Int)) (x35 : (List Int)) (y92 : (List Bool)) (x102 : (Int × Int × Int × T_api_Map × (Option T_order_Log) × (Option T_coord_Table) × (List (Option T_inbox_Box)) × (List Int) × (List Int) × (Mp Int Int) × (Mp Int T_gate_call) × (List T_gate_call) × (Mp Int T_gate_load) × (Option T_gate_move) × Int × (List Int) × (List Int) × Int × Bool × Bool × Bool)) (y131 : Int) (y132 : (List ByteArray)) (y135 : (List Int)) (y140 : (List (Option T_inbox_Box))) (y141 : (List Int)) : Option ((Option T_gate_Gate) × Int) :=
  (some ((some (T_gate_Gate.mk a1 a2 y131 0 x102.2.1 x102.2.2.1 (T_api_Map.mk y132 y135) x30 y92 x35 false x10.1 x102.2.2.2.2.1 x102.2.2.2.2.2.1 0 y140 y141 x102.2.2.2.2.2.2.2.2.1 x102.2.2.2.2.2.2.2.2.2.1 x102.2.2.2.2.2.2.2.2.2.2.1 x102.2.2.2.2.2.2.2.2.2.2.2.1 x102.2.2.2.2.2.2.2.2.2.2.2.2.1 0 x102.2.2.2.2.2.2.2.2.2.2.2.2.2.1 0 x102.2.2.2.2.2.2.2.2.2.2.2.2.2.2.1 x102.2.2.2.2.2.2.2.2.2.2.2.2.2.2.2.1 x102.2.2.2.2.2.2.2.2.2.2.2.2.2.2.2.2.1 x102.2.2.2.2.2.2.2.2.2.2.2.2.2.2.2.2.2.1 x102.2.2.2.2.2.2.2.2.2.2.2.2.2.2.2.2.2.2.1 x102.2.2.2.2.2.2.2.2.2.2.2.2.2.2.2.2.2.2.2.1 x102.2.2.2.2.2.2.2.2.2.2.2.2.2.2.2.2.2.2.2.2 ([] : List T_api_Mail) ([] : List T_gate_Reply))), 0))
def gate_New_k4 (N : Nat) (rec3 : Int → Int → (List Bool) → ((Option T_stab_Table) × Int) → (List Int) → (List Int) → (List Bool) → (Int × Int × Int × T_api_Map × (Option T_order_Log) × (Option T_coord_Table) × (List (Option T_inbox_Box)) × (List Int) × (List Int) × (Mp Int Int) × (Mp Int T_gate_call) × (List T_gate_call) × (Mp Int T_gate_load) × (Option T_gate_move) × Int × (List Int) × (List Int) × Int × Bool × Bool × Bool) → (T_api_Map) → (List (Option T_inbox_Box)) → (List Int) → Int → Option ((Option T_gate_Gate) × Int)) (a1 : Int) (a2 : Int) (a3 : (List Bool)) (x10 : ((Option T_stab_Table) × Int)) (x30 : (List Int)) (x35 : (List Int)) (y92 : (List Bool)) (x102 : (Int × Int × Int × T_api_Map × (Option T_order_Log) × (Option T_coord_Table) × (List (Option T_inbox_Box)) × (List Int) × (List Int) × (Mp Int Int) × (Mp Int T_gate_call) × (List T_gate_call) × (Mp Int T_gate_load) × (Option T_gate_move) × Int × (List Int) × (List Int) × Int × Bool × Bool × Bool)) (x147 : (T_api_Map)) (y207 : Int) (y212 : (List (Option T_inbox_Box))) (y213 : (List Int)) : Option ((Option T_gate_Gate) × Int) :=
  (rec3 a1 a2 a3 x10 x30 x35 y92 x102 x147 y212 y213 (IntKind.i64.wrap (y207 + 1)))
def gate_New_L3 (N : Nat) : Nat → Int → Int → (List Bool) → ((Option T_stab_Table) × Int) → (List Int) → (List Int) → (List Bool) → (Int × Int × Int × T_api_Map × (Option T_order_Log) × (Option T_coord_Table) × (List (Option T_inbox_Box)) × (List Int) × (List Int) × (Mp Int Int) × (Mp Int T_gate_call) × (List T_gate_call) × (Mp Int T_gate_load) × (Option T_gate_move) × Int × (List Int) × (List Int) × Int × Bool × Bool × Bool) → (T_api_Map) → (List (Option T_inbox_Box)) → (List Int) → Int → Option ((Option T_gate_Gate) × Int)
  | 0, _, _, _, _, _, _, _, _, _, _, _, _ => none
  | fuel3 + 1, a1, a2, a3, x10, x30, x35, y92, x102, x147, y205, y206, y207 => (bif decide (y207 < 4) then (Option.bind (idx a3 y207) fun x215 => (Option.bind (bif x215 then (some (y207 != a1)) else (some false)) fun v218 => (bif v218 then (Option.bind (idx y205 y207) fun x219 => (Option.bind (inbox_New N 0) fun x221 => (Option.bind (idx y206 y207) fun x232 => (gate_New_k4 N (gate_New_L3 N fuel3) a1 a2 a3 x10 x30 x35 y92 x102 x147 y207 (List.set y205 (Int.toNat y207) (some (T_inbox_Box.mk x221.base x221.list x221.handed x221.done x221.hearts x221.got))) (List.set y206 (Int.toNat y207) 0))))) else (gate_New_k4 N (gate_New_L3 N fuel3) a1 a2 a3 x10 x30 x35 y92 x102 x147 y207 y205 y206)))) else (gate_New_k2 N a1 a2 x10 x30 x35 y92 x102 2 x147.Cuts x147.Nodes y205 y206))
def gate_New_L1 (N : Nat) : Nat → Int → Int → (List Bool) → ((Option T_stab_Table) × Int) → (List Int) → (List Bool) → (List Int) → (List Bool) → Int → Option ((Option T_gate_Gate) × Int)
  | 0, _, _, _, _, _, _, _, _, _ => none
  | fuel1 + 1, a1, a2, a3, x10, x30, x33, x35, y92, y93 => (bif decide (y93 < ((x33).length : Int)) then (Option.bind (idx y92 y93) fun x98 => ((gate_New_L1 N fuel1) a1 a2 a3 x10 x30 x33 x35 (List.set y92 (Int.toNat y93) true) (IntKind.i64.wrap (y93 + 1)))) else (Option.bind (gate_Gate_empty N 0 0 0 0 (T_api_Map.mk ([] : List ByteArray) ([] : List Int)) none none (List.replicate 4 none) (List.replicate 4 0) (List.replicate 4 0) (some []) (some []) ([] : List T_gate_call) (some []) none 0 ([] : List Int) ([] : List Int) 0 false false false) fun x102 => (Option.bind (idx a3 a1) fun x145 => (bif x145 then (Option.bind (span_Whole N 0) fun x147 => (gate_New_L3 N N a1 a2 a3 x10 x30 x35 y92 x102 x147 x102.2.2.2.2.2.2.1 x102.2.2.2.2.2.2.2.1 0)) else (gate_New_k2 N a1 a2 x10 x30 x35 y92 x102 x102.1 x102.2.2.2.1.Cuts x102.2.2.2.1.Nodes x102.2.2.2.2.2.2.1 x102.2.2.2.2.2.2.2.1)))))
def gate_New (N : Nat) (a1 : Int) (a2 : Int) (a3 : (List Bool)) (a4 : (List Int)) : Option ((Option T_gate_Gate) × Int) :=
  (Option.bind (stab_New N a1 a2 a3) fun x10 => (Option.bind (bif (x10.2 != 0) then (some true) else (some (((a4).length : Int) != 21))) fun v16 => (bif v16 then (some (none, 1)) else (Option.bind (apd1 ([] : List Int) a4) fun x19 => (Option.bind (mkl a2 false) fun x22 => (Option.bind (mkl a2 0) fun x24 => (Option.bind (apd1 ([] : List Int) a4) fun x30 => (Option.bind (mkl a2 false) fun x33 => (Option.bind (mkl a2 0) fun x35 => (gate_New_L1 N N a1 a2 a3 x10 x30 x33 x35 x33 0))))))))))
end
end Go.Cf.M
namespace Go.Cf.M
open Go Go.Cf
set_option linter.unusedVariables false
noncomputable section
def law22_awake (N : Nat)  : Option (Bool) :=
  (Option.bind (law22_modes N ) fun x3 => (Option.bind (gate_New N 0 1 [true, false, false, false] x3) fun x6 => (Option.bind (oCase x6.1 (Option.bind (bif (x6.2 != 0) then (some ()) else (some ())) fun v79 => (some (none, true))) fun x16 => (Option.bind (bif (x6.2 != 0) then (some (x16, true)) else (Option.bind (gate_Gate_Commit N x16.dc x16.role x16.epoch x16.base x16.txs (T_api_Map.mk x16.m.Cuts x16.m.Nodes) x16.agreed x16.owing x16.st x16.log x16.co x16.hi x16.boxes x16.cursor x16.heard x16.calls x16.reads x16.held x16.loads x16.last x16.mv x16.end_ x16.floor x16.floored x16.seeded x16.said x16.out 3 5 [(T_api_Ver.mk (ByteArray.mk #[97]) ByteArray.empty false 0 0 0)]) fun x63 => (some ((T_gate_Gate.mk x16.dc x16.nodes x16.role x16.epoch x16.base x63.2.1 (T_api_Map.mk x16.m.Cuts x16.m.Nodes) x16.modes x16.agreed x16.old x16.owing x63.2.2.1 x63.2.2.2.1 x63.2.2.2.2.1 x63.2.2.2.2.2.1 x16.boxes x16.cursor x16.heard x63.2.2.2.2.2.2.1 x16.reads x16.held x16.loads x16.last x63.2.2.2.2.2.2.2.1 x16.seedTo x16.seeds x16.cut x16.end_ x16.floor x16.floored x16.seeded x16.said x63.2.2.2.2.2.2.2.2 x16.replies), (x63.1 != 0))))) fun v60 => (some ((some v60.1), v60.2)))) fun v15 => (bif v15.2 then (some false) else (Option.bind (oCase v15.1 (Option.bind (gate_Gate_Take_nil0 N 2 (T_api_Msg.mk 11 1 0 9 ByteArray.empty ByteArray.empty ([] : List T_api_Ver) ([] : List Int) (T_api_Cmd.mk 0 0 0 0 0 ByteArray.empty))) fun x145 => (some none)) fun x86 => (Option.bind (gate_Gate_Take N x86.dc x86.nodes x86.role x86.epoch x86.base x86.txs (T_api_Map.mk x86.m.Cuts x86.m.Nodes) x86.modes x86.agreed x86.old x86.owing x86.st x86.log x86.co x86.hi x86.boxes x86.cursor x86.heard x86.calls x86.reads x86.held x86.loads x86.last x86.mv x86.seedTo x86.seeds x86.cut x86.end_ x86.floor x86.floored x86.seeded x86.said x86.out x86.replies 2 (T_api_Msg.mk 11 1 0 9 ByteArray.empty ByteArray.empty ([] : List T_api_Ver) ([] : List Int) (T_api_Cmd.mk 0 0 0 0 0 ByteArray.empty))) fun x127 => (some (some (T_gate_Gate.mk x86.dc x86.nodes x86.role x86.epoch x86.base x86.txs (T_api_Map.mk x86.m.Cuts x86.m.Nodes) x86.modes x86.agreed x86.old x86.owing x127.1 x127.2.1 x127.2.2.1 x127.2.2.2.1 x86.boxes x86.cursor x86.heard x127.2.2.2.2.1 x86.reads x86.held x86.loads x86.last x127.2.2.2.2.2.1 x86.seedTo x86.seeds x86.cut x86.end_ x86.floor x86.floored x86.seeded x86.said x127.2.2.2.2.2.2.1 x127.2.2.2.2.2.2.2))))) fun v85 => (Option.bind (oCase v85 (Option.bind (gate_Gate_Take_nil0 N 2 (T_api_Msg.mk 12 1 0 0 ByteArray.empty ByteArray.empty ([] : List T_api_Ver) ([] : List Int) (T_api_Cmd.mk 0 0 0 0 0 ByteArray.empty))) fun x210 => (some none)) fun x151 => (Option.bind (gate_Gate_Take N x151.dc x151.nodes x151.role x151.epoch x151.base x151.txs (T_api_Map.mk x151.m.Cuts x151.m.Nodes) x151.modes x151.agreed x151.old x151.owing x151.st x151.log x151.co x151.hi x151.boxes x151.cursor x151.heard x151.calls x151.reads x151.held x151.loads x151.last x151.mv x151.seedTo x151.seeds x151.cut x151.end_ x151.floor x151.floored x151.seeded x151.said x151.out x151.replies 2 (T_api_Msg.mk 12 1 0 0 ByteArray.empty ByteArray.empty ([] : List T_api_Ver) ([] : List Int) (T_api_Cmd.mk 0 0 0 0 0 ByteArray.empty))) fun x192 => (some (some (T_gate_Gate.mk x151.dc x151.nodes x151.role x151.epoch x151.base x151.txs (T_api_Map.mk x151.m.Cuts x151.m.Nodes) x151.modes x151.agreed x151.old x151.owing x192.1 x192.2.1 x192.2.2.1 x192.2.2.2.1 x151.boxes x151.cursor x151.heard x192.2.2.2.2.1 x151.reads x151.held x151.loads x151.last x192.2.2.2.2.2.1 x151.seedTo x151.seeds x151.cut x151.end_ x151.floor x151.floored x151.seeded x151.said x192.2.2.2.2.2.2.1 x192.2.2.2.2.2.2.2))))) fun v150 => (Option.bind (oCase v150 (Option.bind (gate_Gate_Replies_nil0 N ) fun x263 => (some x263)) fun x216 => (Option.bind (gate_Gate_Replies N x216.replies) fun x257 => (some x257.1))) fun v215 => (Option.bind (bif (((v215).length : Int) == 2) then (Option.bind (idx v215 0) fun x269 => (bif (x269.Kind == 2) then (Option.bind (idx v215 0) fun x272 => (bif (x272.Mark.TS == 9) then (Option.bind (idx v215 1) fun x275 => (bif (x275.Kind == 3) then (Option.bind (idx v215 1) fun x278 => (some (x278.Call == 3))) else (some false))) else (some false))) else (some false))) else (some false)) fun v268 => (some v268)))))))))
end
end Go.Cf.M
namespace Go.Cf.M
open Go Go.Cf
set_option linter.unusedVariables false
noncomputable section
def law22_do_nil0_k1 (N : Nat)  : Option (Int) :=
  (some 0)
def law22_do_nil0 (N : Nat) (a1 : T_law22_Op) : Option (Int) :=
  (bif (a1.Kind == 0) then (Option.bind (gate_Gate_Take_nil0 N a1.From (T_api_Msg.mk a1.Msg.Kind a1.Msg.Id a1.Msg.N a1.Msg.TS a1.Msg.Lo a1.Msg.Hi a1.Msg.Vers a1.Msg.Vec (T_api_Cmd.mk a1.Msg.Cmd.Kind a1.Msg.Cmd.DC a1.Msg.Cmd.Shard a1.Msg.Cmd.Node a1.Msg.Cmd.Mode a1.Msg.Cmd.Key))) fun x13 => (law22_do_nil0_k1 N )) else (bif (a1.Kind == 1) then (Option.bind (gate_Gate_Hear_nil0 N a1.From (T_api_Msg.mk a1.Msg.Kind a1.Msg.Id a1.Msg.N a1.Msg.TS a1.Msg.Lo a1.Msg.Hi a1.Msg.Vers a1.Msg.Vec (T_api_Cmd.mk a1.Msg.Cmd.Kind a1.Msg.Cmd.DC a1.Msg.Cmd.Shard a1.Msg.Cmd.Node a1.Msg.Cmd.Mode a1.Msg.Cmd.Key))) fun x15 => (law22_do_nil0_k1 N )) else (bif (a1.Kind == 2) then (Option.bind (gate_Gate_Read_nil0 N a1.Call a1.Key a1.T) fun x18 => (some x18)) else (bif (a1.Kind == 3) then (Option.bind (gate_Gate_Commit_nil0 N a1.Call a1.T a1.Writes) fun x21 => (some x21)) else (bif (a1.Kind == 4) then (Option.bind (gate_Gate_Trim_nil0 N ) fun x24 => (some x24)) else (law22_do_nil0_k1 N ))))))
end
end Go.Cf.M
namespace Go.Cf.M
open Go Go.Cf
set_option linter.unusedVariables false
noncomputable section
def law22_GateNone (N : Nat) (a1 : T_law22_Op) : Option (Bool) :=
  (Option.bind (law22_few N (T_law22_Op.mk a1.Kind a1.From a1.Call (T_api_Msg.mk a1.Msg.Kind a1.Msg.Id a1.Msg.N a1.Msg.TS a1.Msg.Lo a1.Msg.Hi a1.Msg.Vers a1.Msg.Vec (T_api_Cmd.mk a1.Msg.Cmd.Kind a1.Msg.Cmd.DC a1.Msg.Cmd.Shard a1.Msg.Cmd.Node a1.Msg.Cmd.Mode a1.Msg.Cmd.Key)) a1.Key a1.T a1.Writes)) fun x12 => (Option.bind (law22_do_nil0 N (T_law22_Op.mk x12.Kind x12.From x12.Call (T_api_Msg.mk x12.Msg.Kind x12.Msg.Id x12.Msg.N x12.Msg.TS x12.Msg.Lo x12.Msg.Hi x12.Msg.Vers x12.Msg.Vec (T_api_Cmd.mk x12.Msg.Cmd.Kind x12.Msg.Cmd.DC x12.Msg.Cmd.Shard x12.Msg.Cmd.Node x12.Msg.Cmd.Mode x12.Msg.Cmd.Key)) x12.Key x12.T x12.Writes)) fun x19 => (Option.bind (gate_Gate_Note_nil0 N a1.From) fun x21 => (Option.bind (Option.bind (law22_awake N ) fun x30 => (bif x30 then (bif decide (a1.Kind ≥ 2) then (bif ((x19 == 18) == (decide (a1.Kind ≤ 4))) then (bif (!x21.2) then (bif (x21.1.Kind == 0) then (Option.bind (gate_Gate_Sent_nil0 N ) fun x31 => (bif (((x31).length : Int) == 0) then (Option.bind (gate_Gate_Replies_nil0 N ) fun x34 => (bif (((x34).length : Int) == 0) then (Option.bind (gate_Gate_Role_nil0 N ) fun x37 => (bif (x37 == 0) then (Option.bind (gate_Gate_Stable_nil0 N ) fun x38 => (bif (x38 == 0) then (Option.bind (gate_Gate_Map_nil0 N ) fun x39 => (bif (((x39.Nodes).length : Int) == 0) then (Option.bind (gate_Gate_Mode_nil0 N a1.From) fun x44 => (bif (x44 == 0) then (Option.bind (gate_Gate_Waits_nil0 N ) fun x45 => (some (((x45).length : Int) == 0))) else (some false))) else (some false))) else (some false))) else (some false))) else (some false))) else (some false))) else (some false)) else (some false)) else (some false)) else (bif ((x19 == 18) == false) then (bif (!x21.2) then (bif (x21.1.Kind == 0) then (Option.bind (gate_Gate_Sent_nil0 N ) fun x48 => (bif (((x48).length : Int) == 0) then (Option.bind (gate_Gate_Replies_nil0 N ) fun x51 => (bif (((x51).length : Int) == 0) then (Option.bind (gate_Gate_Role_nil0 N ) fun x54 => (bif (x54 == 0) then (Option.bind (gate_Gate_Stable_nil0 N ) fun x55 => (bif (x55 == 0) then (Option.bind (gate_Gate_Map_nil0 N ) fun x56 => (bif (((x56.Nodes).length : Int) == 0) then (Option.bind (gate_Gate_Mode_nil0 N a1.From) fun x61 => (bif (x61 == 0) then (Option.bind (gate_Gate_Waits_nil0 N ) fun x62 => (some (((x62).length : Int) == 0))) else (some false))) else (some false))) else (some false))) else (some false))) else (some false))) else (some false))) else (some false)) else (some false)) else (some false))) else (some false))) fun v29 => (some v29)))))
end
end Go.Cf.M
