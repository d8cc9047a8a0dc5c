/- What the functions compute, as Lean functions (none: a panic, an empty purse, or a size that is not followed). Printed by a program of ours out of the translation. -/
import Derived.Test.YteeafoagaaedcaaZK2
namespace Go.Cf.M
open Go Go.Cf
set_option linter.unusedVariables false
noncomputable section
def session_Session_Snap (N : Nat) (a1 : T_session_Session) : Option (Int) :=
  (some a1.snap)
def session_Session_Low (N : Nat) (a1 : T_session_Session) : Option (Int) :=
  (some (if a1.dep > a1.snap then a1.dep else a1.snap))
def session_Session_Open (N : Nat) (a1 : T_session_Session) : Option (Bool) :=
  (some a1.open_)
def session_New (N : Nat)  : Option (T_session_Session) :=
  (some (T_session_Session.mk 0 0 false none (some [])))
def session_Session_Close (N : Nat) (a1 : T_session_Session) : Option (Int × T_session_Session) :=
  (bif (!a1.open_) then (some (17, (T_session_Session.mk a1.snap a1.dep a1.open_ a1.writes a1.cache))) else (some (0, (T_session_Session.mk a1.snap a1.dep false none a1.cache))))
def session_Session_Begin_L1 (N : Nat) : Nat → T_session_Session → Int → (Mp ByteArray T_api_Ver) → (List ByteArray) → Option (Int × Int × T_session_Session)
  | 0, _, _, _, _ => none
  | fuel1 + 1, a1, a9, y73, y75 => (bif (cands y73 y75).isEmpty then (some ((if a9 > a1.snap then a9 else a1.snap), 0, (T_session_Session.mk (if a9 > a1.snap then a9 else a1.snap) a1.dep true (some []) y73))) else allAgree (cands y73 y75) fun x77 => (bif decide (x77.2.TS ≤ (if a9 > a1.snap then a9 else a1.snap)) then ((session_Session_Begin_L1 N fuel1) a1 a9 (mDel y73 x77.1) (kRem y75 x77.1)) else ((session_Session_Begin_L1 N fuel1) a1 a9 y73 (kRem y75 x77.1))))
def session_Session_Begin (N : Nat) (a1 : T_session_Session) (a9 : Int) : Option (Int × Int × T_session_Session) :=
  (bif a1.open_ then (some (0, 17, (T_session_Session.mk a1.snap a1.dep a1.open_ a1.writes a1.cache))) else (session_Session_Begin_L1 N N a1 a9 a1.cache (mKeys a1.cache)))
def session_Session_Write (N : Nat) (a1 : T_session_Session) (a9 : ByteArray) (a10 : ByteArray) (a11 : Bool) : Option (Int × T_session_Session) :=
  (bif (!a1.open_) then (some (17, (T_session_Session.mk a1.snap a1.dep a1.open_ a1.writes a1.cache))) else (Option.bind (bif decide (((a9).size : Int) > 16) then (some true) else (some (decide (((a10).size : Int) > 64)))) fun v21 => (bif v21 then (some (6, (T_session_Session.mk a1.snap a1.dep a1.open_ a1.writes a1.cache))) else (Option.bind (bif (sEq a9 (ByteArray.mk #[])) then (some true) else (bif a11 then (some (!sEq a10 (ByteArray.mk #[]))) else (some false))) fun v26 => (bif v26 then (some (1, (T_session_Session.mk a1.snap a1.dep a1.open_ a1.writes a1.cache))) else (Option.bind (mgt a1.writes a9 (T_api_Ver.mk ByteArray.empty ByteArray.empty false 0 0 0)) fun x30 => (Option.bind (bif (!x30.2) then (some (decide ((mLen a1.writes : Int) ≥ 8))) else (some false)) fun v34 => (bif v34 then (some (9, (T_session_Session.mk a1.snap a1.dep a1.open_ a1.writes a1.cache))) else (Option.bind (mPut a1.writes a9 (T_api_Ver.mk a9 a10 a11 0 0 0)) fun x37 => (some (0, (T_session_Session.mk a1.snap a1.dep a1.open_ x37 a1.cache))))))))))))
def session_Session_Look (N : Nat) (a1 : T_session_Session) (a9 : ByteArray) : Option (T_api_Ver × Int) :=
  (bif (!a1.open_) then (some ((T_api_Ver.mk ByteArray.empty ByteArray.empty false 0 0 0), 0)) else (Option.bind (mgt a1.writes a9 (T_api_Ver.mk ByteArray.empty ByteArray.empty false 0 0 0)) fun x17 => (bif x17.2 then (some ((T_api_Ver.mk x17.1.Key x17.1.Val x17.1.Gone x17.1.TS x17.1.DC x17.1.Tx), 1)) else (Option.bind (mgt a1.cache a9 (T_api_Ver.mk ByteArray.empty ByteArray.empty false 0 0 0)) fun x23 => (bif x23.2 then (some ((T_api_Ver.mk x23.1.Key x23.1.Val x23.1.Gone x23.1.TS x23.1.DC x23.1.Tx), 2)) else (some ((T_api_Ver.mk ByteArray.empty ByteArray.empty false 0 0 0), 0)))))))
def session_Session_Commit_L1 (N : Nat) : Nat → T_session_Session → T_api_Mark → (Mp ByteArray T_api_Ver) → (List ByteArray) → Option (Int × T_session_Session)
  | 0, _, _, _, _ => none
  | fuel1 + 1, a1, a9, y76, y78 => (bif (cands a1.writes y78).isEmpty then (some (0, (T_session_Session.mk a1.snap a9.TS false none y76))) else allAgree (cands a1.writes y78) fun x80 => (Option.bind (mPut y76 x80.1 (T_api_Ver.mk x80.2.Key x80.2.Val x80.2.Gone a9.TS a9.DC a9.Tx)) fun x91 => ((session_Session_Commit_L1 N fuel1) a1 a9 x91 (kRem y78 x80.1))))
def session_Session_Commit (N : Nat) (a1 : T_session_Session) (a9 : T_api_Mark) : Option (Int × T_session_Session) :=
  (bif (!a1.open_) then (some (17, (T_session_Session.mk a1.snap a1.dep a1.open_ a1.writes a1.cache))) else (Option.bind (session_Session_Low N (T_session_Session.mk a1.snap a1.dep a1.open_ a1.writes a1.cache)) fun x19 => (bif decide (a9.TS ≤ x19) then (some (11, (T_session_Session.mk a1.snap a1.dep a1.open_ a1.writes a1.cache))) else (session_Session_Commit_L1 N N a1 a9 a1.cache (mKeys a1.writes)))))
end
end Go.Cf.M
namespace Go.Cf.M
open Go Go.Cf
set_option linter.unusedVariables false
noncomputable section
def maps_Keys_map_string_api_Ver_string_api_Ver_ (N : Nat) (a1 : (Mp ByteArray T_api_Ver)) : Option Unit := some ()
def session_Session_Writes_L1 (N : Nat) : Nat → T_session_Session → (List ByteArray) → (List T_api_Ver) → Int → Option ((List T_api_Ver))
  | 0, _, _, _, _ => none
  | fuel1 + 1, a1, x18, y71, y74 => (bif decide (y74 < ((x18).length : Int)) then (Option.bind (idx x18 y74) fun x79 => (Option.bind (mgt a1.writes x79 (T_api_Ver.mk ByteArray.empty ByteArray.empty false 0 0 0)) fun x82 => (Option.bind (apd y71 [(T_api_Ver.mk x82.1.Key x82.1.Val x82.1.Gone x82.1.TS x82.1.DC x82.1.Tx)]) fun x84 => ((session_Session_Writes_L1 N fuel1) a1 x18 x84 (IntKind.i64.wrap (y74 + 1)))))) else (some y71))
def session_Session_Writes (N : Nat) (a1 : T_session_Session) : Option ((List T_api_Ver)) :=
  (bif (!a1.open_) then (some ([] : List T_api_Ver)) else (Option.bind (maps_Keys_map_string_api_Ver_string_api_Ver_ N a1.writes) fun x16 => (Option.bind (srtK a1.writes) fun x18 => (session_Session_Writes_L1 N N a1 x18 ([] : List T_api_Ver) 0))))
def law15_awake (N : Nat)  : Option (Bool) :=
  (Option.bind (session_New N ) fun x3 => (Option.bind (session_Session_Begin N (T_session_Session.mk x3.snap x3.dep x3.open_ x3.writes x3.cache) 5) fun x14 => (Option.bind (bif (x14.1 == 5) then (bif (x14.2.1 == 0) then (Option.bind (session_Session_Write N (T_session_Session.mk x14.2.2.snap x14.2.2.dep x14.2.2.open_ x14.2.2.writes x14.2.2.cache) (ByteArray.mk #[97]) (ByteArray.mk #[120]) false) fun x24 => (bif (x24.1 == 0) then (Option.bind (session_Session_Writes N (T_session_Session.mk x24.2.snap x24.2.dep x24.2.open_ x24.2.writes x24.2.cache)) fun x31 => (some (((x31).length : Int) == 1))) else (some false))) else (some false)) else (some false)) fun v23 => (some v23))))
end
end Go.Cf.M
namespace Go.Cf.M
open Go Go.Cf
set_option linter.unusedVariables false
noncomputable section
def ref15_has_L1 (N : Nat) : Nat → (List T_api_Ver) → ByteArray → Int → Option (T_api_Ver × Bool)
  | 0, _, _, _ => none
  | fuel1 + 1, a1, a4, y59 => (bif decide (y59 < ((a1).length : Int)) then (Option.bind (idx a1 y59) fun x64 => (bif (sEq x64.Key a4) then (Option.bind (idx a1 y59) fun x68 => (some ((T_api_Ver.mk x68.Key x68.Val x68.Gone x68.TS x68.DC x68.Tx), true))) else ((ref15_has_L1 N fuel1) a1 a4 (IntKind.i64.wrap (y59 + 1))))) else (some ((T_api_Ver.mk ByteArray.empty ByteArray.empty false 0 0 0), false)))
def ref15_has (N : Nat) (a1 : (List T_api_Ver)) (a4 : ByteArray) : Option (T_api_Ver × Bool) :=
  (ref15_has_L1 N N a1 a4 0)
def ref15_put_k2 (N : Nat) (rec1 : (List T_api_Ver) → T_api_Ver → (List T_api_Ver) → Bool → Int → Option ((List T_api_Ver))) (a1 : (List T_api_Ver)) (a4 : T_api_Ver) (y65 : Int) (y68 : (List T_api_Ver)) (y71 : Bool) : Option ((List T_api_Ver)) :=
  (rec1 a1 a4 y68 y71 (IntKind.i64.wrap (y65 + 1)))
def ref15_put_k3 (N : Nat) (rec1 : (List T_api_Ver) → T_api_Ver → (List T_api_Ver) → Bool → Int → Option ((List T_api_Ver))) (a1 : (List T_api_Ver)) (a4 : T_api_Ver) (y65 : Int) (y72 : (List T_api_Ver)) (y75 : Bool) : Option ((List T_api_Ver)) :=
  (Option.bind (idx a1 y65) fun x77 => (bif (!sEq x77.Key a4.Key) then (Option.bind (idx a1 y65) fun x80 => (Option.bind (apd y72 [(T_api_Ver.mk x80.Key x80.Val x80.Gone x80.TS x80.DC x80.Tx)]) fun x84 => (ref15_put_k2 N rec1 a1 a4 y65 x84 y75))) else (ref15_put_k2 N rec1 a1 a4 y65 y72 y75)))
def ref15_put_k4 (N : Nat) (y97 : (List T_api_Ver)) : Option ((List T_api_Ver)) :=
  (some y97)
def ref15_put_L1 (N : Nat) : Nat → (List T_api_Ver) → T_api_Ver → (List T_api_Ver) → Bool → Int → Option ((List T_api_Ver))
  | 0, _, _, _, _, _ => none
  | fuel1 + 1, a1, a4, y61, y64, y65 => (bif decide (y65 < ((a1).length : Int)) then (Option.bind (bif (!y64) then (Option.bind (idx a1 y65) fun x90 => (some (sLt a4.Key x90.Key || sEq a4.Key x90.Key))) else (some false)) fun v89 => (bif v89 then (Option.bind (apd y61 [(T_api_Ver.mk a4.Key a4.Val a4.Gone a4.TS a4.DC a4.Tx)]) fun x94 => (ref15_put_k3 N (ref15_put_L1 N fuel1) a1 a4 y65 x94 true)) else (ref15_put_k3 N (ref15_put_L1 N fuel1) a1 a4 y65 y61 y64))) else (bif (!y64) then (Option.bind (apd y61 [(T_api_Ver.mk a4.Key a4.Val a4.Gone a4.TS a4.DC a4.Tx)]) fun x103 => (ref15_put_k4 N x103)) else (ref15_put_k4 N y61)))
def ref15_put (N : Nat) (a1 : (List T_api_Ver)) (a4 : T_api_Ver) : Option ((List T_api_Ver)) :=
  (ref15_put_L1 N N a1 a4 ([] : List T_api_Ver) false 0)
def ref15_Session_Low (N : Nat) (a1 : T_ref15_Session) : Option (Int) :=
  (bif decide (a1.Dep > a1.Snap) then (some a1.Dep) else (some a1.Snap))
def ref15_Session_Begin_k3 (N : Nat) (rec2 : T_ref15_Session → Int → (List T_api_Ver) → Int → Option (Int × Int × T_ref15_Session)) (a1 : T_ref15_Session) (y13 : Int) (y70 : Int) (y73 : (List T_api_Ver)) : Option (Int × Int × T_ref15_Session) :=
  (rec2 a1 y13 y73 (IntKind.i64.wrap (y70 + 1)))
def ref15_Session_Begin_L2 (N : Nat) : Nat → T_ref15_Session → Int → (List T_api_Ver) → Int → Option (Int × Int × T_ref15_Session)
  | 0, _, _, _, _ => none
  | fuel2 + 1, a1, y13, y67, y70 => (bif decide (y70 < ((a1.Cache).length : Int)) then (Option.bind (idx a1.Cache y70) fun x77 => (bif decide (x77.TS > y13) then (Option.bind (idx a1.Cache y70) fun x80 => (Option.bind (apd y67 [(T_api_Ver.mk x80.Key x80.Val x80.Gone x80.TS x80.DC x80.Tx)]) fun x84 => (ref15_Session_Begin_k3 N (ref15_Session_Begin_L2 N fuel2) a1 y13 y70 x84))) else (ref15_Session_Begin_k3 N (ref15_Session_Begin_L2 N fuel2) a1 y13 y70 y67))) else (some (y13, 0, (T_ref15_Session.mk y13 a1.Dep true ([] : List T_api_Ver) y67))))
def ref15_Session_Begin_k1 (N : Nat) (a1 : T_ref15_Session) (y13 : Int) : Option (Int × Int × T_ref15_Session) :=
  (ref15_Session_Begin_L2 N N a1 y13 ([] : List T_api_Ver) 0)
def ref15_Session_Begin (N : Nat) (a1 : T_ref15_Session) (a7 : Int) : Option (Int × Int × T_ref15_Session) :=
  (bif a1.Opened then (some (0, 17, (T_ref15_Session.mk a1.Snap a1.Dep a1.Opened a1.Writes a1.Cache))) else (bif decide (a7 > a1.Snap) then (ref15_Session_Begin_k1 N a1 a7) else (ref15_Session_Begin_k1 N a1 a1.Snap)))
def ref15_Session_Write (N : Nat) (a1 : T_ref15_Session) (a7 : ByteArray) (a8 : ByteArray) (a9 : Bool) : Option (Int × T_ref15_Session) :=
  (bif (!a1.Opened) then (some (17, (T_ref15_Session.mk a1.Snap a1.Dep a1.Opened a1.Writes a1.Cache))) else (Option.bind (bif decide (((a7).size : Int) > 16) then (some true) else (some (decide (((a8).size : Int) > 64)))) fun v17 => (bif v17 then (some (6, (T_ref15_Session.mk a1.Snap a1.Dep a1.Opened a1.Writes a1.Cache))) else (Option.bind (bif (sEq a7 (ByteArray.mk #[])) then (some true) else (bif a9 then (some (!sEq a8 (ByteArray.mk #[]))) else (some false))) fun v22 => (bif v22 then (some (1, (T_ref15_Session.mk a1.Snap a1.Dep a1.Opened a1.Writes a1.Cache))) else (Option.bind (ref15_has N a1.Writes a7) fun x26 => (Option.bind (bif (!x26.2) then (some (((a1.Writes).length : Int) == 8)) else (some false)) fun v30 => (bif v30 then (some (9, (T_ref15_Session.mk a1.Snap a1.Dep a1.Opened a1.Writes a1.Cache))) else (Option.bind (ref15_put N a1.Writes (T_api_Ver.mk a7 a8 a9 0 0 0)) fun x33 => (some (0, (T_ref15_Session.mk a1.Snap a1.Dep a1.Opened x33 a1.Cache))))))))))))
def ref15_Session_Commit_L1 (N : Nat) : Nat → T_ref15_Session → T_api_Mark → (List T_api_Ver) → Int → Option (Int × T_ref15_Session)
  | 0, _, _, _, _ => none
  | fuel1 + 1, a1, a7, y69, y72 => (bif decide (y72 < ((a1.Writes).length : Int)) then (Option.bind (idx a1.Writes y72) fun x77 => (Option.bind (ref15_put N y69 (T_api_Ver.mk x77.Key x77.Val x77.Gone a7.TS a7.DC a7.Tx)) fun x82 => ((ref15_Session_Commit_L1 N fuel1) a1 a7 x82 (IntKind.i64.wrap (y72 + 1))))) else (some (0, (T_ref15_Session.mk a1.Snap a7.TS false ([] : List T_api_Ver) y69))))
def ref15_Session_Commit (N : Nat) (a1 : T_ref15_Session) (a7 : T_api_Mark) : Option (Int × T_ref15_Session) :=
  (bif (!a1.Opened) then (some (17, (T_ref15_Session.mk a1.Snap a1.Dep a1.Opened a1.Writes a1.Cache))) else (Option.bind (ref15_Session_Low N (T_ref15_Session.mk a1.Snap a1.Dep a1.Opened a1.Writes a1.Cache)) fun x15 => (bif decide (a7.TS ≤ x15) then (some (11, (T_ref15_Session.mk a1.Snap a1.Dep a1.Opened a1.Writes a1.Cache))) else (ref15_Session_Commit_L1 N N a1 a7 a1.Cache 0))))
def ref15_Session_Close (N : Nat) (a1 : T_ref15_Session) : Option (Int × T_ref15_Session) :=
  (bif (!a1.Opened) then (some (17, (T_ref15_Session.mk a1.Snap a1.Dep a1.Opened a1.Writes a1.Cache))) else (some (0, (T_ref15_Session.mk a1.Snap a1.Dep false ([] : List T_api_Ver) a1.Cache))))
def ref15_Session_Look (N : Nat) (a1 : T_ref15_Session) (a7 : ByteArray) : Option (T_api_Ver × Int) :=
  (bif (!a1.Opened) then (some ((T_api_Ver.mk ByteArray.empty ByteArray.empty false 0 0 0), 0)) else (Option.bind (ref15_has N a1.Writes a7) fun x15 => (bif x15.2 then (some ((T_api_Ver.mk x15.1.Key x15.1.Val x15.1.Gone x15.1.TS x15.1.DC x15.1.Tx), 1)) else (Option.bind (ref15_has N a1.Cache a7) fun x21 => (bif x21.2 then (some ((T_api_Ver.mk x21.1.Key x21.1.Val x21.1.Gone x21.1.TS x21.1.DC x21.1.Tx), 2)) else (some ((T_api_Ver.mk ByteArray.empty ByteArray.empty false 0 0 0), 0)))))))
def ref04_SameVers_L1 (N : Nat) : Nat → (List T_api_Ver) → (List T_api_Ver) → Int → Option (Bool)
  | 0, _, _, _ => none
  | fuel1 + 1, a1, a4, y63 => (bif decide (y63 < ((a1).length : Int)) then (Option.bind (idx a1 y63) fun x68 => (Option.bind (idx a4 y63) fun x71 => (bif (!(cEq (flat [(1, [.string (x68.Key)]), (1, [.string (x68.Val)]), (1, [.bool (x68.Gone)]), (1, [.int .u64 (x68.TS)]), (1, [.int .i64 (x68.DC)]), (1, [.int .i64 (x68.Tx)])]) (flat [(1, [.string (x71.Key)]), (1, [.string (x71.Val)]), (1, [.bool (x71.Gone)]), (1, [.int .u64 (x71.TS)]), (1, [.int .i64 (x71.DC)]), (1, [.int .i64 (x71.Tx)])]))) then (some false) else ((ref04_SameVers_L1 N fuel1) a1 a4 (IntKind.i64.wrap (y63 + 1)))))) else (some true))
def ref04_SameVers (N : Nat) (a1 : (List T_api_Ver)) (a4 : (List T_api_Ver)) : Option (Bool) :=
  (bif (((a1).length : Int) != ((a4).length : Int)) then (some false) else (ref04_SameVers_L1 N N a1 a4 0))
end
end Go.Cf.M
namespace Go.Cf.M
open Go Go.Cf
set_option linter.unusedVariables false
noncomputable section
def law15_SessionPlays_k2 (N : Nat) (rec1 : (List T_law15_Op) → Int → Int → Bool → (List T_api_Ver) → (List T_api_Ver) → Int → Int → Bool → (Mp ByteArray T_api_Ver) → (Mp ByteArray T_api_Ver) → Int → Option (Bool)) (a1 : (List T_law15_Op)) (y89 : Int) (x96 : T_law15_Op) (y100 : Int) (y101 : Int) (y102 : Bool) (y103 : (List T_api_Ver)) (y106 : (List T_api_Ver)) (y109 : Int) (y110 : Int) (y111 : Bool) (y115 : (Mp ByteArray T_api_Ver)) (y119 : (Mp ByteArray T_api_Ver)) : Option (Bool) :=
  (Option.bind (session_Session_Look N (T_session_Session.mk y109 y110 y111 y115 y119) x96.Key) fun x121 => (Option.bind (ref15_Session_Look N (T_ref15_Session.mk y100 y101 y102 y103 y106) x96.Key) fun x124 => (Option.bind (bif (!(cEq (flat [(1, [.string (x121.1.Key)]), (1, [.string (x121.1.Val)]), (1, [.bool (x121.1.Gone)]), (1, [.int .u64 (x121.1.TS)]), (1, [.int .i64 (x121.1.DC)]), (1, [.int .i64 (x121.1.Tx)])]) (flat [(1, [.string (x124.1.Key)]), (1, [.string (x124.1.Val)]), (1, [.bool (x124.1.Gone)]), (1, [.int .u64 (x124.1.TS)]), (1, [.int .i64 (x124.1.DC)]), (1, [.int .i64 (x124.1.Tx)])]))) then (some true) else (bif (x121.2 != x124.2) then (some true) else (Option.bind (session_Session_Open N (T_session_Session.mk y109 y110 y111 y115 y119)) fun x131 => (bif (!(x131 == y102)) then (some true) else (Option.bind (session_Session_Snap N (T_session_Session.mk y109 y110 y111 y115 y119)) fun x133 => (bif (x133 != y100) then (some true) else (Option.bind (session_Session_Low N (T_session_Session.mk y109 y110 y111 y115 y119)) fun x135 => (Option.bind (ref15_Session_Low N (T_ref15_Session.mk y100 y101 y102 y103 y106)) fun x136 => (bif (x135 != x136) then (some true) else (Option.bind (session_Session_Writes N (T_session_Session.mk y109 y110 y111 y115 y119)) fun x138 => (Option.bind (ref04_SameVers N x138 y103) fun x141 => (some (!x141))))))))))))) fun v128 => (bif v128 then (some false) else (rec1 a1 y100 y101 y102 y103 y106 y109 y110 y111 y115 y119 (IntKind.i64.wrap (y89 + 1)))))))
def law15_SessionPlays_L1 (N : Nat) : Nat → (List T_law15_Op) → Int → Int → Bool → (List T_api_Ver) → (List T_api_Ver) → Int → Int → Bool → (Mp ByteArray T_api_Ver) → (Mp ByteArray T_api_Ver) → Int → Option (Bool)
  | 0, _, _, _, _, _, _, _, _, _, _, _, _ => none
  | fuel1 + 1, a1, y69, y70, y71, y72, y75, y78, y79, y80, y84, y88, y89 => (Option.bind (bif decide (y89 < ((a1).length : Int)) then (some (decide (y89 < 120))) else (some false)) fun v93 => (bif v93 then (Option.bind (idx a1 y89) fun x96 => (bif (x96.Kind == 0) then (Option.bind (session_Session_Begin N (T_session_Session.mk y78 y79 y80 y84 y88) x96.T) fun x146 => (Option.bind (ref15_Session_Begin N (T_ref15_Session.mk y69 y70 y71 y72 y75) x96.T) fun x154 => (Option.bind (bif (x146.1 != x154.1) then (some true) else (some (x146.2.1 != x154.2.1))) fun v161 => (bif v161 then (some false) else (law15_SessionPlays_k2 N (law15_SessionPlays_L1 N fuel1) a1 y89 x96 x154.2.2.Snap x154.2.2.Dep x154.2.2.Opened x154.2.2.Writes x154.2.2.Cache x146.2.2.snap x146.2.2.dep x146.2.2.open_ x146.2.2.writes x146.2.2.cache))))) else (bif (x96.Kind == 1) then (Option.bind (session_Session_Write N (T_session_Session.mk y78 y79 y80 y84 y88) x96.Key x96.Val x96.Gone) fun x165 => (Option.bind (ref15_Session_Write N (T_ref15_Session.mk y69 y70 y71 y72 y75) x96.Key x96.Val x96.Gone) fun x172 => (bif (x165.1 != x172.1) then (some false) else (law15_SessionPlays_k2 N (law15_SessionPlays_L1 N fuel1) a1 y89 x96 x172.2.Snap x172.2.Dep x172.2.Opened x172.2.Writes x172.2.Cache x165.2.snap x165.2.dep x165.2.open_ x165.2.writes x165.2.cache)))) else (bif (x96.Kind == 2) then (Option.bind (session_Session_Commit N (T_session_Session.mk y78 y79 y80 y84 y88) (T_api_Mark.mk x96.Mark.TS x96.Mark.DC x96.Mark.Tx)) fun x180 => (Option.bind (ref15_Session_Commit N (T_ref15_Session.mk y69 y70 y71 y72 y75) (T_api_Mark.mk x96.Mark.TS x96.Mark.DC x96.Mark.Tx)) fun x187 => (bif (x180.1 != x187.1) then (some false) else (law15_SessionPlays_k2 N (law15_SessionPlays_L1 N fuel1) a1 y89 x96 x187.2.Snap x187.2.Dep x187.2.Opened x187.2.Writes x187.2.Cache x180.2.snap x180.2.dep x180.2.open_ x180.2.writes x180.2.cache)))) else (bif (x96.Kind == 3) then (Option.bind (session_Session_Close N (T_session_Session.mk y78 y79 y80 y84 y88)) fun x195 => (Option.bind (ref15_Session_Close N (T_ref15_Session.mk y69 y70 y71 y72 y75)) fun x202 => (bif (x195.1 != x202.1) then (some false) else (law15_SessionPlays_k2 N (law15_SessionPlays_L1 N fuel1) a1 y89 x96 x202.2.Snap x202.2.Dep x202.2.Opened x202.2.Writes x202.2.Cache x195.2.snap x195.2.dep x195.2.open_ x195.2.writes x195.2.cache)))) else (law15_SessionPlays_k2 N (law15_SessionPlays_L1 N fuel1) a1 y89 x96 y69 y70 y71 y72 y75 y78 y79 y80 y84 y88)))))) else (Option.bind (law15_awake N ) fun x209 => (some x209))))
def law15_SessionPlays (N : Nat) (a1 : (List T_law15_Op)) : Option (Bool) :=
  (Option.bind (session_New N ) fun x6 => (law15_SessionPlays_L1 N N a1 0 0 false ([] : List T_api_Ver) ([] : List T_api_Ver) x6.snap x6.dep x6.open_ x6.writes x6.cache 0))
end
end Go.Cf.M
