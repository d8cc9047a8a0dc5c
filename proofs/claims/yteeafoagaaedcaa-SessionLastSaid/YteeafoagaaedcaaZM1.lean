/- What the functions compute, as Lean functions (none: a panic, an empty purse, or a size that is not followed). Printed by a program of ours out of the translation. -/
import Derived.Test.YteeafoagaaedcaaZK2
namespace Go.Cf.M
open Go Go.Cf
set_option linter.unusedVariables false
noncomputable section
def session_New (N : Nat)  : Option (T_session_Session) :=
  (some (T_session_Session.mk 0 0 false none (some [])))
def session_Session_Begin_L1 (N : Nat) : Nat → T_session_Session → Int → (Mp ByteArray T_api_Ver) → (List ByteArray) → Option (Int × Int × T_session_Session)
  | 0, _, _, _, _ => none
  | fuel1 + 1, a1, a9, y73, y75 => (bif (cands y73 y75).isEmpty then (some ((if a9 > a1.snap then a9 else a1.snap), 0, (T_session_Session.mk (if a9 > a1.snap then a9 else a1.snap) a1.dep true (some []) y73))) else allAgree (cands y73 y75) fun x77 => (bif decide (x77.2.TS ≤ (if a9 > a1.snap then a9 else a1.snap)) then ((session_Session_Begin_L1 N fuel1) a1 a9 (mDel y73 x77.1) (kRem y75 x77.1)) else ((session_Session_Begin_L1 N fuel1) a1 a9 y73 (kRem y75 x77.1))))
def session_Session_Begin (N : Nat) (a1 : T_session_Session) (a9 : Int) : Option (Int × Int × T_session_Session) :=
  (bif a1.open_ then (some (0, 17, (T_session_Session.mk a1.snap a1.dep a1.open_ a1.writes a1.cache))) else (session_Session_Begin_L1 N N a1 a9 a1.cache (mKeys a1.cache)))
def session_Session_Write (N : Nat) (a1 : T_session_Session) (a9 : ByteArray) (a10 : ByteArray) (a11 : Bool) : Option (Int × T_session_Session) :=
  (bif (!a1.open_) then (some (17, (T_session_Session.mk a1.snap a1.dep a1.open_ a1.writes a1.cache))) else (Option.bind (bif decide (((a9).size : Int) > 16) then (some true) else (some (decide (((a10).size : Int) > 64)))) fun v21 => (bif v21 then (some (6, (T_session_Session.mk a1.snap a1.dep a1.open_ a1.writes a1.cache))) else (Option.bind (bif (sEq a9 (ByteArray.mk #[])) then (some true) else (bif a11 then (some (!sEq a10 (ByteArray.mk #[]))) else (some false))) fun v26 => (bif v26 then (some (1, (T_session_Session.mk a1.snap a1.dep a1.open_ a1.writes a1.cache))) else (Option.bind (mgt a1.writes a9 (T_api_Ver.mk ByteArray.empty ByteArray.empty false 0 0 0)) fun x30 => (Option.bind (bif (!x30.2) then (some (decide ((mLen a1.writes : Int) ≥ 8))) else (some false)) fun v34 => (bif v34 then (some (9, (T_session_Session.mk a1.snap a1.dep a1.open_ a1.writes a1.cache))) else (Option.bind (mPut a1.writes a9 (T_api_Ver.mk a9 a10 a11 0 0 0)) fun x37 => (some (0, (T_session_Session.mk a1.snap a1.dep a1.open_ x37 a1.cache))))))))))))
end
end Go.Cf.M
namespace Go.Cf.M
open Go Go.Cf
set_option linter.unusedVariables false
noncomputable section
def maps_Keys_map_string_api_Ver_string_api_Ver_ (N : Nat) (a1 : (Mp ByteArray T_api_Ver)) : Option Unit := some ()
def session_Session_Writes_L1 (N : Nat) : Nat → T_session_Session → (List ByteArray) → (List T_api_Ver) → Int → Option ((List T_api_Ver))
  | 0, _, _, _, _ => none
  | fuel1 + 1, a1, x18, y71, y74 => (bif decide (y74 < ((x18).length : Int)) then (Option.bind (idx x18 y74) fun x79 => (Option.bind (mgt a1.writes x79 (T_api_Ver.mk ByteArray.empty ByteArray.empty false 0 0 0)) fun x82 => (Option.bind (apd y71 [(T_api_Ver.mk x82.1.Key x82.1.Val x82.1.Gone x82.1.TS x82.1.DC x82.1.Tx)]) fun x84 => ((session_Session_Writes_L1 N fuel1) a1 x18 x84 (IntKind.i64.wrap (y74 + 1)))))) else (some y71))
def session_Session_Writes (N : Nat) (a1 : T_session_Session) : Option ((List T_api_Ver)) :=
  (bif (!a1.open_) then (some ([] : List T_api_Ver)) else (Option.bind (maps_Keys_map_string_api_Ver_string_api_Ver_ N a1.writes) fun x16 => (Option.bind (srtK a1.writes) fun x18 => (session_Session_Writes_L1 N N a1 x18 ([] : List T_api_Ver) 0))))
def law15_awake (N : Nat)  : Option (Bool) :=
  (Option.bind (session_New N ) fun x3 => (Option.bind (session_Session_Begin N (T_session_Session.mk x3.snap x3.dep x3.open_ x3.writes x3.cache) 5) fun x14 => (Option.bind (bif (x14.1 == 5) then (bif (x14.2.1 == 0) then (Option.bind (session_Session_Write N (T_session_Session.mk x14.2.2.snap x14.2.2.dep x14.2.2.open_ x14.2.2.writes x14.2.2.cache) (ByteArray.mk #[97]) (ByteArray.mk #[120]) false) fun x24 => (bif (x24.1 == 0) then (Option.bind (session_Session_Writes N (T_session_Session.mk x24.2.snap x24.2.dep x24.2.open_ x24.2.writes x24.2.cache)) fun x31 => (some (((x31).length : Int) == 1))) else (some false))) else (some false)) else (some false)) fun v23 => (some v23))))
end
end Go.Cf.M
namespace Go.Cf.M
open Go Go.Cf
set_option linter.unusedVariables false
noncomputable section
def law15_SessionLast_k2 (N : Nat) (rec1 : (List T_law15_Op) → Int → Int → Bool → (Mp ByteArray T_api_Ver) → (Mp ByteArray T_api_Ver) → (List ByteArray) → (Mp ByteArray T_api_Ver) → Int → Option (Bool)) (a1 : (List T_law15_Op)) (y99 : Int) (y104 : Int) (y105 : Int) (y106 : Bool) (y110 : (Mp ByteArray T_api_Ver)) (y114 : (Mp ByteArray T_api_Ver)) (y115 : (List ByteArray)) (y120 : (Mp ByteArray T_api_Ver)) : Option (Bool) :=
  (rec1 a1 y104 y105 y106 y110 y114 y115 y120 (IntKind.i64.wrap (y99 + 1)))
def law15_SessionLast_k4 (N : Nat) (rec1 : (List T_law15_Op) → Int → Int → Bool → (Mp ByteArray T_api_Ver) → (Mp ByteArray T_api_Ver) → (List ByteArray) → (Mp ByteArray T_api_Ver) → Int → Option (Bool)) (a1 : (List T_law15_Op)) (y98 : (Mp ByteArray T_api_Ver)) (y99 : Int) (x122 : T_law15_Op) (x127 : (Int × T_session_Session)) (y143 : (List ByteArray)) : Option (Bool) :=
  (Option.bind (mPut y98 x122.Key (T_api_Ver.mk x122.Key x122.Val x122.Gone 0 0 0)) fun x146 => (law15_SessionLast_k2 N rec1 a1 y99 x127.2.snap x127.2.dep x127.2.open_ x127.2.writes x127.2.cache y143 x146))
def law15_SessionLast_k3 (N : Nat) (rec1 : (List T_law15_Op) → Int → Int → Bool → (Mp ByteArray T_api_Ver) → (Mp ByteArray T_api_Ver) → (List ByteArray) → (Mp ByteArray T_api_Ver) → Int → Option (Bool)) (a1 : (List T_law15_Op)) (y93 : (List ByteArray)) (y98 : (Mp ByteArray T_api_Ver)) (y99 : Int) (x122 : T_law15_Op) (x127 : (Int × T_session_Session)) (x135 : (T_api_Ver × Bool)) (y138 : Int) : Option (Bool) :=
  (bif (x127.1 != y138) then (some false) else (bif (x127.1 == 0) then (bif (!x135.2) then (Option.bind (apd y93 [x122.Key]) fun x151 => (law15_SessionLast_k4 N rec1 a1 y98 y99 x122 x127 x151)) else (law15_SessionLast_k4 N rec1 a1 y98 y99 x122 x127 y93)) else (law15_SessionLast_k2 N rec1 a1 y99 x127.2.snap x127.2.dep x127.2.open_ x127.2.writes x127.2.cache y93 y98)))
def law15_SessionLast_L5 (N : Nat) : Nat → (List ByteArray) → (Mp ByteArray T_api_Ver) → ((List T_api_Ver)) → Int → Option (Bool)
  | 0, _, _, _, _ => none
  | fuel5 + 1, y93, y98, x164, y219 => (bif decide (y219 < ((x164).length : Int)) then (Option.bind (idx x164 y219) fun x224 => (Option.bind (Option.bind (mgt y98 x224.Key (T_api_Ver.mk ByteArray.empty ByteArray.empty false 0 0 0)) fun x231 => (bif (!(cEq (flat [(1, [.string (x224.Key)]), (1, [.string (x224.Val)]), (1, [.bool (x224.Gone)]), (1, [.int .u64 (x224.TS)]), (1, [.int .i64 (x224.DC)]), (1, [.int .i64 (x224.Tx)])]) (flat [(1, [.string (x231.1.Key)]), (1, [.string (x231.1.Val)]), (1, [.bool (x231.1.Gone)]), (1, [.int .u64 (x231.1.TS)]), (1, [.int .i64 (x231.1.DC)]), (1, [.int .i64 (x231.1.Tx)])]))) then (some true) else (bif decide (y219 > 0) then (Option.bind (idx x164 (IntKind.i64.wrap (y219 - 1))) fun x232 => (some (!sLt x232.Key x224.Key))) else (some false)))) fun v230 => (bif v230 then (some false) else ((law15_SessionLast_L5 N fuel5) y93 y98 x164 (IntKind.i64.wrap (y219 + 1)))))) else (Option.bind (Option.bind (law15_awake N ) fun x239 => (bif x239 then (some (((x164).length : Int) == ((y93).length : Int))) else (some false))) fun v238 => (some v238)))
def law15_SessionLast_L1 (N : Nat) : Nat → (List T_law15_Op) → Int → Int → Bool → (Mp ByteArray T_api_Ver) → (Mp ByteArray T_api_Ver) → (List ByteArray) → (Mp ByteArray T_api_Ver) → Int → Option (Bool)
  | 0, _, _, _, _, _, _, _, _, _ => none
  | fuel1 + 1, a1, y82, y83, y84, y88, y92, y93, y98, y99 => (Option.bind (bif decide (y99 < ((a1).length : Int)) then (some (decide (y99 < 60))) else (some false)) fun v103 => (bif v103 then (Option.bind (idx a1 y99) fun x122 => (Option.bind (session_Session_Write N (T_session_Session.mk y82 y83 y84 y88 y92) x122.Key x122.Val x122.Gone) fun x127 => (Option.bind (mgt y98 x122.Key (T_api_Ver.mk ByteArray.empty ByteArray.empty false 0 0 0)) fun x135 => (Option.bind (bif decide (((x122.Key).size : Int) > 16) then (some true) else (some (decide (((x122.Val).size : Int) > 64)))) fun v156 => (bif v156 then (law15_SessionLast_k3 N (law15_SessionLast_L1 N fuel1) a1 y93 y98 y99 x122 x127 x135 6) else (Option.bind (bif (sEq x122.Key (ByteArray.mk #[])) then (some true) else (bif x122.Gone then (some (!sEq x122.Val (ByteArray.mk #[]))) else (some false))) fun v159 => (bif v159 then (law15_SessionLast_k3 N (law15_SessionLast_L1 N fuel1) a1 y93 y98 y99 x122 x127 x135 1) else (Option.bind (bif (!x135.2) then (some (((y93).length : Int) == 8)) else (some false)) fun v162 => (bif v162 then (law15_SessionLast_k3 N (law15_SessionLast_L1 N fuel1) a1 y93 y98 y99 x122 x127 x135 9) else (law15_SessionLast_k3 N (law15_SessionLast_L1 N fuel1) a1 y93 y98 y99 x122 x127 x135 0)))))))))) else (Option.bind (session_Session_Writes N (T_session_Session.mk y82 y83 y84 y88 y92)) fun x164 => (law15_SessionLast_L5 N N y93 y98 x164 0))))
def law15_SessionLast (N : Nat) (a1 : (List T_law15_Op)) : Option (Bool) :=
  (Option.bind (session_New N ) fun x6 => (Option.bind (session_Session_Begin N (T_session_Session.mk x6.snap x6.dep x6.open_ x6.writes x6.cache) 0) fun x18 => (bif (x18.2.1 != 0) then (some false) else (law15_SessionLast_L1 N N a1 x18.2.2.snap x18.2.2.dep x18.2.2.open_ x18.2.2.writes x18.2.2.cache ([] : List ByteArray) (some []) 0))))
end
end Go.Cf.M
