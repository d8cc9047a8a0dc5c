/- What the functions compute, as Lean functions (none: a panic, an empty purse, or a size that is not followed). Printed by a program of ours out of the translation. -/
import Derived.Test.YteeafoagaaedcaaZK2
namespace Go.Cf.M
open Go Go.Cf
set_option linter.unusedVariables false
noncomputable section
def session_New (N : Nat)  : Option (T_session_Session) :=
  (some (T_session_Session.mk 0 0 false none (some [])))
def session_Session_Begin_L1 (N : Nat) : Nat → T_session_Session → Int → (Mp ByteArray T_api_Ver) → (List ByteArray) → Option (Int × Int × T_session_Session)
  | 0, _, _, _, _ => none
  | fuel1 + 1, a1, a9, y73, y75 => (bif (cands y73 y75).isEmpty then (some ((if a9 > a1.snap then a9 else a1.snap), 0, (T_session_Session.mk (if a9 > a1.snap then a9 else a1.snap) a1.dep true (some []) y73))) else allAgree (cands y73 y75) fun x77 => (bif decide (x77.2.TS ≤ (if a9 > a1.snap then a9 else a1.snap)) then ((session_Session_Begin_L1 N fuel1) a1 a9 (mDel y73 x77.1) (kRem y75 x77.1)) else ((session_Session_Begin_L1 N fuel1) a1 a9 y73 (kRem y75 x77.1))))
def session_Session_Begin (N : Nat) (a1 : T_session_Session) (a9 : Int) : Option (Int × Int × T_session_Session) :=
  (bif a1.open_ then (some (0, 17, (T_session_Session.mk a1.snap a1.dep a1.open_ a1.writes a1.cache))) else (session_Session_Begin_L1 N N a1 a9 a1.cache (mKeys a1.cache)))
def session_Session_Write (N : Nat) (a1 : T_session_Session) (a9 : ByteArray) (a10 : ByteArray) (a11 : Bool) : Option (Int × T_session_Session) :=
  (bif (!a1.open_) then (some (17, (T_session_Session.mk a1.snap a1.dep a1.open_ a1.writes a1.cache))) else (Option.bind (bif decide (((a9).size : Int) > 16) then (some true) else (some (decide (((a10).size : Int) > 64)))) fun v21 => (bif v21 then (some (6, (T_session_Session.mk a1.snap a1.dep a1.open_ a1.writes a1.cache))) else (Option.bind (bif (sEq a9 (ByteArray.mk #[])) then (some true) else (bif a11 then (some (!sEq a10 (ByteArray.mk #[]))) else (some false))) fun v26 => (bif v26 then (some (1, (T_session_Session.mk a1.snap a1.dep a1.open_ a1.writes a1.cache))) else (Option.bind (mgt a1.writes a9 (T_api_Ver.mk ByteArray.empty ByteArray.empty false 0 0 0)) fun x30 => (Option.bind (bif (!x30.2) then (some (decide ((mLen a1.writes : Int) ≥ 8))) else (some false)) fun v34 => (bif v34 then (some (9, (T_session_Session.mk a1.snap a1.dep a1.open_ a1.writes a1.cache))) else (Option.bind (mPut a1.writes a9 (T_api_Ver.mk a9 a10 a11 0 0 0)) fun x37 => (some (0, (T_session_Session.mk a1.snap a1.dep a1.open_ x37 a1.cache))))))))))))
end
end Go.Cf.M
namespace Go.Cf.M
open Go Go.Cf
set_option linter.unusedVariables false
noncomputable section
def maps_Keys_map_string_api_Ver_string_api_Ver_ (N : Nat) (a1 : (Mp ByteArray T_api_Ver)) : Option Unit := some ()
def session_Session_Writes_L1 (N : Nat) : Nat → T_session_Session → (List ByteArray) → (List T_api_Ver) → Int → Option ((List T_api_Ver))
  | 0, _, _, _, _ => none
  | fuel1 + 1, a1, x18, y71, y74 => (bif decide (y74 < ((x18).length : Int)) then (Option.bind (idx x18 y74) fun x79 => (Option.bind (mgt a1.writes x79 (T_api_Ver.mk ByteArray.empty ByteArray.empty false 0 0 0)) fun x82 => (Option.bind (apd y71 [(T_api_Ver.mk x82.1.Key x82.1.Val x82.1.Gone x82.1.TS x82.1.DC x82.1.Tx)]) fun x84 => ((session_Session_Writes_L1 N fuel1) a1 x18 x84 (IntKind.i64.wrap (y74 + 1)))))) else (some y71))
def session_Session_Writes (N : Nat) (a1 : T_session_Session) : Option ((List T_api_Ver)) :=
  (bif (!a1.open_) then (some ([] : List T_api_Ver)) else (Option.bind (maps_Keys_map_string_api_Ver_string_api_Ver_ N a1.writes) fun x16 => (Option.bind (srtK a1.writes) fun x18 => (session_Session_Writes_L1 N N a1 x18 ([] : List T_api_Ver) 0))))
def law15_awake (N : Nat)  : Option (Bool) :=
  (Option.bind (session_New N ) fun x3 => (Option.bind (session_Session_Begin N (T_session_Session.mk x3.snap x3.dep x3.open_ x3.writes x3.cache) 5) fun x14 => (Option.bind (bif (x14.1 == 5) then (bif (x14.2.1 == 0) then (Option.bind (session_Session_Write N (T_session_Session.mk x14.2.2.snap x14.2.2.dep x14.2.2.open_ x14.2.2.writes x14.2.2.cache) (ByteArray.mk #[97]) (ByteArray.mk #[120]) false) fun x24 => (bif (x24.1 == 0) then (Option.bind (session_Session_Writes N (T_session_Session.mk x24.2.snap x24.2.dep x24.2.open_ x24.2.writes x24.2.cache)) fun x31 => (some (((x31).length : Int) == 1))) else (some false))) else (some false)) else (some false)) fun v23 => (some v23))))
end
end Go.Cf.M
namespace Go.Cf.M
open Go Go.Cf
set_option linter.unusedVariables false
noncomputable section
def session_Session_Begin_nil0 (N : Nat) (a1 : Int) : Option (Int × Int) :=
  (some (0, 1))
def session_Session_Look_nil0 (N : Nat) (a1 : ByteArray) : Option (T_api_Ver × Int) :=
  (some ((T_api_Ver.mk ByteArray.empty ByteArray.empty false 0 0 0), 0))
def session_Session_Write_nil0 (N : Nat) (a1 : ByteArray) (a2 : ByteArray) (a3 : Bool) : Option (Int) :=
  (some 1)
def session_Session_Commit_nil0 (N : Nat) (a1 : T_api_Mark) : Option (Int) :=
  (some 1)
def session_Session_Close_nil0 (N : Nat)  : Option (Int) :=
  (some 1)
def session_Session_Open_nil0 (N : Nat)  : Option (Bool) :=
  (some false)
def session_Session_Snap_nil0 (N : Nat)  : Option (Int) :=
  (some 0)
def session_Session_Low_nil0 (N : Nat)  : Option (Int) :=
  (some 0)
def session_Session_Writes_nil0 (N : Nat)  : Option ((List T_api_Ver)) :=
  (some ([] : List T_api_Ver))
def law15_SessionNone (N : Nat) (a1 : T_law15_Op) : Option (Bool) :=
  (Option.bind (session_Session_Begin_nil0 N a1.T) fun x6 => (Option.bind (session_Session_Look_nil0 N a1.Key) fun x8 => (Option.bind (Option.bind (law15_awake N ) fun x13 => (bif x13 then (bif (x6.1 == 0) then (bif (x6.2 == 1) then (Option.bind (session_Session_Write_nil0 N a1.Key a1.Val a1.Gone) fun x14 => (bif (x14 == 1) then (Option.bind (session_Session_Commit_nil0 N (T_api_Mark.mk a1.Mark.TS a1.Mark.DC a1.Mark.Tx)) fun x15 => (bif (x15 == 1) then (Option.bind (session_Session_Close_nil0 N ) fun x16 => (bif (x16 == 1) then (bif (cEq (flat [(1, [.string (x8.1.Key)]), (1, [.string (x8.1.Val)]), (1, [.bool (x8.1.Gone)]), (1, [.int .u64 (x8.1.TS)]), (1, [.int .i64 (x8.1.DC)]), (1, [.int .i64 (x8.1.Tx)])]) (flat [(1, [.string (ByteArray.empty)]), (1, [.string (ByteArray.empty)]), (1, [.bool (false)]), (1, [.int .u64 (0)]), (1, [.int .i64 (0)]), (1, [.int .i64 (0)])])) then (bif (x8.2 == 0) then (Option.bind (session_Session_Open_nil0 N ) fun x17 => (bif (!x17) then (Option.bind (session_Session_Snap_nil0 N ) fun x18 => (bif (x18 == 0) then (Option.bind (session_Session_Low_nil0 N ) fun x19 => (bif (x19 == 0) then (Option.bind (session_Session_Writes_nil0 N ) fun x20 => (some (((x20).length : Int) == 0))) else (some false))) else (some false))) else (some false))) else (some false)) else (some false)) else (some false))) else (some false))) else (some false))) else (some false)) else (some false)) else (some false))) fun v12 => (some v12))))
end
end Go.Cf.M
