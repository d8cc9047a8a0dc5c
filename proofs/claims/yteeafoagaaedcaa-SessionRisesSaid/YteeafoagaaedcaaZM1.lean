/- What the functions compute, as Lean functions (none: a panic, an empty purse, or a size that is not followed). Printed by a program of ours out of the translation. -/
import Derived.Test.YteeafoagaaedcaaZK2
namespace Go.Cf.M
open Go Go.Cf
set_option linter.unusedVariables false
noncomputable section
def session_Session_Snap (N : Nat) (a1 : T_session_Session) : Option (Int) :=
  (some a1.snap)
def session_Session_Low (N : Nat) (a1 : T_session_Session) : Option (Int) :=
  (some (if a1.dep > a1.snap then a1.dep else a1.snap))
def session_Session_Open (N : Nat) (a1 : T_session_Session) : Option (Bool) :=
  (some a1.open_)
def session_New (N : Nat)  : Option (T_session_Session) :=
  (some (T_session_Session.mk 0 0 false none (some [])))
def session_Session_Close (N : Nat) (a1 : T_session_Session) : Option (Int × T_session_Session) :=
  (bif (!a1.open_) then (some (17, (T_session_Session.mk a1.snap a1.dep a1.open_ a1.writes a1.cache))) else (some (0, (T_session_Session.mk a1.snap a1.dep false none a1.cache))))
def session_Session_Begin_L1 (N : Nat) : Nat → T_session_Session → Int → (Mp ByteArray T_api_Ver) → (List ByteArray) → Option (Int × Int × T_session_Session)
  | 0, _, _, _, _ => none
  | fuel1 + 1, a1, a9, y73, y75 => (bif (cands y73 y75).isEmpty then (some ((if a9 > a1.snap then a9 else a1.snap), 0, (T_session_Session.mk (if a9 > a1.snap then a9 else a1.snap) a1.dep true (some []) y73))) else allAgree (cands y73 y75) fun x77 => (bif decide (x77.2.TS ≤ (if a9 > a1.snap then a9 else a1.snap)) then ((session_Session_Begin_L1 N fuel1) a1 a9 (mDel y73 x77.1) (kRem y75 x77.1)) else ((session_Session_Begin_L1 N fuel1) a1 a9 y73 (kRem y75 x77.1))))
def session_Session_Begin (N : Nat) (a1 : T_session_Session) (a9 : Int) : Option (Int × Int × T_session_Session) :=
  (bif a1.open_ then (some (0, 17, (T_session_Session.mk a1.snap a1.dep a1.open_ a1.writes a1.cache))) else (session_Session_Begin_L1 N N a1 a9 a1.cache (mKeys a1.cache)))
def session_Session_Write (N : Nat) (a1 : T_session_Session) (a9 : ByteArray) (a10 : ByteArray) (a11 : Bool) : Option (Int × T_session_Session) :=
  (bif (!a1.open_) then (some (17, (T_session_Session.mk a1.snap a1.dep a1.open_ a1.writes a1.cache))) else (Option.bind (bif decide (((a9).size : Int) > 16) then (some true) else (some (decide (((a10).size : Int) > 64)))) fun v21 => (bif v21 then (some (6, (T_session_Session.mk a1.snap a1.dep a1.open_ a1.writes a1.cache))) else (Option.bind (bif (sEq a9 (ByteArray.mk #[])) then (some true) else (bif a11 then (some (!sEq a10 (ByteArray.mk #[]))) else (some false))) fun v26 => (bif v26 then (some (1, (T_session_Session.mk a1.snap a1.dep a1.open_ a1.writes a1.cache))) else (Option.bind (mgt a1.writes a9 (T_api_Ver.mk ByteArray.empty ByteArray.empty false 0 0 0)) fun x30 => (Option.bind (bif (!x30.2) then (some (decide ((mLen a1.writes : Int) ≥ 8))) else (some false)) fun v34 => (bif v34 then (some (9, (T_session_Session.mk a1.snap a1.dep a1.open_ a1.writes a1.cache))) else (Option.bind (mPut a1.writes a9 (T_api_Ver.mk a9 a10 a11 0 0 0)) fun x37 => (some (0, (T_session_Session.mk a1.snap a1.dep a1.open_ x37 a1.cache))))))))))))
def session_Session_Commit_L1 (N : Nat) : Nat → T_session_Session → T_api_Mark → (Mp ByteArray T_api_Ver) → (List ByteArray) → Option (Int × T_session_Session)
  | 0, _, _, _, _ => none
  | fuel1 + 1, a1, a9, y76, y78 => (bif (cands a1.writes y78).isEmpty then (some (0, (T_session_Session.mk a1.snap a9.TS false none y76))) else allAgree (cands a1.writes y78) fun x80 => (Option.bind (mPut y76 x80.1 (T_api_Ver.mk x80.2.Key x80.2.Val x80.2.Gone a9.TS a9.DC a9.Tx)) fun x91 => ((session_Session_Commit_L1 N fuel1) a1 a9 x91 (kRem y78 x80.1))))
def session_Session_Commit (N : Nat) (a1 : T_session_Session) (a9 : T_api_Mark) : Option (Int × T_session_Session) :=
  (bif (!a1.open_) then (some (17, (T_session_Session.mk a1.snap a1.dep a1.open_ a1.writes a1.cache))) else (Option.bind (session_Session_Low N (T_session_Session.mk a1.snap a1.dep a1.open_ a1.writes a1.cache)) fun x19 => (bif decide (a9.TS ≤ x19) then (some (11, (T_session_Session.mk a1.snap a1.dep a1.open_ a1.writes a1.cache))) else (session_Session_Commit_L1 N N a1 a9 a1.cache (mKeys a1.writes)))))
end
end Go.Cf.M
namespace Go.Cf.M
open Go Go.Cf
set_option linter.unusedVariables false
noncomputable section
def maps_Keys_map_string_api_Ver_string_api_Ver_ (N : Nat) (a1 : (Mp ByteArray T_api_Ver)) : Option Unit := some ()
def session_Session_Writes_L1 (N : Nat) : Nat → T_session_Session → (List ByteArray) → (List T_api_Ver) → Int → Option ((List T_api_Ver))
  | 0, _, _, _, _ => none
  | fuel1 + 1, a1, x18, y71, y74 => (bif decide (y74 < ((x18).length : Int)) then (Option.bind (idx x18 y74) fun x79 => (Option.bind (mgt a1.writes x79 (T_api_Ver.mk ByteArray.empty ByteArray.empty false 0 0 0)) fun x82 => (Option.bind (apd y71 [(T_api_Ver.mk x82.1.Key x82.1.Val x82.1.Gone x82.1.TS x82.1.DC x82.1.Tx)]) fun x84 => ((session_Session_Writes_L1 N fuel1) a1 x18 x84 (IntKind.i64.wrap (y74 + 1)))))) else (some y71))
def session_Session_Writes (N : Nat) (a1 : T_session_Session) : Option ((List T_api_Ver)) :=
  (bif (!a1.open_) then (some ([] : List T_api_Ver)) else (Option.bind (maps_Keys_map_string_api_Ver_string_api_Ver_ N a1.writes) fun x16 => (Option.bind (srtK a1.writes) fun x18 => (session_Session_Writes_L1 N N a1 x18 ([] : List T_api_Ver) 0))))
def law15_awake (N : Nat)  : Option (Bool) :=
  (Option.bind (session_New N ) fun x3 => (Option.bind (session_Session_Begin N (T_session_Session.mk x3.snap x3.dep x3.open_ x3.writes x3.cache) 5) fun x14 => (Option.bind (bif (x14.1 == 5) then (bif (x14.2.1 == 0) then (Option.bind (session_Session_Write N (T_session_Session.mk x14.2.2.snap x14.2.2.dep x14.2.2.open_ x14.2.2.writes x14.2.2.cache) (ByteArray.mk #[97]) (ByteArray.mk #[120]) false) fun x24 => (bif (x24.1 == 0) then (Option.bind (session_Session_Writes N (T_session_Session.mk x24.2.snap x24.2.dep x24.2.open_ x24.2.writes x24.2.cache)) fun x31 => (some (((x31).length : Int) == 1))) else (some false))) else (some false)) else (some false)) fun v23 => (some v23))))
def law15_do_k1 (N : Nat) (y13 : Int) (y14 : Int) (y15 : Bool) (y19 : (Mp ByteArray T_api_Ver)) (y23 : (Mp ByteArray T_api_Ver)) (y24 : Int) : Option (Int × T_session_Session) :=
  (some (y24, (T_session_Session.mk y13 y14 y15 y19 y23)))
def law15_do (N : Nat) (a1 : T_session_Session) (a9 : T_law15_Op) : Option (Int × T_session_Session) :=
  (bif (a9.Kind == 0) then (Option.bind (session_Session_Begin N (T_session_Session.mk a1.snap a1.dep a1.open_ a1.writes a1.cache) a9.T) fun x28 => (law15_do_k1 N x28.2.2.snap x28.2.2.dep x28.2.2.open_ x28.2.2.writes x28.2.2.cache x28.2.1)) else (bif (a9.Kind == 1) then (Option.bind (session_Session_Write N (T_session_Session.mk a1.snap a1.dep a1.open_ a1.writes a1.cache) a9.Key a9.Val a9.Gone) fun x36 => (law15_do_k1 N x36.2.snap x36.2.dep x36.2.open_ x36.2.writes x36.2.cache x36.1)) else (bif (a9.Kind == 2) then (Option.bind (session_Session_Commit N (T_session_Session.mk a1.snap a1.dep a1.open_ a1.writes a1.cache) (T_api_Mark.mk a9.Mark.TS a9.Mark.DC a9.Mark.Tx)) fun x44 => (law15_do_k1 N x44.2.snap x44.2.dep x44.2.open_ x44.2.writes x44.2.cache x44.1)) else (bif (a9.Kind == 3) then (Option.bind (session_Session_Close N (T_session_Session.mk a1.snap a1.dep a1.open_ a1.writes a1.cache)) fun x52 => (law15_do_k1 N x52.2.snap x52.2.dep x52.2.open_ x52.2.writes x52.2.cache x52.1)) else (law15_do_k1 N a1.snap a1.dep a1.open_ a1.writes a1.cache 0)))))
end
end Go.Cf.M
namespace Go.Cf.M
open Go Go.Cf
set_option linter.unusedVariables false
noncomputable section
def law15_SessionRises_L1 (N : Nat) : Nat → (List T_law15_Op) → Int → Int → Bool → (Mp ByteArray T_api_Ver) → (Mp ByteArray T_api_Ver) → Int → Option (Bool)
  | 0, _, _, _, _, _, _, _ => none
  | fuel1 + 1, a1, y68, y69, y70, y74, y78, y79 => (Option.bind (bif decide (y79 < ((a1).length : Int)) then (some (decide (y79 < 120))) else (some false)) fun v83 => (bif v83 then (Option.bind (session_Session_Snap N (T_session_Session.mk y68 y69 y70 y74 y78)) fun x86 => (Option.bind (session_Session_Low N (T_session_Session.mk y68 y69 y70 y74 y78)) fun x87 => (Option.bind (idx a1 y79) fun x89 => (Option.bind (law15_do N (T_session_Session.mk y68 y69 y70 y74 y78) (T_law15_Op.mk x89.Kind x89.Key x89.Val x89.Gone x89.T (T_api_Mark.mk x89.Mark.TS x89.Mark.DC x89.Mark.Tx))) fun x92 => (Option.bind (Option.bind (session_Session_Snap N (T_session_Session.mk x92.2.snap x92.2.dep x92.2.open_ x92.2.writes x92.2.cache)) fun x103 => (bif decide (x103 < x86) then (some true) else (Option.bind (session_Session_Low N (T_session_Session.mk x92.2.snap x92.2.dep x92.2.open_ x92.2.writes x92.2.cache)) fun x104 => (bif decide (x104 < x87) then (some true) else (Option.bind (session_Session_Low N (T_session_Session.mk x92.2.snap x92.2.dep x92.2.open_ x92.2.writes x92.2.cache)) fun x105 => (Option.bind (session_Session_Snap N (T_session_Session.mk x92.2.snap x92.2.dep x92.2.open_ x92.2.writes x92.2.cache)) fun x106 => (some (decide (x105 < x106))))))))) fun v102 => (bif v102 then (some false) else (Option.bind (Option.bind (idx a1 y79) fun x111 => (bif (x111.Kind == 2) then (bif (x92.1 == 0) then (Option.bind (idx a1 y79) fun x116 => (bif decide (x116.Mark.TS ≤ x87) then (some true) else (Option.bind (session_Session_Low N (T_session_Session.mk x92.2.snap x92.2.dep x92.2.open_ x92.2.writes x92.2.cache)) fun x120 => (Option.bind (idx a1 y79) fun x121 => (bif (x120 != x121.Mark.TS) then (some true) else (Option.bind (session_Session_Open N (T_session_Session.mk x92.2.snap x92.2.dep x92.2.open_ x92.2.writes x92.2.cache)) fun x125 => (some x125))))))) else (some false)) else (some false))) fun v110 => (bif v110 then (some false) else ((law15_SessionRises_L1 N fuel1) a1 x92.2.snap x92.2.dep x92.2.open_ x92.2.writes x92.2.cache (IntKind.i64.wrap (y79 + 1))))))))))) else (Option.bind (law15_awake N ) fun x128 => (some x128))))
def law15_SessionRises (N : Nat) (a1 : (List T_law15_Op)) : Option (Bool) :=
  (Option.bind (session_New N ) fun x6 => (law15_SessionRises_L1 N N a1 x6.snap x6.dep x6.open_ x6.writes x6.cache 0))
end
end Go.Cf.M
