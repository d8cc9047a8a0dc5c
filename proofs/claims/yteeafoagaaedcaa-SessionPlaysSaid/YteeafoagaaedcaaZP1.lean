/- Plain facts: indices, numbers, strings, maps by rising keys. -/
import Derived.Laws.BitsLemmas
import Derived.Test.YteeafoagaaedcaaZK2
import Derived.Test.YteeafoagaaedcaaZM1
namespace Go.Cf
open Go
theorem idx_get {α : Type} {l : List α} {i : Nat} (h : i < l.length) : idx l (i : Int) = some l[i] := by
  simp [idx, h]
theorem wrap_small {x : Int} (h0 : -9223372036854775808 ≤ x) (h1 : x < 9223372036854775808) : IntKind.i64.wrap x = x := by
  rw [IntKind.wrap_i64]; omega
theorem wrap_succ {i : Nat} (h : i < 4611686018427387904) : IntKind.i64.wrap ((i : Int) + 1) = ((i + 1 : Nat) : Int) := by rw [wrap_small] <;> omega
abbrev nil : ByteArray := ByteArray.mk #[]
theorem sEq_refl (a : ByteArray) : sEq a a = true := by simp [sEq]
theorem sEq_iff {a b : ByteArray} : sEq a b = true ↔ a.toList = b.toList := by simp [sEq]
theorem drop_cons {α : Type} {l : List α} {i : Nat} (h : i < l.length) : l.drop i = l[i] :: l.drop (i + 1) := List.drop_eq_getElem_cons h
theorem apd_ok {α : Type} {l m : List α} (h : l.length + m.length < 2147483648) : apd l m = some (l ++ m) := by simp [apd, h]
theorem sEq_dec (a b : ByteArray) : sEq a b = decide (a = b) := by
  cases h : sEq a b with
  | true => exact (decide_eq_true (ba_toList_inj (sEq_iff.1 h))).symm
  | false =>
    refine (decide_eq_false fun e => ?_).symm
    subst e; rw [sEq_refl] at h; cases h
theorem ba_beq (a b : ByteArray) : (a == b) = true ↔ a = b := by
  cases a with | mk a => cases b with | mk b => show (a == b) = true ↔ _; simp
section
variable {K V : Type} [DecidableEq K] [KO K]
omit [KO K] in
theorem mgt_some {l : List (K × V)} {k : K} {v z : V} (h : lFind l k = some v) : mgt (some l) k z = some (v, true) := by simp [mgt, mGet, h]
omit [KO K] in
theorem mgt_none {l : List (K × V)} {k : K} {z : V} (h : lFind l k = none) : mgt (some l) k z = some (z, false) := by simp [mgt, mGet, h]
theorem lPut_length {l : List (K × V)} (h : Srt l) (k : K) (v : V) : (lPut l k v).length = if (lFind l k).isSome then l.length else l.length + 1 := by
  induction l with
  | nil => rfl
  | cons x l ih =>
    obtain ⟨h1, h2⟩ := List.pairwise_cons.1 h
    simp only [lPut]
    split
    · rename_i e; simp [lFind, e]
    · rename_i e
      split
      · rename_i q
        have : lFind (x :: l) k = none := lFind_none.2 fun p hp => by
          rcases List.mem_cons.1 hp with rfl | hp
          · exact e
          · intro e2
            have h3 := h1 p hp
            rw [e2] at h3
            have := KO.tr _ _ _ q h3
            rw [KO.irr] at this; cases this
        rw [this]; rfl
      · have he : lFind (x :: l) k = lFind l k := by
          unfold lFind
          rw [List.find?_cons_of_neg (by simpa using e)]
        rw [he, List.length_cons, ih h2]
        split <;> simp
def inL {K : Type} [DecidableEq K] (left : List K) (k : K) : Bool := decide (k ∈ left)
omit [KO K] in
theorem inL_iff {left : List K} {k : K} : inL left k = true ↔ k ∈ left := by simp [inL]
omit [KO K] in
theorem kRem_lt {left : List K} {k : K} (h : k ∈ left) : (kRem left k).length < left.length := by
  induction left with
  | nil => cases h
  | cons x l ih =>
    simp only [kRem, List.filter_cons] at ih ⊢
    by_cases e : x = k
    · subst e
      simp only [ne_eq, not_true_eq_false, decide_false, Bool.false_eq_true, if_false, List.length_cons]
      exact Nat.lt_succ_of_le (List.length_filter_le _ _)
    · simp only [ne_eq, e, not_false_eq_true, decide_true, if_true, List.length_cons]
      have : k ∈ l := by
        rcases List.mem_cons.1 h with h | h
        · exact absurd h.symm e
        · exact h
      exact Nat.succ_lt_succ (ih this)
omit [KO K] in
theorem mem_kRem {left : List K} {k k' : K} : k' ∈ kRem left k ↔ k' ∈ left ∧ k' ≠ k := by simp [kRem]
omit [KO K] in
theorem inL_kRem {left : List K} {k k' : K} : inL (kRem left k) k' = (inL left k' && decide (k' ≠ k)) := by
  unfold inL
  by_cases h1 : k' ∈ left <;> by_cases h2 : k' = k <;> simp [mem_kRem, h1, h2]
theorem Srt.inj {l : List (K × V)} (h : Srt l) {x y : K × V} (hx : x ∈ l) (hy : y ∈ l) (e : x.1 = y.1) : x = y := by
  obtain ⟨i, hi⟩ := List.mem_iff_getElem?.1 hx
  obtain ⟨j, hj⟩ := List.mem_iff_getElem?.1 hy
  have h1 := lFind_at h.nodup hi
  have h2 := lFind_at h.nodup hj
  rw [e, h2] at h1
  exact Prod.ext e (Option.some.inj h1).symm
theorem Srt.find {l : List (K × V)} (h : Srt l) {x : K × V} (hx : x ∈ l) : lFind l x.1 = some x.2 := by
  obtain ⟨i, hi⟩ := List.mem_iff_getElem?.1 hx
  exact lFind_at h.nodup hi
end
end Go.Cf
namespace Go.Cf
open Go
abbrev SM := List (ByteArray × T_api_Ver)
def verOf (k v : ByteArray) (g : Bool) : T_api_Ver := ⟨k, v, g, 0, 0, 0⟩
def zVer : T_api_Ver := ⟨ByteArray.empty, ByteArray.empty, false, 0, 0, 0⟩
theorem cEq_ver (a b : T_api_Ver) : (cEq (flat [(1, [.string (a.Key)]), (1, [.string (a.Val)]), (1, [.bool (a.Gone)]), (1, [.int .u64 (a.TS)]), (1, [.int .i64 (a.DC)]), (1, [.int .i64 (a.Tx)])]) (flat [(1, [.string (b.Key)]), (1, [.string (b.Val)]), (1, [.bool (b.Gone)]), (1, [.int .u64 (b.TS)]), (1, [.int .i64 (b.DC)]), (1, [.int .i64 (b.Tx)])])) = true ↔ a = b := by
  cases a; cases b
  simp [flat, cEq, vEq, ba_beq]
/-- the session's error for a write -/
def wrErr (wl : SM) (k v : ByteArray) (g : Bool) : Int :=
  if k.size > 16 ∨ v.size > 64 then 6 else if k = nil ∨ (g = true ∧ v ≠ nil) then 1 else if lFind wl k = none ∧ 8 ≤ wl.length then 9 else 0
theorem write_eq (N : Nat) (sn dp : Int) (wl : SM) (ca : Mp ByteArray T_api_Ver) (k v : ByteArray) (g : Bool) :
    M.session_Session_Write N ⟨sn, dp, true, some wl, ca⟩ k v g = some (wrErr wl k v g, ⟨sn, dp, true, some (if wrErr wl k v g = 0 then lPut wl k (verOf k v g) else wl), ca⟩) := by
  unfold M.session_Session_Write wrErr
  simp only [Bool.not_true, cond_false]
  by_cases h1 : k.size > 16
  · have e1 : decide (((k.size : Nat) : Int) > 16) = true := decide_eq_true (by omega)
    simp [e1, h1]
  · have e1 : decide (((k.size : Nat) : Int) > 16) = false := decide_eq_false (by omega)
    by_cases h2 : v.size > 64
    · have e2 : decide (((v.size : Nat) : Int) > 64) = true := decide_eq_true (by omega)
      simp only [e1, e2, cond_false, Option.bind_some, cond_true]
      simp [h2]
    · have e2 : decide (((v.size : Nat) : Int) > 64) = false := decide_eq_false (by omega)
      simp only [e1, e2, cond_false, Option.bind_some, sEq_dec]
      rw [if_neg (by omega)]
      by_cases h3 : k = nil
      · simp [h3]
      · simp only [h3, decide_false, cond_false, false_or]
        by_cases h4 : g = true ∧ v ≠ nil
        · obtain ⟨rfl, h4⟩ := h4
          simp [h4]
        · have e4 : (bif g then some (!decide (v = nil)) else some false) = some false := by
            cases g
            · rfl
            · have : v = nil := by
                by_cases h : v = nil
                · exact h
                · exact absurd ⟨rfl, h⟩ h4
              simp [this]
          rw [e4, if_neg h4]
          simp only [Option.bind_some, cond_false]
          cases h5 : lFind wl k with
          | none =>
            rw [mgt_none h5]
            by_cases h6 : 8 ≤ wl.length
            · have e6 : decide ((mLen (some wl) : Int) ≥ 8) = true := decide_eq_true (by simp [mLen]; omega)
              simp only [Option.bind_some, Bool.not_false, cond_true, e6]
              simp [h6]
            · have e6 : decide ((mLen (some wl) : Int) ≥ 8) = false := decide_eq_false (by simp [mLen]; omega)
              simp only [Option.bind_some, Bool.not_false, cond_true, e6, cond_false]
              simp [h6, mPut, verOf]
          | some u =>
            rw [mgt_some h5]
            simp [mPut, verOf]
theorem wr_key {wl : SM} {k v : ByteArray} {g : Bool} (h : wrErr wl k v g = 0) : k.size ≤ 16 ∧ k ≠ nil ∧ (lFind wl k = none → wl.length < 8) := by
  unfold wrErr at h
  split at h
  · cases h
  · rename_i h1
    split at h
    · cases h
    · rename_i h2
      split at h
      · cases h
      · rename_i h3
        exact ⟨by omega, fun e => h2 (.inl e), fun e => by
          rcases Nat.lt_or_ge wl.length 8 with q | q
          · exact q
          · exact absurd ⟨e, q⟩ h3⟩
/-- what a session writes: keys rising, at most eight, each under its own key, which is short -/
structure WOk (wl : SM) : Prop where
  srt : Srt wl
  len : wl.length ≤ 8
  key : ∀ p ∈ wl, p.2.Key = p.1 ∧ p.1.size ≤ 16
theorem WOk.nil : WOk [] := ⟨List.Pairwise.nil, Nat.zero_le _, fun _ h => by cases h⟩
theorem WOk.put {wl : SM} (h : WOk wl) {k v : ByteArray} {g : Bool} (he : wrErr wl k v g = 0) : WOk (lPut wl k (verOf k v g)) := by
  obtain ⟨h1, -, h3⟩ := wr_key he
  refine ⟨lPut_srt h.srt _ _, ?_, fun p hp => ?_⟩
  · rw [lPut_length h.srt]
    split
    · exact h.len
    · rename_i q
      have := h3 (by simpa using q)
      omega
  · rcases lPut_mem hp with rfl | hp
    · exact ⟨rfl, h1⟩
    · exact h.key p hp
theorem writes_L1 (N : Nat) (sn dp : Int) (wl : SM) (ca : Mp ByteArray T_api_Ver) (h : WOk wl) : ∀ (fuel i : Nat), wl.length - i < fuel → i ≤ wl.length →
    M.session_Session_Writes_L1 N fuel ⟨sn, dp, true, some wl, ca⟩ (wl.map (·.1)) ((wl.map (·.2)).take i) (i : Int) = some (wl.map (·.2)) := fun fuel => by
  induction fuel with
  | zero => intro i hf; omega
  | succ fuel ih =>
    intro i hf hi
    have hl := h.len
    unfold M.session_Session_Writes_L1
    rcases Nat.lt_or_ge i wl.length with hlt | hge
    · have e1 : decide ((i : Int) < ((wl.map (·.1)).length : Int)) = true := decide_eq_true (by rw [List.length_map]; omega)
      have hm : wl[i] ∈ wl := List.getElem_mem hlt
      rw [e1, cond_true, idx_get (by simpa using hlt)]
      simp only [Option.bind_some, List.getElem_map]
      rw [mgt_some (h.srt.find hm)]
      simp only [Option.bind_some]
      rw [apd_ok (by simp; omega)]
      simp only [Option.bind_some]
      rw [wrap_succ (by omega)]
      have := ih (i + 1) (by omega) (by omega)
      rw [← this]
      congr 1
      rw [List.take_add_one]
      simp [hlt]
    · have e1 : decide ((i : Int) < ((wl.map (·.1)).length : Int)) = false := decide_eq_false (by rw [List.length_map]; omega)
      rw [e1, cond_false, List.take_of_length_le (by simpa using hge)]
theorem srtK_eq {wl : SM} (h : WOk wl) : srtK (some wl) = some (wl.map (·.1)) := by
  have hl := h.len
  unfold srtK
  rw [if_pos]
  · rfl
  · simp only [Bool.and_eq_true, List.all_eq_true, decide_eq_true_eq]
    refine ⟨fun k hk => ?_, by simp [mKeys]; omega⟩
    obtain ⟨p, hp, rfl⟩ := List.mem_map.1 (show k ∈ wl.map (·.1) from hk)
    have := (h.key p hp).2
    unfold maxLen; omega
theorem writes_eq (N : Nat) (hN : 10 ≤ N) (sn dp : Int) (wl : SM) (ca : Mp ByteArray T_api_Ver) (h : WOk wl) : M.session_Session_Writes N ⟨sn, dp, true, some wl, ca⟩ = some (wl.map (·.2)) := by
  have hl := h.len
  unfold M.session_Session_Writes
  simp only [Bool.not_true, cond_false, M.maps_Keys_map_string_api_Ver_string_api_Ver_, Option.bind_some, srtK_eq h]
  exact writes_L1 N sn dp wl ca h N 0 (by omega) (Nat.zero_le _)
/-- what is left of the cache -/
def kpt (sn : Int) (cl : SM) : SM := cl.filter fun p => !decide (p.2.TS ≤ sn)
theorem begin_L1 (N : Nat) (s : T_session_Session) (t : Int) (cl : SM) (hs : Srt cl) : ∀ (fuel : Nat) (left : List ByteArray), left.length < fuel →
    M.session_Session_Begin_L1 N fuel s t (some (cl.filter fun p => inL left p.1 || !decide (p.2.TS ≤ (if t > s.snap then t else s.snap)))) left = some ((if t > s.snap then t else s.snap), 0, ⟨if t > s.snap then t else s.snap, s.dep, true, some [], some (kpt (if t > s.snap then t else s.snap) cl)⟩) := fun fuel => by
  induction fuel with
  | zero => intro left h; omega
  | succ fuel ih =>
    intro left hf
    unfold M.session_Session_Begin_L1
    generalize hsn : (if t > s.snap then t else s.snap) = sn at *
    cases hc : cands (some (cl.filter fun p => inL left p.1 || !decide (p.2.TS ≤ sn))) left with
    | nil =>
      simp only [List.isEmpty_nil, cond_true, Option.some.injEq, Prod.mk.injEq, T_session_Session.mk.injEq, true_and]
      refine List.filter_congr fun p hp => ?_
      by_cases hpl : p.1 ∈ left
      · have hpl' := inL_iff.2 hpl
        have : p ∈ cands (some (cl.filter fun p => inL left p.1 || !decide (p.2.TS ≤ sn))) left := by simp [cands, hp, hpl, hpl']
        rw [hc] at this; cases this
      · have hpl' : inL left p.1 = false := by simpa [inL] using hpl
        simp [hpl']
    | cons x0 xs =>
      rw [← hc]
      have hne : (cands (some (cl.filter fun p => inL left p.1 || !decide (p.2.TS ≤ sn))) left).isEmpty = false := by rw [hc]; rfl
      rw [hne, cond_false]
      refine allAgree_mk (by rw [hc]; simp) fun x hx => ?_
      simp only [cands, Option.getD_some, List.mem_filter, decide_eq_true_eq] at hx
      obtain ⟨⟨hxc, -⟩, hxl⟩ := hx
      have hlt := kRem_lt hxl
      by_cases hts : x.2.TS ≤ sn
      · rw [decide_eq_true hts, cond_true, ← ih (kRem left x.1) (by omega)]
        congr 1
        simp only [mDel, Option.map_some, lDel, List.filter_filter]
        congr 1
        refine List.filter_congr fun p hp => ?_
        by_cases e : p.1 = x.1
        · have : p = x := hs.inj hp hxc e
          subst this
          simp [inL_kRem, hts]
        · simp [inL_kRem, e]
      · rw [decide_eq_false hts, cond_false, ← ih (kRem left x.1) (by omega)]
        congr 2
        refine List.filter_congr fun p hp => ?_
        by_cases e : p.1 = x.1
        · have : p = x := hs.inj hp hxc e
          subst this
          simp [hts]
        · simp [inL_kRem, e]
theorem begin_eq (N : Nat) (sn dp : Int) (wm : Mp ByteArray T_api_Ver) (cl : SM) (hs : Srt cl) (hN : cl.length < N) (t : Int) :
    M.session_Session_Begin N ⟨sn, dp, false, wm, some cl⟩ t = some ((if t > sn then t else sn), 0, ⟨if t > sn then t else sn, dp, true, some [], some (kpt (if t > sn then t else sn) cl)⟩) := by
  unfold M.session_Session_Begin
  rw [cond_false]
  have := begin_L1 N ⟨sn, dp, false, wm, some cl⟩ t cl hs N (mKeys (some cl)) (by simpa [mKeys] using hN)
  rw [← this]
  show M.session_Session_Begin_L1 N N _ t (some cl) _ = _
  congr 2
  refine (List.filter_eq_self.2 fun p hp => ?_).symm
  have : p.1 ∈ mKeys (some cl) := List.mem_map.2 ⟨p, hp, rfl⟩
  simp [inL, this]
theorem begin_no (N : Nat) (s : T_session_Session) (h : s.open_ = true) (t : Int) : M.session_Session_Begin N s t = some (0, 17, s) := by
  unfold M.session_Session_Begin
  rw [h, cond_true, ← h]
theorem awake15 (N : Nat) (hN : 10 ≤ N) : M.law15_awake N = some true := by
  unfold M.law15_awake
  simp only [M.session_New, Option.bind_some]
  rw [begin_eq N 0 0 none [] List.Pairwise.nil (by simp; omega)]
  simp only [Option.bind_some]
  have hw : wrErr [] (ByteArray.mk #[97]) (ByteArray.mk #[120]) false = 0 := by
    unfold wrErr
    rw [if_neg (by decide), if_neg (by decide), if_neg (by decide)]
  have h1 : ((if (5 : Int) > 0 then (5 : Int) else 0) == 5) = true := rfl
  rw [h1]
  simp only [cond_true, beq_self_eq_true]
  rw [show (kpt _ [] : SM) = [] from rfl, write_eq, hw]
  simp only [Option.bind_some, beq_self_eq_true, cond_true, if_true]
  rw [writes_eq N hN _ _ _ _ (WOk.nil.put hw)]
  rfl
end Go.Cf
namespace Go.Cf
open Go
def mkv (m : T_api_Mark) (v : T_api_Ver) : T_api_Ver := ⟨v.Key, v.Val, v.Gone, m.TS, m.DC, m.Tx⟩
def cmt (m : T_api_Mark) : SM → SM → SM
  | [], cl => cl
  | p :: wl, cl => cmt m wl (lPut cl p.1 (mkv m p.2))
theorem cmt_srt (m : T_api_Mark) : ∀ (wl cl : SM), Srt cl → Srt (cmt m wl cl)
  | [], _, h => h
  | _ :: wl, _, h => cmt_srt m wl _ (lPut_srt h _ _)
theorem lFind_cons {p : ByteArray × T_api_Ver} {l : SM} {k : ByteArray} : lFind (p :: l) k = if p.1 = k then some p.2 else lFind l k := by
  by_cases h : p.1 = k
  · simp [lFind, h]
  · simp [lFind, h]
theorem cmt_find (m : T_api_Mark) : ∀ (wl cl : SM), Srt wl → ∀ k, lFind (cmt m wl cl) k = match lFind wl k with | some v => some (mkv m v) | none => lFind cl k
  | [], _, _, _ => rfl
  | p :: wl, cl, h, k => by
    obtain ⟨h1, h2⟩ := List.pairwise_cons.1 h
    show lFind (cmt m wl _) k = _
    rw [cmt_find m wl _ h2 k, lPut_find, lFind_cons]
    by_cases e : p.1 = k
    · subst e
      have : lFind wl p.1 = none := lFind_none.2 fun q hq e2 => by
        have h3 := h1 q hq
        rw [e2, KO.irr] at h3; cases h3
      rw [this]; simp
    · rw [if_neg e, if_neg (Ne.symm e)]
theorem lPut_le {l : SM} (h : Srt l) (k : ByteArray) (v : T_api_Ver) : (lPut l k v).length ≤ l.length + 1 := by
  rw [lPut_length h]; split <;> omega
theorem cmt_len (m : T_api_Mark) : ∀ (wl cl : SM), Srt cl → (cmt m wl cl).length ≤ cl.length + wl.length
  | [], _, _ => Nat.le_refl _
  | p :: wl, cl, h => by
    have h1 := cmt_len m wl _ (lPut_srt h p.1 (mkv m p.2))
    have h2 := lPut_le h p.1 (mkv m p.2)
    simp only [cmt, List.length_cons]
    omega
theorem commit_L1 (N : Nat) (s : T_session_Session) (m : T_api_Mark) (wl cl : SM) (hw : s.writes = some wl) (hs : Srt wl) : ∀ (fuel : Nat) (yl : SM) (left : List ByteArray), left.length < fuel → Srt yl → Srt cl →
    (∀ k, lFind yl k = if inL left k = true then lFind cl k else match lFind wl k with | some v => some (mkv m v) | none => lFind cl k) →
    M.session_Session_Commit_L1 N fuel s m (some yl) left = some (0, ⟨s.snap, m.TS, false, none, some (cmt m wl cl)⟩) := fun fuel => by
  induction fuel with
  | zero => intro yl left h; omega
  | succ fuel ih =>
    intro yl left hf hy hc hfind
    unfold M.session_Session_Commit_L1
    rw [hw]
    cases hcd : cands (some wl) left with
    | nil =>
      simp only [List.isEmpty_nil, cond_true, Option.some.injEq, Prod.mk.injEq, T_session_Session.mk.injEq, true_and]
      refine hy.ext (cmt_srt m wl cl hc) fun k => ?_
      rw [hfind, cmt_find m wl cl hs]
      by_cases hk : inL left k = true
      · rw [if_pos hk]
        have : lFind wl k = none := lFind_none.2 fun p hp e => by
          have : p ∈ cands (some wl) left := by
            simp only [cands, Option.getD_some, List.mem_filter, decide_eq_true_eq]
            exact ⟨hp, by rw [e]; exact inL_iff.1 hk⟩
          rw [hcd] at this; cases this
        rw [this]
      · rw [if_neg hk]
    | cons x0 xs =>
      rw [← hcd]
      have hne : (cands (some wl) left).isEmpty = false := by rw [hcd]; rfl
      rw [hne, cond_false]
      refine allAgree_mk (by rw [hcd]; simp) fun x hx => ?_
      simp only [cands, Option.getD_some, List.mem_filter, decide_eq_true_eq] at hx
      obtain ⟨hxw, hxl⟩ := hx
      have hlt := kRem_lt hxl
      simp only [mPut, Option.map_some, Option.bind_some]
      refine ih _ (kRem left x.1) (by omega) (lPut_srt hy _ _) hc fun k => ?_
      rw [lPut_find, inL_kRem]
      by_cases e : k = x.1
      · subst e
        rw [hs.find hxw]
        simp [mkv]
      · rw [if_neg e, hfind k]
        simp [e]
theorem low_eq (N : Nat) (s : T_session_Session) : M.session_Session_Low N s = some (if s.dep > s.snap then s.dep else s.snap) := rfl
def low (s : T_session_Session) : Int := if s.dep > s.snap then s.dep else s.snap
theorem commit_eq (N : Nat) (sn dp : Int) (wl cl : SM) (hs : Srt wl) (hc : Srt cl) (hN : wl.length < N) (m : T_api_Mark) :
    M.session_Session_Commit N ⟨sn, dp, true, some wl, some cl⟩ m = some (if m.TS ≤ low ⟨sn, dp, true, some wl, some cl⟩ then (11, ⟨sn, dp, true, some wl, some cl⟩) else (0, ⟨sn, m.TS, false, none, some (cmt m wl cl)⟩)) := by
  unfold M.session_Session_Commit
  simp only [Bool.not_true, cond_false, low_eq, Option.bind_some]
  by_cases h : m.TS ≤ low ⟨sn, dp, true, some wl, some cl⟩
  · rw [if_pos h, decide_eq_true (by exact h), cond_true]
  · rw [if_neg h, decide_eq_false (by exact h), cond_false]
    refine commit_L1 N _ m wl cl rfl hs N cl (mKeys (some wl)) (by simpa [mKeys] using hN) hc hc fun k => ?_
    by_cases hk : inL (mKeys (some wl)) k = true
    · rw [if_pos hk]
    · rw [if_neg hk]
      have : lFind wl k = none := lFind_none.2 fun p hp e => hk (inL_iff.2 (List.mem_map.2 ⟨p, hp, e⟩))
      rw [this]
/-- a session between two calls -/
structure SOk (n : Nat) (s : T_session_Session) (wl cl : SM) : Prop where
  wr : s.open_ = true → s.writes = some wl ∧ WOk wl
  ca : s.cache = some cl
  srt : Srt cl
  len : cl.length ≤ 8 * n
  key : ∀ p ∈ cl, p.2.Key = p.1
  no : s.open_ = false → wl = []
/-- what a call comes to: the error, the session, its writes, its cache -/
inductive Step (s : T_session_Session) (wl cl : SM) (o : T_law15_Op) : Int → T_session_Session → SM → SM → Prop
  | same (e : Int) (he : e ≠ 0 ∨ ¬ (o.Kind = 0 ∨ o.Kind = 1 ∨ o.Kind = 2 ∨ o.Kind = 3)) : Step s wl cl o e s wl cl
  | begin_ (h : o.Kind = 0) (ho : s.open_ = false) : Step s wl cl o 0 ⟨if o.T > s.snap then o.T else s.snap, s.dep, true, some [], some (kpt (if o.T > s.snap then o.T else s.snap) cl)⟩ [] (kpt (if o.T > s.snap then o.T else s.snap) cl)
  | write (h : o.Kind = 1) (ho : s.open_ = true) (he : wrErr wl o.Key o.Val o.Gone = 0) : Step s wl cl o 0 ⟨s.snap, s.dep, true, some (lPut wl o.Key (verOf o.Key o.Val o.Gone)), some cl⟩ (lPut wl o.Key (verOf o.Key o.Val o.Gone)) cl
  | commit (h : o.Kind = 2) (ho : s.open_ = true) (hl : ¬ o.Mark.TS ≤ low s) : Step s wl cl o 0 ⟨s.snap, o.Mark.TS, false, none, some (cmt o.Mark wl cl)⟩ [] (cmt o.Mark wl cl)
  | close (h : o.Kind = 3) (ho : s.open_ = true) : Step s wl cl o 0 ⟨s.snap, s.dep, false, none, some cl⟩ [] cl
theorem kpt_srt {sn : Int} {cl : SM} (h : Srt cl) : Srt (kpt sn cl) := List.Pairwise.sublist List.filter_sublist h
theorem Step.ok {n : Nat} {s s' : T_session_Session} {wl cl wl' cl' : SM} {o : T_law15_Op} {e : Int} (h : SOk n s wl cl) (hs : Step s wl cl o e s' wl' cl') : SOk (n + 1) s' wl' cl' := by
  cases hs with
  | same he => exact ⟨h.wr, h.ca, h.srt, by have := h.len; omega, h.key, h.no⟩
  | begin_ h0 ho =>
    refine ⟨fun _ => ⟨rfl, WOk.nil⟩, rfl, kpt_srt h.srt, ?_, fun p hp => h.key p (List.mem_filter.1 hp).1, fun _ => rfl⟩
    have := List.length_filter_le (fun p : ByteArray × T_api_Ver => !decide (p.2.TS ≤ (if o.T > s.snap then o.T else s.snap))) cl
    have := h.len
    unfold kpt; omega
  | write h1 ho he => exact ⟨fun _ => ⟨rfl, (h.wr ho).2.put he⟩, rfl, h.srt, by have := h.len; omega, h.key, fun q => by cases q⟩
  | commit h2 ho hl =>
    obtain ⟨hw, hok⟩ := h.wr ho
    refine ⟨fun q => (by cases q), rfl, cmt_srt _ _ _ h.srt, ?_, fun p hp => ?_, fun _ => rfl⟩
    · have h1 := cmt_len o.Mark wl cl h.srt
      have := h.len; have := hok.len
      omega
    · have hf := (cmt_srt o.Mark wl cl h.srt).find hp
      rw [cmt_find o.Mark wl cl hok.srt] at hf
      cases hq : lFind wl p.1 with
      | none =>
        rw [hq] at hf
        exact h.key _ (lFind_some hf)
      | some v =>
        rw [hq] at hf
        simp only [Option.some.injEq] at hf
        rw [← hf]
        exact (hok.key _ (lFind_some hq)).1
  | close h3 ho => exact ⟨fun q => (by cases q), rfl, h.srt, by have := h.len; omega, h.key, fun _ => rfl⟩
theorem SOk.new : SOk 0 ⟨0, 0, false, none, some []⟩ [] [] := ⟨fun h => (by cases h), rfl, List.Pairwise.nil, Nat.le_refl _, fun _ h => (by cases h), fun _ => rfl⟩
def lookR (op : Bool) (wl cl : SM) (key : ByteArray) : T_api_Ver × Int :=
  if op = true then match lFind wl key with
    | some v => (v, 1)
    | none => match lFind cl key with
      | some v => (v, 2)
      | none => (zVer, 0)
  else (zVer, 0)
theorem look_eq (N : Nat) {n : Nat} {s : T_session_Session} {wl cl : SM} (h : SOk n s wl cl) (key : ByteArray) : M.session_Session_Look N s key = some (lookR s.open_ wl cl key) := by
  unfold M.session_Session_Look lookR
  cases ho : s.open_ with
  | false => rfl
  | true =>
    simp only [Bool.not_true, cond_false, if_true]
    rw [(h.wr ho).1, h.ca]
    cases h1 : lFind wl key with
    | some v => rw [mgt_some h1]; rfl
    | none =>
      rw [mgt_none h1]
      simp only [Option.bind_some, cond_false]
      cases h2 : lFind cl key with
      | some v => rw [mgt_some h2]; rfl
      | none => rw [mgt_none h2]; rfl
end Go.Cf
namespace Go.Cf
open Go
abbrev vs (l : SM) : List T_api_Ver := l.map (·.2)
/-- each under its own key -/
def Own (l : SM) : Prop := ∀ p ∈ l, p.2.Key = p.1
theorem getElem_vs {l : SM} {i : Nat} (h : i < (vs l).length) : (vs l)[i] = (l[i]'(by simpa using h)).2 := by simp [vs]
theorem has_L1 (N : Nat) (l : SM) (hk : Own l) (hl : l.length < 1000000) (key : ByteArray) : ∀ (fuel i : Nat), l.length - i < fuel → i ≤ l.length →
    M.ref15_has_L1 N fuel (vs l) key (i : Int) = some (match lFind (l.drop i) key with | some v => (v, true) | none => (zVer, false)) := fun fuel => by
  induction fuel with
  | zero => intro i hf; omega
  | succ fuel ih =>
    intro i hf hi
    unfold M.ref15_has_L1
    rcases Nat.lt_or_ge i l.length with hlt | hge
    · have hlt' : i < (vs l).length := by simpa using hlt
      rw [decide_eq_true (show (i : Int) < ((vs l).length : Int) by omega), cond_true, idx_get hlt']
      simp only [Option.bind_some, getElem_vs]
      rw [hk _ (List.getElem_mem hlt), sEq_dec, drop_cons hlt, lFind_cons]
      by_cases e : (l[i]).1 = key
      · rw [decide_eq_true e, cond_true, if_pos e]
        show some (T_api_Ver.mk (l[i]).1 _ _ _ _ _, true) = some (_, true)
        rw [← hk _ (List.getElem_mem hlt)]
      · rw [decide_eq_false e, cond_false, if_neg e, wrap_succ (by omega)]
        exact ih (i + 1) (by omega) (by omega)
    · rw [decide_eq_false (show ¬ (i : Int) < ((vs l).length : Int) by simp; omega), cond_false, List.drop_eq_nil_of_le hge]
      rfl
theorem has_eq (N : Nat) (l : SM) (hk : Own l) (hl : l.length < 1000000) (hN : l.length < N) (key : ByteArray) : M.ref15_has N (vs l) key = some (match lFind l key with | some v => (v, true) | none => (zVer, false)) := by
  unfold M.ref15_has
  have := has_L1 N l hk hl key N 0 (by omega) (Nat.zero_le _)
  simpa using this
/-- a put that goes on -/
theorem put_T (N : Nat) (l : SM) (hk : Own l) (v : T_api_Ver) : ∀ (fuel i : Nat) (out : List T_api_Ver), l.length - i < fuel → i ≤ l.length → l.length < 1000000 → out.length + (l.length - i) < 2000000 → (∀ p ∈ l.drop i, p.1 ≠ v.Key) →
    M.ref15_put_L1 N fuel (vs l) v out true (i : Int) = some (out ++ vs (l.drop i)) := fun fuel => by
  induction fuel with
  | zero => intro i out hf; omega
  | succ fuel ih =>
    intro i out hf hi hl ho hgt
    unfold M.ref15_put_L1
    rcases Nat.lt_or_ge i l.length with hlt | hge
    · have hlt' : i < (vs l).length := by simpa using hlt
      have hkey : (l[i]).2.Key = (l[i]).1 := hk _ (List.getElem_mem hlt)
      rw [drop_cons hlt] at hgt ⊢
      rw [decide_eq_true (show (i : Int) < ((vs l).length : Int) by omega)]
      simp only [cond_true, Bool.not_true, cond_false, Option.bind_some, M.ref15_put_k3, idx_get hlt', getElem_vs, M.ref15_put_k2]
      rw [hkey, sEq_dec, decide_eq_false (hgt _ (List.mem_cons_self ..))]
      simp only [Bool.not_false, cond_true]
      rw [apd_ok (by simp; omega)]
      simp only [Option.bind_some]
      rw [wrap_succ (by omega), ih (i + 1) _ (by omega) (by omega) hl (by simp; omega) (fun p hp => hgt p (List.mem_cons_of_mem _ hp)), ← hkey]
      simp only [List.append_assoc]
      rfl
    · rw [decide_eq_false (show ¬ (i : Int) < ((vs l).length : Int) by simp; omega), List.drop_eq_nil_of_le hge]
      simp [M.ref15_put_k4]
theorem put_L1 (N : Nat) (l : SM) (hk : Own l) (hs : Srt l) (v : T_api_Ver) : ∀ (fuel i : Nat) (out : List T_api_Ver), l.length - i < fuel → i ≤ l.length → l.length < 1000000 → out.length + (l.length - i) < 1999998 →
    M.ref15_put_L1 N fuel (vs l) v out false (i : Int) = some (out ++ vs (lPut (l.drop i) v.Key v)) := fun fuel => by
  induction fuel with
  | zero => intro i out hf; omega
  | succ fuel ih =>
    intro i out hf hi hl ho
    unfold M.ref15_put_L1
    rcases Nat.lt_or_ge i l.length with hlt | hge
    · have hlt' : i < (vs l).length := by simpa using hlt
      have hkey : (l[i]).2.Key = (l[i]).1 := hk _ (List.getElem_mem hlt)
      have hsd : Srt (l.drop i) := List.Pairwise.sublist (List.drop_sublist _ _) hs
      rw [drop_cons hlt] at hsd ⊢
      obtain ⟨hs1, hs2⟩ := List.pairwise_cons.1 hsd
      rw [decide_eq_true (show (i : Int) < ((vs l).length : Int) by omega)]
      simp only [cond_true, Bool.not_false, Option.bind_some, idx_get hlt', getElem_vs, M.ref15_put_k3, M.ref15_put_k2, lPut]
      rw [hkey]
      by_cases e : (l[i]).1 = v.Key
      · rw [if_pos e, sEq_dec v.Key, decide_eq_true e.symm, Bool.or_true, cond_true, apd_ok (by simp; omega), sEq_dec, decide_eq_true e]
        simp only [Option.bind_some, Bool.not_true, cond_false]
        rw [wrap_succ (by omega), put_T N l hk v fuel (i + 1) _ (by omega) (by omega) hl (by simp; omega) (fun p hp q => by
          have h1 := hs1 p hp
          rw [e, q, KO.irr] at h1; cases h1)]
        simp
      · rw [if_neg e, sEq_dec v.Key, decide_eq_false (Ne.symm e), Bool.or_false, sEq_dec, decide_eq_false e]
        simp only [Bool.not_false, cond_true]
        by_cases q : KO.lt v.Key (l[i]).1 = true
        · rw [if_pos q]
          have q' : sLt v.Key (l[i]).1 = true := q
          rw [q', cond_true, apd_ok (by simp; omega)]
          simp only [Option.bind_some]
          rw [apd_ok (by simp; omega)]
          simp only [Option.bind_some]
          rw [wrap_succ (by omega), put_T N l hk v fuel (i + 1) _ (by omega) (by omega) hl (by simp; omega) (fun p hp r => by
            have h1 := KO.tr _ _ _ q (hs1 p hp)
            rw [r, KO.irr] at h1; cases h1), ← hkey]
          simp only [List.append_assoc]
          rfl
        · rw [if_neg q]
          have q' : sLt v.Key (l[i]).1 = false := by
            cases h : sLt v.Key (l[i]).1
            · rfl
            · exact absurd h q
          rw [q', cond_false, apd_ok (by simp; omega)]
          simp only [Option.bind_some]
          rw [wrap_succ (by omega), ih (i + 1) _ (by omega) (by omega) hl (by simp; omega), ← hkey]
          simp only [List.append_assoc]
          rfl
    · rw [decide_eq_false (show ¬ (i : Int) < ((vs l).length : Int) by simp; omega), List.drop_eq_nil_of_le hge]
      simp only [cond_false, Bool.not_false, cond_true]
      rw [apd_ok (by simp; omega)]
      simp [M.ref15_put_k4, lPut]
theorem put_eq (N : Nat) (l : SM) (hk : Own l) (hs : Srt l) (hl : l.length < 1000000) (hN : l.length < N) (v : T_api_Ver) : M.ref15_put N (vs l) v = some (vs (lPut l v.Key v)) := by
  unfold M.ref15_put
  have := put_L1 N l hk hs v N 0 [] (by omega) (Nat.zero_le _) hl (by simp; omega)
  simpa using this
theorem Own.put {l : SM} (h : Own l) {k : ByteArray} {v : T_api_Ver} (hv : v.Key = k) : Own (lPut l k v) := fun p hp => by
  rcases lPut_mem hp with rfl | hp
  · exact hv
  · exact h p hp
theorem rlow_eq (N : Nat) (s : T_ref15_Session) : M.ref15_Session_Low N s = some (if s.Dep > s.Snap then s.Dep else s.Snap) := by
  unfold M.ref15_Session_Low
  by_cases h : s.Dep > s.Snap
  · rw [decide_eq_true h, cond_true, if_pos h]
  · rw [decide_eq_false h, cond_false, if_neg h]
theorem rbegin_L2 (N : Nat) (s : T_ref15_Session) (sn : Int) (cl : SM) (hc : s.Cache = vs cl) (hl : cl.length < 1000000) : ∀ (fuel i : Nat), cl.length - i < fuel → i ≤ cl.length →
    M.ref15_Session_Begin_L2 N fuel s sn (vs (kpt sn (cl.take i))) (i : Int) = some (sn, 0, ⟨sn, s.Dep, true, [], vs (kpt sn cl)⟩) := fun fuel => by
  induction fuel with
  | zero => intro i hf; omega
  | succ fuel ih =>
    intro i hf hi
    unfold M.ref15_Session_Begin_L2
    rw [hc]
    rcases Nat.lt_or_ge i cl.length with hlt | hge
    · have hlt' : i < (vs cl).length := by simpa using hlt
      rw [decide_eq_true (show (i : Int) < ((vs cl).length : Int) by omega)]
      simp only [cond_true, idx_get hlt', Option.bind_some, getElem_vs, M.ref15_Session_Begin_k3]
      have ht : kpt sn (cl.take (i + 1)) = kpt sn (cl.take i) ++ (if (cl[i]).2.TS > sn then [cl[i]] else []) := by
        unfold kpt
        rw [List.take_add_one, List.filter_append]
        congr 1
        rw [List.getElem?_eq_getElem hlt]
        by_cases q : (cl[i]).2.TS > sn
        · rw [if_pos q]; simp; omega
        · rw [if_neg q]; simp; omega
      have hlen : (kpt sn (cl.take i)).length ≤ i := Nat.le_trans (List.length_filter_le _ _) (by rw [List.length_take]; exact Nat.min_le_left _ _)
      rw [wrap_succ (by omega)]
      by_cases q : (cl[i]).2.TS > sn
      · rw [decide_eq_true q, cond_true, apd_ok (by simp; omega)]
        simp only [Option.bind_some]
        rw [← ih (i + 1) (by omega) (by omega), ht, if_pos q]
        simp
      · rw [decide_eq_false q, cond_false, ← ih (i + 1) (by omega) (by omega), ht, if_neg q]
        simp
    · rw [decide_eq_false (show ¬ (i : Int) < ((vs cl).length : Int) by simp; omega), cond_false, List.take_of_length_le hge]
theorem rbegin_eq (N : Nat) (sn dp : Int) (wl cl : SM) (hl : cl.length < 1000000) (hN : cl.length < N) (t : Int) : M.ref15_Session_Begin N ⟨sn, dp, false, vs wl, vs cl⟩ t = some ((if t > sn then t else sn), 0, ⟨if t > sn then t else sn, dp, true, [], vs (kpt (if t > sn then t else sn) cl)⟩) := by
  unfold M.ref15_Session_Begin
  rw [cond_false]
  have h := fun sn' => rbegin_L2 N ⟨sn, dp, false, vs wl, vs cl⟩ sn' cl rfl hl N 0 (by omega) (Nat.zero_le _)
  by_cases q : t > sn
  · rw [decide_eq_true (show t > (T_ref15_Session.mk sn dp false (vs wl) (vs cl)).Snap from q), cond_true, if_pos q]
    exact h t
  · rw [decide_eq_false (show ¬ t > (T_ref15_Session.mk sn dp false (vs wl) (vs cl)).Snap from q), cond_false, if_neg q]
    exact h sn
theorem rwrite_eq (N : Nat) (sn dp : Int) (wl cl : SM) (hw : WOk wl) (hN : 10 ≤ N) (k v : ByteArray) (g : Bool) :
    M.ref15_Session_Write N ⟨sn, dp, true, vs wl, vs cl⟩ k v g = some (wrErr wl k v g, ⟨sn, dp, true, vs (if wrErr wl k v g = 0 then lPut wl k (verOf k v g) else wl), vs cl⟩) := by
  have hlen := hw.len
  have hown : Own wl := fun p hp => (hw.key p hp).1
  unfold M.ref15_Session_Write wrErr
  simp only [Bool.not_true, cond_false]
  rw [has_eq N wl hown (by omega) (by omega), put_eq N wl hown hw.srt (by omega) (by omega)]
  by_cases h1 : k.size > 16 ∨ v.size > 64
  · have e4 : (bif decide ((k.size : Int) > 16) then some true else some (decide ((v.size : Int) > 64))) = some true := by
      by_cases q : k.size > 16
      · rw [decide_eq_true (show (k.size : Int) > 16 by omega)]; rfl
      · rw [decide_eq_false (show ¬ (k.size : Int) > 16 by omega), decide_eq_true (show (v.size : Int) > 64 by omega)]; rfl
    rw [e4, if_pos h1]
    rfl
  · have e4 : (bif decide ((k.size : Int) > 16) then some true else some (decide ((v.size : Int) > 64))) = some false := by
      rw [decide_eq_false (show ¬ (k.size : Int) > 16 by omega), decide_eq_false (show ¬ (v.size : Int) > 64 by omega)]; rfl
    rw [e4, if_neg h1]
    simp only [Option.bind_some, cond_false]
    by_cases h2 : k = nil ∨ (g = true ∧ v ≠ nil)
    · have e5 : (bif sEq k (ByteArray.mk #[]) then some true else bif g then some (!sEq v (ByteArray.mk #[])) else some false) = some true := by
        rcases h2 with h2 | ⟨h2, h2'⟩
        · rw [sEq_dec, decide_eq_true h2]; rfl
        · rw [h2, sEq_dec v, decide_eq_false h2']; cases sEq k _ <;> rfl
      rw [e5, if_pos h2]
      rfl
    · have e5 : (bif sEq k (ByteArray.mk #[]) then some true else bif g then some (!sEq v (ByteArray.mk #[])) else some false) = some false := by
        rw [sEq_dec, decide_eq_false (fun e => h2 (.inl e)), cond_false]
        cases hg : g
        · rfl
        · rw [sEq_dec, decide_eq_true (show v = ByteArray.mk #[] from by
            by_cases q : v = ByteArray.mk #[]
            · exact q
            · exact absurd (.inr ⟨hg, q⟩) h2)]
          rfl
      rw [e5, if_neg h2]
      simp only [Option.bind_some, cond_false]
      by_cases h5 : lFind wl k = none ∧ 8 ≤ wl.length
      · rw [if_pos h5, h5.1]
        have : wl.length = 8 := by omega
        simp [this]
      · rw [if_neg h5]
        cases hfd : lFind wl k with
        | none =>
          have : ¬ wl.length = 8 := fun e => h5 ⟨hfd, by omega⟩
          have e6 : (((vs wl).length : Int) == 8) = false := by
            simp only [List.length_map, beq_eq_false_iff_ne, ne_eq]
            omega
          simp only [Bool.not_false, cond_true, e6, Option.bind_some, cond_false]
          simp [verOf]
        | some u => simp [verOf]
theorem rcommit_L1 (N : Nat) (s : T_ref15_Session) (m : T_api_Mark) (wl : SM) (hw : s.Writes = vs wl) (hwo : Own wl) (hl : wl.length < 1000) : ∀ (fuel i : Nat) (cl : SM), wl.length - i < fuel → i ≤ wl.length → Own cl → Srt cl → cl.length + (wl.length - i) < 1000000 → cl.length + (wl.length - i) < N →
    M.ref15_Session_Commit_L1 N fuel s m (vs cl) (i : Int) = some (0, ⟨s.Snap, m.TS, false, [], vs (cmt m (wl.drop i) cl)⟩) := fun fuel => by
  induction fuel with
  | zero => intro i cl hf; omega
  | succ fuel ih =>
    intro i cl hf hi ho hs hb hN
    unfold M.ref15_Session_Commit_L1
    rw [hw]
    rcases Nat.lt_or_ge i wl.length with hlt | hge
    · have hlt' : i < (vs wl).length := by simpa using hlt
      rw [decide_eq_true (show (i : Int) < ((vs wl).length : Int) by omega)]
      simp only [cond_true, idx_get hlt', Option.bind_some, getElem_vs]
      rw [put_eq N cl ho hs (by omega) (by omega)]
      simp only [Option.bind_some]
      have hkey : (wl[i]).2.Key = (wl[i]).1 := hwo _ (List.getElem_mem hlt)
      have hle := lPut_le hs (wl[i]).1 (mkv m (wl[i]).2)
      rw [wrap_succ (by omega), drop_cons hlt]
      have := ih (i + 1) (lPut cl (wl[i]).1 (mkv m (wl[i]).2)) (by omega) (by omega) (ho.put hkey) (lPut_srt hs _ _) (by omega) (by omega)
      rw [show cmt m (wl[i] :: wl.drop (i + 1)) cl = cmt m (wl.drop (i + 1)) (lPut cl (wl[i]).1 (mkv m (wl[i]).2)) from rfl, ← this, ← hkey]
      rfl
    · rw [decide_eq_false (show ¬ (i : Int) < ((vs wl).length : Int) by simp; omega), cond_false, List.drop_eq_nil_of_le hge]
      rfl
theorem rcommit_eq (N : Nat) (sn dp : Int) (wl cl : SM) (hw : WOk wl) (ho : Own cl) (hs : Srt cl) (hl : cl.length < 900000) (hN : cl.length + 10 < N) (m : T_api_Mark) :
    M.ref15_Session_Commit N ⟨sn, dp, true, vs wl, vs cl⟩ m = some (if m.TS ≤ (if dp > sn then dp else sn) then (11, ⟨sn, dp, true, vs wl, vs cl⟩) else (0, ⟨sn, m.TS, false, [], vs (cmt m wl cl)⟩)) := by
  have hlen := hw.len
  unfold M.ref15_Session_Commit
  simp only [Bool.not_true, cond_false, rlow_eq, Option.bind_some]
  by_cases h : m.TS ≤ (if dp > sn then dp else sn)
  · rw [if_pos h, decide_eq_true h, cond_true]
  · rw [if_neg h, decide_eq_false h, cond_false]
    exact rcommit_L1 N ⟨sn, dp, true, vs wl, vs cl⟩ m wl rfl (fun p hp => (hw.key p hp).1) (by omega) N 0 cl (by omega) (Nat.zero_le _) ho hs (by omega) (by omega)
theorem rlook_eq (N : Nat) (sn dp : Int) (op : Bool) (wl cl : SM) (hw : Own wl) (ho : Own cl) (h1 : wl.length < 1000) (h2 : cl.length < 900000) (hN : cl.length < N) (hN2 : wl.length < N) (key : ByteArray) :
    M.ref15_Session_Look N ⟨sn, dp, op, vs wl, vs cl⟩ key = some (lookR op wl cl key) := by
  unfold M.ref15_Session_Look lookR
  cases op with
  | false => rfl
  | true =>
    simp only [Bool.not_true, cond_false, if_true]
    rw [has_eq N wl hw (by omega) hN2, has_eq N cl ho (by omega) hN]
    simp only [Option.bind_some]
    cases lFind wl key with
    | some v => rfl
    | none =>
      cases lFind cl key with
      | some v => rfl
      | none => rfl
theorem sameVers_L1 (N : Nat) (l : List T_api_Ver) (hl : l.length < 1000000) : ∀ (fuel i : Nat), l.length - i < fuel → i ≤ l.length → M.ref04_SameVers_L1 N fuel l l (i : Int) = some true := fun fuel => by
  induction fuel with
  | zero => intro i hf; omega
  | succ fuel ih =>
    intro i hf hi
    unfold M.ref04_SameVers_L1
    rcases Nat.lt_or_ge i l.length with hlt | hge
    · rw [decide_eq_true (show (i : Int) < (l.length : Int) by omega)]
      simp only [cond_true, idx_get hlt, Option.bind_some]
      rw [(cEq_ver l[i] l[i]).2 rfl]
      simp only [Bool.not_true, cond_false]
      rw [wrap_succ (by omega)]
      exact ih (i + 1) (by omega) (by omega)
    · rw [decide_eq_false (show ¬ (i : Int) < (l.length : Int) by omega), cond_false]
theorem sameVers_refl (N : Nat) (l : List T_api_Ver) (hl : l.length < 1000000) (hN : l.length < N) : M.ref04_SameVers N l l = some true := by
  unfold M.ref04_SameVers
  rw [bne_self_eq_false, cond_false]
  exact sameVers_L1 N l hl N 0 (by omega) (Nat.zero_le _)
end Go.Cf
namespace Go.Cf
open Go
section
variable (N : Nat) (hN : 1000 ≤ N)
include hN
theorem plays_k2 (rec1 : List T_law15_Op → Int → Int → Bool → List T_api_Ver → List T_api_Ver → Int → Int → Bool → Mp ByteArray T_api_Ver → Mp ByteArray T_api_Ver → Int → Option Bool)
    (l : List T_law15_Op) (i : Nat) (hi : i < 120) (o : T_law15_Op) {s : T_session_Session} {wl cl : SM} (h : SOk (i + 1) s wl cl)
    (hr : rec1 l s.snap s.dep s.open_ (vs wl) (vs cl) s.snap s.dep s.open_ s.writes s.cache ((i + 1 : Nat) : Int) = some true) :
    M.law15_SessionPlays_k2 N rec1 l (i : Int) o s.snap s.dep s.open_ (vs wl) (vs cl) s.snap s.dep s.open_ s.writes s.cache = some true := by
  have hcl := h.len
  have hwo : Own wl ∧ wl.length < 100 := by
    cases ho : s.open_ with
    | true => exact ⟨fun p hp => ((h.wr ho).2.key p hp).1, by have := (h.wr ho).2.len; omega⟩
    | false => rw [h.no ho]; exact ⟨fun p hp => (by cases hp), by simp⟩
  unfold M.law15_SessionPlays_k2
  rw [show M.session_Session_Look N ⟨s.snap, s.dep, s.open_, s.writes, s.cache⟩ o.Key = _ from look_eq N h o.Key, rlook_eq N s.snap s.dep s.open_ wl cl hwo.1 h.key (by omega) (by omega) (by omega) (by omega) o.Key]
  simp only [Option.bind_some]
  rw [(cEq_ver (lookR s.open_ wl cl o.Key).1 (lookR s.open_ wl cl o.Key).1).2 rfl]
  simp only [Bool.not_true, cond_false, bne_self_eq_false, M.session_Session_Open, M.session_Session_Snap, low_eq, rlow_eq, Option.bind_some, beq_self_eq_true]
  have hwr : M.session_Session_Writes N ⟨s.snap, s.dep, s.open_, s.writes, s.cache⟩ = some (vs wl) := by
    cases ho : s.open_ with
    | true => rw [(h.wr ho).1]; exact writes_eq N (by omega) _ _ wl _ (h.wr ho).2
    | false => rw [h.no ho]; rfl
  rw [hwr]
  simp only [Option.bind_some]
  rw [sameVers_refl N (vs wl) (by simp; omega) (by simp; omega)]
  simp only [Option.bind_some, Bool.not_true, cond_false]
  rw [wrap_succ (by omega)]
  exact hr
theorem plays_L1 (l : List T_law15_Op) : ∀ (fuel i : Nat) (s : T_session_Session) (wl cl : SM), 120 - i < fuel → i ≤ 120 → SOk i s wl cl →
    M.law15_SessionPlays_L1 N fuel l s.snap s.dep s.open_ (vs wl) (vs cl) s.snap s.dep s.open_ s.writes s.cache (i : Int) = some true := fun fuel => by
  induction fuel with
  | zero => intro i s wl cl hf; omega
  | succ fuel ih =>
    intro i s wl cl hf hi h
    unfold M.law15_SessionPlays_L1
    by_cases hc : i < l.length ∧ i < 120
    · rw [decide_eq_true (show (i : Int) < (l.length : Int) by omega), cond_true, decide_eq_true (show (i : Int) < 120 by omega)]
      simp only [Option.bind_some, cond_true]
      rw [idx_get hc.1]
      generalize l[i] = o
      simp only [Option.bind_some]
      have go : ∀ {e : Int} {s' : T_session_Session} {wl' cl' : SM}, Step s wl cl o e s' wl' cl' →
          M.law15_SessionPlays_k2 N (M.law15_SessionPlays_L1 N fuel) l (i : Int) o s'.snap s'.dep s'.open_ (vs wl') (vs cl') s'.snap s'.dep s'.open_ s'.writes s'.cache = some true := fun {e s' wl' cl'} q =>
        plays_k2 N hN _ l i hc.2 o (q.ok h) (ih (i + 1) s' wl' cl' (by omega) (by omega) (q.ok h))
      obtain ⟨hwr, hca, hsrt, hlen, hkey, hno⟩ := h
      obtain ⟨sn, dp, op, wm, cm⟩ := s
      simp only at hwr hca hno
      subst hca
      by_cases h0 : o.Kind = 0
      · rw [show (o.Kind == 0) = true by simp [h0], cond_true]
        cases op with
        | true =>
          rw [begin_no _ _ rfl]
          simp only [Option.bind_some, M.ref15_Session_Begin, cond_true, bne_self_eq_false, cond_false]
          exact go (.same 17 (.inl (by decide)))
        | false =>
          rw [begin_eq N sn dp wm cl hsrt (by omega), rbegin_eq N sn dp wl cl (by omega) (by omega)]
          simp only [Option.bind_some, bne_self_eq_false, cond_false]
          exact go (.begin_ h0 rfl)
      · rw [show (o.Kind == 0) = false by simpa using h0, cond_false]
        by_cases h1 : o.Kind = 1
        · rw [show (o.Kind == 1) = true by simp [h1], cond_true]
          cases op with
          | false =>
            simp only [M.session_Session_Write, M.ref15_Session_Write, Bool.not_false, cond_true, Option.bind_some, bne_self_eq_false, cond_false]
            exact go (.same 17 (.inl (by decide)))
          | true =>
            obtain ⟨hw, hok⟩ := hwr rfl
            subst hw
            rw [write_eq, rwrite_eq N sn dp wl cl hok (by omega)]
            simp only [Option.bind_some, bne_self_eq_false, cond_false]
            by_cases he : wrErr wl o.Key o.Val o.Gone = 0
            · rw [if_pos he]
              exact go (.write h1 rfl he)
            · rw [if_neg he]
              exact go (.same _ (.inl he))
        · rw [show (o.Kind == 1) = false by simpa using h1, cond_false]
          by_cases h2 : o.Kind = 2
          · rw [show (o.Kind == 2) = true by simp [h2], cond_true]
            cases op with
            | false =>
              simp only [M.session_Session_Commit, M.ref15_Session_Commit, Bool.not_false, cond_true, Option.bind_some, bne_self_eq_false, cond_false]
              exact go (.same 17 (.inl (by decide)))
            | true =>
              obtain ⟨hw, hok⟩ := hwr rfl
              subst hw
              have := hok.len
              rw [show T_api_Mark.mk o.Mark.TS o.Mark.DC o.Mark.Tx = o.Mark from rfl, commit_eq N sn dp wl cl hok.srt hsrt (by omega), rcommit_eq N sn dp wl cl hok hkey hsrt (by omega) (by omega)]
              by_cases hl : o.Mark.TS ≤ low ⟨sn, dp, true, some wl, some cl⟩
              · rw [if_pos hl, if_pos (by exact hl)]
                simp only [Option.bind_some, bne_self_eq_false, cond_false]
                exact go (.same 11 (.inl (by decide)))
              · rw [if_neg hl, if_neg (by exact hl)]
                simp only [Option.bind_some, bne_self_eq_false, cond_false]
                exact go (.commit h2 rfl hl)
          · rw [show (o.Kind == 2) = false by simpa using h2, cond_false]
            by_cases h3 : o.Kind = 3
            · rw [show (o.Kind == 3) = true by simp [h3], cond_true]
              cases op with
              | false =>
                simp only [M.session_Session_Close, M.ref15_Session_Close, Bool.not_false, cond_true, Option.bind_some, bne_self_eq_false, cond_false]
                exact go (.same 17 (.inl (by decide)))
              | true =>
                simp only [M.session_Session_Close, M.ref15_Session_Close, Bool.not_true, Option.bind_some, bne_self_eq_false, cond_false]
                exact go (.close h3 rfl)
            · rw [show (o.Kind == 3) = false by simpa using h3, cond_false]
              exact go (.same 0 (.inr (by omega)))
    · have e1 : (bif decide ((i : Int) < (l.length : Int)) then some (decide ((i : Int) < 120)) else some false) = some false := by
        by_cases q : i < l.length
        · rw [decide_eq_true (show (i : Int) < (l.length : Int) by omega), decide_eq_false (show ¬ (i : Int) < 120 by omega)]; rfl
        · rw [decide_eq_false (show ¬ (i : Int) < (l.length : Int) by omega)]; rfl
      rw [e1]
      simp only [Option.bind_some, cond_false]
      rw [awake15 N (by omega)]
      rfl
theorem plays_N (l : List T_law15_Op) : M.law15_SessionPlays N l = some true := by
  unfold M.law15_SessionPlays
  simp only [M.session_New, Option.bind_some]
  exact plays_L1 N hN l N 0 ⟨0, 0, false, none, some []⟩ [] [] (by omega) (by omega) SOk.new
end
theorem pSessionPlays (l : List T_law15_Op) : M.law15_SessionPlays 1000 l = some true := plays_N 1000 (Nat.le_refl _) l
end Go.Cf
