/- Plain facts: indices, numbers, strings, maps by rising keys. -/
import Derived.Laws.BitsLemmas
import Derived.Test.YteeafoagaaedcaaZK2
import Derived.Test.YteeafoagaaedcaaZM1
namespace Go.Cf
open Go
theorem idx_get {α : Type} {l : List α} {i : Nat} (h : i < l.length) : idx l (i : Int) = some l[i] := by
  simp [idx, h]
theorem wrap_small {x : Int} (h0 : -9223372036854775808 ≤ x) (h1 : x < 9223372036854775808) : IntKind.i64.wrap x = x := by
  rw [IntKind.wrap_i64]; omega
theorem wrap_succ {i : Nat} (h : i < 4611686018427387904) : IntKind.i64.wrap ((i : Int) + 1) = ((i + 1 : Nat) : Int) := by rw [wrap_small] <;> omega
abbrev nil : ByteArray := ByteArray.mk #[]
theorem sEq_refl (a : ByteArray) : sEq a a = true := by simp [sEq]
theorem sEq_iff {a b : ByteArray} : sEq a b = true ↔ a.toList = b.toList := by simp [sEq]
theorem apd_ok {α : Type} {l m : List α} (h : l.length + m.length < 2147483648) : apd l m = some (l ++ m) := by simp [apd, h]
theorem sEq_dec (a b : ByteArray) : sEq a b = decide (a = b) := by
  cases h : sEq a b with
  | true => exact (decide_eq_true (ba_toList_inj (sEq_iff.1 h))).symm
  | false =>
    refine (decide_eq_false fun e => ?_).symm
    subst e; rw [sEq_refl] at h; cases h
theorem ba_beq (a b : ByteArray) : (a == b) = true ↔ a = b := by
  cases a with | mk a => cases b with | mk b => show (a == b) = true ↔ _; simp
section
variable {K V : Type} [DecidableEq K] [KO K]
omit [KO K] in
theorem mgt_some {l : List (K × V)} {k : K} {v z : V} (h : lFind l k = some v) : mgt (some l) k z = some (v, true) := by simp [mgt, mGet, h]
omit [KO K] in
theorem mgt_none {l : List (K × V)} {k : K} {z : V} (h : lFind l k = none) : mgt (some l) k z = some (z, false) := by simp [mgt, mGet, h]
theorem lPut_length {l : List (K × V)} (h : Srt l) (k : K) (v : V) : (lPut l k v).length = if (lFind l k).isSome then l.length else l.length + 1 := by
  induction l with
  | nil => rfl
  | cons x l ih =>
    obtain ⟨h1, h2⟩ := List.pairwise_cons.1 h
    simp only [lPut]
    split
    · rename_i e; simp [lFind, e]
    · rename_i e
      split
      · rename_i q
        have : lFind (x :: l) k = none := lFind_none.2 fun p hp => by
          rcases List.mem_cons.1 hp with rfl | hp
          · exact e
          · intro e2
            have h3 := h1 p hp
            rw [e2] at h3
            have := KO.tr _ _ _ q h3
            rw [KO.irr] at this; cases this
        rw [this]; rfl
      · have he : lFind (x :: l) k = lFind l k := by
          unfold lFind
          rw [List.find?_cons_of_neg (by simpa using e)]
        rw [he, List.length_cons, ih h2]
        split <;> simp
def inL {K : Type} [DecidableEq K] (left : List K) (k : K) : Bool := decide (k ∈ left)
omit [KO K] in
theorem inL_iff {left : List K} {k : K} : inL left k = true ↔ k ∈ left := by simp [inL]
omit [KO K] in
theorem kRem_lt {left : List K} {k : K} (h : k ∈ left) : (kRem left k).length < left.length := by
  induction left with
  | nil => cases h
  | cons x l ih =>
    simp only [kRem, List.filter_cons] at ih ⊢
    by_cases e : x = k
    · subst e
      simp only [ne_eq, not_true_eq_false, decide_false, Bool.false_eq_true, if_false, List.length_cons]
      exact Nat.lt_succ_of_le (List.length_filter_le _ _)
    · simp only [ne_eq, e, not_false_eq_true, decide_true, if_true, List.length_cons]
      have : k ∈ l := by
        rcases List.mem_cons.1 h with h | h
        · exact absurd h.symm e
        · exact h
      exact Nat.succ_lt_succ (ih this)
omit [KO K] in
theorem mem_kRem {left : List K} {k k' : K} : k' ∈ kRem left k ↔ k' ∈ left ∧ k' ≠ k := by simp [kRem]
omit [KO K] in
theorem inL_kRem {left : List K} {k k' : K} : inL (kRem left k) k' = (inL left k' && decide (k' ≠ k)) := by
  unfold inL
  by_cases h1 : k' ∈ left <;> by_cases h2 : k' = k <;> simp [mem_kRem, h1, h2]
theorem Srt.inj {l : List (K × V)} (h : Srt l) {x y : K × V} (hx : x ∈ l) (hy : y ∈ l) (e : x.1 = y.1) : x = y := by
  obtain ⟨i, hi⟩ := List.mem_iff_getElem?.1 hx
  obtain ⟨j, hj⟩ := List.mem_iff_getElem?.1 hy
  have h1 := lFind_at h.nodup hi
  have h2 := lFind_at h.nodup hj
  rw [e, h2] at h1
  exact Prod.ext e (Option.some.inj h1).symm
theorem Srt.find {l : List (K × V)} (h : Srt l) {x : K × V} (hx : x ∈ l) : lFind l x.1 = some x.2 := by
  obtain ⟨i, hi⟩ := List.mem_iff_getElem?.1 hx
  exact lFind_at h.nodup hi
end
end Go.Cf
namespace Go.Cf
open Go
abbrev SM := List (ByteArray × T_api_Ver)
def verOf (k v : ByteArray) (g : Bool) : T_api_Ver := ⟨k, v, g, 0, 0, 0⟩
def zVer : T_api_Ver := ⟨ByteArray.empty, ByteArray.empty, false, 0, 0, 0⟩
theorem cEq_ver (a b : T_api_Ver) : (cEq (flat [(1, [.string (a.Key)]), (1, [.string (a.Val)]), (1, [.bool (a.Gone)]), (1, [.int .u64 (a.TS)]), (1, [.int .i64 (a.DC)]), (1, [.int .i64 (a.Tx)])]) (flat [(1, [.string (b.Key)]), (1, [.string (b.Val)]), (1, [.bool (b.Gone)]), (1, [.int .u64 (b.TS)]), (1, [.int .i64 (b.DC)]), (1, [.int .i64 (b.Tx)])])) = true ↔ a = b := by
  cases a; cases b
  simp [flat, cEq, vEq, ba_beq]
/-- the session's error for a write -/
def wrErr (wl : SM) (k v : ByteArray) (g : Bool) : Int :=
  if k.size > 16 ∨ v.size > 64 then 6 else if k = nil ∨ (g = true ∧ v ≠ nil) then 1 else if lFind wl k = none ∧ 8 ≤ wl.length then 9 else 0
theorem write_eq (N : Nat) (sn dp : Int) (wl : SM) (ca : Mp ByteArray T_api_Ver) (k v : ByteArray) (g : Bool) :
    M.session_Session_Write N ⟨sn, dp, true, some wl, ca⟩ k v g = some (wrErr wl k v g, ⟨sn, dp, true, some (if wrErr wl k v g = 0 then lPut wl k (verOf k v g) else wl), ca⟩) := by
  unfold M.session_Session_Write wrErr
  simp only [Bool.not_true, cond_false]
  by_cases h1 : k.size > 16
  · have e1 : decide (((k.size : Nat) : Int) > 16) = true := decide_eq_true (by omega)
    simp [e1, h1]
  · have e1 : decide (((k.size : Nat) : Int) > 16) = false := decide_eq_false (by omega)
    by_cases h2 : v.size > 64
    · have e2 : decide (((v.size : Nat) : Int) > 64) = true := decide_eq_true (by omega)
      simp only [e1, e2, cond_false, Option.bind_some, cond_true]
      simp [h2]
    · have e2 : decide (((v.size : Nat) : Int) > 64) = false := decide_eq_false (by omega)
      simp only [e1, e2, cond_false, Option.bind_some, sEq_dec]
      rw [if_neg (by omega)]
      by_cases h3 : k = nil
      · simp [h3]
      · simp only [h3, decide_false, cond_false, false_or]
        by_cases h4 : g = true ∧ v ≠ nil
        · obtain ⟨rfl, h4⟩ := h4
          simp [h4]
        · have e4 : (bif g then some (!decide (v = nil)) else some false) = some false := by
            cases g
            · rfl
            · have : v = nil := by
                by_cases h : v = nil
                · exact h
                · exact absurd ⟨rfl, h⟩ h4
              simp [this]
          rw [e4, if_neg h4]
          simp only [Option.bind_some, cond_false]
          cases h5 : lFind wl k with
          | none =>
            rw [mgt_none h5]
            by_cases h6 : 8 ≤ wl.length
            · have e6 : decide ((mLen (some wl) : Int) ≥ 8) = true := decide_eq_true (by simp [mLen]; omega)
              simp only [Option.bind_some, Bool.not_false, cond_true, e6]
              simp [h6]
            · have e6 : decide ((mLen (some wl) : Int) ≥ 8) = false := decide_eq_false (by simp [mLen]; omega)
              simp only [Option.bind_some, Bool.not_false, cond_true, e6, cond_false]
              simp [h6, mPut, verOf]
          | some u =>
            rw [mgt_some h5]
            simp [mPut, verOf]
theorem wr_key {wl : SM} {k v : ByteArray} {g : Bool} (h : wrErr wl k v g = 0) : k.size ≤ 16 ∧ k ≠ nil ∧ (lFind wl k = none → wl.length < 8) := by
  unfold wrErr at h
  split at h
  · cases h
  · rename_i h1
    split at h
    · cases h
    · rename_i h2
      split at h
      · cases h
      · rename_i h3
        exact ⟨by omega, fun e => h2 (.inl e), fun e => by
          rcases Nat.lt_or_ge wl.length 8 with q | q
          · exact q
          · exact absurd ⟨e, q⟩ h3⟩
/-- what a session writes: keys rising, at most eight, each under its own key, which is short -/
structure WOk (wl : SM) : Prop where
  srt : Srt wl
  len : wl.length ≤ 8
  key : ∀ p ∈ wl, p.2.Key = p.1 ∧ p.1.size ≤ 16
theorem WOk.nil : WOk [] := ⟨List.Pairwise.nil, Nat.zero_le _, fun _ h => by cases h⟩
theorem WOk.put {wl : SM} (h : WOk wl) {k v : ByteArray} {g : Bool} (he : wrErr wl k v g = 0) : WOk (lPut wl k (verOf k v g)) := by
  obtain ⟨h1, -, h3⟩ := wr_key he
  refine ⟨lPut_srt h.srt _ _, ?_, fun p hp => ?_⟩
  · rw [lPut_length h.srt]
    split
    · exact h.len
    · rename_i q
      have := h3 (by simpa using q)
      omega
  · rcases lPut_mem hp with rfl | hp
    · exact ⟨rfl, h1⟩
    · exact h.key p hp
theorem writes_L1 (N : Nat) (sn dp : Int) (wl : SM) (ca : Mp ByteArray T_api_Ver) (h : WOk wl) : ∀ (fuel i : Nat), wl.length - i < fuel → i ≤ wl.length →
    M.session_Session_Writes_L1 N fuel ⟨sn, dp, true, some wl, ca⟩ (wl.map (·.1)) ((wl.map (·.2)).take i) (i : Int) = some (wl.map (·.2)) := fun fuel => by
  induction fuel with
  | zero => intro i hf; omega
  | succ fuel ih =>
    intro i hf hi
    have hl := h.len
    unfold M.session_Session_Writes_L1
    rcases Nat.lt_or_ge i wl.length with hlt | hge
    · have e1 : decide ((i : Int) < ((wl.map (·.1)).length : Int)) = true := decide_eq_true (by rw [List.length_map]; omega)
      have hm : wl[i] ∈ wl := List.getElem_mem hlt
      rw [e1, cond_true, idx_get (by simpa using hlt)]
      simp only [Option.bind_some, List.getElem_map]
      rw [mgt_some (h.srt.find hm)]
      simp only [Option.bind_some]
      rw [apd_ok (by simp; omega)]
      simp only [Option.bind_some]
      rw [wrap_succ (by omega)]
      have := ih (i + 1) (by omega) (by omega)
      rw [← this]
      congr 1
      rw [List.take_add_one]
      simp [hlt]
    · have e1 : decide ((i : Int) < ((wl.map (·.1)).length : Int)) = false := decide_eq_false (by rw [List.length_map]; omega)
      rw [e1, cond_false, List.take_of_length_le (by simpa using hge)]
theorem srtK_eq {wl : SM} (h : WOk wl) : srtK (some wl) = some (wl.map (·.1)) := by
  have hl := h.len
  unfold srtK
  rw [if_pos]
  · rfl
  · simp only [Bool.and_eq_true, List.all_eq_true, decide_eq_true_eq]
    refine ⟨fun k hk => ?_, by simp [mKeys]; omega⟩
    obtain ⟨p, hp, rfl⟩ := List.mem_map.1 (show k ∈ wl.map (·.1) from hk)
    have := (h.key p hp).2
    unfold maxLen; omega
theorem writes_eq (N : Nat) (hN : 10 ≤ N) (sn dp : Int) (wl : SM) (ca : Mp ByteArray T_api_Ver) (h : WOk wl) : M.session_Session_Writes N ⟨sn, dp, true, some wl, ca⟩ = some (wl.map (·.2)) := by
  have hl := h.len
  unfold M.session_Session_Writes
  simp only [Bool.not_true, cond_false, M.maps_Keys_map_string_api_Ver_string_api_Ver_, Option.bind_some, srtK_eq h]
  exact writes_L1 N sn dp wl ca h N 0 (by omega) (Nat.zero_le _)
/-- what is left of the cache -/
def kpt (sn : Int) (cl : SM) : SM := cl.filter fun p => !decide (p.2.TS ≤ sn)
theorem begin_L1 (N : Nat) (s : T_session_Session) (t : Int) (cl : SM) (hs : Srt cl) : ∀ (fuel : Nat) (left : List ByteArray), left.length < fuel →
    M.session_Session_Begin_L1 N fuel s t (some (cl.filter fun p => inL left p.1 || !decide (p.2.TS ≤ (if t > s.snap then t else s.snap)))) left = some ((if t > s.snap then t else s.snap), 0, ⟨if t > s.snap then t else s.snap, s.dep, true, some [], some (kpt (if t > s.snap then t else s.snap) cl)⟩) := fun fuel => by
  induction fuel with
  | zero => intro left h; omega
  | succ fuel ih =>
    intro left hf
    unfold M.session_Session_Begin_L1
    generalize hsn : (if t > s.snap then t else s.snap) = sn at *
    cases hc : cands (some (cl.filter fun p => inL left p.1 || !decide (p.2.TS ≤ sn))) left with
    | nil =>
      simp only [List.isEmpty_nil, cond_true, Option.some.injEq, Prod.mk.injEq, T_session_Session.mk.injEq, true_and]
      refine List.filter_congr fun p hp => ?_
      by_cases hpl : p.1 ∈ left
      · have hpl' := inL_iff.2 hpl
        have : p ∈ cands (some (cl.filter fun p => inL left p.1 || !decide (p.2.TS ≤ sn))) left := by simp [cands, hp, hpl, hpl']
        rw [hc] at this; cases this
      · have hpl' : inL left p.1 = false := by simpa [inL] using hpl
        simp [hpl']
    | cons x0 xs =>
      rw [← hc]
      have hne : (cands (some (cl.filter fun p => inL left p.1 || !decide (p.2.TS ≤ sn))) left).isEmpty = false := by rw [hc]; rfl
      rw [hne, cond_false]
      refine allAgree_mk (by rw [hc]; simp) fun x hx => ?_
      simp only [cands, Option.getD_some, List.mem_filter, decide_eq_true_eq] at hx
      obtain ⟨⟨hxc, -⟩, hxl⟩ := hx
      have hlt := kRem_lt hxl
      by_cases hts : x.2.TS ≤ sn
      · rw [decide_eq_true hts, cond_true, ← ih (kRem left x.1) (by omega)]
        congr 1
        simp only [mDel, Option.map_some, lDel, List.filter_filter]
        congr 1
        refine List.filter_congr fun p hp => ?_
        by_cases e : p.1 = x.1
        · have : p = x := hs.inj hp hxc e
          subst this
          simp [inL_kRem, hts]
        · simp [inL_kRem, e]
      · rw [decide_eq_false hts, cond_false, ← ih (kRem left x.1) (by omega)]
        congr 2
        refine List.filter_congr fun p hp => ?_
        by_cases e : p.1 = x.1
        · have : p = x := hs.inj hp hxc e
          subst this
          simp [hts]
        · simp [inL_kRem, e]
theorem begin_eq (N : Nat) (sn dp : Int) (wm : Mp ByteArray T_api_Ver) (cl : SM) (hs : Srt cl) (hN : cl.length < N) (t : Int) :
    M.session_Session_Begin N ⟨sn, dp, false, wm, some cl⟩ t = some ((if t > sn then t else sn), 0, ⟨if t > sn then t else sn, dp, true, some [], some (kpt (if t > sn then t else sn) cl)⟩) := by
  unfold M.session_Session_Begin
  rw [cond_false]
  have := begin_L1 N ⟨sn, dp, false, wm, some cl⟩ t cl hs N (mKeys (some cl)) (by simpa [mKeys] using hN)
  rw [← this]
  show M.session_Session_Begin_L1 N N _ t (some cl) _ = _
  congr 2
  refine (List.filter_eq_self.2 fun p hp => ?_).symm
  have : p.1 ∈ mKeys (some cl) := List.mem_map.2 ⟨p, hp, rfl⟩
  simp [inL, this]
theorem begin_no (N : Nat) (s : T_session_Session) (h : s.open_ = true) (t : Int) : M.session_Session_Begin N s t = some (0, 17, s) := by
  unfold M.session_Session_Begin
  rw [h, cond_true, ← h]
theorem awake15 (N : Nat) (hN : 10 ≤ N) : M.law15_awake N = some true := by
  unfold M.law15_awake
  simp only [M.session_New, Option.bind_some]
  rw [begin_eq N 0 0 none [] List.Pairwise.nil (by simp; omega)]
  simp only [Option.bind_some]
  have hw : wrErr [] (ByteArray.mk #[97]) (ByteArray.mk #[120]) false = 0 := by
    unfold wrErr
    rw [if_neg (by decide), if_neg (by decide), if_neg (by decide)]
  have h1 : ((if (5 : Int) > 0 then (5 : Int) else 0) == 5) = true := rfl
  rw [h1]
  simp only [cond_true, beq_self_eq_true]
  rw [show (kpt _ [] : SM) = [] from rfl, write_eq, hw]
  simp only [Option.bind_some, beq_self_eq_true, cond_true, if_true]
  rw [writes_eq N hN _ _ _ _ (WOk.nil.put hw)]
  rfl
end Go.Cf
namespace Go.Cf
open Go
def mkv (m : T_api_Mark) (v : T_api_Ver) : T_api_Ver := ⟨v.Key, v.Val, v.Gone, m.TS, m.DC, m.Tx⟩
def cmt (m : T_api_Mark) : SM → SM → SM
  | [], cl => cl
  | p :: wl, cl => cmt m wl (lPut cl p.1 (mkv m p.2))
theorem cmt_srt (m : T_api_Mark) : ∀ (wl cl : SM), Srt cl → Srt (cmt m wl cl)
  | [], _, h => h
  | _ :: wl, _, h => cmt_srt m wl _ (lPut_srt h _ _)
theorem lFind_cons {p : ByteArray × T_api_Ver} {l : SM} {k : ByteArray} : lFind (p :: l) k = if p.1 = k then some p.2 else lFind l k := by
  by_cases h : p.1 = k
  · simp [lFind, h]
  · simp [lFind, h]
theorem cmt_find (m : T_api_Mark) : ∀ (wl cl : SM), Srt wl → ∀ k, lFind (cmt m wl cl) k = match lFind wl k with | some v => some (mkv m v) | none => lFind cl k
  | [], _, _, _ => rfl
  | p :: wl, cl, h, k => by
    obtain ⟨h1, h2⟩ := List.pairwise_cons.1 h
    show lFind (cmt m wl _) k = _
    rw [cmt_find m wl _ h2 k, lPut_find, lFind_cons]
    by_cases e : p.1 = k
    · subst e
      have : lFind wl p.1 = none := lFind_none.2 fun q hq e2 => by
        have h3 := h1 q hq
        rw [e2, KO.irr] at h3; cases h3
      rw [this]; simp
    · rw [if_neg e, if_neg (Ne.symm e)]
theorem lPut_le {l : SM} (h : Srt l) (k : ByteArray) (v : T_api_Ver) : (lPut l k v).length ≤ l.length + 1 := by
  rw [lPut_length h]; split <;> omega
theorem cmt_len (m : T_api_Mark) : ∀ (wl cl : SM), Srt cl → (cmt m wl cl).length ≤ cl.length + wl.length
  | [], _, _ => Nat.le_refl _
  | p :: wl, cl, h => by
    have h1 := cmt_len m wl _ (lPut_srt h p.1 (mkv m p.2))
    have h2 := lPut_le h p.1 (mkv m p.2)
    simp only [cmt, List.length_cons]
    omega
theorem commit_L1 (N : Nat) (s : T_session_Session) (m : T_api_Mark) (wl cl : SM) (hw : s.writes = some wl) (hs : Srt wl) : ∀ (fuel : Nat) (yl : SM) (left : List ByteArray), left.length < fuel → Srt yl → Srt cl →
    (∀ k, lFind yl k = if inL left k = true then lFind cl k else match lFind wl k with | some v => some (mkv m v) | none => lFind cl k) →
    M.session_Session_Commit_L1 N fuel s m (some yl) left = some (0, ⟨s.snap, m.TS, false, none, some (cmt m wl cl)⟩) := fun fuel => by
  induction fuel with
  | zero => intro yl left h; omega
  | succ fuel ih =>
    intro yl left hf hy hc hfind
    unfold M.session_Session_Commit_L1
    rw [hw]
    cases hcd : cands (some wl) left with
    | nil =>
      simp only [List.isEmpty_nil, cond_true, Option.some.injEq, Prod.mk.injEq, T_session_Session.mk.injEq, true_and]
      refine hy.ext (cmt_srt m wl cl hc) fun k => ?_
      rw [hfind, cmt_find m wl cl hs]
      by_cases hk : inL left k = true
      · rw [if_pos hk]
        have : lFind wl k = none := lFind_none.2 fun p hp e => by
          have : p ∈ cands (some wl) left := by
            simp only [cands, Option.getD_some, List.mem_filter, decide_eq_true_eq]
            exact ⟨hp, by rw [e]; exact inL_iff.1 hk⟩
          rw [hcd] at this; cases this
        rw [this]
      · rw [if_neg hk]
    | cons x0 xs =>
      rw [← hcd]
      have hne : (cands (some wl) left).isEmpty = false := by rw [hcd]; rfl
      rw [hne, cond_false]
      refine allAgree_mk (by rw [hcd]; simp) fun x hx => ?_
      simp only [cands, Option.getD_some, List.mem_filter, decide_eq_true_eq] at hx
      obtain ⟨hxw, hxl⟩ := hx
      have hlt := kRem_lt hxl
      simp only [mPut, Option.map_some, Option.bind_some]
      refine ih _ (kRem left x.1) (by omega) (lPut_srt hy _ _) hc fun k => ?_
      rw [lPut_find, inL_kRem]
      by_cases e : k = x.1
      · subst e
        rw [hs.find hxw]
        simp [mkv]
      · rw [if_neg e, hfind k]
        simp [e]
theorem low_eq (N : Nat) (s : T_session_Session) : M.session_Session_Low N s = some (if s.dep > s.snap then s.dep else s.snap) := rfl
def low (s : T_session_Session) : Int := if s.dep > s.snap then s.dep else s.snap
theorem commit_eq (N : Nat) (sn dp : Int) (wl cl : SM) (hs : Srt wl) (hc : Srt cl) (hN : wl.length < N) (m : T_api_Mark) :
    M.session_Session_Commit N ⟨sn, dp, true, some wl, some cl⟩ m = some (if m.TS ≤ low ⟨sn, dp, true, some wl, some cl⟩ then (11, ⟨sn, dp, true, some wl, some cl⟩) else (0, ⟨sn, m.TS, false, none, some (cmt m wl cl)⟩)) := by
  unfold M.session_Session_Commit
  simp only [Bool.not_true, cond_false, low_eq, Option.bind_some]
  by_cases h : m.TS ≤ low ⟨sn, dp, true, some wl, some cl⟩
  · rw [if_pos h, decide_eq_true (by exact h), cond_true]
  · rw [if_neg h, decide_eq_false (by exact h), cond_false]
    refine commit_L1 N _ m wl cl rfl hs N cl (mKeys (some wl)) (by simpa [mKeys] using hN) hc hc fun k => ?_
    by_cases hk : inL (mKeys (some wl)) k = true
    · rw [if_pos hk]
    · rw [if_neg hk]
      have : lFind wl k = none := lFind_none.2 fun p hp e => hk (inL_iff.2 (List.mem_map.2 ⟨p, hp, e⟩))
      rw [this]
/-- a session between two calls -/
structure SOk (n : Nat) (s : T_session_Session) (wl cl : SM) : Prop where
  wr : s.open_ = true → s.writes = some wl ∧ WOk wl
  ca : s.cache = some cl
  srt : Srt cl
  len : cl.length ≤ 8 * n
  key : ∀ p ∈ cl, p.2.Key = p.1
  no : s.open_ = false → wl = []
/-- what a call comes to: the error, the session, its writes, its cache -/
inductive Step (s : T_session_Session) (wl cl : SM) (o : T_law15_Op) : Int → T_session_Session → SM → SM → Prop
  | same (e : Int) (he : e ≠ 0 ∨ ¬ (o.Kind = 0 ∨ o.Kind = 1 ∨ o.Kind = 2 ∨ o.Kind = 3)) : Step s wl cl o e s wl cl
  | begin_ (h : o.Kind = 0) (ho : s.open_ = false) : Step s wl cl o 0 ⟨if o.T > s.snap then o.T else s.snap, s.dep, true, some [], some (kpt (if o.T > s.snap then o.T else s.snap) cl)⟩ [] (kpt (if o.T > s.snap then o.T else s.snap) cl)
  | write (h : o.Kind = 1) (ho : s.open_ = true) (he : wrErr wl o.Key o.Val o.Gone = 0) : Step s wl cl o 0 ⟨s.snap, s.dep, true, some (lPut wl o.Key (verOf o.Key o.Val o.Gone)), some cl⟩ (lPut wl o.Key (verOf o.Key o.Val o.Gone)) cl
  | commit (h : o.Kind = 2) (ho : s.open_ = true) (hl : ¬ o.Mark.TS ≤ low s) : Step s wl cl o 0 ⟨s.snap, o.Mark.TS, false, none, some (cmt o.Mark wl cl)⟩ [] (cmt o.Mark wl cl)
  | close (h : o.Kind = 3) (ho : s.open_ = true) : Step s wl cl o 0 ⟨s.snap, s.dep, false, none, some cl⟩ [] cl
theorem do_eq (N : Nat) {n : Nat} {s : T_session_Session} {wl cl : SM} (h : SOk n s wl cl) (hN : 8 * n + 10 ≤ N) (o : T_law15_Op) : ∃ e s' wl' cl', M.law15_do N s o = some (e, s') ∧ Step s wl cl o e s' wl' cl' := by
  obtain ⟨hwr, hca, hsrt, hlen, -, -⟩ := h
  obtain ⟨sn, dp, op, wm, cm⟩ := s
  simp only at hwr hca
  subst hca
  unfold M.law15_do
  by_cases h0 : o.Kind = 0
  · have e0 : (o.Kind == 0) = true := by simp [h0]
    rw [e0, cond_true]
    cases op with
    | true =>
      rw [begin_no _ _ rfl]
      exact ⟨_, _, wl, cl, rfl, .same 17 (.inl (by decide))⟩
    | false =>
      rw [begin_eq N sn dp wm cl hsrt (by omega)]
      exact ⟨_, _, _, _, rfl, .begin_ h0 rfl⟩
  · have e0 : (o.Kind == 0) = false := by simpa using h0
    rw [e0, cond_false]
    by_cases h1 : o.Kind = 1
    · have e1 : (o.Kind == 1) = true := by simp [h1]
      rw [e1, cond_true]
      cases op with
      | false => exact ⟨_, _, wl, cl, rfl, .same 17 (.inl (by decide))⟩
      | true =>
        obtain ⟨hw, hok⟩ := hwr rfl
        subst hw
        rw [write_eq]
        by_cases he : wrErr wl o.Key o.Val o.Gone = 0
        · rw [if_pos he, he]
          exact ⟨_, _, _, _, rfl, .write h1 rfl he⟩
        · rw [if_neg he]
          exact ⟨_, _, wl, cl, rfl, .same _ (.inl he)⟩
    · have e1 : (o.Kind == 1) = false := by simpa using h1
      rw [e1, cond_false]
      by_cases h2 : o.Kind = 2
      · have e2 : (o.Kind == 2) = true := by simp [h2]
        rw [e2, cond_true]
        cases op with
        | false => exact ⟨_, _, wl, cl, rfl, .same 17 (.inl (by decide))⟩
        | true =>
          obtain ⟨hw, hok⟩ := hwr rfl
          subst hw
          have := hok.len
          rw [show T_api_Mark.mk o.Mark.TS o.Mark.DC o.Mark.Tx = o.Mark from rfl, commit_eq N sn dp wl cl hok.srt hsrt (by omega)]
          by_cases hl : o.Mark.TS ≤ low ⟨sn, dp, true, some wl, some cl⟩
          · rw [if_pos hl]
            exact ⟨_, _, wl, cl, rfl, .same 11 (.inl (by decide))⟩
          · rw [if_neg hl]
            exact ⟨_, _, _, _, rfl, .commit h2 rfl hl⟩
      · have e2 : (o.Kind == 2) = false := by simpa using h2
        rw [e2, cond_false]
        by_cases h3 : o.Kind = 3
        · have e3 : (o.Kind == 3) = true := by simp [h3]
          rw [e3, cond_true]
          cases op with
          | false => exact ⟨_, _, wl, cl, rfl, .same 17 (.inl (by decide))⟩
          | true => exact ⟨_, _, _, _, rfl, .close h3 rfl⟩
        · have e3 : (o.Kind == 3) = false := by simpa using h3
          rw [e3, cond_false]
          exact ⟨_, _, wl, cl, rfl, .same 0 (.inr (by omega))⟩
theorem kpt_srt {sn : Int} {cl : SM} (h : Srt cl) : Srt (kpt sn cl) := List.Pairwise.sublist List.filter_sublist h
theorem Step.ok {n : Nat} {s s' : T_session_Session} {wl cl wl' cl' : SM} {o : T_law15_Op} {e : Int} (h : SOk n s wl cl) (hs : Step s wl cl o e s' wl' cl') : SOk (n + 1) s' wl' cl' := by
  cases hs with
  | same he => exact ⟨h.wr, h.ca, h.srt, by have := h.len; omega, h.key, h.no⟩
  | begin_ h0 ho =>
    refine ⟨fun _ => ⟨rfl, WOk.nil⟩, rfl, kpt_srt h.srt, ?_, fun p hp => h.key p (List.mem_filter.1 hp).1, fun _ => rfl⟩
    have := List.length_filter_le (fun p : ByteArray × T_api_Ver => !decide (p.2.TS ≤ (if o.T > s.snap then o.T else s.snap))) cl
    have := h.len
    unfold kpt; omega
  | write h1 ho he => exact ⟨fun _ => ⟨rfl, (h.wr ho).2.put he⟩, rfl, h.srt, by have := h.len; omega, h.key, fun q => by cases q⟩
  | commit h2 ho hl =>
    obtain ⟨hw, hok⟩ := h.wr ho
    refine ⟨fun q => (by cases q), rfl, cmt_srt _ _ _ h.srt, ?_, fun p hp => ?_, fun _ => rfl⟩
    · have h1 := cmt_len o.Mark wl cl h.srt
      have := h.len; have := hok.len
      omega
    · have hf := (cmt_srt o.Mark wl cl h.srt).find hp
      rw [cmt_find o.Mark wl cl hok.srt] at hf
      cases hq : lFind wl p.1 with
      | none =>
        rw [hq] at hf
        exact h.key _ (lFind_some hf)
      | some v =>
        rw [hq] at hf
        simp only [Option.some.injEq] at hf
        rw [← hf]
        exact (hok.key _ (lFind_some hq)).1
  | close h3 ho => exact ⟨fun q => (by cases q), rfl, h.srt, by have := h.len; omega, h.key, fun _ => rfl⟩
theorem SOk.new : SOk 0 ⟨0, 0, false, none, some []⟩ [] [] := ⟨fun h => (by cases h), rfl, List.Pairwise.nil, Nat.le_refl _, fun _ h => (by cases h), fun _ => rfl⟩
end Go.Cf
namespace Go.Cf
open Go
def lookR (op : Bool) (wl cl : SM) (key : ByteArray) : T_api_Ver × Int :=
  if op = true then match lFind wl key with
    | some v => (v, 1)
    | none => match lFind cl key with
      | some v => (v, 2)
      | none => (zVer, 0)
  else (zVer, 0)
theorem look_eq (N : Nat) {n : Nat} {s : T_session_Session} {wl cl : SM} (h : SOk n s wl cl) (key : ByteArray) : M.session_Session_Look N s key = some (lookR s.open_ wl cl key) := by
  unfold M.session_Session_Look lookR
  cases ho : s.open_ with
  | false => rfl
  | true =>
    simp only [Bool.not_true, cond_false, if_true]
    rw [(h.wr ho).1, h.ca]
    cases h1 : lFind wl key with
    | some v => rw [mgt_some h1]; rfl
    | none =>
      rw [mgt_none h1]
      simp only [Option.bind_some, cond_false]
      cases h2 : lFind cl key with
      | some v => rw [mgt_some h2]; rfl
      | none => rw [mgt_none h2]; rfl
theorem kpt_find {sn : Int} {cl : SM} (h : Srt cl) (k : ByteArray) : lFind (kpt sn cl) k = match lFind cl k with | some v => if v.TS ≤ sn then none else some v | none => none := by
  cases hf : lFind cl k with
  | none =>
    refine lFind_none.2 fun p hp => ?_
    exact lFind_none.1 hf p (List.mem_filter.1 hp).1
  | some v =>
    have hm := lFind_some hf
    by_cases ht : v.TS ≤ sn
    · show _ = if v.TS ≤ sn then none else some v
      rw [if_pos ht]
      refine lFind_none.2 fun p hp e => ?_
      obtain ⟨h1, h2⟩ := List.mem_filter.1 hp
      have : p = (k, v) := h.inj h1 hm e
      subst this
      simp [ht] at h2
    · show _ = if v.TS ≤ sn then none else some v
      rw [if_neg ht]
      have : (k, v) ∈ kpt sn cl := List.mem_filter.2 ⟨hm, by simp [ht]⟩
      exact (kpt_srt h).find this
/-- what the statement remembers of the key -/
structure OInv (key : ByteArray) (s : T_session_Session) (wl cl : SM) (is was : Bool) (mk mv : ByteArray) (mg : Bool) (last : T_api_Ver) : Prop where
  is_ : is = true → lFind wl key = some (verOf key mv mg) ∧ mk = key
  nis : is = false → lFind wl key = none
  cch : lFind cl key = if was = true ∧ last.TS > s.snap then some last else none
section
variable (N : Nat) (hN : 1000 ≤ N)
include hN
omit hN in
theorem own_k3 (rec1 : List T_law15_Op → ByteArray → ByteArray → ByteArray → Bool → Int → Int → Int → ByteArray → ByteArray → Bool → Int → Int → Bool → Mp ByteArray T_api_Ver → Mp ByteArray T_api_Ver → Bool → Bool → Int → Option Bool)
    (l : List T_law15_Op) (key : ByteArray) (i : Nat) (hi : i < 120) (e : Int) {s : T_session_Session} {wl cl : SM} {is was : Bool} {mk mv : ByteArray} {mg : Bool} {last : T_api_Ver} {n : Nat} (h : SOk n s wl cl) (ho : OInv key s wl cl is was mk mv mg last)
    (hr : rec1 l key last.Key last.Val last.Gone last.TS last.DC last.Tx mk mv mg s.snap s.dep s.open_ s.writes s.cache is was ((i + 1 : Nat) : Int) = some true) :
    M.law15_SessionOwn_k3 N rec1 l key (i : Int) (e, s) last.Key last.Val last.Gone last.TS last.DC last.Tx mk mv mg is was = some true := by
  unfold M.law15_SessionOwn_k3
  simp only [M.law15_SessionOwn_k2, M.session_Session_Open, M.session_Session_Snap, Option.bind_some]
  rw [wrap_succ (by omega), hr]
  rw [show M.session_Session_Look N ⟨s.snap, s.dep, s.open_, s.writes, s.cache⟩ key = _ from look_eq N h key]
  simp only [Option.bind_some]
  unfold lookR
  cases hop : s.open_ with
  | false => rfl
  | true =>
    simp only [Bool.not_true, cond_false, if_true]
    cases is with
    | true =>
      obtain ⟨h1, h2⟩ := ho.is_ rfl
      rw [h1, h2]
      simp only [bne_self_eq_false, cond_false, cond_true]
      have hc := (cEq_ver (verOf key mv mg) (verOf key mv mg)).2 rfl
      simp only [verOf] at hc ⊢
      rw [hc]
      rfl
    | false =>
      rw [ho.nis rfl]
      simp only [cond_false]
      rw [ho.cch]
      by_cases hw : was = true ∧ last.TS > s.snap
      · rw [if_pos hw, hw.1, decide_eq_true hw.2]
        have hc := (cEq_ver last last).2 rfl
        simp only [cond_true, Option.bind_some, bne_self_eq_false, cond_false, hc]
        rfl
      · rw [if_neg hw]
        have e1 : (bif was then some (decide (last.TS > s.snap)) else some false) = some false := by
          cases was
          · rfl
          · rw [decide_eq_false (fun q => hw ⟨rfl, q⟩)]; rfl
        rw [e1]
        rfl
theorem own_L1 (l : List T_law15_Op) (key : ByteArray) : ∀ (fuel i : Nat) (s : T_session_Session) (wl cl : SM) (is was : Bool) (mk mv : ByteArray) (mg : Bool) (last : T_api_Ver), 120 - i < fuel → i ≤ 120 → SOk i s wl cl → OInv key s wl cl is was mk mv mg last →
    M.law15_SessionOwn_L1 N fuel l key last.Key last.Val last.Gone last.TS last.DC last.Tx mk mv mg s.snap s.dep s.open_ s.writes s.cache is was (i : Int) = some true := fun fuel => by
  induction fuel with
  | zero => intro i s wl cl is was mk mv mg last hf; omega
  | succ fuel ih =>
    intro i s wl cl is was mk mv mg last hf hi h ho
    unfold M.law15_SessionOwn_L1
    by_cases hc : i < l.length ∧ i < 120
    · rw [decide_eq_true (show (i : Int) < (l.length : Int) by omega), cond_true, decide_eq_true (show (i : Int) < 120 by omega)]
      simp only [Option.bind_some, cond_true]
      rw [idx_get hc.1]
      generalize l[i] = o
      simp only [Option.bind_some]
      obtain ⟨e, s', wl', cl', hd, hst⟩ := do_eq N h (by omega) o
      rw [show M.law15_do N ⟨s.snap, s.dep, s.open_, s.writes, s.cache⟩ ⟨o.Kind, o.Key, o.Val, o.Gone, o.T, ⟨o.Mark.TS, o.Mark.DC, o.Mark.Tx⟩⟩ = some (e, s') from hd]
      simp only [Option.bind_some]
      have hok := hst.ok h
      have go : ∀ {is was : Bool} {mk mv : ByteArray} {mg : Bool} {last : T_api_Ver}, OInv key s' wl' cl' is was mk mv mg last →
          M.law15_SessionOwn_k3 N (M.law15_SessionOwn_L1 N fuel) l key (i : Int) (e, s') last.Key last.Val last.Gone last.TS last.DC last.Tx mk mv mg is was = some true := fun {is was mk mv mg last} q =>
        own_k3 N _ l key i hc.2 e hok q (ih (i + 1) s' wl' cl' is was mk mv mg last (by omega) (by omega) hok q)
      cases hst with
      | same _ he =>
        by_cases e0 : e = 0
        · subst e0
          have hk : ¬ (o.Kind = 0 ∨ o.Kind = 1 ∨ o.Kind = 2 ∨ o.Kind = 3) := by
            rcases he with he | he
            · exact absurd rfl he
            · exact he
          rw [show ((0 : Int) == 0) = true from rfl, show (o.Kind == 0) = false by simp; omega, show (o.Kind == 1) = false by simp; omega, show (o.Kind == 2) = false by simp; omega, show (o.Kind == 3) = false by simp; omega]
          simp only [cond_true, cond_false]
          exact go ho
        · rw [show (e == 0) = false by simpa using e0, cond_false]
          exact go ho
      | begin_ h0 hop =>
        rw [show ((0 : Int) == 0) = true from rfl, show (o.Kind == 0) = true by simp [h0]]
        simp only [cond_true]
        refine go ⟨fun q => (by cases q), fun _ => rfl, ?_⟩
        rw [kpt_find h.srt, ho.cch]
        have hge : s.snap ≤ (if o.T > s.snap then o.T else s.snap) := by split <;> omega
        show _ = if was = true ∧ last.TS > (if o.T > s.snap then o.T else s.snap) then some last else none
        generalize (if o.T > s.snap then o.T else s.snap) = sn at *
        by_cases hw : was = true ∧ last.TS > s.snap
        · rw [if_pos hw]
          by_cases ht : last.TS ≤ sn
          · rw [if_neg (fun q => by omega)]
            show (if last.TS ≤ sn then none else some last) = none
            rw [if_pos ht]
          · rw [if_pos ⟨hw.1, by omega⟩]
            show (if last.TS ≤ sn then none else some last) = some last
            rw [if_neg ht]
        · rw [if_neg hw, if_neg (fun q => hw ⟨q.1, by omega⟩)]
      | write h1 hop he =>
        rw [show ((0 : Int) == 0) = true from rfl, show (o.Kind == 0) = false by simp; omega, show (o.Kind == 1) = true by simp [h1]]
        simp only [cond_true, cond_false]
        rw [sEq_dec]
        by_cases hk : o.Key = key
        · rw [decide_eq_true hk, cond_true]
          refine go ⟨fun _ => ⟨?_, rfl⟩, fun q => (by cases q), ho.cch⟩
          rw [lPut_find, if_pos hk.symm, hk]
        · rw [decide_eq_false hk, cond_false]
          refine go ⟨fun q => ?_, fun q => ?_, ho.cch⟩
          · rw [lPut_find, if_neg (Ne.symm hk)]; exact ho.is_ q
          · rw [lPut_find, if_neg (Ne.symm hk)]; exact ho.nis q
      | commit h2 hop hl =>
        rw [show ((0 : Int) == 0) = true from rfl, show (o.Kind == 0) = false by simp; omega, show (o.Kind == 1) = false by simp; omega, show (o.Kind == 2) = true by simp [h2]]
        simp only [cond_true, cond_false]
        have hws := (h.wr hop).2.srt
        cases is with
        | true =>
          obtain ⟨q1, q2⟩ := ho.is_ rfl
          rw [cond_true]
          refine go (last := ⟨mk, mv, mg, o.Mark.TS, o.Mark.DC, o.Mark.Tx⟩) ⟨fun q => (by cases q), fun _ => rfl, ?_⟩
          rw [cmt_find o.Mark wl cl hws, q1]
          have : o.Mark.TS > s.snap := by
            have : s.snap ≤ low s := by unfold low; split <;> omega
            omega
          rw [if_pos ⟨rfl, this⟩, q2]
          rfl
        | false =>
          rw [cond_false]
          refine go ⟨fun q => (by cases q), fun _ => rfl, ?_⟩
          rw [cmt_find o.Mark wl cl hws, ho.nis rfl]
          exact ho.cch
      | close h3 hop =>
        rw [show ((0 : Int) == 0) = true from rfl, show (o.Kind == 0) = false by simp; omega, show (o.Kind == 1) = false by simp; omega, show (o.Kind == 2) = false by simp; omega, show (o.Kind == 3) = true by simp [h3]]
        simp only [cond_true, cond_false]
        exact go ⟨fun q => (by cases q), fun _ => rfl, ho.cch⟩
    · have e1 : (bif decide ((i : Int) < (l.length : Int)) then some (decide ((i : Int) < 120)) else some false) = some false := by
        by_cases q : i < l.length
        · rw [decide_eq_true (show (i : Int) < (l.length : Int) by omega), decide_eq_false (show ¬ (i : Int) < 120 by omega)]; rfl
        · rw [decide_eq_false (show ¬ (i : Int) < (l.length : Int) by omega)]; rfl
      rw [e1]
      simp only [Option.bind_some, cond_false]
      rw [awake15 N (by omega)]
      rfl
theorem own_N (l : List T_law15_Op) (key : ByteArray) : M.law15_SessionOwn N l key = some true := by
  unfold M.law15_SessionOwn
  simp only [M.session_New, Option.bind_some]
  exact own_L1 N hN l key N 0 ⟨0, 0, false, none, some []⟩ [] [] false false _ _ _ zVer (by omega) (by omega) SOk.new ⟨fun q => (by cases q), fun _ => rfl, rfl⟩
end
theorem pSessionOwn (l : List T_law15_Op) (key : ByteArray) : M.law15_SessionOwn 1000 l key = some true := own_N 1000 (Nat.le_refl _) l key
end Go.Cf
