/- Plain facts: indices, numbers, strings, maps by rising keys. -/
import Derived.Laws.BitsLemmas
import Derived.Test.YteeafoagaaedcaaZK2
import Derived.Test.YteeafoagaaedcaaZM1
namespace Go.Cf
open Go
theorem idx_get {α : Type} {l : List α} {i : Nat} (h : i < l.length) : idx l (i : Int) = some l[i] := by
  simp [idx, h]
theorem wrap_small {x : Int} (h0 : -9223372036854775808 ≤ x) (h1 : x < 9223372036854775808) : IntKind.i64.wrap x = x := by
  rw [IntKind.wrap_i64]; omega
theorem wrap_succ {i : Nat} (h : i < 4611686018427387904) : IntKind.i64.wrap ((i : Int) + 1) = ((i + 1 : Nat) : Int) := by rw [wrap_small] <;> omega
abbrev nil : ByteArray := ByteArray.mk #[]
theorem sEq_refl (a : ByteArray) : sEq a a = true := by simp [sEq]
theorem sEq_iff {a b : ByteArray} : sEq a b = true ↔ a.toList = b.toList := by simp [sEq]
theorem apd_ok {α : Type} {l m : List α} (h : l.length + m.length < 2147483648) : apd l m = some (l ++ m) := by simp [apd, h]
theorem sEq_dec (a b : ByteArray) : sEq a b = decide (a = b) := by
  cases h : sEq a b with
  | true => exact (decide_eq_true (ba_toList_inj (sEq_iff.1 h))).symm
  | false =>
    refine (decide_eq_false fun e => ?_).symm
    subst e; rw [sEq_refl] at h; cases h
theorem ba_beq (a b : ByteArray) : (a == b) = true ↔ a = b := by
  cases a with | mk a => cases b with | mk b => show (a == b) = true ↔ _; simp
section
variable {K V : Type} [DecidableEq K] [KO K]
omit [KO K] in
theorem mgt_some {l : List (K × V)} {k : K} {v z : V} (h : lFind l k = some v) : mgt (some l) k z = some (v, true) := by simp [mgt, mGet, h]
omit [KO K] in
theorem mgt_none {l : List (K × V)} {k : K} {z : V} (h : lFind l k = none) : mgt (some l) k z = some (z, false) := by simp [mgt, mGet, h]
theorem lPut_length {l : List (K × V)} (h : Srt l) (k : K) (v : V) : (lPut l k v).length = if (lFind l k).isSome then l.length else l.length + 1 := by
  induction l with
  | nil => rfl
  | cons x l ih =>
    obtain ⟨h1, h2⟩ := List.pairwise_cons.1 h
    simp only [lPut]
    split
    · rename_i e; simp [lFind, e]
    · rename_i e
      split
      · rename_i q
        have : lFind (x :: l) k = none := lFind_none.2 fun p hp => by
          rcases List.mem_cons.1 hp with rfl | hp
          · exact e
          · intro e2
            have h3 := h1 p hp
            rw [e2] at h3
            have := KO.tr _ _ _ q h3
            rw [KO.irr] at this; cases this
        rw [this]; rfl
      · have he : lFind (x :: l) k = lFind l k := by
          unfold lFind
          rw [List.find?_cons_of_neg (by simpa using e)]
        rw [he, List.length_cons, ih h2]
        split <;> simp
def inL {K : Type} [DecidableEq K] (left : List K) (k : K) : Bool := decide (k ∈ left)
omit [KO K] in
theorem inL_iff {left : List K} {k : K} : inL left k = true ↔ k ∈ left := by simp [inL]
omit [KO K] in
theorem kRem_lt {left : List K} {k : K} (h : k ∈ left) : (kRem left k).length < left.length := by
  induction left with
  | nil => cases h
  | cons x l ih =>
    simp only [kRem, List.filter_cons] at ih ⊢
    by_cases e : x = k
    · subst e
      simp only [ne_eq, not_true_eq_false, decide_false, Bool.false_eq_true, if_false, List.length_cons]
      exact Nat.lt_succ_of_le (List.length_filter_le _ _)
    · simp only [ne_eq, e, not_false_eq_true, decide_true, if_true, List.length_cons]
      have : k ∈ l := by
        rcases List.mem_cons.1 h with h | h
        · exact absurd h.symm e
        · exact h
      exact Nat.succ_lt_succ (ih this)
omit [KO K] in
theorem mem_kRem {left : List K} {k k' : K} : k' ∈ kRem left k ↔ k' ∈ left ∧ k' ≠ k := by simp [kRem]
omit [KO K] in
theorem inL_kRem {left : List K} {k k' : K} : inL (kRem left k) k' = (inL left k' && decide (k' ≠ k)) := by
  unfold inL
  by_cases h1 : k' ∈ left <;> by_cases h2 : k' = k <;> simp [mem_kRem, h1, h2]
theorem Srt.inj {l : List (K × V)} (h : Srt l) {x y : K × V} (hx : x ∈ l) (hy : y ∈ l) (e : x.1 = y.1) : x = y := by
  obtain ⟨i, hi⟩ := List.mem_iff_getElem?.1 hx
  obtain ⟨j, hj⟩ := List.mem_iff_getElem?.1 hy
  have h1 := lFind_at h.nodup hi
  have h2 := lFind_at h.nodup hj
  rw [e, h2] at h1
  exact Prod.ext e (Option.some.inj h1).symm
theorem Srt.find {l : List (K × V)} (h : Srt l) {x : K × V} (hx : x ∈ l) : lFind l x.1 = some x.2 := by
  obtain ⟨i, hi⟩ := List.mem_iff_getElem?.1 hx
  exact lFind_at h.nodup hi
end
end Go.Cf
namespace Go.Cf
open Go
abbrev SM := List (ByteArray × T_api_Ver)
def verOf (k v : ByteArray) (g : Bool) : T_api_Ver := ⟨k, v, g, 0, 0, 0⟩
def zVer : T_api_Ver := ⟨ByteArray.empty, ByteArray.empty, false, 0, 0, 0⟩
theorem cEq_ver (a b : T_api_Ver) : (cEq (flat [(1, [.string (a.Key)]), (1, [.string (a.Val)]), (1, [.bool (a.Gone)]), (1, [.int .u64 (a.TS)]), (1, [.int .i64 (a.DC)]), (1, [.int .i64 (a.Tx)])]) (flat [(1, [.string (b.Key)]), (1, [.string (b.Val)]), (1, [.bool (b.Gone)]), (1, [.int .u64 (b.TS)]), (1, [.int .i64 (b.DC)]), (1, [.int .i64 (b.Tx)])])) = true ↔ a = b := by
  cases a; cases b
  simp [flat, cEq, vEq, ba_beq]
/-- the session's error for a write -/
def wrErr (wl : SM) (k v : ByteArray) (g : Bool) : Int :=
  if k.size > 16 ∨ v.size > 64 then 6 else if k = nil ∨ (g = true ∧ v ≠ nil) then 1 else if lFind wl k = none ∧ 8 ≤ wl.length then 9 else 0
theorem write_eq (N : Nat) (sn dp : Int) (wl : SM) (ca : Mp ByteArray T_api_Ver) (k v : ByteArray) (g : Bool) :
    M.session_Session_Write N ⟨sn, dp, true, some wl, ca⟩ k v g = some (wrErr wl k v g, ⟨sn, dp, true, some (if wrErr wl k v g = 0 then lPut wl k (verOf k v g) else wl), ca⟩) := by
  unfold M.session_Session_Write wrErr
  simp only [Bool.not_true, cond_false]
  by_cases h1 : k.size > 16
  · have e1 : decide (((k.size : Nat) : Int) > 16) = true := decide_eq_true (by omega)
    simp [e1, h1]
  · have e1 : decide (((k.size : Nat) : Int) > 16) = false := decide_eq_false (by omega)
    by_cases h2 : v.size > 64
    · have e2 : decide (((v.size : Nat) : Int) > 64) = true := decide_eq_true (by omega)
      simp only [e1, e2, cond_false, Option.bind_some, cond_true]
      simp [h2]
    · have e2 : decide (((v.size : Nat) : Int) > 64) = false := decide_eq_false (by omega)
      simp only [e1, e2, cond_false, Option.bind_some, sEq_dec]
      rw [if_neg (by omega)]
      by_cases h3 : k = nil
      · simp [h3]
      · simp only [h3, decide_false, cond_false, false_or]
        by_cases h4 : g = true ∧ v ≠ nil
        · obtain ⟨rfl, h4⟩ := h4
          simp [h4]
        · have e4 : (bif g then some (!decide (v = nil)) else some false) = some false := by
            cases g
            · rfl
            · have : v = nil := by
                by_cases h : v = nil
                · exact h
                · exact absurd ⟨rfl, h⟩ h4
              simp [this]
          rw [e4, if_neg h4]
          simp only [Option.bind_some, cond_false]
          cases h5 : lFind wl k with
          | none =>
            rw [mgt_none h5]
            by_cases h6 : 8 ≤ wl.length
            · have e6 : decide ((mLen (some wl) : Int) ≥ 8) = true := decide_eq_true (by simp [mLen]; omega)
              simp only [Option.bind_some, Bool.not_false, cond_true, e6]
              simp [h6]
            · have e6 : decide ((mLen (some wl) : Int) ≥ 8) = false := decide_eq_false (by simp [mLen]; omega)
              simp only [Option.bind_some, Bool.not_false, cond_true, e6, cond_false]
              simp [h6, mPut, verOf]
          | some u =>
            rw [mgt_some h5]
            simp [mPut, verOf]
theorem wr_key {wl : SM} {k v : ByteArray} {g : Bool} (h : wrErr wl k v g = 0) : k.size ≤ 16 ∧ k ≠ nil ∧ (lFind wl k = none → wl.length < 8) := by
  unfold wrErr at h
  split at h
  · cases h
  · rename_i h1
    split at h
    · cases h
    · rename_i h2
      split at h
      · cases h
      · rename_i h3
        exact ⟨by omega, fun e => h2 (.inl e), fun e => by
          rcases Nat.lt_or_ge wl.length 8 with q | q
          · exact q
          · exact absurd ⟨e, q⟩ h3⟩
/-- what a session writes: keys rising, at most eight, each under its own key, which is short -/
structure WOk (wl : SM) : Prop where
  srt : Srt wl
  len : wl.length ≤ 8
  key : ∀ p ∈ wl, p.2.Key = p.1 ∧ p.1.size ≤ 16
theorem WOk.nil : WOk [] := ⟨List.Pairwise.nil, Nat.zero_le _, fun _ h => by cases h⟩
theorem WOk.put {wl : SM} (h : WOk wl) {k v : ByteArray} {g : Bool} (he : wrErr wl k v g = 0) : WOk (lPut wl k (verOf k v g)) := by
  obtain ⟨h1, -, h3⟩ := wr_key he
  refine ⟨lPut_srt h.srt _ _, ?_, fun p hp => ?_⟩
  · rw [lPut_length h.srt]
    split
    · exact h.len
    · rename_i q
      have := h3 (by simpa using q)
      omega
  · rcases lPut_mem hp with rfl | hp
    · exact ⟨rfl, h1⟩
    · exact h.key p hp
theorem writes_L1 (N : Nat) (sn dp : Int) (wl : SM) (ca : Mp ByteArray T_api_Ver) (h : WOk wl) : ∀ (fuel i : Nat), wl.length - i < fuel → i ≤ wl.length →
    M.session_Session_Writes_L1 N fuel ⟨sn, dp, true, some wl, ca⟩ (wl.map (·.1)) ((wl.map (·.2)).take i) (i : Int) = some (wl.map (·.2)) := fun fuel => by
  induction fuel with
  | zero => intro i hf; omega
  | succ fuel ih =>
    intro i hf hi
    have hl := h.len
    unfold M.session_Session_Writes_L1
    rcases Nat.lt_or_ge i wl.length with hlt | hge
    · have e1 : decide ((i : Int) < ((wl.map (·.1)).length : Int)) = true := decide_eq_true (by rw [List.length_map]; omega)
      have hm : wl[i] ∈ wl := List.getElem_mem hlt
      rw [e1, cond_true, idx_get (by simpa using hlt)]
      simp only [Option.bind_some, List.getElem_map]
      rw [mgt_some (h.srt.find hm)]
      simp only [Option.bind_some]
      rw [apd_ok (by simp; omega)]
      simp only [Option.bind_some]
      rw [wrap_succ (by omega)]
      have := ih (i + 1) (by omega) (by omega)
      rw [← this]
      congr 1
      rw [List.take_add_one]
      simp [hlt]
    · have e1 : decide ((i : Int) < ((wl.map (·.1)).length : Int)) = false := decide_eq_false (by rw [List.length_map]; omega)
      rw [e1, cond_false, List.take_of_length_le (by simpa using hge)]
theorem srtK_eq {wl : SM} (h : WOk wl) : srtK (some wl) = some (wl.map (·.1)) := by
  have hl := h.len
  unfold srtK
  rw [if_pos]
  · rfl
  · simp only [Bool.and_eq_true, List.all_eq_true, decide_eq_true_eq]
    refine ⟨fun k hk => ?_, by simp [mKeys]; omega⟩
    obtain ⟨p, hp, rfl⟩ := List.mem_map.1 (show k ∈ wl.map (·.1) from hk)
    have := (h.key p hp).2
    unfold maxLen; omega
theorem writes_eq (N : Nat) (hN : 10 ≤ N) (sn dp : Int) (wl : SM) (ca : Mp ByteArray T_api_Ver) (h : WOk wl) : M.session_Session_Writes N ⟨sn, dp, true, some wl, ca⟩ = some (wl.map (·.2)) := by
  have hl := h.len
  unfold M.session_Session_Writes
  simp only [Bool.not_true, cond_false, M.maps_Keys_map_string_api_Ver_string_api_Ver_, Option.bind_some, srtK_eq h]
  exact writes_L1 N sn dp wl ca h N 0 (by omega) (Nat.zero_le _)
/-- what is left of the cache -/
def kpt (sn : Int) (cl : SM) : SM := cl.filter fun p => !decide (p.2.TS ≤ sn)
theorem begin_L1 (N : Nat) (s : T_session_Session) (t : Int) (cl : SM) (hs : Srt cl) : ∀ (fuel : Nat) (left : List ByteArray), left.length < fuel →
    M.session_Session_Begin_L1 N fuel s t (some (cl.filter fun p => inL left p.1 || !decide (p.2.TS ≤ (if t > s.snap then t else s.snap)))) left = some ((if t > s.snap then t else s.snap), 0, ⟨if t > s.snap then t else s.snap, s.dep, true, some [], some (kpt (if t > s.snap then t else s.snap) cl)⟩) := fun fuel => by
  induction fuel with
  | zero => intro left h; omega
  | succ fuel ih =>
    intro left hf
    unfold M.session_Session_Begin_L1
    generalize hsn : (if t > s.snap then t else s.snap) = sn at *
    cases hc : cands (some (cl.filter fun p => inL left p.1 || !decide (p.2.TS ≤ sn))) left with
    | nil =>
      simp only [List.isEmpty_nil, cond_true, Option.some.injEq, Prod.mk.injEq, T_session_Session.mk.injEq, true_and]
      refine List.filter_congr fun p hp => ?_
      by_cases hpl : p.1 ∈ left
      · have hpl' := inL_iff.2 hpl
        have : p ∈ cands (some (cl.filter fun p => inL left p.1 || !decide (p.2.TS ≤ sn))) left := by simp [cands, hp, hpl, hpl']
        rw [hc] at this; cases this
      · have hpl' : inL left p.1 = false := by simpa [inL] using hpl
        simp [hpl']
    | cons x0 xs =>
      rw [← hc]
      have hne : (cands (some (cl.filter fun p => inL left p.1 || !decide (p.2.TS ≤ sn))) left).isEmpty = false := by rw [hc]; rfl
      rw [hne, cond_false]
      refine allAgree_mk (by rw [hc]; simp) fun x hx => ?_
      simp only [cands, Option.getD_some, List.mem_filter, decide_eq_true_eq] at hx
      obtain ⟨⟨hxc, -⟩, hxl⟩ := hx
      have hlt := kRem_lt hxl
      by_cases hts : x.2.TS ≤ sn
      · rw [decide_eq_true hts, cond_true, ← ih (kRem left x.1) (by omega)]
        congr 1
        simp only [mDel, Option.map_some, lDel, List.filter_filter]
        congr 1
        refine List.filter_congr fun p hp => ?_
        by_cases e : p.1 = x.1
        · have : p = x := hs.inj hp hxc e
          subst this
          simp [inL_kRem, hts]
        · simp [inL_kRem, e]
      · rw [decide_eq_false hts, cond_false, ← ih (kRem left x.1) (by omega)]
        congr 2
        refine List.filter_congr fun p hp => ?_
        by_cases e : p.1 = x.1
        · have : p = x := hs.inj hp hxc e
          subst this
          simp [hts]
        · simp [inL_kRem, e]
theorem begin_eq (N : Nat) (sn dp : Int) (wm : Mp ByteArray T_api_Ver) (cl : SM) (hs : Srt cl) (hN : cl.length < N) (t : Int) :
    M.session_Session_Begin N ⟨sn, dp, false, wm, some cl⟩ t = some ((if t > sn then t else sn), 0, ⟨if t > sn then t else sn, dp, true, some [], some (kpt (if t > sn then t else sn) cl)⟩) := by
  unfold M.session_Session_Begin
  rw [cond_false]
  have := begin_L1 N ⟨sn, dp, false, wm, some cl⟩ t cl hs N (mKeys (some cl)) (by simpa [mKeys] using hN)
  rw [← this]
  show M.session_Session_Begin_L1 N N _ t (some cl) _ = _
  congr 2
  refine (List.filter_eq_self.2 fun p hp => ?_).symm
  have : p.1 ∈ mKeys (some cl) := List.mem_map.2 ⟨p, hp, rfl⟩
  simp [inL, this]
theorem awake15 (N : Nat) (hN : 10 ≤ N) : M.law15_awake N = some true := by
  unfold M.law15_awake
  simp only [M.session_New, Option.bind_some]
  rw [begin_eq N 0 0 none [] List.Pairwise.nil (by simp; omega)]
  simp only [Option.bind_some]
  have hw : wrErr [] (ByteArray.mk #[97]) (ByteArray.mk #[120]) false = 0 := by
    unfold wrErr
    rw [if_neg (by decide), if_neg (by decide), if_neg (by decide)]
  have h1 : ((if (5 : Int) > 0 then (5 : Int) else 0) == 5) = true := rfl
  rw [h1]
  simp only [cond_true, beq_self_eq_true]
  rw [show (kpt _ [] : SM) = [] from rfl, write_eq, hw]
  simp only [Option.bind_some, beq_self_eq_true, cond_true, if_true]
  rw [writes_eq N hN _ _ _ _ (WOk.nil.put hw)]
  rfl
end Go.Cf
namespace Go.Cf
open Go
theorem pSessionNone (o : T_law15_Op) : M.law15_SessionNone 1000 o = some true := by
  unfold M.law15_SessionNone
  simp only [M.session_Session_Begin_nil0, M.session_Session_Look_nil0, M.session_Session_Write_nil0, M.session_Session_Commit_nil0, M.session_Session_Close_nil0, M.session_Session_Open_nil0, M.session_Session_Snap_nil0, M.session_Session_Low_nil0, M.session_Session_Writes_nil0, Option.bind_some]
  rw [awake15 1000 (by omega)]
  have h := (cEq_ver zVer zVer).2 rfl
  simp only [zVer] at h
  simp only [Option.bind_some, cond_true, beq_self_eq_true, h, Bool.not_false, List.length_nil]
  rfl
end Go.Cf
