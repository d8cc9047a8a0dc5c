/- The plain law of WardenRuns (under way: the loops are left). -/
import Derived.Test.YtjohablgnnbelaaPl10
import Derived.Test.YtjohablgnnbelaaM9r
namespace Go.Cf
open Go
def runs (s : T_config_State) (l : List T_api_Cmd) : T_config_State := l.foldl (fun s c => (applyR s c).1) s
theorem runs_snoc (s : T_config_State) (l : List T_api_Cmd) (c : T_api_Cmd) : runs s (l ++ [c]) = (applyR (runs s l) c).1 := by simp [runs]
theorem runs_ok {s : T_config_State} (ho : OkSt s) (l : List T_api_Cmd) : OkSt (runs s l) := by
  unfold runs
  induction l generalizing s with
  | nil => exact ho
  | cons c l ih => exact ih (ok_apply ho c)
/-- what a warden has behind the commands that it took -/
structure RInv (s : T_config_State) (taken : List T_api_Cmd) (w : T_warden_Warden) (d : Nat) : Prop where
  le : d ≤ taken.length
  done : w.done = d
  queue : w.queue = (taken.drop d).map plainC
  now : w.now = runs s (taken.take d)
  tail : w.tail = runs s taken
theorem RInv.of_same {s : T_config_State} {taken : List T_api_Cmd} {w w' : T_warden_Warden} {d : Nat} (h : RInv s taken w d) (h1 : w'.done = w.done) (h2 : w'.queue = w.queue) (h3 : w'.now = w.now) (h4 : w'.tail = w.tail) : RInv s taken w' d :=
  ⟨h.le, h1.trans h.done, h2.trans h.queue, h3.trans h.now, h4.trans h.tail⟩
theorem RInv.start {s : T_config_State} {taken : List T_api_Cmd} {w : T_warden_Warden} {d : Nat} (h : RInv s taken w d) : RInv s taken (startP w) d := by
  unfold startP
  split
  · split
    · exact h
    · exact h.of_same rfl rfl rfl rfl
  · exact h
theorem RInv.k1 {s : T_config_State} {taken : List T_api_Cmd} {w : T_warden_Warden} {d : Nat} (h : RInv s taken w d) (c : T_api_Cmd) : RInv s taken (k1P w c) d := by
  unfold k1P
  split
  · exact h.of_same rfl rfl rfl rfl
  · exact h
theorem RInv.finish {s : T_config_State} {taken : List T_api_Cmd} {w : T_warden_Warden} {d : Nat} (h : RInv s taken w d) {c : T_api_Cmd} {q : List T_api_Cmd} (hq : w.queue = c :: q) (hb : d < 1000) : RInv s taken (finishP w c q) (d + 1) := by
  unfold finishP
  refine RInv.start ?_
  have hlt : d < taken.length := by
    rcases Nat.lt_or_ge d taken.length with h' | h'
    · exact h'
    · have := h.queue
      rw [hq, List.drop_eq_nil_of_le h'] at this
      cases this
  have hd : taken.drop d = taken[d] :: taken.drop (d + 1) := List.drop_eq_getElem_cons hlt
  have hq' := h.queue
  rw [hq, hd] at hq'
  simp only [List.map_cons, List.cons.injEq] at hq'
  refine ⟨hlt, ?_, hq'.2, ?_, h.tail⟩
  · show IntKind.i64.wrap (w.done + 1) = _
    rw [h.done, wrap_succ (by omega)]
  · show (applyR w.now c).1 = _
    rw [h.now, hq'.1, apply_plain, List.take_succ_eq_append_getElem hlt, runs_snoc]
theorem RInv.takeQ {s : T_config_State} {taken : List T_api_Cmd} {w : T_warden_Warden} {d : Nat} (h : RInv s taken w d) {c : T_api_Cmd} {q : List T_api_Cmd} (hq : w.queue = c :: q) (hb : d < 1000) (dc : Int) (m : T_api_Msg) : RInv s taken (takeQ w c q dc m) d ∨ RInv s taken (takeQ w c q dc m) (d + 1) := by
  unfold Cf.takeQ
  split
  · split
    · exact .inl (h.of_same rfl rfl rfl rfl)
    · split
      · refine .inr (RInv.finish ?_ hq hb); exact h.of_same rfl rfl rfl rfl
      · split
        · refine .inl (RInv.k1 ?_ c); exact h.of_same rfl rfl rfl rfl
        · refine .inl (RInv.k1 ?_ c); exact h.of_same rfl rfl rfl rfl
  · split
    · refine .inl (RInv.k1 ?_ c); exact h.of_same rfl rfl rfl rfl
    · exact .inl (RInv.k1 h c)

theorem k1P_ok {w : T_warden_Warden} {B : Nat} {c : T_api_Cmd} {q : List T_api_Cmd} (hw : WOk w B) (hq : w.queue = c :: q) : WOk (k1P w c) (B + 4) := by
  unfold k1P
  split
  · exact sendP_ok (w := { w with step_ := 3 }) hw.now hw.tail hw.wait hw.out hw.queue hq
  · exact ⟨hw.now, hw.tail, hw.wait, Nat.le_trans hw.out (by omega), hw.queue, hw.busy⟩
theorem WOk.up {w : T_warden_Warden} {B B' : Nat} (h : WOk w B) (hB : B ≤ B') : WOk w B' := ⟨h.now, h.tail, h.wait, Nat.le_trans h.out hB, h.queue, h.busy⟩
theorem takeQ_ok {w : T_warden_Warden} {B : Nat} (hB : B < 999998000) {c : T_api_Cmd} {q : List T_api_Cmd} (hw : WOk w B) (hq : w.queue = c :: q) (dc : Int) (m : T_api_Msg) : WOk (Cf.takeQ w c q dc m) (B + 5) := by
  have ha : WOk (ackW w dc.toNat m.TS) B := ⟨hw.now, hw.tail, by show (w.wait.set _ _).length = 4; rw [List.length_set]; exact hw.wait, hw.out, hw.queue, hw.busy⟩
  unfold Cf.takeQ
  split
  · split
    · exact ha.up (by omega)
    · split
      · exact (finish_eq 100 (Nat.le_refl _) (ackW w dc.toNat m.TS) c q hq B (by omega) ha).2.up (by omega)
      · split
        · refine (k1P_ok (B := B + 1) (q := q) ?_ ?_)
          · exact ⟨ha.now, ha.tail, ha.wait, by have := hw.out; simp; omega, ha.queue, fun _ => by show w.queue ≠ []; rw [hq]; simp⟩
          · exact hq
        · refine (k1P_ok (B := B) (q := q) ?_ ?_).up (by omega)
          · exact ⟨ha.now, ha.tail, ha.wait, ha.out, ha.queue, fun _ => by show w.queue ≠ []; rw [hq]; simp⟩
          · exact hq
  · split
    · refine (k1P_ok (B := B) (q := q) ?_ ?_).up (by omega)
      · exact ⟨hw.now, hw.tail, hw.wait, hw.out, hw.queue, fun _ => by show w.queue ≠ []; rw [hq]; simp⟩
      · exact hq
    · exact (k1P_ok hw hq).up (by omega)
section
variable (N : Nat) (hN : 1000 ≤ N)
include hN
theorem now_eq (w : T_warden_Warden) (h : OkSt w.now) : M.warden_Warden_Now N w = some w.now := by
  unfold M.warden_Warden_Now
  rw [csD, copyS N (by omega) _ h]; rfl
theorem tail_eq (w : T_warden_Warden) (h : OkSt w.tail) : M.warden_Warden_Tail N w = some w.tail := by
  unfold M.warden_Warden_Tail
  rw [csD, copyS N (by omega) _ h]; rfl
theorem told_now (s : T_config_State) (ho : OkSt s) : M.law18_Same N s (told s) = some true := sameS_refl N (by omega) s ho
def good (s : T_config_State) (taken : List T_api_Cmd) : Prop := ∀ k c, taken[k]? = some c → (applyR (runs s (taken.take k)) c).2 = 0
theorem told_step (s : T_config_State) (taken : List T_api_Cmd) (j : Nat) (hj : j < taken.length) : (applyR (runs s (taken.take j)) taken[j]).1 = runs s (taken.take (j + 1)) := by
  have _ := hN
  rw [List.take_succ_eq_append_getElem hj, runs_snoc]
theorem runs_L3 (rec1 : (List T_law19_Op) → (T_config_State × Int) → Int → Int → (List Bool) → (List T_api_Map) → (List Int) → Int → Int → (List Bool) → (List T_api_Map) → (List Int) → (List T_api_Cmd) → Int → Int → Int → (List Bool) → Int → Bool → (List T_api_Mail) → (List T_api_Cmd) → Int → Option (Bool)) (l : List T_law19_Op) (x9 : T_config_State × Int) (i : Int) (w : T_warden_Warden) (s : T_config_State) (ho : OkSt s) (taken : List T_api_Cmd) (d B : Nat) (hi : RInv s taken w d) (hw : WOk w B) (hg : good s taken) (hl : taken.length ≤ 100) :
    ∀ (fuel j : Nat), taken.length - j < fuel → j ≤ taken.length → M.law19_WardenRuns_L3 N rec1 fuel l x9 i w.now.Pool w.now.Nodes w.now.Members w.now.Maps w.now.Modes w.tail.Pool w.tail.Nodes w.tail.Members w.tail.Maps w.tail.Modes w.queue w.done w.epoch w.step_ w.wait w.mark_ w.ready w.out taken (told (runs s (taken.take j))).Pool (told (runs s (taken.take j))).Nodes (told (runs s (taken.take j))).Members (told (runs s (taken.take j))).Maps (told (runs s (taken.take j))).Modes (j : Int) =
      rec1 l x9 w.now.Pool w.now.Nodes w.now.Members w.now.Maps w.now.Modes w.tail.Pool w.tail.Nodes w.tail.Members w.tail.Maps w.tail.Modes w.queue w.done w.epoch w.step_ w.wait w.mark_ w.ready w.out taken (IntKind.i64.wrap (i + 1)) := by
  intro fuel
  induction fuel with
  | zero => intro j h; omega
  | succ fuel ih =>
    intro j hf hj
    simp only [M.law19_WardenRuns_L3]
    by_cases hlt : j < taken.length
    · have hok := runs_ok ho (taken.take j)
      rw [decide_eq_true (by omega : (j : Int) < ((taken.length : Nat) : Int)), idx_get hlt, wD w, rsD, show M.warden_Warden_Acked N w = some w.done from rfl, now_eq N hN w hw.now, wrap_succ (by omega)]
      have hz := hg j taken[j] (by simp [hlt])
      have hb : (bif ((j : Int) == w.done) then ((some w.now).bind fun x234 => (M.law18_Same N (T_config_State.mk x234.Pool x234.Nodes x234.Members x234.Maps x234.Modes) (told (runs s (taken.take j)))).bind fun x236 => some (!x236)) else some false) = some false := by
        by_cases hd : (j : Int) = w.done
        · have hdj : d = j := by have := hi.done; omega
          subst hdj
          rw [← hi.now]
          simp only [Option.bind_some, csD, told_now N hN w.now hw.now]
          cases ((d : Int) == w.done) <;> rfl
        · rw [beq_eq_false_iff_ne.2 hd]; rfl
      simp only [cond_true, Option.bind_some]
      simp only [Option.bind_some] at hb
      rw [hb]
      simp only [Option.bind_some, cond_false, cmdD, (apply_eq N (by omega) _ taken[j] hok).2, hz, bne_self_eq_false, told_step N hN s taken j hlt]
      exact ih (j + 1) (by omega) (by omega)
    · have hjl : j = taken.length := by omega
      subst hjl
      rw [decide_eq_false (by omega : ¬ ((taken.length : Nat) : Int) < ((taken.length : Nat) : Int)), wD w, rsD, tail_eq N hN w hw.tail, List.take_length, ← hi.tail]
      simp only [cond_false, Option.bind_some, csD, told_now N hN w.tail hw.tail, Bool.not_true]
theorem runs_k2 (rec1 : (List T_law19_Op) → (T_config_State × Int) → Int → Int → (List Bool) → (List T_api_Map) → (List Int) → Int → Int → (List Bool) → (List T_api_Map) → (List Int) → (List T_api_Cmd) → Int → Int → Int → (List Bool) → Int → Bool → (List T_api_Mail) → (List T_api_Cmd) → Int → Option (Bool)) (l : List T_law19_Op) (e : Int) (i : Int) (w : T_warden_Warden) (s : T_config_State) (ho : OkSt s) (taken : List T_api_Cmd) (d B : Nat) (hi : RInv s taken w d) (hw : WOk w B) (hg : good s taken) (hl : taken.length ≤ 100) :
    M.law19_WardenRuns_k2 N rec1 l (s, e) i w.now.Pool w.now.Nodes w.now.Members w.now.Maps w.now.Modes w.tail.Pool w.tail.Nodes w.tail.Members w.tail.Maps w.tail.Modes w.queue w.done w.epoch w.step_ w.wait w.mark_ w.ready w.out taken =
      rec1 l (s, e) w.now.Pool w.now.Nodes w.now.Members w.now.Maps w.now.Modes w.tail.Pool w.tail.Nodes w.tail.Members w.tail.Maps w.tail.Modes w.queue w.done w.epoch w.step_ w.wait w.mark_ w.ready w.out taken (IntKind.i64.wrap (i + 1)) := by
  unfold M.law19_WardenRuns_k2
  rw [wD w, show M.warden_Warden_Acked N w = some w.done from rfl, show M.warden_Warden_Pending N w = some (w.queue.length : Int) from rfl]
  have hq : w.queue.length = taken.length - d := by rw [hi.queue]; simp
  have hle := hi.le
  have hs : IntKind.i64.wrap (w.done + (w.queue.length : Int)) = ((taken.length : Nat) : Int) := by
    rw [hi.done, hq, wrap_small (by omega) (by omega)]; omega
  have h8 := hw.queue
  simp only [Option.bind_some, hs, bne_self_eq_false, cond_false]
  rw [decide_eq_false (by omega : ¬ ((w.queue.length : Nat) : Int) > 8)]
  simp only [Option.bind_some, cond_false, csD, told_eq]
  exact runs_L3 N hN rec1 l (s, e) i w s ho taken d B hi hw hg hl N 0 (by omega) (by omega)
end
theorem ask_runs {s : T_config_State} {taken : List T_api_Cmd} {w : T_warden_Warden} {d B : Nat} (hi : RInv s taken w d) (hw : WOk w B) (hl : taken.length ≤ 100) (c : T_api_Cmd) :
    (∃ e, e ≠ 0 ∧ askP w c = (0, e, w)) ∨ (∃ w', askP w c = (((taken.length : Nat) : Int), 0, w') ∧ RInv s (taken ++ [c]) w' d ∧ (applyR (runs s taken) c).2 = 0) := by
  unfold askP
  by_cases h8 : w.queue.length ≥ 8
  · rw [if_pos h8]; exact .inl ⟨9, by decide, rfl⟩
  · rw [if_neg h8]
    by_cases he : (applyR w.tail c).2 = 0
    · rw [if_neg (by simp [he])]
      have hle := hi.le
      have h0 : RInv s (taken ++ [c]) { w with tail := (applyR w.tail c).1, queue := w.queue ++ [plainC c] } d := by
        refine ⟨by simp; omega, hi.done, ?_, ?_, ?_⟩
        · show w.queue ++ [plainC c] = _
          rw [hi.queue, List.drop_append_of_le_length hle, List.map_append]; rfl
        · show w.now = _
          rw [hi.now, List.take_append_of_le_length hle]
        · show (applyR w.tail c).1 = _
          rw [hi.tail, runs_snoc]
      have h1 := h0.start
      refine .inr ⟨_, ?_, h1, by rw [← hi.tail]; exact he⟩
      have hq : (startP { w with tail := (applyR w.tail c).1, queue := w.queue ++ [plainC c] }).queue.length = taken.length + 1 - d := by rw [h1.queue]; simp
      simp only [h1.done, hq]
      rw [show IntKind.i64.wrap ((d : Int) + ((taken.length + 1 - d : Nat) : Int)) = ((taken.length + 1 : Nat) : Int) from by rw [wrap_small (by omega) (by omega)]; omega, wrap_small (by omega) (by omega)]
      rw [show (((taken.length + 1 : Nat) : Int) - 1) = ((taken.length : Nat) : Int) from by omega]
    · rw [if_pos he]; exact .inl ⟨_, he, rfl⟩
theorem good_snoc {s : T_config_State} {taken : List T_api_Cmd} (h : good s taken) {c : T_api_Cmd} (hc : (applyR (runs s taken) c).2 = 0) : good s (taken ++ [c]) := by
  intro k x hk
  rcases Nat.lt_trichotomy k taken.length with h1 | h1 | h1
  · rw [List.getElem?_append_left h1] at hk
    rw [List.take_append_of_le_length (by omega)]
    exact h k x hk
  · subst h1
    simp at hk
    subst hk
    simpa using hc
  · rw [List.getElem?_eq_none (by simp; omega)] at hk; cases hk
section
variable (N : Nat) (hN : 1000 ≤ N) (haw : M.law19_awake N = some true)
include hN haw
theorem runs_L1 (l : List T_law19_Op) (s : T_config_State) (ho : OkSt s) (e0 : Int) : ∀ (fuel i : Nat) (w : T_warden_Warden) (taken : List T_api_Cmd) (d : Nat), 100 - i < fuel → i ≤ 100 → RInv s taken w d → WOk w (5 * i) → good s taken → taken.length ≤ i →
    M.law19_WardenRuns_L1 N fuel l (s, e0) w.now.Pool w.now.Nodes w.now.Members w.now.Maps w.now.Modes w.tail.Pool w.tail.Nodes w.tail.Members w.tail.Maps w.tail.Modes w.queue w.done w.epoch w.step_ w.wait w.mark_ w.ready w.out taken (i : Int) = some true := by
  intro fuel
  induction fuel with
  | zero => intro i w taken d h; omega
  | succ fuel ih =>
    intro i w taken d hf hi hr hw hg hl
    simp only [M.law19_WardenRuns_L1, haw]
    by_cases hlt : i < l.length ∧ i < 100
    · have go : ∀ (w' : T_warden_Warden) (taken' : List T_api_Cmd) (d' : Nat), RInv s taken' w' d' → WOk w' (5 * i + 5) → good s taken' → taken'.length ≤ i + 1 →
          M.law19_WardenRuns_k2 N (M.law19_WardenRuns_L1 N fuel) l (s, e0) (i : Int) w'.now.Pool w'.now.Nodes w'.now.Members w'.now.Maps w'.now.Modes w'.tail.Pool w'.tail.Nodes w'.tail.Members w'.tail.Maps w'.tail.Modes w'.queue w'.done w'.epoch w'.step_ w'.wait w'.mark_ w'.ready w'.out taken' = some true := fun w' taken' d' h1 h2 h3 h4 => by
        refine (runs_k2 N hN _ l e0 (i : Int) w' s ho taken' d' (5 * i + 5) h1 h2 h3 (by omega)).trans ?_
        rw [wrap_succ (by omega)]
        exact ih (i + 1) w' taken' d' (by omega) (by omega) h1 h2 h3 h4
      rw [decide_eq_true (by omega : (i : Int) < ((l.length : Nat) : Int)), decide_eq_true (by omega : (i : Int) < 100), idx_get hlt.1, wD w]
      simp only [cond_true, Option.bind_some]
      cases ha : l[i].Ask with
      | true =>
        simp only [cond_true, cmdD]
        obtain ⟨h1, h2⟩ := ask_eq N (by omega) w l[i].Cmd (5 * i) (by omega) hw
        rw [tail_eq N hN w hw.tail, show M.warden_Warden_Pending N w = some (w.queue.length : Int) from rfl, h1]
        simp only [Option.bind_some]
        rcases ask_runs hr hw (by omega) l[i].Cmd with ⟨e, he, e1⟩ | ⟨w', e1, e2, e3⟩
        · rw [e1, bne_iff_ne.2 he]
          simp only [cond_true, wD]
          rw [tail_eq N hN w hw.tail, show M.warden_Warden_Pending N w = some (w.queue.length : Int) from rfl]
          simp only [Option.bind_some, csD, told_eq, rsD, told_now N hN w.tail hw.tail, Bool.not_true, cond_false, bne_self_eq_false]
          exact go w taken d hr (hw.up (by omega)) hg (by omega)
        · rw [e1] at h2 ⊢
          simp only [bne_self_eq_false, cond_false]
          rw [apd_ok (by simp; omega)]
          simp only [Option.bind_some]
          exact go w' (taken ++ [l[i].Cmd]) d e2 (WOk.up h2 (by omega)) (good_snoc hg e3) (by simp; omega)
      | false =>
        simp only [cond_false]
        have hmD : (T_api_Msg.mk l[i].Msg.Kind l[i].Msg.Id l[i].Msg.N l[i].Msg.TS l[i].Msg.Lo l[i].Msg.Hi l[i].Msg.Vers l[i].Msg.Vec (T_api_Cmd.mk l[i].Msg.Cmd.Kind l[i].Msg.Cmd.DC l[i].Msg.Cmd.Shard l[i].Msg.Cmd.Node l[i].Msg.Cmd.Mode l[i].Msg.Cmd.Key)) = l[i].Msg := rfl
        rw [hmD]
        by_cases hs : skips w l[i].DC l[i].Msg
        · rw [take_skip N w _ _ hs]
          simp only [Option.bind_some]
          exact go w taken d hr (hw.up (by omega)) hg (by omega)
        · have hst : w.step_ ≠ 0 := fun e => hs (.inr (.inr (.inl e)))
          obtain ⟨c, q, hq⟩ : ∃ c q, w.queue = c :: q := by
            cases hq : w.queue with
            | nil => exact absurd hq (hw.busy hst)
            | cons c q => exact ⟨c, q, rfl⟩
          rw [take_go N (by omega) w _ _ hs c q hq (5 * i) (by omega) hw]
          simp only [Option.bind_some]
          have hd : d < 1000 := by have := hr.le; omega
          rcases hr.takeQ hq hd l[i].DC l[i].Msg with h1 | h1
          · exact go _ taken d h1 (takeQ_ok (by omega) hw hq _ _) hg (by omega)
          · exact go _ taken (d + 1) h1 (takeQ_ok (by omega) hw hq _ _) hg (by omega)
    · have hb : (bif decide ((i : Int) < ((l.length : Nat) : Int)) then (some (decide ((i : Int) < 100))) else (some false)) = some false := by
        by_cases h1 : i < l.length
        · rw [decide_eq_false (by omega : ¬ (i : Int) < 100)]; cases decide ((i : Int) < ((l.length : Nat) : Int)) <;> rfl
        · rw [decide_eq_false (by omega : ¬ (i : Int) < ((l.length : Nat) : Int))]; rfl
      rw [hb]
      rfl
end
theorem pRunsN (N : Nat) (hN : 1000 ≤ N) (haw : M.law19_awake N = some true) (a b c : Int) (hst : M.config_Start N a b c = some (startR a b c)) (l : List T_law19_Op) : M.law19_WardenRuns N a b c l = some true := by
  unfold M.law19_WardenRuns
  rw [hst]
  unfold startR
  by_cases hbad : startBad a b c
  · rw [if_pos hbad]
    simp [haw]
  · rw [if_neg hbad]
    have hv := (start_valid hbad).ok
    simp only [Option.bind_some, bne_self_eq_false, cond_false, csD, new_eq N (by omega) _ hv]
    exact runs_L1 N hN haw l _ hv 0 N 0 (newP _) [] 0 (by omega) (by omega) ⟨Nat.le_refl _, rfl, rfl, rfl, rfl⟩ (newP_ok hv) (fun k c h => by simp at h) (Nat.le_refl _)
theorem pWardenRuns (a b c : Int) (l : List T_law19_Op) : M.law19_WardenRuns 1000 a b c l = some true := pRunsN 1000 (Nat.le_refl _) awake19w a b c (start_eq a b c) l
end Go.Cf
