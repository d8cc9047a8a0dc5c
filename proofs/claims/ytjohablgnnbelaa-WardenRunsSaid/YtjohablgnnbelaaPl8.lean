/- Plain facts on configurations: first ones, and what holds of all that come of them. -/
import Derived.Test.YtjohablgnnbelaaPl7
namespace Go.Cf
open Go
def startM (p m n : Nat) : T_config_State := ⟨p, n, (List.range 4).map fun i => decide (i < m), (List.range 4).map fun i => if i < m then ⟨[], [0]⟩ else ⟨[], []⟩, (List.range 21).map fun i => if 0 < i ∧ (i - 1) / 5 < m ∧ (i - 1) % 5 ≤ n then 1 else 2⟩
def startBad (a b c : Int) : Prop := a < 1 ∨ a > 4 ∨ b < 1 ∨ b > a ∨ c < 1 ∨ c > 4
instance (a b c : Int) : Decidable (startBad a b c) := inferInstanceAs (Decidable (_ ∨ _))
def startR (a b c : Int) : T_config_State × Int := if startBad a b c then (zst, 1) else (startM a.toNat b.toNat c.toNat, 0)
theorem or6 (a b c d e f : Prop) [Decidable a] [Decidable b] [Decidable c] [Decidable d] [Decidable e] [Decidable f] : (bif decide a then (some true) else (bif decide b then (some true) else (bif decide c then (some true) else (bif decide d then (some true) else (bif decide e then (some true) else (some (decide f))))))) = some (decide (a ∨ b ∨ c ∨ d ∨ e ∨ f)) := by
  by_cases ha : a <;> by_cases hb : b <;> by_cases hc : c <;> by_cases hd : d <;> by_cases he : e <;> simp [ha, hb, hc, hd, he]
theorem start_in : ∀ p ∈ [1, 2, 3, 4], ∀ m ∈ [1, 2, 3, 4], m ≤ p → ∀ n ∈ [1, 2, 3, 4], M.config_Start 1000 ((p : Nat) : Int) ((m : Nat) : Int) ((n : Nat) : Int) = some (startM p m n, 0) := by
  intro p hp m hm hmp n hn
  simp only [List.mem_cons, List.not_mem_nil, or_false] at hp hm hn
  rcases hp with rfl | rfl | rfl | rfl <;> rcases hm with rfl | rfl | rfl | rfl <;> first | (exfalso; omega) | (rcases hn with rfl | rfl | rfl | rfl <;> kernel_rfl)
theorem start_eq (a b c : Int) : M.config_Start 1000 a b c = some (startR a b c) := by
  unfold startR
  by_cases h : startBad a b c
  · rw [if_pos h]
    unfold M.config_Start
    rw [or6, decide_eq_true (show a < 1 ∨ a > 4 ∨ b < 1 ∨ b > a ∨ c < 1 ∨ c > 4 from h)]
    rfl
  · rw [if_neg h]
    unfold startBad at h
    have := start_in a.toNat (by simp; omega) b.toNat (by simp; omega) (by omega) c.toNat (by simp; omega)
    rw [show ((a.toNat : Nat) : Int) = a from by omega, show ((b.toNat : Nat) : Int) = b from by omega, show ((c.toNat : Nat) : Int) = c from by omega] at this
    exact this
structure Valid (s : T_config_State) (pool nodes : Int) : Prop where
  ok : OkSt s
  poolE : s.Pool = pool
  nodesE : s.Nodes = nodes
  p4 : 1 ≤ pool ∧ pool ≤ 4
  n4 : 1 ≤ nodes ∧ nodes ≤ 4
  right : ∀ i, i < 4 → s.Members.getD i false = true → Right (mapOf s i) nodes
  out : ∀ i, i < 4 → s.Members.getD i false = false → mapOf s i = empt
  modes : ∀ m ∈ s.Modes, m = 1 ∨ m = 2 ∨ m = 3
  agree : has s.Modes 1 = false ∨ has s.Modes 3 = false
  any : 0 < cnt s.Members
theorem has_iff (l : List Int) (m : Int) : has l m = true ↔ m ∈ l := by simp [has]
theorem has_false (l : List Int) (m : Int) : has l m = false ↔ m ∉ l := by
  rw [← has_iff]; simp
theorem right_one (nodes : Int) (h : 1 ≤ nodes ∧ nodes ≤ 4) : Right ⟨[], [0]⟩ nodes :=
  ⟨h.1, h.2, by simp, rfl, fun i hi => by simp at hi, fun i hi => by simp at hi, fun n hn => by simp at hn; omega⟩
theorem start_valid {a b c : Int} (h : ¬ startBad a b c) : Valid (startM a.toNat b.toNat c.toNat) a c := by
  unfold startBad at h
  refine ⟨⟨by simp [startM], by simp [startM], by simp [startM], fun m hm => ?_⟩, by show ((a.toNat : Nat) : Int) = a; omega, by show ((c.toNat : Nat) : Int) = c; omega, by omega, by omega, fun i hi hm => ?_, fun i hi hm => ?_, fun m hm => ?_, .inr ?_, ?_⟩
  · simp only [startM, List.mem_map] at hm
    obtain ⟨i, _, rfl⟩ := hm
    split <;> simp
  · simp only [startM, mapOf] at hm ⊢
    rw [List.getD_eq_getElem?_getD, List.getElem?_map, List.getElem?_range (by omega)] at hm ⊢
    simp only [Option.map_some, Option.getD_some, decide_eq_true_eq] at hm ⊢
    rw [if_pos hm]
    exact right_one c (by omega)
  · simp only [startM, mapOf] at hm ⊢
    rw [List.getD_eq_getElem?_getD, List.getElem?_map, List.getElem?_range (by omega)] at hm ⊢
    simp only [Option.map_some, Option.getD_some, decide_eq_false_iff_not] at hm ⊢
    rw [if_neg hm]; rfl
  · simp only [startM, List.mem_map] at hm
    obtain ⟨i, _, rfl⟩ := hm
    split <;> simp
  · rw [has_false]
    intro hm
    simp only [startM, List.mem_map] at hm
    obtain ⟨i, _, hi⟩ := hm
    split at hi <;> omega
  · unfold cnt
    rw [List.countP_pos_iff]
    refine ⟨true, ?_, rfl⟩
    simp only [startM, List.mem_map]
    exact ⟨0, by simp, by simp; omega⟩
theorem mem_setFrom {l : List Int} {p k : Nat} {m : Int} (h : m ∈ setFrom l p k) : m = 2 ∨ m ∈ l := by
  obtain ⟨i, hi, he⟩ := List.getElem_of_mem h
  have h2 := List.getElem?_eq_getElem hi
  rw [he, setFrom_get] at h2
  split at h2
  · left; simpa using h2.symm
  · right; exact List.mem_of_getElem? h2
theorem cnt_set {l : List Bool} {i : Nat} (b : Bool) (h : i < l.length) : cnt (l.set i b) + (if l.getD i false then 1 else 0) = cnt l + (if b then 1 else 0) := by
  induction l generalizing i with
  | nil => simp at h
  | cons x l ih =>
    cases i with
    | zero => cases x <;> cases b <;> simp [cnt]
    | succ i =>
      have := ih (i := i) (by simpa using h)
      simp only [cnt, List.set_cons_succ, List.countP_cons, List.getD_cons_succ] at this ⊢
      omega
theorem getD_set_eq {α : Type} {l : List α} {i : Nat} {a d : α} (h : i < l.length) : (l.set i a).getD i d = a := by
  rw [List.getD_eq_getElem?_getD, List.getElem?_set]; simp [h]
theorem getD_set_ne' {α : Type} {l : List α} {i j : Nat} {a d : α} (h : i ≠ j) : (l.set j a).getD i d = l.getD i d := by
  rw [List.getD_eq_getElem?_getD, List.getD_eq_getElem?_getD, set_ne h]
theorem right_splitR {x : T_api_Map} {n i : Int} {k : ByteArray} (h : (splitR x n i k).2 = 0) : Right (splitR x n i k).1 n := by
  unfold splitR at h ⊢
  split
  · rename_i h'; exact right_split (split_ok h').2
  · rename_i h'; rw [if_neg h'] at h; exact absurd h h'
theorem right_mergeR {x : T_api_Map} {n i : Int} (h : (mergeR x n i).2 = 0) : Right (mergeR x n i).1 n := by
  unfold mergeR at h ⊢
  split
  · rename_i h'; exact right_merge (merge_ok h').2
  · rename_i h'; rw [if_neg h'] at h; exact absurd h h'
theorem right_moveR {x : T_api_Map} {n i k : Int} (h : (moveR x n i k).2 = 0) : Right (moveR x n i k).1 n := by
  unfold moveR at h ⊢
  split
  · rename_i h'; exact right_move (move_ok h').2
  · rename_i h'; rw [if_neg h'] at h; exact absurd h h'
theorem valid_map {s : T_config_State} {pool nodes : Int} (hv : Valid s pool nodes) {dc : Nat} (hd : dc < 4) (m : T_api_Map) (hm : s.Members.getD dc false = true) (hr : Right m nodes) : Valid (withMap s dc m) pool nodes := by
  have hl : dc < s.Maps.length := by rw [hv.ok.maps]; exact hd
  refine ⟨ok_setMap hv.ok dc m (right_small hr).1 (right_small hr).2 _ hv.ok.mem _ hv.ok.modes, hv.poolE, hv.nodesE, hv.p4, hv.n4, fun i hi hmi => ?_, fun i hi hmi => ?_, hv.modes, hv.agree, hv.any⟩
  · by_cases hid : i = dc
    · subst hid
      rw [show mapOf (withMap s i m) i = m from getD_set_eq hl]; exact hr
    · rw [show mapOf (withMap s dc m) i = mapOf s i from getD_set_ne' hid]; exact hv.right i hi hmi
  · by_cases hid : i = dc
    · subst hid
      have hmi' : s.Members.getD i false = false := hmi
      rw [hm] at hmi'; cases hmi'
    · rw [show mapOf (withMap s dc m) i = mapOf s i from getD_set_ne' hid]; exact hv.out i hi hmi
theorem valid_swap {s : T_config_State} {pool nodes : Int} (hv : Valid s pool nodes) {dc : Nat} (hd : dc < 4) (b : Bool) (m : T_api_Map) (hm1 : b = true → Right m nodes) (hm2 : b = false → m = empt)
    (hok : OkSt (bothM ⟨s.Pool, s.Nodes, s.Members.set dc b, s.Maps.set dc m, s.Modes⟩ dc)) (hc : 0 < cnt (s.Members.set dc b)) : Valid (bothM ⟨s.Pool, s.Nodes, s.Members.set dc b, s.Maps.set dc m, s.Modes⟩ dc) pool nodes := by
  have hmem : dc < s.Members.length := by rw [hv.ok.mem]; exact hd
  have hmaps : dc < s.Maps.length := by rw [hv.ok.maps]; exact hd
  have e1 : ∀ i, (bothM ⟨s.Pool, s.Nodes, s.Members.set dc b, s.Maps.set dc m, s.Modes⟩ dc).Members.getD i false = (s.Members.set dc b).getD i false := fun _ => rfl
  have e2 : ∀ i, mapOf (bothM ⟨s.Pool, s.Nodes, s.Members.set dc b, s.Maps.set dc m, s.Modes⟩ dc) i = (s.Maps.set dc m).getD i empt := fun _ => rfl
  refine ⟨hok, hv.poolE, hv.nodesE, hv.p4, hv.n4, fun i hi hmi => ?_, fun i hi hmi => ?_, fun m hm => ?_, ?_, hc⟩
  · rw [e1] at hmi
    rw [e2]
    by_cases hid : i = dc
    · subst hid
      rw [getD_set_eq hmem] at hmi
      rw [getD_set_eq hmaps]; exact hm1 hmi
    · rw [getD_set_ne' hid] at hmi
      rw [getD_set_ne' hid]
      exact hv.right i hi hmi
  · rw [e1] at hmi
    rw [e2]
    by_cases hid : i = dc
    · subst hid
      rw [getD_set_eq hmem] at hmi
      rw [getD_set_eq hmaps]; exact hm2 hmi
    · rw [getD_set_ne' hid] at hmi
      rw [getD_set_ne' hid]
      exact hv.out i hi hmi
  · rcases mem_setFrom hm with rfl | hm
    · exact .inr (.inl rfl)
    · exact hv.modes m hm
  · refine hv.agree.imp (fun h => ?_) (fun h => ?_) <;> rw [has_false] at h ⊢ <;> exact fun hm => (mem_setFrom hm).elim (by omega) h
theorem valid_apply {s : T_config_State} {pool nodes : Int} (hv : Valid s pool nodes) (c : T_api_Cmd) (h : (applyR s c).2 = 0) : Valid (applyR s c).1 pool nodes := by
  have hp : (applyP s c).2 = 0 := by
    unfold applyR at h
    split at h
    · rename_i h'; exact h'
    · exact h
  have hr : (applyR s c).1 = (applyP s c).1 := by unfold applyR; rw [if_pos hp]
  have hok := ok_apply hv.ok c
  rw [hr] at hok ⊢
  unfold applyP at hp hok ⊢
  split at hp
  · cases hp
  · rename_i h0
    rw [if_neg h0] at hok ⊢
    split at hp
    · cases hp
    · rename_i h1
      rw [if_neg h1] at hok ⊢
      obtain ⟨dc, hdc⟩ : ∃ dc : Nat, c.DC = dc := ⟨c.DC.toNat, by omega⟩
      have hdc4 : dc < 4 := by omega
      rw [hdc, Int.toNat_natCast] at hp hok ⊢
      have hmem : dc < s.Members.length := by rw [hv.ok.mem]; exact hdc4
      have hmaps : dc < s.Maps.length := by rw [hv.ok.maps]; exact hdc4
      split at hp
      · rename_i k1
        rw [if_pos k1] at hok ⊢
        split at hp
        · cases hp
        · rename_i hm
          rw [if_neg hm] at hok ⊢
          have hm' : s.Members.getD dc false = false := by simpa using hm
          have := cnt_set true hmem
          rw [hm'] at this
          simp only [if_true, Bool.false_eq_true, if_false] at this
          exact valid_swap hv hdc4 true _ (fun _ => right_one nodes hv.n4) (fun h => by cases h) hok (by omega)
      · rename_i k1
        rw [if_neg k1] at hok ⊢
        split at hp
        · rename_i hm
          rw [if_pos hm] at hok ⊢
          have hR := hv.right dc hdc4 hm
          unfold inner at hp hok ⊢
          split at hp
          · rename_i k2
            rw [if_pos k2] at hok ⊢
            split at hp
            · cases hp
            · rename_i hc1
              rw [if_neg hc1] at hok ⊢
              have := cnt_set false hmem
              rw [hm] at this
              simp only [if_true, Bool.false_eq_true, if_false] at this
              have hany := hv.any
              exact valid_swap hv hdc4 false _ (fun h => by cases h) (fun _ => rfl) hok (by omega)
          · rename_i k2
            rw [if_neg k2] at hok ⊢
            split at hp
            · rename_i k3
              rw [if_pos k3] at hok ⊢
              have := right_splitR hp
              rw [hv.nodesE] at this ⊢
              exact valid_map hv hdc4 _ hm this
            · rename_i k3
              rw [if_neg k3] at hok ⊢
              split at hp
              · rename_i k4
                rw [if_pos k4] at hok ⊢
                have := right_mergeR hp
                rw [hv.nodesE] at this ⊢
                exact valid_map hv hdc4 _ hm this
              · rename_i k4
                rw [if_neg k4] at hok ⊢
                split at hp
                · rename_i k5
                  rw [if_pos k5] at hok ⊢
                  have := right_moveR hp
                  rw [hv.nodesE] at this ⊢
                  exact valid_map hv hdc4 _ hm this
                · rename_i k5
                  rw [if_neg k5] at hok ⊢
                  have hp' : speakE s c dc = 0 := hp
                  unfold speakE at hp'
                  split at hp'
                  · cases hp'
                  · rename_i hb
                    split at hp'
                    · cases hp'
                    · split at hp'
                      · cases hp'
                      · split at hp'
                        · cases hp'
                        · rename_i hw
                          refine ⟨hok, hv.poolE, hv.nodesE, hv.p4, hv.n4, hv.right, hv.out, fun m hmm => ?_, ?_, hv.any⟩
                          · rcases List.mem_or_eq_of_mem_set hmm with hmm | rfl
                            · exact hv.modes m hmm
                            · omega
                          · have sub : ∀ x : Int, x ≠ c.Mode → has s.Modes x = false → has (speakM s c dc).Modes x = false := fun x hx hh => by
                              rw [has_false] at hh ⊢
                              exact fun hm2 => (List.mem_or_eq_of_mem_set hm2).elim hh hx
                            simp only [not_or, not_and, Bool.not_eq_true] at hw
                            by_cases m1 : c.Mode = 1
                            · exact .inr (sub 3 (by omega) (hw.2 m1))
                            · by_cases m3 : c.Mode = 3
                              · exact .inl (sub 1 (by omega) (hw.1 m3))
                              · exact hv.agree.imp (sub 1 (by omega)) (sub 3 (by omega))
        · cases hp
end Go.Cf
