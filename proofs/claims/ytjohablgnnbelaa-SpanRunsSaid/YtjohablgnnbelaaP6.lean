/- The plain laws of SpanChanges, SpanRuns. -/
import Derived.Test.YtjohablgnnbelaaPl5
import Derived.Test.YtjohablgnnbelaaM5c
import Derived.Test.YtjohablgnnbelaaM5r
namespace Go.Cf
open Go
theorem awake6 : M.law08_awake 1000 = some true := by kernel_rfl
theorem great6 (N : Nat) (x : T_api_Map) : M.law08_great N x = some (decide (300 < x.Cuts.length) || decide (300 < x.Nodes.length)) := by
  unfold M.law08_great
  have h1 : decide ((x.Cuts.length : Int) > 300) = decide (300 < x.Cuts.length) := decide_eq_decide.2 (by omega)
  have h2 : decide ((x.Nodes.length : Int) > 300) = decide (300 < x.Nodes.length) := decide_eq_decide.2 (by omega)
  rw [h1, h2]
  cases decide (300 < x.Cuts.length) <;> rfl
/-- what a change comes to -/
structure Fine (r : T_api_Map × Int) (nodes : Int) : Prop where
  cuts : r.1.Cuts.length ≤ 9
  len : r.1.Nodes.length ≤ 9
  right : r.2 = 0 → Right r.1 nodes
theorem fine_of {x : T_api_Map} {nodes : Int} (h : Right x nodes) : Fine (x, 0) nodes := ⟨by have := h.form; have := h.most; show x.Cuts.length ≤ 9; omega, by have := h.most; show x.Nodes.length ≤ 9; omega, fun _ => h⟩
theorem fine_split (x : T_api_Map) (nodes i : Int) (key : ByteArray) : Fine (splitR x nodes i key) nodes := by
  unfold splitR
  by_cases h : splitE x nodes i key = 0
  · rw [if_pos h]; exact fine_of (right_split (split_ok h).2)
  · rw [if_neg h]; exact ⟨by simp [empt], by simp [empt], fun h' => absurd h' h⟩
theorem fine_merge (x : T_api_Map) (nodes i : Int) : Fine (mergeR x nodes i) nodes := by
  unfold mergeR
  by_cases h : mergeE x nodes i = 0
  · rw [if_pos h]; exact fine_of (right_merge (merge_ok h).2)
  · rw [if_neg h]; exact ⟨by simp [empt], by simp [empt], fun h' => absurd h' h⟩
theorem fine_move (x : T_api_Map) (nodes i node : Int) : Fine (moveR x nodes i node) nodes := by
  unfold moveR
  by_cases h : moveE x nodes i node = 0
  · rw [if_pos h]; exact fine_of (right_move (move_ok h).2)
  · rw [if_neg h]; exact ⟨by simp [empt], by simp [empt], fun h' => absurd h' h⟩
theorem Fine.same {r : T_api_Map × Int} {nodes : Int} (h : Fine r nodes) : M.ref08_Same 1000 r.1 r.1 = some true := same_refl 1000 r.1 (by have := h.cuts; omega) (by have := h.len; omega) (by have := h.len; omega) (by have := h.cuts; omega)
theorem Fine.chk {r : T_api_Map × Int} {nodes : Int} (h : Fine r nodes) : M.span_Check 1000 r.1 nodes = some (Cf.chk r.1 nodes) := by
  have h1 := h.cuts
  have h2 : (9 : Nat) ≤ maxLen := by decide
  exact (chk_eq 1000 (by omega) r.1 nodes (by omega)).1
theorem Fine.ok {r : T_api_Map × Int} {nodes : Int} (h : Fine r nodes) (h0 : (r.2 != 0) = false) : (Cf.chk r.1 nodes == 0) = true := by
  have : r.2 = 0 := by simpa using h0
  simpa using (chk_iff _ _).2 (h.right this)
theorem pSpanChanges (x : T_api_Map) (nodes i node : Int) (key : ByteArray) (hx : x.Cuts.length ≤ maxLen) : M.law08_SpanChanges 1000 x nodes i node key = some true := by
  unfold M.law08_SpanChanges
  have h1 := fine_split x nodes i key
  have h2 := fine_merge x nodes i
  have h3 := fine_move x nodes i node
  simp only [show ∀ y : T_api_Map, (T_api_Map.mk y.Cuts y.Nodes) = y from fun _ => rfl, great6, awake6, (split_eq 1000 (by omega) x nodes i key hx).1, (split_eq 1000 (by omega) x nodes i key hx).2, (merge_eq 1000 (by omega) x nodes i hx).1, (merge_eq 1000 (by omega) x nodes i hx).2,
    (move_eq 1000 (by omega) x nodes i node hx).1, (move_eq 1000 (by omega) x nodes i node hx).2, Option.bind_some]
  cases decide (300 < x.Cuts.length) || decide (300 < x.Nodes.length) with
  | true => rfl
  | false =>
    simp only [cond_false, bne_self_eq_false, h1.same, h2.same, h3.same, h1.chk, h2.chk, h3.chk, Option.bind_some, Bool.not_true, cond_true]
    have k1 := h1.ok; have k2 := h2.ok; have k3 := h3.ok
    cases e1 : ((splitR x nodes i key).2 != 0) <;> cases e2 : ((mergeR x nodes i).2 != 0) <;> cases e3 : ((moveR x nodes i node).2 != 0) <;> simp_all
theorem pRuns_L1 (n : Int) (key : ByteArray) (l : List T_api_Cmd) (nodes : Int) (hn : nodes = IntKind.i64.wrap ((IntKind.i64.wrap (Int.tmod (IntKind.u64.wrap n) 4)) + 1)) : ∀ (fuel i : Nat) (x : T_api_Map), 60 - i < fuel → i ≤ 60 → Right x nodes → M.law08_SpanRuns_L1 1000 fuel n l key x.Cuts x.Nodes (i : Int) = some true := by
  intro fuel
  induction fuel with
  | zero => intro i x h; omega
  | succ fuel ih =>
    intro i x hf hi hR
    have hml : (10 : Nat) ≤ maxLen := by decide
    have hx : x.Cuts.length ≤ maxLen := by have := hR.form; have := hR.most; omega
    simp only [M.law08_SpanRuns_L1, M.law08_SpanRuns_k2, M.law08_SpanRuns_k3]
    rw [← hn]
    have hv : (bif decide ((i : Int) < (l.length : Int)) then (some (decide ((i : Int) < 60))) else (some false)) = some (decide (i < l.length ∧ i < 60)) := by
      by_cases h : i < l.length
      · rw [decide_eq_true (by omega : (i : Int) < (l.length : Int))]
        simp only [cond_true, Option.some.injEq]
        exact decide_eq_decide.2 (by omega)
      · rw [decide_eq_false (by omega : ¬ (i : Int) < (l.length : Int)), decide_eq_false (show ¬ (i < l.length ∧ i < 60) by omega)]; rfl
    rw [hv]
    simp only [Option.bind_some]
    by_cases hlt : i < l.length ∧ i < 60
    · rw [decide_eq_true hlt]
      simp only [cond_true, idx_get hlt.1, Option.bind_some]
      rw [wrap_succ (by omega)]
      -- whatever comes of it is right
      have fin : ∀ r : T_api_Map × Int, Fine r nodes → (bif (r.2 == 0) then (Option.bind (M.span_Owner 1000 (T_api_Map.mk r.1.Cuts r.1.Nodes) key) fun x105 => (Option.bind (Option.bind (M.span_Check 1000 (T_api_Map.mk r.1.Cuts r.1.Nodes) nodes) fun x109 => (bif (x109 != 0) then (some true) else (bif decide (x105 < 0) then (some true) else (some (decide (x105 ≥ nodes)))))) fun v108 => (bif v108 then (some false) else (M.law08_SpanRuns_L1 1000 fuel n l key r.1.Cuts r.1.Nodes ((i + 1 : Nat) : Int))))) else
          (Option.bind (M.span_Owner 1000 (T_api_Map.mk x.Cuts x.Nodes) key) fun x105 => (Option.bind (Option.bind (M.span_Check 1000 (T_api_Map.mk x.Cuts x.Nodes) nodes) fun x109 => (bif (x109 != 0) then (some true) else (bif decide (x105 < 0) then (some true) else (some (decide (x105 ≥ nodes)))))) fun v108 => (bif v108 then (some false) else (M.law08_SpanRuns_L1 1000 fuel n l key x.Cuts x.Nodes ((i + 1 : Nat) : Int)))))) = some true := by
        have one : ∀ y : T_api_Map, Right y nodes → (Option.bind (M.span_Owner 1000 (T_api_Map.mk y.Cuts y.Nodes) key) fun x105 => (Option.bind (Option.bind (M.span_Check 1000 (T_api_Map.mk y.Cuts y.Nodes) nodes) fun x109 => (bif (x109 != 0) then (some true) else (bif decide (x105 < 0) then (some true) else (some (decide (x105 ≥ nodes)))))) fun v108 => (bif v108 then (some false) else (M.law08_SpanRuns_L1 1000 fuel n l key y.Cuts y.Nodes ((i + 1 : Nat) : Int))))) = some true := fun y hy => by
          have hyc : y.Cuts.length ≤ 7 := by have := hy.form; have := hy.most; omega
          rw [show (T_api_Map.mk y.Cuts y.Nodes) = y from rfl, (owner_eq 1000 y key (by omega) (by omega)).1, (chk_eq 1000 (by omega) y nodes (by omega)).1, (chk_iff _ _).2 hy]
          obtain ⟨o1, o2⟩ := right_own hy key
          simp only [Option.bind_some, bne_self_eq_false, cond_false, decide_eq_false (show ¬ own y key < 0 by omega), decide_eq_false (show ¬ own y key ≥ nodes by omega)]
          exact ih (i + 1) y (by omega) (by omega) hy
        intro r hr
        cases h : (r.2 == 0) with
        | true => exact one r.1 (hr.right (by simpa using h))
        | false => exact one x hR
      rw [show (T_api_Map.mk x.Cuts x.Nodes) = x from rfl, (move_eq 1000 (by omega) x nodes _ _ hx).1, (split_eq 1000 (by omega) x nodes _ _ hx).1, (merge_eq 1000 (by omega) x nodes _ hx).1]
      simp only [Option.bind_some]
      cases (l[i].Kind == 3) with
      | true => exact fin _ (fine_split ..)
      | false =>
        cases (l[i].Kind == 4) with
        | true => exact fin _ (fine_merge ..)
        | false => exact fin _ (fine_move ..)
    · rw [decide_eq_false hlt]
      simp only [cond_false, awake6, Option.bind_some]
theorem pSpanRuns (n : Int) (l : List T_api_Cmd) (key : ByteArray) : M.law08_SpanRuns 1000 n l key = some true := by
  unfold M.law08_SpanRuns M.span_Whole
  have h0 : 0 ≤ IntKind.u64.wrap n := by rw [IntKind.wrap_u64]; omega
  have h1 : Int.tmod (IntKind.u64.wrap n) 4 = (IntKind.u64.wrap n) % 4 := Int.tmod_eq_emod_of_nonneg h0
  have h2 : IntKind.i64.wrap (Int.tmod (IntKind.u64.wrap n) 4) = (IntKind.u64.wrap n) % 4 := by rw [h1, wrap_small] <;> omega
  have h3 : IntKind.i64.wrap ((IntKind.i64.wrap (Int.tmod (IntKind.u64.wrap n) 4)) + 1) = (IntKind.u64.wrap n) % 4 + 1 := by rw [h2, wrap_small] <;> omega
  simp only [Option.bind_some]
  exact pRuns_L1 n key l _ rfl 1000 0 ⟨[], [0]⟩ (by omega) (by omega) (by
    rw [h3]
    exact ⟨by omega, by omega, by simp, rfl, fun i hi => by simp at hi, fun i hi => by simp at hi, fun m hm => by simp at hm; omega⟩)
end Go.Cf
