/- The plain law of SpanFinds. -/
import Derived.Test.YtjohablgnnbelaaM4f
import Derived.Test.YtjohablgnnbelaaPl2
namespace Go.Cf
open Go
theorem awake08 : M.law08_awake 1000 = some true := by kernel_rfl
theorem great08 (N : Nat) (x : T_api_Map) : M.law08_great N x = some (decide (300 < x.Cuts.length) || decide (300 < x.Nodes.length)) := by
  unfold M.law08_great
  have h1 : decide ((x.Cuts.length : Int) > 300) = decide (300 < x.Cuts.length) := decide_eq_decide.2 (by omega)
  have h2 : decide ((x.Nodes.length : Int) > 300) = decide (300 < x.Nodes.length) := decide_eq_decide.2 (by omega)
  rw [h1, h2]
  cases decide (300 < x.Cuts.length) <;> rfl
theorem pSpanFinds (x : T_api_Map) (key lo' hi' : ByteArray) (i : Int) : M.law08_SpanFinds 1000 x key lo' hi' i = some true := by
  unfold M.law08_SpanFinds
  simp only [show (T_api_Map.mk x.Cuts x.Nodes) = x from rfl, awake08, great08, Option.bind_some, Bool.not_true, cond_false]
  cases hg : (decide (300 < x.Cuts.length) || decide (300 < x.Nodes.length)) with
  | true => rfl
  | false =>
    simp only [Bool.or_eq_false_iff, decide_eq_false_iff_not, Nat.not_lt] at hg
    obtain ⟨hc, hn⟩ := hg
    have hs : x.Cuts.length ≤ 1000000 := by omega
    simp only [cond_false, at_eq 1000 x hs (by omega) i, Option.bind_some, M.span_Shards, (find_eq 1000 x key (by omega) hs).1, (find_eq 1000 x key (by omega) hs).2, (owner_eq 1000 x key (by omega) hs).1, (owner_eq 1000 x key (by omega) hs).2,
      (within_eq 1000 key lo' hi').1, (within_eq 1000 key lo' hi').2, beq_self_eq_true, cond_true]
    -- the end
    have hfin : ∀ v : Int × Nat, v = ((if form x then (x.Nodes.length : Int) else 0), 0) → (bif (v.2 == 0) then (Option.bind (M.ref08_Ends 1000 x v.1) fun x109 => (Option.bind (bif (!x109.2.2) then (some true) else (some false)) fun v112 => (some v112))) else (bif (v.2 == 1) then (some false) else none)) = some true := by
      rintro _ rfl
      rw [ends_out 1000 x hs _ (by split <;> rintro ⟨h1, h2, h3⟩ <;> first | omega | contradiction)]
      rfl
    -- the rounds
    have hr : M.span_Shards_1 1000 (σ := (Int × Nat)) (fun (v94 : (Int × Nat)) x41 x42 => bif (v94.2 == 0) then (Option.bind (M.ref08_Ends 1000 x x41) fun x98 => (Option.bind (bif (x41 != v94.1) then (some true) else (bif (!x98.2.2) then (some true) else (bif (!sEq x42.Lo x98.1) then (some true) else (bif (!sEq x42.Hi x98.2.1) then (some true) else (Option.bind (idx x.Nodes x41) fun x103 => (some (x42.Node != x103))))))) fun v102 => (bif v102 then (some (((v94.1, 1)), false)) else (some (((IntKind.i64.wrap (v94.1 + 1), 0)), true))))) else none) x (0, 0) = some ((if form x then (x.Nodes.length : Int) else 0), 0) := by
      rw [shards_eq 1000 _ x hs]
      by_cases hf : form x
      · rw [if_pos hf, if_pos hf]
        refine shards_all 1000 _ x hs hf (fun k => ((k : Int), 0)) (fun k hk => ?_) 1000 0 (by omega) (by omega)
        simp only [beq_self_eq_true, cond_true, ends_in 1000 x hs hf k hk, Option.bind_some, bne_self_eq_false, cond_false, Bool.not_true, shd, sEq_refl, idx_getD 0 hk]
        rw [wrap_succ (by omega)]
      · rw [if_neg hf, if_neg hf]
    by_cases hin : form x ∧ 0 ≤ i ∧ i < x.Nodes.length
    · rw [if_pos hin]
      obtain ⟨hf, h0, h1⟩ := hin
      obtain ⟨k, rfl⟩ : ∃ k : Nat, i = k := ⟨i.toNat, by omega⟩
      have hk : k < x.Nodes.length := by omega
      simp only [ends_in 1000 x hs hf k hk, Option.bind_some, shd, Int.toNat_natCast, sEq_refl, idx_getD 0 hk, beq_self_eq_true, Bool.not_true, cond_false, cond_true, bne_self_eq_false]
      exact (congrArg (fun q => Option.bind q _) hr).trans (hfin _ rfl)
    · rw [if_neg hin]
      simp only [ends_out 1000 x hs i hin, Option.bind_some, zsh, sEq_refl, beq_self_eq_true, Bool.not_true, cond_false]
      exact (congrArg (fun q => Option.bind q _) hr).trans (hfin _ rfl)
end Go.Cf
