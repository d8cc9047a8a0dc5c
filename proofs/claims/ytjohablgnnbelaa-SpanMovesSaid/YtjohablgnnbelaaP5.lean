/- The plain laws of SpanTurns, SpanMoves. -/
import Derived.Test.YtjohablgnnbelaaPl5
import Derived.Test.YtjohablgnnbelaaM4t
import Derived.Test.YtjohablgnnbelaaM5m
namespace Go.Cf
open Go
theorem awake5 : M.law08_awake 1000 = some true := by kernel_rfl
theorem pSpanTurns (x : T_api_Map) (nodes i : Int) (at' key : ByteArray) (hx : x.Cuts.length ≤ maxLen) : M.law08_SpanTurns 1000 x nodes i at' key = some true := by
  unfold M.law08_SpanTurns
  simp only [show ∀ y : T_api_Map, (T_api_Map.mk y.Cuts y.Nodes) = y from fun _ => rfl, awake5, (split_eq 1000 (by omega) x nodes i at' hx).1, Option.bind_some]
  unfold splitR
  by_cases h : splitE x nodes i at' = 0
  · rw [if_pos h]
    obtain ⟨h0, hs⟩ := split_ok h
    obtain ⟨k, rfl⟩ : ∃ k : Nat, i = k := ⟨i.toNat, by omega⟩
    simp only [Int.toNat_natCast] at hs ⊢
    have hR := hs.right
    have hf := hR.form
    have hmost := hR.most
    have hle := hs.le
    have hcl : (splitM x k at').Cuts.length = x.Cuts.length + 1 := insAt_length hle
    have hnl : (splitM x k at').Nodes.length = x.Nodes.length + 1 := insAt_length (by omega)
    have hml : (10 : Nat) ≤ maxLen := by decide
    have hl1 : (((splitM x k at').Nodes.length : Int) == IntKind.i64.wrap ((x.Nodes.length : Int) + 1)) = true := by
      rw [wrap_succ (by omega), hnl]; simp
    have hl2 : (((fnd (splitM x k at') at' : Nat) : Int) == IntKind.i64.wrap ((k : Int) + 1)) = true := by
      rw [wrap_succ (by omega), fnd_split_at hs]; simp
    simp only [bne_self_eq_false, cond_false, (merge_eq 1000 (by omega) (splitM x k at') nodes (k : Int) (by omega)).1, merge_split hs, Option.bind_some, beq_self_eq_true, cond_true, same_refl 1000 x (by omega) (by omega) (by omega) (by omega),
      (owner_eq 1000 (splitM x k at') key (by omega) (by omega)).1, (owner_eq 1000 x key (by omega) (by omega)).1, own_split hs, (find_eq 1000 (splitM x k at') at' (by omega) (by omega)).1, hl1, hl2]
  · rw [if_neg h]
    have : (splitE x nodes i at' != 0) = true := by simpa using h
    simp only [this, cond_true]
    rfl
theorem pSpanMoves (x : T_api_Map) (nodes i node : Int) (key : ByteArray) (hx : x.Cuts.length ≤ maxLen) : M.law08_SpanMoves 1000 x nodes i node key = some true := by
  unfold M.law08_SpanMoves M.law08_SpanMoves_k1
  simp only [show ∀ y : T_api_Map, (T_api_Map.mk y.Cuts y.Nodes) = y from fun _ => rfl, awake5, (move_eq 1000 (by omega) x nodes i node hx).1, Option.bind_some]
  unfold moveR
  by_cases h : moveE x nodes i node = 0
  · rw [if_pos h]
    obtain ⟨h0, hs⟩ := move_ok h
    obtain ⟨k, rfl⟩ : ∃ k : Nat, i = k := ⟨i.toNat, by omega⟩
    simp only [Int.toNat_natCast] at hs ⊢
    have hR := hs.right
    have hf := hR.form
    have hmost := hR.most
    simp only [bne_self_eq_false, cond_false, (owner_eq 1000 x key (by omega) (by omega)).1, (find_eq 1000 x key (by omega) (by omega)).1, (owner_eq 1000 (moveM x k node) key (show x.Cuts.length < _ by omega) (show x.Cuts.length ≤ _ by omega)).1, own_move hs, Option.bind_some, cond_true]
    by_cases he : fnd x key = k
    · have hb : (((fnd x key : Nat) : Int) == (k : Int)) = true := by rw [he]; simp
      simp only [hb, cond_true, if_pos he, beq_self_eq_true]
    · have hb : (((fnd x key : Nat) : Int) == (k : Int)) = false := by rw [beq_eq_false_iff_ne]; omega
      simp only [hb, cond_false, if_neg he, beq_self_eq_true]
  · rw [if_neg h]
    have : (moveE x nodes i node != 0) = true := by simpa using h
    simp only [this, cond_true]
    rfl
end Go.Cf
