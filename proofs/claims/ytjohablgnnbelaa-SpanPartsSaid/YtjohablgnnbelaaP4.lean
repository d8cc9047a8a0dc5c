/- The plain law of SpanParts. -/
import Derived.Test.YtjohablgnnbelaaPl3
import Derived.Test.YtjohablgnnbelaaM4p
namespace Go.Cf
open Go
theorem awake4 : M.law08_awake 1000 = some true := by kernel_rfl
theorem pSpanParts (x : T_api_Map) (nodes : Int) (key : ByteArray) (hx : x.Cuts.length ≤ maxLen) : M.law08_SpanParts 1000 x nodes key = some true := by
  unfold M.law08_SpanParts
  simp only [show (T_api_Map.mk x.Cuts x.Nodes) = x from rfl, awake4, (chk_eq 1000 (by omega) x nodes hx).1, Option.bind_some, Bool.not_true, cond_false]
  by_cases hc : chk x nodes = 0
  · have hR := (chk_iff x nodes).1 hc
    have hf := hR.form
    have hmost := hR.most
    have hs : x.Cuts.length ≤ 1000000 := by omega
    have hfl := fnd_le x key
    simp only [hc, bne_self_eq_false, cond_false, M.span_Shards, Option.bind_some, (find_eq 1000 x key (by omega) hs).1, (owner_eq 1000 x key (by omega) hs).1]
    have hr : M.span_Shards_1 1000 (σ := (Int × Int × Nat)) (fun (v82 : (Int × Int × Nat)) x28 x29 => bif (v82.2.2 == 0) then (Option.bind (M.span_Within 1000 key x29.Lo x29.Hi) fun x86 => (bif x86 then (bif (x28 != ((fnd x key : Nat) : Int)) then (some (((x29.Node, IntKind.i64.wrap (v82.2.1 + 1), 1)), false)) else (some (((x29.Node, IntKind.i64.wrap (v82.2.1 + 1), 0)), true))) else (some (((v82.1, v82.2.1, 0)), true)))) else none) x ((-1), 0, 0) = some (x.Nodes.getD (fnd x key) 0, 1, 0) := by
      rw [shards_eq 1000 _ x hs, if_pos (show form x from hf)]
      have := shards_all 1000 (fun (v82 : (Int × Int × Nat)) x28 (x29 : T_span_Shard) => bif (v82.2.2 == 0) then (Option.bind (M.span_Within 1000 key x29.Lo x29.Hi) fun x86 => (bif x86 then (bif (x28 != ((fnd x key : Nat) : Int)) then (some (((x29.Node, IntKind.i64.wrap (v82.2.1 + 1), 1)), false)) else (some (((x29.Node, IntKind.i64.wrap (v82.2.1 + 1), 0)), true))) else (some (((v82.1, v82.2.1, 0)), true)))) else none) x hs hf (fun i => if fnd x key < i then (x.Nodes.getD (fnd x key) 0, 1, 0) else (-1, 0, 0)) (fun k hk => ?_) 1000 0 (by omega) (by omega)
      · rw [if_neg (by omega), if_pos (by omega)] at this
        exact this
      · rw [(within_eq 1000 key _ _).1]
        simp only [shd, within_iff hR.rising hf key k hk, Option.bind_some]
        by_cases hk1 : k = fnd x key
        · subst hk1
          simp [wrap_small]
        · rw [decide_eq_false hk1]
          by_cases hk2 : fnd x key < k
          · rw [if_pos hk2, if_pos (by omega)]; rfl
          · rw [if_neg hk2, if_neg (by omega)]; rfl
    refine (congrArg (fun q => Option.bind q _) hr).trans ?_
    simp [own, hf, Nat.lt_succ_of_le hfl]
  · have : (chk x nodes != 0) = true := by simpa using hc
    rw [this]; rfl
end Go.Cf
