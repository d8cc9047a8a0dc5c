/- The plain law of ConfigApplies. -/
import Derived.Test.YtjohablgnnbelaaPl7
import Derived.Test.YtjohablgnnbelaaM7a
namespace Go.Cf
open Go
theorem bytes_beq (a : ByteArray) : (a == a) = true := by
  obtain ⟨d⟩ := a
  show (d == d) = true
  exact beq_self_eq_true d
theorem pConfigApplies (s : T_config_State) (c : T_api_Cmd) (h1 : s.Members.length = 4) (h2 : s.Maps.length = 4) (h3 : s.Modes.length = 21) : M.law18_ConfigApplies 1000 s c = some true := by
  unfold M.law18_ConfigApplies
  obtain ⟨b, hb, ho⟩ := great18 1000 (by omega) s h1 h2 h3
  rw [csD s, hb, cmdD c]
  simp only [Option.bind_some, awake18]
  cases b with
  | true => rfl
  | false =>
    have ho := ho rfl
    have hok := ok_apply ho c
    simp only [cond_false, told_eq, rsD, (apply_eq 1000 (by omega) s c ho).1, (apply_eq 1000 (by omega) s c ho).2, Option.bind_some, (plain_eq 1000 c).1, (plain_eq 1000 c).2, cmdD, (apply_eq 1000 (by omega) s (plainC c) ho).1, apply_plain, csD, beq_self_eq_true, cond_true,
      sameS_refl 1000 (by omega) _ hok, (count_eq 1000 (by omega) s h1).1, (count_eq 1000 (by omega) s h1).2]
    have hce : cEq (flat [(1, [.int .i64 ((plainC c).Kind)]), (1, [.int .i64 ((plainC c).DC)]), (1, [.int .i64 ((plainC c).Shard)]), (1, [.int .i64 ((plainC c).Node)]), (1, [.int .i64 ((plainC c).Mode)]), (1, [.string ((plainC c).Key)])]) (flat [(1, [.int .i64 ((plainC c).Kind)]), (1, [.int .i64 ((plainC c).DC)]), (1, [.int .i64 ((plainC c).Shard)]), (1, [.int .i64 ((plainC c).Node)]), (1, [.int .i64 ((plainC c).Mode)]), (1, [.string ((plainC c).Key)])]) = true := by
      simp [flat, cEq, vEq, bytes_beq]
    rw [hce]; rfl
end Go.Cf
