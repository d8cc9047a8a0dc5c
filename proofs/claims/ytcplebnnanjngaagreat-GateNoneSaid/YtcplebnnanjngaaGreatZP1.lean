/- Plain facts: indices, numbers, strings, maps by rising keys. -/
import Derived.Laws.BitsLemmas
import Derived.ProofKit
import Derived.Test.YtcplebnnanjngaaGreatZK2
import Derived.Test.YtcplebnnanjngaaGreatZM1
namespace Go.Cf
open Go
abbrev nil : ByteArray := ByteArray.mk #[]
section
variable {K V : Type} [DecidableEq K] [KO K]
theorem Srt.inj {l : List (K × V)} (h : Srt l) {x y : K × V} (hx : x ∈ l) (hy : y ∈ l) (e : x.1 = y.1) : x = y := by
  obtain ⟨i, hi⟩ := List.mem_iff_getElem?.1 hx
  obtain ⟨j, hj⟩ := List.mem_iff_getElem?.1 hy
  have h1 := lFind_at h.nodup hi
  have h2 := lFind_at h.nodup hj
  rw [e, h2] at h1
  exact Prod.ext e (Option.some.inj h1).symm
theorem Srt.find {l : List (K × V)} (h : Srt l) {x : K × V} (hx : x ∈ l) : lFind l x.1 = some x.2 := by
  obtain ⟨i, hi⟩ := List.mem_iff_getElem?.1 hx
  exact lFind_at h.nodup hi
end
end Go.Cf
namespace Go.Cf
open Go
theorem slc_ok {α : Type} {l : List α} {lo hi : Nat} (h1 : lo ≤ hi) (h2 : hi ≤ l.length) : slc l (lo : Int) (hi : Int) = some ((l.take hi).drop lo) := by
  unfold slc
  rw [if_pos ⟨by omega, by omega, by omega⟩]
  simp
theorem slc_take {α : Type} {l : List α} {hi : Nat} (h2 : hi ≤ l.length) : slc l 0 (hi : Int) = some (l.take hi) := by
  have := slc_ok (l := l) (lo := 0) (hi := hi) (by omega) h2
  simpa using this
theorem slc_min {α : Type} (l : List α) (k : Nat) : slc l 0 (if (k : Int) < (l.length : Int) then (k : Int) else (l.length : Int)) = some (l.take k) := by
  have h : (if (k : Int) < (l.length : Int) then (k : Int) else (l.length : Int)) = ((min k l.length : Nat) : Int) := by split <;> omega
  rw [h, slc_take (by omega)]
  congr 1
  rw [← List.take_take, List.take_length]
end Go.Cf
namespace Go.Cf
open Go
theorem awake22 : M.law22_awake 100 = some true := by kernel_rfl
/-- not too many versions -/
def fewM (m : T_api_Msg) : T_api_Msg := { m with Vers := m.Vers.take 12, Vec := m.Vec.take 40 }
def fewO (o : T_law22_Op) : T_law22_Op := { o with Msg := fewM o.Msg, Writes := o.Writes.take 12 }
theorem few_eq (N : Nat) (o : T_law22_Op) : M.law22_few N o = some (fewO o) := by
  simp only [M.law22_few, M.law20_Few, slc_min _ 12, slc_min _ 40, Option.bind_some, show (12 : Int) = ((12 : Nat) : Int) from rfl, show (40 : Int) = ((40 : Nat) : Int) from rfl]
  rfl
theorem pGateNone (o : T_law22_Op) : M.law22_GateNone 100 o = some true := by
  unfold M.law22_GateNone
  rw [few_eq]
  simp only [Option.bind_some]
  have hdo : M.law22_do_nil0 100 (fewO o) = some (if 2 ≤ o.Kind ∧ o.Kind ≤ 4 then 18 else 0) := by
    unfold M.law22_do_nil0
    simp only [M.gate_Gate_Take_nil0, M.gate_Gate_Hear_nil0, M.gate_Gate_Read_nil0, M.gate_Gate_Commit_nil0, M.gate_Gate_Trim_nil0, M.law22_do_nil0_k1, Option.bind_some, fewO]
    by_cases h0 : o.Kind = 0
    · rw [h0]; rfl
    · by_cases h1 : o.Kind = 1
      · rw [h1]; rfl
      · by_cases h2 : o.Kind = 2
        · rw [h2]; rfl
        · by_cases h3 : o.Kind = 3
          · rw [h3]; rfl
          · by_cases h4 : o.Kind = 4
            · rw [h4]; rfl
            · rw [if_neg (by omega)]
              have e (k : Int) (h : o.Kind ≠ k) : (o.Kind == k) = false := by simpa using h
              rw [e 0 h0, e 1 h1, e 2 h2, e 3 h3, e 4 h4]; rfl
  have hdo' : M.law22_do_nil0 100 (T_law22_Op.mk (fewO o).Kind (fewO o).From (fewO o).Call (T_api_Msg.mk (fewO o).Msg.Kind (fewO o).Msg.Id (fewO o).Msg.N (fewO o).Msg.TS (fewO o).Msg.Lo (fewO o).Msg.Hi (fewO o).Msg.Vers (fewO o).Msg.Vec (T_api_Cmd.mk (fewO o).Msg.Cmd.Kind (fewO o).Msg.Cmd.DC (fewO o).Msg.Cmd.Shard (fewO o).Msg.Cmd.Node (fewO o).Msg.Cmd.Mode (fewO o).Msg.Cmd.Key)) (fewO o).Key (fewO o).T (fewO o).Writes) = some (if 2 ≤ o.Kind ∧ o.Kind ≤ 4 then 18 else 0) := hdo
  rw [hdo']
  simp only [Option.bind_some, awake22, cond_true, M.gate_Gate_Note_nil0, M.gate_Gate_Sent_nil0, M.gate_Gate_Replies_nil0, M.gate_Gate_Role_nil0, M.gate_Gate_Stable_nil0, M.gate_Gate_Map_nil0, M.gate_Gate_Mode_nil0, M.gate_Gate_Waits_nil0]
  by_cases h2 : 2 ≤ o.Kind
  · by_cases h4 : o.Kind ≤ 4
    · simp [h2, h4]
    · simp [h2, h4]
  · simp [h2]
end Go.Cf
