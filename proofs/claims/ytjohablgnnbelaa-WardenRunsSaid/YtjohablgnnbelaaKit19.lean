/- Part 19: elements with references: their cells, as a fact. -/
import Derived.Test.YtjohablgnnbelaaKit18
namespace Go.Cf
open Go
/-- from cell k of block b on these cells were published -/
def MP.cells (b k : Nat) (cs : List Value) : MP := ⟨fun κ w => ∃ n, κ b = some n ∧ k + cs.length ≤ n ∧ ∀ j v, cs[j]? = some v → w.cell? ⟨b, k + j, none⟩ = some v, fun {_ κ w κ' w'} e ⟨n, h1, h2, h3⟩ => by
  obtain ⟨n', k1, k2, k3⟩ := e.pub b n h1
  refine ⟨n', k1, Nat.le_trans h2 k2, fun j v hj => ?_⟩
  have := (List.getElem?_eq_some_iff.1 hj).1
  rw [k3 _ (by omega)]
  exact h3 j v hj⟩
section
variable {P : Program} {w : World} {L : FL} {o : Oper} {M : List Nat} {κ0 κ : Gh} {w0 : World} {C : List Ck} {R : List MP}
theorem SS.elem (hS : SS M κ0 w0 κ w C R) {α : Type} {t : Ty α} (ri : Nat) {c b off : Nat} {p : Option Addr} {l : List α} {i : Int} {y : α} (hR : R[ri]? = some (Ro.mp t p c l)) (hp : p = some ⟨b, off, none⟩) (hi : idx l i = some y) :
    ∃ cs, t.rep κ w cs y ∧ (MP.cells b (off + i.toNat * t.size) cs).p κ w := by
  have hRo : Ro t κ w p c l := hS.get ri hR
  subst hp
  obtain ⟨h0, h1, h2⟩ := idx_some hi
  obtain ⟨cs, hr, hcs⟩ := hRo.at' h2
  rcases hRo.2.2 with ⟨hn, _⟩ | ⟨b', off', n, hp, hk, hn, _⟩
  · rw [hn] at h2; simp at h2
  · simp only [Option.some.injEq, Addr.mk.injEq] at hp
    obtain ⟨rfl, rfl, _⟩ := hp
    refine ⟨cs, hr, n, hk, ?_, hcs⟩
    rw [t.len hr]
    have : (i.toNat + 1) * t.size ≤ l.length * t.size := Nat.mul_le_mul_right _ h1
    rw [Nat.add_mul, Nat.one_mul] at this
    omega
theorem val_loadC (ri k : Nat) {T b E K : Nat} {s : Segs} {x : Operand} {v : Value} (hop : o.op = .load T x) (hR : R[ri]? = some (MP.cells b K (flat s))) (hx : ev L x = some (.pointer (some ⟨b, E, none⟩))) (hs : segGood s) (hE : K + tot (s.take k) = E)
    (hv : s[k]? = some (1, [v])) (hg : pureRun P (isAgg T) = some false) : ∀ w, SSx M κ0 w0 C R w → (execOp (evD L) o).run P w = .ok (.value v) w := fun w ⟨κ, hS⟩ => by
  obtain ⟨n, h1, h2, h3⟩ := hS.get ri hR
  refine exec_load hop hx (run_load_scalar hg ?_)
  rw [← hE]
  refine h3 _ v ?_
  have := segs_at hs.1 hv 0 (by omega)
  simpa using this
theorem val_loadCs (ri k m : Nat) {T b E K n : Nat} {s s' : Segs} {x : Operand} (hop : o.op = .load T x) (hR : R[ri]? = some (MP.cells b K (flat s))) (hx : ev L x = some (.pointer (some ⟨b, E, none⟩))) (hs : segGood s) (hE : K + tot (s.take k) = E)
    (hs' : (s.drop k).take m = s') (hg : pureRun P (isAgg T) = some true) (hsz : pureRun P (sizeOf T) = some n) (hn : tot s' = n) : ∀ w, SSx M κ0 w0 C R w → (execOp (evD L) o).run P w = .ok (.value (.agg (flat s').toArray)) w := fun w ⟨κ, hS⟩ => by
  obtain ⟨n', h1, h2, h3⟩ := hS.get ri hR
  subst hs'
  refine exec_load hop hx (run_load_agg hg hsz ?_ ?_)
  · rw [← hn]; exact flat_length fun y hy => hs.1 y (List.mem_of_mem_drop (List.mem_of_mem_take hy))
  · intro j v hj
    rw [← hE]
    have := h3 _ v (flat_sub hs.1 k m j v hj)
    rwa [Nat.add_assoc]
end
/-- a division by a number that may be 0 -/
def quoV (k : IntKind) (x y : Int) : Option Int := if y = 0 then none else some (k.wrap (x.tdiv y))
def remV (_ : IntKind) (x y : Int) : Option Int := if y = 0 then none else some (x.tmod y)
section
variable {P : Program} {L : FL} {o : Oper}
theorem val_quo {k : IntKind} {x y : Operand} {T T' : TypeId} {a b r : Int} (hop : o.op = .binOp .quo T x y T') (hx : ev L x = some (.int k a)) (hy : ev L y = some (.int k b)) (h : quoV k a b = some r) : ∀ w : World, (execOp (evD L) o).run P w = .ok (.value (.int k r)) w := fun w => by
  unfold quoV at h
  split at h
  · cases h
  · rename_i h0
    simp only [Option.some.injEq] at h
    subst h
    simp only [execOp, hop, evD, hx, hy, Option.getD_some]
    simp [eqGuard, binOp, Op.intDiv, h0]
theorem val_rem {k : IntKind} {x y : Operand} {T T' : TypeId} {a b r : Int} (hop : o.op = .binOp .rem T x y T') (hx : ev L x = some (.int k a)) (hy : ev L y = some (.int k b)) (h : remV k a b = some r) : ∀ w : World, (execOp (evD L) o).run P w = .ok (.value (.int k r)) w := fun w => by
  unfold remV at h
  split at h
  · cases h
  · rename_i h0
    simp only [Option.some.injEq] at h
    subst h
    simp only [execOp, hop, evD, hx, hy, Option.getD_some]
    simp [eqGuard, binOp, Op.intDiv, h0]
end
end Go.Cf
