/- Short forms of the steps, for printed walks: what can be computed is computed, not printed. -/
import Derived.Test.YtjohablgnnbelaaKit16
namespace Go.Cf
open Go
set_option linter.unusedVariables false
abbrev pt (b o : Nat) : Value := .pointer (some ⟨b, o, none⟩)
abbrev si (x : Int) : Nat × List Value := (1, [.int .i64 x])
abbrev sg (x : ByteArray) : Nat × List Value := (1, [.string x])
abbrev sb (x : Bool) : Nat × List Value := (1, [.bool x])
def sgChk : Nat → Segs → Bool
  | 0, _ => true
  | n + 1, (k, [v]) :: s => (k == 1 && v.oneCell') && sgChk n s
  | _, _ => false
theorem sgN (n : Nat) {s : Segs} (r : segGood (s.drop n)) (h : sgChk n s = true := by kernel_rfl) : segGood s := by
  induction n generalizing s with
  | zero => exact r
  | succ n ih =>
    match s, h, r with
    | (k, [v]) :: s, h, r =>
      simp only [sgChk, Bool.and_eq_true, beq_iff_eq] at h
      obtain ⟨⟨rfl, h1⟩, h2⟩ := h
      exact sgV h1 (ih r h2)
def bxB (C : List Ck) (i : Nat) : Nat := match C[i]? with | some (.box b _ _) => b | _ => 0
def bxT (C : List Ck) (i : Nat) : Nat := match C[i]? with | some (.box _ T _) => T | _ => 0
def bxS (C : List Ck) (i : Nat) : Segs := match C[i]? with | some (.box _ _ s) => s | _ => []
def setS (C : List Ck) (i k m : Nat) (s' : Segs) : List Ck := C.set i (.box (bxB C i) (bxT C i) ((bxS C i).take k ++ s' ++ (bxS C i).drop (k + m)))
def opX (o : Oper) : Operand := match o.op with | .store _ x _ => x | .load _ x => x | .box _ x => x | _ => .tmp 0
def opY (o : Oper) : Operand := match o.op with | .store _ _ y => y | _ => .tmp 0
def opT (o : Oper) : TypeId := match o.op with | .store T _ _ => T | .load T _ => T | .box T _ => T | .alloc T => T | _ => 0
def segV (s : Segs) (k j : Nat) : Value := ((s[k]?).bind fun x => x.2[j]?).getD undef
def subS (s : Segs) (k m : Nat) : Segs := (s.drop k).take m
def pureL (P : Program) (ops : Array Oper) (N n : Nat) (ks : List Nat) (l : List Oper) (L : FL) : FL := ((psteps P ops N (l.take n) L).map fun x => keep x ks).getD []
section
variable {ro : Option Nat} {P : Program} {ops : Array Oper} {Q : Exit → Act → World → Prop} {N : Nat} {D : List Deferred} {L L' : FL} {a : Act} {w : World} {o : Oper} {K : Act → World → Prop}
variable {M : List Nat} {κ0 κ : Gh} {w0 : World} {C C' : List Ck} {R R' : List MP}
theorem wp (n : Nat) (ks : List Nat) {l : List Oper} (hF : Fr N D L a) (k : ∀ a', Fr N D (pureL P ops N n ks l L) a' → wl ro P ops Q (l.drop n) a' w)
    (hp : (psteps P ops N (l.take n) L).isSome = true := by kernel_rfl) : wl ro P ops Q l a w := by
  refine wl_pure (L' := pureL P ops N n ks l L) n ks hF ?_ k
  unfold pureL
  cases h : psteps P ops N (l.take n) L with
  | none => rw [h] at hp; cases hp
  | some x => rfl
theorem wc {l : List Oper} (h : wo ro P o a w (wl ro P ops Q l) Q) (hg : o.guard = none := by kernel_rfl) : wl ro P ops Q (o :: l) a w := wl_cons hg h
theorem wcg {l : List Oper} (hF : Fr N D L a) (h : wo ro P o a w (wl ro P ops Q l) Q) (hg : goes ops L o = some true := by kernel_rfl) : wl ro P ops Q (o :: l) a w := wl_consg hF hg h
theorem SS.sp (h : SS M κ0 w0 κ w C R) (is js : List Nat) {C' : List Ck} {R' : List MP} (hn : is.Nodup := by decide) (hC : (is.filterMap fun i => C[i]?) = C' := by kernel_rfl) (hR : (js.filterMap fun i => R[i]?) = R' := by kernel_rfl) : SS M κ0 w0 κ w C' R' := (h.selp is hn hC).pick js hR
theorem SS.sx (h : SS M κ0 w0 κ w C R) (is js : List Nat) {C' : List Ck} {R' : List MP} (hn : is.Nodup := by decide) (hC : (is.filterMap fun i => C[i]?) = C' := by kernel_rfl) (hR : (js.filterMap fun i => R[i]?) = R' := by kernel_rfl) : SSx M κ0 w0 C' R' w := ⟨κ, (h.selp is hn hC).pick js hR⟩
theorem Fr.kp (hF : Fr N D L a) (ks : List Nat) (h : Cf.keep L ks = L' := by kernel_rfl) : Fr N D L' a := hF.keep' ks h
/-- a load of one cell of a box -/
theorem wld (hF : Fr N D L a) (hS : SS M κ0 w0 κ w C R) (i k j : Nat) (kk : ∀ a', Fr N D (upd L o.dst (segV (bxS C i) k j)) a' → K a' w)
    (hc : okOp N L o = true := by kernel_rfl) (hop : o.op = .load (opT o) (opX o) := by kernel_rfl) (hC : C[i]? = some (.box (bxB C i) (bxT C i) (bxS C i)) := by kernel_rfl)
    (hx : ev L (opX o) = some (.pointer (some ⟨bxB C i, tot ((bxS C i).take k) + j, none⟩)) := by kernel_rfl)
    (hj : ((bxS C i)[k]?.bind fun x => x.2[j]?) = some (segV (bxS C i) k j) := by kernel_rfl) (hg : pureRun P (isAgg (opT o)) = some false := by kernel_rfl) : wo ro P o a w K Q := by
  obtain ⟨⟨n, l⟩, hk, hl⟩ := Option.bind_eq_some_iff.1 hj
  exact wo_load hF hS hc i k j hop hx hC hk hl rfl hg kk
/-- a load of a struct or an array -/
theorem wls (hF : Fr N D L a) (hS : SS M κ0 w0 κ w C R) (i k m : Nat) (kk : ∀ a', Fr N D (upd L o.dst (.agg (flat (subS (bxS C i) k m)).toArray)) a' → K a' w)
    (hc : okOp N L o = true := by kernel_rfl) (hop : o.op = .load (opT o) (opX o) := by kernel_rfl) (hC : C[i]? = some (.box (bxB C i) (bxT C i) (bxS C i)) := by kernel_rfl)
    (hx : ev L (opX o) = some (.pointer (some ⟨bxB C i, tot ((bxS C i).take k), none⟩)) := by kernel_rfl)
    (hg : pureRun P (isAgg (opT o)) = some true := by kernel_rfl) (hsz : pureRun P (sizeOf (opT o)) = some (tot (subS (bxS C i) k m)) := by kernel_rfl) : wo ro P o a w K Q :=
  wo_loads hF hS hc i k m hop hx hC rfl rfl hg hsz rfl kk
/-- a store into a box -/
theorem wst (hF : Fr N D L a) (hS : SS M κ0 w0 κ w C R) (i k m : Nat) (s' : Segs) (hs' : segGood s') (kk : ∀ a' w', Fr N D (upd L o.dst undef) a' → SS M κ0 w0 κ w' (setS C i k m s') R → K a' w')
    (hc : okOp N L o = true := by kernel_rfl) (hop : o.op = .store (opT o) (opX o) (opY o) := by kernel_rfl) (hC : C[i]? = some (.box (bxB C i) (bxT C i) (bxS C i)) := by kernel_rfl)
    (hx : ev L (opX o) = some (.pointer (some ⟨bxB C i, tot ((bxS C i).take k), none⟩)) := by kernel_rfl)
    (hy : (ev L (opY o)).map Value.cells = some (flat s').toArray := by kernel_rfl) (hsz : pureRun P (sizeOf (opT o)) = some (tot s') := by kernel_rfl) (hn : tot (subS (bxS C i) k m) = tot s' := by kernel_rfl) : wo ro P o a w K Q := by
  obtain ⟨v, hv, hvc⟩ := Option.map_eq_some_iff.1 hy
  exact wo_stores hF hS hc i k m hop hx hv hC rfl hsz hn rfl hs'.1 hs'.2 hvc rfl rfl kk
theorem wal (hF : Fr N D L a) (hS : SS M κ0 w0 κ w C R) (s : Segs) (hs : segGood s) (kk : ∀ b a' w', Fr N D (upd L o.dst (.pointer (some ⟨b, 0, none⟩))) a' → SS M κ0 w0 κ w' (.box b (opT o) s :: C) R → K a' w')
    (hc : okOp N L o = true := by kernel_rfl) (hop : o.op = .alloc (opT o) := by kernel_rfl) (hz : (pureRun P (zeroValue (opT o))).map Value.cells = some (flat s).toArray := by kernel_rfl) : wo ro P o a w K Q := by
  obtain ⟨z, hz, hzs⟩ := Option.map_eq_some_iff.1 hz
  exact wo_alloc hF hS hc hop hz hs.1 hzs kk
theorem wbx (hF : Fr N D L a) (hS : SS M κ0 w0 κ w C R) (s : Segs) (hs : segGood s) (kk : ∀ b a' w', Fr N D (upd L o.dst (.pointer (some ⟨b, 0, none⟩))) a' → SS M κ0 w0 κ w' (.box b (opT o) s :: C) R → K a' w')
    (hc : okOp N L o = true := by kernel_rfl) (hop : o.op = .box (opT o) (opX o) := by kernel_rfl) (hx : (ev L (opX o)).map Value.cells = some (flat s).toArray := by kernel_rfl) : wo ro P o a w K Q := by
  obtain ⟨v, hv, hvs⟩ := Option.map_eq_some_iff.1 hx
  exact wo_box hF hS hc hop hv hs.1 hvs kk
theorem vld (i k j : Nat) (hop : o.op = .load (opT o) (opX o) := by kernel_rfl) (hC : C[i]? = some (.box (bxB C i) (bxT C i) (bxS C i)) := by kernel_rfl)
    (hx : ev L (opX o) = some (.pointer (some ⟨bxB C i, tot ((bxS C i).take k) + j, none⟩)) := by kernel_rfl)
    (hj : ((bxS C i)[k]?.bind fun x => x.2[j]?) = some (segV (bxS C i) k j) := by kernel_rfl) (hg : pureRun P (isAgg (opT o)) = some false := by kernel_rfl) : ∀ w, SSx M κ0 w0 C R w → (execOp (evD L) o).run P w = .ok (.value (segV (bxS C i) k j)) w := by
  obtain ⟨⟨n, l⟩, hk, hl⟩ := Option.bind_eq_some_iff.1 hj
  exact val_load i k j hop hx hC hk hl rfl hg
theorem vls (i k m : Nat) (hop : o.op = .load (opT o) (opX o) := by kernel_rfl) (hC : C[i]? = some (.box (bxB C i) (bxT C i) (bxS C i)) := by kernel_rfl)
    (hx : ev L (opX o) = some (.pointer (some ⟨bxB C i, tot ((bxS C i).take k), none⟩)) := by kernel_rfl)
    (hg : pureRun P (isAgg (opT o)) = some true := by kernel_rfl) (hsz : pureRun P (sizeOf (opT o)) = some (tot (subS (bxS C i) k m)) := by kernel_rfl) : ∀ w, SSx M κ0 w0 C R w → (execOp (evD L) o).run P w = .ok (.value (.agg (flat (subS (bxS C i) k m)).toArray)) w :=
  val_loads i k m hop hx hC rfl rfl hg hsz rfl
theorem rvc (hF : Fr N D L a) (hS : SS M κ0 w0 κ w C R) (i k j : Nat) {t T : Nat} {v : Value} (h : L.lookup t = some (.pointer (some ⟨bxB C i, tot ((bxS C i).take k) + j, none⟩)) := by kernel_rfl) (hC : C[i]? = some (.box (bxB C i) (bxT C i) (bxS C i)) := by kernel_rfl)
    (hj : ((bxS C i)[k]?.bind fun x => x.2[j]?) = some v := by kernel_rfl) (hg : pureRun P (isAgg T) = some false := by kernel_rfl) : RV P a w (.cell t T) v := by
  obtain ⟨⟨n, l⟩, hk, hl⟩ := Option.bind_eq_some_iff.1 hj
  exact rv_cell hF hS i k j h hC hk hl rfl hg
theorem rvs (hF : Fr N D L a) (hS : SS M κ0 w0 κ w C R) (i k m : Nat) {t T : Nat} {v : Value} (h : L.lookup t = some (.pointer (some ⟨bxB C i, tot ((bxS C i).take k), none⟩)) := by kernel_rfl) (hC : C[i]? = some (.box (bxB C i) (bxT C i) (bxS C i)) := by kernel_rfl)
    (hv : Value.agg (flat (subS (bxS C i) k m)).toArray = v := by kernel_rfl) (hg : pureRun P (isAgg T) = some true := by kernel_rfl) (hsz : pureRun P (sizeOf T) = some (tot (subS (bxS C i) k m)) := by kernel_rfl) : RV P a w (.cell t T) v := by
  subst hv
  exact rv_cells hF hS i k m h hC rfl rfl hg hsz rfl
theorem rvt (hF : Fr N D L a) {t : Nat} {v : Value} (h : L.lookup t = some v := by kernel_rfl) : RV P a w (.tmp t) v := rv_tmp hF h
end
section
variable {ro : Option Nat} {P : Program} {ops : Array Oper} {Q : Exit → Act → World → Prop} {S : World → Prop} {tl : List Nat} {N m : Nat} {D : List Deferred} {L L' : FL} {a : Act} {w : World} {fuel : Nat} {listed : Array Bool}
def takL (P : Program) (ops : Array Oper) (tl : List Nat) (N : Nat) (is ks : List Nat) (listed : Array Bool) (L : FL) : FL := ((ptakes P ops tl N is listed L).map fun x => keep x.2 ks).getD []
def takA (P : Program) (ops : Array Oper) (tl : List Nat) (N : Nat) (is : List Nat) (listed : Array Bool) (L : FL) : Array Bool := ((ptakes P ops tl N is listed L).map fun x => x.1).getD #[]
theorem anp (is ks : List Nat) (hF : Fr N D L a) (hS : S w) (k : ∀ a', Fr N D (takL P ops tl N is ks listed L) a' → AnyH ro P ops Q S tl (m - is.length) (takA P ops tl N is listed L) a' w)
    (hsel : noSel ops = true := by kernel_rfl) (hQ : ∀ c a w t v, Q (.panic c) (a.put t v) w → Q (.panic c) a w := by intro c a w t v h; cases t <;> exact h)
    (hp : (ptakes P ops tl N is listed L).isSome = true := by kernel_rfl) (hm : Nat.ble is.length m = true := by kernel_rfl) : AnyH ro P ops Q S tl m listed a w := by
  refine any_pure (fuel := m - is.length) is ks hF hS hsel hQ (L' := takL P ops tl N is ks listed L) (listed' := takA P ops tl N is listed L) ?_ ?_ k
  · unfold takL takA
    cases h : ptakes P ops tl N is listed L with
    | none => rw [h] at hp; cases hp
    | some x => rfl
  · have := Nat.le_of_ble_eq_true hm; omega
theorem ago (i : Nat) {o : Oper} (hF : Fr N D L a) (hi : ops[i]? = some o)
    (h : wo ro P o a w (fun a' w' => (early tl (listed.setIfInBounds i true) = true → S w') ∧ AnyH ro P ops Q S tl (m - 1) (listed.setIfInBounds i true) a' w') Q)
    (hr : Region.ready md ops listed = [i] := by kernel_rfl) (hg : goes ops L o = some true := by kernel_rfl) (hm : Nat.ble 1 m = true := by kernel_rfl) : AnyH ro P ops Q S tl m listed a w := by
  obtain ⟨f, rfl⟩ : ∃ f, m = f + 1 := ⟨m - 1, by have := Nat.le_of_ble_eq_true hm; omega⟩
  exact any_go i hF hi hr hg rfl h
theorem ago2 (i j : Nat) {oi oj : Oper} (hF : Fr N D L a) (hi : ops[i]? = some oi) (hj : ops[j]? = some oj)
    (h1 : wo ro P oi a w (fun a' w' => (early tl (listed.setIfInBounds i true) = true → S w') ∧ AnyH ro P ops Q S tl (m - 1) (listed.setIfInBounds i true) a' w') Q)
    (h2 : wo ro P oj a w (fun a' w' => (early tl (listed.setIfInBounds j true) = true → S w') ∧ AnyH ro P ops Q S tl (m - 1) (listed.setIfInBounds j true) a' w') Q)
    (hr : Region.ready md ops listed = [i, j] := by kernel_rfl) (hgi : goes ops L oi = some true := by kernel_rfl) (hgj : goes ops L oj = some true := by kernel_rfl) (hm : Nat.ble 1 m = true := by kernel_rfl) : AnyH ro P ops Q S tl m listed a w := by
  obtain ⟨f, rfl⟩ : ∃ f, m = f + 1 := ⟨m - 1, by have := Nat.le_of_ble_eq_true hm; omega⟩
  exact any_go2 i j hF hi hj hr hgi hgj rfl rfl h1 h2
theorem atk (i : Nat) (d : Option Tmp) {o : Oper} (hF : Fr N D L a) (hS : S w) (hi : ops[i]? = some o) {v : Value} (hv : ∀ w, S w → (execOp (evD L) o).run P w = .ok (.value v) w)
    (k : ∀ a', Fr N D (upd L d v) a' → AnyH ro P ops Q S tl (m - 1) (listed.setIfInBounds i true) a' w)
    (hsel : noSel ops = true := by kernel_rfl) (hmt : mayTake ops tl listed i = true := by kernel_rfl) (hQ : ∀ c a w v, Q (.panic c) (a.put o.dst v) w → Q (.panic c) a w := by intro c a w v h; exact h)
    (hd : okDst N o = true := by kernel_rfl) (hg : goes ops L o = some true := by kernel_rfl) (hc : covers L o = true := by kernel_rfl) (hdd : o.dst = d := by kernel_rfl) (hm : Nat.ble 1 m = true := by kernel_rfl) : AnyH ro P ops Q S tl m listed a w := by
  obtain ⟨f, rfl⟩ : ∃ f, m = f + 1 := ⟨m - 1, by have := Nat.le_of_ble_eq_true hm; omega⟩
  exact any_take i d hF hS hi hsel hmt hQ hd hg hc hdd hv k
theorem rga {id : Nat} (S : World → Prop) (tl : List Nat) (h : AnyH ro P ops Q S tl ops.size (Array.replicate ops.size false) a { w with drawn := w.drawn + 1 }) (hm : P.follows .mixedOrders = true := by kernel_rfl) : (Code.region id ops true).wpIn (FW ro) 0 P Q a w :=
  region_any S tl hm rfl rfl h
theorem and_ (h : Q .normal a w) (hr : Region.ready md ops listed = [] := by kernel_rfl) : AnyH ro P ops Q S tl m listed a w := any_done hr h m
theorem notE {b : Bool} {p : Prop} (h : b = false := by kernel_rfl) : b = true → p := fun e => absurd (h.symm.trans e) Bool.false_ne_true
end
end Go.Cf
