/- Part 9: == on structs and arrays of plain cells; elements of arrays that are values. -/
import Derived.Test.YtjohablgnnbelaaKit8
import Derived.ChangeKeysEq
import Derived.Laws.StructEq
namespace Go.Cf
open Go

inductive Sc where
  | bool
  | int (k : IntKind)
  | str
def vEq : Value → Value → Bool
  | .bool a, .bool b => a == b
  | .int _ a, .int _ b => a == b
  | .string a, .string b => a == b
  | _, _ => false
def cEq : List Value → List Value → Bool
  | [], [] => true
  | x :: xs, y :: ys => vEq x y && cEq xs ys
  | _, _ => false
def Sc.fits : Sc → Value → Bool
  | .bool, .bool _ => true
  | .int k, .int k' _ => decide (k = k')
  | .str, .string _ => true
  | _, _ => false
def typedBy : List Sc → List Value → Bool
  | [], [] => true
  | k :: ks, v :: vs => k.fits v && typedBy ks vs
  | _, _ => false
theorem typedBy_length {ks : List Sc} : ∀ {vs : List Value}, typedBy ks vs = true → vs.length = ks.length := by
  induction ks with
  | nil => intro vs h; cases vs <;> simp_all [typedBy]
  | cons k ks ih => intro vs h; cases vs <;> simp_all [typedBy]
theorem typedBy_append {ks ks' : List Sc} : ∀ {vs : List Value}, typedBy (ks ++ ks') vs = true → typedBy ks (vs.take ks.length) = true ∧ typedBy ks' (vs.drop ks.length) = true := by
  induction ks with
  | nil => intro vs h; simp [typedBy]; exact h
  | cons k ks ih =>
    intro vs h
    cases vs with
    | nil => simp [typedBy] at h
    | cons v vs =>
      simp only [List.cons_append, typedBy, Bool.and_eq_true] at h
      obtain ⟨h1, h2⟩ := ih h.2
      simp [typedBy, h.1, h1, h2]
theorem typedBy_mk {ks ks' : List Sc} : ∀ {vs vs' : List Value}, typedBy ks vs = true → typedBy ks' vs' = true → typedBy (ks ++ ks') (vs ++ vs') = true := by
  induction ks with
  | nil => intro vs vs' h h'; cases vs <;> simp_all [typedBy]
  | cons k ks ih =>
    intro vs vs' h h'
    cases vs with
    | nil => simp [typedBy] at h
    | cons v vs =>
      simp only [typedBy, Bool.and_eq_true] at h
      simp [typedBy, h.1, ih h.2 h']
theorem cEq_append : ∀ {xs ys xs' ys' : List Value}, xs.length = ys.length → cEq (xs ++ xs') (ys ++ ys') = (cEq xs ys && cEq xs' ys') := by
  intro xs
  induction xs with
  | nil => intro ys xs' ys' h; cases ys <;> simp_all [cEq]
  | cons x xs ih =>
    intro ys xs' ys' h
    cases ys with
    | nil => simp at h
    | cons y ys => simp only [List.cons_append, cEq, Bool.and_assoc]; rw [ih (by simpa using h)]
theorem typed_encs {α : Type} {t : FT α} {ks : List Sc} (h : ∀ x, typedBy ks (t.enc x) = true) : ∀ (l : List α), typedBy ((List.replicate l.length ks).flatten) (encs t l) = true := by
  intro l
  induction l with
  | nil => rfl
  | cons y l ih =>
    simp only [List.length_cons, List.replicate_succ, List.flatten_cons, encs, List.flatMap_cons]
    exact typedBy_mk (h y) ih

/-- a type's cells, one behind the other; none: not of this make -/
def fieldKinds (f : TypeId → Option (List Sc)) : List Field → Nat → Option (List Sc)
  | [], _ => some []
  | fd :: fs, off => if fd.name != "_" && fd.offset == off then
      match f fd.type with
      | some ks => if ks.length != 0 then (fieldKinds f fs (off + ks.length)).map (ks ++ ·) else none
      | none => none
    else none
def kindsOf (P : Program) : Nat → TypeId → Option (List Sc)
  | 0, _ => none
  | n + 1, t => match P.underlying t with
    | some .bool => some [.bool]
    | some (.int k) => some [.int k]
    | some .string => some [.str]
    | some (.array m e) => match kindsOf P n e with
      | some ks => if P.cellsOf e == ks.length && ks.length != 0 then some (List.replicate m ks).flatten else none
      | none => none
    | some (.struct fs) => if P.stoodInHeld t then none else fieldKinds (fun u => match kindsOf P n u with | some ks => if P.cellsOf u == ks.length then some ks else none | none => none) fs.toList 0
    | _ => none
def wide (P : Program) (t : TypeId) : Bool := match P.underlying t with | some (.array _ _) | some (.struct _) => true | _ => false
/-- a value of such a type: its cells as a row -/
def asVal (P : Program) (t : TypeId) (cs : List Value) (v : Value) : Prop := if wide P t then v = .agg cs.toArray else cs = [v]

section
variable {P : Program}
theorem cellsOf_run {t : TypeId} {d : TypeDesc} (h : P.underlying t = some d) : ∃ i, P.info? t = some i := by
  cases hi : P.info? t with
  | none =>
    have : P.underlying t = none := by
      unfold Program.underlying
      simp [hi]
    rw [this] at h; cases h
  | some i => exact ⟨i, rfl⟩
theorem run_isAgg_wide {t : TypeId} {d : TypeDesc} (h : P.underlying t = some d) (w : World) : (isAgg t).run P w = .ok (wide P t) w := by
  unfold wide isAgg
  rw [h]
  simp only [Sem.run_bind, run_underlying h, Result.andThen_ok]
  cases d <;> rfl
theorem run_part_of {t : TypeId} {d : TypeDesc} (h : P.underlying t = some d) {xs : List Value} {off n : Nat} (hn : P.cellsOf t = n) (h1 : wide P t = false → n = 1) (hl : off + n ≤ xs.length) (w : World) :
    ∃ v, (part t xs.toArray off).run P w = .ok v w ∧ asVal P t ((xs.drop off).take n) v := by
  obtain ⟨i, hi⟩ := cellsOf_run h
  have hsz : i.size = n := by
    have : P.cellsOf t = i.size := by unfold Program.cellsOf; rw [hi]; rfl
    omega
  unfold part asVal
  cases hw : wide P t with
  | true =>
    refine ⟨.agg ((xs.drop off).take n).toArray, ?_, by simp⟩
    simp only [Sem.run_bind, run_isAgg_wide h, hw, Result.andThen_ok, if_true, run_sizeOf w hi, hsz, Sem.run_pure]
    congr 2
    simp [List.extract_eq_take_drop, hn]
  | false =>
    have hn1 := h1 hw
    subst hn1
    have hlt : off < xs.length := by omega
    refine ⟨xs[off], ?_, ?_⟩
    · simp [run_isAgg_wide h, hw, hlt]
    · simp only [Bool.false_eq_true, if_false]
      rw [List.drop_eq_getElem_cons hlt]
      rfl

theorem run_eqFields_plain (dd : Nat) (f : TypeId → Option (List Sc)) (hf : ∀ u ks, f u = some ks → (∃ d, P.underlying u = some d) ∧ P.cellsOf u = ks.length ∧ (wide P u = false → ks.length = 1) ∧
      ∀ (xs ys : List Value) (x y : Value) (w : World), typedBy ks xs = true → typedBy ks ys = true → asVal P u xs x → asVal P u ys y → (Op.equalIn dd u x y).run P w = .ok (cEq xs ys) w) (xs ys : List Value) :
    ∀ (fs : List Field) (off : Nat) (ks : List Sc), fieldKinds f fs off = some ks → typedBy ks (xs.drop off) = true → typedBy ks (ys.drop off) = true → ∀ w, (Op.eqFields dd xs.toArray ys.toArray fs).run P w = .ok (cEq (xs.drop off) (ys.drop off)) w := by
  intro fs
  induction fs with
  | nil =>
    intro off ks h hx hy w
    simp only [fieldKinds, Option.some.injEq] at h
    subst h
    have e1 : xs.drop off = [] := List.eq_nil_of_length_eq_zero (typedBy_length hx)
    have e2 : ys.drop off = [] := List.eq_nil_of_length_eq_zero (typedBy_length hy)
    simp [Op.eqFields, e1, e2, cEq]
  | cons fd fs ih =>
    intro off ks h hx hy w
    simp only [fieldKinds] at h
    split at h
    · rename_i hc
      simp only [Bool.and_eq_true, bne_iff_ne, beq_iff_eq] at hc
      obtain ⟨hnm, hoff⟩ := hc
      cases hk : f fd.type with
      | none => rw [hk] at h; cases h
      | some k1 =>
        rw [hk] at h
        simp only at h
        split at h
        rotate_left
        · cases h
        rename_i hne
        simp only [bne_iff_ne] at hne
        simp only [Option.map_eq_some_iff] at h
        obtain ⟨k2, h2, rfl⟩ := h
        obtain ⟨⟨d, hd⟩, hcs, h1w, hrun⟩ := hf _ _ hk
        obtain ⟨tx1, tx2⟩ := typedBy_append hx
        obtain ⟨ty1, ty2⟩ := typedBy_append hy
        have lx := typedBy_length hx
        have ly := typedBy_length hy
        simp only [List.length_drop, List.length_append] at lx ly
        have hkx : off + k1.length ≤ xs.length := by omega
        have hky : off + k1.length ≤ ys.length := by omega
        obtain ⟨a, pa, va⟩ := run_part_of hd hcs h1w hkx w
        obtain ⟨b, pb, vb⟩ := run_part_of hd hcs h1w hky w
        have hr := hrun _ _ a b w tx1 ty1 va vb
        rw [List.drop_drop] at tx2 ty2
        have hr2 := ih (off + k1.length) k2 h2 tx2 ty2 w
        have hsplit : cEq (xs.drop off) (ys.drop off) = (cEq ((xs.drop off).take k1.length) ((ys.drop off).take k1.length) && cEq (xs.drop (off + k1.length)) (ys.drop (off + k1.length))) := by
          rw [← cEq_append (by rw [typedBy_length tx1, typedBy_length ty1])]
          rw [← List.drop_drop, ← List.drop_drop, List.take_append_drop, List.take_append_drop]
        simp only [Op.eqFields, hnm, ne_eq, not_false_eq_true, if_true, Sem.run_bind, hoff, pa, pb, hr, Result.andThen_ok]
        rw [hsplit]
        cases cEq ((xs.drop off).take k1.length) ((ys.drop off).take k1.length)
        · simp
        · simpa using hr2
    · cases h
theorem run_eqItems_plain (dd : Nat) {e : TypeId} {ks : List Sc} {d : TypeDesc} (hd : P.underlying e = some d) (hcs : P.cellsOf e = ks.length) (h1w : wide P e = false → ks.length = 1)
    (hrun : ∀ (xs ys : List Value) (x y : Value) (w : World), typedBy ks xs = true → typedBy ks ys = true → asVal P e xs x → asVal P e ys y → (Op.equalIn dd e x y).run P w = .ok (cEq xs ys) w) (xs ys : List Value) :
    ∀ (m j : Nat), typedBy ((List.replicate m ks).flatten) (xs.drop (j * ks.length)) = true → typedBy ((List.replicate m ks).flatten) (ys.drop (j * ks.length)) = true → ks.length ≠ 0 → ∀ w, (Op.eqItems dd e ks.length xs.toArray ys.toArray (List.range' j m)).run P w = .ok (cEq (xs.drop (j * ks.length)) (ys.drop (j * ks.length))) w := by
  intro m
  induction m with
  | zero =>
    intro j hx hy _ w
    have e1 : xs.drop (j * ks.length) = [] := List.eq_nil_of_length_eq_zero (typedBy_length hx)
    have e2 : ys.drop (j * ks.length) = [] := List.eq_nil_of_length_eq_zero (typedBy_length hy)
    simp [Op.eqItems, e1, e2, cEq]
  | succ m ih =>
    intro j hx hy hne w
    rw [List.replicate_succ, List.flatten_cons] at hx hy
    obtain ⟨tx1, tx2⟩ := typedBy_append hx
    obtain ⟨ty1, ty2⟩ := typedBy_append hy
    have lx := typedBy_length hx
    have ly := typedBy_length hy
    simp only [List.length_drop, List.length_append] at lx ly
    have hkx : j * ks.length + ks.length ≤ xs.length := by omega
    have hky : j * ks.length + ks.length ≤ ys.length := by omega
    obtain ⟨a, pa, va⟩ := run_part_of hd hcs h1w hkx w
    obtain ⟨b, pb, vb⟩ := run_part_of hd hcs h1w hky w
    have hr := hrun _ _ a b w tx1 ty1 va vb
    rw [List.drop_drop] at tx2 ty2
    have hj : j * ks.length + ks.length = (j + 1) * ks.length := by rw [Nat.add_mul, Nat.one_mul]
    rw [hj] at tx2 ty2
    have hr2 := ih (j + 1) tx2 ty2 hne w
    have hsplit : cEq (xs.drop (j * ks.length)) (ys.drop (j * ks.length)) = (cEq ((xs.drop (j * ks.length)).take ks.length) ((ys.drop (j * ks.length)).take ks.length) && cEq (xs.drop ((j + 1) * ks.length)) (ys.drop ((j + 1) * ks.length))) := by
      rw [← cEq_append (by rw [typedBy_length tx1, typedBy_length ty1])]
      rw [← hj, ← List.drop_drop, ← List.drop_drop, List.take_append_drop, List.take_append_drop]
    rw [List.range'_succ]
    simp only [Op.eqItems, Sem.run_bind, pa, pb, hr, Result.andThen_ok]
    rw [hsplit]
    cases cEq ((xs.drop (j * ks.length)).take ks.length) ((ys.drop (j * ks.length)).take ks.length)
    · simp
    · simpa using hr2
theorem scal {t : TypeId} (hw : wide P t = false) {cs : List Value} {v : Value} (h : asVal P t cs v) : cs = [v] := by
  unfold asVal at h; rw [hw] at h; simpa using h
theorem wideV {t : TypeId} (hw : wide P t = true) {cs : List Value} {v : Value} (h : asVal P t cs v) : v = .agg cs.toArray := by
  unfold asVal at h; rw [hw] at h; simpa using h
theorem run_eq_kinds : ∀ (n d : Nat) (t : TypeId) (ks : List Sc), kindsOf P n t = some ks → (∃ u, P.underlying t = some u) ∧ (wide P t = false → ks.length = 1) ∧
    ∀ (xs ys : List Value) (x y : Value) (w : World), typedBy ks xs = true → typedBy ks ys = true → asVal P t xs x → asVal P t ys y → (Op.equalIn (d + n) t x y).run P w = .ok (cEq xs ys) w := by
  intro n
  induction n with
  | zero => intro d t ks h; simp [kindsOf] at h
  | succ n ih =>
    intro d t ks h
    simp only [kindsOf] at h
    cases hu : P.underlying t with
    | none => rw [hu] at h; cases h
    | some u =>
      rw [hu] at h
      refine ⟨⟨u, rfl⟩, ?_⟩
      cases u with
      | bool =>
        simp only [Option.some.injEq] at h; subst h
        have hw : wide P t = false := by unfold wide; rw [hu]
        refine ⟨fun _ => rfl, fun xs ys x y w hx hy vx vy => ?_⟩
        obtain rfl := scal hw vx; obtain rfl := scal hw vy
        cases x <;> simp [typedBy, Sc.fits] at hx
        cases y <;> simp [typedBy, Sc.fits] at hy
        rw [show d + (n + 1) = (d + n) + 1 from rfl]
        simp [Op.equalIn, run_underlying hu, cEq, vEq]
      | int k =>
        simp only [Option.some.injEq] at h; subst h
        have hw : wide P t = false := by unfold wide; rw [hu]
        refine ⟨fun _ => rfl, fun xs ys x y w hx hy vx vy => ?_⟩
        obtain rfl := scal hw vx; obtain rfl := scal hw vy
        cases x <;> simp [typedBy, Sc.fits] at hx
        cases y <;> simp [typedBy, Sc.fits] at hy
        subst hx hy
        rw [show d + (n + 1) = (d + n) + 1 from rfl]
        simp [Op.equalIn, run_underlying hu, cEq, vEq]
      | string =>
        simp only [Option.some.injEq] at h; subst h
        have hw : wide P t = false := by unfold wide; rw [hu]
        refine ⟨fun _ => rfl, fun xs ys x y w hx hy vx vy => ?_⟩
        obtain rfl := scal hw vx; obtain rfl := scal hw vy
        cases x <;> simp [typedBy, Sc.fits] at hx
        cases y <;> simp [typedBy, Sc.fits] at hy
        rw [show d + (n + 1) = (d + n) + 1 from rfl]
        simp [Op.equalIn, run_underlying hu, cEq, vEq]
      | array m e =>
        simp only at h
        have hw : wide P t = true := by unfold wide; rw [hu]
        refine ⟨(fun h' => by rw [hw] at h'; cases h'), fun xs ys x y w hx hy vx vy => ?_⟩
        cases hk : kindsOf P n e with
        | none => rw [hk] at h; cases h
        | some k1 =>
          rw [hk] at h
          simp only at h
          split at h
          · rename_i hc
            simp only [Bool.and_eq_true, beq_iff_eq, bne_iff_ne] at hc
            simp only [Option.some.injEq] at h
            subst h
            obtain ⟨⟨ud, hd⟩, h1w, hrun⟩ := ih d e k1 hk
            obtain ⟨i, hi⟩ := cellsOf_run hd
            rw [wideV hw vx, wideV hw vy, show d + (n + 1) = (d + n) + 1 from rfl, run_equalIn_array w (d + n) _ _ hu hi, hc.1, List.range_eq_range']
            have := run_eqItems_plain (d + n) hd hc.1 h1w hrun xs ys m 0 (by simpa using hx) (by simpa using hy) hc.2 w
            simpa using this
          · cases h
      | struct fs =>
        simp only at h
        have hw : wide P t = true := by unfold wide; rw [hu]
        refine ⟨(fun h' => by rw [hw] at h'; cases h'), fun xs ys x y w hx hy vx vy => ?_⟩
        split at h
        · cases h
        · rename_i hp
          simp only [Bool.not_eq_true] at hp
          have hfo : P.fieldsOf t = fs := by unfold Program.fieldsOf; rw [hu]
          rw [wideV hw vx, wideV hw vy, show d + (n + 1) = (d + n) + 1 from rfl, run_equalIn_struct w (d + n) t _ _ (by rw [hfo]; exact hu) hp, hfo]
          have := run_eqFields_plain (P := P) (d + n) _ (fun u ks' hu' => by
            cases hk : kindsOf P n u with
            | none => rw [hk] at hu'; cases hu'
            | some k1 =>
              rw [hk] at hu'
              simp only at hu'
              split at hu'
              · rename_i hc
                simp only [Option.some.injEq] at hu'
                subst hu'
                simp only [beq_iff_eq] at hc
                obtain ⟨h1, h2, h3⟩ := ih d u k1 hk
                exact ⟨h1, hc, h2, h3⟩
              · cases hu') xs ys fs.toList 0 ks h (by simpa using hx) (by simpa using hy) w
          simpa using this
      | _ => cases h
theorem run_eq {t : TypeId} {ks : List Sc} (n : Nat) (hn : n ≤ 10000) (h : kindsOf P n t = some ks) (hw : wide P t = true) {xs ys : List Value} (hx : typedBy ks xs = true) (hy : typedBy ks ys = true) (w : World) :
    (Op.equal t (.agg xs.toArray) (.agg ys.toArray)).run P w = .ok (cEq xs ys) w := by
  obtain ⟨_, _, hr⟩ := run_eq_kinds (P := P) n (10000 - n) t ks h
  have := hr xs ys (.agg xs.toArray) (.agg ys.toArray) w hx hy (by unfold asVal; rw [hw]; rfl) (by unfold asVal; rw [hw]; rfl)
  rw [show 10000 - n + n = 10000 from by omega] at this
  exact this
end

section
variable {P : Program} {L : FL} {o : Oper}
/-- x == y, x != y on such values: what the operation comes to in every world -/
theorem val_eq {xs ys : List Value} {T T' : Nat} {x y : Operand} {ks : List Sc} {neg : Bool} (n : Nat) (hn : n ≤ 10000) (hop : o.op = .binOp (if neg then .neq else .eql) T x y T') (hx : ev L x = some (.agg xs.toArray)) (hy : ev L y = some (.agg ys.toArray))
    (hk : kindsOf P n T = some ks) (hw : wide P T = true) (tx : typedBy ks xs = true) (ty : typedBy ks ys = true) (hg : P.eqGuardType P.depth T = false) : ∀ w, (execOp (evD L) o).run P w = .ok (.value (.bool (if neg then !cEq xs ys else cEq xs ys))) w := fun w => by
  have h := run_eq n hn hk hw tx ty w
  have ex : evD L x = .agg xs.toArray := by simp [evD, hx]
  have ey : evD L y = .agg ys.toArray := by simp [evD, hy]
  cases neg
  · simp only [Bool.false_eq_true, if_false] at hop ⊢
    simp only [execOp, hop, ex, ey]
    simp [eqGuard, binOp, h, hg, run_program]
  · simp only [if_true] at hop ⊢
    simp only [execOp, hop, ex, ey]
    simp [eqGuard, binOp, h, hg, run_program]
/-- an element of an array that is a value -/
theorem val_indexA1 {α : Type} {t : FT α} {T E n m : Nat} {kd : IntKind} {l : List α} {i : Int} {y : α} {v : Value} {x ix : Operand} (hop : o.op = .index T x ix) (hx : ev L x = some (.agg (flat [(m, encs t l)]).toArray)) (hix : ev L ix = some (.int kd i)) (hi : idx l i = some y) (hl : l.length = n)
    (h1 : t.enc y = [v]) (ht : t.size = 1) (hu : pureRun P (underlying T) = some (.array n E)) (hs : pureRun P (sizeOf E) = some 1) (hg : pureRun P (isAgg E) = some false) : ∀ w, (execOp (evD L) o).run P w = .ok (.value v) w := fun w => by
  obtain ⟨h0, hlt, hy⟩ := idx_some hi
  have ex : evD L x = .agg (encs t l).toArray := by simp [evD, hx, flat]
  have ei : evD L ix = .int kd i := by simp [evD, hix]
  have hin : i < (n : Int) := by omega
  have hc := encs_at t l hy 0 v (by rw [h1]; rfl)
  rw [ht] at hc
  simp only [execOp, hop, ex, ei]
  simp only [Nat.mul_one, Nat.add_zero] at hc
  simp [Instr.index, asIntOf, run_underlying' hu, pureRun_run _ hs w, pureRun_run _ hg w, h0, hin, part, hc]
theorem val_indexATy {α : Type} {t : Ty α} {T E n m : Nat} {kd : IntKind} {cs : List Value} {i : Int} {x ix : Operand} (hop : o.op = .index T x ix) (hx : ev L x = some (.agg (flat [(m, cs)]).toArray)) (hix : ev L ix = some (.int kd i)) (hi : 0 ≤ i ∧ i < (n : Int))
    (hu : pureRun P (underlying T) = some (.array n E)) (hs : pureRun P (sizeOf E) = some t.size) (hg : pureRun P (isAgg E) = some true) : ∀ w, (execOp (evD L) o).run P w = .ok (.value (.agg ((cs.drop (i.toNat * t.size)).take t.size).toArray)) w := fun w => by
  have ex : evD L x = .agg cs.toArray := by simp [evD, hx, flat]
  have ei : evD L ix = .int kd i := by simp [evD, hix]
  simp only [execOp, hop, ex, ei]
  simp [Instr.index, asIntOf, run_underlying' hu, pureRun_run _ hs w, pureRun_run _ hg w, hi.1, hi.2, part, List.extract_eq_take_drop]
theorem typed_len {α : Type} {t : FT α} {k : Sc} (h : ∀ x, typedBy [k] (t.enc x) = true) {l : List α} {n : Nat} (hl : l.length = n) : typedBy (List.replicate n k) (encs t l) = true := by
  subst hl
  have := typed_encs h l
  rw [show (List.replicate l.length [k]).flatten = List.replicate l.length k from by
    generalize l.length = n
    induction n with
    | zero => rfl
    | succ n ih => rw [List.replicate_succ, List.flatten_cons, ih]; rfl] at this
  exact this
theorem typed_nil : typedBy [] (flat []) = true := rfl
theorem typed_one {k : Sc} {v : Value} (h : k.fits v = true) {ks : List Sc} {s : Segs} (r : typedBy ks (flat s) = true) : typedBy (k :: ks) (flat ((1, [v]) :: s)) = true := by
  show (k.fits v && typedBy ks (flat s)) = true
  rw [h, r]; rfl
theorem typed_cons {n : Nat} {cs : List Value} {ks ks' : List Sc} (h : typedBy ks' cs = true) {s : Segs} (r : typedBy ks (flat s) = true) : typedBy (ks' ++ ks) (flat ((n, cs) :: s)) = true := typedBy_mk h r
theorem idx_lt {α : Type} {l : List α} {i : Int} {x : α} {n : Nat} (h : idx l i = some x) (hl : l.length = n) : 0 ≤ i ∧ i < (n : Int) := by
  obtain ⟨h0, h1, _⟩ := idx_some h; omega
end
end Go.Cf
