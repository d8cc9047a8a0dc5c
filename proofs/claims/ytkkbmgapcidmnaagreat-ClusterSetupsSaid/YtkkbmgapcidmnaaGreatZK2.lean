/- Part 10: struct literals with parts that aren't known cell by cell; elements of arrays in boxes, in regions that draw their order. -/
import Derived.Laws.Tables
import Derived.RangeFuncIn
import Derived.RangeFuncRecord
import Derived.RangeFuncSeq
import Derived.RangeFuncLeaves
import Derived.Deep.Slices
import Derived.WideKeyArgs
import Derived.Carry
import Derived.MapKept
import Derived.Laws.Strings
import Derived.Maps.RangeRun
import Derived.Laws.MakeOwn
import Derived.Scope
import Derived.Test.YtkkbmgapcidmnaaGreatZK1
namespace Go.Cf
open Go
theorem keptBut_of {w w' : World} (h : ∀ i, i < w.heap.size → w'.heap[i]? = w.heap[i]?) (ho : w'.os = w.os) (ht : w'.output = w.output) (may : MemPlace → Prop) : w.keptBut w' may := by
  refine ⟨ho, ht, fun i hi => ?_⟩
  rw [h i hi]
  cases hx : w.heap[i]? with
  | none => rfl
  | some o => cases o <;> simp
end Go.Cf
namespace Go.Cf
open Go
section
variable {M : List Nat} {κ0 κ κ' : Gh} {w0 w w' : World} {C C' : List Ck} {R R' : List MP}
def notCells (o : Obj) : Prop := ∀ c t fr, o ≠ .cells c t fr
theorem Ext.put {l : Nat} {o o' : Obj} (h : w.heap[l]? = some o') (hk : κ l = none) (ho' : notCells o') (ho : notCells o) : Ext [l] κ w κ (w.putObj l o) where
  os := rfl
  out := rfl
  tape := rfl
  size := by simp
  keep := fun b _ hb => ⟨World.putObj_heap_other (by simpa using hb), rfl⟩
  pub := fun b n hn => ⟨n, hn, Nat.le_refl _, fun i _ => cell_of_heap (World.putObj_heap_other fun e => by rw [e, hk] at hn; cases hn)⟩
end
section
variable {ro : Option Nat} {P : Program} {ops : Array Oper} {Q : Exit → Act → World → Prop} {N : Nat} {D : List Deferred} {L L' : FL} {a : Act} {w : World} {o : Oper} {K : Act → World → Prop}
variable {M : List Nat} {κ0 κ : Gh} {w0 : World} {C C' : List Ck} {R R' : List MP}
def mark (r : Nat) : Deferred := { target := .collected r, args := #[] }
theorem SS.back {w1 : World} {κ' : Gh} {w' : World} {x : XF} (h : SS M κ0 w0 κ w1 C R) (h2 : SS (blksOf C) κ w1 κ' w' [.ext x] []) : SS M κ0 w0 κ' w' [.ext x] R where
  ext := h.ext.trans' h2.ext fun b hb => h.own b hb
  fresh := h2.fresh
  ok := h2.ok
  lt := h2.lt
  nd := h2.nd
  own := fun b hb => (h2.own b hb).elim (fun h3 => .inl (Nat.le_trans h.ext.size h3)) (h.own b)
  ro := fun m hm => m.mono h2.ext (h.ro m hm)
end
end Go.Cf
namespace Go.Cf
open Go
section
variable {P : Program} {Q : Exit → Act → World → Prop} {N : Nat} {D : List Deferred} {L L' : FL} {a : Act} {w : World}
variable {M : List Nat} {κ0 κ : Gh} {w0 : World} {C C' : List Ck} {R R' : List MP}
/-- the slots that a round's values are laid into -/
def ups (L : FL) (l : List (Tmp × Value)) : FL := l.foldl (fun L x => upd L (some x.1) x.2) L
theorem Fr.fold : ∀ (l : List (Tmp × Value)) {L : FL} {t : Array Value}, Fr N D L { tmps := t, defers := D } → (l.all fun x => x.1 < N) = true → Fr N D (ups L l) { tmps := l.foldl (fun tmps (x : Tmp × Value) => tmps.setIfInBounds x.1 x.2) t, defers := D } := by
  intro l
  induction l with
  | nil => intro L t h _; exact h
  | cons x l ih =>
    intro L t h hl
    simp only [List.all_cons, Bool.and_eq_true, decide_eq_true_eq] at hl
    have h1 : Fr N D (upd L (some x.1) x.2) { tmps := t.setIfInBounds x.1 x.2, defers := D } := h.put (some x.1) x.2 (fun t ht => by cases ht; exact hl.1)
    exact ih h1 hl.2
theorem Fr.round {ps : Array Tmp} {args : Array Value} (h : Fr N [] L a) (hl : ((ps.zip args).toList.all fun x => x.1 < N) = true) (ks : List Nat) (hL : Cf.keep (ups L (ps.zip args).toList) ks = L') :
    Fr N [] L' { tmps := (ps.zip args).foldl (fun tmps (t, a) => tmps.setIfInBounds t a) a.tmps, defers := [] } := by
  have h0 : Fr N [] L { tmps := a.tmps, defers := [] } := ⟨rfl, h.size, h.val⟩
  have := (h0.fold (ps.zip args).toList hl).keep' ks hL
  rw [← Array.foldl_toList]
  exact this
end
end Go.Cf
namespace Go.Cf
open Go
/-- every block that is there is published, as far as K -/
def gh (K : Nat) (W : World) : Gh := fun b => if b < W.heap.size then some K else none
/-- what reads as data of type E are the cells of a value, which is as `ok` says -/
def RdT {α : Type} (P : Program) (t : Ty α) (ok : α → Prop) (E : TypeId) : Prop := ∀ (H : Type) (enc : TypeId × Value → H) (W : World) (n : Nat) (cs : List Value) (d : DataW H × List MemPlace), DataW.trod enc P W 0 (fun _ => true) true n E cs = some d → ∃ x K0, ok x ∧ ∀ K, K0 ≤ K → t.rep (gh K W) W cs x
def inI (k : IntKind) (x : Int) : Prop := k.min ≤ x ∧ x ≤ k.max
def okB (_ : Bool) : Prop := True
theorem rd_int {P : Program} {E : TypeId} {k : IntKind} (h : P.underlying E = some (.int k)) : RdT P (fInt k).ty (inI k) E := fun H enc W n cs d hd => by
  cases n with
  | zero => simp [DataW.trod] at hd
  | succ n =>
    unfold DataW.trod at hd
    rw [h] at hd
    split at hd <;> simp_all [fInt, FT.ty, inI, Lit.wf]
    exact ⟨_, hd.1.2, 0, fun _ _ => rfl⟩
theorem rd_bool {P : Program} {E : TypeId} (h : P.underlying E = some .bool) : RdT P fBool.ty okB E := fun H enc W n cs d hd => by
  cases n with
  | zero => simp [DataW.trod] at hd
  | succ n =>
    unfold DataW.trod at hd
    rw [h] at hd
    cases cs with
    | nil => simp at hd
    | cons v cs =>
      cases cs with
      | cons u cs => simp at hd
      | nil =>
        cases v <;> simp at hd
        exact ⟨_, 0, trivial, fun _ _ => rfl⟩
/-- a row of cells, as its pieces -/
def cat (cs : List Value) : Nat → List Nat → List Value
  | _, [] => []
  | o, n :: ns => (cs.drop o).take n ++ cat cs (o + n) ns
theorem cat_eq (cs : List Value) : ∀ (ns : List Nat) (o : Nat), o + ns.sum = cs.length → cat cs o ns = cs.drop o := fun ns => by
  induction ns with
  | nil => intro o h; simp at h; subst h; simp [cat]
  | cons n ns ih =>
    intro o h
    simp only [List.sum_cons] at h
    rw [cat, ih (o + n) (by omega), ← List.drop_drop, List.take_append_drop]
theorem pieces {cs : List Value} (ns : List Nat) (h : cs.length = ns.sum) : cs = cat cs 0 ns := by
  rw [cat_eq cs ns 0 (by omega)]; rfl
/-- an argument that is a struct: a row of cells that reads -/
theorem arg_struct {P : Program} {T : TypeId} {fs : Array Field} {H : Type} {enc : TypeId × Value → H} {W : World} {v : Value} {d : DataW H} {ps : List MemPlace} (ht : P.underlying T = some (.struct fs)) (h : DataW.Trod enc P W 0 (fun _ => true) true T v d ps) {base : Nat} (hok : Value.okWide P W .any base T v) :
    ∃ cs : List Value, v = .agg cs.toArray ∧ ∃ n d', DataW.trod enc P W 0 (fun _ => true) true n T cs = some d' := by
  unfold Value.okWide at hok
  rw [ht] at hok
  obtain ⟨⟨cs⟩, rfl, _⟩ := hok
  obtain ⟨n, h⟩ := h
  exact ⟨cs, rfl, n, _, h⟩
/-- a struct that reads: its parts read -/
theorem rd_struct {P : Program} {T : TypeId} {fs : Array Field} {H : Type} {enc : TypeId × Value → H} {W : World} {n : Nat} {cs : List Value} {d : DataW H × List MemPlace} (ht : P.underlying T = some (.struct fs)) (h : DataW.trod enc P W 0 (fun _ => true) true n T cs = some d) :
    cs.length = P.cellsOf T ∧ ∃ k, ∀ f ∈ fs.toList, ∃ d', DataW.trod enc P W 0 (fun _ => true) true k f.type ((cs.drop f.offset).take (P.cellsOf f.type)) = some d' := by
  cases n with
  | zero => simp [DataW.trod] at h
  | succ n =>
    unfold DataW.trod at h
    rw [ht] at h
    simp only at h
    split at h
    · rename_i hl
      refine ⟨hl, n, ?_⟩
      rw [Option.map_eq_some_iff] at h
      obtain ⟨xs, hxs, _⟩ := h
      intro f hf
      obtain ⟨i, hi, rfl⟩ := List.getElem_of_mem hf
      have hlen := mapM_some_length hxs
      have hlt : i < xs.length := by omega
      have hg := mapM_some_get hxs i _ (List.getElem?_eq_getElem hi)
      rw [List.getElem?_eq_getElem hlt] at hg
      exact ⟨_, hg⟩
    · cases h
/-- all arguments read as they did, where nothing that was there has turned -/
theorem trodAll_stays {P : Program} {H : Type} {enc : TypeId × Value → H} {W W' : World} {sp : Nat → Bool} (hl : laidOutB P = true) : ∀ {ts : List TypeId} {vs : List Value} {ds : List (DataW H)} {ps : List MemPlace}, (ts.all fun t => P.readableRec t && decide (t < P.types.size)) = true →
    DataW.TrodAll enc P W 0 (fun _ => true) true ts vs ds ps → (∀ p ∈ ps, W.sameAt W' p) → (∀ p ∈ ps, sp p.block = true) → DataW.TrodAll enc P W' 0 sp true ts vs ds ps := by
  intro ts
  induction ts with
  | nil => intro vs ds ps _ h _ _; cases vs <;> cases ds <;> simp_all [DataW.TrodAll]
  | cons t ts ih =>
    intro vs ds ps ht h hs hsp
    cases vs with
    | nil => simp [DataW.TrodAll] at h
    | cons v vs =>
      cases ds with
      | nil => simp [DataW.TrodAll] at h
      | cons d ds =>
        obtain ⟨p, q, h1, h2, rfl⟩ := h
        simp only [List.all_cons, Bool.and_eq_true, decide_eq_true_eq] at ht
        exact ⟨p, q, WideElems.Trod_stays hl ht.1.1 ht.1.2 h1 (fun x hx => hs x (by simp [hx])) (fun x hx => hsp x (by simp [hx])), ih (by simpa using ht.2) h2 (fun x hx => hs x (by simp [hx])) (fun x hx => hsp x (by simp [hx])), rfl⟩
theorem sameAt_of {W W' : World} (h : ∀ b, b < W.heap.size → W'.heap[b]? = W.heap[b]?) {p : MemPlace} (hp : p.block < W.heap.size) : W.sameAt W' p := by
  cases p with
  | cell b off => exact cell_of_heap (h b hp)
  | map b => exact h b hp
/-- the row's end: what was handed in reads as it did, and nothing that was there has turned -/
theorem post_kept {H : Type} {enc : TypeId × Value → H} {P : Program} {f : Func} {s : ChangeSpec} {W W' : World} {args : Array Value} {v : Value} {ds gs : List (DataW H)} {before pa pv : List MemPlace}
    (hW : DataW.Whole enc P f.params.toList s.vars false W args.toList ds gs before)
    (hres : ∀ (b : Nat) (sp : Nat → Bool) (hd : Bool), DataW.TrodAll enc P W' b sp hd f.resultTypes.toList (v.resultList f.resultTypes.size) (s.fn H (ds ++ gs)).results [])
    (hargs : ∀ sp : Nat → Bool, (∀ p ∈ before, sp p.block = true) → DataW.TrodAll enc P W' 0 sp true f.params.toList args.toList (s.fn H (ds ++ gs)).args pa)
    (hvars : ∀ sp : Nat → Bool, (∀ p ∈ before, sp p.block = true) → DataW.TrodVars enc P W' sp s.vars (s.fn H (ds ++ gs)).vars pv)
    (hps : before = pa ++ pv) (hk : W.keptBut W' (· ∈ before)) : s.post enc P f false true false false W args v W' := by
  have hold : ∀ p ∈ before, (fun b => decide (b < W.heap.size)) p.block = true := fun p hp => by simpa using hW.lt p hp
  refine ⟨ds, gs, before, [], pa, pv, hW, hres _ _ _, hargs _ hold, hvars _ hold, World.keptBut_mono (fun p hp => ⟨hp, ?_⟩) hk, fun h => by cases h⟩
  rw [hps, List.mem_append] at hp
  exact Or.inr hp
end Go.Cf
namespace Go.Cf
open Go
set_option linter.unusedVariables false
abbrev sg (x : ByteArray) : Nat × List Value := (1, [.string x])
abbrev sl (p : Option Addr) (n c : Nat) : Nat × List Value := (1, [.slice p n c])
abbrev vi (x : Int) : Value := .int .i64 x
abbrev vu (x : Int) : Value := .int .u64 x
abbrev vb (x : Bool) : Value := .bool x
def opT (o : Oper) : TypeId := match o.op with | .store T _ _ => T | .load T _ => T | .box T _ => T | .alloc T => T | _ => 0
section
variable {ro : Option Nat} {P : Program} {ops : Array Oper} {Q : Exit → Act → World → Prop} {N : Nat} {D : List Deferred} {L L' : FL} {a : Act} {w : World} {o : Oper} {K : Act → World → Prop}
variable {M : List Nat} {κ0 κ : Gh} {w0 : World} {C C' : List Ck} {R R' : List MP}
theorem SS.sp (h : SS M κ0 w0 κ w C R) (is js : List Nat) {C' : List Ck} {R' : List MP} (hn : is.Nodup := by decide) (hC : selG C is = C' := by kernel_rfl) (hR : selG R js = R' := by kernel_rfl) : SS M κ0 w0 κ w C' R' := (h.selp is hn hC).pick js hR
end
section
variable {ro : Option Nat} {P : Program} {ops : Array Oper} {Q : Exit → Act → World → Prop} {S : World → Prop} {tl : List Nat} {N m : Nat} {D : List Deferred} {L L' : FL} {a : Act} {w : World} {fuel : Nat} {listed : Array Bool}
variable {M : List Nat} {κ0 κ : Gh} {w0 : World} {C : List Ck} {R : List MP}
end
end Go.Cf
namespace Go.Cf
open Go
set_option linter.unusedVariables false
theorem Ext.all {M : List Nat} {κ κ' : Gh} {w w' : World} (h : Ext M κ w κ' w') : Ext (List.range w.heap.size) κ w κ' w' :=
  ⟨h.os, h.out, h.tape, h.size, fun b hb hm => absurd (List.mem_range.2 hb) hm, h.pub⟩
/-- all that was published at (κ1, w1) is as it was -/
def MP.since (κ1 : Gh) (w1 : World) : MP := ⟨fun κ w => ∃ M, Ext M κ1 w1 κ w, fun {_ κ w _ _} e ⟨_, h⟩ => ⟨List.range w1.heap.size ++ List.range w.heap.size, by
  refine (h.all.weaken fun b hb _ => List.mem_append.2 (.inl hb)).trans (e.all.weaken fun b hb _ => List.mem_append.2 (.inr hb))⟩⟩
def MP.old (p : Option Addr) (w1 : World) : MP := MP.const (∀ a, p = some a → w1.heap.size ≤ a.block)
section
variable {ro : Option Nat} {P : Program} {ops : Array Oper} {Q : Exit → Act → World → Prop} {N : Nat} {D : List Deferred} {L L' : FL} {a : Act} {w : World} {o : Oper} {K : Act → World → Prop}
variable {κ0 κ : Gh} {w0 : World} {C C' : List Ck} {R R' R0 Ra Rb : List MP}
end
section
variable {ro : Option Nat} {P : Program} {ops : Array Oper} {Q : Exit → Act → World → Prop} {N : Nat} {D : List Deferred} {L L' : FL} {a : Act} {w : World} {o : Oper} {K : Act → World → Prop}
variable {M : List Nat} {κ0 κ : Gh} {w0 : World} {C C' : List Ck} {R R' : List MP}
end
def shrV (k : IntKind) (x y : Int) : Option Int := if 0 ≤ y then some (x / 2 ^ min y.toNat k.bits) else none
section
variable {P : Program} {L : FL} {o : Oper}
end
section
variable {ro : Option Nat} {P : Program} {ops : Array Oper} {Q : Exit → Act → World → Prop} {N : Nat} {D : List Deferred} {L L' : FL} {a : Act} {w : World} {o : Oper} {K : Act → World → Prop}
variable {M : List Nat} {κ0 κ : Gh} {w0 : World} {C C' : List Ck} {R R' : List MP}
end
end Go.Cf
namespace Go.Cf
open Go
/-- from cell k of block b on these cells were published -/
def MP.cells (b k : Nat) (cs : List Value) : MP := ⟨fun κ w => ∃ n, κ b = some n ∧ k + cs.length ≤ n ∧ ∀ j v, cs[j]? = some v → w.cell? ⟨b, k + j, none⟩ = some v, fun {_ κ w κ' w'} e ⟨n, h1, h2, h3⟩ => by
  obtain ⟨n', k1, k2, k3⟩ := e.pub b n h1
  refine ⟨n', k1, Nat.le_trans h2 k2, fun j v hj => ?_⟩
  have := (List.getElem?_eq_some_iff.1 hj).1
  rw [k3 _ (by omega)]
  exact h3 j v hj⟩
section
variable {P : Program} {w : World} {L : FL} {o : Oper} {M : List Nat} {κ0 κ : Gh} {w0 : World} {C : List Ck} {R : List MP}
end
section
variable {P : Program} {L : FL} {o : Oper}
end
section
variable {ro : Option Nat} {P : Program} {ops : Array Oper} {Q : Exit → Act → World → Prop} {S : World → Prop} {tl : List Nat} {N : Nat} {D : List Deferred} {L : FL} {a : Act} {w : World} {m : Nat} {listed : Array Bool}
end
section
variable {ro : Option Nat} {P : Program} {ops : Array Oper} {Q : Exit → Act → World → Prop} {S : World → Prop} {tl : List Nat} {N : Nat} {D : List Deferred} {L : FL} {a : Act} {w : World} {m : Nat} {listed : Array Bool} {o : Oper} {K : Act → World → Prop}
variable {M : List Nat} {κ0 κ : Gh} {w0 : World} {C : List Ck} {R : List MP}
end
end Go.Cf
namespace Go.Cf
open Go
theorem bl_irrefl : ∀ l : List UInt8, Op.bytesLess l l = false := fun l => by
  induction l with
  | nil => rfl
  | cons a l ih => simp [Op.bytesLess, ih]
theorem bl_total : ∀ a b : List UInt8, (!Op.bytesLess a b) = (Op.bytesLess b a || b == a) := fun a => by
  induction a with
  | nil => intro b; cases b <;> simp [Op.bytesLess]
  | cons x a ih =>
    intro b
    cases b with
    | nil => simp [Op.bytesLess]
    | cons y b =>
      have hih := ih b
      simp only [Op.bytesLess]
      rcases Nat.lt_trichotomy x.toNat y.toNat with h | h | h
      · have h1 : x < y := h
        have h2 : ¬ y < x := fun h3 => by have : y.toNat < x.toNat := h3; omega
        have h3 : x ≠ y := fun e => by subst e; omega
        simp [h1, h2, h3, Ne.symm h3]
      · have h0 : x = y := UInt8.toNat_inj.1 h
        subst h0
        have h2 : ¬ x < x := fun h3 => by have : x.toNat < x.toNat := h3; omega
        simp only [h2, decide_false, Bool.false_or, beq_self_eq_true, Bool.true_and, hih, List.cons_beq_cons]
      · have h1 : y < x := h
        have h2 : ¬ x < y := fun h3 => by have : x.toNat < y.toNat := h3; omega
        have h3 : x ≠ y := fun e => by subst e; omega
        simp [h1, h2, h3, Ne.symm h3]
theorem bl_nil (a : List UInt8) : Op.bytesLess a [] = false := by cases a <;> rfl
end Go.Cf
namespace Go.Cf
open Go
end Go.Cf
namespace Go.Cf
open Go Go.MapKept
abbrev Mp (K V : Type) := Option (List (K × V))
/-- keys that are ordered -/
class KO (K : Type) where
  lt : K → K → Bool
  irr : ∀ a, lt a a = false
  tr : ∀ a b c, lt a b = true → lt b c = true → lt a c = true
  tot : ∀ a b, a ≠ b → lt a b = true ∨ lt b a = true
theorem bl_tr : ∀ a b c : List UInt8, Op.bytesLess a b = true → Op.bytesLess b c = true → Op.bytesLess a c = true := fun a => by
  induction a with
  | nil =>
    intro b c h1 h2
    cases c with
    | nil => rw [bl_nil] at h2; cases h2
    | cons z c => rfl
  | cons x a ih =>
    intro b c h1 h2
    cases b with
    | nil => rw [bl_nil] at h1; cases h1
    | cons y b =>
      cases c with
      | nil => rw [bl_nil] at h2; cases h2
      | cons z c =>
        simp only [Op.bytesLess, Bool.or_eq_true, decide_eq_true_eq, Bool.and_eq_true, beq_iff_eq] at h1 h2 ⊢
        rcases h1 with h1 | ⟨rfl, h1⟩
        · rcases h2 with h2 | ⟨rfl, h2⟩
          · exact .inl (Nat.lt_trans (show x.toNat < y.toNat from h1) (show y.toNat < z.toNat from h2))
          · exact .inl h1
        · rcases h2 with h2 | ⟨rfl, h2⟩
          · exact .inl h2
          · exact .inr ⟨rfl, ih _ _ h1 h2⟩
theorem ba_toList_inj {a b : ByteArray} (h : a.toList = b.toList) : a = b := by
  have h1 : a.data.toList = b.data.toList := by rw [← ByteArray.toList_eq, ← ByteArray.toList_eq, h]
  cases a; cases b
  simpa using h1
instance : KO ByteArray where
  lt := sLt
  irr a := bl_irrefl _
  tr a b c := bl_tr _ _ _
  tot a b h := by
    have h1 := bl_total a.toList b.toList
    cases h2 : Op.bytesLess a.toList b.toList
    · rw [h2] at h1
      simp only [Bool.not_false, Bool.true_eq, Bool.or_eq_true, beq_iff_eq] at h1
      rcases h1 with h1 | h1
      · exact .inr h1
      · exact absurd (ba_toList_inj h1).symm h
    · exact .inl h2
instance : KO Int where
  lt a b := decide (a < b)
  irr a := by simp
  tr a b c h1 h2 := by simp only [decide_eq_true_eq] at *; omega
  tot a b h := by simp only [decide_eq_true_eq]; omega
section
variable {K V : Type} [DecidableEq K]
def lFind (l : List (K × V)) (k : K) : Option V := (l.find? fun p => decide (p.1 = k)).map (·.2)
/-- by rising keys -/
def Srt [KO K] (l : List (K × V)) : Prop := l.Pairwise fun x y => KO.lt x.1 y.1 = true
def mGet (m : Mp K V) (k : K) : Option V := m.bind fun l => lFind l k
theorem lFind_none {l : List (K × V)} {k : K} : lFind l k = none ↔ ∀ p ∈ l, p.1 ≠ k := by
  simp [lFind, List.find?_eq_none]
theorem lFind_at {l : List (K × V)} (hn : (l.map (·.1)).Nodup) {j : Nat} {x : K × V} (h : l[j]? = some x) : lFind l x.1 = some x.2 := by
  induction l generalizing j with
  | nil => simp at h
  | cons y l ih =>
    simp only [List.map_cons, List.nodup_cons] at hn
    cases j with
    | zero => simp only [List.getElem?_cons_zero, Option.some.injEq] at h; subst h; simp [lFind]
    | succ j =>
      simp only [List.getElem?_cons_succ] at h
      have hne : y.1 ≠ x.1 := fun e => hn.1 (e ▸ List.mem_map.2 ⟨x, List.mem_of_getElem? h, rfl⟩)
      have := ih hn.2 h
      simp only [lFind] at this ⊢
      rw [List.find?_cons_of_neg (by simpa using hne)]
      exact this
theorem lFind_some {l : List (K × V)} {k : K} {v : V} (h : lFind l k = some v) : (k, v) ∈ l := by
  simp only [lFind, Option.map_eq_some_iff] at h
  obtain ⟨p, hp, rfl⟩ := h
  have h1 := List.find?_some hp
  simp only [decide_eq_true_eq] at h1
  subst h1
  exact List.mem_of_find?_eq_some hp
section
variable [KO K]
omit [DecidableEq K] in
theorem Srt.nodup {l : List (K × V)} (h : Srt l) : (l.map (·.1)).Nodup := by
  refine List.Pairwise.map _ (fun x y hxy e => ?_) h
  rw [e, KO.irr] at hxy; cases hxy
omit [KO K] in
/-- the keys of a list, however it lies -/
theorem keys_of {l l' : List (K × V)} (hn : (l.map (·.1)).Nodup) (hn' : (l'.map (·.1)).Nodup) (h : ∀ k, lFind l k = lFind l' k) : l.Perm l' := by
  have nd : ∀ {l : List (K × V)}, (l.map (·.1)).Nodup → l.Nodup := fun h => List.Pairwise.of_map _ (fun a b h e => h (by rw [e])) h
  have sub : ∀ {l l' : List (K × V)}, (l.map (·.1)).Nodup → (∀ k, lFind l k = lFind l' k) → ∀ x ∈ l, x ∈ l' := fun {l l'} hn h x hx => by
    obtain ⟨j, hj⟩ := List.mem_iff_getElem?.1 hx
    have := lFind_at hn hj
    rw [h] at this
    exact lFind_some this
  exact (List.perm_ext_iff_of_nodup (nd hn) (nd hn')).2 fun x => ⟨sub hn h x, sub hn' (fun k => (h k).symm) x⟩
/-- two that are by rising keys, and have the same, are the same -/
theorem Srt.ext {l l' : List (K × V)} (h : Srt l) (h' : Srt l') (hf : ∀ k, lFind l k = lFind l' k) : l = l' := by
  have hp := keys_of h.nodup h'.nodup hf
  unfold Srt at h h'
  exact List.Perm.eq_of_pairwise (fun a b _ _ (h1 : KO.lt a.1 b.1 = true) (h2 : KO.lt b.1 a.1 = true) => absurd (KO.tr _ _ _ h1 h2) (by rw [KO.irr]; exact Bool.false_ne_true)) h h' hp
end
end
structure KT (K : Type) where
  enc : K → Value
  desc : TypeDesc
  key : ∀ k, IsKey desc (enc k)
  inj : ∀ a b, enc a = enc b → a = b
/-- a value of the element's type, out of its cells -/
def mkV (agg : Bool) (cs : List Value) : Value := if agg then .agg cs.toArray else cs.headD undef
structure LAt {K V : Type} (kt : KT K) (agg : Bool) (t : Ty V) (κ : Gh) (w : World) (es : Array MapEntry) (clk : Nat) (l : List (K × V)) : Prop where
  st : Stamped es clk
  keys : es.toList.map (·.key) = l.map fun x => kt.enc x.1
  vals : ∀ (i : Nat) e x, es.toList[i]? = some e → l[i]? = some x → ∃ cs, e.val = mkV agg cs ∧ t.rep κ w cs x.2
def MapAt {K V : Type} [DecidableEq K] [KO K] (kt : KT K) (agg : Bool) (t : Ty V) (κ : Gh) (w : World) (p : Option Nat) (es : Array MapEntry) (clk : Nat) (m : Mp K V) : Prop :=
  match m with
  | none => p = none ∧ es = #[]
  | some l => p.isSome = true ∧ Srt l ∧ ∃ l0, LAt kt agg t κ w es clk l0 ∧ ∀ k, lFind l0 k = lFind l k
def Map.mp {K V : Type} [DecidableEq K] [KO K] (kt : KT K) (agg : Bool) (t : Ty V) (p : Option Nat) (es : Array MapEntry) (clk : Nat) (m : Mp K V) : MP :=
  ⟨fun κ w => MapAt kt agg t κ w p es clk m, fun e h => by
    cases m with
    | none => exact h
    | some l =>
      obtain ⟨h1, hs, l0, h2, hf⟩ := h
      exact ⟨h1, hs, l0, ⟨h2.st, h2.keys, fun i x y hx hy => let ⟨cs, h1, h2⟩ := h2.vals i x y hx hy; ⟨cs, h1, t.mono e h2⟩⟩, hf⟩⟩
section
variable {K V : Type} {kt : KT K} {agg : Bool} {t : Ty V} {κ : Gh} {w : World} {es : Array MapEntry} {clk : Nat} {l : List (K × V)}
theorem LAt.len (h : LAt kt agg t κ w es clk l) : es.toList.length = l.length := by
  have := congrArg List.length h.keys
  simpa using this
theorem LAt.keyAt (h : LAt kt agg t κ w es clk l) {i : Nat} {e : MapEntry} {x : K × V} (he : es.toList[i]? = some e) (hx : l[i]? = some x) : e.key = kt.enc x.1 := by
  have := congrArg (fun z => z[i]?) h.keys
  simp only [List.getElem?_map, he, hx, Option.map_some, Option.some.injEq] at this
  exact this
theorem LAt.other (h : LAt kt agg t κ w es clk l) {i : Nat} {e : MapEntry} (he : es.toList[i]? = some e) : ∃ x, l[i]? = some x :=
  ⟨l[i]'(by rw [← h.len]; exact (List.getElem?_eq_some_iff.1 he).1), List.getElem?_eq_getElem _⟩
theorem LAt.other' (h : LAt kt agg t κ w es clk l) {i : Nat} {x : K × V} (hx : l[i]? = some x) : ∃ e, es.toList[i]? = some e :=
  ⟨es.toList[i]'(by rw [h.len]; exact (List.getElem?_eq_some_iff.1 hx).1), List.getElem?_eq_getElem _⟩
theorem LAt.isKey (h : LAt kt agg t κ w es clk l) : ∀ e ∈ es.toList, IsKey kt.desc e.key := fun e he => by
  obtain ⟨i, hi⟩ := List.mem_iff_getElem?.1 he
  obtain ⟨x, hx⟩ := h.other hi
  rw [h.keyAt hi hx]; exact kt.key _
theorem LAt.nodup (h : LAt kt agg t κ w es clk l) : (l.map (·.1)).Nodup := by
  have h1 := h.st.2.2
  rw [h.keys] at h1
  have h2 : l.map (fun x => kt.enc x.1) = (l.map (·.1)).map kt.enc := by simp
  rw [h2] at h1
  exact List.Pairwise.of_map kt.enc (fun a b h e => h (by rw [e])) h1
variable [DecidableEq K]
theorem LAt.find (h : LAt kt agg t κ w es clk l) (k : K) :
    (Instr.findNow kt.desc (kt.enc k) es.toList 0 = some none ∧ lFind l k = none ∧ ∀ e ∈ es.toList, e.key ≠ kt.enc k) ∨
    ∃ j e v cs, Instr.findNow kt.desc (kt.enc k) es.toList 0 = some (some (j, e.val)) ∧ es.toList[j]? = some e ∧ l[j]? = some (k, v) ∧ e.key = kt.enc k ∧ lFind l k = some v ∧ e.val = mkV agg cs ∧ t.rep κ w cs v := by
  rcases findNow_spec (kt.key k) es.toList 0 h.isKey with ⟨h1, h2⟩ | ⟨j, e, h1, h2, h3⟩
  · refine .inl ⟨h1, lFind_none.2 fun p hp hk => ?_, h2⟩
    obtain ⟨i, hi⟩ := List.mem_iff_getElem?.1 hp
    obtain ⟨e, he⟩ := h.other' hi
    exact h2 e (List.mem_of_getElem? he) (by rw [h.keyAt he hi, hk])
  · obtain ⟨x, hx⟩ := h.other h2
    have hk : x.1 = k := kt.inj _ _ ((h.keyAt h2 hx).symm.trans h3)
    obtain ⟨cs, h4, h5⟩ := h.vals j e x h2 hx
    subst hk
    exact .inr ⟨j, e, x.2, cs, by simpa using h1, h2, hx, h3, lFind_at h.nodup hx, h4, h5⟩
end
def nonCell : Obj → Bool
  | .cells .. => false
  | _ => true
def objX (p : Option Nat) (o : Obj) : XF :=
  { bs := p.toList
    p := fun κ w => ∀ b, p = some b → w.heap[b]? = some o ∧ κ b = none
    mono := fun {M κ w κ' w'} e hb hp b hpb => by
      obtain ⟨h1, h2⟩ := hb b (by simp [hpb])
      obtain ⟨k1, k2⟩ := e.keep b h1 h2
      obtain ⟨q1, q2⟩ := hp b hpb
      exact ⟨k1.trans q1, k2.trans q2⟩ }
section
variable {M : List Nat} {κ0 κ : Gh} {w0 w : World} {C C' : List Ck} {R R' : List MP}
theorem SS.newObj (h : SS M κ0 w0 κ w C R) (o : Obj) (ho : nonCell o = true) : SS M κ0 w0 κ (w.alloc o) (.ext (objX (some w.heap.size) o) :: C) R := by
  have hext : Ext [] κ w κ (w.alloc o) :=
    ⟨rfl, rfl, rfl, by rw [size_alloc]; omega, fun b hb _ => ⟨heap_alloc_old w o b hb, rfl⟩, fun b n hn => ⟨n, hn, Nat.le_refl _, fun i _ => cell_of_heap (heap_alloc_old w o b (by
      rcases Nat.lt_or_ge b w.heap.size with h' | h'
      · exact h'
      · rw [h.fresh b h'] at hn; cases hn))⟩⟩
  have h' := h.step hext (h.fresh.alloc o)
  have hb : blksOf (.ext (objX (some w.heap.size) o) :: C) = w.heap.size :: blksOf C := rfl
  refine ⟨h'.ext, h'.fresh, fun c hc => ?_, fun b hb' => ?_, ?_, fun b hb' => ?_, h'.ro⟩
  · rcases List.mem_cons.1 hc with rfl | hc
    · intro b hb'
      cases hb'
      exact ⟨heap_alloc_new _ _, h.fresh _ (Nat.le_refl _)⟩
    · exact h'.ok c hc
  · rw [hb] at hb'
    rcases List.mem_cons.1 hb' with rfl | hb'
    · rw [size_alloc]; omega
    · exact h'.lt b hb'
  · rw [hb]
    exact List.nodup_cons.2 ⟨fun hm => by have := h.lt _ hm; omega, h.nd⟩
  · rw [hb] at hb'
    rcases List.mem_cons.1 hb' with rfl | hb'
    · exact .inl h.ext.size
    · exact h.own b hb'
theorem SS.setObj (h : SS M κ0 w0 κ w C R) (i : Nat) {b : Nat} {o : Obj} (hC : C[i]? = some (.ext (objX (some b) o))) (o' : Obj) (ho : nonCell o = true) (ho' : nonCell o' = true) :
    SS M κ0 w0 κ { w with heap := w.heap.setIfInBounds b o' } (C.set i (.ext (objX (some b) o'))) R := by
  obtain ⟨h1, h2⟩ := (h.ck i hC : ∀ b', some b = some b' → _) b rfl
  have hlt : b < w.heap.size := (Array.getElem?_eq_some_iff.1 h1).1
  have hoth : ∀ b', b' ≠ b → ({ w with heap := w.heap.setIfInBounds b o' } : World).heap[b']? = w.heap[b']? := fun b' hne => by
    show (w.heap.setIfInBounds b _)[b']? = _
    rw [Array.getElem?_setIfInBounds_ne (Ne.symm hne)]
  have hme : ({ w with heap := w.heap.setIfInBounds b o' } : World).heap[b]? = some o' := by
    show (w.heap.setIfInBounds b _)[b]? = _
    simp [hlt]
  have hext : Ext (Ck.ext (objX (some b) o)).blks κ w κ { w with heap := w.heap.setIfInBounds b o' } :=
    ⟨rfl, rfl, rfl, by simp, fun b' _ hm => ⟨hoth b' (by simpa [Ck.blks, objX] using hm), rfl⟩, fun b' n hn => ⟨n, hn, Nat.le_refl _, fun k _ => cell_of_heap (hoth b' fun e => by rw [e, h2] at hn; cases hn)⟩⟩
  obtain ⟨hCe, hCs⟩ := set_split (c' := .ext (objX (some b) o')) hC
  rw [hCs]
  refine h.turn _ _ hCe hext (fun b' hb' => h.fresh b' (by simpa using hb')) (fun b' hb' => ?_) (fun b' hb' => .inl hb') (fun b' hb' => ?_) (by simp [Ck.blks, objX])
  · cases hb'; exact ⟨hme, h2⟩
  · simp [Ck.blks, objX] at hb'; subst hb'; simpa using hlt
end
section
variable {ro : Option Nat} {P : Program} {ops : Array Oper} {Q : Exit → Act → World → Prop} {N : Nat} {D : List Deferred} {L L' : FL} {a : Act} {w : World} {o : Oper} {G : Act → World → Prop}
variable {M : List Nat} {κ0 κ : Gh} {w0 : World} {C C' : List Ck} {R R' : List MP}
variable {K V : Type} {kt : KT K} {agg : Bool} {t : Ty V} {es : Array MapEntry} {clk : Nat} {p : Option Nat} {m : Mp K V} [DecidableEq K] [KO K]
theorem SS.setMap (h : SS M κ0 w0 κ w C R) (i : Nat) {b : Nat} {o o' : Obj} (hC : C[i]? = some (.ext (objX (some b) o))) (ho : nonCell o = true) (ho' : nonCell o' = true) {m : MP} (hm : m.p κ w) :
    SS M κ0 w0 κ { w with heap := w.heap.setIfInBounds b o' } (C.set i (.ext (objX (some b) o'))) (m :: R) := (h.add hm).setObj i hC o' ho ho'
end
end Go.Cf
namespace Go.Cf
open Go Go.MapKept
/-- which keys are still to come -/
def ItOk {K : Type} (kt : KT K) (es : Array MapEntry) (seen : Array Nat) (left : List K) : Prop := ∀ e ∈ es.toList, ∀ k, e.key = kt.enc k → (seen.contains e.born = false ↔ k ∈ left)
def It.mp {K : Type} (kt : KT K) (es : Array MapEntry) (seen : Array Nat) (left : List K) : MP := MP.const (ItOk kt es seen left)
/-- the entry that came last -/
def Cur.mp {K V : Type} [DecidableEq K] (kt : KT K) (es : Array MapEntry) (seen : Array Nat) (m : Mp K V) (x : K × V) : MP :=
  MP.const ((∃ e ∈ es.toList, seen.back? = some e.born ∧ e.key = kt.enc x.1) ∧ mGet m x.1 = some x.2)
theorem ItOk.sub {K : Type} {kt : KT K} {es es' : Array MapEntry} {seen : Array Nat} {left : List K} (h : ItOk kt es seen left) (hs : es'.toList.Sublist es.toList) : ItOk kt es' seen left := fun e he k hk => h e (hs.subset he) k hk
theorem ItOk.turn {K : Type} {kt : KT K} {es es' : Array MapEntry} {seen : Array Nat} {left : List K} (h : ItOk kt es seen left) (hs : ∀ e' ∈ es'.toList, ∃ e ∈ es.toList, e.born = e'.born ∧ e.key = e'.key) : ItOk kt es' seen left := fun e he k hk => by
  obtain ⟨e0, h0, hb, hkk⟩ := hs e he
  rw [← hb]; exact h e0 h0 k (hkk.trans hk)
section
variable {ro : Option Nat} {P : Program} {ops : Array Oper} {Q : Exit → Act → World → Prop} {N : Nat} {D : List Deferred} {L L' : FL} {a : Act} {w : World} {o : Oper} {G : Act → World → Prop}
variable {M : List Nat} {κ0 κ : Gh} {w0 : World} {C C' : List Ck} {R R' : List MP}
variable {K V : Type} {kt : KT K} {agg : Bool} {t : Ty V} {es : Array MapEntry} {clk : Nat} {p : Option Nat} {m : Mp K V} [DecidableEq K] [KO K]
end
end Go.Cf
namespace Go.Cf
open Go
section
variable {M : List Nat} {κ0 κ : Gh} {w0 w : World} {C C' : List Ck} {R R' : List MP}
theorem SS.room (hS : SS M κ0 w0 κ w C R) {α : Type} (t : Ty α) (E : Nat) (cells : Array Value) (c : Nat) (hn : cells.size = c * t.size) (hm : c ≤ maxLen) :
    ∃ κ', SS M κ0 w0 κ' (w.alloc (.cells cells E)) (.tok (some ⟨w.heap.size, 0, none⟩) E t.size 0 c :: C) (Ro.mp t (some ⟨w.heap.size, 0, none⟩) c ([] : List α) :: R) := by
  let w' := w.alloc (.cells cells E)
  let κ' : Gh := fun b => if b = w.heap.size then some 0 else κ b
  have hκ : ∀ b, b ≠ w.heap.size → κ' b = κ b := fun b hb => by simp [κ', hb]
  have hext : Ext [] κ w κ' w' := by
    refine ⟨rfl, rfl, rfl, by rw [size_alloc]; omega, fun b hb _ => ⟨heap_alloc_old w _ b hb, hκ b (by omega)⟩, fun b n hn => ?_⟩
    have hbl : b < w.heap.size := by
      rcases Nat.lt_or_ge b w.heap.size with h | h
      · exact h
      · rw [hS.fresh b h] at hn; cases hn
    exact ⟨n, (hκ b (by omega)).trans hn, Nat.le_refl _, fun i _ => cell_of_heap (heap_alloc_old w _ b hbl)⟩
  have hfr : Fresh κ' w' := fun b hb => by
    rw [size_alloc] at hb
    rw [hκ b (by omega)]; exact hS.fresh b (by omega)
  have hkn : κ' w.heap.size = some 0 := by simp [κ']
  have h' := hS.step hext hfr
  have htok : (Ck.tok (some ⟨w.heap.size, 0, none⟩) E t.size 0 c).ok κ' w' :=
    .inr ⟨w.heap.size, 0, cells, rfl, by rw [hkn, Nat.zero_mul], Nat.zero_le _, hm, heap_alloc_new _ _, by rw [hn, Nat.zero_add]⟩
  have h'' : SS M κ0 w0 κ' w' (.tok (some ⟨w.heap.size, 0, none⟩) E t.size 0 c :: C) R := by
    refine ⟨h'.ext, h'.fresh, fun c hc => ?_, fun b hb => ?_, ?_, fun b hb => ?_, h'.ro⟩
    · rcases List.mem_cons.1 hc with rfl | hc
      · exact htok
      · exact h'.ok c hc
    · rcases List.mem_cons.1 (show b ∈ w.heap.size :: blksOf C from hb) with rfl | hb
      · rw [size_alloc]; omega
      · exact h'.lt b hb
    · show (w.heap.size :: blksOf C).Nodup
      exact List.nodup_cons.2 ⟨fun hm => by have := hS.lt _ hm; omega, hS.nd⟩
    · rcases List.mem_cons.1 (show b ∈ w.heap.size :: blksOf C from hb) with rfl | hb
      · exact .inl hS.ext.size
      · exact h'.own b hb
  exact ⟨κ', h''.add (m := Ro.mp t _ c []) ⟨Nat.zero_le _, hm, .inr ⟨w.heap.size, 0, 0, rfl, hkn, by simp, fun i x hx => by simp at hx⟩⟩⟩
end
section
variable {ro : Option Nat} {P : Program} {ops : Array Oper} {Q : Exit → Act → World → Prop} {N : Nat} {D : List Deferred} {L L' : FL} {a : Act} {w : World} {o : Oper} {K : Act → World → Prop}
variable {M : List Nat} {κ0 κ : Gh} {w0 : World} {C C' : List Ck} {R R' : List MP}
end
section
variable {M : List Nat} {κ0 κ : Gh} {w0 w : World} {C C' : List Ck} {R R' : List MP}
end
section
variable {P : Program} {Q : Exit → Act → World → Prop} {N : Nat} {D : List Deferred} {L L' : FL} {a : Act} {w : World}
variable {M : List Nat} {κ0 κ : Gh} {w0 : World} {C C' : List Ck} {R R' : List MP}
end
section
variable {F : Fence} {n : Nat} {P : Program} {Q : Exit → Act → World → Prop} {a : Act} {w : World}
theorem stepR_scope {b : Frame} {k : List Item} {cs : List Frame} {c : Code} : step P (lone (b.atR a (.code (.scope c) :: k)) cs w) = .next (lone (b.atR a (.code c :: .inScope c :: k)) cs w) :=
  step_lone_go (by simp [stepG, stepG.exec, Frame.atR])
theorem stepR_inScope {b : Frame} {k : List Item} {cs : List Frame} {c : Code} : step P (lone (b.atR a (.inScope c :: k)) cs w) = .next (lone (b.atR a k) cs w) :=
  step_lone_go (by simp [stepG, stepG.exec, Frame.atR])
theorem wpIn_scope {c : Code} (h : c.wpIn F n P (Exit.noGoto Q) a w) : (Code.scope c).wpIn F n P Q a w := by
  intro b k cs hro hb hr
  have h0 : (lone (b.atR a (.code (.scope c) :: k)) cs w).fenced P F := fenced_calm hb hr rfl
  obtain ⟨e, a₁, w₁, hq, harr⟩ := h b (.inScope c :: k) cs hro hb hr
  cases e with
  | normal => exact ⟨.normal, a₁, w₁, hq, .head h0 stepR_scope (StepsIn.trans harr (.one (fenced_calm hb hr rfl) stepR_inScope))⟩
  | exit id' =>
    have hx : exitTo id' (.inScope c :: k) = exitTo id' k := by simp [exitTo]
    exact ⟨.exit id', a₁, w₁, hq, fun k' hk => .head h0 stepR_scope (harr.1 k' (by rw [hx]; exact hk)),
      fun hr' hk => let ⟨k₁, h1, h2⟩ := harr.2 hr' (by rw [hx]; exact hk); ⟨k₁, h1, .head h0 stepR_scope h2⟩⟩
  | goto l => exact hq.elim
  | ret => exact ⟨.ret, a₁, w₁, hq, .of_steps (.one h0 stepR_scope) harr⟩
  | panic ch => exact ⟨.panic ch, a₁, w₁, hq, .of_steps (.one h0 stepR_scope) harr⟩
  | outgrown => exact ⟨.outgrown, a₁, w₁, hq, .of_steps (.one h0 stepR_scope) harr⟩
end
end Go.Cf
namespace Go.Cf
open Go
set_option linter.unusedVariables false
structure T_cluster_Setup where
  Pool : Int
  Members : Int
  Nodes : Int
  Plain : Bool
def f_cluster_Setup : FT T_cluster_Setup := ⟨4, fun x => [.int .i64 (x.Pool), .int .i64 (x.Members), .int .i64 (x.Nodes), .bool (x.Plain)], fun _ => rfl, fun x v hv => by
  simp only [List.mem_cons, List.not_mem_nil, or_false] at hv
  rcases hv with rfl | rfl | rfl | rfl <;> rfl⟩
end Go.Cf
