/- The engine, part 1: tries; values over an abstract heap, and the real ones for which they stand. -/
import Derived.Deep.DeepAppendWide
import Derived.Laws.MakeOwn
import Derived.Lib.AppendStr
import Derived.Lib.ConvBytes
import Derived.Laws.BytesArg
import Derived.MapKept
import Derived.Test.YtkkbmgapcidmnaaGreatZK2
namespace Go.Ce
open Go Go.Cf
noncomputable section
inductive Tr (α : Type) where
  | nil
  | node (l : Tr α) (v : Option α) (r : Tr α)
namespace Tr
variable {α : Type}
end Tr
/-- where a key lies: 0 at the root; k + 1 is parted by k's lowest bit -/
inductive Pa where
  | e
  | l (p : Pa)
  | r (p : Pa)
def paF (f : Nat) : Nat → Pa :=
  Nat.rec (motive := fun _ => Nat → Pa) (fun _ => .e) (fun _ ih k => Nat.rec (motive := fun _ => Pa) .e (fun j _ => Nat.rec (motive := fun _ => Pa) (.l (ih (j / 2))) (fun _ _ => .r (ih (j / 2))) (j % 2)) k) f
def pa (k : Nat) : Pa := paF k k
theorem paF_succ (f j : Nat) : paF (f + 1) (j + 1) = if j % 2 = 0 then .l (paF f (j / 2)) else .r (paF f (j / 2)) := by
  show (Nat.rec (motive := fun _ => Pa) (.l (paF f (j / 2))) (fun _ _ => .r (paF f (j / 2))) (j % 2) : Pa) = _
  rcases Nat.mod_two_eq_zero_or_one j with h | h <;> rw [h] <;> rfl
theorem paF_zero (f : Nat) : paF f 0 = .e := by cases f <;> rfl
theorem paF_pa : ∀ (f k : Nat), k ≤ f → paF f k = pa k := by
  intro f
  induction f using Nat.strongRecOn with
  | _ f ih =>
    intro k hk
    cases k with
    | zero => rw [paF_zero]; rfl
    | succ j =>
      cases f with
      | zero => omega
      | succ f =>
        unfold pa
        rw [paF_succ, paF_succ, ih f (by omega) (j / 2) (by omega)]
        by_cases h : j < f + 1
        · rw [ih j h (j / 2) (by omega)]
        · have : j = f := by omega
          subst this
          rw [ih j (by omega) (j / 2) (by omega)]
theorem pa_succ (j : Nat) : pa (j + 1) = if j % 2 = 0 then .l (pa (j / 2)) else .r (pa (j / 2)) := by
  show paF (j + 1) (j + 1) = _
  rw [paF_succ, paF_pa j (j / 2) (by omega)]
def Pa.un : Pa → Nat
  | .e => 0
  | .l p => 2 * p.un + 1
  | .r p => 2 * p.un + 2
theorem un_pa (k : Nat) : (pa k).un = k := by
  induction k using Nat.strongRecOn with
  | _ k ih =>
    cases k with
    | zero => rfl
    | succ j =>
      rw [pa_succ]
      have h2 := ih (j / 2) (by omega)
      split <;> simp only [Pa.un, h2] <;> omega
theorem pa_inj {k k' : Nat} (h : pa k = pa k') : k = k' := by rw [← un_pa k, h, un_pa]
namespace Tr
variable {α : Type}
def getP (p : Pa) : Tr α → Option α :=
  Pa.rec (motive := fun _ => Tr α → Option α) (fun t => Tr.rec (motive := fun _ => Option α) none (fun _ v _ _ _ => v) t) (fun _ ih t => Tr.rec (motive := fun _ => Option α) none (fun l _ _ _ _ => ih l) t)
    (fun _ ih t => Tr.rec (motive := fun _ => Option α) none (fun _ _ r _ _ => ih r) t) p
def putP (x : Option α) (p : Pa) : Tr α → Tr α :=
  Pa.rec (motive := fun _ => Tr α → Tr α) (fun t => Tr.rec (motive := fun _ => Tr α) (node nil x nil) (fun l _ r _ _ => node l x r) t) (fun _ ih t => Tr.rec (motive := fun _ => Tr α) (node (ih nil) none nil) (fun l v r _ _ => node (ih l) v r) t)
    (fun _ ih t => Tr.rec (motive := fun _ => Tr α) (node nil none (ih nil)) (fun l v r _ _ => node l v (ih r)) t) p
def get (t : Tr α) (k : Nat) : Option α := getP (pa k) t
abbrev top : Nat := 1099511627776
/-- at k lies x -/
def set (t : Tr α) (k : Nat) (x : Option α) : Tr α := putP x (pa k) t
theorem getP_nil (p : Pa) : getP p (nil : Tr α) = none := by cases p <;> rfl
theorem get_nil (k : Nat) : (nil : Tr α).get k = none := getP_nil _
theorem get_zero (l r : Tr α) (v : Option α) : (node l v r).get 0 = v := rfl
theorem get_succ (l r : Tr α) (v : Option α) (j : Nat) : (node l v r).get (j + 1) = if j % 2 = 0 then l.get (j / 2) else r.get (j / 2) := by
  unfold get
  rw [pa_succ]
  split <;> rfl
theorem put_same (x : Option α) : ∀ (p : Pa) (t : Tr α), getP p (putP x p t) = x := by
  intro p
  induction p with
  | e => intro t; cases t <;> rfl
  | l p ih => intro t; cases t <;> exact ih _
  | r p ih => intro t; cases t <;> exact ih _
theorem put_other (x : Option α) : ∀ (p q : Pa) (t : Tr α), q ≠ p → getP q (putP x p t) = getP q t := by
  intro p
  induction p with
  | e =>
    intro q t hne
    cases q with
    | e => exact absurd rfl hne
    | l q => cases t with
      | nil => exact getP_nil q
      | node _ _ _ => rfl
    | r q => cases t with
      | nil => exact getP_nil q
      | node _ _ _ => rfl
  | l p ih =>
    intro q t hne
    cases q with
    | e => cases t <;> rfl
    | l q => cases t with
      | nil => exact (ih q nil (fun h => hne (by rw [h]))).trans (getP_nil q)
      | node l v r => exact ih q l (fun h => hne (by rw [h]))
    | r q => cases t with
      | nil => exact getP_nil q
      | node _ _ _ => rfl
  | r p ih =>
    intro q t hne
    cases q with
    | e => cases t <;> rfl
    | r q => cases t with
      | nil => exact (ih q nil (fun h => hne (by rw [h]))).trans (getP_nil q)
      | node l v r => exact ih q r (fun h => hne (by rw [h]))
    | l q => cases t with
      | nil => exact getP_nil q
      | node _ _ _ => rfl
theorem set_same (t : Tr α) (k : Nat) (x : Option α) (_ : k < top) : (t.set k x).get k = x := put_same x _ t
theorem set_other (t : Tr α) (k i : Nat) (x : Option α) (h : i ≠ k) : (t.set k x).get i = t.get i := put_other x _ _ t fun e => h (pa_inj e)
end Tr
/-- where an abstract block lies: the real block, the place of its first cell, how many elements more than is known there is room for, of what size -/
structure Ad where
  b : Nat
  base : Nat
  slk : Nat
  sz : Nat
abbrev Th := Nat → Option Ad
def Le (θ θ' : Th) : Prop := ∀ k A, θ k = some A → θ' k = some A
theorem Le.refl (θ : Th) : Le θ θ := fun _ _ h => h
theorem Le.trans {θ θ' θ'' : Th} (h : Le θ θ') (h' : Le θ' θ'') : Le θ θ'' := fun k A hk => h' k A (h k A hk)
/-- of what a name that stands for itself is the name -/
def decB (f : Nat) : Nat → List UInt8 := Nat.rec (motive := fun _ => Nat → List UInt8) (fun _ => []) (fun _ ih n => Nat.rec (motive := fun _ => List UInt8) [] (fun m _ => UInt8.ofNat (m % 256) :: ih (m / 256)) n) f
def dec (A : Ad) : Value := match A.slk with
  | 0 => .int .i64 (.ofNat A.b)
  | 1 => .int .i64 (.negSucc A.b)
  | 2 => .int .u64 (.ofNat A.b)
  | 3 => .bool (Nat.beq A.b 0)
  | _ => .string ⟨(decB A.b A.b).toArray⟩
theorem dec_int (n : Int) : ∃ A, dec A = .int .i64 n := by
  cases n with
  | ofNat n => exact ⟨⟨n, 0, 0, 0⟩, rfl⟩
  | negSucc n => exact ⟨⟨n, 0, 1, 0⟩, rfl⟩
theorem dec_bool (b : Bool) : ∃ A, dec A = .bool b := by
  cases b with
  | true => exact ⟨⟨0, 0, 3, 0⟩, rfl⟩
  | false => exact ⟨⟨1, 0, 3, 0⟩, rfl⟩
theorem dec_one (A : Ad) : (dec A).oneCell' = true := by unfold dec; split <;> rfl
theorem dec_cells (A : Ad) : (dec A).cells = #[dec A] := by unfold dec; split <;> rfl
inductive VR (θ : Th) : Value → Value → Prop
  | tok {k : Nat} {A : Ad} (h : θ k = some A) : VR θ (.chan (some k)) (dec A)
  | bool (b : Bool) : VR θ (.bool b) (.bool b)
  | int (k : IntKind) (n : Int) : VR θ (.int k n) (.int k n)
  | str (s : ByteArray) : VR θ (.string s) (.string s)
  | nilp : VR θ (.pointer none) (.pointer none)
  | ptr {k : Nat} {A : Ad} (off : Nat) (h : θ k = some A) : VR θ (.pointer (some ⟨k, off, none⟩)) (.pointer (some ⟨A.b, A.base + off, none⟩))
  | nils : VR θ (.slice none 0 0) (.slice none 0 0)
  | sl {k : Nat} {A : Ad} (off n c : Nat) (h : θ k = some A) : VR θ (.slice (some ⟨k, off, none⟩) n c) (.slice (some ⟨A.b, A.base + off, none⟩) n (c + A.slk))
  | empt (q : Addr) (c : Nat) : VR θ (.slice (some ⟨Tr.top, 0, none⟩) 0 0) (.slice (some q) 0 c)
  | nilm : VR θ (.map none) (.map none)
  | map {k : Nat} {A : Ad} (h : θ k = some A) : VR θ (.map (some k)) (.map (some A.b))
  | nilf : VR θ .nilFunc .nilFunc
  | nili : VR θ .nilIface .nilIface
  | fn (f : FuncId) {xs ys xs' ys' : Array Value} (h1 : xs.size = xs'.size) (h2 : ys.size = ys'.size) (h3 : ∀ (i : Nat) (v v' : Value), xs[i]? = some v → xs'[i]? = some v' → VR θ v v')
      (h4 : ∀ (i : Nat) (v v' : Value), ys[i]? = some v → ys'[i]? = some v' → VR θ v v') : VR θ (.func (.func f) xs ys) (.func (.func f) xs' ys')
  | yld {k : Nat} {A : Ad} (h : θ k = some A) : VR θ (.func (.yield k) #[] #[]) (.func (.yield A.b) #[] #[])
  | agg {cs cs' : Array Value} (h1 : cs.size = cs'.size) (h2 : ∀ (i : Nat) (v v' : Value), cs[i]? = some v → cs'[i]? = some v' → VR θ v v') : VR θ (.agg cs) (.agg cs')
  | tup {cs cs' : Array Value} (h1 : cs.size = cs'.size) (h2 : ∀ (i : Nat) (v v' : Value), cs[i]? = some v → cs'[i]? = some v' → VR θ v v') : VR θ (.tuple cs) (.tuple cs')
theorem VR.mono {θ θ' : Th} (e : Le θ θ') {v v' : Value} (h : VR θ v v') : VR θ' v v' := by
  induction h with
  | tok h => exact .tok (e _ _ h)
  | bool b => exact .bool b
  | int k n => exact .int k n
  | str s => exact .str s
  | nilp => exact .nilp
  | ptr off h => exact .ptr off (e _ _ h)
  | nils => exact .nils
  | sl off n c h => exact .sl off n c (e _ _ h)
  | empt q c => exact .empt q c
  | nilm => exact .nilm
  | map h => exact .map (e _ _ h)
  | nilf => exact .nilf
  | nili => exact .nili
  | fn f h1 h2 _ _ i1 i2 => exact .fn f h1 h2 i1 i2
  | yld h => exact .yld (e _ _ h)
  | agg h1 _ i1 => exact .agg h1 i1
  | tup h1 _ i1 => exact .tup h1 i1
/-- lists of values, one by one -/
def VRl (θ : Th) (l l' : List Value) : Prop := l.length = l'.length ∧ ∀ (i : Nat) (v v' : Value), l[i]? = some v → l'[i]? = some v' → VR θ v v'
theorem VRl.mono {θ θ' : Th} (e : Le θ θ') {l l' : List Value} (h : VRl θ l l') : VRl θ' l l' := ⟨h.1, fun i v v' h1 h2 => (h.2 i v v' h1 h2).mono e⟩
theorem VRl.nil (θ : Th) : VRl θ [] [] := ⟨rfl, fun i v v' h => by simp at h⟩
theorem VRl.cons {θ : Th} {v v' : Value} {l l' : List Value} (h : VR θ v v') (hl : VRl θ l l') : VRl θ (v :: l) (v' :: l') :=
  ⟨by simp [hl.1], fun i u u' h1 h2 => by
    cases i with
    | zero => simp at h1 h2; subst h1 h2; exact h
    | succ i => exact hl.2 i u u' (by simpa using h1) (by simpa using h2)⟩
theorem VRl.get {θ : Th} {l l' : List Value} (h : VRl θ l l') {i : Nat} {v : Value} (hi : l[i]? = some v) : ∃ v', l'[i]? = some v' ∧ VR θ v v' := by
  obtain ⟨hlt, _⟩ := List.getElem?_eq_some_iff.1 hi
  have h2 : i < l'.length := by rw [← h.1]; exact hlt
  exact ⟨l'[i], List.getElem?_eq_getElem h2, h.2 i v _ hi (List.getElem?_eq_getElem h2)⟩
theorem VRl.append {θ : Th} {a a' b b' : List Value} (h : VRl θ a a') (k : VRl θ b b') : VRl θ (a ++ b) (a' ++ b') :=
  ⟨by simp [h.1, k.1], fun i v v' h1 h2 => by
    rw [List.getElem?_append] at h1 h2
    rw [← h.1] at h2
    split at h1
    · rename_i hi; rw [if_pos hi] at h2; exact h.2 i v v' h1 h2
    · rename_i hi; rw [if_neg hi] at h2; exact k.2 _ v v' h1 h2⟩
theorem VRl.arr {θ : Th} {cs cs' : Array Value} (h : VRl θ cs.toList cs'.toList) : cs.size = cs'.size ∧ ∀ (i : Nat) (v v' : Value), cs[i]? = some v → cs'[i]? = some v' → VR θ v v' :=
  ⟨by simpa using h.1, fun i v v' h1 h2 => h.2 i v v' (by simpa using h1) (by simpa using h2)⟩
theorem VRl.of {θ : Th} {cs cs' : Array Value} (h1 : cs.size = cs'.size) (h2 : ∀ (i : Nat) (v v' : Value), cs[i]? = some v → cs'[i]? = some v' → VR θ v v') : VRl θ cs.toList cs'.toList :=
  ⟨by simpa using h1, fun i v v' a b => h2 i v v' (by simpa using a) (by simpa using b)⟩
/-- a value of one cell that leads nowhere -/
def nr0 : Value → Bool
  | .bool _ | .int _ _ | .string _ | .pointer none | .map none | .nilFunc | .nilIface => true
  | .slice none n c => n == 0 && c == 0
  | _ => false
def nr1 : Value → Bool
  | .agg cs => cs.toList.all nr0
  | v => nr0 v
/-- a value that leads nowhere -/
def nr : Value → Bool
  | .tuple vs => vs.toList.all nr1
  | v => nr1 v
theorem nr0_eq {θ : Th} {v v' : Value} (h : nr0 v = true) (hv : VR θ v v') : v' = v := by
  cases hv <;> first | rfl | (simp [nr0] at h)
theorem arr_ext {cs cs' : Array Value} (h1 : cs.size = cs'.size) (h : ∀ (i : Nat) (v v' : Value), cs[i]? = some v → cs'[i]? = some v' → v' = v) : cs' = cs := by
  refine Array.ext h1.symm fun i hi hi' => ?_
  exact h i _ _ (Array.getElem?_eq_getElem hi') (Array.getElem?_eq_getElem hi)
theorem nr1_eq {θ : Th} {v v' : Value} (h : nr1 v = true) (hv : VR θ v v') : v' = v := by
  cases hv with
  | agg h1 h2 =>
    rename_i cs cs'
    have h' : ∀ x ∈ cs.toList, nr0 x = true := List.all_eq_true.1 h
    rw [arr_ext h1 fun i u u' a b => nr0_eq (h' u (by simpa using Array.mem_of_getElem? a)) (h2 i u u' a b)]
  | _ => first | rfl | (simp [nr1, nr0] at h)
theorem nr_eq {θ : Th} {v v' : Value} (h : nr v = true) (hv : VR θ v v') : v' = v := by
  cases hv with
  | tup h1 h2 =>
    rename_i cs cs'
    have h' : ∀ x ∈ cs.toList, nr1 x = true := List.all_eq_true.1 h
    rw [arr_ext h1 fun i u u' a b => nr1_eq (h' u (by simpa using Array.mem_of_getElem? a)) (h2 i u u' a b)]
  | agg h1 h2 => exact nr1_eq (θ := θ) h (.agg h1 h2)
  | _ => first | rfl | (simp [nr, nr1, nr0] at h)
theorem nr0_refl (θ : Th) {v : Value} (h : nr0 v = true) : VR θ v v := by
  cases v with
  | bool b => exact .bool b
  | int k n => exact .int k n
  | string s => exact .str s
  | pointer a => cases a with
    | none => exact .nilp
    | some a => simp [nr0] at h
  | slice a n c => cases a with
    | none => simp [nr0] at h; obtain ⟨rfl, rfl⟩ := h; exact .nils
    | some a => simp [nr0] at h
  | map r => cases r with
    | none => exact .nilm
    | some a => simp [nr0] at h
  | nilFunc => exact .nilf
  | nilIface => exact .nili
  | _ => simp [nr0] at h
theorem nr1_refl (θ : Th) {v : Value} (h : nr1 v = true) : VR θ v v := by
  cases v with
  | agg cs =>
    have h' : ∀ x ∈ cs.toList, nr0 x = true := List.all_eq_true.1 h
    exact .agg rfl fun i u u' a b => by
      rw [a] at b; cases b; exact nr0_refl θ (h' u (by simpa using Array.mem_of_getElem? a))
  | _ => exact nr0_refl θ h
theorem nr_refl (θ : Th) {v : Value} (h : nr v = true) : VR θ v v := by
  cases v with
  | tuple cs =>
    have h' : ∀ x ∈ cs.toList, nr1 x = true := List.all_eq_true.1 h
    exact .tup rfl fun i u u' a b => by
      rw [a] at b; cases b; exact nr1_refl θ (h' u (by simpa using Array.mem_of_getElem? a))
  | _ => exact nr1_refl θ h
theorem VR.one {θ : Th} {v v' : Value} (h : VR θ v v') : v'.oneCell' = v.oneCell' := by cases h <;> first | rfl | exact dec_one _
theorem VR.cells {θ : Th} {v v' : Value} (h : VR θ v v') : VRl θ v.cells.toList v'.cells.toList := by
  cases h with
  | agg h1 h2 => exact .of h1 h2
  | tok h => rw [dec_cells]; exact .cons (.tok h) (.nil _)
  | bool => exact .cons (.bool _) (.nil _)
  | int => exact .cons (.int _ _) (.nil _)
  | str => exact .cons (.str _) (.nil _)
  | nilp => exact .cons .nilp (.nil _)
  | ptr off h => exact .cons (.ptr off h) (.nil _)
  | nils => exact .cons .nils (.nil _)
  | sl off n c h => exact .cons (.sl off n c h) (.nil _)
  | empt q c => exact .cons (.empt q c) (.nil _)
  | nilm => exact .cons .nilm (.nil _)
  | map h => exact .cons (.map h) (.nil _)
  | nilf => exact .cons .nilf (.nil _)
  | nili => exact .cons .nili (.nil _)
  | fn f h1 h2 h3 h4 => exact .cons (.fn f h1 h2 h3 h4) (.nil _)
  | yld h => exact .cons (.yld h) (.nil _)
  | tup h1 h2 => exact .cons (.tup h1 h2) (.nil _)
end
end Go.Ce
set_option linter.unusedVariables false
namespace Go.Ce
open Go Go.Cf
noncomputable section
/-- what lies at an abstract block. Cells: n of them; ex: there is no more room than is known; app: the room behind them is ours -/
inductive AO where
  | cells (cs : Tr Value) (n : Nat) (T : TypeId) (sz : Nat) (ex app : Bool)
  | map (es : List (Value × Value × Nat)) (clock : Nat)
  | miter (m : Option Nat) (since : Nat) (seen : List Nat) (stepped : Nat)
  | loop (st : LoopState) (pend : Option Code) (L : Tr Value) (N : Nat) (ps : Array Tmp) (asg body : Code) (df : Nat)
  | dfr
structure St where
  H : Tr AO
  n : Nat
  hi : Nat
def hiOf (A : Ad) : AO → Nat
  | .cells _ n _ _ _ app => A.base + n + if app then A.slk * A.sz else 0
  | _ => 0
def isC : AO → Bool
  | .cells .. => true
  | _ => false
def apart (A : Ad) (o : AO) (A' : Ad) (o' : AO) : Prop := A.b ≠ A'.b ∨ (isC o = true ∧ isC o' = true ∧ ∀ i, A.base ≤ i → i < hiOf A o → A'.base ≤ i → i < hiOf A' o' → False)
/-- the slots of an activation, as far as they are known -/
structure FrR (θ : Th) (N : Nat) (L : Tr Value) (tmps : Array Value) : Prop where
  size : tmps.size = N
  val : ∀ t v, L.get t = some v → ∃ v', tmps[t]? = some v' ∧ VR θ v v'
theorem FrR.mono {θ θ' : Th} {N : Nat} {L : Tr Value} {t : Array Value} (e : Le θ θ') (h : FrR θ N L t) : FrR θ' N L t :=
  ⟨h.size, fun i v hv => let ⟨v', h1, h2⟩ := h.val i v hv; ⟨v', h1, h2.mono e⟩⟩
/-- the entries of a map -/
def ER (θ : Th) (es : List (Value × Value × Nat)) (es' : List MapEntry) : Prop :=
  es.length = es'.length ∧ ∀ (i : Nat) (x : Value × Value × Nat) (y : MapEntry), es[i]? = some x → es'[i]? = some y → VR θ x.1 y.key ∧ VR θ x.2.1 y.val ∧ y.born = x.2.2
theorem ER.mono {θ θ' : Th} {es : List (Value × Value × Nat)} {es' : List MapEntry} (e : Le θ θ') (h : ER θ es es') : ER θ' es es' :=
  ⟨h.1, fun i x y h1 h2 => let ⟨a, b, c⟩ := h.2 i x y h1 h2; ⟨a.mono e, b.mono e, c⟩⟩
/-- cells -/
structure CR (θ : Th) (A : Ad) (cs : Tr Value) (n sz : Nat) (ex app : Bool) (c' : Array Value) (fz : Nat × Nat) : Prop where
  sz : A.sz = sz
  fit : A.base + n ≤ c'.size
  val : ∀ i, i < n → ∃ v v', cs.get i = some v ∧ c'[A.base + i]? = some v' ∧ VR θ v v' ∧ v.oneCell' = true
  ex : ex = true → A.slk = 0
  app : app = true → A.base + n + A.slk * A.sz ≤ c'.size
  fz : ∀ i, i < c'.size → ¬(fz.1 ≤ i ∧ i < fz.2)
theorem CR.mono {θ θ' : Th} {A : Ad} {cs : Tr Value} {n sz : Nat} {ex app : Bool} {c' : Array Value} {fz : Nat × Nat} (e : Le θ θ') (h : CR θ A cs n sz ex app c' fz) : CR θ' A cs n sz ex app c' fz :=
  ⟨h.sz, h.fit, fun i hi => let ⟨v, v', a, b, c, d⟩ := h.val i hi; ⟨v, v', a, b, c.mono e, d⟩, h.ex, h.app, h.fz⟩
def OR (θ : Th) (A : Ad) : AO → Obj → Prop
  | .cells cs n T sz ex app, o' => ∃ c' fz, o' = .cells c' T fz ∧ CR θ A cs n sz ex app c' fz
  | .map es clock, o' => ∃ es', o' = .map es' clock ∧ ER θ es es'.toList
  | .miter m since seen stepped, o' => ∃ m', A.base = 0 ∧ o' = .mapIter m' since seen.toArray stepped ∧ (match m with | none => m' = none | some k => ∃ A, θ k = some A ∧ m' = some A.b)
  | .loop st pend L N ps asg body df, o' => ∃ fn tmps df' D, o' = .loop { state := st, pending := pend, fn := fn, tmps := tmps, params := ps, assign := asg, body := body, defers := df' } ∧ FrR θ N L tmps ∧ θ df = some D ∧ D.b = df'
  | .dfr, o' => o' = .deferred (some [])
theorem OR.mono {θ θ' : Th} (e : Le θ θ') {A : Ad} {o : AO} {o' : Obj} (h : OR θ A o o') : OR θ' A o o' := by
  cases o with
  | cells cs n T sz ex app => obtain ⟨c', fz, h1, h2⟩ := h; exact ⟨c', fz, h1, h2.mono e⟩
  | map es clock => obtain ⟨es', h1, h2⟩ := h; exact ⟨es', h1, h2.mono e⟩
  | miter m since seen stepped =>
    obtain ⟨m', h0, h1, h2⟩ := h
    refine ⟨m', h0, h1, ?_⟩
    cases m with
    | none => exact h2
    | some k => obtain ⟨A, a, b⟩ := h2; exact ⟨A, e _ _ a, b⟩
  | loop st pend L N ps asg body df => obtain ⟨fn, tmps, df', D, h1, h2, h3, h4⟩ := h; exact ⟨fn, tmps, df', D, h1, h2.mono e, e _ _ h3, h4⟩
  | dfr => exact h
structure Rel (θ : Th) (S : St) (w : World) : Prop where
  get : ∀ k o, S.H.get k = some o → ∃ A o', θ k = some A ∧ w.heap[A.b]? = some o' ∧ OR θ A o o'
  sep : ∀ k k' o o' A A', k ≠ k' → S.H.get k = some o → S.H.get k' = some o' → θ k = some A → θ k' = some A' → apart A o A' o'
  dom : ∀ k, S.n ≤ k → k < S.hi → θ k = none
  lim : S.n ≤ S.hi ∧ S.hi ≤ Tr.top
def Own (θ : Th) (S : St) (b : Nat) : Prop := ∃ k o A, S.H.get k = some o ∧ θ k = some A ∧ A.b = b
structure Step (θ : Th) (S : St) (w : World) (θ1 : Th) (S1 : St) (w1 : World) : Prop where
  le : Le θ θ1
  rel : Rel θ1 S1 w1
  own : ∀ b, Own θ1 S1 b → Own θ S b ∨ w.heap.size ≤ b
  keep : ∀ b, b < w.heap.size → ¬ Own θ S b → w1.heap[b]? = w.heap[b]?
  os : w1.os = w.os
  out : w1.output = w.output
  tape : w1.tape = w.tape
  size : w.heap.size ≤ w1.heap.size
  new : ∀ k A, θ1 k = some A → θ k = some A ∨ (S.n ≤ k ∧ k < S1.n)
  mono : S.n ≤ S1.n
  hi : S1.hi = S.hi
theorem Step.refl {θ : Th} {S : St} {w : World} (h : Rel θ S w) : Step θ S w θ S w := ⟨.refl _, h, fun _ h => .inl h, fun _ _ _ => rfl, rfl, rfl, rfl, Nat.le_refl _, fun _ _ h => .inl h, Nat.le_refl _, rfl⟩
theorem Step.trans {θ θ1 θ2 : Th} {S S1 S2 : St} {w w1 w2 : World} (h : Step θ S w θ1 S1 w1) (k : Step θ1 S1 w1 θ2 S2 w2) : Step θ S w θ2 S2 w2 where
  le := h.le.trans k.le
  rel := k.rel
  own := fun b hb => by
    rcases k.own b hb with h1 | h1
    · exact h.own b h1
    · exact .inr (Nat.le_trans h.size h1)
  keep := fun b hb hn => by
    have h1 : ¬ Own θ1 S1 b := fun ho => by
      rcases h.own b ho with h2 | h2
      · exact hn h2
      · omega
    exact (k.keep b (Nat.lt_of_lt_of_le hb h.size) h1).trans (h.keep b hb hn)
  os := k.os.trans h.os
  out := k.out.trans h.out
  tape := k.tape.trans h.tape
  size := Nat.le_trans h.size k.size
  new := fun j A hj => by
    rcases k.new j A hj with h1 | ⟨h1, h2⟩
    · rcases h.new j A h1 with h3 | ⟨h3, h4⟩
      · exact .inl h3
      · exact .inr ⟨h3, Nat.lt_of_lt_of_le h4 k.mono⟩
    · exact .inr ⟨Nat.le_trans h.mono h1, h2⟩
  mono := Nat.le_trans h.mono k.mono
  hi := k.hi.trans h.hi
section
variable {θ : Th} {S : St} {w : World}
theorem Rel.lt (h : Rel θ S w) {k : Nat} {o : AO} {A : Ad} (hk : S.H.get k = some o) (hA : θ k = some A) : A.b < w.heap.size := by
  obtain ⟨A', o', h1, h2, _⟩ := h.get k o hk
  rw [hA] at h1; cases h1
  exact (Array.getElem?_eq_some_iff.1 h2).1
theorem Rel.ownlt (h : Rel θ S w) {b : Nat} (hb : Own θ S b) : b < w.heap.size := by
  obtain ⟨k, o, A, h1, h2, rfl⟩ := hb
  exact h.lt h1 h2
theorem Rel.at (h : Rel θ S w) {k : Nat} {o : AO} {A : Ad} (hk : S.H.get k = some o) (hA : θ k = some A) : ∃ o', w.heap[A.b]? = some o' ∧ OR θ A o o' := by
  obtain ⟨A', o', h1, h2, h3⟩ := h.get k o hk
  rw [hA] at h1; cases h1
  exact ⟨o', h2, h3⟩
/-- θ, and a place for the next id -/
def ext (θ : Th) (k : Nat) (A : Ad) : Th := fun j => if j = k then some A else θ j
theorem ext_same (θ : Th) (k : Nat) (A : Ad) : ext θ k A k = some A := by simp [ext]
theorem ext_le (θ : Th) (k : Nat) (A : Ad) (h : θ k = none) : Le θ (ext θ k A) := fun j B hj => by
  unfold ext
  split
  · rename_i e; subst e; rw [h] at hj; cases hj
  · exact hj
theorem Rel.none (h : Rel θ S w) (hn : S.n < S.hi) : θ S.n = none := h.dom _ (Nat.le_refl _) hn
theorem Rel.top (h : Rel θ S w) (hn : S.n < S.hi) : S.n < Tr.top := Nat.lt_of_lt_of_le hn h.lim.2
theorem ext_new {θ : Th} {n : Nat} {A B : Ad} {k : Nat} (h : ext θ n A k = some B) : θ k = some B ∨ (n ≤ k ∧ k < n + 1) := by
  unfold ext at h
  split at h
  · rename_i e; exact .inr ⟨by omega, by omega⟩
  · exact .inl h
theorem ext_dom {θ : Th} {n hi : Nat} {A : Ad} (h : ∀ k, n ≤ k → k < hi → θ k = none) : ∀ k, n + 1 ≤ k → k < hi → ext θ n A k = none := fun k h1 h2 => by
  unfold ext
  rw [if_neg (by omega)]
  exact h k (by omega) h2
/-- a draw -/
theorem Rel.of_heap (h : Rel θ S w) {w' : World} (hw : w'.heap = w.heap) : Rel θ S w' := ⟨fun k o hk => by rw [hw]; exact h.get k o hk, h.sep, h.dom, h.lim⟩
theorem Step.drew (h : Rel θ S w) : Step θ S w θ S { w with drawn := w.drawn + 1 } :=
  ⟨.refl _, h.of_heap rfl, fun _ h => .inl h, fun _ _ _ => rfl, rfl, rfl, rfl, Nat.le_refl _, fun _ _ h => .inl h, Nat.le_refl _, rfl⟩
def St.new (S : St) (o : AO) : St := St.rec (motive := fun _ => St) (fun H n hi => ⟨H.set n (some o), Nat.succ n, hi⟩) S
/-- a new block -/
theorem Step.fresh (h : Rel θ S w) (hn : S.n < S.hi) {o : AO} {o' : Obj} {A : Ad} {w1 : World} (hb : A.b = w.heap.size) (ho : OR (ext θ S.n A) A o o') (hw1 : w1.heap[w.heap.size]? = some o') (hw2 : ∀ b, b < w.heap.size → w1.heap[b]? = w.heap[b]?)
    (hw3 : w.heap.size ≤ w1.heap.size) (hw4 : w1.os = w.os) (hw5 : w1.output = w.output) (hw6 : w1.tape = w.tape) : Step θ S w (ext θ S.n A) (S.new o) w1 := by
  have hle : Le θ (ext θ S.n A) := ext_le _ _ _ (h.none hn)
  have hg : ∀ k x, (S.new o).H.get k = some x → (k = S.n ∧ x = o) ∨ (k ≠ S.n ∧ S.H.get k = some x) := fun k x hx => by
    by_cases e : k = S.n
    · subst e
      simp only [St.new, Tr.set_same _ _ _ (h.top hn)] at hx
      cases hx; exact .inl ⟨rfl, rfl⟩
    · simp only [St.new, Tr.set_other _ _ _ _ e] at hx
      exact .inr ⟨e, hx⟩
  have hθ : ∀ k B, k ≠ S.n → ext θ S.n A k = some B → θ k = some B := fun k B hk hB => by unfold ext at hB; rwa [if_neg hk] at hB
  have hself : ∀ B, ext θ S.n A S.n = some B → B = A := fun B hB => by rw [ext_same] at hB; cases hB; rfl
  refine ⟨hle, ⟨fun k x hx => ?_, fun k k' x x' B B' hne hx hx' hB hB' => ?_, ext_dom h.dom, ⟨hn, h.lim.2⟩⟩, fun b hb' => ?_, fun b hlt _ => hw2 b hlt, hw4, hw5, hw6, hw3, fun k B hB => ext_new hB, Nat.le_succ _, rfl⟩
  · rcases hg k x hx with ⟨rfl, rfl⟩ | ⟨hk, hy⟩
    · exact ⟨A, o', ext_same _ _ _, by rw [hb]; exact hw1, ho⟩
    · obtain ⟨B, y, h1, h2, h3⟩ := h.get k x hy
      exact ⟨B, y, hle _ _ h1, by rw [hw2 _ (h.lt hy h1)]; exact h2, h3.mono hle⟩
  · rcases hg k x hx with ⟨rfl, rfl⟩ | ⟨hk, hy⟩
    · rcases hg k' x' hx' with ⟨rfl, rfl⟩ | ⟨hk', hy'⟩
      · exact absurd rfl hne
      · have := h.lt hy' (hθ _ _ hk' hB')
        rw [hself _ hB]
        exact .inl (by omega)
    · rcases hg k' x' hx' with ⟨rfl, rfl⟩ | ⟨hk', hy'⟩
      · have := h.lt hy (hθ _ _ hk hB)
        rw [hself _ hB']
        exact .inl (by omega)
      · exact h.sep k k' x x' B B' hne hy hy' (hθ _ _ hk hB) (hθ _ _ hk' hB')
  · obtain ⟨k, x, B, h1, h2, rfl⟩ := hb'
    rcases hg k x h1 with ⟨rfl, rfl⟩ | ⟨hk, hy⟩
    · rw [hself _ h2, hb]; exact .inr (Nat.le_refl _)
    · exact .inl ⟨k, x, B, hy, hθ _ _ hk h2, rfl⟩
theorem Step.alloc (h : Rel θ S w) (hn : S.n < S.hi) {o : AO} {o' : Obj} {A : Ad} (hb : A.b = w.heap.size) (ho : OR (ext θ S.n A) A o o') : Step θ S w (ext θ S.n A) (S.new o) (w.alloc o') :=
  Step.fresh h hn hb ho (Cf.heap_alloc_new _ _) (fun b hb => Cf.heap_alloc_old w _ b hb) (by rw [size_alloc]; omega) rfl rfl rfl
/-- an object that fills its block alone is turned -/
theorem Step.obj (h : Rel θ S w) {k : Nat} {o o2 : AO} {o' o2' : Obj} {A : Ad} (hlim : k < Tr.top) (hk : S.H.get k = some o) (hA : θ k = some A) (h1 : isC o = false) (h2 : isC o2 = false) (ho : OR θ A o2 o2') :
    Step θ S w θ ⟨S.H.set k (some o2), S.n, S.hi⟩ { w with heap := w.heap.setIfInBounds A.b o2' } := by
  have hlt := h.lt hk hA
  have hg : ∀ j x, (S.H.set k (some o2)).get j = some x → (j = k ∧ x = o2) ∨ (j ≠ k ∧ S.H.get j = some x) := fun j x hx => by
    by_cases e : j = k
    · subst e; rw [Tr.set_same _ _ _ hlim] at hx; cases hx; exact .inl ⟨rfl, rfl⟩
    · rw [Tr.set_other _ _ _ _ e] at hx; exact .inr ⟨e, hx⟩
  have hne : ∀ j x B, j ≠ k → S.H.get j = some x → θ j = some B → B.b ≠ A.b := fun j x B hj hx hB => by
    rcases h.sep j k x o B A hj hx hk hB hA with h | ⟨_, h, _⟩
    · exact h
    · rw [h1] at h; cases h
  refine ⟨.refl _, ⟨fun j x hx => ?_, fun j j' x x' B B' hjj hx hx' hB hB' => ?_, h.dom, h.lim⟩, fun b ⟨j, x, B, hx, hB, hb⟩ => ?_, fun b hb hn => ?_, rfl, rfl, rfl, by simp, fun _ _ h => .inl h, Nat.le_refl _, rfl⟩
  · rcases hg j x hx with ⟨rfl, rfl⟩ | ⟨hj, hy⟩
    · exact ⟨A, o2', hA, by simp [hlt], ho⟩
    · obtain ⟨B, y, a, b, c⟩ := h.get j x hy
      refine ⟨B, y, a, ?_, c⟩
      show (w.heap.setIfInBounds A.b o2')[B.b]? = _
      rw [Array.getElem?_setIfInBounds_ne (Ne.symm (hne j x B hj hy a))]
      exact b
  · rcases hg j x hx with ⟨rfl, rfl⟩ | ⟨hj, hy⟩
    · rcases hg j' x' hx' with ⟨rfl, rfl⟩ | ⟨hj', hy'⟩
      · exact absurd rfl hjj
      · rw [hA] at hB; cases hB
        exact .inl (Ne.symm (hne j' x' B' hj' hy' hB'))
    · rcases hg j' x' hx' with ⟨rfl, rfl⟩ | ⟨hj', hy'⟩
      · rw [hA] at hB'; cases hB'
        exact .inl (hne j x B hj hy hB)
      · exact h.sep j j' x x' B B' hjj hy hy' hB hB'
  · rcases hg j x hx with ⟨rfl, rfl⟩ | ⟨hj, hy⟩
    · exact .inl ⟨j, o, B, hk, hB, hb⟩
    · exact .inl ⟨j, x, B, hy, hB, hb⟩
  · show (w.heap.setIfInBounds A.b o2')[b]? = _
    rw [Array.getElem?_setIfInBounds_ne (fun e => hn ⟨k, o, A, hk, hA, e⟩)]
/-- some of a block's cells are turned -/
theorem Step.cells (h : Rel θ S w) {k : Nat} {cs cs2 : Tr Value} {n T sz : Nat} {ex app : Bool} {c' c2 : Array Value} {fz : Nat × Nat} {A : Ad} (hlim : k < Tr.top) (hk : S.H.get k = some (.cells cs n T sz ex app)) (hA : θ k = some A)
    (hc : w.heap[A.b]? = some (.cells c' T fz)) (hsz : c2.size = c'.size) (hout : ∀ i, ¬(A.base ≤ i ∧ i < A.base + n) → c2[i]? = c'[i]?) (hin : ∀ i, i < n → ∃ v v', cs2.get i = some v ∧ c2[A.base + i]? = some v' ∧ VR θ v v' ∧ v.oneCell' = true) :
    Step θ S w θ ⟨S.H.set k (some (.cells cs2 n T sz ex app)), S.n, S.hi⟩ { w with heap := w.heap.setIfInBounds A.b (.cells c2 T fz) } := by
  have hlt := h.lt hk hA
  obtain ⟨x', hx', c0, fz0, he, hCR⟩ := h.at hk hA
  rw [hc] at hx'
  cases hx'
  cases he
  have hg : ∀ j x, (S.H.set k (some (.cells cs2 n T sz ex app))).get j = some x → (j = k ∧ x = .cells cs2 n T sz ex app) ∨ (j ≠ k ∧ S.H.get j = some x) := fun j x hx => by
    by_cases e : j = k
    · subst e; rw [Tr.set_same _ _ _ hlim] at hx; cases hx; exact .inl ⟨rfl, rfl⟩
    · rw [Tr.set_other _ _ _ _ e] at hx; exact .inr ⟨e, hx⟩
  have hhi : ∀ cs', hiOf A (.cells cs' n T sz ex app) = hiOf A (.cells cs n T sz ex app) := fun _ => rfl
  refine ⟨.refl _, ⟨fun j x hx => ?_, fun j j' x x' B B' hjj hx hx' hB hB' => ?_, h.dom, h.lim⟩, fun b ⟨j, x, B, hx, hB, hb⟩ => ?_, fun b hb hn => ?_, rfl, rfl, rfl, by simp, fun _ _ h => .inl h, Nat.le_refl _, rfl⟩
  · rcases hg j x hx with ⟨rfl, rfl⟩ | ⟨hj, hy⟩
    · exact ⟨A, .cells c2 T fz, hA, by simp [hlt], c2, fz, rfl, hCR.sz, by rw [hsz]; exact hCR.fit, hin, hCR.ex, by rw [hsz]; exact hCR.app, by rw [hsz]; exact hCR.fz⟩
    · obtain ⟨B, y, a, b, c⟩ := h.get j x hy
      by_cases hb : B.b = A.b
      · rcases h.sep j k x _ B A hj hy hk a hA with h' | ⟨hcx, _, hap⟩
        · exact absurd hb h'
        · cases x with
          | cells csx nx Tx szx exx appx =>
            obtain ⟨cx, fzx, rfl, hCx⟩ := c
            rw [hb, hc] at b
            cases b
            refine ⟨B, .cells c2 T fz, a, by rw [hb]; simp [hlt], c2, fz, rfl, hCx.sz, by rw [hsz]; exact hCx.fit, fun i hi => ?_, hCx.ex, by rw [hsz]; exact hCx.app, by rw [hsz]; exact hCx.fz⟩
            obtain ⟨v, v', h1, h2, h3⟩ := hCx.val i hi
            refine ⟨v, v', h1, ?_, h3⟩
            rw [hout _ (by intro hh; exact hap (B.base + i) (by omega) (by simp only [hiOf]; omega) hh.1 (by simp only [hiOf]; omega))]
            exact h2
          | _ => simp [isC] at hcx
      · refine ⟨B, y, a, ?_, c⟩
        show (w.heap.setIfInBounds A.b _)[B.b]? = _
        rw [Array.getElem?_setIfInBounds_ne (Ne.symm hb)]
        exact b
  · rcases hg j x hx with ⟨rfl, rfl⟩ | ⟨hj, hy⟩
    · rcases hg j' x' hx' with ⟨rfl, rfl⟩ | ⟨hj', hy'⟩
      · exact absurd rfl hjj
      · rcases h.sep j j' _ x' B B' hjj hk hy' hB hB' with h' | ⟨_, h2, h3⟩
        · exact .inl h'
        · exact .inr ⟨rfl, h2, h3⟩
    · rcases hg j' x' hx' with ⟨rfl, rfl⟩ | ⟨hj', hy'⟩
      · rcases h.sep j j' x _ B B' hjj hy hk hB hB' with h' | ⟨h2, _, h3⟩
        · exact .inl h'
        · exact .inr ⟨h2, rfl, h3⟩
      · exact h.sep j j' x x' B B' hjj hy hy' hB hB'
  · rcases hg j x hx with ⟨rfl, rfl⟩ | ⟨hj, hy⟩
    · exact .inl ⟨j, _, B, hk, hB, hb⟩
    · exact .inl ⟨j, x, B, hy, hB, hb⟩
  · show (w.heap.setIfInBounds A.b _)[b]? = _
    rw [Array.getElem?_setIfInBounds_ne (fun e => hn ⟨k, _, A, hk, hA, e⟩)]
/-- a block's cells go on under another name; the old name is forgotten -/
theorem Step.move (h : Rel θ S w) (hn : S.n < S.hi) {k : Nat} {cs cs2 : Tr Value} {n n2 T sz sz2 : Nat} {ex ex2 app app2 : Bool} {c' c2 : Array Value} {fz : Nat × Nat} {A A2 : Ad} (hlim : k < Tr.top) (hk : S.H.get k = some (.cells cs n T sz ex app)) (hA : θ k = some A)
    (hc : w.heap[A.b]? = some (.cells c' T fz)) (hsz : c2.size = c'.size) (hout : ∀ i, ¬(A.base ≤ i ∧ i < hiOf A (.cells cs n T sz ex app)) → c2[i]? = c'[i]?) (hb : A2.b = A.b) (hlo : A.base ≤ A2.base) (hhi : hiOf A2 (.cells cs2 n2 T sz2 ex2 app2) ≤ hiOf A (.cells cs n T sz ex app))
    (hC : CR θ A2 cs2 n2 sz2 ex2 app2 c2 fz) :
    Step θ S w (ext θ S.n A2) ⟨(S.H.set k none).set S.n (some (.cells cs2 n2 T sz2 ex2 app2)), S.n + 1, S.hi⟩ { w with heap := w.heap.setIfInBounds A.b (.cells c2 T fz) } := by
  have hlt := h.lt hk hA
  have hle : Le θ (ext θ S.n A2) := ext_le _ _ _ (h.none hn)
  have hg : ∀ j x, ((S.H.set k none).set S.n (some (.cells cs2 n2 T sz2 ex2 app2))).get j = some x → (j = S.n ∧ x = .cells cs2 n2 T sz2 ex2 app2) ∨ (j ≠ S.n ∧ j ≠ k ∧ S.H.get j = some x) := fun j x hx => by
    by_cases e : j = S.n
    · subst e; rw [Tr.set_same _ _ _ (h.top hn)] at hx; cases hx; exact .inl ⟨rfl, rfl⟩
    · rw [Tr.set_other _ _ _ _ e] at hx
      by_cases e2 : j = k
      · subst e2; rw [Tr.set_same _ _ _ hlim] at hx; cases hx
      · rw [Tr.set_other _ _ _ _ e2] at hx; exact .inr ⟨e, e2, hx⟩
  have hθ : ∀ j B, j ≠ S.n → ext θ S.n A2 j = some B → θ j = some B := fun j B hj hB => by unfold ext at hB; rwa [if_neg hj] at hB
  have hself : ∀ B, ext θ S.n A2 S.n = some B → B = A2 := fun B hB => by rw [ext_same] at hB; cases hB; rfl
  have hap : ∀ j x B, j ≠ k → S.H.get j = some x → θ j = some B → apart B x A2 (.cells cs2 n2 T sz2 ex2 app2) := fun j x B hj hx hB => by
    rcases h.sep j k x _ B A hj hx hk hB hA with h1 | ⟨h1, h2, h3⟩
    · exact .inl (by rw [hb]; exact h1)
    · exact .inr ⟨h1, rfl, fun i a b c d => h3 i a b (Nat.le_trans hlo c) (Nat.lt_of_lt_of_le d hhi)⟩
  have hsym : ∀ {X Y : Ad} {x y : AO}, apart X x Y y → apart Y y X x := fun hxy => by
    rcases hxy with h1 | ⟨h1, h2, h3⟩
    · exact .inl (Ne.symm h1)
    · exact .inr ⟨h2, h1, fun i a b c d => h3 i c d a b⟩
  refine ⟨hle, ⟨fun j x hx => ?_, fun j j' x x' B B' hjj hx hx' hB hB' => ?_, ext_dom h.dom, ⟨hn, h.lim.2⟩⟩, fun b ⟨j, x, B, hx, hB, hbb⟩ => ?_, fun b hbl hno => ?_, rfl, rfl, rfl, by simp, fun k B hB => ext_new hB, Nat.le_succ _, rfl⟩
  · rcases hg j x hx with ⟨rfl, rfl⟩ | ⟨hj, hjk, hy⟩
    · exact ⟨A2, .cells c2 T fz, ext_same _ _ _, by rw [hb]; simp [hlt], c2, fz, rfl, hC.mono hle⟩
    · obtain ⟨B, y, a, b, c⟩ := h.get j x hy
      refine ⟨B, ?_⟩
      by_cases hbb : B.b = A.b
      · rcases h.sep j k x _ B A hjk hy hk a hA with h' | ⟨hcx, _, hapx⟩
        · exact absurd hbb h'
        · cases x with
          | cells csx nx Tx szx exx appx =>
            obtain ⟨cx, fzx, rfl, hCx⟩ := c
            rw [hbb, hc] at b
            cases b
            refine ⟨.cells c2 T fz, hle _ _ a, by rw [hbb]; simp [hlt], c2, fz, rfl, ?_⟩
            refine CR.mono hle ⟨hCx.sz, by rw [hsz]; exact hCx.fit, fun i hi => ?_, hCx.ex, by rw [hsz]; exact hCx.app, by rw [hsz]; exact hCx.fz⟩
            obtain ⟨v, v', h1, h2, h3⟩ := hCx.val i hi
            refine ⟨v, v', h1, ?_, h3⟩
            rw [hout _ (by intro hh; exact hapx (B.base + i) (by omega) (by simp only [hiOf]; omega) hh.1 hh.2)]
            exact h2
          | _ => simp [isC] at hcx
      · refine ⟨y, hle _ _ a, ?_, c.mono hle⟩
        show (w.heap.setIfInBounds A.b _)[B.b]? = _
        rw [Array.getElem?_setIfInBounds_ne (Ne.symm hbb)]
        exact b
  · rcases hg j x hx with ⟨rfl, rfl⟩ | ⟨hj, hjk, hy⟩
    · rcases hg j' x' hx' with ⟨rfl, rfl⟩ | ⟨hj', hjk', hy'⟩
      · exact absurd rfl hjj
      · rw [hself _ hB]; exact hsym (hap j' x' B' hjk' hy' (hθ _ _ hj' hB'))
    · rcases hg j' x' hx' with ⟨rfl, rfl⟩ | ⟨hj', hjk', hy'⟩
      · rw [hself _ hB']; exact hap j x B hjk hy (hθ _ _ hj hB)
      · exact h.sep j j' x x' B B' hjj hy hy' (hθ _ _ hj hB) (hθ _ _ hj' hB')
  · rcases hg j x hx with ⟨rfl, rfl⟩ | ⟨hj, hjk, hy⟩
    · rw [hself _ hB] at hbb
      exact .inl ⟨k, _, A, hk, hA, by rw [← hb]; exact hbb⟩
    · exact .inl ⟨j, x, B, hy, hθ _ _ hj hB, hbb⟩
  · show (w.heap.setIfInBounds A.b _)[b]? = _
    rw [Array.getElem?_setIfInBounds_ne (fun e => hno ⟨k, _, A, hk, hA, e⟩)]
/-- blocks are forgotten -/
theorem Step.less (h : Rel θ S w) {H' : Tr AO} (hs : ∀ k o, H'.get k = some o → S.H.get k = some o) : Step θ S w θ ⟨H', S.n, S.hi⟩ w :=
  ⟨.refl _, ⟨fun k o hk => h.get k o (hs k o hk), fun k k' o o' A A' hne hk hk' => h.sep k k' o o' A A' hne (hs _ _ hk) (hs _ _ hk'), h.dom, h.lim⟩, fun b ⟨k, o, A, h1, h2, h3⟩ => .inl ⟨k, o, A, hs _ _ h1, h2, h3⟩, fun _ _ _ => rfl, rfl, rfl, rfl, Nat.le_refl _, fun _ _ h => .inl h, Nat.le_refl _, rfl⟩
end
end
end Go.Ce
set_option linter.unusedVariables false
namespace Go.Ce
open Go Go.Cf
noncomputable section
def getN (cs : Tr Value) (off m : Nat) : Option (List Value) :=
  Nat.rec (motive := fun _ => Nat → Option (List Value)) (fun _ => some []) (fun _ ih off => Option.rec (motive := fun _ => Option (List Value)) none (fun v => Option.rec (motive := fun _ => Option (List Value)) none (fun l => some (v :: l)) (ih (Nat.succ off))) (cs.get off)) m off
theorem getN_succ (cs : Tr Value) (off m : Nat) : getN cs off (m + 1) = match cs.get off with
    | some v => match getN cs (off + 1) m with
      | some l => some (v :: l)
      | none => none
    | none => none := by
  show Option.rec (motive := fun _ => Option (List Value)) none (fun v => Option.rec (motive := fun _ => Option (List Value)) none (fun l => some (v :: l)) (getN cs (off + 1) m)) (cs.get off) = _
  cases cs.get off with
  | none => rfl
  | some v => cases getN cs (off + 1) m <;> rfl
def setN (cs : Tr Value) (off : Nat) (l : List Value) : Tr Value :=
  List.rec (motive := fun _ => Tr Value → Nat → Tr Value) (fun cs _ => cs) (fun v _ ih cs off => ih (cs.set off (some v)) (Nat.succ off)) l cs off
def ofL (l : List Value) : Tr Value := setN .nil 0 l
theorem getN_spec : ∀ (m : Nat) {cs : Tr Value} {off : Nat} {l : List Value}, getN cs off m = some l → l.length = m ∧ ∀ j, j < m → cs.get (off + j) = l[j]? := by
  intro m
  induction m with
  | zero => intro cs off l h; cases h; exact ⟨rfl, fun j hj => absurd hj (Nat.not_lt_zero j)⟩
  | succ m ih =>
    intro cs off l h
    rw [getN_succ] at h
    split at h
    · rename_i v hv
      split at h
      · rename_i l' hl
        cases h
        obtain ⟨h1, h2⟩ := ih hl
        refine ⟨by simp [h1], fun j hj => ?_⟩
        cases j with
        | zero => simpa using hv
        | succ j =>
          have := h2 j (by omega)
          rw [show off + (j + 1) = off + 1 + j from by omega, this]; simp
      · cases h
    · cases h
theorem setN_get : ∀ (l : List Value) (cs : Tr Value) (off i : Nat), off + l.length ≤ Tr.top → (setN cs off l).get i = if off ≤ i ∧ i < off + l.length then l[i - off]? else cs.get i := by
  intro l
  induction l with
  | nil => intro cs off i _; rw [if_neg (fun h => by simp at h; omega)]; rfl
  | cons v l ih =>
    intro cs off i h
    simp only [List.length_cons] at h
    show (setN (cs.set off (some v)) (off + 1) l).get i = _
    rw [ih _ _ _ (by omega)]
    by_cases e : i = off
    · subst e
      rw [if_neg (by omega), if_pos (by simp), Tr.set_same _ _ _ (by omega)]
      simp
    · rw [Tr.set_other _ _ _ _ e]
      simp only [List.length_cons]
      by_cases h2 : off + 1 ≤ i ∧ i < off + 1 + l.length
      · rw [if_pos h2, if_pos (by omega), show i - off = (i - (off + 1)) + 1 from by omega]; simp
      · rw [if_neg h2, if_neg (by omega)]
theorem ofL_get (l : List Value) (i : Nat) (h : l.length ≤ Tr.top) : (ofL l).get i = l[i]? := by
  unfold ofL
  rw [setN_get l .nil 0 i (by omega)]
  by_cases h2 : i < l.length
  · rw [if_pos (by omega)]; simp
  · rw [if_neg (by omega), List.getElem?_eq_none (by omega)]; exact Tr.get_nil _
section
variable {P : Program} {θ : Th} {S : St} {w : World} {N : Nat} {L : Tr Value} {a : Act} {o : Oper}
theorem cell_at {b T i : Nat} {c : Array Value} {fz : Nat × Nat} (h : w.heap[b]? = some (.cells c T fz)) : w.cell? ⟨b, i, none⟩ = c[i]? := by
  simp [World.cell?, h]
theorem getN_real {A : Ad} {cs : Tr Value} {n sz : Nat} {ex app : Bool} {c : Array Value} {fz : Nat × Nat} (h : CR θ A cs n sz ex app c fz) {off m : Nat} {l : List Value} (hl : getN cs off m = some l) (hm : off + m ≤ n) :
    ∃ l', l'.length = m ∧ (∀ j v, l'[j]? = some v → c[A.base + off + j]? = some v) ∧ VRl θ l l' ∧ ∀ v ∈ l, v.oneCell' = true := by
  obtain ⟨h1, h2⟩ := getN_spec m hl
  have hfit := h.fit
  refine ⟨(c.toList.drop (A.base + off)).take m, ?_, fun j v hj => ?_, ⟨?_, fun i v v' hi hi' => ?_⟩, fun v hv => ?_⟩
  · simp; omega
  · rw [List.getElem?_take] at hj
    split at hj
    · rw [List.getElem?_drop] at hj; simpa using hj
    · cases hj
  · simp; omega
  · have him : i < m := by rw [← h1]; exact (List.getElem?_eq_some_iff.1 hi).1
    obtain ⟨u, u', a1, a2, a3, _⟩ := h.val (off + i) (by omega)
    rw [List.getElem?_take, if_pos him, List.getElem?_drop] at hi'
    rw [h2 i him, hi] at a1
    cases a1
    rw [← Nat.add_assoc] at a2
    have : c.toList[A.base + off + i]? = some u' := by simpa using a2
    rw [this] at hi'
    cases hi'
    exact a3
  · obtain ⟨i, hi⟩ := List.mem_iff_getElem?.1 hv
    have him : i < m := by rw [← h1]; exact (List.getElem?_eq_some_iff.1 hi).1
    obtain ⟨u, u', a1, _, _, a4⟩ := h.val (off + i) (by omega)
    rw [h2 i him, hi] at a1
    cases a1
    exact a4
theorem heap_put_self {b : Nat} {x : Obj} (h : w.heap[b]? = some x) : ({ w with heap := w.heap.setIfInBounds b x } : World) = w := by
  have : w.heap.setIfInBounds b x = w.heap := by
    refine Array.ext (by simp) fun i h1 h2 => ?_
    rw [Array.getElem_setIfInBounds]
    split
    · rename_i e; subst e
      rw [Array.getElem?_eq_getElem h2] at h; cases h; rfl
    · rfl
  rw [this]
theorem setCell_put {b T i : Nat} {c : Array Value} {fz : Nat × Nat} {v : Value} (h : w.heap[b]? = some (.cells c T fz)) : w.setCell ⟨b, i, none⟩ v = { w with heap := w.heap.setIfInBounds b (.cells (c.setIfInBounds i v) T fz) } := by
  unfold World.setCell
  congr 1
  refine Array.ext (by simp) fun j h1 h2 => ?_
  rw [Array.getElem_modify, Array.getElem_setIfInBounds]
  · split
    · rename_i e; subst e
      have hj : b < w.heap.size := by simpa using h1
      rw [Array.getElem?_eq_getElem hj] at h
      simp only [Option.some.injEq] at h
      simp only [h]
      rfl
    · rfl
theorem run_storeC (P : Program) (b off T : Nat) (fz : Nat × Nat) : ∀ (vs : List Value) (i : Nat) (c : Array Value) (w : World), w.heap[b]? = some (.cells c T fz) → (∀ j, j < c.size → ¬(fz.1 ≤ j ∧ j < fz.2)) → off + i + vs.length ≤ c.size → (∀ v ∈ vs, v.oneCell' = true) →
    ∃ c2, (storeCells ⟨b, off, none⟩ vs i).run P w = .ok () { w with heap := w.heap.setIfInBounds b (.cells c2 T fz) } ∧ c2.size = c.size ∧ ∀ j, c2[j]? = if off + i ≤ j ∧ j < off + i + vs.length then vs[j - (off + i)]? else c[j]? := by
  intro vs
  induction vs with
  | nil =>
    intro i c w h _ _ _
    refine ⟨c, ?_, rfl, fun j => by rw [if_neg (fun h => by simp at h; omega)]⟩
    rw [heap_put_self h]
    simp [storeCells]
  | cons v vs ih =>
    intro i c w h hfz hl h1
    simp only [List.length_cons] at hl
    have hadd : (⟨b, off, none⟩ : Addr).add i = ⟨b, off + i, none⟩ := add_off b off i
    have hlt : off + i < c.size := by omega
    have hcell : w.cell? ⟨b, off + i, none⟩ = some c[off + i] := by rw [cell_at h, Array.getElem?_eq_getElem hlt]
    have hfro : w.frozen? ⟨b, off + i, none⟩ = false := by
      have := hfz (off + i) hlt
      obtain ⟨lo, hi⟩ := fz
      unfold World.frozen?
      simp only [h]
      cases hx : (decide (lo ≤ off + i) && decide (off + i < hi)) with
      | false => rfl
      | true => simp at hx; exact absurd hx this
    have hbl : b < w.heap.size := (Array.getElem?_eq_some_iff.1 h).1
    have hw1 : (w.setCell ⟨b, off + i, none⟩ v).heap[b]? = some (.cells (c.setIfInBounds (off + i) v) T fz) := by
      rw [setCell_put h]; simp [hbl]
    obtain ⟨c2, h2, h3, h4⟩ := ih (i + 1) (c.setIfInBounds (off + i) v) (w.setCell ⟨b, off + i, none⟩ v) hw1 (fun j hj => hfz j (by simpa using hj)) (by simp; omega) (fun u hu => h1 u (by simp [hu]))
    refine ⟨c2, ?_, by simpa using h3, fun j => ?_⟩
    · have hone := h1 v (by simp)
      have hst : (storeCells ⟨b, off, none⟩ (v :: vs) i).run P w = (storeCells ⟨b, off, none⟩ vs (i + 1)).run P (w.setCell ⟨b, off + i, none⟩ v) := by
        simp only [storeCells, hadd]
        cases v <;> simp [Value.oneCell'] at hone <;> simp [store, bind, Sem.bind, Sem.run, hcell, hfro]
      rw [hst, h2, setCell_put h]
      simp
    · rw [h4 j]
      simp only [List.length_cons]
      by_cases e : j = off + i
      · subst e
        rw [if_neg (by omega), if_pos (by omega)]
        simp [hlt]
      · rw [Array.getElem?_setIfInBounds_ne (Ne.symm e)]
        by_cases h5 : off + (i + 1) ≤ j ∧ j < off + (i + 1) + vs.length
        · rw [if_pos h5, if_pos (by omega), show j - (off + i) = (j - (off + (i + 1))) + 1 from by omega]; simp
        · rw [if_neg h5, if_neg (by omega)]
def cst (v : Value) : Option Value := Bool.rec (motive := fun _ => Option Value) none (some v) (nr v)
def evo (L : Tr Value) (x : Operand) : Option Value :=
  Operand.rec (motive := fun _ => Option Value) (fun t => L.get t) cst (fun _ => none) (fun f => some (.func (.func f) #[] #[])) x
def evs (L : Tr Value) (l : List Operand) : Option (List Value) :=
  List.rec (motive := fun _ => Option (List Value)) (some []) (fun x _ r => Option.rec (motive := fun _ => Option (List Value)) none (fun v => Option.rec (motive := fun _ => Option (List Value)) none (fun vs => some (v :: vs)) r) (evo L x)) l
theorem evs_cons (L : Tr Value) (x : Operand) (l : List Operand) : evs L (x :: l) = match evo L x with
    | some v => match evs L l with
      | some vs => some (v :: vs)
      | none => none
    | none => none := by
  show Option.rec (motive := fun _ => Option (List Value)) none (fun v => Option.rec (motive := fun _ => Option (List Value)) none (fun vs => some (v :: vs)) (evs L l)) (evo L x) = _
  cases evo L x with
  | none => rfl
  | some v => cases evs L l <;> rfl
theorem evo_ok (h : FrR θ N L a.tmps) {x : Operand} {v : Value} (hx : evo L x = some v) : VR θ v (a.eval x) := by
  cases x with
  | tmp t =>
    obtain ⟨v', h1, h2⟩ := h.val t v hx
    have : a.eval (.tmp t) = v' := by simp [Act.eval, h1]
    rw [this]; exact h2
  | const u =>
    replace hx : (Bool.rec (motive := fun _ => Option Value) none (some u) (nr u) : Option Value) = some v := hx
    cases hn : nr u with
    | true => rw [hn] at hx; cases hx; exact nr_refl θ hn
    | false => rw [hn] at hx; cases hx
  | global g => cases hx
  | func f => cases hx; exact .fn f rfl rfl (fun i v v' h => by simp at h) (fun i v v' h => by simp at h)
/-- what is known of some operands -/
def EvIn (θ : Th) (L : Tr Value) (a : Act) (l : List Operand) : Prop := ∀ x ∈ l, ∀ v, evo L x = some v → VR θ v (a.eval x)
theorem FrR.evIn (h : FrR θ N L a.tmps) (l : List Operand) : EvIn θ L a l := fun x _ v hv => evo_ok h hv
theorem EvIn.sub {l m : List Operand} (h : EvIn θ L a l) (hs : ∀ x ∈ m, x ∈ l) : EvIn θ L a m := fun x hx => h x (hs x hx)
theorem evs_ok : ∀ {l : List Operand} {vs : List Value}, EvIn θ L a l → evs L l = some vs → VRl θ vs (l.map a.eval) := by
  intro l
  induction l with
  | nil => intro vs _ hx; cases hx; exact .nil θ
  | cons x l ih =>
    intro vs h hx
    rw [evs_cons] at hx
    split at hx
    · rename_i v hv
      split at hx
      · rename_i us hus
        cases hx
        exact .cons (h x (by simp) v hv) (ih (h.sub fun y hy => by simp [hy]) hus)
      · cases hx
    · cases hx
inductive ON where
  | val (v : Value) (S : St)
  | skip (S : St)
  | enter (f : FuncId) (args : List Value)
  | round (k : Nat) (args : List Value)
  | defer (f : FuncId) (caps : List Value)
def OpOk (P : Program) (θ : Th) (S : St) (w : World) (a : Act) (o : Oper) : ON → Prop
  | .val v S1 => ∃ θ1 w1 v', (execOp a.eval o).run P w = .ok (.value v') w1 ∧ Step θ S w θ1 S1 w1 ∧ VR θ1 v v'
  | .skip S1 => ∃ θ1 w1, (execOp a.eval o).run P w = .ok .skip w1 ∧ Step θ S w θ1 S1 w1
  | .enter f args => ∃ args', (execOp a.eval o).run P w = .ok (.enter f args') w ∧ VRl θ args args'.toList
  | .round k args => ∃ A args', θ k = some A ∧ (execOp a.eval o).run P w = (Instr.yield A.b args').run P w ∧ VRl θ args args'.toList
  | .defer f caps => ∃ caps', (execOp a.eval o).run P w = .ok (.defer { target := .fn (.func f) caps', args := #[] }) w ∧ VRl θ caps caps'.toList
/-- a value, and nothing has turned -/
theorem OpOk.valk (h : Rel θ S w) {v v' : Value} (hr : (execOp a.eval o).run P w = .ok (.value v') w) (hv : VR θ v v') : OpOk P θ S w a o (.val v S) := ⟨θ, w, v', hr, .refl h, hv⟩
def rho (L : Tr Value) (x : Operand) : Value := (evo L x).getD undef
def nrs (L : Tr Value) (l : List Operand) : Bool :=
  List.rec (motive := fun _ => Bool) true (fun x _ r => Option.rec (motive := fun _ => Bool) false (fun v => Bool.rec (motive := fun _ => Bool) false r (nr v)) (evo L x)) l
theorem nrs_cons (L : Tr Value) (x : Operand) (l : List Operand) : nrs L (x :: l) = match evo L x with
    | some v => nr v && nrs L l
    | none => false := by
  show Option.rec (motive := fun _ => Bool) false (fun v => Bool.rec (motive := fun _ => Bool) false (nrs L l) (nr v)) (evo L x) = _
  cases evo L x with
  | none => rfl
  | some v => show (Bool.rec (motive := fun _ => Bool) false (nrs L l) (nr v) : Bool) = (nr v && nrs L l); cases nr v <;> rfl
def pureE (P : Program) (L : Tr Value) (o : Oper) : Option Value :=
  if nrs L o.op.operands.toList && notSelect o then
    match pureRun P (execOp (rho L) o) with
    | some (.value v) => if nr v then some v else none
    | _ => none
  else none
theorem nrs_ok : ∀ {l : List Operand}, EvIn θ L a l → nrs L l = true → ∀ x ∈ l, a.eval x = rho L x := by
  intro l
  induction l with
  | nil => intro _ _ x hx; cases hx
  | cons y l ih =>
    intro h hn x hx
    rw [nrs_cons] at hn
    split at hn
    · rename_i v hv
      simp only [Bool.and_eq_true] at hn
      rcases List.mem_cons.1 hx with rfl | hx
      · rw [nr_eq hn.1 (h x (by simp) v hv), rho, hv]; rfl
      · exact ih (h.sub fun y hy => by simp [hy]) hn.2 x hx
    · cases hn
theorem pureE_ok (h : EvIn θ L a o.op.operands.toList) (hR : Rel θ S w) {v : Value} (hp : pureE P L o = some v) : OpOk P θ S w a o (.val v S) := by
  unfold pureE at hp
  split at hp
  · rename_i hc
    simp only [Bool.and_eq_true] at hc
    split at hp
    · rename_i u hu
      split at hp
      · rename_i hn
        cases hp
        refine .valk hR (v' := v) ?_ (nr_refl θ hn)
        have he : execOp a.eval o = execOp (rho L) o := execOp_congr o (fun cs b e => by simp [notSelect, e] at hc) (fun x hx => nrs_ok h hc.1 x (by simpa using hx))
        rw [he]
        exact pureRun_run _ hu w
      · cases hp
    · cases hp
  · cases hp
def asP : Value → Option (Nat × Nat)
  | .pointer (some ⟨k, off, none⟩) => some (k, off)
  | _ => none
def cellsO : Option AO → Option (Tr Value × Nat)
  | some (.cells cs n _ _ _ _) => some (cs, n)
  | _ => none
def ldAgg (P : Program) (T : TypeId) (off : Nat) (c : Tr Value × Nat) : Option Value := match pureRun P (sizeOf T) with
  | some m => if off + m ≤ c.2 then (match getN c.1 off m with | some l => some (.agg l.toArray) | none => none) else none
  | none => none
def ldM (P : Program) (S : St) (T : TypeId) : Value → Option Value
  | .pointer (some ⟨k, off, none⟩) => match S.H.get k with
    | some (.cells cs n _ _ _ _) => match pureRun P (isAgg T) with
      | some false => if off < n then cs.get off else none
      | some true => match pureRun P (sizeOf T) with
        | some m => if off + m ≤ n then (match getN cs off m with | some l => some (.agg l.toArray) | none => none) else none
        | none => none
      | none => none
    | _ => none
  | _ => none
def ldE (P : Program) (S : St) (T : TypeId) (p : Value) : Option Value :=
  Option.rec (motive := fun _ => Option Value) none (fun a => Prod.rec (motive := fun _ => Option Value) (fun k off => Option.rec (motive := fun _ => Option Value) none (fun c => Option.rec (motive := fun _ => Option Value) none
    (fun g => Bool.rec (motive := fun _ => Option Value) (Prod.rec (motive := fun _ => Option Value) (fun cs n => Bool.rec (motive := fun _ => Option Value) none (cs.get off) (Nat.blt off n)) c) (ldAgg P T off c) g) (pureRun P (isAgg T))) (cellsO (S.H.get k))) a) (asP p)
theorem ldE_eq (P : Program) (S : St) (T : TypeId) (p : Value) : ldE P S T p = ldM P S T p := by
  cases p with
  | pointer a =>
    cases a with
    | none => rfl
    | some a =>
      obtain ⟨k, off, sp⟩ := a
      cases sp with
      | some _ => rfl
      | none =>
        simp only [ldM]
        show Option.rec (motive := fun _ => Option Value) none (fun c => Option.rec (motive := fun _ => Option Value) none
          (fun g => Bool.rec (motive := fun _ => Option Value) (Prod.rec (motive := fun _ => Option Value) (fun cs n => Bool.rec (motive := fun _ => Option Value) none (cs.get off) (Nat.blt off n)) c) (ldAgg P T off c) g) (pureRun P (isAgg T))) (cellsO (S.H.get k)) = _
        cases S.H.get k with
        | none => rfl
        | some o =>
          cases o with
          | cells cs n T' sz ex app =>
            simp only [cellsO]
            cases pureRun P (isAgg T) with
            | none => rfl
            | some g =>
              cases g with
              | true => rfl
              | false =>
                by_cases h : off < n
                · have : Nat.blt off n = true := by simpa [Nat.blt_eq] using h
                  simp [this, h]
                · have : Nat.blt off n = false := by
                    cases hb : Nat.blt off n with
                    | false => rfl
                    | true => exact absurd (by simpa [Nat.blt_eq] using hb) h
                  simp [this, h]
          | _ => rfl
  | _ => rfl
theorem ldE_ok (hR : Rel θ S w) {T : TypeId} {p p' v : Value} (hp : VR θ p p') (h : ldE P S T p = some v) : ∃ v', (Instr.loadAt T p').run P w = .ok v' w ∧ VR θ v v' := by
  cases hp with
  | ptr off hk =>
    rename_i k A
    rw [ldE_eq] at h
    simp only [ldM] at h
    split at h
    · rename_i cs n T' sz ex app hg
      obtain ⟨o', h1, c', fz, rfl, hC⟩ := hR.at hg hk
      split at h
      · rename_i hag
        split at h
        · rename_i hlt
          obtain ⟨u, u', a1, a2, a3, _⟩ := hC.val off hlt
          rw [h] at a1; cases a1
          exact ⟨u', run_load_scalar hag (by rw [cell_at h1]; exact a2), a3⟩
        · cases h
      · rename_i hag
        split at h
        · rename_i m hm
          split at h
          · rename_i hfit
            split at h
            · rename_i l hl
              cases h
              obtain ⟨l', b1, b2, b3, _⟩ := getN_real hC hl hfit
              refine ⟨.agg l'.toArray, run_load_agg hag hm b1 (fun j v hj => by rw [cell_at h1]; exact b2 j v hj), ?_⟩
              exact .agg (by simpa using b3.1) fun i v v' e1 e2 => b3.2 i v v' (by simpa using e1) (by simpa using e2)
            · cases h
          · cases h
        · cases h
      · cases h
    · cases h
  | _ => cases h
def allOne (l : List Value) : Bool := List.rec (motive := fun _ => Bool) true (fun v _ r => cond v.oneCell' r false) l
theorem allOne_cons (v : Value) (l : List Value) : allOne (v :: l) = (v.oneCell' && allOne l) := by
  show cond v.oneCell' _ _ = _
  cases v.oneCell' <;> rfl
theorem allOne_spec : ∀ {l : List Value}, allOne l = true → ∀ v ∈ l, v.oneCell' = true := by
  intro l
  induction l with
  | nil => intro _ v hv; cases hv
  | cons x l ih =>
    intro h v hv
    rw [allOne_cons, Bool.and_eq_true] at h
    rcases List.mem_cons.1 hv with rfl | hv
    · exact h.1
    · exact ih h.2 v hv
/-- cells are laid over others -/
def laidM (S : St) (k off : Nat) (l : List Value) : Option St :=
  match S.H.get k with
  | some (.cells cs n T sz ex app) => if off + l.length ≤ n && n ≤ Tr.top && k < Tr.top && allOne l then some ⟨S.H.set k (some (.cells (setN cs off l) n T sz ex app)), S.n, S.hi⟩ else none
  | _ => none
def laid1 (S : St) (k off : Nat) (l : List Value) (len : Nat) (o : AO) : Option St :=
  AO.rec (motive := fun _ => Option St) (fun cs n T sz ex app => cond (Nat.ble (off + len) n) (cond (Nat.ble n Tr.top) (cond (Nat.blt k Tr.top) (cond (allOne l) (St.rec (motive := fun _ => Option St) (fun H m hi => some ⟨H.set k (some (.cells (setN cs off l) n T sz ex app)), m, hi⟩) S) none) none) none) none)
    (fun _ _ => none) (fun _ _ _ _ => none) (fun _ _ _ _ _ _ _ _ => none) none o
def laid (S : St) (k off : Nat) (l : List Value) : Option St := Option.rec (motive := fun _ => Option St) none (laid1 S k off l l.length) (S.H.get k)
theorem blt_dec (a b : Nat) : Nat.blt a b = decide (a < b) := by
  by_cases h : a < b
  · simp [h, Nat.blt_eq]
  · cases hb : Nat.blt a b with
    | false => simp [h]
    | true => exact absurd (by simpa [Nat.blt_eq] using hb) h
theorem ble_dec (a b : Nat) : Nat.ble a b = decide (a ≤ b) := by
  by_cases h : a ≤ b
  · simp [h, Nat.ble_eq]
  · cases hb : Nat.ble a b with
    | false => simp [h]
    | true => exact absurd (by simpa [Nat.ble_eq] using hb) h
theorem laid_eq (S : St) (k off : Nat) (l : List Value) : laid S k off l = laidM S k off l := by
  unfold laid laidM
  cases S.H.get k with
  | none => rfl
  | some o =>
    cases o with
    | cells cs n T sz ex app =>
      show cond (Nat.ble (off + l.length) n) _ _ = _
      rw [ble_dec, ble_dec, blt_dec]
      by_cases h1 : off + l.length ≤ n <;> by_cases h2 : n ≤ Tr.top <;> by_cases h3 : k < Tr.top <;> cases h4 : allOne l <;> simp only [h1, h2, h3, h4, decide_true, decide_false, cond_true, cond_false, Bool.and_true, Bool.and_false, Bool.true_and, Bool.false_and, if_true, if_false] <;> simp
    | _ => rfl
theorem VRl.one {l l' : List Value} (h : VRl θ l l') (h1 : ∀ v ∈ l, v.oneCell' = true) : ∀ v ∈ l', v.oneCell' = true := fun v hv => by
  obtain ⟨i, hi⟩ := List.mem_iff_getElem?.1 hv
  have hlt : i < l.length := by rw [h.1]; exact (List.getElem?_eq_some_iff.1 hi).1
  rw [(h.2 i _ _ (List.getElem?_eq_getElem hlt) hi).one]
  exact h1 _ (List.getElem_mem hlt)
theorem laid_ok (hR : Rel θ S w) {k off : Nat} {A : Ad} {l l' : List Value} {S1 : St} (hA : θ k = some A) (hl : VRl θ l l') (h : laid S k off l = some S1) :
    ∃ w1, (storeCells ⟨A.b, A.base + off, none⟩ l' 0).run P w = .ok () w1 ∧ Step θ S w θ S1 w1 := by
  rw [laid_eq] at h
  unfold laidM at h
  split at h
  · rename_i cs n T sz ex app hg
    split at h
    · rename_i hc
      simp only [Bool.and_eq_true, decide_eq_true_eq] at hc
      obtain ⟨⟨⟨hfit, htop⟩, hlim⟩, hone⟩ := hc
      cases h
      obtain ⟨o', h1, c', fz, rfl, hC⟩ := hR.at hg hA
      have hfit' := hC.fit
      obtain ⟨c2, h2, h3, h4⟩ := run_storeC P A.b (A.base + off) T fz l' 0 c' w h1 hC.fz (by rw [← hl.1]; omega) (hl.one (allOne_spec hone))
      refine ⟨_, h2, Step.cells hR hlim hg hA h1 h3 (fun i hi => ?_) (fun i hi => ?_)⟩
      · rw [h4 i, if_neg (by rw [← hl.1]; omega)]
      · obtain ⟨u, u', a1, a2, a3, a4⟩ := hC.val i hi
        rw [setN_get l cs off i (by omega), h4]
        by_cases hin : off ≤ i ∧ i < off + l.length
        · rw [if_pos hin, if_pos (by rw [← hl.1]; omega)]
          have e : A.base + i - (A.base + off + 0) = i - off := by omega
          rw [e]
          have hlt : i - off < l.length := by omega
          have hlt' : i - off < l'.length := by rw [← hl.1]; exact hlt
          exact ⟨l[i - off], l'[i - off], List.getElem?_eq_getElem hlt, List.getElem?_eq_getElem hlt', hl.2 _ _ _ (List.getElem?_eq_getElem hlt) (List.getElem?_eq_getElem hlt'), allOne_spec hone _ (List.getElem_mem hlt)⟩
        · rw [if_neg hin, if_neg (by rw [← hl.1]; omega)]
          exact ⟨u, u', a1, a2, a3, a4⟩
    · cases h
  · cases h
def stM (P : Program) (S : St) (T : TypeId) (p v : Value) : Option St :=
  match p with
  | .pointer (some ⟨k, off, none⟩) => match pureRun P (sizeOf T) with
    | some m => if v.cells.toList.length = m then laid S k off v.cells.toList else none
    | none => none
  | _ => none
def stE (P : Program) (S : St) (T : TypeId) (p v : Value) : Option St :=
  Option.rec (motive := fun _ => Option St) none (fun a => Prod.rec (motive := fun _ => Option St) (fun k off => Option.rec (motive := fun _ => Option St) none (fun m => cond (Nat.beq v.cells.toList.length m) (laid S k off v.cells.toList) none) (pureRun P (sizeOf T))) a) (asP p)
theorem stE_eq (P : Program) (S : St) (T : TypeId) (p v : Value) : stE P S T p v = stM P S T p v := by
  cases p with
  | pointer a =>
    cases a with
    | none => rfl
    | some a =>
      obtain ⟨k, off, sp⟩ := a
      cases sp with
      | some _ => rfl
      | none =>
        simp only [stM]
        show Option.rec (motive := fun _ => Option St) none (fun m => cond (Nat.beq v.cells.toList.length m) (laid S k off v.cells.toList) none) (pureRun P (sizeOf T)) = _
        cases pureRun P (sizeOf T) with
        | none => rfl
        | some m =>
          show cond (Nat.beq v.cells.toList.length m) _ _ = _
          by_cases h : v.cells.toList.length = m
          · have : Nat.beq v.cells.toList.length m = true := by rw [Nat.beq_eq]; exact h
            rw [this]; simp only [cond_true]; rw [if_pos h]
          · have : Nat.beq v.cells.toList.length m = false := by
              cases hb : Nat.beq v.cells.toList.length m with
              | false => rfl
              | true => rw [Nat.beq_eq] at hb; exact absurd hb h
            simp only [this, h, cond_false, if_false]
  | _ => rfl
theorem stE_ok (hR : Rel θ S w) {T : TypeId} {p p' v v' : Value} {S1 : St} (hp : VR θ p p') (hv : VR θ v v') (h : stE P S T p v = some S1) : ∃ w1, (Instr.storeAt T p' v').run P w = .ok () w1 ∧ Step θ S w θ S1 w1 := by
  cases hp with
  | ptr off hk =>
    rename_i k A
    rw [stE_eq] at h
    simp only [stM] at h
    split at h
    · rename_i m hm
      split at h
      · rename_i hlen
        obtain ⟨w1, h1, h2⟩ := laid_ok (P := P) hR hk hv.cells h
        refine ⟨w1, ?_, h2⟩
        have e : v'.cells.size = m := by
          have := hv.cells.1
          rw [← hlen, this]; simp
        simp [Instr.storeAt, Instr.sureAddr, storeVar, pureRun_run _ hm w, e, h1]
      · cases h
    · cases h
  | _ => cases h
end
end
end Go.Ce
set_option linter.unusedVariables false
namespace Go.Ce
open Go Go.Cf
noncomputable section
section
variable {P : Program} {θ : Th} {S : St} {w : World} {N : Nat} {L : Tr Value} {a : Act} {o : Oper}
def partE (P : Program) (T : TypeId) (cs : Array Value) (off : Nat) : Option Value :=
  match pureRun P (isAgg T) with
  | some true => match pureRun P (sizeOf T) with
    | some m => some (.agg (cs.toList.drop off |>.take m).toArray)
    | none => none
  | some false => cs.toList[off]?
  | none => none
theorem extract_list (cs : Array Value) (i j : Nat) : cs.extract i j = ((cs.toList.drop i).take (j - i)).toArray := by
  apply Array.ext'
  simp [Array.toList_extract, List.extract_eq_take_drop]
theorem VRl.sub {l l' : List Value} (h : VRl θ l l') (i m : Nat) : VRl θ ((l.drop i).take m) ((l'.drop i).take m) :=
  ⟨by simp [h.1], fun j v v' h1 h2 => by
    rw [List.getElem?_take] at h1 h2
    split at h1
    · rename_i hj
      rw [if_pos hj] at h2
      rw [List.getElem?_drop] at h1 h2
      exact h.2 _ v v' h1 h2
    · cases h1⟩
theorem VRl.mkAgg {l l' : List Value} (h : VRl θ l l') : VR θ (.agg l.toArray) (.agg l'.toArray) :=
  .agg (by simpa using h.1) fun i v v' a b => h.2 i v v' (by simpa using a) (by simpa using b)
theorem VRl.mkTup {l l' : List Value} (h : VRl θ l l') : VR θ (.tuple l.toArray) (.tuple l'.toArray) :=
  .tup (by simpa using h.1) fun i v v' a b => h.2 i v v' (by simpa using a) (by simpa using b)
theorem partE_ok {T : TypeId} {cs cs' : Array Value} {off : Nat} {v : Value} (h : VRl θ cs.toList cs'.toList) (hp : partE P T cs off = some v) (w : World) : ∃ v', (part T cs' off).run P w = .ok v' w ∧ VR θ v v' := by
  unfold partE at hp
  split at hp
  · rename_i hag
    split at hp
    · rename_i m hm
      cases hp
      refine ⟨.agg ((cs'.toList.drop off).take m).toArray, ?_, (h.sub off m).mkAgg⟩
      simp [part, run_isAgg hag, pureRun_run _ hm w, extract_list]
    · cases hp
  · rename_i hag
    obtain ⟨v', h1, h2⟩ := h.get hp
    refine ⟨v', ?_, h2⟩
    have h1' : cs'[off]? = some v' := by simpa using h1
    simp [part, run_isAgg hag, h1']
  · cases hp
def fieldE (P : Program) (T : TypeId) (f : Nat) : Value → Option Value
  | .agg cs => match pureRun P (underlying T) with
    | some (.struct fs) => match fs[f]? with
      | some d => partE P d.type cs d.offset
      | none => none
    | _ => none
  | _ => none
theorem fieldE_ok {T : TypeId} {f : Nat} {x x' v : Value} (hx : VR θ x x') (h : fieldE P T f x = some v) (w : World) : ∃ v', (Instr.field T x' f).run P w = .ok v' w ∧ VR θ v v' := by
  cases hx with
  | agg h1 h2 =>
    simp only [fieldE] at h
    split at h
    · rename_i fs hu
      split at h
      · rename_i d hd
        obtain ⟨v', a, b⟩ := partE_ok (VRl.of h1 h2) h w
        refine ⟨v', ?_, b⟩
        simp [Instr.field, run_underlying' hu, hd, asAgg, a]
      · cases h
    · cases h
  | _ => cases h
/-- an index, where it is in bounds -/
def idxE (n : Nat) : Value → Option Nat
  | .int _ i => if 0 ≤ i ∧ i < n then some i.toNat else none
  | _ => none
theorem idxE_ok {n k : Nat} {v v' : Value} (hv : VR θ v v') (h : idxE n v = some k) : ∃ kd i, v' = .int kd i ∧ (0 ≤ i ∧ i < (n : Int)) ∧ i.toNat = k := by
  cases hv with
  | int kd i =>
    simp only [idxE] at h
    split at h
    · rename_i hc; cases h; exact ⟨kd, i, rfl, hc, rfl⟩
    · cases h
  | _ => cases h
def indexE (P : Program) (T : TypeId) (x ix : Value) : Option Value :=
  match x with
  | .agg cs => match pureRun P (underlying T) with
    | some (.array n E) => match idxE n ix with
      | some i => match pureRun P (sizeOf E) with
        | some m => partE P E cs (i * m)
        | none => none
      | none => none
    | _ => none
  | _ => none
theorem indexE_ok {T : TypeId} {x x' ix ix' v : Value} (hx : VR θ x x') (hi : VR θ ix ix') (h : indexE P T x ix = some v) (w : World) : ∃ v', (Instr.index T x' ix').run P w = .ok v' w ∧ VR θ v v' := by
  cases hx with
  | agg h1 h2 =>
    simp only [indexE] at h
    split at h
    · rename_i n E hu
      split at h
      · rename_i i hii
        obtain ⟨kd, j, rfl, hj, rfl⟩ := idxE_ok hi hii
        split at h
        · rename_i m hm
          obtain ⟨v', a, b⟩ := partE_ok (VRl.of h1 h2) h w
          refine ⟨v', ?_, b⟩
          simp [Instr.index, asIntOf, run_underlying' hu, hj, pureRun_run _ hm w, a]
        · cases h
      · cases h
    · cases h
  | _ => cases h
def extractE (i : Nat) : Value → Option Value
  | .tuple vs => vs.toList[i]?
  | _ => none
theorem extractE_ok {i : Nat} {x x' v : Value} (hx : VR θ x x') (h : extractE i x = some v) (w : World) : ∃ v', (Instr.extract x' i).run P w = .ok v' w ∧ VR θ v v' := by
  cases hx with
  | tup h1 h2 =>
    obtain ⟨v', a, b⟩ := (VRl.of h1 h2).get h
    have a' := a
    rw [Array.getElem?_toList] at a'
    exact ⟨v', by simp [Instr.extract, a'], b⟩
  | _ => cases h
def fieldAtE (P : Program) (T : TypeId) (f : Nat) : Value → Option Value
  | .pointer (some ⟨k, off, none⟩) => match pureRun P (underlying T) with
    | some (.struct fs) => match fs[f]? with
      | some d => match pureRun P (sizeOf d.type) with
        | some (_ + 1) => some (.pointer (some ⟨k, off + d.offset, none⟩))
        | _ => none
      | none => none
    | _ => none
  | _ => none
theorem fieldAtE_ok {T : TypeId} {f : Nat} {x x' v : Value} (hx : VR θ x x') (h : fieldAtE P T f x = some v) (w : World) : ∃ v', (Instr.fieldAt T x' f).run P w = .ok v' w ∧ VR θ v v' := by
  cases hx with
  | ptr off hk =>
    rename_i k A
    simp only [fieldAtE] at h
    split at h
    · rename_i fs hu
      split at h
      · rename_i d hd
        split at h
        · rename_i m hm
          cases h
          refine ⟨_, ?_, .ptr _ hk⟩
          simp [Instr.fieldAt, run_underlying' hu, hd, Instr.sureAddr, fieldPlace, pureRun_run _ hm w, add_off, Nat.add_assoc]
        · cases h
      · cases h
    · cases h
  | _ => cases h
def indexAtE (P : Program) (T : TypeId) (x ix : Value) : Option Value :=
  match pureRun P (underlying T) with
  | some (.array n E) => match x with
    | .pointer (some ⟨k, off, none⟩) => match idxE n ix with
      | some i => match pureRun P (sizeOf E) with
        | some m => some (.pointer (some ⟨k, off + i * m, none⟩))
        | none => none
      | none => none
    | _ => none
  | some (.slice E) => match x with
    | .slice (some ⟨k, off, none⟩) n _ => match idxE n ix with
      | some i => match pureRun P (sizeOf E) with
        | some m => some (.pointer (some ⟨k, off + i * m, none⟩))
        | none => none
      | none => none
    | _ => none
  | _ => none
theorem indexAtE_ok {T : TypeId} {x x' ix ix' v : Value} (hx : VR θ x x') (hi : VR θ ix ix') (h : indexAtE P T x ix = some v) (w : World) : ∃ v', (Instr.indexAt T x' ix').run P w = .ok v' w ∧ VR θ v v' := by
  unfold indexAtE at h
  split at h
  · rename_i n E hu
    cases hx with
    | ptr off hk =>
      rename_i k A
      simp only at h
      split at h
      · rename_i i hii
        obtain ⟨kd, j, rfl, hj, rfl⟩ := idxE_ok hi hii
        split at h
        · rename_i m hm
          cases h
          refine ⟨_, ?_, .ptr _ hk⟩
          simp [Instr.indexAt, asIntOf, run_underlying' hu, Instr.sureAddr, hj, pureRun_run _ hm w, add_off, Nat.add_assoc]
        · cases h
      · cases h
    | _ => cases h
  · rename_i E hu
    cases hx with
    | sl off n c hk =>
      rename_i k A
      simp only at h
      split at h
      · rename_i i hii
        obtain ⟨kd, j, rfl, hj, rfl⟩ := idxE_ok hi hii
        split at h
        · rename_i m hm
          cases h
          refine ⟨_, ?_, .ptr _ hk⟩
          simp [Instr.indexAt, asIntOf, run_underlying' hu, hj, pureRun_run _ hm w, add_off, Nat.add_assoc]
        · cases h
      · cases h
    | empt q c =>
      simp only [idxE] at h
      cases ix <;> simp only [idxE] at h <;> try cases h
      split at h
      · rename_i heq
        split at heq
        · omega
        · cases heq
      · cases h
    | _ => cases h
  · cases h
/-- a new row of cells; behind them there may be room of which nothing is known -/
theorem new_cells (hR : Rel θ S w) (hn : S.n < S.hi) {l l' : List Value} {T : TypeId} {ex : Bool} {slk sz : Nat} {c' : Array Value} (hl : VRl θ l l') (h1 : allOne l = true) (ht : l.length ≤ Tr.top) (hc : ∀ (j : Nat) (v : Value), l'[j]? = some v → c'[j]? = some v)
    (hex : ex = true → slk = 0) (hsz : l.length + slk * sz ≤ c'.size) :
    Step θ S w (ext θ S.n ⟨w.heap.size, 0, slk, sz⟩) (S.new (.cells (ofL l) l.length T sz ex true)) (w.alloc (.cells c' T (0, 0))) := by
  refine Step.alloc hR hn rfl ⟨c', (0, 0), rfl, rfl, by simp; omega, fun i hi => ?_, hex, fun _ => by simpa using hsz, fun i _ => by simp⟩
  have hi' : i < l'.length := by rw [← hl.1]; exact hi
  refine ⟨l[i], l'[i], by rw [ofL_get l i ht, List.getElem?_eq_getElem hi], ?_, (hl.2 i _ _ (List.getElem?_eq_getElem hi) (List.getElem?_eq_getElem hi')).mono (ext_le _ _ _ (hR.none hn)), allOne_spec h1 _ (List.getElem_mem hi)⟩
  simp only [Nat.zero_add]
  exact hc i _ (List.getElem?_eq_getElem hi')
/-- a box -/
def newE (S : St) (T : TypeId) (l : List Value) : Option (Nat × St) :=
  if S.n < S.hi && allOne l && l.length ≤ Tr.top then some (S.n, S.new (.cells (ofL l) l.length T 0 true true)) else none
theorem newE_ok (hR : Rel θ S w) {T k : TypeId} {l l' : List Value} {S1 : St} (hl : VRl θ l l') (h : newE S T l = some (k, S1)) :
    ∃ θ1, Step θ S w θ1 S1 (w.alloc (.cells l'.toArray T)) ∧ θ1 k = some ⟨w.heap.size, 0, 0, 0⟩ := by
  unfold newE at h
  split at h
  · rename_i hc
    simp only [Bool.and_eq_true, decide_eq_true_eq] at hc
    cases h
    exact ⟨_, new_cells hR hc.1.1 hl hc.1.2 hc.2 (fun j v hj => by simpa using hj) (fun _ => rfl) (by simpa using Nat.le_of_eq hl.1), ext_same _ _ _⟩
  · cases h
def allocE (P : Program) (S : St) (T : TypeId) : Option (Value × St) :=
  match pureRun P (zeroValue T) with
  | some z => if nr z then match newE S T z.cells.toList with
      | some (k, S1) => some (.pointer (some ⟨k, 0, none⟩), S1)
      | none => none
    else none
  | none => none
theorem allocE_ok (hR : Rel θ S w) {T : TypeId} {v : Value} {S1 : St} (h : allocE P S T = some (v, S1)) : ∃ θ1 w1 v', (Instr.alloc T true (.tuple #[])).run P w = .ok v' w1 ∧ Step θ S w θ1 S1 w1 ∧ VR θ1 v v' := by
  unfold allocE at h
  split at h
  · rename_i z hz
    split at h
    · rename_i hn
      split at h
      · rename_i k S2 hk
        cases h
        obtain ⟨θ1, h1, h2⟩ := newE_ok hR (nr_refl θ hn).cells hk
        refine ⟨θ1, _, _, ?_, h1, .ptr 0 h2⟩
        simp [Instr.alloc, pureRun_run _ hz w, run_newVar]
      · cases h
    · cases h
  · cases h
def boxE (S : St) (T : TypeId) (v : Value) : Option (Value × St) :=
  match newE S T v.cells.toList with
  | some (k, S1) => some (.pointer (some ⟨k, 0, none⟩), S1)
  | none => none
theorem boxE_ok (hR : Rel θ S w) {T : TypeId} {x x' v : Value} {S1 : St} (hx : VR θ x x') (h : boxE S T x = some (v, S1)) : ∃ θ1 w1 v', (Instr.box T x').run P w = .ok v' w1 ∧ Step θ S w θ1 S1 w1 ∧ VR θ1 v v' := by
  unfold boxE at h
  split at h
  · rename_i k S2 hk
    cases h
    obtain ⟨θ1, h1, h2⟩ := newE_ok hR hx.cells hk
    refine ⟨θ1, _, _, ?_, h1, .ptr 0 h2⟩
    simp [Instr.box, run_newVar]
  · cases h
/-- parts are laid over cells -/
def fillE (place : Nat → Option (Nat × Nat)) : List (Nat × Value) → List Value → Option (List Value)
  | [], cs => some cs
  | (i, v) :: r, cs => match place i with
    | none => none
    | some (off, m) => if v.cells.toList.length = m ∧ off + m ≤ cs.length then fillE place r (cs.take off ++ v.cells.toList ++ cs.drop (off + m)) else none
theorem splice_get {α : Type} (cs l : List α) (p j : Nat) (h : p + l.length ≤ cs.length) : (cs.take p ++ l ++ cs.drop (p + l.length))[j]? = if j < p then cs[j]? else if j < p + l.length then l[j - p]? else cs[j]? := by
  have hp : (cs.take p).length = p := by simp; omega
  by_cases h1 : j < p
  · rw [if_pos h1, List.append_assoc, List.getElem?_append_left (by omega), List.getElem?_take, if_pos h1]
  · rw [if_neg h1, List.append_assoc, List.getElem?_append_right (by omega), hp]
    by_cases h2 : j < p + l.length
    · rw [if_pos h2, List.getElem?_append_left (by omega)]
    · rw [if_neg h2, List.getElem?_append_right (by omega), List.getElem?_drop]
      congr 1
      omega
theorem fold_set (off : Nat) : ∀ (l : List Value) (k : Nat) (cs : Array Value), off + k + l.length ≤ cs.size →
    ((l.zipIdx k).foldl (fun cs (x : Value × Nat) => cs.setIfInBounds (off + x.2) x.1) cs).toList = cs.toList.take (off + k) ++ l ++ cs.toList.drop (off + k + l.length) := by
  intro l
  induction l with
  | nil => intro k cs h; simp
  | cons v l ih =>
    intro k cs h
    simp only [List.length_cons] at h
    simp only [List.zipIdx_cons, List.foldl_cons]
    rw [ih (k + 1) _ (by simp; omega)]
    have hlt : off + k < cs.size := by omega
    apply List.ext_getElem?
    intro j
    rw [splice_get _ _ _ _ (by simp; omega), splice_get _ _ _ _ (by simp; omega)]
    simp only [Array.toList_setIfInBounds, List.length_cons]
    by_cases h2 : j = off + k
    · subst h2
      rw [if_pos (by omega), if_neg (by omega), if_pos (by omega)]
      simp [hlt]
    · rw [List.getElem?_set_ne (Ne.symm h2)]
      by_cases h1 : j < off + k
      · rw [if_pos (by omega), if_pos h1]
      · rw [if_neg (by omega), if_neg h1]
        by_cases h3 : j < off + (k + 1) + l.length
        · rw [if_pos h3, if_pos (by omega), show j - (off + k) = (j - (off + (k + 1))) + 1 from by omega]; simp
        · rw [if_neg h3, if_neg (by omega)]
/-- parts, one by one -/
def PR (θ : Th) : List (Nat × Value) → List (Nat × Value) → Prop
  | [], [] => True
  | (i, v) :: l, (j, u) :: m => i = j ∧ VR θ v u ∧ PR θ l m
  | _, _ => False
theorem fillE_ok {place : Nat → Option (Nat × Nat)} : ∀ {ps ps' : List (Nat × Value)} {cs : List Value} {cs' : Array Value} {r : List Value}, PR θ ps ps' → VRl θ cs cs'.toList → fillE place ps cs = some r →
    ∃ r' : Array Value, Instr.fill place cs' ps' = some r' ∧ VRl θ r r'.toList := by
  intro ps
  induction ps with
  | nil =>
    intro ps' cs cs' r hp hc h
    cases ps' with
    | nil => cases h; exact ⟨cs', rfl, hc⟩
    | cons _ _ => exact hp.elim
  | cons p ps ih =>
    intro ps' cs cs' r hp hc h
    obtain ⟨i, v⟩ := p
    cases ps' with
    | nil => exact hp.elim
    | cons p' ps' =>
      obtain ⟨j, u⟩ := p'
      obtain ⟨rfl, hv, hp⟩ := hp
      simp only [fillE] at h
      split at h
      · cases h
      · rename_i off m hpl
        split at h
        · rename_i hcond
          have hvc := hv.cells
          have hul : u.cells.toList.length = m := by rw [← hvc.1]; exact hcond.1
          have hul' : u.cells.size = m := by simpa using hul
          have hcl : cs.length = cs'.size := by simpa using hc.1
          have hf := fold_set off u.cells.toList 0 cs' (by rw [hul]; omega)
          simp only [Nat.add_zero] at hf
          have hz : (u.cells.zipIdx.foldl (fun cs (x : Value × Nat) => cs.setIfInBounds (off + x.2) x.1) cs').toList = cs'.toList.take off ++ u.cells.toList ++ cs'.toList.drop (off + m) := by
            rw [← hul, ← hf, ← Array.foldl_toList]; simp
          have hrel : VRl θ (cs.take off ++ v.cells.toList ++ cs.drop (off + m)) (u.cells.zipIdx.foldl (fun cs (x : Value × Nat) => cs.setIfInBounds (off + x.2) x.1) cs').toList := by
            rw [hz]
            refine VRl.append (VRl.append ?_ hvc) ?_
            · have := hc.sub 0 off; simpa using this
            · have := hc.sub (off + m) (cs.length)
              rw [List.take_of_length_le (by simp), List.take_of_length_le (by simp; omega)] at this
              exact this
          obtain ⟨r', h1, h2⟩ := ih hp hrel h
          refine ⟨r', ?_, h2⟩
          simp only [Instr.fill, hpl]
          rw [if_neg (by simp [hul']; omega)]
          exact h1
        · cases h
def evp (L : Tr Value) : List (Nat × Operand) → Option (List (Nat × Value))
  | [] => some []
  | (i, x) :: l => match evo L x with
    | some v => match evp L l with
      | some vs => some ((i, v) :: vs)
      | none => none
    | none => none
theorem evp_ok : ∀ {l : List (Nat × Operand)} {vs : List (Nat × Value)}, EvIn θ L a (l.map (·.2)) → evp L l = some vs → PR θ vs (l.map fun p => (p.1, a.eval p.2)) := by
  intro l
  induction l with
  | nil => intro vs _ hx; cases hx; trivial
  | cons x l ih =>
    obtain ⟨i, x⟩ := x
    intro vs h hx
    simp only [evp] at hx
    split at hx
    · rename_i v hv
      split at hx
      · rename_i us hus
        cases hx
        exact ⟨rfl, h x (by simp) v hv, ih (h.sub fun y hy => List.mem_cons_of_mem _ hy) hus⟩
      · cases hx
    · cases hx
def places (fs : Array Field) : Sem (Array (Nat × Nat)) := fs.mapM fun f => do pure (f.offset, ← sizeOf f.type)
def buildE (P : Program) (t : TypeId) (ps : List (Nat × Value)) : Option Value :=
  match pureRun P (zeroValue t) with
  | some z => if nr z then match pureRun P (underlying t) with
    | some (.struct fs) => match pureRun P (places fs) with
      | some pl => match fillE (pl[·]?) ps z.cells.toList with
        | some l => some (.agg l.toArray)
        | none => none
      | none => none
    | some (.array _ E) => match pureRun P (sizeOf E) with
      | some m => match fillE (fun i => some (i * m, m)) ps z.cells.toList with
        | some l => some (.agg l.toArray)
        | none => none
      | none => none
    | _ => none
    else none
  | none => none
theorem buildE_ok {t : TypeId} {ps : List (Nat × Value)} {ps' : Array (Nat × Value)} {v : Value} (hp : PR θ ps ps'.toList) (h : buildE P t ps = some v) (w : World) : ∃ v', (Instr.build t ps').run P w = .ok v' w ∧ VR θ v v' := by
  unfold buildE at h
  split at h
  · rename_i z hz
    split at h
    · rename_i hn
      have hzc := (nr_refl θ hn).cells
      split at h
      · rename_i fs hu
        split at h
        · rename_i pl hpl
          split at h
          · rename_i l hl
            cases h
            obtain ⟨r', h1, h2⟩ := fillE_ok hp hzc hl
            refine ⟨.agg r', ?_, by have := h2.mkAgg; simpa using this⟩
            have h3 : (fs.mapM fun f => do pure (f.offset, ← sizeOf f.type) : Sem (Array (Nat × Nat))).run P w = .ok pl w := pureRun_run _ hpl w
            simp only [bind_pure_comp] at h3
            simp only [Instr.build, bind_pure_comp]
            simp [pureRun_run _ hz w, run_underlying' hu, h3, h1]
          · cases h
        · cases h
      · rename_i E hu
        split at h
        · rename_i m hm
          split at h
          · rename_i l hl
            cases h
            obtain ⟨r', h1, h2⟩ := fillE_ok hp hzc hl
            refine ⟨.agg r', ?_, by have := h2.mkAgg; simpa using this⟩
            simp [Instr.build, pureRun_run _ hz w, run_underlying' hu, pureRun_run _ hm w, h1]
          · cases h
        · cases h
      · cases h
    · cases h
  · cases h
end
end
end Go.Ce
set_option linter.unusedVariables false
namespace Go.Ce
open Go Go.Cf
noncomputable section
section
variable {P : Program} {θ : Th} {S : St} {w : World} {N : Nat} {L : Tr Value} {a : Act} {o : Oper}
/-- n times the cells of a zero value -/
def zrep (l : List Value) : Nat → List Value
  | 0 => []
  | n + 1 => l ++ zrep l n
theorem zrep_length (l : List Value) (n : Nat) : (zrep l n).length = n * l.length := by
  induction n with
  | zero => simp [zrep]
  | succ n ih => simp only [zrep, List.length_append, ih, Nat.add_mul, Nat.one_mul]; omega
theorem zrep_get (l : List Value) : ∀ (n i : Nat), i < n * l.length → (zrep l n)[i]? = l[i % l.length]? := by
  intro n
  induction n with
  | zero => intro i h; simp at h
  | succ n ih =>
    intro i h
    rw [Nat.add_mul, Nat.one_mul] at h
    simp only [zrep]
    by_cases h1 : i < l.length
    · rw [List.getElem?_append_left h1, Nat.mod_eq_of_lt h1]
    · rw [List.getElem?_append_right (by omega), ih _ (by omega), ← Nat.mod_eq_sub_mod (by omega)]
theorem zrep_eq (z : Array Value) (n m : Nat) (h : z.size = m) : ((Array.range (n * m)).map (z[· % z.size]!)).toList = zrep z.toList n := by
  apply List.ext_getElem?
  intro i
  by_cases hi : i < n * m
  · rw [zrep_get _ _ _ (by simpa [h] using hi)]
    have hm : 0 < m := by
      rcases Nat.eq_zero_or_pos m with h0 | h0
      · subst h0; simp at hi
      · exact h0
    have hlt : i % z.size < z.size := Nat.mod_lt _ (by omega)
    simp [hi, hlt]
  · rw [List.getElem?_eq_none (by simp; omega), List.getElem?_eq_none (by rw [zrep_length]; simp [h]; omega)]
theorem nr0_of_cells {z : Value} (h : nr z = true) (hm : ∀ x ∈ z.cells.toList, VR θ x x) (n : Nat) : VRl θ (zrep z.cells.toList n) (zrep z.cells.toList n) := by
  refine ⟨rfl, fun i v v' h1 h2 => ?_⟩
  rw [h1] at h2; cases h2
  have hlt := (List.getElem?_eq_some_iff.1 h1).1
  rw [zrep_length] at hlt
  rw [zrep_get _ _ _ hlt] at h1
  exact hm v (List.mem_of_getElem? h1)
theorem cells_refl {z : Value} (h : nr z = true) : ∀ x ∈ z.cells.toList, VR θ x x := fun x hx => by
  obtain ⟨i, hi⟩ := List.mem_iff_getElem?.1 hx
  exact (nr_refl θ h).cells.2 i x x hi hi
def mkSl (k n : Nat) : Value := .slice (some ⟨k, 0, none⟩) n n
theorem VR.mkSl {θ : Th} {k b n slk sz : Nat} (h : θ k = some ⟨b, 0, slk, sz⟩) : VR θ (mkSl k n) (.slice (some ⟨b, 0, none⟩) n (n + slk)) := .sl 0 n n h
def buildSliceE (P : Program) (S : St) (t : TypeId) (n : Nat) (ps : List (Nat × Value)) : Option (Value × St) :=
  match pureRun P (underlying t) with
  | some (.slice E) => match pureRun P (sizeOf E) with
    | some m => match pureRun P (zeroValue E) with
      | some z => if nr z && z.cells.size == m && decide (0 < m) && decide (n * m ≤ 16777216) then
          match fillE (fun i => some (i * m, m)) ps (zrep z.cells.toList n) with
          | some l => match newE S E l with
            | some (k, S1) => some (mkSl k n, S1)
            | none => none
          | none => none
        else none
      | none => none
    | none => none
  | _ => none
theorem buildSliceE_ok (hR : Rel θ S w) {t n : Nat} {ps : List (Nat × Value)} {ps' : Array (Nat × Value)} {v : Value} {S1 : St} (hp : PR θ ps ps'.toList) (h : buildSliceE P S t n ps = some (v, S1)) :
    ∃ θ1 w1 v', (Instr.buildSlice t n ps').run P w = .ok v' w1 ∧ Step θ S w θ1 S1 w1 ∧ VR θ1 v v' := by
  unfold buildSliceE at h
  split at h
  · rename_i E hu
    split at h
    · rename_i m hm
      split at h
      · rename_i z hz
        split at h
        · rename_i hc
          simp only [Bool.and_eq_true, beq_iff_eq, decide_eq_true_eq] at hc
          obtain ⟨⟨⟨hnr, hzs⟩, hm0⟩, hbig⟩ := hc
          split at h
          · rename_i l hl
            split at h
            · rename_i k S2 hk
              cases h
              have h0 : VRl θ (zrep z.cells.toList n) ((Array.range (n * m)).map (z.cells[· % z.cells.size]!)).toList := by
                rw [zrep_eq z.cells n m hzs]; exact nr0_of_cells hnr (cells_refl hnr) n
              obtain ⟨r', h1, h2⟩ := fillE_ok hp h0 hl
              obtain ⟨θ1, h3, h4⟩ := newE_ok (T := E) hR h2 hk
              refine ⟨θ1, _, _, ?_, h3, VR.mkSl h4⟩
              have hb1 : ¬ (16777216 < n * m) := by omega
              by_cases hn0 : n * m = 0
              · have e : (Array.range (n * m)).map (z.cells[· % z.cells.size]!) = #[] := by rw [hn0]; simp
                rw [e] at h1
                simp [Instr.buildSlice, run_underlying' hu, pureRun_run _ hm w, hn0, newRow, newObj]
                rw [show ∀ f : Nat → Value, Array.map f (Array.range 0) = #[] from fun f => by simp, h1]
                rfl
              · simp [Instr.buildSlice, run_underlying' hu, pureRun_run _ hm w, pureRun_run _ hz w, hb1, hn0, h1, newRow, newObj]
                rfl
            · cases h
          · cases h
        · cases h
      · cases h
    · cases h
  · cases h
def makeSliceE (P : Program) (S : St) (t : TypeId) (x y : Value) : Option (Value × St) :=
  match P.underlying t with
  | some (.slice E) => match P.info? E with
    | some i => match i.zero with
      | some z => match x, y with
        | .int _ l, .int _ c => if nr z && z.cells.size == i.size && decide (0 ≤ l) && decide (l ≤ c) && decide ((i.bytes : Int) * c ≤ 281474976710656) && decide (c ≤ 9223372036854775807) then
            match newE S E (zrep z.cells.toList c.toNat) with
            | some (k, S1) => some (.slice (some ⟨k, 0, none⟩) l.toNat c.toNat, S1)
            | none => none
          else none
        | _, _ => none
      | none => none
    | none => none
  | _ => none
theorem makeSliceE_ok (hR : Rel θ S w) {t : Nat} {x x' y y' v : Value} {S1 : St} (hx : VR θ x x') (hy : VR θ y y') (h : makeSliceE P S t x y = some (v, S1)) :
    ∃ θ1 w1 v', (Instr.makeSlice t x' y').run P w = .ok v' w1 ∧ Step θ S w θ1 S1 w1 ∧ VR θ1 v v' := by
  unfold makeSliceE at h
  split at h
  · rename_i E hu
    split at h
    · rename_i i hi
      split at h
      · rename_i z hz
        split at h
        · rename_i kl l kc c
          split at h
          · rename_i hc
            simp only [Bool.and_eq_true, beq_iff_eq, decide_eq_true_eq] at hc
            obtain ⟨⟨⟨⟨⟨hnr, hzs⟩, h0⟩, hlc⟩, hb⟩, h63⟩ := hc
            split at h
            · rename_i k S2 hk
              cases h
              cases hx; cases hy
              have hrun := run_make (P := P) w t E i z hu hi hz kl kc l c h0 hlc hb h63
              obtain ⟨θ1, h3, h4⟩ := newE_ok (T := E) hR (nr0_of_cells hnr (cells_refl hnr) c.toNat) hk
              have e : (zrep z.cells.toList c.toNat).toArray = madeCells z.cells (c.toNat * i.size) := by
                apply Array.ext'
                rw [← zrep_eq z.cells c.toNat i.size hzs]; rfl
              rw [e] at h3
              exact ⟨θ1, _, _, hrun, h3, .sl 0 _ _ h4⟩
            · cases h
          · cases h
        · cases h
      · cases h
    · cases h
  · cases h
/-- a bound: a number from 0 to n; where none is given, d -/
def bndE (n d : Nat) : Option Value → Option Nat
  | none => some d
  | some (.int _ i) => if 0 ≤ i ∧ i ≤ n then some i.toNat else none
  | _ => none
/-- what is behind the room that is known, as a slice without elements -/
def tailE (S : St) (k off l : Nat) : Option (Value × St) :=
  match S.H.get k with
  | some (.cells cs n T sz ex app) =>
    if ex then some (.slice (some ⟨k, off, none⟩) 0 0, S)
    else if app && off + l * sz == n && decide (S.n < S.hi) && decide (k < Tr.top) then
      some (.slice (some ⟨S.n, 0, none⟩) 0 0, ⟨(S.H.set k (some (.cells cs n T sz ex false))).set S.n (some (.cells .nil 0 T sz false true)), S.n + 1, S.hi⟩)
    else some (.slice (some ⟨Tr.top, 0, none⟩) 0 0, S)
  | _ => none
def sliceE (P : Program) (S : St) (t : TypeId) (x : Value) (lo hi : Option Value) : Option (Value × St) :=
  match pureRun P (underlying t) with
  | some (.array n E) => match x with
    | .pointer (some ⟨k, off, none⟩) => match S.H.get k with
      | some (.cells _ _ _ _ true _) => match bndE n n hi with
        | some h => match bndE h 0 lo with
          | some l => match pureRun P (sizeOf E) with
            | some m => some (.slice (some (if n = l then ⟨k, off, none⟩ else ⟨k, off + l * m, none⟩)) (h - l) (n - l), S)
            | none => none
          | none => none
        | none => none
      | _ => none
    | _ => none
  | some (.slice E) => match x with
    | .slice (some ⟨k, off, none⟩) n c => match bndE c n hi with
      | some h => match bndE h 0 lo with
        | some l => match pureRun P (sizeOf E) with
          | some m => if h ≤ c then if k < Tr.top then if c = l then (match S.H.get k with | some (.cells _ _ _ sz ex _) => if ex || sz == m then tailE S k off l else none | _ => some (.slice (some ⟨Tr.top, 0, none⟩) 0 0, S)) else some (.slice (some ⟨k, off + l * m, none⟩) (h - l) (c - l), S)
            else if c = 0 then some (.slice (some ⟨Tr.top, 0, none⟩) 0 0, S) else none else none
          | none => none
        | none => none
      | none => none
    | _ => none
  | _ => none
/-- how two optional bounds lie to each other -/
def VRo (θ : Th) : Option Value → Option Value → Prop
  | none, none => True
  | some v, some v' => VR θ v v'
  | _, _ => False
theorem bnd_run {n d k y : Nat} {v v' : Option Value} (code : BoundsCode) (hv : VRo θ v v') (h : bndE n d v = some k) (hy : n ≤ y) (w : World) :
    (match v' with | some u => Instr.sliceBound u y code | none => (pure d : Sem Nat)).run P w = .ok k w := by
  cases v with
  | none =>
    cases v' with
    | none => cases h; rfl
    | some _ => exact hv.elim
  | some u =>
    cases v' with
    | none => exact hv.elim
    | some u' =>
      have hv : VR θ u u' := hv
      cases hv with
      | int kd i =>
        simp only [bndE] at h
        split at h
        · rename_i hc
          cases h
          have h2 : i ≤ (y : Int) := by omega
          simp [Instr.sliceBound, asIntOf, hc.1, h2]
        · cases h
      | _ => cases h
theorem bounds_run {b : Bool} {n c c' h l : Nat} {lo lo' hi hi' : Option Value} (hlo : VRo θ lo lo') (hhi : VRo θ hi hi') (h1 : bndE c n hi = some h) (h2 : bndE h 0 lo = some l) (hc : c ≤ c') (w : World) :
    (Instr.sliceBounds b n c' lo' hi' none).run P w = .ok (l, h, c') w := by
  have e1 := fun code => bnd_run (P := P) (θ := θ) (y := c') code hhi h1 hc w
  have e2 := fun code => bnd_run (P := P) (θ := θ) (y := h) code hlo h2 (Nat.le_refl _) w
  unfold Instr.sliceBounds
  cases hi' with
  | none =>
    have e1' : n = h := by
      have := e1 .index
      simpa [Sem.run] using this
    subst e1'
    cases lo' with
    | none =>
      have e2' : 0 = l := by
        have := e2 .index
        simpa [Sem.run] using this
      subst e2'
      simp
    | some u =>
      have := e2 .sliceB
      simp only at this
      simp [this]
  | some u =>
    have e1' := e1 (if b then .sliceAcap else .sliceAlen)
    simp only at e1'
    cases lo' with
    | none =>
      have e2' : 0 = l := by
        have := e2 .index
        simpa [Sem.run] using this
      subst e2'
      simp [e1']
    | some u2 =>
      have := e2 .sliceB
      simp only at this
      simp [e1', this]
theorem tailE_ok (hR : Rel θ S w) {k off l : Nat} {A : Ad} {v : Value} {S1 : St} (hA : θ k = some A) (m : Nat) (hm : ∀ cs n T sz ex app, S.H.get k = some (.cells cs n T sz ex app) → ex = true ∨ sz = m) (h : tailE S k off l = some (v, S1)) :
    ∃ θ1 v', VR θ1 v v' ∧ Step θ S w θ1 S1 w ∧ v' = .slice (some (if l + A.slk = l then ⟨A.b, A.base + off, none⟩ else ⟨A.b, A.base + off + l * m, none⟩)) 0 (l + A.slk - l) := by
  unfold tailE at h
  split at h
  · rename_i cs n T sz ex app hg
    have hm' := hm _ _ _ _ _ _ hg
    obtain ⟨o', h1, c', fz, rfl, hC⟩ := hR.at hg hA
    split at h
    · rename_i hex
      cases h
      have h0 := hC.ex hex
      refine ⟨θ, _, .sl off 0 0 hA, .refl hR, ?_⟩
      simp [h0]
    · rename_i hex
      split at h
      · rename_i hc
        simp only [Bool.and_eq_true, beq_iff_eq, decide_eq_true_eq] at hc
        obtain ⟨⟨⟨happ, hoff⟩, hn⟩, hlim⟩ := hc
        have hszm : sz = m := hm'.resolve_left (by simpa using hex)
        cases h
        subst hszm
        let B : Ad := if A.slk = 0 then ⟨A.b, A.base + off, 0, sz⟩ else ⟨A.b, A.base + n, A.slk, sz⟩
        have hBb : B.b = A.b := by simp only [B]; split <;> rfl
        have hBs : B.sz = sz := by simp only [B]; split <;> rfl
        have hBl : B.slk = A.slk := by simp only [B]; split <;> simp_all
        have hCapp := hC.app happ
        have hAs := hC.sz
        have hle : Le θ (ext θ S.n B) := ext_le _ _ _ (hR.none hn)
        have hnil : CR θ B .nil 0 sz false true c' fz := by
          refine ⟨hBs, ?_, fun i hi => absurd hi (Nat.not_lt_zero i), (fun h => by cases h), fun _ => ?_, hC.fz⟩
          · simp only [B]; split <;> simp only [] <;> omega
          · rw [hBs, hBl]
            simp only [B]
            split
            · rename_i e; simp only [e]; omega
            · simp only []; rw [hAs] at hCapp; omega
        refine ⟨ext θ S.n B, _, .sl 0 0 0 (ext_same _ _ _), ?_, ?_⟩
        · have hg2 : ∀ j x, ((S.H.set k (some (.cells cs n T sz ex false))).set S.n (some (.cells .nil 0 T sz false true))).get j = some x → (j = S.n ∧ x = .cells .nil 0 T sz false true) ∨ (j ≠ S.n ∧ j = k ∧ x = .cells cs n T sz ex false) ∨ (j ≠ S.n ∧ j ≠ k ∧ S.H.get j = some x) := fun j x hx => by
            by_cases e : j = S.n
            · subst e; rw [Tr.set_same _ _ _ (hR.top hn)] at hx; cases hx; exact .inl ⟨rfl, rfl⟩
            · rw [Tr.set_other _ _ _ _ e] at hx
              by_cases e2 : j = k
              · subst e2; rw [Tr.set_same _ _ _ hlim] at hx; cases hx; exact .inr (.inl ⟨e, rfl, rfl⟩)
              · rw [Tr.set_other _ _ _ _ e2] at hx; exact .inr (.inr ⟨e, e2, hx⟩)
          have hθ : ∀ j C, j ≠ S.n → ext θ S.n B j = some C → θ j = some C := fun j C hj hC => by unfold ext at hC; rwa [if_neg hj] at hC
          have hself : ∀ C, ext θ S.n B S.n = some C → C = B := fun C hC => by rw [ext_same] at hC; cases hC; rfl
          have hsym : ∀ {X Y : Ad} {x y : AO}, apart X x Y y → apart Y y X x := fun hxy => by
            rcases hxy with h1 | ⟨h1, h2, h3⟩
            · exact .inl (Ne.symm h1)
            · exact .inr ⟨h2, h1, fun i a b c d => h3 i c d a b⟩
          -- every block of old stays apart from both parts
          have hap1 : ∀ j x C, j ≠ k → S.H.get j = some x → θ j = some C → apart C x A (.cells cs n T sz ex false) := fun j x C hj hx hCj => by
            rcases hR.sep j k x _ C A hj hx hg hCj hA with h1 | ⟨h1, h2, h3⟩
            · exact .inl h1
            · exact .inr ⟨h1, rfl, fun i a b c d => h3 i a b c (by simp only [hiOf] at d ⊢; simp at d; omega)⟩
          have hap2 : ∀ j x C, j ≠ k → S.H.get j = some x → θ j = some C → apart C x B (.cells .nil 0 T sz false true) := fun j x C hj hx hCj => by
            rcases hR.sep j k x _ C A hj hx hg hCj hA with h1 | ⟨h1, h2, h3⟩
            · exact .inl (by rw [hBb]; exact h1)
            · refine .inr ⟨h1, rfl, fun i a b c d => h3 i a b ?_ ?_⟩
              · simp only [B] at c; split at c <;> simp only [] at c <;> omega
              · simp only [hiOf, hBl, hBs, if_true] at d
                simp only [hiOf, happ, if_true, hAs]
                simp only [B] at d
                split at d
                · rename_i e; simp only [e] at d; simp only [B, e, if_true] at c; omega
                · simp only [] at d; omega
          have hap3 : apart A (.cells cs n T sz ex false) B (.cells .nil 0 T sz false true) := by
            refine .inr ⟨rfl, rfl, fun i a b c d => ?_⟩
            simp only [hiOf, hBl, hBs, if_true] at d
            simp [hiOf] at b
            simp only [B] at c d
            split at c
            · rename_i e; simp only [e, if_true] at d; simp only [e] at c; omega
            · simp only [] at c; omega
          refine ⟨hle, ⟨fun j x hx => ?_, fun j j' x x' C C' hjj hx hx' hCj hCj' => ?_, ext_dom hR.dom, ⟨hn, hR.lim.2⟩⟩, fun b ⟨j, x, C, hx, hCj, hbb⟩ => ?_, fun _ _ _ => rfl, rfl, rfl, rfl, Nat.le_refl _, fun k B hB => ext_new hB, Nat.le_succ _, rfl⟩
          · rcases hg2 j x hx with ⟨rfl, rfl⟩ | ⟨hj, rfl, rfl⟩ | ⟨hj, hjk, hy⟩
            · exact ⟨B, .cells c' T fz, ext_same _ _ _, by rw [hBb]; exact h1, c', fz, rfl, hnil.mono hle⟩
            · exact ⟨A, .cells c' T fz, hle _ _ hA, h1, c', fz, rfl, CR.mono hle ⟨hC.sz, hC.fit, hC.val, hC.ex, fun h => by simp at h, hC.fz⟩⟩
            · obtain ⟨C, y, a1, b1, c1⟩ := hR.get j x hy
              exact ⟨C, y, hle _ _ a1, b1, c1.mono hle⟩
          · rcases hg2 j x hx with ⟨rfl, rfl⟩ | ⟨hj, rfl, rfl⟩ | ⟨hj, hjk, hy⟩ <;> rcases hg2 j' x' hx' with ⟨rfl, rfl⟩ | ⟨hj', rfl, rfl⟩ | ⟨hj', hjk', hy'⟩
            · exact absurd rfl hjj
            · rw [hself _ hCj]
              have := hθ _ _ hj' hCj'; rw [hA] at this; cases this
              exact hsym hap3
            · rw [hself _ hCj]; exact hsym (hap2 _ _ _ hjk' hy' (hθ _ _ hj' hCj'))
            · rw [hself _ hCj']
              have := hθ _ _ hj hCj; rw [hA] at this; cases this
              exact hap3
            · exact absurd rfl hjj
            · have := hθ _ _ hj hCj; rw [hA] at this; cases this
              exact hsym (hap1 _ _ _ hjk' hy' (hθ _ _ hj' hCj'))
            · rw [hself _ hCj']; exact hap2 _ _ _ hjk hy (hθ _ _ hj hCj)
            · have := hθ _ _ hj' hCj'; rw [hA] at this; cases this
              exact hap1 _ _ _ hjk hy (hθ _ _ hj hCj)
            · exact hR.sep j j' x x' C C' hjj hy hy' (hθ _ _ hj hCj) (hθ _ _ hj' hCj')
          · rcases hg2 j x hx with ⟨rfl, rfl⟩ | ⟨hj, rfl, rfl⟩ | ⟨hj, hjk, hy⟩
            · rw [hself _ hCj] at hbb; exact .inl ⟨k, _, A, hg, hA, by rw [← hBb]; exact hbb⟩
            · exact .inl ⟨_, _, C, hg, hθ _ _ hj hCj, hbb⟩
            · exact .inl ⟨j, x, C, hy, hθ _ _ hj hCj, hbb⟩
        · rw [hBb, hBl]
          simp only [Nat.add_zero, Nat.zero_add]
          by_cases e : A.slk = 0
          · simp [B, e]
          · rw [if_neg (by omega)]
            simp only [B, if_neg e]
            rw [show A.base + off + l * sz = A.base + n from by omega, show l + A.slk - l = A.slk from by omega]
      · cases h
        exact ⟨θ, _, .empt _ _, .refl hR, rfl⟩
  · cases h
theorem sliceE_ok (hR : Rel θ S w) {t : TypeId} {x x' v : Value} {lo lo' hi hi' : Option Value} {S1 : St} (hx : VR θ x x') (hlo : VRo θ lo lo') (hhi : VRo θ hi hi') (h : sliceE P S t x lo hi = some (v, S1)) :
    ∃ θ1 v', (Instr.sliceAt t x' lo' hi' none).run P w = .ok v' w ∧ Step θ S w θ1 S1 w ∧ VR θ1 v v' := by
  unfold sliceE at h
  split at h
  · rename_i n E hu
    split at h
    · rename_i k off
      split at h
      · rename_i cs nn T sz app hg
        split at h
        · rename_i hh hb1
          split at h
          · rename_i l hb2
            split at h
            · rename_i m hm
              cases h
              cases hx with
              | ptr _ hk =>
                rename_i A
                obtain ⟨o', h1, c', fz, rfl, hC⟩ := hR.at hg hk
                have h0 := hC.ex rfl
                have hb := bounds_run (P := P) (b := false) (c' := n) hlo hhi hb1 hb2 (Nat.le_refl _) w
                refine ⟨θ, .slice (some (if n = l then ⟨A.b, A.base + off, none⟩ else ⟨A.b, A.base + off + l * m, none⟩)) (hh - l) (n - l), ?_, .refl hR, ?_⟩
                · simp [Instr.sliceAt, run_underlying' hu, Instr.sureAddr, hb, pureRun_run _ hm w, add_off]
                · split
                  · have := VR.sl off (hh - l) (n - l) hk
                    rw [h0] at this; exact this
                  · have := VR.sl (off + l * m) (hh - l) (n - l) hk
                    rw [h0, ← Nat.add_assoc] at this; exact this
            · cases h
          · cases h
        · cases h
      · cases h
    · cases h
  · rename_i E hu
    split at h
    · rename_i k off n c
      split at h
      · rename_i hh hb1
        split at h
        · rename_i l hb2
          split at h
          · rename_i m hm
            cases hx with
            | sl _ _ _ hk =>
              rename_i A
              have hb := bounds_run (P := P) (b := true) (n := n) (c' := c + A.slk) hlo hhi hb1 hb2 (Nat.le_add_right _ _) w
              have hrun : ∀ v', v' = Value.slice (some (if c + A.slk = l then ⟨A.b, A.base + off, none⟩ else ⟨A.b, A.base + off + l * m, none⟩)) (hh - l) (c + A.slk - l) → (Instr.sliceAt t (.slice (some ⟨A.b, A.base + off, none⟩) n (c + A.slk)) lo' hi' none).run P w = .ok v' w := fun v' hv' => by
                subst hv'
                have : (if c + A.slk = l then some (⟨A.b, A.base + off, none⟩ : Addr) else (some (⟨A.b, A.base + off, none⟩ : Addr)).map (·.add (l * m))) = some (if c + A.slk = l then ⟨A.b, A.base + off, none⟩ else ⟨A.b, A.base + off + l * m, none⟩) := by split <;> simp [add_off]
                simp only [Option.map_some] at this
                simp [Instr.sliceAt, run_underlying' hu, Instr.slice, hb, pureRun_run _ hm w, this]
              have hlh : l ≤ hh := by
                cases lo with
                | none => simp only [bndE, Option.some.injEq] at hb2; omega
                | some u =>
                  cases u <;> simp only [bndE] at hb2 <;> try cases hb2
                  split at hb2
                  · cases hb2; omega
                  · cases hb2
              split at h
              · rename_i hhc
                split at h
                · rename_i hkt
                  split at h
                  · rename_i hcl
                    split at h
                    · rename_i cs0 n0 T0 sz0 ex0 app0 hg
                      split at h
                      · rename_i hsz
                        subst hcl
                        obtain ⟨θ1, v', h1, h2, h3⟩ := tailE_ok hR hk m (fun cs n T sz ex app hg' => by
                          rw [hg] at hg'; cases hg'
                          simpa using hsz) h
                        refine ⟨θ1, v', hrun v' ?_, h2, h1⟩
                        rw [h3, show hh - c = 0 from by omega]
                      · cases h
                    · cases h
                      refine ⟨θ, _, hrun _ rfl, .refl hR, ?_⟩
                      rw [show hh - l = 0 from by omega]
                      exact .empt _ _
                  · rename_i hcl
                    cases h
                    refine ⟨θ, _, hrun _ rfl, .refl hR, ?_⟩
                    rw [if_neg (by omega), show c + A.slk - l = c - l + A.slk from by omega, Nat.add_assoc]
                    exact .sl _ _ _ hk
                · split at h
                  · rename_i hc0
                    cases h
                    refine ⟨θ, _, hrun _ rfl, .refl hR, ?_⟩
                    rw [show hh - l = 0 from by omega]
                    exact .empt _ _
                  · cases h
              · cases h
            | empt q c2 =>
              have hb := bounds_run (P := P) (b := true) (n := 0) (c' := c2) hlo hhi hb1 hb2 (Nat.zero_le _) w
              split at h
              · rename_i hhc
                split at h
                · rename_i hkt; exact absurd hkt (Nat.lt_irrefl _)
                · split at h
                  · cases h
                    have hrun : (Instr.sliceAt t (.slice (some q) 0 c2) lo' hi' none).run P w = .ok (.slice (if c2 = l then some q else (some q).map (·.add (l * m))) (hh - l) (c2 - l)) w := by
                      simp [Instr.sliceAt, run_underlying' hu, Instr.slice, hb, pureRun_run _ hm w]
                    refine ⟨θ, _, hrun, .refl hR, ?_⟩
                    rw [show hh - l = 0 from by omega]
                    split
                    · exact .empt _ _
                    · exact .empt _ _
                  · cases h
              · cases h
          · cases h
        · cases h
      · cases h
    · cases h
  · cases h
end
end
end Go.Ce
set_option linter.unusedVariables false
namespace Go.Ce
open Go Go.Cf
noncomputable section
section
variable {P : Program} {θ : Th} {S : St} {w : World} {N : Nat} {L : Tr Value} {a : Act} {o : Oper}
/-- what is put behind: how many elements, and their cells -/
def srcE (P : Program) (S : St) (t u : TypeId) (sz : Nat) : Value → Option (Nat × List Value)
  | .slice p n c => if t == u then
      match p with
      | none => if n == 0 && c == 0 then some (0, []) else none
      | some ⟨k, off, none⟩ => if n = 0 then some (0, []) else match S.H.get k with
        | some (.cells cs N _ _ _ _) => if off + n * sz ≤ N && decide (k < Tr.top) then (match getN cs off (n * sz) with | some l => some (n, l) | none => none) else none
        | _ => none
      | _ => none
    else none
  | .string s => match P.underlying u with
    | some .string => if sz == 1 then some (s.size, Lib.strCells s) else none
    | _ => none
  | _ => none
theorem VRl.ofInts : ∀ (l : List Value), (∀ v ∈ l, nr0 v = true) → VRl θ l l := fun l h => ⟨rfl, fun i v v' h1 h2 => by rw [h1] at h2; cases h2; exact nr0_refl θ (h v (List.mem_of_getElem? h1))⟩
theorem srcE_ok (hR : Rel θ S w) {t u y E m : Nat} {i : TypeInfo} {z x x' : Value} {news : List Value} (ht : P.underlying t = some (.slice E)) (hi : P.info? E = some i) (hz : i.zero = some z) (hx : VR θ x x') (h : srcE P S t u i.size x = some (m, news)) :
    ∃ news', VRl θ news news' ∧ news'.length = m * i.size ∧ AppOf P w t u y E i z x' m news' := by
  cases hx with
  | nils =>
    simp only [srcE] at h
    split at h
    · rename_i htu
      simp at h
      obtain ⟨rfl, rfl⟩ := h
      have : t = u := by simpa using htu
      subst this
      exact ⟨[], .nil θ, by simp, appOf_slice ht hi hz (by simp) (.inl ⟨rfl, rfl⟩)⟩
    · cases h
  | sl off n c hk =>
    rename_i k A
    simp only [srcE] at h
    split at h
    · rename_i htu
      have : t = u := by simpa using htu
      subst this
      split at h
      · rename_i h0
        cases h
        subst h0
        exact ⟨[], .nil θ, by simp, appOf_slice ht hi hz (by simp) (.inr ⟨_, rfl, fun j v hj => by simp at hj⟩)⟩
      split at h
      · rename_i cs N T sz ex app hg
        split at h
        · rename_i hfit
          simp only [Bool.and_eq_true, decide_eq_true_eq] at hfit
          replace hfit := hfit.1
          split at h
          · rename_i l hl
            cases h
            obtain ⟨o', h1, c', fz, rfl, hC⟩ := hR.at hg hk
            obtain ⟨l', b1, b2, b3, _⟩ := getN_real hC hl hfit
            exact ⟨l', b3, b1, appOf_slice ht hi hz b1 (.inr ⟨_, rfl, fun j v hj => by rw [add_off, cell_at h1]; exact b2 j v hj⟩)⟩
          · cases h
        · cases h
      · cases h
    · cases h
  | empt q c =>
    simp only [srcE] at h
    split at h
    · rename_i htu
      have : t = u := by simpa using htu
      subst this
      simp at h
      obtain ⟨rfl, rfl⟩ := h
      exact ⟨[], .nil θ, by simp, appOf_slice ht hi hz (by simp) (.inr ⟨_, rfl, fun j v hj => by simp at hj⟩)⟩
    · cases h
  | str s =>
    simp only [srcE] at h
    split at h
    · rename_i hu
      split at h
      · rename_i hs1
        have hs1' : i.size = 1 := by simpa using hs1
        cases h
        refine ⟨Lib.strCells s, .ofInts _ fun v hv => ?_, by rw [Lib.strCells_length, hs1', Nat.mul_one], appOf_str ht hu hi hz hs1' s⟩
        simp only [Lib.strCells, List.mem_map] at hv
        obtain ⟨b, _, rfl⟩ := hv
        rfl
      · cases h
    · cases h
  | _ => cases h
def loose (S : St) (E sz : Nat) (l : List Value) : St := S.new (.cells (ofL l) l.length E sz false true)
def growE (S : St) (E sz k off n c m : Nat) (news : List Value) : Option St :=
  match S.H.get k with
  | some (.cells cs N T sz' ex app) =>
    if decide (off + n * sz ≤ N) && decide (S.n < S.hi) && decide (k < Tr.top) && decide ((n + m) * sz ≤ Tr.top) then
      match getN cs off (n * sz) with
      | some olds => if ex then some (loose S E sz (olds ++ news))
        else if app && off + c * sz == N && sz' == sz && T == E && decide (n ≤ c) then some (loose ⟨S.H.set k none, S.n, S.hi⟩ E sz (olds ++ news)) else none
      | none => none
    else none
  | _ => none
def appendE (P : Program) (S : St) (t u : TypeId) (x y : Value) : Option (Value × St) :=
  match P.underlying t with
  | some (.slice E) => match P.info? E with
    | some i => match i.zero with
      | some z => if z.cells.size == i.size && decide (0 < i.size) && decide (i.bytes ≤ 4096) then
        match srcE P S t u i.size y with
        | some (m, news) => if allOne news && decide (news.length = m * i.size) then
          match x with
          | .slice p n c =>
            if m = 0 then (if n ≤ c then some (x, S) else none)
            else if n + m < 2147483648 then
              match p with
              | none => if n == 0 && c == 0 && decide (S.n < S.hi) && decide (m * i.size ≤ Tr.top) then some (mkSl S.n m, loose S E i.size news) else none
              | some ⟨k, off, none⟩ => if Tr.top ≤ k then none else
                if n + m ≤ c then (match laid S k (off + n * i.size) news with | some S1 => some (.slice (some ⟨k, off, none⟩) (n + m) c, S1) | none => none)
                else (match growE S E i.size k off n c m news with | some S1 => some (mkSl S.n (n + m), S1) | none => none)
              | _ => none
            else none
          | _ => none
          else none
        | none => none
        else none
      | none => none
    | none => none
  | _ => none
theorem loose_ok (hR : Rel θ S w) (hn : S.n < S.hi) {E sz m cap : Nat} {l l' : List Value} {rest : Array Value} (hl : VRl θ l l') (h1 : allOne l = true) (ht : l.length ≤ Tr.top) (hlen : l.length = m * sz) (hcap : m ≤ cap) (hrest : rest.size = (cap - m) * sz) :
    ∃ θ1, Step θ S w θ1 (loose S E sz l) (w.drew.alloc (.cells (l'.toArray ++ rest) E)) ∧ VR θ1 (mkSl S.n m) (.slice (some ⟨w.heap.size, 0, none⟩) m cap) := by
  have hR' : Rel θ S w.drew := hR.of_heap rfl
  have hst := new_cells (ex := false) (slk := cap - m) (sz := sz) hR' hn (T := E) (c' := l'.toArray ++ rest) hl h1 ht (fun j v hj => by
    rw [Array.getElem?_append_left (by simpa using (List.getElem?_eq_some_iff.1 hj).1)]; simpa using hj) (fun h => by cases h) (by
      simp only [Array.size_append, List.size_toArray, hrest, ← hl.1]; omega)
  refine ⟨_, (Step.drew hR).trans hst, ?_⟩
  have := VR.mkSl (n := m) (ext_same θ S.n ⟨w.heap.size, 0, cap - m, sz⟩)
  rw [show m + (cap - m) = cap from by omega] at this
  exact this
theorem allOne_append {l m : List Value} (h : allOne l = true) (k : allOne m = true) : allOne (l ++ m) = true := by
  induction l with
  | nil => exact k
  | cons v l ih =>
    simp only [allOne_cons, Bool.and_eq_true, List.cons_append] at h ⊢
    exact ⟨h.1, ih h.2⟩
theorem allOne_of : ∀ {l : List Value}, (∀ v ∈ l, v.oneCell' = true) → allOne l = true := by
  intro l
  induction l with
  | nil => intro _; rfl
  | cons v l ih => intro h; simp only [allOne_cons, Bool.and_eq_true]; exact ⟨h v (by simp), ih fun u hu => h u (by simp [hu])⟩
theorem appendE_ok (hR : Rel θ S w) {t u ty : TypeId} {x x' y y' v : Value} {S1 : St} (hx : VR θ x x') (hy : VR θ y y') (h : appendE P S t u x y = some (v, S1)) :
    ∃ θ1 w1 v', (Builtin.append_ #[t, u] ty #[x', y']).run P w = .ok v' w1 ∧ Step θ S w θ1 S1 w1 ∧ VR θ1 v v' := by
  unfold appendE at h
  split at h
  · rename_i E hu
    split at h
    · rename_i i hi
      split at h
      · rename_i z hz
        split at h
        · rename_i hc0
          simp only [Bool.and_eq_true, beq_iff_eq, decide_eq_true_eq] at hc0
          obtain ⟨⟨hzs, hpos⟩, hby⟩ := hc0
          split at h
          · rename_i m news hsrc
            split at h
            · rename_i hc1
              simp only [Bool.and_eq_true, decide_eq_true_eq] at hc1
              obtain ⟨hone, hlen⟩ := hc1
              obtain ⟨news', hvr, hlen', hA⟩ := srcE_ok (y := ty) hR hu hi hz hy hsrc
              have hroom : ∀ n, n + m < 2147483648 → ((n + m) + (n + m) / 4 + 192) * i.bytes ≤ 281474976710656 := fun n hn =>
                Nat.le_trans (Nat.mul_le_mul (show (n + m) + (n + m) / 4 + 192 ≤ 2684354752 by omega) hby) (by decide)
              split at h
              · rename_i p n c
                split at h
                · rename_i hm
                  split at h
                  · rename_i hnc
                    cases h
                    cases hx with
                    | nils => exact ⟨θ, w, _, hA.zero hm _ _ _ (Nat.le_refl _), .refl hR, .nils⟩
                    | sl off _ _ hk => exact ⟨θ, w, _, hA.zero hm _ _ _ (by omega), .refl hR, .sl off n c hk⟩
                    | empt q c2 => exact ⟨θ, w, _, hA.zero hm _ _ _ (Nat.zero_le _), .refl hR, .empt q c2⟩
                  · cases h
                · rename_i hm
                  split at h
                  · rename_i hsmall
                    split at h
                    · split at h
                      · rename_i hc2
                        simp only [Bool.and_eq_true, beq_iff_eq, decide_eq_true_eq] at hc2
                        obtain ⟨⟨⟨rfl, rfl⟩, hn⟩, htop⟩ := hc2
                        cases h
                        cases hx
                        have hr := hroom 0 (by omega)
                        have hrun := hA.nil (by omega) (by omega) (Nat.le_trans (Nat.mul_le_mul_right _ (by simp; omega)) hr)
                        obtain ⟨θ1, h1, h2⟩ := loose_ok (E := E) (sz := i.size) (m := m) (cap := grownCap w m 0 E) (rest := Builtin.zeroCells z.cells (grownCap w m 0 E - m)) hR hn hvr hone (by omega) hlen (grownCap_ge _ _ _ _) (by rw [size_zeroCells, hzs])
                        exact ⟨θ1, _, _, hrun, h1, h2⟩
                      · cases h
                    · rename_i k off
                      split at h
                      · cases h
                      rename_i hktop
                      cases hx with
                      | empt q c2 => exact absurd (Nat.le_refl _) hktop
                      | sl _ _ _ hk =>
                        rename_i A
                        split at h
                        · rename_i hfit
                          split at h
                          · rename_i S2 hl
                            cases h
                            obtain ⟨w1, h1, h2⟩ := laid_ok (P := P) hR hk hvr hl
                            exact ⟨θ, w1, _, hA.room _ _ _ _ _ (by omega) (by rw [Nat.add_assoc]; exact h1), h2, .sl off (n + m) c hk⟩
                          · cases h
                        · rename_i hfit
                          split at h
                          · rename_i S2 hgr
                            cases h
                            unfold growE at hgr
                            split at hgr
                            · rename_i cs NN T sz' ex app hg
                              split at hgr
                              · rename_i hc2
                                simp only [Bool.and_eq_true, decide_eq_true_eq] at hc2
                                obtain ⟨⟨⟨hold, hn⟩, hlim⟩, htop⟩ := hc2
                                obtain ⟨o', hb1, c', fz, rfl, hC⟩ := hR.at hg hk
                                split at hgr
                                · rename_i olds hol
                                  obtain ⟨olds', b1, b2, b3, b4⟩ := getN_real hC hol hold
                                  have holen := (getN_spec _ hol).1
                                  have hall : allOne (olds ++ news) = true := allOne_append (allOne_of b4) hone
                                  have hlen2 : (olds ++ news).length = (n + m) * i.size := by rw [List.length_append, holen, hlen, Nat.add_mul]
                                  -- the row grows: a new one
                                  have hgrow : ∀ {S0 : St}, Rel θ S0 w → S0.n = S.n → S0.hi = S.hi → c + A.slk < n + m → ∃ θ1 w1 v', (Builtin.append_ #[t, u] ty #[.slice (some ⟨A.b, A.base + off, none⟩) n (c + A.slk), y']).run P w = .ok v' w1 ∧ Step θ S0 w θ1 (loose S0 E i.size (olds ++ news)) w1 ∧ VR θ1 (mkSl S.n (n + m)) v' := fun {S0} hR0 hS0 hS0h hlt => by
                                    have hrun := hA.grow ⟨A.b, A.base + off, none⟩ n (c + A.slk) olds' b1 (fun j v hj => by rw [add_off, cell_at hb1]; exact b2 j v hj) hlt (by omega) (growslice_fits_wide (by omega) (hroom n (by omega)))
                                    obtain ⟨θ1, h1, h2⟩ := loose_ok (E := E) (sz := i.size) (m := n + m) (cap := grownCap w (n + m) (c + A.slk) E) (rest := Builtin.zeroCells z.cells (grownCap w (n + m) (c + A.slk) E - (n + m))) hR0 (by rw [hS0, hS0h]; exact hn) (b3.append hvr) hall (by omega) hlen2 (grownCap_ge _ _ _ _) (by rw [size_zeroCells, hzs])
                                    have e : (olds' ++ news').toArray = olds'.toArray ++ news'.toArray := by simp
                                    rw [e] at h1
                                    rw [hS0] at h2
                                    exact ⟨θ1, _, _, hrun, h1, h2⟩
                                  split at hgr
                                  · rename_i hex
                                    cases hgr
                                    have h0 := hC.ex hex
                                    exact hgrow hR rfl rfl (by omega)
                                  · split at hgr
                                    · rename_i hc3
                                      simp only [Bool.and_eq_true, beq_iff_eq, decide_eq_true_eq] at hc3
                                      obtain ⟨⟨⟨⟨happ, hoff⟩, rfl⟩, rfl⟩, hnc⟩ := hc3
                                      cases hgr
                                      by_cases hrm : n + m ≤ c + A.slk
                                      · -- there is room
                                        have hCapp := hC.app happ
                                        have hAs := hC.sz
                                        rw [hAs] at hCapp
                                        have hmul : (n + m) * i.size ≤ c * i.size + A.slk * i.size := by rw [← Nat.add_mul]; exact Nat.mul_le_mul_right _ hrm
                                        rw [Nat.add_mul] at hmul
                                        obtain ⟨c2, s1, s2, s3⟩ := run_storeC P A.b (A.base + off + n * i.size) T fz news' 0 c' w hb1 hC.fz (by rw [hlen']; omega) (hvr.one (allOne_spec hone))
                                        have hrun := hA.room A.b (A.base + off) n (c + A.slk) _ hrm s1
                                        have hmul2 : (c + A.slk - (n + m)) * i.size = c * i.size + A.slk * i.size - (n * i.size + m * i.size) := by rw [Nat.sub_mul, Nat.add_mul, Nat.add_mul]
                                        have hmv := Step.move (cs2 := ofL (olds ++ news)) (n2 := (olds ++ news).length) (sz2 := i.size) (ex2 := false) (app2 := true) (A2 := ⟨A.b, A.base + off, c + A.slk - (n + m), i.size⟩) (c2 := c2) hR hn hlim hg hk hb1 s2 (fun j hj => by
                                          rw [s3 j, if_neg (by simp only [hiOf, happ, if_true, hAs] at hj; rw [hlen']; omega)]) rfl (Nat.le_add_right _ _) (by
                                            simp only [hiOf, happ, if_true, hAs, hlen2, hmul2, Nat.add_mul]; omega) ⟨rfl, by simp only [hlen2, s2, Nat.add_mul]; omega, fun j hj => ?_, (fun h => by cases h), fun _ => by
                                              simp only [hlen2, s2, hmul2, Nat.add_mul]; omega, by rw [s2]; exact hC.fz⟩
                                        · refine ⟨_, _, _, hrun, hmv, ?_⟩
                                          have := VR.sl (θ := ext θ S.n ⟨A.b, A.base + off, c + A.slk - (n + m), i.size⟩) 0 (n + m) (n + m) (ext_same _ _ _)
                                          simp only [Nat.add_zero] at this
                                          rw [show n + m + (c + A.slk - (n + m)) = c + A.slk from by omega] at this
                                          exact this
                                        · simp only []
                                          rw [ofL_get _ _ (by omega), s3]
                                          by_cases hj2 : j < n * i.size
                                          · rw [List.getElem?_append_left (by omega), if_neg (by omega)]
                                            have hjl : j < olds.length := by omega
                                            have hjl' : j < olds'.length := by omega
                                            refine ⟨olds[j], olds'[j], List.getElem?_eq_getElem hjl, b2 j _ (List.getElem?_eq_getElem hjl'), b3.2 j _ _ (List.getElem?_eq_getElem hjl) (List.getElem?_eq_getElem hjl'), b4 _ (List.getElem_mem hjl)⟩
                                          · rw [List.getElem?_append_right (by omega), if_pos (by rw [hlen2, Nat.add_mul] at hj; rw [hlen']; omega)]
                                            have e : A.base + off + j - (A.base + off + n * i.size + 0) = j - olds.length := by omega
                                            rw [e]
                                            have hjl : j - olds.length < news.length := by rw [List.length_append] at hj; omega
                                            have hjl' : j - olds.length < news'.length := by rw [← hvr.1]; exact hjl
                                            exact ⟨news[j - olds.length], news'[j - olds.length], List.getElem?_eq_getElem hjl, List.getElem?_eq_getElem hjl', hvr.2 _ _ _ (List.getElem?_eq_getElem hjl) (List.getElem?_eq_getElem hjl'), allOne_spec hone _ (List.getElem_mem hjl)⟩
                                      · have hless : Step θ S w θ ⟨S.H.set k none, S.n, S.hi⟩ w := Step.less hR fun j x hx => by
                                          by_cases e : j = k
                                          · subst e; rw [Tr.set_same _ _ _ hlim] at hx; cases hx
                                          · rw [Tr.set_other _ _ _ _ e] at hx; exact hx
                                        obtain ⟨θ1, w1, v', h1, h2, h3⟩ := hgrow hless.rel rfl rfl (by omega)
                                        exact ⟨θ1, w1, v', h1, hless.trans h2, h3⟩
                                    · cases hgr
                                · cases hgr
                              · cases hgr
                            · cases hgr
                          · cases h
                    · cases h
                  · cases h
              · cases h
            · cases h
          · cases h
        · cases h
      · cases h
    · cases h
  · cases h
def copyE (P : Program) (S : St) (t : TypeId) (d s : Value) : Option (Value × St) :=
  match P.underlying t with
  | some (.slice E) => match pureRun P (sizeOf E) with
    | some sz => match d, s with
      | .slice pd nd cd, .slice ps ns c2 =>
        if min ns nd = 0 then some (goInt 0, S)
        else match pd, ps with
          | some ⟨kd, od, none⟩, some ⟨ks, os, none⟩ => if Tr.top ≤ kd ∨ Tr.top ≤ ks then none else match S.H.get ks with
            | some (.cells cs N _ _ _ _) => if os + min ns nd * sz ≤ N then
                match getN cs os (min ns nd * sz) with
                | some l => match laid S kd od l with
                  | some S1 => some (goInt ((min ns nd : Nat) : Int), S1)
                  | none => none
                | none => none
              else none
            | _ => none
          | _, _ => none
      | _, _ => none
    | none => none
  | _ => none
theorem run_copy {t u ty E sz nd cd ns c2 : Nat} {pd ps : Option Addr} {cells : List Value} {w1 : World} (hu : P.underlying t = some (.slice E)) (hsz : pureRun P (sizeOf E) = some sz)
    (hf : (Builtin.firstCells sz (min ns nd) (.slice ps ns c2)).run P w = .ok cells.toArray w) (hs : ∀ a, pd = some a → (storeCells a cells).run P w = .ok () w1) (hn : pd = none → w1 = w) :
    (Builtin.copy_ #[t, u] ty #[.slice pd nd cd, .slice ps ns c2]).run P w = .ok (goInt (min ns nd : Nat)) w1 := by
  have hmin : Nat.min ns nd = min ns nd := rfl
  cases pd with
  | none =>
    rw [hn rfl]
    simp only [Builtin.copy_, List.getElem?_toArray, List.getElem?_cons_zero, List.getElem?_cons_succ]
    simp [run_underlying hu, Builtin.lenOf, pureRun_run _ hsz w, hmin, hf]
  | some a =>
    simp only [Builtin.copy_, List.getElem?_toArray, List.getElem?_cons_zero, List.getElem?_cons_succ]
    simp [run_underlying hu, Builtin.lenOf, pureRun_run _ hsz w, hmin, hf, hs a rfl]
theorem copyE_ok (hR : Rel θ S w) {t u ty : TypeId} {x x' y y' v : Value} {S1 : St} (hx : VR θ x x') (hy : VR θ y y') (h : copyE P S t x y = some (v, S1)) :
    ∃ w1, (Builtin.copy_ #[t, u] ty #[x', y']).run P w = .ok v w1 ∧ Step θ S w θ S1 w1 ∧ VR θ v v := by
  unfold copyE at h
  split at h
  · rename_i E hu
    split at h
    · rename_i sz hsz
      split at h
      · rename_i pd nd cd ps ns c2
        split at h
        · rename_i h0
          cases h
          refine ⟨w, ?_, .refl hR, .int _ _⟩
          have hf : ∀ q n' c', (Builtin.firstCells sz (min ns nd) (.slice q n' c')).run P w = .ok ([] : List Value).toArray w := fun q n' c' => by
            rw [h0]
            cases q <;> simp [Builtin.firstCells, loadCells, loadCellsFrom]
          have hg : ∀ pd cd ps c2, (Builtin.copy_ #[t, u] ty #[.slice pd nd cd, .slice ps ns c2]).run P w = .ok (goInt 0) w := fun pd cd ps c2 => by
            have := run_copy (P := P) (w := w) (w1 := w) (u := u) (ty := ty) (pd := pd) (cd := cd) hu hsz (hf ps ns c2) (fun a _ => by simp [storeCells]) (fun _ => rfl)
            rw [h0] at this
            exact this
          cases hx <;> cases hy <;> exact hg _ _ _ _
        · rename_i h0
          split at h
          · rename_i kd od ks os
            split at h
            · cases h
            rename_i hkt
            split at h
            · rename_i cs NN T sz' ex app hg
              split at h
              · rename_i hfit
                split at h
                · rename_i l hl
                  split at h
                  · rename_i S2 hla
                    cases h
                    cases hx with
                    | empt q c2 => exact absurd (.inl (Nat.le_refl _)) hkt
                    | sl _ _ _ hkd =>
                      rename_i D
                      cases hy with
                      | empt q c2 => exact absurd (.inr (Nat.le_refl _)) hkt
                      | sl _ _ _ hks =>
                        rename_i A
                        obtain ⟨o', hb1, c', fz, rfl, hC⟩ := hR.at hg hks
                        obtain ⟨l', b1, b2, b3, b4⟩ := getN_real hC hl hfit
                        obtain ⟨w1, h1, h2⟩ := laid_ok (P := P) hR hkd b3 hla
                        refine ⟨w1, ?_, h2, .int _ _⟩
                        have hf := run_firstCells_some (P := P) w sz (min ns nd) ⟨A.b, A.base + os, none⟩ ns (c2 + A.slk) l' b1 (fun j v hj => by rw [add_off, cell_at hb1]; exact b2 j v hj)
                        exact run_copy (P := P) (u := u) (ty := ty) (pd := some ⟨D.b, D.base + od, none⟩) hu hsz hf (fun a ha => by simp only [Option.some.injEq] at ha; rw [← ha]; exact h1) (fun h => by cases h)
                  · cases h
                · cases h
              · cases h
            · cases h
          · cases h
      · cases h
    · cases h
  · cases h
def ints8 : List Value → Option (List Int)
  | [] => some []
  | .int .u8 n :: l => match ints8 l with
    | some ns => some (n :: ns)
    | none => none
  | _ :: _ => none
theorem ints8_eq : ∀ {l : List Value} {ns : List Int}, ints8 l = some ns → l = ns.map (Value.int .u8) := by
  intro l
  induction l with
  | nil => intro ns h; cases h; rfl
  | cons v l ih =>
    intro ns h
    cases v with
    | int kd n =>
      cases kd <;> simp only [ints8] at h <;> try cases h
      split at h
      · rename_i ms hms
        cases h
        rw [ih hms]; rfl
      · cases h
    | _ => simp only [ints8] at h; cases h
def convE (P : Program) (S : St) (src dst : TypeId) (x : Value) : Option (Value × St) :=
  match x with
  | .string s => match P.underlying src with
    | some _ => match P.underlying dst with
      | some (.slice e) => match P.underlying e with
        | some (.int .u8) => if decide (S.n < S.hi) && decide (s.size ≤ Tr.top) then some (mkSl S.n s.size, loose S e 1 (Lib.strCells s)) else none
        | _ => none
      | _ => none
    | none => none
  | .slice (some ⟨k, off, none⟩) n c => if Tr.top ≤ k then (if n = 0 ∧ c = 0 then match P.underlying src with
    | some (.slice e) => match P.underlying e with
      | some (.int .u8) => match P.underlying dst with
        | some .string => some (.string (strOfNums []), S)
        | _ => none
      | _ => none
    | _ => none else none) else match P.underlying src with
    | some (.slice e) => match P.underlying e with
      | some (.int .u8) => match P.underlying dst with
        | some .string => match S.H.get k with
          | some (.cells cs N _ _ _ _) => if off + n ≤ N then
              match getN cs off n with
              | some l => match ints8 l with
                | some ns => some (.string (strOfNums ns), S)
                | none => none
              | none => none
            else none
          | _ => none
        | _ => none
      | _ => none
    | _ => none
  | _ => none
theorem convE_ok (hR : Rel θ S w) {src dst : TypeId} {x x' v : Value} {S1 : St} (hx : VR θ x x') (h : convE P S src dst x = some (v, S1)) :
    ∃ θ1 w1 v', (convert src dst x').run P w = .ok v' w1 ∧ Step θ S w θ1 S1 w1 ∧ VR θ1 v v' := by
  have hempt : ∀ (q : Addr) (c : Nat), (match P.underlying src with
      | some (.slice e) => match P.underlying e with
        | some (.int .u8) => match P.underlying dst with
          | some .string => some (Value.string (strOfNums []), S)
          | _ => none
        | _ => none
      | _ => none) = some (v, S1) → ∃ θ1 w1 v', (convert src dst (.slice (some q) 0 c)).run P w = .ok v' w1 ∧ Step θ S w θ1 S1 w1 ∧ VR θ1 v v' := fun q c h => by
    split at h
    · rename_i e hs
      split at h
      · rename_i he
        split at h
        · rename_i hd
          cases h
          exact ⟨θ, w, _, run_convert_bytes_string w src dst e _ _ _ hs he hd ▸ run_bytesToString w _ _ _ [] rfl, .refl hR, .str _⟩
        · cases h
      · cases h
    · cases h
  cases hx with
  | str s =>
    simp only [convE] at h
    split at h
    · rename_i d hs
      split at h
      · rename_i e hd
        split at h
        · rename_i he
          split at h
          · rename_i hc
            simp only [Bool.and_eq_true, decide_eq_true_eq] at hc
            cases h
            have hge := grownCap_ge w s.size 0 e
            have hbs : (Lib.bytesCells w e s).size = grownCap w s.size 0 e := by
              simp only [Lib.bytesCells, Array.size_append, Array.size_map, Array.size_replicate]
              show s.size + (grownCap w s.size 0 e - s.size) = _
              omega
            have hcl : ∀ (j : Nat) (v : Value), (Lib.strCells s)[j]? = some v → (Lib.bytesCells w e s)[j]? = some v := fun j v hj => by
              have hlt := (List.getElem?_eq_some_iff.1 hj).1
              rw [Lib.strCells_length] at hlt
              simp only [Lib.bytesCells]
              rw [Array.getElem?_append_left (by simpa using hlt)]
              simpa [Lib.strCells] using hj
            have hvr : VRl θ (Lib.strCells s) (Lib.strCells s) := .ofInts _ fun v hv => by
              simp only [Lib.strCells, List.mem_map] at hv
              obtain ⟨b, _, rfl⟩ := hv
              rfl
            refine ⟨_, _, _, Lib.run_convert_string_bytes w src dst e s hs hd he, Step.fresh (A := ⟨w.heap.size, 0, grownCap w s.size 0 e - s.size, 1⟩) hR hc.1 rfl ⟨_, _, rfl, rfl, ?_, fun j hj => ?_, (fun h => by cases h), fun _ => ?_, fun j hj hf => ?_⟩ (Lib.bytesWorld_at_new w e s) (Lib.bytesWorld_at_old w e s) (by rw [Lib.bytesWorld_size]; omega) rfl rfl rfl, ?_⟩
            · simp only [Lib.strCells_length, hbs]; omega
            · have hj' : j < (Lib.strCells s).length := hj
              rw [ofL_get _ _ (by rw [Lib.strCells_length]; exact hc.2)]
              refine ⟨_, _, List.getElem?_eq_getElem hj', ?_, (hvr.2 j _ _ (List.getElem?_eq_getElem hj') (List.getElem?_eq_getElem hj')).mono (ext_le _ _ _ (hR.none hc.1)), Lib.strCells_oneCell s _ (List.getElem_mem hj')⟩
              simp only [Nat.zero_add]
              exact hcl j _ (List.getElem?_eq_getElem hj')
            · simp only [Lib.strCells_length, hbs]; omega
            · simp only at hf; omega
            · have := VR.mkSl (n := s.size) (ext_same θ S.n ⟨w.heap.size, 0, grownCap w s.size 0 e - s.size, 1⟩)
              rw [show s.size + (grownCap w s.size 0 e - s.size) = grownCap w s.size 0 e from by omega] at this
              exact this
          · cases h
        · cases h
      · cases h
    · cases h
  | sl off n c hk =>
    rename_i k A
    simp only [convE] at h
    split at h
    · split at h
      · rename_i hn
        obtain ⟨rfl, rfl⟩ := hn
        exact hempt _ _ h
      · cases h
    split at h
    · rename_i e hs
      split at h
      · rename_i he
        split at h
        · rename_i hd
          split at h
          · rename_i cs NN T sz ex app hg
            split at h
            · rename_i hfit
              split at h
              · rename_i l hl
                split at h
                · rename_i ns hns
                  cases h
                  obtain ⟨o', hb1, c', fz, rfl, hC⟩ := hR.at hg hk
                  obtain ⟨l', b1, b2, b3, b4⟩ := getN_real hC hl hfit
                  have hll := ints8_eq hns
                  have hnl : ns.length = n := by
                    have := (getN_spec _ hl).1
                    rw [hll] at this; simpa using this
                  refine ⟨θ, w, _, run_convert_bytes_arg w src e hs he A.b (A.base + off) n (c + A.slk) ns hnl (fun i hi => ?_) dst hd, .refl hR, .str _⟩
                  have hi' : i < l.length := by rw [hll]; simp; omega
                  have hi2 : i < l'.length := by omega
                  have hv := b3.2 i l[i] l'[i] (List.getElem?_eq_getElem hi') (List.getElem?_eq_getElem hi2)
                  have hli : l[i] = .int .u8 ns[i] := by simp [hll]
                  rw [hli] at hv
                  have e1 := nr0_eq (v := .int .u8 ns[i]) rfl hv
                  rw [cell_at hb1, b2 i _ (List.getElem?_eq_getElem hi2), e1]
                  simp [List.getD, List.getElem?_eq_getElem (show i < ns.length by omega)]
                · cases h
              · cases h
            · cases h
          · cases h
        · cases h
      · cases h
    · cases h
  | empt q c =>
    simp only [convE, Nat.le_refl, if_true, and_self] at h
    exact hempt _ _ h
  | _ => cases h
def lenE (P : Program) (S : St) (t : TypeId) (x : Value) : Option Value :=
  match P.underlying t with
  | some (.slice _) => match x with
    | .slice _ n _ => some (goInt n)
    | _ => none
  | some (.map _ _) => match x with
    | .map (some k) => match S.H.get k with
      | some (.map es _) => some (goInt es.length)
      | _ => none
    | _ => none
  | _ => none
theorem lenE_ok (hR : Rel θ S w) {t ty : TypeId} {x x' v : Value} (hx : VR θ x x') (h : lenE P S t x = some v) : (Builtin.len_ #[t] ty #[x']).run P w = .ok v w ∧ VR θ v v := by
  unfold lenE at h
  split at h
  · rename_i E hu
    split at h
    · cases h
      refine ⟨?_, .int _ _⟩
      cases hx <;> simp [Builtin.len_, run_underlying hu]
    · cases h
  · rename_i K V hu
    split at h
    · rename_i k
      cases hx with
      | map hk =>
        split at h
        · rename_i es clk hg
          cases h
          obtain ⟨o', h1, es', rfl, hE⟩ := hR.at hg hk
          refine ⟨?_, .int _ _⟩
          simp [Builtin.len_, run_underlying hu, MapKept.run_getObj_map h1, hE.1]
        · cases h
    · cases h
  · cases h
end
end
end Go.Ce
set_option linter.unusedVariables false
namespace Go.Ce
open Go Go.Cf
noncomputable section
abbrev En := Value × Value × Nat
def keyEq : Value → Value → Bool
  | .int k a, .int k' b => decide (k = k') && decide (a = b)
  | .string a, .string b => decide (a = b)
  | .bool a, .bool b => a == b
  | _, _ => false
theorem keyEq_eq {a b : Value} (h : keyEq a b = true) : a = b := by
  cases a <;> cases b <;> simp [keyEq] at h
  · rw [h]
  · rw [h.1, h.2]
  · rw [h]
def isKeyB : TypeDesc → Value → Bool
  | .bool, .bool _ => true
  | .int k, .int k' _ => decide (k' = k)
  | .string, .string _ => true
  | _, _ => false
theorem isKeyB_ok {d : TypeDesc} {v : Value} (h : isKeyB d v = true) : MapKept.IsKey d v := by
  cases d <;> cases v <;> simp_all [isKeyB, MapKept.IsKey]
theorem isKeyB_nr {d : TypeDesc} {v : Value} (h : isKeyB d v = true) : nr v = true := by
  cases d <;> cases v <;> simp_all [isKeyB, nr, nr1, nr0]
/-- the entry of a key -/
def findE (d : TypeDesc) (k : Value) : List En → Nat → Option (Option (Nat × Value))
  | [], _ => some none
  | e :: es, i => if nr e.1 then match Instr.sameNow d k e.1 with
    | some true => if keyEq e.1 k then some (some (i, e.2.1)) else none
    | some false => findE d k es (i + 1)
    | none => none
    else none
section
variable {P : Program} {θ : Th} {S : St} {w : World} {N : Nat} {L : Tr Value} {a : Act} {o : Oper}
theorem ER.cons {x : En} {y : MapEntry} {l : List En} {m : List MapEntry} (h : ER θ (x :: l) (y :: m)) : (VR θ x.1 y.key ∧ VR θ x.2.1 y.val ∧ y.born = x.2.2) ∧ ER θ l m :=
  ⟨h.2 0 x y rfl rfl, by simpa using h.1, fun i x' y' h1 h2 => h.2 (i + 1) x' y' (by simpa using h1) (by simpa using h2)⟩
theorem ER.mk {x : En} {y : MapEntry} {l : List En} {m : List MapEntry} (h1 : VR θ x.1 y.key) (h2 : VR θ x.2.1 y.val) (h3 : y.born = x.2.2) (h : ER θ l m) : ER θ (x :: l) (y :: m) :=
  ⟨by simp [h.1], fun i x' y' a b => by
    cases i with
    | zero => simp at a b; subst a b; exact ⟨h1, h2, h3⟩
    | succ i => exact h.2 i x' y' (by simpa using a) (by simpa using b)⟩
theorem ER.nil : ER θ [] [] := ⟨rfl, fun i x y h => by simp at h⟩
theorem ER.set {l : List En} {m : List MapEntry} (h : ER θ l m) (i : Nat) {x : En} {y : MapEntry} (h1 : VR θ x.1 y.key) (h2 : VR θ x.2.1 y.val) (h3 : y.born = x.2.2) : ER θ (l.set i x) (m.set i y) :=
  ⟨by simp [h.1], fun j x' y' a b => by
    rw [List.getElem?_set] at a b
    by_cases e : i = j
    · rw [if_pos e] at a b
      split at a <;> split at b <;> simp at a b
      subst a b; exact ⟨h1, h2, h3⟩
    · rw [if_neg e] at a b; exact h.2 j x' y' a b⟩
theorem ER.push {l : List En} {m : List MapEntry} (h : ER θ l m) {x : En} {y : MapEntry} (h1 : VR θ x.1 y.key) (h2 : VR θ x.2.1 y.val) (h3 : y.born = x.2.2) : ER θ (l ++ [x]) (m ++ [y]) :=
  ⟨by simp [h.1], fun j x' y' a b => by
    rw [List.getElem?_append] at a b
    rw [← h.1] at b
    split at a
    · rename_i hj; rw [if_pos hj] at b; exact h.2 j x' y' a b
    · rename_i hj
      rw [if_neg hj] at b
      cases hk : j - l.length with
      | zero => rw [hk] at a b; simp at a b; subst a b; exact ⟨h1, h2, h3⟩
      | succ n => rw [hk] at a; simp at a⟩
theorem ER.get {l : List En} {m : List MapEntry} (h : ER θ l m) {i : Nat} {x : En} (hx : l[i]? = some x) : ∃ y, m[i]? = some y ∧ VR θ x.1 y.key ∧ VR θ x.2.1 y.val ∧ y.born = x.2.2 := by
  have hlt := (List.getElem?_eq_some_iff.1 hx).1
  have h2 : i < m.length := by rw [← h.1]; exact hlt
  exact ⟨m[i], List.getElem?_eq_getElem h2, h.2 i x _ hx (List.getElem?_eq_getElem h2)⟩
/-- what is found is found -/
theorem findE_ok {d : TypeDesc} {k : Value} : ∀ {es : List En} {es' : List MapEntry} {i : Nat} {r : Option (Nat × Value)}, ER θ es es' → findE d k es i = some r →
    match r with
    | none => Instr.findNow d k es' i = some none
    | some (j, v) => i ≤ j ∧ ∃ e v', es[j - i]? = some (k, v, e) ∧ Instr.findNow d k es' i = some (some (j, v')) ∧ VR θ v v' ∧ ∃ y, es'[j - i]? = some y ∧ y.key = k ∧ y.val = v' := by
  intro es
  induction es with
  | nil =>
    intro es' i r hE h
    cases h
    cases es' with
    | nil => rfl
    | cons _ _ => exact absurd hE.1 (by simp)
  | cons e es ih =>
    intro es' i r hE h
    cases es' with
    | nil => exact absurd hE.1 (by simp)
    | cons e' es' =>
      obtain ⟨⟨h1, h2, h3⟩, hE⟩ := hE.cons
      simp only [findE] at h
      split at h
      · rename_i hn
        have hk := nr_eq hn h1
        split at h
        · rename_i hs
          split at h
          · rename_i hke
            cases h
            have hek := keyEq_eq hke
            refine ⟨Nat.le_refl _, e.2.2, e'.val, ?_, ?_, h2, e', by simp, by rw [hk, hek], rfl⟩
            · obtain ⟨e1, e2, e3⟩ := e
              simp only at hek
              simp [hek]
            · simp only [Instr.findNow, hk, hs]
          · cases h
        · rename_i hs
          have := ih hE h
          have hf : Instr.findNow d k (e' :: es') i = Instr.findNow d k es' (i + 1) := by simp only [Instr.findNow, hk, hs]
          rw [hf]
          cases r with
          | none => exact this
          | some jv =>
            obtain ⟨j, v⟩ := jv
            obtain ⟨hj, e0, v', a1, a2, a3, y, a4, a5, a6⟩ := this
            have e1 : j - i = (j - (i + 1)) + 1 := by omega
            exact ⟨by omega, e0, v', by rw [e1]; simpa using a1, a2, a3, y, by rw [e1]; simpa using a4, a5, a6⟩
        · cases h
      · cases h
def mapAt (S : St) (k : Nat) : Option (List En × Nat) :=
  match S.H.get k with
  | some (.map es clk) => some (es, clk)
  | _ => none
theorem mapAt_ok (hR : Rel θ S w) {k : Nat} {A : Ad} {es : List En} {clk : Nat} (hA : θ k = some A) (h : mapAt S k = some (es, clk)) : S.H.get k = some (.map es clk) ∧ ∃ es', w.heap[A.b]? = some (.map es' clk) ∧ ER θ es es'.toList := by
  unfold mapAt at h
  split at h
  · rename_i es0 c0 hg
    cases h
    obtain ⟨o', h1, es', rfl, hE⟩ := hR.at hg hA
    exact ⟨hg, es', h1, hE⟩
  · cases h
def makeMapE (S : St) : Option (Value × St) := if S.n < S.hi then some (.map (some S.n), S.new (.map [] 0)) else none
theorem makeMapE_ok (hR : Rel θ S w) {t : TypeId} {v : Value} {S1 : St} (h : makeMapE S = some (v, S1)) : ∃ θ1 w1 v', (Instr.makeMap t none).run P w = .ok v' w1 ∧ Step θ S w θ1 S1 w1 ∧ VR θ1 v v' := by
  unfold makeMapE at h
  split at h
  · rename_i hn
    cases h
    refine ⟨_, w.alloc (.map #[] 0), .map (some w.heap.size), ?_, Step.alloc (A := ⟨w.heap.size, 0, 0, 0⟩) hR hn rfl ⟨#[], rfl, .nil⟩, .map (A := ⟨w.heap.size, 0, 0, 0⟩) (ext_same _ _ _)⟩
    simp [Instr.makeMap, newObj]
    rfl
  · cases h
def lookupE (P : Program) (S : St) (t : TypeId) (m k : Value) (ok : Bool) : Option Value :=
  match P.underlying t with
  | some (.map KT E) => match P.underlying KT with
    | some d => if isKeyB d k then match pureRun P (zeroValue E) with
      | some z => if nr z then
          match (match m with | .map none => some ([], 0) | .map (some r) => mapAt S r | _ => none) with
          | some (es, _) => match findE d k es 0 with
            | some none => some (if ok then .tuple #[z, .bool false] else z)
            | some (some (_, v)) => some (if ok then .tuple #[v, .bool true] else v)
            | none => none
          | none => none
        else none
      | none => none
      else none
    | none => none
  | _ => none
theorem VR.pair {v v' : Value} (h : VR θ v v') (b : Bool) : VR θ (.tuple #[v, .bool b]) (.tuple #[v', .bool b]) := VRl.mkTup (l := [v, .bool b]) (l' := [v', .bool b]) (.cons h (.cons (.bool b) (.nil θ)))
theorem lookupE_ok (hR : Rel θ S w) {t : TypeId} {m m' k k' v : Value} {ok : Bool} (hm : VR θ m m') (hk : VR θ k k') (h : lookupE P S t m k ok = some v) : ∃ v', (Instr.lookup t m' k' ok).run P w = .ok v' w ∧ VR θ v v' := by
  unfold lookupE at h
  split at h
  · rename_i KT E ht
    split at h
    · rename_i d hd
      split at h
      · rename_i hkey
        have := (nr_eq (isKeyB_nr hkey) hk).symm
        subst this
        split at h
        · rename_i z hz
          split at h
          · rename_i hnz
            have hzr := nr_refl θ hnz
            have hz' := pureRun_run _ hz w
            split at h
            · rename_i es clk hes
              have hreal : ∃ es' : Array MapEntry, ER θ es es'.toList ∧ ((m' = .map none ∧ es' = #[]) ∨ ∃ b, m' = .map (some b) ∧ w.heap[b]? = some (.map es' clk)) := by
                cases hm with
                | nilm => simp at hes; obtain ⟨rfl, rfl⟩ := hes; exact ⟨#[], .nil, .inl ⟨rfl, rfl⟩⟩
                | map hA =>
                  obtain ⟨_, es', h1, h2⟩ := mapAt_ok hR hA hes
                  exact ⟨es', h2, .inr ⟨_, rfl, h1⟩⟩
                | _ => simp at hes
              obtain ⟨es', hE, hm'⟩ := hreal
              split at h
              · rename_i hf
                have hfn := findE_ok hE hf
                simp only at hfn
                cases h
                refine ⟨if ok then .tuple #[z, .bool false] else z, ?_, by cases ok; exact hzr; exact hzr.pair false⟩
                rcases hm' with ⟨rfl, rfl⟩ | ⟨b, rfl, hb⟩
                · have hfn0 : Instr.findNow d k [] 0 = some none := rfl
                  cases ok <;> simp [Instr.lookup, run_underlying ht, MapKept.run_checkKey hd (isKeyB_ok hkey), MapKept.run_findKey hd hfn0, hz', Result.andThen]
                · cases ok <;> simp [Instr.lookup, run_underlying ht, MapKept.run_getObj_map hb, MapKept.run_checkKey hd (isKeyB_ok hkey), MapKept.run_findKey hd hfn, hz', Result.andThen]
              · rename_i j v0 hf
                have hfn := findE_ok hE hf
                simp only at hfn
                obtain ⟨_, e0, v', a1, a2, a3, y, a4, a5, a6⟩ := hfn
                cases h
                refine ⟨if ok then .tuple #[v', .bool true] else v', ?_, by cases ok; exact a3; exact a3.pair true⟩
                rcases hm' with ⟨rfl, rfl⟩ | ⟨b, rfl, hb⟩
                · simp at a4
                · cases ok <;> simp [Instr.lookup, run_underlying ht, MapKept.run_getObj_map hb, MapKept.run_checkKey hd (isKeyB_ok hkey), MapKept.run_findKey hd a2, Result.andThen]
              · cases h
            · cases h
          · cases h
        · cases h
      · cases h
    · cases h
  · cases h
theorem modL {es : Array MapEntry} {j : Nat} {e : MapEntry} (h : es.toList[j]? = some e) (f : MapEntry → MapEntry) : (es.modify j f).toList = es.toList.set j (f e) := by
  apply List.ext_getElem?
  intro i
  rw [Array.getElem?_toList, Array.getElem?_modify, List.getElem?_set]
  by_cases q : j = i
  · subst q
    have h' : es[j]? = some e := by simpa using h
    obtain ⟨h1, h2⟩ := Array.getElem?_eq_some_iff.1 h'
    simp [h1, h2]
  · simp [q]
def setMap (S : St) (k : Nat) (es : List En) (clk : Nat) : Option St := if k < Tr.top then some ⟨S.H.set k (some (.map es clk)), S.n, S.hi⟩ else none
theorem setMap_ok (hR : Rel θ S w) {k : Nat} {A : Ad} {es es2 : List En} {es2' : Array MapEntry} {clk clk2 : Nat} {S1 : St} (hA : θ k = some A) (hg : S.H.get k = some (.map es clk)) (hE : ER θ es2 es2'.toList) (h : setMap S k es2 clk2 = some S1) :
    Step θ S w θ S1 { w with heap := w.heap.setIfInBounds A.b (.map es2' clk2) } := by
  unfold setMap at h
  split at h
  · rename_i hk
    cases h
    exact Step.obj (o' := .map #[] 0) hR hk hg hA rfl rfl ⟨es2', rfl, hE⟩
  · cases h
def mapUpdE (P : Program) (S : St) (t : TypeId) (m k v : Value) : Option St :=
  match P.underlying t with
  | some (.map KT E) => match P.underlying KT with
    | some d => if isKeyB d k then match m with
      | .map (some r) => match mapAt S r with
        | some (es, clk) => match findE d k es 0 with
          | some none => setMap S r (es ++ [(k, v, clk)]) (clk + 1)
          | some (some (i, _)) => match es[i]? with
            | some e => setMap S r (es.set i (k, v, e.2.2)) clk
            | none => none
          | none => none
        | none => none
      | _ => none
      else none
    | none => none
  | _ => none
theorem mapUpdE_ok (hR : Rel θ S w) {t : TypeId} {m m' k k' v v' : Value} {S1 : St} (hm : VR θ m m') (hk : VR θ k k') (hv : VR θ v v') (h : mapUpdE P S t m k v = some S1) : ∃ w1, (Instr.mapUpdate t m' k' v').run P w = .ok () w1 ∧ Step θ S w θ S1 w1 := by
  unfold mapUpdE at h
  split at h
  · rename_i KT E ht
    split at h
    · rename_i d hd
      split at h
      · rename_i hkey
        have := (nr_eq (isKeyB_nr hkey) hk).symm
        subst this
        split at h
        · rename_i r
          cases hm with
          | map hA =>
            rename_i A
            split at h
            · rename_i es clk hes
              obtain ⟨hg, es', hb, hE⟩ := mapAt_ok hR hA hes
              split at h
              · rename_i hf
                have hfn := findE_ok hE hf
                simp only at hfn
                have hE2 : ER θ (es ++ [(k, v, clk)]) (es'.push ⟨k, v', clk⟩).toList := by rw [Array.toList_push]; exact hE.push hk hv rfl
                refine ⟨_, ?_, setMap_ok hR hA hg hE2 h⟩
                simp [Instr.mapUpdate, run_underlying ht, MapKept.run_getObj_map hb, MapKept.run_checkKey hd (isKeyB_ok hkey), MapKept.run_findKey hd hfn, MapKept.run_setObj_map _ hb, Result.andThen]
              · rename_i i v0 hf
                have hfn := findE_ok hE hf
                simp only at hfn
                obtain ⟨_, e0, v1, a1, a2, a3, y, a4, a5, a6⟩ := hfn
                simp only [Nat.sub_zero] at a1 a4
                split at h
                · rename_i e hei
                  rw [a1] at hei; cases hei
                  have hj : es'[i]? = some y := by simpa using a4
                  obtain ⟨_, _, _, hborn⟩ := hE.get a1
                  have hyb : y.born = e0 := by
                    obtain ⟨y2, b1, _, _, b4⟩ := hE.get a1
                    rw [a4] at b1; cases b1; exact b4
                  have hmod : (es'.modify i fun e => { e with key := k, val := v' }).toList = es'.toList.set i ⟨k, v', e0⟩ := by
                    rw [modL a4]; simp [hyb]
                  have hE2 : ER θ (es.set i (k, v, e0)) (es'.modify i fun e => { e with key := k, val := v' }).toList := by rw [hmod]; exact hE.set i hk hv rfl
                  refine ⟨_, ?_, setMap_ok hR hA hg hE2 h⟩
                  simp [Instr.mapUpdate, run_underlying ht, MapKept.run_getObj_map hb, MapKept.run_checkKey hd (isKeyB_ok hkey), MapKept.run_findKey hd a2, hj, a5, MapKept.run_keyThatStays (isKeyB_ok hkey), MapKept.run_setObj_map _ hb, Result.andThen]
                · cases h
              · cases h
            · cases h
        · cases h
      · cases h
    · cases h
  · cases h
def mapEntryE (P : Program) (S : St) (t : TypeId) (m k : Value) : Option (Value × St) :=
  match P.underlying t with
  | some (.map KT E) => match P.underlying KT with
    | some d => if isKeyB d k then match m with
      | .map (some r) => match mapAt S r with
        | some (es, clk) => match findE d k es 0 with
          | some none => match pureRun P (zeroValue E) with
            | some z => if nr z then (match setMap S r (es ++ [(k, z, clk)]) (clk + 1) with | some S1 => some (.tuple #[z, goInt clk], S1) | none => none) else none
            | none => none
          | some (some (i, v)) => match es[i]? with
            | some e => match setMap S r (es.set i (k, v, e.2.2)) clk with
              | some S1 => some (.tuple #[v, goInt e.2.2], S1)
              | none => none
            | none => none
          | none => none
        | none => none
      | _ => none
      else none
    | none => none
  | _ => none
theorem VR.pairI {v v' : Value} (h : VR θ v v') (n : Int) : VR θ (.tuple #[v, goInt n]) (.tuple #[v', goInt n]) := VRl.mkTup (l := [v, goInt n]) (l' := [v', goInt n]) (.cons h (.cons (.int _ n) (.nil θ)))
theorem mapEntryE_ok (hR : Rel θ S w) {t : TypeId} {m m' k k' v : Value} {S1 : St} (hm : VR θ m m') (hk : VR θ k k') (h : mapEntryE P S t m k = some (v, S1)) : ∃ w1 v', (Instr.mapEntry t m' k').run P w = .ok v' w1 ∧ Step θ S w θ S1 w1 ∧ VR θ v v' := by
  unfold mapEntryE at h
  split at h
  · rename_i KT E ht
    split at h
    · rename_i d hd
      split at h
      · rename_i hkey
        have := (nr_eq (isKeyB_nr hkey) hk).symm
        subst this
        split at h
        · rename_i r
          cases hm with
          | map hA =>
            rename_i A
            split at h
            · rename_i es clk hes
              obtain ⟨hg, es', hb, hE⟩ := mapAt_ok hR hA hes
              split at h
              · rename_i hf
                have hfn := findE_ok hE hf
                simp only at hfn
                split at h
                · rename_i z hz
                  split at h
                  · rename_i hnz
                    split at h
                    · rename_i S2 hs
                      cases h
                      have hzr := nr_refl θ hnz
                      have hE2 : ER θ (es ++ [(k, z, clk)]) (es'.push ⟨k, z, clk⟩).toList := by rw [Array.toList_push]; exact hE.push hk hzr rfl
                      refine ⟨_, _, ?_, setMap_ok hR hA hg hE2 hs, hzr.pairI clk⟩
                      simp [Instr.mapEntry, run_underlying ht, MapKept.run_getObj_map hb, MapKept.run_checkKey hd (isKeyB_ok hkey), MapKept.run_findKey hd hfn, pureRun_run _ hz w, MapKept.run_setObj_map _ hb, Result.andThen]
                    · cases h
                  · cases h
                · cases h
              · rename_i i v0 hf
                have hfn := findE_ok hE hf
                simp only at hfn
                obtain ⟨_, e0, v1, a1, a2, a3, y, a4, a5, a6⟩ := hfn
                simp only [Nat.sub_zero] at a1 a4
                split at h
                · rename_i e hei
                  rw [a1] at hei; cases hei
                  split at h
                  · rename_i S2 hs
                    cases h
                    have hj : es'[i]? = some y := by simpa using a4
                    have hyb : y.born = e0 := by
                      obtain ⟨y2, b1, _, _, b4⟩ := hE.get a1
                      rw [a4] at b1; cases b1; exact b4
                    have hmod : (es'.modify i fun e => { e with key := k }).toList = es'.toList.set i ⟨k, v1, e0⟩ := by
                      rw [modL a4]; simp [hyb, a6]
                    have hE2 : ER θ (es.set i (k, v0, e0)) (es'.modify i fun e => { e with key := k }).toList := by rw [hmod]; exact hE.set i hk a3 rfl
                    refine ⟨_, _, ?_, setMap_ok hR hA hg hE2 hs, a3.pairI e0⟩
                    simp [Instr.mapEntry, run_underlying ht, MapKept.run_getObj_map hb, MapKept.run_checkKey hd (isKeyB_ok hkey), MapKept.run_findKey hd a2, hj, a5, hyb, MapKept.run_keyThatStays (isKeyB_ok hkey), MapKept.run_setObj_map _ hb, Result.andThen]
                  · cases h
                · cases h
              · cases h
            · cases h
        · cases h
      · cases h
    · cases h
  · cases h
/-- the entry that was born then -/
def bornAt (es : List En) (b : Int) : Nat → Option (Nat × En)
  | i => match es with
    | [] => none
    | e :: es => if (e.2.2 : Int) = b then some (i, e) else bornAt es b (i + 1)
theorem bornAt_ok {b : Int} : ∀ {es : List En} {es' : List MapEntry} {i j : Nat} {e : En}, ER θ es es' → bornAt es b i = some (j, e) → i ≤ j ∧ es[j - i]? = some e ∧ (es'.findIdx? fun x => (x.born : Int) == b) = some (j - i) ∧ ∃ y, es'[j - i]? = some y ∧ VR θ e.1 y.key ∧ VR θ e.2.1 y.val ∧ y.born = e.2.2 ∧ es'.find? (fun x => (x.born : Int) == b) = some y := by
  intro es
  induction es with
  | nil => intro es' i j e _ h; unfold bornAt at h; cases h
  | cons x es ih =>
    intro es' i j e hE h
    cases es' with
    | nil => exact absurd hE.1 (by simp)
    | cons x' es' =>
      obtain ⟨⟨h1, h2, h3⟩, hE⟩ := hE.cons
      unfold bornAt at h
      simp only at h
      split at h
      · rename_i hb
        cases h
        have hb' : ((x'.born : Int) == b) = true := by rw [h3]; simpa using hb
        exact ⟨Nat.le_refl _, by simp, by simp [List.findIdx?_cons, hb'], x', by simp, h1, h2, h3, by simp [hb']⟩
      · rename_i hb
        have hb' : ((x'.born : Int) == b) = false := by rw [h3]; simpa using hb
        obtain ⟨a1, a2, a3, y, a4, a5, a6, a7, a8⟩ := ih hE h
        have e1 : j - i = (j - (i + 1)) + 1 := by omega
        exact ⟨by omega, by rw [e1]; simpa using a2, by rw [e1]; simp [List.findIdx?_cons, hb', a3], y, by rw [e1]; simpa using a4, a5, a6, a7, by simp [hb', a8]⟩
def entryStoreE (S : St) (m st v : Value) : Option St :=
  match m, st with
  | .map (some r), .int _ b => match mapAt S r with
    | some (es, clk) => match bornAt es b 0 with
      | some (i, e) => setMap S r (es.set i (e.1, v, e.2.2)) clk
      | none => none
    | none => none
  | _, _ => none
theorem entryStoreE_ok (hR : Rel θ S w) {t : TypeId} {m m' st st' v v' : Value} {S1 : St} (hm : VR θ m m') (hs : VR θ st st') (hv : VR θ v v') (h : entryStoreE S m st v = some S1) : ∃ w1, (Instr.entryStore t m' st' v').run P w = .ok () w1 ∧ Step θ S w θ S1 w1 := by
  unfold entryStoreE at h
  split at h
  · rename_i r kd b
    cases hm with
    | map hA =>
      rename_i A
      cases hs
      split at h
      · rename_i es clk hes
        obtain ⟨hg, es', hb, hE⟩ := mapAt_ok hR hA hes
        split at h
        · rename_i i e hbo
          obtain ⟨_, a2, a3, y, a4, a5, a6, a7, _⟩ := bornAt_ok hE hbo
          simp only [Nat.sub_zero] at a2 a3 a4
          have hmod : (es'.modify i fun e => { e with val := v' }).toList = es'.toList.set i ⟨y.key, v', e.2.2⟩ := by
            rw [modL a4]; simp [a7]
          have hE2 : ER θ (es.set i (e.1, v, e.2.2)) (es'.modify i fun e => { e with val := v' }).toList := by rw [hmod]; exact hE.set i a5 hv rfl
          have hfi : es'.findIdx? (fun e => (e.born : Int) == b) = some i := by cases es'; simpa using a3
          refine ⟨_, ?_, setMap_ok hR hA hg hE2 h⟩
          simp [Instr.entryStore, MapKept.run_getObj_map hb, asInt, asIntOf, hfi, MapKept.run_setObj_map _ hb, Result.andThen]
        · cases h
      · cases h
  · cases h
def deleteE (P : Program) (S : St) (t : TypeId) (m k : Value) : Option St :=
  match P.underlying t with
  | some (.map KT E) => match P.underlying KT with
    | some d => if isKeyB d k then match m with
      | .map (some r) => match mapAt S r with
        | some (es, clk) => match findE d k es 0 with
          | some none => setMap S r es clk
          | some (some (i, _)) => setMap S r (es.eraseIdx i) clk
          | none => none
        | none => none
      | .map none => some S
      | _ => none
      else none
    | none => none
  | _ => none
theorem ER.erase {l : List En} {m : List MapEntry} (h : ER θ l m) (i : Nat) : ER θ (l.eraseIdx i) (m.eraseIdx i) :=
  ⟨by simp [List.length_eraseIdx, h.1], fun j x y a b => by
    rw [List.getElem?_eraseIdx] at a b
    split at a
    · rename_i hj; rw [if_pos hj] at b; exact h.2 j x y a b
    · rename_i hj; rw [if_neg hj] at b; exact h.2 _ x y a b⟩
theorem deleteE_ok (hR : Rel θ S w) {t u ty : TypeId} {m m' k k' : Value} {S1 : St} (hm : VR θ m m') (hk : VR θ k k') (h : deleteE P S t m k = some S1) : ∃ w1, (Builtin.delete_ #[t, u] ty #[m', k']).run P w = .ok (.tuple #[]) w1 ∧ Step θ S w θ S1 w1 := by
  unfold deleteE at h
  split at h
  · rename_i KT E ht
    split at h
    · rename_i d hd
      split at h
      · rename_i hkey
        have := (nr_eq (isKeyB_nr hkey) hk).symm
        subst this
        split at h
        · rename_i r
          cases hm with
          | map hA =>
            rename_i A
            split at h
            · rename_i es clk hes
              obtain ⟨hg, es', hb, hE⟩ := mapAt_ok hR hA hes
              split at h
              · rename_i hf
                have hfn := findE_ok hE hf
                simp only at hfn
                refine ⟨_, ?_, setMap_ok hR hA hg hE h⟩
                simp [Builtin.delete_, run_underlying ht, MapKept.run_getObj_map hb, MapKept.run_checkKey hd (isKeyB_ok hkey), MapKept.run_findKey hd hfn, MapKept.run_setObj_map _ hb, Result.andThen]
              · rename_i i v0 hf
                have hfn := findE_ok hE hf
                simp only at hfn
                obtain ⟨_, e0, v1, a1, a2, a3, y, a4, a5, a6⟩ := hfn
                have hlist : (es'.eraseIdxIfInBounds i).toList = es'.toList.eraseIdx i := by
                  unfold Array.eraseIdxIfInBounds
                  split
                  · simp
                  · rename_i hge
                    rw [List.eraseIdx_of_length_le (by simpa using hge)]
                have hE2 : ER θ (es.eraseIdx i) (es'.eraseIdxIfInBounds i).toList := by rw [hlist]; exact hE.erase i
                refine ⟨_, ?_, setMap_ok hR hA hg hE2 h⟩
                simp [Builtin.delete_, run_underlying ht, MapKept.run_getObj_map hb, MapKept.run_checkKey hd (isKeyB_ok hkey), MapKept.run_findKey hd a2, MapKept.run_setObj_map _ hb, Result.andThen]
              · cases h
            · cases h
        · cases h
          cases hm
          refine ⟨w, ?_, .refl hR⟩
          simp [Builtin.delete_, run_underlying ht, MapKept.run_checkKey hd (isKeyB_ok hkey), Result.andThen]
        · cases h
      · cases h
    · cases h
  · cases h
def clearE (P : Program) (S : St) (t : TypeId) (m : Value) : Option St :=
  match P.underlying t with
  | some (.map _ _) => match m with
    | .map none => some S
    | .map (some r) => match mapAt S r with
      | some (_, clk) => setMap S r [] clk
      | none => none
    | _ => none
  | _ => none
theorem clearE_ok (hR : Rel θ S w) {t ty : TypeId} {m m' : Value} {S1 : St} (hm : VR θ m m') (h : clearE P S t m = some S1) : ∃ w1, (Builtin.clear_ #[t] ty #[m']).run P w = .ok (.tuple #[]) w1 ∧ Step θ S w θ S1 w1 := by
  unfold clearE at h
  split at h
  · rename_i K E ht
    split at h
    · cases h
      cases hm
      exact ⟨w, by simp [Builtin.clear_, run_underlying ht], .refl hR⟩
    · rename_i r
      cases hm with
      | map hA =>
        split at h
        · rename_i es clk hes
          obtain ⟨hg, es', hb, hE⟩ := mapAt_ok hR hA hes
          refine ⟨_, ?_, setMap_ok (es2' := #[]) hR hA hg .nil h⟩
          simp [Builtin.clear_, run_underlying ht, MapKept.run_getObj_map hb, MapKept.run_setObj_map _ hb, Result.andThen]
        · cases h
    · cases h
  · cases h
def rangeE (P : Program) (S : St) (t : TypeId) (m : Value) : Option (Value × St) :=
  match P.underlying t with
  | some (.map _ _) => if S.n < S.hi then match m with
    | .map none => some (.pointer (some ⟨S.n, 0, none⟩), S.new (.miter none 0 [] 0))
    | .map (some r) => match mapAt S r with
      | some (_, clk) => some (.pointer (some ⟨S.n, 0, none⟩), S.new (.miter (some r) clk [] clk))
      | none => none
    | _ => none
    else none
  | _ => none
theorem rangeE_ok (hR : Rel θ S w) {t : TypeId} {m m' v : Value} {S1 : St} (hm : VR θ m m') (h : rangeE P S t m = some (v, S1)) : ∃ θ1 w1 v', (Instr.range t m').run P w = .ok v' w1 ∧ Step θ S w θ1 S1 w1 ∧ VR θ1 v v' := by
  unfold rangeE at h
  split at h
  · rename_i K E ht
    split at h
    · rename_i hn
      split at h
      · cases h
        cases hm
        refine ⟨_, w.alloc (.mapIter none 0 #[] 0), .pointer (some ⟨w.heap.size, 0, none⟩), ?_, Step.alloc (A := ⟨w.heap.size, 0, 0, 0⟩) hR hn rfl ⟨none, rfl, rfl, rfl⟩, .ptr (A := ⟨w.heap.size, 0, 0, 0⟩) 0 (ext_same _ _ _)⟩
        simp [Instr.range, run_underlying ht, newObj]
        rfl
      · rename_i r
        cases hm with
        | map hA =>
          rename_i A
          split at h
          · rename_i es clk hes
            cases h
            obtain ⟨hg, es', hb, hE⟩ := mapAt_ok hR hA hes
            refine ⟨_, w.alloc (.mapIter (some A.b) clk #[] clk), .pointer (some ⟨w.heap.size, 0, none⟩), ?_, Step.alloc (A := ⟨w.heap.size, 0, 0, 0⟩) hR hn rfl ⟨some A.b, rfl, rfl, A, ext_le _ _ _ (hR.none hn) _ _ hA, rfl⟩, .ptr (A := ⟨w.heap.size, 0, 0, 0⟩) 0 (ext_same _ _ _)⟩
            simp [Instr.range, run_underlying ht, MapKept.run_getObj_map hb, newObj]
            rfl
          · cases h
      · cases h
    · cases h
  · cases h
def noneSeen (es : List En) (seen : List Nat) : List En := es.filter fun e => !seen.contains e.2.2
/-- the next entry, where there is but one left, or none -/
def nextE (S : St) (it : Value) : Option (Value × St) :=
  match it with
  | .pointer (some ⟨r, 0, none⟩) => match S.H.get r with
    | some (.miter none _ _ _) => some (.tuple #[.bool false], S)
    | some (.miter (some m) since seen last) => match mapAt S m with
      | some (es, clk) =>
        if !seen.isEmpty && !es.isEmpty && es.all (fun e => e.2.2 ≥ last) then none else
        match noneSeen es seen with
        | [] => some (.tuple #[.bool false], S)
        | [e] => if e.2.2 < since && decide (r < Tr.top) then some (.tuple #[.bool true, e.1, e.2.1], ⟨S.H.set r (some (.miter (some m) since (seen ++ [e.2.2]) clk)), S.n, S.hi⟩) else none
        | _ => none
      | none => none
    | _ => none
  | _ => none
theorem ER.filter (p : Nat → Bool) : ∀ {l : List En} {m : List MapEntry}, ER θ l m → ER θ (l.filter fun e => p e.2.2) (m.filter fun e => p e.born) := by
  intro l
  induction l with
  | nil => intro m h; cases m with
    | nil => exact .nil
    | cons _ _ => exact absurd h.1 (by simp)
  | cons x l ih =>
    intro m h
    cases m with
    | nil => exact absurd h.1 (by simp)
    | cons y m =>
      obtain ⟨⟨h1, h2, h3⟩, hE⟩ := h.cons
      simp only [List.filter_cons, h3]
      split
      · exact .mk h1 h2 h3 (ih hE)
      · exact ih hE
theorem ER.all (p : Nat → Bool) : ∀ {l : List En} {m : List MapEntry}, ER θ l m → (l.all fun e => p e.2.2) = m.all fun e => p e.born := by
  intro l
  induction l with
  | nil => intro m h; cases m with
    | nil => rfl
    | cons _ _ => exact absurd h.1 (by simp)
  | cons x l ih =>
    intro m h
    cases m with
    | nil => exact absurd h.1 (by simp)
    | cons y m =>
      obtain ⟨⟨h1, h2, h3⟩, hE⟩ := h.cons
      simp only [List.all_cons, h3, ih hE]
theorem run_getObj {r : Nat} {x : Obj} (h : w.heap[r]? = some x) (hx : ∀ c t f, x ≠ .cells c t f) : (getObj r).run P w = .ok x w := by
  cases x <;> first | (simp [getObj, Sem.run, h]; done) | exact absurd rfl (hx _ _ _)
theorem run_setObj {r : Nat} {x y : Obj} (h : w.heap[r]? = some x) (hx : ∀ c t f, x ≠ .cells c t f) : (setObj r y).run P w = .ok () { w with heap := w.heap.setIfInBounds r y } := by
  cases x <;> first | (simp [setObj, Sem.run, h]; done) | exact absurd rfl (hx _ _ _)
theorem nextE_ok (hR : Rel θ S w) {t : TypeId} {it it' v : Value} {S1 : St} (hi : VR θ it it') (h : nextE S it = some (v, S1)) : ∃ w1 v', (Instr.next it' false t).run P w = .ok v' w1 ∧ Step θ S w θ S1 w1 ∧ VR θ v v' := by
  have hover : VR θ (.tuple #[.bool false]) (.tuple #[.bool false]) := nr_refl θ rfl
  unfold nextE at h
  split at h
  · rename_i r
    cases hi with
    | ptr _ hA =>
      rename_i A
      split at h
      · rename_i since seen last hg
        cases h
        obtain ⟨o', h1, m', h0, rfl, hm⟩ := hR.at hg hA
        simp only at hm
        subst hm
        refine ⟨w, _, ?_, .refl hR, hover⟩
        have hgo := run_getObj (P := P) h1 (fun c t f h => by cases h)
        simp [Instr.next, h0, hgo]
      · rename_i m since seen last hg
        obtain ⟨o', h1, m', h0, rfl, B, hB, rfl⟩ := hR.at hg hA
        have hgo := run_getObj (P := P) h1 (fun c t f h => by cases h)
        split at h
        · rename_i es clk hes
          obtain ⟨hgm, es', hb, hE⟩ := mapAt_ok hR hB hes
          split at h
          · cases h
          · rename_i hcond
            have hcond' : (!seen.toArray.isEmpty && !es'.isEmpty && es'.all (fun e => decide (e.born ≥ last))) = false := by
              rw [Bool.eq_false_iff]
              intro hc
              apply hcond
              simp only [Bool.and_eq_true] at hc ⊢
              refine ⟨⟨?_, ?_⟩, ?_⟩
              · have := hc.1.1
                cases seen <;> simp_all
              · have h2 := hc.1.2
                cases es with
                | nil =>
                  have h3 : es'.toList = [] := List.eq_nil_of_length_eq_zero (by rw [← hE.1]; rfl)
                  have : es' = #[] := by apply Array.ext'; simpa using h3
                  simp [this] at h2
                | cons _ _ => rfl
              · rw [hE.all (fun b => decide (b ≥ last))]
                have := hc.2
                rwa [← Array.all_toList] at this
            have hleft : ER θ (noneSeen es seen) (es'.filter fun e => !seen.toArray.contains e.born).toList := by
              rw [Array.toList_filter]
              have := hE.filter fun b => !seen.contains b
              simpa [noneSeen] using this
            split at h
            · rename_i hn
              cases h
              have hl : es'.filter (fun e => !seen.toArray.contains e.born) = #[] := by
                apply Array.ext'
                rw [hn] at hleft
                simpa using List.eq_nil_of_length_eq_zero hleft.1.symm
              refine ⟨w, _, ?_, .refl hR, hover⟩
              simp only [Instr.next, h0, Nat.zero_add]
              simp only [Sem.run_bind, hgo, Result.andThen, MapKept.run_getObj_map hb]
              rw [if_neg (by rw [hcond']; decide), hl]
              simp [choose, Sem.run, Question.forced]
            · rename_i e hn
              split at h
              · rename_i hs
                simp only [Bool.and_eq_true, decide_eq_true_eq] at hs
                cases h
                rw [hn] at hleft
                have hlen := hleft.1
                obtain ⟨y, hl⟩ : ∃ y, (es'.filter fun e => !seen.toArray.contains e.born).toList = [y] := by
                  match hq : (es'.filter fun e => !seen.toArray.contains e.born).toList with
                  | [y] => exact ⟨y, hq⟩
                  | [] => rw [hq] at hlen; simp at hlen
                  | _ :: _ :: _ => rw [hq] at hlen; simp at hlen
                rw [hl] at hleft
                obtain ⟨⟨e1, e2, e3⟩, _⟩ := hleft.cons
                have hl' : es'.filter (fun e => !seen.toArray.contains e.born) = #[y] := by apply Array.ext'; simpa using hl
                have hob : Step θ S w θ ⟨S.H.set r (some (.miter (some m) since (seen ++ [e.2.2]) clk)), S.n, S.hi⟩ { w with heap := w.heap.setIfInBounds A.b (.mapIter (some B.b) since (seen.toArray.push y.born) clk) } :=
                  Step.obj (o' := .map #[] 0) hR hs.2 hg hA rfl rfl ⟨some B.b, h0, by rw [e3]; simp, B, hB, rfl⟩
                refine ⟨_, .tuple #[.bool true, y.key, y.val], ?_, hob, VRl.mkTup (l := [.bool true, e.1, e.2.1]) (l' := [.bool true, y.key, y.val]) (.cons (.bool true) (.cons e1 (.cons e2 (.nil θ))))⟩
                have hlt : y.born < since := by rw [e3]; exact hs.1
                have hnl : ¬ (since ≤ y.born) := by omega
                have hso := run_setObj (P := P) (y := .mapIter (some B.b) since (seen.toArray.push y.born) clk) h1 (fun c t f h => by cases h)
                simp only [Instr.next, h0, Nat.zero_add]
                simp only [Sem.run_bind, hgo, Result.andThen, MapKept.run_getObj_map hb]
                rw [if_neg (by rw [hcond']; decide), hl']
                have f1 : (#[y].filter fun x => decide (x.born < since)) = #[y] := by simp [hlt]
                have f2 : (#[y].filter fun x => decide (x.born ≥ since)) = #[] := by simp [hlt]
                simp only [f1, f2]
                simp [choose, Sem.run, Question.forced, Result.andThen]
                rw [List.push_toArray] at hso
                rw [hso]
              · cases h
            · cases h
        · cases h
      · cases h
    | _ => cases h
  · cases h
def lastOf : List Nat → Option Nat
  | [] => none
  | [x] => some x
  | _ :: y :: l => lastOf (y :: l)
theorem lastOf_eq : ∀ l : List Nat, l.toArray.back? = lastOf l := by
  intro l
  rw [List.back?_toArray]
  induction l with
  | nil => rfl
  | cons x l ih =>
    cases l with
    | nil => rfl
    | cons y l => simp only [lastOf, ← ih, List.getLast?_cons_cons]
def entryE (S : St) (it : Value) : Option Value :=
  match it with
  | .pointer (some ⟨r, 0, none⟩) => match S.H.get r with
    | some (.miter (some m) _ seen stepped) => match lastOf seen with
      | some b => match mapAt S m with
        | some (es, clk) => if clk = stepped then (match bornAt es b 0 with | some (_, e) => some (.tuple #[e.1, e.2.1]) | none => none) else none
        | none => none
      | none => none
    | _ => none
  | _ => none
theorem entryE_ok (hR : Rel θ S w) {it it' v : Value} (hi : VR θ it it') (h : entryE S it = some v) : ∃ v', (Instr.entry it').run P w = .ok v' w ∧ VR θ v v' := by
  unfold entryE at h
  split at h
  · rename_i r
    cases hi with
    | ptr _ hA =>
      rename_i A
      split at h
      · rename_i m since seen stepped hg
        obtain ⟨o', h1, m', h0, rfl, B, hB, rfl⟩ := hR.at hg hA
        have hgo := run_getObj (P := P) h1 (fun c t f h => by cases h)
        split at h
        · rename_i b hlast
          split at h
          · rename_i es clk hes
            obtain ⟨hgm, es', hb, hE⟩ := mapAt_ok hR hB hes
            split at h
            · rename_i hclk
              split at h
              · rename_i i e hbo
                cases h
                obtain ⟨_, _, _, y, _, a5, a6, _, a8⟩ := bornAt_ok hE hbo
                have hfind : es'.find? (fun x => x.born == b) = some y := by
                  rw [← Array.find?_toList]
                  rw [← a8]
                  congr 1
                  funext x
                  rw [Bool.eq_iff_iff]; simp only [beq_iff_eq]; omega
                refine ⟨.tuple #[y.key, y.val], ?_, VRl.mkTup (l := [e.1, e.2.1]) (l' := [y.key, y.val]) (.cons a5 (.cons a6 (.nil θ)))⟩
                subst hclk
                have hbk : seen.toArray.back? = some b := by rw [lastOf_eq]; exact hlast
                simp [Instr.entry, h0, hgo, hbk, MapKept.run_getObj_map hb, hfind, Result.andThen]
              · cases h
            · cases h
          · cases h
        · cases h
      · cases h
    | _ => cases h
  · cases h
end
end
end Go.Ce
set_option linter.unusedVariables false
namespace Go.Ce
open Go Go.Cf
noncomputable section
section
variable {P : Program} {θ : Th} {S : St} {w : World} {N : Nat} {L : Tr Value} {a : Act} {o : Oper}
/-- is a Go function with a body called by this number? -/
def fnOk (P : Program) (g : FuncId) : Bool :=
  match P.funcs[g]? with
  | some fn => fn.name != "runtime.NumGoroutine" && fn.body.isSome
  | none => false
theorem callFunc_ok {g : FuncId} (h : fnOk P g = true) (args : Array Value) (w : World) : (callFunc g args).run P w = .ok (.enter g args) w := by
  unfold fnOk at h
  split at h
  · rename_i fn hf
    simp only [Bool.and_eq_true, bne_iff_ne, ne_eq] at h
    obtain ⟨h1, h2⟩ := h
    obtain ⟨c, hc⟩ := Option.isSome_iff_exists.1 h2
    simp [callFunc, hf, h1, hc]
  · cases h
/-- a reference: of what kind, and whether it is not nil -/
def nk : Value → Option (Nat × Bool)
  | .pointer a => some (0, a.isSome)
  | .slice a _ _ => some (1, a.isSome)
  | .map a => some (2, a.isSome)
  | .func _ _ _ => some (3, true)
  | .nilFunc => some (3, false)
  | _ => none
theorem VR.nk {x x' : Value} (h : VR θ x x') : Ce.nk x' = Ce.nk x := by cases h <;> first | rfl | (unfold dec; split <;> rfl)
def tk : TypeDesc → Option Nat
  | .pointer _ => some 0
  | .slice _ => some 1
  | .map _ _ => some 2
  | .func _ _ _ => some 3
  | _ => none
/-- one of them is nil, the other one is not -/
def eqNil (P : Program) (t : TypeId) (x y : Value) : Bool :=
  match P.underlying t with
  | some d => match tk d, nk x, nk y with
    | some k, some (i, b), some (j, c) => k == i && k == j && (b != c)
    | _, _, _ => false
  | none => false
theorem nk0 {x : Value} {b : Bool} (h : nk x = some (0, b)) : ∃ a : Option Addr, x = .pointer a ∧ a.isSome = b := by
  cases x <;> simp [nk] at h
  exact ⟨_, rfl, h⟩
theorem nk1 {x : Value} {b : Bool} (h : nk x = some (1, b)) : ∃ (a : Option Addr) (n c : Nat), x = .slice a n c ∧ a.isSome = b := by
  cases x <;> simp [nk] at h
  exact ⟨_, _, _, rfl, h⟩
theorem nk2 {x : Value} {b : Bool} (h : nk x = some (2, b)) : ∃ a : Option Nat, x = .map a ∧ a.isSome = b := by
  cases x <;> simp [nk] at h
  exact ⟨_, rfl, h⟩
theorem nk3 {x : Value} {b : Bool} (h : nk x = some (3, b)) : (b = true ∧ ∃ f u v, x = .func f u v) ∨ (b = false ∧ x = .nilFunc) := by
  cases x <;> simp [nk] at h
  · exact .inl ⟨h, _, _, _, rfl⟩
  · exact .inr ⟨h, rfl⟩
/-- two references, of which one is nil -/
def NilPair (d : TypeDesc) (x y : Value) : Prop :=
  (∃ e a, d = .pointer e ∧ ((x = .pointer (some a) ∧ y = .pointer none) ∨ (x = .pointer none ∧ y = .pointer (some a)))) ∨
  (∃ e a n c m k, d = .slice e ∧ ((x = .slice (some a) n c ∧ y = .slice none m k) ∨ (x = .slice none m k ∧ y = .slice (some a) n c))) ∨
  (∃ e f a, d = .map e f ∧ ((x = .map (some a) ∧ y = .map none) ∨ (x = .map none ∧ y = .map (some a)))) ∨
  (∃ e f g p q r, d = .func e f g ∧ ((x = .func p q r ∧ y = .nilFunc) ∨ (x = .nilFunc ∧ y = .func p q r)))
theorem eqNil_pair {t : TypeId} {x y : Value} (h : eqNil P t x y = true) : ∃ d, P.underlying t = some d ∧ NilPair d x y := by
  unfold eqNil at h
  split at h
  · rename_i d hd
    refine ⟨d, hd, ?_⟩
    split at h
    · rename_i k i b j c hk hi hj
      simp only [Bool.and_eq_true, beq_iff_eq, bne_iff_ne, ne_eq] at h
      obtain ⟨⟨rfl, rfl⟩, hbc⟩ := h
      cases d <;> simp only [tk] at hk <;> try cases hk
      · obtain ⟨a1, rfl, e1⟩ := nk0 hi
        obtain ⟨a2, rfl, e2⟩ := nk0 hj
        refine .inl ?_
        cases a1 <;> cases a2 <;> simp at e1 e2 <;> subst e1 e2 <;> simp at hbc
        · exact ⟨_, _, rfl, .inr ⟨rfl, rfl⟩⟩
        · exact ⟨_, _, rfl, .inl ⟨rfl, rfl⟩⟩
      · obtain ⟨a1, n1, c1, rfl, e1⟩ := nk1 hi
        obtain ⟨a2, n2, c2, rfl, e2⟩ := nk1 hj
        refine .inr (.inl ?_)
        cases a1 <;> cases a2 <;> simp at e1 e2 <;> subst e1 e2 <;> simp at hbc
        · exact ⟨_, _, _, _, _, _, rfl, .inr ⟨rfl, rfl⟩⟩
        · exact ⟨_, _, _, _, _, _, rfl, .inl ⟨rfl, rfl⟩⟩
      · obtain ⟨a1, rfl, e1⟩ := nk2 hi
        obtain ⟨a2, rfl, e2⟩ := nk2 hj
        refine .inr (.inr (.inl ?_))
        cases a1 <;> cases a2 <;> simp at e1 e2 <;> subst e1 e2 <;> simp at hbc
        · exact ⟨_, _, _, rfl, .inr ⟨rfl, rfl⟩⟩
        · exact ⟨_, _, _, rfl, .inl ⟨rfl, rfl⟩⟩
      · refine .inr (.inr (.inr ?_))
        rcases nk3 hi with ⟨rfl, f, u, v, rfl⟩ | ⟨rfl, rfl⟩ <;> rcases nk3 hj with ⟨rfl, f2, u2, v2, rfl⟩ | ⟨rfl, rfl⟩ <;> simp at hbc
        · exact ⟨_, _, _, _, _, _, rfl, .inl ⟨rfl, rfl⟩⟩
        · exact ⟨_, _, _, _, _, _, rfl, .inr ⟨rfl, rfl⟩⟩
    · cases h
  · cases h
theorem equal_nil {t : TypeId} {d : TypeDesc} {x y : Value} (hd : P.underlying t = some d) (h : NilPair d x y) (w : World) : (Op.equal t x y).run P w = .ok false w := by
  show (Op.equalIn (9999 + 1) t x y).run P w = _
  unfold Op.equalIn
  rcases h with ⟨e, a, rfl, ⟨rfl, rfl⟩ | ⟨rfl, rfl⟩⟩ | ⟨e, a, n, c, m, k, rfl, ⟨rfl, rfl⟩ | ⟨rfl, rfl⟩⟩ | ⟨e, f, a, rfl, ⟨rfl, rfl⟩ | ⟨rfl, rfl⟩⟩ | ⟨e, f, g, p, q, r, rfl, ⟨rfl, rfl⟩ | ⟨rfl, rfl⟩⟩ <;> simp [run_underlying hd]
theorem guard_nil {t : TypeId} {d : TypeDesc} {x y : Value} (h : NilPair d x y) (op : BinOp) (p q : Operand) (w : World) : (eqGuard op t p q x y).run P w = .ok () w := by
  unfold eqGuard
  rcases h with ⟨e, a, rfl, ⟨rfl, rfl⟩ | ⟨rfl, rfl⟩⟩ | ⟨e, a, n, c, m, k, rfl, ⟨rfl, rfl⟩ | ⟨rfl, rfl⟩⟩ | ⟨e, f, a, rfl, ⟨rfl, rfl⟩ | ⟨rfl, rfl⟩⟩ | ⟨e, f, g, p, q, r, rfl, ⟨rfl, rfl⟩ | ⟨rfl, rfl⟩⟩ <;> cases op <;> simp
theorem bin_nil {t : TypeId} {d : TypeDesc} {x y : Value} (hd : P.underlying t = some d) (h : NilPair d x y) (w : World) : (binOp .eql t x y).run P w = .ok (.bool false) w ∧ (binOp .neq t x y).run P w = .ok (.bool true) w := by
  have he := equal_nil hd h w
  rcases h with ⟨e, a, rfl, ⟨rfl, rfl⟩ | ⟨rfl, rfl⟩⟩ | ⟨e, a, n, c, m, k, rfl, ⟨rfl, rfl⟩ | ⟨rfl, rfl⟩⟩ | ⟨e, f, a, rfl, ⟨rfl, rfl⟩ | ⟨rfl, rfl⟩⟩ | ⟨e, f, g, p, q, r, rfl, ⟨rfl, rfl⟩ | ⟨rfl, rfl⟩⟩ <;> constructor <;> simp [binOp, he, Result.andThen]
def evoO (L : Tr Value) : Option Operand → Option (Option Value)
  | none => some none
  | some x => match evo L x with
    | some v => some (some v)
    | none => none
def callE (P : Program) (L : Tr Value) (S : St) (o : Oper) (c : Call) : Option ON :=
  match c.callee with
  | .value f => match evo L f with
    | some (.func (.func g) first caps) => if fnOk P g then match evs L c.args.toList with
      | some vs => some (.enter g (first.toList ++ vs ++ caps.toList))
      | none => none
      else none
    | some (.func (.yield k) _ _) => match evs L c.args.toList with
      | some vs => some (.round k vs)
      | none => none
    | _ => none
  | .builtin b => match b, c.args.toList, c.argTypes.toList with
    | .len, [x], [t] => match evo L x with
      | some v => match lenE P S t v with
        | some r => some (.val r S)
        | none => none
      | none => none
    | .append, [x, y], [t, u] => match evo L x, evo L y with
      | some v, some v2 => match appendE P S t u v v2 with
        | some (r, S1) => some (.val r S1)
        | none => none
      | _, _ => none
    | .copy, [x, y], [t, _] => match evo L x, evo L y with
      | some v, some v2 => match copyE P S t v v2 with
        | some (r, S1) => some (.val r S1)
        | none => none
      | _, _ => none
    | .delete, [x, y], [t, _] => match evo L x, evo L y with
      | some v, some v2 => match deleteE P S t v v2 with
        | some S1 => some (.val (.tuple #[]) S1)
        | none => none
      | _, _ => none
    | .clear, [x], [t] => match evo L x with
      | some v => match clearE P S t v with
        | some S1 => some (.val (.tuple #[]) S1)
        | none => none
      | none => none
    | _, _, _ => none
  | _ => none
def ofV (r : Option (Value × St)) : Option ON := Option.rec (motive := fun _ => Option ON) none (fun x => Prod.rec (motive := fun _ => Option ON) (fun v S1 => some (.val v S1)) x) r
def ofR (S : St) (r : Option Value) : Option ON := Option.rec (motive := fun _ => Option ON) none (fun v => some (.val v S)) r
def ofS (r : Option St) : Option ON := Option.rec (motive := fun _ => Option ON) none (fun S1 => some (.skip S1)) r
def with1 {α : Type} (L : Tr Value) (x : Operand) (f : Value → Option α) : Option α := Option.rec (motive := fun _ => Option α) none f (evo L x)
def with2 {α : Type} (L : Tr Value) (x y : Operand) (f : Value → Value → Option α) : Option α :=
  Option.rec (motive := fun _ => Option α) none (fun v => Option.rec (motive := fun _ => Option α) none (f v) (evo L y)) (evo L x)
def withP {α : Type} (L : Tr Value) (ps : List (Nat × Operand)) (f : List (Nat × Value) → Option α) : Option α := match evp L ps with
  | some v => f v
  | none => none
/-- what a run that asks nothing of the world comes to, if it leads nowhere -/
def pureV (P : Program) (s : Sem Value) : Option Value := match pureRun P s with
  | some v => if nr v then some v else none
  | none => none
def mMove (L : Tr Value) (S : St) (x : Operand) : Option ON := ofR S (evo L x)
def mPick (L : Tr Value) (S : St) (c x y : Operand) : Option ON := match evo L c with
  | some (.bool t) => ofR S (evo L (if t then x else y))
  | _ => none
def mNil (S : St) : Value → Option ON
  | .pointer (some q) => some (.val (.pointer (some q)) S)
  | .func (.func f) u v => some (.val (.func (.func f) u v) S)
  | .func (.yield f) u v => some (.val (.func (.yield f) u v) S)
  | _ => none
def intBin (P : Program) (op : BinOp) (k : IntKind) (a b : Int) : Option Value :=
  match op with
  | .add => some (.int k (k.wrap (a + b)))
  | .sub => some (.int k (k.wrap (a - b)))
  | .mul => some (.int k (k.wrap (a * b)))
  | .eql => some (.bool (a == b))
  | .neq => some (.bool (a != b))
  | .lss => some (.bool (decide (a < b)))
  | .leq => some (.bool (decide (a ≤ b)))
  | .gtr => some (.bool (decide (a > b)))
  | .geq => some (.bool (decide (a ≥ b)))
  | .quo => pureV P (Op.intDiv .quo k a b)
  | .rem => pureV P (Op.intDiv .rem k a b)
  | .and => pureV P (Op.intBits .and k a b)
  | .or => pureV P (Op.intBits .or k a b)
  | .xor => pureV P (Op.intBits .xor k a b)
  | .andNot => pureV P (Op.intBits .andNot k a b)
  | _ => none
def mBin2 (P : Program) (op : BinOp) (t : TypeId) (x y : Operand) (u v : Value) : Option Value :=
  if nr u && nr v then pureV P (do eqGuard op t x y u v; binOp op t u v)
  else if eqNil P t u v then (match op with | .eql => some (.bool false) | .neq => some (.bool true) | _ => none) else none
def mBinM (P : Program) (op : BinOp) (t : TypeId) (x y : Operand) (u v : Value) : Option Value :=
  match u, v with
  | .int k a, .int k' b => if k = k' then (match op with | .shl => pureV P (Op.shift .shl k a k' b) | .shr => pureV P (Op.shift .shr k a k' b) | op => intBin P op k a b) else mBin2 P op t x y u v
  | _, _ => mBin2 P op t x y u v
def asI : Value → Option (IntKind × Int)
  | .int k n => some (k, n)
  | _ => none
def kn (k : IntKind) : Nat := IntKind.rec (motive := fun _ => Nat) 0 1 2 3 4 5 6 7 k
theorem kn_inj {k k' : IntKind} (h : kn k = kn k') : k = k' := by cases k <;> cases k' <;> first | rfl | (simp [kn] at h)
/-- numbers that are not too great stand for themselves -/
def limN (k : IntKind) : Nat := IntKind.rec (motive := fun _ => Nat) 128 32768 2147483648 9223372036854775808 256 65536 4294967296 18446744073709551616 k
def wrapF (k : IntKind) (n : Int) : Int := Int.rec (motive := fun _ => Int) (fun m => Bool.rec (motive := fun _ => Int) (k.wrap (Int.ofNat m)) (Int.ofNat m) (Nat.ble (Nat.succ m) (limN k))) (fun m => k.wrap (Int.negSucc m)) n
theorem wrapF_eq (k : IntKind) (n : Int) : wrapF k n = k.wrap n := by
  cases n with
  | negSucc m => rfl
  | ofNat m =>
    show (Bool.rec (motive := fun _ => Int) (k.wrap (Int.ofNat m)) (Int.ofNat m) (Nat.ble (Nat.succ m) (limN k)) : Int) = _
    rw [ble_dec]
    by_cases h : Nat.succ m ≤ limN k
    · simp only [h, decide_true]
      cases k <;> simp only [limN] at h <;> simp [IntKind.wrap, IntKind.bits, IntKind.signed] <;> omega
    · simp only [h, decide_false]
def ltF (a b : Int) : Bool := Int.rec (motive := fun _ => Bool) (fun m => Int.rec (motive := fun _ => Bool) (fun n => Nat.blt m n) (fun _ => false) b) (fun m => Int.rec (motive := fun _ => Bool) (fun _ => true) (fun n => Nat.blt n m) b) a
theorem ltF_eq (a b : Int) : ltF a b = decide (a < b) := by
  cases a with
  | ofNat m => cases b with
    | ofNat n => show Nat.blt m n = _; rw [blt_dec]; apply decide_eq_decide.2; simp only [Int.ofNat_eq_natCast]; omega
    | negSucc n => symm; apply decide_eq_false; simp only [Int.ofNat_eq_natCast, Int.negSucc_eq]; omega
  | negSucc m => cases b with
    | ofNat n => symm; apply decide_eq_true; simp only [Int.ofNat_eq_natCast, Int.negSucc_eq]; omega
    | negSucc n => show Nat.blt n m = _; rw [blt_dec]; apply decide_eq_decide.2; simp only [Int.negSucc_eq]; omega
def eqF (a b : Int) : Bool := Int.rec (motive := fun _ => Bool) (fun m => Int.rec (motive := fun _ => Bool) (fun n => Nat.beq m n) (fun _ => false) b) (fun m => Int.rec (motive := fun _ => Bool) (fun _ => false) (fun n => Nat.beq n m) b) a
theorem beq_dec (a b : Nat) : Nat.beq a b = decide (a = b) := by
  cases h : Nat.beq a b with
  | true => rw [Nat.beq_eq] at h; simp [h]
  | false => simp only [false_eq_decide_iff]; intro e; rw [← Nat.beq_eq, h] at e; cases e
theorem eqF_eq (a b : Int) : eqF a b = (a == b) := by
  rw [show (a == b) = decide (a = b) from rfl]
  cases a with
  | ofNat m => cases b with
    | ofNat n => show Nat.beq m n = _; rw [beq_dec]; apply decide_eq_decide.2; simp only [Int.ofNat_eq_natCast]; omega
    | negSucc n => symm; apply decide_eq_false; simp only [Int.ofNat_eq_natCast, Int.negSucc_eq]; omega
  | negSucc m => cases b with
    | ofNat n => symm; apply decide_eq_false; simp only [Int.ofNat_eq_natCast, Int.negSucc_eq]; omega
    | negSucc n => show Nat.beq n m = _; rw [beq_dec]; apply decide_eq_decide.2; simp only [Int.negSucc_eq]; omega
def sbv (b : Bool) : Option Value := some (.bool b)
def binT (op : BinOp) : Program → IntKind → Int → Int → Option Value :=
  BinOp.rec (motive := fun _ => Program → IntKind → Int → Int → Option Value)
    (fun _ k a b => some (.int k (wrapF k (Int.add a b)))) (fun _ k a b => some (.int k (wrapF k (Int.sub a b)))) (fun P k a b => intBin P .mul k a b) (fun P k a b => intBin P .quo k a b) (fun P k a b => intBin P .rem k a b)
    (fun P k a b => intBin P .and k a b) (fun P k a b => intBin P .or k a b) (fun P k a b => intBin P .xor k a b) (fun P k a b => pureV P (Op.shift .shl k a k b)) (fun P k a b => pureV P (Op.shift .shr k a k b)) (fun P k a b => intBin P .andNot k a b)
    (fun _ _ a b => sbv (eqF a b)) (fun _ _ a b => sbv (!eqF a b)) (fun _ _ a b => sbv (ltF a b)) (fun _ _ a b => sbv (!ltF b a)) (fun _ _ a b => sbv (ltF b a)) (fun _ _ a b => sbv (!ltF a b)) op
def mBin (P : Program) (op : BinOp) (t : TypeId) (x y : Operand) (u v : Value) : Option Value :=
  Option.rec (motive := fun _ => Option Value) (mBin2 P op t x y u v) (fun a => Option.rec (motive := fun _ => Option Value) (mBin2 P op t x y u v) (fun b => Prod.rec (motive := fun _ => Option Value) (fun k m => Prod.rec (motive := fun _ => Option Value) (fun k' n => Bool.rec (motive := fun _ => Option Value) (mBin2 P op t x y u v) (binT op P k m n) (Nat.beq (kn k) (kn k'))) b) a) (asI v)) (asI u)
theorem binT_eq (P : Program) (op : BinOp) (k : IntKind) (a b : Int) : binT op P k a b = (match op with | .shl => pureV P (Op.shift .shl k a k b) | .shr => pureV P (Op.shift .shr k a k b) | op => intBin P op k a b) := by
  cases op <;> simp only [binT, intBin, sbv, wrapF_eq, ltF_eq, eqF_eq] <;> try rfl
  · congr 2; rw [← decide_not]; apply decide_eq_decide.2; omega
  · congr 2; rw [← decide_not]; apply decide_eq_decide.2; omega
theorem mBin_eq (P : Program) (op : BinOp) (t : TypeId) (x y : Operand) (u v : Value) : mBin P op t x y u v = mBinM P op t x y u v := by
  cases u with
  | int k a =>
    cases v with
    | int k' b =>
      show (Bool.rec (motive := fun _ => Option Value) (mBin2 P op t x y (.int k a) (.int k' b)) (binT op P k a b) (Nat.beq (kn k) (kn k')) : Option Value) = _
      simp only [mBinM]
      by_cases h : k = k'
      · subst h
        rw [if_pos rfl, (Nat.beq_eq ▸ rfl : Nat.beq (kn k) (kn k) = true)]
        exact binT_eq P op k a b
      · rw [if_neg h]
        cases hb : Nat.beq (kn k) (kn k') with
        | false => rfl
        | true => rw [Nat.beq_eq] at hb; exact absurd (kn_inj hb) h
    | _ => rfl
  | _ => cases v <;> rfl
def mConv (P : Program) (S : St) (src dst : TypeId) (v : Value) : Option ON :=
  match (if nr v then pureV P (convert src dst v) else none) with
  | some r => some (.val r S)
  | none => ofV (convE P S src dst v)
def mFunc (L : Tr Value) (S : St) (f : FuncId) (first caps : List Operand) : Option ON := match evs L first with
  | some u => match evs L caps with
    | some v => some (.val (.func (.func f) u.toArray v.toArray) S)
    | none => none
  | none => none
def mSlice (P : Program) (L : Tr Value) (S : St) (t : TypeId) (x : Operand) (lo hi : Option Operand) : Option ON :=
  match evo L x with
  | some v => match evoO L lo with
    | some l => match evoO L hi with
      | some h => match (if nr v && (l.getD undef |> nr) && (h.getD undef |> nr) then pureV P (Instr.sliceAt t v l h none) else none) with
        | some r => some (.val r S)
        | none => ofV (sliceE P S t v l h)
      | none => none
    | none => none
  | none => none
def mIndex (P : Program) (T : TypeId) (v k : Value) : Option Value :=
  match v with
  | .agg _ => indexE P T v k
  | _ => if nr v && nr k then pureV P (Instr.index T v k) else none
def mUpd (P : Program) (L : Tr Value) (S : St) (T : TypeId) (m k x : Operand) : Option ON := match evo L m with
  | some u => match evo L k with
    | some v => match evo L x with
      | some y => ofS (mapUpdE P S T u v y)
      | none => none
    | none => none
  | none => none
def mEnt (L : Tr Value) (S : St) (m s x : Operand) : Option ON := match evo L m with
  | some u => match evo L s with
    | some v => match evo L x with
      | some y => ofS (entryStoreE S u v y)
      | none => none
    | none => none
  | none => none
def mDefer (L : Tr Value) (c : Call) : Option ON := match c.callee with
  | .value f => match c.args.toList with
    | [] => match evo L f with
      | some (.func (.func g) u caps) => if u.toList.isEmpty then some (.defer g caps.toList) else none
      | _ => none
    | _ => none
  | _ => none
/-- a built-in function of values that lead nowhere -/
def mPure (P : Program) (L : Tr Value) (S : St) (o : Oper) : Option ON := ofR S (pureE P L o)
def isPureB : Builtin → Bool
  | .min | .max | .len | .cap => true
  | _ => false
def mCall (P : Program) (L : Tr Value) (S : St) (o : Oper) (c : Call) : Option ON :=
  match c.callee with
  | .value _ => callE P L S o c
  | .builtin b => match callE P L S o c with
    | some r => some r
    | none => if isPureB b then mPure P L S o else none
  | _ => none
def o1 (f : Value → Option ON) (x : Operand) (L : Tr Value) : Option ON := with1 L x f
def mFn (fn : Fn) (first caps : Array Operand) (L : Tr Value) (S : St) : Option ON := match fn with
  | .func f => mFunc L S f first.toList caps.toList
  | _ => none
def mMk (r : Option Operand) (S : St) : Option ON := match r with
  | none => ofV (makeMapE S)
  | _ => none
def mSl (P : Program) (L : Tr Value) (S : St) (t : TypeId) (x : Operand) (lo hi mx : Option Operand) : Option ON := match mx with
  | none => mSlice P L S t x lo hi
  | _ => none
def mNext (L : Tr Value) (S : St) (it : Operand) (str : Bool) : Option ON := match str with
  | false => with1 L it fun v => ofV (nextE S v)
  | _ => none
def mUn (P : Program) (S : St) (op : UnOp) (v : Value) : Option ON := if nr v then ofR S (pureV P (Op.unary op v)) else none
def mTa (P : Program) (S : St) (xt at2 : TypeId) (ok : Bool) (v : Value) : Option ON := if nr v then ofR S (pureV P (Instr.typeAssert v xt at2 ok)) else none
def opT (op : Op) : Program → Tr Value → St → Oper → Option ON :=
  Op.rec (motive := fun _ => Program → Tr Value → St → Oper → Option ON)
    (fun x _ L S _ => mMove L S x) (fun x _ L S _ => mMove L S x) (fun c x y _ L S _ => mPick L S c x y)
    (fun T P _ S _ => ofV (allocE P S T)) (fun T x P L S _ => with1 L x fun v => ofV (boxE S T v))
    (fun t ps P L S _ => withP L ps.toList fun vs => ofR S (buildE P t vs)) (fun t n ps P L S _ => withP L ps.toList fun vs => ofV (buildSliceE P S t n vs))
    (fun T m k x P L S _ => mUpd P L S T m k x) (fun T x P L S _ => with1 L x fun v => ofR S (ldE P S T v)) (fun T x y P L S _ => with2 L x y fun p v => ofS (stE P S T p v))
    (fun _ _ _ _ _ => none) (fun _ _ _ _ _ => none) (fun x _ L S _ => with1 L x (mNil S))
    (fun op t x y _ P L S _ => with2 L x y fun u v => ofR S (mBin P op t x y u v)) (fun op _ x P L S _ => with1 L x (mUn P S op))
    (fun src dst x P L S _ => with1 L x (mConv P S src dst)) (fun _ _ _ _ _ _ => none) (fun _ _ _ _ _ _ => none)
    (fun fn first caps _ L S _ => mFn fn first caps L S) (fun _ r _ _ S _ => mMk r S) (fun _ _ _ _ _ _ => none)
    (fun t x y P L S _ => with2 L x y fun u v => ofV (makeSliceE P S t u v)) (fun t x lo hi mx P L S _ => mSl P L S t x lo hi mx)
    (fun T x f P L S _ => with1 L x fun v => ofR S (fieldAtE P T f v)) (fun T x f P L S _ => with1 L x fun v => ofR S (fieldE P T f v))
    (fun T x i P L S _ => with2 L x i fun v k => ofR S (indexAtE P T v k)) (fun T x i P L S _ => with2 L x i fun v k => ofR S (mIndex P T v k))
    (fun T x k c P L S _ => with2 L x k fun v u => ofR S (lookupE P S T v u c)) (fun T m k x P L S _ => mUpd P L S T m k x)
    (fun T m k P L S _ => with2 L m k fun u v => ofV (mapEntryE P S T u v)) (fun _ m s x _ L S _ => mEnt L S m s x)
    (fun T x P L S _ => with1 L x fun v => ofV (rangeE P S T v)) (fun it str _ L S _ => mNext L S it str) (fun it _ L S _ => with1 L it fun v => ofR S (entryE S v))
    (fun x xt at2 ok P L S _ => with1 L x (mTa P S xt at2 ok)) (fun x i _ L S _ => with1 L x fun v => ofR S (extractE i v))
    (fun c P L S o => mCall P L S o c) (fun _ _ _ _ _ => none) (fun c _ L _ _ => mDefer L c) (fun _ _ _ _ _ => none) (fun _ _ _ _ _ _ => none) (fun _ _ _ _ _ _ _ => none) (fun _ _ _ _ _ _ => none) op
def opR (P : Program) (L : Tr Value) (S : St) (o : Oper) (op : Op) : Option ON := opT op P L S o
def opE (P : Program) (L : Tr Value) (S : St) (o : Oper) : Option ON := opR P L S o o.op
theorem opE_eq (P : Program) (L : Tr Value) (S : St) (o : Oper) : opE P L S o = match o.op with
  | .move x => mMove L S x
  | .assign x => mMove L S x
  | .pick c x y => mPick L S c x y
  | .alloc T => ofV (allocE P S T)
  | .box T x => with1 L x fun v => ofV (boxE S T v)
  | .build t ps => withP L ps.toList fun vs => ofR S (buildE P t vs)
  | .buildSlice t n ps => withP L ps.toList fun vs => ofV (buildSliceE P S t n vs)
  | .load T x => with1 L x fun v => ofR S (ldE P S T v)
  | .store T x y => with2 L x y fun p v => ofS (stE P S T p v)
  | .nilCheck x => with1 L x (mNil S)
  | .binOp op t x y _ => with2 L x y fun u v => ofR S (mBin P op t x y u v)
  | .unOp op _ x => with1 L x fun v => if nr v then ofR S (pureV P (Op.unary op v)) else none
  | .convert src dst x => with1 L x (mConv P S src dst)
  | .makeFunc (.func f) first caps => mFunc L S f first.toList caps.toList
  | .makeMap _ none => ofV (makeMapE S)
  | .makeSlice t x y => with2 L x y fun u v => ofV (makeSliceE P S t u v)
  | .slice t x lo hi none => mSlice P L S t x lo hi
  | .fieldAddr T x f => with1 L x fun v => ofR S (fieldAtE P T f v)
  | .field T x f => with1 L x fun v => ofR S (fieldE P T f v)
  | .indexAddr T x i => with2 L x i fun v k => ofR S (indexAtE P T v k)
  | .index T x i => with2 L x i fun v k => ofR S (mIndex P T v k)
  | .lookup T x k c => with2 L x k fun v u => ofR S (lookupE P S T v u c)
  | .mapUpdate T m k x => mUpd P L S T m k x
  | .insert T m k x => mUpd P L S T m k x
  | .mapEntry T m k => with2 L m k fun u v => ofV (mapEntryE P S T u v)
  | .entryStore _ m s x => mEnt L S m s x
  | .range T x => with1 L x fun v => ofV (rangeE P S T v)
  | .next it false => with1 L it fun v => ofV (nextE S v)
  | .entry it => with1 L it fun v => ofR S (entryE S v)
  | .typeAssert x xt at2 ok => with1 L x fun v => if nr v then ofR S (pureV P (Instr.typeAssert v xt at2 ok)) else none
  | .extract x i => with1 L x fun v => ofR S (extractE i v)
  | .call c => mCall P L S o c
  | .defer c => mDefer L c
  | _ => none := by
  unfold opE
  cases hop : o.op <;> try rfl
  case makeFunc fn first caps => cases fn <;> rfl
  case makeMap t r => cases r <;> rfl
  case slice t x lo hi mx => cases mx <;> rfl
  case next it str => cases str <;> rfl
theorem ofV_some {r : Option (Value × St)} {x : ON} (h : ofV r = some x) : ∃ v S1, r = some (v, S1) ∧ x = .val v S1 := by
  cases r with
  | none => cases h
  | some x => cases h; exact ⟨x.1, x.2, rfl, rfl⟩
theorem ofR_some {r : Option Value} {x : ON} (h : ofR S r = some x) : ∃ v, r = some v ∧ x = .val v S := by
  cases r with
  | none => cases h
  | some v => cases h; exact ⟨v, rfl, rfl⟩
theorem ofS_some {r : Option St} {x : ON} (h : ofS r = some x) : ∃ S1, r = some S1 ∧ x = .skip S1 := by
  cases r with
  | none => cases h
  | some S1 => cases h; exact ⟨S1, rfl, rfl⟩
theorem with1_some {α : Type} {x : Operand} {f : Value → Option α} {r : α} (h : with1 L x f = some r) : ∃ v, evo L x = some v ∧ f v = some r := by
  unfold with1 at h
  cases hv : evo L x with
  | none => rw [hv] at h; cases h
  | some v => rw [hv] at h; exact ⟨v, rfl, h⟩
theorem with2_some {α : Type} {x y : Operand} {f : Value → Value → Option α} {r : α} (h : with2 L x y f = some r) : ∃ v u, evo L x = some v ∧ evo L y = some u ∧ f v u = some r := by
  unfold with2 at h
  cases hv : evo L x with
  | none => rw [hv] at h; cases h
  | some v =>
    rw [hv] at h
    cases hu : evo L y with
    | none => rw [hu] at h; cases h
    | some u => rw [hu] at h; exact ⟨v, u, rfl, rfl, h⟩
theorem withP_some {α : Type} {ps : List (Nat × Operand)} {f : List (Nat × Value) → Option α} {r : α} (h : withP L ps f = some r) : ∃ v, evp L ps = some v ∧ f v = some r := by
  unfold withP at h
  split at h
  · rename_i v hv; exact ⟨v, hv, h⟩
  · cases h
theorem pureV_some {s : Sem Value} {v : Value} (h : pureV P s = some v) : nr v = true ∧ ∀ w, s.run P w = .ok v w := by
  unfold pureV at h
  split at h
  · rename_i u hu
    split at h
    · rename_i hn; cases h; exact ⟨hn, fun w => pureRun_run _ hu w⟩
    · cases h
  · cases h
theorem intBin_ok {op : BinOp} {k : IntKind} {x y : Int} {v : Value} {t : TypeId} (h : intBin P op k x y = some v) (w : World) : (binOp op t (.int k x) (.int k y)).run P w = .ok v w ∧ nr v = true := by
  cases op <;> simp only [intBin] at h
  case shl => cases h
  case shr => cases h
  case quo => obtain ⟨h1, h2⟩ := pureV_some h; exact ⟨by simp only [binOp, ne_eq, not_true_eq_false, if_false]; exact h2 w, h1⟩
  case rem => obtain ⟨h1, h2⟩ := pureV_some h; exact ⟨by simp only [binOp, ne_eq, not_true_eq_false, if_false]; exact h2 w, h1⟩
  case and => obtain ⟨h1, h2⟩ := pureV_some h; exact ⟨by simp only [binOp, ne_eq, not_true_eq_false, if_false]; exact h2 w, h1⟩
  case or => obtain ⟨h1, h2⟩ := pureV_some h; exact ⟨by simp only [binOp, ne_eq, not_true_eq_false, if_false]; exact h2 w, h1⟩
  case xor => obtain ⟨h1, h2⟩ := pureV_some h; exact ⟨by simp only [binOp, ne_eq, not_true_eq_false, if_false]; exact h2 w, h1⟩
  case andNot => obtain ⟨h1, h2⟩ := pureV_some h; exact ⟨by simp only [binOp, ne_eq, not_true_eq_false, if_false]; exact h2 w, h1⟩
  all_goals (cases h; exact ⟨by simp [binOp, Op.intArith, Op.intCmp], rfl⟩)
theorem mBin2_ok {op : BinOp} {t yt : TypeId} {x y : Operand} {u v r : Value} (hop : o.op = .binOp op t x y yt) (hx : VR θ u (a.eval x)) (hy : VR θ v (a.eval y)) (h : mBin2 P op t x y u v = some r) : (execOp a.eval o).run P w = .ok (.value r) w ∧ VR θ r r := by
  unfold mBin2 at h
  split at h
  · rename_i hn
    simp only [Bool.and_eq_true] at hn
    obtain ⟨h1, h2⟩ := pureV_some h
    have e1 := nr_eq hn.1 hx
    have e2 := nr_eq hn.2 hy
    refine ⟨?_, nr_refl θ h1⟩
    simp only [execOp, hop, e1, e2]
    have := h2 w
    simp only [Sem.run_bind] at this ⊢
    rw [this]
    rfl
  · split at h
    · rename_i hn
      have hn' : eqNil P t (a.eval x) (a.eval y) = true := by unfold eqNil at hn ⊢; rw [hx.nk, hy.nk]; exact hn
      obtain ⟨d, hd, hp⟩ := eqNil_pair hn'
      have hg := fun op => guard_nil (P := P) (t := t) hp op x y w
      obtain ⟨h1, h2⟩ := bin_nil hd hp w
      split at h
      · cases h
        refine ⟨?_, .bool _⟩
        simp only [execOp, hop]
        simp [hg, h1, Result.andThen]
      · cases h
        refine ⟨?_, .bool _⟩
        simp only [execOp, hop]
        simp [hg, h2, Result.andThen]
      · cases h
    · cases h
theorem guard_int {op : BinOp} {t : TypeId} {p q : Operand} {k k' : IntKind} {x y : Int} (w : World) : (eqGuard op t p q (.int k x) (.int k' y)).run P w = .ok () w := by
  unfold eqGuard
  cases op <;> simp
theorem mBin_ok {op : BinOp} {t yt : TypeId} {x y : Operand} {u v r : Value} (hop : o.op = .binOp op t x y yt) (hx : VR θ u (a.eval x)) (hy : VR θ v (a.eval y)) (h : mBin P op t x y u v = some r) : (execOp a.eval o).run P w = .ok (.value r) w ∧ VR θ r r := by
  rw [mBin_eq] at h
  unfold mBinM at h
  split at h
  · rename_i k n k' m
    split at h
    · rename_i hk
      subst hk
      have e1 := nr_eq (v := .int k n) rfl hx
      have e2 := nr_eq (v := .int k m) rfl hy
      have hfin : ∀ {r}, (binOp op t (.int k n) (.int k m)).run P w = .ok r w → (execOp a.eval o).run P w = .ok (.value r) w := fun hr => by
        simp only [execOp, hop, e1, e2]
        simp [guard_int, hr, Result.andThen]
      split at h
      · obtain ⟨h1, h2⟩ := pureV_some h
        exact ⟨hfin (by simp [binOp]; exact h2 w), nr_refl θ h1⟩
      · obtain ⟨h1, h2⟩ := pureV_some h
        exact ⟨hfin (by simp [binOp]; exact h2 w), nr_refl θ h1⟩
      · obtain ⟨h1, h2⟩ := intBin_ok (t := t) h w
        exact ⟨hfin h1, nr_refl θ h2⟩
    · exact mBin2_ok hop hx hy h
  · exact mBin2_ok hop hx hy h
theorem evoO_ok {l : List Operand} (hE : EvIn θ L a l) {x : Option Operand} {v : Option Value} (hs : ∀ y, x = some y → y ∈ l) (h : evoO L x = some v) : VRo θ v (x.map a.eval) := by
  cases x with
  | none => cases h; trivial
  | some x =>
    simp only [evoO] at h
    split at h
    · rename_i u hu; cases h; exact hE x (hs x rfl) u hu
    · cases h
theorem callE_ok {c : Call} {r : ON} (hop : o.op = .call c) (hE : EvIn θ L a c.operands.toList) (hR : Rel θ S w) (h : callE P L S o c = some r) : OpOk P θ S w a o r := by
  unfold callE at h
  have hexec : (execOp a.eval o) = (do let d ← resolve a.eval c o.type; invoke d.target d.args) := by simp only [execOp, hop]
  have hEa : EvIn θ L a c.args.toList := hE.sub fun x hx => by simp [Call.operands]; exact .inr (by simpa using hx)
  have hmap : (c.args.map a.eval).toList = c.args.toList.map a.eval := by simp
  split at h
  · rename_i f hcal
    have hEf := hE f (by simp [Call.operands, hcal])
    split at h
    · rename_i g first caps hf
      split at h
      · rename_i hfn
        split at h
        · rename_i vs hvs
          cases h
          have hv := hEf _ hf
          generalize hfv : a.eval f = F at hv
          cases hv with
          | fn _ h1 h2 h3 h4 =>
            rename_i xs' ys'
            refine ⟨xs' ++ c.args.map a.eval ++ ys', ?_, ?_⟩
            · rw [hexec]
              simp [resolve, hcal, hfv, Deferred.ofValue, invoke, callFunc_ok hfn]
            · simp only [Array.toList_append, hmap]
              exact ((VRl.of h1 h3).append (evs_ok hEa hvs)).append (VRl.of h2 h4)
        · cases h
      · cases h
    · rename_i k u v hf
      split at h
      · rename_i vs hvs
        cases h
        have hv := hEf _ hf
        generalize hfv : a.eval f = F at hv
        cases hv with
        | yld hA =>
          rename_i A
          refine ⟨A, c.args.map a.eval, hA, ?_, by rw [hmap]; exact evs_ok hEa hvs⟩
          rw [hexec]
          simp [resolve, hcal, hfv, Deferred.ofValue, invoke]
      · cases h
    · cases h
  · rename_i b hcal
    have hbi : (execOp a.eval o) = builtin b c.argTypes o.type (c.args.map fun | .const _ => true | _ => false) (c.args.map a.eval) := by
      rw [hexec]
      simp only [resolve, hcal]
      rfl
    split at h
    · rename_i x t hargs htys
      have ha : c.args = #[x] := by apply Array.ext'; simpa using hargs
      have ht : c.argTypes = #[t] := by apply Array.ext'; simpa using htys
      split at h
      · rename_i v hv
        split at h
        · rename_i r' hl
          cases h
          have hx := hEa x (by simp [ha]) v hv
          obtain ⟨h1, h2⟩ := lenE_ok (P := P) (ty := o.type) hR hx hl
          refine .valk hR (v' := r') ?_ h2
          rw [hbi, ha, ht]
          simp [builtin, h1, Result.andThen]
        · cases h
      · cases h
    · rename_i x y t u hargs htys
      have ha : c.args = #[x, y] := by apply Array.ext'; simpa using hargs
      have ht : c.argTypes = #[t, u] := by apply Array.ext'; simpa using htys
      split at h
      · rename_i v v2 hv hv2
        split at h
        · rename_i r' S1 hl
          cases h
          obtain ⟨θ1, w1, v', h1, h2, h3⟩ := appendE_ok (P := P) (ty := o.type) hR (hEa x (by simp [ha]) v hv) (hEa y (by simp [ha]) v2 hv2) hl
          refine ⟨θ1, w1, v', ?_, h2, h3⟩
          rw [hbi, ha, ht]
          simp [builtin, h1, Result.andThen]
        · cases h
      · cases h
    · rename_i x y t u hargs htys
      have ha : c.args = #[x, y] := by apply Array.ext'; simpa using hargs
      have ht : c.argTypes = #[t, u] := by apply Array.ext'; simpa using htys
      split at h
      · rename_i v v2 hv hv2
        split at h
        · rename_i r' S1 hl
          cases h
          obtain ⟨w1, h1, h2, h3⟩ := copyE_ok (P := P) (u := u) (ty := o.type) hR (hEa x (by simp [ha]) v hv) (hEa y (by simp [ha]) v2 hv2) hl
          refine ⟨θ, w1, r', ?_, h2, h3⟩
          rw [hbi, ha, ht]
          simp [builtin, h1, Result.andThen]
        · cases h
      · cases h
    · rename_i x y t u hargs htys
      have ha : c.args = #[x, y] := by apply Array.ext'; simpa using hargs
      have ht : c.argTypes = #[t, u] := by apply Array.ext'; simpa using htys
      split at h
      · rename_i v v2 hv hv2
        split at h
        · rename_i S1 hl
          cases h
          obtain ⟨w1, h1, h2⟩ := deleteE_ok (P := P) (u := u) (ty := o.type) hR (hEa x (by simp [ha]) v hv) (hEa y (by simp [ha]) v2 hv2) hl
          refine ⟨θ, w1, .tuple #[], ?_, h2, nr_refl θ rfl⟩
          rw [hbi, ha, ht]
          simp [builtin, h1, Result.andThen]
        · cases h
      · cases h
    · rename_i x t hargs htys
      have ha : c.args = #[x] := by apply Array.ext'; simpa using hargs
      have ht : c.argTypes = #[t] := by apply Array.ext'; simpa using htys
      split at h
      · rename_i v hv
        split at h
        · rename_i S1 hl
          cases h
          obtain ⟨w1, h1, h2⟩ := clearE_ok (P := P) (ty := o.type) hR (hEa x (by simp [ha]) v hv) hl
          refine ⟨θ, w1, .tuple #[], ?_, h2, nr_refl θ rfl⟩
          rw [hbi, ha, ht]
          simp [builtin, h1, Result.andThen]
        · cases h
      · cases h
    · cases h
  · cases h
/-- a value, out of the run of an instruction -/
theorem OpOk.of {s : Sem Value} {v : Value} {S1 : St} (he : execOp a.eval o = (do pure (.value (← s)) : Sem Next)) (h : ∃ θ1 w1 v', s.run P w = .ok v' w1 ∧ Step θ S w θ1 S1 w1 ∧ VR θ1 v v') : OpOk P θ S w a o (.val v S1) := by
  obtain ⟨θ1, w1, v', h1, h2, h3⟩ := h
  exact ⟨θ1, w1, v', by rw [he]; simp [h1, Result.andThen], h2, h3⟩
theorem OpOk.of0 (hR : Rel θ S w) {s : Sem Value} {v : Value} (he : execOp a.eval o = (do pure (.value (← s)) : Sem Next)) (h : ∃ v', s.run P w = .ok v' w ∧ VR θ v v') : OpOk P θ S w a o (.val v S) := by
  obtain ⟨v', h1, h2⟩ := h
  exact .of he ⟨θ, w, v', h1, .refl hR, h2⟩
theorem OpOk.ofU {s : Sem Unit} {S1 : St} (he : execOp a.eval o = (do s; pure .skip : Sem Next)) (h : ∃ w1, s.run P w = .ok () w1 ∧ Step θ S w θ S1 w1) : OpOk P θ S w a o (.skip S1) := by
  obtain ⟨w1, h1, h2⟩ := h
  exact ⟨θ, w1, by rw [he]; simp [h1, Result.andThen], h2⟩
theorem opE_ok {r : ON} (hE : EvIn θ L a o.op.operands.toList) (hR : Rel θ S w) (h : opE P L S o = some r) : OpOk P θ S w a o r := by
  rw [opE_eq] at h
  split at h
  · rename_i x hop
    rw [hop] at hE
    obtain ⟨v, hv, rfl⟩ := ofR_some h
    exact .valk hR (v' := a.eval x) (by simp only [execOp, hop]; rfl) (hE x (by simp [Op.operands]) v hv)
  · rename_i x hop
    rw [hop] at hE
    obtain ⟨v, hv, rfl⟩ := ofR_some h
    exact .valk hR (v' := a.eval x) (by simp only [execOp, hop]; rfl) (hE x (by simp [Op.operands]) v hv)
  · rename_i c x y hop
    rw [hop] at hE
    unfold mPick at h
    split at h
    · rename_i t hc
      obtain ⟨v, hv, rfl⟩ := ofR_some h
      have h1 := nr_eq (v := .bool t) rfl (hE c (by simp [Op.operands]) _ hc)
      refine .valk hR (v' := a.eval (if t then x else y)) ?_ (hE _ (by cases t <;> simp [Op.operands]) v hv)
      simp only [execOp, hop]
      cases t <;> simp [h1, asBool]
    · cases h
  · rename_i T hop
    obtain ⟨v, S1, hv, rfl⟩ := ofV_some h
    exact .of (s := Instr.alloc T true (.tuple #[])) (by simp only [execOp, hop]) (allocE_ok hR hv)
  · rename_i T x hop
    rw [hop] at hE
    obtain ⟨v, hv, h⟩ := with1_some h
    obtain ⟨u, S1, hu, rfl⟩ := ofV_some h
    exact .of (s := Instr.box T (a.eval x)) (by simp only [execOp, hop]) (boxE_ok hR (hE x (by simp [Op.operands]) v hv) hu)
  · rename_i t ps hop
    rw [hop] at hE
    obtain ⟨vs, hvs, h⟩ := withP_some h
    obtain ⟨u, hu, rfl⟩ := ofR_some h
    have hp := evp_ok (a := a) (θ := θ) (hE.sub fun y hy => by simpa [Op.operands] using hy) hvs
    exact .of0 hR (s := Instr.build t (ps.map fun (i, x) => (i, a.eval x))) (by simp only [execOp, hop]) (buildE_ok (by simpa using hp) hu w)
  · rename_i t n ps hop
    rw [hop] at hE
    obtain ⟨vs, hvs, h⟩ := withP_some h
    obtain ⟨u, S1, hu, rfl⟩ := ofV_some h
    have hp := evp_ok (a := a) (θ := θ) (hE.sub fun y hy => by simpa [Op.operands] using hy) hvs
    exact .of (s := Instr.buildSlice t n (ps.map fun (i, x) => (i, a.eval x))) (by simp only [execOp, hop]) (buildSliceE_ok hR (by simpa using hp) hu)
  · rename_i T x hop
    rw [hop] at hE
    obtain ⟨v, hv, h⟩ := with1_some h
    obtain ⟨u, hu, rfl⟩ := ofR_some h
    exact .of0 hR (s := Instr.loadAt T (a.eval x)) (by simp only [execOp, hop]) (ldE_ok hR (hE x (by simp [Op.operands]) v hv) hu)
  · rename_i T x y hop
    rw [hop] at hE
    obtain ⟨p, v, hp, hv, h⟩ := with2_some h
    obtain ⟨S1, hu, rfl⟩ := ofS_some h
    exact .ofU (s := Instr.storeAt T (a.eval x) (a.eval y)) (by simp only [execOp, hop]) (stE_ok hR (hE x (by simp [Op.operands]) p hp) (hE y (by simp [Op.operands]) v hv) hu)
  · rename_i x hop
    rw [hop] at hE
    obtain ⟨v, hv, h⟩ := with1_some h
    have hv' := hE x (by simp [Op.operands]) _ hv
    generalize hX : a.eval x = X at hv'
    unfold mNil at h
    split at h
    · cases h
      cases hv' with
      | ptr off hA => exact .valk hR (by simp only [execOp, hop, hX]; rfl) (.ptr off hA)
    · rename_i f u v
      cases h
      cases hv' with
      | fn _ h1 h2 h3 h4 => exact .valk hR (by simp only [execOp, hop, hX]; rfl) (.fn f h1 h2 h3 h4)
    · cases h
      cases hv' with
      | yld hA => exact .valk hR (by simp only [execOp, hop, hX]; rfl) (.yld hA)
    · cases h
  · rename_i op t x y yt hop
    obtain ⟨u, v, hu, hv, h⟩ := with2_some h
    obtain ⟨r', hr, rfl⟩ := ofR_some h
    rw [hop] at hE
    obtain ⟨h1, h2⟩ := mBin_ok (w := w) hop (hE x (by simp [Op.operands]) u hu) (hE y (by simp [Op.operands]) v hv) hr
    exact .valk hR h1 h2
  · rename_i op t x hop
    rw [hop] at hE
    obtain ⟨v, hv, h⟩ := with1_some h
    split at h
    · rename_i hn
      obtain ⟨r', hr, rfl⟩ := ofR_some h
      obtain ⟨h1, h2⟩ := pureV_some hr
      have e1 := nr_eq hn (hE x (by simp [Op.operands]) v hv)
      exact .of0 hR (s := Op.unary op v) (by simp only [execOp, hop, e1]) ⟨r', h2 w, nr_refl θ h1⟩
    · cases h
  · rename_i src dst x hop
    rw [hop] at hE
    obtain ⟨v, hv, h⟩ := with1_some h
    unfold mConv at h
    split at h
    · rename_i r' hr
      cases h
      split at hr
      · rename_i hn
        obtain ⟨h1, h2⟩ := pureV_some hr
        have e1 := nr_eq hn (hE x (by simp [Op.operands]) v hv)
        exact .of0 hR (s := convert src dst v) (by simp only [execOp, hop, e1]) ⟨r', h2 w, nr_refl θ h1⟩
      · cases hr
    · obtain ⟨u, S1, hu, rfl⟩ := ofV_some h
      exact .of (s := convert src dst (a.eval x)) (by simp only [execOp, hop]) (convE_ok hR (hE x (by simp [Op.operands]) v hv) hu)
  · rename_i f first caps hop
    rw [hop] at hE
    unfold mFunc at h
    split at h
    · rename_i u hu
      split at h
      · rename_i v hv
        cases h
        have h1 := evs_ok (a := a) (θ := θ) (hE.sub fun y hy => by simp [Op.operands]; exact .inl (by simpa using hy)) hu
        have h2 := evs_ok (a := a) (θ := θ) (hE.sub fun y hy => by simp [Op.operands]; exact .inr (by simpa using hy)) hv
        refine .valk hR (v' := .func (.func f) (first.map a.eval) (caps.map a.eval)) (by simp only [execOp, hop]; rfl) ?_
        have e1 : (first.toList.map a.eval) = (first.map a.eval).toList := by simp
        have e2 : (caps.toList.map a.eval) = (caps.map a.eval).toList := by simp
        rw [e1] at h1
        rw [e2] at h2
        exact .fn f (by simpa using h1.1) (by simpa using h2.1) (fun i x y hx hy => h1.2 i x y (by simpa using hx) (by simpa using hy)) (fun i x y hx hy => h2.2 i x y (by simpa using hx) (by simpa using hy))
      · cases h
    · cases h
  · rename_i t hop
    obtain ⟨u, S1, hu, rfl⟩ := ofV_some h
    exact .of (s := Instr.makeMap t none) (by simp only [execOp, hop]; rfl) (makeMapE_ok hR hu)
  · rename_i t x y hop
    rw [hop] at hE
    obtain ⟨u, v, hu, hv, h⟩ := with2_some h
    obtain ⟨r', S1, hr, rfl⟩ := ofV_some h
    exact .of (s := Instr.makeSlice t (a.eval x) (a.eval y)) (by simp only [execOp, hop]) (makeSliceE_ok hR (hE x (by simp [Op.operands]) u hu) (hE y (by simp [Op.operands]) v hv) hr)
  · rename_i t x lo hi hop
    rw [hop] at hE
    unfold mSlice at h
    split at h
    · rename_i v hv
      split at h
      · rename_i l hl
        split at h
        · rename_i hh hhh
          have hx := hE x (by simp [Op.operands]) v hv
          have hlo := evoO_ok hE (x := lo) (fun y hy => by simp [Op.operands, hy]) hl
          have hhi := evoO_ok hE (x := hi) (fun y hy => by simp [Op.operands, hy]) hhh
          split at h
          · rename_i r' hr
            cases h
            split at hr
            · rename_i hn
              simp only [Bool.and_eq_true] at hn
              obtain ⟨h1, h2⟩ := pureV_some hr
              have e1 := nr_eq hn.1.1 hx
              have e2 : lo.map a.eval = l := by
                revert hlo
                cases hlm : lo.map a.eval <;> cases l <;> intro hlo <;> first | rfl | exact hlo.elim | skip
                rw [nr_eq (by simpa using hn.1.2) (show VR θ _ _ from hlo)]
              have e3 : hi.map a.eval = hh := by
                revert hhi
                cases hlm : hi.map a.eval <;> cases hh <;> intro hhi <;> first | rfl | exact hhi.elim | skip
                rw [nr_eq (by simpa using hn.2) (show VR θ _ _ from hhi)]
              exact .of0 hR (s := Instr.sliceAt t v l hh none) (by simp only [execOp, hop, e1, e2, e3]; rfl) ⟨r', h2 w, nr_refl θ h1⟩
            · cases hr
          · obtain ⟨r', S1, hr, rfl⟩ := ofV_some h
            obtain ⟨θ1, v', h1, h2, h3⟩ := sliceE_ok hR hx hlo hhi hr
            exact .of (s := Instr.sliceAt t (a.eval x) (lo.map a.eval) (hi.map a.eval) none) (by simp only [execOp, hop]; rfl) ⟨θ1, w, v', h1, h2, h3⟩
        · cases h
      · cases h
    · cases h
  · rename_i T x f hop
    rw [hop] at hE
    obtain ⟨v, hv, h⟩ := with1_some h
    obtain ⟨u, hu, rfl⟩ := ofR_some h
    exact .of0 hR (s := Instr.fieldAt T (a.eval x) f) (by simp only [execOp, hop]) (fieldAtE_ok (hE x (by simp [Op.operands]) v hv) hu w)
  · rename_i T x f hop
    rw [hop] at hE
    obtain ⟨v, hv, h⟩ := with1_some h
    obtain ⟨u, hu, rfl⟩ := ofR_some h
    exact .of0 hR (s := Instr.field T (a.eval x) f) (by simp only [execOp, hop]) (fieldE_ok (hE x (by simp [Op.operands]) v hv) hu w)
  · rename_i T x i hop
    rw [hop] at hE
    obtain ⟨v, k, hv, hk, h⟩ := with2_some h
    obtain ⟨u, hu, rfl⟩ := ofR_some h
    exact .of0 hR (s := Instr.indexAt T (a.eval x) (a.eval i)) (by simp only [execOp, hop]) (indexAtE_ok (hE x (by simp [Op.operands]) v hv) (hE i (by simp [Op.operands]) k hk) hu w)
  · rename_i T x i hop
    rw [hop] at hE
    obtain ⟨v, k, hv, hk, h⟩ := with2_some h
    obtain ⟨u, hu, rfl⟩ := ofR_some h
    have hx := hE x (by simp [Op.operands]) v hv
    have hi := hE i (by simp [Op.operands]) k hk
    unfold mIndex at hu
    split at hu
    · exact .of0 hR (s := Instr.index T (a.eval x) (a.eval i)) (by simp only [execOp, hop]) (indexE_ok hx hi hu w)
    · split at hu
      · rename_i hn
        simp only [Bool.and_eq_true] at hn
        obtain ⟨h1, h2⟩ := pureV_some hu
        have e1 := nr_eq hn.1 hx
        have e2 := nr_eq hn.2 hi
        exact .of0 hR (s := Instr.index T v k) (by simp only [execOp, hop, e1, e2]) ⟨u, h2 w, nr_refl θ h1⟩
      · cases hu
  · rename_i T x k c hop
    rw [hop] at hE
    obtain ⟨v, u, hv, hu, h⟩ := with2_some h
    obtain ⟨r', hr, rfl⟩ := ofR_some h
    exact .of0 hR (s := Instr.lookup T (a.eval x) (a.eval k) c) (by simp only [execOp, hop]) (lookupE_ok hR (hE x (by simp [Op.operands]) v hv) (hE k (by simp [Op.operands]) u hu) hr)
  · rename_i T m k x hop
    rw [hop] at hE
    unfold mUpd at h
    split at h
    · rename_i u hu
      split at h
      · rename_i v hv
        split at h
        · rename_i y hy
          obtain ⟨S1, hr, rfl⟩ := ofS_some h
          exact .ofU (s := Instr.mapUpdate T (a.eval m) (a.eval k) (a.eval x)) (by simp only [execOp, hop]) (mapUpdE_ok hR (hE m (by simp [Op.operands]) u hu) (hE k (by simp [Op.operands]) v hv) (hE x (by simp [Op.operands]) y hy) hr)
        · cases h
      · cases h
    · cases h
  · rename_i T m k x hop
    rw [hop] at hE
    unfold mUpd at h
    split at h
    · rename_i u hu
      split at h
      · rename_i v hv
        split at h
        · rename_i y hy
          obtain ⟨S1, hr, rfl⟩ := ofS_some h
          exact .ofU (s := Instr.mapUpdate T (a.eval m) (a.eval k) (a.eval x)) (by simp only [execOp, hop]) (mapUpdE_ok hR (hE m (by simp [Op.operands]) u hu) (hE k (by simp [Op.operands]) v hv) (hE x (by simp [Op.operands]) y hy) hr)
        · cases h
      · cases h
    · cases h
  · rename_i T m k hop
    rw [hop] at hE
    obtain ⟨u, v, hu, hv, h⟩ := with2_some h
    obtain ⟨r', S1, hr, rfl⟩ := ofV_some h
    obtain ⟨w1, v', h1, h2, h3⟩ := mapEntryE_ok hR (hE m (by simp [Op.operands]) u hu) (hE k (by simp [Op.operands]) v hv) hr
    exact .of (s := Instr.mapEntry T (a.eval m) (a.eval k)) (by simp only [execOp, hop]) ⟨θ, w1, v', h1, h2, h3⟩
  · rename_i T m s x hop
    rw [hop] at hE
    unfold mEnt at h
    split at h
    · rename_i u hu
      split at h
      · rename_i v hv
        split at h
        · rename_i y hy
          obtain ⟨S1, hr, rfl⟩ := ofS_some h
          exact .ofU (s := Instr.entryStore T (a.eval m) (a.eval s) (a.eval x)) (by simp only [execOp, hop]) (entryStoreE_ok hR (hE m (by simp [Op.operands]) u hu) (hE s (by simp [Op.operands]) v hv) (hE x (by simp [Op.operands]) y hy) hr)
        · cases h
      · cases h
    · cases h
  · rename_i T x hop
    rw [hop] at hE
    obtain ⟨v, hv, h⟩ := with1_some h
    obtain ⟨u, S1, hu, rfl⟩ := ofV_some h
    exact .of (s := Instr.range T (a.eval x)) (by simp only [execOp, hop]) (rangeE_ok hR (hE x (by simp [Op.operands]) v hv) hu)
  · rename_i it hop
    rw [hop] at hE
    obtain ⟨v, hv, h⟩ := with1_some h
    obtain ⟨u, S1, hu, rfl⟩ := ofV_some h
    obtain ⟨w1, v', h1, h2, h3⟩ := nextE_ok (P := P) (t := o.type) hR (hE it (by simp [Op.operands]) v hv) hu
    exact .of (s := Instr.next (a.eval it) false o.type) (by simp only [execOp, hop]) ⟨θ, w1, v', h1, h2, h3⟩
  · rename_i it hop
    rw [hop] at hE
    obtain ⟨v, hv, h⟩ := with1_some h
    obtain ⟨u, hu, rfl⟩ := ofR_some h
    exact .of0 hR (s := Instr.entry (a.eval it)) (by simp only [execOp, hop]) (entryE_ok hR (hE it (by simp [Op.operands]) v hv) hu)
  · rename_i x xt at2 ok hop
    rw [hop] at hE
    obtain ⟨v, hv, h⟩ := with1_some h
    split at h
    · rename_i hn
      obtain ⟨r', hr, rfl⟩ := ofR_some h
      obtain ⟨h1, h2⟩ := pureV_some hr
      have e1 := nr_eq hn (hE x (by simp [Op.operands]) v hv)
      exact .of0 hR (s := Instr.typeAssert v xt at2 ok) (by simp only [execOp, hop, e1]) ⟨r', h2 w, nr_refl θ h1⟩
    · cases h
  · rename_i x i hop
    rw [hop] at hE
    obtain ⟨v, hv, h⟩ := with1_some h
    obtain ⟨u, hu, rfl⟩ := ofR_some h
    exact .of0 hR (s := Instr.extract (a.eval x) i) (by simp only [execOp, hop]) (extractE_ok (hE x (by simp [Op.operands]) v hv) hu w)
  · rename_i c hop
    have hE0 := hE
    rw [hop] at hE
    unfold mCall at h
    split at h
    · exact callE_ok hop hE hR h
    · split at h
      · rename_i r' hr
        cases h
        exact callE_ok hop hE hR hr
      · split at h
        · obtain ⟨v, hv, rfl⟩ := ofR_some h
          exact pureE_ok hE0 hR hv
        · cases h
    · cases h
  · rename_i c hop
    rw [hop] at hE
    unfold mDefer at h
    split at h
    · rename_i f hcal
      split at h
      · rename_i hargs
        have ha : c.args = #[] := by apply Array.ext'; simpa using hargs
        split at h
        · rename_i g u caps hf
          split at h
          · rename_i hu0
            cases h
            have hv := hE f (by simp [Op.operands, Call.operands, hcal]) _ hf
            generalize hX : a.eval f = X at hv
            cases hv with
            | fn _ h1 h2 h3 h4 =>
              rename_i xs' ys'
              have hu : u = #[] := by apply Array.ext'; simpa using hu0
              have hxs : xs' = #[] := Array.eq_empty_of_size_eq_zero (by rw [← h1, hu]; rfl)
              refine ⟨ys', ?_, VRl.of h2 h4⟩
              simp only [execOp, hop]
              simp [resolve, hcal, ha, hX, Deferred.ofValue, hxs]
          · cases h
        · cases h
      · cases h
    · cases h
  · cases h
end
end
end Go.Ce
