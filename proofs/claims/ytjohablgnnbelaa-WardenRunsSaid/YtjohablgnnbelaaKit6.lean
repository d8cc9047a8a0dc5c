/- Part 6: what the printed walks use besides. -/
import Derived.Test.YtjohablgnnbelaaKit5
namespace Go.Cf
open Go

def sLt (a b : ByteArray) : Bool := Op.bytesLess a.toList b.toList
def sEq (a b : ByteArray) : Bool := a.toList == b.toList
def iBits (f : ∀ n, BitVec n → BitVec n → BitVec n) (k : IntKind) (x y : Int) : Int := k.wrap (f k.bits (BitVec.ofInt k.bits x) (BitVec.ofInt k.bits y)).toNat
abbrev iAnd (k : IntKind) (x y : Int) : Int := iBits (fun _ a b => a &&& b) k x y
abbrev iOr (k : IntKind) (x y : Int) : Int := iBits (fun _ a b => a ||| b) k x y
abbrev iXor (k : IntKind) (x y : Int) : Int := iBits (fun _ a b => a ^^^ b) k x y
abbrev iAndNot (k : IntKind) (x y : Int) : Int := iBits (fun _ a b => a &&& ~~~b) k x y

def encs {α : Type} (t : FT α) (l : List α) : List Value := l.flatMap t.enc
theorem encs_length {α : Type} (t : FT α) (l : List α) : (encs t l).length = l.length * t.size := by
  induction l with
  | nil => simp [encs]
  | cons y l ih =>
    simp only [encs, List.flatMap_cons, List.length_append, List.length_cons, Nat.add_mul, Nat.one_mul] at ih ⊢
    rw [t.len, ih]; omega
theorem encs_one {α : Type} (t : FT α) (l : List α) : ∀ v ∈ encs t l, v.oneCell' = true := fun v hv => by
  obtain ⟨x, _, hx⟩ := List.mem_flatMap.1 hv
  exact t.one x v hx
theorem encs_at {α : Type} (t : FT α) : ∀ (l : List α) {i : Nat} {x : α}, l[i]? = some x → ∀ j v, (t.enc x)[j]? = some v → (encs t l)[i * t.size + j]? = some v := fun l => by
  induction l with
  | nil => intro i x hi; simp at hi
  | cons y l ih =>
    intro i x hi j v hj
    cases i with
    | zero =>
      simp only [List.getElem?_cons_zero, Option.some.injEq] at hi; subst hi
      rw [encs, List.flatMap_cons, Nat.zero_mul, Nat.zero_add, List.getElem?_append_left (List.getElem?_eq_some_iff.1 hj).1]; exact hj
    | succ i =>
      simp only [List.getElem?_cons_succ] at hi
      rw [encs, List.flatMap_cons, List.getElem?_append_right (by rw [t.len, Nat.add_mul, Nat.one_mul]; omega), t.len, Nat.add_mul, Nat.one_mul]
      rw [show i * t.size + t.size + j - t.size = i * t.size + j from by omega]
      exact ih hi j v hj

/-- stretches that are as long as they say, of plain cells -/
def segGood (s : Segs) : Prop := segsOk s ∧ ∀ u ∈ flat s, u.oneCell' = true
theorem sgNil : segGood [] := ⟨segsOk_nil, fun _ h => by cases h⟩
theorem sgV {v : Value} {s : Segs} (h : v.oneCell' = true) (r : segGood s) : segGood ((1, [v]) :: s) :=
  ⟨segsOk_cons.2 ⟨rfl, r.1⟩, fun u hu => by
    rcases List.mem_cons.1 (show u ∈ v :: flat s from hu) with rfl | hu
    · exact h
    · exact r.2 u hu⟩
theorem sgList {n : Nat} {l : List Value} {s : Segs} (hl : l.length = n) (h1 : ∀ u ∈ l, u.oneCell' = true) (r : segGood s) : segGood ((n, l) :: s) :=
  ⟨segsOk_cons.2 ⟨hl, r.1⟩, fun u hu => by
    rcases List.mem_append.1 (show u ∈ l ++ flat s from hu) with hu | hu
    · exact h1 u hu
    · exact r.2 u hu⟩
theorem sgEnc {α : Type} {t : FT α} {l : List α} {n m : Nat} {s : Segs} (h : l.length = n) (r : segGood s) (hm : n * t.size = m := by rfl) : segGood ((m, encs t l) :: s) :=
  sgList (by rw [encs_length, h, hm]) (encs_one t l) r

/-- an array of elements with references: its cells, and what they read as -/
def ArrP {α : Type} (t : Ty α) (κ : Gh) (w : World) (cs : List Value) (n : Nat) (l : List α) : Prop :=
  l.length = n ∧ cs.length = n * t.size ∧ (∀ v ∈ cs, v.oneCell' = true) ∧ ∀ i x, l[i]? = some x → t.rep κ w ((cs.drop (i * t.size)).take t.size) x
def Arr.mp {α : Type} (t : Ty α) (cs : List Value) (n : Nat) (l : List α) : MP :=
  ⟨fun κ w => ArrP t κ w cs n l, fun e h => ⟨h.1, h.2.1, h.2.2.1, fun i x hi => t.mono e (h.2.2.2 i x hi)⟩⟩
theorem sgArr {α : Type} {t : Ty α} {κ : Gh} {w : World} {cs : List Value} {n m : Nat} {l : List α} {s : Segs} (h : ArrP t κ w cs n l) (r : segGood s) (hm : n * t.size = m := by rfl) : segGood ((m, cs) :: s) :=
  sgList (by rw [h.2.1, hm]) h.2.2.1 r
theorem flatten_replicate_drop {α : Type} (n i : Nat) (z : List α) (h : i < n) : (((List.replicate n z).flatten).drop (i * z.length)).take z.length = z := by
  induction n generalizing i with
  | zero => omega
  | succ n ih =>
    rw [List.replicate_succ, List.flatten_cons]
    cases i with
    | zero => simp
    | succ i =>
      rw [show (i + 1) * z.length = z.length + i * z.length from by rw [Nat.add_mul]; omega, ← List.drop_drop, List.drop_left]
      exact ih i (by omega)
theorem Arr.zero {α : Type} (t : Ty α) (κ : Gh) (w : World) (n : Nat) (z : α) {zc : List Value} (hz : ∀ κ w, t.rep κ w zc z) : ArrP t κ w (List.replicate n zc).flatten n (List.replicate n z) := by
  have hl : zc.length = t.size := t.len (hz κ w)
  refine ⟨List.length_replicate, by simp [hl], fun v hv => ?_, fun i x hi => ?_⟩
  · obtain ⟨c, hc, hv⟩ := List.mem_flatten.1 hv
    rw [List.eq_of_mem_replicate hc] at hv
    exact t.one (hz κ w) v hv
  · have hlt : i < n := by have := (List.getElem?_eq_some_iff.1 hi).1; simpa using this
    have hx : x = z := List.eq_of_mem_replicate (List.mem_of_getElem? hi)
    subst hx
    rw [← hl, flatten_replicate_drop n i zc hlt]
    exact hz κ w

/-- a type of structs, by its stretches and the facts that its values want -/
def Ty.of {α H : Type} (n : Nat) (sg : H → α → Segs) (fs : H → α → List MP) (hg : ∀ h x κ w, (∀ m ∈ fs h x, m.p κ w) → segGood (sg h x)) (ht : ∀ h x, tot (sg h x) = n) : Ty α where
  size := n
  rep := fun κ w cs x => ∃ h, cs = flat (sg h x) ∧ ∀ m ∈ fs h x, m.p κ w
  len := fun {κ w cs x} ⟨h, hcs, hf⟩ => by rw [hcs, flat_length (hg h x κ w hf).1, ht]
  one := fun {κ w cs x} ⟨h, hcs, hf⟩ => by rw [hcs]; exact (hg h x κ w hf).2
  mono := fun e ⟨h, hcs, hf⟩ => ⟨h, hcs, fun m hm => m.mono e (hf m hm)⟩

section
variable {M : List Nat} {κ0 κ : Gh} {w0 w : World} {C C' : List Ck} {R R' : List MP} {N : Nat} {D : List Deferred} {L L' : FL} {a : Act}
theorem SS.adds (h : SS M κ0 w0 κ w C R) (hR : ∀ m ∈ R', m.p κ w) : SS M κ0 w0 κ w C (R' ++ R) :=
  h.facts fun m hm => (List.mem_append.1 hm).elim (hR m) (h.ro m)
theorem Fr.keep' (h : Fr N D L a) (ks : List Nat) (hL : Cf.keep L ks = L') : Fr N D L' a := hL ▸ h.keep ks
theorem SS.perm (h : SS M κ0 w0 κ w C R) (hp : C'.Perm C) : SS M κ0 w0 κ w C' R where
  ext := h.ext
  fresh := h.fresh
  ok := fun c hc => h.ok c (hp.mem_iff.1 hc)
  lt := fun b hb => h.lt b ((List.Perm.flatMap_right Ck.blks hp).mem_iff.1 hb)
  nd := (List.Perm.flatMap_right Ck.blks hp).nodup_iff.2 h.nd
  own := fun b hb => h.own b ((List.Perm.flatMap_right Ck.blks hp).mem_iff.1 hb)
  ro := h.ro
/-- pick chunks by their places -/
theorem pick_sub (C : List Ck) : ∀ (is : List Nat), is.Nodup → (blksOf C).Nodup → (blksOf (is.filterMap fun i => C[i]?)).Nodup ∧ ∀ b ∈ blksOf (is.filterMap fun i => C[i]?), ∃ i ∈ is, ∃ c, C[i]? = some c ∧ b ∈ c.blks := by
  intro is
  induction is with
  | nil => intro _ _; exact ⟨List.nodup_nil, fun b hb => by cases hb⟩
  | cons i is ih =>
    intro hn hC
    obtain ⟨hi, hn'⟩ := List.nodup_cons.1 hn
    obtain ⟨h1, h2⟩ := ih hn' hC
    cases hc : C[i]? with
    | none =>
      simp only [List.filterMap_cons, hc]
      exact ⟨h1, fun b hb => let ⟨j, hj, r⟩ := h2 b hb; ⟨j, List.mem_cons_of_mem _ hj, r⟩⟩
    | some c =>
      simp only [List.filterMap_cons, hc]
      have hcn : c.blks.Nodup := by
        obtain ⟨A, B, hAB⟩ := List.append_of_mem (List.mem_of_getElem? hc)
        rw [hAB, blksOf_append] at hC
        have := (List.nodup_append.1 hC).2.1
        exact (List.nodup_append.1 (show (c.blks ++ blksOf B).Nodup from this)).1
      refine ⟨?_, fun b hb => ?_⟩
      · show (c.blks ++ blksOf _).Nodup
        refine List.nodup_append.2 ⟨hcn, h1, fun x hx y hy => ?_⟩
        rintro rfl
        obtain ⟨j, hj, d, hd, hxd⟩ := h2 x hy
        -- two places of one block
        have hne : i ≠ j := fun e => hi (e ▸ hj)
        have key : ∀ (C : List Ck) (i j : Nat) (c d : Ck), C[i]? = some c → C[j]? = some d → i < j → x ∈ c.blks → x ∈ d.blks → ¬ (blksOf C).Nodup := by
          intro C
          induction C with
          | nil => intro i j c d hc; simp at hc
          | cons e C ihC =>
            intro i j c d hc hd hij hxc hxd hnd
            have hnd' : (e.blks ++ blksOf C).Nodup := hnd
            cases j with
            | zero => omega
            | succ j =>
              simp only [List.getElem?_cons_succ] at hd
              cases i with
              | zero =>
                simp only [List.getElem?_cons_zero, Option.some.injEq] at hc
                subst hc
                exact (List.nodup_append.1 hnd').2.2 x hxc x (List.mem_flatMap.2 ⟨d, List.mem_of_getElem? hd, hxd⟩) rfl
              | succ i =>
                simp only [List.getElem?_cons_succ] at hc
                exact ihC i j c d hc hd (by omega) hxc hxd (List.nodup_append.1 hnd').2.1
        rcases Nat.lt_or_ge i j with h | h
        · exact key C i j c d hc hd h hx hxd hC
        · exact key C j i d c hd hc (by omega) hxd hx hC
      · rcases List.mem_append.1 (show b ∈ c.blks ++ blksOf _ from hb) with hb | hb
        · exact ⟨i, by simp, c, hc, hb⟩
        · obtain ⟨j, hj, r⟩ := h2 b hb; exact ⟨j, List.mem_cons_of_mem _ hj, r⟩
theorem SS.selp (h : SS M κ0 w0 κ w C R) (is : List Nat) (hn : is.Nodup) (hC : (is.filterMap fun i => C[i]?) = C') : SS M κ0 w0 κ w C' R := by
  subst hC
  obtain ⟨h1, h2⟩ := pick_sub C is hn h.nd
  have hin : ∀ b ∈ blksOf (is.filterMap fun i => C[i]?), b ∈ blksOf C := fun b hb => by
    obtain ⟨i, _, c, hc, hbc⟩ := h2 b hb
    exact List.mem_flatMap.2 ⟨c, List.mem_of_getElem? hc, hbc⟩
  refine ⟨h.ext, h.fresh, fun c hc => ?_, fun b hb => h.lt b (hin b hb), h1, fun b hb => h.own b (hin b hb), h.ro⟩
  obtain ⟨i, _, hi⟩ := List.mem_filterMap.1 hc
  exact h.ck i hi
/-- chunks that are handed back -/
theorem SS.newC (h : SS [] κ0 w0 κ w C R) (is : List Nat) (hn : is.Nodup) (hC : (is.filterMap fun i => C[i]?) = C') : NewC w0 κ w C' := by
  have h' := h.selp is hn hC
  exact ⟨h'.ok, h'.nd, fun b hb => ⟨(h'.own b hb).elim id (fun h => by cases h), h'.lt b hb⟩⟩
end
end Go.Cf
