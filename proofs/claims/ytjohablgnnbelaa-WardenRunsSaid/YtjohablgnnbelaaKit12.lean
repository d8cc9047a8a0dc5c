/- Part 12: ranges over functions: the iterator's side (a yield), the caller's side (the statement, its rounds, its end). -/
import Derived.Test.YtjohablgnnbelaaKit11
import Derived.RangeFuncIn
import Derived.RangeFuncRecord
import Derived.RangeFuncSeq
import Derived.RangeFuncLeaves
namespace Go.Cf
open Go

section
variable {M : List Nat} {κ0 κ κ' : Gh} {w0 w w' : World} {C C' : List Ck} {R R' : List MP}
/-- a step that turns blocks that none of the chunks has -/
theorem SS.stepM (h : SS M κ0 w0 κ w C R) {M' : List Nat} (he : Ext M' κ w κ' w') (hf : Fresh κ' w') (hM : ∀ b ∈ M', w0.heap.size ≤ b ∨ b ∈ M) (hd : ∀ b ∈ blksOf C, b ∉ M') : SS M κ0 w0 κ' w' C R where
  ext := h.ext.trans' he hM
  fresh := hf
  ok := fun c hc => Ck.ok_keep (h.ok c hc) (fun b hb => h.lt b (List.mem_flatMap.2 ⟨c, hc, hb⟩)) he fun b hb => hd b (List.mem_flatMap.2 ⟨c, hc, hb⟩)
  lt := fun b hb => Nat.lt_of_lt_of_le (h.lt b hb) he.size
  nd := h.nd
  own := h.own
  ro := fun m hm => m.mono he (h.ro m hm)
/-- the history is let go -/
theorem SS.rebase (h : SS M κ0 w0 κ w C R) : SS (blksOf C) κ w κ w C R := ⟨.refl _ _ _, h.fresh, h.ok, h.lt, h.nd, fun _ hb => .inr hb, h.ro⟩

def notCells (o : Obj) : Prop := ∀ c t fr, o ≠ .cells c t fr
theorem Ext.put {l : Nat} {o o' : Obj} (h : w.heap[l]? = some o') (hk : κ l = none) (ho' : notCells o') (ho : notCells o) : Ext [l] κ w κ (w.putObj l o) where
  os := rfl
  out := rfl
  tape := rfl
  size := by simp
  fz := fun a => by
    have hl : l < w.heap.size := (Array.getElem?_eq_some_iff.1 h).1
    unfold World.frozen?
    by_cases e : a.block = l
    · rw [e, h, World.putObj_heap_same hl]
      cases o with
      | cells c t fr => exact absurd rfl (ho c t fr)
      | _ => cases o' with
        | cells c t fr => exact absurd rfl (ho' c t fr)
        | _ => rfl
    · rw [World.putObj_heap_other e]
  keep := fun b _ hb => ⟨World.putObj_heap_other (by simpa using hb), rfl⟩
  pub := fun b n hn => ⟨n, hn, Nat.le_refl _, fun i _ => cell_of_heap (World.putObj_heap_other fun e => by rw [e, hk] at hn; cases hn)⟩
theorem Ext.allocN (hf : Fresh κ w) (o : Obj) (ho : notCells o) : Ext [] κ w κ (w.alloc o) where
  os := rfl
  out := rfl
  tape := rfl
  size := by rw [size_alloc]; omega
  fz := fun a => by
    unfold World.frozen?
    rcases Nat.lt_trichotomy a.block w.heap.size with h | h | h
    · rw [heap_alloc_old w o _ h]
    · rw [h, heap_alloc_new, show w.heap[w.heap.size]? = none from by simp]
      cases o with
      | cells c t fr => exact absurd rfl (ho c t fr)
      | _ => rfl
    · rw [show (w.alloc o).heap[a.block]? = none from Array.getElem?_eq_none (by rw [size_alloc]; omega), show w.heap[a.block]? = none from Array.getElem?_eq_none (by omega)]
  keep := fun b hb _ => ⟨heap_alloc_old w o b hb, rfl⟩
  pub := fun b n hn => ⟨n, hn, Nat.le_refl _, fun i _ => cell_of_heap (heap_alloc_old w o b (by
    rcases Nat.lt_or_ge b w.heap.size with h | h
    · exact h
    · rw [hf b h] at hn; cases hn))⟩

/-- what the caller of an iterator keeps between rounds: the block of the deferred calls, the loop's record, his chunks and facts -/
def mkX (r l : Nat) (rc : Loop) (C : List Ck) (R : List MP) : XF where
  bs := r :: l :: blksOf C
  p := fun κ w => (w.heap[r]? = some (.deferred (some [])) ∧ κ r = none) ∧ (w.heap[l]? = some (.loop rc) ∧ κ l = none) ∧ (∀ c ∈ C, c.ok κ w) ∧ ∀ m ∈ R, m.p κ w
  mono := fun {M κ w κ' w'} he hb ⟨⟨h1, h2⟩, ⟨h3, h4⟩, h5, h6⟩ => by
    obtain ⟨r1, r2⟩ := hb r (by simp)
    obtain ⟨l1, l2⟩ := hb l (by simp)
    obtain ⟨k1, k2⟩ := he.keep r r1 r2
    obtain ⟨k3, k4⟩ := he.keep l l1 l2
    have hin : ∀ c ∈ C, ∀ b ∈ c.blks, b < w.heap.size ∧ b ∉ M := fun c hc b hbc => hb b (by
      simp only [List.mem_cons]; exact .inr (.inr (List.mem_flatMap.2 ⟨c, hc, hbc⟩)))
    exact ⟨⟨k1.trans h1, k2.trans h2⟩, ⟨k3.trans h3, k4.trans h4⟩, fun c hc => Ck.ok_keep (h5 c hc) (fun b hbc => (hin c hc b hbc).1) he fun b hbc => (hin c hc b hbc).2, fun m hm => m.mono he (h6 m hm)⟩
/-- the block of the deferred calls, alone -/
def defX (r : Nat) : XF where
  bs := [r]
  p := fun κ w => w.heap[r]? = some (.deferred (some [])) ∧ κ r = none
  mono := fun {M κ w κ' w'} he hb ⟨h1, h2⟩ => by
    obtain ⟨r1, r2⟩ := hb r (by simp)
    obtain ⟨k1, k2⟩ := he.keep r r1 r2
    exact ⟨k1.trans h1, k2.trans h2⟩

/-- what a round owes: it hands back c, and what the caller keeps has gone on to s' -/
def RoundOk {σ : Type} (P : Program) (l : Nat) (Y : σ → XF → Prop) (args : Array Value) (x : XF) (s' : σ) (c : Bool) (κ : Gh) (w : World) : Prop :=
  YieldAt (FW none) 0 P l args w fun e w' => e = .returned (.bool c) ∧ ∃ κ' x', Y s' x' ∧ Ext x.bs κ w κ' w' ∧ Fresh κ' w' ∧ x'.p κ' w' ∧ x'.bs.Nodup ∧ ∀ b ∈ x'.bs, (b ∈ x.bs ∨ w.heap.size ≤ b) ∧ b < w'.heap.size
end

section
variable {ro : Option Nat} {P : Program} {ops : Array Oper} {Q : Exit → Act → World → Prop} {N : Nat} {D : List Deferred} {L L' : FL} {a : Act} {w : World} {o : Oper} {K : Act → World → Prop}
variable {M : List Nat} {κ0 κ : Gh} {w0 : World} {C C' : List Ck} {R R' : List MP}
theorem exec_yield {g : Operand} {xs : Array Operand} {tys : Array TypeId} {l : Nat} {args : Array Value} (hop : o.op = .call { callee := .value g, args := xs, argTypes := tys }) (hg : ev L g = some (.func (.yield l) #[] #[])) (hx : xs.map (evD L) = args) :
    (execOp (evD L) o).run P w = (Instr.yield l args).run P w := by
  subst hx
  simp [execOp, hop, resolve, invoke, evD, hg, go_sem]
/-- a yield, out of an iterator: the caller's round is run -/
theorem wo_yield {σ : Type} {Y : σ → XF → Prop} (hF : Fr N D L a) (hS : SS M κ0 w0 κ w C R) (hc : okOp N L o = true) (i : Nat) {x : XF} {g : Operand} {xs : Array Operand} {tys : Array TypeId} {l : Nat} {args : Array Value} {s' : σ} {c : Bool}
    (hop : o.op = .call { callee := .value g, args := xs, argTypes := tys }) (hg : ev L g = some (.func (.yield l) #[] #[])) (hx : xs.map (evD L) = args) (hC : C[i]? = some (.ext x))
    (hY : x.p κ w → Fresh κ w → x.bs.Nodup → (∀ b ∈ x.bs, b < w.heap.size) → RoundOk P l Y args x s' c κ w)
    (kk : ∀ x' κ' w' a', Y s' x' → Fr N D (upd L o.dst (.bool c)) a' → SS M κ0 w0 κ' w' (C.set i (.ext x')) R → K a' w') : wo ro P o a w K Q := by
  obtain ⟨A, B, hAB, hAl⟩ : ∃ A B, C = A ++ .ext x :: B ∧ A.length = i := by
    have hi := (List.getElem?_eq_some_iff.1 hC).1
    refine ⟨C.take i, C.drop (i + 1), ?_, by simp; omega⟩
    have := (List.getElem?_eq_some_iff.1 hC).2
    rw [← this]; simp
  have hok : x.p κ w := hS.ck i hC
  have hnd : x.bs.Nodup := by
    have := hS.nd
    rw [hAB, blksOf_append] at this
    exact (List.nodup_append.1 (show (x.bs ++ blksOf B).Nodup from (List.nodup_append.1 this).2.1)).1
  have hlt : ∀ b ∈ x.bs, b < w.heap.size := fun b hb => hS.lt b (List.mem_flatMap.2 ⟨.ext x, List.mem_of_getElem? hC, hb⟩)
  obtain ⟨fn, tmps, assign, body, hy, hR⟩ := hY hok hS.fresh hnd hlt
  have hc0 := hc
  simp only [okOp, Bool.and_eq_true] at hc
  refine ⟨fun _ _ => trivial, ?_⟩
  show o.uponIn (FW ro) 0 P a K Q ((o.semAt ro a.eval).run P w)
  rw [semAt_eq hF hc.1.1 hc.1.2, exec_yield hop hg hx, hy]
  refine ⟨fun hd => by simp [FW] at hd, ?_⟩
  have hR' : RoundIn (FW ro) (0 - 1) P l fn tmps assign body w _ := hR
  refine RoundIn.mono hR' fun e w' ⟨he, κ', x', hYx, hext, hfr, hp, hnd', hbs⟩ => ?_
  subst he
  have hset : C.set i (.ext x') = A ++ .ext x' :: B := by
    subst hAl; rw [hAB]; simp
  refine kk x' κ' w' _ hYx (hF.put _ _ (okDst_spec hc.2)) ?_
  rw [hset]
  exact hS.turn A B hAB (c := .ext x) (c' := .ext x') hext hfr hp (fun b hb => (hbs b hb).1) (fun b hb => (hbs b hb).2) hnd'

/-! ### the end of a function whose body ranged over a function -/
/-- what a body that ranged over a function must come to; it does not panic -/
def postM (P : Program) (fn : Func) (R : Ending → World → Prop) : Exit → Act → World → Prop
  | .normal, a, w | .ret, a, w => LeavesInM (FW none) 0 P fn a.tmps R a.defers .returning w
  | _, _, _ => False
theorem enterM {f : FuncId} {fn : Func} {c : Code} {args : Array Value} {R : Ending → World → Prop} (hf : P.funcs[f]? = some fn) (hb : fn.body = some c) (hn : fn.ntmps = N) (hs : args.size ≤ N) (hL : argsL args = L)
    (h : ∀ a, Fr N [] L a → c.wpIn (FW none) 0 P (postM P fn R) a w) : Calls P f args w R := by
  refine (callsIn_wide (n := 0)).1 ?_
  have : CallsIn (FW none) 0 P f args w R := by
    refine callsIn_of_wp_marks hf hb trivial ?_ rfl
    refine Go.wpIn_mono (h _ ⟨rfl, by simp [hn]; omega, fun t v ht => ?_⟩) fun e a w he => by cases e <;> first | exact he | exact he.elim
    subst hL
    obtain ⟨_, h2⟩ := lookup_argsL args.toList 0 t v ht
    simp only [Nat.sub_zero] at h2
    have h3 : args[t]? = some v := by simpa using h2
    have hlt : t < args.size := by
      rcases Nat.lt_or_ge t args.size with h | h
      · exact h
      · rw [Array.getElem?_eq_none h] at h3; cases h3
    rw [Array.getElem?_append_left hlt]; exact h3
  exact this
def mark (r : Nat) : Deferred := { target := .collected r, args := #[] }
theorem ret_doneM {fn : Func} {φ : Value → Gh → World → Prop} {r : Nat} (hF : Fr N [mark r] L a) (hS : SS M κ0 w0 κ w C R) (i : Nat) (hC : C[i]? = some (.ext (defX r))) (hi : C.eraseIdx i = C')
    (k : ∀ w', SS M κ0 w0 κ w' C' R → ∃ v, (results fn a.tmps).run P w' = .ok v w' ∧ φ v κ w') : postM P fn (Post M κ0 w0 φ) .ret a w := by
  have hp : w.heap[r]? = some (.deferred (some [])) ∧ κ r = none := hS.ck i hC
  obtain ⟨A, B, hAB, hAl⟩ : ∃ A B, C = A ++ .ext (defX r) :: B ∧ A.length = i := by
    have hi := (List.getElem?_eq_some_iff.1 hC).1
    refine ⟨C.take i, C.drop (i + 1), ?_, by simp; omega⟩
    have := (List.getElem?_eq_some_iff.1 hC).2
    rw [← this]; simp
  have hC' : C' = A ++ B := by rw [← hi, hAB, ← hAl]; simp [List.eraseIdx_append_of_length_le]
  have hnd : (blksOf A ++ (r :: blksOf B)).Nodup := by
    have := hS.nd
    rw [hAB, blksOf_append] at this
    exact this
  have hrM : w0.heap.size ≤ r ∨ r ∈ M := hS.own r (by rw [hAB, blksOf_append]; exact List.mem_append.2 (.inr (List.mem_append.2 (.inl (by simp [Ck.blks, defX])))))
  have hS1 : SS M κ0 w0 κ w C' R := hS.drop (by rw [hC', hAB]; simp)
  have he : Ext [r] κ w κ (w.putObj r (.deferred none)) := Ext.put hp.1 hp.2 (fun c t fr h => by cases h) (fun c t fr h => by cases h)
  have hS2 : SS M κ0 w0 κ (w.putObj r (.deferred none)) C' R := hS1.stepM he (fun b hb => hS.fresh b (by simpa using hb)) (fun b hb => by simp only [List.mem_singleton] at hb; subst hb; exact hrM) fun b hb hbr => by
    simp only [List.mem_singleton] at hbr
    subst hbr
    rw [hC', blksOf_append] at hb
    have h2 := List.nodup_append.1 hnd
    rcases List.mem_append.1 hb with hb | hb
    · exact h2.2.2 _ hb _ (by simp) rfl
    · exact (List.nodup_cons.1 h2.2.1).1 hb
  obtain ⟨v, hv, hφ⟩ := k _ hS2
  show LeavesInM (FW none) 0 P fn a.tmps (Post M κ0 w0 φ) a.defers .returning w
  rw [hF.defers]
  exact ⟨by simp, .inl ⟨r, _, rfl, run_takeDeferred hp.1, ⟨v, hv, v, κ, rfl, hS2.ext, hS2.fresh, hφ⟩⟩⟩
theorem SS.moreM {M' : List Nat} (h : SS M κ0 w0 κ w C R) (hM : ∀ b ∈ M, b ∈ M') : SS M' κ0 w0 κ w C R :=
  ⟨h.ext.weaken fun b hb _ => hM b hb, h.fresh, h.ok, h.lt, h.nd, fun b hb => (h.own b hb).imp id (hM b), h.ro⟩
theorem nodup_ext {bs : List Nat} {C : List Ck} {r l : Nat} (hr : r ≠ l) (h1 : (blksOf C).Nodup) (h2 : r ∉ blksOf C) (h3 : l ∉ blksOf C) : (r :: l :: blksOf C).Nodup :=
  List.nodup_cons.2 ⟨by simp [hr, h2], List.nodup_cons.2 ⟨h3, h1⟩⟩
/-- how a round may end -/
def RE {σ : Type} (Y : σ → XF → Prop) (s' : σ) (c : Bool) (r l : Nat) (rc : Loop) (κb : Gh) (wb : World) (Cb : List Ck) (jump : Option Code) (w3 : World) : Prop :=
  ∃ κ3 C3 R3, SS (blksOf Cb) κb wb κ3 w3 C3 R3 ∧ c = jump.isNone ∧ Y s' (mkX r l { rc with state := if jump.isNone then .ready else .done, pending := jump } C3 R3)
def roundExit {σ : Type} (Y : σ → XF → Prop) (s' : σ) (c : Bool) (r l : Nat) (rc : Loop) (κb : Gh) (wb : World) (Cb : List Ck) : Exit → Act → World → Prop
  | .normal, _, w => RE Y s' c r l rc κb wb Cb none w
  | .ret, _, w => RE Y s' c r l rc κb wb Cb (some .ret) w
  | .exit id, _, w => RE Y s' c r l rc κb wb Cb (some (.exit id)) w
  | .goto t, _, w => RE Y s' c r l rc κb wb Cb (some (.goto t)) w
  | _, _, _ => False
theorem round_ok {σ : Type} {Y : σ → XF → Prop} {r l : Nat} {rc : Loop} {args : Array Value} {s' : σ} {c : Bool} (hp : (mkX r l rc C R).p κ w) (hf : Fresh κ w) (hnd : (mkX r l rc C R).bs.Nodup) (hlt : ∀ b ∈ (mkX r l rc C R).bs, b < w.heap.size)
    (hst : rc.state = .ready) (hargs : args.size = rc.params.size) (hFr : Fr N [] L { tmps := (rc.params.zip args).foldl (fun tmps (t, a) => tmps.setIfInBounds t a) rc.tmps, defers := [] })
    (h : ∀ a, Fr N [] L a → SS (blksOf C) κ w κ w C R → rc.assign.wpIn (FW (some l)) 0 P (Exit.then (fun a1 w1 => ∃ κ1 C1 R1, SS (blksOf C) κ w κ1 w1 C1 R1 ∧ ∀ w2, SS (blksOf C1) κ1 w2 κ1 w2 C1 R1 →
      rc.body.wpIn (FW (some l)) 0 P (roundExit Y s' c r l rc κ1 w2 C1) a1 w2) (fun _ _ _ => False)) a w) : RoundOk P l Y args (mkX r l rc C R) s' c κ w := by
  obtain ⟨⟨hr1, hr2⟩, ⟨hl1, hl2⟩, hok, hro⟩ := hp
  have hnd' : (r :: l :: blksOf C).Nodup := hnd
  obtain ⟨hn1, hn2⟩ := List.nodup_cons.1 hnd'
  obtain ⟨hn3, hn4⟩ := List.nodup_cons.1 hn2
  simp only [List.mem_cons, not_or] at hn1
  obtain ⟨hrl, hrC⟩ := hn1
  have hrlt : r < w.heap.size := hlt r (by simp [mkX])
  have hllt : l < w.heap.size := hlt l (by simp [mkX])
  have hS0 : SS (blksOf C) κ w κ w C R := ⟨.refl _ _ _, hf, hok, fun b hb => hlt b (by simp [mkX, hb]), hn4, fun _ hb => .inr hb, hro⟩
  refine ⟨rc.fn, _, rc.assign, rc.body, run_yield hl1 hargs, ?_⟩
  refine roundIn_of_wpIn trivial ?_
  refine Go.wpIn_mono (h _ hFr hS0) fun e a1 w1 he => ?_
  cases e with
  | normal =>
    obtain ⟨κ1, C1, R1, hS1, hbody⟩ := he
    obtain ⟨hl1', hl2'⟩ := hS1.ext.keep l hllt hn3
    have hl1w := hl1'.trans hl1
    have hlk1 := hl2'.trans hl2
    have hnot : ∀ q, q < w.heap.size → q ∉ blksOf C → q ∉ blksOf C1 := fun q hq hqC hq1 => (hS1.own q hq1).elim (fun h => by omega) hqC
    have hlC1 := hnot l hllt hn3
    have hrC1 := hnot r hrlt hrC
    have hlt1 : l < w1.heap.size := Nat.lt_of_lt_of_le hllt hS1.ext.size
    have e2 : Ext [l] κ1 w1 κ1 (w1.putObj l (.loop { rc with state := .busy })) := Ext.put hl1w hlk1 (fun c t fr h => by cases h) (fun c t fr h => by cases h)
    have hS2 : SS (blksOf C1) κ1 (w1.putObj l (.loop { rc with state := .busy })) κ1 (w1.putObj l (.loop { rc with state := .busy })) C1 R1 :=
      ((hS1.rebase.moreM (M' := l :: blksOf C1) (fun b hb => List.mem_cons_of_mem _ hb)).stepM e2 (fun b hb => hS1.fresh b (by simpa using hb)) (fun b hb => .inr (by simp only [List.mem_singleton] at hb; subst hb; simp)) (fun b hb hbl => by
        simp only [List.mem_singleton] at hbl; subst hbl; exact hlC1 hb)).rebase
    refine ⟨_, run_beginRound hl1w hst, Go.wpIn_mono (hbody _ hS2) fun e3 a3 w3 he3 => ?_⟩
    have fin : ∀ jump, RE Y s' c r l rc κ1 (w1.putObj l (.loop { rc with state := .busy })) C1 jump w3 → ∃ v w', (Instr.endRound l jump).run P w3 = .ok v w' ∧ (Ending.returned v = .returned (.bool c) ∧
        ∃ κ' x', Y s' x' ∧ Ext (mkX r l rc C R).bs κ w κ' w' ∧ Fresh κ' w' ∧ x'.p κ' w' ∧ x'.bs.Nodup ∧ ∀ b ∈ x'.bs, (b ∈ (mkX r l rc C R).bs ∨ w.heap.size ≤ b) ∧ b < w'.heap.size) := by
      rintro jump ⟨κ3, C3, R3, hS3, hcj, hYs⟩
      have hsz2 : (w1.putObj l (.loop { rc with state := .busy })).heap.size = w1.heap.size := by simp
      have hl3 : w3.heap[l]? = some (.loop { rc with state := .busy }) := ((hS3.ext.keep l (by rw [hsz2]; exact hlt1) hlC1).1).trans (World.putObj_heap_same hlt1)
      have hlk3 : κ3 l = none := ((hS3.ext.keep l (by rw [hsz2]; exact hlt1) hlC1).2).trans hlk1
      have hrlt1 : r < w1.heap.size := Nat.lt_of_lt_of_le hrlt hS1.ext.size
      have hr3 : w3.heap[r]? = some (.deferred (some [])) := ((hS3.ext.keep r (by rw [hsz2]; exact hrlt1) hrC1).1).trans ((World.putObj_heap_other hrl).trans ((hS1.ext.keep r hrlt hrC).1.trans hr1))
      have hrk3 : κ3 r = none := ((hS3.ext.keep r (by rw [hsz2]; exact hrlt1) hrC1).2).trans ((hS1.ext.keep r hrlt hrC).2.trans hr2)
      have hsz3 : w1.heap.size ≤ w3.heap.size := by rw [← hsz2]; exact hS3.ext.size
      have hlt3 : l < w3.heap.size := by omega
      have e4 : Ext [l] κ3 w3 κ3 (w3.putObj l (.loop { rc with state := if jump.isNone then .ready else .done, pending := jump })) := Ext.put hl3 hlk3 (fun c t fr h => by cases h) (fun c t fr h => by cases h)
      have hnot3 : ∀ q, q < w.heap.size → q ∉ blksOf C → q ∉ blksOf C3 := fun q hq hqC hq3 => (hS3.own q hq3).elim (fun h => by rw [hsz2] at h; have := hS1.ext.size; omega) (hnot q hq hqC)
      have hlC3 := hnot3 l hllt hn3
      have hrC3 := hnot3 r hrlt hrC
      have hS4 : SS (l :: blksOf C3) κ3 w3 κ3 (w3.putObj l (.loop { rc with state := if jump.isNone then .ready else .done, pending := jump })) C3 R3 :=
        (hS3.rebase.moreM (M' := l :: blksOf C3) (fun b hb => List.mem_cons_of_mem _ hb)).stepM e4 (fun b hb => hS3.fresh b (by simpa using hb)) (fun b hb => .inr (by simp only [List.mem_singleton] at hb; subst hb; simp)) (fun b hb hbl => by
          simp only [List.mem_singleton] at hbl; subst hbl; exact hlC3 hb)
      have h12 : Ext (r :: l :: blksOf C) κ w κ1 (w1.putObj l (.loop { rc with state := .busy })) := (hS1.ext.weaken fun b hb _ => by simp [hb]).trans' e2 fun b hb => .inr (by simp only [List.mem_singleton] at hb; simp [hb])
      have h13 : Ext (r :: l :: blksOf C) κ w κ3 w3 := h12.trans' hS3.ext fun b hb => (hS1.own b hb).imp id fun h => by simp [h]
      have h14 := h13.trans' e4 fun b hb => .inr (by simp only [List.mem_singleton] at hb; simp [hb])
      refine ⟨.bool jump.isNone, _, run_endRound jump hl3, by rw [hcj], κ3, _, hYs, h14, hS4.fresh, ⟨⟨(World.putObj_heap_other hrl).trans hr3, hrk3⟩, ⟨World.putObj_heap_same hlt3, hlk3⟩, hS4.ok, hS4.ro⟩, nodup_ext (bs := []) hrl hS3.nd hrC3 hlC3, fun b hb => ?_⟩
      simp only [mkX, List.mem_cons] at hb ⊢
      rcases hb with rfl | rfl | hb
      · exact ⟨.inl (.inl rfl), by simp; omega⟩
      · exact ⟨.inl (.inr (.inl rfl)), by simp; omega⟩
      · refine ⟨?_, hS4.lt b hb⟩
        rcases hS3.own b hb with h | h
        · exact .inr (by rw [hsz2] at h; exact Nat.le_trans hS1.ext.size h)
        · exact (hS1.own b h).elim .inr fun h => .inl (.inr (.inr h))
    cases e3 with
    | normal => exact fin none he3
    | ret => exact fin _ he3
    | exit id => exact fin _ he3
    | goto t => exact fin _ he3
    | panic _ => exact he3.elim
    | outgrown => exact he3.elim
  | _ => exact he.elim

/-! ### the statement -/
theorem SS.pack {r l : Nat} {rc : Loop} {Cap : List Ck} (h : SS M κ0 w0 κ w (.ext (mkX r l rc [] []) :: (C ++ Cap)) R) (hR : ∀ m ∈ R', m.p κ w) : SS M κ0 w0 κ w (.ext (mkX r l rc C R') :: Cap) R := by
  have hb : blksOf (.ext (mkX r l rc C R') :: Cap) = blksOf (.ext (mkX r l rc [] []) :: (C ++ Cap)) := by simp [blksOf, Ck.blks, mkX]
  refine ⟨h.ext, h.fresh, fun c hc => ?_, fun b hb' => h.lt b (hb ▸ hb'), hb ▸ h.nd, fun b hb' => h.own b (hb ▸ hb'), h.ro⟩
  rcases List.mem_cons.1 hc with rfl | hc
  · obtain ⟨h1, h2, _, _⟩ := (h.ok (.ext (mkX r l rc [] [])) (by simp) : (mkX r l rc [] []).p κ w)
    exact ⟨h1, h2, fun c hc => h.ok c (by simp [hc]), hR⟩
  · exact h.ok c (by simp [hc])
theorem SS.back {w1 : World} {κ' : Gh} {w' : World} {x : XF} (h : SS M κ0 w0 κ w1 C R) (h2 : SS (blksOf C) κ w1 κ' w' [.ext x] []) : SS M κ0 w0 κ' w' [.ext x] R where
  ext := h.ext.trans' h2.ext fun b hb => h.own b hb
  fresh := h2.fresh
  ok := h2.ok
  lt := h2.lt
  nd := h2.nd
  own := fun b hb => (h2.own b hb).elim (fun h3 => .inl (Nat.le_trans h.ext.size h3)) (h.own b)
  ro := fun m hm => m.mono h2.ext (h.ro m hm)
/-- the record is shut; what was kept is at hand again -/
theorem SS.shut {r l : Nat} {rc : Loop} (h : SS M κ0 w0 κ w [.ext (mkX r l rc C R')] R) (hb : rc.state ≠ .busy) :
    ∃ w', (Instr.endLoop l).run P w = .ok rc.pending w' ∧ SS M κ0 w0 κ w' (.ext (defX r) :: C) (R' ++ R) := by
  obtain ⟨⟨hr1, hr2⟩, ⟨hl1, hl2⟩, hok, hro⟩ := (h.ok (.ext (mkX r l rc C R')) (by simp) : (mkX r l rc C R').p κ w)
  have hbl : blksOf [.ext (mkX r l rc C R')] = r :: l :: blksOf C := by simp [blksOf, Ck.blks, mkX]
  have hnd := h.nd
  rw [hbl] at hnd
  obtain ⟨hn1, hn2⟩ := List.nodup_cons.1 hnd
  obtain ⟨hn3, hn4⟩ := List.nodup_cons.1 hn2
  simp only [List.mem_cons, not_or] at hn1
  have hlo := h.own l (by rw [hbl]; simp)
  have hin : ∀ b, b ∈ r :: blksOf C → b ∈ blksOf [.ext (mkX r l rc C R')] := fun b hb => by
    rw [hbl]; rcases List.mem_cons.1 hb with rfl | hb <;> simp [*]
  have h1 : SS M κ0 w0 κ w (.ext (defX r) :: C) (R' ++ R) :=
    ⟨h.ext, h.fresh, fun c hc => by
      rcases List.mem_cons.1 hc with rfl | hc
      · exact ⟨hr1, hr2⟩
      · exact hok c hc, fun b hb => h.lt b (hin b hb), List.nodup_cons.2 ⟨hn1.2, hn4⟩, fun b hb => h.own b (hin b hb), fun m hm => (List.mem_append.1 hm).elim (hro m) (h.ro m)⟩
  have e : Ext [l] κ w κ (w.putObj l (.loop { rc with state := .exhausted })) := Ext.put hl1 hl2 (fun c t fr h => by cases h) (fun c t fr h => by cases h)
  refine ⟨_, run_endLoop hl1 hb, h1.stepM e (fun b hb => h.fresh b (by simpa using hb)) (fun b hb => by simp only [List.mem_singleton] at hb; subst hb; exact hlo) fun b hb hbl' => ?_⟩
  simp only [List.mem_singleton] at hbl'
  subst hbl'
  rcases List.mem_cons.1 (show b ∈ r :: blksOf C from hb) with rfl | hb
  · exact hn1.1 rfl
  · exact hn3 hb
theorem wp_range {Cap : List Ck} {g : Operand} {ps : Array Tmp} {assign body : Code} {f : FuncId} {caps : Array Value} (hF : Fr N [] L a) (hS : SS M κ0 w0 κ w (C ++ Cap) R) (hcov : ev L g = some (.func (.func f) #[] caps)) (hf : ∀ args w, (callFunc f args).run P w = .ok (.enter f args) w) (hR : ∀ m ∈ R', m.p κ w)
    (h : ∀ r l fn w1, SS M κ0 w0 κ w1 (.ext (mkX r l { state := .ready, pending := none, fn := fn, tmps := a.tmps, params := ps, assign := assign, body := body, defers := r } C R') :: Cap) R →
      ∃ Yf : XF → Prop, Calls P f (#[.func (.yield l) #[] #[]] ++ caps) w1 (Post (blksOf (.ext (mkX r l { state := .ready, pending := none, fn := fn, tmps := a.tmps, params := ps, assign := assign, body := body, defers := r } C R') :: Cap)) κ w1 fun _ κ' w' =>
          ∃ x, Yf x ∧ SS (blksOf (.ext (mkX r l { state := .ready, pending := none, fn := fn, tmps := a.tmps, params := ps, assign := assign, body := body, defers := r } C R') :: Cap)) κ w1 κ' w' [.ext x] []) ∧
        ∀ x, Yf x → ∃ rc' C'' R'', x = mkX r l rc' C'' R'' ∧ rc'.state ≠ .busy ∧ ∀ κ' w' a', Fr N [mark r] L a' → SS M κ0 w0 κ' w' (.ext (defX r) :: C'') (R'' ++ R) →
          (match rc'.pending with | none => Q .normal a' w' | some c => c.wpIn (FW none) 0 P Q a' w')) :
    (Code.rangeFunc g ps assign body).wpIn (FW none) 0 P Q a w := by
  refine wpIn_rangeFunc fun fn _ => ?_
  let rc : Loop := { state := .ready, pending := none, fn := fn, tmps := a.tmps, params := ps, assign := assign, body := body, defers := w.heap.size }
  have hS1 := (hS.step (Ext.allocN hS.fresh (.deferred (some [])) (fun c t fr h => by cases h)) (hS.fresh.alloc _))
  have hS2 := (hS1.step (Ext.allocN hS1.fresh (.loop rc) (fun c t fr h => by cases h)) (hS1.fresh.alloc _))
  have hsz1 : (w.alloc (.deferred (some []))).heap.size = w.heap.size + 1 := size_alloc _ _
  have hr : ((w.alloc (.deferred (some []))).alloc (.loop rc)).heap[w.heap.size]? = some (.deferred (some [])) := (heap_alloc_old _ _ _ (by rw [hsz1]; omega)).trans (heap_alloc_new _ _)
  have hl : ((w.alloc (.deferred (some []))).alloc (.loop rc)).heap[w.heap.size + 1]? = some (.loop rc) := by rw [← hsz1]; exact heap_alloc_new _ _
  have hS3 : SS M κ0 w0 κ ((w.alloc (.deferred (some []))).alloc (.loop rc)) (.ext (mkX w.heap.size (w.heap.size + 1) rc [] []) :: (C ++ Cap)) R := by
    refine ⟨hS2.ext, hS2.fresh, fun c hc => ?_, fun b hb => ?_, ?_, fun b hb => ?_, hS2.ro⟩
    · rcases List.mem_cons.1 hc with rfl | hc
      · exact ⟨⟨hr, hS.fresh _ (Nat.le_refl _)⟩, ⟨hl, hS.fresh _ (by omega)⟩, (fun _ h => by cases h), (fun _ h => by cases h)⟩
      · exact hS2.ok c hc
    · rcases List.mem_cons.1 (show b ∈ w.heap.size :: (w.heap.size + 1) :: blksOf (C ++ Cap) from hb) with rfl | hb
      · simp only [size_alloc]; omega
      · rcases List.mem_cons.1 hb with rfl | hb
        · simp only [size_alloc]; omega
        · exact hS2.lt b hb
    · show (w.heap.size :: (w.heap.size + 1) :: blksOf (C ++ Cap)).Nodup
      exact nodup_ext (bs := []) (by omega) hS.nd (fun h => by have := hS.lt _ h; omega) (fun h => by have := hS.lt _ h; omega)
    · rcases List.mem_cons.1 (show b ∈ w.heap.size :: (w.heap.size + 1) :: blksOf (C ++ Cap) from hb) with rfl | hb
      · exact .inl hS.ext.size
      · rcases List.mem_cons.1 hb with rfl | hb
        · exact .inl (Nat.le_succ_of_le hS.ext.size)
        · exact hS2.own b hb
  have hmono : Ext [] κ w κ ((w.alloc (.deferred (some []))).alloc (.loop rc)) := (Ext.allocN hS.fresh (.deferred (some [])) (fun c t fr h => by cases h)).trans (Ext.allocN hS1.fresh (.loop rc) (fun c t fr h => by cases h))
  have hS4 := hS3.pack (R' := R') fun m hm => m.mono hmono (hR m hm)
  obtain ⟨Yf, hcall, hend⟩ := h _ _ fn _ hS4
  have hgv : a.eval g = .func (.func f) #[] caps := hF.ev hcov
  let W1 := (w.alloc (.deferred (some []))).alloc (.loop rc)
  refine ⟨w.heap.size + 1, [mark w.heap.size], W1, { target := .fn (.func f) caps, args := #[.func (.yield (w.heap.size + 1)) #[] #[]] }, W1, f, #[.func (.yield (w.heap.size + 1)) #[] #[]] ++ caps, W1, run_enterLoop_outer _ _ _ _ _, ?_, fun _ _ => trivial, ?_, fun hd => by simp [FW] at hd, ?_⟩
  · have hgen : ∀ ρ : Operand → Value, ρ g = .func (.func f) #[] caps → (∀ v, ρ (.const v) = v) → (resolve ρ (rangeCall g (w.heap.size + 1)) 0).run P W1 = .ok { target := .fn (.func f) caps, args := #[.func (.yield (w.heap.size + 1)) #[] #[]] } W1 := fun ρ h hk => by
      simp [resolve, Deferred.ofValue, h, hk]
    exact hgen _ hgv fun _ => rfl
  · simp [invoke, hf, go_sem]
  · have hci : CallsIn (FW none) (0 - 1) P f (#[.func (.yield (w.heap.size + 1)) #[] #[]] ++ caps) _ _ := (callsIn_wide (n := 0)).2 hcall
    refine CallsIn.mono hci fun e w' ⟨v, κ', he, _, _, x, hYx, hx⟩ => ?_
    subst he
    obtain ⟨rc', C'', R'', rfl, hb, hk⟩ := hend x hYx
    obtain ⟨w'', hrun, hS5⟩ := (hS4.back hx).shut (P := P) hb
    refine ⟨_, w'', hrun, hk κ' w'' _ ?_ hS5⟩
    exact ⟨by simp [hF.defers], hF.size, hF.val⟩
end
end Go.Cf
