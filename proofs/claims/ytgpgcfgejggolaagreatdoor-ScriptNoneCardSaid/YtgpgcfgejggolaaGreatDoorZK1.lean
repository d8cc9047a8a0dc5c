/- Part 1 of a small program logic over the kit's wp: frames by facts, pure runs, sequencing. -/
import Derived.Test.YtgpgcfgejggolaaGreatDoorRows
import Derived.RangeFuncIn
import Derived.TacticsIn
import Derived.OrdersIn
import Derived.Below
import Derived.WalkKit
import Derived.RowKit3
import Derived.Laws.AppendOwn
import Derived.Deep.DeepAppendWide
import Derived.Lib.AppendStr
import Derived.ChangeKeysEq
import Derived.Laws.StructEq
namespace Go.Cf
open Go
def FW (ro:Option Nat):Fence:={fn:=fun _=>True,depth:=none,alive:=false,round:=ro}
abbrev FL:=List (Nat×Value)
structure Fr (N:Nat)(D:List Deferred)(L:FL)(a:Act):Prop where
 defers:a.defers=D
 size:a.tmps.size=N
 val : ∀t v,L.lookup t=some v→a.tmps[t]? = some v
def ev (L:FL):Operand→Option Value
 | .tmp t=>L.lookup t
 | .const v=>some v
 | .global g=>some (.pointer (some ⟨g,0,none⟩))
 | .func f=>some (.func (.func f) #[] #[])
def evD (L:FL) (x:Operand):Value:=(ev L x).getD undef
def covers (L:FL) (o:Oper):Bool:=o.op.operands.all fun x=>(ev L x).isSome
def upd (L:FL) (d:Option Tmp) (v:Value):FL:=
 match d with
 | some d=>(d,v)::L.filter fun p=>p.1 != d
 | none=>L
theorem lookup_filter_ne (L:FL) (d t:Nat) (h:t≠d):(L.filter fun p=>p.1 != d).lookup t=L.lookup t:=by
 induction L with
 | nil=>rfl
 | cons p L ih=>
  obtain ⟨k,v⟩:=p
  by_cases hk:k=d
  ·subst hk
   have hb:(t==k)=false:=by simp [h]
   simp [ih,List.lookup_cons,hb]
  ·have:(k != d)=true:=by simp [hk]
   simp only [List.filter_cons,this,if_true,List.lookup_cons,ih]
theorem Fr.put {N:Nat} {D:List Deferred} {L:FL} {a:Act} (h:Fr N D L a) (d:Option Tmp) (v:Value) (hd : ∀t,d=some t→t<N):Fr N D (upd L d v) (a.put d v):=by
 cases d with
 | none=>exact h
 | some d=>
  have hd':=hd d rfl
  refine ⟨h.defers,by simp [Act.put,h.size],fun t u hu=>?_⟩
  simp only [upd,List.lookup_cons] at hu
  by_cases ht:t=d
  ·subst ht
   simp at hu; subst hu
   simp [Act.put,h.size,hd']
  ·have hb:(t==d)=false:=by simp [ht]
   rw [hb] at hu
   simp only at hu
   rw [lookup_filter_ne L d t ht] at hu
   have:=h.val t u hu
   simp only [Act.put]
   rw [Array.getElem?_setIfInBounds_ne (Ne.symm ht)]
   exact this
theorem Fr.ev {N:Nat} {D:List Deferred} {L:FL} {a:Act} (h:Fr N D L a) {x:Operand} {v:Value} (hx:ev L x=some v):a.eval x=v:=by
 cases x with
 | tmp t=>
  have:=h.val t v hx
  simp [Act.eval,this]
 | const u=>simpa [Cf.ev,Act.eval] using hx
 | global g=>simpa [Cf.ev,Act.eval] using hx
 | func f=>simpa [Cf.ev,Act.eval] using hx
theorem Fr.evD {N:Nat} {D:List Deferred} {L:FL} {a:Act} (h:Fr N D L a) {x:Operand} (hx:(Cf.ev L x).isSome=true):a.eval x=Cf.evD L x:=by
 obtain ⟨v,hv⟩:=Option.isSome_iff_exists.1 hx
 rw [h.ev hv,Cf.evD,hv]; rfl
def notSelect (o:Oper):Bool:=match o.op with | .select .. => false | .defer .. => false|_=>true
theorem exec_eq {N:Nat} {D:List Deferred} {L:FL} {a:Act} (h:Fr N D L a) {o:Oper} (hc:covers L o=true) (hn:notSelect o=true):execOp a.eval o=execOp (evD L) o:=by
 refine execOp_congr o (fun cs b e=>by simp [notSelect,e] at hn) (fun x hx=>h.evD ?_)
 have:=Array.all_eq_true_iff_forall_mem.1 hc x hx
 exact this
def keep (L:FL) (ks:List Nat):FL:=ks.filterMap fun k=>(L.lookup k).map fun v=>(k,v)
theorem lookup_keep (L:FL) (ks:List Nat) (t:Nat) (v:Value) (h:(keep L ks).lookup t=some v):L.lookup t=some v:=by
 induction ks with
 | nil=>simp [keep] at h
 | cons k ks ih=>
  simp only [keep,List.filterMap_cons] at h
  cases hk:L.lookup k with
  | none=>rw [hk] at h; exact ih h
  | some u=>
   rw [hk] at h
   simp only [Option.map_some,List.lookup_cons] at h
   by_cases e:t=k
   ·subst e; simp at h; subst h; exact hk
   ·have hb:(t==k)=false:=by simp [e]
    rw [hb] at h; exact ih h
theorem Fr.keep {N:Nat} {D:List Deferred} {L:FL} {a:Act} (h:Fr N D L a) (ks:List Nat):Fr N D (Cf.keep L ks) a:=
 ⟨h.defers,h.size,fun t v hv=>h.val t v (lookup_keep L ks t v hv)⟩
def pureRun {α:Type}(P:Program):Sem α→Option α
 | .pure a=>some a
 | .program k=>pureRun P (k P)
 | .mark _ k=>pureRun P k
 | _=>none
theorem pureRun_run {α:Type} {P:Program} (s:Sem α) {a:α} (h:pureRun P s=some a) (w:World):s.run P w = .ok a w:=by
 induction s with
 | pure b=>simp [pureRun] at h; subst h; rfl
 | program k ih=>exact ih P h
 | mark m k ih=>exact ih h
 | load _ _ _ _=>simp [pureRun] at h
 | store _ _ _ _ _=>simp [pureRun] at h
 | new _ _ _=>simp [pureRun] at h
 | shape _ _ _=>simp [pureRun] at h
 | freeze _ _ _ _=>simp [pureRun] at h
 | frozen _ _ _=>simp [pureRun] at h
 | getObj _ _ _=>simp [pureRun] at h
 | setObj _ _ _ _=>simp [pureRun] at h
 | choose _ _ _=>simp [pureRun] at h
 | sys _ _ _=>simp [pureRun] at h
 | halt _=>simp [pureRun] at h
def pval (P:Program) (L:FL) (o:Oper):Option Value:=
 match pureRun P (execOp (evD L) o) with
 | some (.value v)=>some v
 | _=>none
def goes (ops:Array Oper) (L:FL) (o:Oper):Option Bool:=
 match o.guard with
 | none=>some true
 | some (j,want)=>match (ops[j]?).bind (·.dst) with
  | none=>some false
  | some d=>match L.lookup d with
   | some (.bool b)=>some (b==want)
   | some (.tuple _)=>some false
   | _=>none
theorem goes_wanted {N:Nat} {D:List Deferred} {ops:Array Oper} {L:FL} {a:Act} (h:Fr N D L a) {o:Oper} {b:Bool} (hg:goes ops L o=some b):Region.wanted o (yielded ops a.tmps)=b:=by
 unfold goes at hg
 unfold Region.wanted
 cases hgu:o.guard with
 | none=>rw [hgu] at hg; simpa using hg
 | some jw=>
  obtain ⟨j,want⟩:=jw
  rw [hgu] at hg
  simp only at hg ⊢
  cases hd:(ops[j]?).bind (·.dst) with
  | none=>
   rw [hd] at hg
   have hy:yielded ops a.tmps j=none:=by unfold yielded; rw [hd]; rfl
   rw [hy]
   simpa using hg
  | some d=>
   rw [hd] at hg
   simp only at hg
   cases hl:L.lookup d with
   | none=>rw [hl] at hg; simp at hg
   | some v=>
    rw [hl] at hg
    cases v with
    | bool c=>
     simp only [Option.some.injEq] at hg
     have hy:yielded ops a.tmps j=some c:=by
      unfold yielded; rw [hd]
      simp only [Option.bind_some,h.val d _ hl]
     rw [hy]
     subst hg
     cases c<;>cases want<;>rfl
    | tuple vs=>
     simp only [Option.some.injEq] at hg
     have hy:yielded ops a.tmps j=none:=by
      unfold yielded; rw [hd]
      simp only [Option.bind_some,h.val d _ hl]
     rw [hy]
     subst hg
     rfl
    | _=>simp at hg
def okDst (N:Nat) (o:Oper):Bool:=match o.dst with|some d=>decide (d<N)|none=>true
theorem okDst_spec {N:Nat} {o:Oper} (h:okDst N o=true) : ∀t,o.dst=some t→t<N:=by
 intro t ht; unfold okDst at h; rw [ht] at h; simpa using h
def pstep (P:Program) (ops:Array Oper) (N:Nat) (L:FL) (o:Oper):Option FL:=
 if !(okDst N o&&notSelect o) then none else
 match goes ops L o with
 | some true=>if covers L o then (pval P L o).map fun v=>upd L o.dst v else none
 | some false=>match o.op with
  | .call _=>none
  | _=>some (upd L o.dst undef)
 | none=>none
def pskip (ops:Array Oper) (N:Nat) (L:FL) (o:Oper):Option FL:=
 if !(okDst N o) then none else
 match goes ops L o with
 | some false=>some (upd L o.dst undef)
 | _=>none
def psteps (P:Program)(ops:Array Oper)(N:Nat):List Oper→FL→Option FL
 | [],L=>some L
 | o::l,L=>match (match pstep P ops N L o with|some L'=>some L'|none=>pskip ops N L o) with
  | some L'=>psteps P ops N l L'
  | none=>none
section
variable {ro:Option Nat}{P:Program}{ops:Array Oper}{Q:Exit→Act→World→Prop}{N:Nat}{D:List Deferred}{L L':FL}{a:Act}{w:World}{o:Oper}{K:Act→World→Prop}
abbrev wl (ro:Option Nat) (P:Program) (ops:Array Oper) (Q:Exit→Act→World→Prop):List Oper→Act→World→Prop:=wpListIn (FW ro) 0 P ops Q
abbrev wo (ro:Option Nat) (P:Program) (o:Oper) (a:Act) (w:World) (K:Act→World→Prop) (Q:Exit→Act→World→Prop):Prop:=o.wpIn (FW ro) 0 P a w K Q
theorem semAt_eq (h:Fr N D L a) (hc:covers L o=true) (hn:notSelect o=true):o.semAt ro a.eval=execOp (evD L) o:=by
 rw [Oper.semAt_eq ro a.eval o (fun c e=>by simp [notSelect,e] at hn)]
 exact exec_eq h hc hn
theorem wo_val (h:Fr N D L a)(hc:(covers L o&&notSelect o&&okDst N o)=true){v:Value}{w':World}(hr:(execOp (evD L) o).run P w = .ok (.value v) w')
  (k : ∀a',Fr N D (upd L o.dst v) a'→K a' w'):wo ro P o a w K Q:=by
 simp only [Bool.and_eq_true] at hc
 refine ⟨fun _ _=>trivial,?_⟩
 show o.uponIn (FW ro) 0 P a K Q ((o.semAt ro a.eval).run P w)
 rw [semAt_eq h hc.1.1 hc.1.2,hr]
 exact k _ (h.put _ _ (okDst_spec hc.2))
theorem wo_skip (h:Fr N D L a)(hc:(covers L o&&notSelect o&&okDst N o)=true){w':World}(hr:(execOp (evD L) o).run P w = .ok .skip w')
  (k : ∀a',Fr N D (upd L o.dst undef) a'→K a' w'):wo ro P o a w K Q:=by
 simp only [Bool.and_eq_true] at hc
 refine ⟨fun _ _=>trivial,?_⟩
 show o.uponIn (FW ro) 0 P a K Q ((o.semAt ro a.eval).run P w)
 rw [semAt_eq h hc.1.1 hc.1.2,hr]
 exact k _ (h.put _ _ (okDst_spec hc.2))
theorem wo_call (h:Fr N D L a)(hc:(covers L o&&notSelect o&&okDst N o)=true){f:FuncId}{args:Array Value}(hr:pureRun P (execOp (evD L) o)=some (.enter f args))
  {R:Ending→World→Prop} (hcall:Calls P f args w R) (k : ∀e w',R e w' → ∃v,e = .returned v ∧ ∀a',Fr N D (upd L o.dst v) a'→K a' w'):wo ro P o a w K Q:=by
 simp only [Bool.and_eq_true] at hc
 refine ⟨fun _ _=>trivial,?_⟩
 show o.uponIn (FW ro) 0 P a K Q ((o.semAt ro a.eval).run P w)
 rw [semAt_eq h hc.1.1 hc.1.2,pureRun_run _ hr]
 refine ⟨fun hd=>by simp [FW] at hd,?_⟩
 have hcw:CallsIn Fence.wide (0-1) P f args w R:=callsIn_wide.2 hcall
 have hci:CallsIn (FW ro) (0-1) P f args w R:=hcw
 refine CallsIn.mono hci fun e w' hR=>?_
 obtain ⟨v,rfl,hk⟩:=k e w' hR
 exact hk _ (h.put _ _ (okDst_spec hc.2))
theorem wl_cons (hg:o.guard=none) {l:List Oper} (h:wo ro P o a w (wl ro P ops Q l) Q):wl ro P ops Q (o::l) a w:=by
 show wpListIn _ _ _ _ _ _ _ _
 unfold wpListIn
 rw [if_pos (by simp [Region.wanted,hg])]
 exact h
theorem wl_consg (hF:Fr N D L a) (hg:goes ops L o=some true) {l:List Oper} (h:wo ro P o a w (wl ro P ops Q l) Q):wl ro P ops Q (o::l) a w:=by
 show wpListIn _ _ _ _ _ _ _ _
 unfold wpListIn
 rw [if_pos (goes_wanted hF hg)]
 exact h
theorem wl_pskip (hF:Fr N D L a) (hp:pskip ops N L o=some L') {l:List Oper} (k : ∀a',Fr N D L' a'→wl ro P ops Q l a' w):wl ro P ops Q (o::l) a w:=by
 unfold pskip at hp
 split at hp
 ·cases hp
 ·rename_i hd
  simp only [Bool.not_eq_true,Bool.not_eq_false'] at hd
  split at hp
  ·rename_i hg
   simp only [Option.some.injEq] at hp
   subst hp
   show wpListIn _ _ _ _ _ _ _ _
   unfold wpListIn
   rw [if_neg (by rw [goes_wanted hF hg]; decide)]
   exact ⟨fun _ _=>trivial,k _ (hF.put _ _ (okDst_spec hd))⟩
  ·cases hp
theorem wl_pstep (hF:Fr N D L a) (hp:pstep P ops N L o=some L') {l:List Oper} (k : ∀a',Fr N D L' a'→wl ro P ops Q l a' w):wl ro P ops Q (o::l) a w:=by
 unfold pstep at hp
 split at hp
 ·cases hp
 ·rename_i hd
  have hd':okDst N o=true∧notSelect o=true:=by
   revert hd; cases okDst N o<;>cases notSelect o<;>simp
  split at hp
  ·rename_i hg
   split at hp
   ·rename_i hcov
    cases hv:pval P L o with
    | none=>rw [hv] at hp; cases hp
    | some v=>
     rw [hv] at hp
     simp only [Option.map_some,Option.some.injEq] at hp
     subst hp
     refine wl_consg hF hg (wo_val hF (by simp [hcov,hd'.1,hd'.2]) (v:=v) (w':=w) ?_ k)
     unfold pval at hv
     split at hv
     ·rename_i u hu
      simp only [Option.some.injEq] at hv
      subst hv
      exact pureRun_run _ hu w
     ·cases hv
   ·cases hp
  ·rename_i hg
   split at hp
   ·cases hp
   ·simp only [Option.some.injEq] at hp
    subst hp
    show wpListIn _ _ _ _ _ _ _ _
    unfold wpListIn
    rw [if_neg (by rw [goes_wanted hF hg]; decide)]
    exact ⟨fun _ _=>trivial,k _ (hF.put _ _ (okDst_spec hd'.1))⟩
  ·cases hp
theorem wl_psteps {l₁ l₂:List Oper} : ∀ {L:FL} {a:Act},Fr N D L a→psteps P ops N l₁ L=some L'→(∀a',Fr N D L' a'→wl ro P ops Q l₂ a' w)→wl ro P ops Q (l₁++l₂) a w:=by
 induction l₁ with
 | nil=>intro L a hF hp k; simp only [psteps,Option.some.injEq] at hp; subst hp; exact k a hF
 | cons o l ih=>
  intro L a hF hp k
  simp only [psteps] at hp
  split at hp
  ·rename_i L1 h1
   cases h2:pstep P ops N L o with
   | some L2=>
    rw [h2] at h1
    simp only [Option.some.injEq] at h1
    subst h1
    exact wl_pstep hF h2 fun a' hF'=>ih hF' hp k
   | none=>
    rw [h2] at h1
    exact wl_pskip hF h1 fun a' hF'=>ih hF' hp k
  ·cases hp
theorem wl_pure (n:Nat)(ks:List Nat){l:List Oper}(hF:Fr N D L a)(hp:(psteps P ops N (l.take n) L).map (fun x=>keep x ks)=some L')
  (k : ∀a',Fr N D L' a'→wl ro P ops Q (l.drop n) a' w):wl ro P ops Q l a w:=by
 cases h:psteps P ops N (l.take n) L with
 | none=>rw [h] at hp; cases hp
 | some L1=>
  rw [h] at hp
  simp only [Option.map_some,Option.some.injEq] at hp
  subst hp
  have:=wl_psteps (ro:=ro) (Q:=Q) (w:=w) (l₂:=l.drop n) hF h fun a' hF'=>k a' (hF'.keep ks)
  rwa [List.take_append_drop] at this
def argsL (args:Array Value):FL:=args.toList.zipIdx.map fun p=>(p.2,p.1)
theorem lookup_argsL (vs:List Value) : ∀(k t:Nat) (v:Value),((vs.zipIdx k).map fun p=>(p.2,p.1)).lookup t=some v→k≤t∧vs[t-k]? = some v:=by
 induction vs with
 | nil=>intro k t v h; simp at h
 | cons x vs ih=>
  intro k t v h
  simp only [List.zipIdx_cons,List.map_cons,List.lookup_cons] at h
  by_cases e:t=k
  ·subst e; simp at h; subst h; simp
  ·have hb:(t==k)=false:=by simp [e]
   rw [hb] at h
   obtain ⟨h1,h2⟩:=ih (k+1) t v h
   refine ⟨by omega,?_⟩
   rw [show t-k=(t-(k+1))+1 from by omega]
   simpa using h2
theorem enter {f:FuncId}{fn:Func}{c:Code}{args:Array Value}{R:Ending→World→Prop}(hf:P.funcs[f]? = some fn)(hb:fn.body=some c)(hn:fn.ntmps=N)(hs:args.size≤N)(hL:argsL args=L)
  (h : ∀a,Fr N [] L a→c.wpIn (FW none) 0 P (bodyPost P fn R) a w):Calls P f args w R:=by
 refine (callsIn_wide (n:=0)).1 ?_
 refine callsIn_of_wp hf hb trivial ?_ rfl
 refine h _ ⟨rfl,by simp [hn]; omega,fun t v ht=>?_⟩
 subst hL
 obtain ⟨_,h2⟩:=lookup_argsL args.toList 0 t v ht
 simp only [Nat.sub_zero] at h2
 have h3:args[t]? = some v:=by simpa using h2
 have hlt:t<args.size:=by
  rcases Nat.lt_or_ge t args.size with h|h
  ·exact h
  ·rw [Array.getElem?_eq_none h] at h3; cases h3
 show (args++Array.replicate (fn.ntmps-args.size) undef)[t]? = some v
 rw [Array.getElem?_append_left hlt]
 exact h3
end
end Go.Cf
namespace Go.Cf
open Go
abbrev Gh:=Nat→Option Nat
structure Ext (M:List Nat)(κ:Gh)(w:World)(κ':Gh)(w':World):Prop where
 os:w'.os=w.os
 out:w'.output=w.output
 tape:w'.tape=w.tape
 size:w.heap.size≤w'.heap.size
 keep : ∀b,b<w.heap.size→b ∉ M→w'.heap[b]? = w.heap[b]? ∧ κ' b=κ b
 pub : ∀b n,κ b=some n → ∃n',κ' b=some n'∧n≤n' ∧ ∀i,i<n→w'.cell? ⟨b,i,none⟩=w.cell? ⟨b,i,none⟩
def Fresh (κ:Gh) (w:World):Prop := ∀b,w.heap.size≤b→κ b=none
theorem Ext.refl (M:List Nat) (κ:Gh) (w:World):Ext M κ w κ w:=
 ⟨rfl,rfl,rfl,Nat.le_refl _,fun _ _ _=>⟨rfl,rfl⟩,fun _ n h=>⟨n,h,Nat.le_refl _,fun _ _=>rfl⟩⟩
theorem Ext.trans {M:List Nat}{κ κ' κ'':Gh}{w w' w'':World}(h:Ext M κ w κ' w')(k:Ext M κ' w' κ'' w''):Ext M κ w κ'' w'' where
 os:=k.os.trans h.os
 out:=k.out.trans h.out
 tape:=k.tape.trans h.tape
 size:=Nat.le_trans h.size k.size
 keep:=fun b hb hm=>by
  obtain ⟨h1,h2⟩:=h.keep b hb hm
  obtain ⟨h3,h4⟩:=k.keep b (Nat.lt_of_lt_of_le hb h.size) hm
  exact ⟨h3.trans h1,h4.trans h2⟩
 pub:=fun b n hn=>by
  obtain ⟨n1,h1,h2,h3⟩:=h.pub b n hn
  obtain ⟨n2,h4,h5,h6⟩:=k.pub b n1 h1
  exact ⟨n2,h4,Nat.le_trans h2 h5,fun i hi=>(h6 i (Nat.lt_of_lt_of_le hi h2)).trans (h3 i hi)⟩
theorem Ext.weaken {M M':List Nat} {κ κ':Gh} {w w':World} (h:Ext M κ w κ' w') (hM : ∀b,b∈M→b<w.heap.size→b∈M'):Ext M' κ w κ' w':=
 ⟨h.os,h.out,h.tape,h.size,fun b hb hm=>h.keep b hb fun hb'=>hm (hM b hb' hb),h.pub⟩
theorem Ext.trans' {M M':List Nat}{κ κ' κ'':Gh}{w w' w'':World}(h:Ext M κ w κ' w')(k:Ext M' κ' w' κ'' w'')(hM : ∀b,b∈M'→w.heap.size≤b∨b∈M):Ext M κ w κ'' w'' where
 os:=k.os.trans h.os
 out:=k.out.trans h.out
 tape:=k.tape.trans h.tape
 size:=Nat.le_trans h.size k.size
 keep:=fun b hb hm=>by
  obtain ⟨h1,h2⟩:=h.keep b hb hm
  obtain ⟨h3,h4⟩:=k.keep b (Nat.lt_of_lt_of_le hb h.size) (fun hb'=>by rcases hM b hb' with h|h; omega; exact hm h)
  exact ⟨h3.trans h1,h4.trans h2⟩
 pub:=fun b n hn=>by
  obtain ⟨n1,h1,h2,h3⟩:=h.pub b n hn
  obtain ⟨n2,h4,h5,h6⟩:=k.pub b n1 h1
  exact ⟨n2,h4,Nat.le_trans h2 h5,fun i hi=>(h6 i (Nat.lt_of_lt_of_le hi h2)).trans (h3 i hi)⟩
structure MP where
 p:Gh→World→Prop
 mono : ∀ {M κ w κ' w'},Ext M κ w κ' w'→p κ w→p κ' w'
def MP.const (q:Prop):MP:=⟨fun _ _=>q,fun _ h=>h⟩
structure Ty (α:Type) where
 size:Nat
 rep:Gh→World→List Value→α→Prop
 len : ∀ {κ w cs x},rep κ w cs x→cs.length=size
 one : ∀ {κ w cs x},rep κ w cs x → ∀v∈cs,v.oneCell'=true
 mono : ∀ {M κ w κ' w' cs x},Ext M κ w κ' w'→rep κ w cs x→rep κ' w' cs x
structure FT (α:Type) where
 size:Nat
 enc:α→List Value
 len : ∀x,(enc x).length=size
 one : ∀x,∀v∈enc x,v.oneCell'=true
def FT.ty {α:Type} (t:FT α):Ty α:=⟨t.size,fun _ _ cs x=>cs=t.enc x,fun h=>by rw [h,t.len],fun h v hv=>t.one _ v (h▸hv),fun _ h=>h⟩
def fInt (k:IntKind):FT Int:=⟨1,fun x=>[.int k x],fun _=>rfl,fun _ v hv=>by simp at hv; subst hv; rfl⟩
def fBool:FT Bool:=⟨1,fun x=>[.bool x],fun _=>rfl,fun _ v hv=>by simp at hv; subst hv; rfl⟩
def fStr:FT ByteArray:=⟨1,fun x=>[.string x],fun _=>rfl,fun _ v hv=>by simp at hv; subst hv; rfl⟩
def Ro {α:Type} (t:Ty α) (κ:Gh) (w:World) (p:Option Addr) (c:Nat) (l:List α):Prop:=
 l.length≤c∧c≤maxLen∧((l=[]∧c=0) ∨ ∃b off n,p=some ⟨b,off,none⟩∧κ b=some n∧off+l.length*t.size≤n ∧
  ∀i x,l[i]? = some x → ∃cs,t.rep κ w cs x ∧ ∀j v,cs[j]? = some v→w.cell? ⟨b,off+i*t.size+j,none⟩=some v)
theorem Ro.mono {α:Type} {t:Ty α} {M:List Nat} {κ κ':Gh} {w w':World} {p:Option Addr} {c:Nat} {l:List α} (e:Ext M κ w κ' w') (h:Ro t κ w p c l):Ro t κ' w' p c l:=by
 obtain ⟨h1,h2,h3⟩:=h
 refine ⟨h1,h2,?_⟩
 rcases h3 with h3 | ⟨b,off,n,hp,hk,hn,hc⟩
 ·exact .inl h3
 ·obtain ⟨n',hk',hle,hcell⟩:=e.pub b n hk
  refine .inr ⟨b,off,n',hp,hk',Nat.le_trans hn hle,fun i x hi=>?_⟩
  obtain ⟨cs,hr,hv⟩:=hc i x hi
  refine ⟨cs,t.mono e hr,fun j v hj=>?_⟩
  have hlt:i<l.length:=(List.getElem?_eq_some_iff.1 hi).1
  have hjl:j<t.size:=by rw [← t.len hr]; exact (List.getElem?_eq_some_iff.1 hj).1
  have hmul:i*t.size+t.size≤l.length*t.size:=by
   have:(i+1)*t.size≤l.length*t.size:=Nat.mul_le_mul_right _ hlt
   rw [Nat.add_mul,Nat.one_mul] at this
   exact this
  rw [hcell (off+i*t.size+j) (by omega)]
  exact hv j v hj
def Ro.mp {α:Type} (t:Ty α) (p:Option Addr) (c:Nat) (l:List α):MP:=⟨fun κ w=>Ro t κ w p c l,Ro.mono⟩
theorem Ro.nil {α:Type} (t:Ty α) (κ:Gh) (w:World):Ro t κ w none 0 ([]:List α):=⟨Nat.le_refl _,Nat.zero_le _,.inl ⟨rfl,rfl⟩⟩
abbrev Segs:=List (Nat×List Value)
def flat (s:Segs):List Value:=s.flatMap (·.2)
def tot (s:Segs):Nat:=(s.map (·.1)).sum
def segsOk (s:Segs):Prop := ∀x∈s,x.2.length=x.1
theorem flat_append (a b:Segs):flat (a++b)=flat a++flat b:=by simp [flat]
theorem tot_append (a b:Segs):tot (a++b)=tot a+tot b:=by simp [tot]
theorem segsOk_append {a b:Segs}:segsOk (a++b)↔segsOk a∧segsOk b:=by
 simp only [segsOk,List.mem_append]
 exact ⟨fun h=>⟨fun x hx=>h x (.inl hx),fun x hx=>h x (.inr hx)⟩,fun h x hx=>hx.elim (h.1 x) (h.2 x)⟩
theorem flat_length {s:Segs} (h:segsOk s):(flat s).length=tot s:=by
 induction s with
 | nil=>rfl
 | cons x s ih=>
  have h1:=h x (by simp)
  have h2:=ih fun y hy=>h y (by simp [hy])
  simp only [flat,tot,List.flatMap_cons,List.length_append,List.map_cons,List.sum_cons] at *
  omega
theorem segsOk_nil:segsOk []:=fun _ h=>by cases h
theorem segsOk_cons {x:Nat×List Value} {s:Segs}:segsOk (x::s)↔x.2.length=x.1∧segsOk s:=by
 simp [segsOk]
structure XF where
 bs:List Nat
 p:Gh→World→Prop
 mono : ∀ {M κ w κ' w'},Ext M κ w κ' w'→(∀b∈bs,b<w.heap.size∧b ∉ M)→p κ w→p κ' w'
inductive Ck where
 | box (b T:Nat) (s:Segs)
 | tok (p:Option Addr) (E size len c:Nat)
 | ext (x:XF)
def Ck.ok (κ:Gh)(w:World):Ck→Prop
 | .box b T s=>w.heap[b]? = some (.cells (flat s).toArray T (0,0))∧segsOk s∧κ b=none
 | .tok p E size len c=>(len=0∧c=0) ∨ ∃b off cells,p=some ⟨b,off,none⟩∧κ b=some (off+len*size)∧len≤c∧c≤maxLen∧w.heap[b]? = some (.cells cells E (0,0))∧cells.size=off+c*size
 | .ext x=>x.p κ w
def Ck.blks:Ck→List Nat
 | .box b _ _=>[b]
 | .tok (some a) _ _ _ _=>[a.block]
 | .tok none _ _ _ _=>[]
 | .ext x=>x.bs
def blksOf (C:List Ck):List Nat:=C.flatMap Ck.blks
structure SS (M:List Nat)(κ0:Gh)(w0:World)(κ:Gh)(w:World)(C:List Ck)(R:List MP):Prop where
 ext:Ext M κ0 w0 κ w
 fresh:Fresh κ w
 ok : ∀c∈C,c.ok κ w
 lt : ∀b∈blksOf C,b<w.heap.size
 nd:(blksOf C).Nodup
 own : ∀b∈blksOf C,w0.heap.size≤b∨b∈M
 ro : ∀m∈R,m.p κ w
section
variable {M:List Nat}{κ0 κ:Gh}{w0 w:World}{C C':List Ck}{R R':List MP}
theorem SS.get (h:SS M κ0 w0 κ w C R) (i:Nat) {m:MP} (hi:R[i]? = some m):m.p κ w:=h.ro m (List.mem_of_getElem? hi)
theorem SS.ck (h:SS M κ0 w0 κ w C R) (i:Nat) {c:Ck} (hi:C[i]? = some c):c.ok κ w:=h.ok c (List.mem_of_getElem? hi)
theorem SS.start (hf:Fresh κ w) (hR : ∀m∈R,m.p κ w):SS [] κ w κ w [] R:=
 ⟨.refl _ _ _,hf,(fun _ h=>by cases h),(fun _ h=>by cases h),List.nodup_nil,(fun _ h=>by cases h),hR⟩
theorem SS.facts (h:SS M κ0 w0 κ w C R) (hR : ∀m∈R',m.p κ w):SS M κ0 w0 κ w C R':=⟨h.ext,h.fresh,h.ok,h.lt,h.nd,h.own,hR⟩
theorem SS.add (h:SS M κ0 w0 κ w C R) {m:MP} (hm:m.p κ w):SS M κ0 w0 κ w C (m::R):=
 h.facts fun x hx=>by rcases List.mem_cons.1 hx with rfl|hx; exact hm; exact h.ro x hx
def selG {α:Type}(C:List α):List Nat→List α
 | []=>[]
 | i::is=>match C[i]? with|some c=>c::selG C is|none=>selG C is
theorem selG_eq {α:Type}(C:List α) : ∀is:List Nat,selG C is=is.filterMap fun i=>C[i]?
 | []=>rfl
 | i::is=>by
  unfold selG
  rw [selG_eq C is,List.filterMap_cons]
  cases C[i]? <;> rfl
theorem SS.pick (h:SS M κ0 w0 κ w C R) (is:List Nat) (hR:selG R is=R'):SS M κ0 w0 κ w C R':=by
 refine h.facts fun m hm=>?_
 rw [selG_eq] at hR
 subst hR
 obtain ⟨i,_,hi⟩:=List.mem_filterMap.1 hm
 exact h.get i hi
theorem blksOf_sub {C C':List Ck} (hs:C'.Sublist C):(blksOf C').Sublist (blksOf C):=by
 induction hs with
 | slnil=>exact List.Sublist.refl _
 | cons a _ ih=>exact ih.trans (by simp only [blksOf,List.flatMap_cons]; exact List.sublist_append_right _ _)
 | cons_cons a _ ih=>simp only [blksOf,List.flatMap_cons]; exact (List.append_sublist_append_left _).2 ih
theorem SS.drop (h:SS M κ0 w0 κ w C R) (hs:C'.Sublist C):SS M κ0 w0 κ w C' R:=
 ⟨h.ext,h.fresh,fun c hc=>h.ok c (hs.subset hc),fun b hb=>h.lt b ((blksOf_sub hs).subset hb),h.nd.sublist (blksOf_sub hs),fun b hb=>h.own b ((blksOf_sub hs).subset hb),h.ro⟩
theorem Ck.ok_keep {M':List Nat} {κ':Gh} {w':World} {c:Ck} (hc:c.ok κ w) (hlt : ∀b∈c.blks,b<w.heap.size) (he:Ext M' κ w κ' w') (hm : ∀b∈c.blks,b ∉ M'):c.ok κ' w':=by
 cases c with
 | box b T s=>
  obtain ⟨h1,h2,h3⟩:=hc
  obtain ⟨k1,k2⟩:=he.keep b (hlt b (by simp [Ck.blks])) (hm b (by simp [Ck.blks]))
  exact ⟨k1.trans h1,h2,k2.trans h3⟩
 | tok p E size len cc=>
  rcases hc with hc | ⟨b,off,cells,rfl,h1,h2,h2',h3,h4⟩
  ·exact .inl hc
  ·obtain ⟨k1,k2⟩:=he.keep b (hlt b (by simp [Ck.blks])) (hm b (by simp [Ck.blks]))
   exact .inr ⟨b,off,cells,rfl,k2.trans h1,h2,h2',k1.trans h3,h4⟩
 | ext x=>exact x.mono he (fun b hb=>⟨hlt b hb,hm b hb⟩) hc
theorem SS.step (h:SS M κ0 w0 κ w C R){κ':Gh}{w':World}(he:Ext [] κ w κ' w')(hf:Fresh κ' w'):SS M κ0 w0 κ' w' C R where
 ext:=h.ext.trans' he fun b hb=>by cases hb
 fresh:=hf
 ok:=fun c hc=>Ck.ok_keep (h.ok c hc) (fun b hb=>h.lt b (List.mem_flatMap.2 ⟨c,hc,hb⟩)) he fun b _ hb=>by cases hb
 lt:=fun b hb=>Nat.lt_of_lt_of_le (h.lt b hb) he.size
 nd:=h.nd
 own:=h.own
 ro:=fun m hm=>m.mono he (h.ro m hm)
theorem heap_alloc_old (w:World) (o:Obj) (b:Nat) (h:b<w.heap.size):(w.alloc o).heap[b]? = w.heap[b]? := RowKit.Below.heap_alloc w o b h
theorem heap_alloc_new (w:World) (o:Obj):(w.alloc o).heap[w.heap.size]? = some o:=by
 show (w.heap.push o)[w.heap.size]? = _
 simp
theorem size_alloc (w:World) (o:Obj):(w.alloc o).heap.size=w.heap.size+1:=by
 show (w.heap.push o).size=_
 simp
theorem cell_of_heap {w w':World} {b i:Nat} (h:w'.heap[b]? = w.heap[b]?):w'.cell? ⟨b,i,none⟩=w.cell? ⟨b,i,none⟩:=by
 unfold World.cell?
 simp only [h]
theorem frozen?_of {w w':World} {b:Nat} {c c':Array Value} {t t':TypeId} {fr:Nat×Nat} (h:w.heap[b]? = some (.cells c t fr)) (h':w'.heap[b]? = some (.cells c' t' fr)) (ho : ∀b',b'≠b→w'.heap[b']? = w.heap[b']?) (a:Addr):w'.frozen? a=w.frozen? a:=by
 unfold World.frozen?
 by_cases e:a.block=b
 ·rw [e,h,h']
 ·rw [ho _ e]
theorem Ext.alloc (hf:Fresh κ w)(o:Obj)(ho : ∃c t,o = .cells c t (0,0)):Ext [] κ w κ (w.alloc o) where
 os:=rfl
 out:=rfl
 tape:=rfl
 size:=by rw [size_alloc]; omega
 keep:=fun b hb _=>⟨heap_alloc_old w o b hb,rfl⟩
 pub:=fun b n hn=>⟨n,hn,Nat.le_refl _,fun i _=>cell_of_heap (heap_alloc_old w o b (by
  rcases Nat.lt_or_ge b w.heap.size with h|h
  ·exact h
  ·rw [hf b h] at hn; cases hn))⟩
theorem Fresh.alloc (hf:Fresh κ w) (o:Obj):Fresh κ (w.alloc o):=fun b hb=>hf b (by rw [size_alloc] at hb; omega)
theorem SS.alloc (h:SS M κ0 w0 κ w C R) (T:Nat) (s:Segs) (hs:segsOk s) (o:Obj) (ho:o = .cells (flat s).toArray T (0,0)):SS M κ0 w0 κ (w.alloc o) (.box w.heap.size T s::C) R:=by
 subst ho
 have h':=h.step (Ext.alloc h.fresh (.cells (flat s).toArray T (0,0)) ⟨_,_,rfl⟩) (h.fresh.alloc _)
 refine ⟨h'.ext,h'.fresh,fun c hc=>?_,fun b hb=>?_,?_,fun b hb=>?_,h'.ro⟩
 ·rcases List.mem_cons.1 hc with rfl|hc
  ·exact ⟨heap_alloc_new _ _,hs,h.fresh _ (Nat.le_refl _)⟩
  ·exact h'.ok c hc
 ·rcases List.mem_cons.1 (show b∈w.heap.size::blksOf C from hb) with rfl|hb
  ·rw [size_alloc]; omega
  ·exact h'.lt b hb
 ·show (w.heap.size::blksOf C).Nodup
  exact List.nodup_cons.2 ⟨fun hm=>by have:=h.lt _ hm; omega,h.nd⟩
 ·rcases List.mem_cons.1 (show b∈w.heap.size::blksOf C from hb) with rfl|hb
  ·exact .inl h.ext.size
  ·exact h.own b hb
theorem SS.drew (h:SS M κ0 w0 κ w C R):SS M κ0 w0 κ {w with drawn:=w.drawn+1} C R:=
 h.step ⟨rfl,rfl,rfl,Nat.le_refl _,fun _ _ _=>⟨rfl,rfl⟩,fun _ n hn=>⟨n,hn,Nat.le_refl _,fun _ _=>rfl⟩⟩ h.fresh
theorem blksOf_append (A B:List Ck):blksOf (A++B)=blksOf A++blksOf B:=by simp [blksOf]
theorem SS.write (h:SS M κ0 w0 κ w C R)(A B:List Ck){b T:Nat}{s s':Segs}(hC:C=A ++ .box b T s::B)(hs:segsOk s'){w':World}
  (hw:w'={w with heap:=w.heap.setIfInBounds b (.cells (flat s').toArray T (0,0))}):SS M κ0 w0 κ w' (A ++ .box b T s'::B) R:=by
 subst hC hw
 have hb:b∈blksOf (A ++ .box b T s::B):=by simp [blksOf,Ck.blks]
 have hlt:b<w.heap.size:=h.lt b hb
 have hk:κ b=none:=(h.ok (.box b T s) (by simp)).2.2
 have hother : ∀b',b'≠b→({w with heap:=w.heap.setIfInBounds b (.cells (flat s').toArray T (0,0))}:World).heap[b']? = w.heap[b']? := fun b' hne=>by
  show (w.heap.setIfInBounds b _)[b']? = _
  rw [Array.getElem?_setIfInBounds_ne (Ne.symm hne)]
 have he:Ext [b] κ w κ {w with heap:=w.heap.setIfInBounds b (.cells (flat s').toArray T (0,0))}:=
  ⟨rfl,rfl,rfl,by simp,fun b' _ hm=>⟨hother b' (by simpa using hm),rfl⟩,fun b' n hn=>⟨n,hn,Nat.le_refl _,fun i _=>cell_of_heap (hother b' fun e=>by rw [e,hk] at hn; cases hn)⟩⟩
 have hnd:=h.nd
 rw [blksOf_append] at hnd
 have hsame:blksOf (A ++ .box b T s'::B)=blksOf (A ++ .box b T s::B):=by simp [blksOf,Ck.blks]
 refine ⟨h.ext.trans' he fun b' hb'=>?_,fun b' hb'=>h.fresh b' (by simpa using hb'),fun c hc=>?_,?_,?_,?_,fun m hm=>m.mono he (h.ro m hm)⟩
 ·simp only [List.mem_singleton] at hb'; subst hb'; exact h.own b' hb
 ·have hnot:c∈A∨c∈B→b ∉ c.blks:=fun hc hbc=>by
   have hnd':(blksOf A++(b::blksOf B)).Nodup:=by simpa [blksOf,Ck.blks] using h.nd
   rw [List.nodup_append] at hnd'
   rcases hc with hc|hc
   ·exact hnd'.2.2 b (List.mem_flatMap.2 ⟨c,hc,hbc⟩) b (by simp) rfl
   ·exact (List.nodup_cons.1 hnd'.2.1).1 (List.mem_flatMap.2 ⟨c,hc,hbc⟩)
  have hkeep:c∈A∨c∈B→c.ok κ {w with heap:=w.heap.setIfInBounds b (.cells (flat s').toArray T (0,0))}:=fun hc=>
   have hmem:c∈A ++ .box b T s::B:=by rcases hc with hc|hc<;>simp [hc]
   Ck.ok_keep (h.ok c hmem) (fun b' hb'=>h.lt b' (List.mem_flatMap.2 ⟨c,hmem,hb'⟩)) he fun b' hb' hm=>hnot hc (by simp only [List.mem_singleton] at hm; exact hm▸hb')
  rcases List.mem_append.1 hc with hc|hc
  ·exact hkeep (.inl hc)
  ·rcases List.mem_cons.1 hc with rfl|hc
   ·refine ⟨?_,hs,hk⟩
    show (w.heap.setIfInBounds b _)[b]? = _
    simp [hlt]
   ·exact hkeep (.inr hc)
 ·rw [hsame]; intro b' hb'; simpa using h.lt b' hb'
 ·rw [hsame]; exact h.nd
 ·rw [hsame]; exact h.own
end
end Go.Cf
namespace Go.Cf
open Go
theorem setRow_eq (w:World) (b T:Nat) (cur arr:Array Value) (h:w.heap[b]? = some (.cells cur T (0,0))):w.setRow b arr={w with heap:=w.heap.setIfInBounds b (.cells arr T (0,0))}:=by
 have e:(w.setRow b arr).heap=w.heap.setIfInBounds b (.cells arr T (0,0)):=by
  apply Array.ext_getElem?
  intro i
  by_cases hi:i=b
  ·subst hi
   have hlt:i<w.heap.size:=(Array.getElem?_eq_some_iff.1 h).1
   rw [setRow_heap w i cur arr T (0,0) h]
   simp [hlt]
  ·rw [setRow_other w b i arr hi,Array.getElem?_setIfInBounds_ne (Ne.symm hi)]
 have e2:w.setRow b arr={w with heap:=(w.setRow b arr).heap}:=rfl
 rw [e2,e]
theorem take_get_drop {α:Type} (l:List α) (i:Nat) (h:i<l.length):l.take i++l[i]::l.drop (i+1)=l:=by
 rw [← List.drop_eq_getElem_cons h,List.take_append_drop]
theorem run_newVar (P:Program) (T:Nat) (v:Value) (w:World):(newVar T v).run P w = .ok ⟨w.heap.size,0,none⟩ (w.alloc (.cells v.cells T)):=rfl
theorem segs_at {s:Segs} (h:segsOk s) : ∀ {k n:Nat} {l:List Value},s[k]? = some (n,l) → ∀j,j<n→(flat s)[tot (s.take k)+j]? = l[j]? := by
 induction s with
 | nil=>intro k n l hk; simp at hk
 | cons x s ih=>
  intro k n l hk j hj
  have hx:=h x (by simp)
  have hs:segsOk s:=fun y hy=>h y (by simp [hy])
  cases k with
  | zero=>
   simp only [List.getElem?_cons_zero,Option.some.injEq] at hk
   subst hk
   simp only at hx
   simp only [flat,List.flatMap_cons,List.take_zero,tot,List.map_nil,List.sum_nil,Nat.zero_add]
   rw [List.getElem?_append_left (by omega)]
  | succ k=>
   simp only [List.getElem?_cons_succ] at hk
   have:=ih hs hk j hj
   simp only [flat,List.flatMap_cons,List.take_succ_cons,tot,List.map_cons,List.sum_cons] at this ⊢
   rw [List.getElem?_append_right (by omega)]
   rw [← this]
   congr 1
   omega
section
variable {P:Program}{w:World}
theorem run_isAgg {T:Nat} {g:Bool} (h:pureRun P (isAgg T)=some g) (w:World):(isAgg T).run P w = .ok g w:=pureRun_run _ h w
theorem add_off (b off i:Nat):(⟨b,off,none⟩:Addr).add i=⟨b,off+i,none⟩:=by unfold Addr.add; split<;>simp_all
theorem run_load_scalar {T b off:Nat}{v:Value}(hg:pureRun P (isAgg T)=some false)(hc:w.cell? ⟨b,off,none⟩=some v) :
  (Instr.loadAt T (.pointer (some ⟨b,off,none⟩))).run P w = .ok v w:=by
 simp [Instr.loadAt,Instr.sureAddr,loadVar,run_isAgg hg,load,Sem.run,hc]
theorem run_load_agg {T b off n:Nat}{cs:List Value}(hg:pureRun P (isAgg T)=some true)(hs:pureRun P (sizeOf T)=some n)(hl:cs.length=n)(hc : ∀j v,cs[j]? = some v→w.cell? ⟨b,off+j,none⟩=some v) :
  (Instr.loadAt T (.pointer (some ⟨b,off,none⟩))).run P w = .ok (.agg cs.toArray) w:=by
 subst hl
 have h:=run_loadCells_list (P:=P) w ⟨b,off,none⟩ cs fun j v hj=>by rw [add_off]; exact hc j v hj
 simp [Instr.loadAt,Instr.sureAddr,loadVar,run_isAgg hg,pureRun_run _ hs w,h]
theorem cell_box {κ:Gh} {b T:Nat} {s:Segs} (h:(Ck.box b T s).ok κ w) (i:Nat):w.cell? ⟨b,i,none⟩=(flat s)[i]? := by
 obtain ⟨h1,_,_⟩:=h
 simp [World.cell?,h1]
theorem run_store_cells {κ:Gh}{b T off n:Nat}{s:Segs}(h:(Ck.box b T s).ok κ w){vs:List Value}(hfit:off+vs.length≤(flat s).length)(h1 : ∀v∈vs,v.oneCell'=true){val:Value}(hv:val.cells=vs.toArray)
  {E:Nat} (hs:pureRun P (sizeOf E)=some n) (hn:vs.length=n) :
  (Instr.storeAt E (.pointer (some ⟨b,off,none⟩)) val).run P w = .ok () {w with heap:=w.heap.setIfInBounds b (.cells ((flat s).take off++vs++(flat s).drop (off+vs.length)).toArray T (0,0))}:=by
 obtain ⟨h0,_,_⟩:=h
 have h2:=run_storeCells_at P b off T vs 0 (flat s).toArray w h0 (by simpa using hfit) h1
 simp only [Nat.add_zero] at h2
 rw [setRow_eq w b T _ _ h0] at h2
 subst hn
 have e1:val.cells.toList=vs:=by rw [hv]
 have e2:val.cells.size=vs.length:=by rw [hv]; simp
 simp [Instr.storeAt,Instr.sureAddr,storeVar,pureRun_run _ hs w,e1,e2,h2]
end
section
variable {ro:Option Nat}{P:Program}{ops:Array Oper}{Q:Exit→Act→World→Prop}{N:Nat}{D:List Deferred}{L L':FL}{a:Act}{w:World}{o:Oper}{K:Act→World→Prop}
variable {M:List Nat}{κ0 κ:Gh}{w0:World}{C C':List Ck}{R R':List MP}
abbrev okOp (N:Nat) (L:FL) (o:Oper):Bool:=covers L o&&notSelect o&&okDst N o
theorem exec_load {T:Nat} {x:Operand} {v p:Value} {w':World} (hop:o.op = .load T x) (hx:ev L x=some p) (hr:(Instr.loadAt T p).run P w = .ok v w'):(execOp (evD L) o).run P w = .ok (.value v) w':=by
 simp only [execOp,hop,evD,hx,Option.getD_some]
 simp [hr]
theorem wo_load (hF:Fr N D L a)(hS:SS M κ0 w0 κ w C R)(hc:okOp N L o=true)(i k j:Nat){b TB T off n:Nat}{s:Segs}{l:List Value}{v:Value}{x:Operand}(hop:o.op = .load T x)(hx:ev L x=some (.pointer (some ⟨b,off,none⟩)))
  (hC:C[i]? = some (.box b TB s)) (hk:s[k]? = some (n,l)) (hj:l[j]? = some v) (hoff:tot (s.take k)+j=off) (hg:pureRun P (isAgg T)=some false)
  (kk : ∀a',Fr N D (upd L o.dst v) a'→K a' w):wo ro P o a w K Q:=by
 have hb:=hS.ck i hC
 have hjn:j<n:=by
  have h1:=hb.2.1 (n,l) (List.mem_of_getElem? hk)
  have h2:=(List.getElem?_eq_some_iff.1 hj).1
  simp only at h1; omega
 refine wo_val hF hc (exec_load hop hx (run_load_scalar hg ?_)) kk
 rw [cell_box hb,← hoff,segs_at hb.2.1 hk j hjn,hj]
theorem flat_sub {s:Segs} (hs:segsOk s) (k m:Nat) : ∀j v,(flat ((s.drop k).take m))[j]? = some v→(flat s)[tot (s.take k)+j]? = some v:=by
 intro j v hj
 have e:s=s.take k++((s.drop k).take m++(s.drop k).drop m):=by rw [List.take_append_drop,List.take_append_drop]
 have hl:(flat (s.take k)).length=tot (s.take k):=flat_length fun y hy=>hs y (List.mem_of_mem_take hy)
 have hjl:=(List.getElem?_eq_some_iff.1 hj).1
 rw [show flat s=flat (s.take k)++(flat ((s.drop k).take m)++flat ((s.drop k).drop m)) from by rw [← flat_append,← flat_append,← e]]
 rw [List.getElem?_append_right (by omega),hl,Nat.add_sub_cancel_left,List.getElem?_append_left hjl]
 exact hj
theorem wo_loads (hF:Fr N D L a)(hS:SS M κ0 w0 κ w C R)(hc:okOp N L o=true)(i k m:Nat){b TB T off n:Nat}{s s':Segs}{x:Operand}(hop:o.op = .load T x)(hx:ev L x=some (.pointer (some ⟨b,off,none⟩)))
  (hC:C[i]? = some (.box b TB s)) (hs':(s.drop k).take m=s') (hoff:tot (s.take k)=off) (hg:pureRun P (isAgg T)=some true) (hsz:pureRun P (sizeOf T)=some n) (hn:tot s'=n)
  (kk : ∀a',Fr N D (upd L o.dst (.agg (flat s').toArray)) a'→K a' w):wo ro P o a w K Q:=by
 have hb:=hS.ck i hC
 subst hs'
 refine wo_val hF hc (exec_load hop hx (run_load_agg hg hsz ?_ ?_)) kk
 ·rw [← hn]; exact flat_length fun y hy=>hb.2.1 y (List.mem_of_mem_drop (List.mem_of_mem_take hy))
 ·intro j v hj
  rw [cell_box hb,← hoff]
  exact flat_sub hb.2.1 k m j v hj
theorem exec_store {T:Nat} {x y:Operand} {v p:Value} {w':World} (hop:o.op = .store T x y) (hx:ev L x=some p) (hy:ev L y=some v) (hr:(Instr.storeAt T p v).run P w = .ok () w'):(execOp (evD L) o).run P w = .ok .skip w':=by
 simp only [execOp,hop,evD,hx,hy,Option.getD_some]
 simp [hr]
theorem tot_take_drop (s:Segs) (k:Nat):tot s=tot (s.take k)+tot (s.drop k):=by rw [← tot_append,List.take_append_drop]
theorem segs_split {s:Segs}{k m:Nat}(hs:segsOk s){off n:Nat}(hoff:tot (s.take k)=off)(hn:tot ((s.drop k).take m)=n)(vs:List Value) :
  (flat s).take off++vs++(flat s).drop (off+n)=flat (s.take k)++vs++flat (s.drop (k+m)):=by
 subst hoff hn
 have e:s=s.take k++((s.drop k).take m++s.drop (k+m)):=by
  rw [← List.drop_drop,List.take_append_drop,List.take_append_drop]
 have h1:(flat (s.take k)).length=tot (s.take k):=flat_length fun y hy=>hs y (List.mem_of_mem_take hy)
 have h2:(flat ((s.drop k).take m)).length=tot ((s.drop k).take m):=flat_length fun y hy=>hs y (List.mem_of_mem_drop (List.mem_of_mem_take hy))
 have ef:flat s=flat (s.take k)++(flat ((s.drop k).take m)++flat (s.drop (k+m))):=by rw [← flat_append,← flat_append,← e]
 have et:(flat s).take (tot (s.take k))=flat (s.take k):=by
  rw [ef,← h1]; exact List.take_left
 have ed:(flat s).drop (tot (s.take k)+tot ((s.drop k).take m))=flat (s.drop (k+m)):=by
  rw [ef,← h1,← h2,← List.drop_drop,List.drop_left,List.drop_left]
 rw [et,ed]
theorem wo_stores (hF:Fr N D L a)(hS:SS M κ0 w0 κ w C R)(hc:okOp N L o=true)(i k m:Nat){b TB T off n:Nat}{s s' t:Segs}{x y:Operand}{v:Value}(hop:o.op = .store T x y)(hx:ev L x=some (.pointer (some ⟨b,off,none⟩)))(hy:ev L y=some v)
  (hC:C[i]? = some (.box b TB s)) (hoff:tot (s.take k)=off) (hsz:pureRun P (sizeOf T)=some n) (hn:tot ((s.drop k).take m)=n) (hn':tot s'=n) (hs':segsOk s') (h1 : ∀u∈flat s',u.oneCell'=true) (hv:v.cells=(flat s').toArray) (ht:s.take k++s'++s.drop (k+m)=t)
  (hC':C.set i (.box b TB t)=C')
  (kk : ∀a' w',Fr N D (upd L o.dst undef) a'→SS M κ0 w0 κ w' C' R→K a' w'):wo ro P o a w K Q:=by
 have hb:=hS.ck i hC
 have hls:(flat s').length=n:=by rw [flat_length hs',hn']
 have hfl:(flat s).length=tot s:=flat_length hb.2.1
 have htot:tot s=tot (s.take k)+(tot ((s.drop k).take m)+tot ((s.drop k).drop m)):=by
  rw [tot_take_drop s k,tot_take_drop (s.drop k) m]
 have hst:=run_store_cells (P:=P) hb (vs:=flat s') (off:=off) (by omega) h1 hv hsz hls
 rw [hls,segs_split hb.2.1 hoff hn] at hst
 have hok:segsOk t:=by
  subst ht
  refine segsOk_append.2 ⟨segsOk_append.2 ⟨fun y hy=>hb.2.1 y (List.mem_of_mem_take hy),hs'⟩,fun y hy=>hb.2.1 y (List.mem_of_mem_drop hy)⟩
 have hset:C'=C.take i ++ .box b TB t::C.drop (i+1):=by
  rw [← hC',List.set_eq_take_append_cons_drop,if_pos (List.getElem?_eq_some_iff.1 hC).1]
 have hCe:C=C.take i ++ .box b TB s::C.drop (i+1):=by
  obtain ⟨hi,he⟩:=List.getElem?_eq_some_iff.1 hC
  rw [← he]
  exact (take_get_drop C i hi).symm
 refine wo_skip hF hc (exec_store hop hx hy hst) fun a' hF'=>kk a' _ hF' ?_
 rw [hset]
 exact hS.write (C.take i) (C.drop (i+1)) hCe hok (by rw [← ht,flat_append,flat_append])
theorem wo_store (hF:Fr N D L a)(hS:SS M κ0 w0 κ w C R)(hc:okOp N L o=true)(i k j:Nat){b TB T off n:Nat}{s t:Segs}{l l':List Value}{x y:Operand}{v:Value}(hop:o.op = .store T x y)(hx:ev L x=some (.pointer (some ⟨b,off,none⟩)))(hy:ev L y=some v)
  (hC:C[i]? = some (.box b TB s)) (hk:s[k]? = some (n,l)) (hj:j<n) (hoff:tot (s.take k)+j=off) (hsz:pureRun P (sizeOf T)=some 1) (h1:v.oneCell'=true) (hl':l.set j v=l') (ht:s.set k (n,l')=t)
  (hC':C.set i (.box b TB t)=C')
  (kk : ∀a' w',Fr N D (upd L o.dst undef) a'→SS M κ0 w0 κ w' C' R→K a' w'):wo ro P o a w K Q:=by
 have hb:=hS.ck i hC
 have hln:l.length=n:=hb.2.1 (n,l) (List.mem_of_getElem? hk)
 subst hl' ht hC'
 have hfl:(flat s).length=tot s:=flat_length hb.2.1
 obtain ⟨hkl,hke⟩:=List.getElem?_eq_some_iff.1 hk
 have hse:s=s.take k++(n,l)::s.drop (k+1):=by rw [← hke]; exact (take_get_drop s k hkl).symm
 have htot:tot s=tot (s.take k)+(n+tot (s.drop (k+1))):=by
  conv=>lhs; rw [hse]
  rw [tot_append]; simp [tot]
 have hcells:v.cells=[v].toArray:=by cases v<;>first|rfl|(simp [Value.oneCell'] at h1)
 have hst:=run_store_cells (P:=P) hb (vs:=[v]) (off:=off) (by simp; omega) (by simpa using h1) hcells hsz rfl
 have hset:C.set i (.box b TB (s.set k (n,l.set j v)))=C.take i ++ .box b TB (s.set k (n,l.set j v))::C.drop (i+1):=by
  rw [List.set_eq_take_append_cons_drop,if_pos (List.getElem?_eq_some_iff.1 hC).1]
 have hCe:C=C.take i ++ .box b TB s::C.drop (i+1):=by
  obtain ⟨hi,he⟩:=List.getElem?_eq_some_iff.1 hC
  rw [← he]
  exact (take_get_drop C i hi).symm
 have hsk:s.set k (n,l.set j v)=s.take k++(n,l.set j v)::s.drop (k+1):=by
  rw [List.set_eq_take_append_cons_drop,if_pos hkl]
 have hok:segsOk (s.set k (n,l.set j v)):=by
  rw [hsk]
  refine segsOk_append.2 ⟨fun y hy=>hb.2.1 y (List.mem_of_mem_take hy),segsOk_cons.2 ⟨by simpa using hln,fun y hy=>hb.2.1 y (List.mem_of_mem_drop hy)⟩⟩
 have hfs:flat s=flat (s.take k)++(l++flat (s.drop (k+1))):=by
  conv=>lhs; rw [hse]
  rw [flat_append]; rfl
 have h2:(flat (s.take k)).length=tot (s.take k):=flat_length fun y hy=>hb.2.1 y (List.mem_of_mem_take hy)
 have heq:(flat s).take off++[v]++(flat s).drop (off + [v].length)=flat (s.set k (n,l.set j v)):=by
  rw [hsk,flat_append]
  show _=flat (s.take k)++(l.set j v++flat (s.drop (k+1)))
  subst hoff
  rw [hfs]
  have e1:(flat (s.take k)++(l++flat (s.drop (k+1)))).take (tot (s.take k)+j)=flat (s.take k)++l.take j:=by
   rw [← h2,List.take_length_add_append,List.take_append_of_le_length (by omega)]
  have e2:(flat (s.take k)++(l++flat (s.drop (k+1)))).drop (tot (s.take k)+j + [v].length)=l.drop (j+1)++flat (s.drop (k+1)):=by
   rw [← h2,List.length_singleton,Nat.add_assoc,List.drop_length_add_append,List.drop_append_of_le_length (by omega)]
  rw [e1,e2,List.set_eq_take_append_cons_drop,if_pos (by omega)]
  simp
 rw [heq] at hst
 refine wo_skip hF hc (exec_store hop hx hy hst) fun a' hF'=>kk a' _ hF' ?_
 rw [hset]
 exact hS.write (C.take i) (C.drop (i+1)) hCe hok rfl
theorem wo_alloc (hF:Fr N D L a)(hS:SS M κ0 w0 κ w C R)(hc:okOp N L o=true){T:Nat}{z:Value}{s:Segs}(hop:o.op = .alloc T)(hz:pureRun P (zeroValue T)=some z)(hs:segsOk s)(hzs:z.cells=(flat s).toArray)
  (kk : ∀b a' w',Fr N D (upd L o.dst (.pointer (some ⟨b,0,none⟩))) a'→SS M κ0 w0 κ w' (.box b T s::C) R→K a' w'):wo ro P o a w K Q:=by
 refine wo_val hF hc (v := .pointer (some ⟨w.heap.size,0,none⟩)) (w':=w.alloc (.cells (flat s).toArray T (0,0))) ?_ fun a' hF'=>kk _ a' _ hF' (hS.alloc T s hs _ rfl)
 simp only [execOp,hop]
 simp [Instr.alloc,pureRun_run _ hz w,run_newVar,hzs]
theorem wo_box (hF:Fr N D L a)(hS:SS M κ0 w0 κ w C R)(hc:okOp N L o=true){T:Nat}{v:Value}{x:Operand}{s:Segs}(hop:o.op = .box T x)(hx:ev L x=some v)(hs:segsOk s)(hvs:v.cells=(flat s).toArray)
  (kk : ∀b a' w',Fr N D (upd L o.dst (.pointer (some ⟨b,0,none⟩))) a'→SS M κ0 w0 κ w' (.box b T s::C) R→K a' w'):wo ro P o a w K Q:=by
 refine wo_val hF hc (v := .pointer (some ⟨w.heap.size,0,none⟩)) (w':=w.alloc (.cells (flat s).toArray T (0,0))) ?_ fun a' hF'=>kk _ a' _ hF' (hS.alloc T s hs _ rfl)
 simp only [execOp,hop,evD,hx,Option.getD_some]
 simp [Instr.box,run_newVar,hvs]
end
end Go.Cf
namespace Go.Cf
open Go
def idx {α:Type} (l:List α) (i:Int):Option α:=if 0≤i then l[i.toNat]? else none
theorem idx_some {α:Type} {l:List α} {i:Int} {x:α} (h:idx l i=some x):0≤i∧i.toNat<l.length∧l[i.toNat]? = some x:=by
 unfold idx at h
 split at h
 ·exact ⟨by assumption,(List.getElem?_eq_some_iff.1 h).1,h⟩
 ·cases h
def slc {α:Type} (l:List α) (lo hi:Int):Option (List α):=if 0≤lo∧lo≤hi∧hi≤l.length then some ((l.take hi.toNat).drop lo.toNat) else none
theorem slc_some {α:Type} {l l':List α} {lo hi:Int} (h:slc l lo hi=some l'):0≤lo∧lo≤hi∧hi≤l.length∧l'=(l.take hi.toNat).drop lo.toNat:=by
 unfold slc at h
 split at h
 ·rename_i h'; simp only [Option.some.injEq] at h; exact ⟨h'.1,h'.2.1,h'.2.2,h.symm⟩
 ·cases h
def apd {α:Type} (l l':List α):Option (List α):=if l.length+l'.length<2147483648 then some (l++l') else none
theorem apd_some {α:Type} {l l' m:List α} (h:apd l l'=some m):l.length+l'.length<2147483648∧m=l++l':=by
 unfold apd at h
 split at h
 ·rename_i h'; simp only [Option.some.injEq] at h; exact ⟨h',h.symm⟩
 ·cases h
section
variable {κ κ' κ0:Gh}{w w' w0:World}{M:List Nat}{C C':List Ck}{R R':List MP}
theorem Ro.at {α:Type}{t:Ty α}{p:Option Addr}{c:Nat}{l:List α}(h:Ro t κ w p c l){k:Nat}{x:α}(hk:l[k]? = some x) :
  ∃b off,p=some ⟨b,off,none⟩ ∧ ∃cs,t.rep κ w cs x ∧ ∀j v,cs[j]? = some v→w.cell? ⟨b,off+k*t.size+j,none⟩=some v:=by
 rcases h.2.2 with ⟨rfl,_⟩ | ⟨b,off,n,hp,_,_,hc⟩
 ·simp at hk
 ·exact ⟨b,off,hp,hc k x hk⟩
theorem Ro.at' {α:Type}{t:Ty α}{b off c:Nat}{l:List α}(h:Ro t κ w (some ⟨b,off,none⟩) c l){k:Nat}{x:α}(hk:l[k]? = some x) :
  ∃cs,t.rep κ w cs x ∧ ∀j v,cs[j]? = some v→w.cell? ⟨b,off+k*t.size+j,none⟩=some v:=by
 obtain ⟨b',off',hp,h⟩:=h.at hk
 simp only [Option.some.injEq,Addr.mk.injEq] at hp
 obtain ⟨rfl,rfl,_⟩:=hp
 exact h
theorem Ro.row {α:Type}{t:Ty α}{p:Option Addr}{c:Nat}{l:List α}(h:Ro t κ w p c l) :
  ∃news:List Value,news.length=l.length*t.size∧(∀b off,p=some ⟨b,off,none⟩ → ∀j v,news[j]? = some v→w.cell? ⟨b,off+j,none⟩=some v)∧(∀v∈news,v.oneCell'=true) ∧
   ∀i x,l[i]? = some x → ∃cs,t.rep κ w cs x ∧ ∀j v,cs[j]? = some v→news[i*t.size+j]? = some v:=by
 rcases h.2.2 with ⟨rfl,_⟩ | ⟨b,off,n,hp,_,_,hc⟩
 ·exact ⟨[],by simp,by simp,by simp,by simp⟩
 ·
  have key : ∀(l:List α) (k:Nat),(∀i x,l[i]? = some x → ∃cs,t.rep κ w cs x ∧ ∀j v,cs[j]? = some v→w.cell? ⟨b,off+(k+i)*t.size+j,none⟩=some v) →
    ∃news:List Value,news.length=l.length*t.size∧(∀j v,news[j]? = some v→w.cell? ⟨b,off+k*t.size+j,none⟩=some v)∧(∀v∈news,v.oneCell'=true) ∧
     ∀i x,l[i]? = some x → ∃cs,t.rep κ w cs x ∧ ∀j v,cs[j]? = some v→news[i*t.size+j]? = some v:=by
   intro l
   induction l with
   | nil=>intro k _; exact ⟨[],by simp,by simp,by simp,by simp⟩
   | cons y l ih=>
    intro k hk
    obtain ⟨cs,hr,hcs⟩:=hk 0 y rfl
    simp only [Nat.add_zero] at hcs
    obtain ⟨news,h1,h2,h3,h4⟩:=ih (k+1) fun i x hi=>by
     have:=hk (i+1) x (by simpa using hi)
     rwa [show k+(i+1)=k+1+i from by omega] at this
    have hl:cs.length=t.size:=t.len hr
    refine ⟨cs++news,by rw [List.length_append,hl,h1,List.length_cons,Nat.add_mul,Nat.one_mul]; omega,fun j v hj=>?_,fun v hv=>?_,fun i x hi=>?_⟩
    ·by_cases hjc:j<cs.length
     ·rw [List.getElem?_append_left hjc] at hj
      exact hcs j v hj
     ·rw [List.getElem?_append_right (by omega)] at hj
      have:=h2 (j-cs.length) v hj
      rw [Nat.add_mul,Nat.one_mul] at this
      rwa [show off+(k*t.size+t.size)+(j-cs.length)=off+k*t.size+j from by omega] at this
    ·rcases List.mem_append.1 hv with hv|hv
     ·exact t.one hr v hv
     ·exact h3 v hv
    ·cases i with
     | zero=>
      simp only [List.getElem?_cons_zero,Option.some.injEq] at hi
      subst hi
      exact ⟨cs,hr,fun j v hj=>by
       rw [Nat.zero_mul,Nat.zero_add,List.getElem?_append_left (List.getElem?_eq_some_iff.1 hj).1]; exact hj⟩
     | succ i=>
      simp only [List.getElem?_cons_succ] at hi
      obtain ⟨cs',hr',hv'⟩:=h4 i x hi
      refine ⟨cs',hr',fun j v hj=>?_⟩
      rw [List.getElem?_append_right (by rw [hl,Nat.add_mul,Nat.one_mul]; omega),hl,Nat.add_mul,Nat.one_mul]
      rw [show i*t.size+t.size+j-t.size=i*t.size+j from by omega]
      exact hv' j v hj
  obtain ⟨news,h1,h2,h3,h4⟩:=key l 0 fun i x hi=>by simpa using hc i x hi
  refine ⟨news,h1,fun b' off' hp' j v hj=>?_,h3,h4⟩
  rw [hp] at hp'
  simp only [Option.some.injEq,Addr.mk.injEq] at hp'
  obtain ⟨rfl,rfl,_⟩:=hp'
  have:=h2 j v hj
  rwa [Nat.zero_mul,Nat.add_zero] at this
theorem SS.turn (h:SS M κ0 w0 κ w C R)(A B:List Ck){c c':Ck}(hC:C=A++c::B)(he:Ext c.blks κ w κ' w')(hf:Fresh κ' w')(hok:c'.ok κ' w')
  (hb : ∀b∈c'.blks,b∈c.blks∨w.heap.size≤b) (hlt : ∀b∈c'.blks,b<w'.heap.size) (hn:c'.blks.Nodup):SS M κ0 w0 κ' w' (A++c'::B) R:=by
 subst hC
 have hown : ∀b∈c.blks,b∈blksOf (A++c::B):=fun b hb=>List.mem_flatMap.2 ⟨c,by simp,hb⟩
 have hnd:(blksOf A++(c.blks++blksOf B)).Nodup:=by simpa [blksOf] using h.nd
 have hnd2:=List.nodup_append.1 hnd
 have hnd3:=List.nodup_append.1 hnd2.2.1
 have hA : ∀b∈blksOf A,b ∉ c.blks:=fun b hb hb'=>hnd2.2.2 b hb b (List.mem_append.2 (.inl hb')) rfl
 have hB : ∀b∈blksOf B,b ∉ c.blks:=fun b hb hb'=>hnd3.2.2 b hb' b hb rfl
 have hltA : ∀b∈blksOf A,b<w.heap.size:=fun b hb=>h.lt b (by simp [blksOf_append,hb])
 have hltB : ∀b∈blksOf B,b<w.heap.size:=fun b hb=>h.lt b (by
  show b∈(A++c::B).flatMap Ck.blks
  simp only [List.flatMap_append,List.flatMap_cons,List.mem_append]; exact .inr (.inr hb))
 have heq:blksOf (A++c'::B)=blksOf A++(c'.blks++blksOf B):=by simp [blksOf]
 refine ⟨h.ext.trans' he fun b hb=>h.own b (hown b hb),hf,fun d hd=>?_,fun b hb'=>?_,?_,fun b hb'=>?_,fun m hm=>m.mono he (h.ro m hm)⟩
 ·rcases List.mem_append.1 hd with hd|hd
  ·exact Ck.ok_keep (h.ok d (by simp [hd])) (fun b hb=>hltA b (List.mem_flatMap.2 ⟨d,hd,hb⟩)) he fun b hb=>hA b (List.mem_flatMap.2 ⟨d,hd,hb⟩)
  ·rcases List.mem_cons.1 hd with rfl|hd
   ·exact hok
   ·exact Ck.ok_keep (h.ok d (by simp [hd])) (fun b hb=>hltB b (List.mem_flatMap.2 ⟨d,hd,hb⟩)) he fun b hb=>hB b (List.mem_flatMap.2 ⟨d,hd,hb⟩)
 ·rw [heq] at hb'
  rcases List.mem_append.1 hb' with hb'|hb'
  ·exact Nat.lt_of_lt_of_le (hltA b hb') he.size
  ·rcases List.mem_append.1 hb' with hb'|hb'
   ·exact hlt b hb'
   ·exact Nat.lt_of_lt_of_le (hltB b hb') he.size
 ·rw [heq]
  refine List.nodup_append.2 ⟨hnd2.1,List.nodup_append.2 ⟨hn,hnd3.2.1,fun x hx y hy=>?_⟩,fun x hx y hy=>?_⟩
  ·rintro rfl
   rcases hb x hx with hx'|hx'
   ·exact hB x hy hx'
   ·have:=hltB x hy; omega
  ·rintro rfl
   rcases List.mem_append.1 hy with hy|hy
   ·rcases hb x hy with hx'|hx'
    ·exact hA x hx hx'
    ·have:=hltA x hx; omega
   ·exact hnd2.2.2 x hx x (List.mem_append.2 (.inr hy)) rfl
 ·rw [heq] at hb'
  rcases List.mem_append.1 hb' with hb'|hb'
  ·exact h.own b (by simp [blksOf_append,hb'])
  ·rcases List.mem_append.1 hb' with hb'|hb'
   ·rcases hb b hb' with hx|hx
    ·exact h.own b (hown b hx)
    ·exact .inl (Nat.le_trans h.ext.size hx)
   ·exact h.own b (by
     show b∈(A++c::B).flatMap Ck.blks
     simp only [List.flatMap_append,List.flatMap_cons,List.mem_append]; exact .inr (.inr hb'))
theorem set_split {α:Type} {C:List α} {i:Nat} {c c':α} (h:C[i]? = some c):C=C.take i++c::C.drop (i+1)∧C.set i c'=C.take i++c'::C.drop (i+1):=by
 obtain ⟨hi,he⟩:=List.getElem?_eq_some_iff.1 h
 refine ⟨?_,by rw [List.set_eq_take_append_cons_drop,if_pos hi]⟩
 rw [← he]
 exact (take_get_drop C i hi).symm
theorem SS.addNil (h:SS M κ0 w0 κ w C R) (E size:Nat):SS M κ0 w0 κ w (.tok none E size 0 0::C) R:=
 ⟨h.ext,h.fresh,fun c hc=>by rcases List.mem_cons.1 hc with rfl|hc; exact .inl ⟨rfl,rfl⟩; exact h.ok c hc,h.lt,h.nd,h.own,h.ro⟩
structure AppOf (P:Program)(w:World)(t u y E:Nat)(i:TypeInfo)(z:Value)(v2:Value)(m:Nat)(news:List Value):Prop where
 zero:m=0 → ∀p n c,n≤c→(Builtin.append_ #[t,u] y #[.slice p n c,v2]).run P w = .ok (.slice p n c) w
 nil:0<m→(m:Int)≤9223372036854775807→m*i.bytes≤281474976710656→(Builtin.append_ #[t,u] y #[.slice none 0 0,v2]).run P w = .ok (.slice (some ⟨w.heap.size,0,none⟩) m (grownCap w m 0 E)) (w.drew.alloc (.cells (news.toArray++Builtin.zeroCells z.cells (grownCap w m 0 E-m)) E))
 grow : ∀(a:Addr) (n c:Nat) (olds:List Value),olds.length=n*i.size→(∀j v,olds[j]? = some v→w.cell? (a.add j)=some v)→c<n+m→((n+m:Nat):Int)≤9223372036854775807→Builtin.nextslicecap (n+m) c*i.bytes≤281474976710656 →
  (Builtin.append_ #[t,u] y #[.slice (some a) n c,v2]).run P w = .ok (.slice (some ⟨w.heap.size,0,none⟩) (n+m) (grownCap w (n+m) c E)) (w.drew.alloc (.cells (olds.toArray++news.toArray++Builtin.zeroCells z.cells (grownCap w (n+m) c E-(n+m))) E))
 room : ∀(b off n c:Nat) (w':World),n+m≤c→(storeCells ⟨b,off+n*i.size,none⟩ news 0).run P w = .ok () w'→(Builtin.append_ #[t,u] y #[.slice (some ⟨b,off,none⟩) n c,v2]).run P w = .ok (.slice (some ⟨b,off,none⟩) (n+m) c) w'
theorem run_appendX {P:Program}{α:Type}(ty:Ty α){t u y E bytes c:Nat}{i:TypeInfo}{z:Value}(hsize:i.size=ty.size)(hzs:z.cells.size=ty.size)(hby:i.bytes=bytes)(_hpos:0<ty.size)
  {p:Option Addr} {l l2:List α} {v2:Value} {news:List Value} (hfr:Fresh κ w) (htok:(Ck.tok p E ty.size l.length c).ok κ w) (hlt : ∀b∈(Ck.tok p E ty.size l.length c).blks,b<w.heap.size) (hl:Ro ty κ w p c l) (hA:AppOf P w t u y E i z v2 l2.length news) (hnl:news.length=l2.length*ty.size) (hnone : ∀v∈news,v.oneCell'=true) (hnrep : ∀i x,l2[i]? = some x → ∃cs,ty.rep κ w cs x ∧ ∀j v,cs[j]? = some v→news[i*ty.size+j]? = some v) (hlen:l.length+l2.length≤9223372036854775807) (hroom:((l.length+l2.length)+(l.length+l2.length) / 4+192)*bytes≤281474976710656) :
  ∃p' c' κ' w',(Builtin.append_ #[t,u] y #[.slice p l.length c,v2]).run P w = .ok (.slice p' (l++l2).length c') w' ∧
   Ext (Ck.tok p E ty.size l.length c).blks κ w κ' w'∧Fresh κ' w'∧Ro ty κ' w' p' c' (l++l2)∧(Ck.tok p' E ty.size (l++l2).length c').ok κ' w' ∧
   (∀b∈(Ck.tok p' E ty.size (l++l2).length c').blks,(b∈(Ck.tok p E ty.size l.length c).blks∨w.heap.size≤b)∧b<w'.heap.size):=by
 subst hby
 have hnle:l.length≤c:=hl.1
 have hgrown : ∀(news olds:List Value) (old:Nat),news.length=l2.length*ty.size→olds.length=l.length*ty.size→(∀v∈news,v.oneCell'=true) →
   (∀i x,l[i]? = some x → ∃cs,ty.rep κ w cs x ∧ ∀j v,cs[j]? = some v→olds[i*ty.size+j]? = some v)→(∀i x,l2[i]? = some x → ∃cs,ty.rep κ w cs x ∧ ∀j v,cs[j]? = some v→news[i*ty.size+j]? = some v) →
   ∃κ',let w':=w.drew.alloc (.cells (olds.toArray++news.toArray++Builtin.zeroCells z.cells (grownCap w (l.length+l2.length) old E-(l.length+l2.length))) E)
    Ext (Ck.tok p E ty.size l.length c).blks κ w κ' w'∧Fresh κ' w'∧Ro ty κ' w' (some ⟨w.heap.size,0,none⟩) (grownCap w (l.length+l2.length) old E) (l++l2)∧(Ck.tok (some ⟨w.heap.size,0,none⟩) E ty.size (l++l2).length (grownCap w (l.length+l2.length) old E)).ok κ' w' ∧
    (∀b∈(Ck.tok (some ⟨w.heap.size,0,none⟩) E ty.size (l++l2).length (grownCap w (l.length+l2.length) old E)).blks,(b∈(Ck.tok p E ty.size l.length c).blks∨w.heap.size≤b)∧b<w'.heap.size):=by
  intro news olds old hnl hol hone hro hrn
  have hge:=grownCap_ge w (l.length+l2.length) old E
  have hcm:=grownCap_le_maxLen w (l.length+l2.length) old E (by simp only [maxLen]; omega)
  generalize hcap:grownCap w (l.length+l2.length) old E=cap at *
  let w':=w.drew.alloc (.cells (olds.toArray++news.toArray++Builtin.zeroCells z.cells (cap-(l.length+l2.length))) E)
  have hnew:w'.heap[w.heap.size]? = some (.cells (olds.toArray++news.toArray++Builtin.zeroCells z.cells (cap-(l.length+l2.length))) E (0,0)):=heap_alloc_new w.drew _
  have hold : ∀b,b<w.heap.size→w'.heap[b]? = w.heap[b]? := fun b hb=>heap_alloc_old w.drew _ b hb
  have hsz':w'.heap.size=w.heap.size+1:=size_alloc w.drew _
  let κ':Gh:=fun b=>if b=w.heap.size then some ((l.length+l2.length)*ty.size) else κ b
  have hκ : ∀b,b≠w.heap.size→κ' b=κ b:=fun b hb=>by simp [κ',hb]
  have hkn:κ' w.heap.size=some ((l.length+l2.length)*ty.size):=by simp [κ']
  have hext:Ext (Ck.tok p E ty.size l.length c).blks κ w κ' w':=by
   refine ⟨rfl,rfl,rfl,by omega,fun b hb _=>⟨hold b hb,hκ b (by omega)⟩,fun b n hn=>?_⟩
   have hbl:b<w.heap.size:=by
    rcases Nat.lt_or_ge b w.heap.size with h|h
    ·exact h
    ·rw [hfr b h] at hn; cases hn
   exact ⟨n,(hκ b (by omega)).trans hn,Nat.le_refl _,fun i _=>cell_of_heap (hold b hbl)⟩
  have hcell : ∀j v,(olds++news)[j]? = some v→w'.cell? ⟨w.heap.size,0+j,none⟩=some v:=fun j v hj=>by
   have hjl:=(List.getElem?_eq_some_iff.1 hj).1
   rw [List.length_append] at hjl
   unfold World.cell?
   simp only [hnew,Nat.zero_add]
   simp only [Option.isSome_none,Bool.false_eq_true,if_false]
   rw [Array.getElem?_append_left (by simp; omega)]
   simpa using hj
  refine ⟨κ',hext,fun b hb=>by
   have hb':w.heap.size+1≤b:=by rw [← hsz']; exact hb
   rw [hκ b (by omega)]; exact hfr b (by omega),⟨?_,hcm,.inr ⟨w.heap.size,0,_,rfl,hkn,?_,fun i x hi=>?_⟩⟩,.inr ⟨w.heap.size,0,_,rfl,?_,?_,hcm,hnew,?_⟩,fun b hb=>?_⟩
  ·rw [List.length_append]; exact hge
  ·rw [List.length_append]; omega
  ·rw [List.getElem?_append] at hi
   split at hi
   ·rename_i hil
    obtain ⟨cs,hr,hv⟩:=hro i x hi
    refine ⟨cs,ty.mono hext hr,fun j v hj=>?_⟩
    rw [Nat.add_assoc]
    refine hcell _ v ?_
    rw [List.getElem?_append_left]
    ·exact hv j v hj
    ·exact (List.getElem?_eq_some_iff.1 (hv j v hj)).1
   ·rename_i hil
    obtain ⟨cs,hr,hv⟩:=hrn (i-l.length) x hi
    refine ⟨cs,ty.mono hext hr,fun j v hj=>?_⟩
    rw [Nat.add_assoc]
    refine hcell _ v ?_
    have e:i*ty.size=(i-l.length)*ty.size+l.length*ty.size:=by rw [← Nat.add_mul]; congr 1; omega
    rw [List.getElem?_append_right (by rw [hol,e]; omega),hol,e]
    rw [show (i-l.length)*ty.size+l.length*ty.size+j-l.length*ty.size=(i-l.length)*ty.size+j from by omega]
    exact hv j v hj
  ·rw [hkn,List.length_append,Nat.zero_add]
  ·rw [List.length_append]; exact hge
  ·simp only [Array.size_append,List.size_toArray,size_zeroCells,hzs,hol,hnl,← Nat.add_mul,Nat.zero_add]
   congr 1
   omega
  ·simp only [Ck.blks,List.mem_singleton] at hb
   subst hb
   exact ⟨.inr (Nat.le_refl _),by show _<w'.heap.size; omega⟩
 have hzero:l2.length=0 → ∃p' c' κ' w',Result.ok (Value.slice p l.length c) w = .ok (.slice p' (l++l2).length c') w' ∧
   Ext (Ck.tok p E ty.size l.length c).blks κ w κ' w'∧Fresh κ' w'∧Ro ty κ' w' p' c' (l++l2)∧(Ck.tok p' E ty.size (l++l2).length c').ok κ' w' ∧
   (∀b∈(Ck.tok p' E ty.size (l++l2).length c').blks,(b∈(Ck.tok p E ty.size l.length c).blks∨w.heap.size≤b)∧b<w'.heap.size):=fun h0=>by
  have:l2=[]:=List.eq_nil_of_length_eq_zero h0
  subst this
  refine ⟨p,c,κ,w,by simp,.refl _ _ _,hfr,by simpa using hl,by simpa using htok,fun b hb=>?_⟩
  have hb':b∈(Ck.tok p E ty.size l.length c).blks:=by cases p<;>exact hb
  exact ⟨.inl hb',hlt b hb'⟩
 rcases htok with ⟨h0,rfl⟩ | ⟨b,off,cells,rfl,hk,hle,hcm,hheap,hcs⟩
 ·
  have hlnil:l=[]:=List.eq_nil_of_length_eq_zero h0
  subst hlnil
  by_cases hm:l2.length=0
  ·obtain ⟨p',c',κ',w',h1,h2⟩:=hzero hm
   refine ⟨p',c',κ',w',?_,h2⟩
   rw [← h1]
   exact hA.zero hm _ _ _ (Nat.le_refl _)
  ·cases p with
   | none=>
    have hr:=hA.nil (by omega) (by omega) (Nat.le_trans (Nat.mul_le_mul_right _ (by simp; omega)) hroom)
    obtain ⟨κ',h1,h2,h3,h4,h5⟩:=hgrown news [] 0 hnl (by simp) hnone (by simp) hnrep
    simp only [List.length_nil,Nat.zero_add] at h1 h2 h3 h4 h5
    refine ⟨_,_,κ',_,?_,h1,h2,h3,h4,h5⟩
    simp only [List.length_nil,List.nil_append]
    rw [hr]
    simp
   | some a0=>
    have hr:=hA.grow a0 0 0 [] (by simp) (fun j v hj=>by cases hj) (by omega) (by omega) (growslice_fits_wide (by omega) (by simpa using hroom))
    obtain ⟨κ',h1,h2,h3,h4,h5⟩:=hgrown news [] 0 hnl (by simp) hnone (by simp) hnrep
    simp only [List.length_nil,Nat.zero_add] at h1 h2 h3 h4 h5
    refine ⟨_,_,κ',_,?_,h1,h2,h3,h4,h5⟩
    simp only [List.length_nil,List.nil_append]
    rw [hr]
    simp
 ·by_cases hrm:l.length+l2.length≤c
  ·
   have hsl:off+l.length*ty.size+news.length≤cells.size:=by
    rw [hnl,hcs,Nat.add_assoc,← Nat.add_mul]
    exact Nat.add_le_add_left (Nat.mul_le_mul_right _ hrm) _
   have hblt:b<w.heap.size:=(Array.getElem?_eq_some_iff.1 hheap).1
   have hst:=run_storeCells_at P b (off+l.length*ty.size) E news 0 cells w hheap (by simpa using hsl) hnone
   simp only [Nat.add_zero] at hst
   rw [setRow_eq w b E _ _ hheap] at hst
   let arr:Array Value:=(cells.toList.take (off+l.length*ty.size)++news++cells.toList.drop (off+l.length*ty.size+news.length)).toArray
   let w':World:={w with heap:=w.heap.setIfInBounds b (.cells arr E (0,0))}
   let κ':Gh:=fun b'=>if b'=b then some (off+(l.length+l2.length)*ty.size) else κ b'
   have hκ : ∀b',b'≠b→κ' b'=κ b':=fun b' hb=>by simp [κ',hb]
   have hkb:κ' b=some (off+(l.length+l2.length)*ty.size):=by simp [κ']
   have hother : ∀b',b'≠b→w'.heap[b']? = w.heap[b']? := fun b' hne=>by
    show (w.heap.setIfInBounds b _)[b']? = _
    rw [Array.getElem?_setIfInBounds_ne (Ne.symm hne)]
   have hme:w'.heap[b]? = some (.cells arr E (0,0)):=by
    show (w.heap.setIfInBounds b _)[b]? = _
    simp [hblt]
   have hsame : ∀k,k<off+l.length*ty.size→w'.cell? ⟨b,k,none⟩=w.cell? ⟨b,k,none⟩:=fun k hk=>by
    unfold World.cell?
    simp only [hme,hheap,Option.isSome_none,Bool.false_eq_true,if_false]
    simp only [arr,List.getElem?_toArray,List.append_assoc]
    rw [List.getElem?_append_left (by simp; omega),List.getElem?_take,if_pos hk]
    simp
   have hnewc : ∀j v,news[j]? = some v→w'.cell? ⟨b,off+l.length*ty.size+j,none⟩=some v:=fun j v hj=>by
    unfold World.cell?
    simp only [hme,Option.isSome_none,Bool.false_eq_true,if_false]
    simp only [arr,List.getElem?_toArray,List.append_assoc]
    have hjl:=(List.getElem?_eq_some_iff.1 hj).1
    rw [List.getElem?_append_right (by simp; omega)]
    rw [show off+l.length*ty.size+j-(cells.toList.take (off+l.length*ty.size)).length=j from by simp; omega]
    rw [List.getElem?_append_left hjl]
    exact hj
   have hext:Ext [b] κ w κ' w':=by
    refine ⟨rfl,rfl,rfl,by simp [w'],fun b' _ hm=>⟨hother b' (by simpa using hm),hκ b' (by simpa using hm)⟩,fun b' n hn=>?_⟩
    by_cases hbb:b'=b
    ·subst hbb
     rw [hk] at hn
     simp only [Option.some.injEq] at hn
     subst hn
     exact ⟨_,hkb,by rw [Nat.add_mul]; omega,hsame⟩
    ·exact ⟨n,(hκ b' hbb).trans hn,Nat.le_refl _,fun i _=>cell_of_heap (hother b' hbb)⟩
   refine ⟨some ⟨b,off,none⟩,c,κ',w',?_,hext,fun b' hb'=>?_,⟨by rw [List.length_append]; exact hrm,hcm,.inr ⟨b,off,_,rfl,hkb,by rw [List.length_append]; omega,fun k x hx=>?_⟩⟩,.inr ⟨b,off,arr,rfl,by rw [hkb,List.length_append],by rw [List.length_append]; exact hrm,hcm,hme,?_⟩,fun b' hb'=>?_⟩
   ·rw [List.length_append]
    exact hA.room b off _ c _ hrm (by rw [hsize]; exact hst)
   ·have hb'':w.heap.size≤b':=by simpa [w'] using hb'
    rw [hκ b' (by omega)]; exact hfr b' hb''
   ·rw [List.getElem?_append] at hx
    split at hx
    ·rename_i hil
     obtain ⟨cs,hr,hv⟩:=hl.at' hx
     refine ⟨cs,ty.mono hext hr,fun j v hj=>?_⟩
     have hjl:j<ty.size:=by rw [← ty.len hr]; exact (List.getElem?_eq_some_iff.1 hj).1
     have hmul:k*ty.size+ty.size≤l.length*ty.size:=by
      have:(k+1)*ty.size≤l.length*ty.size:=Nat.mul_le_mul_right _ hil
      rw [Nat.add_mul,Nat.one_mul] at this; exact this
     rw [hsame _ (by omega)]
     exact hv j v hj
    ·rename_i hil
     obtain ⟨cs,hr,hv⟩:=hnrep (k-l.length) x hx
     refine ⟨cs,ty.mono hext hr,fun j v hj=>?_⟩
     have e:k*ty.size=(k-l.length)*ty.size+l.length*ty.size:=by rw [← Nat.add_mul]; congr 1; omega
     have:=hnewc _ v (hv j v hj)
     rw [e]
     rwa [show off+((k-l.length)*ty.size+l.length*ty.size)+j=off+l.length*ty.size+((k-l.length)*ty.size+j) from by omega]
   ·simp only [arr,List.size_toArray,List.length_append,List.length_take,List.length_drop,Array.length_toList]
    omega
   ·simp only [Ck.blks,List.mem_singleton] at hb'
    subst hb'
    exact ⟨.inl (by simp [Ck.blks]),by simp [w']; exact hblt⟩
  ·
   obtain ⟨olds,hol,hocell,_,horep⟩:=hl.row
   have hocell':=hocell b off rfl
   have hr:=hA.grow ⟨b,off,none⟩ l.length c olds (by rw [hsize]; exact hol) (fun j v hj=>by rw [add_off]; exact hocell' j v hj) (by omega) (by omega) (growslice_fits_wide (by omega) hroom)
   obtain ⟨κ',h1,h2,h3,h4,h5⟩:=hgrown news olds c hnl hol hnone horep hnrep
   refine ⟨_,_,κ',_,?_,h1,h2,h3,h4,h5⟩
   rw [hr,List.length_append]
theorem appOf_slice {P:Program}{w:World}{t y E c2:Nat}{i:TypeInfo}{z:Value}(ht:P.underlying t=some (.slice E))(hi:P.info? E=some i)(hz:i.zero=some z){p2:Option Addr}{m:Nat}{news:List Value}
  (hnl:news.length=m*i.size) (h:p2=none∧m=0 ∨ ∃a,p2=some a ∧ ∀j v,news[j]? = some v→w.cell? (a.add j)=some v):AppOf P w t t y E i z (.slice p2 m c2) m news where
 zero:=fun h0 p n c hn=>by
  subst h0
  cases p<;>cases p2<;>simp [Builtin.append_,run_underlying ht,sizeOf,typeInfo,hi,Builtin.lenOf,hn,Builtin.firstCells,storeCells,loadCells,loadCellsFrom]
 nil:=fun h0 h63 h48=>by
  rcases h with ⟨_,h⟩ | ⟨a,rfl,hc⟩
  ·omega
  ·exact run_append_nil (P:=P) w t y E i z ht hi hz a m c2 news hnl hc h0 h63 h48
 grow:=fun a n c olds ho hoc hg h63 h48=>by
  rcases h with ⟨rfl,rfl⟩ | ⟨b,rfl,hc⟩
  ·have hnn:news=[]:=List.eq_nil_of_length_eq_zero (by rw [hnl]; simp)
   subst hnn
   have h63' : ¬(9223372036854775807<(n:Int)):=by omega
   have h48' : ¬(281474976710656<Builtin.nextslicecap n c*i.bytes):=by simpa using h48
   have hgn : ¬(n≤c):=by omega
   have hf:=run_firstCells_some (P:=P) w.drew i.size n a n c olds ho (by simpa using hoc)
   simp [Builtin.append_,run_underlying ht,sizeOf,typeInfo,zeroValue,hi,hz,Builtin.lenOf,hgn,h63',h48',Question.forced,run_firstCells_none,hf,newRow,grownCap]
  ·exact run_append_grow (P:=P) w t y E i z ht hi hz a n c olds ho hoc b m c2 news hnl hc hg h63 h48
 room:=fun b off n c w' hr hst=>by
  rcases h with ⟨rfl,rfl⟩ | ⟨a,rfl,hc⟩
  ·have hnn:news=[]:=List.eq_nil_of_length_eq_zero (by rw [hnl]; simp)
   subst hnn
   have:w'=w:=by simpa [storeCells] using hst.symm
   subst this
   simp at hr
   simp [Builtin.append_,run_underlying ht,sizeOf,typeInfo,hi,Builtin.lenOf,hr,Builtin.firstCells,storeCells,loadCells,loadCellsFrom]
  ·have hf:=run_firstCells_some (P:=P) w i.size m a m c2 news hnl hc
   simp [Builtin.append_,run_underlying ht,sizeOf,typeInfo,hi,Builtin.lenOf,hr,hf,add_off,hst]
theorem appOf_str {P:Program}{w:World}{t u y E:Nat}{i:TypeInfo}{z:Value}(ht:P.underlying t=some (.slice E))(hu:P.underlying u=some .string)(hi:P.info? E=some i)(hz:i.zero=some z)(hs1:i.size=1)(s:ByteArray):AppOf P w t u y E i z (.string s) s.size (Lib.strCells s) where
 zero:=fun h0 p n c hn=>by
  have hs:s.data = #[]:=Array.eq_empty_of_size_eq_zero h0
  cases p<;>simp [Builtin.append_,run_underlying ht,run_underlying hu,sizeOf,typeInfo,hi,Builtin.lenOf,h0,hn,Builtin.firstCells,hs,storeCells]
 nil:=fun h0 h63 h48=>by
  rw [run_append_nil_string (P:=P) w t u y E i z ht hu hi hz s h0 h63 h48]
  have e:s.data.map (fun b=>Value.int .u8 b.toNat)=(Lib.strCells s).toArray:=by
   apply Array.ext'
   simp [Lib.strCells]
  rw [e]
 grow:=fun a n c olds ho hoc hg h63 h48=>Lib.run_append_grow_string (P:=P) w t u y E i z ht hu hi hz a n c olds ho hoc s hg h63 h48
 room:=fun b off n c w' hr hst=>by
  have hf:=Lib.run_firstCells_string (P:=P) w 1 s
  rw [hs1] at hst
  simp only [Nat.mul_one] at hst
  simp [Builtin.append_,run_underlying ht,run_underlying hu,sizeOf,typeInfo,hi,hs1,Builtin.lenOf,hr,hf,add_off,hst]
theorem run_appendG {P:Program}{α:Type}(ty:Ty α){t y E bytes c c2:Nat}{i:TypeInfo}{z:Value}(ht:P.underlying t=some (.slice E))(hi:P.info? E=some i)(hz:i.zero=some z)(hsize:i.size=ty.size)(hzs:z.cells.size=ty.size)(hby:i.bytes=bytes)(_hpos:0<ty.size)
  {p p2:Option Addr} {l l2:List α} (hfr:Fresh κ w) (htok:(Ck.tok p E ty.size l.length c).ok κ w) (hlt : ∀b∈(Ck.tok p E ty.size l.length c).blks,b<w.heap.size) (hl:Ro ty κ w p c l) (hl2:Ro ty κ w p2 c2 l2) (hlen:l.length+l2.length≤9223372036854775807) (hroom:((l.length+l2.length)+(l.length+l2.length) / 4+192)*bytes≤281474976710656) :
  ∃p' c' κ' w',(Builtin.append_ #[t,t] y #[.slice p l.length c,.slice p2 l2.length c2]).run P w = .ok (.slice p' (l++l2).length c') w' ∧
   Ext (Ck.tok p E ty.size l.length c).blks κ w κ' w'∧Fresh κ' w'∧Ro ty κ' w' p' c' (l++l2)∧(Ck.tok p' E ty.size (l++l2).length c').ok κ' w' ∧
   (∀b∈(Ck.tok p' E ty.size (l++l2).length c').blks,(b∈(Ck.tok p E ty.size l.length c).blks∨w.heap.size≤b)∧b<w'.heap.size):=by
 obtain ⟨news,hnl,hncell,hnone,hnrep⟩:=hl2.row
 refine run_appendX ty hsize hzs hby _hpos hfr htok hlt hl (appOf_slice ht hi hz (by rw [hsize]; exact hnl) ?_) hnl hnone hnrep hlen hroom
 rcases hl2.2.2 with ⟨rfl,rfl⟩ | ⟨b2,off2,n2,rfl,hk2,hn2,hc2⟩
 ·cases p2 with
  | none=>exact .inl ⟨rfl,rfl⟩
  | some a=>exact .inr ⟨a,rfl,fun j v hj=>by
    have:news=[]:=List.eq_nil_of_length_eq_zero (by rw [hnl]; simp)
    subst this; cases hj⟩
 ·exact .inr ⟨_,rfl,fun j v hj=>by rw [add_off]; exact hncell b2 off2 rfl j v hj⟩
theorem run_append {P:Program}{α:Type}(ty:Ty α){t y E bytes c c2:Nat}{i:TypeInfo}{z:Value}(ht:P.underlying t=some (.slice E))(hi:P.info? E=some i)(hz:i.zero=some z)(hsize:i.size=ty.size)(hzs:z.cells.size=ty.size)(hby:i.bytes=bytes)(hb4:bytes≤4096)(_hpos:0<ty.size)
  {p p2:Option Addr} {l l2:List α} (hfr:Fresh κ w) (htok:(Ck.tok p E ty.size l.length c).ok κ w) (hlt : ∀b∈(Ck.tok p E ty.size l.length c).blks,b<w.heap.size) (hl:Ro ty κ w p c l) (hl2:Ro ty κ w p2 c2 l2) (hlen:l.length+l2.length<2147483648) :
  ∃p' c' κ' w',(Builtin.append_ #[t,t] y #[.slice p l.length c,.slice p2 l2.length c2]).run P w = .ok (.slice p' (l++l2).length c') w' ∧
   Ext (Ck.tok p E ty.size l.length c).blks κ w κ' w'∧Fresh κ' w'∧Ro ty κ' w' p' c' (l++l2)∧(Ck.tok p' E ty.size (l++l2).length c').ok κ' w' ∧
   (∀b∈(Ck.tok p' E ty.size (l++l2).length c').blks,(b∈(Ck.tok p E ty.size l.length c).blks∨w.heap.size≤b)∧b<w'.heap.size):=
 run_appendG ty ht hi hz hsize hzs hby _hpos hfr htok hlt hl hl2 (by omega) (Nat.le_trans (Nat.mul_le_mul (show (l.length+l2.length)+(l.length+l2.length) / 4+192≤2684354752 by omega) hb4) (by decide))
end
end Go.Cf
namespace Go.Cf
open Go
section
variable {ro:Option Nat}{P:Program}{ops:Array Oper}{Q:Exit→Act→World→Prop}{N:Nat}{D:List Deferred}{L L':FL}{a:Act}{w:World}{o:Oper}{K:Act→World→Prop}
variable {M:List Nat}{κ0 κ:Gh}{w0:World}{C C':List Ck}{R R':List MP}
theorem run_underlying' {T:Nat} {d:TypeDesc} (h:pureRun P (underlying T)=some d) (w:World):(underlying T).run P w = .ok d w:=pureRun_run _ h w
theorem underlying_of {T:Nat} {d:TypeDesc} (h:pureRun P (underlying T)=some d):P.underlying T=some d:=by
 have e:pureRun P (underlying T)=P.underlying T:=by
  show pureRun P (match P.underlying T with|some d=>pure d|none=>stuck "no such type")=_
  cases P.underlying T<;>rfl
 rw [← e]; exact h
theorem wo_index (hF:Fr N D L a)(hS:SS M κ0 w0 κ w C R)(hc:okOp N L o=true){α:Type}{t:Ty α}(ri:Nat){T E sz n c:Nat}{kd:IntKind}{p:Option Addr}{l:List α}{i:Int}{y:α}{x ix:Operand}(hop:o.op = .indexAddr T x ix)(hR:R[ri]? = some (Ro.mp t p c l))
  (hx:ev L x=some (.slice p n c)) (hn:n=l.length) (hix:ev L ix=some (.int kd i)) (hi:idx l i=some y) (hu:pureRun P (underlying T)=some (.slice E)) (hs:pureRun P (sizeOf E)=some sz)
  (kk : ∀b off a',p=some ⟨b,off,none⟩→Fr N D (upd L o.dst (.pointer (some ⟨b,off+i.toNat*sz,none⟩))) a'→K a' w):wo ro P o a w K Q:=by
 obtain ⟨h0,h1,h2⟩:=idx_some hi
 have hRo:Ro t κ w p c l:=hS.get ri hR
 obtain ⟨b,off,hp,_⟩:=hRo.at h2
 refine wo_val hF hc (v := .pointer (some ⟨b,off+i.toNat*sz,none⟩)) (w':=w) ?_ fun a' hF'=>kk b off a' hp hF'
 simp only [execOp,hop,evD,hx,hix,Option.getD_some]
 subst hn hp
 have hlt:i<(l.length:Int):=by omega
 simp [Instr.indexAt,asIntOf,run_underlying' hu,pureRun_run _ hs w,h0,hlt,add_off]
theorem wo_indexArr (hF:Fr N D L a)(hc:okOp N L o=true){T E sz n b off:Nat}{kd:IntKind}{i:Int}{x ix:Operand}(hop:o.op = .indexAddr T x ix)
  (hx:ev L x=some (.pointer (some ⟨b,off,none⟩))) (hix:ev L ix=some (.int kd i)) (hi:0≤i∧i<(n:Int)) (hu:pureRun P (underlying T)=some (.array n E)) (hs:pureRun P (sizeOf E)=some sz)
  (kk : ∀a',Fr N D (upd L o.dst (.pointer (some ⟨b,off+i.toNat*sz,none⟩))) a'→K a' w):wo ro P o a w K Q:=by
 refine wo_val hF hc (v := .pointer (some ⟨b,off+i.toNat*sz,none⟩)) (w':=w) ?_ kk
 simp only [execOp,hop,evD,hx,hix,Option.getD_some]
 simp [Instr.indexAt,Instr.sureAddr,asIntOf,run_underlying' hu,pureRun_run _ hs w,hi.1,hi.2,add_off]
theorem wo_loadRo (hF:Fr N D L a)(hS:SS M κ0 w0 κ w C R)(hc:okOp N L o=true){α:Type}{t:FT α}(ri f:Nat){T c b off E:Nat}{p:Option Addr}{l:List α}{i:Int}{y:α}{x:Operand}{v:Value}(hop:o.op = .load T x)(hR:R[ri]? = some (Ro.mp t.ty p c l))
  (hp:p=some ⟨b,off,none⟩) (hx:ev L x=some (.pointer (some ⟨b,E,none⟩))) (hi:idx l i=some y) (hE:off+i.toNat*t.size+f=E) (hv:(t.enc y)[f]? = some v) (hg:pureRun P (isAgg T)=some false)
  (kk : ∀a',Fr N D (upd L o.dst v) a'→K a' w):wo ro P o a w K Q:=by
 have hRo:Ro t.ty κ w p c l:=hS.get ri hR
 subst hp hE
 obtain ⟨cs,hr,hcs⟩:=hRo.at' (idx_some hi).2.2
 have hr':cs=t.enc y:=hr
 subst hr'
 exact wo_val hF hc (exec_load hop hx (run_load_scalar hg (hcs f v hv))) kk
theorem wo_loadRoAgg (hF:Fr N D L a)(hS:SS M κ0 w0 κ w C R)(hc:okOp N L o=true){α:Type}{t:FT α}(ri:Nat){T c b off E:Nat}{p:Option Addr}{l:List α}{i:Int}{y:α}{x:Operand}(hop:o.op = .load T x)(hR:R[ri]? = some (Ro.mp t.ty p c l))
  (hp:p=some ⟨b,off,none⟩) (hx:ev L x=some (.pointer (some ⟨b,E,none⟩))) (hi:idx l i=some y) (hE:off+i.toNat*t.size=E) (hg:pureRun P (isAgg T)=some true) (hsz:pureRun P (sizeOf T)=some t.size)
  (kk : ∀a',Fr N D (upd L o.dst (.agg (t.enc y).toArray)) a'→K a' w):wo ro P o a w K Q:=by
 have hRo:Ro t.ty κ w p c l:=hS.get ri hR
 subst hp hE
 obtain ⟨cs,hr,hcs⟩:=hRo.at' (idx_some hi).2.2
 have hr':cs=t.enc y:=hr
 subst hr'
 exact wo_val hF hc (exec_load hop hx (run_load_agg hg hsz (t.len y) fun j v hj=>hcs j v hj)) kk
theorem wo_slice (hF:Fr N D L a)(hS:SS M κ0 w0 κ w C R)(hc:okOp N L o=true){α:Type}{t:Ty α}(ri:Nat){T E n c:Nat}{p:Option Addr}{l l':List α}{lo hi:Int}{x:Operand}{xl xh:Option Operand}(hop:o.op = .slice T x xl xh none)(hR:R[ri]? = some (Ro.mp t p c l))
  (hx:ev L x=some (.slice p n c)) (hn:n=l.length) (hlo:match xl with|some y => ∃k,ev L y=some (.int k lo)|none=>lo=0) (hhi:match xh with|some y => ∃k,ev L y=some (.int k hi)|none=>hi=l.length)
  (hs:slc l lo hi=some l') (hu:pureRun P (underlying T)=some (.slice E)) (hsz:pureRun P (sizeOf E)=some t.size)
  (kk : ∀p' c' a',Fr N D (upd L o.dst (.slice p' l'.length c')) a'→SS M κ0 w0 κ w C (Ro.mp t p' c' l'::R)→K a' w):wo ro P o a w K Q:=by
 obtain ⟨h0,h1,h2,rfl⟩:=slc_some hs
 subst hn
 have hRo:Ro t κ w p c l:=hS.get ri hR
 have hlc:l.length≤c:=hRo.1
 have hlen:((l.take hi.toNat).drop lo.toNat).length=hi.toNat-lo.toNat:=by simp; omega
 have hrun:(Instr.sliceAt T (.slice p l.length c) (xl.map (evD L)) (xh.map (evD L)) none).run P w = .ok (.slice (if c=lo.toNat then p else p.map (·.add (lo.toNat*t.size))) (hi.toNat-lo.toNat) (c-lo.toNat)) w:=by
  cases xl with
  | none=>
   subst hlo
   cases xh with
   | none=>subst hhi; simp [Instr.sliceAt,Instr.slice,Instr.sliceBounds,run_underlying' hu,pureRun_run _ hsz w]
   | some y=>
    obtain ⟨k,hk⟩:=hhi
    have:hi≤(c:Int):=by omega
    simp [Instr.sliceAt,Instr.slice,Instr.sliceBounds,Instr.sliceBound,asIntOf,run_underlying' hu,pureRun_run _ hsz w,evD,hk,h1,this]
  | some z=>
   obtain ⟨kz,hkz⟩:=hlo
   cases xh with
   | none=>
    subst hhi
    simp [Instr.sliceAt,Instr.slice,Instr.sliceBounds,Instr.sliceBound,asIntOf,run_underlying' hu,pureRun_run _ hsz w,evD,hkz,h0,h1]
   | some y=>
    obtain ⟨k,hk⟩:=hhi
    have h3:hi≤(c:Int):=by omega
    have h4:0≤hi:=by omega
    have h5:lo≤max hi 0:=by omega
    simp [Instr.sliceAt,Instr.slice,Instr.sliceBounds,Instr.sliceBound,asIntOf,run_underlying' hu,pureRun_run _ hsz w,evD,hk,hkz,h0,h3,h4,h5]
 have hval:(execOp (evD L) o).run P w = .ok (.value (.slice (if c=lo.toNat then p else p.map (·.add (lo.toNat*t.size))) ((l.take hi.toNat).drop lo.toNat).length (c-lo.toNat))) w:=by
  have hev:evD L x = .slice p l.length c:=by simp [evD,hx]
  simp only [execOp,hop,hev,Option.map_none]
  rw [hlen]
  simp [hrun]
 refine wo_val hF hc hval fun a' hF'=>kk _ _ a' hF' (hS.add ?_)
 show Ro t κ w _ _ _
 refine ⟨by rw [hlen]; omega,by have:=hRo.2.1; omega,?_⟩
 rcases hRo.2.2 with ⟨rfl,rfl⟩ | ⟨b,off,m,rfl,hk,hm,hcell⟩
 ·exact .inl ⟨by simp,by omega⟩
 ·by_cases hcl:c=lo.toNat
  ·rw [if_pos hcl]
   have hz:hi.toNat-lo.toNat=0:=by omega
   have hnil:(l.take hi.toNat).drop lo.toNat=[]:=List.eq_nil_of_length_eq_zero (by rw [hlen]; exact hz)
   rw [hnil]
   exact .inr ⟨b,off,m,rfl,hk,by simp; omega,fun i x hi=>by simp at hi⟩
  ·rw [if_neg hcl]
   refine .inr ⟨b,off+lo.toNat*t.size,m,by simp [add_off],hk,?_,fun i x hi'=>?_⟩
   ·rw [hlen,Nat.add_assoc,← Nat.add_mul]
    have:(lo.toNat+(hi.toNat-lo.toNat))*t.size≤l.length*t.size:=Nat.mul_le_mul_right _ (by omega)
    omega
   ·rw [List.getElem?_drop,List.getElem?_take] at hi'
    split at hi'
    ·obtain ⟨cs,hr,hcs⟩:=hcell _ x hi'
     refine ⟨cs,hr,fun j v hj=>?_⟩
     have:=hcs j v hj
     rw [Nat.add_mul] at this
     rwa [show off+lo.toNat*t.size+i*t.size+j=off+(lo.toNat*t.size+i*t.size)+j from by omega]
    ·cases hi'
theorem wo_append (hF:Fr N D L a)(hS:SS M κ0 w0 κ w C R)(hc:okOp N L o=true){α:Type}{ty:Ty α}(ci ri ri2:Nat){t E c c2 n n2:Nat}{i:TypeInfo}{z:Value}{p p2:Option Addr}{l l2 l':List α}{x y:Operand}
  (hop:o.op = .call {callee := .builtin .append,args := #[x,y],argTypes := #[t,t]}) (hx:ev L x=some (.slice p n c)) (hy:ev L y=some (.slice p2 n2 c2)) (hn:n=l.length) (hn2:n2=l2.length) (hC:C[ci]? = some (.tok p E ty.size n c))
  (hR:R[ri]? = some (Ro.mp ty p c l)) (hR2:R[ri2]? = some (Ro.mp ty p2 c2 l2)) (ha:apd l l2=some l')
  (ht:pureRun P (underlying t)=some (.slice E)) (hi:P.info? E=some i) (hz:i.zero=some z) (hsize:(i.size==ty.size&&z.cells.size==ty.size&&decide (i.bytes≤4096)&&decide (0<ty.size))=true)
  (kk : ∀p' c' κ' a' w',Fr N D (upd L o.dst (.slice p' l'.length c')) a'→SS M κ0 w0 κ' w' (C.set ci (.tok p' E ty.size l'.length c')) (Ro.mp ty p' c' l'::R)→K a' w'):wo ro P o a w K Q:=by
 obtain ⟨hlen,rfl⟩:=apd_some ha
 subst hn hn2
 simp only [Bool.and_eq_true,beq_iff_eq,decide_eq_true_eq] at hsize
 obtain ⟨⟨⟨hs1,hs2⟩,hs3⟩,hs4⟩:=hsize
 have hl:Ro ty κ w p c l:=hS.get ri hR
 have hl2:Ro ty κ w p2 c2 l2:=hS.get ri2 hR2
 have htok:=hS.ck ci hC
 have hblk : ∀b∈(Ck.tok p E ty.size l.length c).blks,b∈blksOf C:=fun b hb=>List.mem_flatMap.2 ⟨_,List.mem_of_getElem? hC,hb⟩
 obtain ⟨p',c',κ',w',hrun,hext,hfr,hro,htok',hb'⟩:=run_append (P:=P) (y:=o.type) ty (underlying_of ht) hi hz hs1 hs2 rfl hs3 hs4 hS.fresh htok (fun b hb=>hS.lt b (hblk b hb)) hl hl2 hlen
 have hval:(execOp (evD L) o).run P w = .ok (.value (.slice p' (l++l2).length c')) w':=by
  have hex:evD L x = .slice p l.length c:=by simp [evD,hx]
  have hey:evD L y = .slice p2 l2.length c2:=by simp [evD,hy]
  simp only [execOp,hop]
  simp [resolve,invoke,Go.builtin,hex,hey,hrun]
 obtain ⟨hCe,hCs⟩:=set_split (c' := .tok p' E ty.size (l++l2).length c') hC
 refine wo_val hF hc hval fun a' hF'=>kk p' c' κ' a' w' hF' ?_
 rw [hCs]
 exact (hS.turn _ _ hCe hext hfr htok' (fun b hb=>(hb' b hb).1) (fun b hb=>(hb' b hb).2) (by cases p'<;>simp [Ck.blks])).add hro
theorem SS.publish (hS:SS M κ0 w0 κ w C R){α:Type}(t:Ty α)(E:Nat)(cells:List Value)(l:List α)(hn:cells.length=l.length*t.size)(hm:l.length≤maxLen)
  (hrep : ∀i x,l[i]? = some x → ∃cs,t.rep κ w cs x ∧ ∀j v,cs[j]? = some v→cells[i*t.size+j]? = some v) :
  ∃κ',SS M κ0 w0 κ' (w.alloc (.cells cells.toArray E)) (.tok (some ⟨w.heap.size,0,none⟩) E t.size l.length l.length::C) (Ro.mp t (some ⟨w.heap.size,0,none⟩) l.length l::R):=by
 let w':=w.alloc (.cells cells.toArray E)
 let κ':Gh:=fun b=>if b=w.heap.size then some (l.length*t.size) else κ b
 have hκ : ∀b,b≠w.heap.size→κ' b=κ b:=fun b hb=>by simp [κ',hb]
 have hext:Ext [] κ w κ' w':=by
  refine ⟨rfl,rfl,rfl,by rw [size_alloc]; omega,fun b hb _=>⟨heap_alloc_old w _ b hb,hκ b (by omega)⟩,fun b n hn=>?_⟩
  have hbl:b<w.heap.size:=by
   rcases Nat.lt_or_ge b w.heap.size with h|h
   ·exact h
   ·rw [hS.fresh b h] at hn; cases hn
  exact ⟨n,(hκ b (by omega)).trans hn,Nat.le_refl _,fun i _=>cell_of_heap (heap_alloc_old w _ b hbl)⟩
 have hfr:Fresh κ' w':=fun b hb=>by
  rw [size_alloc] at hb
  rw [hκ b (by omega)]; exact hS.fresh b (by omega)
 have hkn:κ' w.heap.size=some (l.length*t.size):=by simp [κ']
 have h':=hS.step hext hfr
 have htok:(Ck.tok (some ⟨w.heap.size,0,none⟩) E t.size l.length l.length).ok κ' w':=
  .inr ⟨w.heap.size,0,cells.toArray,rfl,by rw [hkn,Nat.zero_add],Nat.le_refl _,hm,heap_alloc_new _ _,by simp [hn]⟩
 have h'':SS M κ0 w0 κ' w' (.tok (some ⟨w.heap.size,0,none⟩) E t.size l.length l.length::C) R:=by
  refine ⟨h'.ext,h'.fresh,fun c hc=>?_,fun b hb=>?_,?_,fun b hb=>?_,h'.ro⟩
  ·rcases List.mem_cons.1 hc with rfl|hc
   ·exact htok
   ·exact h'.ok c hc
  ·rcases List.mem_cons.1 (show b∈w.heap.size::blksOf C from hb) with rfl|hb
   ·rw [size_alloc]; omega
   ·exact h'.lt b hb
  ·show (w.heap.size::blksOf C).Nodup
   exact List.nodup_cons.2 ⟨fun hm=>by have:=hS.lt _ hm; omega,hS.nd⟩
  ·rcases List.mem_cons.1 (show b∈w.heap.size::blksOf C from hb) with rfl|hb
   ·exact .inl hS.ext.size
   ·exact hS.own b hb
 refine ⟨κ',h''.add ⟨Nat.le_refl _,hm,.inr ⟨w.heap.size,0,l.length*t.size,rfl,hkn,by omega,fun i x hi=>?_⟩⟩⟩
 obtain ⟨cs,hr,hv⟩:=hrep i x hi
 refine ⟨cs,t.mono hext hr,fun j v hj=>?_⟩
 unfold World.cell?
 simp only [w',heap_alloc_new,Nat.zero_add,Option.isSome_none,Bool.false_eq_true,if_false]
 simpa using hv j v hj
theorem wo_build1 (hF:Fr N D L a)(hS:SS M κ0 w0 κ w C R)(hc:okOp N L o=true){α:Type}{t:Ty α}{T E:Nat}{v z:Value}{y:α}{x:Operand}{cells:Array Value}(hop:o.op = .buildSlice T 1 #[(0,x)])(hx:ev L x=some v)(hrep:t.rep κ w cells.toList y)
  (hu:pureRun P (underlying T)=some (.slice E)) (hsz:pureRun P (sizeOf E)=some t.size) (hz:pureRun P (zeroValue E)=some z) (hpos:(decide (0<t.size)&&decide (t.size≤16777216))=true)
  (hfill:Instr.fill (fun i=>some (i*t.size,t.size)) ((Array.range t.size).map (z.cells[· % z.cells.size]!)) [(0,v)]=some cells)
  (kk : ∀p κ' a' w',Fr N D (upd L o.dst (.slice p 1 1)) a'→SS M κ0 w0 κ' w' (.tok p E t.size 1 1::C) (Ro.mp t p 1 [y]::R)→K a' w'):wo ro P o a w K Q:=by
 simp only [Bool.and_eq_true,decide_eq_true_eq] at hpos
 obtain ⟨κ',h1⟩:=hS.publish t E cells.toList [y] (by rw [t.len hrep]; simp) (by simp [maxLen]) fun i x hi=>by
  cases i with
  | zero=>simp at hi; subst hi; exact ⟨_,hrep,fun j v hj=>by simpa using hj⟩
  | succ i=>simp at hi
 refine wo_val hF hc (v := .slice (some ⟨w.heap.size,0,none⟩) 1 1) (w':=w.alloc (.cells cells.toList.toArray E)) ?_ fun a' hF'=>kk _ κ' a' _ hF' h1
 have hev:evD L x=v:=by simp [evD,hx]
 have hn : ¬(16777216<t.size):=by omega
 have hne:t.size≠0:=by omega
 have hfill':Instr.fill (fun i=>some (i*t.size,t.size)) ((Array.range (1*t.size)).map (z.cells[· % z.cells.size]!)) [(0,v)]=some cells:=by rw [Nat.one_mul]; exact hfill
 simp only [execOp,hop]
 simp only [Instr.buildSlice,hev,List.map_toArray,List.map_cons,List.map_nil,Nat.one_mul]
 simp [run_underlying' hu,pureRun_run _ hsz w,pureRun_run _ hz w,hn,hne,hfill,newRow,newObj]
 rfl
theorem wo_buildN (hF:Fr N D L a)(hS:SS M κ0 w0 κ w C R)(hc:okOp N L o=true){α:Type}{t:FT α}{T E n:Nat}{z:Value}{l:List α}{parts:Array (Nat×Operand)}{vs:List (Nat×Value)}{cells:Array Value}(hop:o.op = .buildSlice T n parts)(hx:parts.toList.map (fun p=>(p.1,evD L p.2))=vs)(hrep:cells.toList=l.flatMap t.enc)(hn:l.length=n)
  (hu:pureRun P (underlying T)=some (.slice E)) (hsz:pureRun P (sizeOf E)=some t.size) (hz:pureRun P (zeroValue E)=some z) (hpos:(decide (0<n*t.size)&&decide (n*t.size≤16777216))=true)
  (hfill:Instr.fill (fun i=>some (i*t.size,t.size)) ((Array.range (n*t.size)).map (z.cells[· % z.cells.size]!)) vs=some cells)
  (kk : ∀p κ' a' w',Fr N D (upd L o.dst (.slice p n n)) a'→SS M κ0 w0 κ' w' (.tok p E t.size n n::C) (Ro.mp t.ty p n l::R)→K a' w'):wo ro P o a w K Q:=by
 simp only [Bool.and_eq_true,decide_eq_true_eq] at hpos
 have hlen : ∀l:List α,(l.flatMap t.enc).length=l.length*t.size:=fun l=>by
  induction l with
  | nil=>simp
  | cons y l ih=>rw [List.flatMap_cons,List.length_append,t.len,ih,List.length_cons,Nat.add_mul,Nat.one_mul]; omega
 have hat : ∀(l:List α) i x,l[i]? = some x → ∀j v,(t.enc x)[j]? = some v→(l.flatMap t.enc)[i*t.size+j]? = some v:=fun l=>by
  induction l with
  | nil=>intro i x hi; simp at hi
  | cons y l ih=>
   intro i x hi j v hj
   cases i with
   | zero=>
    simp only [List.getElem?_cons_zero,Option.some.injEq] at hi; subst hi
    rw [List.flatMap_cons,Nat.zero_mul,Nat.zero_add,List.getElem?_append_left (List.getElem?_eq_some_iff.1 hj).1]; exact hj
   | succ i=>
    simp only [List.getElem?_cons_succ] at hi
    rw [List.flatMap_cons,List.getElem?_append_right (by rw [t.len,Nat.add_mul,Nat.one_mul]; omega),t.len,Nat.add_mul,Nat.one_mul]
    rw [show i*t.size+t.size+j-t.size=i*t.size+j from by omega]
    exact ih i x hi j v hj
 have hsmall:n≤16777216:=by
  rcases Nat.eq_zero_or_pos t.size with h|h
  ·rw [h] at hpos; omega
  ·have:=Nat.le_mul_of_pos_right n h; omega
 obtain ⟨κ',h1⟩:=hS.publish t.ty E cells.toList l (by rw [hrep,hlen]; rfl) (by rw [hn]; simp only [maxLen]; omega) fun i x hi=>⟨t.enc x,rfl,fun j v hj=>by rw [hrep]; exact hat l i x hi j v hj⟩
 rw [hn] at h1
 refine wo_val hF hc (v := .slice (some ⟨w.heap.size,0,none⟩) n n) (w':=w.alloc (.cells cells.toList.toArray E)) ?_ fun a' hF'=>kk _ κ' a' _ hF' h1
 have hn1 : ¬(16777216<n*t.size):=by omega
 have hne : ¬(n*t.size=0):=by omega
 simp only [execOp,hop]
 simp only [Instr.buildSlice]
 simp [run_underlying' hu,pureRun_run _ hsz w,pureRun_run _ hz w,hn1,newRow,newObj]
 rw [if_neg hne,hx,hfill]
 rfl
def Post (M:List Nat) (κ:Gh) (w:World) (φ:Value→Gh→World→Prop):Ending→World→Prop:=fun e w' => ∃v κ',e = .returned v∧Ext M κ w κ' w'∧Fresh κ' w'∧φ v κ' w'
def Old (C:List Ck) (w0 w:World):Prop:=(∀b∈blksOf C,b<w.heap.size)∧w0.heap.size≤w.heap.size
theorem wo_callP (hF:Fr N D L a)(hS:SS M κ0 w0 κ w C R)(hc:okOp N L o=true){f:FuncId}{args:Array Value}(hr:pureRun P (execOp (evD L) o)=some (.enter f args)){φ:Value→Gh→World→Prop}(hcall:Calls P f args w (Post [] κ w φ))
  (kk : ∀v κ' w' a',φ v κ' w'→Fr N D (upd L o.dst v) a'→SS M κ0 w0 κ' w' C R→Old C w0 w→K a' w'):wo ro P o a w K Q:=
 wo_call hF hc hr hcall fun _ w' ⟨v,κ',he,hext,hfr,hφ⟩=>⟨v,he,fun a' hF'=>kk v κ' w' a' hφ hF' (hS.step hext hfr) ⟨hS.lt,hS.ext.size⟩⟩
def NewC (w0:World) (κ:Gh) (w:World) (C:List Ck):Prop:=(∀c∈C,c.ok κ w)∧(blksOf C).Nodup ∧ ∀b∈blksOf C,w0.heap.size≤b∧b<w.heap.size
theorem SS.addC {w1:World} (h:SS M κ0 w0 κ w C R) (ho:Old C w0 w1) (hn:NewC w1 κ w C'):SS M κ0 w0 κ w (C'++C) R:=by
 obtain ⟨h1,h2,h3⟩:=hn
 refine ⟨h.ext,h.fresh,fun c hc=>(List.mem_append.1 hc).elim (h1 c) (h.ok c),fun b hb=>?_,?_,fun b hb=>?_,h.ro⟩
 ·rw [blksOf_append] at hb
  exact (List.mem_append.1 hb).elim (fun hb=>(h3 b hb).2) (h.lt b)
 ·rw [blksOf_append]
  refine List.nodup_append.2 ⟨h2,h.nd,fun x hx y hy=>?_⟩
  rintro rfl
  have:=(h3 x hx).1
  have:=ho.1 x hy
  omega
 ·rw [blksOf_append] at hb
  rcases List.mem_append.1 hb with hb|hb
  ·have:=(h3 b hb).1
   have:=ho.2
   exact .inl (by omega)
  ·exact h.own b hb
theorem seq_join {x y:Code} (J:Act→World→Prop) (h1:x.wpIn (FW ro) 0 P (Exit.then J Q) a w) (h2 : ∀a w,J a w→y.wpIn (FW ro) 0 P Q a w):(Code.seq x y).wpIn (FW ro) 0 P Q a w:=by
 refine wpIn_seq_k fun K hK=>wpIn_mono h1 fun e a w h=>?_
 cases e<;>first|exact hK _ _ (h2 _ _ h)|exact h
theorem wl_join {l:List Oper} (J:Act→World→Prop) (h1:wl ro P ops (Exit.then J Q) l a w) (h2 : ∀a w,J a w→Q .normal a w):wl ro P ops Q l a w:=by
 have key : ∀(l:List Oper) (a:Act) (w:World),wl ro P ops (Exit.then J Q) l a w→wl ro P ops Q l a w:=by
  intro l
  induction l with
  | nil=>intro a w h; exact h2 _ _ h
  | cons o l ih=>
   intro a w h
   change wpListIn _ _ _ _ _ _ _ _ at h
   change wpListIn _ _ _ _ _ _ _ _
   unfold wpListIn at h ⊢
   split
   ·rename_i hw
    rw [if_pos hw] at h
    obtain ⟨h0,h⟩:=h
    refine ⟨h0,?_⟩
    generalize (o.semAt (FW ro).round a.eval).run P w=r at *
    cases r with
    | ok n w'=>
     cases n with
     | value v=>exact ih _ _ h
     | skip=>exact ih _ _ h
     | defer d=>exact ih _ _ h
     | enter f args=>
      refine ⟨h.1,CallsIn.mono h.2 fun e w'' he=>?_⟩
      cases e with
      | returned v=>exact ih _ _ he
      | panicked c=>exact he
      | outgrown=>obtain ⟨a,w,hq⟩:=he; exact ⟨a,w,hq⟩
     | row row args=>exact ⟨h.1,RowsIn.mono h.2 fun v w'' he=>ih _ _ he⟩
     | round l f tmps assign body=>
      refine ⟨h.1,RoundIn.mono h.2 fun e w'' he=>?_⟩
      cases e with
      | returned v=>exact ih _ _ he
      | panicked c=>exact he
      | outgrown=>obtain ⟨a,w,hq⟩:=he; exact ⟨a,w,hq⟩
     | _=>exact h
    | halt x w'=>cases x<;>exact h
   ·rename_i hw
    rw [if_neg hw] at h
    exact ⟨h.1,ih _ _ h.2⟩
 exact key l a w h1
theorem cond_t {c:Operand} {x y:Code} (hF:Fr N D L a) {b:Bool} (hc:ev L c=some (.bool b)) (hb:b=true) (h:x.wpIn (FW ro) 0 P Q a w):(Code.cond c x y).wpIn (FW ro) 0 P Q a w:=
 wpIn_cond_true (by rw [hF.ev hc,hb]) h
theorem cond_f {c:Operand} {x y:Code} (hF:Fr N D L a) {b:Bool} (hc:ev L c=some (.bool b)) (hb:b=false) (h:y.wpIn (FW ro) 0 P Q a w):(Code.cond c x y).wpIn (FW ro) 0 P Q a w:=
 wpIn_cond_false (by rw [hF.ev hc,hb]) h
theorem Fr.eqv (hF:Fr N D L a) (t:Nat) {v v':Value} (hl:L.lookup t=some v) (h:v=v'):Fr N D (upd L (some t) v') a:=by
 subst h
 refine ⟨hF.defers,hF.size,fun k u hk=>?_⟩
 simp only [upd,List.lookup_cons] at hk
 by_cases e:k=t
 ·subst e; simp at hk; subst hk; exact hF.val _ _ hl
 ·have hb:(k==t)=false:=by simp [e]
  rw [hb] at hk
  simp only at hk
  rw [lookup_filter_ne L t k e] at hk
  exact hF.val k u hk
theorem Fr.boolv (hF:Fr N D L a) (t:Nat) {b b':Bool} (hl:L.lookup t=some (.bool b)) (h:b=b'):Fr N D (upd L (some t) (.bool b')) a:=hF.eqv t hl (by rw [h])
theorem bif_split {ρ:Type} {b:Bool} {A B:Option ρ} {r:ρ} {G:Prop} (H:(bif b then A else B)=some r) (h1:b=true→A=some r→G) (h2:b=false→B=some r→G):G:=by
 cases b
 ·exact h2 rfl H
 ·exact h1 rfl H
theorem bind_split {ρ σ:Type} {m:Option σ} {f:σ→Option ρ} {r:ρ} {G:Prop} (H:m.bind f=some r) (h : ∀x,m=some x→f x=some r→G):G:=by
 cases m with
 | none=>simp at H
 | some x=>exact h x rfl H
theorem loop_fuel {c:Code} (I:Nat→Act→World→Prop) {n:Nat} (h0:I n a w) (round : ∀n a w,I n a w→c.wpIn (FW ro) 0 P (Exit.then (fun a' w' => ∃m,m<n∧I m a' w') Q) a w):(Code.loop c).wpIn (FW ro) 0 P Q a w:=by
 classical
 let S:Act→World→Nat→Prop:=fun a w n=>I n a w
 have least : ∀a w,(∃n,I n a w) → ∃n,I n a w ∧ ∀m,I m a w→n≤m:=fun a w ⟨n,hn⟩=>by
  induction n using Nat.strongRecOn with
  | _ n ih=>
   by_cases h : ∃m,m<n∧I m a w
   ·obtain ⟨m,hm,hI⟩:=h; exact ih m hm hI
   ·exact ⟨n,hn,fun m hm=>by
     rcases Nat.lt_or_ge m n with hlt|hge
     ·exact absurd ⟨m,hlt,hm⟩ h
     ·exact hge⟩
 let μ:Act→World→Nat:=fun a w=>if h : ∃n,I n a w then (least a w h).choose else 0
 have hμ : ∀a w (h : ∃n,I n a w),I (μ a w) a w ∧ ∀m,I m a w→μ a w≤m:=fun a w h=>by
  have:=(least a w h).choose_spec
  simp only [μ,dif_pos h]
  exact this
 refine wpIn_loop (fun a w => ∃n,I n a w) μ ⟨n,h0⟩ fun a w h=>?_
 obtain ⟨h1,_⟩:=hμ a w h
 refine wpIn_mono (round _ a w h1) fun e a' w' he=>?_
 cases e with
 | normal=>
  obtain ⟨m,hm,hI⟩:=he
  exact ⟨⟨m,hI⟩,Nat.lt_of_le_of_lt ((hμ a' w' ⟨m,hI⟩).2 m hI) hm⟩
 | _=>exact he
theorem ret_done {fn:Func} {φ:Value→Gh→World→Prop} {v:Value} (hF:Fr N [] L a) (hS:SS M κ0 w0 κ w C R) (hr:(results fn a.tmps).run P w = .ok v w) (hφ:φ v κ w):bodyPost P fn (Post M κ0 w0 φ) .ret a w:=
 ⟨hF.defers,v,hr,v,κ,rfl,hS.ext,hS.fresh,hφ⟩
theorem Fr.getD (hF:Fr N D L a) {t:Nat} {v:Value} (h:L.lookup t=some v):a.tmps.getD t undef=v:=by
 rw [Array.getD_eq_getD_getElem?,hF.val t v h]; rfl
def RV (P:Program)(a:Act)(w:World):ResultVar→Value→Prop
 | .tmp t,v=>a.tmps.getD t undef=v
 | .cell t T,v => ∃b off,a.tmps.getD t undef = .pointer (some ⟨b,off,none⟩)∧(loadVar T ⟨b,off,none⟩).run P w = .ok v w
theorem rv_tmp (hF:Fr N D L a) {t:Nat} {v:Value} (h:L.lookup t=some v):RV P a w (.tmp t) v:=hF.getD h
theorem rv_cells (hF:Fr N D L a)(hS:SS M κ0 w0 κ w C R)(i k m:Nat){t T b TB off n:Nat}{s s':Segs}(h:L.lookup t=some (.pointer (some ⟨b,off,none⟩)))(hC:C[i]? = some (.box b TB s))(hs':(s.drop k).take m=s')(hoff:tot (s.take k)=off)
  (hg:pureRun P (isAgg T)=some true) (hsz:pureRun P (sizeOf T)=some n) (hn:tot s'=n):RV P a w (.cell t T) (.agg (flat s').toArray):=by
 have hb:=hS.ck i hC
 subst hs'
 have hr:=run_load_agg (P:=P) (T:=T) (b:=b) (off:=off) (cs:=flat ((s.drop k).take m)) hg hsz (by rw [← hn]; exact flat_length fun y hy=>hb.2.1 y (List.mem_of_mem_drop (List.mem_of_mem_take hy)))
  (fun j v hj=>by rw [cell_box hb,← hoff]; exact flat_sub hb.2.1 k m j v hj)
 exact ⟨b,off,hF.getD h,hr⟩
theorem res0 {fn:Func} (h:fn.results = #[]):(results fn a.tmps).run P w = .ok (.tuple #[]) w:=results_none h _ _ _
theorem res1 {fn:Func} {r:ResultVar} {v:Value} (h:fn.results = #[r]) (h1:RV P a w r v):(results fn a.tmps).run P w = .ok v w:=by
 cases r<;>simp only [RV,Array.getD_eq_getD_getElem?] at h1<;>(try obtain ⟨_,_,h1,h1'⟩:=h1)<;>simp_all [results,asAddr]
theorem res2 {fn:Func} {r1 r2:ResultVar} {v1 v2:Value} (h:fn.results = #[r1,r2]) (h1:RV P a w r1 v1) (h2:RV P a w r2 v2):(results fn a.tmps).run P w = .ok (.tuple #[v1,v2]) w:=by
 cases r1<;>cases r2<;>simp only [RV,Array.getD_eq_getD_getElem?] at h1 h2<;>(try obtain ⟨_,_,h1,h1'⟩:=h1)<;>(try obtain ⟨_,_,h2,h2'⟩:=h2)<;>simp_all [results,asAddr]
end
end Go.Cf
namespace Go.Cf
open Go
def sLt (a b:ByteArray):Bool:=Op.bytesLess a.toList b.toList
def sEq (a b:ByteArray):Bool:=a.toList==b.toList
def encs {α:Type} (t:FT α) (l:List α):List Value:=l.flatMap t.enc
theorem encs_length {α:Type} (t:FT α) (l:List α):(encs t l).length=l.length*t.size:=by
 induction l with
 | nil=>simp [encs]
 | cons y l ih=>
  simp only [encs,List.flatMap_cons,List.length_append,List.length_cons,Nat.add_mul,Nat.one_mul] at ih ⊢
  rw [t.len,ih]; omega
theorem encs_one {α:Type} (t:FT α) (l:List α) : ∀v∈encs t l,v.oneCell'=true:=fun v hv=>by
 obtain ⟨x,_,hx⟩:=List.mem_flatMap.1 hv
 exact t.one x v hx
theorem encs_at {α:Type} (t:FT α) : ∀(l:List α) {i:Nat} {x:α},l[i]? = some x → ∀j v,(t.enc x)[j]? = some v→(encs t l)[i*t.size+j]? = some v:=fun l=>by
 induction l with
 | nil=>intro i x hi; simp at hi
 | cons y l ih=>
  intro i x hi j v hj
  cases i with
  | zero=>
   simp only [List.getElem?_cons_zero,Option.some.injEq] at hi; subst hi
   rw [encs,List.flatMap_cons,Nat.zero_mul,Nat.zero_add,List.getElem?_append_left (List.getElem?_eq_some_iff.1 hj).1]; exact hj
  | succ i=>
   simp only [List.getElem?_cons_succ] at hi
   rw [encs,List.flatMap_cons,List.getElem?_append_right (by rw [t.len,Nat.add_mul,Nat.one_mul]; omega),t.len,Nat.add_mul,Nat.one_mul]
   rw [show i*t.size+t.size+j-t.size=i*t.size+j from by omega]
   exact ih hi j v hj
def segGood (s:Segs):Prop:=segsOk s ∧ ∀u∈flat s,u.oneCell'=true
theorem sgNil:segGood []:=⟨segsOk_nil,fun _ h=>by cases h⟩
theorem sgV {v:Value} {s:Segs} (h:v.oneCell'=true) (r:segGood s):segGood ((1,[v])::s):=
 ⟨segsOk_cons.2 ⟨rfl,r.1⟩,fun u hu=>by
  rcases List.mem_cons.1 (show u∈v::flat s from hu) with rfl|hu
  ·exact h
  ·exact r.2 u hu⟩
theorem sgList {n:Nat} {l:List Value} {s:Segs} (hl:l.length=n) (h1 : ∀u∈l,u.oneCell'=true) (r:segGood s):segGood ((n,l)::s):=
 ⟨segsOk_cons.2 ⟨hl,r.1⟩,fun u hu=>by
  rcases List.mem_append.1 (show u∈l++flat s from hu) with hu|hu
  ·exact h1 u hu
  ·exact r.2 u hu⟩
theorem sgEnc {α:Type} {t:FT α} {l:List α} {n m:Nat} {s:Segs} (h:l.length=n) (r:segGood s) (hm:n*t.size=m:=by rfl):segGood ((m,encs t l)::s):=
 sgList (by rw [encs_length,h,hm]) (encs_one t l) r
def ArrP {α:Type} (t:Ty α) (κ:Gh) (w:World) (cs:List Value) (n:Nat) (l:List α):Prop:=
 l.length=n∧cs.length=n*t.size∧(∀v∈cs,v.oneCell'=true) ∧ ∀i x,l[i]? = some x→t.rep κ w ((cs.drop (i*t.size)).take t.size) x
def Arr.mp {α:Type} (t:Ty α) (cs:List Value) (n:Nat) (l:List α):MP:=
 ⟨fun κ w=>ArrP t κ w cs n l,fun e h=>⟨h.1,h.2.1,h.2.2.1,fun i x hi=>t.mono e (h.2.2.2 i x hi)⟩⟩
theorem sgArr {α:Type} {t:Ty α} {κ:Gh} {w:World} {cs:List Value} {n m:Nat} {l:List α} {s:Segs} (h:ArrP t κ w cs n l) (r:segGood s) (hm:n*t.size=m:=by rfl):segGood ((m,cs)::s):=
 sgList (by rw [h.2.1,hm]) h.2.2.1 r
theorem flatten_replicate_drop {α:Type} (n i:Nat) (z:List α) (h:i<n):(((List.replicate n z).flatten).drop (i*z.length)).take z.length=z:=by
 induction n generalizing i with
 | zero=>omega
 | succ n ih=>
  rw [List.replicate_succ,List.flatten_cons]
  cases i with
  | zero=>simp
  | succ i=>
   rw [show (i+1)*z.length=z.length+i*z.length from by rw [Nat.add_mul]; omega,← List.drop_drop,List.drop_left]
   exact ih i (by omega)
theorem Arr.zero {α:Type} (t:Ty α) (κ:Gh) (w:World) (n:Nat) (z:α) {zc:List Value} (hz : ∀κ w,t.rep κ w zc z):ArrP t κ w (List.replicate n zc).flatten n (List.replicate n z):=by
 have hl:zc.length=t.size:=t.len (hz κ w)
 refine ⟨List.length_replicate,by simp [hl],fun v hv=>?_,fun i x hi=>?_⟩
 ·obtain ⟨c,hc,hv⟩:=List.mem_flatten.1 hv
  rw [List.eq_of_mem_replicate hc] at hv
  exact t.one (hz κ w) v hv
 ·have hlt:i<n:=by have:=(List.getElem?_eq_some_iff.1 hi).1; simpa using this
  have hx:x=z:=List.eq_of_mem_replicate (List.mem_of_getElem? hi)
  subst hx
  rw [← hl,flatten_replicate_drop n i zc hlt]
  exact hz κ w
def Ty.of {α H:Type}(n:Nat)(sg:H→α→Segs)(fs:H→α→List MP)(hg : ∀h x κ w,(∀m∈fs h x,m.p κ w)→segGood (sg h x))(ht : ∀h x,tot (sg h x)=n):Ty α where
 size:=n
 rep:=fun κ w cs x => ∃h,cs=flat (sg h x) ∧ ∀m∈fs h x,m.p κ w
 len:=fun {κ w cs x} ⟨h,hcs,hf⟩=>by rw [hcs,flat_length (hg h x κ w hf).1,ht]
 one:=fun {κ w cs x} ⟨h,hcs,hf⟩=>by rw [hcs]; exact (hg h x κ w hf).2
 mono:=fun e ⟨h,hcs,hf⟩=>⟨h,hcs,fun m hm=>m.mono e (hf m hm)⟩
section
variable {M:List Nat}{κ0 κ:Gh}{w0 w:World}{C C':List Ck}{R R':List MP}{N:Nat}{D:List Deferred}{L L':FL}{a:Act}
theorem SS.adds (h:SS M κ0 w0 κ w C R) (hR : ∀m∈R',m.p κ w):SS M κ0 w0 κ w C (R'++R):=
 h.facts fun m hm=>(List.mem_append.1 hm).elim (hR m) (h.ro m)
theorem Fr.keep' (h:Fr N D L a) (ks:List Nat) (hL:Cf.keep L ks=L'):Fr N D L' a:=hL▸h.keep ks
theorem pick_sub (C:List Ck) : ∀(is:List Nat),is.Nodup→(blksOf C).Nodup→(blksOf (is.filterMap fun i=>C[i]?)).Nodup ∧ ∀b∈blksOf (is.filterMap fun i=>C[i]?),∃i∈is,∃c,C[i]? = some c∧b∈c.blks:=by
 intro is
 induction is with
 | nil=>intro _ _; exact ⟨List.nodup_nil,fun b hb=>by cases hb⟩
 | cons i is ih=>
  intro hn hC
  obtain ⟨hi,hn'⟩:=List.nodup_cons.1 hn
  obtain ⟨h1,h2⟩:=ih hn' hC
  cases hc:C[i]? with
  | none=>
   simp only [List.filterMap_cons,hc]
   exact ⟨h1,fun b hb=>let ⟨j,hj,r⟩:=h2 b hb; ⟨j,List.mem_cons_of_mem _ hj,r⟩⟩
  | some c=>
   simp only [List.filterMap_cons,hc]
   have hcn:c.blks.Nodup:=by
    obtain ⟨A,B,hAB⟩:=List.append_of_mem (List.mem_of_getElem? hc)
    rw [hAB,blksOf_append] at hC
    have:=(List.nodup_append.1 hC).2.1
    exact (List.nodup_append.1 (show (c.blks++blksOf B).Nodup from this)).1
   refine ⟨?_,fun b hb=>?_⟩
   ·show (c.blks++blksOf _).Nodup
    refine List.nodup_append.2 ⟨hcn,h1,fun x hx y hy=>?_⟩
    rintro rfl
    obtain ⟨j,hj,d,hd,hxd⟩:=h2 x hy
    have hne:i≠j:=fun e=>hi (e▸hj)
    have key : ∀(C:List Ck) (i j:Nat) (c d:Ck),C[i]? = some c→C[j]? = some d→i<j→x∈c.blks→x∈d.blks → ¬(blksOf C).Nodup:=by
     intro C
     induction C with
     | nil=>intro i j c d hc; simp at hc
     | cons e C ihC=>
      intro i j c d hc hd hij hxc hxd hnd
      have hnd':(e.blks++blksOf C).Nodup:=hnd
      cases j with
      | zero=>omega
      | succ j=>
       simp only [List.getElem?_cons_succ] at hd
       cases i with
       | zero=>
        simp only [List.getElem?_cons_zero,Option.some.injEq] at hc
        subst hc
        exact (List.nodup_append.1 hnd').2.2 x hxc x (List.mem_flatMap.2 ⟨d,List.mem_of_getElem? hd,hxd⟩) rfl
       | succ i=>
        simp only [List.getElem?_cons_succ] at hc
        exact ihC i j c d hc hd (by omega) hxc hxd (List.nodup_append.1 hnd').2.1
    rcases Nat.lt_or_ge i j with h|h
    ·exact key C i j c d hc hd h hx hxd hC
    ·exact key C j i d c hd hc (by omega) hxd hx hC
   ·rcases List.mem_append.1 (show b∈c.blks++blksOf _ from hb) with hb|hb
    ·exact ⟨i,by simp,c,hc,hb⟩
    ·obtain ⟨j,hj,r⟩:=h2 b hb; exact ⟨j,List.mem_cons_of_mem _ hj,r⟩
theorem SS.selp (h:SS M κ0 w0 κ w C R) (is:List Nat) (hn:is.Nodup) (hC:selG C is=C'):SS M κ0 w0 κ w C' R:=by
 rw [selG_eq] at hC
 subst hC
 obtain ⟨h1,h2⟩:=pick_sub C is hn h.nd
 have hin : ∀b∈blksOf (is.filterMap fun i=>C[i]?),b∈blksOf C:=fun b hb=>by
  obtain ⟨i,_,c,hc,hbc⟩:=h2 b hb
  exact List.mem_flatMap.2 ⟨c,List.mem_of_getElem? hc,hbc⟩
 refine ⟨h.ext,h.fresh,fun c hc=>?_,fun b hb=>h.lt b (hin b hb),h1,fun b hb=>h.own b (hin b hb),h.ro⟩
 obtain ⟨i,_,hi⟩:=List.mem_filterMap.1 hc
 exact h.ck i hi
theorem SS.newC (h:SS [] κ0 w0 κ w C R) (is:List Nat) (hn:is.Nodup) (hC:selG C is=C'):NewC w0 κ w C':=by
 have h':=h.selp is hn hC
 exact ⟨h'.ok,h'.nd,fun b hb=>⟨(h'.own b hb).elim id (fun h=>by cases h),h'.lt b hb⟩⟩
end
end Go.Cf
namespace Go.Cf
open Go
section
variable {ro:Option Nat}{P:Program}{ops:Array Oper}{Q:Exit→Act→World→Prop}{S:World→Prop}{tl:List Nat}
abbrev md:=Region.Mode.any
def early (tl:List Nat) (listed:Array Bool):Bool:=tl.all fun j => !listed.getD j false
def AnyH (ro:Option Nat)(P:Program)(ops:Array Oper)(Q:Exit→Act→World→Prop)(S:World→Prop)(tl:List Nat):Nat→Array Bool→Act→World→Prop
 | 0,listed,a,w=>Region.ready md ops listed=[]∧Q .normal a w
 | fuel+1,listed,a,w=>
  (Region.ready md ops listed=[]→Q .normal a w) ∧
  ∀i∈Region.ready md ops listed,wpOpIn (FW ro) 0 P ops Q i (fun a' w'=>(early tl (listed.setIfInBounds i true)=true→S w')∧AnyH ro P ops Q S tl fuel (listed.setIfInBounds i true) a' w') a w
theorem any_of_held : ∀(fuel:Nat)(listed:Array Bool)(a:Act)(w:World),AnyH ro P ops Q S tl fuel listed a w→wpAnyIn (FW ro) 0 P md ops Q fuel listed a w
 | 0,_,_,_,h=>h
 | fuel+1,_,_,_,h=>⟨h.1,fun i hi=>wpOpIn_mono (fun a' w' h'=>any_of_held fuel _ a' w' h'.2) (h.2 i hi)⟩
def noSel (ops:Array Oper):Bool:=ops.all notSelect
theorem noSel_spec (h:noSel ops=true) {j:Nat} {o:Oper} (hj:ops[j]? = some o):notSelect o=true:=Array.all_eq_true_iff_forall_mem.1 h o (Array.mem_of_getElem? hj)
theorem notSelect_sel {o:Oper} (h:notSelect o=true) : ∀cs b,o.op ≠ .select cs b:=fun cs b e=>by simp [notSelect,e] at h
theorem notSelect_def {o:Oper} (h:notSelect o=true) : ∀c,o.op ≠ .defer c:=fun c e=>by simp [notSelect,e] at h
def YieldsIf' (P:Program) (ops:Array Oper) (S:World→Prop) (o:Oper) (v:Value) (a:Act):Prop:=
 (Region.wanted o (yielded ops a.tmps)=true ∧ ∀w,S w→(execOp a.eval o).run P w = .ok (.value v) w) ∨
 (Region.wanted o (yielded ops a.tmps)=false∧v=undef)
theorem YieldsIf'.of_same {o:Oper}{v:Value}{a a':Act}(hy:YieldsIf' P ops S o v a)(he:execOp a'.eval o=execOp a.eval o)
  (hw:Region.wanted o (yielded ops a'.tmps)=Region.wanted o (yielded ops a.tmps)):YieldsIf' P ops S o v a':=by
 unfold YieldsIf' at *
 rw [he,hw]
 exact hy
theorem YieldsIf'.op {i:Nat}{o:Oper}{v:Value}{a:Act}(hi:ops[i]? = some o)(hn:notSelect o=true)(hy:YieldsIf' P ops S o v a)
  {K:Act→World→Prop} {w:World} (hS:S w) (h:K (a.put o.dst v) w):wpOpIn (FW ro) 0 P ops Q i K a w:=by
 unfold wpOpIn
 simp only [hi]
 rcases hy with ⟨hw,hv⟩ | ⟨hw,rfl⟩
 ·rw [if_pos hw]
  refine ⟨fun _ _=>trivial,?_⟩
  rw [Oper.semAt_eq _ _ _ (notSelect_def hn),hv w hS]
  exact h
 ·rw [if_neg (by rw [hw]; decide)]
  exact ⟨fun _ _=>trivial,h⟩
theorem opIn_putIf {j:Nat}{oi oj:Oper}{v:Value}(hj:ops[j]? = some oj)(hap:oi.apart ops oj=true)(hni:notSelect oi=true)(hnj:notSelect oj=true)
  (hQ : ∀c a w,Q (.panic c) (a.put oi.dst v) w→Q (.panic c) a w) {K:Act→World→Prop} {a:Act} {w:World}
  (hy:YieldsIf' P ops S oi v a) (h:wpOpIn (FW ro) 0 P ops Q j K (a.put oi.dst v) w) :
  wpOpIn (FW ro) 0 P ops Q j (fun a' w'=>YieldsIf' P ops S oi v a'∧K (a'.put oi.dst v) w') a w:=by
 obtain ⟨h1,h2,h3⟩:=Oper.apart_spec hap
 have keep : ∀(a:Act),YieldsIf' P ops S oi v a → ∀u,YieldsIf' P ops S oi v (a.put oj.dst u):=fun a hy u=>
  hy.of_same (execOp_put oi (notSelect_sel hni) a oj.dst u h3) (wanted_put oi a oj.dst u h3)
 have keepD : ∀d,YieldsIf' P ops S oi v {a with defers:=d::a.defers}:=fun d=>hy.of_same rfl rfl
 unfold wpOpIn at *
 simp only [hj] at *
 rw [wanted_put oj a oi.dst v h1] at h
 split
 ·rename_i hw
  rw [if_pos hw] at h
  obtain ⟨_,h⟩:=h
  refine ⟨fun _ _=>trivial,?_⟩
  rw [Oper.semAt_eq _ _ _ (notSelect_def hnj),execOp_put oj (notSelect_sel hnj) a oi.dst v h1] at h
  rw [Oper.semAt_eq _ _ _ (notSelect_def hnj)]
  generalize (execOp a.eval oj).run P w=r at *
  cases r with
  | ok n w'=>
   cases n<;>simp only [Oper.uponIn] at h ⊢
   case value u=>exact ⟨keep a hy u,by rw [← Act.put_comm a v u h2]; exact h⟩
   case skip=>exact ⟨keep a hy _,by rw [← Act.put_comm a v undef h2]; exact h⟩
   case defer d=>
    refine ⟨keep _ (keepD d) _,?_⟩
    rw [← Act.put_comm _ v undef h2,← Act.put_defers]
    exact h
   case enter f args=>
    refine ⟨h.1,CallsIn.mono h.2 fun e w'' he=>?_⟩
    cases e with
    | returned u=>exact ⟨keep a hy u,by rw [← Act.put_comm a v u h2]; exact he⟩
    | panicked c=>exact hQ _ _ _ he
    | outgrown=>exact he
   case row row args=>exact ⟨h.1,RowsIn.mono h.2 fun u w'' he=>⟨keep a hy u,by rw [← Act.put_comm a v u h2]; exact he⟩⟩
   case round l f tmps assign body=>
    refine ⟨h.1,RoundIn.mono h.2 fun e w'' he=>?_⟩
    cases e with
    | returned u=>exact ⟨keep a hy u,by rw [← Act.put_comm a v u h2]; exact he⟩
    | panicked c=>exact hQ _ _ _ he
    | outgrown=>exact he
  | halt x w'=>
   cases x<;>simp only [Oper.uponIn] at h ⊢
   case panic u=>exact hQ _ _ _ h
 ·rename_i hw
  rw [if_neg hw] at h
  exact ⟨fun _ _=>trivial,keep a hy _,by rw [← Act.put_comm a v undef h2]; exact h.2⟩
def tailWaits (ops:Array Oper) (tl:List Nat) (i:Nat):Bool:=tl.all fun j=>j != i&&((ops[j]?).map fun o=>o.after.any fun e=>Region.binds md e&&e.on==i).getD false
theorem any_firstD {i:Nat}{oi:Oper}{v:Value}(D:List Nat)(hi:ops[i]? = some oi)(hsel:noSel ops=true)(hD : ∀k∈D,k≠i ∧ ∃ok,ops[k]? = some ok ∧ ∃e∈ok.after,Region.binds md e=true∧(e.on=i∨e.on∈D))(hDt : ∀j∈tl,j∈D)
  (hQ : ∀c a w,Q (.panic c) (a.put oi.dst v) w→Q (.panic c) a w) :
  ∀(fuel:Nat) (listed:Array Bool) (a:Act) (w:World),
   (∀j oj,ops[j]? = some oj→j≠i→listed.getD j true=false→(∀e∈oj.after,Region.binds md e=true→e.on≠i)→oi.apart ops oj=true) →
   i∈Region.ready md ops listed→(∀k∈D,listed.getD k false=false)→YieldsIf' P ops S oi v a→early tl listed=true→S w →
   AnyH ro P ops Q S tl fuel (listed.setIfInBounds i true) (a.put oi.dst v) w→AnyH ro P ops Q S tl (fuel+1) listed a w:=by
 have notD : ∀ {j:Nat} {listed:Array Bool},i∈Region.ready md ops listed→(∀k∈D,listed.getD k false=false)→j∈Region.ready md ops listed→j ∉ D:=fun {j listed} hr hun hj hmem=>by
  obtain ⟨_,oj',hoj',e,he,heb,hon⟩:=hD j hmem
  obtain ⟨hjun,oj,hoj,hall⟩:=mem_ready.1 hj
  rw [hoj] at hoj'
  simp only [Option.some.injEq] at hoj'
  subst hoj'
  have h2:=hall e he heb
  have h0:=(mem_ready.1 hr).1
  rcases hon with hon|hon
  ·rw [hon] at h2
   rcases Nat.lt_or_ge i listed.size with h'|h'
   ·simp [h'] at h0 h2; rw [h0] at h2; cases h2
   ·simp [Array.getElem?_eq_none h'] at h2
  ·have h3:=hun _ hon
   rw [h3] at h2; cases h2
 have notTail : ∀ {j:Nat} {listed:Array Bool},i∈Region.ready md ops listed→(∀k∈D,listed.getD k false=false)→j∈Region.ready md ops listed→j ∉ tl:=fun hr hun hj hmem=>notD hr hun hj (hDt _ hmem)
 have earlySet : ∀ {j:Nat} {listed:Array Bool},j ∉ tl→early tl listed=true→early tl (listed.setIfInBounds j true)=true:=fun {j listed} hj h=>by
  refine List.all_eq_true.2 fun k hk=>?_
  have hne:j≠k:=fun e=>hj (e▸hk)
  rw [getD_set_ne false hne]
  exact List.all_eq_true.1 h k hk
 have itl:i ∉ tl:=fun hmem=>(hD i (hDt i hmem)).1 rfl
 intro fuel
 induction fuel with
 | zero=>
  intro listed a w _ hr _ hy he hS H
  refine ⟨fun h=>(by rw [h] at hr; cases hr),fun j hj=>?_⟩
  by_cases hji:j=i
  ·subst hji; exact hy.op hi (noSel_spec hsel hi) hS ⟨fun _=>hS,H⟩
  ·have:=ready_mono hj hji
   rw [H.1] at this
   cases this
 | succ fuel ih=>
  intro listed a w hfree hr hun hy he hS H
  refine ⟨fun h=>(by rw [h] at hr; cases hr),fun j hj=>?_⟩
  by_cases hji:j=i
  ·subst hji; exact hy.op hi (noSel_spec hsel hi) hS ⟨fun _=>hS,H⟩
  ·have h1:=H.2 j (ready_mono hj hji)
   obtain ⟨hjun,oj,hoj,hall⟩:=mem_ready.1 hj
   have hnot : ∀e∈oj.after,Region.binds md e=true→e.on≠i:=fun e he hb heq=>by
    have h1:=hall e he hb
    have h0:=(mem_ready.1 hr).1
    rw [heq] at h1
    rcases Nat.lt_or_ge i listed.size with h'|h'
    ·simp [h'] at h0 h1; rw [h0] at h1; cases h1
    ·simp [Array.getElem?_eq_none h'] at h1
   have hjt:=notTail hr hun hj
   have hun' : ∀k∈D,(listed.setIfInBounds j true).getD k false=false:=fun k hk=>by
    have hjk:j≠k:=fun e=>notD hr hun hj (e▸hk)
    rw [getD_set_ne false hjk]; exact hun k hk
   have h2:=opIn_putIf hoj (hfree j oj hoj hji hjun hnot) (noSel_spec hsel hi) (noSel_spec hsel hoj) hQ hy h1
   have hfree' : ∀k ok,ops[k]? = some ok→k≠i→(listed.setIfInBounds j true).getD k true=false →
     (∀e∈ok.after,Region.binds md e=true→e.on≠i)→oi.apart ops ok=true:=fun k ok hk hki hun hno=>by
    refine hfree k ok hk hki ?_ hno
    by_cases hjk:j=k
    ·subst hjk; exact hjun
    ·rw [getD_set_ne true hjk] at hun; exact hun
   have e1:=earlySet hjt he
   have e2:early tl ((listed.setIfInBounds i true).setIfInBounds j true)=true:=earlySet hjt (earlySet itl he)
   refine wpOpIn_mono (fun a' w' h3=>⟨fun _=>h3.2.1 e2,ih (listed.setIfInBounds j true) a' w' hfree' (ready_mono hr (Ne.symm hji)) hun' h3.1 e1 (h3.2.1 e2) ?_⟩) h2
   rw [Array.setIfInBounds_comm _ _ hji]
   exact h3.2.2
def waiters (ops:Array Oper) (i:Nat):List Nat:=(List.range ops.size).foldl (fun D j=>if (j != i&&((ops[j]?).map fun o=>o.after.any fun e=>Region.binds md e&&(e.on==i||D.contains e.on)).getD false)=true then j::D else D) []
theorem waiters_ok (ops:Array Oper) (i:Nat) : ∀k∈waiters ops i,k≠i ∧ ∃ok,ops[k]? = some ok ∧ ∃e∈ok.after,Region.binds md e=true∧(e.on=i∨e.on∈waiters ops i):=by
 have key : ∀(l D0:List Nat),(∀k∈D0,k≠i ∧ ∃ok,ops[k]? = some ok ∧ ∃e∈ok.after,Region.binds md e=true∧(e.on=i∨e.on∈D0)) →
   ∀k∈l.foldl (fun D j=>if (j != i&&((ops[j]?).map fun o=>o.after.any fun e=>Region.binds md e&&(e.on==i||D.contains e.on)).getD false)=true then j::D else D) D0,k≠i ∧ ∃ok,ops[k]? = some ok ∧ ∃e∈ok.after,Region.binds md e=true∧(e.on=i∨e.on∈l.foldl (fun D j=>if (j != i&&((ops[j]?).map fun o=>o.after.any fun e=>Region.binds md e&&(e.on==i||D.contains e.on)).getD false)=true then j::D else D) D0):=by
  intro l
  induction l with
  | nil=>intro D0 h; exact h
  | cons j l ih=>
   intro D0 h
   simp only [List.foldl_cons]
   refine ih _ ?_
   split
   ·rename_i hc
    simp only [Bool.and_eq_true,bne_iff_ne,ne_eq] at hc
    intro k hk
    rcases List.mem_cons.1 hk with rfl|hk
    ·refine ⟨hc.1,?_⟩
     cases ho:ops[k]? with
     | none=>rw [ho] at hc; simp at hc
     | some ok=>
      rw [ho] at hc
      simp only [Option.map_some,Option.getD_some] at hc
      obtain ⟨e,he,heb⟩:=Array.any_eq_true'.1 hc.2
      simp only [Bool.and_eq_true,Bool.or_eq_true,beq_iff_eq,List.contains_iff_mem] at heb
      exact ⟨ok,rfl,e,he,heb.1,heb.2.imp id (List.mem_cons_of_mem _)⟩
    ·obtain ⟨h1,ok,h2,e,h3,h4,h5⟩:=h k hk
     exact ⟨h1,ok,h2,e,h3,h4,h5.imp id (List.mem_cons_of_mem _)⟩
   ·exact h
 exact key _ [] (fun k hk=>by cases hk)
def tailD (ops:Array Oper) (tl:List Nat) (listed:Array Bool) (i:Nat):Bool:=tl.all (fun j=>(waiters ops i).contains j)&&(waiters ops i).all fun k => !listed.getD k false
def tailOk (ops:Array Oper) (tl:List Nat) (listed:Array Bool) (i:Nat):Bool:=tailWaits ops tl i||tailD ops tl listed i
theorem any_first {i:Nat}{oi:Oper}{v:Value}{listed:Array Bool}(hi:ops[i]? = some oi)(hsel:noSel ops=true)(htl:tailOk ops tl listed i=true)
  (hQ : ∀c a w,Q (.panic c) (a.put oi.dst v) w→Q (.panic c) a w) (fuel:Nat) (a:Act) (w:World)
  (hf : ∀j oj,ops[j]? = some oj→j≠i→listed.getD j true=false→(∀e∈oj.after,Region.binds md e=true→e.on≠i)→oi.apart ops oj=true)
  (hr:i∈Region.ready md ops listed) (hy:YieldsIf' P ops S oi v a) (he:early tl listed=true) (hS:S w)
  (h:AnyH ro P ops Q S tl fuel (listed.setIfInBounds i true) (a.put oi.dst v) w):AnyH ro P ops Q S tl (fuel+1) listed a w:=by
 rcases (Bool.or_eq_true _ _).mp htl with ht|ht
 ·refine any_firstD tl hi hsel (fun k hk=>?_) (fun _ h=>h) hQ fuel listed a w hf hr (fun k hk=>by have:=List.all_eq_true.1 he k hk; simpa using this) hy he hS h
  have h1:=List.all_eq_true.1 ht k hk
  simp only [Bool.and_eq_true,bne_iff_ne,ne_eq] at h1
  refine ⟨h1.1,?_⟩
  cases ho:ops[k]? with
  | none=>rw [ho] at h1; simp at h1
  | some ok=>
   rw [ho] at h1
   simp only [Option.map_some,Option.getD_some] at h1
   obtain ⟨e,hea,heb⟩:=Array.any_eq_true'.1 h1.2
   simp only [Bool.and_eq_true,beq_iff_eq] at heb
   exact ⟨ok,rfl,e,hea,heb.1,.inl heb.2⟩
 ·simp only [tailD,Bool.and_eq_true] at ht
  refine any_firstD (waiters ops i) hi hsel (waiters_ok ops i) (fun j hj=>by have:=List.all_eq_true.1 ht.1 j hj; simpa using this) hQ fuel listed a w hf hr (fun k hk=>by have:=List.all_eq_true.1 ht.2 k hk; simpa using this) hy he hS h
def mayTake (ops:Array Oper) (tl:List Nat) (listed:Array Bool) (i:Nat):Bool:=
 Region.free md ops listed i&&(Region.ready md ops listed).contains i&&tailOk ops tl listed i&&early tl listed
variable {N:Nat}{D:List Deferred}{L L':FL}{a:Act}{w:World}{fuel:Nat}{listed:Array Bool}
theorem any_take (i:Nat)(d:Option Tmp){o:Oper}(hF:Fr N D L a)(hS:S w)(hi:ops[i]? = some o)(hsel:noSel ops=true)(hm:mayTake ops tl listed i=true)(hQ : ∀c a w v,Q (.panic c) (a.put o.dst v) w→Q (.panic c) a w)
  (hd:okDst N o=true) (hg:goes ops L o=some true) (hc:covers L o=true) {v:Value} (hdd:o.dst=d) (hv : ∀w,S w→(execOp (evD L) o).run P w = .ok (.value v) w)
  (k : ∀a',Fr N D (upd L d v) a'→AnyH ro P ops Q S tl fuel (listed.setIfInBounds i true) a' w):AnyH ro P ops Q S tl (fuel+1) listed a w:=by
 subst hdd
 simp only [mayTake,Bool.and_eq_true] at hm
 obtain ⟨⟨⟨hf,hr⟩,ht⟩,he⟩:=hm
 have hn:=noSel_spec hsel hi
 refine any_first hi hsel ht (fun c a w=>hQ c a w v) fuel a w (Region.free_spec hi hf) (by simpa using hr) (.inl ⟨goes_wanted hF hg,fun w hw=>?_⟩) he hS (k _ (hF.put _ _ (okDst_spec hd)))
 rw [exec_eq hF hc hn]
 exact hv w hw
theorem any_skip (i:Nat){o:Oper}(hF:Fr N D L a)(hS:S w)(hi:ops[i]? = some o)(hsel:noSel ops=true)(hm:mayTake ops tl listed i=true)(hQ : ∀c a w v,Q (.panic c) (a.put o.dst v) w→Q (.panic c) a w)
  (hd:okDst N o=true) (hg:goes ops L o=some false)
  (k : ∀a',Fr N D (upd L o.dst undef) a'→AnyH ro P ops Q S tl fuel (listed.setIfInBounds i true) a' w):AnyH ro P ops Q S tl (fuel+1) listed a w:=by
 simp only [mayTake,Bool.and_eq_true] at hm
 obtain ⟨⟨⟨hf,hr⟩,ht⟩,he⟩:=hm
 exact any_first hi hsel ht (fun c a w=>hQ c a w undef) fuel a w (Region.free_spec hi hf) (by simpa using hr) (.inr ⟨by rw [goes_wanted hF hg],rfl⟩) he hS (k _ (hF.put _ _ (okDst_spec hd)))
def ptakes (P:Program)(ops:Array Oper)(tl:List Nat)(N:Nat):List Nat→Array Bool→FL→Option (Array Bool×FL)
 | [],listed,L=>some (listed,L)
 | i::is,listed,L=>
  match ops[i]? with
  | none=>none
  | some o=>if mayTake ops tl listed i&&okDst N o then
    match goes ops L o with
    | some true=>if covers L o then (match pval P L o with|some v=>ptakes P ops tl N is (listed.setIfInBounds i true) (upd L o.dst v)|none=>none) else none
    | some false=>ptakes P ops tl N is (listed.setIfInBounds i true) (upd L o.dst undef)
    | none=>none
   else none
theorem any_ptakes (hsel:noSel ops=true)(hQ : ∀c a w t v,Q (.panic c) (a.put t v) w→Q (.panic c) a w)(hS:S w) : ∀(is:List Nat){listed listed':Array Bool}{L L':FL}{a:Act},Fr N D L a→ptakes P ops tl N is listed L=some (listed',L') →
  (∀a',Fr N D L' a'→AnyH ro P ops Q S tl fuel listed' a' w)→AnyH ro P ops Q S tl (fuel+is.length) listed a w:=by
 intro is
 induction is with
 | nil=>intro listed listed' L L' a hF hp k; simp only [ptakes,Option.some.injEq,Prod.mk.injEq] at hp; obtain ⟨rfl,rfl⟩:=hp; exact k a hF
 | cons i is ih=>
  intro listed listed' L L' a hF hp k
  simp only [ptakes] at hp
  cases hi:ops[i]? with
  | none=>rw [hi] at hp; cases hp
  | some o=>
   rw [hi] at hp
   simp only at hp
   split at hp
   ·rename_i hc
    simp only [Bool.and_eq_true] at hc
    have hfe:fuel+(i::is).length=(fuel+is.length)+1:=by simp [Nat.add_assoc]
    rw [hfe]
    split at hp
    ·rename_i hg
     split at hp
     ·rename_i hcov
      split at hp
      ·rename_i v hv
       refine any_take i _ hF hS hi hsel hc.1 (fun c a w v=>hQ c a w _ v) hc.2 hg hcov (v:=v) rfl (fun w _=>?_) fun a' hF'=>ih hF' hp k
       unfold pval at hv
       split at hv
       ·rename_i u hu
        simp only [Option.some.injEq] at hv
        subst hv
        exact pureRun_run _ hu w
       ·cases hv
      ·cases hp
     ·cases hp
    ·rename_i hg
     exact any_skip i hF hS hi hsel hc.1 (fun c a w v=>hQ c a w _ v) hc.2 hg fun a' hF'=>ih hF' hp k
    ·cases hp
   ·cases hp
theorem any_pure (is:List Nat)(ks:List Nat){m:Nat}{listed':Array Bool}(hF:Fr N D L a)(hS:S w)(hsel:noSel ops=true)(hQ : ∀c a w t v,Q (.panic c) (a.put t v) w→Q (.panic c) a w)
  (hp:(ptakes P ops tl N is listed L).map (fun x=>(x.1,keep x.2 ks))=some (listed',L')) (hm:m=fuel+is.length)
  (k : ∀a',Fr N D L' a'→AnyH ro P ops Q S tl fuel listed' a' w):AnyH ro P ops Q S tl m listed a w:=by
 subst hm
 cases h:ptakes P ops tl N is listed L with
 | none=>rw [h] at hp; cases hp
 | some x=>
  obtain ⟨l1,L1⟩:=x
  rw [h] at hp
  simp only [Option.map_some,Option.some.injEq,Prod.mk.injEq] at hp
  obtain ⟨rfl,rfl⟩:=hp
  exact any_ptakes hsel hQ hS is hF h fun a' hF'=>k a' (hF'.keep ks)
theorem any_go (i:Nat){o:Oper}(hF:Fr N D L a)(hi:ops[i]? = some o)(hr:Region.ready md ops listed=[i])(hg:goes ops L o=some true){listed':Array Bool}(hl:listed.setIfInBounds i true=listed')
  (h:wo ro P o a w (fun a' w'=>(early tl listed'=true→S w')∧AnyH ro P ops Q S tl fuel listed' a' w') Q):AnyH ro P ops Q S tl (fuel+1) listed a w:=by
 subst hl
 refine ⟨fun h0=>(by rw [hr] at h0; cases h0),fun j hj=>?_⟩
 rw [hr] at hj
 simp only [List.mem_singleton] at hj
 subst hj
 unfold wpOpIn
 simp only [hi]
 rw [if_pos (goes_wanted hF hg)]
 exact h
theorem any_go2 (i j:Nat){oi oj:Oper}(hF:Fr N D L a)(hi:ops[i]? = some oi)(hj:ops[j]? = some oj)(hr:Region.ready md ops listed=[i,j])(hgi:goes ops L oi=some true)(hgj:goes ops L oj=some true){li lj:Array Bool}(hli:listed.setIfInBounds i true=li)(hlj:listed.setIfInBounds j true=lj)
  (h1:wo ro P oi a w (fun a' w'=>(early tl li=true→S w')∧AnyH ro P ops Q S tl fuel li a' w') Q) (h2:wo ro P oj a w (fun a' w'=>(early tl lj=true→S w')∧AnyH ro P ops Q S tl fuel lj a' w') Q):AnyH ro P ops Q S tl (fuel+1) listed a w:=by
 subst hli hlj
 refine ⟨fun h0=>(by rw [hr] at h0; cases h0),fun k hk=>?_⟩
 rw [hr] at hk
 simp only [List.mem_cons,List.not_mem_nil,or_false] at hk
 rcases hk with rfl|rfl
 ·unfold wpOpIn
  simp only [hi]
  rw [if_pos (goes_wanted hF hgi)]
  exact h1
 ·unfold wpOpIn
  simp only [hj]
  rw [if_pos (goes_wanted hF hgj)]
  exact h2
theorem any_done (hr:Region.ready md ops listed=[])(h:Q .normal a w) : ∀fuel,AnyH ro P ops Q S tl fuel listed a w
 | 0=>⟨hr,h⟩
 | _+1=>⟨fun _=>h,by rw [hr]; simp⟩
theorem code_join {c:Code} (J:Act→World→Prop) (h1:c.wpIn (FW ro) 0 P (Exit.then J Q) a w) (h2 : ∀a w,J a w→Q .normal a w):c.wpIn (FW ro) 0 P Q a w:=by
 refine wpIn_mono h1 fun e a w h=>?_
 cases e<;>first|exact h2 _ _ h|exact h
theorem region_any {id:Nat}(S:World→Prop)(tl:List Nat)(hm:P.follows .mixedOrders=true){n:Nat}(hn:ops.size=n){l:Array Bool}(hl:Array.replicate n false=l)
  (h:AnyH ro P ops Q S tl n l a {w with drawn:=w.drawn+1}):(Code.region id ops true).wpIn (FW ro) 0 P Q a w:=by
 subst hn hl
 exact wpIn_region_any hm (any_of_held _ _ _ _ h)
end
section
variable {P:Program}{w:World}{L:FL}{o:Oper}{M:List Nat}{κ0 κ:Gh}{w0:World}{C:List Ck}{R:List MP}
abbrev SSx (M:List Nat) (κ0:Gh) (w0:World) (C:List Ck) (R:List MP) (w:World):Prop := ∃κ,SS M κ0 w0 κ w C R
theorem val_load (i k j:Nat){b TB T off n:Nat}{s:Segs}{l:List Value}{v:Value}{x:Operand}(hop:o.op = .load T x)(hx:ev L x=some (.pointer (some ⟨b,off,none⟩)))
  (hC:C[i]? = some (.box b TB s)) (hk:s[k]? = some (n,l)) (hj:l[j]? = some v) (hoff:tot (s.take k)+j=off) (hg:pureRun P (isAgg T)=some false) : ∀w,SSx M κ0 w0 C R w→(execOp (evD L) o).run P w = .ok (.value v) w:=fun w ⟨κ,hS⟩=>by
 have hb:=hS.ck i hC
 have hjn:j<n:=by
  have h1:=hb.2.1 (n,l) (List.mem_of_getElem? hk)
  have h2:=(List.getElem?_eq_some_iff.1 hj).1
  simp only at h1; omega
 refine exec_load hop hx (run_load_scalar hg ?_)
 rw [cell_box hb,← hoff,segs_at hb.2.1 hk j hjn,hj]
theorem val_loads (i k m:Nat){b TB T off n:Nat}{s s':Segs}{x:Operand}(hop:o.op = .load T x)(hx:ev L x=some (.pointer (some ⟨b,off,none⟩)))
  (hC:C[i]? = some (.box b TB s)) (hs':(s.drop k).take m=s') (hoff:tot (s.take k)=off) (hg:pureRun P (isAgg T)=some true) (hsz:pureRun P (sizeOf T)=some n) (hn:tot s'=n) : ∀w,SSx M κ0 w0 C R w→(execOp (evD L) o).run P w = .ok (.value (.agg (flat s').toArray)) w:=fun w ⟨κ,hS⟩=>by
 have hb:=hS.ck i hC
 subst hs'
 refine exec_load hop hx (run_load_agg hg hsz ?_ ?_)
 ·rw [← hn]; exact flat_length fun y hy=>hb.2.1 y (List.mem_of_mem_drop (List.mem_of_mem_take hy))
 ·intro j v hj
  rw [cell_box hb,← hoff]
  exact flat_sub hb.2.1 k m j v hj
theorem val_index {α:Type}{T E sz n c b off:Nat}{kd:IntKind}{p:Option Addr}{l:List α}{i:Int}{y:α}{x ix:Operand}(hop:o.op = .indexAddr T x ix)(hp:p=some ⟨b,off,none⟩)
  (hx:ev L x=some (.slice p n c)) (hn:n=l.length) (hix:ev L ix=some (.int kd i)) (hi:idx l i=some y) (hu:pureRun P (underlying T)=some (.slice E)) (hs:pureRun P (sizeOf E)=some sz) : ∀w:World,(execOp (evD L) o).run P w = .ok (.value (.pointer (some ⟨b,off+i.toNat*sz,none⟩))) w:=fun w=>by
 obtain ⟨h0,h1,h2⟩:=idx_some hi
 simp only [execOp,hop,evD,hx,hix,Option.getD_some]
 subst hn hp
 have hlt:i<(l.length:Int):=by omega
 simp [Instr.indexAt,asIntOf,run_underlying' hu,pureRun_run _ hs w,h0,hlt,add_off]
theorem val_loadRo {α:Type}{t:FT α}(ri f:Nat){T c b off E:Nat}{p:Option Addr}{l:List α}{i:Int}{y:α}{x:Operand}{v:Value}(hop:o.op = .load T x)(hR:R[ri]? = some (Ro.mp t.ty p c l))
  (hp:p=some ⟨b,off,none⟩) (hx:ev L x=some (.pointer (some ⟨b,E,none⟩))) (hi:idx l i=some y) (hE:off+i.toNat*t.size+f=E) (hv:(t.enc y)[f]? = some v) (hg:pureRun P (isAgg T)=some false) : ∀w,SSx M κ0 w0 C R w→(execOp (evD L) o).run P w = .ok (.value v) w:=fun w ⟨κ,hS⟩=>by
 have hRo:Ro t.ty κ w p c l:=hS.get ri hR
 subst hp hE
 obtain ⟨cs,hr,hcs⟩:=hRo.at' (idx_some hi).2.2
 have hr':cs=t.enc y:=hr
 subst hr'
 exact exec_load hop hx (run_load_scalar hg (hcs f v hv))
theorem SS.ptr {α:Type} {t:Ty α} (hS:SS M κ0 w0 κ w C R) (ri:Nat) {p:Option Addr} {c:Nat} {l:List α} {i:Int} {y:α} (hR:R[ri]? = some (Ro.mp t p c l)) (hi:idx l i=some y) : ∃b off,p=some ⟨b,off,none⟩:=by
 have hRo:Ro t κ w p c l:=hS.get ri hR
 obtain ⟨b,off,hp,_⟩:=hRo.at (idx_some hi).2.2
 exact ⟨b,off,hp⟩
end
end Go.Cf
namespace Go.Cf
open Go
section
variable {P:Program}{L:FL}{o:Oper}{w:World}{κ:Gh}
end
section
variable {ro:Option Nat}{P:Program}{ops:Array Oper}{Q:Exit→Act→World→Prop}{N:Nat}{D:List Deferred}{L L':FL}{a:Act}{w:World}{o:Oper}{K:Act→World→Prop}
variable {M:List Nat}{κ0 κ:Gh}{w0:World}{C C':List Ck}{R R':List MP}
theorem wo_loadA1 (hF:Fr N D L a)(hS:SS M κ0 w0 κ w C R)(hc:okOp N L o=true){α:Type}{t:FT α}(i k:Nat){b TB T off n:Nat}{s:Segs}{l:List α}{j:Int}{y:α}{v:Value}{x:Operand}(hop:o.op = .load T x)(hx:ev L x=some (.pointer (some ⟨b,off,none⟩)))
  (hC:C[i]? = some (.box b TB s)) (hk:s[k]? = some (n,encs t l)) (hj:idx l j=some y) (h1:t.enc y=[v]) (ht:t.size=1) (hoff:tot (s.take k)+j.toNat*1=off) (hg:pureRun P (isAgg T)=some false)
  (kk : ∀a',Fr N D (upd L o.dst v) a'→K a' w):wo ro P o a w K Q:=by
 refine wo_load hF hS hc i k (j.toNat*1) hop hx hC hk ?_ hoff hg kk
 have:=encs_at t l (idx_some hj).2.2 0 v (by rw [h1]; rfl)
 rw [ht] at this
 simpa using this
theorem encs_set {α:Type} (t:FT α) (ht:t.size=1) (l:List α) (j:Nat) (y:α) {v:Value} (h1:t.enc y=[v]):(encs t l).set j v=encs t (l.set j y):=by
 have hlen : ∀x,∃u,t.enc x=[u]:=fun x=>by
  have:=t.len x
  rw [ht] at this
  exact List.length_eq_one_iff.1 this
 induction l generalizing j with
 | nil=>simp [encs]
 | cons x l ih=>
  obtain ⟨u,hu⟩:=hlen x
  cases j with
  | zero=>simp [encs,hu,h1]
  | succ j=>
   have:=ih j
   simp only [encs,List.flatMap_cons,hu,List.set_cons_succ,List.singleton_append] at this ⊢
   rw [this]
theorem wo_storeA1 (hF:Fr N D L a)(hS:SS M κ0 w0 κ w C R)(hc:okOp N L o=true){α:Type}{t:FT α}(i k:Nat){b TB T off n:Nat}{s s':Segs}{l:List α}{j:Int}{y z:α}{v:Value}{x x':Operand}(hop:o.op = .store T x x')(hx:ev L x=some (.pointer (some ⟨b,off,none⟩)))(hy:ev L x'=some v)
  (hC:C[i]? = some (.box b TB s)) (hk:s[k]? = some (n,encs t l)) (hj:idx l j=some z) (h1:t.enc y=[v]) (ht:t.size=1) (hoff:tot (s.take k)+j.toNat*1=off) (hsz:pureRun P (sizeOf T)=some 1)
  (hs':s.set k (n,encs t (l.set j.toNat y))=s') (hC':C.set i (.box b TB s')=C')
  (kk : ∀a' w',Fr N D (upd L o.dst undef) a'→SS M κ0 w0 κ w' C' R→K a' w'):wo ro P o a w K Q:=by
 have hb:=hS.ck i hC
 have hln:(encs t l).length=n:=hb.2.1 (n,encs t l) (List.mem_of_getElem? hk)
 rw [encs_length,ht,Nat.mul_one] at hln
 refine wo_store hF hS hc i k (j.toNat*1) hop hx hy hC hk (by have:=(idx_some hj).2.1; omega) hoff hsz (t.one y v (by rw [h1]; simp)) ?_ hs' hC' kk
 rw [Nat.mul_one]
 exact encs_set t ht l j.toNat y h1
def splice (cs:List Value) (j:Nat) (new:List Value):List Value:=cs.take j++new++cs.drop (j+new.length)
theorem ArrP.set {α:Type} {t:Ty α} {κ:Gh} {w:World} {cs:List Value} {n:Nat} {l:List α} (h:ArrP t κ w cs n l) {j:Nat} (hj:j<l.length) {new:List Value} {y:α} (hn:t.rep κ w new y):ArrP t κ w (splice cs (j*t.size) new) n (l.set j y):=by
 have hl:=t.len hn
 have hle:j*t.size+t.size≤n*t.size:=by
  have:(j+1)*t.size≤n*t.size:=Nat.mul_le_mul_right _ (by rw [← h.1]; exact hj)
  rw [Nat.add_mul,Nat.one_mul] at this; exact this
 have hcs:=h.2.1
 refine ⟨by rw [List.length_set]; exact h.1,?_,fun v hv=>?_,fun i x hi=>?_⟩
 ·simp only [splice,List.length_append,List.length_take,List.length_drop]; omega
 ·simp only [splice,List.append_assoc,List.mem_append] at hv
  rcases hv with hv|hv|hv
  ·exact h.2.2.1 v (List.mem_of_mem_take hv)
  ·exact t.one hn v hv
  ·exact h.2.2.1 v (List.mem_of_mem_drop hv)
 ·by_cases e:j=i
  ·subst e
   rw [List.getElem?_set_self hj] at hi
   simp only [Option.some.injEq] at hi
   subst hi
   have e1:(splice cs (j*t.size) new).drop (j*t.size)=new++cs.drop (j*t.size+new.length):=by
    have h0:(cs.take (j*t.size)).length=j*t.size:=by simp; omega
    rw [splice,List.append_assoc]
    conv=>lhs; arg 1; rw [← h0]
    rw [List.drop_left]
   rw [e1,← hl,List.take_left]
   exact hn
  ·rw [List.getElem?_set_ne e] at hi
   have hr:=h.2.2.2 i x hi
   have hil:i<l.length:=(List.getElem?_eq_some_iff.1 hi).1
   have hile:i*t.size+t.size≤n*t.size:=by
    have:(i+1)*t.size≤n*t.size:=Nat.mul_le_mul_right _ (by rw [← h.1]; exact hil)
    rw [Nat.add_mul,Nat.one_mul] at this; exact this
   have e1:((splice cs (j*t.size) new).drop (i*t.size)).take t.size=(cs.drop (i*t.size)).take t.size:=by
    apply List.ext_getElem?
    intro q
    rw [List.getElem?_take,List.getElem?_take]
    split
    ·rename_i hq
     rw [List.getElem?_drop,List.getElem?_drop,splice,List.append_assoc]
     rcases Nat.lt_or_ge i j with hij|hij
     ·have:i*t.size+t.size≤j*t.size:=by
       have:(i+1)*t.size≤j*t.size:=Nat.mul_le_mul_right _ hij
       rw [Nat.add_mul,Nat.one_mul] at this; exact this
      rw [List.getElem?_append_left (by simp; omega),List.getElem?_take,if_pos (by omega)]
     ·have hji:j<i:=by omega
      have:j*t.size+t.size≤i*t.size:=by
       have:(j+1)*t.size≤i*t.size:=Nat.mul_le_mul_right _ hji
       rw [Nat.add_mul,Nat.one_mul] at this; exact this
      rw [List.getElem?_append_right (by simp; omega),List.getElem?_append_right (by simp; omega),List.getElem?_drop]
      congr 1
      simp only [List.length_take]
      omega
    ·rfl
   rw [e1]
   exact hr
theorem wo_storeATy (hF:Fr N D L a)(hS:SS M κ0 w0 κ w C R)(hc:okOp N L o=true){α:Type}{t:Ty α}(i k ri:Nat){b TB T off n m:Nat}{s s':Segs}{cs new:List Value}{l:List α}{j:Int}{y z:α}{v:Value}{x x':Operand}(hop:o.op = .store T x x')(hx:ev L x=some (.pointer (some ⟨b,off,none⟩)))(hy:ev L x'=some v)(hv:v.cells=new.toArray)
  (hC:C[i]? = some (.box b TB s)) (hk:s[k]? = some (m,cs)) (hR:R[ri]? = some (Arr.mp t cs n l)) (hj:idx l j=some z) (hrep:t.rep κ w new y) (hm:n*t.size=m) (hoff:tot (s.take k)+j.toNat*t.size=off) (hsz:pureRun P (sizeOf T)=some t.size)
  (hs':s.set k (m,splice cs (j.toNat*t.size) new)=s') (hC':C.set i (.box b TB s')=C')
  (kk : ∀a' w',Fr N D (upd L o.dst undef) a'→SS M κ0 w0 κ w' C' (Arr.mp t (splice cs (j.toNat*t.size) new) n (l.set j.toNat y)::R)→K a' w'):wo ro P o a w K Q:=by
 have hb:=hS.ck i hC
 have hA:ArrP t κ w cs n l:=hS.get ri hR
 obtain ⟨_,hlt,hyz⟩:=idx_some hj
 have hlen:=t.len hrep
 have hle:j.toNat*t.size+t.size≤m:=by
  rw [← hm]
  have:(j.toNat+1)*t.size≤n*t.size:=Nat.mul_le_mul_right _ (by rw [← hA.1]; exact hlt)
  rw [Nat.add_mul,Nat.one_mul] at this; exact this
 have hcs:cs.length=m:=by rw [hA.2.1,hm]
 obtain ⟨hkl,hke⟩:=List.getElem?_eq_some_iff.1 hk
 have hse:s=s.take k++(m,cs)::s.drop (k+1):=by rw [← hke]; exact (take_get_drop s k hkl).symm
 have hsk:s'=s.take k++(m,splice cs (j.toNat*t.size) new)::s.drop (k+1):=by
  rw [← hs',List.set_eq_take_append_cons_drop,if_pos hkl]
 have hfl:(flat s).length=tot s:=flat_length hb.2.1
 have htot:tot s=tot (s.take k)+(m+tot (s.drop (k+1))):=by
  conv=>lhs; rw [hse]
  rw [tot_append]; simp [tot]
 have hst:=run_store_cells (P:=P) hb (vs:=new) (off:=off) (by omega) (fun u hu=>t.one hrep u hu) hv hsz hlen
 have h2:(flat (s.take k)).length=tot (s.take k):=flat_length fun y hy=>hb.2.1 y (List.mem_of_mem_take hy)
 have hfs:flat s=flat (s.take k)++(cs++flat (s.drop (k+1))):=by
  conv=>lhs; rw [hse]
  rw [flat_append]; rfl
 have heq:(flat s).take off++new++(flat s).drop (off+new.length)=flat s':=by
  rw [hsk,flat_append]
  show _=flat (s.take k)++(splice cs (j.toNat*t.size) new++flat (s.drop (k+1)))
  subst hoff
  rw [hfs]
  have e1:(flat (s.take k)++(cs++flat (s.drop (k+1)))).take (tot (s.take k)+j.toNat*t.size)=flat (s.take k)++cs.take (j.toNat*t.size):=by
   rw [← h2,List.take_length_add_append,List.take_append_of_le_length (by omega)]
  have e2:(flat (s.take k)++(cs++flat (s.drop (k+1)))).drop (tot (s.take k)+j.toNat*t.size+new.length)=cs.drop (j.toNat*t.size+new.length)++flat (s.drop (k+1)):=by
   rw [← h2,Nat.add_assoc,List.drop_length_add_append,List.drop_append_of_le_length (by omega)]
  rw [e1,e2]
  simp [splice]
 rw [heq] at hst
 have hok:segsOk s':=by
  rw [hsk]
  refine segsOk_append.2 ⟨fun y hy=>hb.2.1 y (List.mem_of_mem_take hy),segsOk_cons.2 ⟨?_,fun y hy=>hb.2.1 y (List.mem_of_mem_drop hy)⟩⟩
  simp only [splice,List.length_append,List.length_take,List.length_drop]; omega
 have hset:C'=C.take i ++ .box b TB s'::C.drop (i+1):=by
  rw [← hC',List.set_eq_take_append_cons_drop,if_pos (List.getElem?_eq_some_iff.1 hC).1]
 have hCe:C=C.take i ++ .box b TB s::C.drop (i+1):=by
  obtain ⟨hi,he⟩:=List.getElem?_eq_some_iff.1 hC
  rw [← he]
  exact (take_get_drop C i hi).symm
 refine wo_skip hF hc (exec_store hop hx hy hst) fun a' hF'=>kk a' _ hF' ?_
 have hnew:=hA.set hlt hrep
 have hS':=(hS.add (m:=Arr.mp t (splice cs (j.toNat*t.size) new) n (l.set j.toNat y)) hnew).write (C.take i) (C.drop (i+1)) hCe hok rfl
 rw [hset]
 exact hS'
end
end Go.Cf
namespace Go.Cf
open Go
def wide (P:Program) (t:TypeId):Bool:=match P.underlying t with|some (.array _ _)|some (.struct _)=>true|_=>false
section
variable {P:Program}
end
section
variable {P:Program}{L:FL}{o:Oper}
theorem val_indexA1 {α:Type}{t:FT α}{T E n m:Nat}{kd:IntKind}{l:List α}{i:Int}{y:α}{v:Value}{x ix:Operand}(hop:o.op = .index T x ix)(hx:ev L x=some (.agg (flat [(m,encs t l)]).toArray))(hix:ev L ix=some (.int kd i))(hi:idx l i=some y)(hl:l.length=n)
  (h1:t.enc y=[v]) (ht:t.size=1) (hu:pureRun P (underlying T)=some (.array n E)) (hs:pureRun P (sizeOf E)=some 1) (hg:pureRun P (isAgg E)=some false) : ∀w,(execOp (evD L) o).run P w = .ok (.value v) w:=fun w=>by
 obtain ⟨h0,hlt,hy⟩:=idx_some hi
 have ex:evD L x = .agg (encs t l).toArray:=by simp [evD,hx,flat]
 have ei:evD L ix = .int kd i:=by simp [evD,hix]
 have hin:i<(n:Int):=by omega
 have hc:=encs_at t l hy 0 v (by rw [h1]; rfl)
 rw [ht] at hc
 simp only [execOp,hop,ex,ei]
 simp only [Nat.mul_one,Nat.add_zero] at hc
 simp [Instr.index,asIntOf,run_underlying' hu,pureRun_run _ hs w,pureRun_run _ hg w,h0,hin,part,hc]
theorem val_indexATy {α:Type}{t:Ty α}{T E n m:Nat}{kd:IntKind}{cs:List Value}{i:Int}{x ix:Operand}(hop:o.op = .index T x ix)(hx:ev L x=some (.agg (flat [(m,cs)]).toArray))(hix:ev L ix=some (.int kd i))(hi:0≤i∧i<(n:Int))
  (hu:pureRun P (underlying T)=some (.array n E)) (hs:pureRun P (sizeOf E)=some t.size) (hg:pureRun P (isAgg E)=some true) : ∀w,(execOp (evD L) o).run P w = .ok (.value (.agg ((cs.drop (i.toNat*t.size)).take t.size).toArray)) w:=fun w=>by
 have ex:evD L x = .agg cs.toArray:=by simp [evD,hx,flat]
 have ei:evD L ix = .int kd i:=by simp [evD,hix]
 simp only [execOp,hop,ex,ei]
 simp [Instr.index,asIntOf,run_underlying' hu,pureRun_run _ hs w,pureRun_run _ hg w,hi.1,hi.2,part,List.extract_eq_take_drop]
theorem idx_lt {α:Type} {l:List α} {i:Int} {x:α} {n:Nat} (h:idx l i=some x) (hl:l.length=n):0≤i∧i<(n:Int):=by
 obtain ⟨h0,h1,_⟩:=idx_some h; omega
end
end Go.Cf
