/- Part 10: struct literals with parts that aren't known cell by cell; elements of arrays in boxes, in regions that draw their order. -/
import Derived.Laws.Tables
import Derived.RangeFuncIn
import Derived.RangeFuncRecord
import Derived.RangeFuncSeq
import Derived.RangeFuncLeaves
import Derived.Deep.Slices
import Derived.WideKeyArgs
import Derived.Carry
import Derived.MapKept
import Derived.Laws.Strings
import Derived.Maps.RangeRun
import Derived.Laws.MakeOwn
import Derived.Scope
import Derived.LoopNIn
import Derived.Test.YteeafoagaaedcaaZK1
namespace Go.Cf
open Go
theorem keptBut_of {w w':World} (h : ∀i,i<w.heap.size→w'.heap[i]? = w.heap[i]?) (ho:w'.os=w.os) (ht:w'.output=w.output) (may:MemPlace→Prop):w.keptBut w' may:=by
 refine ⟨ho,ht,fun i hi=>?_⟩
 rw [h i hi]
 cases hx:w.heap[i]? with
 | none=>rfl
 | some o=>cases o<;>simp
theorem Ext.grown {κ κ':Gh} {w w':World} (h:Ext [] κ w κ' w'):w.keptBut w' (fun _=>False):=
 keptBut_of (fun i hi=>(h.keep i hi (by simp)).1) h.os h.out _
end Go.Cf
namespace Go.Cf
open Go
section
variable {M:List Nat}{κ0 κ κ':Gh}{w0 w w':World}{C C':List Ck}{R R':List MP}
theorem SS.stepM (h:SS M κ0 w0 κ w C R){M':List Nat}(he:Ext M' κ w κ' w')(hf:Fresh κ' w')(hM : ∀b∈M',w0.heap.size≤b∨b∈M)(hd : ∀b∈blksOf C,b ∉ M'):SS M κ0 w0 κ' w' C R where
 ext:=h.ext.trans' he hM
 fresh:=hf
 ok:=fun c hc=>Ck.ok_keep (h.ok c hc) (fun b hb=>h.lt b (List.mem_flatMap.2 ⟨c,hc,hb⟩)) he fun b hb=>hd b (List.mem_flatMap.2 ⟨c,hc,hb⟩)
 lt:=fun b hb=>Nat.lt_of_lt_of_le (h.lt b hb) he.size
 nd:=h.nd
 own:=h.own
 ro:=fun m hm=>m.mono he (h.ro m hm)
theorem SS.rebase (h:SS M κ0 w0 κ w C R):SS (blksOf C) κ w κ w C R:=⟨.refl _ _ _,h.fresh,h.ok,h.lt,h.nd,fun _ hb => .inr hb,h.ro⟩
def notCells (o:Obj):Prop := ∀c t fr,o ≠ .cells c t fr
theorem Ext.put {l:Nat}{o o':Obj}(h:w.heap[l]? = some o')(hk:κ l=none)(ho':notCells o')(ho:notCells o):Ext [l] κ w κ (w.putObj l o) where
 os:=rfl
 out:=rfl
 tape:=rfl
 size:=by simp
 keep:=fun b _ hb=>⟨World.putObj_heap_other (by simpa using hb),rfl⟩
 pub:=fun b n hn=>⟨n,hn,Nat.le_refl _,fun i _=>cell_of_heap (World.putObj_heap_other fun e=>by rw [e,hk] at hn; cases hn)⟩
theorem Ext.allocN (hf:Fresh κ w)(o:Obj)(ho:notCells o):Ext [] κ w κ (w.alloc o) where
 os:=rfl
 out:=rfl
 tape:=rfl
 size:=by rw [size_alloc]; omega
 keep:=fun b hb _=>⟨heap_alloc_old w o b hb,rfl⟩
 pub:=fun b n hn=>⟨n,hn,Nat.le_refl _,fun i _=>cell_of_heap (heap_alloc_old w o b (by
  rcases Nat.lt_or_ge b w.heap.size with h|h
  ·exact h
  ·rw [hf b h] at hn; cases hn))⟩
def mkX (r l:Nat)(rc:Loop)(C:List Ck)(R:List MP):XF where
 bs:=r::l::blksOf C
 p:=fun κ w=>(w.heap[r]? = some (.deferred (some []))∧κ r=none)∧(w.heap[l]? = some (.loop rc)∧κ l=none)∧(∀c∈C,c.ok κ w) ∧ ∀m∈R,m.p κ w
 mono:=fun {M κ w κ' w'} he hb ⟨⟨h1,h2⟩,⟨h3,h4⟩,h5,h6⟩=>by
  obtain ⟨r1,r2⟩:=hb r (by simp)
  obtain ⟨l1,l2⟩:=hb l (by simp)
  obtain ⟨k1,k2⟩:=he.keep r r1 r2
  obtain ⟨k3,k4⟩:=he.keep l l1 l2
  have hin : ∀c∈C,∀b∈c.blks,b<w.heap.size∧b ∉ M:=fun c hc b hbc=>hb b (by
   simp only [List.mem_cons]; exact .inr (.inr (List.mem_flatMap.2 ⟨c,hc,hbc⟩)))
  exact ⟨⟨k1.trans h1,k2.trans h2⟩,⟨k3.trans h3,k4.trans h4⟩,fun c hc=>Ck.ok_keep (h5 c hc) (fun b hbc=>(hin c hc b hbc).1) he fun b hbc=>(hin c hc b hbc).2,fun m hm=>m.mono he (h6 m hm)⟩
def defX (r:Nat):XF where
 bs:=[r]
 p:=fun κ w=>w.heap[r]? = some (.deferred (some []))∧κ r=none
 mono:=fun {M κ w κ' w'} he hb ⟨h1,h2⟩=>by
  obtain ⟨r1,r2⟩:=hb r (by simp)
  obtain ⟨k1,k2⟩:=he.keep r r1 r2
  exact ⟨k1.trans h1,k2.trans h2⟩
def RoundOk {σ:Type} (P:Program) (l:Nat) (Y:σ→XF→Prop) (args:Array Value) (x:XF) (s':σ) (c:Bool) (κ:Gh) (w:World):Prop:=
 YieldAt (FW none) 0 P l args w fun e w'=>e = .returned (.bool c) ∧ ∃κ' x',Y s' x'∧Ext x.bs κ w κ' w'∧Fresh κ' w'∧x'.p κ' w'∧x'.bs.Nodup ∧ ∀b∈x'.bs,(b∈x.bs∨w.heap.size≤b)∧b<w'.heap.size
end
section
variable {ro:Option Nat}{P:Program}{ops:Array Oper}{Q:Exit→Act→World→Prop}{N:Nat}{D:List Deferred}{L L':FL}{a:Act}{w:World}{o:Oper}{K:Act→World→Prop}
variable {M:List Nat}{κ0 κ:Gh}{w0:World}{C C':List Ck}{R R':List MP}
theorem exec_yield {g:Operand} {xs:Array Operand} {tys:Array TypeId} {l:Nat} {args:Array Value} (hop:o.op = .call {callee := .value g,args:=xs,argTypes:=tys}) (hg:ev L g=some (.func (.yield l) #[] #[])) (hx:xs.map (evD L)=args) :
  (execOp (evD L) o).run P w=(Instr.yield l args).run P w:=by
 subst hx
 simp [execOp,hop,resolve,invoke,evD,hg,go_sem]
theorem wo_yield {σ:Type}{Y:σ→XF→Prop}(hF:Fr N D L a)(hS:SS M κ0 w0 κ w C R)(hc:okOp N L o=true)(i:Nat){x:XF}{g:Operand}{xs:Array Operand}{tys:Array TypeId}{l:Nat}{args:Array Value}{s':σ}{c:Bool}
  (hop:o.op = .call {callee := .value g,args:=xs,argTypes:=tys}) (hg:ev L g=some (.func (.yield l) #[] #[])) (hx:xs.map (evD L)=args) (hC:C[i]? = some (.ext x))
  (hY:x.p κ w→Fresh κ w→x.bs.Nodup→(∀b∈x.bs,b<w.heap.size)→RoundOk P l Y args x s' c κ w)
  (kk : ∀x' κ' w' a',Y s' x'→Fr N D (upd L o.dst (.bool c)) a'→SS M κ0 w0 κ' w' (C.set i (.ext x')) R→K a' w'):wo ro P o a w K Q:=by
 obtain ⟨A,B,hAB,hAl⟩ : ∃A B,C=A ++ .ext x::B∧A.length=i:=by
  have hi:=(List.getElem?_eq_some_iff.1 hC).1
  refine ⟨C.take i,C.drop (i+1),?_,by simp; omega⟩
  have:=(List.getElem?_eq_some_iff.1 hC).2
  rw [← this]; simp
 have hok:x.p κ w:=hS.ck i hC
 have hnd:x.bs.Nodup:=by
  have:=hS.nd
  rw [hAB,blksOf_append] at this
  exact (List.nodup_append.1 (show (x.bs++blksOf B).Nodup from (List.nodup_append.1 this).2.1)).1
 have hlt : ∀b∈x.bs,b<w.heap.size:=fun b hb=>hS.lt b (List.mem_flatMap.2 ⟨.ext x,List.mem_of_getElem? hC,hb⟩)
 obtain ⟨fn,tmps,assign,body,hy,hR⟩:=hY hok hS.fresh hnd hlt
 have hc0:=hc
 simp only [okOp,Bool.and_eq_true] at hc
 refine ⟨fun _ _=>trivial,?_⟩
 show o.uponIn (FW ro) 0 P a K Q ((o.semAt ro a.eval).run P w)
 rw [semAt_eq hF hc.1.1 hc.1.2,exec_yield hop hg hx,hy]
 refine ⟨fun hd=>by simp [FW] at hd,?_⟩
 have hR':RoundIn (FW ro) (0-1) P l fn tmps assign body w _:=hR
 refine RoundIn.mono hR' fun e w' ⟨he,κ',x',hYx,hext,hfr,hp,hnd',hbs⟩=>?_
 subst he
 have hset:C.set i (.ext x')=A ++ .ext x'::B:=by
  subst hAl; rw [hAB]; simp
 refine kk x' κ' w' _ hYx (hF.put _ _ (okDst_spec hc.2)) ?_
 rw [hset]
 exact hS.turn A B hAB (c := .ext x) (c' := .ext x') hext hfr hp (fun b hb=>(hbs b hb).1) (fun b hb=>(hbs b hb).2) hnd'
def postM (P:Program)(fn:Func)(R:Ending→World→Prop):Exit→Act→World→Prop
 | .normal,a,w | .ret,a,w=>LeavesInM (FW none) 0 P fn a.tmps R a.defers .returning w
 | _,_,_=>False
theorem enterM {f:FuncId}{fn:Func}{c:Code}{args:Array Value}{R:Ending→World→Prop}(hf:P.funcs[f]? = some fn)(hb:fn.body=some c)(hn:fn.ntmps=N)(hs:args.size≤N)(hL:argsL args=L)
  (h : ∀a,Fr N [] L a→c.wpIn (FW none) 0 P (postM P fn R) a w):Calls P f args w R:=by
 refine (callsIn_wide (n:=0)).1 ?_
 have:CallsIn (FW none) 0 P f args w R:=by
  refine callsIn_of_wp_marks hf hb trivial ?_ rfl
  refine Go.wpIn_mono (h _ ⟨rfl,by simp [hn]; omega,fun t v ht=>?_⟩) fun e a w he=>by cases e<;>first|exact he|exact he.elim
  subst hL
  obtain ⟨_,h2⟩:=lookup_argsL args.toList 0 t v ht
  simp only [Nat.sub_zero] at h2
  have h3:args[t]? = some v:=by simpa using h2
  have hlt:t<args.size:=by
   rcases Nat.lt_or_ge t args.size with h|h
   ·exact h
   ·rw [Array.getElem?_eq_none h] at h3; cases h3
  rw [Array.getElem?_append_left hlt]; exact h3
 exact this
def mark (r:Nat):Deferred:={target := .collected r,args := #[]}
theorem ret_doneM {fn:Func}{φ:Value→Gh→World→Prop}{r:Nat}(hF:Fr N [mark r] L a)(hS:SS M κ0 w0 κ w C R)(i:Nat)(hC:C[i]? = some (.ext (defX r)))(hi:C.eraseIdx i=C')
  (k : ∀w',SS M κ0 w0 κ w' C' R → ∃v,(results fn a.tmps).run P w' = .ok v w'∧φ v κ w'):postM P fn (Post M κ0 w0 φ) .ret a w:=by
 have hp:w.heap[r]? = some (.deferred (some []))∧κ r=none:=hS.ck i hC
 obtain ⟨A,B,hAB,hAl⟩ : ∃A B,C=A ++ .ext (defX r)::B∧A.length=i:=by
  have hi:=(List.getElem?_eq_some_iff.1 hC).1
  refine ⟨C.take i,C.drop (i+1),?_,by simp; omega⟩
  have:=(List.getElem?_eq_some_iff.1 hC).2
  rw [← this]; simp
 have hC':C'=A++B:=by rw [← hi,hAB,← hAl]; simp [List.eraseIdx_append_of_length_le]
 have hnd:(blksOf A++(r::blksOf B)).Nodup:=by
  have:=hS.nd
  rw [hAB,blksOf_append] at this
  exact this
 have hrM:w0.heap.size≤r∨r∈M:=hS.own r (by rw [hAB,blksOf_append]; exact List.mem_append.2 (.inr (List.mem_append.2 (.inl (by simp [Ck.blks,defX])))))
 have hS1:SS M κ0 w0 κ w C' R:=hS.drop (by rw [hC',hAB]; simp)
 have he:Ext [r] κ w κ (w.putObj r (.deferred none)):=Ext.put hp.1 hp.2 (fun c t fr h=>by cases h) (fun c t fr h=>by cases h)
 have hS2:SS M κ0 w0 κ (w.putObj r (.deferred none)) C' R:=hS1.stepM he (fun b hb=>hS.fresh b (by simpa using hb)) (fun b hb=>by simp only [List.mem_singleton] at hb; subst hb; exact hrM) fun b hb hbr=>by
  simp only [List.mem_singleton] at hbr
  subst hbr
  rw [hC',blksOf_append] at hb
  have h2:=List.nodup_append.1 hnd
  rcases List.mem_append.1 hb with hb|hb
  ·exact h2.2.2 _ hb _ (by simp) rfl
  ·exact (List.nodup_cons.1 h2.2.1).1 hb
 obtain ⟨v,hv,hφ⟩:=k _ hS2
 show LeavesInM (FW none) 0 P fn a.tmps (Post M κ0 w0 φ) a.defers .returning w
 rw [hF.defers]
 exact ⟨by simp,.inl ⟨r,_,rfl,run_takeDeferred hp.1,⟨v,hv,v,κ,rfl,hS2.ext,hS2.fresh,hφ⟩⟩⟩
theorem SS.moreM {M':List Nat} (h:SS M κ0 w0 κ w C R) (hM : ∀b∈M,b∈M'):SS M' κ0 w0 κ w C R:=
 ⟨h.ext.weaken fun b hb _=>hM b hb,h.fresh,h.ok,h.lt,h.nd,fun b hb=>(h.own b hb).imp id (hM b),h.ro⟩
theorem nodup_ext {bs:List Nat} {C:List Ck} {r l:Nat} (hr:r≠l) (h1:(blksOf C).Nodup) (h2:r ∉ blksOf C) (h3:l ∉ blksOf C):(r::l::blksOf C).Nodup:=
 List.nodup_cons.2 ⟨by simp [hr,h2],List.nodup_cons.2 ⟨h3,h1⟩⟩
def RE {σ:Type} (Y:σ→XF→Prop) (s':σ) (c:Bool) (r l:Nat) (rc:Loop) (κb:Gh) (wb:World) (Cb:List Ck) (jump:Option Code) (w3:World):Prop:=
 ∃κ3 C3 R3,SS (blksOf Cb) κb wb κ3 w3 C3 R3∧c=jump.isNone∧Y s' (mkX r l {rc with state:=if jump.isNone then .ready else .done,pending:=jump} C3 R3)
def roundExit {σ:Type}(Y:σ→XF→Prop)(s':σ)(c:Bool)(r l:Nat)(rc:Loop)(κb:Gh)(wb:World)(Cb:List Ck):Exit→Act→World→Prop
 | .normal,_,w=>RE Y s' c r l rc κb wb Cb none w
 | .ret,_,w=>RE Y s' c r l rc κb wb Cb (some .ret) w
 | .exit id,_,w=>RE Y s' c r l rc κb wb Cb (some (.exit id)) w
 | .goto t,_,w=>RE Y s' c r l rc κb wb Cb (some (.goto t)) w
 | _,_,_=>False
theorem round_ok {σ:Type}{Y:σ→XF→Prop}{r l:Nat}{rc:Loop}{args:Array Value}{s':σ}{c:Bool}(hp:(mkX r l rc C R).p κ w)(hf:Fresh κ w)(hnd:(mkX r l rc C R).bs.Nodup)(hlt : ∀b∈(mkX r l rc C R).bs,b<w.heap.size)
  (hst:rc.state = .ready) (hargs:args.size=rc.params.size) (hFr:Fr N [] L {tmps:=(rc.params.zip args).foldl (fun tmps (t,a)=>tmps.setIfInBounds t a) rc.tmps,defers:=[]})
  (h : ∀a,Fr N [] L a→SS (blksOf C) κ w κ w C R→rc.assign.wpIn (FW (some l)) 0 P (Exit.then (fun a1 w1 => ∃κ1 C1 R1,SS (blksOf C) κ w κ1 w1 C1 R1 ∧ ∀w2,SS (blksOf C1) κ1 w2 κ1 w2 C1 R1 →
   rc.body.wpIn (FW (some l)) 0 P (roundExit Y s' c r l rc κ1 w2 C1) a1 w2) (fun _ _ _=>False)) a w):RoundOk P l Y args (mkX r l rc C R) s' c κ w:=by
 obtain ⟨⟨hr1,hr2⟩,⟨hl1,hl2⟩,hok,hro⟩:=hp
 have hnd':(r::l::blksOf C).Nodup:=hnd
 obtain ⟨hn1,hn2⟩:=List.nodup_cons.1 hnd'
 obtain ⟨hn3,hn4⟩:=List.nodup_cons.1 hn2
 simp only [List.mem_cons,not_or] at hn1
 obtain ⟨hrl,hrC⟩:=hn1
 have hrlt:r<w.heap.size:=hlt r (by simp [mkX])
 have hllt:l<w.heap.size:=hlt l (by simp [mkX])
 have hS0:SS (blksOf C) κ w κ w C R:=⟨.refl _ _ _,hf,hok,fun b hb=>hlt b (by simp [mkX,hb]),hn4,fun _ hb => .inr hb,hro⟩
 refine ⟨rc.fn,_,rc.assign,rc.body,run_yield hl1 hargs,?_⟩
 refine roundIn_of_wpIn trivial ?_
 refine Go.wpIn_mono (h _ hFr hS0) fun e a1 w1 he=>?_
 cases e with
 | normal=>
  obtain ⟨κ1,C1,R1,hS1,hbody⟩:=he
  obtain ⟨hl1',hl2'⟩:=hS1.ext.keep l hllt hn3
  have hl1w:=hl1'.trans hl1
  have hlk1:=hl2'.trans hl2
  have hnot : ∀q,q<w.heap.size→q ∉ blksOf C→q ∉ blksOf C1:=fun q hq hqC hq1=>(hS1.own q hq1).elim (fun h=>by omega) hqC
  have hlC1:=hnot l hllt hn3
  have hrC1:=hnot r hrlt hrC
  have hlt1:l<w1.heap.size:=Nat.lt_of_lt_of_le hllt hS1.ext.size
  have e2:Ext [l] κ1 w1 κ1 (w1.putObj l (.loop {rc with state := .busy})):=Ext.put hl1w hlk1 (fun c t fr h=>by cases h) (fun c t fr h=>by cases h)
  have hS2:SS (blksOf C1) κ1 (w1.putObj l (.loop {rc with state := .busy})) κ1 (w1.putObj l (.loop {rc with state := .busy})) C1 R1:=
   ((hS1.rebase.moreM (M':=l::blksOf C1) (fun b hb=>List.mem_cons_of_mem _ hb)).stepM e2 (fun b hb=>hS1.fresh b (by simpa using hb)) (fun b hb => .inr (by simp only [List.mem_singleton] at hb; subst hb; simp)) (fun b hb hbl=>by
    simp only [List.mem_singleton] at hbl; subst hbl; exact hlC1 hb)).rebase
  refine ⟨_,run_beginRound hl1w hst,Go.wpIn_mono (hbody _ hS2) fun e3 a3 w3 he3=>?_⟩
  have fin : ∀jump,RE Y s' c r l rc κ1 (w1.putObj l (.loop {rc with state := .busy})) C1 jump w3 → ∃v w',(Instr.endRound l jump).run P w3 = .ok v w'∧(Ending.returned v = .returned (.bool c) ∧
    ∃κ' x',Y s' x'∧Ext (mkX r l rc C R).bs κ w κ' w'∧Fresh κ' w'∧x'.p κ' w'∧x'.bs.Nodup ∧ ∀b∈x'.bs,(b∈(mkX r l rc C R).bs∨w.heap.size≤b)∧b<w'.heap.size):=by
   rintro jump ⟨κ3,C3,R3,hS3,hcj,hYs⟩
   have hsz2:(w1.putObj l (.loop {rc with state := .busy})).heap.size=w1.heap.size:=by simp
   have hl3:w3.heap[l]? = some (.loop {rc with state := .busy}):=((hS3.ext.keep l (by rw [hsz2]; exact hlt1) hlC1).1).trans (World.putObj_heap_same hlt1)
   have hlk3:κ3 l=none:=((hS3.ext.keep l (by rw [hsz2]; exact hlt1) hlC1).2).trans hlk1
   have hrlt1:r<w1.heap.size:=Nat.lt_of_lt_of_le hrlt hS1.ext.size
   have hr3:w3.heap[r]? = some (.deferred (some [])):=((hS3.ext.keep r (by rw [hsz2]; exact hrlt1) hrC1).1).trans ((World.putObj_heap_other hrl).trans ((hS1.ext.keep r hrlt hrC).1.trans hr1))
   have hrk3:κ3 r=none:=((hS3.ext.keep r (by rw [hsz2]; exact hrlt1) hrC1).2).trans ((hS1.ext.keep r hrlt hrC).2.trans hr2)
   have hsz3:w1.heap.size≤w3.heap.size:=by rw [← hsz2]; exact hS3.ext.size
   have hlt3:l<w3.heap.size:=by omega
   have e4:Ext [l] κ3 w3 κ3 (w3.putObj l (.loop {rc with state:=if jump.isNone then .ready else .done,pending:=jump})):=Ext.put hl3 hlk3 (fun c t fr h=>by cases h) (fun c t fr h=>by cases h)
   have hnot3 : ∀q,q<w.heap.size→q ∉ blksOf C→q ∉ blksOf C3:=fun q hq hqC hq3=>(hS3.own q hq3).elim (fun h=>by rw [hsz2] at h; have:=hS1.ext.size; omega) (hnot q hq hqC)
   have hlC3:=hnot3 l hllt hn3
   have hrC3:=hnot3 r hrlt hrC
   have hS4:SS (l::blksOf C3) κ3 w3 κ3 (w3.putObj l (.loop {rc with state:=if jump.isNone then .ready else .done,pending:=jump})) C3 R3:=
    (hS3.rebase.moreM (M':=l::blksOf C3) (fun b hb=>List.mem_cons_of_mem _ hb)).stepM e4 (fun b hb=>hS3.fresh b (by simpa using hb)) (fun b hb => .inr (by simp only [List.mem_singleton] at hb; subst hb; simp)) (fun b hb hbl=>by
     simp only [List.mem_singleton] at hbl; subst hbl; exact hlC3 hb)
   have h12:Ext (r::l::blksOf C) κ w κ1 (w1.putObj l (.loop {rc with state := .busy})):=(hS1.ext.weaken fun b hb _=>by simp [hb]).trans' e2 fun b hb => .inr (by simp only [List.mem_singleton] at hb; simp [hb])
   have h13:Ext (r::l::blksOf C) κ w κ3 w3:=h12.trans' hS3.ext fun b hb=>(hS1.own b hb).imp id fun h=>by simp [h]
   have h14:=h13.trans' e4 fun b hb => .inr (by simp only [List.mem_singleton] at hb; simp [hb])
   refine ⟨.bool jump.isNone,_,run_endRound jump hl3,by rw [hcj],κ3,_,hYs,h14,hS4.fresh,⟨⟨(World.putObj_heap_other hrl).trans hr3,hrk3⟩,⟨World.putObj_heap_same hlt3,hlk3⟩,hS4.ok,hS4.ro⟩,nodup_ext (bs:=[]) hrl hS3.nd hrC3 hlC3,fun b hb=>?_⟩
   simp only [mkX,List.mem_cons] at hb ⊢
   rcases hb with rfl|rfl|hb
   ·exact ⟨.inl (.inl rfl),by simp; omega⟩
   ·exact ⟨.inl (.inr (.inl rfl)),by simp; omega⟩
   ·refine ⟨?_,hS4.lt b hb⟩
    rcases hS3.own b hb with h|h
    ·exact .inr (by rw [hsz2] at h; exact Nat.le_trans hS1.ext.size h)
    ·exact (hS1.own b h).elim .inr fun h => .inl (.inr (.inr h))
  cases e3 with
  | normal=>exact fin none he3
  | ret=>exact fin _ he3
  | exit id=>exact fin _ he3
  | goto t=>exact fin _ he3
  | panic _=>exact he3.elim
  | outgrown=>exact he3.elim
 | _=>exact he.elim
theorem SS.pack {r l:Nat} {rc:Loop} {Cap:List Ck} (h:SS M κ0 w0 κ w (.ext (mkX r l rc [] [])::(C++Cap)) R) (hR : ∀m∈R',m.p κ w):SS M κ0 w0 κ w (.ext (mkX r l rc C R')::Cap) R:=by
 have hb:blksOf (.ext (mkX r l rc C R')::Cap)=blksOf (.ext (mkX r l rc [] [])::(C++Cap)):=by simp [blksOf,Ck.blks,mkX]
 refine ⟨h.ext,h.fresh,fun c hc=>?_,fun b hb'=>h.lt b (hb▸hb'),hb▸h.nd,fun b hb'=>h.own b (hb▸hb'),h.ro⟩
 rcases List.mem_cons.1 hc with rfl|hc
 ·obtain ⟨h1,h2,_,_⟩:=(h.ok (.ext (mkX r l rc [] [])) (by simp):(mkX r l rc [] []).p κ w)
  exact ⟨h1,h2,fun c hc=>h.ok c (by simp [hc]),hR⟩
 ·exact h.ok c (by simp [hc])
theorem SS.back {w1:World}{κ':Gh}{w':World}{x:XF}(h:SS M κ0 w0 κ w1 C R)(h2:SS (blksOf C) κ w1 κ' w' [.ext x] []):SS M κ0 w0 κ' w' [.ext x] R where
 ext:=h.ext.trans' h2.ext fun b hb=>h.own b hb
 fresh:=h2.fresh
 ok:=h2.ok
 lt:=h2.lt
 nd:=h2.nd
 own:=fun b hb=>(h2.own b hb).elim (fun h3 => .inl (Nat.le_trans h.ext.size h3)) (h.own b)
 ro:=fun m hm=>m.mono h2.ext (h.ro m hm)
theorem SS.shut {r l:Nat}{rc:Loop}(h:SS M κ0 w0 κ w [.ext (mkX r l rc C R')] R)(hb:rc.state ≠ .busy) :
  ∃w',(Instr.endLoop l).run P w = .ok rc.pending w'∧SS M κ0 w0 κ w' (.ext (defX r)::C) (R'++R):=by
 obtain ⟨⟨hr1,hr2⟩,⟨hl1,hl2⟩,hok,hro⟩:=(h.ok (.ext (mkX r l rc C R')) (by simp):(mkX r l rc C R').p κ w)
 have hbl:blksOf [.ext (mkX r l rc C R')]=r::l::blksOf C:=by simp [blksOf,Ck.blks,mkX]
 have hnd:=h.nd
 rw [hbl] at hnd
 obtain ⟨hn1,hn2⟩:=List.nodup_cons.1 hnd
 obtain ⟨hn3,hn4⟩:=List.nodup_cons.1 hn2
 simp only [List.mem_cons,not_or] at hn1
 have hlo:=h.own l (by rw [hbl]; simp)
 have hin : ∀b,b∈r::blksOf C→b∈blksOf [.ext (mkX r l rc C R')]:=fun b hb=>by
  rw [hbl]; rcases List.mem_cons.1 hb with rfl|hb<;>simp [*]
 have h1:SS M κ0 w0 κ w (.ext (defX r)::C) (R'++R):=
  ⟨h.ext,h.fresh,fun c hc=>by
   rcases List.mem_cons.1 hc with rfl|hc
   ·exact ⟨hr1,hr2⟩
   ·exact hok c hc,fun b hb=>h.lt b (hin b hb),List.nodup_cons.2 ⟨hn1.2,hn4⟩,fun b hb=>h.own b (hin b hb),fun m hm=>(List.mem_append.1 hm).elim (hro m) (h.ro m)⟩
 have e:Ext [l] κ w κ (w.putObj l (.loop {rc with state := .exhausted})):=Ext.put hl1 hl2 (fun c t fr h=>by cases h) (fun c t fr h=>by cases h)
 refine ⟨_,run_endLoop hl1 hb,h1.stepM e (fun b hb=>h.fresh b (by simpa using hb)) (fun b hb=>by simp only [List.mem_singleton] at hb; subst hb; exact hlo) fun b hb hbl'=>?_⟩
 simp only [List.mem_singleton] at hbl'
 subst hbl'
 rcases List.mem_cons.1 (show b∈r::blksOf C from hb) with rfl|hb
 ·exact hn1.1 rfl
 ·exact hn3 hb
end
end Go.Cf
namespace Go.Cf
open Go
section
variable {P:Program}{Q:Exit→Act→World→Prop}{N:Nat}{D:List Deferred}{L L':FL}{a:Act}{w:World}
variable {M:List Nat}{κ0 κ:Gh}{w0:World}{C C':List Ck}{R R':List MP}
def lpState:Nat→LoopState
 | 0 => .ready
 | _+1 => .done
def lpJump (js:List Code):Nat→Option Code
 | 0=>none
 | n+1=>js[n]?
theorem lpState_ne (n:Nat):lpState n ≠ .busy:=by cases n<;>simp [lpState]
def lp (rc:Loop) (js:List Code) (n:Nat):Loop:={rc with state:=lpState n,pending:=lpJump js n}
def jumped (P:Program) (Q:Exit→Act→World→Prop) (js:List Code) (n:Nat) (a:Act) (w:World):Prop:=
 match lpJump js n with
 | none=>Q .normal a w
 | some c=>c.wpIn (FW none) 0 P Q a w
theorem jumped0 {js:List Code} {n:Nat} (h:(n==0)=true) (k:Q .normal a w):jumped P Q js n a w:=by
 have:n=0:=by simpa using h
 subst this
 exact k
theorem jumpedS {js:List Code} {n:Nat} (i:Nat) {c:Code} (h:(n==i+1)=true) (hj:js[i]? = some c) (k:c.wpIn (FW none) 0 P Q a w):jumped P Q js n a w:=by
 have:n=i+1:=by simpa using h
 subst this
 unfold jumped
 simp only [lpJump,hj]
 exact k
def ups (L:FL) (l:List (Tmp×Value)):FL:=l.foldl (fun L x=>upd L (some x.1) x.2) L
theorem Fr.fold : ∀(l:List (Tmp×Value)) {L:FL} {t:Array Value},Fr N D L {tmps:=t,defers:=D}→(l.all fun x=>x.1<N)=true→Fr N D (ups L l) {tmps:=l.foldl (fun tmps (x:Tmp×Value)=>tmps.setIfInBounds x.1 x.2) t,defers:=D}:=by
 intro l
 induction l with
 | nil=>intro L t h _; exact h
 | cons x l ih=>
  intro L t h hl
  simp only [List.all_cons,Bool.and_eq_true,decide_eq_true_eq] at hl
  have h1:Fr N D (upd L (some x.1) x.2) {tmps:=t.setIfInBounds x.1 x.2,defers:=D}:=h.put (some x.1) x.2 (fun t ht=>by cases ht; exact hl.1)
  exact ih h1 hl.2
theorem Fr.round {ps:Array Tmp}{args:Array Value}(h:Fr N [] L a)(hl:((ps.zip args).toList.all fun x=>x.1<N)=true)(ks:List Nat)(hL:Cf.keep (ups L (ps.zip args).toList) ks=L') :
  Fr N [] L' {tmps:=(ps.zip args).foldl (fun tmps (t,a)=>tmps.setIfInBounds t a) a.tmps,defers:=[]}:=by
 have h0:Fr N [] L {tmps:=a.tmps,defers:=[]}:=⟨rfl,h.size,h.val⟩
 have:=(h0.fold (ps.zip args).toList hl).keep' ks hL
 rw [← Array.foldl_toList]
 exact this
theorem round_at {σ:Type}{Y:σ→XF→Prop}{r l:Nat}{rc:Loop}{js:List Code}{n:Nat}{args:Array Value}{s':σ}{c:Bool}{ps:Array Tmp}{assign body:Code}{a0:Act}(hp:(mkX r l (lp rc js n) C R).p κ w)(hf:Fresh κ w)(hnd:(mkX r l (lp rc js n) C R).bs.Nodup)(hlt : ∀b∈(mkX r l (lp rc js n) C R).bs,b<w.heap.size)
  (hn:(n==0)=true) (hrc:rc.params=ps∧rc.assign=assign∧rc.body=body∧rc.tmps=a0.tmps) (hargs:args.size=ps.size) (ks:List Nat) {L0:FL} (hF0:Fr N [] L0 a0) (hl:((ps.zip args).toList.all fun x=>x.1<N)=true) (hL:Cf.keep (ups L0 (ps.zip args).toList) ks=L)
  (h : ∀a,Fr N [] L a→SS (blksOf C) κ w κ w C R→assign.wpIn (FW (some l)) 0 P (Exit.then (fun a1 w1 => ∃κ1 C1 R1,SS (blksOf C) κ w κ1 w1 C1 R1 ∧ ∀w2,SS (blksOf C1) κ1 w2 κ1 w2 C1 R1 →
   body.wpIn (FW (some l)) 0 P (roundExit Y s' c r l rc κ1 w2 C1) a1 w2) (fun _ _ _=>False)) a w):RoundOk P l Y args (mkX r l (lp rc js n) C R) s' c κ w:=by
 obtain ⟨rfl,rfl,rfl,ht⟩:=hrc
 have hn0:n=0:=by simpa using hn
 subst hn0
 refine round_ok hp hf hnd hlt rfl hargs (L:=L) (N:=N) ?_ h
 have:=hF0.round hl ks hL
 show Fr N [] L {tmps:=(rc.params.zip args).foldl (fun tmps (t,a)=>tmps.setIfInBounds t a) rc.tmps,defers:=[]}
 rw [ht]
 exact this
theorem re_done {σ:Type}{Y:σ→XF→Prop}{s':σ}{c:Bool}{r l:Nat}{rc:Loop}{κb:Gh}{wb:World}{Cb:List Ck}{js:List Code}{w3:World}(n:Nat)(hS:SS (blksOf Cb) κb wb κ w3 C R)(jump:Option Code)(hj:lpJump js n=jump)(hst:lpState n=if jump.isNone then .ready else .done)(hc:c=jump.isNone)
  (hY:Y s' (mkX r l (lp rc js n) C R)):RE Y s' c r l rc κb wb Cb jump w3:=by
 subst hj
 refine ⟨κ,C,R,hS,hc,?_⟩
 rw [← hst]
 exact hY
theorem re_normal {σ:Type} {Y:σ→XF→Prop} {s':σ} {r l:Nat} {rc:Loop} {κb:Gh} {wb:World} {Cb:List Ck} (js:List Code) (hS:SS (blksOf Cb) κb wb κ w C R) (hY:Y s' (mkX r l (lp rc js 0) C R)):roundExit Y s' true r l rc κb wb Cb .normal a w:=
 re_done 0 hS none rfl rfl rfl hY
theorem re_exit {σ:Type} {Y:σ→XF→Prop} {s':σ} {r l:Nat} {rc:Loop} {κb:Gh} {wb:World} {Cb:List Ck} (js:List Code) (n:Nat) {id:Nat} (hj:js[n]? = some (.exit id)) (hS:SS (blksOf Cb) κb wb κ w C R) (hY:Y s' (mkX r l (lp rc js (n+1)) C R)):roundExit Y s' false r l rc κb wb Cb (.exit id) a w:=
 re_done (n+1) hS (some (.exit id)) hj rfl rfl hY
theorem ret_done0 {fn:Func} {φ:Value→Gh→World→Prop} {v:Value} (hF:Fr N [] L a) (hS:SS M κ0 w0 κ w C R) (hr:(results fn a.tmps).run P w = .ok v w) (hφ:φ v κ w):postM P fn (Post M κ0 w0 φ) .ret a w:=by
 show LeavesInM (FW none) 0 P fn a.tmps (Post M κ0 w0 φ) a.defers .returning w
 rw [hF.defers]
 exact ⟨v,hr,v,κ,rfl,hS.ext,hS.fresh,hφ⟩
theorem val_makeFunc {T':Nat} {o:Oper} {f:FuncId} {xs:Array Operand} {caps:Array Value} (hop:o.op = .makeFunc (.func f) #[] xs) (hx:xs.map (evD L)=caps) : ∀w,(execOp (evD L) o).run P w = .ok (.value (.func (.func f) #[] caps)) w:=fun w=>by
 subst hx
 simp [execOp,hop,Instr.makeFunc]
end
end Go.Cf
namespace Go.Cf
open Go
def gh (K:Nat) (W:World):Gh:=fun b=>if b<W.heap.size then some K else none
theorem gh_fresh (K:Nat) (W:World):Fresh (gh K W) W:=fun b hb=>by simp [gh]; omega
def RdT {α:Type} (P:Program) (t:Ty α) (ok:α→Prop) (E:TypeId):Prop := ∀(H:Type) (enc:TypeId×Value→H) (W:World) (n:Nat) (cs:List Value) (d:DataW H×List MemPlace),DataW.trod enc P W 0 (fun _=>true) true n E cs=some d → ∃x K0,ok x ∧ ∀K,K0≤K→t.rep (gh K W) W cs x
def inI (k:IntKind) (x:Int):Prop:=k.min≤x∧x≤k.max
def okB (_:Bool):Prop:=True
def okS (s:ByteArray):Prop:=s.size≤maxLen
theorem rd_int {P:Program} {E:TypeId} {k:IntKind} (h:P.underlying E=some (.int k)):RdT P (fInt k).ty (inI k) E:=fun H enc W n cs d hd=>by
 cases n with
 | zero=>simp [DataW.trod] at hd
 | succ n=>
  unfold DataW.trod at hd
  rw [h] at hd
  split at hd<;>simp_all [fInt,FT.ty,inI,Lit.wf]
  exact ⟨_,hd.1.2,0,fun _ _=>rfl⟩
theorem rd_str {P:Program} {E:TypeId} (h:P.underlying E=some .string):RdT P fStr.ty okS E:=fun H enc W n cs d hd=>by
 cases n with
 | zero=>simp [DataW.trod] at hd
 | succ n=>
  unfold DataW.trod at hd
  rw [h] at hd
  split at hd<;>simp_all [fStr,FT.ty,okS]
  exact ⟨_,hd.1,0,fun _ _=>rfl⟩
theorem rd_bool {P:Program} {E:TypeId} (h:P.underlying E=some .bool):RdT P fBool.ty okB E:=fun H enc W n cs d hd=>by
 cases n with
 | zero=>simp [DataW.trod] at hd
 | succ n=>
  unfold DataW.trod at hd
  rw [h] at hd
  cases cs with
  | nil=>simp at hd
  | cons v cs=>
   cases cs with
   | cons u cs=>simp at hd
   | nil=>
    cases v<;>simp at hd
    exact ⟨_,0,trivial,fun _ _=>rfl⟩
theorem rd_slice {P:Program}{α:Type}{t:Ty α}{ok:α→Prop}{T E:TypeId}{H:Type}{enc:TypeId×Value→H}{W:World}{n:Nat}{cs:List Value}{d:DataW H×List MemPlace}(ht:P.underlying T=some (.slice E))(hE:RdT P t ok E)(hsz:P.cellsOf E=t.size)(hpos:0<t.size)
  (h:DataW.trod enc P W 0 (fun _=>true) true n T cs=some d) : ∃p c l K0,cs=[.slice p (List.length l) c]∧(∀x∈l,ok x) ∧ ∀K,K0≤K→Ro t (gh K W) W p c (l:List α):=by
 rcases Deep.open_slice ht h with ⟨h0,_⟩ | ⟨a,len,cap,m,k,D,Pl,h0,hb,hl,hm,hmm,_,hx⟩
 ·exact ⟨none,0,[],0,h0,by simp,fun K _=>Ro.nil _ _ _⟩
 ·subst h0
  have hmc:m=cap:=by simpa using hmm
  subst hmc
  rcases Nat.eq_zero_or_pos m with h0|h0
  ·subst h0
   have:len=0:=by omega
   subst this
   exact ⟨some a,0,[],0,rfl,by simp,fun K _=>⟨Nat.le_refl _,Nat.zero_le _,.inl ⟨rfl,rfl⟩⟩⟩
  ·rw [hsz] at hx
   obtain ⟨cs0,h1,_⟩:=hx 0 h0
   obtain ⟨_,hlen0,hc0⟩:=World.cells?_some h1
   have hc:=hc0 0 hpos
   obtain ⟨b,off,spot⟩:=a
   have hsome : ∃v,cs0[0]? = some v:=⟨cs0[0]'(by omega),List.getElem?_eq_getElem (by omega)⟩
   obtain ⟨v0,hv0⟩:=hsome
   rw [hv0] at hc
   obtain rfl:spot=none:=by
    cases spot with
    | none=>rfl
    | some s=>
     exfalso
     simp [World.cell?,Addr.add] at hc
     split at hc<;>cases hc
   have hblt:b<W.heap.size:=by
    rcases Nat.lt_or_ge b W.heap.size with h|h
    ·exact h
    ·simp [World.cell?,add_off,Array.getElem?_eq_none h] at hc
   have key : ∀i,i<m → ∃x K0,ok x ∧ ∃cs',(∀K,K0≤K→t.rep (gh K W) W cs' x) ∧ ∀j u,cs'[j]? = some u→W.cell? ⟨b,off+i*t.size+j,none⟩=some u:=fun i hi=>by
    obtain ⟨cs',h1,h2⟩:=hx i hi
    obtain ⟨x,K0,hok,hr⟩:=hE _ _ _ _ _ _ h2
    refine ⟨x,K0,hok,cs',hr,fun j u hj=>?_⟩
    obtain ⟨_,hlen,hc⟩:=World.cells?_some h1
    have hjl:j<t.size:=by rw [← hlen]; exact (List.getElem?_eq_some_iff.1 hj).1
    have:=hc j hjl
    rw [add_off,add_off,hj] at this
    exact this
   have hlist : ∀q,q≤m → ∃(l:List α) (K0:Nat),l.length=q∧(∀x∈l,ok x) ∧ ∀i x,l[i]? = some x → ∃cs',(∀K,K0≤K→t.rep (gh K W) W cs' x) ∧ ∀j u,cs'[j]? = some u→W.cell? ⟨b,off+i*t.size+j,none⟩=some u:=fun q=>by
    induction q with
    | zero=>intro _; exact ⟨[],0,rfl,by simp,fun i x hi=>by simp at hi⟩
    | succ q ih=>
     intro hq
     obtain ⟨l,K1,hll,hlo,hlx⟩:=ih (by omega)
     obtain ⟨x,K2,hxo,cs',hx1,hx2⟩:=key q (by omega)
     refine ⟨l++[x],max K1 K2,by simp [hll],fun y hy=>?_,fun i y hi=>?_⟩
     ·rcases List.mem_append.1 hy with hy|hy
      ·exact hlo y hy
      ·simp only [List.mem_singleton] at hy; subst hy; exact hxo
     rw [List.getElem?_append] at hi
     split at hi
     ·obtain ⟨cs'',q1,q2⟩:=hlx i y hi
      exact ⟨cs'',fun K hK=>q1 K (by omega),q2⟩
     ·rename_i hge
      have hi0:i=q:=by
       have:=(List.getElem?_eq_some_iff.1 hi).1
       simp at this; omega
      subst hi0
      rw [hll,Nat.sub_self] at hi
      simp only [List.getElem?_cons_zero,Option.some.injEq] at hi
      subst hi
      exact ⟨cs',fun K hK=>hx1 K (by omega),hx2⟩
   obtain ⟨l,K1,hll,hlo,hlx⟩:=hlist len hl
   subst hll
   refine ⟨some ⟨b,off,none⟩,m,l,max K1 (off+l.length*t.size),rfl,hlo,fun K hK=>⟨hl,hm,.inr ⟨b,off,K,rfl,by simp [gh,hblt],by omega,fun i x hi=>?_⟩⟩⟩
   obtain ⟨cs',q1,q2⟩:=hlx i x hi
   exact ⟨cs',q1 K (by omega),q2⟩
def cat (cs:List Value):Nat→List Nat→List Value
 | _,[]=>[]
 | o,n::ns=>(cs.drop o).take n++cat cs (o+n) ns
theorem cat_eq (cs:List Value) : ∀(ns:List Nat) (o:Nat),o+ns.sum=cs.length→cat cs o ns=cs.drop o:=fun ns=>by
 induction ns with
 | nil=>intro o h; simp at h; subst h; simp [cat]
 | cons n ns ih=>
  intro o h
  simp only [List.sum_cons] at h
  rw [cat,ih (o+n) (by omega),← List.drop_drop,List.take_append_drop]
theorem pieces {cs:List Value} (ns:List Nat) (h:cs.length=ns.sum):cs=cat cs 0 ns:=by
 rw [cat_eq cs ns 0 (by omega)]; rfl
theorem arg_slice {P:Program}{T E:TypeId}{H:Type}{enc:TypeId×Value→H}{W:World}{v:Value}{d:DataW H}{ps:List MemPlace}(ht:P.underlying T=some (.slice E))(h:DataW.Trod enc P W 0 (fun _=>true) true T v d ps){base:Nat}(hok:Value.okWide P W .any base T v) :
  ∃n d',DataW.trod enc P W 0 (fun _=>true) true n T [v]=some d':=by
 obtain ⟨n,h⟩:=h
 have hv : ∃p l c,v = .slice p l c:=by
  unfold Value.okWide Cell.okWide at hok
  simp only [ht] at hok
  cases v<;>simp_all [Cell.ok]
 obtain ⟨p,l,c,rfl⟩:=hv
 exact ⟨n,_,h⟩
theorem rd_struct {P:Program}{T:TypeId}{fs:Array Field}{H:Type}{enc:TypeId×Value→H}{W:World}{n:Nat}{cs:List Value}{d:DataW H×List MemPlace}(ht:P.underlying T=some (.struct fs))(h:DataW.trod enc P W 0 (fun _=>true) true n T cs=some d) :
  cs.length=P.cellsOf T ∧ ∃k,∀f∈fs.toList,∃d',DataW.trod enc P W 0 (fun _=>true) true k f.type ((cs.drop f.offset).take (P.cellsOf f.type))=some d':=by
 cases n with
 | zero=>simp [DataW.trod] at h
 | succ n=>
  unfold DataW.trod at h
  rw [ht] at h
  simp only at h
  split at h
  ·rename_i hl
   refine ⟨hl,n,?_⟩
   rw [Option.map_eq_some_iff] at h
   obtain ⟨xs,hxs,_⟩:=h
   intro f hf
   obtain ⟨i,hi,rfl⟩:=List.getElem_of_mem hf
   have hlen:=mapM_some_length hxs
   have hlt:i<xs.length:=by omega
   have hg:=mapM_some_get hxs i _ (List.getElem?_eq_getElem hi)
   rw [List.getElem?_eq_getElem hlt] at hg
   exact ⟨_,hg⟩
  ·cases h
theorem trodAll_stays {P:Program}{H:Type}{enc:TypeId×Value→H}{W W':World}{sp:Nat→Bool}(hl:laidOutB P=true) : ∀ {ts:List TypeId}{vs:List Value}{ds:List (DataW H)}{ps:List MemPlace},(ts.all fun t=>P.readableRec t&&decide (t<P.types.size))=true →
  DataW.TrodAll enc P W 0 (fun _=>true) true ts vs ds ps→(∀p∈ps,W.sameAt W' p)→(∀p∈ps,sp p.block=true)→DataW.TrodAll enc P W' 0 sp true ts vs ds ps:=by
 intro ts
 induction ts with
 | nil=>intro vs ds ps _ h _ _; cases vs<;>cases ds<;>simp_all [DataW.TrodAll]
 | cons t ts ih=>
  intro vs ds ps ht h hs hsp
  cases vs with
  | nil=>simp [DataW.TrodAll] at h
  | cons v vs=>
   cases ds with
   | nil=>simp [DataW.TrodAll] at h
   | cons d ds=>
    obtain ⟨p,q,h1,h2,rfl⟩:=h
    simp only [List.all_cons,Bool.and_eq_true,decide_eq_true_eq] at ht
    exact ⟨p,q,WideElems.Trod_stays hl ht.1.1 ht.1.2 h1 (fun x hx=>hs x (by simp [hx])) (fun x hx=>hsp x (by simp [hx])),ih (by simpa using ht.2) h2 (fun x hx=>hs x (by simp [hx])) (fun x hx=>hsp x (by simp [hx])),rfl⟩
theorem sameAt_of {W W':World} (h : ∀b,b<W.heap.size→W'.heap[b]? = W.heap[b]?) {p:MemPlace} (hp:p.block<W.heap.size):W.sameAt W' p:=by
 cases p with
 | cell b off=>exact cell_of_heap (h b hp)
 | map b=>exact h b hp
theorem law_kept {P:Program}{f:FuncId}{args:Array Value}{κ:Gh}{w:World}{b:Bool}{φ:Gh→World→Prop}(hb:b=true)(h:Calls P f args w (Post [] κ w fun v κ w=>v = .bool b∧φ κ w)) :
  Calls P f args w fun e w'=>e = .returned (.bool true)∧w.keptBut w' (fun _=>False) ∧ ∀b,b<w.heap.size→w'.heap[b]? = w.heap[b]? := by
 subst hb
 exact h.mono fun e w' ⟨v,κ',he,hx,_,hv,_⟩=>⟨by rw [he,hv],hx.grown,fun b hb=>(hx.keep b hb (by simp)).1⟩
theorem post_kept {H:Type}{enc:TypeId×Value→H}{P:Program}{f:Func}{s:ChangeSpec}{W W':World}{args:Array Value}{v:Value}{ds gs:List (DataW H)}{before pa pv:List MemPlace}
  (hW:DataW.Whole enc P f.params.toList s.vars false W args.toList ds gs before)
  (hres : ∀(b:Nat) (sp:Nat→Bool) (hd:Bool),DataW.TrodAll enc P W' b sp hd f.resultTypes.toList (v.resultList f.resultTypes.size) (s.fn H (ds++gs)).results [])
  (hargs : ∀sp:Nat→Bool,(∀p∈before,sp p.block=true)→DataW.TrodAll enc P W' 0 sp true f.params.toList args.toList (s.fn H (ds++gs)).args pa)
  (hvars : ∀sp:Nat→Bool,(∀p∈before,sp p.block=true)→DataW.TrodVars enc P W' sp s.vars (s.fn H (ds++gs)).vars pv)
  (hps:before=pa++pv) (hk:W.keptBut W' (· ∈ before)):s.post enc P f false true false false W args v W':=by
 have hold : ∀p∈before,(fun b=>decide (b<W.heap.size)) p.block=true:=fun p hp=>by simpa using hW.lt p hp
 refine ⟨ds,gs,before,[],pa,pv,hW,hres _ _ _,hargs _ hold,hvars _ hold,World.keptBut_mono (fun p hp=>⟨hp,?_⟩) hk,fun h=>by cases h⟩
 rw [hps,List.mem_append] at hp
 exact Or.inr hp
end Go.Cf
namespace Go.Cf
open Go
section
variable {ro:Option Nat}{P:Program}{ops:Array Oper}{Q:Exit→Act→World→Prop}{N:Nat}{D:List Deferred}{L L':FL}{a:Act}{w:World}{o:Oper}{K:Act→World→Prop}
variable {κ0 κ:Gh}{w0:World}{C C':List Ck}{R R' R0 Ra Rb:List MP}
theorem nodup_apart : ∀ {C:List Ck} {i j:Nat} {x y:Ck} {b:Nat},(blksOf C).Nodup→C[i]? = some x→C[j]? = some y→i≠j→b∈x.blks→b ∉ y.blks:=by
 have key : ∀(C:List Ck) (i j:Nat) (x y:Ck) (b:Nat),C[i]? = some x→C[j]? = some y→i<j→b∈x.blks→b∈y.blks → ¬(blksOf C).Nodup:=by
  intro C
  induction C with
  | nil=>intro i j x y b hx; simp at hx
  | cons e C ih=>
   intro i j x y b hx hy hij hbx hby hnd
   have hnd':(e.blks++blksOf C).Nodup:=hnd
   cases j with
   | zero=>omega
   | succ j=>
    simp only [List.getElem?_cons_succ] at hy
    cases i with
    | zero=>
     simp only [List.getElem?_cons_zero,Option.some.injEq] at hx
     subst hx
     exact (List.nodup_append.1 hnd').2.2 b hbx b (List.mem_flatMap.2 ⟨y,List.mem_of_getElem? hy,hby⟩) rfl
    | succ i=>
     simp only [List.getElem?_cons_succ] at hx
     exact ih i j x y b hx hy (by omega) hbx hby (List.nodup_append.1 hnd').2.1
 intro C i j x y b hnd hx hy hij hbx hby
 rcases Nat.lt_or_ge i j with h|h
 ·exact key C i j x y b hx hy h hbx hby hnd
 ·exact key C j i y x b hy hx (by omega) hby hbx hnd
end
end Go.Cf
namespace Go.Cf
open Go
section
variable {ro:Option Nat}{P:Program}{ops:Array Oper}{Q:Exit→Act→World→Prop}{N:Nat}{D:List Deferred}{L L':FL}{a:Act}{w:World}{o:Oper}{K:Act→World→Prop}
variable {M:List Nat}{κ0 κ κ':Gh}{w0 w':World}{C C' Cin Cr Cout:List Ck}{R R' Rout:List MP}
theorem SS.callBack (h:SS M κ0 w0 κ w (Cin++Cr) R) (h2:SS (blksOf Cin) κ w κ' w' Cout Rout):SS M κ0 w0 κ' w' (Cout++Cr) (Rout++R):=by
 have hnd:=h.nd
 rw [blksOf_append] at hnd
 obtain ⟨n1,n2,n3⟩:=List.nodup_append.1 hnd
 have hin : ∀b∈blksOf Cin,b∈blksOf (Cin++Cr):=fun b hb=>by rw [blksOf_append]; exact List.mem_append.2 (.inl hb)
 have hcr : ∀b∈blksOf Cr,b∈blksOf (Cin++Cr):=fun b hb=>by rw [blksOf_append]; exact List.mem_append.2 (.inr hb)
 refine ⟨h.ext.trans' h2.ext fun b hb=>h.own b (hin b hb),h2.fresh,fun c hc=>?_,fun b hb=>?_,?_,fun b hb=>?_,fun m hm=>?_⟩
 ·rcases List.mem_append.1 hc with hc|hc
  ·exact h2.ok c hc
  ·exact Ck.ok_keep (h.ok c (List.mem_append.2 (.inr hc))) (fun b hb=>h.lt b (hcr b (List.mem_flatMap.2 ⟨c,hc,hb⟩))) h2.ext fun b hb hb'=>n3 b hb' b (List.mem_flatMap.2 ⟨c,hc,hb⟩) rfl
 ·rw [blksOf_append] at hb
  rcases List.mem_append.1 hb with hb|hb
  ·exact h2.lt b hb
  ·exact Nat.lt_of_lt_of_le (h.lt b (hcr b hb)) h2.ext.size
 ·rw [blksOf_append]
  refine List.nodup_append.2 ⟨h2.nd,n2,fun x hx y hy=>?_⟩
  rintro rfl
  rcases h2.own x hx with h3|h3
  ·have:=h.lt x (hcr x hy); omega
  ·exact n3 x h3 x hy rfl
 ·rw [blksOf_append] at hb
  rcases List.mem_append.1 hb with hb|hb
  ·rcases h2.own b hb with h3|h3
   ·exact .inl (Nat.le_trans h.ext.size h3)
   ·exact h.own b (hin b h3)
  ·exact h.own b (hcr b hb)
 ·rcases List.mem_append.1 hm with hm|hm
  ·exact h2.ro m hm
  ·exact m.mono h2.ext (h.ro m hm)
theorem wo_callS (hF:Fr N D L a)(hS:SS M κ0 w0 κ w (Cin++Cr) R)(hc:okOp N L o=true){f:FuncId}{args:Array Value}(hr:pureRun P (execOp (evD L) o)=some (.enter f args)){φ:Value→Gh→World→Prop}
  (hcall:SS (blksOf Cin) κ w κ w Cin R→Calls P f args w (Post (blksOf Cin) κ w φ))
  (kk : ∀v κ' w' a',φ v κ' w'→Fr N D (upd L o.dst v) a'→(∀Cout Rout,SS (blksOf Cin) κ w κ' w' Cout Rout→SS M κ0 w0 κ' w' (Cout++Cr) (Rout++R))→K a' w'):wo ro P o a w K Q:=by
 have hsub:Cin.Sublist (Cin++Cr):=List.sublist_append_left _ _
 exact wo_call hF hc hr (hcall (hS.drop hsub).rebase) fun _ w' ⟨v,κ',he,hext,hfr,hφ⟩=>⟨v,he,fun a' hF'=>kk v κ' w' a' hφ hF' fun Cout Rout h2=>hS.callBack h2⟩
end
end Go.Cf
namespace Go.Cf
open Go
set_option linter.unusedVariables false
abbrev pt (b o:Nat):Value := .pointer (some ⟨b,o,none⟩)
abbrev si (x:Int):Nat×List Value:=(1,[.int .i64 x])
abbrev sg (x:ByteArray):Nat×List Value:=(1,[.string x])
abbrev sb (x:Bool):Nat×List Value:=(1,[.bool x])
abbrev su (x:Int):Nat×List Value:=(1,[.int .u64 x])
abbrev sl (p:Option Addr) (n c:Nat):Nat×List Value:=(1,[.slice p n c])
abbrev eb (n:Nat) (l:List Bool):Nat×List Value:=(n,encs fBool l)
abbrev ei (n:Nat) (l:List Int):Nat×List Value:=(n,encs (fInt .i64) l)
abbrev vi (x:Int):Value := .int .i64 x
abbrev vu (x:Int):Value := .int .u64 x
abbrev vb (x:Bool):Value := .bool x
abbrev rg (n:Nat):List Nat:=List.range n
def bitA (n m:Nat):Array Bool:=((List.range n).map fun i=>Nat.testBit m i).toArray
def sgChk:Nat→Segs→Bool
 | 0,_=>true
 | n+1,(k,[v])::s=>(k==1&&v.oneCell')&&sgChk n s
 | _,_=>false
theorem sgN (n:Nat) {s:Segs} (r:segGood (s.drop n)) (h:sgChk n s=true:=by kernel_rfl):segGood s:=by
 induction n generalizing s with
 | zero=>exact r
 | succ n ih=>
  match s,h,r with
  | (k,[v])::s,h,r=>
   simp only [sgChk,Bool.and_eq_true,beq_iff_eq] at h
   obtain ⟨⟨rfl,h1⟩,h2⟩:=h
   exact sgV h1 (ih r h2)
def bxB (C:List Ck) (i:Nat):Nat:=match C[i]? with|some (.box b _ _)=>b|_=>0
def bxT (C:List Ck) (i:Nat):Nat:=match C[i]? with|some (.box _ T _)=>T|_=>0
def bxS (C:List Ck) (i:Nat):Segs:=match C[i]? with|some (.box _ _ s)=>s|_=>[]
def setS (C:List Ck) (i k m:Nat) (s':Segs):List Ck:=C.set i (.box (bxB C i) (bxT C i) ((bxS C i).take k++s'++(bxS C i).drop (k+m)))
def opX (o:Oper):Operand:=match o.op with | .store _ x _=>x | .load _ x=>x | .box _ x=>x|_ => .tmp 0
def opY (o:Oper):Operand:=match o.op with | .store _ _ y=>y|_ => .tmp 0
def opT (o:Oper):TypeId:=match o.op with | .store T _ _=>T | .load T _=>T | .box T _=>T | .alloc T=>T|_=>0
def segV (s:Segs) (k j:Nat):Value:=((s[k]?).bind fun x=>x.2[j]?).getD undef
def subS (s:Segs) (k m:Nat):Segs:=(s.drop k).take m
def pureL (P:Program) (ops:Array Oper) (N n:Nat) (ks:List Nat) (l:List Oper) (L:FL):FL:=((psteps P ops N (l.take n) L).map fun x=>keep x ks).getD []
section
variable {ro:Option Nat}{P:Program}{ops:Array Oper}{Q:Exit→Act→World→Prop}{N:Nat}{D:List Deferred}{L L':FL}{a:Act}{w:World}{o:Oper}{K:Act→World→Prop}
variable {M:List Nat}{κ0 κ:Gh}{w0:World}{C C':List Ck}{R R':List MP}
theorem wp (n:Nat)(ks:List Nat){l:List Oper}(hF:Fr N D L a)(k : ∀a',Fr N D (pureL P ops N n ks l L) a'→wl ro P ops Q (l.drop n) a' w)
  (hp:(psteps P ops N (l.take n) L).isSome=true:=by kernel_rfl):wl ro P ops Q l a w:=by
 refine wl_pure (L':=pureL P ops N n ks l L) n ks hF ?_ k
 unfold pureL
 cases h:psteps P ops N (l.take n) L with
 | none=>rw [h] at hp; cases hp
 | some x=>rfl
theorem wc {l:List Oper} (h:wo ro P o a w (wl ro P ops Q l) Q) (hg:o.guard=none:=by kernel_rfl):wl ro P ops Q (o::l) a w:=wl_cons hg h
theorem wcg {l:List Oper} (hF:Fr N D L a) (h:wo ro P o a w (wl ro P ops Q l) Q) (hg:goes ops L o=some true:=by kernel_rfl):wl ro P ops Q (o::l) a w:=wl_consg hF hg h
theorem SS.sp (h:SS M κ0 w0 κ w C R) (is js:List Nat) {C':List Ck} {R':List MP} (hn:is.Nodup:=by decide) (hC:selG C is=C':=by kernel_rfl) (hR:selG R js=R':=by kernel_rfl):SS M κ0 w0 κ w C' R':=(h.selp is hn hC).pick js hR
theorem SS.sx (h:SS M κ0 w0 κ w C R) (is js:List Nat) {C':List Ck} {R':List MP} (hn:is.Nodup:=by decide) (hC:selG C is=C':=by kernel_rfl) (hR:selG R js=R':=by kernel_rfl):SSx M κ0 w0 C' R' w:=⟨κ,(h.selp is hn hC).pick js hR⟩
theorem Fr.kp (hF:Fr N D L a) (ks:List Nat) (h:Cf.keep L ks=L':=by kernel_rfl):Fr N D L' a:=hF.keep' ks h
theorem wld (hF:Fr N D L a)(hS:SS M κ0 w0 κ w C R)(i k j:Nat)(kk : ∀a',Fr N D (upd L o.dst (segV (bxS C i) k j)) a'→K a' w)
  (hc:okOp N L o=true:=by kernel_rfl) (hop:o.op = .load (opT o) (opX o):=by kernel_rfl) (hC:C[i]? = some (.box (bxB C i) (bxT C i) (bxS C i)):=by kernel_rfl)
  (hx:ev L (opX o)=some (.pointer (some ⟨bxB C i,tot ((bxS C i).take k)+j,none⟩)):=by kernel_rfl)
  (hj:((bxS C i)[k]?.bind fun x=>x.2[j]?)=some (segV (bxS C i) k j):=by kernel_rfl) (hg:pureRun P (isAgg (opT o))=some false:=by kernel_rfl):wo ro P o a w K Q:=by
 obtain ⟨⟨n,l⟩,hk,hl⟩:=Option.bind_eq_some_iff.1 hj
 exact wo_load hF hS hc i k j hop hx hC hk hl rfl hg kk
theorem wls (hF:Fr N D L a)(hS:SS M κ0 w0 κ w C R)(i k m:Nat)(kk : ∀a',Fr N D (upd L o.dst (.agg (flat (subS (bxS C i) k m)).toArray)) a'→K a' w)
  (hc:okOp N L o=true:=by kernel_rfl) (hop:o.op = .load (opT o) (opX o):=by kernel_rfl) (hC:C[i]? = some (.box (bxB C i) (bxT C i) (bxS C i)):=by kernel_rfl)
  (hx:ev L (opX o)=some (.pointer (some ⟨bxB C i,tot ((bxS C i).take k),none⟩)):=by kernel_rfl)
  (hg:pureRun P (isAgg (opT o))=some true:=by kernel_rfl) (hsz:pureRun P (sizeOf (opT o))=some (tot (subS (bxS C i) k m)):=by kernel_rfl):wo ro P o a w K Q:=
 wo_loads hF hS hc i k m hop hx hC rfl rfl hg hsz rfl kk
theorem wst (hF:Fr N D L a)(hS:SS M κ0 w0 κ w C R)(i k m:Nat)(s':Segs)(hs':segGood s')(kk : ∀a' w',Fr N D (upd L o.dst undef) a'→SS M κ0 w0 κ w' (setS C i k m s') R→K a' w')
  (hc:okOp N L o=true:=by kernel_rfl) (hop:o.op = .store (opT o) (opX o) (opY o):=by kernel_rfl) (hC:C[i]? = some (.box (bxB C i) (bxT C i) (bxS C i)):=by kernel_rfl)
  (hx:ev L (opX o)=some (.pointer (some ⟨bxB C i,tot ((bxS C i).take k),none⟩)):=by kernel_rfl)
  (hy:(ev L (opY o)).map Value.cells=some (flat s').toArray:=by kernel_rfl) (hsz:pureRun P (sizeOf (opT o))=some (tot s'):=by kernel_rfl) (hn:tot (subS (bxS C i) k m)=tot s':=by kernel_rfl):wo ro P o a w K Q:=by
 obtain ⟨v,hv,hvc⟩:=Option.map_eq_some_iff.1 hy
 exact wo_stores hF hS hc i k m hop hx hv hC rfl hsz hn rfl hs'.1 hs'.2 hvc rfl rfl kk
theorem wal (hF:Fr N D L a)(hS:SS M κ0 w0 κ w C R)(s:Segs)(hs:segGood s)(kk : ∀b a' w',Fr N D (upd L o.dst (.pointer (some ⟨b,0,none⟩))) a'→SS M κ0 w0 κ w' (.box b (opT o) s::C) R→K a' w')
  (hc:okOp N L o=true:=by kernel_rfl) (hop:o.op = .alloc (opT o):=by kernel_rfl) (hz:(pureRun P (zeroValue (opT o))).map Value.cells=some (flat s).toArray:=by kernel_rfl):wo ro P o a w K Q:=by
 obtain ⟨z,hz,hzs⟩:=Option.map_eq_some_iff.1 hz
 exact wo_alloc hF hS hc hop hz hs.1 hzs kk
theorem wbx (hF:Fr N D L a)(hS:SS M κ0 w0 κ w C R)(s:Segs)(hs:segGood s)(kk : ∀b a' w',Fr N D (upd L o.dst (.pointer (some ⟨b,0,none⟩))) a'→SS M κ0 w0 κ w' (.box b (opT o) s::C) R→K a' w')
  (hc:okOp N L o=true:=by kernel_rfl) (hop:o.op = .box (opT o) (opX o):=by kernel_rfl) (hx:(ev L (opX o)).map Value.cells=some (flat s).toArray:=by kernel_rfl):wo ro P o a w K Q:=by
 obtain ⟨v,hv,hvs⟩:=Option.map_eq_some_iff.1 hx
 exact wo_box hF hS hc hop hv hs.1 hvs kk
theorem vld (i k j:Nat) (hop:o.op = .load (opT o) (opX o):=by kernel_rfl) (hC:C[i]? = some (.box (bxB C i) (bxT C i) (bxS C i)):=by kernel_rfl)
  (hx:ev L (opX o)=some (.pointer (some ⟨bxB C i,tot ((bxS C i).take k)+j,none⟩)):=by kernel_rfl)
  (hj:((bxS C i)[k]?.bind fun x=>x.2[j]?)=some (segV (bxS C i) k j):=by kernel_rfl) (hg:pureRun P (isAgg (opT o))=some false:=by kernel_rfl) : ∀w,SSx M κ0 w0 C R w→(execOp (evD L) o).run P w = .ok (.value (segV (bxS C i) k j)) w:=by
 obtain ⟨⟨n,l⟩,hk,hl⟩:=Option.bind_eq_some_iff.1 hj
 exact val_load i k j hop hx hC hk hl rfl hg
theorem vls (i k m:Nat) (hop:o.op = .load (opT o) (opX o):=by kernel_rfl) (hC:C[i]? = some (.box (bxB C i) (bxT C i) (bxS C i)):=by kernel_rfl)
  (hx:ev L (opX o)=some (.pointer (some ⟨bxB C i,tot ((bxS C i).take k),none⟩)):=by kernel_rfl)
  (hg:pureRun P (isAgg (opT o))=some true:=by kernel_rfl) (hsz:pureRun P (sizeOf (opT o))=some (tot (subS (bxS C i) k m)):=by kernel_rfl) : ∀w,SSx M κ0 w0 C R w→(execOp (evD L) o).run P w = .ok (.value (.agg (flat (subS (bxS C i) k m)).toArray)) w:=
 val_loads i k m hop hx hC rfl rfl hg hsz rfl
theorem rvs (hF:Fr N D L a) (hS:SS M κ0 w0 κ w C R) (i k m:Nat) {t T:Nat} {v:Value} (h:L.lookup t=some (.pointer (some ⟨bxB C i,tot ((bxS C i).take k),none⟩)):=by kernel_rfl) (hC:C[i]? = some (.box (bxB C i) (bxT C i) (bxS C i)):=by kernel_rfl)
  (hv:Value.agg (flat (subS (bxS C i) k m)).toArray=v:=by kernel_rfl) (hg:pureRun P (isAgg T)=some true:=by kernel_rfl) (hsz:pureRun P (sizeOf T)=some (tot (subS (bxS C i) k m)):=by kernel_rfl):RV P a w (.cell t T) v:=by
 subst hv
 exact rv_cells hF hS i k m h hC rfl rfl hg hsz rfl
theorem rvt (hF:Fr N D L a) {t:Nat} {v:Value} (h:L.lookup t=some v:=by kernel_rfl):RV P a w (.tmp t) v:=rv_tmp hF h
end
section
variable {ro:Option Nat}{P:Program}{ops:Array Oper}{Q:Exit→Act→World→Prop}{S:World→Prop}{tl:List Nat}{N m:Nat}{D:List Deferred}{L L':FL}{a:Act}{w:World}{fuel:Nat}{listed:Array Bool}
def takL (P:Program) (ops:Array Oper) (tl:List Nat) (N:Nat) (is ks:List Nat) (listed:Array Bool) (L:FL):FL:=((ptakes P ops tl N is listed L).map fun x=>keep x.2 ks).getD []
def takA (P:Program) (ops:Array Oper) (tl:List Nat) (N:Nat) (is:List Nat) (listed:Array Bool) (L:FL):Array Bool:=((ptakes P ops tl N is listed L).map fun x=>x.1).getD #[]
theorem anp (is ks:List Nat)(hF:Fr N D L a)(hS:S w)(k : ∀a',Fr N D (takL P ops tl N is ks listed L) a'→AnyH ro P ops Q S tl (m-is.length) (takA P ops tl N is listed L) a' w)
  (hsel:noSel ops=true:=by kernel_rfl) (hQ : ∀c a w t v,Q (.panic c) (a.put t v) w→Q (.panic c) a w:=by intro c a w t v h; cases t<;>exact h)
  (hp:(ptakes P ops tl N is listed L).isSome=true:=by kernel_rfl) (hm:Nat.ble is.length m=true:=by kernel_rfl):AnyH ro P ops Q S tl m listed a w:=by
 refine any_pure (fuel:=m-is.length) is ks hF hS hsel hQ (L':=takL P ops tl N is ks listed L) (listed':=takA P ops tl N is listed L) ?_ ?_ k
 ·unfold takL takA
  cases h:ptakes P ops tl N is listed L with
  | none=>rw [h] at hp; cases hp
  | some x=>rfl
 ·have:=Nat.le_of_ble_eq_true hm; omega
theorem ago (i:Nat){o:Oper}(hF:Fr N D L a)(hi:ops[i]? = some o)
  (h:wo ro P o a w (fun a' w'=>(early tl (listed.setIfInBounds i true)=true→S w')∧AnyH ro P ops Q S tl (m-1) (listed.setIfInBounds i true) a' w') Q)
  (hr:Region.ready md ops listed=[i]:=by kernel_rfl) (hg:goes ops L o=some true:=by kernel_rfl) (hm:Nat.ble 1 m=true:=by kernel_rfl):AnyH ro P ops Q S tl m listed a w:=by
 obtain ⟨f,rfl⟩ : ∃f,m=f+1:=⟨m-1,by have:=Nat.le_of_ble_eq_true hm; omega⟩
 exact any_go i hF hi hr hg rfl h
theorem ago2 (i j:Nat){oi oj:Oper}(hF:Fr N D L a)(hi:ops[i]? = some oi)(hj:ops[j]? = some oj)
  (h1:wo ro P oi a w (fun a' w'=>(early tl (listed.setIfInBounds i true)=true→S w')∧AnyH ro P ops Q S tl (m-1) (listed.setIfInBounds i true) a' w') Q)
  (h2:wo ro P oj a w (fun a' w'=>(early tl (listed.setIfInBounds j true)=true→S w')∧AnyH ro P ops Q S tl (m-1) (listed.setIfInBounds j true) a' w') Q)
  (hr:Region.ready md ops listed=[i,j]:=by kernel_rfl) (hgi:goes ops L oi=some true:=by kernel_rfl) (hgj:goes ops L oj=some true:=by kernel_rfl) (hm:Nat.ble 1 m=true:=by kernel_rfl):AnyH ro P ops Q S tl m listed a w:=by
 obtain ⟨f,rfl⟩ : ∃f,m=f+1:=⟨m-1,by have:=Nat.le_of_ble_eq_true hm; omega⟩
 exact any_go2 i j hF hi hj hr hgi hgj rfl rfl h1 h2
theorem atk (i:Nat)(d:Option Tmp){o:Oper}(hF:Fr N D L a)(hS:S w)(hi:ops[i]? = some o){v:Value}(hv : ∀w,S w→(execOp (evD L) o).run P w = .ok (.value v) w)
  (k : ∀a',Fr N D (upd L d v) a'→AnyH ro P ops Q S tl (m-1) (listed.setIfInBounds i true) a' w)
  (hsel:noSel ops=true:=by kernel_rfl) (hmt:mayTake ops tl listed i=true:=by kernel_rfl) (hQ : ∀c a w v,Q (.panic c) (a.put o.dst v) w→Q (.panic c) a w:=by intro c a w v h; exact h)
  (hd:okDst N o=true:=by kernel_rfl) (hg:goes ops L o=some true:=by kernel_rfl) (hc:covers L o=true:=by kernel_rfl) (hdd:o.dst=d:=by kernel_rfl) (hm:Nat.ble 1 m=true:=by kernel_rfl):AnyH ro P ops Q S tl m listed a w:=by
 obtain ⟨f,rfl⟩ : ∃f,m=f+1:=⟨m-1,by have:=Nat.le_of_ble_eq_true hm; omega⟩
 exact any_take i d hF hS hi hsel hmt hQ hd hg hc hdd hv k
theorem and_ (h:Q .normal a w) (hr:Region.ready md ops listed=[]:=by kernel_rfl):AnyH ro P ops Q S tl m listed a w:=any_done hr h m
theorem notE {b:Bool} {p:Prop} (h:b=false:=by kernel_rfl):b=true→p:=fun e=>absurd (h.symm.trans e) Bool.false_ne_true
def isBx:Ck→Bool
 | .tok .. => false
 | _=>true
variable {M:List Nat}{κ0 κ:Gh}{w0:World}{C:List Ck}{R:List MP}
set_option linter.unusedVariables false in
theorem rgS {id:Nat} (hS:SS M κ0 w0 κ w C R) (tl:List Nat) (h:AnyH ro P ops Q (SSx M κ0 w0 (C.filter isBx) R) tl ops.size (Array.replicate ops.size false) a {w with drawn:=w.drawn+1}) (hm:P.follows .mixedOrders=true:=by kernel_rfl):(Code.region id ops true).wpIn (FW ro) 0 P Q a w:=
 region_any _ tl hm rfl rfl h
end
end Go.Cf
namespace Go.Cf
open Go
set_option linter.unusedVariables false
theorem Ext.all {M:List Nat} {κ κ':Gh} {w w':World} (h:Ext M κ w κ' w'):Ext (List.range w.heap.size) κ w κ' w':=
 ⟨h.os,h.out,h.tape,h.size,fun b hb hm=>absurd (List.mem_range.2 hb) hm,h.pub⟩
def MP.since (κ1:Gh) (w1:World):MP:=⟨fun κ w => ∃M,Ext M κ1 w1 κ w,fun {_ κ w _ _} e ⟨_,h⟩=>⟨List.range w1.heap.size++List.range w.heap.size,by
 refine (h.all.weaken fun b hb _=>List.mem_append.2 (.inl hb)).trans (e.all.weaken fun b hb _=>List.mem_append.2 (.inr hb))⟩⟩
def MP.old (p:Option Addr) (w1:World):MP:=MP.const (∀a,p=some a→w1.heap.size≤a.block)
section
variable {ro:Option Nat}{P:Program}{ops:Array Oper}{Q:Exit→Act→World→Prop}{N:Nat}{D:List Deferred}{L L':FL}{a:Act}{w:World}{o:Oper}{K:Act→World→Prop}
variable {κ0 κ:Gh}{w0:World}{C C':List Ck}{R R' R0 Ra Rb:List MP}
theorem snap {M:List Nat} {G:Prop} (hS:SS M κ0 w0 κ w C R) (k : ∀κ1 w1,(∀m∈R,m.p κ1 w1)→Fresh κ1 w1→w0.heap.size≤w1.heap.size→w1.heap.size=w.heap.size→SS M κ0 w0 κ w C (MP.since κ1 w1::R)→G):G:=
 k κ w hS.ro hS.fresh hS.ext.size rfl (hS.add (m:=MP.since κ w) ⟨[],Ext.refl _ _ _⟩)
end
section
variable {ro:Option Nat}{P:Program}{ops:Array Oper}{Q:Exit→Act→World→Prop}{N:Nat}{D:List Deferred}{L L':FL}{a:Act}{w:World}{o:Oper}{K:Act→World→Prop}
variable {M:List Nat}{κ0 κ:Gh}{w0:World}{C C':List Ck}{R R':List MP}
end
section
variable {P:Program}{L:FL}{o:Oper}
end
section
variable {ro:Option Nat}{P:Program}{ops:Array Oper}{Q:Exit→Act→World→Prop}{N:Nat}{D:List Deferred}{L L':FL}{a:Act}{w:World}{o:Oper}{K:Act→World→Prop}
variable {M:List Nat}{κ0 κ:Gh}{w0:World}{C C':List Ck}{R R':List MP}
theorem blksOf_set : ∀ {C:List Ck}{i:Nat}{x y:Ck},C[i]? = some x→y.blks=x.blks→blksOf (C.set i y)=blksOf C
 | [],_,_,_,h,_=>by simp at h
 | c::C,0,x,y,h,hb=>by
  simp only [List.getElem?_cons_zero,Option.some.injEq] at h
  subst h
  simp [blksOf,hb]
 | c::C,i+1,x,y,h,hb=>by
  simp only [List.getElem?_cons_succ] at h
  have:=blksOf_set h hb
  simp only [blksOf] at this
  simp [blksOf,this]
theorem SS.reck (h:SS M κ0 w0 κ w C R) (i:Nat) {x y:Ck} (hi:C[i]? = some x) (hb:y.blks=x.blks) (hok:y.ok κ w):SS M κ0 w0 κ w (C.set i y) R:=by
 have hbo:=blksOf_set hi hb
 refine ⟨h.ext,h.fresh,fun c hc=>?_,fun b hm=>h.lt b (hbo▸hm),hbo▸h.nd,fun b hm=>h.own b (hbo▸hm),h.ro⟩
 rcases List.mem_or_eq_of_mem_set hc with hc|rfl
 ·exact h.ok c hc
 ·exact hok
theorem wo_sliceP (hF:Fr N D L a)(hS:SS M κ0 w0 κ w C R)(hc:okOp N L o=true){α:Type}{t:Ty α}(ri:Nat){T E n c:Nat}{p:Option Addr}{l l':List α}{lo hi:Int}{x:Operand}{xl xh:Option Operand}(hop:o.op = .slice T x xl xh none)(hR:R[ri]? = some (Ro.mp t p c l))
  (hx:ev L x=some (.slice p n c)) (hn:n=l.length) (hlo:match xl with|some y => ∃k,ev L y=some (.int k lo)|none=>lo=0) (hhi:match xh with|some y => ∃k,ev L y=some (.int k hi)|none=>hi=l.length)
  (hs:slc l lo hi=some l') (hu:pureRun P (underlying T)=some (.slice E)) (hsz:pureRun P (sizeOf E)=some t.size)
  (kk : ∀p' c' a',p'=(if c=lo.toNat then p else p.map (·.add (lo.toNat*t.size)))→c'=c-lo.toNat→Fr N D (upd L o.dst (.slice p' l'.length c')) a'→SS M κ0 w0 κ w C (Ro.mp t p' c' l'::R)→K a' w):wo ro P o a w K Q:=by
 obtain ⟨h0,h1,h2,rfl⟩:=slc_some hs
 subst hn
 have hRo:Ro t κ w p c l:=hS.get ri hR
 have hlc:l.length≤c:=hRo.1
 have hlen:((l.take hi.toNat).drop lo.toNat).length=hi.toNat-lo.toNat:=by simp; omega
 have hrun:(Instr.sliceAt T (.slice p l.length c) (xl.map (evD L)) (xh.map (evD L)) none).run P w = .ok (.slice (if c=lo.toNat then p else p.map (·.add (lo.toNat*t.size))) (hi.toNat-lo.toNat) (c-lo.toNat)) w:=by
  cases xl with
  | none=>
   subst hlo
   cases xh with
   | none=>subst hhi; simp [Instr.sliceAt,Instr.slice,Instr.sliceBounds,run_underlying' hu,pureRun_run _ hsz w]
   | some y=>
    obtain ⟨k,hk⟩:=hhi
    have:hi≤(c:Int):=by omega
    simp [Instr.sliceAt,Instr.slice,Instr.sliceBounds,Instr.sliceBound,asIntOf,run_underlying' hu,pureRun_run _ hsz w,evD,hk,h1,this]
  | some z=>
   obtain ⟨kz,hkz⟩:=hlo
   cases xh with
   | none=>
    subst hhi
    simp [Instr.sliceAt,Instr.slice,Instr.sliceBounds,Instr.sliceBound,asIntOf,run_underlying' hu,pureRun_run _ hsz w,evD,hkz,h0,h1]
   | some y=>
    obtain ⟨k,hk⟩:=hhi
    have h3:hi≤(c:Int):=by omega
    have h4:0≤hi:=by omega
    have h5:lo≤max hi 0:=by omega
    simp [Instr.sliceAt,Instr.slice,Instr.sliceBounds,Instr.sliceBound,asIntOf,run_underlying' hu,pureRun_run _ hsz w,evD,hk,hkz,h0,h3,h4,h5]
 have hval:(execOp (evD L) o).run P w = .ok (.value (.slice (if c=lo.toNat then p else p.map (·.add (lo.toNat*t.size))) ((l.take hi.toNat).drop lo.toNat).length (c-lo.toNat))) w:=by
  have hev:evD L x = .slice p l.length c:=by simp [evD,hx]
  simp only [execOp,hop,hev,Option.map_none]
  rw [hlen]
  simp [hrun]
 refine wo_val hF hc hval fun a' hF'=>kk _ _ a' rfl rfl hF' (hS.add ?_)
 show Ro t κ w _ _ _
 refine ⟨by rw [hlen]; omega,by have:=hRo.2.1; omega,?_⟩
 rcases hRo.2.2 with ⟨rfl,rfl⟩ | ⟨b,off,m,rfl,hk,hm,hcell⟩
 ·exact .inl ⟨by simp,by omega⟩
 ·by_cases hcl:c=lo.toNat
  ·rw [if_pos hcl]
   have hz:hi.toNat-lo.toNat=0:=by omega
   have hnil:(l.take hi.toNat).drop lo.toNat=[]:=List.eq_nil_of_length_eq_zero (by rw [hlen]; exact hz)
   rw [hnil]
   exact .inr ⟨b,off,m,rfl,hk,by simp; omega,fun i x hi=>by simp at hi⟩
  ·rw [if_neg hcl]
   refine .inr ⟨b,off+lo.toNat*t.size,m,by simp [add_off],hk,?_,fun i x hi'=>?_⟩
   ·rw [hlen,Nat.add_assoc,← Nat.add_mul]
    have:(lo.toNat+(hi.toNat-lo.toNat))*t.size≤l.length*t.size:=Nat.mul_le_mul_right _ (by omega)
    omega
   ·rw [List.getElem?_drop,List.getElem?_take] at hi'
    split at hi'
    ·obtain ⟨cs,hr,hcs⟩:=hcell _ x hi'
     refine ⟨cs,hr,fun j v hj=>?_⟩
     have:=hcs j v hj
     rw [Nat.add_mul] at this
     rwa [show off+lo.toNat*t.size+i*t.size+j=off+(lo.toNat*t.size+i*t.size)+j from by omega]
    ·cases hi'
theorem wo_sliceTok (hF:Fr N D L a)(hS:SS M κ0 w0 κ w C R)(hc:okOp N L o=true){α:Type}{t:Ty α}(ri ci:Nat){T E n c:Nat}{p:Option Addr}{l l':List α}{lo:Int}{x y:Operand}{kd:IntKind}(hop:o.op = .slice T x (some y) none none)(hR:R[ri]? = some (Ro.mp t p c l))(hC:C[ci]? = some (.tok p E t.size n c))
  (hx:ev L x=some (.slice p n c)) (hn:n=l.length) (hy:ev L y=some (.int kd lo))
  (hs:slc l lo l.length=some l') (hu:pureRun P (underlying T)=some (.slice E)) (hsz:pureRun P (sizeOf E)=some t.size)
  (kk : ∀p' c' a',Fr N D (upd L o.dst (.slice p' l'.length c')) a'→SS M κ0 w0 κ w (C.set ci (.tok p' E t.size l'.length c')) (Ro.mp t p' c' l'::R)→K a' w):wo ro P o a w K Q:=by
 refine wo_sliceP hF hS hc ri hop hR hx hn ⟨_,hy⟩ (hi:=(l.length:Int)) rfl hs hu hsz fun p' c' a' hp' hc' hF' hS'=>kk p' c' a' hF' (hS'.reck ci hC ?_ ?_)
 ·subst hp'
  split
  ·cases p<;>rfl
  ·cases p with
   | none=>rfl
   | some a=>
    show [(a.add _).block]=[a.block]
    unfold Addr.add
    split<;>rfl
 ·obtain ⟨h0,h1,h2,rfl⟩:=slc_some hs
  have htok:=hS.ck ci hC
  have hRo:Ro t κ w p c l:=hS.get ri hR
  have hlc:l.length≤c:=hRo.1
  have hl':((l.take (l.length:Int).toNat).drop lo.toNat).length=l.length-lo.toNat:=by simp
  rw [hl']
  subst hn hp' hc'
  rcases htok with ⟨g1,g2⟩ | ⟨b,off,cells,rfl,hk,hle,hcm,hheap,hcs⟩
  ·exact .inl ⟨by omega,by omega⟩
  ·by_cases hcl:c=lo.toNat
   ·exact .inl ⟨by omega,by omega⟩
   ·rw [if_neg hcl]
    have e1:lo.toNat*t.size+(l.length-lo.toNat)*t.size=l.length*t.size:=by rw [← Nat.add_mul]; congr 1; omega
    have e2:lo.toNat*t.size+(c-lo.toNat)*t.size=c*t.size:=by rw [← Nat.add_mul]; congr 1; omega
    exact .inr ⟨b,off+lo.toNat*t.size,cells,by simp [add_off],by rw [hk]; congr 1; omega,by omega,by omega,hheap,by omega⟩
end
end Go.Cf
namespace Go.Cf
open Go
def MP.cells (b k:Nat) (cs:List Value):MP:=⟨fun κ w => ∃n,κ b=some n∧k+cs.length≤n ∧ ∀j v,cs[j]? = some v→w.cell? ⟨b,k+j,none⟩=some v,fun {_ κ w κ' w'} e ⟨n,h1,h2,h3⟩=>by
 obtain ⟨n',k1,k2,k3⟩:=e.pub b n h1
 refine ⟨n',k1,Nat.le_trans h2 k2,fun j v hj=>?_⟩
 have:=(List.getElem?_eq_some_iff.1 hj).1
 rw [k3 _ (by omega)]
 exact h3 j v hj⟩
section
variable {P:Program}{w:World}{L:FL}{o:Oper}{M:List Nat}{κ0 κ:Gh}{w0:World}{C:List Ck}{R:List MP}
end
section
variable {P:Program}{L:FL}{o:Oper}
end
section
variable {ro:Option Nat}{P:Program}{ops:Array Oper}{Q:Exit→Act→World→Prop}{S:World→Prop}{tl:List Nat}{N:Nat}{D:List Deferred}{L:FL}{a:Act}{w:World}{m:Nat}{listed:Array Bool}
def OpH (ro:Option Nat) (P:Program) (ops:Array Oper) (Q:Exit→Act→World→Prop) (S:World→Prop) (tl:List Nat) (m:Nat) (listed:Array Bool) (i:Nat) (a:Act) (w:World):Prop:=
 wpOpIn (FW ro) 0 P ops Q i (fun a' w'=>(early tl (listed.setIfInBounds i true)=true→S w')∧AnyH ro P ops Q S tl (m-1) (listed.setIfInBounds i true) a' w') a w
theorem op_go (i:Nat){o:Oper}(hF:Fr N D L a)(hi:ops[i]? = some o)
  (h:wo ro P o a w (fun a' w'=>(early tl (listed.setIfInBounds i true)=true→S w')∧AnyH ro P ops Q S tl (m-1) (listed.setIfInBounds i true) a' w') Q)
  (hg:goes ops L o=some true:=by kernel_rfl):OpH ro P ops Q S tl m listed i a w:=by
 unfold OpH wpOpIn
 simp only [hi]
 rw [if_pos (goes_wanted hF hg)]
 exact h
def AllOps (X:Nat→Prop):List Nat→Prop
 | []=>True
 | i::l=>X i∧AllOps X l
theorem allOps_mem {X:Nat→Prop} : ∀ {l:List Nat},AllOps X l → ∀i∈l,X i
 | _::_,h,i,hi=>(List.mem_cons.1 hi).elim (fun e=>e▸h.1) (fun hi=>allOps_mem h.2 i hi)
theorem agn (is:List Nat) (h:AllOps (fun i=>OpH ro P ops Q S tl m listed i a w) is) (hr:Region.ready md ops listed=is:=by kernel_rfl) (hne:is.isEmpty=false:=by rfl) (hm:Nat.ble 1 m=true:=by kernel_rfl):AnyH ro P ops Q S tl m listed a w:=by
 obtain ⟨f,rfl⟩ : ∃f,m=f+1:=⟨m-1,by have:=Nat.le_of_ble_eq_true hm; omega⟩
 exact ⟨fun h0=>by rw [hr] at h0; subst h0; simp at hne,fun i hi=>allOps_mem h i (by rw [← hr]; exact hi)⟩
end
section
variable {ro:Option Nat}{P:Program}{ops:Array Oper}{Q:Exit→Act→World→Prop}{S:World→Prop}{tl:List Nat}{N:Nat}{D:List Deferred}{L:FL}{a:Act}{w:World}{m:Nat}{listed:Array Bool}{o:Oper}{K:Act→World→Prop}
variable {M:List Nat}{κ0 κ:Gh}{w0:World}{C:List Ck}{R:List MP}
abbrev pk (C:List Ck) (is:List Nat):List Ck:=is.filterMap fun i=>C[i]?
theorem wcS (k:Nat)(is:List Nat)(hF:Fr N D L a)(hS:SS M κ0 w0 κ w C R){f:FuncId}{args:Array Value}{φ:Value→Gh→World→Prop}
  (hcall:SS (blksOf ((pk C is).take k)) κ w κ w ((pk C is).take k) R→Calls P f args w (Post (blksOf ((pk C is).take k)) κ w φ))
  (kk : ∀v κ' w' a',φ v κ' w'→Fr N D (upd L o.dst v) a'→(∀Cout Rout,SS (blksOf ((pk C is).take k)) κ w κ' w' Cout Rout→SS M κ0 w0 κ' w' (Cout++(pk C is).drop k) (Rout++R))→K a' w')
  (hn:is.Nodup:=by decide) (hc:okOp N L o=true:=by kernel_rfl) (hr:pureRun P (execOp (evD L) o)=some (.enter f args):=by kernel_rfl):wo ro P o a w K Q:=by
 have h1:SS M κ0 w0 κ w ((pk C is).take k++(pk C is).drop k) R:=by rw [List.take_append_drop]; exact hS.selp is hn (selG_eq _ _)
 exact wo_callS hF h1 hc hr hcall kk
end
structure SB (M:List Nat)(κ:Gh)(w:World)(C:List Ck)(R:List MP):Prop where
 hM:M=blksOf C
 hS:SS M κ w κ w C R
end Go.Cf
namespace Go.Cf
open Go
theorem bl_irrefl : ∀l:List UInt8,Op.bytesLess l l=false:=fun l=>by
 induction l with
 | nil=>rfl
 | cons a l ih=>simp [Op.bytesLess,ih]
theorem bl_total : ∀a b:List UInt8,(!Op.bytesLess a b)=(Op.bytesLess b a||b==a):=fun a=>by
 induction a with
 | nil=>intro b; cases b<;>simp [Op.bytesLess]
 | cons x a ih=>
  intro b
  cases b with
  | nil=>simp [Op.bytesLess]
  | cons y b=>
   have hih:=ih b
   simp only [Op.bytesLess]
   rcases Nat.lt_trichotomy x.toNat y.toNat with h|h|h
   ·have h1:x<y:=h
    have h2 : ¬y<x:=fun h3=>by have:y.toNat<x.toNat:=h3; omega
    have h3:x≠y:=fun e=>by subst e; omega
    simp [h1,h2,h3,Ne.symm h3]
   ·have h0:x=y:=UInt8.toNat_inj.1 h
    subst h0
    have h2 : ¬x<x:=fun h3=>by have:x.toNat<x.toNat:=h3; omega
    simp only [h2,decide_false,Bool.false_or,beq_self_eq_true,Bool.true_and,hih,List.cons_beq_cons]
   ·have h1:y<x:=h
    have h2 : ¬x<y:=fun h3=>by have:x.toNat<y.toNat:=h3; omega
    have h3:x≠y:=fun e=>by subst e; omega
    simp [h1,h2,h3,Ne.symm h3]
theorem bl_nil (a:List UInt8):Op.bytesLess a []=false:=by cases a<;>rfl
end Go.Cf
namespace Go.Cf
open Go
end Go.Cf
namespace Go.Cf
open Go Go.MapKept
def tSl {α:Type} (t:Ty α):Ty (List α):=
 Ty.of (H:=Option Addr×Nat) 1 (fun h x=>[(1,[.slice h.1 x.length h.2])]) (fun h x=>[Ro.mp t h.1 h.2 x]) (fun _ _ _ _ _=>sgV rfl sgNil) (fun _ _=>rfl)
theorem ztSl {α:Type} (t:Ty α) (κ:Gh) (w:World):(tSl t).rep κ w (flat [(1,[.slice none 0 0])]) []:=
 ⟨(none,0),rfl,fun m hm=>by simp only [List.mem_cons,List.not_mem_nil,or_false] at hm; subst hm; exact Ro.nil _ _ _⟩
abbrev Mp (K V:Type):=Option (List (K×V))
class KO (K:Type) where
 lt:K→K→Bool
 irr : ∀a,lt a a=false
 tr : ∀a b c,lt a b=true→lt b c=true→lt a c=true
 tot : ∀a b,a≠b→lt a b=true∨lt b a=true
theorem bl_tr : ∀a b c:List UInt8,Op.bytesLess a b=true→Op.bytesLess b c=true→Op.bytesLess a c=true:=fun a=>by
 induction a with
 | nil=>
  intro b c h1 h2
  cases c with
  | nil=>rw [bl_nil] at h2; cases h2
  | cons z c=>rfl
 | cons x a ih=>
  intro b c h1 h2
  cases b with
  | nil=>rw [bl_nil] at h1; cases h1
  | cons y b=>
   cases c with
   | nil=>rw [bl_nil] at h2; cases h2
   | cons z c=>
    simp only [Op.bytesLess,Bool.or_eq_true,decide_eq_true_eq,Bool.and_eq_true,beq_iff_eq] at h1 h2 ⊢
    rcases h1 with h1 | ⟨rfl,h1⟩
    ·rcases h2 with h2 | ⟨rfl,h2⟩
     ·exact .inl (Nat.lt_trans (show x.toNat<y.toNat from h1) (show y.toNat<z.toNat from h2))
     ·exact .inl h1
    ·rcases h2 with h2 | ⟨rfl,h2⟩
     ·exact .inl h2
     ·exact .inr ⟨rfl,ih _ _ h1 h2⟩
theorem ba_toList_inj {a b:ByteArray} (h:a.toList=b.toList):a=b:=by
 have h1:a.data.toList=b.data.toList:=by rw [← ByteArray.toList_eq,← ByteArray.toList_eq,h]
 cases a; cases b
 simpa using h1
instance:KO ByteArray where
 lt:=sLt
 irr a:=bl_irrefl _
 tr a b c:=bl_tr _ _ _
 tot a b h:=by
  have h1:=bl_total a.toList b.toList
  cases h2:Op.bytesLess a.toList b.toList
  ·rw [h2] at h1
   simp only [Bool.not_false,Bool.true_eq,Bool.or_eq_true,beq_iff_eq] at h1
   rcases h1 with h1|h1
   ·exact .inr h1
   ·exact absurd (ba_toList_inj h1).symm h
  ·exact .inl h2
instance:KO Int where
 lt a b:=decide (a<b)
 irr a:=by simp
 tr a b c h1 h2:=by simp only [decide_eq_true_eq] at *; omega
 tot a b h:=by simp only [decide_eq_true_eq]; omega
section
variable {K V:Type} [DecidableEq K]
def lFind (l:List (K×V)) (k:K):Option V:=(l.find? fun p=>decide (p.1=k)).map (·.2)
def rPut (l:List (K×V)) (k:K) (v:V):List (K×V):=if (lFind l k).isSome then l.map (fun p=>if p.1=k then (k,v) else p) else l++[(k,v)]
def lDel (l:List (K×V)) (k:K):List (K×V):=l.filter fun p=>decide (p.1≠k)
def lPut [KO K]:List (K×V)→K→V→List (K×V)
 | [],k,v=>[(k,v)]
 | x::l,k,v=>if x.1=k then (k,v)::l else if KO.lt k x.1 then (k,v)::x::l else x::lPut l k v
def Srt [KO K] (l:List (K×V)):Prop:=l.Pairwise fun x y=>KO.lt x.1 y.1=true
def mGet (m:Mp K V) (k:K):Option V:=m.bind fun l=>lFind l k
def mgt (m:Mp K V) (k:K) (z:V):Option (V×Bool):=some ((mGet m k).getD z,(mGet m k).isSome)
def mPut [KO K] (m:Mp K V) (k:K) (v:V):Option (Mp K V):=m.map fun l=>some (lPut l k v)
def mSet [KO K] (m:Mp K V) (k:K) (v:V):Option (Mp K V):=if (mGet m k).isSome then mPut m k v else none
def mDel (m:Mp K V) (k:K):Mp K V:=m.map fun l=>lDel l k
def cands (m:Mp K V) (left:List K):List (K×V):=(m.getD []).filter fun p=>decide (p.1∈left)
def mKeys (m:Mp K V):List K:=(m.getD []).map (·.1)
def kRem (left:List K) (k:K):List K:=left.filter fun x=>decide (x≠k)
theorem lFind_none {l:List (K×V)} {k:K}:lFind l k=none ↔ ∀p∈l,p.1≠k:=by
 simp [lFind,List.find?_eq_none]
theorem lFind_at {l:List (K×V)} (hn:(l.map (·.1)).Nodup) {j:Nat} {x:K×V} (h:l[j]? = some x):lFind l x.1=some x.2:=by
 induction l generalizing j with
 | nil=>simp at h
 | cons y l ih=>
  simp only [List.map_cons,List.nodup_cons] at hn
  cases j with
  | zero=>simp only [List.getElem?_cons_zero,Option.some.injEq] at h; subst h; simp [lFind]
  | succ j=>
   simp only [List.getElem?_cons_succ] at h
   have hne:y.1≠x.1:=fun e=>hn.1 (e▸List.mem_map.2 ⟨x,List.mem_of_getElem? h,rfl⟩)
   have:=ih hn.2 h
   simp only [lFind] at this ⊢
   rw [List.find?_cons_of_neg (by simpa using hne)]
   exact this
theorem lFind_some {l:List (K×V)} {k:K} {v:V} (h:lFind l k=some v):(k,v)∈l:=by
 simp only [lFind,Option.map_eq_some_iff] at h
 obtain ⟨p,hp,rfl⟩:=h
 have h1:=List.find?_some hp
 simp only [decide_eq_true_eq] at h1
 subst h1
 exact List.mem_of_find?_eq_some hp
theorem rPut_old {l:List (K×V)} (hn:(l.map (·.1)).Nodup) {j:Nat} {x:K×V} (h:l[j]? = some x) (v:V):rPut l x.1 v=l.set j (x.1,v):=by
 unfold rPut
 rw [if_pos (by rw [lFind_at hn h]; rfl)]
 apply List.ext_getElem?
 intro i
 rw [List.getElem?_map,List.getElem?_set]
 by_cases e:j=i
 ·subst e
  rw [h]
  simp [(List.getElem?_eq_some_iff.1 h).1]
 ·rw [if_neg e]
  cases hi:l[i]? with
  | none=>rfl
  | some y=>
   have:y.1≠x.1:=fun q=>e (by
    have h1:(l.map (·.1))[i]? = some x.1:=by rw [List.getElem?_map,hi]; simp [q]
    have h2:(l.map (·.1))[j]? = some x.1:=by rw [List.getElem?_map,h]; rfl
    exact (List.getElem?_inj (by rw [List.length_map]; exact (List.getElem?_eq_some_iff.1 h).1) hn).1 (h2.trans h1.symm))
   simp [this]
theorem rPut_new {l:List (K×V)} {k:K} (h:lFind l k=none) (v:V):rPut l k v=l++[(k,v)]:=by unfold rPut; rw [h]; rfl
theorem lDel_none {l:List (K×V)} {k:K} (h:lFind l k=none):lDel l k=l:=by
 unfold lDel
 rw [List.filter_eq_self]
 intro p hp
 simpa using lFind_none.1 h p hp
theorem lDel_old {l:List (K×V)} (hn:(l.map (·.1)).Nodup) {j:Nat} {x:K×V} (h:l[j]? = some x):lDel l x.1=l.eraseIdx j:=by
 induction l generalizing j with
 | nil=>simp at h
 | cons y l ih=>
  simp only [List.map_cons,List.nodup_cons] at hn
  cases j with
  | zero=>
   simp only [List.getElem?_cons_zero,Option.some.injEq] at h; subst h
   have:lFind l y.1=none:=lFind_none.2 fun p hp e=>hn.1 (e▸List.mem_map.2 ⟨p,hp,rfl⟩)
   simpa [lDel] using lDel_none this
  | succ j=>
   simp only [List.getElem?_cons_succ] at h
   have hne:y.1≠x.1:=fun e=>hn.1 (e▸List.mem_map.2 ⟨x,List.mem_of_getElem? h,rfl⟩)
   have:=ih hn.2 h
   simp only [lDel] at this ⊢
   rw [List.filter_cons_of_pos (by simpa using hne),this]
   rfl
theorem rPut_find (l:List (K×V)) (k:K) (v:V) (k':K):lFind (rPut l k v) k'=if k'=k then some v else lFind l k':=by
 unfold rPut
 cases h:lFind l k with
 | none=>
  rw [if_neg (by simp)]
  simp only [lFind,List.find?_append]
  by_cases e:k'=k
  ·subst e
   have:l.find? (fun p=>decide (p.1=k'))=none:=by simpa [lFind] using h
   simp [this]
  ·rw [if_neg e]
   have:([(k,v)].find? fun p=>decide (p.1=k'))=none:=by simp [Ne.symm e]
   rw [this,Option.or_none]
 | some u=>
  have hin : ∀l:List (K×V),(lFind l k).isSome=true→lFind (l.map fun p=>if p.1=k then (k,v) else p) k'=if k'=k then some v else lFind l k':=fun l=>by
   induction l with
   | nil=>intro h; cases h
   | cons x l ih=>
    intro h
    simp only [lFind,List.map_cons] at ih h ⊢
    by_cases e:x.1=k
    ·by_cases e':k'=k
     ·subst e'; simp [e]
     ·rw [if_pos e,if_neg e',List.find?_cons_of_neg (by simpa using Ne.symm e'),List.find?_cons_of_neg (by rw [e]; simpa using Ne.symm e')]
      clear ih h
      induction l with
      | nil=>rfl
      | cons y l ih=>
       simp only [List.map_cons]
       by_cases e2:y.1=k
       ·rw [if_pos e2,List.find?_cons_of_neg (by simpa using Ne.symm e'),List.find?_cons_of_neg (by rw [e2]; simpa using Ne.symm e')]; exact ih
       ·rw [if_neg e2]
        by_cases e3:y.1=k'
        ·rw [List.find?_cons_of_pos (by simpa using e3),List.find?_cons_of_pos (by simpa using e3)]
        ·rw [List.find?_cons_of_neg (by simpa using e3),List.find?_cons_of_neg (by simpa using e3)]; exact ih
    ·rw [if_neg e]
     rw [List.find?_cons_of_neg (by simpa using e)] at h
     by_cases e3:x.1=k'
     ·rw [List.find?_cons_of_pos (by simpa using e3),List.find?_cons_of_pos (by simpa using e3),if_neg (fun q=>e (e3.trans q))]
     ·rw [List.find?_cons_of_neg (by simpa using e3),List.find?_cons_of_neg (by simpa using e3)]; exact ih h
  rw [if_pos (show (some u).isSome=true from rfl)]
  exact hin l (by rw [h]; rfl)
theorem lDel_find (l:List (K×V)) (k k':K):lFind (lDel l k) k'=if k'=k then none else lFind l k':=by
 induction l with
 | nil=>simp [lDel,lFind]
 | cons x l ih=>
  simp only [lDel,lFind,List.filter_cons] at ih ⊢
  by_cases e:x.1=k
  ·simp only [e,ne_eq,not_true_eq_false,decide_false,Bool.false_eq_true,if_false]
   rw [ih]
   by_cases e':k'=k
   ·simp [e']
   ·rw [if_neg e',if_neg e',List.find?_cons_of_neg (by simp [e,Ne.symm e'])]
  ·simp only [ne_eq,e,not_false_eq_true,decide_true,if_true]
   by_cases e':x.1=k'
   ·subst e'
    rw [List.find?_cons_of_pos (by simp),List.find?_cons_of_pos (by simp),if_neg e]
   ·rw [List.find?_cons_of_neg (by simpa using e'),List.find?_cons_of_neg (by simpa using e'),ih]
section
variable [KO K]
theorem lPut_find (l:List (K×V)) (k:K) (v:V) (k':K):lFind (lPut l k v) k'=if k'=k then some v else lFind l k':=by
 induction l with
 | nil=>
  by_cases e:k'=k
  ·subst e; simp [lPut,lFind]
  ·simp [lPut,lFind,e,Ne.symm e]
 | cons x l ih=>
  simp only [lPut]
  split
  ·rename_i h
   by_cases e:k'=k
   ·subst e; simp [lFind]
   ·have h1:x.1≠k':=fun q=>e (q.symm.trans h)
    simp [lFind,e,Ne.symm e,h1]
  ·rename_i h
   split
   ·by_cases e:k'=k
    ·subst e; simp [lFind]
    ·simp only [lFind,if_neg e]
     rw [List.find?_cons_of_neg (by simpa using Ne.symm e)]
   ·by_cases e:x.1=k'
    ·have:k'≠k:=fun q=>h (e.trans q)
     simp [lFind,e,this]
    ·simp only [lFind] at ih ⊢
     rw [List.find?_cons_of_neg (by simpa using e),List.find?_cons_of_neg (by simpa using e),ih]
theorem lPut_mem {l:List (K×V)} {k:K} {v:V} {x:K×V} (h:x∈lPut l k v):x=(k,v)∨x∈l:=by
 induction l with
 | nil=>simp [lPut] at h; exact .inl h
 | cons y l ih=>
  simp only [lPut] at h
  split at h
  ·rcases List.mem_cons.1 h with h|h
   ·exact .inl h
   ·exact .inr (List.mem_cons_of_mem _ h)
  ·split at h
   ·rcases List.mem_cons.1 h with h|h
    ·exact .inl h
    ·exact .inr h
   ·rcases List.mem_cons.1 h with rfl|h
    ·exact .inr (List.mem_cons_self ..)
    ·rcases ih h with h|h
     ·exact .inl h
     ·exact .inr (List.mem_cons_of_mem _ h)
theorem lPut_srt {l:List (K×V)} (h:Srt l) (k:K) (v:V):Srt (lPut l k v):=by
 induction l with
 | nil=>exact List.pairwise_singleton _ _
 | cons x l ih=>
  obtain ⟨h1,h2⟩:=List.pairwise_cons.1 h
  simp only [lPut]
  split
  ·rename_i e
   exact List.pairwise_cons.2 ⟨fun y hy=>by rw [← e]; exact h1 y hy,h2⟩
  ·rename_i e
   split
   ·rename_i q
    refine List.pairwise_cons.2 ⟨fun y hy=>?_,h⟩
    rcases List.mem_cons.1 hy with rfl|hy
    ·exact q
    ·exact KO.tr _ _ _ q (h1 y hy)
   ·rename_i q
    refine List.pairwise_cons.2 ⟨fun y hy=>?_,ih h2⟩
    rcases lPut_mem hy with rfl|hy
    ·rcases KO.tot _ _ e with h|h
     ·exact h
     ·exact absurd h q
    ·exact h1 y hy
omit [DecidableEq K] in
theorem lDel_srt [DecidableEq K] {l:List (K×V)} (h:Srt l) (k:K):Srt (lDel l k):=List.Pairwise.sublist List.filter_sublist h
omit [DecidableEq K] in
theorem Srt.nodup {l:List (K×V)} (h:Srt l):(l.map (·.1)).Nodup:=by
 refine List.Pairwise.map _ (fun x y hxy e=>?_) h
 rw [e,KO.irr] at hxy; cases hxy
omit [KO K] in
theorem keys_of {l l':List (K×V)} (hn:(l.map (·.1)).Nodup) (hn':(l'.map (·.1)).Nodup) (h : ∀k,lFind l k=lFind l' k):l.Perm l':=by
 have nd : ∀ {l:List (K×V)},(l.map (·.1)).Nodup→l.Nodup:=fun h=>List.Pairwise.of_map _ (fun a b h e=>h (by rw [e])) h
 have sub : ∀ {l l':List (K×V)},(l.map (·.1)).Nodup→(∀k,lFind l k=lFind l' k) → ∀x∈l,x∈l':=fun {l l'} hn h x hx=>by
  obtain ⟨j,hj⟩:=List.mem_iff_getElem?.1 hx
  have:=lFind_at hn hj
  rw [h] at this
  exact lFind_some this
 exact (List.perm_ext_iff_of_nodup (nd hn) (nd hn')).2 fun x=>⟨sub hn h x,sub hn' (fun k=>(h k).symm) x⟩
theorem Srt.ext {l l':List (K×V)} (h:Srt l) (h':Srt l') (hf : ∀k,lFind l k=lFind l' k):l=l':=by
 have hp:=keys_of h.nodup h'.nodup hf
 unfold Srt at h h'
 exact List.Perm.eq_of_pairwise (fun a b _ _ (h1:KO.lt a.1 b.1=true) (h2:KO.lt b.1 a.1=true)=>absurd (KO.tr _ _ _ h1 h2) (by rw [KO.irr]; exact Bool.false_ne_true)) h h' hp
end
end
noncomputable def allAgree {α β:Type} (l:List α) (f:α→Option β):Option β:=
 open Classical in match l with
 | []=>none
 | a::l=>if ∀b∈l,f b=f a then f a else none
theorem allAgree_some {α β:Type} {l:List α} {f:α→Option β} {r:β} (h:allAgree l f=some r) : ∀a∈l,f a=some r:=by
 cases l with
 | nil=>intro a ha; cases ha
 | cons x l=>
  simp only [allAgree] at h
  split at h
  ·rename_i hall
   intro a ha
   rcases List.mem_cons.1 ha with rfl|ha
   ·exact h
   ·rw [hall a ha,h]
  ·cases h
theorem allAgree_mk {α β:Type} {l:List α} {f:α→Option β} {r:β} (hne:l≠[]) (h : ∀a∈l,f a=some r):allAgree l f=some r:=by
 cases l with
 | nil=>exact absurd rfl hne
 | cons x l=>
  simp only [allAgree]
  rw [if_pos (fun b hb=>by rw [h b (by simp [hb]),h x (by simp)])]
  exact h x (by simp)
structure KT (K:Type) where
 enc:K→Value
 desc:TypeDesc
 key : ∀k,IsKey desc (enc k)
 inj : ∀a b,enc a=enc b→a=b
def kStr:KT ByteArray:=⟨.string,.string,fun _=>trivial,fun _ _ h=>by cases h; rfl⟩
def kInt (q:IntKind):KT Int:=⟨.int q,.int q,fun _=>rfl,fun _ _ h=>by cases h; rfl⟩
def mkV (agg:Bool) (cs:List Value):Value:=if agg then .agg cs.toArray else cs.headD undef
structure LAt {K V:Type}(kt:KT K)(agg:Bool)(t:Ty V)(κ:Gh)(w:World)(es:Array MapEntry)(clk:Nat)(l:List (K×V)):Prop where
 st:Stamped es clk
 keys:es.toList.map (·.key)=l.map fun x=>kt.enc x.1
 vals : ∀(i:Nat) e x,es.toList[i]? = some e→l[i]? = some x → ∃cs,e.val=mkV agg cs∧t.rep κ w cs x.2
def MapAt {K V:Type} [DecidableEq K] [KO K] (kt:KT K) (agg:Bool) (t:Ty V) (κ:Gh) (w:World) (p:Option Nat) (es:Array MapEntry) (clk:Nat) (m:Mp K V):Prop:=
 match m with
 | none=>p=none∧es = #[]
 | some l=>p.isSome=true∧Srt l ∧ ∃l0,LAt kt agg t κ w es clk l0 ∧ ∀k,lFind l0 k=lFind l k
def Map.mp {K V:Type} [DecidableEq K] [KO K] (kt:KT K) (agg:Bool) (t:Ty V) (p:Option Nat) (es:Array MapEntry) (clk:Nat) (m:Mp K V):MP:=
 ⟨fun κ w=>MapAt kt agg t κ w p es clk m,fun e h=>by
  cases m with
  | none=>exact h
  | some l=>
   obtain ⟨h1,hs,l0,h2,hf⟩:=h
   exact ⟨h1,hs,l0,⟨h2.st,h2.keys,fun i x y hx hy=>let ⟨cs,h1,h2⟩:=h2.vals i x y hx hy; ⟨cs,h1,t.mono e h2⟩⟩,hf⟩⟩
section
variable {K V:Type}{kt:KT K}{agg:Bool}{t:Ty V}{κ:Gh}{w:World}{es:Array MapEntry}{clk:Nat}{l:List (K×V)}
theorem LAt.len (h:LAt kt agg t κ w es clk l):es.toList.length=l.length:=by
 have:=congrArg List.length h.keys
 simpa using this
theorem LAt.keyAt (h:LAt kt agg t κ w es clk l) {i:Nat} {e:MapEntry} {x:K×V} (he:es.toList[i]? = some e) (hx:l[i]? = some x):e.key=kt.enc x.1:=by
 have:=congrArg (fun z=>z[i]?) h.keys
 simp only [List.getElem?_map,he,hx,Option.map_some,Option.some.injEq] at this
 exact this
theorem LAt.other (h:LAt kt agg t κ w es clk l) {i:Nat} {e:MapEntry} (he:es.toList[i]? = some e) : ∃x,l[i]? = some x:=
 ⟨l[i]'(by rw [← h.len]; exact (List.getElem?_eq_some_iff.1 he).1),List.getElem?_eq_getElem _⟩
theorem LAt.other' (h:LAt kt agg t κ w es clk l) {i:Nat} {x:K×V} (hx:l[i]? = some x) : ∃e,es.toList[i]? = some e:=
 ⟨es.toList[i]'(by rw [h.len]; exact (List.getElem?_eq_some_iff.1 hx).1),List.getElem?_eq_getElem _⟩
theorem LAt.isKey (h:LAt kt agg t κ w es clk l) : ∀e∈es.toList,IsKey kt.desc e.key:=fun e he=>by
 obtain ⟨i,hi⟩:=List.mem_iff_getElem?.1 he
 obtain ⟨x,hx⟩:=h.other hi
 rw [h.keyAt hi hx]; exact kt.key _
theorem LAt.nodup (h:LAt kt agg t κ w es clk l):(l.map (·.1)).Nodup:=by
 have h1:=h.st.2.2
 rw [h.keys] at h1
 have h2:l.map (fun x=>kt.enc x.1)=(l.map (·.1)).map kt.enc:=by simp
 rw [h2] at h1
 exact List.Pairwise.of_map kt.enc (fun a b h e=>h (by rw [e])) h1
variable [DecidableEq K]
theorem LAt.find (h:LAt kt agg t κ w es clk l)(k:K) :
  (Instr.findNow kt.desc (kt.enc k) es.toList 0=some none∧lFind l k=none ∧ ∀e∈es.toList,e.key≠kt.enc k) ∨
  ∃j e v cs,Instr.findNow kt.desc (kt.enc k) es.toList 0=some (some (j,e.val))∧es.toList[j]? = some e∧l[j]? = some (k,v)∧e.key=kt.enc k∧lFind l k=some v∧e.val=mkV agg cs∧t.rep κ w cs v:=by
 rcases findNow_spec (kt.key k) es.toList 0 h.isKey with ⟨h1,h2⟩ | ⟨j,e,h1,h2,h3⟩
 ·refine .inl ⟨h1,lFind_none.2 fun p hp hk=>?_,h2⟩
  obtain ⟨i,hi⟩:=List.mem_iff_getElem?.1 hp
  obtain ⟨e,he⟩:=h.other' hi
  exact h2 e (List.mem_of_getElem? he) (by rw [h.keyAt he hi,hk])
 ·obtain ⟨x,hx⟩:=h.other h2
  have hk:x.1=k:=kt.inj _ _ ((h.keyAt h2 hx).symm.trans h3)
  obtain ⟨cs,h4,h5⟩:=h.vals j e x h2 hx
  subst hk
  exact .inr ⟨j,e,x.2,cs,by simpa using h1,h2,hx,h3,lFind_at h.nodup hx,h4,h5⟩
end
theorem rgX {ro:Option Nat} {P:Program} {ops:Array Oper} {Q:Exit→Act→World→Prop} {a:Act} {w w0:World} {M:List Nat} {κ0 κ:Gh} {C:List Ck} {R:List MP} {id:Nat} (_hS:SS M κ0 w0 κ w C R) (is:List Nat) (h:AnyH ro P ops Q (SSx M κ0 w0 (pk C is) R) [] ops.size (Array.replicate ops.size false) a {w with drawn:=w.drawn+1}) (hm:P.follows .mixedOrders=true:=by kernel_rfl):(Code.region id ops true).wpIn (FW ro) 0 P Q a w:=
 region_any _ [] hm rfl rfl h
def nonCell:Obj→Bool
 | .cells .. => false
 | _=>true
def objX (p:Option Nat) (o:Obj):XF:=
 {
  bs:=p.toList
  p:=fun κ w => ∀b,p=some b→w.heap[b]? = some o∧κ b=none
  mono:=fun {M κ w κ' w'} e hb hp b hpb=>by
   obtain ⟨h1,h2⟩:=hb b (by simp [hpb])
   obtain ⟨k1,k2⟩:=e.keep b h1 h2
   obtain ⟨q1,q2⟩:=hp b hpb
   exact ⟨k1.trans q1,k2.trans q2⟩}
section
variable {M:List Nat}{κ0 κ:Gh}{w0 w:World}{C C':List Ck}{R R':List MP}
theorem SS.newObj (h:SS M κ0 w0 κ w C R) (o:Obj) (ho:nonCell o=true):SS M κ0 w0 κ (w.alloc o) (.ext (objX (some w.heap.size) o)::C) R:=by
 have hext:Ext [] κ w κ (w.alloc o):=
  ⟨rfl,rfl,rfl,by rw [size_alloc]; omega,fun b hb _=>⟨heap_alloc_old w o b hb,rfl⟩,fun b n hn=>⟨n,hn,Nat.le_refl _,fun i _=>cell_of_heap (heap_alloc_old w o b (by
   rcases Nat.lt_or_ge b w.heap.size with h'|h'
   ·exact h'
   ·rw [h.fresh b h'] at hn; cases hn))⟩⟩
 have h':=h.step hext (h.fresh.alloc o)
 have hb:blksOf (.ext (objX (some w.heap.size) o)::C)=w.heap.size::blksOf C:=rfl
 refine ⟨h'.ext,h'.fresh,fun c hc=>?_,fun b hb'=>?_,?_,fun b hb'=>?_,h'.ro⟩
 ·rcases List.mem_cons.1 hc with rfl|hc
  ·intro b hb'
   cases hb'
   exact ⟨heap_alloc_new _ _,h.fresh _ (Nat.le_refl _)⟩
  ·exact h'.ok c hc
 ·rw [hb] at hb'
  rcases List.mem_cons.1 hb' with rfl|hb'
  ·rw [size_alloc]; omega
  ·exact h'.lt b hb'
 ·rw [hb]
  exact List.nodup_cons.2 ⟨fun hm=>by have:=h.lt _ hm; omega,h.nd⟩
 ·rw [hb] at hb'
  rcases List.mem_cons.1 hb' with rfl|hb'
  ·exact .inl h.ext.size
  ·exact h.own b hb'
theorem SS.setObj (h:SS M κ0 w0 κ w C R)(i:Nat){b:Nat}{o:Obj}(hC:C[i]? = some (.ext (objX (some b) o)))(o':Obj)(ho:nonCell o=true)(ho':nonCell o'=true) :
  SS M κ0 w0 κ {w with heap:=w.heap.setIfInBounds b o'} (C.set i (.ext (objX (some b) o'))) R:=by
 obtain ⟨h1,h2⟩:=(h.ck i hC : ∀b',some b=some b'→_) b rfl
 have hlt:b<w.heap.size:=(Array.getElem?_eq_some_iff.1 h1).1
 have hoth : ∀b',b'≠b→({w with heap:=w.heap.setIfInBounds b o'}:World).heap[b']? = w.heap[b']? := fun b' hne=>by
  show (w.heap.setIfInBounds b _)[b']? = _
  rw [Array.getElem?_setIfInBounds_ne (Ne.symm hne)]
 have hme:({w with heap:=w.heap.setIfInBounds b o'}:World).heap[b]? = some o':=by
  show (w.heap.setIfInBounds b _)[b]? = _
  simp [hlt]
 have hext:Ext (Ck.ext (objX (some b) o)).blks κ w κ {w with heap:=w.heap.setIfInBounds b o'}:=
  ⟨rfl,rfl,rfl,by simp,fun b' _ hm=>⟨hoth b' (by simpa [Ck.blks,objX] using hm),rfl⟩,fun b' n hn=>⟨n,hn,Nat.le_refl _,fun k _=>cell_of_heap (hoth b' fun e=>by rw [e,h2] at hn; cases hn)⟩⟩
 obtain ⟨hCe,hCs⟩:=set_split (c' := .ext (objX (some b) o')) hC
 rw [hCs]
 refine h.turn _ _ hCe hext (fun b' hb'=>h.fresh b' (by simpa using hb')) (fun b' hb'=>?_) (fun b' hb' => .inl hb') (fun b' hb'=>?_) (by simp [Ck.blks,objX])
 ·cases hb'; exact ⟨hme,h2⟩
 ·simp [Ck.blks,objX] at hb'; subst hb'; simpa using hlt
end
section
variable {ro:Option Nat}{P:Program}{ops:Array Oper}{Q:Exit→Act→World→Prop}{N:Nat}{D:List Deferred}{L L':FL}{a:Act}{w:World}{o:Oper}{G:Act→World→Prop}
variable {M:List Nat}{κ0 κ:Gh}{w0:World}{C C':List Ck}{R R':List MP}
variable {K V:Type}{kt:KT K}{agg:Bool}{t:Ty V}{es:Array MapEntry}{clk:Nat}{p:Option Nat}{m:Mp K V} [DecidableEq K] [KO K]
theorem wo_makeMap (hF:Fr N D L a)(hS:SS M κ0 w0 κ w C R)(hc:okOp N L o=true)(kt:KT K)(agg:Bool)(t:Ty V){T:Nat}(hop:o.op = .makeMap T none)
  (kk : ∀b a' w',Fr N D (upd L o.dst (.map (some b))) a'→SS M κ0 w0 κ w' (.ext (objX (some b) (.map #[] 0))::C) (Map.mp kt agg t (some b) #[] 0 (some [])::R)→G a' w'):wo ro P o a w G Q:=by
 refine wo_val hF hc (v := .map (some w.heap.size)) (w':=w.alloc (.map #[] 0)) ?_ fun a' hF'=>kk _ a' _ hF' ((hS.newObj _ rfl).add ?_)
 ·simp only [execOp,hop]
  simp [Instr.makeMap,newObj]
  rfl
 ·exact ⟨rfl,List.Pairwise.nil,[],⟨stamped_empty 0,rfl,fun i e x he=>by simp at he⟩,fun k=>rfl⟩
theorem run_lookup {T KT E:Nat}{z:Value}{zc:List Value}{zm:V}{k:K}(c:Bool)(ht:P.underlying T=some (.map KT E))(hk:P.underlying KT=some kt.desc)(hz:(zeroValue E).run P w = .ok z w)(hzv:z=mkV agg zc)(hzr:t.rep κ w zc zm)
  (hm:MapAt kt agg t κ w p es clk m) (hb : ∀b,p=some b→w.heap[b]? = some (.map es clk)) :
  ∃cs,(Instr.lookup T (.map p) (kt.enc k) c).run P w = .ok (if c then .tuple #[mkV agg cs,.bool (mGet m k).isSome] else mkV agg cs) w∧t.rep κ w cs ((mGet m k).getD zm):=by
 subst hzv
 cases m with
 | none=>
  obtain ⟨rfl,-⟩:=hm
  refine ⟨zc,?_,hzr⟩
  have hfn:Instr.findNow kt.desc (kt.enc k) [] 0=some none:=rfl
  cases c<;>simp [Instr.lookup,run_underlying ht,run_checkKey hk (kt.key k),run_findKey hk hfn,hz,Result.andThen,mGet]
 | some l=>
  obtain ⟨hp,-,l0,hl,hf⟩:=hm
  obtain ⟨b,rfl⟩:=Option.isSome_iff_exists.1 hp
  have hb':=hb b rfl
  have hfk:=hf k
  rcases hl.find k with ⟨h1,h2,-⟩ | ⟨j,e,v,cs,h1,-,-,-,h5,h6,h7⟩
  ·rw [h2] at hfk
   have h2:=hfk.symm
   refine ⟨zc,?_,by simpa [mGet,h2] using hzr⟩
   cases c<;>simp [Instr.lookup,run_underlying ht,MapKept.run_getObj_map hb',run_checkKey hk (kt.key k),run_findKey hk h1,hz,Result.andThen,mGet,h2]
  ·rw [h5] at hfk
   have h5:=hfk.symm
   refine ⟨cs,?_,by simpa [mGet,h5] using h7⟩
   cases c<;>simp [Instr.lookup,run_underlying ht,MapKept.run_getObj_map hb',run_checkKey hk (kt.key k),run_findKey hk h1,Result.andThen,mGet,h5,h6]
theorem lookup_val {M:List Nat}{κ0 κ:Gh}{w0 w:World}{C:List Ck}{R:List MP}(hS:SS M κ0 w0 κ w C R)(ri:Nat){T KT E:Nat}{c:Bool}{x y:Operand}{k:K}{zc:List Value}{zm:V}{r:V×Bool}(hop:o.op = .lookup T x y c)(hx:ev L x=some (.map p))(hy:ev L y=some (kt.enc k))
  (hR:R[ri]? = some (Map.mp kt agg t p es clk m)) (hr:mgt m k zm=some r)
  (ht:pureRun P (underlying T)=some (.map KT E)) (hk:pureRun P (underlying KT)=some kt.desc) (hz:pureRun P (zeroValue E)=some (mkV agg zc)) (hzr : ∀κ w,t.rep κ w zc zm) :
  ∃cs,t.rep κ w cs r.1 ∧ ∀ {M:List Nat} {κ0:Gh} {w0:World} {C0:List Ck} {R0:List MP} (ci:Nat),C0[ci]? = some (.ext (objX p (.map es clk))) → ∀w',SSx M κ0 w0 C0 R0 w'→(execOp (evD L) o).run P w' = .ok (.value (if c then .tuple #[mkV agg cs,.bool r.2] else mkV agg cs)) w':=by
 simp only [mgt,Option.some.injEq] at hr
 subst hr
 have hm:MapAt kt agg t κ w p es clk m:=hS.get ri hR
 obtain ⟨cs,hcs,hrun⟩ : ∃cs,t.rep κ w cs ((mGet m k).getD zm) ∧ ∀w',(∀b,p=some b→w'.heap[b]? = some (.map es clk))→(Instr.lookup T (.map p) (kt.enc k) c).run P w' = .ok (if c then .tuple #[mkV agg cs,.bool (mGet m k).isSome] else mkV agg cs) w':=by
  have ht:=underlying_of ht; have hk:=underlying_of hk
  cases m with
  | none=>
   obtain ⟨rfl,-⟩:=hm
   refine ⟨zc,hzr κ w,fun w' _=>?_⟩
   have hfn:Instr.findNow kt.desc (kt.enc k) [] 0=some none:=rfl
   have hz:=pureRun_run _ hz w'
   cases c<;>simp [Instr.lookup,run_underlying ht,run_checkKey hk (kt.key k),run_findKey hk hfn,hz,Result.andThen,mGet]
  | some l=>
   obtain ⟨hp,-,l0,hl,hf⟩:=hm
   obtain ⟨b,rfl⟩:=Option.isSome_iff_exists.1 hp
   have hfk:=hf k
   rcases hl.find k with ⟨h1,h2,-⟩ | ⟨j,e,v,cs,h1,-,-,-,h5,h6,h7⟩
   ·rw [h2] at hfk
    have h2:=hfk.symm
    refine ⟨zc,by simpa [mGet,h2] using hzr κ w,fun w' hb=>?_⟩
    have hb':=hb b rfl
    have hz:=pureRun_run _ hz w'
    cases c<;>simp [Instr.lookup,run_underlying ht,MapKept.run_getObj_map hb',run_checkKey hk (kt.key k),run_findKey hk h1,hz,Result.andThen,mGet,h2]
   ·rw [h5] at hfk
    have h5:=hfk.symm
    refine ⟨cs,by simpa [mGet,h5] using h7,fun w' hb=>?_⟩
    have hb':=hb b rfl
    cases c<;>simp [Instr.lookup,run_underlying ht,MapKept.run_getObj_map hb',run_checkKey hk (kt.key k),run_findKey hk h1,Result.andThen,mGet,h5,h6]
 refine ⟨cs,hcs,fun {M κ0 w0 C0 R0} ci hC w' hw=>?_⟩
 obtain ⟨κ',hw⟩:=hw
 have h1:=hrun w' (fun b hb=>((hw.ck ci hC : ∀b',p=some b'→_) b hb).1)
 simp only [execOp,hop,evD,hx,hy,Option.getD_some]
 simp only [Sem.run_bind,h1,Result.andThen]
 rfl
theorem wo_lookup (hF:Fr N D L a)(hS:SS M κ0 w0 κ w C R)(hc:okOp N L o=true)(ci ri:Nat){T KT E:Nat}{c:Bool}{x y:Operand}{k:K}{zc:List Value}{zm:V}{r:V×Bool}(hop:o.op = .lookup T x y c)(hx:ev L x=some (.map p))(hy:ev L y=some (kt.enc k))
  (hC:C[ci]? = some (.ext (objX p (.map es clk)))) (hR:R[ri]? = some (Map.mp kt agg t p es clk m)) (hr:mgt m k zm=some r)
  (ht:pureRun P (underlying T)=some (.map KT E)) (hk:pureRun P (underlying KT)=some kt.desc) (hz:pureRun P (zeroValue E)=some (mkV agg zc)) (hzr : ∀κ w,t.rep κ w zc zm)
  (kk : ∀cs a',t.rep κ w cs r.1→Fr N D (upd L o.dst (if c then .tuple #[mkV agg cs,.bool r.2] else mkV agg cs)) a'→G a' w):wo ro P o a w G Q:=by
 simp only [mgt,Option.some.injEq] at hr
 subst hr
 obtain ⟨cs,h1,h2⟩:=run_lookup (P:=P) (w:=w) (k:=k) c (underlying_of ht) (underlying_of hk) (pureRun_run _ hz w) rfl (hzr κ w) (hS.get ri hR) (fun b hb=>((hS.ck ci hC : ∀b',p=some b'→_) b hb).1)
 refine wo_val hF hc (w':=w) ?_ fun a' hF'=>kk cs a' h2 hF'
 simp only [execOp,hop,evD,hx,hy,Option.getD_some]
 simp only [Sem.run_bind,h1,Result.andThen]
 rfl
theorem set_at {α:Type} {l:List α} {i j:Nat} {x y:α} (h:(l.set j x)[i]? = some y):(j=i∧y=x)∨(j≠i∧l[i]? = some y):=by
 rw [List.getElem?_set] at h
 split at h
 ·rename_i e
  split at h
  ·simp at h; exact .inl ⟨e,h.symm⟩
  ·cases h
 ·rename_i e; exact .inr ⟨e,h⟩
theorem modify_toList {es:Array MapEntry} {j:Nat} {e:MapEntry} (h:es.toList[j]? = some e) (f:MapEntry→MapEntry):(es.modify j f).toList=es.toList.set j (f e):=by
 apply List.ext_getElem?
 intro i
 rw [Array.getElem?_toList,Array.getElem?_modify,List.getElem?_set]
 by_cases q:j=i
 ·subst q
  have h':es[j]? = some e:=by simpa using h
  obtain ⟨h1,h2⟩:=Array.getElem?_eq_some_iff.1 h'
  simp [h1,h2]
 ·simp [q]
theorem run_mapUpdate {T KT E:Nat}{k:K}{v:V}{cs:List Value}{m':Mp K V}(ht:P.underlying T=some (.map KT E))(hk:P.underlying KT=some kt.desc)(hv:t.rep κ w cs v)
  (hm:MapAt kt agg t κ w p es clk m) (hb : ∀b,p=some b→w.heap[b]? = some (.map es clk)) (hp:mPut m k v=some m') :
  ∃b es' clk',p=some b∧(Instr.mapUpdate T (.map p) (kt.enc k) (mkV agg cs)).run P w = .ok () {w with heap:=w.heap.setIfInBounds b (.map es' clk')}∧MapAt kt agg t κ w p es' clk' m' ∧
   ((mGet m k).isSome=true→clk'=clk ∧ ∀e'∈es'.toList,∃e∈es.toList,e.born=e'.born∧e.key=e'.key):=by
 cases m with
 | none=>cases hp
 | some l=>
  simp only [mPut,Option.map_some,Option.some.injEq] at hp
  subst hp
  obtain ⟨hp,hs,l0,hl,hf⟩:=hm
  obtain ⟨b,rfl⟩:=Option.isSome_iff_exists.1 hp
  have hb':=hb b rfl
  rcases hl.find k with ⟨h1,h2,h3⟩ | ⟨j,e,v0,cs0,h1,h2,h3,h4,h5,h6,h7⟩
  ·refine ⟨b,es.push ⟨kt.enc k,mkV agg cs,clk⟩,clk+1,rfl,?_,⟨rfl,lPut_srt hs k v,rPut l0 k v,⟨stamped_push hl.st h3,?_,fun i e x he hx=>?_⟩,fun k'=>by rw [rPut_find,lPut_find,hf]⟩,fun h=>by simp [mGet,← hf,h2] at h⟩
   ·simp [Instr.mapUpdate,run_underlying ht,MapKept.run_getObj_map hb',run_checkKey hk (kt.key k),run_findKey hk h1,MapKept.run_setObj_map _ hb',Result.andThen]
   ·rw [rPut_new h2]; simp [hl.keys]
   ·rw [rPut_new h2] at hx
    simp only [Array.toList_push] at he
    rw [List.getElem?_append] at he hx
    rw [hl.len] at he
    split at hx
    ·rename_i hi
     rw [if_pos hi] at he
     exact hl.vals i e x he hx
    ·rename_i hi
     rw [if_neg hi] at he
     have e0:i-l0.length=0:=by
      have:=(List.getElem?_eq_some_iff.1 hx).1
      simp at this; omega
     rw [e0] at he hx
     simp at he hx
     subst he hx
     exact ⟨cs,rfl,hv⟩
  ·have hj:es[j]? = some e:=by simpa using h2
   have hkeyf : ∀e',es[j]? = some e'→({e' with key:=kt.enc k,val:=mkV agg cs}:MapEntry).key=e'.key:=fun e' he'=>by rw [hj] at he'; cases he'; exact h4.symm
   have hlist:=modify_toList h2 (fun e'=>{e' with key:=kt.enc k,val:=mkV agg cs})
   refine ⟨b,es.modify j (fun e'=>{e' with key:=kt.enc k,val:=mkV agg cs}),clk,rfl,?_,⟨rfl,lPut_srt hs k v,rPut l0 k v,⟨stamped_modify hl.st _ _ (fun _ _=>rfl) (fun e' _ he'=>hkeyf e' he'),?_,fun i x y hx hy=>?_⟩,fun k'=>by rw [rPut_find,lPut_find,hf]⟩,fun _=>⟨rfl,fun e' he'=>?_⟩⟩
   ·simp [Instr.mapUpdate,run_underlying ht,MapKept.run_getObj_map hb',run_checkKey hk (kt.key k),run_findKey hk h1,hj,h4,run_keyThatStays (kt.key k),MapKept.run_setObj_map _ hb',Result.andThen]
   ·rw [modify_keys _ _ hkeyf,hl.keys,rPut_old hl.nodup h3]
    apply List.ext_getElem?
    intro i
    simp only [List.getElem?_map,List.getElem?_set]
    by_cases q:j=i
    ·subst q; rw [h3]; simp [(List.getElem?_eq_some_iff.1 h3).1]
    ·simp [q]
   ·rw [hlist] at hx
    rw [rPut_old hl.nodup h3] at hy
    rcases set_at hx with ⟨q,rfl⟩ | ⟨q,hx⟩
    ·rcases set_at hy with ⟨_,rfl⟩ | ⟨q',_⟩
     ·exact ⟨cs,rfl,hv⟩
     ·exact absurd q q'
    ·rcases set_at hy with ⟨q',_⟩ | ⟨_,hy⟩
     ·exact absurd q' q
     ·exact hl.vals i x y hx hy
   ·rw [hlist] at he'
    obtain ⟨i,hi⟩:=List.mem_iff_getElem?.1 he'
    rcases set_at hi with ⟨_,rfl⟩ | ⟨_,hi⟩
    ·exact ⟨e,List.mem_of_getElem? h2,rfl,h4⟩
    ·exact ⟨e',List.mem_of_getElem? hi,rfl,rfl⟩
theorem exec_mapUpdate {T:Nat} {x y z:Operand} {u v k:Value} {w':World} (hop:o.op = .mapUpdate T x y z) (hx:ev L x=some u) (hy:ev L y=some k) (hz:ev L z=some v) (hr:(Instr.mapUpdate T u k v).run P w = .ok () w'):(execOp (evD L) o).run P w = .ok .skip w':=by
 simp only [execOp,hop,evD,hx,hy,hz,Option.getD_some]
 simp [hr]
theorem SS.setMap (h:SS M κ0 w0 κ w C R)(i:Nat){b:Nat}{o o':Obj}(hC:C[i]? = some (.ext (objX (some b) o)))(ho:nonCell o=true)(ho':nonCell o'=true){m:MP}(hm:m.p κ w) :
  SS M κ0 w0 κ {w with heap:=w.heap.setIfInBounds b o'} (C.set i (.ext (objX (some b) o'))) (m::R):=(h.add hm).setObj i hC o' ho ho'
theorem wo_mapUpdate (hF:Fr N D L a)(hS:SS M κ0 w0 κ w C R)(hc:okOp N L o=true)(ci ri:Nat){T KT E:Nat}{x y u:Operand}{k:K}{v:V}{cs:List Value}{m':Mp K V}(hop:o.op = .mapUpdate T x y u)(hx:ev L x=some (.map p))(hy:ev L y=some (kt.enc k))(hu:ev L u=some (mkV agg cs))(hv:t.rep κ w cs v)
  (hC:C[ci]? = some (.ext (objX p (.map es clk)))) (hR:R[ri]? = some (Map.mp kt agg t p es clk m)) (hp:mPut m k v=some m')
  (ht:pureRun P (underlying T)=some (.map KT E)) (hk:pureRun P (underlying KT)=some kt.desc)
  (kk : ∀es' clk' a' w',Fr N D (upd L o.dst undef) a'→SS M κ0 w0 κ w' (C.set ci (.ext (objX p (.map es' clk')))) (Map.mp kt agg t p es' clk' m'::R)→G a' w'):wo ro P o a w G Q:=by
 obtain ⟨b,es',clk',rfl,h1,h2,-⟩:=run_mapUpdate (P:=P) (w:=w) (k:=k) (underlying_of ht) (underlying_of hk) hv (hS.get ri hR) (fun b hb=>((hS.ck ci hC : ∀b',p=some b'→_) b hb).1) hp
 exact wo_skip hF hc (exec_mapUpdate hop hx hy hu h1) fun a' hF'=>kk es' clk' a' _ hF' (hS.setMap ci hC rfl rfl h2)
theorem run_delete {T KT E ty:Nat}{k:K}(ht:P.underlying T=some (.map KT E))(hk:P.underlying KT=some kt.desc)
  (hm:MapAt kt agg t κ w p es clk m) (hb : ∀b,p=some b→w.heap[b]? = some (.map es clk)) :
  ∃es' w',(Builtin.delete_ #[T,KT] ty #[.map p,kt.enc k]).run P w = .ok (.tuple #[]) w'∧MapAt kt agg t κ w p es' clk (mDel m k)∧es'.toList.Sublist es.toList ∧
   ((p=none∧w'=w∧es'=es) ∨ ∃b,p=some b∧w'={w with heap:=w.heap.setIfInBounds b (.map es' clk)}):=by
 cases m with
 | none=>
  obtain ⟨rfl,rfl⟩:=hm
  refine ⟨#[],w,?_,⟨rfl,rfl⟩,List.Sublist.refl _,.inl ⟨rfl,rfl,rfl⟩⟩
  simp [Builtin.delete_,run_underlying ht,run_checkKey hk (kt.key k),Result.andThen]
 | some l=>
  obtain ⟨hp,hs,l0,hl,hf⟩:=hm
  obtain ⟨b,rfl⟩:=Option.isSome_iff_exists.1 hp
  have hb':=hb b rfl
  rcases hl.find k with ⟨h1,h2,h3⟩ | ⟨j,e,v0,cs0,h1,h2,h3,h4,h5,h6,h7⟩
  ·refine ⟨es,_,?_,⟨rfl,lDel_srt hs k,lDel l0 k,by rw [lDel_none h2]; exact hl,fun k'=>by rw [lDel_find,lDel_find,hf]⟩,List.Sublist.refl _,.inr ⟨b,rfl,rfl⟩⟩
   simp [Builtin.delete_,run_underlying ht,MapKept.run_getObj_map hb',run_checkKey hk (kt.key k),run_findKey hk h1,MapKept.run_setObj_map _ hb',Result.andThen]
  ·have hjl:j<es.toList.length:=(List.getElem?_eq_some_iff.1 h2).1
   have hjs:j<es.size:=by simpa using hjl
   have hsub:(es.eraseIdxIfInBounds j).toList=es.toList.eraseIdx j:=by
    unfold Array.eraseIdxIfInBounds
    rw [dif_pos hjs]
    simp
   refine ⟨es.eraseIdxIfInBounds j,_,?_,⟨rfl,lDel_srt hs k,lDel l0 k,⟨stamped_erase hl.st j,?_,fun i x y hx hy=>?_⟩,fun k'=>by rw [lDel_find,lDel_find,hf]⟩,by rw [hsub]; exact List.eraseIdx_sublist _ _,.inr ⟨b,rfl,rfl⟩⟩
   ·simp [Builtin.delete_,run_underlying ht,MapKept.run_getObj_map hb',run_checkKey hk (kt.key k),run_findKey hk h1,MapKept.run_setObj_map _ hb',Result.andThen]
   ·have h8:lDel l0 k=l0.eraseIdx j:=lDel_old hl.nodup h3
    show _=List.map (fun x=>kt.enc x.1) (lDel l0 k)
    rw [hsub,h8]
    apply List.ext_getElem?
    intro i
    have hkk:=fun (i:Nat)=>congrArg (fun z:List Value=>z[i]?) hl.keys
    simp only [List.getElem?_map] at hkk
    simp only [List.getElem?_map,List.getElem?_eraseIdx]
    split<;>exact hkk _
   ·have h8:lDel l0 k=l0.eraseIdx j:=lDel_old hl.nodup h3
    rw [hsub] at hx
    replace hy:(lDel l0 k)[i]? = some y:=hy
    rw [h8] at hy
    rw [List.getElem?_eraseIdx] at hx hy
    split at hy
    ·rename_i hi; rw [if_pos hi] at hx; exact hl.vals _ x y hx hy
    ·rename_i hi; rw [if_neg hi] at hx; exact hl.vals _ x y hx hy
theorem exec_delete {x y:Operand} {T T':Nat} {u v r:Value} {w':World} (hop:o.op = .call {callee := .builtin .delete,args := #[x,y],argTypes := #[T,T']}) (hx:ev L x=some u) (hy:ev L y=some v) (hr:(Builtin.delete_ #[T,T'] o.type #[u,v]).run P w = .ok r w'):(execOp (evD L) o).run P w = .ok (.value r) w':=by
 have hex:evD L x=u:=by simp [evD,hx]
 have hey:evD L y=v:=by simp [evD,hy]
 simp only [execOp,hop]
 simp [resolve,invoke,Go.builtin,hex,hey,hr]
theorem wo_delete (hF:Fr N D L a) (hS:SS M κ0 w0 κ w C R) (hc:okOp N L o=true) (ci ri:Nat) {T KT E:Nat} {x y:Operand} {k:K} (hop:o.op = .call {callee := .builtin .delete,args := #[x,y],argTypes := #[T,KT]}) (hx:ev L x=some (.map p)) (hy:ev L y=some (kt.enc k))
  (hC:C[ci]? = some (.ext (objX p (.map es clk)))) (hR:R[ri]? = some (Map.mp kt agg t p es clk m))
  (ht:pureRun P (underlying T)=some (.map KT E)) (hk:pureRun P (underlying KT)=some kt.desc)
  (kk : ∀es' a' w',es'.toList.Sublist es.toList→Fr N D (upd L o.dst (.tuple #[])) a'→SS M κ0 w0 κ w' (C.set ci (.ext (objX p (.map es' clk)))) (Map.mp kt agg t p es' clk (mDel m k)::R)→G a' w'):wo ro P o a w G Q:=by
 obtain ⟨es',w',h1,h2,h3,h4⟩:=run_delete (P:=P) (w:=w) (k:=k) (ty:=o.type) (underlying_of ht) (underlying_of hk) (hS.get ri hR) (fun b hb=>((hS.ck ci hC : ∀b',p=some b'→_) b hb).1)
 refine wo_val hF hc (exec_delete hop hx hy h1) fun a' hF'=>kk es' a' _ h3 hF' ?_
 rcases h4 with ⟨rfl,rfl,rfl⟩ | ⟨b,rfl,rfl⟩
 ·have:C.set ci (.ext (objX none (.map es' clk)))=C:=by
   obtain ⟨hi,he⟩:=List.getElem?_eq_some_iff.1 hC
   rw [← he]; exact List.set_getElem_self hi
  rw [this]
  exact hS.add h2
 ·exact hS.setMap ci hC rfl rfl h2
end
end Go.Cf
namespace Go.Cf
open Go Go.MapKept
def srtK {V:Type} (m:Mp ByteArray V):Option (List ByteArray):=if (mKeys m).all (fun k=>decide (k.size≤maxLen))&&decide ((mKeys m).length*16≤140737488355328) then some (mKeys m) else none
def itO (p:Option Nat) (clk:Nat) (seen:Array Nat):Obj:=
 match p with
 | none => .mapIter none 0 #[] 0
 | some b => .mapIter (some b) clk seen clk
theorem itO_non (p:Option Nat) (clk:Nat) (seen:Array Nat):nonCell (itO p clk seen)=true:=by cases p<;>rfl
def ItOk {K:Type} (kt:KT K) (es:Array MapEntry) (seen:Array Nat) (left:List K):Prop := ∀e∈es.toList,∀k,e.key=kt.enc k→(seen.contains e.born=false↔k∈left)
def It.mp {K:Type} (kt:KT K) (es:Array MapEntry) (seen:Array Nat) (left:List K):MP:=MP.const (ItOk kt es seen left)
def Cur.mp {K V:Type} [DecidableEq K] (kt:KT K) (es:Array MapEntry) (seen:Array Nat) (m:Mp K V) (x:K×V):MP:=
 MP.const ((∃e∈es.toList,seen.back? = some e.born∧e.key=kt.enc x.1)∧mGet m x.1=some x.2)
theorem ItOk.sub {K:Type} {kt:KT K} {es es':Array MapEntry} {seen:Array Nat} {left:List K} (h:ItOk kt es seen left) (hs:es'.toList.Sublist es.toList):ItOk kt es' seen left:=fun e he k hk=>h e (hs.subset he) k hk
theorem ItOk.turn {K:Type} {kt:KT K} {es es':Array MapEntry} {seen:Array Nat} {left:List K} (h:ItOk kt es seen left) (hs : ∀e'∈es'.toList,∃e∈es.toList,e.born=e'.born∧e.key=e'.key):ItOk kt es' seen left:=fun e he k hk=>by
 obtain ⟨e0,h0,hb,hkk⟩:=hs e he
 rw [← hb]; exact h e0 h0 k (hkk.trans hk)
section
variable {ro:Option Nat}{P:Program}{ops:Array Oper}{Q:Exit→Act→World→Prop}{N:Nat}{D:List Deferred}{L L':FL}{a:Act}{w:World}{o:Oper}{G:Act→World→Prop}
variable {M:List Nat}{κ0 κ:Gh}{w0:World}{C C':List Ck}{R R':List MP}
variable {K V:Type}{kt:KT K}{agg:Bool}{t:Ty V}{es:Array MapEntry}{clk:Nat}{p:Option Nat}{m:Mp K V} [DecidableEq K] [KO K]
theorem wo_range (hF:Fr N D L a)(hS:SS M κ0 w0 κ w C R)(hc:okOp N L o=true)(ci ri:Nat){T KT E:Nat}{x:Operand}(hop:o.op = .range T x)(hx:ev L x=some (.map p))
  (hC:C[ci]? = some (.ext (objX p (.map es clk)))) (hR:R[ri]? = some (Map.mp kt agg t p es clk m)) (ht:pureRun P (underlying T)=some (.map KT E))
  (kk : ∀r a' w',Fr N D (upd L o.dst (.pointer (some ⟨r,0,none⟩))) a'→SS M κ0 w0 κ w' (.ext (objX (some r) (itO p clk #[]))::C) (It.mp kt es #[] (mKeys m)::R)→G a' w'):wo ro P o a w G Q:=by
 have hm:MapAt kt agg t κ w p es clk m:=hS.get ri hR
 have hu:=underlying_of ht
 refine wo_val hF hc (v := .pointer (some ⟨w.heap.size,0,none⟩)) (w':=w.alloc (itO p clk #[])) ?_ fun a' hF'=>kk _ a' _ hF' ((hS.newObj _ (itO_non _ _ _)).add ?_)
 ·have hex:evD L x = .map p:=by simp [evD,hx]
  simp only [execOp,hop,hex]
  cases p with
  | none=>simp [Instr.range,run_underlying hu,Result.andThen,newObj]; rfl
  | some b=>
   have hb:=((hS.ck ci hC : ∀b',some b=some b'→_) b rfl).1
   simp [Instr.range,run_underlying hu,MapKept.run_getObj_map hb,Result.andThen,newObj]; rfl
 ·intro e he k hk
  simp only [Array.contains_empty,true_iff]
  cases m with
  | none=>obtain ⟨_,rfl⟩:=hm; simp at he
  | some l=>
   obtain ⟨i,hi⟩:=List.mem_iff_getElem?.1 he
   obtain ⟨-,hs,l0,hl,hf⟩:=hm
   obtain ⟨y,hy⟩:=hl.other hi
   have:y.1=k:=kt.inj _ _ ((hl.keyAt hi hy).symm.trans hk)
   exact List.mem_map.2 ⟨y,lFind_some ((hf y.1).symm.trans (lFind_at hl.nodup hy)),this⟩
omit [KO K] in
theorem mGet_mem {l:List (K×V)} (hn:(l.map (·.1)).Nodup) {x:K×V} (h:x∈l):mGet (some l) x.1=some x.2:=by
 obtain ⟨j,hj⟩:=List.mem_iff_getElem?.1 h
 exact lFind_at hn hj
omit [KO K] in
theorem mem_cands {m:Mp K V} {left:List K} {x:K×V} (h:x∈cands m left):x.1∈left:=by
 simp only [cands,List.mem_filter,decide_eq_true_eq] at h
 exact h.2
theorem wo_next (hF:Fr N D L a)(hS:SS M κ0 w0 κ w C R)(hc:okOp N L o=true)(ci ii ri ti:Nat){r:Nat}{x:Operand}{seen:Array Nat}{left:List K}{ρ:Type}{A:Option ρ}{f:K×V→Option ρ}{res:ρ}(hop:o.op = .next x false)(hx:ev L x=some (.pointer (some ⟨r,0,none⟩)))
  (hC:C[ci]? = some (.ext (objX p (.map es clk)))) (hI:C[ii]? = some (.ext (objX (some r) (itO p clk seen)))) (hR:R[ri]? = some (Map.mp kt agg t p es clk m)) (hT:R[ti]? = some (It.mp kt es seen left))
  (H:(bif (cands m left).isEmpty then A else allAgree (cands m left) f)=some res)
  (k0:A=some res → ∀a',Fr N D (upd L o.dst (.tuple #[.bool false])) a'→G a' w)
  (k1 : ∀y cs seen' a' w',f y=some res→Fr N D (upd L o.dst (.tuple #[.bool true,kt.enc y.1,mkV agg cs])) a'→SS M κ0 w0 κ w' (C.set ii (.ext (objX (some r) (itO p clk seen')))) (Cur.mp kt es seen' m y::It.mp kt es seen' (kRem left y.1)::R)→G a' w'):wo ro P o a w G Q:=by
 have hm:MapAt kt agg t κ w p es clk m:=hS.get ri hR
 have hit:ItOk kt es seen left:=hS.get ti hT
 have hr:=((hS.ck ii hI : ∀b',some r=some b'→_) r rfl).1
 have hev:evD L x = .pointer (some ⟨r,0,none⟩):=by simp [evD,hx]
 cases m with
 | none=>
  obtain ⟨rfl,rfl⟩:=hm
  refine wo_val hF hc (v := .tuple #[.bool false]) (w':=w) ?_ fun a' hF'=>k0 (by simpa [cands] using H) a' hF'
  simp only [execOp,hop,hev]
  simp only [itO] at hr
  simp [Instr.next,getObj,Sem.run,hr,Result.andThen]
 | some l=>
  obtain ⟨hp,hs,l0,hl,hf⟩:=hm
  obtain ⟨b,rfl⟩:=Option.isSome_iff_exists.1 hp
  have hb:=((hS.ck ci hC : ∀b',some b=some b'→_) b rfl).1
  simp only [itO] at hr
  have hto : ∀ {y:K×V},y∈l0→y∈l:=fun {y} hy=>by
   obtain ⟨i,hi⟩:=List.mem_iff_getElem?.1 hy
   exact lFind_some ((hf y.1).symm.trans (lFind_at hl.nodup hi))
  rcases run_next_at (P:=P) w o.type r b clk clk seen es clk hr hb hl.st.1 (Nat.le_refl _) with ⟨h0,hrun⟩ | ⟨e,he,w1,hw1,hrun⟩
  ·have hemp:cands (some l) left=[]:=by
    rw [List.eq_nil_iff_forall_not_mem]
    intro y hy
    have hyl:y∈l:=(List.mem_filter.1 hy).1
    obtain ⟨i0,hi0⟩:=List.mem_iff_getElem?.1 hyl
    obtain ⟨i,hi⟩:=List.mem_iff_getElem?.1 (lFind_some ((hf y.1).trans (lFind_at hs.nodup hi0)))
    obtain ⟨e,he⟩:=hl.other' hi
    have h1:=(hit e (List.mem_of_getElem? he) y.1 (hl.keyAt he hi)).2 (mem_cands hy)
    have h2:e∈(leftOf es seen).toList:=by
     unfold leftOf
     simp only [Array.toList_filter,List.mem_filter]
     exact ⟨List.mem_of_getElem? he,by rw [h1]; rfl⟩
    have:(leftOf es seen).toList=[]:=by
     have:=h0; rw [← Array.length_toList] at this; exact List.eq_nil_of_length_eq_zero this
    rw [this] at h2; cases h2
   rw [hemp] at H
   refine wo_val hF hc (v := .tuple #[.bool false]) (w':=w) ?_ fun a' hF'=>k0 (by simpa using H) a' hF'
   simp only [execOp,hop,hev]
   simp [hrun]
  ·have he':e∈es.toList∧seen.contains e.born=false:=by
    unfold leftOf at he
    simpa using he
   obtain ⟨i,hi⟩:=List.mem_iff_getElem?.1 he'.1
   obtain ⟨y,hy⟩:=hl.other hi
   have hk:=hl.keyAt hi hy
   obtain ⟨cs,hcs,hrep⟩:=hl.vals i e y hi hy
   have hyc:y∈cands (some l) left:=List.mem_filter.2 ⟨hto (List.mem_of_getElem? hy),by simpa using (hit e he'.1 y.1 hk).1 he'.2⟩
   have hne:(cands (some l) left).isEmpty=false:=by
    cases hcc:cands (some l) left with
    | nil=>rw [hcc] at hyc; cases hyc
    | cons _ _=>rfl
   rw [hne] at H
   have hf:=allAgree_some (show allAgree _ f=some res from H) y hyc
   have hS1:SS M κ0 w0 κ w1 C R:=by rcases hw1 with rfl|rfl; exact hS; exact hS.drew
   have hset:(ChangeMaps.setBlock w1 r (.mapIter (some b) clk (seen.push e.born) clk))={w1 with heap:=w1.heap.setIfInBounds r (itO (some b) clk (seen.push e.born))}:=rfl
   refine wo_val hF hc (v := .tuple #[.bool true,kt.enc y.1,mkV agg cs]) (w':=_) ?_ fun a' hF'=>k1 y cs (seen.push e.born) a' _ hf hF' (((hS1.add ?_).add ?_).setObj ii hI _ (itO_non _ _ _) (itO_non _ _ _))
   ·simp only [execOp,hop,hev]
    rw [← hk,← hcs]
    simp only [Sem.run_bind,hrun,Result.andThen,hset]
    rfl
   ·intro e2 he2 k2 hk2
    have h3:=hit e2 he2 k2 hk2
    simp only [kRem,List.mem_filter,decide_eq_true_eq,← h3]
    have key:e2.born=e.born↔k2=y.1:=by
     constructor
     ·intro hbn
      have:e2=e:=by
       obtain ⟨j,hj⟩:=List.mem_iff_getElem?.1 he2
       have hbj:(es.toList.map (·.born))[j]? = some e.born:=by rw [List.getElem?_map,hj]; simp [hbn]
       have hbi:(es.toList.map (·.born))[i]? = some e.born:=by rw [List.getElem?_map,hi]; rfl
       have:j=i:=(List.getElem?_inj (by rw [List.length_map]; exact (List.getElem?_eq_some_iff.1 hj).1) hl.st.2.1).1 (hbj.trans hbi.symm)
       subst this
       rw [hj] at hi; exact Option.some.inj hi
      subst this
      exact kt.inj _ _ (hk2.symm.trans hk)
     ·intro hkk
      subst hkk
      obtain ⟨j,hj⟩:=List.mem_iff_getElem?.1 he2
      have hbj:(es.toList.map (·.key))[j]? = some e.key:=by rw [List.getElem?_map,hj]; simp [hk2,hk]
      have hbi:(es.toList.map (·.key))[i]? = some e.key:=by rw [List.getElem?_map,hi]; rfl
      have:j=i:=(List.getElem?_inj (by rw [List.length_map]; exact (List.getElem?_eq_some_iff.1 hj).1) hl.st.2.2).1 (hbj.trans hbi.symm)
      subst this
      rw [hj] at hi; rw [Option.some.inj hi]
    rw [Array.contains_push]
    simp only [Bool.or_eq_false_iff,beq_eq_false_iff_ne,ne_eq]
    rw [show (¬e2.born=e.born) ↔ ¬k2=y.1 from not_congr key]
   ·exact ⟨⟨e,he'.1,by simp,hk⟩,mGet_mem hs.nodup (hto (List.mem_of_getElem? hy))⟩
theorem wo_entry (hF:Fr N D L a)(hS:SS M κ0 w0 κ w C R)(hc:okOp N L o=true)(ci ii ri ti:Nat){r:Nat}{x:Operand}{seen:Array Nat}{y:K×V}(hop:o.op = .entry x)(hx:ev L x=some (.pointer (some ⟨r,0,none⟩)))
  (hC:C[ci]? = some (.ext (objX p (.map es clk)))) (hI:C[ii]? = some (.ext (objX (some r) (itO p clk seen)))) (hR:R[ri]? = some (Map.mp kt agg t p es clk m)) (hT:R[ti]? = some (Cur.mp kt es seen m y))
  (kk : ∀cs a',t.rep κ w cs y.2→Fr N D (upd L o.dst (.tuple #[kt.enc y.1,mkV agg cs])) a'→G a' w):wo ro P o a w G Q:=by
 have hm:MapAt kt agg t κ w p es clk m:=hS.get ri hR
 obtain ⟨⟨e,he,hback,hkey⟩,hget⟩:(∃e∈es.toList,seen.back? = some e.born∧e.key=kt.enc y.1)∧mGet m y.1=some y.2:=hS.get ti hT
 have hr:=((hS.ck ii hI : ∀b',some r=some b'→_) r rfl).1
 have hev:evD L x = .pointer (some ⟨r,0,none⟩):=by simp [evD,hx]
 cases m with
 | none=>obtain ⟨rfl,rfl⟩:=hm; simp at he
 | some l=>
  obtain ⟨hp,hs,l0,hl,hf⟩:=hm
  obtain ⟨b,rfl⟩:=Option.isSome_iff_exists.1 hp
  have hb:=((hS.ck ci hC : ∀b',some b=some b'→_) b rfl).1
  simp only [itO] at hr
  obtain ⟨i,hi⟩:=List.mem_iff_getElem?.1 he
  obtain ⟨z,hz⟩:=hl.other hi
  have hk:z.1=y.1:=kt.inj _ _ ((hl.keyAt hi hz).symm.trans hkey)
  obtain ⟨cs,hcs,hrep⟩:=hl.vals i e z hi hz
  have hz2:z.2=y.2:=by
   have:mGet (some l) z.1=some z.2:=(hf z.1).symm.trans (lFind_at hl.nodup hz)
   rw [hk,hget] at this
   exact (Option.some.inj this).symm
  have hfind:es.find? (·.born==e.born)=some e:=by rw [← Array.find?_toList]; exact find_born e es.toList hl.st.2.1 he
  refine wo_val hF hc (v := .tuple #[kt.enc y.1,mkV agg cs]) (w':=w) ?_ fun a' hF'=>kk cs a' (hz2▸hrep) hF'
  simp only [execOp,hop,hev]
  rw [← hkey,← hcs]
  simp [Instr.entry,getObj,Sem.run,hr,hb,Result.andThen,hback,hfind]
theorem wo_mapSet (hF:Fr N D L a)(hS:SS M κ0 w0 κ w C R)(hc:okOp N L o=true)(ci ri:Nat){T KT E:Nat}{x y u:Operand}{k:K}{v:V}{cs:List Value}{m':Mp K V}(hop:o.op = .mapUpdate T x y u)(hx:ev L x=some (.map p))(hy:ev L y=some (kt.enc k))(hu:ev L u=some (mkV agg cs))(hv:t.rep κ w cs v)
  (hC:C[ci]? = some (.ext (objX p (.map es clk)))) (hR:R[ri]? = some (Map.mp kt agg t p es clk m)) (hp:mSet m k v=some m')
  (ht:pureRun P (underlying T)=some (.map KT E)) (hk:pureRun P (underlying KT)=some kt.desc)
  (kk : ∀es' a' w',(∀seen left,ItOk kt es seen left→ItOk kt es' seen left)→Fr N D (upd L o.dst undef) a'→SS M κ0 w0 κ w' (C.set ci (.ext (objX p (.map es' clk)))) (Map.mp kt agg t p es' clk m'::R)→G a' w'):wo ro P o a w G Q:=by
 unfold mSet at hp
 split at hp
 ·rename_i hthere
  obtain ⟨b,es',clk',rfl,h1,h2,h3⟩:=run_mapUpdate (P:=P) (w:=w) (k:=k) (underlying_of ht) (underlying_of hk) hv (hS.get ri hR) (fun b hb=>((hS.ck ci hC : ∀b',p=some b'→_) b hb).1) hp
  obtain ⟨rfl,h4⟩:=h3 hthere
  exact wo_skip hF hc (exec_mapUpdate hop hx hy hu h1) fun a' hF'=>kk es' a' _ (fun seen left h=>h.turn h4) hF' (hS.setMap ci hC rfl rfl h2)
 ·cases hp
end
end Go.Cf
namespace Go.Cf
open Go
def mkc (c:Int):Option Nat:=if 0≤c∧c<2147483648 then some c.toNat else none
section
variable {M:List Nat}{κ0 κ:Gh}{w0 w:World}{C C':List Ck}{R R':List MP}
theorem SS.room (hS:SS M κ0 w0 κ w C R){α:Type}(t:Ty α)(E:Nat)(cells:Array Value)(c:Nat)(hn:cells.size=c*t.size)(hm:c≤maxLen) :
  ∃κ',SS M κ0 w0 κ' (w.alloc (.cells cells E)) (.tok (some ⟨w.heap.size,0,none⟩) E t.size 0 c::C) (Ro.mp t (some ⟨w.heap.size,0,none⟩) c ([]:List α)::R):=by
 let w':=w.alloc (.cells cells E)
 let κ':Gh:=fun b=>if b=w.heap.size then some 0 else κ b
 have hκ : ∀b,b≠w.heap.size→κ' b=κ b:=fun b hb=>by simp [κ',hb]
 have hext:Ext [] κ w κ' w':=by
  refine ⟨rfl,rfl,rfl,by rw [size_alloc]; omega,fun b hb _=>⟨heap_alloc_old w _ b hb,hκ b (by omega)⟩,fun b n hn=>?_⟩
  have hbl:b<w.heap.size:=by
   rcases Nat.lt_or_ge b w.heap.size with h|h
   ·exact h
   ·rw [hS.fresh b h] at hn; cases hn
  exact ⟨n,(hκ b (by omega)).trans hn,Nat.le_refl _,fun i _=>cell_of_heap (heap_alloc_old w _ b hbl)⟩
 have hfr:Fresh κ' w':=fun b hb=>by
  rw [size_alloc] at hb
  rw [hκ b (by omega)]; exact hS.fresh b (by omega)
 have hkn:κ' w.heap.size=some 0:=by simp [κ']
 have h':=hS.step hext hfr
 have htok:(Ck.tok (some ⟨w.heap.size,0,none⟩) E t.size 0 c).ok κ' w':=
  .inr ⟨w.heap.size,0,cells,rfl,by rw [hkn,Nat.zero_mul],Nat.zero_le _,hm,heap_alloc_new _ _,by rw [hn,Nat.zero_add]⟩
 have h'':SS M κ0 w0 κ' w' (.tok (some ⟨w.heap.size,0,none⟩) E t.size 0 c::C) R:=by
  refine ⟨h'.ext,h'.fresh,fun c hc=>?_,fun b hb=>?_,?_,fun b hb=>?_,h'.ro⟩
  ·rcases List.mem_cons.1 hc with rfl|hc
   ·exact htok
   ·exact h'.ok c hc
  ·rcases List.mem_cons.1 (show b∈w.heap.size::blksOf C from hb) with rfl|hb
   ·rw [size_alloc]; omega
   ·exact h'.lt b hb
  ·show (w.heap.size::blksOf C).Nodup
   exact List.nodup_cons.2 ⟨fun hm=>by have:=hS.lt _ hm; omega,hS.nd⟩
  ·rcases List.mem_cons.1 (show b∈w.heap.size::blksOf C from hb) with rfl|hb
   ·exact .inl hS.ext.size
   ·exact h'.own b hb
 exact ⟨κ',h''.add (m:=Ro.mp t _ c []) ⟨Nat.zero_le _,hm,.inr ⟨w.heap.size,0,0,rfl,hkn,by simp,fun i x hx=>by simp at hx⟩⟩⟩
end
section
variable {ro:Option Nat}{P:Program}{ops:Array Oper}{Q:Exit→Act→World→Prop}{N:Nat}{D:List Deferred}{L L':FL}{a:Act}{w:World}{o:Oper}{K:Act→World→Prop}
variable {M:List Nat}{κ0 κ:Gh}{w0:World}{C C':List Ck}{R R':List MP}
theorem wo_make0 (hF:Fr N D L a)(hS:SS M κ0 w0 κ w C R)(hc:okOp N L o=true){α:Type}(t:Ty α){T E:Nat}{kl kc:IntKind}{c:Int}{n:Nat}{x y:Operand}{i:TypeInfo}{z:Value}(hop:o.op = .makeSlice T x y)(hx:ev L x=some (.int kl 0))(hy:ev L y=some (.int kc c))(hn:mkc c=some n)
  (ht:P.underlying T=some (.slice E)) (hi:P.info? E=some i) (hz:i.zero=some z) (hsize:i.size=t.size) (hb:i.bytes≤4096)
  (kk : ∀p κ' a' w',Fr N D (upd L o.dst (.slice p 0 n)) a'→SS M κ0 w0 κ' w' (.tok p E t.size 0 n::C) (Ro.mp t p n []::R)→K a' w'):wo ro P o a w K Q:=by
 unfold mkc at hn
 split at hn
 ·rename_i h
  simp only [Option.some.injEq] at hn
  subst hn
  have hbytes:(i.bytes:Int)*c≤281474976710656:=by
   have h1:(i.bytes:Int)≤4096:=by omega
   have h2:(i.bytes:Int)*c≤4096*c:=Int.mul_le_mul_of_nonneg_right h1 h.1
   omega
  have hrun:=run_make (P:=P) w T E i z ht hi hz kl kc 0 c (Int.le_refl _) h.1 hbytes (by omega)
  obtain ⟨κ',h1⟩:=hS.room t E (madeCells z.cells (c.toNat*i.size)) c.toNat (by rw [hsize]; simp [madeCells]) (by unfold maxLen; omega)
  refine wo_val hF hc (v := .slice (some ⟨w.heap.size,0,none⟩) 0 c.toNat) (w':=w.alloc (.cells (madeCells z.cells (c.toNat*i.size)) E)) ?_ fun a' hF'=>kk _ κ' a' _ hF' h1
  simp only [execOp,hop,evD,hx,hy,Option.getD_some]
  simp only [Sem.run_bind,hrun,Result.andThen]
  rfl
 ·cases hn
end
section
variable {M:List Nat}{κ0 κ:Gh}{w0 w:World}{C C':List Ck}{R R':List MP}
theorem SS.packC {r l:Nat} {rc:Loop} {Cp:List Ck} (h:SS M κ0 w0 κ w (.ext (mkX r l rc C R')::Cp) R):SS M κ0 w0 κ w [.ext (mkX r l rc (C++Cp) R')] R:=by
 have hb:blksOf [.ext (mkX r l rc (C++Cp) R')]=blksOf (.ext (mkX r l rc C R')::Cp):=by simp [blksOf,Ck.blks,mkX]
 refine ⟨h.ext,h.fresh,fun c hc=>?_,fun b hb'=>h.lt b (hb▸hb'),hb▸h.nd,fun b hb'=>h.own b (hb▸hb'),h.ro⟩
 obtain rfl:=List.mem_singleton.1 hc
 obtain ⟨h1,h2,h3,h4⟩:=(h.ok (.ext (mkX r l rc C R')) (by simp):(mkX r l rc C R').p κ w)
 exact ⟨h1,h2,fun c hc=>(List.mem_append.1 hc).elim (h3 c) (fun h5=>h.ok c (by simp [h5])),h4⟩
theorem SS.backC {w1:World}{κ':Gh}{w':World}{C2:List Ck}{R2:List MP}(h:SS M κ0 w0 κ w1 C R)(h2:SS (blksOf C) κ w1 κ' w' C2 R2):SS M κ0 w0 κ' w' C2 (R2++R) where
 ext:=h.ext.trans' h2.ext fun b hb=>h.own b hb
 fresh:=h2.fresh
 ok:=h2.ok
 lt:=h2.lt
 nd:=h2.nd
 own:=fun b hb=>(h2.own b hb).elim (fun h3 => .inl (Nat.le_trans h.ext.size h3)) (h.own b)
 ro:=fun m hm=>(List.mem_append.1 hm).elim (h2.ro m) fun hm=>m.mono h2.ext (h.ro m hm)
end
section
variable {P:Program}{Q:Exit→Act→World→Prop}{N:Nat}{D:List Deferred}{L L':FL}{a:Act}{w:World}
variable {M:List Nat}{κ0 κ:Gh}{w0:World}{C C':List Ck}{R R':List MP}
theorem wp_rangeC {Cap Cap2:List Ck}{Rc:List MP}{g:Operand}{ps:Array Tmp}{assign body:Code}{f:FuncId}{caps:Array Value}(hF:Fr N [] L a)(hS:SS M κ0 w0 κ w (C++Cap) R)(hcov:ev L g=some (.func (.func f) #[] caps))(hf : ∀args w,(callFunc f args).run P w = .ok (.enter f args) w)(hR : ∀m∈R',m.p κ w)
  (h : ∀r l fn w1,SS M κ0 w0 κ w1 (.ext (mkX r l {state := .ready,pending:=none,fn:=fn,tmps:=a.tmps,params:=ps,assign:=assign,body:=body,defers:=r} C R')::Cap) R →
   ∃Yf:XF→Prop,Calls P f (#[.func (.yield l) #[] #[]]++caps) w1 (Post (blksOf (.ext (mkX r l {state := .ready,pending:=none,fn:=fn,tmps:=a.tmps,params:=ps,assign:=assign,body:=body,defers:=r} C R')::Cap)) κ w1 fun _ κ' w'=>
     ∃x,Yf x∧SS (blksOf (.ext (mkX r l {state := .ready,pending:=none,fn:=fn,tmps:=a.tmps,params:=ps,assign:=assign,body:=body,defers:=r} C R')::Cap)) κ w1 κ' w' (.ext x::Cap2) Rc) ∧
    ∀x,Yf x → ∃rc' C'' R'',x=mkX r l rc' C'' R''∧rc'.state ≠ .busy ∧ ∀κ' w' a',Fr N [mark r] L a'→SS M κ0 w0 κ' w' (.ext (defX r)::(C''++Cap2)) (R''++(Rc++R)) →
     (match rc'.pending with|none=>Q .normal a' w'|some c=>c.wpIn (FW none) 0 P Q a' w')) :
  (Code.rangeFunc g ps assign body).wpIn (FW none) 0 P Q a w:=by
 refine wpIn_rangeFunc fun fn _=>?_
 let rc:Loop:={state := .ready,pending:=none,fn:=fn,tmps:=a.tmps,params:=ps,assign:=assign,body:=body,defers:=w.heap.size}
 have hS1:=(hS.step (Ext.allocN hS.fresh (.deferred (some [])) (fun c t fr h=>by cases h)) (hS.fresh.alloc _))
 have hS2:=(hS1.step (Ext.allocN hS1.fresh (.loop rc) (fun c t fr h=>by cases h)) (hS1.fresh.alloc _))
 have hsz1:(w.alloc (.deferred (some []))).heap.size=w.heap.size+1:=size_alloc _ _
 have hr:((w.alloc (.deferred (some []))).alloc (.loop rc)).heap[w.heap.size]? = some (.deferred (some [])):=(heap_alloc_old _ _ _ (by rw [hsz1]; omega)).trans (heap_alloc_new _ _)
 have hl:((w.alloc (.deferred (some []))).alloc (.loop rc)).heap[w.heap.size+1]? = some (.loop rc):=by rw [← hsz1]; exact heap_alloc_new _ _
 have hS3:SS M κ0 w0 κ ((w.alloc (.deferred (some []))).alloc (.loop rc)) (.ext (mkX w.heap.size (w.heap.size+1) rc [] [])::(C++Cap)) R:=by
  refine ⟨hS2.ext,hS2.fresh,fun c hc=>?_,fun b hb=>?_,?_,fun b hb=>?_,hS2.ro⟩
  ·rcases List.mem_cons.1 hc with rfl|hc
   ·exact ⟨⟨hr,hS.fresh _ (Nat.le_refl _)⟩,⟨hl,hS.fresh _ (by omega)⟩,(fun _ h=>by cases h),(fun _ h=>by cases h)⟩
   ·exact hS2.ok c hc
  ·rcases List.mem_cons.1 (show b∈w.heap.size::(w.heap.size+1)::blksOf (C++Cap) from hb) with rfl|hb
   ·simp only [size_alloc]; omega
   ·rcases List.mem_cons.1 hb with rfl|hb
    ·simp only [size_alloc]; omega
    ·exact hS2.lt b hb
  ·show (w.heap.size::(w.heap.size+1)::blksOf (C++Cap)).Nodup
   exact nodup_ext (bs:=[]) (by omega) hS.nd (fun h=>by have:=hS.lt _ h; omega) (fun h=>by have:=hS.lt _ h; omega)
  ·rcases List.mem_cons.1 (show b∈w.heap.size::(w.heap.size+1)::blksOf (C++Cap) from hb) with rfl|hb
   ·exact .inl hS.ext.size
   ·rcases List.mem_cons.1 hb with rfl|hb
    ·exact .inl (Nat.le_succ_of_le hS.ext.size)
    ·exact hS2.own b hb
 have hmono:Ext [] κ w κ ((w.alloc (.deferred (some []))).alloc (.loop rc)):=(Ext.allocN hS.fresh (.deferred (some [])) (fun c t fr h=>by cases h)).trans (Ext.allocN hS1.fresh (.loop rc) (fun c t fr h=>by cases h))
 have hS4:=hS3.pack (R':=R') fun m hm=>m.mono hmono (hR m hm)
 obtain ⟨Yf,hcall,hend⟩:=h _ _ fn _ hS4
 have hgv:a.eval g = .func (.func f) #[] caps:=hF.ev hcov
 let W1:=(w.alloc (.deferred (some []))).alloc (.loop rc)
 refine ⟨w.heap.size+1,[mark w.heap.size],W1,{target := .fn (.func f) caps,args := #[.func (.yield (w.heap.size+1)) #[] #[]]},W1,f,#[.func (.yield (w.heap.size+1)) #[] #[]]++caps,W1,run_enterLoop_outer _ _ _ _ _,?_,fun _ _=>trivial,?_,fun hd=>by simp [FW] at hd,?_⟩
 ·have hgen : ∀ρ:Operand→Value,ρ g = .func (.func f) #[] caps→(∀v,ρ (.const v)=v)→(resolve ρ (rangeCall g (w.heap.size+1)) 0).run P W1 = .ok {target := .fn (.func f) caps,args := #[.func (.yield (w.heap.size+1)) #[] #[]]} W1:=fun ρ h hk=>by
   simp [resolve,Deferred.ofValue,h,hk]
  exact hgen _ hgv fun _=>rfl
 ·simp [invoke,hf,go_sem]
 ·have hci:CallsIn (FW none) (0-1) P f (#[.func (.yield (w.heap.size+1)) #[] #[]]++caps) _ _:=(callsIn_wide (n:=0)).2 hcall
  refine CallsIn.mono hci fun e w' ⟨v,κ',he,_,_,x,hYx,hx⟩=>?_
  subst he
  obtain ⟨rc',C'',R'',rfl,hb,hk⟩:=hend x hYx
  obtain ⟨w'',hrun,hS5⟩:=(hS4.backC hx).packC.shut (P:=P) hb
  refine ⟨_,w'',hrun,hk κ' w'' _ ?_ hS5⟩
  exact ⟨by simp [hF.defers],hF.size,hF.val⟩
theorem wp_rangeC' {Cap Cap2:List Ck}{Rc:List MP}(js:List Code)(args:Nat→Array Value){g:Operand}{ps:Array Tmp}{assign body:Code}{f:FuncId}{caps:Array Value}(hF:Fr N [] L a)(hS:SS M κ0 w0 κ w (C++Cap) R)(hcov:ev L g=some (.func (.func f) #[] caps))(hf : ∀args w,(callFunc f args).run P w = .ok (.enter f args) w)(hR : ∀m∈R',m.p κ w)(hargs : ∀l,#[.func (.yield l) #[] #[]]++caps=args l)
  (h : ∀r l rc w1,(rc.params=ps∧rc.assign=assign∧rc.body=body∧rc.tmps=a.tmps)→SS M κ0 w0 κ w1 (.ext (mkX r l (lp rc js 0) C R')::Cap) R →
   ∃Yf:XF→Prop,Calls P f (args l) w1 (Post (blksOf (.ext (mkX r l (lp rc js 0) C R')::Cap)) κ w1 fun _ κ' w' => ∃x,Yf x∧SS (blksOf (.ext (mkX r l (lp rc js 0) C R')::Cap)) κ w1 κ' w' (.ext x::Cap2) Rc) ∧
    ∀x,Yf x → ∃n C'' R'',x=mkX r l (lp rc js n) C'' R'' ∧ ∀κ' w' a',Fr N [mark r] L a'→SS M κ0 w0 κ' w' (.ext (defX r)::(C''++Cap2)) (R''++(Rc++R))→jumped P Q js n a' w') :
  (Code.rangeFunc g ps assign body).wpIn (FW none) 0 P Q a w:=by
 refine wp_rangeC (Cap2:=Cap2) (Rc:=Rc) hF hS hcov hf hR fun r l fn w1 hS1=>?_
 obtain ⟨Yf,h1,h2⟩:=h r l {state := .ready,pending:=none,fn:=fn,tmps:=a.tmps,params:=ps,assign:=assign,body:=body,defers:=r} w1 ⟨rfl,rfl,rfl,rfl⟩ hS1
 refine ⟨Yf,by rw [hargs]; exact h1,fun x hx=>?_⟩
 obtain ⟨n,C'',R'',hxe,hk⟩:=h2 x hx
 exact ⟨_,C'',R'',hxe,lpState_ne n,hk⟩
end
section
variable {F:Fence}{n:Nat}{P:Program}{Q:Exit→Act→World→Prop}{a:Act}{w:World}
theorem stepR_scope {b:Frame} {k:List Item} {cs:List Frame} {c:Code}:step P (lone (b.atR a (.code (.scope c)::k)) cs w) = .next (lone (b.atR a (.code c :: .inScope c::k)) cs w):=
 step_lone_go (by simp [stepG,stepG.exec,Frame.atR])
theorem stepR_inScope {b:Frame} {k:List Item} {cs:List Frame} {c:Code}:step P (lone (b.atR a (.inScope c::k)) cs w) = .next (lone (b.atR a k) cs w):=
 step_lone_go (by simp [stepG,stepG.exec,Frame.atR])
theorem wpIn_scope {c:Code} (h:c.wpIn F n P (Exit.noGoto Q) a w):(Code.scope c).wpIn F n P Q a w:=by
 intro b k cs hro hb hr
 have h0:(lone (b.atR a (.code (.scope c)::k)) cs w).fenced P F:=fenced_calm hb hr rfl
 obtain ⟨e,a₁,w₁,hq,harr⟩:=h b (.inScope c::k) cs hro hb hr
 cases e with
 | normal=>exact ⟨.normal,a₁,w₁,hq,.head h0 stepR_scope (StepsIn.trans harr (.one (fenced_calm hb hr rfl) stepR_inScope))⟩
 | exit id'=>
  have hx:exitTo id' (.inScope c::k)=exitTo id' k:=by simp [exitTo]
  exact ⟨.exit id',a₁,w₁,hq,fun k' hk => .head h0 stepR_scope (harr.1 k' (by rw [hx]; exact hk)),
   fun hr' hk=>let ⟨k₁,h1,h2⟩:=harr.2 hr' (by rw [hx]; exact hk); ⟨k₁,h1,.head h0 stepR_scope h2⟩⟩
 | goto l=>exact hq.elim
 | ret=>exact ⟨.ret,a₁,w₁,hq,.of_steps (.one h0 stepR_scope) harr⟩
 | panic ch=>exact ⟨.panic ch,a₁,w₁,hq,.of_steps (.one h0 stepR_scope) harr⟩
 | outgrown=>exact ⟨.outgrown,a₁,w₁,hq,.of_steps (.one h0 stepR_scope) harr⟩
end
end Go.Cf
namespace Go.Cf
open Go
section
variable {ro:Option Nat}{P:Program}{ops:Array Oper}{Q:Exit→Act→World→Prop}{N:Nat}{D:List Deferred}{L L':FL}{a:Act}{w:World}{o:Oper}{K:Act→World→Prop}
variable {M:List Nat}{κ0 κ:Gh}{w0:World}{C C':List Ck}{R R':List MP}
theorem SS.cC (h:SS M κ0 w0 κ w C R) {C':List Ck} (e:C=C':=by kernel_rfl):SS M κ0 w0 κ w C' R:=e▸h
end
end Go.Cf
namespace Go.Cf
open Go Go.MapKept
set_option linter.unusedVariables false
def Ent.mp {K:Type} (kt:KT K) (es:Array MapEntry) (k:K) (st:Int):MP:=MP.const (∃e∈es.toList,(e.born:Int)=st∧e.key=kt.enc k)
section
variable {ro:Option Nat}{P:Program}{ops:Array Oper}{Q:Exit→Act→World→Prop}{N:Nat}{D:List Deferred}{L L':FL}{a:Act}{w:World}{o:Oper}{G:Act→World→Prop}
variable {M:List Nat}{κ0 κ:Gh}{w0:World}{C C':List Ck}{R R':List MP}
variable {K V:Type} [DecidableEq K] [KO K]{kt:KT K}{agg:Bool}{t:Ty V}{p:Option Nat}{es:Array MapEntry}{clk:Nat}{m:Mp K V}
theorem lPut_same {l:List (K×V)} (hs:Srt l) {k:K} {v:V} (h:lFind l k=some v):lPut l k v=l:=by
 refine (lPut_srt hs k v).ext hs fun k'=>?_
 rw [lPut_find]
 split
 ·rename_i e; subst e; exact h.symm
 ·rfl
theorem modify_id {es:Array MapEntry} {j:Nat} {f:MapEntry→MapEntry} (h : ∀e,es[j]? = some e→f e=e):es.modify j f=es:=by
 apply Array.ext_getElem?
 intro i
 rw [Array.getElem?_modify]
 split
 ·rename_i e; subst e
  cases hj:es[j]? with
  | none=>rfl
  | some e=>simp [h e hj]
 ·rfl
theorem run_mapEntry {T KT E:Nat}{z:Value}{zc:List Value}{zm:V}{k:K}{r:V×Bool}{m':Mp K V}(ht:P.underlying T=some (.map KT E))(hk:P.underlying KT=some kt.desc)(hz:(zeroValue E).run P w = .ok z w)(hzv:z=mkV agg zc)(hzr:t.rep κ w zc zm)
  (hm:MapAt kt agg t κ w p es clk m) (hb : ∀b,p=some b→w.heap[b]? = some (.map es clk)) (hr:mgt m k zm=some r) (hp:mPut m k r.1=some m') :
  ∃b es' clk' cs st,p=some b∧(Instr.mapEntry T (.map p) (kt.enc k)).run P w = .ok (.tuple #[mkV agg cs,.int .i64 st]) {w with heap:=w.heap.setIfInBounds b (.map es' clk')}∧t.rep κ w cs r.1∧MapAt kt agg t κ w p es' clk' m'∧(Ent.mp kt es' k st).p κ w:=by
 subst hzv
 simp only [mgt,Option.some.injEq] at hr
 subst hr
 cases m with
 | none=>cases hp
 | some l=>
  simp only [mPut,Option.map_some,Option.some.injEq] at hp
  subst hp
  obtain ⟨hp,hs,l0,hl,hf⟩:=hm
  obtain ⟨b,rfl⟩:=Option.isSome_iff_exists.1 hp
  have hb':=hb b rfl
  have hfk:=hf k
  rcases hl.find k with ⟨h1,h2,h3⟩ | ⟨j,e,v0,cs0,h1,h2,h3,h4,h5,h6,h7⟩
  ·rw [h2] at hfk
   have hg:(mGet (some l) k).getD zm=zm:=by simp [mGet,← hfk]
   rw [hg]
   refine ⟨b,es.push ⟨kt.enc k,mkV agg zc,clk⟩,clk+1,zc,(clk:Int),rfl,?_,hzr,⟨rfl,lPut_srt hs k zm,rPut l0 k zm,⟨stamped_push hl.st h3,?_,fun i e x he hx=>?_⟩,fun k'=>by rw [rPut_find,lPut_find,hf]⟩,⟨⟨kt.enc k,mkV agg zc,clk⟩,by simp,rfl,rfl⟩⟩
   ·simp [Instr.mapEntry,run_underlying ht,MapKept.run_getObj_map hb',run_checkKey hk (kt.key k),run_findKey hk h1,hz,MapKept.run_setObj_map _ hb',Result.andThen,goInt]
   ·rw [rPut_new h2]; simp [hl.keys]
   ·rw [rPut_new h2] at hx
    simp only [Array.toList_push] at he
    rw [List.getElem?_append] at he hx
    rw [hl.len] at he
    split at hx
    ·rename_i hi
     rw [if_pos hi] at he
     exact hl.vals i e x he hx
    ·rename_i hi
     rw [if_neg hi] at he
     have e0:i-l0.length=0:=by
      have:=(List.getElem?_eq_some_iff.1 hx).1
      simp at this; omega
     rw [e0] at he hx
     simp at he hx
     subst he hx
     exact ⟨zc,rfl,hzr⟩
  ·rw [h5] at hfk
   have hg:(mGet (some l) k).getD zm=v0:=by simp [mGet,← hfk]
   rw [hg]
   have hj:es[j]? = some e:=by simpa using h2
   have hid:es.modify j (fun e'=>{e' with key:=kt.enc k})=es:=modify_id fun e' he'=>by rw [hj] at he'; cases he'; rw [← h4]
   refine ⟨b,es,clk,cs0,(e.born:Int),rfl,?_,h7,⟨rfl,lPut_srt hs k v0,l0,hl,fun k'=>by rw [lPut_same hs hfk.symm,hf]⟩,⟨e,List.mem_of_getElem? h2,rfl,h4⟩⟩
   simp [Instr.mapEntry,run_underlying ht,MapKept.run_getObj_map hb',run_checkKey hk (kt.key k),run_findKey hk h1,hj,h4,h6,run_keyThatStays (kt.key k),MapKept.run_setObj_map _ hb',Result.andThen,goInt,hid]
theorem wo_mapEntry (hF:Fr N D L a)(hS:SS M κ0 w0 κ w C R)(hc:okOp N L o=true)(ci ri:Nat){T KT E:Nat}{x y:Operand}{k:K}{zc:List Value}{zm:V}{r:V×Bool}{m':Mp K V}(hop:o.op = .mapEntry T x y)(hx:ev L x=some (.map p))(hy:ev L y=some (kt.enc k))
  (hC:C[ci]? = some (.ext (objX p (.map es clk)))) (hR:R[ri]? = some (Map.mp kt agg t p es clk m)) (hr:mgt m k zm=some r) (hp:mPut m k r.1=some m')
  (ht:pureRun P (underlying T)=some (.map KT E)) (hk:pureRun P (underlying KT)=some kt.desc) (hz:pureRun P (zeroValue E)=some (mkV agg zc)) (hzr : ∀κ w,t.rep κ w zc zm)
  (kk : ∀es' clk' cs st a' w',t.rep κ w cs r.1→Fr N D (upd L o.dst (.tuple #[mkV agg cs,.int .i64 st])) a'→SS M κ0 w0 κ w' (C.set ci (.ext (objX p (.map es' clk')))) (Map.mp kt agg t p es' clk' m'::Ent.mp kt es' k st::R)→G a' w'):wo ro P o a w G Q:=by
 obtain ⟨b,es',clk',cs,st,rfl,h1,h2,h3,h4⟩:=run_mapEntry (P:=P) (w:=w) (k:=k) (underlying_of ht) (underlying_of hk) (pureRun_run _ hz w) rfl (hzr κ w) (hS.get ri hR) (fun b hb=>((hS.ck ci hC : ∀b',p=some b'→_) b hb).1) hr hp
 refine wo_val hF hc (v := .tuple #[mkV agg cs,.int .i64 st]) (w':={w with heap:=w.heap.setIfInBounds b (.map es' clk')}) ?_ fun a' hF'=>kk es' clk' cs st a' _ h2 hF' ((hS.add h4).setMap ci hC rfl rfl h3)
 simp only [execOp,hop,evD,hx,hy,Option.getD_some]
 simp only [Sem.run_bind,h1,Result.andThen]
 rfl
theorem find_born {es:Array MapEntry} {clk:Nat} (hs:Stamped es clk) {j:Nat} {e:MapEntry} (h:es.toList[j]? = some e):es.findIdx? (fun x=>(x.born:Int)==(e.born:Int))=some j:=by
 have hj:=(List.getElem?_eq_some_iff.1 h).1
 have hje:=(List.getElem?_eq_some_iff.1 h).2
 have hnd:=hs.2.1
 rw [show es.findIdx? (fun x=>(x.born:Int)==(e.born:Int))=es.toList.findIdx? (fun x=>(x.born:Int)==(e.born:Int)) from by cases es; simp,List.findIdx?_eq_some_iff_getElem]
 refine ⟨hj,by rw [hje]; simp,fun i hi=>?_⟩
 have hil:i<es.toList.length:=by omega
 intro hb
 have hb':(es.toList[i]).born=e.born:=Int.ofNat.inj (eq_of_beq hb)
 have h1:(es.toList.map (·.born))[i]? = some e.born:=by rw [List.getElem?_map,List.getElem?_eq_getElem hil]; exact congrArg some hb'
 have h2:(es.toList.map (·.born))[j]? = some e.born:=by rw [List.getElem?_map,h]; rfl
 have:=(List.getElem?_inj (by simpa using hil) hnd).1 (h1.trans h2.symm)
 omega
theorem run_entryStore {T:Nat}{k:K}{v:V}{cs:List Value}{st:Int}{m':Mp K V}(hv:t.rep κ w cs v)
  (hm:MapAt kt agg t κ w p es clk m) (hb : ∀b,p=some b→w.heap[b]? = some (.map es clk)) (he:(Ent.mp kt es k st).p κ w) (hp:mPut m k v=some m') :
  ∃b es',p=some b∧(Instr.entryStore T (.map p) (.int .i64 st) (mkV agg cs)).run P w = .ok () {w with heap:=w.heap.setIfInBounds b (.map es' clk)}∧MapAt kt agg t κ w p es' clk m':=by
 obtain ⟨e1,he1,hst,hek⟩:=he
 cases m with
 | none=>cases hp
 | some l=>
  simp only [mPut,Option.map_some,Option.some.injEq] at hp
  subst hp
  obtain ⟨hp,hs,l0,hl,hf⟩:=hm
  obtain ⟨b,rfl⟩:=Option.isSome_iff_exists.1 hp
  have hb':=hb b rfl
  rcases hl.find k with ⟨h1,h2,h3⟩ | ⟨j,e,v0,cs0,h1,h2,h3,h4,h5,h6,h7⟩
  ·exact absurd hek (h3 e1 he1)
  ·have hj:es[j]? = some e:=by simpa using h2
   have hee:e1=e:=by
    obtain ⟨i,hi⟩:=List.mem_iff_getElem?.1 he1
    have hil:=(List.getElem?_eq_some_iff.1 hi).1
    have hkn:=hl.st.2.2
    have h1':(es.toList.map (·.key))[i]? = some (kt.enc k):=by rw [List.getElem?_map,hi]; simp [hek]
    have h2':(es.toList.map (·.key))[j]? = some (kt.enc k):=by rw [List.getElem?_map,h2]; simp [h4]
    have hij:=(List.getElem?_inj (by simpa using hil) hkn).1 (h1'.trans h2'.symm)
    subst hij
    rw [hi] at h2; exact Option.some.inj h2
   subst hee
   have hfi:=find_born hl.st h2
   rw [hst] at hfi
   have hkeyf : ∀e',es[j]? = some e'→({e' with val:=mkV agg cs}:MapEntry).key=e'.key:=fun e' _=>rfl
   have hlist:=modify_toList h2 (fun e'=>{e' with val:=mkV agg cs})
   refine ⟨b,es.modify j (fun e'=>{e' with val:=mkV agg cs}),rfl,?_,⟨rfl,lPut_srt hs k v,rPut l0 k v,⟨stamped_modify hl.st _ _ (fun _ _=>rfl) (fun e' _ he'=>hkeyf e' he'),?_,fun i x y hx hy=>?_⟩,fun k'=>by rw [rPut_find,lPut_find,hf]⟩⟩
   ·simp [Instr.entryStore,MapKept.run_getObj_map hb',asInt,asIntOf,hfi,MapKept.run_setObj_map _ hb',Result.andThen]
   ·rw [modify_keys _ _ hkeyf,hl.keys,rPut_old hl.nodup h3]
    apply List.ext_getElem?
    intro i
    simp only [List.getElem?_map,List.getElem?_set]
    by_cases q:j=i
    ·subst q; rw [h3]; simp [(List.getElem?_eq_some_iff.1 h3).1]
    ·simp [q]
   ·rw [hlist] at hx
    rw [rPut_old hl.nodup h3] at hy
    rcases set_at hx with ⟨q,rfl⟩ | ⟨q,hx⟩
    ·rcases set_at hy with ⟨_,rfl⟩ | ⟨q',_⟩
     ·exact ⟨cs,rfl,hv⟩
     ·exact absurd q q'
    ·rcases set_at hy with ⟨q',_⟩ | ⟨_,hy⟩
     ·exact absurd q' q
     ·exact hl.vals i x y hx hy
theorem wo_entryStore (hF:Fr N D L a)(hS:SS M κ0 w0 κ w C R)(hc:okOp N L o=true)(ci ri ei:Nat){T:Nat}{x y u:Operand}{k:K}{v:V}{cs:List Value}{st:Int}{m':Mp K V}(hop:o.op = .entryStore T x y u)(hx:ev L x=some (.map p))(hy:ev L y=some (.int .i64 st))(hu:ev L u=some (mkV agg cs))(hv:t.rep κ w cs v)
  (hC:C[ci]? = some (.ext (objX p (.map es clk)))) (hR:R[ri]? = some (Map.mp kt agg t p es clk m)) (hE:R[ei]? = some (Ent.mp kt es k st)) (hp:mPut m k v=some m')
  (kk : ∀es' a' w',Fr N D (upd L o.dst undef) a'→SS M κ0 w0 κ w' (C.set ci (.ext (objX p (.map es' clk)))) (Map.mp kt agg t p es' clk m'::R)→G a' w'):wo ro P o a w G Q:=by
 obtain ⟨b,es',rfl,h1,h2⟩:=run_entryStore (P:=P) (w:=w) (T:=T) hv (hS.get ri hR) (fun b hb=>((hS.ck ci hC : ∀b',p=some b'→_) b hb).1) (hS.get ei hE) hp
 refine wo_skip hF hc ?_ fun a' hF'=>kk es' a' _ hF' (hS.setMap ci hC rfl rfl h2)
 simp only [execOp,hop,evD,hx,hy,hu,Option.getD_some]
 simp [h1]
end
section
variable {M:List Nat}{κ0 κ:Gh}{w0 w:World}{C:List Ck}{R:List MP}
end
end Go.Cf
namespace Go.Cf
open Go
def apdW {α:Type} (l l':List α):Option (List α):=if l.length+l'.length≤4398046511104 then some (l++l') else none
theorem apdW_some {α:Type} {l l' m:List α} (h:apdW l l'=some m):l.length+l'.length≤4398046511104∧m=l++l':=by
 unfold apdW at h
 split at h
 ·simp only [Option.some.injEq] at h; exact ⟨by assumption,h.symm⟩
 ·cases h
theorem apdW_ok {α:Type} {l m:List α} (h:l.length+m.length≤4398046511104):apdW l m=some (l++m):=by simp [apdW,h]
section
variable {ro:Option Nat}{P:Program}{ops:Array Oper}{Q:Exit→Act→World→Prop}{N:Nat}{D:List Deferred}{L L':FL}{a:Act}{w:World}{o:Oper}{K:Act→World→Prop}
variable {M:List Nat}{κ0 κ:Gh}{w0:World}{C C':List Ck}{R R':List MP}
theorem wo_appendW (hF:Fr N D L a)(hS:SS M κ0 w0 κ w C R)(hc:okOp N L o=true){α:Type}{ty:Ty α}(ci ri ri2:Nat){t E c c2 n n2:Nat}{i:TypeInfo}{z:Value}{p p2:Option Addr}{l l2 l':List α}{x y:Operand}
  (hop:o.op = .call {callee := .builtin .append,args := #[x,y],argTypes := #[t,t]}) (hx:ev L x=some (.slice p n c)) (hy:ev L y=some (.slice p2 n2 c2)) (hn:n=l.length) (hn2:n2=l2.length) (hC:C[ci]? = some (.tok p E ty.size n c))
  (hR:R[ri]? = some (Ro.mp ty p c l)) (hR2:R[ri2]? = some (Ro.mp ty p2 c2 l2)) (ha:apdW l l2=some l')
  (ht:pureRun P (underlying t)=some (.slice E)) (hi:P.info? E=some i) (hz:i.zero=some z) (hsize:(i.size==ty.size&&z.cells.size==ty.size&&decide (i.bytes≤48)&&decide (0<ty.size))=true)
  (kk : ∀p' c' κ' a' w',Fr N D (upd L o.dst (.slice p' l'.length c')) a'→SS M κ0 w0 κ' w' (C.set ci (.tok p' E ty.size l'.length c')) (Ro.mp ty p' c' l'::R)→K a' w'):wo ro P o a w K Q:=by
 obtain ⟨hlen,rfl⟩:=apdW_some ha
 subst hn hn2
 simp only [Bool.and_eq_true,beq_iff_eq,decide_eq_true_eq] at hsize
 obtain ⟨⟨⟨hs1,hs2⟩,hs3⟩,hs4⟩:=hsize
 have hl:Ro ty κ w p c l:=hS.get ri hR
 have hl2:Ro ty κ w p2 c2 l2:=hS.get ri2 hR2
 have htok:=hS.ck ci hC
 have hblk : ∀b∈(Ck.tok p E ty.size l.length c).blks,b∈blksOf C:=fun b hb=>List.mem_flatMap.2 ⟨_,List.mem_of_getElem? hC,hb⟩
 obtain ⟨p',c',κ',w',hrun,hext,hfr,hro,htok',hb'⟩:=run_appendG (P:=P) (y:=o.type) ty (underlying_of ht) hi hz hs1 hs2 rfl hs4 hS.fresh htok (fun b hb=>hS.lt b (hblk b hb)) hl hl2 (by omega) (Nat.le_trans (Nat.mul_le_mul (show (l.length+l2.length)+(l.length+l2.length) / 4+192≤5497558139072 by omega) hs3) (by decide))
 have hval:(execOp (evD L) o).run P w = .ok (.value (.slice p' (l++l2).length c')) w':=by
  have hex:evD L x = .slice p l.length c:=by simp [evD,hx]
  have hey:evD L y = .slice p2 l2.length c2:=by simp [evD,hy]
  simp only [execOp,hop]
  simp [resolve,invoke,Go.builtin,hex,hey,hrun]
 obtain ⟨hCe,hCs⟩:=set_split (c' := .tok p' E ty.size (l++l2).length c') hC
 refine wo_val hF hc hval fun a' hF'=>kk p' c' κ' a' w' hF' ?_
 rw [hCs]
 exact (hS.turn _ _ hCe hext hfr htok' (fun b hb=>(hb' b hb).1) (fun b hb=>(hb' b hb).2) (by cases p'<;>simp [Ck.blks])).add hro
end
end Go.Cf
namespace Go.Cf
open Go
set_option linter.unusedVariables false
def pa (o:Option Nat):Option Addr:=o.map fun b=>⟨b,0,none⟩
section
variable {M:List Nat}{κ0 κ:Gh}{w0 w:World}{C C':List Ck}{R R':List MP}
theorem SS.recast (h:SS M κ0 w0 κ w C R) (hok : ∀c∈C',c.ok κ w) (D:List Nat) (hb:(blksOf C'++D).Perm (blksOf C)):SS M κ0 w0 κ w C' R:=by
 have hm : ∀b∈blksOf C',b∈blksOf C:=fun b hb'=>hb.mem_iff.1 (List.mem_append.2 (.inl hb'))
 exact ⟨h.ext,h.fresh,hok,fun b hb'=>h.lt b (hm b hb'),(List.nodup_append.1 (hb.nodup_iff.2 h.nd)).1,fun b hb'=>h.own b (hm b hb'),h.ro⟩
end
structure OT (α:Type) where
 x:Nat→List Nat→α→XF
 bs : ∀b bs a,(x b bs a).bs=bs
theorem cksMono {A:List Ck} {bs M:List Nat} {κ κ':Gh} {w w':World} (hp:(blksOf A).Perm bs) (he:Ext M κ w κ' w') (hb : ∀b∈bs,b<w.heap.size∧b ∉ M) (h : ∀c∈A,c.ok κ w) : ∀c∈A,c.ok κ' w':=fun c hc=>
 have hm : ∀b∈c.blks,b∈bs:=fun b hb'=>hp.mem_iff.1 (List.mem_flatMap.2 ⟨c,hc,hb'⟩)
 Ck.ok_keep (h c hc) (fun b hb'=>(hb b (hm b hb')).1) he fun b hb'=>(hb b (hm b hb')).2
def OT.of {α H:Type}(ck:Nat→H→α→List Ck)(fs:H→α→List MP):OT α where
 x b bs a:={
        bs:=bs
        p:=fun κ w => ∃h:H,(blksOf (ck b h a)).Perm bs∧(∀c∈ck b h a,c.ok κ w) ∧ ∀m∈fs h a,m.p κ w
        mono:=fun {M κ w κ' w'} he hb ⟨h,h1,h2,h3⟩=>⟨h,h1,cksMono h1 he hb h2,fun m hm=>m.mono he (h3 m hm)⟩}
 bs _ _ _:=rfl
section
variable {M:List Nat}{κ0 κ:Gh}{w0 w:World}{C C':List Ck}{R R':List MP}
variable {α H:Type}{ck:Nat→H→α→List Ck}{fs:H→α→List MP}{b:Nat}{bs:List Nat}{a:α}{O:OT α}{p:Option Nat}{o:Option α}{ps:List (Option Nat)}{xs:List (Option α)}
theorem SS.fold {h:H} (hS:SS M κ0 w0 κ w (ck b h a++C) R) (hf : ∀m∈fs h a,m.p κ w):SS M κ0 w0 κ w (.ext ((OT.of ck fs).x b (blksOf (ck b h a)) a)::C) R:=by
 refine hS.recast (fun c hc=>?_) [] (by rw [List.append_nil,blksOf_append]; exact List.Perm.refl _)
 rcases List.mem_cons.1 hc with rfl|hc
 ·exact ⟨h,List.Perm.refl _,fun c hc=>hS.ok c (List.mem_append.2 (.inl hc)),hf⟩
 ·exact hS.ok c (List.mem_append.2 (.inr hc))
end
section
variable {P:Program}{M:List Nat}{κ0:Gh}{w0:World}{Cin Cr:List Ck}{R:List MP}
end
end Go.Cf
namespace Go.Cf
open Go
set_option linter.unusedVariables false
def pblk:Option Addr→List Nat
 | some a=>[a.block]
 | none=>[]
def ownX {α:Type}(t:FT α)(E:Nat)(p:Option Addr)(c:Nat)(l:List α):XF where
 bs:=pblk p
 p κ w:=(l=[]∧c=0∧p=none) ∨ ∃b off cells,p=some ⟨b,off,none⟩∧κ b=none∧l.length≤c∧c≤maxLen∧w.heap[b]? = some (.cells cells E (0,0))∧(c≠0→cells.size=off+c*t.size) ∧
  ∀i x,l[i]? = some x → ∀j v,(t.enc x)[j]? = some v→cells[off+i*t.size+j]? = some v
 mono:=fun {M κ w κ' w'} he hb h=>by
  rcases h with h | ⟨b,off,cells,rfl,h1,h2,h3,h4,h5,h6⟩
  ·exact .inl h
  ·obtain ⟨hlt,hm⟩:=hb b (by simp [pblk])
   obtain ⟨k1,k2⟩:=he.keep b hlt hm
   exact .inr ⟨b,off,cells,rfl,k2.trans h1,h2,h3,k1.trans h4,h5,h6⟩
section
variable {ro:Option Nat}{P:Program}{ops:Array Oper}{Q:Exit→Act→World→Prop}{N:Nat}{D:List Deferred}{L L':FL}{a:Act}{w:World}{o:Oper}{K:Act→World→Prop}
variable {M:List Nat}{κ0 κ:Gh}{w0:World}{C C':List Ck}{R R':List MP}
variable {α:Type}{t:FT α}{E c:Nat}{p:Option Addr}{l:List α}
theorem ownX.at {κ:Gh}{w:World}(h:(ownX t E p c l).p κ w){k:Nat}{x:α}(hk:l[k]? = some x) : ∃b off cells,p=some ⟨b,off,none⟩∧κ b=none∧l.length≤c∧c≤maxLen∧w.heap[b]? = some (.cells cells E (0,0))∧(c≠0→cells.size=off+c*t.size) ∧
  ∀i x,l[i]? = some x → ∀j v,(t.enc x)[j]? = some v→cells[off+i*t.size+j]? = some v:=by
 rcases h with ⟨rfl,-⟩|h
 ·simp at hk
 ·exact h
theorem SS.addOwn (h:SS M κ0 w0 κ w C R) (t:FT α) (E:Nat):SS M κ0 w0 κ w (.ext (ownX t E none 0 [])::C) R:=by
 refine h.recast (fun c hc=>?_) [] (by rw [List.append_nil]; exact List.Perm.refl _)
 rcases List.mem_cons.1 hc with rfl|hc
 ·exact .inl ⟨rfl,rfl,rfl⟩
 ·exact h.ok c hc
theorem SS.ptrO (hS:SS M κ0 w0 κ w C R) (ci:Nat) {i:Int} {y:α} (hC:C[ci]? = some (.ext (ownX t E p c l))) (hi:idx l i=some y) : ∃b off,p=some ⟨b,off,none⟩:=by
 obtain ⟨b,off,_,hp,_⟩:=ownX.at (hS.ck ci hC:(ownX t E p c l).p κ w) (idx_some hi).2.2
 exact ⟨b,off,hp⟩
theorem wo_indexO (hF:Fr N D L a)(hS:SS M κ0 w0 κ w C R)(hc:okOp N L o=true)(ci:Nat){T sz n:Nat}{kd:IntKind}{i:Int}{y:α}{x ix:Operand}(hop:o.op = .indexAddr T x ix)(hC:C[ci]? = some (.ext (ownX t E p c l)))
  (hx:ev L x=some (.slice p n c)) (hn:n=l.length) (hix:ev L ix=some (.int kd i)) (hi:idx l i=some y) (hu:pureRun P (underlying T)=some (.slice E)) (hs:pureRun P (sizeOf E)=some sz)
  (kk : ∀b off a',p=some ⟨b,off,none⟩→Fr N D (upd L o.dst (.pointer (some ⟨b,off+i.toNat*sz,none⟩))) a'→K a' w):wo ro P o a w K Q:=by
 obtain ⟨h0,h1,h2⟩:=idx_some hi
 obtain ⟨b,off,hp⟩:=hS.ptrO ci hC hi
 refine wo_val hF hc (v := .pointer (some ⟨b,off+i.toNat*sz,none⟩)) (w':=w) ?_ fun a' hF'=>kk b off a' hp hF'
 simp only [execOp,hop,evD,hx,hix,Option.getD_some]
 subst hn hp
 have hlt:i<(l.length:Int):=by omega
 simp [Instr.indexAt,asIntOf,run_underlying' hu,pureRun_run _ hs w,h0,hlt,add_off]
theorem wo_storeO (hF:Fr N D L a)(hS:SS M κ0 w0 κ w C R)(hc:okOp N L o=true)(ci:Nat){T b off Eo sz:Nat}{i:Int}{y z:α}{x x':Operand}{v:Value}(hop:o.op = .store T x x')(hx:ev L x=some (.pointer (some ⟨b,Eo,none⟩)))(hy:ev L x'=some v)(hC:C[ci]? = some (.ext (ownX t E p c l)))
  (hp:p=some ⟨b,off,none⟩) (hi:idx l i=some y) (hE:off+i.toNat*t.size=Eo) (hsz:pureRun P (sizeOf T)=some sz) (hts:t.size=sz) (hvs:v.cells=(t.enc z).toArray)
  (kk : ∀a' w',Fr N D (upd L o.dst undef) a'→SS M κ0 w0 κ w' (C.set ci (.ext (ownX t E p c (l.set i.toNat z)))) R→K a' w'):wo ro P o a w K Q:=by
 subst hp hts
 obtain ⟨h0,hil,hiy⟩:=idx_some hi
 obtain ⟨b',off',cells,hp',h1,h2,h3,h4,h5,h6⟩:=ownX.at (hS.ck ci hC:(ownX t E _ c l).p κ w) hiy
 simp only [Option.some.injEq,Addr.mk.injEq] at hp'
 obtain ⟨rfl,rfl,_⟩:=hp'
 have h5e:=h5 (by omega)
 have hmul:i.toNat*t.size+t.size≤l.length*t.size:=by
  have:(i.toNat+1)*t.size≤l.length*t.size:=Nat.mul_le_mul_right _ hil
  rw [Nat.add_mul,Nat.one_mul] at this
  exact this
 have hmulc:l.length*t.size≤c*t.size:=Nat.mul_le_mul_right _ h2
 have hbm:b∈blksOf C:=List.mem_flatMap.2 ⟨_,List.mem_of_getElem? hC,by simp [Ck.blks,ownX,pblk]⟩
 have hblt:b<w.heap.size:=hS.lt b hbm
 have hzl:=t.len z
 have hst:=run_storeCells_at P b Eo E (t.enc z) 0 cells w h4 (by rw [hzl,h5e]; omega) (t.one z)
 simp only [Nat.add_zero] at hst
 rw [setRow_eq w b E _ _ h4] at hst
 have hst':(Instr.storeAt T (.pointer (some ⟨b,Eo,none⟩)) v).run P w = .ok () {w with heap:=w.heap.setIfInBounds b (.cells (cells.toList.take Eo++t.enc z++cells.toList.drop (Eo+(t.enc z).length)).toArray E (0,0))}:=by
  have e1:v.cells.toList=t.enc z:=by rw [hvs]
  have e2:v.cells.size=t.size:=by rw [hvs]; simpa using hzl
  simp [Instr.storeAt,Instr.sureAddr,storeVar,pureRun_run _ hsz w,e1,e2,hst]
 generalize harr:(cells.toList.take Eo++t.enc z++cells.toList.drop (Eo+(t.enc z).length)).toArray=arr at hst'
 have hal:arr.size=cells.size:=by
  subst harr
  simp only [List.size_toArray,List.length_append,List.length_take,List.length_drop,Array.length_toList]
  omega
 have harrk : ∀k,arr[k]? = if k<Eo then cells[k]? else if k<Eo+t.size then (t.enc z)[k-Eo]? else cells[k]? := fun k=>by
  subst harr
  have hEc:Eo+t.size≤cells.toList.length:=by simp only [Array.length_toList]; omega
  rw [List.getElem?_toArray,List.append_assoc]
  by_cases hk1:k<Eo
  ·rw [if_pos hk1,List.getElem?_append_left (by simp; omega),List.getElem?_take,if_pos hk1]; simp
  ·rw [if_neg hk1,List.getElem?_append_right (by simp; omega)]
   have hlt:(cells.toList.take Eo).length=Eo:=by simp; omega
   rw [hlt]
   by_cases hk2:k<Eo+t.size
   ·rw [if_pos hk2,List.getElem?_append_left (by omega)]
   ·rw [if_neg hk2,List.getElem?_append_right (by omega),List.getElem?_drop]
    simp only [Array.getElem?_toList]
    congr 1; omega
 let w':World:={w with heap:=w.heap.setIfInBounds b (.cells arr E (0,0))}
 have hother : ∀b',b'≠b→w'.heap[b']? = w.heap[b']? := fun b' hne=>by
  show (w.heap.setIfInBounds b _)[b']? = _
  rw [Array.getElem?_setIfInBounds_ne (Ne.symm hne)]
 have hme:w'.heap[b]? = some (.cells arr E (0,0)):=by
  show (w.heap.setIfInBounds b _)[b]? = _
  simp [hblt]
 have hext:Ext (Ck.ext (ownX t E (some ⟨b,off,none⟩) c l)).blks κ w κ w':=
  ⟨rfl,rfl,rfl,by simp [w'],fun b' _ hm=>⟨hother b' (by simpa [Ck.blks,ownX,pblk] using hm),rfl⟩,fun b' n hn=>⟨n,hn,Nat.le_refl _,fun k _=>cell_of_heap (hother b' fun e=>by rw [e,h1] at hn; cases hn)⟩⟩
 obtain ⟨hCe,hCs⟩:=set_split (c' := .ext (ownX t E (some ⟨b,off,none⟩) c (l.set i.toNat z))) hC
 refine wo_skip hF hc (exec_store hop hx hy hst') fun a' hF'=>kk a' w' hF' ?_
 rw [hCs]
 refine hS.turn _ _ hCe hext (fun b' hb'=>hS.fresh b' (by simpa [w'] using hb')) ?_ (fun b' hb' => .inl hb') (fun b' hb'=>?_) (by simp [Ck.blks,ownX,pblk])
 ·refine .inr ⟨b,off,arr,rfl,h1,by rw [List.length_set]; exact h2,h3,hme,fun hc0=>by rw [hal]; exact h5 hc0,fun j u hj q e he=>?_⟩
  have hql:q<t.size:=by rw [← t.len u]; exact (List.getElem?_eq_some_iff.1 he).1
  rw [harrk]
  rw [List.getElem?_set] at hj
  split at hj
  ·rename_i hij
   simp only [Option.some.injEq] at hj
   subst hij hj
   rw [if_neg (by omega),if_pos (by omega),show off+i.toNat*t.size+q-Eo=q from by omega]; exact he
  ·rename_i hij
   have hju:=h6 _ _ hj q e he
   rcases Nat.lt_or_gt_of_ne hij with h|h
   ·have:(i.toNat+1)*t.size≤j*t.size:=Nat.mul_le_mul_right _ h
    rw [Nat.add_mul,Nat.one_mul] at this
    rw [if_neg (by omega),if_neg (by omega)]; exact hju
   ·have:(j+1)*t.size≤i.toNat*t.size:=Nat.mul_le_mul_right _ h
    rw [Nat.add_mul,Nat.one_mul] at this
    rw [if_pos (by omega)]; exact hju
 ·have:b'=b:=by simpa [Ck.blks,ownX,pblk] using hb'
  subst this; simpa [w'] using hblt
def apd1 {α:Type} (l l':List α):Option (List α):=if l'.isEmpty then none else apd l l'
theorem wo_appendO (hF:Fr N D L a)(hS:SS M κ0 w0 κ w C R)(hc:okOp N L o=true)(ci ri2:Nat){T c2 n n2:Nat}{i:TypeInfo}{z:Value}{p2:Option Addr}{l2 l':List α}{x y:Operand}
  (hop:o.op = .call {callee := .builtin .append,args := #[x,y],argTypes := #[T,T]}) (hx:ev L x=some (.slice p n c)) (hy:ev L y=some (.slice p2 n2 c2)) (hn:n=l.length) (hn2:n2=l2.length) (hC:C[ci]? = some (.ext (ownX t E p c l)))
  (hR2:R[ri2]? = some (Ro.mp t.ty p2 c2 l2)) (ha:apd1 l l2=some l')
  (ht:pureRun P (underlying T)=some (.slice E)) (hi:P.info? E=some i) (hz:i.zero=some z) (hsize:(i.size==t.size&&z.cells.size==t.size&&decide (i.bytes≤4096)&&decide (0<t.size))=true)
  (kk : ∀p' c' κ' a' w',Fr N D (upd L o.dst (.slice p' l'.length c')) a'→SS M κ0 w0 κ' w' (C.set ci (.ext (ownX t E p' c' l'))) R→K a' w'):wo ro P o a w K Q:=by
 unfold apd1 at ha
 split at ha
 ·cases ha
 rename_i hne
 have hpos:0<l2.length:=by cases l2 with
  | nil=>simp at hne
  | cons=>simp
 obtain ⟨hlen,rfl⟩:=apd_some ha
 subst hn hn2
 simp only [Bool.and_eq_true,beq_iff_eq,decide_eq_true_eq] at hsize
 obtain ⟨⟨⟨hs1,hs2⟩,hs3⟩,hs4⟩:=hsize
 have hck:=(hS.ck ci hC:(ownX t E p c l).p κ w)
 have hblk : ∀b∈pblk p,b∈blksOf C:=fun b hb=>List.mem_flatMap.2 ⟨_,List.mem_of_getElem? hC,hb⟩
 have hpb : ∀E n s c,(Ck.tok p E s n c).blks=pblk p:=fun _ _ _ _=>by cases p<;>rfl
 have hl2:Ro t.ty κ w p2 c2 l2:=hS.get ri2 hR2
 have hpn : ∀b∈pblk p,κ b=none:=fun b hb=>by
  rcases hck with ⟨-,-,rfl⟩ | ⟨b',off,cells,rfl,g1,_⟩
  ·simp [pblk] at hb
  ·simp only [pblk,List.mem_singleton] at hb; subst hb; exact g1
 obtain ⟨κ1,hfr1,htok,hl,hl21,hk1⟩ : ∃κ1:Gh,Fresh κ1 w∧(Ck.tok p E t.ty.size l.length c).ok κ1 w∧Ro t.ty κ1 w p c l∧Ro t.ty κ1 w p2 c2 l2 ∧ ∀b,b ∉ pblk p→κ1 b=κ b:=by
  rcases hck with ⟨rfl,rfl,rfl⟩ | ⟨b,off,cells,rfl,g1,g2,g3,g4,g5,g6⟩
  ·exact ⟨κ,hS.fresh,.inl ⟨rfl,rfl⟩,⟨Nat.le_refl _,Nat.zero_le _,.inl ⟨rfl,rfl⟩⟩,hl2,fun _ _=>rfl⟩
  ·have hblt:b<w.heap.size:=hS.lt b (hblk b (by simp [pblk]))
   have hRo2 : ∀κ1:Gh,(∀x,x≠b→κ1 x=κ x)→Ro t.ty κ1 w p2 c2 l2:=fun κ1 h1=>by
    obtain ⟨q1,q2,q3⟩:=hl2
    refine ⟨q1,q2,?_⟩
    rcases q3 with q3 | ⟨b',off',n',rfl,hk,hn,hcell⟩
    ·exact .inl q3
    ·have:b'≠b:=fun e=>by rw [e,g1] at hk; cases hk
     exact .inr ⟨b',off',n',rfl,(h1 _ this).trans hk,hn,hcell⟩
   by_cases hc0:c=0
   ·have:l=[]:=List.eq_nil_of_length_eq_zero (by omega)
    subst this hc0
    exact ⟨κ,hS.fresh,.inl ⟨rfl,rfl⟩,⟨Nat.le_refl _,Nat.zero_le _,.inl ⟨rfl,rfl⟩⟩,hl2,fun _ _=>rfl⟩
   refine ⟨fun x=>if x=b then some (off+l.length*t.size) else κ x,fun x hx=>?_,.inr ⟨b,off,cells,rfl,if_pos rfl,g2,g3,g4,g5 hc0⟩,⟨g2,g3,.inr ⟨b,off,_,rfl,if_pos rfl,Nat.le_refl _,fun j u hj=>⟨t.enc u,rfl,fun q v hv=>?_⟩⟩⟩,hRo2 _ fun x hx=>if_neg hx,fun x hx=>?_⟩
   ·have:x≠b:=by omega
    exact (if_neg this).trans (hS.fresh x hx)
   ·have hq:cells[off+j*t.ty.size+q]? = some v:=g6 j u hj q v hv
    simpa [World.cell?,g4] using hq
   ·have:x≠b:=by simpa [pblk] using hx
    exact if_neg this
 obtain ⟨p',c',κ',w',hrun,hext,hfr,hro,htok',hb'⟩:=run_append (P:=P) (y:=o.type) t.ty (underlying_of ht) hi hz hs1 hs2 rfl hs3 hs4 hfr1 htok (fun b hb=>hS.lt b (hblk b (by rw [hpb] at hb; exact hb))) hl hl21 hlen
 have hpb' : ∀E n s c,(Ck.tok p' E s n c).blks=pblk p':=fun _ _ _ _=>by cases p'<;>rfl
 rw [hpb] at hext
 have hval:(execOp (evD L) o).run P w = .ok (.value (.slice p' (l++l2).length c')) w':=by
  have hex:evD L x = .slice p l.length c:=by simp [evD,hx]
  have hey:evD L y = .slice p2 l2.length c2:=by simp [evD,hy]
  simp only [execOp,hop]
  simp [resolve,invoke,Go.builtin,hex,hey,hrun]
 have hbm' : ∀b∈pblk p',(b∈pblk p∨w.heap.size≤b)∧b<w'.heap.size:=fun b hb=>by
  have:=hb' b (by rw [hpb']; exact hb)
  rw [hpb] at this
  exact this
 obtain ⟨κ2,hk2,hk2'⟩ : ∃κ2:Gh,(∀b,b<w.heap.size→κ2 b=κ b) ∧ ∀b,w.heap.size≤b→κ2 b=none:=
  ⟨fun b=>if b<w.heap.size then κ b else none,fun b hb=>if_pos hb,fun b hb=>if_neg (by omega)⟩
 have hext2:Ext (Ck.ext (ownX t E p c l)).blks κ w κ2 w':=by
  refine ⟨hext.os,hext.out,hext.tape,hext.size,fun b hb hm=>⟨(hext.keep b hb hm).1,hk2 b hb⟩,fun b n hn=>?_⟩
  have hblt:b<w.heap.size:=by
   rcases Nat.lt_or_ge b w.heap.size with h|h
   ·exact h
   ·rw [hS.fresh b h] at hn; cases hn
  refine ⟨n,(hk2 b hblt).trans hn,Nat.le_refl _,fun i hi=>?_⟩
  by_cases hm:b∈pblk p
  ·rw [hpn b hm] at hn; cases hn
  ·exact cell_of_heap (hext.keep b hblt hm).1
 obtain ⟨hCe,hCs⟩:=set_split (c' := .ext (ownX t E p' c' (l++l2))) hC
 refine wo_val hF hc hval fun a' hF'=>kk p' c' κ2 a' w' hF' ?_
 rw [hCs]
 refine hS.turn _ _ hCe hext2 (fun b hb=>hk2' b (Nat.le_trans hext.size hb)) ?_ (fun b hb=>(hbm' b hb).1) (fun b hb=>(hbm' b hb).2) (by cases p'<;>simp [Ck.blks,ownX,pblk])
 rcases htok' with ⟨h1,-⟩ | ⟨b,off,cells,rfl,k1,k2,k3,k4,k5⟩
 ·simp only [List.length_append] at h1; omega
 ·refine .inr ⟨b,off,cells,rfl,?_,k2,k3,k4,fun _=>k5,fun i u hi j v hv=>?_⟩
  ·rcases (hbm' b (by simp [pblk])).1 with h|h
   ·rw [hk2 b (hS.lt b (hblk b h))]; exact hpn b h
   ·exact hk2' b h
  ·obtain ⟨cs,hr,hcs⟩:=hro.at' hi
   have hr':cs=t.enc u:=hr
   subst hr'
   have hq:w'.cell? ⟨b,off+i*t.ty.size+j,none⟩=some v:=hcs j v hv
   have hq2:cells[off+i*t.ty.size+j]? = some v:=by simpa [World.cell?,k4] using hq
   exact hq2
theorem wo_storeOL (hF:Fr N D L a)(hS:SS M κ0 w0 κ w C R)(hc:okOp N L o=true)(ci:Nat){T b off Eo sz:Nat}{i:Int}{y z:α}{x x':Operand}{v:Value}(hop:o.op = .store T x x')(hx:ev L x=some (.pointer (some ⟨b,Eo,none⟩)))(hy:ev L x'=some v)(hC:C[ci]? = some (.ext (ownX t E p c l)))
  (hp:p=some ⟨b,off,none⟩) (hi:idx l i=some y) (hE:off+i.toNat*t.size=Eo) (hsz:pureRun P (sizeOf T)=some sz) (hts:t.size=sz) (hvs:v.cells=(t.enc z).toArray)
  {Cf:Nat→List Ck} {Lf:Nat→FL} (ks:List Nat) (hCf:C.set ci (.ext (ownX t E p c (l.set i.toNat z)))=Cf l.length) (hLf:keep (upd L o.dst undef) ks=Lf l.length)
  (kk : ∀a' w',Fr N D (Lf (l.set i.toNat z).length) a'→SS M κ0 w0 κ w' (Cf (l.set i.toNat z).length) R→K a' w'):wo ro P o a w K Q:=by
 rw [List.length_set,← hCf] at kk
 exact wo_storeO hF hS hc ci hop hx hy hC hp hi hE hsz hts hvs fun a' w' hF' hS'=>kk a' w' (hF'.keep' ks hLf) hS'
end
end Go.Cf
namespace Go.Cf
open Go
set_option linter.unusedVariables false
abbrev _root_.Prod.u4 {α β γ δ ε:Type} (x:α×β×γ×δ×ε):ε:=x.2.2.2.2
theorem kr {p:Prop} (h:p:=by kernel_rfl):p:=h
theorem dc {p:Prop} (h:p:=by decide):p:=h
section
variable {F:Fence}{n:Nat}{P:Program}{ops:Array Oper}{Q:Exit→Act→World→Prop}{a:Act}{w:World}{x y:Code}{K:Act→World→Prop}
theorem qs (h : ∀K:Act→World→Prop,(∀a w,y.wpIn F n P Q a w→K a w)→x.wpIn F n P (Exit.then K Q) a w):(Code.seq x y).wpIn F n P Q a w:=wpIn_seq_k h
theorem qr {id:Nat} {l:List Oper} (h : ∀K:Act→World→Prop,(∀a w,y.wpIn F n P Q a w→K a w)→wpListIn F n P l.toArray (Exit.then K Q) l a w):(Code.seq (Code.region id l.toArray false) y).wpIn F n P Q a w:=
 wpIn_seq_k fun K hK=>wpIn_region_lit (h K hK)
theorem rl {id:Nat} {l:List Oper} (h:wpListIn F n P l.toArray Q l a w):(Code.region id l.toArray false).wpIn F n P Q a w:=wpIn_region_lit h
theorem nl (h:Q .normal a w):wpListIn F n P ops Q [] a w:=h
theorem sk (h:Q .normal a w):Code.skip.wpIn F n P Q a w:=wpIn_skip h
theorem rt (h:Q .ret a w):Code.ret.wpIn F n P Q a w:=wpIn_ret h
theorem bk {id:Nat} (h:x.wpIn F n P (Exit.inBlock id Q) a w):(Code.block id x).wpIn F n P Q a w:=wpIn_block h
theorem xt {id:Nat} (h:Q (.exit id) a w):(Code.exit id).wpIn F n P Q a w:=wpIn_exit h
end
section
variable {ro:Option Nat}{P:Program}{ops:Array Oper}{Q:Exit→Act→World→Prop}{N:Nat}{D:List Deferred}{L L':FL}{a:Act}{w w0:World}{M:List Nat}{κ0 κ:Gh}{C C':List Ck}{R R':List MP}
variable {S:World→Prop}{tl:List Nat}{m:Nat}{listed:Array Bool}
theorem ct {c:Operand} {x y:Code} (hF:Fr N D L a) {b:Bool} (hb:b=true) (h:x.wpIn (FW ro) 0 P Q a w) (hc:ev L c=some (.bool b):=by kernel_rfl):(Code.cond c x y).wpIn (FW ro) 0 P Q a w:=cond_t hF hc hb h
theorem cf {c:Operand} {x y:Code} (hF:Fr N D L a) {b:Bool} (hb:b=false) (h:y.wpIn (FW ro) 0 P Q a w) (hc:ev L c=some (.bool b):=by kernel_rfl):(Code.cond c x y).wpIn (FW ro) 0 P Q a w:=cond_f hF hc hb h
theorem bc {ρ:Type}{b:Bool}{A B:Option ρ}{r:ρ}{c:Operand}{x y:Code}(hF:Fr N D L a)(H:(bif b then A else B)=some r)(h1:b=true→A=some r→x.wpIn (FW ro) 0 P Q a w)(h2:b=false→B=some r→y.wpIn (FW ro) 0 P Q a w)
  (hc:ev L c=some (.bool b):=by kernel_rfl):(Code.cond c x y).wpIn (FW ro) 0 P Q a w:=bif_split H (fun hb H=>cond_t hF hc hb (h1 hb H)) fun hb H=>cond_f hF hc hb (h2 hb H)
theorem bs {ρ:Type} {b:Bool} {A B:Option ρ} {r:ρ} {G:Prop} (H:(bif b then A else B)=some r) (h1:b=true→A=some r→G) (h2:b=false→B=some r→G):G:=bif_split H h1 h2
theorem bd {ρ σ:Type} {m:Option σ} {f:σ→Option ρ} {r:ρ} {G:Prop} (H:m.bind f=some r) (h : ∀x,m=some x→f x=some r→G):G:=bind_split H h
theorem Fr.bv (hF:Fr N D L a) (t:Nat) {b b':Bool} (h:b=b') (hl:L.lookup t=some (.bool b):=by kernel_rfl):Fr N D (upd L (some t) (.bool b')) a:=hF.boolv t hl h
theorem en {f:FuncId}{fn:Func}{c:Code}{args:Array Value}{R:Ending→World→Prop}(hf:P.funcs[f]? = some fn)(hb:fn.body=some c)(hn:fn.ntmps=N)(h : ∀a,Fr N [] (argsL args) a→c.wpIn (FW none) 0 P (bodyPost P fn R) a w)
  (hs:Nat.ble args.size N=true:=by kernel_rfl):Calls P f args w R:=enter hf hb hn (Nat.le_of_ble_eq_true hs) rfl h
theorem enL (L:FL){f:FuncId}{fn:Func}{c:Code}{args:Array Value}{R:Ending→World→Prop}(hf:P.funcs[f]? = some fn)(hb:fn.body=some c)(hn:fn.ntmps=N)(h : ∀a,Fr N [] L a→c.wpIn (FW none) 0 P (bodyPost P fn R) a w)
  (hs:Nat.ble args.size N=true:=by kernel_rfl) (hL:argsL args=L:=by kernel_rfl):Calls P f args w R:=enter hf hb hn (Nat.le_of_ble_eq_true hs) hL h
theorem SS.px (h:SS M κ0 w0 κ w C R) (is:List Nat) (hn:is.Nodup:=by decide):SSx M κ0 w0 (pk C is) R w:=⟨κ,h.selp is hn (selG_eq _ _)⟩
theorem SS.fx (h:SS M κ0 w0 κ w C R):SSx M κ0 w0 (C.filter isBx) R w:=⟨κ,h.drop List.filter_sublist⟩
abbrev ra (a n:Nat):List Nat:=List.range' a n
abbrev sp (p:Option Nat):Nat×List Value:=(1,[.pointer (pa p)])
abbrev sm (p:Option Nat):Nat×List Value:=(1,[.map p])
abbrev mx (p:Option Nat) (m:Array MapEntry) (c:Nat):Ck := .ext (objX p (.map m c))
end
end Go.Cf
namespace Go.Cf
open Go
set_option linter.unusedVariables false
section
variable {ro:Option Nat}{P:Program}{ops:Array Oper}{Q:Exit→Act→World→Prop}{N:Nat}{D:List Deferred}{L L':FL}{a:Act}{w:World}{o:Oper}{K:Act→World→Prop}
variable {M:List Nat}{κ0 κ:Gh}{w0:World}{C C':List Ck}{R R':List MP}
variable {α:Type}{t:FT α}{E c:Nat}{p:Option Addr}{l:List α}
theorem own_cell (hS:SS M κ0 w0 κ w C R)(ci:Nat){b off:Nat}{i:Int}{y:α}(hC:C[ci]? = some (.ext (ownX t E p c l)))(hp:p=some ⟨b,off,none⟩)(hi:idx l i=some y)(f:Nat)(v:Value)(hv:(t.enc y)[f]? = some v) :
  w.cell? ⟨b,off+i.toNat*t.size+f,none⟩=some v:=by
 obtain ⟨b',off',cells,hp',h1,h2,h3,h4,h5,h6⟩:=ownX.at (hS.ck ci hC:(ownX t E p c l).p κ w) (idx_some hi).2.2
 rw [hp] at hp'
 simp only [Option.some.injEq,Addr.mk.injEq] at hp'
 obtain ⟨rfl,rfl,_⟩:=hp'
 have:=h6 _ _ (idx_some hi).2.2 f v hv
 simpa [World.cell?,h4] using this
theorem wo_loadOA (hF:Fr N D L a)(hS:SS M κ0 w0 κ w C R)(hc:okOp N L o=true)(ci:Nat){T b off Eo:Nat}{i:Int}{y:α}{x:Operand}(hop:o.op = .load T x)(hC:C[ci]? = some (.ext (ownX t E p c l)))
  (hp:p=some ⟨b,off,none⟩) (hx:ev L x=some (.pointer (some ⟨b,Eo,none⟩))) (hi:idx l i=some y) (hE:off+i.toNat*t.size=Eo) (hg:pureRun P (isAgg T)=some true) (hsz:pureRun P (sizeOf T)=some t.size)
  (kk : ∀a',Fr N D (upd L o.dst (.agg (t.enc y).toArray)) a'→K a' w):wo ro P o a w K Q:=by
 subst hE
 exact wo_val hF hc (exec_load hop hx (run_load_agg hg hsz (t.len y) fun j v hj=>own_cell hS ci hC hp hi j v hj)) kk
theorem wo_loadOC (hF:Fr N D L a)(hS:SS M κ0 w0 κ w C R)(hc:okOp N L o=true)(ci f:Nat){T b off Eo:Nat}{i:Int}{y:α}{x:Operand}{v:Value}(hop:o.op = .load T x)(hC:C[ci]? = some (.ext (ownX t E p c l)))
  (hp:p=some ⟨b,off,none⟩) (hx:ev L x=some (.pointer (some ⟨b,Eo,none⟩))) (hi:idx l i=some y) (hE:off+i.toNat*t.size+f=Eo) (hv:(t.enc y)[f]? = some v) (hg:pureRun P (isAgg T)=some false)
  (kk : ∀a',Fr N D (upd L o.dst v) a'→K a' w):wo ro P o a w K Q:=by
 subst hE
 exact wo_val hF hc (exec_load hop hx (run_load_scalar hg (own_cell hS ci hC hp hi f v hv))) kk
theorem val_loadOC (ci f:Nat){T b off Eo:Nat}{i:Int}{y:α}{x:Operand}{v:Value}(hop:o.op = .load T x)(hC:C[ci]? = some (.ext (ownX t E p c l)))
  (hp:p=some ⟨b,off,none⟩) (hx:ev L x=some (.pointer (some ⟨b,Eo,none⟩))) (hi:idx l i=some y) (hE:off+i.toNat*t.size+f=Eo) (hv:(t.enc y)[f]? = some v) (hg:pureRun P (isAgg T)=some false) : ∀w,SSx M κ0 w0 C R w→(execOp (evD L) o).run P w = .ok (.value v) w:=fun w ⟨κ,hS⟩=>by
 subst hE
 exact exec_load hop hx (run_load_scalar hg (own_cell hS ci hC hp hi f v hv))
theorem wo_storeOC (hF:Fr N D L a)(hS:SS M κ0 w0 κ w C R)(hc:okOp N L o=true)(ci f:Nat){T b off Eo sz:Nat}{i:Int}{y z:α}{x x':Operand}{v:Value}{vs:List Value}(hop:o.op = .store T x x')(hx:ev L x=some (.pointer (some ⟨b,Eo,none⟩)))(hy:ev L x'=some v)(hC:C[ci]? = some (.ext (ownX t E p c l)))
  (hp:p=some ⟨b,off,none⟩) (hi:idx l i=some y) (hE:off+i.toNat*t.size+f=Eo) (hsz:pureRun P (sizeOf T)=some sz) (hvs:v.cells=vs.toArray) (hl:vs.length=sz) (h1 : ∀u∈vs,u.oneCell'=true) (hf:f+sz≤t.size) (hz:t.enc z=(t.enc y).take f++(vs++(t.enc y).drop (f+sz)))
  {Cf:Nat→List Ck} {Lf:Nat→FL} (ks:List Nat) (hCf:C.set ci (.ext (ownX t E p c (l.set i.toNat z)))=Cf l.length) (hLf:keep (upd L o.dst undef) ks=Lf l.length)
  (kk : ∀a' w',Fr N D (Lf (l.set i.toNat z).length) a'→SS M κ0 w0 κ w' (Cf (l.set i.toNat z).length) R→K a' w'):wo ro P o a w K Q:=by
 rw [List.length_set,← hCf] at kk
 subst hp
 obtain ⟨h0,hil,hiy⟩:=idx_some hi
 obtain ⟨b',off',cells,hp',g1,h2,h3,h4,h5,h6⟩:=ownX.at (hS.ck ci hC:(ownX t E _ c l).p κ w) hiy
 simp only [Option.some.injEq,Addr.mk.injEq] at hp'
 obtain ⟨rfl,rfl,_⟩:=hp'
 have h5e:=h5 (by omega)
 have hmul:i.toNat*t.size+t.size≤l.length*t.size:=by
  have:(i.toNat+1)*t.size≤l.length*t.size:=Nat.mul_le_mul_right _ hil
  rw [Nat.add_mul,Nat.one_mul] at this
  exact this
 have hmulc:l.length*t.size≤c*t.size:=Nat.mul_le_mul_right _ h2
 have hbm:b∈blksOf C:=List.mem_flatMap.2 ⟨_,List.mem_of_getElem? hC,by simp [Ck.blks,ownX,pblk]⟩
 have hblt:b<w.heap.size:=hS.lt b hbm
 have hyl:=t.len y
 have hst:=run_storeCells_at P b Eo E vs 0 cells w h4 (by rw [hl,h5e]; omega) h1
 simp only [Nat.add_zero] at hst
 rw [setRow_eq w b E _ _ h4] at hst
 have hst':(Instr.storeAt T (.pointer (some ⟨b,Eo,none⟩)) v).run P w = .ok () {w with heap:=w.heap.setIfInBounds b (.cells (cells.toList.take Eo++vs++cells.toList.drop (Eo+vs.length)).toArray E (0,0))}:=by
  have e1:v.cells.toList=vs:=by rw [hvs]
  have e2:v.cells.size=sz:=by rw [hvs]; simpa using hl
  simp [Instr.storeAt,Instr.sureAddr,storeVar,pureRun_run _ hsz w,e1,e2,hst]
 generalize harr:(cells.toList.take Eo++vs++cells.toList.drop (Eo+vs.length)).toArray=arr at hst'
 have hal:arr.size=cells.size:=by
  subst harr
  simp only [List.size_toArray,List.length_append,List.length_take,List.length_drop,Array.length_toList]
  omega
 have harrk : ∀k,arr[k]? = if k<Eo then cells[k]? else if k<Eo+sz then vs[k-Eo]? else cells[k]? := fun k=>by
  subst harr
  have hEc:Eo+sz≤cells.toList.length:=by simp only [Array.length_toList]; omega
  rw [List.getElem?_toArray,List.append_assoc]
  by_cases hk1:k<Eo
  ·rw [if_pos hk1,List.getElem?_append_left (by simp; omega),List.getElem?_take,if_pos hk1]; simp
  ·rw [if_neg hk1,List.getElem?_append_right (by simp; omega)]
   have hlt:(cells.toList.take Eo).length=Eo:=by simp; omega
   rw [hlt]
   by_cases hk2:k<Eo+sz
   ·rw [if_pos hk2,List.getElem?_append_left (by omega)]
   ·rw [if_neg hk2,List.getElem?_append_right (by omega),List.getElem?_drop]
    simp only [Array.getElem?_toList]
    congr 1; omega
 let w':World:={w with heap:=w.heap.setIfInBounds b (.cells arr E (0,0))}
 have hother : ∀b',b'≠b→w'.heap[b']? = w.heap[b']? := fun b' hne=>by
  show (w.heap.setIfInBounds b _)[b']? = _
  rw [Array.getElem?_setIfInBounds_ne (Ne.symm hne)]
 have hme:w'.heap[b]? = some (.cells arr E (0,0)):=by
  show (w.heap.setIfInBounds b _)[b]? = _
  simp [hblt]
 have hext:Ext (Ck.ext (ownX t E (some ⟨b,off,none⟩) c l)).blks κ w κ w':=
  ⟨rfl,rfl,rfl,by simp [w'],fun b' _ hm=>⟨hother b' (by simpa [Ck.blks,ownX,pblk] using hm),rfl⟩,fun b' n hn=>⟨n,hn,Nat.le_refl _,fun k _=>cell_of_heap (hother b' fun e=>by rw [e,g1] at hn; cases hn)⟩⟩
 obtain ⟨hCe,hCs⟩:=set_split (c' := .ext (ownX t E (some ⟨b,off,none⟩) c (l.set i.toNat z))) hC
 refine wo_skip hF hc (exec_store hop hx hy hst') fun a' hF'=>kk a' w' (hF'.keep' ks hLf) ?_
 rw [hCs]
 refine hS.turn _ _ hCe hext (fun b' hb'=>hS.fresh b' (by simpa [w'] using hb')) ?_ (fun b' hb' => .inl hb') (fun b' hb'=>?_) (by simp [Ck.blks,ownX,pblk])
 ·refine .inr ⟨b,off,arr,rfl,g1,by rw [List.length_set]; exact h2,h3,hme,fun hc0=>by rw [hal]; exact h5 hc0,fun j u hj q e he=>?_⟩
  have hql:q<t.size:=by rw [← t.len u]; exact (List.getElem?_eq_some_iff.1 he).1
  rw [harrk]
  rw [List.getElem?_set] at hj
  split at hj
  ·rename_i hij
   simp only [Option.some.injEq] at hj
   subst hij hj
   rw [hz] at he
   have htl:((t.enc y).take f).length=f:=by simp; omega
   by_cases hq1:q<f
   ·rw [List.getElem?_append_left (by omega),List.getElem?_take,if_pos hq1] at he
    rw [if_pos (by omega)]
    exact h6 _ _ hiy q e he
   ·rw [List.getElem?_append_right (by omega),htl] at he
    by_cases hq2:q<f+sz
    ·rw [List.getElem?_append_left (by omega)] at he
     rw [if_neg (by omega),if_pos (by omega),show off+i.toNat*t.size+q-Eo=q-f from by omega]; exact he
    ·rw [List.getElem?_append_right (by omega),List.getElem?_drop,show f+sz+(q-f-vs.length)=q from by omega] at he
     rw [if_neg (by omega),if_neg (by omega)]
     exact h6 _ _ hiy q e he
  ·rename_i hij
   have hju:=h6 _ _ hj q e he
   rcases Nat.lt_or_gt_of_ne hij with h|h
   ·have:(i.toNat+1)*t.size≤j*t.size:=Nat.mul_le_mul_right _ h
    rw [Nat.add_mul,Nat.one_mul] at this
    rw [if_neg (by omega),if_neg (by omega)]; exact hju
   ·have:(j+1)*t.size≤i.toNat*t.size:=Nat.mul_le_mul_right _ h
    rw [Nat.add_mul,Nat.one_mul] at this
    rw [if_pos (by omega)]; exact hju
 ·have:b'=b:=by simpa [Ck.blks,ownX,pblk] using hb'
  subst this; simpa [w'] using hblt
theorem SS.ownNew (hS:SS M κ0 w0 κ w C R)(t:FT α)(E:Nat)(cells:List Value)(l:List α)(hc:cells=l.flatMap t.enc)(hl:l.length≤maxLen) :
  SS M κ0 w0 κ (w.alloc (.cells cells.toArray E (0,0))) (.ext (ownX t E (some ⟨w.heap.size,0,none⟩) l.length l)::C) R:=by
 have hlen : ∀l:List α,(l.flatMap t.enc).length=l.length*t.size:=fun l=>by
  induction l with
  | nil=>simp
  | cons y l ih=>rw [List.flatMap_cons,List.length_append,t.len,ih,List.length_cons,Nat.add_mul,Nat.one_mul]; omega
 have hat : ∀(l:List α) i x,l[i]? = some x → ∀j v,(t.enc x)[j]? = some v→(l.flatMap t.enc)[i*t.size+j]? = some v:=fun l=>by
  induction l with
  | nil=>intro i x hi; simp at hi
  | cons y l ih=>
   intro i x hi j v hj
   cases i with
   | zero=>
    simp only [List.getElem?_cons_zero,Option.some.injEq] at hi; subst hi
    rw [List.flatMap_cons,Nat.zero_mul,Nat.zero_add,List.getElem?_append_left (List.getElem?_eq_some_iff.1 hj).1]; exact hj
   | succ i=>
    simp only [List.getElem?_cons_succ] at hi
    rw [List.flatMap_cons,List.getElem?_append_right (by rw [t.len,Nat.add_mul,Nat.one_mul]; omega),t.len,Nat.add_mul,Nat.one_mul]
    rw [show i*t.size+t.size+j-t.size=i*t.size+j from by omega]
    exact ih i x hi j v hj
 have hext:Ext [] κ w κ (w.alloc (.cells cells.toArray E (0,0))):=Ext.alloc hS.fresh _ ⟨_,_,rfl⟩
 have h':=hS.step hext (hS.fresh.alloc _)
 have hbl:blksOf (.ext (ownX t E (some ⟨w.heap.size,0,none⟩) l.length l)::C)=w.heap.size::blksOf C:=rfl
 refine ⟨h'.ext,h'.fresh,fun d hd=>?_,fun b hb'=>?_,?_,fun b hb'=>?_,h'.ro⟩
 ·rcases List.mem_cons.1 hd with rfl|hd
  ·refine .inr ⟨w.heap.size,0,cells.toArray,rfl,hS.fresh _ (Nat.le_refl _),Nat.le_refl _,hl,heap_alloc_new _ _,fun _=>by simp [hc,hlen],fun j u hj q e he=>?_⟩
   rw [List.getElem?_toArray,hc,Nat.zero_add]
   exact hat l j u hj q e he
  ·exact h'.ok d hd
 ·rw [hbl] at hb'
  rcases List.mem_cons.1 hb' with rfl|hb'
  ·rw [size_alloc]; omega
  ·exact h'.lt b hb'
 ·rw [hbl]
  exact List.nodup_cons.2 ⟨fun hm=>by have:=hS.lt _ hm; omega,hS.nd⟩
 ·rw [hbl] at hb'
  rcases List.mem_cons.1 hb' with rfl|hb'
  ·exact .inl hS.ext.size
  ·exact hS.own b hb'
theorem wo_buildO0 (hF:Fr N D L a)(hS:SS M κ0 w0 κ w C R)(hc:okOp N L o=true)(t:FT α){T:Nat}(hop:o.op = .buildSlice T 0 #[])(hu:pureRun P (underlying T)=some (.slice E))(hsz:pureRun P (sizeOf E)=some t.size)
  (kk : ∀p a' w',Fr N D (upd L o.dst (.slice p 0 0)) a'→SS M κ0 w0 κ w' (.ext (ownX t E p 0 [])::C) R→K a' w'):wo ro P o a w K Q:=by
 refine wo_val hF hc (v := .slice (some ⟨w.heap.size,0,none⟩) 0 0) (w':=w.alloc (.cells #[] E)) ?_ fun a' hF'=>kk _ a' _ hF' (hS.ownNew t E [] [] rfl (by simp [maxLen]))
 simp only [execOp,hop]
 simp [Instr.buildSlice,run_underlying' hu,pureRun_run _ hsz w,Instr.fill,newRow,newObj]
 rw [show ∀f:Nat→Value,Array.map f (Array.range 0) = #[] from fun f=>by simp]
 rfl
theorem wo_buildO (hF:Fr N D L a)(hS:SS M κ0 w0 κ w C R)(hc:okOp N L o=true){T n:Nat}{z:Value}{parts:Array (Nat×Operand)}{vs:List (Nat×Value)}{cells:Array Value}(hop:o.op = .buildSlice T n parts)(hx:parts.toList.map (fun p=>(p.1,evD L p.2))=vs)(hrep:cells.toList=l.flatMap t.enc)(hn:l.length=n)
  (hu:pureRun P (underlying T)=some (.slice E)) (hsz:pureRun P (sizeOf E)=some t.size) (hz:pureRun P (zeroValue E)=some z) (hpos:(decide (0<n*t.size)&&decide (n*t.size≤16777216)&&decide (n≤16777216))=true)
  (hfill:Instr.fill (fun i=>some (i*t.size,t.size)) ((Array.range (n*t.size)).map (z.cells[· % z.cells.size]!)) vs=some cells)
  (kk : ∀p a' w',Fr N D (upd L o.dst (.slice p n n)) a'→SS M κ0 w0 κ w' (.ext (ownX t E p n l)::C) R→K a' w'):wo ro P o a w K Q:=by
 simp only [Bool.and_eq_true,decide_eq_true_eq] at hpos
 subst hn
 have hca:cells=(l.flatMap t.enc).toArray:=by rw [← hrep]
 subst hca
 refine wo_val hF hc (v := .slice (some ⟨w.heap.size,0,none⟩) l.length l.length) (w':=w.alloc (.cells (l.flatMap t.enc).toArray E (0,0))) ?_ fun a' hF'=>kk _ a' _ hF' (hS.ownNew t E _ l rfl (by unfold maxLen; omega))
 have hn1 : ¬(16777216<l.length*t.size):=by omega
 have hne : ¬(l.length*t.size=0):=by omega
 simp only [execOp,hop]
 simp only [Instr.buildSlice]
 simp [run_underlying' hu,pureRun_run _ hsz w,pureRun_run _ hz w,hn1,newRow,newObj]
 rw [if_neg hne,hx,hfill]
 rfl
theorem own_ro (hS:SS M κ0 w0 κ w C R) (cj:Nat) (hC:C[cj]? = some (.ext (ownX t E p c l))) : ∃κ1:Gh,Fresh κ1 w∧Ro t.ty κ1 w p c l∧(∀b,b ∉ pblk p→κ1 b=κ b) ∧ ∀b∈pblk p,κ b=none:=by
 rcases (hS.ck cj hC:(ownX t E p c l).p κ w) with ⟨rfl,rfl,rfl⟩ | ⟨b,off,cells,rfl,g1,g2,g3,g4,g5,g6⟩
 ·exact ⟨κ,hS.fresh,⟨Nat.le_refl _,Nat.zero_le _,.inl ⟨rfl,rfl⟩⟩,fun _ _=>rfl,fun b hb=>by simp [pblk] at hb⟩
 ·have hblt:b<w.heap.size:=hS.lt b (List.mem_flatMap.2 ⟨_,List.mem_of_getElem? hC,by simp [Ck.blks,ownX,pblk]⟩)
  have hno : ∀b'∈pblk (some ⟨b,off,none⟩),κ b'=none:=fun b' hb'=>by
   simp only [pblk,List.mem_singleton] at hb'; subst hb'; exact g1
  by_cases hc0:c=0
  ·have:l=[]:=List.eq_nil_of_length_eq_zero (by omega)
   subst this hc0
   exact ⟨κ,hS.fresh,⟨Nat.le_refl _,Nat.zero_le _,.inl ⟨rfl,rfl⟩⟩,fun _ _=>rfl,hno⟩
  ·refine ⟨fun x=>if x=b then some (off+l.length*t.size) else κ x,fun x hx=>?_,⟨g2,g3,.inr ⟨b,off,_,rfl,if_pos rfl,Nat.le_refl _,fun j u hj=>⟨t.enc u,rfl,fun q v hv=>?_⟩⟩⟩,fun x hx=>?_,hno⟩
   ·have:x≠b:=by omega
    exact (if_neg this).trans (hS.fresh x hx)
   ·have hq:cells[off+j*t.ty.size+q]? = some v:=g6 j u hj q v hv
    simpa [World.cell?,g4] using hq
   ·have:x≠b:=by simpa [pblk] using hx
    exact if_neg this
theorem Ro.turnK {β:Type} {ty:FT β} {κ1:Gh} {p2:Option Addr} {c2:Nat} {l2:List β} (h:Ro ty.ty κ w p2 c2 l2) (hk : ∀b n,κ b=some n→(∃a,p2=some a∧a.block=b)→κ1 b=some n):Ro ty.ty κ1 w p2 c2 l2:=by
 obtain ⟨q1,q2,q3⟩:=h
 refine ⟨q1,q2,?_⟩
 rcases q3 with q3 | ⟨b',off',n',rfl,hk',hn,hcell⟩
 ·exact .inl q3
 ·exact .inr ⟨b',off',n',rfl,hk _ _ hk' ⟨_,rfl,rfl⟩,hn,hcell⟩
theorem wo_appendFO (hF:Fr N D L a)(hS:SS M κ0 w0 κ w C R)(hc:okOp N L o=true)(ci ri cj:Nat)(hij:ci≠cj){T c2 n n2:Nat}{i:TypeInfo}{z:Value}{p2:Option Addr}{l2 l':List α}{x y:Operand}
  (hop:o.op = .call {callee := .builtin .append,args := #[x,y],argTypes := #[T,T]}) (hx:ev L x=some (.slice p n c)) (hy:ev L y=some (.slice p2 n2 c2)) (hn:n=l.length) (hn2:n2=l2.length) (hC:C[ci]? = some (.tok p E t.size n c))
  (hR:R[ri]? = some (Ro.mp t.ty p c l)) (hC2:C[cj]? = some (.ext (ownX t E p2 c2 l2))) (ha:apd l l2=some l')
  (ht:pureRun P (underlying T)=some (.slice E)) (hi:P.info? E=some i) (hz:i.zero=some z) (hsize:(i.size==t.size&&z.cells.size==t.size&&decide (i.bytes≤4096)&&decide (0<t.size))=true)
  (kk : ∀p' c' κ' a' w',Fr N D (upd L o.dst (.slice p' l'.length c')) a'→SS M κ0 w0 κ' w' (C.set ci (.tok p' E t.size l'.length c')) (Ro.mp t.ty p' c' l'::R)→K a' w'):wo ro P o a w K Q:=by
 obtain ⟨hlen,rfl⟩:=apd_some ha
 subst hn hn2
 simp only [Bool.and_eq_true,beq_iff_eq,decide_eq_true_eq] at hsize
 obtain ⟨⟨⟨hs1,hs2⟩,hs3⟩,hs4⟩:=hsize
 have hl:Ro t.ty κ w p c l:=hS.get ri hR
 have htok:=hS.ck ci hC
 obtain ⟨κ1,hfr1,hl2,hk1,hno⟩:=own_ro hS cj hC2
 have hpb : ∀E n s c,(Ck.tok p E s n c).blks=pblk p:=fun _ _ _ _=>by cases p<;>rfl
 have hdis : ∀b∈pblk p,b ∉ pblk p2:=fun b hb hb2=>nodup_apart hS.nd hC hC2 hij (b:=b) (by rw [hpb]; exact hb) hb2
 have hblk : ∀b∈(Ck.tok p E t.size l.length c).blks,b∈blksOf C:=fun b hb=>List.mem_flatMap.2 ⟨_,List.mem_of_getElem? hC,hb⟩
 have hlt2 : ∀b∈pblk p2,b<w.heap.size:=fun b hb=>hS.lt b (List.mem_flatMap.2 ⟨_,List.mem_of_getElem? hC2,hb⟩)
 have htok1:(Ck.tok p E t.ty.size l.length c).ok κ1 w:=by
  rcases htok with h | ⟨b,off,cells,rfl,q1,q2⟩
  ·exact .inl h
  ·exact .inr ⟨b,off,cells,rfl,(hk1 b (hdis b (by simp [pblk]))).trans q1,q2⟩
 have hl1:Ro t.ty κ1 w p c l:=hl.turnK fun b n hb ⟨a',ha',hab⟩=>by
  subst ha' hab
  exact (hk1 _ (hdis _ (by simp [pblk]))).trans hb
 obtain ⟨p',c',κ',w',hrun,hext,hfr,hro,htok',hb'⟩:=run_append (P:=P) (y:=o.type) t.ty (underlying_of ht) hi hz hs1 hs2 rfl hs3 hs4 hfr1 htok1 (fun b hb=>hS.lt b (hblk b hb)) hl1 hl2 hlen
 have hval:(execOp (evD L) o).run P w = .ok (.value (.slice p' (l++l2).length c')) w':=by
  have hex:evD L x = .slice p l.length c:=by simp [evD,hx]
  have hey:evD L y = .slice p2 l2.length c2:=by simp [evD,hy]
  simp only [execOp,hop]
  simp [resolve,invoke,Go.builtin,hex,hey,hrun]
 let κ2:Gh:=fun b=>if b∈pblk p2 then none else κ' b
 have hk2 : ∀b,b ∉ pblk p2→κ2 b=κ' b:=fun b hb=>if_neg hb
 have hpb' : ∀E n s c,(Ck.tok p' E s n c).blks=pblk p':=fun _ _ _ _=>by cases p'<;>rfl
 have hdis' : ∀b∈pblk p',b ∉ pblk p2:=fun b hb hb2=>by
  rcases (hb' b (by rw [hpb']; exact hb)).1 with h|h
  ·rw [hpb] at h; exact hdis b h hb2
  ·have:=hlt2 b hb2; omega
 have hext2:Ext (Ck.tok p E t.size l.length c).blks κ w κ2 w':=by
  refine ⟨hext.os,hext.out,hext.tape,hext.size,fun b hb hm=>⟨(hext.keep b hb hm).1,?_⟩,fun b n hn=>?_⟩
  ·by_cases h2:b∈pblk p2
   ·exact (if_pos h2).trans (hno b h2).symm
   ·exact (hk2 b h2).trans ((hext.keep b hb hm).2.trans (hk1 b h2))
  ·have h2:b ∉ pblk p2:=fun h2=>by rw [hno b h2] at hn; cases hn
   obtain ⟨n',e1,e2,e3⟩:=hext.pub b n ((hk1 b h2).trans hn)
   exact ⟨n',(hk2 b h2).trans e1,e2,e3⟩
 obtain ⟨hCe,hCs⟩:=set_split (c' := .tok p' E t.size (l++l2).length c') hC
 refine wo_val hF hc hval fun a' hF'=>kk p' c' κ2 a' w' hF' ?_
 rw [hCs]
 refine (hS.turn _ _ hCe hext2 (fun b hb=>?_) ?_ (fun b hb=>(hb' b hb).1) (fun b hb=>(hb' b hb).2) (by cases p'<;>simp [Ck.blks])).add (hro.turnK fun b n hb ⟨a',ha',hab⟩=>?_)
 ·have:b ∉ pblk p2:=fun h2=>by have:=hlt2 b h2; have:=hext.size; omega
  exact (hk2 b this).trans (hfr b hb)
 ·rcases htok' with h | ⟨b,off,cells,rfl,q1,q2⟩
  ·exact .inl h
  ·exact .inr ⟨b,off,cells,rfl,(hk2 b (hdis' b (by simp [pblk]))).trans q1,q2⟩
 ·subst ha' hab
  exact (hk2 _ (hdis' _ (by simp [pblk]))).trans hb
theorem wo_appendOE (hF:Fr N D L a)(hS:SS M κ0 w0 κ w C R)(hc:okOp N L o=true)(ci ri2:Nat){T c2 n n2:Nat}{i:TypeInfo}{z:Value}{p2:Option Addr}{l2 l':List α}{x y:Operand}
  (hop:o.op = .call {callee := .builtin .append,args := #[x,y],argTypes := #[T,T]}) (hx:ev L x=some (.slice p n c)) (hy:ev L y=some (.slice p2 n2 c2)) (hn:n=l.length) (hn2:n2=l2.length) (hC:C[ci]? = some (.ext (ownX t E p c l)))
  (hR2:R[ri2]? = some (Ro.mp t.ty p2 c2 l2)) (ha:apd l l2=some l')
  (ht:pureRun P (underlying T)=some (.slice E)) (hi:P.info? E=some i) (hz:i.zero=some z) (hsize:(i.size==t.size&&z.cells.size==t.size&&decide (i.bytes≤4096)&&decide (0<t.size))=true)
  (kk : ∀p' c' κ' a' w',Fr N D (upd L o.dst (.slice p' l'.length c')) a'→SS M κ0 w0 κ' w' (C.set ci (.ext (ownX t E p' c' l'))) R→K a' w'):wo ro P o a w K Q:=by
 by_cases h0:l2=[]
 ·subst h0
  obtain ⟨hlen,rfl⟩:=apd_some ha
  subst hn hn2
  have hnle:l.length≤c:=by
   rcases (hS.ck ci hC:(ownX t E p c l).p κ w) with ⟨rfl,rfl,-⟩ | ⟨b,off,cells,rfl,h1,h2,_⟩
   ·simp
   ·exact h2
  have hrun:(Builtin.append_ #[T,T] o.type #[.slice p l.length c,.slice p2 0 c2]).run P w = .ok (.slice p l.length c) w:=by
   cases p<;>cases p2<;>simp [Builtin.append_,run_underlying' ht,sizeOf,typeInfo,hi,Builtin.lenOf,hnle,Builtin.firstCells,storeCells,loadCells,loadCellsFrom]
  have hval:(execOp (evD L) o).run P w = .ok (.value (.slice p (l++[]).length c)) w:=by
   have hex:evD L x = .slice p l.length c:=by simp [evD,hx]
   have hey:evD L y = .slice p2 0 c2:=by simpa [evD] using hy▸rfl
   simp only [execOp,hop]
   simp [resolve,invoke,Go.builtin,hex,hey,hrun]
  refine wo_val hF hc hval fun a' hF'=>kk p c κ a' w hF' ?_
  rw [List.append_nil]
  obtain ⟨hCe,hCs⟩:=set_split (c' := .ext (ownX t E p c l)) hC
  rw [hCs,← hCe]; exact hS
 ·refine wo_appendO hF hS hc ci ri2 hop hx hy hn hn2 hC hR2 ?_ ht hi hz hsize kk
  unfold apd1
  rw [if_neg]
  ·exact ha
  ·cases l2 with
   | nil=>exact absurd rfl h0
   | cons=>simp
end
end Go.Cf
namespace Go.Cf
open Go
structure T_api_Ver where
 Key:ByteArray
 Val:ByteArray
 Gone:Bool
 TS:Int
 DC:Int
 Tx:Int
structure T_api_Mark where
 TS:Int
 DC:Int
 Tx:Int
structure T_api_Cmd where
 Kind:Int
 DC:Int
 Shard:Int
 Node:Int
 Mode:Int
 Key:ByteArray
structure T_api_Msg where
 Kind:Int
 Id:Int
 N:Int
 TS:Int
 Lo:ByteArray
 Hi:ByteArray
 Vers:(List T_api_Ver)
 Vec:(List Int)
 Cmd:T_api_Cmd
structure T_store_Store where
 chains:(Mp ByteArray (List T_api_Ver))
 floor:Int
structure T_part_Part where
 clock:Int
 open_:(Mp Int Int)
structure T_span_Shard where
 Lo:ByteArray
 Hi:ByteArray
 Node:Int
structure T_node_Node where
 dc:Int
 store:T_store_Store
 part:T_part_Part
 writes:(Mp Int (List T_api_Ver))
 owned:(List T_span_Shard)
 modes:(List Int)
def f_api_Ver:FT T_api_Ver:=⟨6,fun x=>[.string (x.Key),.string (x.Val),.bool (x.Gone),.int .u64 (x.TS),.int .i64 (x.DC),.int .i64 (x.Tx)],fun _=>rfl,fun x v hv=>by
 simp only [List.mem_cons,List.not_mem_nil,or_false] at hv
 rcases hv with rfl|rfl|rfl|rfl|rfl|rfl<;>rfl⟩
def f_span_Shard:FT T_span_Shard:=⟨3,fun x=>[.string (x.Lo),.string (x.Hi),.int .i64 (x.Node)],fun _=>rfl,fun x v hv=>by
 simp only [List.mem_cons,List.not_mem_nil,or_false] at hv
 rcases hv with rfl|rfl|rfl<;>rfl⟩
end Go.Cf
