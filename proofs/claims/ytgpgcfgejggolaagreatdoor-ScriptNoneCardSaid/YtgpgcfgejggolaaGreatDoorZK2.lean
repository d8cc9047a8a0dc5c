/- Part 10: struct literals with parts that aren't known cell by cell; elements of arrays in boxes, in regions that draw their order. -/
import Derived.Laws.Tables
import Derived.RangeFuncIn
import Derived.RangeFuncRecord
import Derived.RangeFuncSeq
import Derived.RangeFuncLeaves
import Derived.Deep.Slices
import Derived.WideKeyArgs
import Derived.Carry
import Derived.MapKept
import Derived.Laws.Strings
import Derived.Maps.RangeRun
import Derived.Laws.MakeOwn
import Derived.Scope
import Derived.LoopNIn
import Derived.Laws.BytesArg
import Derived.Lib.BufferRead
import Derived.Lib.AppendStr
import Derived.Test.YtgpgcfgejggolaaGreatDoorZK1
namespace Go.Cf
open Go
section
variable {P:Program}{w:World}{L:FL}{o:Oper}{M:List Nat}{κ0 κ:Gh}{w0:World}{C:List Ck}{R:List MP}
theorem val_loadA1 {α:Type}{t:FT α}(i k:Nat){b TB T off n:Nat}{s:Segs}{l:List α}{j:Int}{y:α}{v:Value}{x:Operand}(hop:o.op = .load T x)(hx:ev L x=some (.pointer (some ⟨b,off,none⟩)))
  (hC:C[i]? = some (.box b TB s)) (hk:s[k]? = some (n,encs t l)) (hj:idx l j=some y) (h1:t.enc y=[v]) (ht:t.size=1) (hoff:tot (s.take k)+j.toNat*1=off) (hg:pureRun P (isAgg T)=some false) :
  ∀w,SSx M κ0 w0 C R w→(execOp (evD L) o).run P w = .ok (.value v) w:=by
 refine val_load i k (j.toNat*1) hop hx hC hk ?_ hoff hg
 have:=encs_at t l (idx_some hj).2.2 0 v (by rw [h1]; rfl)
 rw [ht] at this
 simpa using this
theorem val_indexArr {T E sz n b off:Nat}{kd:IntKind}{i:Int}{x ix:Operand}(hop:o.op = .indexAddr T x ix)
  (hx:ev L x=some (.pointer (some ⟨b,off,none⟩))) (hix:ev L ix=some (.int kd i)) (hi:0≤i∧i<(n:Int)) (hu:pureRun P (underlying T)=some (.array n E)) (hs:pureRun P (sizeOf E)=some sz) :
  ∀w:World,(execOp (evD L) o).run P w = .ok (.value (.pointer (some ⟨b,off+i.toNat*sz,none⟩))) w:=fun w=>by
 simp only [execOp,hop,evD,hx,hix,Option.getD_some]
 simp [Instr.indexAt,Instr.sureAddr,asIntOf,run_underlying' hu,pureRun_run _ hs w,hi.1,hi.2,add_off]
def placesFrom:Nat→List Nat→List (Nat×Nat)
 | _,[]=>[]
 | off,n::ns=>(off,n)::placesFrom (off+n) ns
theorem placesFrom_get : ∀(ns:List Nat)(off i:Nat)(n:Nat),ns[i]? = some n→(placesFrom off ns)[i]? = some (off+(ns.take i).sum,n)
 | m::ns,off,0,n,h=>by simp at h; subst h; simp [placesFrom]
 | m::ns,off,i+1,n,h=>by
  simp only [List.getElem?_cons_succ] at h
  simp only [placesFrom,List.getElem?_cons_succ,placesFrom_get ns (off+m) i n h,List.take_succ_cons,List.sum_cons]
  rw [Nat.add_assoc]
theorem setAt_foldl (off:Nat) : ∀(vs:List Value)(k:Nat)(A B C:List Value),A.length=off+k→B.length=vs.length →
  (((vs.zipIdx k).foldl (fun (cs:Array Value) (x:Value×Nat)=>cs.setIfInBounds (off+x.2) x.1) (A++B++C).toArray))=(A++vs++C).toArray
 | [],k,A,B,C,hA,hB=>by
  have:B=[]:=List.eq_nil_of_length_eq_zero (by simpa using hB)
  subst this; simp
 | v::vs,k,A,B,C,hA,hB=>by
  cases B with
  | nil=>simp at hB
  | cons b B=>
   simp only [List.zipIdx_cons,List.foldl_cons]
   have h1:((A++b::B++C).toArray.setIfInBounds (off+k) v)=((A++[v])++B++C).toArray:=by
    rw [← hA]
    simp
   rw [h1,setAt_foldl off vs (k+1) (A++[v]) B C (by simp [hA]; omega) (by simpa using hB)]
   simp
theorem rows_split : ∀(rows:List Segs) (i:Nat) (r:Segs),rows[i]? = some r → ∃A B,rows=A++r::B∧A.length=i ∧ ∀r',rows.set i r'=A++r'::B:=fun rows i r h=>by
 have hi:=(List.getElem?_eq_some_iff.1 h).1
 have hr:=(List.getElem?_eq_some_iff.1 h).2
 refine ⟨rows.take i,rows.drop (i+1),?_,by simp; omega,fun r'=>?_⟩
 ·rw [← hr]; simp
 ·rw [List.set_eq_take_append_cons_drop,if_pos hi]
theorem fill_rows : ∀(parts:List (Nat×Value))(vals:List (Nat×Segs))(rows:List Segs)(sizes:List Nat),parts.map (fun p=>(p.1,p.2.cells.toList))=vals.map (fun x=>(x.1,flat x.2)) →
  rows.map tot=sizes→(∀r∈rows,segsOk r)→(∀x∈vals,segsOk x.2)→(∀x∈vals,sizes[x.1]? = some (tot x.2)) →
  Instr.fill ((placesFrom 0 sizes).toArray[·]?) (flat rows.flatten).toArray parts=some (flat (vals.foldl (fun r x=>r.set x.1 x.2) rows).flatten).toArray:=by
 intro parts
 induction parts with
 | nil=>intro vals rows sizes hv _ _ _ _; cases vals with
  | nil=>rfl
  | cons x vals=>simp at hv
 | cons p parts ih=>
  intro vals rows sizes hv hr hok hvok hs
  cases vals with
  | nil=>simp at hv
  | cons x vals=>
   obtain ⟨i,v⟩:=p
   obtain ⟨i',s⟩:=x
   simp only [List.map_cons,List.cons.injEq,Prod.mk.injEq] at hv
   obtain ⟨⟨rfl,hcells⟩,hv⟩:=hv
   have hsz:=hs (i,s) (by simp)
   simp only at hsz
   have hsok:=hvok (i,s) (by simp)
   have hvl:v.cells.size=tot s:=by rw [← Array.length_toList,hcells,flat_length hsok]
   have hil:i<rows.length:=by
    have:=(List.getElem?_eq_some_iff.1 hsz).1
    rw [← hr] at this; simpa using this
   obtain ⟨r0,hr0⟩ : ∃r0,rows[i]? = some r0:=⟨_,List.getElem?_eq_getElem hil⟩
   obtain ⟨A,B,hAB,hAl,hset⟩:=rows_split rows i r0 hr0
   have htot:tot r0=tot s:=by
    have:=hsz
    rw [← hr,List.getElem?_map,hr0] at this
    simpa using this
   have hokr:=hok r0 (List.mem_of_getElem? hr0)
   have hfl : ∀(X:List Segs),flat X.flatten=(X.map flat).flatten:=fun X=>by
    induction X with
    | nil=>rfl
    | cons y X ihX=>simp only [List.flatten_cons,flat_append,List.map_cons,ihX]
   have hAtot:(flat A.flatten).length=(sizes.take i).sum:=by
    rw [hfl,List.length_flatten,List.map_map,← hr]
    have h1:rows.take i=A:=by rw [hAB,← hAl,List.take_left]
    rw [← List.map_take,h1]
    congr 1
    refine List.map_congr_left fun r hr'=>?_
    exact flat_length (hok r (by rw [hAB]; simp [hr']))
   have hwhole:flat rows.flatten=flat A.flatten++flat r0++flat B.flatten:=by
    conv=>lhs; rw [hAB]
    simp [flat_append]
   have hplace:(placesFrom 0 sizes).toArray[i]? = some ((sizes.take i).sum,tot s):=by
    have:=placesFrom_get sizes 0 i _ hsz
    simpa using this
   show (match (placesFrom 0 sizes).toArray[i]? with
    | none=>none
    | some (off,size)=>if v.cells.size≠size||off+v.cells.size > (flat rows.flatten).toArray.size then none
     else Instr.fill ((placesFrom 0 sizes).toArray[·]?) (v.cells.zipIdx.foldl (fun cs (c,j)=>cs.setIfInBounds (off+j) c) (flat rows.flatten).toArray) parts)=_
   rw [hplace]
   simp only [hvl,ne_eq,not_true_eq_false,decide_false,Bool.false_or,decide_eq_true_eq,List.size_toArray]
   have hle : ¬((sizes.take i).sum+tot s > (flat rows.flatten).length):=by
    rw [hwhole]
    simp only [List.length_append,hAtot,flat_length hokr,htot]
    omega
   rw [if_neg hle]
   have hfold:(v.cells.zipIdx.foldl (fun cs (c,j)=>cs.setIfInBounds ((sizes.take i).sum+j) c) (flat rows.flatten).toArray)=(flat (rows.set i s).flatten).toArray:=by
    rw [← Array.foldl_toList,Array.toList_zipIdx,hcells,hwhole]
    have h:=setAt_foldl (sizes.take i).sum (flat s) 0 (flat A.flatten) (flat r0) (flat B.flatten) (by rw [hAtot]; omega) (by rw [flat_length hokr,flat_length hsok,htot])
    refine h.trans ?_
    rw [hset s]
    simp [flat_append]
   rw [hfold]
   refine ih vals (rows.set i s) sizes hv ?_ ?_ (fun x hx=>hvok x (by simp [hx])) (fun x hx=>hs x (by simp [hx]))
   ·rw [hset s,← hr]
    conv=>rhs; rw [hAB]
    simp [htot]
   ·intro r hr'
    rw [hset s] at hr'
    rcases List.mem_append.1 hr' with h|h
    ·exact hok r (by rw [hAB]; simp [h])
    ·rcases List.mem_cons.1 h with rfl|h
     ·exact hsok
     ·exact hok r (by rw [hAB]; simp [h])
theorem segGood_sub {vals:List (Nat×Segs)} (h:segGood (vals.flatMap (·.2))) : ∀x∈vals,segsOk x.2:=fun x hx y hy=>h.1 y (List.mem_flatMap.2 ⟨x,hx,hy⟩)
def rowsOk (rows:List Segs):Bool:=rows.all fun r=>r.all fun x=>x.2.length==x.1
theorem rowsOk_spec {rows:List Segs} (h:rowsOk rows=true) : ∀r∈rows,segsOk r:=fun r hr x hx=>by
 have:=List.all_eq_true.1 (List.all_eq_true.1 h r hr) x hx
 simpa using this
def zeroAt (P:Program) (T:Nat):Option Value:=(P.info? T).bind (·.zero)
def placesAt (P:Program) (T:Nat):Option (List (Nat×Nat)):=match P.underlying T with
 | some (.struct fields)=>fields.toList.mapM fun f=>(P.info? f.type).map fun i=>(f.offset,i.size)
 | _=>none
theorem val_build {T:Nat}{parts:Array (Nat×Operand)}{sizes:List Nat}{rows:List Segs}{vals:List (Nat×Segs)}{s':Segs}(hop:o.op = .build T parts)
  (hz:zeroAt P T=some (.agg (flat rows.flatten).toArray)) (hpl:placesAt P T=some (placesFrom 0 sizes)) (hrow:rows.map tot=sizes) (hok:rowsOk rows=true)
  (hv:parts.toList.map (fun p=>(p.1,(evD L p.2).cells.toList))=vals.map (fun x=>(x.1,flat x.2))) (hg:segGood (vals.flatMap (·.2))) (hs:(vals.all fun x=>sizes[x.1]? == some (tot x.2))=true)
  (hr:(vals.foldl (fun r x=>r.set x.1 x.2) rows).flatten=s') : ∀w,(execOp (evD L) o).run P w = .ok (.value (.agg (flat s').toArray)) w:=fun w=>by
 subst hr
 have hb:P.built T ((parts.map fun p=>(p.1,evD L p.2)).toList)=some (flat (vals.foldl (fun r x=>r.set x.1 x.2) rows).flatten).toArray:=by
  have hf:=fill_rows (parts.map fun p=>(p.1,evD L p.2)).toList vals rows sizes (by rw [← hv]; simp) hrow (rowsOk_spec hok) (segGood_sub hg) fun x hx=>by
   have:=List.all_eq_true.1 hs x hx
   simpa using this
  unfold zeroAt at hz
  unfold placesAt at hpl
  unfold Program.built
  cases hi:P.info? T with
  | none=>simp [hi] at hz
  | some it=>
   cases hu:P.underlying T with
   | none=>simp [hu] at hpl
   | some d=>
    cases d with
    | struct fields=>
     simp only [hi,Option.bind_some] at hz
     simp only [hu] at hpl
     simp only [hz,hpl]
     exact hf
    | _=>simp [hu] at hpl
 have:=run_build w T _ _ hb
 simp only [execOp,hop]
 simp [this]
end
end Go.Cf
namespace Go.Cf
open Go
theorem keptBut_of {w w':World} (h : ∀i,i<w.heap.size→w'.heap[i]? = w.heap[i]?) (ho:w'.os=w.os) (ht:w'.output=w.output) (may:MemPlace→Prop):w.keptBut w' may:=by
 refine ⟨ho,ht,fun i hi=>?_⟩
 rw [h i hi]
 cases hx:w.heap[i]? with
 | none=>rfl
 | some o=>cases o<;>simp
theorem Ext.grown {κ κ':Gh} {w w':World} (h:Ext [] κ w κ' w'):w.keptBut w' (fun _=>False):=
 keptBut_of (fun i hi=>(h.keep i hi (by simp)).1) h.os h.out _
end Go.Cf
namespace Go.Cf
open Go
section
variable {M:List Nat}{κ0 κ κ':Gh}{w0 w w':World}{C C':List Ck}{R R':List MP}
theorem SS.stepM (h:SS M κ0 w0 κ w C R){M':List Nat}(he:Ext M' κ w κ' w')(hf:Fresh κ' w')(hM : ∀b∈M',w0.heap.size≤b∨b∈M)(hd : ∀b∈blksOf C,b ∉ M'):SS M κ0 w0 κ' w' C R where
 ext:=h.ext.trans' he hM
 fresh:=hf
 ok:=fun c hc=>Ck.ok_keep (h.ok c hc) (fun b hb=>h.lt b (List.mem_flatMap.2 ⟨c,hc,hb⟩)) he fun b hb=>hd b (List.mem_flatMap.2 ⟨c,hc,hb⟩)
 lt:=fun b hb=>Nat.lt_of_lt_of_le (h.lt b hb) he.size
 nd:=h.nd
 own:=h.own
 ro:=fun m hm=>m.mono he (h.ro m hm)
theorem SS.rebase (h:SS M κ0 w0 κ w C R):SS (blksOf C) κ w κ w C R:=⟨.refl _ _ _,h.fresh,h.ok,h.lt,h.nd,fun _ hb => .inr hb,h.ro⟩
def notCells (o:Obj):Prop := ∀c t fr,o ≠ .cells c t fr
theorem Ext.put {l:Nat}{o o':Obj}(h:w.heap[l]? = some o')(hk:κ l=none)(ho':notCells o')(ho:notCells o):Ext [l] κ w κ (w.putObj l o) where
 os:=rfl
 out:=rfl
 tape:=rfl
 size:=by simp
 keep:=fun b _ hb=>⟨World.putObj_heap_other (by simpa using hb),rfl⟩
 pub:=fun b n hn=>⟨n,hn,Nat.le_refl _,fun i _=>cell_of_heap (World.putObj_heap_other fun e=>by rw [e,hk] at hn; cases hn)⟩
theorem Ext.allocN (hf:Fresh κ w)(o:Obj)(ho:notCells o):Ext [] κ w κ (w.alloc o) where
 os:=rfl
 out:=rfl
 tape:=rfl
 size:=by rw [size_alloc]; omega
 keep:=fun b hb _=>⟨heap_alloc_old w o b hb,rfl⟩
 pub:=fun b n hn=>⟨n,hn,Nat.le_refl _,fun i _=>cell_of_heap (heap_alloc_old w o b (by
  rcases Nat.lt_or_ge b w.heap.size with h|h
  ·exact h
  ·rw [hf b h] at hn; cases hn))⟩
def mkX (r l:Nat)(rc:Loop)(C:List Ck)(R:List MP):XF where
 bs:=r::l::blksOf C
 p:=fun κ w=>(w.heap[r]? = some (.deferred (some []))∧κ r=none)∧(w.heap[l]? = some (.loop rc)∧κ l=none)∧(∀c∈C,c.ok κ w) ∧ ∀m∈R,m.p κ w
 mono:=fun {M κ w κ' w'} he hb ⟨⟨h1,h2⟩,⟨h3,h4⟩,h5,h6⟩=>by
  obtain ⟨r1,r2⟩:=hb r (by simp)
  obtain ⟨l1,l2⟩:=hb l (by simp)
  obtain ⟨k1,k2⟩:=he.keep r r1 r2
  obtain ⟨k3,k4⟩:=he.keep l l1 l2
  have hin : ∀c∈C,∀b∈c.blks,b<w.heap.size∧b ∉ M:=fun c hc b hbc=>hb b (by
   simp only [List.mem_cons]; exact .inr (.inr (List.mem_flatMap.2 ⟨c,hc,hbc⟩)))
  exact ⟨⟨k1.trans h1,k2.trans h2⟩,⟨k3.trans h3,k4.trans h4⟩,fun c hc=>Ck.ok_keep (h5 c hc) (fun b hbc=>(hin c hc b hbc).1) he fun b hbc=>(hin c hc b hbc).2,fun m hm=>m.mono he (h6 m hm)⟩
def defX (r:Nat):XF where
 bs:=[r]
 p:=fun κ w=>w.heap[r]? = some (.deferred (some []))∧κ r=none
 mono:=fun {M κ w κ' w'} he hb ⟨h1,h2⟩=>by
  obtain ⟨r1,r2⟩:=hb r (by simp)
  obtain ⟨k1,k2⟩:=he.keep r r1 r2
  exact ⟨k1.trans h1,k2.trans h2⟩
def RoundOk {σ:Type} (P:Program) (l:Nat) (Y:σ→XF→Prop) (args:Array Value) (x:XF) (s':σ) (c:Bool) (κ:Gh) (w:World):Prop:=
 YieldAt (FW none) 0 P l args w fun e w'=>e = .returned (.bool c) ∧ ∃κ' x',Y s' x'∧Ext x.bs κ w κ' w'∧Fresh κ' w'∧x'.p κ' w'∧x'.bs.Nodup ∧ ∀b∈x'.bs,(b∈x.bs∨w.heap.size≤b)∧b<w'.heap.size
end
section
variable {ro:Option Nat}{P:Program}{ops:Array Oper}{Q:Exit→Act→World→Prop}{N:Nat}{D:List Deferred}{L L':FL}{a:Act}{w:World}{o:Oper}{K:Act→World→Prop}
variable {M:List Nat}{κ0 κ:Gh}{w0:World}{C C':List Ck}{R R':List MP}
theorem exec_yield {g:Operand} {xs:Array Operand} {tys:Array TypeId} {l:Nat} {args:Array Value} (hop:o.op = .call {callee := .value g,args:=xs,argTypes:=tys}) (hg:ev L g=some (.func (.yield l) #[] #[])) (hx:xs.map (evD L)=args) :
  (execOp (evD L) o).run P w=(Instr.yield l args).run P w:=by
 subst hx
 simp [execOp,hop,resolve,invoke,evD,hg,go_sem]
theorem wo_yield {σ:Type}{Y:σ→XF→Prop}(hF:Fr N D L a)(hS:SS M κ0 w0 κ w C R)(hc:okOp N L o=true)(i:Nat){x:XF}{g:Operand}{xs:Array Operand}{tys:Array TypeId}{l:Nat}{args:Array Value}{s':σ}{c:Bool}
  (hop:o.op = .call {callee := .value g,args:=xs,argTypes:=tys}) (hg:ev L g=some (.func (.yield l) #[] #[])) (hx:xs.map (evD L)=args) (hC:C[i]? = some (.ext x))
  (hY:x.p κ w→Fresh κ w→x.bs.Nodup→(∀b∈x.bs,b<w.heap.size)→RoundOk P l Y args x s' c κ w)
  (kk : ∀x' κ' w' a',Y s' x'→Fr N D (upd L o.dst (.bool c)) a'→SS M κ0 w0 κ' w' (C.set i (.ext x')) R→K a' w'):wo ro P o a w K Q:=by
 obtain ⟨A,B,hAB,hAl⟩ : ∃A B,C=A ++ .ext x::B∧A.length=i:=by
  have hi:=(List.getElem?_eq_some_iff.1 hC).1
  refine ⟨C.take i,C.drop (i+1),?_,by simp; omega⟩
  have:=(List.getElem?_eq_some_iff.1 hC).2
  rw [← this]; simp
 have hok:x.p κ w:=hS.ck i hC
 have hnd:x.bs.Nodup:=by
  have:=hS.nd
  rw [hAB,blksOf_append] at this
  exact (List.nodup_append.1 (show (x.bs++blksOf B).Nodup from (List.nodup_append.1 this).2.1)).1
 have hlt : ∀b∈x.bs,b<w.heap.size:=fun b hb=>hS.lt b (List.mem_flatMap.2 ⟨.ext x,List.mem_of_getElem? hC,hb⟩)
 obtain ⟨fn,tmps,assign,body,hy,hR⟩:=hY hok hS.fresh hnd hlt
 have hc0:=hc
 simp only [okOp,Bool.and_eq_true] at hc
 refine ⟨fun _ _=>trivial,?_⟩
 show o.uponIn (FW ro) 0 P a K Q ((o.semAt ro a.eval).run P w)
 rw [semAt_eq hF hc.1.1 hc.1.2,exec_yield hop hg hx,hy]
 refine ⟨fun hd=>by simp [FW] at hd,?_⟩
 have hR':RoundIn (FW ro) (0-1) P l fn tmps assign body w _:=hR
 refine RoundIn.mono hR' fun e w' ⟨he,κ',x',hYx,hext,hfr,hp,hnd',hbs⟩=>?_
 subst he
 have hset:C.set i (.ext x')=A ++ .ext x'::B:=by
  subst hAl; rw [hAB]; simp
 refine kk x' κ' w' _ hYx (hF.put _ _ (okDst_spec hc.2)) ?_
 rw [hset]
 exact hS.turn A B hAB (c := .ext x) (c' := .ext x') hext hfr hp (fun b hb=>(hbs b hb).1) (fun b hb=>(hbs b hb).2) hnd'
def postM (P:Program)(fn:Func)(R:Ending→World→Prop):Exit→Act→World→Prop
 | .normal,a,w | .ret,a,w=>LeavesInM (FW none) 0 P fn a.tmps R a.defers .returning w
 | _,_,_=>False
theorem enterM {f:FuncId}{fn:Func}{c:Code}{args:Array Value}{R:Ending→World→Prop}(hf:P.funcs[f]? = some fn)(hb:fn.body=some c)(hn:fn.ntmps=N)(hs:args.size≤N)(hL:argsL args=L)
  (h : ∀a,Fr N [] L a→c.wpIn (FW none) 0 P (postM P fn R) a w):Calls P f args w R:=by
 refine (callsIn_wide (n:=0)).1 ?_
 have:CallsIn (FW none) 0 P f args w R:=by
  refine callsIn_of_wp_marks hf hb trivial ?_ rfl
  refine Go.wpIn_mono (h _ ⟨rfl,by simp [hn]; omega,fun t v ht=>?_⟩) fun e a w he=>by cases e<;>first|exact he|exact he.elim
  subst hL
  obtain ⟨_,h2⟩:=lookup_argsL args.toList 0 t v ht
  simp only [Nat.sub_zero] at h2
  have h3:args[t]? = some v:=by simpa using h2
  have hlt:t<args.size:=by
   rcases Nat.lt_or_ge t args.size with h|h
   ·exact h
   ·rw [Array.getElem?_eq_none h] at h3; cases h3
  rw [Array.getElem?_append_left hlt]; exact h3
 exact this
def mark (r:Nat):Deferred:={target := .collected r,args := #[]}
theorem ret_doneM {fn:Func}{φ:Value→Gh→World→Prop}{r:Nat}(hF:Fr N [mark r] L a)(hS:SS M κ0 w0 κ w C R)(i:Nat)(hC:C[i]? = some (.ext (defX r)))(hi:C.eraseIdx i=C')
  (k : ∀w',SS M κ0 w0 κ w' C' R → ∃v,(results fn a.tmps).run P w' = .ok v w'∧φ v κ w'):postM P fn (Post M κ0 w0 φ) .ret a w:=by
 have hp:w.heap[r]? = some (.deferred (some []))∧κ r=none:=hS.ck i hC
 obtain ⟨A,B,hAB,hAl⟩ : ∃A B,C=A ++ .ext (defX r)::B∧A.length=i:=by
  have hi:=(List.getElem?_eq_some_iff.1 hC).1
  refine ⟨C.take i,C.drop (i+1),?_,by simp; omega⟩
  have:=(List.getElem?_eq_some_iff.1 hC).2
  rw [← this]; simp
 have hC':C'=A++B:=by rw [← hi,hAB,← hAl]; simp [List.eraseIdx_append_of_length_le]
 have hnd:(blksOf A++(r::blksOf B)).Nodup:=by
  have:=hS.nd
  rw [hAB,blksOf_append] at this
  exact this
 have hrM:w0.heap.size≤r∨r∈M:=hS.own r (by rw [hAB,blksOf_append]; exact List.mem_append.2 (.inr (List.mem_append.2 (.inl (by simp [Ck.blks,defX])))))
 have hS1:SS M κ0 w0 κ w C' R:=hS.drop (by rw [hC',hAB]; simp)
 have he:Ext [r] κ w κ (w.putObj r (.deferred none)):=Ext.put hp.1 hp.2 (fun c t fr h=>by cases h) (fun c t fr h=>by cases h)
 have hS2:SS M κ0 w0 κ (w.putObj r (.deferred none)) C' R:=hS1.stepM he (fun b hb=>hS.fresh b (by simpa using hb)) (fun b hb=>by simp only [List.mem_singleton] at hb; subst hb; exact hrM) fun b hb hbr=>by
  simp only [List.mem_singleton] at hbr
  subst hbr
  rw [hC',blksOf_append] at hb
  have h2:=List.nodup_append.1 hnd
  rcases List.mem_append.1 hb with hb|hb
  ·exact h2.2.2 _ hb _ (by simp) rfl
  ·exact (List.nodup_cons.1 h2.2.1).1 hb
 obtain ⟨v,hv,hφ⟩:=k _ hS2
 show LeavesInM (FW none) 0 P fn a.tmps (Post M κ0 w0 φ) a.defers .returning w
 rw [hF.defers]
 exact ⟨by simp,.inl ⟨r,_,rfl,run_takeDeferred hp.1,⟨v,hv,v,κ,rfl,hS2.ext,hS2.fresh,hφ⟩⟩⟩
theorem SS.moreM {M':List Nat} (h:SS M κ0 w0 κ w C R) (hM : ∀b∈M,b∈M'):SS M' κ0 w0 κ w C R:=
 ⟨h.ext.weaken fun b hb _=>hM b hb,h.fresh,h.ok,h.lt,h.nd,fun b hb=>(h.own b hb).imp id (hM b),h.ro⟩
theorem nodup_ext {bs:List Nat} {C:List Ck} {r l:Nat} (hr:r≠l) (h1:(blksOf C).Nodup) (h2:r ∉ blksOf C) (h3:l ∉ blksOf C):(r::l::blksOf C).Nodup:=
 List.nodup_cons.2 ⟨by simp [hr,h2],List.nodup_cons.2 ⟨h3,h1⟩⟩
def RE {σ:Type} (Y:σ→XF→Prop) (s':σ) (c:Bool) (r l:Nat) (rc:Loop) (κb:Gh) (wb:World) (Cb:List Ck) (jump:Option Code) (w3:World):Prop:=
 ∃κ3 C3 R3,SS (blksOf Cb) κb wb κ3 w3 C3 R3∧c=jump.isNone∧Y s' (mkX r l {rc with state:=if jump.isNone then .ready else .done,pending:=jump} C3 R3)
def roundExit {σ:Type}(Y:σ→XF→Prop)(s':σ)(c:Bool)(r l:Nat)(rc:Loop)(κb:Gh)(wb:World)(Cb:List Ck):Exit→Act→World→Prop
 | .normal,_,w=>RE Y s' c r l rc κb wb Cb none w
 | .ret,_,w=>RE Y s' c r l rc κb wb Cb (some .ret) w
 | .exit id,_,w=>RE Y s' c r l rc κb wb Cb (some (.exit id)) w
 | .goto t,_,w=>RE Y s' c r l rc κb wb Cb (some (.goto t)) w
 | _,_,_=>False
theorem round_ok {σ:Type}{Y:σ→XF→Prop}{r l:Nat}{rc:Loop}{args:Array Value}{s':σ}{c:Bool}(hp:(mkX r l rc C R).p κ w)(hf:Fresh κ w)(hnd:(mkX r l rc C R).bs.Nodup)(hlt : ∀b∈(mkX r l rc C R).bs,b<w.heap.size)
  (hst:rc.state = .ready) (hargs:args.size=rc.params.size) (hFr:Fr N [] L {tmps:=(rc.params.zip args).foldl (fun tmps (t,a)=>tmps.setIfInBounds t a) rc.tmps,defers:=[]})
  (h : ∀a,Fr N [] L a→SS (blksOf C) κ w κ w C R→rc.assign.wpIn (FW (some l)) 0 P (Exit.then (fun a1 w1 => ∃κ1 C1 R1,SS (blksOf C) κ w κ1 w1 C1 R1 ∧ ∀w2,SS (blksOf C1) κ1 w2 κ1 w2 C1 R1 →
   rc.body.wpIn (FW (some l)) 0 P (roundExit Y s' c r l rc κ1 w2 C1) a1 w2) (fun _ _ _=>False)) a w):RoundOk P l Y args (mkX r l rc C R) s' c κ w:=by
 obtain ⟨⟨hr1,hr2⟩,⟨hl1,hl2⟩,hok,hro⟩:=hp
 have hnd':(r::l::blksOf C).Nodup:=hnd
 obtain ⟨hn1,hn2⟩:=List.nodup_cons.1 hnd'
 obtain ⟨hn3,hn4⟩:=List.nodup_cons.1 hn2
 simp only [List.mem_cons,not_or] at hn1
 obtain ⟨hrl,hrC⟩:=hn1
 have hrlt:r<w.heap.size:=hlt r (by simp [mkX])
 have hllt:l<w.heap.size:=hlt l (by simp [mkX])
 have hS0:SS (blksOf C) κ w κ w C R:=⟨.refl _ _ _,hf,hok,fun b hb=>hlt b (by simp [mkX,hb]),hn4,fun _ hb => .inr hb,hro⟩
 refine ⟨rc.fn,_,rc.assign,rc.body,run_yield hl1 hargs,?_⟩
 refine roundIn_of_wpIn trivial ?_
 refine Go.wpIn_mono (h _ hFr hS0) fun e a1 w1 he=>?_
 cases e with
 | normal=>
  obtain ⟨κ1,C1,R1,hS1,hbody⟩:=he
  obtain ⟨hl1',hl2'⟩:=hS1.ext.keep l hllt hn3
  have hl1w:=hl1'.trans hl1
  have hlk1:=hl2'.trans hl2
  have hnot : ∀q,q<w.heap.size→q ∉ blksOf C→q ∉ blksOf C1:=fun q hq hqC hq1=>(hS1.own q hq1).elim (fun h=>by omega) hqC
  have hlC1:=hnot l hllt hn3
  have hrC1:=hnot r hrlt hrC
  have hlt1:l<w1.heap.size:=Nat.lt_of_lt_of_le hllt hS1.ext.size
  have e2:Ext [l] κ1 w1 κ1 (w1.putObj l (.loop {rc with state := .busy})):=Ext.put hl1w hlk1 (fun c t fr h=>by cases h) (fun c t fr h=>by cases h)
  have hS2:SS (blksOf C1) κ1 (w1.putObj l (.loop {rc with state := .busy})) κ1 (w1.putObj l (.loop {rc with state := .busy})) C1 R1:=
   ((hS1.rebase.moreM (M':=l::blksOf C1) (fun b hb=>List.mem_cons_of_mem _ hb)).stepM e2 (fun b hb=>hS1.fresh b (by simpa using hb)) (fun b hb => .inr (by simp only [List.mem_singleton] at hb; subst hb; simp)) (fun b hb hbl=>by
    simp only [List.mem_singleton] at hbl; subst hbl; exact hlC1 hb)).rebase
  refine ⟨_,run_beginRound hl1w hst,Go.wpIn_mono (hbody _ hS2) fun e3 a3 w3 he3=>?_⟩
  have fin : ∀jump,RE Y s' c r l rc κ1 (w1.putObj l (.loop {rc with state := .busy})) C1 jump w3 → ∃v w',(Instr.endRound l jump).run P w3 = .ok v w'∧(Ending.returned v = .returned (.bool c) ∧
    ∃κ' x',Y s' x'∧Ext (mkX r l rc C R).bs κ w κ' w'∧Fresh κ' w'∧x'.p κ' w'∧x'.bs.Nodup ∧ ∀b∈x'.bs,(b∈(mkX r l rc C R).bs∨w.heap.size≤b)∧b<w'.heap.size):=by
   rintro jump ⟨κ3,C3,R3,hS3,hcj,hYs⟩
   have hsz2:(w1.putObj l (.loop {rc with state := .busy})).heap.size=w1.heap.size:=by simp
   have hl3:w3.heap[l]? = some (.loop {rc with state := .busy}):=((hS3.ext.keep l (by rw [hsz2]; exact hlt1) hlC1).1).trans (World.putObj_heap_same hlt1)
   have hlk3:κ3 l=none:=((hS3.ext.keep l (by rw [hsz2]; exact hlt1) hlC1).2).trans hlk1
   have hrlt1:r<w1.heap.size:=Nat.lt_of_lt_of_le hrlt hS1.ext.size
   have hr3:w3.heap[r]? = some (.deferred (some [])):=((hS3.ext.keep r (by rw [hsz2]; exact hrlt1) hrC1).1).trans ((World.putObj_heap_other hrl).trans ((hS1.ext.keep r hrlt hrC).1.trans hr1))
   have hrk3:κ3 r=none:=((hS3.ext.keep r (by rw [hsz2]; exact hrlt1) hrC1).2).trans ((hS1.ext.keep r hrlt hrC).2.trans hr2)
   have hsz3:w1.heap.size≤w3.heap.size:=by rw [← hsz2]; exact hS3.ext.size
   have hlt3:l<w3.heap.size:=by omega
   have e4:Ext [l] κ3 w3 κ3 (w3.putObj l (.loop {rc with state:=if jump.isNone then .ready else .done,pending:=jump})):=Ext.put hl3 hlk3 (fun c t fr h=>by cases h) (fun c t fr h=>by cases h)
   have hnot3 : ∀q,q<w.heap.size→q ∉ blksOf C→q ∉ blksOf C3:=fun q hq hqC hq3=>(hS3.own q hq3).elim (fun h=>by rw [hsz2] at h; have:=hS1.ext.size; omega) (hnot q hq hqC)
   have hlC3:=hnot3 l hllt hn3
   have hrC3:=hnot3 r hrlt hrC
   have hS4:SS (l::blksOf C3) κ3 w3 κ3 (w3.putObj l (.loop {rc with state:=if jump.isNone then .ready else .done,pending:=jump})) C3 R3:=
    (hS3.rebase.moreM (M':=l::blksOf C3) (fun b hb=>List.mem_cons_of_mem _ hb)).stepM e4 (fun b hb=>hS3.fresh b (by simpa using hb)) (fun b hb => .inr (by simp only [List.mem_singleton] at hb; subst hb; simp)) (fun b hb hbl=>by
     simp only [List.mem_singleton] at hbl; subst hbl; exact hlC3 hb)
   have h12:Ext (r::l::blksOf C) κ w κ1 (w1.putObj l (.loop {rc with state := .busy})):=(hS1.ext.weaken fun b hb _=>by simp [hb]).trans' e2 fun b hb => .inr (by simp only [List.mem_singleton] at hb; simp [hb])
   have h13:Ext (r::l::blksOf C) κ w κ3 w3:=h12.trans' hS3.ext fun b hb=>(hS1.own b hb).imp id fun h=>by simp [h]
   have h14:=h13.trans' e4 fun b hb => .inr (by simp only [List.mem_singleton] at hb; simp [hb])
   refine ⟨.bool jump.isNone,_,run_endRound jump hl3,by rw [hcj],κ3,_,hYs,h14,hS4.fresh,⟨⟨(World.putObj_heap_other hrl).trans hr3,hrk3⟩,⟨World.putObj_heap_same hlt3,hlk3⟩,hS4.ok,hS4.ro⟩,nodup_ext (bs:=[]) hrl hS3.nd hrC3 hlC3,fun b hb=>?_⟩
   simp only [mkX,List.mem_cons] at hb ⊢
   rcases hb with rfl|rfl|hb
   ·exact ⟨.inl (.inl rfl),by simp; omega⟩
   ·exact ⟨.inl (.inr (.inl rfl)),by simp; omega⟩
   ·refine ⟨?_,hS4.lt b hb⟩
    rcases hS3.own b hb with h|h
    ·exact .inr (by rw [hsz2] at h; exact Nat.le_trans hS1.ext.size h)
    ·exact (hS1.own b h).elim .inr fun h => .inl (.inr (.inr h))
  cases e3 with
  | normal=>exact fin none he3
  | ret=>exact fin _ he3
  | exit id=>exact fin _ he3
  | goto t=>exact fin _ he3
  | panic _=>exact he3.elim
  | outgrown=>exact he3.elim
 | _=>exact he.elim
theorem SS.pack {r l:Nat} {rc:Loop} {Cap:List Ck} (h:SS M κ0 w0 κ w (.ext (mkX r l rc [] [])::(C++Cap)) R) (hR : ∀m∈R',m.p κ w):SS M κ0 w0 κ w (.ext (mkX r l rc C R')::Cap) R:=by
 have hb:blksOf (.ext (mkX r l rc C R')::Cap)=blksOf (.ext (mkX r l rc [] [])::(C++Cap)):=by simp [blksOf,Ck.blks,mkX]
 refine ⟨h.ext,h.fresh,fun c hc=>?_,fun b hb'=>h.lt b (hb▸hb'),hb▸h.nd,fun b hb'=>h.own b (hb▸hb'),h.ro⟩
 rcases List.mem_cons.1 hc with rfl|hc
 ·obtain ⟨h1,h2,_,_⟩:=(h.ok (.ext (mkX r l rc [] [])) (by simp):(mkX r l rc [] []).p κ w)
  exact ⟨h1,h2,fun c hc=>h.ok c (by simp [hc]),hR⟩
 ·exact h.ok c (by simp [hc])
theorem SS.back {w1:World}{κ':Gh}{w':World}{x:XF}(h:SS M κ0 w0 κ w1 C R)(h2:SS (blksOf C) κ w1 κ' w' [.ext x] []):SS M κ0 w0 κ' w' [.ext x] R where
 ext:=h.ext.trans' h2.ext fun b hb=>h.own b hb
 fresh:=h2.fresh
 ok:=h2.ok
 lt:=h2.lt
 nd:=h2.nd
 own:=fun b hb=>(h2.own b hb).elim (fun h3 => .inl (Nat.le_trans h.ext.size h3)) (h.own b)
 ro:=fun m hm=>m.mono h2.ext (h.ro m hm)
theorem SS.shut {r l:Nat}{rc:Loop}(h:SS M κ0 w0 κ w [.ext (mkX r l rc C R')] R)(hb:rc.state ≠ .busy) :
  ∃w',(Instr.endLoop l).run P w = .ok rc.pending w'∧SS M κ0 w0 κ w' (.ext (defX r)::C) (R'++R):=by
 obtain ⟨⟨hr1,hr2⟩,⟨hl1,hl2⟩,hok,hro⟩:=(h.ok (.ext (mkX r l rc C R')) (by simp):(mkX r l rc C R').p κ w)
 have hbl:blksOf [.ext (mkX r l rc C R')]=r::l::blksOf C:=by simp [blksOf,Ck.blks,mkX]
 have hnd:=h.nd
 rw [hbl] at hnd
 obtain ⟨hn1,hn2⟩:=List.nodup_cons.1 hnd
 obtain ⟨hn3,hn4⟩:=List.nodup_cons.1 hn2
 simp only [List.mem_cons,not_or] at hn1
 have hlo:=h.own l (by rw [hbl]; simp)
 have hin : ∀b,b∈r::blksOf C→b∈blksOf [.ext (mkX r l rc C R')]:=fun b hb=>by
  rw [hbl]; rcases List.mem_cons.1 hb with rfl|hb<;>simp [*]
 have h1:SS M κ0 w0 κ w (.ext (defX r)::C) (R'++R):=
  ⟨h.ext,h.fresh,fun c hc=>by
   rcases List.mem_cons.1 hc with rfl|hc
   ·exact ⟨hr1,hr2⟩
   ·exact hok c hc,fun b hb=>h.lt b (hin b hb),List.nodup_cons.2 ⟨hn1.2,hn4⟩,fun b hb=>h.own b (hin b hb),fun m hm=>(List.mem_append.1 hm).elim (hro m) (h.ro m)⟩
 have e:Ext [l] κ w κ (w.putObj l (.loop {rc with state := .exhausted})):=Ext.put hl1 hl2 (fun c t fr h=>by cases h) (fun c t fr h=>by cases h)
 refine ⟨_,run_endLoop hl1 hb,h1.stepM e (fun b hb=>h.fresh b (by simpa using hb)) (fun b hb=>by simp only [List.mem_singleton] at hb; subst hb; exact hlo) fun b hb hbl'=>?_⟩
 simp only [List.mem_singleton] at hbl'
 subst hbl'
 rcases List.mem_cons.1 (show b∈r::blksOf C from hb) with rfl|hb
 ·exact hn1.1 rfl
 ·exact hn3 hb
theorem wp_range {Cap:List Ck}{g:Operand}{ps:Array Tmp}{assign body:Code}{f:FuncId}{caps:Array Value}(hF:Fr N [] L a)(hS:SS M κ0 w0 κ w (C++Cap) R)(hcov:ev L g=some (.func (.func f) #[] caps))(hf : ∀args w,(callFunc f args).run P w = .ok (.enter f args) w)(hR : ∀m∈R',m.p κ w)
  (h : ∀r l fn w1,SS M κ0 w0 κ w1 (.ext (mkX r l {state := .ready,pending:=none,fn:=fn,tmps:=a.tmps,params:=ps,assign:=assign,body:=body,defers:=r} C R')::Cap) R →
   ∃Yf:XF→Prop,Calls P f (#[.func (.yield l) #[] #[]]++caps) w1 (Post (blksOf (.ext (mkX r l {state := .ready,pending:=none,fn:=fn,tmps:=a.tmps,params:=ps,assign:=assign,body:=body,defers:=r} C R')::Cap)) κ w1 fun _ κ' w'=>
     ∃x,Yf x∧SS (blksOf (.ext (mkX r l {state := .ready,pending:=none,fn:=fn,tmps:=a.tmps,params:=ps,assign:=assign,body:=body,defers:=r} C R')::Cap)) κ w1 κ' w' [.ext x] []) ∧
    ∀x,Yf x → ∃rc' C'' R'',x=mkX r l rc' C'' R''∧rc'.state ≠ .busy ∧ ∀κ' w' a',Fr N [mark r] L a'→SS M κ0 w0 κ' w' (.ext (defX r)::C'') (R''++R) →
     (match rc'.pending with|none=>Q .normal a' w'|some c=>c.wpIn (FW none) 0 P Q a' w')) :
  (Code.rangeFunc g ps assign body).wpIn (FW none) 0 P Q a w:=by
 refine wpIn_rangeFunc fun fn _=>?_
 let rc:Loop:={state := .ready,pending:=none,fn:=fn,tmps:=a.tmps,params:=ps,assign:=assign,body:=body,defers:=w.heap.size}
 have hS1:=(hS.step (Ext.allocN hS.fresh (.deferred (some [])) (fun c t fr h=>by cases h)) (hS.fresh.alloc _))
 have hS2:=(hS1.step (Ext.allocN hS1.fresh (.loop rc) (fun c t fr h=>by cases h)) (hS1.fresh.alloc _))
 have hsz1:(w.alloc (.deferred (some []))).heap.size=w.heap.size+1:=size_alloc _ _
 have hr:((w.alloc (.deferred (some []))).alloc (.loop rc)).heap[w.heap.size]? = some (.deferred (some [])):=(heap_alloc_old _ _ _ (by rw [hsz1]; omega)).trans (heap_alloc_new _ _)
 have hl:((w.alloc (.deferred (some []))).alloc (.loop rc)).heap[w.heap.size+1]? = some (.loop rc):=by rw [← hsz1]; exact heap_alloc_new _ _
 have hS3:SS M κ0 w0 κ ((w.alloc (.deferred (some []))).alloc (.loop rc)) (.ext (mkX w.heap.size (w.heap.size+1) rc [] [])::(C++Cap)) R:=by
  refine ⟨hS2.ext,hS2.fresh,fun c hc=>?_,fun b hb=>?_,?_,fun b hb=>?_,hS2.ro⟩
  ·rcases List.mem_cons.1 hc with rfl|hc
   ·exact ⟨⟨hr,hS.fresh _ (Nat.le_refl _)⟩,⟨hl,hS.fresh _ (by omega)⟩,(fun _ h=>by cases h),(fun _ h=>by cases h)⟩
   ·exact hS2.ok c hc
  ·rcases List.mem_cons.1 (show b∈w.heap.size::(w.heap.size+1)::blksOf (C++Cap) from hb) with rfl|hb
   ·simp only [size_alloc]; omega
   ·rcases List.mem_cons.1 hb with rfl|hb
    ·simp only [size_alloc]; omega
    ·exact hS2.lt b hb
  ·show (w.heap.size::(w.heap.size+1)::blksOf (C++Cap)).Nodup
   exact nodup_ext (bs:=[]) (by omega) hS.nd (fun h=>by have:=hS.lt _ h; omega) (fun h=>by have:=hS.lt _ h; omega)
  ·rcases List.mem_cons.1 (show b∈w.heap.size::(w.heap.size+1)::blksOf (C++Cap) from hb) with rfl|hb
   ·exact .inl hS.ext.size
   ·rcases List.mem_cons.1 hb with rfl|hb
    ·exact .inl (Nat.le_succ_of_le hS.ext.size)
    ·exact hS2.own b hb
 have hmono:Ext [] κ w κ ((w.alloc (.deferred (some []))).alloc (.loop rc)):=(Ext.allocN hS.fresh (.deferred (some [])) (fun c t fr h=>by cases h)).trans (Ext.allocN hS1.fresh (.loop rc) (fun c t fr h=>by cases h))
 have hS4:=hS3.pack (R':=R') fun m hm=>m.mono hmono (hR m hm)
 obtain ⟨Yf,hcall,hend⟩:=h _ _ fn _ hS4
 have hgv:a.eval g = .func (.func f) #[] caps:=hF.ev hcov
 let W1:=(w.alloc (.deferred (some []))).alloc (.loop rc)
 refine ⟨w.heap.size+1,[mark w.heap.size],W1,{target := .fn (.func f) caps,args := #[.func (.yield (w.heap.size+1)) #[] #[]]},W1,f,#[.func (.yield (w.heap.size+1)) #[] #[]]++caps,W1,run_enterLoop_outer _ _ _ _ _,?_,fun _ _=>trivial,?_,fun hd=>by simp [FW] at hd,?_⟩
 ·have hgen : ∀ρ:Operand→Value,ρ g = .func (.func f) #[] caps→(∀v,ρ (.const v)=v)→(resolve ρ (rangeCall g (w.heap.size+1)) 0).run P W1 = .ok {target := .fn (.func f) caps,args := #[.func (.yield (w.heap.size+1)) #[] #[]]} W1:=fun ρ h hk=>by
   simp [resolve,Deferred.ofValue,h,hk]
  exact hgen _ hgv fun _=>rfl
 ·simp [invoke,hf,go_sem]
 ·have hci:CallsIn (FW none) (0-1) P f (#[.func (.yield (w.heap.size+1)) #[] #[]]++caps) _ _:=(callsIn_wide (n:=0)).2 hcall
  refine CallsIn.mono hci fun e w' ⟨v,κ',he,_,_,x,hYx,hx⟩=>?_
  subst he
  obtain ⟨rc',C'',R'',rfl,hb,hk⟩:=hend x hYx
  obtain ⟨w'',hrun,hS5⟩:=(hS4.back hx).shut (P:=P) hb
  refine ⟨_,w'',hrun,hk κ' w'' _ ?_ hS5⟩
  exact ⟨by simp [hF.defers],hF.size,hF.val⟩
end
end Go.Cf
namespace Go.Cf
open Go
section
variable {P:Program}{Q:Exit→Act→World→Prop}{N:Nat}{D:List Deferred}{L L':FL}{a:Act}{w:World}
variable {M:List Nat}{κ0 κ:Gh}{w0:World}{C C':List Ck}{R R':List MP}
def lpState:Nat→LoopState
 | 0 => .ready
 | _+1 => .done
def lpJump (js:List Code):Nat→Option Code
 | 0=>none
 | n+1=>js[n]?
theorem lpState_ne (n:Nat):lpState n ≠ .busy:=by cases n<;>simp [lpState]
def lp (rc:Loop) (js:List Code) (n:Nat):Loop:={rc with state:=lpState n,pending:=lpJump js n}
def jumped (P:Program) (Q:Exit→Act→World→Prop) (js:List Code) (n:Nat) (a:Act) (w:World):Prop:=
 match lpJump js n with
 | none=>Q .normal a w
 | some c=>c.wpIn (FW none) 0 P Q a w
theorem jumped0 {js:List Code} {n:Nat} (h:(n==0)=true) (k:Q .normal a w):jumped P Q js n a w:=by
 have:n=0:=by simpa using h
 subst this
 exact k
def ups (L:FL) (l:List (Tmp×Value)):FL:=l.foldl (fun L x=>upd L (some x.1) x.2) L
theorem Fr.fold : ∀(l:List (Tmp×Value)) {L:FL} {t:Array Value},Fr N D L {tmps:=t,defers:=D}→(l.all fun x=>x.1<N)=true→Fr N D (ups L l) {tmps:=l.foldl (fun tmps (x:Tmp×Value)=>tmps.setIfInBounds x.1 x.2) t,defers:=D}:=by
 intro l
 induction l with
 | nil=>intro L t h _; exact h
 | cons x l ih=>
  intro L t h hl
  simp only [List.all_cons,Bool.and_eq_true,decide_eq_true_eq] at hl
  have h1:Fr N D (upd L (some x.1) x.2) {tmps:=t.setIfInBounds x.1 x.2,defers:=D}:=h.put (some x.1) x.2 (fun t ht=>by cases ht; exact hl.1)
  exact ih h1 hl.2
theorem Fr.round {ps:Array Tmp}{args:Array Value}(h:Fr N [] L a)(hl:((ps.zip args).toList.all fun x=>x.1<N)=true)(ks:List Nat)(hL:Cf.keep (ups L (ps.zip args).toList) ks=L') :
  Fr N [] L' {tmps:=(ps.zip args).foldl (fun tmps (t,a)=>tmps.setIfInBounds t a) a.tmps,defers:=[]}:=by
 have h0:Fr N [] L {tmps:=a.tmps,defers:=[]}:=⟨rfl,h.size,h.val⟩
 have:=(h0.fold (ps.zip args).toList hl).keep' ks hL
 rw [← Array.foldl_toList]
 exact this
theorem round_at {σ:Type}{Y:σ→XF→Prop}{r l:Nat}{rc:Loop}{js:List Code}{n:Nat}{args:Array Value}{s':σ}{c:Bool}{ps:Array Tmp}{assign body:Code}{a0:Act}(hp:(mkX r l (lp rc js n) C R).p κ w)(hf:Fresh κ w)(hnd:(mkX r l (lp rc js n) C R).bs.Nodup)(hlt : ∀b∈(mkX r l (lp rc js n) C R).bs,b<w.heap.size)
  (hn:(n==0)=true) (hrc:rc.params=ps∧rc.assign=assign∧rc.body=body∧rc.tmps=a0.tmps) (hargs:args.size=ps.size) (ks:List Nat) {L0:FL} (hF0:Fr N [] L0 a0) (hl:((ps.zip args).toList.all fun x=>x.1<N)=true) (hL:Cf.keep (ups L0 (ps.zip args).toList) ks=L)
  (h : ∀a,Fr N [] L a→SS (blksOf C) κ w κ w C R→assign.wpIn (FW (some l)) 0 P (Exit.then (fun a1 w1 => ∃κ1 C1 R1,SS (blksOf C) κ w κ1 w1 C1 R1 ∧ ∀w2,SS (blksOf C1) κ1 w2 κ1 w2 C1 R1 →
   body.wpIn (FW (some l)) 0 P (roundExit Y s' c r l rc κ1 w2 C1) a1 w2) (fun _ _ _=>False)) a w):RoundOk P l Y args (mkX r l (lp rc js n) C R) s' c κ w:=by
 obtain ⟨rfl,rfl,rfl,ht⟩:=hrc
 have hn0:n=0:=by simpa using hn
 subst hn0
 refine round_ok hp hf hnd hlt rfl hargs (L:=L) (N:=N) ?_ h
 have:=hF0.round hl ks hL
 show Fr N [] L {tmps:=(rc.params.zip args).foldl (fun tmps (t,a)=>tmps.setIfInBounds t a) rc.tmps,defers:=[]}
 rw [ht]
 exact this
theorem re_done {σ:Type}{Y:σ→XF→Prop}{s':σ}{c:Bool}{r l:Nat}{rc:Loop}{κb:Gh}{wb:World}{Cb:List Ck}{js:List Code}{w3:World}(n:Nat)(hS:SS (blksOf Cb) κb wb κ w3 C R)(jump:Option Code)(hj:lpJump js n=jump)(hst:lpState n=if jump.isNone then .ready else .done)(hc:c=jump.isNone)
  (hY:Y s' (mkX r l (lp rc js n) C R)):RE Y s' c r l rc κb wb Cb jump w3:=by
 subst hj
 refine ⟨κ,C,R,hS,hc,?_⟩
 rw [← hst]
 exact hY
theorem re_normal {σ:Type} {Y:σ→XF→Prop} {s':σ} {r l:Nat} {rc:Loop} {κb:Gh} {wb:World} {Cb:List Ck} (js:List Code) (hS:SS (blksOf Cb) κb wb κ w C R) (hY:Y s' (mkX r l (lp rc js 0) C R)):roundExit Y s' true r l rc κb wb Cb .normal a w:=
 re_done 0 hS none rfl rfl rfl hY
theorem wp_range' {Cap:List Ck}(js:List Code)(args:Nat→Array Value){g:Operand}{ps:Array Tmp}{assign body:Code}{f:FuncId}{caps:Array Value}(hF:Fr N [] L a)(hS:SS M κ0 w0 κ w (C++Cap) R)(hcov:ev L g=some (.func (.func f) #[] caps))(hf : ∀args w,(callFunc f args).run P w = .ok (.enter f args) w)(hR : ∀m∈R',m.p κ w)(hargs : ∀l,#[.func (.yield l) #[] #[]]++caps=args l)
  (h : ∀r l rc w1,(rc.params=ps∧rc.assign=assign∧rc.body=body∧rc.tmps=a.tmps)→SS M κ0 w0 κ w1 (.ext (mkX r l (lp rc js 0) C R')::Cap) R →
   ∃Yf:XF→Prop,Calls P f (args l) w1 (Post (blksOf (.ext (mkX r l (lp rc js 0) C R')::Cap)) κ w1 fun _ κ' w' => ∃x,Yf x∧SS (blksOf (.ext (mkX r l (lp rc js 0) C R')::Cap)) κ w1 κ' w' [.ext x] []) ∧
    ∀x,Yf x → ∃n C'' R'',x=mkX r l (lp rc js n) C'' R'' ∧ ∀κ' w' a',Fr N [mark r] L a'→SS M κ0 w0 κ' w' (.ext (defX r)::C'') (R''++R)→jumped P Q js n a' w') :
  (Code.rangeFunc g ps assign body).wpIn (FW none) 0 P Q a w:=by
 refine wp_range hF hS hcov hf hR fun r l fn w1 hS1=>?_
 obtain ⟨Yf,h1,h2⟩:=h r l {state := .ready,pending:=none,fn:=fn,tmps:=a.tmps,params:=ps,assign:=assign,body:=body,defers:=r} w1 ⟨rfl,rfl,rfl,rfl⟩ hS1
 refine ⟨Yf,by rw [hargs]; exact h1,fun x hx=>?_⟩
 obtain ⟨n,C'',R'',hxe,hk⟩:=h2 x hx
 exact ⟨_,C'',R'',hxe,lpState_ne n,hk⟩
theorem ret_done0 {fn:Func} {φ:Value→Gh→World→Prop} {v:Value} (hF:Fr N [] L a) (hS:SS M κ0 w0 κ w C R) (hr:(results fn a.tmps).run P w = .ok v w) (hφ:φ v κ w):postM P fn (Post M κ0 w0 φ) .ret a w:=by
 show LeavesInM (FW none) 0 P fn a.tmps (Post M κ0 w0 φ) a.defers .returning w
 rw [hF.defers]
 exact ⟨v,hr,v,κ,rfl,hS.ext,hS.fresh,hφ⟩
theorem val_makeFunc {T':Nat} {o:Oper} {f:FuncId} {xs:Array Operand} {caps:Array Value} (hop:o.op = .makeFunc (.func f) #[] xs) (hx:xs.map (evD L)=caps) : ∀w,(execOp (evD L) o).run P w = .ok (.value (.func (.func f) #[] caps)) w:=fun w=>by
 subst hx
 simp [execOp,hop,Instr.makeFunc]
end
end Go.Cf
namespace Go.Cf
open Go
def gh (K:Nat) (W:World):Gh:=fun b=>if b<W.heap.size then some K else none
theorem gh_fresh (K:Nat) (W:World):Fresh (gh K W) W:=fun b hb=>by simp [gh]; omega
def RdT {α:Type} (P:Program) (t:Ty α) (ok:α→Prop) (E:TypeId):Prop := ∀(H:Type) (enc:TypeId×Value→H) (W:World) (n:Nat) (cs:List Value) (d:DataW H×List MemPlace),DataW.trod enc P W 0 (fun _=>true) true n E cs=some d → ∃x K0,ok x ∧ ∀K,K0≤K→t.rep (gh K W) W cs x
def okS (s:ByteArray):Prop:=s.size≤maxLen
theorem rd_str {P:Program} {E:TypeId} (h:P.underlying E=some .string):RdT P fStr.ty okS E:=fun H enc W n cs d hd=>by
 cases n with
 | zero=>simp [DataW.trod] at hd
 | succ n=>
  unfold DataW.trod at hd
  rw [h] at hd
  split at hd<;>simp_all [fStr,FT.ty,okS]
  exact ⟨_,hd.1,0,fun _ _=>rfl⟩
theorem arg_str {P:Program} {T:TypeId} {H:Type} {enc:TypeId×Value→H} {W:World} {v:Value} {d:DataW H} {ps:List MemPlace} (ht:P.underlying T=some .string) (h:DataW.Trod enc P W 0 (fun _=>true) true T v d ps) {base:Nat} (hok:Value.okWide P W .any base T v) : ∃x,v = .string x∧okS x:=by
 obtain ⟨n,h⟩:=h
 obtain ⟨x,K0,hx,hr⟩:=rd_str ht _ _ _ _ _ _ h
 have hr':v.cells.toList=[.string x]:=hr K0 (Nat.le_refl _)
 refine ⟨x,?_,hx⟩
 unfold Value.okWide Cell.okWide at hok
 simp only [ht] at hok
 cases v<;>simp_all [Cell.ok,Value.cells]
theorem trodAll_stays {P:Program}{H:Type}{enc:TypeId×Value→H}{W W':World}{sp:Nat→Bool}(hl:laidOutB P=true) : ∀ {ts:List TypeId}{vs:List Value}{ds:List (DataW H)}{ps:List MemPlace},(ts.all fun t=>P.readableRec t&&decide (t<P.types.size))=true →
  DataW.TrodAll enc P W 0 (fun _=>true) true ts vs ds ps→(∀p∈ps,W.sameAt W' p)→(∀p∈ps,sp p.block=true)→DataW.TrodAll enc P W' 0 sp true ts vs ds ps:=by
 intro ts
 induction ts with
 | nil=>intro vs ds ps _ h _ _; cases vs<;>cases ds<;>simp_all [DataW.TrodAll]
 | cons t ts ih=>
  intro vs ds ps ht h hs hsp
  cases vs with
  | nil=>simp [DataW.TrodAll] at h
  | cons v vs=>
   cases ds with
   | nil=>simp [DataW.TrodAll] at h
   | cons d ds=>
    obtain ⟨p,q,h1,h2,rfl⟩:=h
    simp only [List.all_cons,Bool.and_eq_true,decide_eq_true_eq] at ht
    exact ⟨p,q,WideElems.Trod_stays hl ht.1.1 ht.1.2 h1 (fun x hx=>hs x (by simp [hx])) (fun x hx=>hsp x (by simp [hx])),ih (by simpa using ht.2) h2 (fun x hx=>hs x (by simp [hx])) (fun x hx=>hsp x (by simp [hx])),rfl⟩
theorem sameAt_of {W W':World} (h : ∀b,b<W.heap.size→W'.heap[b]? = W.heap[b]?) {p:MemPlace} (hp:p.block<W.heap.size):W.sameAt W' p:=by
 cases p with
 | cell b off=>exact cell_of_heap (h b hp)
 | map b=>exact h b hp
theorem law_kept {P:Program}{f:FuncId}{args:Array Value}{κ:Gh}{w:World}{b:Bool}{φ:Gh→World→Prop}(hb:b=true)(h:Calls P f args w (Post [] κ w fun v κ w=>v = .bool b∧φ κ w)) :
  Calls P f args w fun e w'=>e = .returned (.bool true)∧w.keptBut w' (fun _=>False) ∧ ∀b,b<w.heap.size→w'.heap[b]? = w.heap[b]? := by
 subst hb
 exact h.mono fun e w' ⟨v,κ',he,hx,_,hv,_⟩=>⟨by rw [he,hv],hx.grown,fun b hb=>(hx.keep b hb (by simp)).1⟩
theorem post_kept {H:Type}{enc:TypeId×Value→H}{P:Program}{f:Func}{s:ChangeSpec}{W W':World}{args:Array Value}{v:Value}{ds gs:List (DataW H)}{before pa pv:List MemPlace}
  (hW:DataW.Whole enc P f.params.toList s.vars false W args.toList ds gs before)
  (hres : ∀(b:Nat) (sp:Nat→Bool) (hd:Bool),DataW.TrodAll enc P W' b sp hd f.resultTypes.toList (v.resultList f.resultTypes.size) (s.fn H (ds++gs)).results [])
  (hargs : ∀sp:Nat→Bool,(∀p∈before,sp p.block=true)→DataW.TrodAll enc P W' 0 sp true f.params.toList args.toList (s.fn H (ds++gs)).args pa)
  (hvars : ∀sp:Nat→Bool,(∀p∈before,sp p.block=true)→DataW.TrodVars enc P W' sp s.vars (s.fn H (ds++gs)).vars pv)
  (hps:before=pa++pv) (hk:W.keptBut W' (· ∈ before)):s.post enc P f false true false false W args v W':=by
 have hold : ∀p∈before,(fun b=>decide (b<W.heap.size)) p.block=true:=fun p hp=>by simpa using hW.lt p hp
 refine ⟨ds,gs,before,[],pa,pv,hW,hres _ _ _,hargs _ hold,hvars _ hold,World.keptBut_mono (fun p hp=>⟨hp,?_⟩) hk,fun h=>by cases h⟩
 rw [hps,List.mem_append] at hp
 exact Or.inr hp
end Go.Cf
namespace Go.Cf
open Go
section
variable {ro:Option Nat}{P:Program}{ops:Array Oper}{Q:Exit→Act→World→Prop}{N:Nat}{D:List Deferred}{L L':FL}{a:Act}{w:World}{o:Oper}{K:Act→World→Prop}
variable {M:List Nat}{κ0 κ κ':Gh}{w0 w':World}{C C' Cin Cr Cout:List Ck}{R R' Rout:List MP}
theorem SS.callBack (h:SS M κ0 w0 κ w (Cin++Cr) R) (h2:SS (blksOf Cin) κ w κ' w' Cout Rout):SS M κ0 w0 κ' w' (Cout++Cr) (Rout++R):=by
 have hnd:=h.nd
 rw [blksOf_append] at hnd
 obtain ⟨n1,n2,n3⟩:=List.nodup_append.1 hnd
 have hin : ∀b∈blksOf Cin,b∈blksOf (Cin++Cr):=fun b hb=>by rw [blksOf_append]; exact List.mem_append.2 (.inl hb)
 have hcr : ∀b∈blksOf Cr,b∈blksOf (Cin++Cr):=fun b hb=>by rw [blksOf_append]; exact List.mem_append.2 (.inr hb)
 refine ⟨h.ext.trans' h2.ext fun b hb=>h.own b (hin b hb),h2.fresh,fun c hc=>?_,fun b hb=>?_,?_,fun b hb=>?_,fun m hm=>?_⟩
 ·rcases List.mem_append.1 hc with hc|hc
  ·exact h2.ok c hc
  ·exact Ck.ok_keep (h.ok c (List.mem_append.2 (.inr hc))) (fun b hb=>h.lt b (hcr b (List.mem_flatMap.2 ⟨c,hc,hb⟩))) h2.ext fun b hb hb'=>n3 b hb' b (List.mem_flatMap.2 ⟨c,hc,hb⟩) rfl
 ·rw [blksOf_append] at hb
  rcases List.mem_append.1 hb with hb|hb
  ·exact h2.lt b hb
  ·exact Nat.lt_of_lt_of_le (h.lt b (hcr b hb)) h2.ext.size
 ·rw [blksOf_append]
  refine List.nodup_append.2 ⟨h2.nd,n2,fun x hx y hy=>?_⟩
  rintro rfl
  rcases h2.own x hx with h3|h3
  ·have:=h.lt x (hcr x hy); omega
  ·exact n3 x h3 x hy rfl
 ·rw [blksOf_append] at hb
  rcases List.mem_append.1 hb with hb|hb
  ·rcases h2.own b hb with h3|h3
   ·exact .inl (Nat.le_trans h.ext.size h3)
   ·exact h.own b (hin b h3)
  ·exact h.own b (hcr b hb)
 ·rcases List.mem_append.1 hm with hm|hm
  ·exact h2.ro m hm
  ·exact m.mono h2.ext (h.ro m hm)
theorem wo_callS (hF:Fr N D L a)(hS:SS M κ0 w0 κ w (Cin++Cr) R)(hc:okOp N L o=true){f:FuncId}{args:Array Value}(hr:pureRun P (execOp (evD L) o)=some (.enter f args)){φ:Value→Gh→World→Prop}
  (hcall:SS (blksOf Cin) κ w κ w Cin R→Calls P f args w (Post (blksOf Cin) κ w φ))
  (kk : ∀v κ' w' a',φ v κ' w'→Fr N D (upd L o.dst v) a'→(∀Cout Rout,SS (blksOf Cin) κ w κ' w' Cout Rout→SS M κ0 w0 κ' w' (Cout++Cr) (Rout++R))→K a' w'):wo ro P o a w K Q:=by
 have hsub:Cin.Sublist (Cin++Cr):=List.sublist_append_left _ _
 exact wo_call hF hc hr (hcall (hS.drop hsub).rebase) fun _ w' ⟨v,κ',he,hext,hfr,hφ⟩=>⟨v,he,fun a' hF'=>kk v κ' w' a' hφ hF' fun Cout Rout h2=>hS.callBack h2⟩
end
end Go.Cf
namespace Go.Cf
open Go
set_option linter.unusedVariables false
abbrev pt (b o:Nat):Value := .pointer (some ⟨b,o,none⟩)
abbrev si (x:Int):Nat×List Value:=(1,[.int .i64 x])
abbrev sg (x:ByteArray):Nat×List Value:=(1,[.string x])
abbrev sb (x:Bool):Nat×List Value:=(1,[.bool x])
abbrev su (x:Int):Nat×List Value:=(1,[.int .u64 x])
abbrev sl (p:Option Addr) (n c:Nat):Nat×List Value:=(1,[.slice p n c])
abbrev eb (n:Nat) (l:List Bool):Nat×List Value:=(n,encs fBool l)
abbrev ei (n:Nat) (l:List Int):Nat×List Value:=(n,encs (fInt .i64) l)
abbrev ml {α:Type} (l:List α) (n:Nat):MP:=MP.const (List.length l=n)
abbrev vi (x:Int):Value := .int .i64 x
abbrev vu (x:Int):Value := .int .u64 x
abbrev vb (x:Bool):Value := .bool x
abbrev rg (n:Nat):List Nat:=List.range n
def bitA (n m:Nat):Array Bool:=((List.range n).map fun i=>Nat.testBit m i).toArray
def sgChk:Nat→Segs→Bool
 | 0,_=>true
 | n+1,(k,[v])::s=>(k==1&&v.oneCell')&&sgChk n s
 | _,_=>false
theorem sgN (n:Nat) {s:Segs} (r:segGood (s.drop n)) (h:sgChk n s=true:=by kernel_rfl):segGood s:=by
 induction n generalizing s with
 | zero=>exact r
 | succ n ih=>
  match s,h,r with
  | (k,[v])::s,h,r=>
   simp only [sgChk,Bool.and_eq_true,beq_iff_eq] at h
   obtain ⟨⟨rfl,h1⟩,h2⟩:=h
   exact sgV h1 (ih r h2)
def bxB (C:List Ck) (i:Nat):Nat:=match C[i]? with|some (.box b _ _)=>b|_=>0
def bxT (C:List Ck) (i:Nat):Nat:=match C[i]? with|some (.box _ T _)=>T|_=>0
def bxS (C:List Ck) (i:Nat):Segs:=match C[i]? with|some (.box _ _ s)=>s|_=>[]
def setS (C:List Ck) (i k m:Nat) (s':Segs):List Ck:=C.set i (.box (bxB C i) (bxT C i) ((bxS C i).take k++s'++(bxS C i).drop (k+m)))
def opX (o:Oper):Operand:=match o.op with | .store _ x _=>x | .load _ x=>x | .box _ x=>x|_ => .tmp 0
def opY (o:Oper):Operand:=match o.op with | .store _ _ y=>y|_ => .tmp 0
def opT (o:Oper):TypeId:=match o.op with | .store T _ _=>T | .load T _=>T | .box T _=>T | .alloc T=>T|_=>0
def segV (s:Segs) (k j:Nat):Value:=((s[k]?).bind fun x=>x.2[j]?).getD undef
def subS (s:Segs) (k m:Nat):Segs:=(s.drop k).take m
def pureL (P:Program) (ops:Array Oper) (N n:Nat) (ks:List Nat) (l:List Oper) (L:FL):FL:=((psteps P ops N (l.take n) L).map fun x=>keep x ks).getD []
section
variable {ro:Option Nat}{P:Program}{ops:Array Oper}{Q:Exit→Act→World→Prop}{N:Nat}{D:List Deferred}{L L':FL}{a:Act}{w:World}{o:Oper}{K:Act→World→Prop}
variable {M:List Nat}{κ0 κ:Gh}{w0:World}{C C':List Ck}{R R':List MP}
theorem wp (n:Nat)(ks:List Nat){l:List Oper}(hF:Fr N D L a)(k : ∀a',Fr N D (pureL P ops N n ks l L) a'→wl ro P ops Q (l.drop n) a' w)
  (hp:(psteps P ops N (l.take n) L).isSome=true:=by kernel_rfl):wl ro P ops Q l a w:=by
 refine wl_pure (L':=pureL P ops N n ks l L) n ks hF ?_ k
 unfold pureL
 cases h:psteps P ops N (l.take n) L with
 | none=>rw [h] at hp; cases hp
 | some x=>rfl
theorem wc {l:List Oper} (h:wo ro P o a w (wl ro P ops Q l) Q) (hg:o.guard=none:=by kernel_rfl):wl ro P ops Q (o::l) a w:=wl_cons hg h
theorem wcg {l:List Oper} (hF:Fr N D L a) (h:wo ro P o a w (wl ro P ops Q l) Q) (hg:goes ops L o=some true:=by kernel_rfl):wl ro P ops Q (o::l) a w:=wl_consg hF hg h
theorem SS.sp (h:SS M κ0 w0 κ w C R) (is js:List Nat) {C':List Ck} {R':List MP} (hn:is.Nodup:=by decide) (hC:selG C is=C':=by kernel_rfl) (hR:selG R js=R':=by kernel_rfl):SS M κ0 w0 κ w C' R':=(h.selp is hn hC).pick js hR
theorem SS.sx (h:SS M κ0 w0 κ w C R) (is js:List Nat) {C':List Ck} {R':List MP} (hn:is.Nodup:=by decide) (hC:selG C is=C':=by kernel_rfl) (hR:selG R js=R':=by kernel_rfl):SSx M κ0 w0 C' R' w:=⟨κ,(h.selp is hn hC).pick js hR⟩
theorem Fr.kp (hF:Fr N D L a) (ks:List Nat) (h:Cf.keep L ks=L':=by kernel_rfl):Fr N D L' a:=hF.keep' ks h
theorem wld (hF:Fr N D L a)(hS:SS M κ0 w0 κ w C R)(i k j:Nat)(kk : ∀a',Fr N D (upd L o.dst (segV (bxS C i) k j)) a'→K a' w)
  (hc:okOp N L o=true:=by kernel_rfl) (hop:o.op = .load (opT o) (opX o):=by kernel_rfl) (hC:C[i]? = some (.box (bxB C i) (bxT C i) (bxS C i)):=by kernel_rfl)
  (hx:ev L (opX o)=some (.pointer (some ⟨bxB C i,tot ((bxS C i).take k)+j,none⟩)):=by kernel_rfl)
  (hj:((bxS C i)[k]?.bind fun x=>x.2[j]?)=some (segV (bxS C i) k j):=by kernel_rfl) (hg:pureRun P (isAgg (opT o))=some false:=by kernel_rfl):wo ro P o a w K Q:=by
 obtain ⟨⟨n,l⟩,hk,hl⟩:=Option.bind_eq_some_iff.1 hj
 exact wo_load hF hS hc i k j hop hx hC hk hl rfl hg kk
theorem wls (hF:Fr N D L a)(hS:SS M κ0 w0 κ w C R)(i k m:Nat)(kk : ∀a',Fr N D (upd L o.dst (.agg (flat (subS (bxS C i) k m)).toArray)) a'→K a' w)
  (hc:okOp N L o=true:=by kernel_rfl) (hop:o.op = .load (opT o) (opX o):=by kernel_rfl) (hC:C[i]? = some (.box (bxB C i) (bxT C i) (bxS C i)):=by kernel_rfl)
  (hx:ev L (opX o)=some (.pointer (some ⟨bxB C i,tot ((bxS C i).take k),none⟩)):=by kernel_rfl)
  (hg:pureRun P (isAgg (opT o))=some true:=by kernel_rfl) (hsz:pureRun P (sizeOf (opT o))=some (tot (subS (bxS C i) k m)):=by kernel_rfl):wo ro P o a w K Q:=
 wo_loads hF hS hc i k m hop hx hC rfl rfl hg hsz rfl kk
theorem wst (hF:Fr N D L a)(hS:SS M κ0 w0 κ w C R)(i k m:Nat)(s':Segs)(hs':segGood s')(kk : ∀a' w',Fr N D (upd L o.dst undef) a'→SS M κ0 w0 κ w' (setS C i k m s') R→K a' w')
  (hc:okOp N L o=true:=by kernel_rfl) (hop:o.op = .store (opT o) (opX o) (opY o):=by kernel_rfl) (hC:C[i]? = some (.box (bxB C i) (bxT C i) (bxS C i)):=by kernel_rfl)
  (hx:ev L (opX o)=some (.pointer (some ⟨bxB C i,tot ((bxS C i).take k),none⟩)):=by kernel_rfl)
  (hy:(ev L (opY o)).map Value.cells=some (flat s').toArray:=by kernel_rfl) (hsz:pureRun P (sizeOf (opT o))=some (tot s'):=by kernel_rfl) (hn:tot (subS (bxS C i) k m)=tot s':=by kernel_rfl):wo ro P o a w K Q:=by
 obtain ⟨v,hv,hvc⟩:=Option.map_eq_some_iff.1 hy
 exact wo_stores hF hS hc i k m hop hx hv hC rfl hsz hn rfl hs'.1 hs'.2 hvc rfl rfl kk
theorem wal (hF:Fr N D L a)(hS:SS M κ0 w0 κ w C R)(s:Segs)(hs:segGood s)(kk : ∀b a' w',Fr N D (upd L o.dst (.pointer (some ⟨b,0,none⟩))) a'→SS M κ0 w0 κ w' (.box b (opT o) s::C) R→K a' w')
  (hc:okOp N L o=true:=by kernel_rfl) (hop:o.op = .alloc (opT o):=by kernel_rfl) (hz:(pureRun P (zeroValue (opT o))).map Value.cells=some (flat s).toArray:=by kernel_rfl):wo ro P o a w K Q:=by
 obtain ⟨z,hz,hzs⟩:=Option.map_eq_some_iff.1 hz
 exact wo_alloc hF hS hc hop hz hs.1 hzs kk
theorem wbx (hF:Fr N D L a)(hS:SS M κ0 w0 κ w C R)(s:Segs)(hs:segGood s)(kk : ∀b a' w',Fr N D (upd L o.dst (.pointer (some ⟨b,0,none⟩))) a'→SS M κ0 w0 κ w' (.box b (opT o) s::C) R→K a' w')
  (hc:okOp N L o=true:=by kernel_rfl) (hop:o.op = .box (opT o) (opX o):=by kernel_rfl) (hx:(ev L (opX o)).map Value.cells=some (flat s).toArray:=by kernel_rfl):wo ro P o a w K Q:=by
 obtain ⟨v,hv,hvs⟩:=Option.map_eq_some_iff.1 hx
 exact wo_box hF hS hc hop hv hs.1 hvs kk
theorem vld (i k j:Nat) (hop:o.op = .load (opT o) (opX o):=by kernel_rfl) (hC:C[i]? = some (.box (bxB C i) (bxT C i) (bxS C i)):=by kernel_rfl)
  (hx:ev L (opX o)=some (.pointer (some ⟨bxB C i,tot ((bxS C i).take k)+j,none⟩)):=by kernel_rfl)
  (hj:((bxS C i)[k]?.bind fun x=>x.2[j]?)=some (segV (bxS C i) k j):=by kernel_rfl) (hg:pureRun P (isAgg (opT o))=some false:=by kernel_rfl) : ∀w,SSx M κ0 w0 C R w→(execOp (evD L) o).run P w = .ok (.value (segV (bxS C i) k j)) w:=by
 obtain ⟨⟨n,l⟩,hk,hl⟩:=Option.bind_eq_some_iff.1 hj
 exact val_load i k j hop hx hC hk hl rfl hg
theorem vls (i k m:Nat) (hop:o.op = .load (opT o) (opX o):=by kernel_rfl) (hC:C[i]? = some (.box (bxB C i) (bxT C i) (bxS C i)):=by kernel_rfl)
  (hx:ev L (opX o)=some (.pointer (some ⟨bxB C i,tot ((bxS C i).take k),none⟩)):=by kernel_rfl)
  (hg:pureRun P (isAgg (opT o))=some true:=by kernel_rfl) (hsz:pureRun P (sizeOf (opT o))=some (tot (subS (bxS C i) k m)):=by kernel_rfl) : ∀w,SSx M κ0 w0 C R w→(execOp (evD L) o).run P w = .ok (.value (.agg (flat (subS (bxS C i) k m)).toArray)) w:=
 val_loads i k m hop hx hC rfl rfl hg hsz rfl
theorem rvs (hF:Fr N D L a) (hS:SS M κ0 w0 κ w C R) (i k m:Nat) {t T:Nat} {v:Value} (h:L.lookup t=some (.pointer (some ⟨bxB C i,tot ((bxS C i).take k),none⟩)):=by kernel_rfl) (hC:C[i]? = some (.box (bxB C i) (bxT C i) (bxS C i)):=by kernel_rfl)
  (hv:Value.agg (flat (subS (bxS C i) k m)).toArray=v:=by kernel_rfl) (hg:pureRun P (isAgg T)=some true:=by kernel_rfl) (hsz:pureRun P (sizeOf T)=some (tot (subS (bxS C i) k m)):=by kernel_rfl):RV P a w (.cell t T) v:=by
 subst hv
 exact rv_cells hF hS i k m h hC rfl rfl hg hsz rfl
theorem rvt (hF:Fr N D L a) {t:Nat} {v:Value} (h:L.lookup t=some v:=by kernel_rfl):RV P a w (.tmp t) v:=rv_tmp hF h
end
section
variable {ro:Option Nat}{P:Program}{ops:Array Oper}{Q:Exit→Act→World→Prop}{S:World→Prop}{tl:List Nat}{N m:Nat}{D:List Deferred}{L L':FL}{a:Act}{w:World}{fuel:Nat}{listed:Array Bool}
def takL (P:Program) (ops:Array Oper) (tl:List Nat) (N:Nat) (is ks:List Nat) (listed:Array Bool) (L:FL):FL:=((ptakes P ops tl N is listed L).map fun x=>keep x.2 ks).getD []
def takA (P:Program) (ops:Array Oper) (tl:List Nat) (N:Nat) (is:List Nat) (listed:Array Bool) (L:FL):Array Bool:=((ptakes P ops tl N is listed L).map fun x=>x.1).getD #[]
theorem anp (is ks:List Nat)(hF:Fr N D L a)(hS:S w)(k : ∀a',Fr N D (takL P ops tl N is ks listed L) a'→AnyH ro P ops Q S tl (m-is.length) (takA P ops tl N is listed L) a' w)
  (hsel:noSel ops=true:=by kernel_rfl) (hQ : ∀c a w t v,Q (.panic c) (a.put t v) w→Q (.panic c) a w:=by intro c a w t v h; cases t<;>exact h)
  (hp:(ptakes P ops tl N is listed L).isSome=true:=by kernel_rfl) (hm:Nat.ble is.length m=true:=by kernel_rfl):AnyH ro P ops Q S tl m listed a w:=by
 refine any_pure (fuel:=m-is.length) is ks hF hS hsel hQ (L':=takL P ops tl N is ks listed L) (listed':=takA P ops tl N is listed L) ?_ ?_ k
 ·unfold takL takA
  cases h:ptakes P ops tl N is listed L with
  | none=>rw [h] at hp; cases hp
  | some x=>rfl
 ·have:=Nat.le_of_ble_eq_true hm; omega
theorem ago (i:Nat){o:Oper}(hF:Fr N D L a)(hi:ops[i]? = some o)
  (h:wo ro P o a w (fun a' w'=>(early tl (listed.setIfInBounds i true)=true→S w')∧AnyH ro P ops Q S tl (m-1) (listed.setIfInBounds i true) a' w') Q)
  (hr:Region.ready md ops listed=[i]:=by kernel_rfl) (hg:goes ops L o=some true:=by kernel_rfl) (hm:Nat.ble 1 m=true:=by kernel_rfl):AnyH ro P ops Q S tl m listed a w:=by
 obtain ⟨f,rfl⟩ : ∃f,m=f+1:=⟨m-1,by have:=Nat.le_of_ble_eq_true hm; omega⟩
 exact any_go i hF hi hr hg rfl h
theorem ago2 (i j:Nat){oi oj:Oper}(hF:Fr N D L a)(hi:ops[i]? = some oi)(hj:ops[j]? = some oj)
  (h1:wo ro P oi a w (fun a' w'=>(early tl (listed.setIfInBounds i true)=true→S w')∧AnyH ro P ops Q S tl (m-1) (listed.setIfInBounds i true) a' w') Q)
  (h2:wo ro P oj a w (fun a' w'=>(early tl (listed.setIfInBounds j true)=true→S w')∧AnyH ro P ops Q S tl (m-1) (listed.setIfInBounds j true) a' w') Q)
  (hr:Region.ready md ops listed=[i,j]:=by kernel_rfl) (hgi:goes ops L oi=some true:=by kernel_rfl) (hgj:goes ops L oj=some true:=by kernel_rfl) (hm:Nat.ble 1 m=true:=by kernel_rfl):AnyH ro P ops Q S tl m listed a w:=by
 obtain ⟨f,rfl⟩ : ∃f,m=f+1:=⟨m-1,by have:=Nat.le_of_ble_eq_true hm; omega⟩
 exact any_go2 i j hF hi hj hr hgi hgj rfl rfl h1 h2
theorem atk (i:Nat)(d:Option Tmp){o:Oper}(hF:Fr N D L a)(hS:S w)(hi:ops[i]? = some o){v:Value}(hv : ∀w,S w→(execOp (evD L) o).run P w = .ok (.value v) w)
  (k : ∀a',Fr N D (upd L d v) a'→AnyH ro P ops Q S tl (m-1) (listed.setIfInBounds i true) a' w)
  (hsel:noSel ops=true:=by kernel_rfl) (hmt:mayTake ops tl listed i=true:=by kernel_rfl) (hQ : ∀c a w v,Q (.panic c) (a.put o.dst v) w→Q (.panic c) a w:=by intro c a w v h; exact h)
  (hd:okDst N o=true:=by kernel_rfl) (hg:goes ops L o=some true:=by kernel_rfl) (hc:covers L o=true:=by kernel_rfl) (hdd:o.dst=d:=by kernel_rfl) (hm:Nat.ble 1 m=true:=by kernel_rfl):AnyH ro P ops Q S tl m listed a w:=by
 obtain ⟨f,rfl⟩ : ∃f,m=f+1:=⟨m-1,by have:=Nat.le_of_ble_eq_true hm; omega⟩
 exact any_take i d hF hS hi hsel hmt hQ hd hg hc hdd hv k
theorem rga {id:Nat} (S:World→Prop) (tl:List Nat) (h:AnyH ro P ops Q S tl ops.size (Array.replicate ops.size false) a {w with drawn:=w.drawn+1}) (hm:P.follows .mixedOrders=true:=by kernel_rfl):(Code.region id ops true).wpIn (FW ro) 0 P Q a w:=
 region_any S tl hm rfl rfl h
theorem and_ (h:Q .normal a w) (hr:Region.ready md ops listed=[]:=by kernel_rfl):AnyH ro P ops Q S tl m listed a w:=any_done hr h m
theorem notE {b:Bool} {p:Prop} (h:b=false:=by kernel_rfl):b=true→p:=fun e=>absurd (h.symm.trans e) Bool.false_ne_true
def isBx:Ck→Bool
 | .tok .. => false
 | _=>true
variable {M:List Nat}{κ0 κ:Gh}{w0:World}{C:List Ck}{R:List MP}
set_option linter.unusedVariables false in
theorem rgS {id:Nat} (hS:SS M κ0 w0 κ w C R) (tl:List Nat) (h:AnyH ro P ops Q (SSx M κ0 w0 (C.filter isBx) R) tl ops.size (Array.replicate ops.size false) a {w with drawn:=w.drawn+1}) (hm:P.follows .mixedOrders=true:=by kernel_rfl):(Code.region id ops true).wpIn (FW ro) 0 P Q a w:=
 region_any _ tl hm rfl rfl h
end
end Go.Cf
namespace Go.Cf
open Go
set_option linter.unusedVariables false
theorem Ext.all {M:List Nat} {κ κ':Gh} {w w':World} (h:Ext M κ w κ' w'):Ext (List.range w.heap.size) κ w κ' w':=
 ⟨h.os,h.out,h.tape,h.size,fun b hb hm=>absurd (List.mem_range.2 hb) hm,h.pub⟩
def MP.since (κ1:Gh) (w1:World):MP:=⟨fun κ w => ∃M,Ext M κ1 w1 κ w,fun {_ κ w _ _} e ⟨_,h⟩=>⟨List.range w1.heap.size++List.range w.heap.size,by
 refine (h.all.weaken fun b hb _=>List.mem_append.2 (.inl hb)).trans (e.all.weaken fun b hb _=>List.mem_append.2 (.inr hb))⟩⟩
def MP.old (p:Option Addr) (w1:World):MP:=MP.const (∀a,p=some a→w1.heap.size≤a.block)
section
variable {ro:Option Nat}{P:Program}{ops:Array Oper}{Q:Exit→Act→World→Prop}{N:Nat}{D:List Deferred}{L L':FL}{a:Act}{w:World}{o:Oper}{K:Act→World→Prop}
variable {κ0 κ:Gh}{w0:World}{C C':List Ck}{R R' R0 Ra Rb:List MP}
theorem snap {M:List Nat} {G:Prop} (hS:SS M κ0 w0 κ w C R) (k : ∀κ1 w1,(∀m∈R,m.p κ1 w1)→Fresh κ1 w1→w0.heap.size≤w1.heap.size→w1.heap.size=w.heap.size→SS M κ0 w0 κ w C (MP.since κ1 w1::R)→G):G:=
 k κ w hS.ro hS.fresh hS.ext.size rfl (hS.add (m:=MP.since κ w) ⟨[],Ext.refl _ _ _⟩)
end
section
variable {ro:Option Nat}{P:Program}{ops:Array Oper}{Q:Exit→Act→World→Prop}{N:Nat}{D:List Deferred}{L L':FL}{a:Act}{w:World}{o:Oper}{K:Act→World→Prop}
variable {M:List Nat}{κ0 κ:Gh}{w0:World}{C C':List Ck}{R R':List MP}
end
section
variable {P:Program}{L:FL}{o:Oper}
end
section
variable {ro:Option Nat}{P:Program}{ops:Array Oper}{Q:Exit→Act→World→Prop}{N:Nat}{D:List Deferred}{L L':FL}{a:Act}{w:World}{o:Oper}{K:Act→World→Prop}
variable {M:List Nat}{κ0 κ:Gh}{w0:World}{C C':List Ck}{R R':List MP}
theorem blksOf_set : ∀ {C:List Ck}{i:Nat}{x y:Ck},C[i]? = some x→y.blks=x.blks→blksOf (C.set i y)=blksOf C
 | [],_,_,_,h,_=>by simp at h
 | c::C,0,x,y,h,hb=>by
  simp only [List.getElem?_cons_zero,Option.some.injEq] at h
  subst h
  simp [blksOf,hb]
 | c::C,i+1,x,y,h,hb=>by
  simp only [List.getElem?_cons_succ] at h
  have:=blksOf_set h hb
  simp only [blksOf] at this
  simp [blksOf,this]
theorem SS.reck (h:SS M κ0 w0 κ w C R) (i:Nat) {x y:Ck} (hi:C[i]? = some x) (hb:y.blks=x.blks) (hok:y.ok κ w):SS M κ0 w0 κ w (C.set i y) R:=by
 have hbo:=blksOf_set hi hb
 refine ⟨h.ext,h.fresh,fun c hc=>?_,fun b hm=>h.lt b (hbo▸hm),hbo▸h.nd,fun b hm=>h.own b (hbo▸hm),h.ro⟩
 rcases List.mem_or_eq_of_mem_set hc with hc|rfl
 ·exact h.ok c hc
 ·exact hok
theorem wo_sliceP (hF:Fr N D L a)(hS:SS M κ0 w0 κ w C R)(hc:okOp N L o=true){α:Type}{t:Ty α}(ri:Nat){T E n c:Nat}{p:Option Addr}{l l':List α}{lo hi:Int}{x:Operand}{xl xh:Option Operand}(hop:o.op = .slice T x xl xh none)(hR:R[ri]? = some (Ro.mp t p c l))
  (hx:ev L x=some (.slice p n c)) (hn:n=l.length) (hlo:match xl with|some y => ∃k,ev L y=some (.int k lo)|none=>lo=0) (hhi:match xh with|some y => ∃k,ev L y=some (.int k hi)|none=>hi=l.length)
  (hs:slc l lo hi=some l') (hu:pureRun P (underlying T)=some (.slice E)) (hsz:pureRun P (sizeOf E)=some t.size)
  (kk : ∀p' c' a',p'=(if c=lo.toNat then p else p.map (·.add (lo.toNat*t.size)))→c'=c-lo.toNat→Fr N D (upd L o.dst (.slice p' l'.length c')) a'→SS M κ0 w0 κ w C (Ro.mp t p' c' l'::R)→K a' w):wo ro P o a w K Q:=by
 obtain ⟨h0,h1,h2,rfl⟩:=slc_some hs
 subst hn
 have hRo:Ro t κ w p c l:=hS.get ri hR
 have hlc:l.length≤c:=hRo.1
 have hlen:((l.take hi.toNat).drop lo.toNat).length=hi.toNat-lo.toNat:=by simp; omega
 have hrun:(Instr.sliceAt T (.slice p l.length c) (xl.map (evD L)) (xh.map (evD L)) none).run P w = .ok (.slice (if c=lo.toNat then p else p.map (·.add (lo.toNat*t.size))) (hi.toNat-lo.toNat) (c-lo.toNat)) w:=by
  cases xl with
  | none=>
   subst hlo
   cases xh with
   | none=>subst hhi; simp [Instr.sliceAt,Instr.slice,Instr.sliceBounds,run_underlying' hu,pureRun_run _ hsz w]
   | some y=>
    obtain ⟨k,hk⟩:=hhi
    have:hi≤(c:Int):=by omega
    simp [Instr.sliceAt,Instr.slice,Instr.sliceBounds,Instr.sliceBound,asIntOf,run_underlying' hu,pureRun_run _ hsz w,evD,hk,h1,this]
  | some z=>
   obtain ⟨kz,hkz⟩:=hlo
   cases xh with
   | none=>
    subst hhi
    simp [Instr.sliceAt,Instr.slice,Instr.sliceBounds,Instr.sliceBound,asIntOf,run_underlying' hu,pureRun_run _ hsz w,evD,hkz,h0,h1]
   | some y=>
    obtain ⟨k,hk⟩:=hhi
    have h3:hi≤(c:Int):=by omega
    have h4:0≤hi:=by omega
    have h5:lo≤max hi 0:=by omega
    simp [Instr.sliceAt,Instr.slice,Instr.sliceBounds,Instr.sliceBound,asIntOf,run_underlying' hu,pureRun_run _ hsz w,evD,hk,hkz,h0,h3,h4,h5]
 have hval:(execOp (evD L) o).run P w = .ok (.value (.slice (if c=lo.toNat then p else p.map (·.add (lo.toNat*t.size))) ((l.take hi.toNat).drop lo.toNat).length (c-lo.toNat))) w:=by
  have hev:evD L x = .slice p l.length c:=by simp [evD,hx]
  simp only [execOp,hop,hev,Option.map_none]
  rw [hlen]
  simp [hrun]
 refine wo_val hF hc hval fun a' hF'=>kk _ _ a' rfl rfl hF' (hS.add ?_)
 show Ro t κ w _ _ _
 refine ⟨by rw [hlen]; omega,by have:=hRo.2.1; omega,?_⟩
 rcases hRo.2.2 with ⟨rfl,rfl⟩ | ⟨b,off,m,rfl,hk,hm,hcell⟩
 ·exact .inl ⟨by simp,by omega⟩
 ·by_cases hcl:c=lo.toNat
  ·rw [if_pos hcl]
   have hz:hi.toNat-lo.toNat=0:=by omega
   have hnil:(l.take hi.toNat).drop lo.toNat=[]:=List.eq_nil_of_length_eq_zero (by rw [hlen]; exact hz)
   rw [hnil]
   exact .inr ⟨b,off,m,rfl,hk,by simp; omega,fun i x hi=>by simp at hi⟩
  ·rw [if_neg hcl]
   refine .inr ⟨b,off+lo.toNat*t.size,m,by simp [add_off],hk,?_,fun i x hi'=>?_⟩
   ·rw [hlen,Nat.add_assoc,← Nat.add_mul]
    have:(lo.toNat+(hi.toNat-lo.toNat))*t.size≤l.length*t.size:=Nat.mul_le_mul_right _ (by omega)
    omega
   ·rw [List.getElem?_drop,List.getElem?_take] at hi'
    split at hi'
    ·obtain ⟨cs,hr,hcs⟩:=hcell _ x hi'
     refine ⟨cs,hr,fun j v hj=>?_⟩
     have:=hcs j v hj
     rw [Nat.add_mul] at this
     rwa [show off+lo.toNat*t.size+i*t.size+j=off+(lo.toNat*t.size+i*t.size)+j from by omega]
    ·cases hi'
theorem wo_sliceTok (hF:Fr N D L a)(hS:SS M κ0 w0 κ w C R)(hc:okOp N L o=true){α:Type}{t:Ty α}(ri ci:Nat){T E n c:Nat}{p:Option Addr}{l l':List α}{lo:Int}{x y:Operand}{kd:IntKind}(hop:o.op = .slice T x (some y) none none)(hR:R[ri]? = some (Ro.mp t p c l))(hC:C[ci]? = some (.tok p E t.size n c))
  (hx:ev L x=some (.slice p n c)) (hn:n=l.length) (hy:ev L y=some (.int kd lo))
  (hs:slc l lo l.length=some l') (hu:pureRun P (underlying T)=some (.slice E)) (hsz:pureRun P (sizeOf E)=some t.size)
  (kk : ∀p' c' a',Fr N D (upd L o.dst (.slice p' l'.length c')) a'→SS M κ0 w0 κ w (C.set ci (.tok p' E t.size l'.length c')) (Ro.mp t p' c' l'::R)→K a' w):wo ro P o a w K Q:=by
 refine wo_sliceP hF hS hc ri hop hR hx hn ⟨_,hy⟩ (hi:=(l.length:Int)) rfl hs hu hsz fun p' c' a' hp' hc' hF' hS'=>kk p' c' a' hF' (hS'.reck ci hC ?_ ?_)
 ·subst hp'
  split
  ·cases p<;>rfl
  ·cases p with
   | none=>rfl
   | some a=>
    show [(a.add _).block]=[a.block]
    unfold Addr.add
    split<;>rfl
 ·obtain ⟨h0,h1,h2,rfl⟩:=slc_some hs
  have htok:=hS.ck ci hC
  have hRo:Ro t κ w p c l:=hS.get ri hR
  have hlc:l.length≤c:=hRo.1
  have hl':((l.take (l.length:Int).toNat).drop lo.toNat).length=l.length-lo.toNat:=by simp
  rw [hl']
  subst hn hp' hc'
  rcases htok with ⟨g1,g2⟩ | ⟨b,off,cells,rfl,hk,hle,hcm,hheap,hcs⟩
  ·exact .inl ⟨by omega,by omega⟩
  ·by_cases hcl:c=lo.toNat
   ·exact .inl ⟨by omega,by omega⟩
   ·rw [if_neg hcl]
    have e1:lo.toNat*t.size+(l.length-lo.toNat)*t.size=l.length*t.size:=by rw [← Nat.add_mul]; congr 1; omega
    have e2:lo.toNat*t.size+(c-lo.toNat)*t.size=c*t.size:=by rw [← Nat.add_mul]; congr 1; omega
    exact .inr ⟨b,off+lo.toNat*t.size,cells,by simp [add_off],by rw [hk]; congr 1; omega,by omega,by omega,hheap,by omega⟩
end
end Go.Cf
namespace Go.Cf
open Go
def MP.cells (b k:Nat) (cs:List Value):MP:=⟨fun κ w => ∃n,κ b=some n∧k+cs.length≤n ∧ ∀j v,cs[j]? = some v→w.cell? ⟨b,k+j,none⟩=some v,fun {_ κ w κ' w'} e ⟨n,h1,h2,h3⟩=>by
 obtain ⟨n',k1,k2,k3⟩:=e.pub b n h1
 refine ⟨n',k1,Nat.le_trans h2 k2,fun j v hj=>?_⟩
 have:=(List.getElem?_eq_some_iff.1 hj).1
 rw [k3 _ (by omega)]
 exact h3 j v hj⟩
section
variable {P:Program}{w:World}{L:FL}{o:Oper}{M:List Nat}{κ0 κ:Gh}{w0:World}{C:List Ck}{R:List MP}
theorem val_loadCs (ri k m:Nat){T b E K n:Nat}{s s':Segs}{x:Operand}(hop:o.op = .load T x)(hR:R[ri]? = some (MP.cells b K (flat s)))(hx:ev L x=some (.pointer (some ⟨b,E,none⟩)))(hs:segGood s)(hE:K+tot (s.take k)=E)
  (hs':(s.drop k).take m=s') (hg:pureRun P (isAgg T)=some true) (hsz:pureRun P (sizeOf T)=some n) (hn:tot s'=n) : ∀w,SSx M κ0 w0 C R w→(execOp (evD L) o).run P w = .ok (.value (.agg (flat s').toArray)) w:=fun w ⟨κ,hS⟩=>by
 obtain ⟨n',h1,h2,h3⟩:=hS.get ri hR
 subst hs'
 refine exec_load hop hx (run_load_agg hg hsz ?_ ?_)
 ·rw [← hn]; exact flat_length fun y hy=>hs.1 y (List.mem_of_mem_drop (List.mem_of_mem_take hy))
 ·intro j v hj
  rw [← hE]
  have:=h3 _ v (flat_sub hs.1 k m j v hj)
  rwa [Nat.add_assoc]
end
section
variable {P:Program}{L:FL}{o:Oper}
end
section
variable {ro:Option Nat}{P:Program}{ops:Array Oper}{Q:Exit→Act→World→Prop}{S:World→Prop}{tl:List Nat}{N:Nat}{D:List Deferred}{L:FL}{a:Act}{w:World}{m:Nat}{listed:Array Bool}
theorem any_weak (S':World→Prop) (tl':List Nat) (h:AnyH ro P ops Q S' tl' m listed a w):AnyH ro P ops Q (fun _=>True) [] m listed a w:=by
 induction m generalizing listed a w with
 | zero=>exact h
 | succ m ih=>exact ⟨h.1,fun i hi=>wpOpIn_mono (fun a' w' hk=>⟨fun _=>trivial,ih hk.2⟩) (h.2 i hi)⟩
end
section
variable {ro:Option Nat}{P:Program}{ops:Array Oper}{Q:Exit→Act→World→Prop}{S:World→Prop}{tl:List Nat}{N:Nat}{D:List Deferred}{L:FL}{a:Act}{w:World}{m:Nat}{listed:Array Bool}{o:Oper}{K:Act→World→Prop}
variable {M:List Nat}{κ0 κ:Gh}{w0:World}{C:List Ck}{R:List MP}
set_option linter.unusedVariables false in
theorem any_weakS (hS:SS M κ0 w0 κ w C R) (tl':List Nat) (h:AnyH ro P ops Q (SSx M κ0 w0 (C.filter isBx) R) tl' m listed a w):AnyH ro P ops Q (fun _=>True) [] m listed a w:=any_weak _ tl' h
abbrev pk (C:List Ck) (is:List Nat):List Ck:=is.filterMap fun i=>C[i]?
theorem wcS (k:Nat)(is:List Nat)(hF:Fr N D L a)(hS:SS M κ0 w0 κ w C R){f:FuncId}{args:Array Value}{φ:Value→Gh→World→Prop}
  (hcall:SS (blksOf ((pk C is).take k)) κ w κ w ((pk C is).take k) R→Calls P f args w (Post (blksOf ((pk C is).take k)) κ w φ))
  (kk : ∀v κ' w' a',φ v κ' w'→Fr N D (upd L o.dst v) a'→(∀Cout Rout,SS (blksOf ((pk C is).take k)) κ w κ' w' Cout Rout→SS M κ0 w0 κ' w' (Cout++(pk C is).drop k) (Rout++R))→K a' w')
  (hn:is.Nodup:=by decide) (hc:okOp N L o=true:=by kernel_rfl) (hr:pureRun P (execOp (evD L) o)=some (.enter f args):=by kernel_rfl):wo ro P o a w K Q:=by
 have h1:SS M κ0 w0 κ w ((pk C is).take k++(pk C is).drop k) R:=by rw [List.take_append_drop]; exact hS.selp is hn (selG_eq _ _)
 exact wo_callS hF h1 hc hr hcall kk
end
structure SB (M:List Nat)(κ:Gh)(w:World)(C:List Ck)(R:List MP):Prop where
 hM:M=blksOf C
 hS:SS M κ w κ w C R
end Go.Cf
namespace Go.Cf
open Go
theorem bl_irrefl : ∀l:List UInt8,Op.bytesLess l l=false:=fun l=>by
 induction l with
 | nil=>rfl
 | cons a l ih=>simp [Op.bytesLess,ih]
theorem bl_total : ∀a b:List UInt8,(!Op.bytesLess a b)=(Op.bytesLess b a||b==a):=fun a=>by
 induction a with
 | nil=>intro b; cases b<;>simp [Op.bytesLess]
 | cons x a ih=>
  intro b
  cases b with
  | nil=>simp [Op.bytesLess]
  | cons y b=>
   have hih:=ih b
   simp only [Op.bytesLess]
   rcases Nat.lt_trichotomy x.toNat y.toNat with h|h|h
   ·have h1:x<y:=h
    have h2 : ¬y<x:=fun h3=>by have:y.toNat<x.toNat:=h3; omega
    have h3:x≠y:=fun e=>by subst e; omega
    simp [h1,h2,h3,Ne.symm h3]
   ·have h0:x=y:=UInt8.toNat_inj.1 h
    subst h0
    have h2 : ¬x<x:=fun h3=>by have:x.toNat<x.toNat:=h3; omega
    simp only [h2,decide_false,Bool.false_or,beq_self_eq_true,Bool.true_and,hih,List.cons_beq_cons]
   ·have h1:y<x:=h
    have h2 : ¬x<y:=fun h3=>by have:x.toNat<y.toNat:=h3; omega
    have h3:x≠y:=fun e=>by subst e; omega
    simp [h1,h2,h3,Ne.symm h3]
theorem bl_nil (a:List UInt8):Op.bytesLess a []=false:=by cases a<;>rfl
end Go.Cf
namespace Go.Cf
open Go
end Go.Cf
namespace Go.Cf
open Go Go.MapKept
def tSl {α:Type} (t:Ty α):Ty (List α):=
 Ty.of (H:=Option Addr×Nat) 1 (fun h x=>[(1,[.slice h.1 x.length h.2])]) (fun h x=>[Ro.mp t h.1 h.2 x]) (fun _ _ _ _ _=>sgV rfl sgNil) (fun _ _=>rfl)
abbrev Mp (K V:Type):=Option (List (K×V))
class KO (K:Type) where
 lt:K→K→Bool
 irr : ∀a,lt a a=false
 tr : ∀a b c,lt a b=true→lt b c=true→lt a c=true
 tot : ∀a b,a≠b→lt a b=true∨lt b a=true
theorem bl_tr : ∀a b c:List UInt8,Op.bytesLess a b=true→Op.bytesLess b c=true→Op.bytesLess a c=true:=fun a=>by
 induction a with
 | nil=>
  intro b c h1 h2
  cases c with
  | nil=>rw [bl_nil] at h2; cases h2
  | cons z c=>rfl
 | cons x a ih=>
  intro b c h1 h2
  cases b with
  | nil=>rw [bl_nil] at h1; cases h1
  | cons y b=>
   cases c with
   | nil=>rw [bl_nil] at h2; cases h2
   | cons z c=>
    simp only [Op.bytesLess,Bool.or_eq_true,decide_eq_true_eq,Bool.and_eq_true,beq_iff_eq] at h1 h2 ⊢
    rcases h1 with h1 | ⟨rfl,h1⟩
    ·rcases h2 with h2 | ⟨rfl,h2⟩
     ·exact .inl (Nat.lt_trans (show x.toNat<y.toNat from h1) (show y.toNat<z.toNat from h2))
     ·exact .inl h1
    ·rcases h2 with h2 | ⟨rfl,h2⟩
     ·exact .inl h2
     ·exact .inr ⟨rfl,ih _ _ h1 h2⟩
theorem ba_toList_inj {a b:ByteArray} (h:a.toList=b.toList):a=b:=by
 have h1:a.data.toList=b.data.toList:=by rw [← ByteArray.toList_eq,← ByteArray.toList_eq,h]
 cases a; cases b
 simpa using h1
instance:KO ByteArray where
 lt:=sLt
 irr a:=bl_irrefl _
 tr a b c:=bl_tr _ _ _
 tot a b h:=by
  have h1:=bl_total a.toList b.toList
  cases h2:Op.bytesLess a.toList b.toList
  ·rw [h2] at h1
   simp only [Bool.not_false,Bool.true_eq,Bool.or_eq_true,beq_iff_eq] at h1
   rcases h1 with h1|h1
   ·exact .inr h1
   ·exact absurd (ba_toList_inj h1).symm h
  ·exact .inl h2
instance:KO Int where
 lt a b:=decide (a<b)
 irr a:=by simp
 tr a b c h1 h2:=by simp only [decide_eq_true_eq] at *; omega
 tot a b h:=by simp only [decide_eq_true_eq]; omega
section
variable {K V:Type} [DecidableEq K]
def lFind (l:List (K×V)) (k:K):Option V:=(l.find? fun p=>decide (p.1=k)).map (·.2)
def lDel (l:List (K×V)) (k:K):List (K×V):=l.filter fun p=>decide (p.1≠k)
def Srt [KO K] (l:List (K×V)):Prop:=l.Pairwise fun x y=>KO.lt x.1 y.1=true
def mGet (m:Mp K V) (k:K):Option V:=m.bind fun l=>lFind l k
def mDel (m:Mp K V) (k:K):Mp K V:=m.map fun l=>lDel l k
def cands (m:Mp K V) (left:List K):List (K×V):=(m.getD []).filter fun p=>decide (p.1∈left)
def mKeys (m:Mp K V):List K:=(m.getD []).map (·.1)
def kRem (left:List K) (k:K):List K:=left.filter fun x=>decide (x≠k)
theorem lFind_none {l:List (K×V)} {k:K}:lFind l k=none ↔ ∀p∈l,p.1≠k:=by
 simp [lFind,List.find?_eq_none]
theorem lFind_at {l:List (K×V)} (hn:(l.map (·.1)).Nodup) {j:Nat} {x:K×V} (h:l[j]? = some x):lFind l x.1=some x.2:=by
 induction l generalizing j with
 | nil=>simp at h
 | cons y l ih=>
  simp only [List.map_cons,List.nodup_cons] at hn
  cases j with
  | zero=>simp only [List.getElem?_cons_zero,Option.some.injEq] at h; subst h; simp [lFind]
  | succ j=>
   simp only [List.getElem?_cons_succ] at h
   have hne:y.1≠x.1:=fun e=>hn.1 (e▸List.mem_map.2 ⟨x,List.mem_of_getElem? h,rfl⟩)
   have:=ih hn.2 h
   simp only [lFind] at this ⊢
   rw [List.find?_cons_of_neg (by simpa using hne)]
   exact this
theorem lFind_some {l:List (K×V)} {k:K} {v:V} (h:lFind l k=some v):(k,v)∈l:=by
 simp only [lFind,Option.map_eq_some_iff] at h
 obtain ⟨p,hp,rfl⟩:=h
 have h1:=List.find?_some hp
 simp only [decide_eq_true_eq] at h1
 subst h1
 exact List.mem_of_find?_eq_some hp
theorem lDel_none {l:List (K×V)} {k:K} (h:lFind l k=none):lDel l k=l:=by
 unfold lDel
 rw [List.filter_eq_self]
 intro p hp
 simpa using lFind_none.1 h p hp
theorem lDel_old {l:List (K×V)} (hn:(l.map (·.1)).Nodup) {j:Nat} {x:K×V} (h:l[j]? = some x):lDel l x.1=l.eraseIdx j:=by
 induction l generalizing j with
 | nil=>simp at h
 | cons y l ih=>
  simp only [List.map_cons,List.nodup_cons] at hn
  cases j with
  | zero=>
   simp only [List.getElem?_cons_zero,Option.some.injEq] at h; subst h
   have:lFind l y.1=none:=lFind_none.2 fun p hp e=>hn.1 (e▸List.mem_map.2 ⟨p,hp,rfl⟩)
   simpa [lDel] using lDel_none this
  | succ j=>
   simp only [List.getElem?_cons_succ] at h
   have hne:y.1≠x.1:=fun e=>hn.1 (e▸List.mem_map.2 ⟨x,List.mem_of_getElem? h,rfl⟩)
   have:=ih hn.2 h
   simp only [lDel] at this ⊢
   rw [List.filter_cons_of_pos (by simpa using hne),this]
   rfl
theorem lDel_find (l:List (K×V)) (k k':K):lFind (lDel l k) k'=if k'=k then none else lFind l k':=by
 induction l with
 | nil=>simp [lDel,lFind]
 | cons x l ih=>
  simp only [lDel,lFind,List.filter_cons] at ih ⊢
  by_cases e:x.1=k
  ·simp only [e,ne_eq,not_true_eq_false,decide_false,Bool.false_eq_true,if_false]
   rw [ih]
   by_cases e':k'=k
   ·simp [e']
   ·rw [if_neg e',if_neg e',List.find?_cons_of_neg (by simp [e,Ne.symm e'])]
  ·simp only [ne_eq,e,not_false_eq_true,decide_true,if_true]
   by_cases e':x.1=k'
   ·subst e'
    rw [List.find?_cons_of_pos (by simp),List.find?_cons_of_pos (by simp),if_neg e]
   ·rw [List.find?_cons_of_neg (by simpa using e'),List.find?_cons_of_neg (by simpa using e'),ih]
section
variable [KO K]
omit [DecidableEq K] in
theorem lDel_srt [DecidableEq K] {l:List (K×V)} (h:Srt l) (k:K):Srt (lDel l k):=List.Pairwise.sublist List.filter_sublist h
omit [DecidableEq K] in
theorem Srt.nodup {l:List (K×V)} (h:Srt l):(l.map (·.1)).Nodup:=by
 refine List.Pairwise.map _ (fun x y hxy e=>?_) h
 rw [e,KO.irr] at hxy; cases hxy
omit [KO K] in
theorem keys_of {l l':List (K×V)} (hn:(l.map (·.1)).Nodup) (hn':(l'.map (·.1)).Nodup) (h : ∀k,lFind l k=lFind l' k):l.Perm l':=by
 have nd : ∀ {l:List (K×V)},(l.map (·.1)).Nodup→l.Nodup:=fun h=>List.Pairwise.of_map _ (fun a b h e=>h (by rw [e])) h
 have sub : ∀ {l l':List (K×V)},(l.map (·.1)).Nodup→(∀k,lFind l k=lFind l' k) → ∀x∈l,x∈l':=fun {l l'} hn h x hx=>by
  obtain ⟨j,hj⟩:=List.mem_iff_getElem?.1 hx
  have:=lFind_at hn hj
  rw [h] at this
  exact lFind_some this
 exact (List.perm_ext_iff_of_nodup (nd hn) (nd hn')).2 fun x=>⟨sub hn h x,sub hn' (fun k=>(h k).symm) x⟩
theorem Srt.ext {l l':List (K×V)} (h:Srt l) (h':Srt l') (hf : ∀k,lFind l k=lFind l' k):l=l':=by
 have hp:=keys_of h.nodup h'.nodup hf
 unfold Srt at h h'
 exact List.Perm.eq_of_pairwise (fun a b _ _ (h1:KO.lt a.1 b.1=true) (h2:KO.lt b.1 a.1=true)=>absurd (KO.tr _ _ _ h1 h2) (by rw [KO.irr]; exact Bool.false_ne_true)) h h' hp
end
end
noncomputable def allAgree {α β:Type} (l:List α) (f:α→Option β):Option β:=
 open Classical in match l with
 | []=>none
 | a::l=>if ∀b∈l,f b=f a then f a else none
theorem allAgree_some {α β:Type} {l:List α} {f:α→Option β} {r:β} (h:allAgree l f=some r) : ∀a∈l,f a=some r:=by
 cases l with
 | nil=>intro a ha; cases ha
 | cons x l=>
  simp only [allAgree] at h
  split at h
  ·rename_i hall
   intro a ha
   rcases List.mem_cons.1 ha with rfl|ha
   ·exact h
   ·rw [hall a ha,h]
  ·cases h
structure KT (K:Type) where
 enc:K→Value
 desc:TypeDesc
 key : ∀k,IsKey desc (enc k)
 inj : ∀a b,enc a=enc b→a=b
def kStr:KT ByteArray:=⟨.string,.string,fun _=>trivial,fun _ _ h=>by cases h; rfl⟩
def kInt (q:IntKind):KT Int:=⟨.int q,.int q,fun _=>rfl,fun _ _ h=>by cases h; rfl⟩
def mkV (agg:Bool) (cs:List Value):Value:=if agg then .agg cs.toArray else cs.headD undef
structure LAt {K V:Type}(kt:KT K)(agg:Bool)(t:Ty V)(κ:Gh)(w:World)(es:Array MapEntry)(clk:Nat)(l:List (K×V)):Prop where
 st:Stamped es clk
 keys:es.toList.map (·.key)=l.map fun x=>kt.enc x.1
 vals : ∀(i:Nat) e x,es.toList[i]? = some e→l[i]? = some x → ∃cs,e.val=mkV agg cs∧t.rep κ w cs x.2
def MapAt {K V:Type} [DecidableEq K] [KO K] (kt:KT K) (agg:Bool) (t:Ty V) (κ:Gh) (w:World) (p:Option Nat) (es:Array MapEntry) (clk:Nat) (m:Mp K V):Prop:=
 match m with
 | none=>p=none∧es = #[]
 | some l=>p.isSome=true∧Srt l ∧ ∃l0,LAt kt agg t κ w es clk l0 ∧ ∀k,lFind l0 k=lFind l k
def Map.mp {K V:Type} [DecidableEq K] [KO K] (kt:KT K) (agg:Bool) (t:Ty V) (p:Option Nat) (es:Array MapEntry) (clk:Nat) (m:Mp K V):MP:=
 ⟨fun κ w=>MapAt kt agg t κ w p es clk m,fun e h=>by
  cases m with
  | none=>exact h
  | some l=>
   obtain ⟨h1,hs,l0,h2,hf⟩:=h
   exact ⟨h1,hs,l0,⟨h2.st,h2.keys,fun i x y hx hy=>let ⟨cs,h1,h2⟩:=h2.vals i x y hx hy; ⟨cs,h1,t.mono e h2⟩⟩,hf⟩⟩
section
variable {K V:Type}{kt:KT K}{agg:Bool}{t:Ty V}{κ:Gh}{w:World}{es:Array MapEntry}{clk:Nat}{l:List (K×V)}
theorem LAt.len (h:LAt kt agg t κ w es clk l):es.toList.length=l.length:=by
 have:=congrArg List.length h.keys
 simpa using this
theorem LAt.keyAt (h:LAt kt agg t κ w es clk l) {i:Nat} {e:MapEntry} {x:K×V} (he:es.toList[i]? = some e) (hx:l[i]? = some x):e.key=kt.enc x.1:=by
 have:=congrArg (fun z=>z[i]?) h.keys
 simp only [List.getElem?_map,he,hx,Option.map_some,Option.some.injEq] at this
 exact this
theorem LAt.other (h:LAt kt agg t κ w es clk l) {i:Nat} {e:MapEntry} (he:es.toList[i]? = some e) : ∃x,l[i]? = some x:=
 ⟨l[i]'(by rw [← h.len]; exact (List.getElem?_eq_some_iff.1 he).1),List.getElem?_eq_getElem _⟩
theorem LAt.other' (h:LAt kt agg t κ w es clk l) {i:Nat} {x:K×V} (hx:l[i]? = some x) : ∃e,es.toList[i]? = some e:=
 ⟨es.toList[i]'(by rw [h.len]; exact (List.getElem?_eq_some_iff.1 hx).1),List.getElem?_eq_getElem _⟩
theorem LAt.isKey (h:LAt kt agg t κ w es clk l) : ∀e∈es.toList,IsKey kt.desc e.key:=fun e he=>by
 obtain ⟨i,hi⟩:=List.mem_iff_getElem?.1 he
 obtain ⟨x,hx⟩:=h.other hi
 rw [h.keyAt hi hx]; exact kt.key _
theorem LAt.nodup (h:LAt kt agg t κ w es clk l):(l.map (·.1)).Nodup:=by
 have h1:=h.st.2.2
 rw [h.keys] at h1
 have h2:l.map (fun x=>kt.enc x.1)=(l.map (·.1)).map kt.enc:=by simp
 rw [h2] at h1
 exact List.Pairwise.of_map kt.enc (fun a b h e=>h (by rw [e])) h1
variable [DecidableEq K]
theorem LAt.find (h:LAt kt agg t κ w es clk l)(k:K) :
  (Instr.findNow kt.desc (kt.enc k) es.toList 0=some none∧lFind l k=none ∧ ∀e∈es.toList,e.key≠kt.enc k) ∨
  ∃j e v cs,Instr.findNow kt.desc (kt.enc k) es.toList 0=some (some (j,e.val))∧es.toList[j]? = some e∧l[j]? = some (k,v)∧e.key=kt.enc k∧lFind l k=some v∧e.val=mkV agg cs∧t.rep κ w cs v:=by
 rcases findNow_spec (kt.key k) es.toList 0 h.isKey with ⟨h1,h2⟩ | ⟨j,e,h1,h2,h3⟩
 ·refine .inl ⟨h1,lFind_none.2 fun p hp hk=>?_,h2⟩
  obtain ⟨i,hi⟩:=List.mem_iff_getElem?.1 hp
  obtain ⟨e,he⟩:=h.other' hi
  exact h2 e (List.mem_of_getElem? he) (by rw [h.keyAt he hi,hk])
 ·obtain ⟨x,hx⟩:=h.other h2
  have hk:x.1=k:=kt.inj _ _ ((h.keyAt h2 hx).symm.trans h3)
  obtain ⟨cs,h4,h5⟩:=h.vals j e x h2 hx
  subst hk
  exact .inr ⟨j,e,x.2,cs,by simpa using h1,h2,hx,h3,lFind_at h.nodup hx,h4,h5⟩
end
theorem rgX {ro:Option Nat} {P:Program} {ops:Array Oper} {Q:Exit→Act→World→Prop} {a:Act} {w w0:World} {M:List Nat} {κ0 κ:Gh} {C:List Ck} {R:List MP} {id:Nat} (_hS:SS M κ0 w0 κ w C R) (is:List Nat) (h:AnyH ro P ops Q (SSx M κ0 w0 (pk C is) R) [] ops.size (Array.replicate ops.size false) a {w with drawn:=w.drawn+1}) (hm:P.follows .mixedOrders=true:=by kernel_rfl):(Code.region id ops true).wpIn (FW ro) 0 P Q a w:=
 region_any _ [] hm rfl rfl h
def nonCell:Obj→Bool
 | .cells .. => false
 | _=>true
def objX (p:Option Nat) (o:Obj):XF:=
 {
  bs:=p.toList
  p:=fun κ w => ∀b,p=some b→w.heap[b]? = some o∧κ b=none
  mono:=fun {M κ w κ' w'} e hb hp b hpb=>by
   obtain ⟨h1,h2⟩:=hb b (by simp [hpb])
   obtain ⟨k1,k2⟩:=e.keep b h1 h2
   obtain ⟨q1,q2⟩:=hp b hpb
   exact ⟨k1.trans q1,k2.trans q2⟩}
section
variable {M:List Nat}{κ0 κ:Gh}{w0 w:World}{C C':List Ck}{R R':List MP}
theorem SS.newObj (h:SS M κ0 w0 κ w C R) (o:Obj) (ho:nonCell o=true):SS M κ0 w0 κ (w.alloc o) (.ext (objX (some w.heap.size) o)::C) R:=by
 have hext:Ext [] κ w κ (w.alloc o):=
  ⟨rfl,rfl,rfl,by rw [size_alloc]; omega,fun b hb _=>⟨heap_alloc_old w o b hb,rfl⟩,fun b n hn=>⟨n,hn,Nat.le_refl _,fun i _=>cell_of_heap (heap_alloc_old w o b (by
   rcases Nat.lt_or_ge b w.heap.size with h'|h'
   ·exact h'
   ·rw [h.fresh b h'] at hn; cases hn))⟩⟩
 have h':=h.step hext (h.fresh.alloc o)
 have hb:blksOf (.ext (objX (some w.heap.size) o)::C)=w.heap.size::blksOf C:=rfl
 refine ⟨h'.ext,h'.fresh,fun c hc=>?_,fun b hb'=>?_,?_,fun b hb'=>?_,h'.ro⟩
 ·rcases List.mem_cons.1 hc with rfl|hc
  ·intro b hb'
   cases hb'
   exact ⟨heap_alloc_new _ _,h.fresh _ (Nat.le_refl _)⟩
  ·exact h'.ok c hc
 ·rw [hb] at hb'
  rcases List.mem_cons.1 hb' with rfl|hb'
  ·rw [size_alloc]; omega
  ·exact h'.lt b hb'
 ·rw [hb]
  exact List.nodup_cons.2 ⟨fun hm=>by have:=h.lt _ hm; omega,h.nd⟩
 ·rw [hb] at hb'
  rcases List.mem_cons.1 hb' with rfl|hb'
  ·exact .inl h.ext.size
  ·exact h.own b hb'
theorem SS.addNone (h:SS M κ0 w0 κ w C R) (o:Obj):SS M κ0 w0 κ w (.ext (objX none o)::C) R:=
 ⟨h.ext,h.fresh,fun c hc=>by
  rcases List.mem_cons.1 hc with rfl|hc
  ·intro b hb; cases hb
  ·exact h.ok c hc,h.lt,h.nd,h.own,h.ro⟩
theorem SS.setObj (h:SS M κ0 w0 κ w C R)(i:Nat){b:Nat}{o:Obj}(hC:C[i]? = some (.ext (objX (some b) o)))(o':Obj)(ho:nonCell o=true)(ho':nonCell o'=true) :
  SS M κ0 w0 κ {w with heap:=w.heap.setIfInBounds b o'} (C.set i (.ext (objX (some b) o'))) R:=by
 obtain ⟨h1,h2⟩:=(h.ck i hC : ∀b',some b=some b'→_) b rfl
 have hlt:b<w.heap.size:=(Array.getElem?_eq_some_iff.1 h1).1
 have hoth : ∀b',b'≠b→({w with heap:=w.heap.setIfInBounds b o'}:World).heap[b']? = w.heap[b']? := fun b' hne=>by
  show (w.heap.setIfInBounds b _)[b']? = _
  rw [Array.getElem?_setIfInBounds_ne (Ne.symm hne)]
 have hme:({w with heap:=w.heap.setIfInBounds b o'}:World).heap[b]? = some o':=by
  show (w.heap.setIfInBounds b _)[b]? = _
  simp [hlt]
 have hext:Ext (Ck.ext (objX (some b) o)).blks κ w κ {w with heap:=w.heap.setIfInBounds b o'}:=
  ⟨rfl,rfl,rfl,by simp,fun b' _ hm=>⟨hoth b' (by simpa [Ck.blks,objX] using hm),rfl⟩,fun b' n hn=>⟨n,hn,Nat.le_refl _,fun k _=>cell_of_heap (hoth b' fun e=>by rw [e,h2] at hn; cases hn)⟩⟩
 obtain ⟨hCe,hCs⟩:=set_split (c' := .ext (objX (some b) o')) hC
 rw [hCs]
 refine h.turn _ _ hCe hext (fun b' hb'=>h.fresh b' (by simpa using hb')) (fun b' hb'=>?_) (fun b' hb' => .inl hb') (fun b' hb'=>?_) (by simp [Ck.blks,objX])
 ·cases hb'; exact ⟨hme,h2⟩
 ·simp [Ck.blks,objX] at hb'; subst hb'; simpa using hlt
end
section
variable {ro:Option Nat}{P:Program}{ops:Array Oper}{Q:Exit→Act→World→Prop}{N:Nat}{D:List Deferred}{L L':FL}{a:Act}{w:World}{o:Oper}{G:Act→World→Prop}
variable {M:List Nat}{κ0 κ:Gh}{w0:World}{C C':List Ck}{R R':List MP}
variable {K V:Type}{kt:KT K}{agg:Bool}{t:Ty V}{es:Array MapEntry}{clk:Nat}{p:Option Nat}{m:Mp K V} [DecidableEq K] [KO K]
theorem wo_makeMap (hF:Fr N D L a)(hS:SS M κ0 w0 κ w C R)(hc:okOp N L o=true)(kt:KT K)(agg:Bool)(t:Ty V){T:Nat}(hop:o.op = .makeMap T none)
  (kk : ∀b a' w',Fr N D (upd L o.dst (.map (some b))) a'→SS M κ0 w0 κ w' (.ext (objX (some b) (.map #[] 0))::C) (Map.mp kt agg t (some b) #[] 0 (some [])::R)→G a' w'):wo ro P o a w G Q:=by
 refine wo_val hF hc (v := .map (some w.heap.size)) (w':=w.alloc (.map #[] 0)) ?_ fun a' hF'=>kk _ a' _ hF' ((hS.newObj _ rfl).add ?_)
 ·simp only [execOp,hop]
  simp [Instr.makeMap,newObj]
  rfl
 ·exact ⟨rfl,List.Pairwise.nil,[],⟨stamped_empty 0,rfl,fun i e x he=>by simp at he⟩,fun k=>rfl⟩
theorem SS.setMap (h:SS M κ0 w0 κ w C R)(i:Nat){b:Nat}{o o':Obj}(hC:C[i]? = some (.ext (objX (some b) o)))(ho:nonCell o=true)(ho':nonCell o'=true){m:MP}(hm:m.p κ w) :
  SS M κ0 w0 κ {w with heap:=w.heap.setIfInBounds b o'} (C.set i (.ext (objX (some b) o'))) (m::R):=(h.add hm).setObj i hC o' ho ho'
theorem run_delete {T KT E ty:Nat}{k:K}(ht:P.underlying T=some (.map KT E))(hk:P.underlying KT=some kt.desc)
  (hm:MapAt kt agg t κ w p es clk m) (hb : ∀b,p=some b→w.heap[b]? = some (.map es clk)) :
  ∃es' w',(Builtin.delete_ #[T,KT] ty #[.map p,kt.enc k]).run P w = .ok (.tuple #[]) w'∧MapAt kt agg t κ w p es' clk (mDel m k)∧es'.toList.Sublist es.toList ∧
   ((p=none∧w'=w∧es'=es) ∨ ∃b,p=some b∧w'={w with heap:=w.heap.setIfInBounds b (.map es' clk)}):=by
 cases m with
 | none=>
  obtain ⟨rfl,rfl⟩:=hm
  refine ⟨#[],w,?_,⟨rfl,rfl⟩,List.Sublist.refl _,.inl ⟨rfl,rfl,rfl⟩⟩
  simp [Builtin.delete_,run_underlying ht,run_checkKey hk (kt.key k),Result.andThen]
 | some l=>
  obtain ⟨hp,hs,l0,hl,hf⟩:=hm
  obtain ⟨b,rfl⟩:=Option.isSome_iff_exists.1 hp
  have hb':=hb b rfl
  rcases hl.find k with ⟨h1,h2,h3⟩ | ⟨j,e,v0,cs0,h1,h2,h3,h4,h5,h6,h7⟩
  ·refine ⟨es,_,?_,⟨rfl,lDel_srt hs k,lDel l0 k,by rw [lDel_none h2]; exact hl,fun k'=>by rw [lDel_find,lDel_find,hf]⟩,List.Sublist.refl _,.inr ⟨b,rfl,rfl⟩⟩
   simp [Builtin.delete_,run_underlying ht,MapKept.run_getObj_map hb',run_checkKey hk (kt.key k),run_findKey hk h1,MapKept.run_setObj_map _ hb',Result.andThen]
  ·have hjl:j<es.toList.length:=(List.getElem?_eq_some_iff.1 h2).1
   have hjs:j<es.size:=by simpa using hjl
   have hsub:(es.eraseIdxIfInBounds j).toList=es.toList.eraseIdx j:=by
    unfold Array.eraseIdxIfInBounds
    rw [dif_pos hjs]
    simp
   refine ⟨es.eraseIdxIfInBounds j,_,?_,⟨rfl,lDel_srt hs k,lDel l0 k,⟨stamped_erase hl.st j,?_,fun i x y hx hy=>?_⟩,fun k'=>by rw [lDel_find,lDel_find,hf]⟩,by rw [hsub]; exact List.eraseIdx_sublist _ _,.inr ⟨b,rfl,rfl⟩⟩
   ·simp [Builtin.delete_,run_underlying ht,MapKept.run_getObj_map hb',run_checkKey hk (kt.key k),run_findKey hk h1,MapKept.run_setObj_map _ hb',Result.andThen]
   ·have h8:lDel l0 k=l0.eraseIdx j:=lDel_old hl.nodup h3
    show _=List.map (fun x=>kt.enc x.1) (lDel l0 k)
    rw [hsub,h8]
    apply List.ext_getElem?
    intro i
    have hkk:=fun (i:Nat)=>congrArg (fun z:List Value=>z[i]?) hl.keys
    simp only [List.getElem?_map] at hkk
    simp only [List.getElem?_map,List.getElem?_eraseIdx]
    split<;>exact hkk _
   ·have h8:lDel l0 k=l0.eraseIdx j:=lDel_old hl.nodup h3
    rw [hsub] at hx
    replace hy:(lDel l0 k)[i]? = some y:=hy
    rw [h8] at hy
    rw [List.getElem?_eraseIdx] at hx hy
    split at hy
    ·rename_i hi; rw [if_pos hi] at hx; exact hl.vals _ x y hx hy
    ·rename_i hi; rw [if_neg hi] at hx; exact hl.vals _ x y hx hy
theorem exec_delete {x y:Operand} {T T':Nat} {u v r:Value} {w':World} (hop:o.op = .call {callee := .builtin .delete,args := #[x,y],argTypes := #[T,T']}) (hx:ev L x=some u) (hy:ev L y=some v) (hr:(Builtin.delete_ #[T,T'] o.type #[u,v]).run P w = .ok r w'):(execOp (evD L) o).run P w = .ok (.value r) w':=by
 have hex:evD L x=u:=by simp [evD,hx]
 have hey:evD L y=v:=by simp [evD,hy]
 simp only [execOp,hop]
 simp [resolve,invoke,Go.builtin,hex,hey,hr]
theorem wo_delete (hF:Fr N D L a) (hS:SS M κ0 w0 κ w C R) (hc:okOp N L o=true) (ci ri:Nat) {T KT E:Nat} {x y:Operand} {k:K} (hop:o.op = .call {callee := .builtin .delete,args := #[x,y],argTypes := #[T,KT]}) (hx:ev L x=some (.map p)) (hy:ev L y=some (kt.enc k))
  (hC:C[ci]? = some (.ext (objX p (.map es clk)))) (hR:R[ri]? = some (Map.mp kt agg t p es clk m))
  (ht:pureRun P (underlying T)=some (.map KT E)) (hk:pureRun P (underlying KT)=some kt.desc)
  (kk : ∀es' a' w',es'.toList.Sublist es.toList→Fr N D (upd L o.dst (.tuple #[])) a'→SS M κ0 w0 κ w' (C.set ci (.ext (objX p (.map es' clk)))) (Map.mp kt agg t p es' clk (mDel m k)::R)→G a' w'):wo ro P o a w G Q:=by
 obtain ⟨es',w',h1,h2,h3,h4⟩:=run_delete (P:=P) (w:=w) (k:=k) (ty:=o.type) (underlying_of ht) (underlying_of hk) (hS.get ri hR) (fun b hb=>((hS.ck ci hC : ∀b',p=some b'→_) b hb).1)
 refine wo_val hF hc (exec_delete hop hx hy h1) fun a' hF'=>kk es' a' _ h3 hF' ?_
 rcases h4 with ⟨rfl,rfl,rfl⟩ | ⟨b,rfl,rfl⟩
 ·have:C.set ci (.ext (objX none (.map es' clk)))=C:=by
   obtain ⟨hi,he⟩:=List.getElem?_eq_some_iff.1 hC
   rw [← he]; exact List.set_getElem_self hi
  rw [this]
  exact hS.add h2
 ·exact hS.setMap ci hC rfl rfl h2
end
end Go.Cf
namespace Go.Cf
open Go Go.MapKept
def itO (p:Option Nat) (clk:Nat) (seen:Array Nat):Obj:=
 match p with
 | none => .mapIter none 0 #[] 0
 | some b => .mapIter (some b) clk seen clk
theorem itO_non (p:Option Nat) (clk:Nat) (seen:Array Nat):nonCell (itO p clk seen)=true:=by cases p<;>rfl
def ItOk {K:Type} (kt:KT K) (es:Array MapEntry) (seen:Array Nat) (left:List K):Prop := ∀e∈es.toList,∀k,e.key=kt.enc k→(seen.contains e.born=false↔k∈left)
def It.mp {K:Type} (kt:KT K) (es:Array MapEntry) (seen:Array Nat) (left:List K):MP:=MP.const (ItOk kt es seen left)
def Cur.mp {K V:Type} [DecidableEq K] (kt:KT K) (es:Array MapEntry) (seen:Array Nat) (m:Mp K V) (x:K×V):MP:=
 MP.const ((∃e∈es.toList,seen.back? = some e.born∧e.key=kt.enc x.1)∧mGet m x.1=some x.2)
theorem ItOk.sub {K:Type} {kt:KT K} {es es':Array MapEntry} {seen:Array Nat} {left:List K} (h:ItOk kt es seen left) (hs:es'.toList.Sublist es.toList):ItOk kt es' seen left:=fun e he k hk=>h e (hs.subset he) k hk
theorem ItOk.turn {K:Type} {kt:KT K} {es es':Array MapEntry} {seen:Array Nat} {left:List K} (h:ItOk kt es seen left) (hs : ∀e'∈es'.toList,∃e∈es.toList,e.born=e'.born∧e.key=e'.key):ItOk kt es' seen left:=fun e he k hk=>by
 obtain ⟨e0,h0,hb,hkk⟩:=hs e he
 rw [← hb]; exact h e0 h0 k (hkk.trans hk)
section
variable {ro:Option Nat}{P:Program}{ops:Array Oper}{Q:Exit→Act→World→Prop}{N:Nat}{D:List Deferred}{L L':FL}{a:Act}{w:World}{o:Oper}{G:Act→World→Prop}
variable {M:List Nat}{κ0 κ:Gh}{w0:World}{C C':List Ck}{R R':List MP}
variable {K V:Type}{kt:KT K}{agg:Bool}{t:Ty V}{es:Array MapEntry}{clk:Nat}{p:Option Nat}{m:Mp K V} [DecidableEq K] [KO K]
theorem wo_range (hF:Fr N D L a)(hS:SS M κ0 w0 κ w C R)(hc:okOp N L o=true)(ci ri:Nat){T KT E:Nat}{x:Operand}(hop:o.op = .range T x)(hx:ev L x=some (.map p))
  (hC:C[ci]? = some (.ext (objX p (.map es clk)))) (hR:R[ri]? = some (Map.mp kt agg t p es clk m)) (ht:pureRun P (underlying T)=some (.map KT E))
  (kk : ∀r a' w',Fr N D (upd L o.dst (.pointer (some ⟨r,0,none⟩))) a'→SS M κ0 w0 κ w' (.ext (objX (some r) (itO p clk #[]))::C) (It.mp kt es #[] (mKeys m)::R)→G a' w'):wo ro P o a w G Q:=by
 have hm:MapAt kt agg t κ w p es clk m:=hS.get ri hR
 have hu:=underlying_of ht
 refine wo_val hF hc (v := .pointer (some ⟨w.heap.size,0,none⟩)) (w':=w.alloc (itO p clk #[])) ?_ fun a' hF'=>kk _ a' _ hF' ((hS.newObj _ (itO_non _ _ _)).add ?_)
 ·have hex:evD L x = .map p:=by simp [evD,hx]
  simp only [execOp,hop,hex]
  cases p with
  | none=>simp [Instr.range,run_underlying hu,Result.andThen,newObj]; rfl
  | some b=>
   have hb:=((hS.ck ci hC : ∀b',some b=some b'→_) b rfl).1
   simp [Instr.range,run_underlying hu,MapKept.run_getObj_map hb,Result.andThen,newObj]; rfl
 ·intro e he k hk
  simp only [Array.contains_empty,true_iff]
  cases m with
  | none=>obtain ⟨_,rfl⟩:=hm; simp at he
  | some l=>
   obtain ⟨i,hi⟩:=List.mem_iff_getElem?.1 he
   obtain ⟨-,hs,l0,hl,hf⟩:=hm
   obtain ⟨y,hy⟩:=hl.other hi
   have:y.1=k:=kt.inj _ _ ((hl.keyAt hi hy).symm.trans hk)
   exact List.mem_map.2 ⟨y,lFind_some ((hf y.1).symm.trans (lFind_at hl.nodup hy)),this⟩
omit [KO K] in
theorem mGet_mem {l:List (K×V)} (hn:(l.map (·.1)).Nodup) {x:K×V} (h:x∈l):mGet (some l) x.1=some x.2:=by
 obtain ⟨j,hj⟩:=List.mem_iff_getElem?.1 h
 exact lFind_at hn hj
omit [KO K] in
theorem mem_cands {m:Mp K V} {left:List K} {x:K×V} (h:x∈cands m left):x.1∈left:=by
 simp only [cands,List.mem_filter,decide_eq_true_eq] at h
 exact h.2
theorem wo_next (hF:Fr N D L a)(hS:SS M κ0 w0 κ w C R)(hc:okOp N L o=true)(ci ii ri ti:Nat){r:Nat}{x:Operand}{seen:Array Nat}{left:List K}{ρ:Type}{A:Option ρ}{f:K×V→Option ρ}{res:ρ}(hop:o.op = .next x false)(hx:ev L x=some (.pointer (some ⟨r,0,none⟩)))
  (hC:C[ci]? = some (.ext (objX p (.map es clk)))) (hI:C[ii]? = some (.ext (objX (some r) (itO p clk seen)))) (hR:R[ri]? = some (Map.mp kt agg t p es clk m)) (hT:R[ti]? = some (It.mp kt es seen left))
  (H:(bif (cands m left).isEmpty then A else allAgree (cands m left) f)=some res)
  (k0:A=some res → ∀a',Fr N D (upd L o.dst (.tuple #[.bool false])) a'→G a' w)
  (k1 : ∀y cs seen' a' w',f y=some res→Fr N D (upd L o.dst (.tuple #[.bool true,kt.enc y.1,mkV agg cs])) a'→SS M κ0 w0 κ w' (C.set ii (.ext (objX (some r) (itO p clk seen')))) (Cur.mp kt es seen' m y::It.mp kt es seen' (kRem left y.1)::R)→G a' w'):wo ro P o a w G Q:=by
 have hm:MapAt kt agg t κ w p es clk m:=hS.get ri hR
 have hit:ItOk kt es seen left:=hS.get ti hT
 have hr:=((hS.ck ii hI : ∀b',some r=some b'→_) r rfl).1
 have hev:evD L x = .pointer (some ⟨r,0,none⟩):=by simp [evD,hx]
 cases m with
 | none=>
  obtain ⟨rfl,rfl⟩:=hm
  refine wo_val hF hc (v := .tuple #[.bool false]) (w':=w) ?_ fun a' hF'=>k0 (by simpa [cands] using H) a' hF'
  simp only [execOp,hop,hev]
  simp only [itO] at hr
  simp [Instr.next,getObj,Sem.run,hr,Result.andThen]
 | some l=>
  obtain ⟨hp,hs,l0,hl,hf⟩:=hm
  obtain ⟨b,rfl⟩:=Option.isSome_iff_exists.1 hp
  have hb:=((hS.ck ci hC : ∀b',some b=some b'→_) b rfl).1
  simp only [itO] at hr
  have hto : ∀ {y:K×V},y∈l0→y∈l:=fun {y} hy=>by
   obtain ⟨i,hi⟩:=List.mem_iff_getElem?.1 hy
   exact lFind_some ((hf y.1).symm.trans (lFind_at hl.nodup hi))
  rcases run_next_at (P:=P) w o.type r b clk clk seen es clk hr hb hl.st.1 (Nat.le_refl _) with ⟨h0,hrun⟩ | ⟨e,he,w1,hw1,hrun⟩
  ·have hemp:cands (some l) left=[]:=by
    rw [List.eq_nil_iff_forall_not_mem]
    intro y hy
    have hyl:y∈l:=(List.mem_filter.1 hy).1
    obtain ⟨i0,hi0⟩:=List.mem_iff_getElem?.1 hyl
    obtain ⟨i,hi⟩:=List.mem_iff_getElem?.1 (lFind_some ((hf y.1).trans (lFind_at hs.nodup hi0)))
    obtain ⟨e,he⟩:=hl.other' hi
    have h1:=(hit e (List.mem_of_getElem? he) y.1 (hl.keyAt he hi)).2 (mem_cands hy)
    have h2:e∈(leftOf es seen).toList:=by
     unfold leftOf
     simp only [Array.toList_filter,List.mem_filter]
     exact ⟨List.mem_of_getElem? he,by rw [h1]; rfl⟩
    have:(leftOf es seen).toList=[]:=by
     have:=h0; rw [← Array.length_toList] at this; exact List.eq_nil_of_length_eq_zero this
    rw [this] at h2; cases h2
   rw [hemp] at H
   refine wo_val hF hc (v := .tuple #[.bool false]) (w':=w) ?_ fun a' hF'=>k0 (by simpa using H) a' hF'
   simp only [execOp,hop,hev]
   simp [hrun]
  ·have he':e∈es.toList∧seen.contains e.born=false:=by
    unfold leftOf at he
    simpa using he
   obtain ⟨i,hi⟩:=List.mem_iff_getElem?.1 he'.1
   obtain ⟨y,hy⟩:=hl.other hi
   have hk:=hl.keyAt hi hy
   obtain ⟨cs,hcs,hrep⟩:=hl.vals i e y hi hy
   have hyc:y∈cands (some l) left:=List.mem_filter.2 ⟨hto (List.mem_of_getElem? hy),by simpa using (hit e he'.1 y.1 hk).1 he'.2⟩
   have hne:(cands (some l) left).isEmpty=false:=by
    cases hcc:cands (some l) left with
    | nil=>rw [hcc] at hyc; cases hyc
    | cons _ _=>rfl
   rw [hne] at H
   have hf:=allAgree_some (show allAgree _ f=some res from H) y hyc
   have hS1:SS M κ0 w0 κ w1 C R:=by rcases hw1 with rfl|rfl; exact hS; exact hS.drew
   have hset:(ChangeMaps.setBlock w1 r (.mapIter (some b) clk (seen.push e.born) clk))={w1 with heap:=w1.heap.setIfInBounds r (itO (some b) clk (seen.push e.born))}:=rfl
   refine wo_val hF hc (v := .tuple #[.bool true,kt.enc y.1,mkV agg cs]) (w':=_) ?_ fun a' hF'=>k1 y cs (seen.push e.born) a' _ hf hF' (((hS1.add ?_).add ?_).setObj ii hI _ (itO_non _ _ _) (itO_non _ _ _))
   ·simp only [execOp,hop,hev]
    rw [← hk,← hcs]
    simp only [Sem.run_bind,hrun,Result.andThen,hset]
    rfl
   ·intro e2 he2 k2 hk2
    have h3:=hit e2 he2 k2 hk2
    simp only [kRem,List.mem_filter,decide_eq_true_eq,← h3]
    have key:e2.born=e.born↔k2=y.1:=by
     constructor
     ·intro hbn
      have:e2=e:=by
       obtain ⟨j,hj⟩:=List.mem_iff_getElem?.1 he2
       have hbj:(es.toList.map (·.born))[j]? = some e.born:=by rw [List.getElem?_map,hj]; simp [hbn]
       have hbi:(es.toList.map (·.born))[i]? = some e.born:=by rw [List.getElem?_map,hi]; rfl
       have:j=i:=(List.getElem?_inj (by rw [List.length_map]; exact (List.getElem?_eq_some_iff.1 hj).1) hl.st.2.1).1 (hbj.trans hbi.symm)
       subst this
       rw [hj] at hi; exact Option.some.inj hi
      subst this
      exact kt.inj _ _ (hk2.symm.trans hk)
     ·intro hkk
      subst hkk
      obtain ⟨j,hj⟩:=List.mem_iff_getElem?.1 he2
      have hbj:(es.toList.map (·.key))[j]? = some e.key:=by rw [List.getElem?_map,hj]; simp [hk2,hk]
      have hbi:(es.toList.map (·.key))[i]? = some e.key:=by rw [List.getElem?_map,hi]; rfl
      have:j=i:=(List.getElem?_inj (by rw [List.length_map]; exact (List.getElem?_eq_some_iff.1 hj).1) hl.st.2.2).1 (hbj.trans hbi.symm)
      subst this
      rw [hj] at hi; rw [Option.some.inj hi]
    rw [Array.contains_push]
    simp only [Bool.or_eq_false_iff,beq_eq_false_iff_ne,ne_eq]
    rw [show (¬e2.born=e.born) ↔ ¬k2=y.1 from not_congr key]
   ·exact ⟨⟨e,he'.1,by simp,hk⟩,mGet_mem hs.nodup (hto (List.mem_of_getElem? hy))⟩
theorem wo_entry (hF:Fr N D L a)(hS:SS M κ0 w0 κ w C R)(hc:okOp N L o=true)(ci ii ri ti:Nat){r:Nat}{x:Operand}{seen:Array Nat}{y:K×V}(hop:o.op = .entry x)(hx:ev L x=some (.pointer (some ⟨r,0,none⟩)))
  (hC:C[ci]? = some (.ext (objX p (.map es clk)))) (hI:C[ii]? = some (.ext (objX (some r) (itO p clk seen)))) (hR:R[ri]? = some (Map.mp kt agg t p es clk m)) (hT:R[ti]? = some (Cur.mp kt es seen m y))
  (kk : ∀cs a',t.rep κ w cs y.2→Fr N D (upd L o.dst (.tuple #[kt.enc y.1,mkV agg cs])) a'→G a' w):wo ro P o a w G Q:=by
 have hm:MapAt kt agg t κ w p es clk m:=hS.get ri hR
 obtain ⟨⟨e,he,hback,hkey⟩,hget⟩:(∃e∈es.toList,seen.back? = some e.born∧e.key=kt.enc y.1)∧mGet m y.1=some y.2:=hS.get ti hT
 have hr:=((hS.ck ii hI : ∀b',some r=some b'→_) r rfl).1
 have hev:evD L x = .pointer (some ⟨r,0,none⟩):=by simp [evD,hx]
 cases m with
 | none=>obtain ⟨rfl,rfl⟩:=hm; simp at he
 | some l=>
  obtain ⟨hp,hs,l0,hl,hf⟩:=hm
  obtain ⟨b,rfl⟩:=Option.isSome_iff_exists.1 hp
  have hb:=((hS.ck ci hC : ∀b',some b=some b'→_) b rfl).1
  simp only [itO] at hr
  obtain ⟨i,hi⟩:=List.mem_iff_getElem?.1 he
  obtain ⟨z,hz⟩:=hl.other hi
  have hk:z.1=y.1:=kt.inj _ _ ((hl.keyAt hi hz).symm.trans hkey)
  obtain ⟨cs,hcs,hrep⟩:=hl.vals i e z hi hz
  have hz2:z.2=y.2:=by
   have:mGet (some l) z.1=some z.2:=(hf z.1).symm.trans (lFind_at hl.nodup hz)
   rw [hk,hget] at this
   exact (Option.some.inj this).symm
  have hfind:es.find? (·.born==e.born)=some e:=by rw [← Array.find?_toList]; exact find_born e es.toList hl.st.2.1 he
  refine wo_val hF hc (v := .tuple #[kt.enc y.1,mkV agg cs]) (w':=w) ?_ fun a' hF'=>kk cs a' (hz2▸hrep) hF'
  simp only [execOp,hop,hev]
  rw [← hkey,← hcs]
  simp [Instr.entry,getObj,Sem.run,hr,hb,Result.andThen,hback,hfind]
end
end Go.Cf
namespace Go.Cf
open Go
section
variable {M:List Nat}{κ0 κ:Gh}{w0 w:World}{C C':List Ck}{R R':List MP}
theorem SS.room (hS:SS M κ0 w0 κ w C R){α:Type}(t:Ty α)(E:Nat)(cells:Array Value)(c:Nat)(hn:cells.size=c*t.size)(hm:c≤maxLen) :
  ∃κ',SS M κ0 w0 κ' (w.alloc (.cells cells E)) (.tok (some ⟨w.heap.size,0,none⟩) E t.size 0 c::C) (Ro.mp t (some ⟨w.heap.size,0,none⟩) c ([]:List α)::R):=by
 let w':=w.alloc (.cells cells E)
 let κ':Gh:=fun b=>if b=w.heap.size then some 0 else κ b
 have hκ : ∀b,b≠w.heap.size→κ' b=κ b:=fun b hb=>by simp [κ',hb]
 have hext:Ext [] κ w κ' w':=by
  refine ⟨rfl,rfl,rfl,by rw [size_alloc]; omega,fun b hb _=>⟨heap_alloc_old w _ b hb,hκ b (by omega)⟩,fun b n hn=>?_⟩
  have hbl:b<w.heap.size:=by
   rcases Nat.lt_or_ge b w.heap.size with h|h
   ·exact h
   ·rw [hS.fresh b h] at hn; cases hn
  exact ⟨n,(hκ b (by omega)).trans hn,Nat.le_refl _,fun i _=>cell_of_heap (heap_alloc_old w _ b hbl)⟩
 have hfr:Fresh κ' w':=fun b hb=>by
  rw [size_alloc] at hb
  rw [hκ b (by omega)]; exact hS.fresh b (by omega)
 have hkn:κ' w.heap.size=some 0:=by simp [κ']
 have h':=hS.step hext hfr
 have htok:(Ck.tok (some ⟨w.heap.size,0,none⟩) E t.size 0 c).ok κ' w':=
  .inr ⟨w.heap.size,0,cells,rfl,by rw [hkn,Nat.zero_mul],Nat.zero_le _,hm,heap_alloc_new _ _,by rw [hn,Nat.zero_add]⟩
 have h'':SS M κ0 w0 κ' w' (.tok (some ⟨w.heap.size,0,none⟩) E t.size 0 c::C) R:=by
  refine ⟨h'.ext,h'.fresh,fun c hc=>?_,fun b hb=>?_,?_,fun b hb=>?_,h'.ro⟩
  ·rcases List.mem_cons.1 hc with rfl|hc
   ·exact htok
   ·exact h'.ok c hc
  ·rcases List.mem_cons.1 (show b∈w.heap.size::blksOf C from hb) with rfl|hb
   ·rw [size_alloc]; omega
   ·exact h'.lt b hb
  ·show (w.heap.size::blksOf C).Nodup
   exact List.nodup_cons.2 ⟨fun hm=>by have:=hS.lt _ hm; omega,hS.nd⟩
  ·rcases List.mem_cons.1 (show b∈w.heap.size::blksOf C from hb) with rfl|hb
   ·exact .inl hS.ext.size
   ·exact h'.own b hb
 exact ⟨κ',h''.add (m:=Ro.mp t _ c []) ⟨Nat.zero_le _,hm,.inr ⟨w.heap.size,0,0,rfl,hkn,by simp,fun i x hx=>by simp at hx⟩⟩⟩
end
section
variable {ro:Option Nat}{P:Program}{ops:Array Oper}{Q:Exit→Act→World→Prop}{N:Nat}{D:List Deferred}{L L':FL}{a:Act}{w:World}{o:Oper}{K:Act→World→Prop}
variable {M:List Nat}{κ0 κ:Gh}{w0:World}{C C':List Ck}{R R':List MP}
end
section
variable {M:List Nat}{κ0 κ:Gh}{w0 w:World}{C C':List Ck}{R R':List MP}
end
section
variable {P:Program}{Q:Exit→Act→World→Prop}{N:Nat}{D:List Deferred}{L L':FL}{a:Act}{w:World}
variable {M:List Nat}{κ0 κ:Gh}{w0:World}{C C':List Ck}{R R':List MP}
end
section
variable {F:Fence}{n:Nat}{P:Program}{Q:Exit→Act→World→Prop}{a:Act}{w:World}
end
end Go.Cf
namespace Go.Cf
open Go
section
variable {ro:Option Nat}{P:Program}{ops:Array Oper}{Q:Exit→Act→World→Prop}{N:Nat}{D:List Deferred}{L L':FL}{a:Act}{w:World}{o:Oper}{K:Act→World→Prop}
variable {M:List Nat}{κ0 κ:Gh}{w0:World}{C C':List Ck}{R R':List MP}
theorem SS.cC (h:SS M κ0 w0 κ w C R) {C':List Ck} (e:C=C':=by kernel_rfl):SS M κ0 w0 κ w C' R:=e▸h
end
end Go.Cf
namespace Go.Cf
open Go Go.MapKept
set_option linter.unusedVariables false
def Ent.mp {K:Type} (kt:KT K) (es:Array MapEntry) (k:K) (st:Int):MP:=MP.const (∃e∈es.toList,(e.born:Int)=st∧e.key=kt.enc k)
section
variable {ro:Option Nat}{P:Program}{ops:Array Oper}{Q:Exit→Act→World→Prop}{N:Nat}{D:List Deferred}{L L':FL}{a:Act}{w:World}{o:Oper}{G:Act→World→Prop}
variable {M:List Nat}{κ0 κ:Gh}{w0:World}{C C':List Ck}{R R':List MP}
variable {K V:Type} [DecidableEq K] [KO K]{kt:KT K}{agg:Bool}{t:Ty V}{p:Option Nat}{es:Array MapEntry}{clk:Nat}{m:Mp K V}
theorem find_born {es:Array MapEntry} {clk:Nat} (hs:Stamped es clk) {j:Nat} {e:MapEntry} (h:es.toList[j]? = some e):es.findIdx? (fun x=>(x.born:Int)==(e.born:Int))=some j:=by
 have hj:=(List.getElem?_eq_some_iff.1 h).1
 have hje:=(List.getElem?_eq_some_iff.1 h).2
 have hnd:=hs.2.1
 rw [show es.findIdx? (fun x=>(x.born:Int)==(e.born:Int))=es.toList.findIdx? (fun x=>(x.born:Int)==(e.born:Int)) from by cases es; simp,List.findIdx?_eq_some_iff_getElem]
 refine ⟨hj,by rw [hje]; simp,fun i hi=>?_⟩
 have hil:i<es.toList.length:=by omega
 intro hb
 have hb':(es.toList[i]).born=e.born:=Int.ofNat.inj (eq_of_beq hb)
 have h1:(es.toList.map (·.born))[i]? = some e.born:=by rw [List.getElem?_map,List.getElem?_eq_getElem hil]; exact congrArg some hb'
 have h2:(es.toList.map (·.born))[j]? = some e.born:=by rw [List.getElem?_map,h]; rfl
 have:=(List.getElem?_inj (by simpa using hil) hnd).1 (h1.trans h2.symm)
 omega
end
section
variable {M:List Nat}{κ0 κ:Gh}{w0 w:World}{C:List Ck}{R:List MP}
theorem blksOf_setBox {i b T:Nat} {s s':Segs} (hC:C[i]? = some (.box b T s)):blksOf (C.set i (.box b T s'))=blksOf C:=by
 induction C generalizing i with
 | nil=>rfl
 | cons c C ih=>
  cases i with
  | zero=>simp at hC; subst hC; rfl
  | succ i=>simp only [List.set_cons_succ,blksOf,List.flatMap_cons] at *; rw [ih (by simpa using hC)]
theorem SS.reseg (h:SS M κ0 w0 κ w C R) (i:Nat) {b T:Nat} {s s':Segs} (hC:C[i]? = some (.box b T s)) (hf:flat s'=flat s) (hs:segsOk s→segsOk s'):SS M κ0 w0 κ w (C.set i (.box b T s')) R:=by
 have hb:=blksOf_setBox (s':=s') hC
 refine ⟨h.ext,h.fresh,fun c hc=>?_,by rw [hb]; exact h.lt,by rw [hb]; exact h.nd,by rw [hb]; exact h.own,h.ro⟩
 rcases List.mem_or_eq_of_mem_set hc with hc|rfl
 ·exact h.ok c hc
 ·obtain ⟨h1,h2,h3⟩:=(h.ck i hC:_∧_)
  exact ⟨by rw [hf]; exact h1,hs h2,h3⟩
theorem SS.segs (h:SS M κ0 w0 κ w C R) (i:Nat) {b T:Nat} {s:Segs} (hC:C[i]? = some (.box b T s)):segsOk s:=(h.ck i hC:_∧_).2.1
end
end Go.Cf
namespace Go.Cf
open Go
section
variable {ro:Option Nat}{P:Program}{ops:Array Oper}{Q:Exit→Act→World→Prop}{N:Nat}{D:List Deferred}{L L':FL}{a:Act}{w:World}{o:Oper}{K:Act→World→Prop}
variable {M:List Nat}{κ0 κ:Gh}{w0:World}{C C':List Ck}{R R':List MP}
theorem loop_rounds (m:Nat) {c:Code} (h:Code.roundsIn (FW ro) 0 P c Q m a w):(Code.loop c).wpIn (FW ro) 0 P Q a w:=wpIn_loop_rounds m h
theorem round_go {c:Code} {m:Nat} (h:c.wpIn (FW ro) 0 P (Exit.then (Code.roundsIn (FW ro) 0 P c Q m) Q) a w):Code.roundsIn (FW ro) 0 P c Q (m+1) a w:=h
end
end Go.Cf
namespace Go.Cf
open Go
def regr:List (Bool×Nat)→Segs→Segs
 | [],s=>s
 | (false,n)::g,s=>s.take n++regr g (s.drop n)
 | (true,n)::g,s=>(tot (s.take n),flat (s.take n))::regr g (s.drop n)
def rawsOf:List (Bool×Nat)→Segs→Segs
 | [],_=>[]
 | (false,n)::g,s=>rawsOf g (s.drop n)
 | (true,n)::g,s=>s.take n++rawsOf g (s.drop n)
theorem flat_take_drop (n:Nat) (s:Segs):flat (s.take n)++flat (s.drop n)=flat s:=by rw [← flat_append,List.take_append_drop]
theorem flat_regr (g:List (Bool×Nat)) (s:Segs):flat (regr g s)=flat s:=by
 induction g generalizing s with
 | nil=>rfl
 | cons x g ih=>
  obtain ⟨b,n⟩:=x
  cases b with
  | false=>rw [regr,flat_append,ih,flat_take_drop]
  | true=>
   rw [regr]
   show flat (s.take n)++flat (regr g (s.drop n))=_
   rw [ih,flat_take_drop]
theorem segsOk_take_drop {n:Nat} {s:Segs}:segsOk s↔segsOk (s.take n)∧segsOk (s.drop n):=by rw [← segsOk_append,List.take_append_drop]
theorem segsOk_regr (g:List (Bool×Nat)) (s:Segs) (h:segsOk s):segsOk (regr g s):=by
 induction g generalizing s with
 | nil=>exact h
 | cons x g ih=>
  obtain ⟨b,n⟩:=x
  obtain ⟨h1,h2⟩:=(segsOk_take_drop (n:=n)).1 h
  cases b with
  | false=>rw [regr,segsOk_append]; exact ⟨h1,ih _ h2⟩
  | true=>rw [regr,segsOk_cons]; exact ⟨flat_length h1,ih _ h2⟩
theorem segsOk_raws (g:List (Bool×Nat)) (s:Segs) (h:segsOk s):segsOk (rawsOf g s):=by
 induction g generalizing s with
 | nil=>exact segsOk_nil
 | cons x g ih=>
  obtain ⟨b,n⟩:=x
  obtain ⟨h1,h2⟩:=(segsOk_take_drop (n:=n)).1 h
  cases b with
  | false=>exact ih _ h2
  | true=>rw [rawsOf,segsOk_append]; exact ⟨h1,ih _ h2⟩
theorem segsOk_unregr (g:List (Bool×Nat)) (s:Segs) (h:segsOk (regr g s)) (hr:segsOk (rawsOf g s)):segsOk s:=by
 induction g generalizing s with
 | nil=>exact h
 | cons x g ih=>
  obtain ⟨b,n⟩:=x
  refine (segsOk_take_drop (n:=n)).2 ?_
  cases b with
  | false=>rw [regr,segsOk_append] at h; exact ⟨h.1,ih _ h.2 hr⟩
  | true=>rw [regr,segsOk_cons] at h; rw [rawsOf,segsOk_append] at hr; exact ⟨hr.1,ih _ h.2 hr.2⟩
section
variable {M:List Nat}{κ0 κ:Gh}{w0 w:World}{C:List Ck}{R:List MP}
theorem SS.regr (h:SS M κ0 w0 κ w C R) (i:Nat) (g:List (Bool×Nat)) {b T:Nat} {s:Segs} (hC:C[i]? = some (.box b T s)):SS M κ0 w0 κ w (C.set i (.box b T (Cf.regr g s))) R:=
 h.reseg i hC (flat_regr g s) (segsOk_regr g s)
theorem SS.unregr (h:SS M κ0 w0 κ w C R) (i:Nat) (g:List (Bool×Nat)) {b T:Nat} {s s':Segs} (hg:segsOk s) (hr:rawsOf g s'=rawsOf g s) (hC:C[i]? = some (.box b T (Cf.regr g s'))):SS M κ0 w0 κ w (C.set i (.box b T s')) R:=
 h.reseg i hC (flat_regr g s').symm fun hs=>segsOk_unregr g s' hs (hr▸segsOk_raws g s hg)
end
end Go.Cf
namespace Go.Cf
open Go
set_option linter.unusedVariables false
def pa (o:Option Nat):Option Addr:=o.map fun b=>⟨b,0,none⟩
def fPtr:FT (Option Nat):=⟨1,fun x=>[.pointer (pa x)],fun _=>rfl,fun _ v hv=>by simp at hv; subst hv; rfl⟩
section
variable {M:List Nat}{κ0 κ:Gh}{w0 w:World}{C C':List Ck}{R R':List MP}
theorem SS.recast (h:SS M κ0 w0 κ w C R) (hok : ∀c∈C',c.ok κ w) (D:List Nat) (hb:(blksOf C'++D).Perm (blksOf C)):SS M κ0 w0 κ w C' R:=by
 have hm : ∀b∈blksOf C',b∈blksOf C:=fun b hb'=>hb.mem_iff.1 (List.mem_append.2 (.inl hb'))
 exact ⟨h.ext,h.fresh,hok,fun b hb'=>h.lt b (hm b hb'),(List.nodup_append.1 (hb.nodup_iff.2 h.nd)).1,fun b hb'=>h.own b (hm b hb'),h.ro⟩
theorem SS.recut (h:SS M κ0 w0 κ w C R) (i:Nat) {c:Ck} (hC:C[i]? = some c) (A:List Ck) (hok : ∀c∈A,c.ok κ w) (D:List Nat) (hb:(blksOf A++D).Perm c.blks):SS M κ0 w0 κ w (A++C.eraseIdx i) R:=by
 obtain ⟨hCe,-⟩:=set_split (c':=c) hC
 have hE:C.eraseIdx i=C.take i++C.drop (i+1):=List.eraseIdx_eq_take_drop_succ ..
 have hCb:(blksOf C).Perm (c.blks++blksOf (C.eraseIdx i)):=by
  have e1:blksOf C=blksOf (C.take i)++(c.blks++blksOf (C.drop (i+1))):=by
   conv=>lhs; rw [hCe]
   rw [blksOf_append]; rfl
  rw [e1,hE,blksOf_append,← List.append_assoc,← List.append_assoc]
  exact List.Perm.append_right _ List.perm_append_comm
 refine h.recast (fun d hd=>?_) D ?_
 ·rcases List.mem_append.1 hd with hd|hd
  ·exact hok d hd
  ·exact h.ok d (List.mem_of_mem_eraseIdx hd)
 ·rw [blksOf_append]
  refine List.Perm.trans ?_ hCb.symm
  rw [List.append_assoc]
  exact (List.Perm.append_left _ List.perm_append_comm).trans ((List.append_assoc .. ▸ List.Perm.append_right _ hb))
end
structure OT (α:Type) where
 x:Nat→List Nat→α→XF
 bs : ∀b bs a,(x b bs a).bs=bs
theorem cksMono {A:List Ck} {bs M:List Nat} {κ κ':Gh} {w w':World} (hp:(blksOf A).Perm bs) (he:Ext M κ w κ' w') (hb : ∀b∈bs,b<w.heap.size∧b ∉ M) (h : ∀c∈A,c.ok κ w) : ∀c∈A,c.ok κ' w':=fun c hc=>
 have hm : ∀b∈c.blks,b∈bs:=fun b hb'=>hp.mem_iff.1 (List.mem_flatMap.2 ⟨c,hc,hb'⟩)
 Ck.ok_keep (h c hc) (fun b hb'=>(hb b (hm b hb')).1) he fun b hb'=>(hb b (hm b hb')).2
def OT.of {α H:Type}(ck:Nat→H→α→List Ck)(fs:H→α→List MP):OT α where
 x b bs a:={
        bs:=bs
        p:=fun κ w => ∃h:H,(blksOf (ck b h a)).Perm bs∧(∀c∈ck b h a,c.ok κ w) ∧ ∀m∈fs h a,m.p κ w
        mono:=fun {M κ w κ' w'} he hb ⟨h,h1,h2,h3⟩=>⟨h,h1,cksMono h1 he hb h2,fun m hm=>m.mono he (h3 m hm)⟩}
 bs _ _ _:=rfl
def optX {α:Type} (O:OT α) (p:Option Nat) (bs:List Nat) (o:Option α):XF:=
 match p,o with
 | some b,some a=>O.x b bs a
 | p,o=>{bs:=bs,p:=fun _ _=>p=none∧o=none∧bs=[],mono:=fun _ _ h=>h}
theorem optX_bs {α:Type} (O:OT α) (p:Option Nat) (bs:List Nat) (o:Option α):(optX O p bs o).bs=bs:=by
 cases p<;>cases o<;>first|rfl|exact O.bs ..
def arrX {α:Type}(O:OT α)(ps:List (Option Nat))(bs:List Nat)(xs:List (Option α)):XF where
 bs:=bs
 p κ w := ∃bss:List (List Nat),bss.length=ps.length∧xs.length=ps.length∧bss.flatten.Perm bs ∧ ∀(i:Nat) (p:Option Nat) (o:Option α) (b:List Nat),ps[i]? = some p→xs[i]? = some o→bss[i]? = some b→(optX O p b o).p κ w
 mono:=by
  intro M κ w κ' w' he hb h
  obtain ⟨bss,h1,h2,h3,h4⟩:=h
  exact ⟨bss,h1,h2,h3,fun i p o b hp ho hbi=>(optX O p b o).mono he (fun b' hb'=>by
   rw [optX_bs] at hb'
   exact hb b' (h3.mem_iff.1 (List.mem_flatten.2 ⟨b,List.mem_of_getElem? hbi,hb'⟩))) (h4 i p o b hp ho hbi)⟩
section
variable {M:List Nat}{κ0 κ:Gh}{w0 w:World}{C C':List Ck}{R R':List MP}
variable {α H:Type}{ck:Nat→H→α→List Ck}{fs:H→α→List MP}{b:Nat}{bs:List Nat}{a:α}{O:OT α}{p:Option Nat}{o:Option α}{ps:List (Option Nat)}{xs:List (Option α)}
theorem SS.fold {h:H} (hS:SS M κ0 w0 κ w (ck b h a++C) R) (hf : ∀m∈fs h a,m.p κ w):SS M κ0 w0 κ w (.ext ((OT.of ck fs).x b (blksOf (ck b h a)) a)::C) R:=by
 refine hS.recast (fun c hc=>?_) [] (by rw [List.append_nil,blksOf_append]; exact List.Perm.refl _)
 rcases List.mem_cons.1 hc with rfl|hc
 ·exact ⟨h,List.Perm.refl _,fun c hc=>hS.ok c (List.mem_append.2 (.inl hc)),hf⟩
 ·exact hS.ok c (List.mem_append.2 (.inr hc))
theorem SS.foldO {h:H} (hS:SS M κ0 w0 κ w (ck b h a++C) R) (hf:SS M κ0 w0 κ w (ck b h a++C) (fs h a)) : ∃bs,SS M κ0 w0 κ w (.ext (optX (OT.of ck fs) (some b) bs (some a))::C) R:=⟨_,hS.fold hf.ro⟩
theorem SS.optS (hS:SS M κ0 w0 κ w C R) (i:Nat) (hC:C[i]? = some (.ext (optX O p bs o))) (ho:o=some a) : ∃b,p=some b∧SS M κ0 w0 κ w (C.set i (.ext (optX O (some b) bs (some a)))) R:=by
 subst ho
 cases p with
 | none=>obtain ⟨-,h,-⟩:=(hS.ck i hC:(optX O none bs (some a)).p κ w); cases h
 | some b=>
  refine ⟨b,rfl,?_⟩
  obtain ⟨hi,he⟩:=List.getElem?_eq_some_iff.1 hC
  rw [← he,List.set_getElem_self hi]; exact hS
theorem SS.optN (hS:SS M κ0 w0 κ w C R) (i:Nat) (hC:C[i]? = some (.ext (optX O p bs o))) (ho:o=none):p=none∧SS M κ0 w0 κ w (C.set i (.ext (optX O none [] none))) R:=by
 subst ho
 obtain ⟨rfl,-,rfl⟩:p=none∧(none:Option α)=none∧bs=[]:=by
  have:=(hS.ck i hC:(optX O p bs none).p κ w)
  cases p<;>exact this
 refine ⟨rfl,?_⟩
 obtain ⟨hi,he⟩:=List.getElem?_eq_some_iff.1 hC
 rw [← he,List.set_getElem_self hi]; exact hS
theorem SS.addOpt (hS:SS M κ0 w0 κ w C R) (O:OT α):SS M κ0 w0 κ w (.ext (optX O none [] none)::C) R:=by
 refine hS.recast (fun c hc=>?_) [] (by rw [List.append_nil]; exact List.Perm.refl _)
 rcases List.mem_cons.1 hc with rfl|hc
 ·exact ⟨rfl,rfl,rfl⟩
 ·exact hS.ok c hc
theorem optX_none:(optX O none [] none).p κ w:=⟨rfl,rfl,rfl⟩
theorem flatten_set {l:List (List Nat)} {j:Nat} {x y:List Nat} (h:l[j]? = some x):(y++l.flatten).Perm (x++(l.set j y).flatten):=by
 induction l generalizing j with
 | nil=>simp at h
 | cons z l ih=>
  cases j with
  | zero=>
   simp only [List.getElem?_cons_zero,Option.some.injEq] at h; subst h
   simp only [List.flatten_cons,List.set_cons_zero]
   rw [← List.append_assoc,← List.append_assoc]
   exact List.Perm.append_right _ List.perm_append_comm
  | succ j=>
   simp only [List.getElem?_cons_succ] at h
   simp only [List.flatten_cons,List.set_cons_succ]
   have h1:=ih h
   have h2:(y++(z++l.flatten)).Perm (z++(y++l.flatten)):=by
    rw [← List.append_assoc,← List.append_assoc]; exact List.Perm.append_right _ List.perm_append_comm
   have h3:(z++(x++(l.set j y).flatten)).Perm (x++(z++(l.set j y).flatten)):=by
    rw [← List.append_assoc,← List.append_assoc]; exact List.Perm.append_right _ List.perm_append_comm
   exact h2.trans ((List.Perm.append_left z h1).trans h3)
theorem arrX_len (h:(arrX O ps bs xs).p κ w):xs.length=ps.length:=by obtain ⟨_,_,h,_⟩:=h; exact h
theorem SS.arrTake (hS:SS M κ0 w0 κ w (.ext (arrX O ps bs xs)::C) R){j:Nat}{o:Option α}(hx:xs[j]? = some o) :
  ∃p bs1 bs2,ps[j]? = some p∧SS M κ0 w0 κ w (.ext (optX O p bs1 o) :: .ext (arrX O (ps.set j none) bs2 (xs.set j none))::C) R:=by
 obtain ⟨bss,h1,h2,h3,h4⟩:=(hS.ck 0 rfl:(arrX O ps bs xs).p κ w)
 have hj:j<xs.length:=(List.getElem?_eq_some_iff.1 hx).1
 obtain ⟨p,hp⟩ : ∃p,ps[j]? = some p:=⟨_,List.getElem?_eq_getElem (by omega)⟩
 obtain ⟨b1,hb1⟩ : ∃b,bss[j]? = some b:=⟨_,List.getElem?_eq_getElem (by omega)⟩
 refine ⟨p,b1,(bss.set j []).flatten,hp,hS.recut 0 rfl [.ext (optX O p b1 o),.ext (arrX O (ps.set j none) (bss.set j []).flatten (xs.set j none))] (fun c hc=>?_) [] ?_⟩
 ·rcases List.mem_cons.1 hc with rfl|hc
  ·exact h4 j p o b1 hp hx hb1
  ·simp only [List.mem_singleton] at hc; subst hc
   refine ⟨bss.set j [],by simp [h1],by simp [h2],List.Perm.refl _,fun i p' o' b' hp' ho' hb'=>?_⟩
   rw [List.getElem?_set] at hp' ho' hb'
   by_cases e:j=i
   ·subst e
    rw [if_pos rfl,if_pos (by omega)] at hp' ho' hb'
    cases hp'; cases ho'; cases hb'; exact optX_none
   ·rw [if_neg e] at hp' ho' hb'; exact h4 i p' o' b' hp' ho' hb'
 ·have:=flatten_set (y:=[]) hb1
  simp only [List.nil_append] at this
  simp only [blksOf,List.flatMap_cons,List.flatMap_nil,List.append_nil,Ck.blks,optX_bs]
  exact this.symm.trans h3
theorem SS.arrPut {j:Nat} {p:Option Nat} {bs1:List Nat} (hS:SS M κ0 w0 κ w (.ext (optX O p bs1 o) :: .ext (arrX O (ps.set j none) bs (xs.set j none))::C) R) : ∃bs',SS M κ0 w0 κ w (.ext (arrX O (ps.set j p) bs' (xs.set j o))::C) R:=by
 obtain ⟨bss,h1,h2,h3,h4⟩:=(hS.ck 1 rfl:(arrX O (ps.set j none) bs (xs.set j none)).p κ w)
 have h0:=(hS.ck 0 rfl:(optX O p bs1 o).p κ w)
 simp only [List.length_set] at h1 h2
 by_cases hj:j<bss.length
 ·obtain ⟨b1,hb1⟩ : ∃b,bss[j]? = some b:=⟨_,List.getElem?_eq_getElem hj⟩
  have he:b1=[]:=by
   obtain ⟨-,-,h⟩:=(h4 j none none b1 (by rw [List.getElem?_set,if_pos rfl,if_pos (by omega)]) (by rw [List.getElem?_set,if_pos rfl,if_pos (by omega)]) hb1:(optX O none b1 none).p κ w)
   exact h
  subst he
  have hfl:=flatten_set (y:=bs1) hb1
  simp only [List.nil_append] at hfl
  refine ⟨(bss.set j bs1).flatten,hS.recast (fun c hc=>?_) [] ?_⟩
  ·rcases List.mem_cons.1 hc with rfl|hc
   ·refine ⟨bss.set j bs1,by simp [h1],by simp [h2],List.Perm.refl _,fun i p' o' b' hp' ho' hb'=>?_⟩
    rw [List.getElem?_set] at hp' ho' hb'
    by_cases e:j=i
    ·subst e
     rw [if_pos rfl,if_pos (by omega)] at hp' ho' hb'
     cases hp'; cases ho'; cases hb'; exact h0
    ·rw [if_neg e] at hp' ho' hb'
     exact h4 i p' o' b' (by rw [List.getElem?_set,if_neg e]; exact hp') (by rw [List.getElem?_set,if_neg e]; exact ho') hb'
   ·exact hS.ok c (by simp [hc])
  ·simp only [blksOf,List.flatMap_cons,Ck.blks,optX_bs,List.append_nil]
   rw [← List.append_assoc]
   exact List.Perm.append_right _ (hfl.symm.trans (List.Perm.append_left _ h3))
 ·have e1 : ∀ {β:Type} (l:List β) (x:β),l.length=bss.length→l.set j x=l:=fun l x hl=>List.set_eq_of_length_le (by omega)
  rw [e1 ps p h1.symm,e1 xs o (by omega)]
  rw [e1 ps none h1.symm,e1 xs none (by omega)] at hS
  exact ⟨bs,hS.drop (List.sublist_cons_self _ _)⟩
theorem SS.arrDrop (hS:SS M κ0 w0 κ w (.ext (arrX O ps bs xs)::C) R) (j:Nat) : ∃bs',SS M κ0 w0 κ w (.ext (arrX O (ps.set j none) bs' (xs.set j none))::C) R:=by
 by_cases hj:j<xs.length
 ·obtain ⟨p,b1,b2,-,h⟩:=hS.arrTake (j:=j) (o:=xs[j]) (List.getElem?_eq_getElem hj)
  exact ⟨b2,h.drop (List.sublist_cons_self _ _)⟩
 ·have hl:=arrX_len (hS.ck 0 rfl:(arrX O ps bs xs).p κ w)
  exact ⟨bs,by rw [List.set_eq_of_length_le (by omega),List.set_eq_of_length_le (by omega)]; exact hS⟩
theorem arrX_nils (n:Nat):(arrX O (List.replicate n none) [] (List.replicate n none)).p κ w:=
 ⟨List.replicate n [],by simp,by simp,by simp,fun i p o b hp ho hb=>by
  rw [List.getElem?_replicate] at hp ho hb
  split at hp
  ·rename_i h
   rw [if_pos h] at ho hb
   cases hp; cases ho; cases hb; exact optX_none
  ·cases hp⟩
theorem SS.addArr (hS:SS M κ0 w0 κ w C R) (O:OT α) (n:Nat):SS M κ0 w0 κ w (.ext (arrX O (List.replicate n none) [] (List.replicate n none))::C) R:=by
 refine hS.recast (fun c hc=>?_) [] (by rw [List.append_nil]; exact List.Perm.refl _)
 rcases List.mem_cons.1 hc with rfl|hc
 ·exact arrX_nils n
 ·exact hS.ok c hc
end
section
variable {P:Program}{M:List Nat}{κ0:Gh}{w0:World}{Cin Cr:List Ck}{R:List MP}
end
def oCase {α ρ:Type} (o:Option α) (A:Option ρ) (B:α→Option ρ):Option ρ:=match o with
 | none=>A
 | some x=>B x
theorem opt_split {α ρ:Type} {o:Option α} {A:Option ρ} {B:α→Option ρ} {r:ρ} {G:Prop} (H:oCase o A B=some r) (h1:o=none→A=some r→G) (h2 : ∀x,o=some x→B x=some r→G):G:=by
 cases o with
 | none=>exact h1 rfl H
 | some x=>exact h2 x rfl H
end Go.Cf
namespace Go.Cf
open Go
set_option linter.unusedVariables false
def pblk:Option Addr→List Nat
 | some a=>[a.block]
 | none=>[]
def ownX {α:Type}(t:FT α)(E:Nat)(p:Option Addr)(c:Nat)(l:List α):XF where
 bs:=pblk p
 p κ w:=(l=[]∧c=0∧p=none) ∨ ∃b off cells,p=some ⟨b,off,none⟩∧κ b=none∧l.length≤c∧c≤maxLen∧w.heap[b]? = some (.cells cells E (0,0))∧(c≠0→cells.size=off+c*t.size) ∧
  ∀i x,l[i]? = some x → ∀j v,(t.enc x)[j]? = some v→cells[off+i*t.size+j]? = some v
 mono:=fun {M κ w κ' w'} he hb h=>by
  rcases h with h | ⟨b,off,cells,rfl,h1,h2,h3,h4,h5,h6⟩
  ·exact .inl h
  ·obtain ⟨hlt,hm⟩:=hb b (by simp [pblk])
   obtain ⟨k1,k2⟩:=he.keep b hlt hm
   exact .inr ⟨b,off,cells,rfl,k2.trans h1,h2,h3,k1.trans h4,h5,h6⟩
section
variable {ro:Option Nat}{P:Program}{ops:Array Oper}{Q:Exit→Act→World→Prop}{N:Nat}{D:List Deferred}{L L':FL}{a:Act}{w:World}{o:Oper}{K:Act→World→Prop}
variable {M:List Nat}{κ0 κ:Gh}{w0:World}{C C':List Ck}{R R':List MP}
variable {α:Type}{t:FT α}{E c:Nat}{p:Option Addr}{l:List α}
theorem ownX.at {κ:Gh}{w:World}(h:(ownX t E p c l).p κ w){k:Nat}{x:α}(hk:l[k]? = some x) : ∃b off cells,p=some ⟨b,off,none⟩∧κ b=none∧l.length≤c∧c≤maxLen∧w.heap[b]? = some (.cells cells E (0,0))∧(c≠0→cells.size=off+c*t.size) ∧
  ∀i x,l[i]? = some x → ∀j v,(t.enc x)[j]? = some v→cells[off+i*t.size+j]? = some v:=by
 rcases h with ⟨rfl,-⟩|h
 ·simp at hk
 ·exact h
theorem SS.addOwn (h:SS M κ0 w0 κ w C R) (t:FT α) (E:Nat):SS M κ0 w0 κ w (.ext (ownX t E none 0 [])::C) R:=by
 refine h.recast (fun c hc=>?_) [] (by rw [List.append_nil]; exact List.Perm.refl _)
 rcases List.mem_cons.1 hc with rfl|hc
 ·exact .inl ⟨rfl,rfl,rfl⟩
 ·exact h.ok c hc
theorem SS.ptrO (hS:SS M κ0 w0 κ w C R) (ci:Nat) {i:Int} {y:α} (hC:C[ci]? = some (.ext (ownX t E p c l))) (hi:idx l i=some y) : ∃b off,p=some ⟨b,off,none⟩:=by
 obtain ⟨b,off,_,hp,_⟩:=ownX.at (hS.ck ci hC:(ownX t E p c l).p κ w) (idx_some hi).2.2
 exact ⟨b,off,hp⟩
theorem wo_indexO (hF:Fr N D L a)(hS:SS M κ0 w0 κ w C R)(hc:okOp N L o=true)(ci:Nat){T sz n:Nat}{kd:IntKind}{i:Int}{y:α}{x ix:Operand}(hop:o.op = .indexAddr T x ix)(hC:C[ci]? = some (.ext (ownX t E p c l)))
  (hx:ev L x=some (.slice p n c)) (hn:n=l.length) (hix:ev L ix=some (.int kd i)) (hi:idx l i=some y) (hu:pureRun P (underlying T)=some (.slice E)) (hs:pureRun P (sizeOf E)=some sz)
  (kk : ∀b off a',p=some ⟨b,off,none⟩→Fr N D (upd L o.dst (.pointer (some ⟨b,off+i.toNat*sz,none⟩))) a'→K a' w):wo ro P o a w K Q:=by
 obtain ⟨h0,h1,h2⟩:=idx_some hi
 obtain ⟨b,off,hp⟩:=hS.ptrO ci hC hi
 refine wo_val hF hc (v := .pointer (some ⟨b,off+i.toNat*sz,none⟩)) (w':=w) ?_ fun a' hF'=>kk b off a' hp hF'
 simp only [execOp,hop,evD,hx,hix,Option.getD_some]
 subst hn hp
 have hlt:i<(l.length:Int):=by omega
 simp [Instr.indexAt,asIntOf,run_underlying' hu,pureRun_run _ hs w,h0,hlt,add_off]
theorem wo_storeO (hF:Fr N D L a)(hS:SS M κ0 w0 κ w C R)(hc:okOp N L o=true)(ci:Nat){T b off Eo sz:Nat}{i:Int}{y z:α}{x x':Operand}{v:Value}(hop:o.op = .store T x x')(hx:ev L x=some (.pointer (some ⟨b,Eo,none⟩)))(hy:ev L x'=some v)(hC:C[ci]? = some (.ext (ownX t E p c l)))
  (hp:p=some ⟨b,off,none⟩) (hi:idx l i=some y) (hE:off+i.toNat*t.size=Eo) (hsz:pureRun P (sizeOf T)=some sz) (hts:t.size=sz) (hvs:v.cells=(t.enc z).toArray)
  (kk : ∀a' w',Fr N D (upd L o.dst undef) a'→SS M κ0 w0 κ w' (C.set ci (.ext (ownX t E p c (l.set i.toNat z)))) R→K a' w'):wo ro P o a w K Q:=by
 subst hp hts
 obtain ⟨h0,hil,hiy⟩:=idx_some hi
 obtain ⟨b',off',cells,hp',h1,h2,h3,h4,h5,h6⟩:=ownX.at (hS.ck ci hC:(ownX t E _ c l).p κ w) hiy
 simp only [Option.some.injEq,Addr.mk.injEq] at hp'
 obtain ⟨rfl,rfl,_⟩:=hp'
 have h5e:=h5 (by omega)
 have hmul:i.toNat*t.size+t.size≤l.length*t.size:=by
  have:(i.toNat+1)*t.size≤l.length*t.size:=Nat.mul_le_mul_right _ hil
  rw [Nat.add_mul,Nat.one_mul] at this
  exact this
 have hmulc:l.length*t.size≤c*t.size:=Nat.mul_le_mul_right _ h2
 have hbm:b∈blksOf C:=List.mem_flatMap.2 ⟨_,List.mem_of_getElem? hC,by simp [Ck.blks,ownX,pblk]⟩
 have hblt:b<w.heap.size:=hS.lt b hbm
 have hzl:=t.len z
 have hst:=run_storeCells_at P b Eo E (t.enc z) 0 cells w h4 (by rw [hzl,h5e]; omega) (t.one z)
 simp only [Nat.add_zero] at hst
 rw [setRow_eq w b E _ _ h4] at hst
 have hst':(Instr.storeAt T (.pointer (some ⟨b,Eo,none⟩)) v).run P w = .ok () {w with heap:=w.heap.setIfInBounds b (.cells (cells.toList.take Eo++t.enc z++cells.toList.drop (Eo+(t.enc z).length)).toArray E (0,0))}:=by
  have e1:v.cells.toList=t.enc z:=by rw [hvs]
  have e2:v.cells.size=t.size:=by rw [hvs]; simpa using hzl
  simp [Instr.storeAt,Instr.sureAddr,storeVar,pureRun_run _ hsz w,e1,e2,hst]
 generalize harr:(cells.toList.take Eo++t.enc z++cells.toList.drop (Eo+(t.enc z).length)).toArray=arr at hst'
 have hal:arr.size=cells.size:=by
  subst harr
  simp only [List.size_toArray,List.length_append,List.length_take,List.length_drop,Array.length_toList]
  omega
 have harrk : ∀k,arr[k]? = if k<Eo then cells[k]? else if k<Eo+t.size then (t.enc z)[k-Eo]? else cells[k]? := fun k=>by
  subst harr
  have hEc:Eo+t.size≤cells.toList.length:=by simp only [Array.length_toList]; omega
  rw [List.getElem?_toArray,List.append_assoc]
  by_cases hk1:k<Eo
  ·rw [if_pos hk1,List.getElem?_append_left (by simp; omega),List.getElem?_take,if_pos hk1]; simp
  ·rw [if_neg hk1,List.getElem?_append_right (by simp; omega)]
   have hlt:(cells.toList.take Eo).length=Eo:=by simp; omega
   rw [hlt]
   by_cases hk2:k<Eo+t.size
   ·rw [if_pos hk2,List.getElem?_append_left (by omega)]
   ·rw [if_neg hk2,List.getElem?_append_right (by omega),List.getElem?_drop]
    simp only [Array.getElem?_toList]
    congr 1; omega
 let w':World:={w with heap:=w.heap.setIfInBounds b (.cells arr E (0,0))}
 have hother : ∀b',b'≠b→w'.heap[b']? = w.heap[b']? := fun b' hne=>by
  show (w.heap.setIfInBounds b _)[b']? = _
  rw [Array.getElem?_setIfInBounds_ne (Ne.symm hne)]
 have hme:w'.heap[b]? = some (.cells arr E (0,0)):=by
  show (w.heap.setIfInBounds b _)[b]? = _
  simp [hblt]
 have hext:Ext (Ck.ext (ownX t E (some ⟨b,off,none⟩) c l)).blks κ w κ w':=
  ⟨rfl,rfl,rfl,by simp [w'],fun b' _ hm=>⟨hother b' (by simpa [Ck.blks,ownX,pblk] using hm),rfl⟩,fun b' n hn=>⟨n,hn,Nat.le_refl _,fun k _=>cell_of_heap (hother b' fun e=>by rw [e,h1] at hn; cases hn)⟩⟩
 obtain ⟨hCe,hCs⟩:=set_split (c' := .ext (ownX t E (some ⟨b,off,none⟩) c (l.set i.toNat z))) hC
 refine wo_skip hF hc (exec_store hop hx hy hst') fun a' hF'=>kk a' w' hF' ?_
 rw [hCs]
 refine hS.turn _ _ hCe hext (fun b' hb'=>hS.fresh b' (by simpa [w'] using hb')) ?_ (fun b' hb' => .inl hb') (fun b' hb'=>?_) (by simp [Ck.blks,ownX,pblk])
 ·refine .inr ⟨b,off,arr,rfl,h1,by rw [List.length_set]; exact h2,h3,hme,fun hc0=>by rw [hal]; exact h5 hc0,fun j u hj q e he=>?_⟩
  have hql:q<t.size:=by rw [← t.len u]; exact (List.getElem?_eq_some_iff.1 he).1
  rw [harrk]
  rw [List.getElem?_set] at hj
  split at hj
  ·rename_i hij
   simp only [Option.some.injEq] at hj
   subst hij hj
   rw [if_neg (by omega),if_pos (by omega),show off+i.toNat*t.size+q-Eo=q from by omega]; exact he
  ·rename_i hij
   have hju:=h6 _ _ hj q e he
   rcases Nat.lt_or_gt_of_ne hij with h|h
   ·have:(i.toNat+1)*t.size≤j*t.size:=Nat.mul_le_mul_right _ h
    rw [Nat.add_mul,Nat.one_mul] at this
    rw [if_neg (by omega),if_neg (by omega)]; exact hju
   ·have:(j+1)*t.size≤i.toNat*t.size:=Nat.mul_le_mul_right _ h
    rw [Nat.add_mul,Nat.one_mul] at this
    rw [if_pos (by omega)]; exact hju
 ·have:b'=b:=by simpa [Ck.blks,ownX,pblk] using hb'
  subst this; simpa [w'] using hblt
def mkl {α:Type} (n:Int) (z:α):Option (List α):=if 0≤n∧n<2147483648 then some (List.replicate n.toNat z) else none
theorem wo_makeO (hF:Fr N D L a)(hS:SS M κ0 w0 κ w C R)(hc:okOp N L o=true)(t:FT α){T:Nat}{kl kc:IntKind}{m:Int}{x y:Operand}{i:TypeInfo}{z:Value}{zm:α}(hop:o.op = .makeSlice T x y)(hx:ev L x=some (.int kl m))(hy:ev L y=some (.int kc m))(hn:mkl m zm=some l)
  (ht:P.underlying T=some (.slice E)) (hi:P.info? E=some i) (hz:i.zero=some z) (hsize:i.size=t.size) (hb:i.bytes≤4096) (hzc:z.cells.toList=t.enc zm)
  (kk : ∀p a' w',Fr N D (upd L o.dst (.slice p l.length l.length)) a'→SS M κ0 w0 κ w' (.ext (ownX t E p l.length l)::C) R→K a' w'):wo ro P o a w K Q:=by
 unfold mkl at hn
 split at hn
 ·rename_i h
  simp only [Option.some.injEq] at hn
  subst hn
  have hbytes:(i.bytes:Int)*m≤281474976710656:=by
   have h1:(i.bytes:Int)≤4096:=by omega
   have h2:(i.bytes:Int)*m≤4096*m:=Int.mul_le_mul_of_nonneg_right h1 h.1
   omega
  have hrun:=run_make (P:=P) w T E i z ht hi hz kl kc m m h.1 (Int.le_refl _) hbytes (by omega)
  rw [List.length_replicate] at *
  refine wo_val hF hc (v := .slice (some ⟨w.heap.size,0,none⟩) m.toNat m.toNat) (w':=w.alloc (.cells (madeCells z.cells (m.toNat*i.size)) E)) ?_ fun a' hF'=>kk (some ⟨w.heap.size,0,none⟩) a' _ hF' ?_
  ·simp only [execOp,hop,evD,hx,hy,Option.getD_some]
   simp only [Sem.run_bind,hrun,Result.andThen]
   rfl
  ·have hext:Ext [] κ w κ (w.alloc (.cells (madeCells z.cells (m.toNat*i.size)) E)):=Ext.alloc hS.fresh _ ⟨_,_,rfl⟩
   have h':=hS.step hext (hS.fresh.alloc _)
   have hbl:blksOf (.ext (ownX t E (some ⟨w.heap.size,0,none⟩) m.toNat (List.replicate m.toNat zm))::C)=w.heap.size::blksOf C:=rfl
   have hzs:z.cells.size=t.size:=by rw [← Array.length_toList,hzc,t.len]
   refine ⟨h'.ext,h'.fresh,fun d hd=>?_,fun b hb'=>?_,?_,fun b hb'=>?_,h'.ro⟩
   ·rcases List.mem_cons.1 hd with rfl|hd
    ·refine .inr ⟨w.heap.size,0,madeCells z.cells (m.toNat*i.size),rfl,hS.fresh _ (Nat.le_refl _),by simp,by unfold maxLen; omega,heap_alloc_new _ _,fun _=>by rw [hsize]; simp [madeCells],fun j u hj q e he=>?_⟩
     rw [List.getElem?_replicate] at hj
     split at hj
     ·rename_i hjm
      simp only [Option.some.injEq] at hj
      subst hj
      have hql:q<t.size:=by rw [← t.len zm]; exact (List.getElem?_eq_some_iff.1 he).1
      have hmul:j*t.size+t.size≤m.toNat*t.size:=by
       have:(j+1)*t.size≤m.toNat*t.size:=Nat.mul_le_mul_right _ hjm
       rw [Nat.add_mul,Nat.one_mul] at this
       exact this
      have hmod:(0+j*t.size+q) % z.cells.size=q:=by
       rw [hzs,Nat.zero_add,Nat.mul_comm,Nat.mul_add_mod,Nat.mod_eq_of_lt hql]
      have hq2:z.cells[q]? = some e:=by rw [← Array.getElem?_toList,hzc]; exact he
      have hlt:0+j*t.size+q<m.toNat*i.size:=by rw [hsize]; omega
      unfold madeCells
      rw [Array.getElem?_map,Array.getElem?_range]
      rw [if_pos hlt]
      simp only [Option.map_some,hmod]
      rw [getElem!_def,hq2]
     ·cases hj
    ·exact h'.ok d hd
   ·rw [hbl] at hb'
    rcases List.mem_cons.1 hb' with rfl|hb'
    ·rw [size_alloc]; omega
    ·exact h'.lt b hb'
   ·rw [hbl]
    exact List.nodup_cons.2 ⟨fun hm=>by have:=hS.lt _ hm; omega,hS.nd⟩
   ·rw [hbl] at hb'
    rcases List.mem_cons.1 hb' with rfl|hb'
    ·exact .inl hS.ext.size
    ·exact hS.own b hb'
 ·cases hn
def apd1 {α:Type} (l l':List α):Option (List α):=if l'.isEmpty then none else apd l l'
theorem wo_appendOX (hF:Fr N D L a)(hS:SS M κ0 w0 κ w C R)(hc:okOp N L o=true)(ci:Nat){T U n:Nat}{i:TypeInfo}{z v2:Value}{l2 l':List α}{news:List Value}{x y:Operand}
  (hop:o.op = .call {callee := .builtin .append,args := #[x,y],argTypes := #[T,U]}) (hx:ev L x=some (.slice p n c)) (hy:ev L y=some v2) (hn:n=l.length) (hC:C[ci]? = some (.ext (ownX t E p c l)))
  (hA:AppOf P w T U o.type E i z v2 l2.length news) (hnl:news.length=l2.length*t.size) (hnone : ∀v∈news,v.oneCell'=true) (hnrep : ∀i x,l2[i]? = some x → ∀j v,(t.enc x)[j]? = some v→news[i*t.size+j]? = some v) (ha:apd1 l l2=some l')
  (hsize:(i.size==t.size&&z.cells.size==t.size&&decide (i.bytes≤4096)&&decide (0<t.size))=true)
  (kk : ∀p' c' κ' a' w',Fr N D (upd L o.dst (.slice p' l'.length c')) a'→SS M κ0 w0 κ' w' (C.set ci (.ext (ownX t E p' c' l'))) R→K a' w'):wo ro P o a w K Q:=by
 unfold apd1 at ha
 split at ha
 ·cases ha
 rename_i hne
 have hpos:0<l2.length:=by cases l2 with
  | nil=>simp at hne
  | cons=>simp
 obtain ⟨hlen,rfl⟩:=apd_some ha
 subst hn
 simp only [Bool.and_eq_true,beq_iff_eq,decide_eq_true_eq] at hsize
 obtain ⟨⟨⟨hs1,hs2⟩,hs3⟩,hs4⟩:=hsize
 have hck:=(hS.ck ci hC:(ownX t E p c l).p κ w)
 have hblk : ∀b∈pblk p,b∈blksOf C:=fun b hb=>List.mem_flatMap.2 ⟨_,List.mem_of_getElem? hC,hb⟩
 have hpb : ∀E n s c,(Ck.tok p E s n c).blks=pblk p:=fun _ _ _ _=>by cases p<;>rfl
 have hpn : ∀b∈pblk p,κ b=none:=fun b hb=>by
  rcases hck with ⟨-,-,rfl⟩ | ⟨b',off,cells,rfl,g1,_⟩
  ·simp [pblk] at hb
  ·simp only [pblk,List.mem_singleton] at hb; subst hb; exact g1
 obtain ⟨κ1,hfr1,htok,hl,hk1⟩ : ∃κ1:Gh,Fresh κ1 w∧(Ck.tok p E t.ty.size l.length c).ok κ1 w∧Ro t.ty κ1 w p c l ∧ ∀b,b ∉ pblk p→κ1 b=κ b:=by
  rcases hck with ⟨rfl,rfl,rfl⟩ | ⟨b,off,cells,rfl,g1,g2,g3,g4,g5,g6⟩
  ·exact ⟨κ,hS.fresh,.inl ⟨rfl,rfl⟩,⟨Nat.le_refl _,Nat.zero_le _,.inl ⟨rfl,rfl⟩⟩,fun _ _=>rfl⟩
  ·have hblt:b<w.heap.size:=hS.lt b (hblk b (by simp [pblk]))
   by_cases hc0:c=0
   ·have:l=[]:=List.eq_nil_of_length_eq_zero (by omega)
    subst this hc0
    exact ⟨κ,hS.fresh,.inl ⟨rfl,rfl⟩,⟨Nat.le_refl _,Nat.zero_le _,.inl ⟨rfl,rfl⟩⟩,fun _ _=>rfl⟩
   refine ⟨fun x=>if x=b then some (off+l.length*t.size) else κ x,fun x hx=>?_,.inr ⟨b,off,cells,rfl,if_pos rfl,g2,g3,g4,g5 hc0⟩,⟨g2,g3,.inr ⟨b,off,_,rfl,if_pos rfl,Nat.le_refl _,fun j u hj=>⟨t.enc u,rfl,fun q v hv=>?_⟩⟩⟩,fun x hx=>?_⟩
   ·have:x≠b:=by omega
    exact (if_neg this).trans (hS.fresh x hx)
   ·have hq:cells[off+j*t.ty.size+q]? = some v:=g6 j u hj q v hv
    simpa [World.cell?,g4] using hq
   ·have:x≠b:=by simpa [pblk] using hx
    exact if_neg this
 obtain ⟨p',c',κ',w',hrun,hext,hfr,hro,htok',hb'⟩:=run_appendX (P:=P) (y:=o.type) t.ty hs1 hs2 rfl hs4 hfr1 htok (fun b hb=>hS.lt b (hblk b (by rw [hpb] at hb; exact hb))) hl hA hnl hnone (fun i x hi=>⟨_,rfl,hnrep i x hi⟩) (by omega) (Nat.le_trans (Nat.mul_le_mul (show (l.length+l2.length)+(l.length+l2.length) / 4+192≤2684354752 by omega) hs3) (by decide))
 have hpb' : ∀E n s c,(Ck.tok p' E s n c).blks=pblk p':=fun _ _ _ _=>by cases p'<;>rfl
 rw [hpb] at hext
 have hval:(execOp (evD L) o).run P w = .ok (.value (.slice p' (l++l2).length c')) w':=by
  have hex:evD L x = .slice p l.length c:=by simp [evD,hx]
  have hey:evD L y=v2:=by simp [evD,hy]
  simp only [execOp,hop]
  simp [resolve,invoke,Go.builtin,hex,hey,hrun]
 have hbm' : ∀b∈pblk p',(b∈pblk p∨w.heap.size≤b)∧b<w'.heap.size:=fun b hb=>by
  have:=hb' b (by rw [hpb']; exact hb)
  rw [hpb] at this
  exact this
 obtain ⟨κ2,hk2,hk2'⟩ : ∃κ2:Gh,(∀b,b<w.heap.size→κ2 b=κ b) ∧ ∀b,w.heap.size≤b→κ2 b=none:=
  ⟨fun b=>if b<w.heap.size then κ b else none,fun b hb=>if_pos hb,fun b hb=>if_neg (by omega)⟩
 have hext2:Ext (Ck.ext (ownX t E p c l)).blks κ w κ2 w':=by
  refine ⟨hext.os,hext.out,hext.tape,hext.size,fun b hb hm=>⟨(hext.keep b hb hm).1,hk2 b hb⟩,fun b n hn=>?_⟩
  have hblt:b<w.heap.size:=by
   rcases Nat.lt_or_ge b w.heap.size with h|h
   ·exact h
   ·rw [hS.fresh b h] at hn; cases hn
  refine ⟨n,(hk2 b hblt).trans hn,Nat.le_refl _,fun i hi=>?_⟩
  by_cases hm:b∈pblk p
  ·rw [hpn b hm] at hn; cases hn
  ·exact cell_of_heap (hext.keep b hblt hm).1
 obtain ⟨hCe,hCs⟩:=set_split (c' := .ext (ownX t E p' c' (l++l2))) hC
 refine wo_val hF hc hval fun a' hF'=>kk p' c' κ2 a' w' hF' ?_
 rw [hCs]
 refine hS.turn _ _ hCe hext2 (fun b hb=>hk2' b (Nat.le_trans hext.size hb)) ?_ (fun b hb=>(hbm' b hb).1) (fun b hb=>(hbm' b hb).2) (by cases p'<;>simp [Ck.blks,ownX,pblk])
 rcases htok' with ⟨h1,-⟩ | ⟨b,off,cells,rfl,k1,k2,k3,k4,k5⟩
 ·simp only [List.length_append] at h1; omega
 ·refine .inr ⟨b,off,cells,rfl,?_,k2,k3,k4,fun _=>k5,fun i u hi j v hv=>?_⟩
  ·rcases (hbm' b (by simp [pblk])).1 with h|h
   ·rw [hk2 b (hS.lt b (hblk b h))]; exact hpn b h
   ·exact hk2' b h
  ·obtain ⟨cs,hr,hcs⟩:=hro.at' hi
   have hr':cs=t.enc u:=hr
   subst hr'
   have hq:w'.cell? ⟨b,off+i*t.ty.size+j,none⟩=some v:=hcs j v hv
   have hq2:cells[off+i*t.ty.size+j]? = some v:=by simpa [World.cell?,k4] using hq
   exact hq2
theorem wo_appendO (hF:Fr N D L a)(hS:SS M κ0 w0 κ w C R)(hc:okOp N L o=true)(ci ri2:Nat){T c2 n n2:Nat}{i:TypeInfo}{z:Value}{p2:Option Addr}{l2 l':List α}{x y:Operand}
  (hop:o.op = .call {callee := .builtin .append,args := #[x,y],argTypes := #[T,T]}) (hx:ev L x=some (.slice p n c)) (hy:ev L y=some (.slice p2 n2 c2)) (hn:n=l.length) (hn2:n2=l2.length) (hC:C[ci]? = some (.ext (ownX t E p c l)))
  (hR2:R[ri2]? = some (Ro.mp t.ty p2 c2 l2)) (ha:apd1 l l2=some l')
  (ht:pureRun P (underlying T)=some (.slice E)) (hi:P.info? E=some i) (hz:i.zero=some z) (hsize:(i.size==t.size&&z.cells.size==t.size&&decide (i.bytes≤4096)&&decide (0<t.size))=true)
  (kk : ∀p' c' κ' a' w',Fr N D (upd L o.dst (.slice p' l'.length c')) a'→SS M κ0 w0 κ' w' (C.set ci (.ext (ownX t E p' c' l'))) R→K a' w'):wo ro P o a w K Q:=by
 subst hn2
 obtain ⟨news,hnl,hncell,hnone,hnrep⟩:=(hS.get ri2 hR2:Ro t.ty κ w p2 c2 l2).row
 have hs:=hsize
 simp only [Bool.and_eq_true,beq_iff_eq,decide_eq_true_eq] at hs
 refine wo_appendOX hF hS hc ci hop hx hy hn hC (appOf_slice (underlying_of ht) hi hz (by rw [hs.1.1.1]; exact hnl) ?_) hnl hnone (fun i x hi j v hv=>?_) ha hsize kk
 ·rcases (hS.get ri2 hR2:Ro t.ty κ w p2 c2 l2).2.2 with ⟨rfl,rfl⟩ | ⟨b2,off2,n2,rfl,hk2,hn2,hc2⟩
  ·cases p2 with
   | none=>exact .inl ⟨rfl,rfl⟩
   | some a=>exact .inr ⟨a,rfl,fun j v hj=>by
     have:news=[]:=List.eq_nil_of_length_eq_zero (by rw [hnl]; simp)
     subst this; cases hj⟩
  ·exact .inr ⟨_,rfl,fun j v hj=>by rw [add_off]; exact hncell b2 off2 rfl j v hj⟩
 ·obtain ⟨cs,hr,hv'⟩:=hnrep i x hi
  have hr':cs=t.enc x:=hr
  subst hr'
  exact hv' j v hv
theorem wo_storeOL (hF:Fr N D L a)(hS:SS M κ0 w0 κ w C R)(hc:okOp N L o=true)(ci:Nat){T b off Eo sz:Nat}{i:Int}{y z:α}{x x':Operand}{v:Value}(hop:o.op = .store T x x')(hx:ev L x=some (.pointer (some ⟨b,Eo,none⟩)))(hy:ev L x'=some v)(hC:C[ci]? = some (.ext (ownX t E p c l)))
  (hp:p=some ⟨b,off,none⟩) (hi:idx l i=some y) (hE:off+i.toNat*t.size=Eo) (hsz:pureRun P (sizeOf T)=some sz) (hts:t.size=sz) (hvs:v.cells=(t.enc z).toArray)
  {Cf:Nat→List Ck} {Lf:Nat→FL} (ks:List Nat) (hCf:C.set ci (.ext (ownX t E p c (l.set i.toNat z)))=Cf l.length) (hLf:keep (upd L o.dst undef) ks=Lf l.length)
  (kk : ∀a' w',Fr N D (Lf (l.set i.toNat z).length) a'→SS M κ0 w0 κ w' (Cf (l.set i.toNat z).length) R→K a' w'):wo ro P o a w K Q:=by
 rw [List.length_set,← hCf] at kk
 exact wo_storeO hF hS hc ci hop hx hy hC hp hi hE hsz hts hvs fun a' w' hF' hS'=>kk a' w' (hF'.keep' ks hLf) hS'
end
end Go.Cf
namespace Go.Cf
open Go Go.MapKept
set_option linter.unusedVariables false
section
variable {M:List Nat}{κ0 κ:Gh}{w0 w:World}{C C':List Ck}{R R':List MP}
variable {α H:Type}{ck:Nat→H→α→List Ck}{fs:H→α→List MP}{b:Nat}{bs:List Nat}{a:α}{O:OT α}{p:Option Nat}{o:Option α}{ps:List (Option Nat)}{xs:List (Option α)}
theorem SS.lead (hS:SS M κ0 w0 κ w C R) (is js:List Nat) (hn:(is++js).Nodup) {A:List Ck} (hA:(is.filterMap fun i=>C[i]?)=A):SS M κ0 w0 κ w (A++js.filterMap fun i=>C[i]?) R:=by
 subst hA
 exact hS.selp (is++js) hn (by rw [selG_eq,List.filterMap_append])
theorem SS.unfI (hS:SS M κ0 w0 κ w C R) (i:Nat) (hC:C[i]? = some (.ext (optX (OT.of ck fs) (some b) bs (some a)))) : ∃h,SS M κ0 w0 κ w (ck b h a++C.eraseIdx i) (fs h a++R):=by
 obtain ⟨h,h1,h2,h3⟩:=(hS.ck i hC:((OT.of ck fs).x b bs a).p κ w)
 refine ⟨h,(hS.recut i hC (ck b h a) h2 [] (by rw [List.append_nil]; exact h1)).facts fun m hm=>?_⟩
 rcases List.mem_append.1 hm with hm|hm
 ·exact h3 m hm
 ·exact hS.ro m hm
theorem SS.foldI (hS:SS M κ0 w0 κ w C R)(b:Nat)(h:H)(a:α)(is js ri:List Nat)(hn:(is++js).Nodup)(hC:selG C is=ck b h a)(hR:selG R ri=fs h a) :
  ∃bs,SS M κ0 w0 κ w (.ext (optX (OT.of ck fs) (some b) bs (some a))::js.filterMap fun i=>C[i]?) R:=
 (hS.lead is js hn ((selG_eq _ _).symm.trans hC)).foldO ((hS.lead is js hn ((selG_eq _ _).symm.trans hC)).pick ri hR)
theorem SS.swap {c d:Ck} (h:SS M κ0 w0 κ w (c::d::C) R):SS M κ0 w0 κ w (d::c::C) R:=by
 refine h.recast (fun x hx=>h.ok x ?_) [] ?_
 ·simp only [List.mem_cons] at hx ⊢
  rcases hx with hx|hx|hx
  ·exact .inr (.inl hx)
  ·exact .inl hx
  ·exact .inr (.inr hx)
 ·rw [List.append_nil]
  show (d.blks++(c.blks++blksOf C)).Perm (c.blks++(d.blks++blksOf C))
  rw [← List.append_assoc,← List.append_assoc]
  exact List.Perm.append_right _ List.perm_append_comm
theorem SS.arrTakeI (hS:SS M κ0 w0 κ w C R)(i:Nat)(hC:C[i]? = some (.ext (arrX O ps bs xs))){j:Int}{o:Option α}(hx:idx xs j=some o) :
  ∃p bs1 bs2,idx ps j=some p∧SS M κ0 w0 κ w (.ext (optX O p bs1 o) :: .ext (arrX O (ps.set j.toNat none) bs2 (xs.set j.toNat none))::C.eraseIdx i) R:=by
 obtain ⟨j0,-,j2⟩:=idx_some hx
 have h:=hS.recut i hC [.ext (arrX O ps bs xs)] (fun c hc=>by simp only [List.mem_singleton] at hc; subst hc; exact hS.ck i hC) [] (by rw [List.append_nil]; simp [blksOf])
 obtain ⟨p,b1,b2,hp,h⟩:=h.arrTake j2
 exact ⟨p,b1,b2,by unfold idx; rw [if_pos j0]; exact hp,h⟩
theorem set_idx {β:Type} {l:List β} {j:Int} {x:β} (h:idx l j=some x):l.set j.toNat x=l:=by
 obtain ⟨_,h1,h2⟩:=idx_some h
 obtain ⟨_,he⟩:=List.getElem?_eq_some_iff.1 h2
 rw [← he]; exact List.set_getElem_self h1
theorem SS.arrPutI (hS:SS M κ0 w0 κ w C R)(i k:Nat)(js:List Nat)(hn:([i,k]++js).Nodup){j:Int}{bs1:List Nat}(hi:C[i]? = some (.ext (optX O p bs1 o)))(hk:C[k]? = some (.ext (arrX O (ps.set j.toNat none) bs (xs.set j.toNat none))))(hp:idx ps j=some p) :
  ∃bs',SS M κ0 w0 κ w (.ext (arrX O ps bs' (xs.set j.toNat o))::js.filterMap fun i=>C[i]?) R:=by
 have h:=hS.lead [i,k] js hn (A:=[.ext (optX O p bs1 o),.ext (arrX O (ps.set j.toNat none) bs (xs.set j.toNat none))]) (by simp [hi,hk])
 obtain ⟨b',h⟩:=SS.arrPut h
 rw [set_idx hp] at h
 exact ⟨b',h⟩
theorem SS.arrBackI (hS:SS M κ0 w0 κ w C R)(i k:Nat)(js:List Nat)(hn:([i,k]++js).Nodup){j:Int}{bs1:List Nat}(hi:C[i]? = some (.ext (optX O p bs1 o)))(hk:C[k]? = some (.ext (arrX O (ps.set j.toNat none) bs (xs.set j.toNat none))))(hp:idx ps j=some p)(hx:idx xs j=some o) :
  ∃bs',SS M κ0 w0 κ w (.ext (arrX O ps bs' xs)::js.filterMap fun i=>C[i]?) R:=by
 obtain ⟨b',h⟩:=hS.arrPutI i k js hn hi hk hp
 rw [set_idx hx] at h
 exact ⟨b',h⟩
theorem SS.arrSetI (hS:SS M κ0 w0 κ w C R)(i k:Nat)(js:List Nat)(hn:([i,k]++js).Nodup)(j:Nat){bs1:List Nat}(hi:C[i]? = some (.ext (optX O p bs1 o)))(hk:C[k]? = some (.ext (arrX O ps bs xs))) :
  ∃bs',SS M κ0 w0 κ w (.ext (arrX O (ps.set j p) bs' (xs.set j o))::js.filterMap fun i=>C[i]?) R:=by
 have h:=hS.lead ([k,i]) js (by
  simp only [List.cons_append,List.nil_append,List.nodup_cons,List.mem_cons,not_or] at hn ⊢
  exact ⟨⟨fun e=>hn.1.1 e.symm,hn.2.1⟩,hn.1.2,hn.2.2⟩) (A:=[.ext (arrX O ps bs xs),.ext (optX O p bs1 o)]) (by simp [hi,hk])
 obtain ⟨b2,h⟩:=SS.arrDrop h j
 exact h.swap.arrPut
end
section
variable {K α:Type} [DecidableEq K] [KO K]
def mpX (O:OT α)(mb:Mp K (Option Nat))(bs:List Nat)(m:Mp K α)(hole:Option K):XF where
 bs:=bs
 p κ w:=match m,mb with
  | some l,some lb=>Srt l∧lb.map (·.1)=l.map (·.1) ∧ ∃f:K→List Nat,((l.filter fun e=>decide (some e.1≠hole)).flatMap fun e=>f e.1).Perm bs ∧ ∀k a,some k≠hole→lFind l k=some a → ∃b,lFind lb k=some (some b)∧(O.x b (f k) a).p κ w
  | none,none=>bs=[]
  | _,_=>False
 mono:=by
  intro M κ w κ' w' he hb h
  cases m with
  | none=>cases mb<;>exact h
  | some l=>
   cases mb with
   | none=>exact h
   | some lb=>
    obtain ⟨h1,h2,f,h3,h4⟩:=h
    refine ⟨h1,h2,f,h3,fun k a hk hl=>?_⟩
    obtain ⟨b,h5,h6⟩:=h4 k a hk hl
    refine ⟨b,h5,(O.x b (f k) a).mono he (fun b' hb'=>hb b' (h3.mem_iff.1 ?_)) h6⟩
    rw [O.bs] at hb'
    exact List.mem_flatMap.2 ⟨(k,a),List.mem_filter.2 ⟨lFind_some hl,by simpa using hk⟩,hb'⟩
section
variable {M:List Nat}{κ0 κ:Gh}{w0 w:World}{C C':List Ck}{R R':List MP}{O:OT α}{mb:Mp K (Option Nat)}{m m':Mp K α}{bs:List Nat}{k:K}{a:α}{b:Nat}{hole:Option K}
theorem SS.addMp (hS:SS M κ0 w0 κ w C R) (O:OT α):SS M κ0 w0 κ w (.ext (mpX O (some ([]:List (K×Option Nat))) [] (some []) none)::C) R:=by
 refine hS.recast (fun c hc=>?_) [] (by rw [List.append_nil]; exact List.Perm.refl _)
 rcases List.mem_cons.1 hc with rfl|hc
 ·exact ⟨List.Pairwise.nil,rfl,fun _=>[],List.Perm.refl _,fun k a _ h=>by simp [lFind] at h⟩
 ·exact hS.ok c hc
end
end
end Go.Cf
namespace Go.Cf
open Go
set_option linter.unusedVariables false
section
variable {ro:Option Nat}{P:Program}{ops:Array Oper}{Q:Exit→Act→World→Prop}{S:World→Prop}{tl:List Nat}
theorem early_notin {i:Nat} {listed:Array Bool} (h:i ∉ tl):early tl (listed.setIfInBounds i true)=early tl listed:=by
 unfold early
 rw [Bool.eq_iff_iff,List.all_eq_true,List.all_eq_true]
 have hne : ∀k∈tl,i≠k:=fun k hk e=>h (e▸hk)
 refine ⟨fun H k hk=>?_,fun H k hk=>?_⟩
 ·have:=H k hk; rwa [getD_set_ne false (hne k hk)] at this
 ·rw [getD_set_ne false (hne k hk)]; exact H k hk
theorem any_firstP {i:Nat}{oi:Oper}{v:Value}(hi:ops[i]? = some oi)(hsel:noSel ops=true)(itl:i ∉ tl)
  (hQ : ∀c a w,Q (.panic c) (a.put oi.dst v) w→Q (.panic c) a w) :
  ∀(fuel:Nat) (listed:Array Bool) (a:Act) (w:World),
   (∀j oj,ops[j]? = some oj→j≠i→listed.getD j true=false→(∀e∈oj.after,Region.binds md e=true→e.on≠i)→oi.apart ops oj=true) →
   i∈Region.ready md ops listed→YieldsIf' P ops (fun _=>True) oi v a→(early tl listed=true→S w) →
   AnyH ro P ops Q S tl fuel (listed.setIfInBounds i true) (a.put oi.dst v) w→AnyH ro P ops Q S tl (fuel+1) listed a w:=by
 have earlyIff : ∀ {listed:Array Bool},early tl (listed.setIfInBounds i true)=early tl listed:=early_notin itl
 intro fuel
 induction fuel with
 | zero=>
  intro listed a w _ hr hy hS H
  refine ⟨fun h=>(by rw [h] at hr; cases hr),fun j hj=>?_⟩
  by_cases hji:j=i
  ·subst hji; exact hy.op hi (noSel_spec hsel hi) trivial ⟨fun h=>hS (earlyIff▸h),H⟩
  ·have:=ready_mono hj hji
   rw [H.1] at this
   cases this
 | succ fuel ih=>
  intro listed a w hfree hr hy hS H
  refine ⟨fun h=>(by rw [h] at hr; cases hr),fun j hj=>?_⟩
  by_cases hji:j=i
  ·subst hji; exact hy.op hi (noSel_spec hsel hi) trivial ⟨fun h=>hS (earlyIff▸h),H⟩
  ·have h1:=H.2 j (ready_mono hj hji)
   obtain ⟨hjun,oj,hoj,hall⟩:=mem_ready.1 hj
   have hnot : ∀e∈oj.after,Region.binds md e=true→e.on≠i:=fun e he hb heq=>by
    have h1:=hall e he hb
    have h0:=(mem_ready.1 hr).1
    rw [heq] at h1
    rcases Nat.lt_or_ge i listed.size with h'|h'
    ·simp [h'] at h0 h1; rw [h0] at h1; cases h1
    ·simp [Array.getElem?_eq_none h'] at h1
   have h2:=opIn_putIf hoj (hfree j oj hoj hji hjun hnot) (noSel_spec hsel hi) (noSel_spec hsel hoj) hQ hy h1
   have hfree' : ∀k ok,ops[k]? = some ok→k≠i→(listed.setIfInBounds j true).getD k true=false →
     (∀e∈ok.after,Region.binds md e=true→e.on≠i)→oi.apart ops ok=true:=fun k ok hk hki hun hno=>by
    refine hfree k ok hk hki ?_ hno
    by_cases hjk:j=k
    ·subst hjk; exact hjun
    ·rw [getD_set_ne true hjk] at hun; exact hun
   have hcm:(listed.setIfInBounds j true).setIfInBounds i true=(listed.setIfInBounds i true).setIfInBounds j true:=Array.setIfInBounds_comm _ _ hji
   have hee:early tl ((listed.setIfInBounds i true).setIfInBounds j true)=early tl (listed.setIfInBounds j true):=by rw [← hcm,earlyIff]
   refine wpOpIn_mono (fun a' w' h3=>⟨fun he=>h3.2.1 (by rw [hee]; exact he),ih (listed.setIfInBounds j true) a' w' hfree' (ready_mono hr (Ne.symm hji)) h3.1 (fun he=>h3.2.1 (by rw [hee]; exact he)) (by rw [hcm]; exact h3.2.2)⟩) h2
def mayP (ops:Array Oper) (tl:List Nat) (listed:Array Bool) (i:Nat):Bool:=Region.free md ops listed i&&(Region.ready md ops listed).contains i && !tl.contains i
variable {N m:Nat}{D:List Deferred}{L L':FL}{a:Act}{w:World}{fuel:Nat}{listed:Array Bool}
theorem any_takeP (i:Nat)(d:Option Tmp){o:Oper}(hF:Fr N D L a)(hS:early tl listed=true→S w)(hi:ops[i]? = some o)(hsel:noSel ops=true)(hm:mayP ops tl listed i=true)(hQ : ∀c a w v,Q (.panic c) (a.put o.dst v) w→Q (.panic c) a w)
  (hd:okDst N o=true) (hg:goes ops L o=some true) (hc:covers L o=true) {v:Value} (hdd:o.dst=d) (hv : ∀w,(execOp (evD L) o).run P w = .ok (.value v) w)
  (k : ∀a',Fr N D (upd L d v) a'→AnyH ro P ops Q S tl fuel (listed.setIfInBounds i true) a' w):AnyH ro P ops Q S tl (fuel+1) listed a w:=by
 subst hdd
 simp only [mayP,Bool.and_eq_true,Bool.not_eq_true',List.contains_eq_mem,decide_eq_true_eq,decide_eq_false_iff_not] at hm
 obtain ⟨⟨hf,hr⟩,ht⟩:=hm
 have hn:=noSel_spec hsel hi
 refine any_firstP hi hsel ht (fun c a w=>hQ c a w v) fuel _ a w (Region.free_spec hi hf) hr (.inl ⟨goes_wanted hF hg,fun w _=>?_⟩) hS (k _ (hF.put _ _ (okDst_spec hd)))
 rw [exec_eq hF hc hn]
 exact hv w
theorem any_skipP (i:Nat){o:Oper}(hF:Fr N D L a)(hS:early tl listed=true→S w)(hi:ops[i]? = some o)(hsel:noSel ops=true)(hm:mayP ops tl listed i=true)(hQ : ∀c a w v,Q (.panic c) (a.put o.dst v) w→Q (.panic c) a w)
  (hd:okDst N o=true) (hg:goes ops L o=some false)
  (k : ∀a',Fr N D (upd L o.dst undef) a'→AnyH ro P ops Q S tl fuel (listed.setIfInBounds i true) a' w):AnyH ro P ops Q S tl (fuel+1) listed a w:=by
 simp only [mayP,Bool.and_eq_true,Bool.not_eq_true',List.contains_eq_mem,decide_eq_true_eq,decide_eq_false_iff_not] at hm
 obtain ⟨⟨hf,hr⟩,ht⟩:=hm
 exact any_firstP hi hsel ht (fun c a w=>hQ c a w undef) fuel _ a w (Region.free_spec hi hf) hr (.inr ⟨by rw [goes_wanted hF hg],rfl⟩) hS (k _ (hF.put _ _ (okDst_spec hd)))
def ptakesP (P:Program)(ops:Array Oper)(tl:List Nat)(N:Nat):List Nat→Array Bool→FL→Option (Array Bool×FL)
 | [],listed,L=>some (listed,L)
 | i::is,listed,L=>
  match ops[i]? with
  | none=>none
  | some o=>if mayP ops tl listed i&&okDst N o then
    match goes ops L o with
    | some true=>if covers L o then (match pval P L o with|some v=>ptakesP P ops tl N is (listed.setIfInBounds i true) (upd L o.dst v)|none=>none) else none
    | some false=>ptakesP P ops tl N is (listed.setIfInBounds i true) (upd L o.dst undef)
    | none=>none
   else none
theorem early_mayP {i:Nat} (hm:mayP ops tl listed i=true):early tl (listed.setIfInBounds i true)=early tl listed:=by
 simp only [mayP,Bool.and_eq_true,Bool.not_eq_true',List.contains_eq_mem,decide_eq_true_eq,decide_eq_false_iff_not] at hm
 exact early_notin hm.2
theorem any_ptakesP (hsel:noSel ops=true)(hQ : ∀c a w t v,Q (.panic c) (a.put t v) w→Q (.panic c) a w) : ∀(is:List Nat){listed listed':Array Bool}{L L':FL}{a:Act},(early tl listed=true→S w)→Fr N D L a→ptakesP P ops tl N is listed L=some (listed',L') →
  (∀a',Fr N D L' a'→AnyH ro P ops Q S tl fuel listed' a' w)→AnyH ro P ops Q S tl (fuel+is.length) listed a w:=by
 intro is
 induction is with
 | nil=>intro listed listed' L L' a _ hF hp k; simp only [ptakesP,Option.some.injEq,Prod.mk.injEq] at hp; obtain ⟨rfl,rfl⟩:=hp; exact k a hF
 | cons i is ih=>
  intro listed listed' L L' a hS hF hp k
  simp only [ptakesP] at hp
  cases hi:ops[i]? with
  | none=>rw [hi] at hp; cases hp
  | some o=>
   rw [hi] at hp
   simp only at hp
   split at hp
   ·rename_i hc
    simp only [Bool.and_eq_true] at hc
    have hfe:fuel+(i::is).length=(fuel+is.length)+1:=by simp [Nat.add_assoc]
    rw [hfe]
    have hS':early tl (listed.setIfInBounds i true)=true→S w:=fun h=>hS (early_mayP hc.1▸h)
    split at hp
    ·rename_i hg
     split at hp
     ·rename_i hcov
      split at hp
      ·rename_i v hv
       refine any_takeP i _ hF hS hi hsel hc.1 (fun c a w v=>hQ c a w _ v) hc.2 hg hcov (v:=v) rfl (fun w=>?_) fun a' hF'=>ih hS' hF' hp k
       unfold pval at hv
       split at hv
       ·rename_i u hu
        simp only [Option.some.injEq] at hv
        subst hv
        exact pureRun_run _ hu w
       ·cases hv
      ·cases hp
     ·cases hp
    ·rename_i hg
     exact any_skipP i hF hS hi hsel hc.1 (fun c a w v=>hQ c a w _ v) hc.2 hg fun a' hF'=>ih hS' hF' hp k
    ·cases hp
   ·cases hp
def takLP (P:Program) (ops:Array Oper) (tl:List Nat) (N:Nat) (is ks:List Nat) (listed:Array Bool) (L:FL):FL:=((ptakesP P ops tl N is listed L).map fun x=>keep x.2 ks).getD []
def takAP (P:Program) (ops:Array Oper) (tl:List Nat) (N:Nat) (is:List Nat) (listed:Array Bool) (L:FL):Array Bool:=((ptakesP P ops tl N is listed L).map fun x=>x.1).getD #[]
theorem anpP (is ks:List Nat)(hF:Fr N D L a)(hS:early tl listed=true→S w)(k : ∀a',Fr N D (takLP P ops tl N is ks listed L) a'→AnyH ro P ops Q S tl (m-is.length) (takAP P ops tl N is listed L) a' w)
  (hsel:noSel ops=true:=by kernel_rfl) (hQ : ∀c a w t v,Q (.panic c) (a.put t v) w→Q (.panic c) a w:=by intro c a w t v h; cases t<;>exact h)
  (hp:(ptakesP P ops tl N is listed L).isSome=true:=by kernel_rfl) (hm:Nat.ble is.length m=true:=by kernel_rfl):AnyH ro P ops Q S tl m listed a w:=by
 obtain ⟨f,rfl⟩ : ∃f,m=f+is.length:=⟨m-is.length,by have:=Nat.le_of_ble_eq_true hm; omega⟩
 cases h:ptakesP P ops tl N is listed L with
 | none=>rw [h] at hp; cases hp
 | some x=>
  obtain ⟨l1,L1⟩:=x
  rw [Nat.add_sub_cancel] at k
  unfold takLP takAP at k
  rw [h] at k
  exact any_ptakesP hsel hQ is hS hF h fun a' hF'=>k a' (hF'.keep ks)
end
section
variable {L:FL}{o:Oper}{M:List Nat}{κ0 κ:Gh}{w0 w:World}{C C':List Ck}{R R':List MP}
end
section
variable {M:List Nat}{κ0 κ:Gh}{w0 w:World}{C C':List Ck}{R R':List MP}
variable {α:Type}{O:OT α}{p:Option Nat}{o:Option α}{ps:List (Option Nat)}{xs:List (Option α)}{bs:List Nat}
theorem SS.arrIdx (hS:SS M κ0 w0 κ w C R) (i:Nat) (hC:C[i]? = some (.ext (arrX O ps bs xs))) {j:Int} (hx:idx xs j=some o) : ∃p,idx ps j=some p:=by
 obtain ⟨j0,j1,_⟩:=idx_some hx
 have hl:=arrX_len (hS.ck i hC:(arrX O ps bs xs).p κ w)
 exact ⟨ps[j.toNat]'(by omega),by unfold idx; rw [if_pos j0]; exact List.getElem?_eq_getElem _⟩
theorem SS.arrTakeP (hS:SS M κ0 w0 κ w C R)(i:Nat)(hC:C[i]? = some (.ext (arrX O ps bs xs))){j:Int}(hx:idx xs j=some o)(hp:idx ps j=some p) :
  ∃bs1 bs2,SS M κ0 w0 κ w (.ext (optX O p bs1 o) :: .ext (arrX O (ps.set j.toNat none) bs2 (xs.set j.toNat none))::C.eraseIdx i) R:=by
 obtain ⟨p',b1,b2,hp',h⟩:=hS.arrTakeI i hC hx
 rw [hp] at hp'
 cases hp'
 exact ⟨b1,b2,h⟩
end
section
variable {K α:Type} [DecidableEq K] [KO K]
variable {M:List Nat}{κ0 κ:Gh}{w0 w:World}{C C':List Ck}{R R':List MP}{O:OT α}{mb:Mp K (Option Nat)}{m m':Mp K α}{bs:List Nat}{k:K}{a:α}{b:Nat}{hole:Option K}{p:Option Nat}
end
section
variable {ro:Option Nat}{P:Program}{ops:Array Oper}{Q:Exit→Act→World→Prop}{N:Nat}{D:List Deferred}{L L':FL}{a:Act}{w:World}{o:Oper}{G:Act→World→Prop}
variable {M:List Nat}{κ0 κ:Gh}{w0:World}{C C':List Ck}{R R':List MP}
variable {K:Type}{kt:KT K}{es:Array MapEntry}{clk:Nat}{p:Option Nat}{mb:Mp K (Option Nat)} [DecidableEq K] [KO K]
end
section
variable {K:Type} [DecidableEq K]
end
end Go.Cf
namespace Go.Cf
open Go Go.MapKept
set_option linter.unusedVariables false
section
variable {ro:Option Nat}{P:Program}{ops:Array Oper}{Q:Exit→Act→World→Prop}{N:Nat}{D:List Deferred}{L L':FL}{a:Act}{w:World}{o:Oper}{G:Act→World→Prop}
variable {M:List Nat}{κ0 κ:Gh}{w0:World}{C C':List Ck}{R R':List MP}
variable {K V:Type}{kt:KT K}{agg:Bool}{t:Ty V}{es:Array MapEntry}{clk:Nat}{p:Option Nat}{m:Mp K V} [DecidableEq K] [KO K]
omit [DecidableEq K] [KO K] in
def mClr (m:Mp K V):Mp K V:=m.map fun _=>[]
theorem MapAt.clr {κ:Gh} {w:World} (h:MapAt kt agg t κ w p es clk m):MapAt kt agg t κ w p #[] clk (mClr m):=by
 cases m with
 | none=>exact ⟨h.1,rfl⟩
 | some l=>exact ⟨h.1,List.Pairwise.nil,[],⟨stamped_empty clk,rfl,fun i e x he=>by simp at he⟩,fun k=>rfl⟩
theorem wo_clear (hF:Fr N D L a) (hS:SS M κ0 w0 κ w C R) (hc:okOp N L o=true) (ci ri:Nat) {T KT E:Nat} {x:Operand} (hop:o.op = .call {callee := .builtin .clear,args := #[x],argTypes := #[T]}) (hx:ev L x=some (.map p))
  (hC:C[ci]? = some (.ext (objX p (.map es clk)))) (hR:R[ri]? = some (Map.mp kt agg t p es clk m)) (ht:pureRun P (underlying T)=some (.map KT E))
  (kk : ∀a' w',Fr N D (upd L o.dst (.tuple #[])) a'→SS M κ0 w0 κ w' (C.set ci (.ext (objX p (.map #[] clk)))) (Map.mp kt agg t p #[] clk (mClr m)::R)→G a' w'):wo ro P o a w G Q:=by
 have hm:MapAt kt agg t κ w p es clk m:=hS.get ri hR
 have hex:evD L x = .map p:=by simp [evD,hx]
 cases p with
 | none=>
  have hes:es = #[]:=by cases m with
   | none=>exact hm.2
   | some l=>exact absurd hm.1 (by simp)
  subst hes
  have hset:C.set ci (.ext (objX none (.map #[] clk)))=C:=by
   obtain ⟨hi,he⟩:=List.getElem?_eq_some_iff.1 hC
   rw [← he]; exact List.set_getElem_self hi
  refine wo_val hF hc (v := .tuple #[]) (w':=w) ?_ fun a' hF'=>kk a' w hF' (by rw [hset]; exact hS.add hm.clr)
  simp only [execOp,hop]
  simp [resolve,invoke,Go.builtin,hex,Builtin.clear_,run_underlying' ht]
 | some b=>
  have hb':=((hS.ck ci hC : ∀b',some b=some b'→_) b rfl).1
  refine wo_val hF hc (v := .tuple #[]) (w':={w with heap:=w.heap.setIfInBounds b (.map #[] clk)}) ?_ fun a' hF'=>kk a' _ hF' (hS.setMap ci hC rfl rfl hm.clr)
  simp only [execOp,hop]
  simp [resolve,invoke,Go.builtin,hex,Builtin.clear_,run_underlying' ht,MapKept.run_getObj_map hb',MapKept.run_setObj_map _ hb',Result.andThen]
end
section
variable {ro:Option Nat}{P:Program}{ops:Array Oper}{Q:Exit→Act→World→Prop}{N m:Nat}{D:List Deferred}{L:FL}{a:Act}{w:World}{listed:Array Bool}
variable {M:List Nat}{κ0 κ:Gh}{w0:World}{C:List Ck}{R:List MP}
abbrev Mk:=Value→List Ck→List MP→Prop
def Makes (ro:Option Nat) (P:Program) (Q:Exit→Act→World→Prop) (N:Nat) (D:List Deferred) (L:FL) (M:List Nat) (κ0:Gh) (w0:World) (R:List MP) (o:Oper) (Φ:Mk):Prop:=
 ∀(L1:FL) (R1:List MP) (C:List Ck) (κ:Gh) (a:Act) (w:World) (K:Act→World→Prop),Fr N D (L++L1) a→SS M κ0 w0 κ w C (R++R1) →
  (∀v A F κ' a' w',Φ v A F→Fr N D (upd (L++L1) o.dst v) a'→SS M κ0 w0 κ' w' (A++C) (F++(R++R1))→K a' w')→wo ro P o a w K Q
def setAll (listed:Array Bool):List Nat→Array Bool
 | []=>listed
 | i::is=>setAll (listed.setIfInBounds i true) is
def parOk (ops:Array Oper):Nat→List Nat→Array Bool→Bool
 | 0,is,_=>is.isEmpty
 | n+1,is,listed=>is.isEmpty||(Region.ready md ops listed==is&&is.all fun i=>parOk ops n (is.filter fun j=>j != i) (listed.setIfInBounds i true))
structure Sp where
 i:Nat
 d:Tmp
 Φ:Mk
structure Made where
 v:Value
 A:List Ck
 F:List MP
theorem setAll_perm {l1 l2:List Nat} (h:l1.Perm l2) : ∀listed,setAll listed l1=setAll listed l2:=by
 induction h with
 | nil=>intro listed; rfl
 | cons x _ ih=>intro listed; exact ih _
 | swap x y l=>
  intro listed
  show setAll ((listed.setIfInBounds y true).setIfInBounds x true) l=setAll ((listed.setIfInBounds x true).setIfInBounds y true) l
  by_cases e:x=y
  ·subst e; rfl
  ·rw [Array.setIfInBounds_comm _ _ (Ne.symm e)]
 | trans _ _ ih1 ih2=>intro listed; exact (ih1 listed).trans (ih2 listed)
theorem setAll_append (l1 l2:List Nat) : ∀listed,setAll listed (l1++l2)=setAll (setAll listed l1) l2:=by
 induction l1 with
 | nil=>intro listed; rfl
 | cons x l ih=>intro listed; exact ih _
theorem lookup_two (L L1:FL) (t:Nat):(L++L1).lookup t=match L.lookup t with|some v=>some v|none=>L1.lookup t:=by
 induction L with
 | nil=>rfl
 | cons x L ih=>
  obtain ⟨k,v⟩:=x
  simp only [List.cons_append,List.lookup_cons]
  cases t==k
  ·exact ih
  ·rfl
theorem lookup_map {f:Nat→Made} : ∀ {E:List Sp}{t:Nat}{v:Value},(E.map fun s=>(s.d,(f s.i).v)).lookup t=some v → ∃s∈E,s.d=t∧(f s.i).v=v
 | [],t,v,h=>by simp at h
 | s::E,t,v,h=>by
  simp only [List.map_cons,List.lookup_cons] at h
  by_cases e:t=s.d
  ·subst e
   simp at h
   exact ⟨s,by simp,rfl,h⟩
  ·have hb:(t==s.d)=false:=by simp [e]
   rw [hb] at h
   obtain ⟨s',h1,h2⟩:=lookup_map h
   exact ⟨s',by simp [h1],h2⟩
theorem sp_congr {β:Type}(g:Made→List β){f f':Nat→Made} : ∀ {E:List Sp},(∀x∈E,f' x.i=f x.i)→(E.flatMap fun x=>g (f' x.i))=E.flatMap fun x=>g (f x.i)
 | [],_=>rfl
 | y::E,h=>by
  simp only [List.flatMap_cons]
  rw [h y (by simp),sp_congr g fun x hx=>h x (by simp [hx])]
theorem sp_rem {s:Sp} : ∀ {rs:List Sp},(rs.map (·.i)).Nodup→s∈rs→(s::rs.filter fun x=>x.i != s.i).Perm rs
 | [],_,h=>by cases h
 | y::rs,hni,hs=>by
  simp only [List.map_cons,List.nodup_cons] at hni
  by_cases e:y.i=s.i
  ·have hys:s=y:=by
    rcases List.mem_cons.1 hs with h|h
    ·exact h
    ·exact absurd (List.mem_map.2 ⟨s,h,rfl⟩) (e▸hni.1)
   subst hys
   have:(rs.filter fun x=>x.i != s.i)=rs:=List.filter_eq_self.2 fun x hx=>by
    simp only [bne_iff_ne,ne_eq]
    exact fun q=>hni.1 (q▸List.mem_map.2 ⟨x,hx,rfl⟩)
   rw [List.filter_cons_of_neg (by simp),this]
  ·have hs':s∈rs:=by
    rcases List.mem_cons.1 hs with h|h
    ·exact absurd (congrArg Sp.i h).symm e
    ·exact h
   rw [List.filter_cons_of_pos (by simpa using e)]
   exact (List.Perm.swap _ _ _).trans ((sp_rem hni.2 hs').cons y)
theorem sp_lookup {f:Nat→Made}{x:Sp} : ∀ {E:List Sp},(E.map (·.d)).Nodup→x∈E→(E.map fun s=>(s.d,(f s.i).v)).lookup x.d=some (f x.i).v
 | [],_,h=>by cases h
 | y::E,hnE,hx=>by
  simp only [List.map_cons,List.nodup_cons] at hnE
  simp only [List.map_cons,List.lookup_cons]
  rcases List.mem_cons.1 hx with rfl|hx
  ·simp
  ·have hb:(x.d==y.d)=false:=by
    simp only [beq_eq_false_iff_ne,ne_eq]
    exact fun q=>hnE.1 (q▸List.mem_map.2 ⟨x,hx,rfl⟩)
   rw [hb]
   exact sp_lookup hnE.2 hx
theorem any_par (rs0:List Sp)(k:Nat)(hL:Fr N D L a)(hS:SS M κ0 w0 κ w C R)(hops : ∀s∈rs0,∃o,ops[s.i]? = some o∧o.guard=none∧o.dst=some s.d∧Makes ro P Q N D L M κ0 w0 R o s.Φ)
  (hd:(rs0.map (·.d)).Nodup) (hi:(rs0.map (·.i)).Nodup) (hLd : ∀s∈rs0,L.lookup s.d=none) (hpar:parOk ops rs0.length (rs0.map (·.i)) listed=true) (hm:m=k+rs0.length)
  (fin : ∀(f:Nat→Made) κ a w,(∀s∈rs0,s.Φ (f s.i).v (f s.i).A (f s.i).F)→Fr N D (L++rs0.map fun s=>(s.d,(f s.i).v)) a→SS M κ0 w0 κ w ((rs0.flatMap fun s=>(f s.i).A)++C) (R++rs0.flatMap fun s=>(f s.i).F) →
   AnyH ro P ops Q (fun _=>True) [] k (setAll listed (rs0.map (·.i))) a w):AnyH ro P ops Q (fun _=>True) [] m listed a w:=by
 have key : ∀(n:Nat) (E rs:List Sp) (f:Nat→Made) (κ:Gh) (a:Act) (w:World),rs.length=n→(E++rs).Perm rs0→parOk ops n (rs.map (·.i)) (setAll listed (E.map (·.i)))=true →
   (∀s∈E,s.Φ (f s.i).v (f s.i).A (f s.i).F)→Fr N D L a→(∀s∈E,a.tmps[s.d]? = some (f s.i).v)→SS M κ0 w0 κ w ((E.flatMap fun s=>(f s.i).A)++C) (R++E.flatMap fun s=>(f s.i).F) →
   AnyH ro P ops Q (fun _=>True) [] (k+n) (setAll listed (E.map (·.i))) a w:=by
  intro n
  induction n with
  | zero=>
   intro E rs f κ a w hn hp _ hΦ hF ht hS
   have:rs=[]:=List.eq_nil_of_length_eq_zero hn
   subst this
   rw [List.append_nil] at hp
   rw [setAll_perm (hp.map _) listed]
   refine fin f κ a w (fun s hs=>hΦ s (hp.mem_iff.2 hs)) ⟨hF.defers,hF.size,fun t v hv=>?_⟩ ?_
   ·rw [lookup_two] at hv
    cases hl:L.lookup t with
    | some u=>rw [hl] at hv; cases hv; exact hF.val t _ hl
    | none=>
     rw [hl] at hv
     obtain ⟨s,hs,rfl,rfl⟩:=lookup_map hv
     exact ht s (hp.mem_iff.2 hs)
   ·have hpA:(E.flatMap fun s=>(f s.i).A).Perm (rs0.flatMap fun s=>(f s.i).A):=hp.flatMap_right _
    have h1:SS M κ0 w0 κ w ((rs0.flatMap fun s=>(f s.i).A)++C) (R++E.flatMap fun s=>(f s.i).F):=by
     refine hS.recast (fun c hc=>hS.ok c ?_) [] ?_
     ·rcases List.mem_append.1 hc with hc|hc
      ·exact List.mem_append.2 (.inl (hpA.mem_iff.2 hc))
      ·exact List.mem_append.2 (.inr hc)
     ·rw [List.append_nil,blksOf_append,blksOf_append]
      exact List.Perm.append_right _ (hpA.symm.flatMap_right _)
    refine h1.facts fun m hm=>hS.ro m ?_
    rcases List.mem_append.1 hm with hm|hm
    ·exact List.mem_append.2 (.inl hm)
    ·exact List.mem_append.2 (.inr ((hp.flatMap_right _).mem_iff.2 hm))
  | succ n ih=>
   intro E rs f κ a w hn hp hpo hΦ hF ht hS
   have hne:(rs.map (·.i)).isEmpty=false:=by cases rs with
    | nil=>simp at hn
    | cons=>rfl
   simp only [parOk,hne,Bool.false_or,Bool.and_eq_true,beq_iff_eq,List.all_eq_true] at hpo
   obtain ⟨hr,hall⟩:=hpo
   refine ⟨fun h0=>(by rw [hr] at h0; rw [h0] at hne; cases hne),fun i hi'=>?_⟩
   rw [hr] at hi'
   obtain ⟨s,hs,rfl⟩:=List.mem_map.1 hi'
   have hs0:s∈rs0:=hp.mem_iff.1 (List.mem_append.2 (.inr hs))
   obtain ⟨o,ho,hg,hdst,hmk⟩:=hops s hs0
   have hnd:((E++rs).map (·.i)).Nodup:=(hp.map (·.i)).nodup_iff.2 hi
   have hndd:((E++rs).map (·.d)).Nodup:=(hp.map (·.d)).nodup_iff.2 hd
   rw [List.map_append,List.nodup_append] at hnd hndd
   unfold wpOpIn
   simp only [ho]
   rw [if_pos (by simp [Region.wanted,hg])]
   have hF1:Fr N D (L++E.map fun s=>(s.d,(f s.i).v)) a:=⟨hF.defers,hF.size,fun t v hv=>by
    rw [lookup_two] at hv
    cases hl:L.lookup t with
    | some u=>rw [hl] at hv; cases hv; exact hF.val t _ hl
    | none=>
     rw [hl] at hv
     obtain ⟨s,hs,rfl,rfl⟩:=lookup_map hv
     exact ht s hs⟩
   refine hmk _ _ _ κ a w _ hF1 hS fun v A F κ' a' w' hv hF' hS'=>⟨fun _=>trivial,?_⟩
   rw [hdst] at hF'
   have hval : ∀t u,t≠s.d→(L++E.map fun s=>(s.d,(f s.i).v)).lookup t=some u→a'.tmps[t]? = some u:=fun t u hne hu=>hF'.val t u (by
    simp only [upd,List.lookup_cons]
    have hb:(t==s.d)=false:=by simp [hne]
    rw [hb]
    simp only
    rw [lookup_filter_ne _ _ _ hne]; exact hu)
   have hsE : ∀x∈E,x.i≠s.i:=fun x hx e=>hnd.2.2 _ (List.mem_map.2 ⟨x,hx,rfl⟩) _ (List.mem_map.2 ⟨s,hs,rfl⟩) e
   have hdE : ∀x∈E,x.d≠s.d:=fun x hx e=>hndd.2.2 _ (List.mem_map.2 ⟨x,hx,rfl⟩) _ (List.mem_map.2 ⟨s,hs,rfl⟩) e
   let f':Nat→Made:=fun j=>if j=s.i then ⟨v,A,F⟩ else f j
   have hf : ∀x∈E,f' x.i=f x.i:=fun x hx=>if_neg (hsE x hx)
   have hfs:f' s.i=⟨v,A,F⟩:=if_pos rfl
   have hfl : ∀ {β:Type} (g:Made→List β),(E.flatMap fun x=>g (f' x.i))=E.flatMap fun x=>g (f x.i):=fun g=>sp_congr g hf
   have hrem:(s::rs.filter fun x=>x.i != s.i).Perm rs:=sp_rem hnd.2.1 hs
   have hset:(setAll listed (E.map (·.i))).setIfInBounds s.i true=setAll listed ((E++[s]).map (·.i)):=by
    rw [List.map_append,setAll_append]; rfl
   rw [hset]
   refine ih (E++[s]) (rs.filter fun x=>x.i != s.i) f' κ' a' w' ?_ ?_ ?_ ?_ ⟨hF'.defers,hF'.size,fun t u hu=>?_⟩ ?_ ?_
   ·have:=hrem.length_eq
    simp only [List.length_cons] at this; omega
   ·rw [List.append_assoc]
    exact (List.Perm.append_left _ hrem).trans hp
   ·have:=hall s.i hi'
    rw [hset] at this
    rw [List.filter_map] at this
    exact this
   ·intro x hx
    rcases List.mem_append.1 hx with hx|hx
    ·rw [hf x hx]; exact hΦ x hx
    ·obtain rfl:=List.mem_singleton.1 hx
     rw [hfs]; exact hv
   ·refine hval t u (fun e=>?_) (by rw [lookup_two,hu])
    rw [e,hLd s hs0] at hu; cases hu
   ·intro x hx
    rcases List.mem_append.1 hx with hx|hx
    ·rw [hf x hx]
     have h1:=ht x hx
     have h2:(L++E.map fun s=>(s.d,(f s.i).v)).lookup x.d=some (f x.i).v:=by
      rw [lookup_two,hLd x (hp.mem_iff.1 (List.mem_append.2 (.inl hx)))]
      simp only
      exact sp_lookup hndd.1 hx
     exact hval x.d _ (hdE x hx) h2
    ·obtain rfl:=List.mem_singleton.1 hx
     rw [hfs]
     exact hF'.val _ _ (by simp [upd])
   ·rw [List.flatMap_append,List.flatMap_append,hfl (fun x=>x.A),hfl (fun x=>x.F)]
    simp only [List.flatMap_cons,List.flatMap_nil,List.append_nil,hfs]
    have h1:SS M κ0 w0 κ' w' ((E.flatMap (fun x=>(f x.i).A)++A)++C) (F++(R++E.flatMap fun x=>(f x.i).F)):=by
     refine hS'.recast (fun c hc=>hS'.ok c ?_) [] ?_
     ·simp only [List.mem_append] at hc ⊢
      rcases hc with (hc|hc)|hc
      ·exact .inr (.inl hc)
      ·exact .inl hc
      ·exact .inr (.inr hc)
     ·rw [List.append_nil]
      simp only [blksOf_append,← List.append_assoc]
      exact List.Perm.append_right _ List.perm_append_comm
    refine h1.facts fun m hm=>h1.ro m ?_
    simp only [List.mem_append] at hm ⊢
    rcases hm with hm|hm|hm
    ·exact .inr (.inl hm)
    ·exact .inr (.inr hm)
    ·exact .inl hm
 subst hm
 exact key rs0.length [] rs0 (fun _=>⟨undef,[],[]⟩) κ a w rfl (List.Perm.refl _) hpar (fun _ h=>by cases h) hL (fun _ h=>by cases h) (by simpa using hS)
end
end Go.Cf
namespace Go.Cf
open Go Go.Proofs
set_option linter.unusedVariables false
section
variable {P:Program}{Q:Exit→Act→World→Prop}{N:Nat}{D:List Deferred}{L L':FL}{a:Act}{w:World}
variable {M:List Nat}{κ0 κ:Gh}{w0:World}{C C':List Ck}{R R':List MP}
theorem SS.sbK {M':List Nat} (h:SS M κ w κ w C R) (ri:List Nat) (hM:M'=blksOf C':=by kernel_rfl) (hC:C=C':=by kernel_rfl) (hR:selG R ri=R':=by kernel_rfl) (hm:M=blksOf C:=by kernel_rfl):SB M' κ w C' R':=by
 subst hC hM hm
 exact ⟨rfl,h.pick ri hR⟩
theorem SS.unregrK (h:SS M κ0 w0 κ w C R) (i:Nat) (g:List (Bool×Nat)) {b T:Nat} {s s' s1:Segs} (hg:segsOk s) (hC:C[i]? = some (.box b T s1)) (he:s1=Cf.regr g s':=by kernel_rfl) (hr:rawsOf g s'=rawsOf g s:=by kernel_rfl):SS M κ0 w0 κ w (C.set i (.box b T s')) R:=
 h.unregr i g hg hr (he▸hC)
end
end Go.Cf
namespace Go.Cf
open Go
set_option linter.unusedVariables false
abbrev _root_.Prod.u4 {α β γ δ ε:Type} (x:α×β×γ×δ×ε):ε:=x.2.2.2.2
abbrev _root_.Prod.u8 {α β γ δ ε ζ η θ ι:Type} (x:α×β×γ×δ×ε×ζ×η×θ×ι):ι:=x.2.2.2.2.2.2.2.2
theorem kr {p:Prop} (h:p:=by kernel_rfl):p:=h
theorem dc {p:Prop} (h:p:=by decide):p:=h
section
variable {F:Fence}{n:Nat}{P:Program}{ops:Array Oper}{Q:Exit→Act→World→Prop}{a:Act}{w:World}{x y:Code}{K:Act→World→Prop}
theorem qs (h : ∀K:Act→World→Prop,(∀a w,y.wpIn F n P Q a w→K a w)→x.wpIn F n P (Exit.then K Q) a w):(Code.seq x y).wpIn F n P Q a w:=wpIn_seq_k h
theorem qr {id:Nat} {l:List Oper} (h : ∀K:Act→World→Prop,(∀a w,y.wpIn F n P Q a w→K a w)→wpListIn F n P l.toArray (Exit.then K Q) l a w):(Code.seq (Code.region id l.toArray false) y).wpIn F n P Q a w:=
 wpIn_seq_k fun K hK=>wpIn_region_lit (h K hK)
theorem rl {id:Nat} {l:List Oper} (h:wpListIn F n P l.toArray Q l a w):(Code.region id l.toArray false).wpIn F n P Q a w:=wpIn_region_lit h
theorem nl (h:Q .normal a w):wpListIn F n P ops Q [] a w:=h
theorem sk (h:Q .normal a w):Code.skip.wpIn F n P Q a w:=wpIn_skip h
theorem rt (h:Q .ret a w):Code.ret.wpIn F n P Q a w:=wpIn_ret h
theorem bk {id:Nat} (h:x.wpIn F n P (Exit.inBlock id Q) a w):(Code.block id x).wpIn F n P Q a w:=wpIn_block h
theorem xt {id:Nat} (h:Q (.exit id) a w):(Code.exit id).wpIn F n P Q a w:=wpIn_exit h
end
section
variable {ro:Option Nat}{P:Program}{ops:Array Oper}{Q:Exit→Act→World→Prop}{N:Nat}{D:List Deferred}{L L':FL}{a:Act}{w w0:World}{M:List Nat}{κ0 κ:Gh}{C C':List Ck}{R R':List MP}
variable {S:World→Prop}{tl:List Nat}{m:Nat}{listed:Array Bool}
theorem ct {c:Operand} {x y:Code} (hF:Fr N D L a) {b:Bool} (hb:b=true) (h:x.wpIn (FW ro) 0 P Q a w) (hc:ev L c=some (.bool b):=by kernel_rfl):(Code.cond c x y).wpIn (FW ro) 0 P Q a w:=cond_t hF hc hb h
theorem cf {c:Operand} {x y:Code} (hF:Fr N D L a) {b:Bool} (hb:b=false) (h:y.wpIn (FW ro) 0 P Q a w) (hc:ev L c=some (.bool b):=by kernel_rfl):(Code.cond c x y).wpIn (FW ro) 0 P Q a w:=cond_f hF hc hb h
theorem bc {ρ:Type}{b:Bool}{A B:Option ρ}{r:ρ}{c:Operand}{x y:Code}(hF:Fr N D L a)(H:(bif b then A else B)=some r)(h1:b=true→A=some r→x.wpIn (FW ro) 0 P Q a w)(h2:b=false→B=some r→y.wpIn (FW ro) 0 P Q a w)
  (hc:ev L c=some (.bool b):=by kernel_rfl):(Code.cond c x y).wpIn (FW ro) 0 P Q a w:=bif_split H (fun hb H=>cond_t hF hc hb (h1 hb H)) fun hb H=>cond_f hF hc hb (h2 hb H)
theorem bs {ρ:Type} {b:Bool} {A B:Option ρ} {r:ρ} {G:Prop} (H:(bif b then A else B)=some r) (h1:b=true→A=some r→G) (h2:b=false→B=some r→G):G:=bif_split H h1 h2
theorem bd {ρ σ:Type} {m:Option σ} {f:σ→Option ρ} {r:ρ} {G:Prop} (H:m.bind f=some r) (h : ∀x,m=some x→f x=some r→G):G:=bind_split H h
theorem Fr.bv (hF:Fr N D L a) (t:Nat) {b b':Bool} (h:b=b') (hl:L.lookup t=some (.bool b):=by kernel_rfl):Fr N D (upd L (some t) (.bool b')) a:=hF.boolv t hl h
theorem en {f:FuncId}{fn:Func}{c:Code}{args:Array Value}{R:Ending→World→Prop}(hf:P.funcs[f]? = some fn)(hb:fn.body=some c)(hn:fn.ntmps=N)(h : ∀a,Fr N [] (argsL args) a→c.wpIn (FW none) 0 P (bodyPost P fn R) a w)
  (hs:Nat.ble args.size N=true:=by kernel_rfl):Calls P f args w R:=enter hf hb hn (Nat.le_of_ble_eq_true hs) rfl h
theorem enL (L:FL){f:FuncId}{fn:Func}{c:Code}{args:Array Value}{R:Ending→World→Prop}(hf:P.funcs[f]? = some fn)(hb:fn.body=some c)(hn:fn.ntmps=N)(h : ∀a,Fr N [] L a→c.wpIn (FW none) 0 P (bodyPost P fn R) a w)
  (hs:Nat.ble args.size N=true:=by kernel_rfl) (hL:argsL args=L:=by kernel_rfl):Calls P f args w R:=enter hf hb hn (Nat.le_of_ble_eq_true hs) hL h
theorem SS.px (h:SS M κ0 w0 κ w C R) (is:List Nat) (hn:is.Nodup:=by decide):SSx M κ0 w0 (pk C is) R w:=⟨κ,h.selp is hn (selG_eq _ _)⟩
theorem SS.fx (h:SS M κ0 w0 κ w C R):SSx M κ0 w0 (C.filter isBx) R w:=⟨κ,h.drop List.filter_sublist⟩
abbrev ra (a n:Nat):List Nat:=List.range' a n
abbrev sp (p:Option Nat):Nat×List Value:=(1,[.pointer (pa p)])
abbrev sm (p:Option Nat):Nat×List Value:=(1,[.map p])
abbrev mx (p:Option Nat) (m:Array MapEntry) (c:Nat):Ck := .ext (objX p (.map m c))
abbrev ox {α:Type} (O:OT α) (p:Option Nat) (bs:List Nat) (o:Option α):Ck := .ext (optX O p bs o)
end
end Go.Cf
namespace Go.Cf
open Go
theorem sgRep {n:Nat} {v:Value} {s:Segs} (h:v.oneCell'=true) (r:segGood s):segGood ((n,List.replicate n v)::s):=
 sgList List.length_replicate (fun u hu=>by rw [List.eq_of_mem_replicate hu]; exact h) r
def inR (i:Int) (n:Nat):Option Unit:=if 0≤i∧i<(n:Int) then some () else none
theorem inR_some {i:Int} {n:Nat} {u:Unit} (h:inR i n=some u):0≤i∧i<(n:Int):=by
 unfold inR at h
 split at h
 ·assumption
 ·cases h
section
variable {ro:Option Nat}{P:Program}{ops:Array Oper}{Q:Exit→Act→World→Prop}{N:Nat}{D:List Deferred}{L L':FL}{a:Act}{w:World}{o:Oper}{K:Act→World→Prop}
variable {M:List Nat}{κ0 κ:Gh}{w0:World}{C C':List Ck}{R:List MP}
theorem wo_storeRaw (hF:Fr N D L a)(hS:SS M κ0 w0 κ w C R)(hc:okOp N L o=true)(i k:Nat){b TB T off m q sz:Nat}{s s':Segs}{cs new:List Value}{v:Value}{x x':Operand}(hop:o.op = .store T x x')(hx:ev L x=some (.pointer (some ⟨b,off,none⟩)))(hy:ev L x'=some v)(hv:v.cells=new.toArray)
  (hC:C[i]? = some (.box b TB s)) (hk:s[k]? = some (m,cs)) (h1 : ∀u∈new,u.oneCell'=true) (hl:new.length=sz) (hq:q+sz≤m) (hoff:tot (s.take k)+q=off) (hsz:pureRun P (sizeOf T)=some sz)
  (hs':s.set k (m,splice cs q new)=s') (hC':C.set i (.box b TB s')=C')
  (kk : ∀a' w',Fr N D (upd L o.dst undef) a'→SS M κ0 w0 κ w' C' R→K a' w'):wo ro P o a w K Q:=by
 have hb:=hS.ck i hC
 obtain ⟨hkl,hke⟩:=List.getElem?_eq_some_iff.1 hk
 have hcs:cs.length=m:=hb.2.1 (m,cs) (List.mem_of_getElem? hk)
 have hse:s=s.take k++(m,cs)::s.drop (k+1):=by rw [← hke]; exact (take_get_drop s k hkl).symm
 have hsk:s'=s.take k++(m,splice cs q new)::s.drop (k+1):=by
  rw [← hs',List.set_eq_take_append_cons_drop,if_pos hkl]
 have hfl:(flat s).length=tot s:=flat_length hb.2.1
 have htot:tot s=tot (s.take k)+(m+tot (s.drop (k+1))):=by
  conv=>lhs; rw [hse]
  rw [tot_append]; simp [tot]
 have hst:=run_store_cells (P:=P) hb (vs:=new) (off:=off) (by omega) h1 hv hsz hl
 have h2:(flat (s.take k)).length=tot (s.take k):=flat_length fun y hy=>hb.2.1 y (List.mem_of_mem_take hy)
 have hfs:flat s=flat (s.take k)++(cs++flat (s.drop (k+1))):=by
  conv=>lhs; rw [hse]
  rw [flat_append]; rfl
 have heq:(flat s).take off++new++(flat s).drop (off+new.length)=flat s':=by
  rw [hsk,flat_append]
  show _=flat (s.take k)++(splice cs q new++flat (s.drop (k+1)))
  subst hoff
  rw [hfs]
  have e1:(flat (s.take k)++(cs++flat (s.drop (k+1)))).take (tot (s.take k)+q)=flat (s.take k)++cs.take q:=by
   rw [← h2,List.take_length_add_append,List.take_append_of_le_length (by omega)]
  have e2:(flat (s.take k)++(cs++flat (s.drop (k+1)))).drop (tot (s.take k)+q+new.length)=cs.drop (q+new.length)++flat (s.drop (k+1)):=by
   rw [← h2,Nat.add_assoc,List.drop_length_add_append,List.drop_append_of_le_length (by omega)]
  rw [e1,e2]
  simp [splice]
 rw [heq] at hst
 have hok:segsOk s':=by
  rw [hsk]
  refine segsOk_append.2 ⟨fun y hy=>hb.2.1 y (List.mem_of_mem_take hy),segsOk_cons.2 ⟨?_,fun y hy=>hb.2.1 y (List.mem_of_mem_drop hy)⟩⟩
  simp only [splice,List.length_append,List.length_take,List.length_drop]; omega
 have hset:C'=C.take i ++ .box b TB s'::C.drop (i+1):=by
  rw [← hC',List.set_eq_take_append_cons_drop,if_pos (List.getElem?_eq_some_iff.1 hC).1]
 have hCe:C=C.take i ++ .box b TB s::C.drop (i+1):=by
  obtain ⟨hi,he⟩:=List.getElem?_eq_some_iff.1 hC
  rw [← he]
  exact (take_get_drop C i hi).symm
 refine wo_skip hF hc (exec_store hop hx hy hst) fun a' hF'=>kk a' _ hF' ?_
 have hS':=hS.write (C.take i) (C.drop (i+1)) hCe hok rfl
 rw [hset]
 exact hS'
theorem SS.pubBox (hS:SS M κ0 w0 κ w C R) (i:Nat) {b T:Nat} {s:Segs} (hC:C[i]? = some (.box b T s)) : ∃κ',SS M κ0 w0 κ' w (C.set i (.tok none 0 1 0 0)) (MP.cells b 0 (flat s)::R):=by
 have hck:=hS.ck i hC
 obtain ⟨hCe,hCs⟩:=set_split (c':=Ck.tok none 0 1 0 0) hC
 have hbm:b∈blksOf C:=List.mem_flatMap.2 ⟨_,List.mem_of_getElem? hC,by simp [Ck.blks]⟩
 have hblt:b<w.heap.size:=hS.lt b hbm
 let κ':Gh:=fun x=>if x=b then some (flat s).length else κ x
 have hκb:κ' b=some (flat s).length:=if_pos rfl
 have hκ : ∀x,x≠b→κ' x=κ x:=fun x hx=>if_neg hx
 have hext:Ext (Ck.box b T s).blks κ w κ' w:=
  ⟨rfl,rfl,rfl,Nat.le_refl _,fun x _ hm=>⟨rfl,hκ x (by simpa [Ck.blks] using hm)⟩,fun x n hn=>⟨n,(hκ x fun e=>by rw [e,hck.2.2] at hn; cases hn).trans hn,Nat.le_refl _,fun _ _=>rfl⟩⟩
 have hfr:Fresh κ' w:=fun x hx=>(hκ x (by omega)).trans (hS.fresh x hx)
 refine ⟨κ',?_⟩
 rw [hCs]
 have hok:(Ck.tok none 0 1 0 0).ok κ' w := .inl ⟨rfl,rfl⟩
 refine (hS.turn _ _ hCe hext hfr hok (fun x hx=>by simp [Ck.blks] at hx) (fun x hx=>by simp [Ck.blks] at hx) (by simp [Ck.blks])).add ⟨_,hκb,by omega,fun j v hj=>?_⟩
 simpa [World.cell?,hck.1] using hj
theorem Ro.ofCells {α:Type} {t:FT α} {κ:Gh} {w:World} {b off n:Nat} {l:List α} {cs pre post:List Value} (h:(MP.cells b 0 cs).p κ w) (hcs:cs=pre++(encs t l++post)) (hp:pre.length=off) (hl:l.length=n) (hn:n≤maxLen):Ro t.ty κ w (some ⟨b,off,none⟩) n l:=by
 obtain ⟨m,h1,h2,h3⟩:=h
 subst hcs hp hl
 refine ⟨Nat.le_refl _,hn,.inr ⟨b,pre.length,m,rfl,h1,?_,fun i x hi=>⟨t.enc x,rfl,fun j v hj=>?_⟩⟩⟩
 ·simp only [List.length_append,encs_length] at h2
  show pre.length+l.length*t.size≤m
  omega
 ·have hjl:j<t.size:=by rw [← t.len x]; exact (List.getElem?_eq_some_iff.1 hj).1
  have hil:i<l.length:=(List.getElem?_eq_some_iff.1 hi).1
  have hmul:i*t.size+t.size≤l.length*t.size:=by
   have:(i+1)*t.size≤l.length*t.size:=Nat.mul_le_mul_right _ hil
   rw [Nat.add_mul,Nat.one_mul] at this
   exact this
  have:=h3 (pre.length+i*t.size+j) v ?_
  ·show w.cell? ⟨b,pre.length+i*t.size+j,none⟩=_
   simpa using this
  ·rw [Nat.add_assoc,List.getElem?_append_right (by omega),Nat.add_sub_cancel_left,List.getElem?_append_left (by rw [encs_length]; omega)]
   exact encs_at t l hi j v hj
theorem val_sliceArr {α:Type} {l:List α} {n:Nat} {p:Option Addr} (hl:l.length=n) (h:pureRun P (execOp (evD L) o)=some (.value (.slice p n n))) : ∀w,(execOp (evD L) o).run P w = .ok (.value (.slice p l.length n)) w:=fun w=>by
 rw [hl]; exact pureRun_run _ h w
end
end Go.Cf
namespace Go.Cf
open Go
section
variable {ro:Option Nat}{P:Program}{ops:Array Oper}{Q:Exit→Act→World→Prop}{N:Nat}{D:List Deferred}{L L':FL}{a:Act}{w:World}{o:Oper}{K:Act→World→Prop}
variable {M:List Nat}{κ0 κ:Gh}{w0:World}{C C':List Ck}{R R':List MP}
def sIx (s:ByteArray) (i:Int):Option Int:=if 0≤i then (s[i.toNat]?).map fun b=>(b.toNat:Int) else none
theorem val_sIx {T:TypeId} {x y:Operand} {s:ByteArray} {k:IntKind} {i r:Int} (hop:o.op = .index T x y) (hx:ev L x=some (.string s)) (hy:ev L y=some (.int k i)) (hu:pureRun P (underlying T)=some .string) (h:sIx s i=some r) : ∀w:World,(execOp (evD L) o).run P w = .ok (.value (.int .u8 r)) w:=fun w=>by
 unfold sIx at h
 split at h
 ·rename_i h0
  cases hb:s[i.toNat]? with
  | none=>rw [hb] at h; cases h
  | some b=>
   rw [hb] at h
   simp only [Option.map_some,Option.some.injEq] at h
   subst h
   simp [execOp,hop,evD,hx,hy,Instr.index,asIntOf,run_underlying' hu,h0,hb]
 ·cases h
def sCat (s t:ByteArray):Option ByteArray:=if s.size+t.size≤9223372036854775807 then some (s++t) else none
theorem val_cat {T T':TypeId} {x y:Operand} {s t r:ByteArray} (hop:o.op = .binOp .add T x y T') (hx:ev L x=some (.string s)) (hy:ev L y=some (.string t)) (h:sCat s t=some r) : ∀w:World,(execOp (evD L) o).run P w = .ok (.value (.string r)) w:=fun w=>by
 unfold sCat at h
 split at h
 ·rename_i h0
  simp only [Option.some.injEq] at h
  subst h
  have h1:(s.size:Int)+(t.size:Int)≤9223372036854775807:=by omega
  simp only [execOp,hop]
  simp only [evD,hx,hy,Option.getD_some]
  simp [eqGuard,binOp,Op.stringOp]
  exact h1
 ·cases h
def ErrIs (e:Value) (b:Bool):Prop:=if b=true then e = .nilIface else ∃t v,e = .iface t v
theorem eqIn_nil_nil {T:Nat} {ms:Array (String×TypeId)} (hu:P.underlying T=some (.interface ms)) (w:World) (d:Nat):(Op.equalIn (d+1) T .nilIface .nilIface).run P w = .ok true w:=by
 simp [Op.equalIn,run_underlying hu]
theorem eqIn_err_nil {T t:Nat} {v:Value} {ms:Array (String×TypeId)} (hu:P.underlying T=some (.interface ms)) (w:World) (d:Nat):(Op.equalIn (d+1) T (.iface t v) .nilIface).run P w = .ok false w:=by
 simp [Op.equalIn,run_underlying hu]
theorem eq_nil_nil {T:Nat} {ms:Array (String×TypeId)} (hu:P.underlying T=some (.interface ms)) (w:World):(Op.equal T .nilIface .nilIface).run P w = .ok true w:=eqIn_nil_nil hu w 9999
theorem eq_err_nil {T t:Nat} {v:Value} {ms:Array (String×TypeId)} (hu:P.underlying T=some (.interface ms)) (w:World):(Op.equal T (.iface t v) .nilIface).run P w = .ok false w:=eqIn_err_nil hu w 9999
theorem val_errNil {T T':TypeId} {x:Operand} {e:Value} {b:Bool} {ms:Array (String×TypeId)} (hop:o.op = .binOp .eql T x (.const .nilIface) T') (hx:ev L x=some e) (hu:P.underlying T=some (.interface ms)) (he:ErrIs e b) : ∀w:World,(execOp (evD L) o).run P w = .ok (.value (.bool b)) w:=fun w=>by
 have hy:evD L (.const .nilIface) = .nilIface:=rfl
 simp only [execOp,hop]
 have hxx:evD L x=e:=by simp [evD,hx]
 rw [hxx,hy]
 cases b with
 | true=>
  have:e = .nilIface:=by simpa [ErrIs] using he
  subst this
  simp [eqGuard,binOp,eq_nil_nil hu]
 | false=>
  obtain ⟨t,v,rfl⟩ : ∃t v,e = .iface t v:=by simpa [ErrIs] using he
  simp [eqGuard,binOp,eq_err_nil hu]
theorem pre_len {s1 s2:Segs} {n:Nat} (h:segsOk (s1++s2)) (hn:tot s1=n):(flat s1).length=n:=(flat_length (segsOk_append.1 h).1).trans hn
theorem SS.pubArr (hS:SS M κ0 w0 κ w C R)(i li:Nat){α:Type}{t:FT α}{l:List α}{b T n m:Nat}{s s1 s2:Segs}(hC:C[i]? = some (.box b T s))(hs:s=s1++(m,encs t l)::s2){off:Nat}(hoff:tot s1=off)(hl:R[li]? = some (MP.const (l.length=n)))(hn:n≤maxLen) :
  ∃κ',SS M κ0 w0 κ' w (C.set i (.tok none 0 1 0 0)) (Ro.mp t.ty (some ⟨b,off,none⟩) n l::MP.cells b 0 (flat s)::R):=by
 subst hs
 have hsg:=hS.segs i hC
 obtain ⟨κ',h⟩:=hS.pubBox i hC
 refine ⟨κ',h.add (m:=Ro.mp t.ty (some ⟨b,off,none⟩) n l) (Ro.ofCells (h.get 0 rfl) (pre:=flat s1) (post:=flat s2) ?_ (pre_len hsg hoff) (hS.get li hl) hn)⟩
 rw [flat_append]; rfl
theorem val_loadCA1 {α:Type}{t:FT α}(ri k:Nat){T b E K n:Nat}{s:Segs}{l:List α}{j:Int}{y:α}{x:Operand}{v:Value}(hop:o.op = .load T x)(hR:R[ri]? = some (MP.cells b K (flat s)))(hx:ev L x=some (.pointer (some ⟨b,E,none⟩)))(hs:segGood s)
  (hk:s[k]? = some (n,encs t l)) (hn:l.length=n) (hj:idx l j=some y) (h1:t.enc y=[v]) (ht:t.size=1) (hE:K+tot (s.take k)+j.toNat*1=E) (hg:pureRun P (isAgg T)=some false) : ∀w,SSx M κ0 w0 C R w→(execOp (evD L) o).run P w = .ok (.value v) w:=fun w ⟨κ,hS⟩=>by
 obtain ⟨n',h1',h2,h3⟩:=hS.get ri hR
 refine exec_load hop hx (run_load_scalar hg ?_)
 rw [← hE,Nat.add_assoc]
 refine h3 _ v ?_
 have hlt:=(idx_some hj).2.1
 have:=segs_at hs.1 hk (j.toNat*1) (by omega)
 rw [this]
 have h4:=encs_at t l (idx_some hj).2.2 0 v (by rw [h1]; rfl)
 rw [ht] at h4
 simpa using h4
end
end Go.Cf
namespace Go.Cf
open Go
section
variable {ro:Option Nat}{P:Program}{ops:Array Oper}{Q:Exit→Act→World→Prop}{N:Nat}{D:List Deferred}{L L':FL}{a:Act}{w:World}{o:Oper}{K:Act→World→Prop}
variable {M:List Nat}{κ0 κ:Gh}{w0:World}{C C':List Ck}{R R':List MP}
def sSl (s:ByteArray) (lo hi:Int):Option ByteArray:=if 0≤lo∧lo≤hi∧hi≤s.size then some (s.extract lo.toNat hi.toNat) else none
def bndIs (L:FL) (x:Option Operand) (z i:Int):Prop:=match x with|some y => ∃k,ev L y=some (.int k i)|none=>i=z
theorem bnd0 {z:Int}:bndIs L none z z:=rfl
theorem bnd1 {z i:Int} {k:IntKind} {y:Operand} (h:ev L y=some (.int k i)):bndIs L (some y) z i:=⟨k,h⟩
theorem val_sSl {T:TypeId}{x:Operand}{lo hi:Option Operand}{s r:ByteArray}{i j:Int}(hop:o.op = .slice T x lo hi none)(hx:ev L x=some (.string s))(hlo:bndIs L lo 0 i)(hhi:bndIs L hi s.size j)(hu:pureRun P (underlying T)=some .string)(h:sSl s i j=some r) :
  ∀w:World,(execOp (evD L) o).run P w = .ok (.value (.string r)) w:=fun w=>by
 unfold sSl at h
 split at h
 ·rename_i h0
  obtain ⟨h1,h2,h3⟩:=h0
  simp only [Option.some.injEq] at h
  subst h
  have hj:0≤j:=by omega
  have hij:i.toNat≤j.toNat:=by omega
  have hjn:i≤(j.toNat:Int):=by omega
  cases lo with
  | none=>
   obtain rfl:i=0:=hlo
   cases hi with
   | none=>
    obtain rfl:j=s.size:=hhi
    simp [execOp,hop,evD,hx,Instr.sliceAt,Instr.slice,Instr.sliceBounds,run_underlying' hu]
   | some y=>
    obtain ⟨k,hy⟩:=hhi
    simp [execOp,hop,evD,hx,hy,Instr.sliceAt,Instr.slice,Instr.sliceBounds,Instr.sliceBound,asIntOf,run_underlying' hu,hj,h3]
  | some y'=>
   obtain ⟨k',hy'⟩:=hlo
   cases hi with
   | none=>
    obtain rfl:j=s.size:=hhi
    simp [execOp,hop,evD,hx,hy',Instr.sliceAt,Instr.slice,Instr.sliceBounds,Instr.sliceBound,asIntOf,run_underlying' hu,h1,h2]
   | some y=>
    obtain ⟨k,hy⟩:=hhi
    simp [execOp,hop,evD,hx,hy,hy',Instr.sliceAt,Instr.slice,Instr.sliceBounds,Instr.sliceBound,asIntOf,run_underlying' hu,hj,h3,h1]
    omega
 ·cases h
theorem errNil:ErrIs .nilIface true:=by simp [ErrIs]
def SlfIs (b:Nat) (e:Value) (m:Bool):Prop:=e = .pointer (if m then some ⟨b,0,none⟩ else none)
def sInts (s:ByteArray):List Int:=s.data.toList.map fun b=>(b.toNat:Int)
theorem sInts_length (s:ByteArray):(sInts s).length=s.size:=by rw [sInts,List.length_map,Array.length_toList]; rfl
theorem wo_appendOS (hF:Fr N D L a)(hS:SS M κ0 w0 κ w C R)(hc:okOp N L o=true)(ci:Nat){T U n E c:Nat}{i:TypeInfo}{z:Value}{p:Option Addr}{s:ByteArray}{l l':List Int}{x y:Operand}
  (hop:o.op = .call {callee := .builtin .append,args := #[x,y],argTypes := #[T,U]}) (hx:ev L x=some (.slice p n c)) (hy:ev L y=some (.string s)) (hn:n=l.length) (hC:C[ci]? = some (.ext (ownX (fInt .u8) E p c l)))
  (ha:apd1 l (sInts s)=some l') (ht:P.underlying T=some (.slice E)) (hu:P.underlying U=some .string) (hi:P.info? E=some i) (hz:i.zero=some z) (hsize:(i.size==1&&z.cells.size==1&&decide (i.bytes≤4096))=true)
  (kk : ∀p' c' κ' a' w',Fr N D (upd L o.dst (.slice p' l'.length c')) a'→SS M κ0 w0 κ' w' (C.set ci (.ext (ownX (fInt .u8) E p' c' l'))) R→K a' w'):wo ro P o a w K Q:=by
 have hs:=hsize
 simp only [Bool.and_eq_true,beq_iff_eq,decide_eq_true_eq] at hs
 refine wo_appendOX (t:=fInt .u8) hF hS hc ci hop hx hy hn hC (news:=Lib.strCells s) (by rw [sInts_length]; exact appOf_str ht hu hi hz hs.1.1 s) (by rw [Lib.strCells_length,sInts_length]; exact (Nat.mul_one _).symm) (Lib.strCells_oneCell s) (fun j x hj q v hv=>?_) ha (by simp [fInt,hs.1.1,hs.1.2,hs.2]) kk
 cases q with
 | succ q=>simp [fInt] at hv
 | zero=>
  simp only [fInt,List.getElem?_cons_zero,Option.some.injEq] at hv
  subst hv
  simp only [sInts,List.getElem?_map,Option.map_eq_some_iff] at hj
  obtain ⟨b,hb,rfl⟩:=hj
  simp only [fInt,Nat.mul_one,Nat.add_zero,Lib.strCells,List.getElem?_map,hb,Option.map_some]
end
def MP.whole (b:Nat) (cs:List Value):MP:=⟨fun κ w => ∃n,κ b=some n∧cs.length<n ∧ ∀j,j≤cs.length→w.cell? ⟨b,j,none⟩=cs[j]?,fun {_ κ w κ' w'} e ⟨n,h1,h2,h3⟩=>by
 obtain ⟨n',k1,k2,k3⟩:=e.pub b n h1
 exact ⟨n',k1,by omega,fun j hj=>(k3 j (by omega)).trans (h3 j hj)⟩⟩
theorem whole_heap {κ:Gh} {w:World} {b:Nat} {cs:List Value} (h:(MP.whole b cs).p κ w) (h0:0<cs.length) : ∃T f,w.heap[b]? = some (.cells cs.toArray T f):=by
 obtain ⟨n,h1,h2,h3⟩:=h
 have hz:=h3 0 (by omega)
 rw [List.getElem?_eq_getElem h0] at hz
 unfold World.cell? at hz
 cases hb:w.heap[b]? with
 | none=>rw [hb] at hz; simp at hz
 | some o=>
  rw [hb] at hz
  cases o with
  | cells arr T f=>
   refine ⟨T,f,?_⟩
   have hall : ∀j,j≤cs.length→arr[j]? = cs[j]? := fun j hj=>by
    have:=h3 j hj
    simpa [World.cell?,hb] using this
   have hs:arr.size=cs.length:=by
    have e1:=hall cs.length (Nat.le_refl _)
    rw [List.getElem?_eq_none (Nat.le_refl _)] at e1
    have hle:arr.size≤cs.length:=by simpa using e1
    rcases Nat.lt_or_ge arr.size cs.length with hlt|hge
    ·have e2:=hall arr.size (by omega)
     rw [List.getElem?_eq_getElem hlt] at e2
     simp at e2
    ·omega
   have:arr=cs.toArray:=by
    apply Array.ext_getElem?
    intro i
    by_cases hi:i≤cs.length
    ·rw [hall i hi]; simp
    ·rw [Array.getElem?_eq_none (by omega),Array.getElem?_eq_none (by simp; omega)]
   rw [this]
  | _=>simp at hz
end Go.Cf
