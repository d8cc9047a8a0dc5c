/- Part 10: struct literals with parts that aren't known cell by cell; elements of arrays in boxes, in regions that draw their order. -/
import Derived.Laws.Tables
import Derived.RangeFuncIn
import Derived.RangeFuncRecord
import Derived.RangeFuncSeq
import Derived.RangeFuncLeaves
import Derived.Deep.Slices
import Derived.WideKeyArgs
import Derived.Carry
import Derived.MapKept
import Derived.Laws.Strings
import Derived.Maps.RangeRun
import Derived.Laws.MakeOwn
import Derived.Scope
import Derived.LoopNIn
import Derived.Test.YtcplebnnanjngaaGreatZK1
namespace Go.Cf
open Go
section
variable {P:Program}{w:World}{L:FL}{o:Oper}{M:List Nat}{κ0 κ:Gh}{w0:World}{C:List Ck}{R:List MP}
theorem rZ {α:Type}{t:FT α}(i k:Nat){b TB T off n:Nat}{s:lF}{l:List α}{j:Int}{y:α}{v:Value}{x:Operand}(hop:o.op = .load T x)(hx:ev L x=some (.pointer (some ⟨b,off,none⟩)))
  (hC:C[i]? = some (.box b TB s)) (hk:s[k]? = some (n,encs t l)) (hj:idx l j=some y) (h1:t.enc y=[v]) (ht:t.size=1) (hoff:tot (s.take k)+j.toNat*1=off) (hg:jK P (isAgg T)=some false) :
  ∀w,SSx M κ0 w0 C R w→(execOp (evD L) o).run P w = .ok (.value v) w:=by
 refine EB i k (j.toNat*1) hop hx hC hk ?_ hoff hg
 have:=DX t l (nR hj).2.2 0 v (by rw [h1]; rfl)
 rw [ht] at this
 simpa using this
theorem lU {T E sz n b off:Nat}{kd:IntKind}{i:Int}{x ix:Operand}(hop:o.op = .indexAddr T x ix)
  (hx:ev L x=some (.pointer (some ⟨b,off,none⟩))) (hix:ev L ix=some (.int kd i)) (hi:0≤i∧i<(n:Int)) (hu:jK P (underlying T)=some (.array n E)) (hs:jK P (sizeOf E)=some sz) :
  ∀w:World,(execOp (evD L) o).run P w = .ok (.value (.pointer (some ⟨b,off+i.toNat*sz,none⟩))) w:=λw=>by
 simp only [execOp,hop,evD,hx,hix,Option.getD_some]
 simp [Instr.indexAt,Instr.sureAddr,asIntOf,kB hu,jX _ hs w,hi.1,hi.2,pC]
def qQ:Nat→List Nat→List (Nat×Nat)
 | _,[]=>[]
 | off,n::ns=>(off,n)::qQ (off+n) ns
theorem vX : ∀(ns:List Nat)(off i:Nat)(n:Nat),ns[i]? = some n→(qQ off ns)[i]? = some (off+(ns.take i).sum,n)
 | m::ns,off,0,n,h=>by simp at h; subst h; simp [qQ]
 | m::ns,off,i+1,n,h=>by
  simp only [List.getElem?_cons_succ] at h
  simp only [qQ,List.getElem?_cons_succ,vX ns (off+m) i n h,List.take_succ_cons,List.sum_cons]
  rw [Nat.add_assoc]
theorem B0 (off:Nat) : ∀(vs:List Value)(k:Nat)(A B C:List Value),A.length=off+k→B.length=vs.length →
  (((vs.zipIdx k).foldl (λ(cs:Array Value) (x:Value×Nat)=>cs.setIfInBounds (off+x.2) x.1) (A++B++C).toArray))=(A++vs++C).toArray
 | [],k,A,B,C,hA,hB=>by
  have:B=[]:=List.eq_nil_of_length_eq_zero (by simpa using hB)
  subst this; simp
 | v::vs,k,A,B,C,hA,hB=>by
  cases B with
  | nil=>simp at hB
  | cons b B=>
   simp only [List.zipIdx_cons,List.foldl_cons]
   have h1:((A++b::B++C).toArray.setIfInBounds (off+k) v)=((A++[v])++B++C).toArray:=by
    rw [← hA]
    simp
   rw [h1,B0 off vs (k+1) (A++[v]) B C (by simp [hA]; omega) (by simpa using hB)]
   simp
theorem G9 : ∀(rows:List lF) (i:Nat) (r:lF),rows[i]? = some r → ∃A B,rows=A++r::B∧A.length=i ∧ ∀r',rows.set i r'=A++r'::B:=λrows i r h=>by
 have hi:=(List.getElem?_eq_some_iff.1 h).1
 have hr:=(List.getElem?_eq_some_iff.1 h).2
 refine ⟨rows.take i,rows.drop (i+1),?_,by simp; omega,λr'=>?_⟩
 ·rw [← hr]; simp
 ·rw [List.set_eq_take_append_cons_drop,if_pos hi]
theorem D8 : ∀(parts:List (Nat×Value))(vals:List (Nat×lF))(rows:List lF)(sizes:List Nat),parts.map (λp=>(p.1,p.2.cells.toList))=vals.map (λx=>(x.1,flat x.2)) →
  rows.map tot=sizes→(∀r∈rows,mB r)→(∀x∈vals,mB x.2)→(∀x∈vals,sizes[x.1]? = some (tot x.2)) →
  Instr.fill ((qQ 0 sizes).toArray[·]?) (flat rows.flatten).toArray parts=some (flat (vals.foldl (λr x=>r.set x.1 x.2) rows).flatten).toArray:=by
 intro parts
 induction parts with
 | nil=>intro vals rows sizes hv _ _ _ _; cases vals with
  | nil=>rfl
  | cons x vals=>simp at hv
 | cons p parts ih=>
  intro vals rows sizes hv hr hok hvok hs
  cases vals with
  | nil=>simp at hv
  | cons x vals=>
   obtain ⟨i,v⟩:=p
   obtain ⟨i',s⟩:=x
   simp only [List.map_cons,List.cons.injEq,Prod.mk.injEq] at hv
   obtain ⟨⟨rfl,hcells⟩,hv⟩:=hv
   have hsz:=hs (i,s) (by simp)
   simp only at hsz
   have hsok:=hvok (i,s) (by simp)
   have hvl:v.cells.size=tot s:=by rw [← Array.length_toList,hcells,m6 hsok]
   have hil:i<rows.length:=by
    have:=(List.getElem?_eq_some_iff.1 hsz).1
    rw [← hr] at this; simpa using this
   obtain ⟨r0,hr0⟩ : ∃r0,rows[i]? = some r0:=⟨_,List.getElem?_eq_getElem hil⟩
   obtain ⟨A,B,hAB,hAl,hset⟩:=G9 rows i r0 hr0
   have htot:tot r0=tot s:=by
    have:=hsz
    rw [← hr,List.getElem?_map,hr0] at this
    simpa using this
   have hokr:=hok r0 (List.mem_of_getElem? hr0)
   have hfl : ∀(X:List lF),flat X.flatten=(X.map flat).flatten:=λX=>by
    induction X with
    | nil=>rfl
    | cons y X ihX=>simp only [List.flatten_cons,oL,List.map_cons,ihX]
   have hAtot:(flat A.flatten).length=(sizes.take i).sum:=by
    rw [hfl,List.length_flatten,List.map_map,← hr]
    have h1:rows.take i=A:=by rw [hAB,← hAl,List.take_left]
    rw [← List.map_take,h1]
    congr 1
    refine List.map_congr_left λr hr'=>?_
    exact m6 (hok r (by rw [hAB]; simp [hr']))
   have hwhole:flat rows.flatten=flat A.flatten++flat r0++flat B.flatten:=by
    conv=>lhs; rw [hAB]
    simp [oL]
   have hplace:(qQ 0 sizes).toArray[i]? = some ((sizes.take i).sum,tot s):=by
    have:=vX sizes 0 i _ hsz
    simpa using this
   show (match (qQ 0 sizes).toArray[i]? with
    | none=>none
    | some (off,size)=>if v.cells.size≠size||off+v.cells.size > (flat rows.flatten).toArray.size then none
     else Instr.fill ((qQ 0 sizes).toArray[·]?) (v.cells.zipIdx.foldl (λcs (c,j)=>cs.setIfInBounds (off+j) c) (flat rows.flatten).toArray) parts)=_
   rw [hplace]
   simp only [hvl,ne_eq,not_true_eq_false,decide_false,Bool.false_or,decide_eq_true_eq,List.size_toArray]
   have hle : ¬((sizes.take i).sum+tot s > (flat rows.flatten).length):=by
    rw [hwhole]
    simp only [List.length_append,hAtot,m6 hokr,htot]
    omega
   rw [if_neg hle]
   have hfold:(v.cells.zipIdx.foldl (λcs (c,j)=>cs.setIfInBounds ((sizes.take i).sum+j) c) (flat rows.flatten).toArray)=(flat (rows.set i s).flatten).toArray:=by
    rw [← Array.foldl_toList,Array.toList_zipIdx,hcells,hwhole]
    have h:=B0 (sizes.take i).sum (flat s) 0 (flat A.flatten) (flat r0) (flat B.flatten) (by rw [hAtot]; omega) (by rw [m6 hokr,m6 hsok,htot])
    refine h.trans ?_
    rw [hset s]
    simp [oL]
   rw [hfold]
   refine ih vals (rows.set i s) sizes hv ?_ ?_ (λx hx=>hvok x (by simp [hx])) (λx hx=>hs x (by simp [hx]))
   ·rw [hset s,← hr]
    conv=>rhs; rw [hAB]
    simp [htot]
   ·intro r hr'
    rw [hset s] at hr'
    rcases List.mem_append.1 hr' with h|h
    ·exact hok r (by rw [hAB]; simp [h])
    ·rcases List.mem_cons.1 h with rfl|h
     ·exact hsok
     ·exact hok r (by rw [hAB]; simp [h])
theorem B1 {vals:List (Nat×lF)} (h:mK (vals.flatMap (·.2))) : ∀x∈vals,mB x.2:=λx hx y hy=>h.1 y (List.mem_flatMap.2 ⟨x,hx,hy⟩)
def GA (rows:List lF):Bool:=rows.all λr=>r.all λx=>x.2.length==x.1
theorem B2 {rows:List lF} (h:GA rows=true) : ∀r∈rows,mB r:=λr hr x hx=>by
 have:=List.all_eq_true.1 (List.all_eq_true.1 h r hr) x hx
 simpa using this
def DD (P:Program) (T:Nat):Option Value:=(P.info? T).bind (·.zero)
def ES (P:Program) (T:Nat):Option (List (Nat×Nat)):=match P.underlying T with
 | some (.struct fields)=>fields.toList.mapM λf=>(P.info? f.type).map λi=>(f.offset,i.size)
 | _=>none
theorem yD {T:Nat}{parts:Array (Nat×Operand)}{sizes:List Nat}{rows:List lF}{vals:List (Nat×lF)}{s':lF}(hop:o.op = .build T parts)
  (hz:DD P T=some (.agg (flat rows.flatten).toArray)) (hpl:ES P T=some (qQ 0 sizes)) (hrow:rows.map tot=sizes) (hok:GA rows=true)
  (hv:parts.toList.map (λp=>(p.1,(evD L p.2).cells.toList))=vals.map (λx=>(x.1,flat x.2))) (hg:mK (vals.flatMap (·.2))) (hs:(vals.all λx=>sizes[x.1]? == some (tot x.2))=true)
  (hr:(vals.foldl (λr x=>r.set x.1 x.2) rows).flatten=s') : ∀w,(execOp (evD L) o).run P w = .ok (.value (.agg (flat s').toArray)) w:=λw=>by
 subst hr
 have hb:P.built T ((parts.map λp=>(p.1,evD L p.2)).toList)=some (flat (vals.foldl (λr x=>r.set x.1 x.2) rows).flatten).toArray:=by
  have hf:=D8 (parts.map λp=>(p.1,evD L p.2)).toList vals rows sizes (by rw [← hv]; simp) hrow (B2 hok) (B1 hg) λx hx=>by
   have:=List.all_eq_true.1 hs x hx
   simpa using this
  unfold DD at hz
  unfold ES at hpl
  unfold Program.built
  cases hi:P.info? T with
  | none=>simp [hi] at hz
  | some it=>
   cases hu:P.underlying T with
   | none=>simp [hu] at hpl
   | some d=>
    cases d with
    | struct fields=>
     simp only [hi,Option.bind_some] at hz
     simp only [hu] at hpl
     simp only [hz,hpl]
     exact hf
    | _=>simp [hu] at hpl
 have:=run_build w T _ _ hb
 simp only [execOp,hop]
 simp [this]
end
end Go.Cf
namespace Go.Cf
open Go
theorem GK {w w':World} (h : ∀i,i<w.heap.size→w'.heap[i]? = w.heap[i]?) (ho:w'.os=w.os) (ht:w'.output=w.output) (may:MemPlace→Prop):w.keptBut w' may:=by
 refine ⟨ho,ht,λi hi=>?_⟩
 rw [h i hi]
 cases hx:w.heap[i]? with
 | none=>rfl
 | some o=>cases o<;>simp
theorem Ext.grown {κ κ':Gh} {w w':World} (h:Ext [] κ w κ' w'):w.keptBut w' (λ_=>False):=
 GK (λi hi=>(h.keep i hi (by simp)).1) h.os h.out _
end Go.Cf
namespace Go.Cf
open Go
section
variable {M:List Nat}{κ0 κ κ':Gh}{w0 w w':World}{C C':List Ck}{R R':List MP}
theorem SS.stepM (h:SS M κ0 w0 κ w C R){M':List Nat}(he:Ext M' κ w κ' w')(hf:lG κ' w')(hM : ∀b∈M',w0.heap.size≤b∨b∈M)(hd : ∀b∈jI C,b ∉ M'):SS M κ0 w0 κ' w' C R where
 ext:=h.ext.trans' he hM
 fresh:=hf
 ok:=λc hc=>Ck.ok_keep (h.ok c hc) (λb hb=>h.lt b (List.mem_flatMap.2 ⟨c,hc,hb⟩)) he λb hb=>hd b (List.mem_flatMap.2 ⟨c,hc,hb⟩)
 lt:=λb hb=>Nat.lt_of_lt_of_le (h.lt b hb) he.size
 nd:=h.nd
 own:=h.own
 ro:=λm hm=>m.mono he (h.ro m hm)
theorem SS.rebase (h:SS M κ0 w0 κ w C R):SS (jI C) κ w κ w C R:=⟨.refl _ _ _,h.fresh,h.ok,h.lt,h.nd,λ_ hb=>.inr hb,h.ro⟩
def BU (o:Obj):Prop := ∀c t fr,o ≠ .cells c t fr
theorem Ext.put {l:Nat}{o o':Obj}(h:w.heap[l]? = some o')(hk:κ l=none)(ho':BU o')(ho:BU o):Ext [l] κ w κ (w.putObj l o) where
 os:=rfl
 out:=rfl
 tape:=rfl
 size:=by simp
 keep:=λb _ hb=>⟨World.putObj_heap_other (by simpa using hb),rfl⟩
 pub:=λb n hn=>⟨n,hn,Nat.le_refl _,λi _=>lM (World.putObj_heap_other λe=>by rw [e,hk] at hn; cases hn)⟩
theorem Ext.allocN (hf:lG κ w)(o:Obj)(ho:BU o):Ext [] κ w κ (w.alloc o) where
 os:=rfl
 out:=rfl
 tape:=rfl
 size:=by rw [mA]; omega
 keep:=λb hb _=>⟨mD w o b hb,rfl⟩
 pub:=λb n hn=>⟨n,hn,Nat.le_refl _,λi _=>lM (mD w o b (by
  rcases Nat.lt_or_ge b w.heap.size with h|h
  ·exact h
  ·rw [hf b h] at hn; cases hn))⟩
def mkX (r l:Nat)(rc:Loop)(C:List Ck)(R:List MP):XF where
 bs:=r::l::jI C
 p:=λκ w=>(w.heap[r]? = some (.deferred (some []))∧κ r=none)∧(w.heap[l]? = some (.loop rc)∧κ l=none)∧(∀c∈C,c.ok κ w) ∧ ∀m∈R,m.p κ w
 mono:=λ{M κ w κ' w'} he hb ⟨⟨h1,h2⟩,⟨h3,h4⟩,h5,h6⟩=>by
  obtain ⟨r1,r2⟩:=hb r (by simp)
  obtain ⟨l1,l2⟩:=hb l (by simp)
  obtain ⟨k1,k2⟩:=he.keep r r1 r2
  obtain ⟨k3,k4⟩:=he.keep l l1 l2
  have hin : ∀c∈C,∀b∈c.blks,b<w.heap.size∧b ∉ M:=λc hc b hbc=>hb b (by
   simp only [List.mem_cons]; exact .inr (.inr (List.mem_flatMap.2 ⟨c,hc,hbc⟩)))
  exact ⟨⟨k1.trans h1,k2.trans h2⟩,⟨k3.trans h3,k4.trans h4⟩,λc hc=>Ck.ok_keep (h5 c hc) (λb hbc=>(hin c hc b hbc).1) he λb hbc=>(hin c hc b hbc).2,λm hm=>m.mono he (h6 m hm)⟩
def BB (r:Nat):XF where
 bs:=[r]
 p:=λκ w=>w.heap[r]? = some (.deferred (some []))∧κ r=none
 mono:=λ{M κ w κ' w'} he hb ⟨h1,h2⟩=>by
  obtain ⟨r1,r2⟩:=hb r (by simp)
  obtain ⟨k1,k2⟩:=he.keep r r1 r2
  exact ⟨k1.trans h1,k2.trans h2⟩
def yP {σ:Type} (P:Program) (l:Nat) (Y:σ→XF→Prop) (args:Array Value) (x:XF) (s':σ) (c:Bool) (κ:Gh) (w:World):Prop:=
 YieldAt (FW none) 0 P l args w λe w'=>e = .returned (.bool c) ∧ ∃κ' x',Y s' x'∧Ext x.bs κ w κ' w'∧lG κ' w'∧x'.p κ' w'∧x'.bs.Nodup ∧ ∀b∈x'.bs,(b∈x.bs∨w.heap.size≤b)∧b<w'.heap.size
end
section
variable {ro:Option Nat}{P:Program}{ops:Array Oper}{Q:Exit→Act→World→Prop}{N:Nat}{D:List Deferred}{L L':FL}{a:Act}{w:World}{o:Oper}{K:Act→World→Prop}
variable {M:List Nat}{κ0 κ:Gh}{w0:World}{C C':List Ck}{R R':List MP}
theorem GQ {g:Operand} {xs:Array Operand} {tys:Array TypeId} {l:Nat} {args:Array Value} (hop:o.op = .call {callee := .value g,args:=xs,argTypes:=tys}) (hg:ev L g=some (.func (.yield l) #[] #[])) (hx:xs.map (evD L)=args) :
  (execOp (evD L) o).run P w=(Instr.yield l args).run P w:=by
 subst hx
 simp [execOp,hop,resolve,invoke,evD,hg,go_sem]
theorem E6 {σ:Type}{Y:σ→XF→Prop}(hF:Fr N D L a)(hS:SS M κ0 w0 κ w C R)(hc:qM N L o=true)(i:Nat){x:XF}{g:Operand}{xs:Array Operand}{tys:Array TypeId}{l:Nat}{args:Array Value}{s':σ}{c:Bool}
  (hop:o.op = .call {callee := .value g,args:=xs,argTypes:=tys}) (hg:ev L g=some (.func (.yield l) #[] #[])) (hx:xs.map (evD L)=args) (hC:C[i]? = some (.ext x))
  (hY:x.p κ w→lG κ w→x.bs.Nodup→(∀b∈x.bs,b<w.heap.size)→yP P l Y args x s' c κ w)
  (kk : ∀x' κ' w' a',Y s' x'→Fr N D (upd L o.dst (.bool c)) a'→SS M κ0 w0 κ' w' (C.set i (.ext x')) R→K a' w'):wo ro P o a w K Q:=by
 obtain ⟨A,B,hAB,hAl⟩ : ∃A B,C=A ++ .ext x::B∧A.length=i:=by
  have hi:=(List.getElem?_eq_some_iff.1 hC).1
  refine ⟨C.take i,C.drop (i+1),?_,by simp; omega⟩
  have:=(List.getElem?_eq_some_iff.1 hC).2
  rw [← this]; simp
 have hok:x.p κ w:=hS.ck i hC
 have hnd:x.bs.Nodup:=by
  have:=hS.nd
  rw [hAB,kE] at this
  exact (List.nodup_append.1 (show (x.bs++jI B).Nodup from (List.nodup_append.1 this).2.1)).1
 have hlt : ∀b∈x.bs,b<w.heap.size:=λb hb=>hS.lt b (List.mem_flatMap.2 ⟨.ext x,List.mem_of_getElem? hC,hb⟩)
 obtain ⟨fn,tmps,assign,body,hy,hR⟩:=hY hok hS.fresh hnd hlt
 have hc0:=hc
 simp only [qM,Bool.and_eq_true] at hc
 refine ⟨λ_ _=>trivial,?_⟩
 show o.uponIn (FW ro) 0 P a K Q ((o.semAt ro a.eval).run P w)
 rw [semAt_eq hF hc.1.1 hc.1.2,GQ hop hg hx,hy]
 refine ⟨λhd=>by simp [FW] at hd,?_⟩
 have hR':RoundIn (FW ro) (0-1) P l fn tmps assign body w _:=hR
 refine RoundIn.mono hR' λe w' ⟨he,κ',x',hYx,hext,hfr,hp,hnd',hbs⟩=>?_
 subst he
 have hset:C.set i (.ext x')=A ++ .ext x'::B:=by
  subst hAl; rw [hAB]; simp
 refine kk x' κ' w' _ hYx (hF.put _ _ (qR hc.2)) ?_
 rw [hset]
 exact hS.turn A B hAB (c := .ext x) (c' := .ext x') hext hfr hp (λb hb=>(hbs b hb).1) (λb hb=>(hbs b hb).2) hnd'
def JE (P:Program)(fn:Func)(R:Ending→World→Prop):Exit→Act→World→Prop
 | .normal,a,w | .ret,a,w=>LeavesInM (FW none) 0 P fn a.tmps R a.defers .returning w
 | _,_,_=>False
theorem KC {f:FuncId}{fn:Func}{c:Code}{args:Array Value}{R:Ending→World→Prop}(hf:P.funcs[f]? = some fn)(hb:fn.body=some c)(hn:fn.ntmps=N)(hs:args.size≤N)(hL:HX args=L)
  (h : ∀a,Fr N [] L a→c.wpIn (FW none) 0 P (JE P fn R) a w):Calls P f args w R:=by
 refine (callsIn_wide (n:=0)).1 ?_
 have:CallsIn (FW none) 0 P f args w R:=by
  refine callsIn_of_wp_marks hf hb trivial ?_ rfl
  refine Go.wpIn_mono (h _ ⟨rfl,by simp [hn]; omega,λt v ht=>?_⟩) λe a w he=>by cases e<;>first|exact he|exact he.elim
  subst hL
  obtain ⟨_,h2⟩:=zU args.toList 0 t v ht
  simp only [Nat.sub_zero] at h2
  have h3:args[t]? = some v:=by simpa using h2
  have hlt:t<args.size:=by
   rcases Nat.lt_or_ge t args.size with h|h
   ·exact h
   ·rw [Array.getElem?_eq_none h] at h3; cases h3
  rw [Array.getElem?_append_left hlt]; exact h3
 exact this
def mark (r:Nat):Deferred:={target := .collected r,args := #[]}
theorem CX {fn:Func}{φ:Value→Gh→World→Prop}{r:Nat}(hF:Fr N [mark r] L a)(hS:SS M κ0 w0 κ w C R)(i:Nat)(hC:C[i]? = some (.ext (BB r)))(hi:C.eraseIdx i=C')
  (k : ∀w',SS M κ0 w0 κ w' C' R → ∃v,(results fn a.tmps).run P w' = .ok v w'∧φ v κ w'):JE P fn (kP M κ0 w0 φ) .ret a w:=by
 have hp:w.heap[r]? = some (.deferred (some []))∧κ r=none:=hS.ck i hC
 obtain ⟨A,B,hAB,hAl⟩ : ∃A B,C=A ++ .ext (BB r)::B∧A.length=i:=by
  have hi:=(List.getElem?_eq_some_iff.1 hC).1
  refine ⟨C.take i,C.drop (i+1),?_,by simp; omega⟩
  have:=(List.getElem?_eq_some_iff.1 hC).2
  rw [← this]; simp
 have hC':C'=A++B:=by rw [← hi,hAB,← hAl]; simp [List.eraseIdx_append_of_length_le]
 have hnd:(jI A++(r::jI B)).Nodup:=by
  have:=hS.nd
  rw [hAB,kE] at this
  exact this
 have hrM:w0.heap.size≤r∨r∈M:=hS.own r (by rw [hAB,kE]; exact List.mem_append.2 (.inr (List.mem_append.2 (.inl (by simp [Ck.blks,BB])))))
 have hS1:SS M κ0 w0 κ w C' R:=hS.drop (by rw [hC',hAB]; simp)
 have he:Ext [r] κ w κ (w.putObj r (.deferred none)):=Ext.put hp.1 hp.2 (λc t fr h=>by cases h) (λc t fr h=>by cases h)
 have hS2:SS M κ0 w0 κ (w.putObj r (.deferred none)) C' R:=hS1.stepM he (λb hb=>hS.fresh b (by simpa using hb)) (λb hb=>by simp only [List.mem_singleton] at hb; subst hb; exact hrM) λb hb hbr=>by
  simp only [List.mem_singleton] at hbr
  subst hbr
  rw [hC',kE] at hb
  have h2:=List.nodup_append.1 hnd
  rcases List.mem_append.1 hb with hb|hb
  ·exact h2.2.2 _ hb _ (by simp) rfl
  ·exact (List.nodup_cons.1 h2.2.1).1 hb
 obtain ⟨v,hv,hφ⟩:=k _ hS2
 show LeavesInM (FW none) 0 P fn a.tmps (kP M κ0 w0 φ) a.defers .returning w
 rw [hF.defers]
 exact ⟨by simp,.inl ⟨r,_,rfl,run_takeDeferred hp.1,⟨v,hv,v,κ,rfl,hS2.ext,hS2.fresh,hφ⟩⟩⟩
theorem SS.moreM {M':List Nat} (h:SS M κ0 w0 κ w C R) (hM : ∀b∈M,b∈M'):SS M' κ0 w0 κ w C R:=
 ⟨h.ext.weaken λb hb _=>hM b hb,h.fresh,h.ok,h.lt,h.nd,λb hb=>(h.own b hb).imp id (hM b),h.ro⟩
theorem AH {bs:List Nat} {C:List Ck} {r l:Nat} (hr:r≠l) (h1:(jI C).Nodup) (h2:r ∉ jI C) (h3:l ∉ jI C):(r::l::jI C).Nodup:=
 List.nodup_cons.2 ⟨by simp [hr,h2],List.nodup_cons.2 ⟨h3,h1⟩⟩
def RE {σ:Type} (Y:σ→XF→Prop) (s':σ) (c:Bool) (r l:Nat) (rc:Loop) (κb:Gh) (wb:World) (Cb:List Ck) (jump:Option Code) (w3:World):Prop:=
 ∃κ3 C3 R3,SS (jI Cb) κb wb κ3 w3 C3 R3∧c=jump.isNone∧Y s' (mkX r l {rc with state:=if jump.isNone then .ready else .done,pending:=jump} C3 R3)
def wP {σ:Type}(Y:σ→XF→Prop)(s':σ)(c:Bool)(r l:Nat)(rc:Loop)(κb:Gh)(wb:World)(Cb:List Ck):Exit→Act→World→Prop
 | .normal,_,w=>RE Y s' c r l rc κb wb Cb none w
 | .ret,_,w=>RE Y s' c r l rc κb wb Cb (some .ret) w
 | .exit id,_,w=>RE Y s' c r l rc κb wb Cb (some (.exit id)) w
 | .goto t,_,w=>RE Y s' c r l rc κb wb Cb (some (.goto t)) w
 | _,_,_=>False
theorem J9 {σ:Type}{Y:σ→XF→Prop}{r l:Nat}{rc:Loop}{args:Array Value}{s':σ}{c:Bool}(hp:(mkX r l rc C R).p κ w)(hf:lG κ w)(hnd:(mkX r l rc C R).bs.Nodup)(hlt : ∀b∈(mkX r l rc C R).bs,b<w.heap.size)
  (hst:rc.state = .ready) (hargs:args.size=rc.params.size) (hFr:Fr N [] L {tmps:=(rc.params.zip args).foldl (λtmps (t,a)=>tmps.setIfInBounds t a) rc.tmps,defers:=[]})
  (h : ∀a,Fr N [] L a→SS (jI C) κ w κ w C R→rc.assign.wpIn (FW (some l)) 0 P (Exit.then (λa1 w1=>∃κ1 C1 R1,SS (jI C) κ w κ1 w1 C1 R1 ∧ ∀w2,SS (jI C1) κ1 w2 κ1 w2 C1 R1 →
   rc.body.wpIn (FW (some l)) 0 P (wP Y s' c r l rc κ1 w2 C1) a1 w2) (λ_ _ _=>False)) a w):yP P l Y args (mkX r l rc C R) s' c κ w:=by
 obtain ⟨⟨hr1,hr2⟩,⟨hl1,hl2⟩,hok,hro⟩:=hp
 have hnd':(r::l::jI C).Nodup:=hnd
 obtain ⟨hn1,hn2⟩:=List.nodup_cons.1 hnd'
 obtain ⟨hn3,hn4⟩:=List.nodup_cons.1 hn2
 simp only [List.mem_cons,not_or] at hn1
 obtain ⟨hrl,hrC⟩:=hn1
 have hrlt:r<w.heap.size:=hlt r (by simp [mkX])
 have hllt:l<w.heap.size:=hlt l (by simp [mkX])
 have hS0:SS (jI C) κ w κ w C R:=⟨.refl _ _ _,hf,hok,λb hb=>hlt b (by simp [mkX,hb]),hn4,λ_ hb=>.inr hb,hro⟩
 refine ⟨rc.fn,_,rc.assign,rc.body,run_yield hl1 hargs,?_⟩
 refine roundIn_of_wpIn trivial ?_
 refine Go.wpIn_mono (h _ hFr hS0) λe a1 w1 he=>?_
 cases e with
 | normal=>
  obtain ⟨κ1,C1,R1,hS1,hbody⟩:=he
  obtain ⟨hl1',hl2'⟩:=hS1.ext.keep l hllt hn3
  have hl1w:=hl1'.trans hl1
  have hlk1:=hl2'.trans hl2
  have hnot : ∀q,q<w.heap.size→q ∉ jI C→q ∉ jI C1:=λq hq hqC hq1=>(hS1.own q hq1).elim (λh=>by omega) hqC
  have hlC1:=hnot l hllt hn3
  have hrC1:=hnot r hrlt hrC
  have hlt1:l<w1.heap.size:=Nat.lt_of_lt_of_le hllt hS1.ext.size
  have e2:Ext [l] κ1 w1 κ1 (w1.putObj l (.loop {rc with state := .busy})):=Ext.put hl1w hlk1 (λc t fr h=>by cases h) (λc t fr h=>by cases h)
  have hS2:SS (jI C1) κ1 (w1.putObj l (.loop {rc with state := .busy})) κ1 (w1.putObj l (.loop {rc with state := .busy})) C1 R1:=
   ((hS1.rebase.moreM (M':=l::jI C1) (λb hb=>List.mem_cons_of_mem _ hb)).stepM e2 (λb hb=>hS1.fresh b (by simpa using hb)) (λb hb=>.inr (by simp only [List.mem_singleton] at hb; subst hb; simp)) (λb hb hbl=>by
    simp only [List.mem_singleton] at hbl; subst hbl; exact hlC1 hb)).rebase
  refine ⟨_,run_beginRound hl1w hst,Go.wpIn_mono (hbody _ hS2) λe3 a3 w3 he3=>?_⟩
  have fin : ∀jump,RE Y s' c r l rc κ1 (w1.putObj l (.loop {rc with state := .busy})) C1 jump w3 → ∃v w',(Instr.endRound l jump).run P w3 = .ok v w'∧(Ending.returned v = .returned (.bool c) ∧
    ∃κ' x',Y s' x'∧Ext (mkX r l rc C R).bs κ w κ' w'∧lG κ' w'∧x'.p κ' w'∧x'.bs.Nodup ∧ ∀b∈x'.bs,(b∈(mkX r l rc C R).bs∨w.heap.size≤b)∧b<w'.heap.size):=by
   rintro jump ⟨κ3,C3,R3,hS3,hcj,hYs⟩
   have hsz2:(w1.putObj l (.loop {rc with state := .busy})).heap.size=w1.heap.size:=by simp
   have hl3:w3.heap[l]? = some (.loop {rc with state := .busy}):=((hS3.ext.keep l (by rw [hsz2]; exact hlt1) hlC1).1).trans (World.putObj_heap_same hlt1)
   have hlk3:κ3 l=none:=((hS3.ext.keep l (by rw [hsz2]; exact hlt1) hlC1).2).trans hlk1
   have hrlt1:r<w1.heap.size:=Nat.lt_of_lt_of_le hrlt hS1.ext.size
   have hr3:w3.heap[r]? = some (.deferred (some [])):=((hS3.ext.keep r (by rw [hsz2]; exact hrlt1) hrC1).1).trans ((World.putObj_heap_other hrl).trans ((hS1.ext.keep r hrlt hrC).1.trans hr1))
   have hrk3:κ3 r=none:=((hS3.ext.keep r (by rw [hsz2]; exact hrlt1) hrC1).2).trans ((hS1.ext.keep r hrlt hrC).2.trans hr2)
   have hsz3:w1.heap.size≤w3.heap.size:=by rw [← hsz2]; exact hS3.ext.size
   have hlt3:l<w3.heap.size:=by omega
   have e4:Ext [l] κ3 w3 κ3 (w3.putObj l (.loop {rc with state:=if jump.isNone then .ready else .done,pending:=jump})):=Ext.put hl3 hlk3 (λc t fr h=>by cases h) (λc t fr h=>by cases h)
   have hnot3 : ∀q,q<w.heap.size→q ∉ jI C→q ∉ jI C3:=λq hq hqC hq3=>(hS3.own q hq3).elim (λh=>by rw [hsz2] at h; have:=hS1.ext.size; omega) (hnot q hq hqC)
   have hlC3:=hnot3 l hllt hn3
   have hrC3:=hnot3 r hrlt hrC
   have hS4:SS (l::jI C3) κ3 w3 κ3 (w3.putObj l (.loop {rc with state:=if jump.isNone then .ready else .done,pending:=jump})) C3 R3:=
    (hS3.rebase.moreM (M':=l::jI C3) (λb hb=>List.mem_cons_of_mem _ hb)).stepM e4 (λb hb=>hS3.fresh b (by simpa using hb)) (λb hb=>.inr (by simp only [List.mem_singleton] at hb; subst hb; simp)) (λb hb hbl=>by
     simp only [List.mem_singleton] at hbl; subst hbl; exact hlC3 hb)
   have h12:Ext (r::l::jI C) κ w κ1 (w1.putObj l (.loop {rc with state := .busy})):=(hS1.ext.weaken λb hb _=>by simp [hb]).trans' e2 λb hb=>.inr (by simp only [List.mem_singleton] at hb; simp [hb])
   have h13:Ext (r::l::jI C) κ w κ3 w3:=h12.trans' hS3.ext λb hb=>(hS1.own b hb).imp id λh=>by simp [h]
   have h14:=h13.trans' e4 λb hb=>.inr (by simp only [List.mem_singleton] at hb; simp [hb])
   refine ⟨.bool jump.isNone,_,run_endRound jump hl3,by rw [hcj],κ3,_,hYs,h14,hS4.fresh,⟨⟨(World.putObj_heap_other hrl).trans hr3,hrk3⟩,⟨World.putObj_heap_same hlt3,hlk3⟩,hS4.ok,hS4.ro⟩,AH (bs:=[]) hrl hS3.nd hrC3 hlC3,λb hb=>?_⟩
   simp only [mkX,List.mem_cons] at hb ⊢
   rcases hb with rfl|rfl|hb
   ·exact ⟨.inl (.inl rfl),by simp; omega⟩
   ·exact ⟨.inl (.inr (.inl rfl)),by simp; omega⟩
   ·refine ⟨?_,hS4.lt b hb⟩
    rcases hS3.own b hb with h|h
    ·exact .inr (by rw [hsz2] at h; exact Nat.le_trans hS1.ext.size h)
    ·exact (hS1.own b h).elim .inr λh=>.inl (.inr (.inr h))
  cases e3 with
  | normal=>exact fin none he3
  | ret=>exact fin _ he3
  | exit id=>exact fin _ he3
  | goto t=>exact fin _ he3
  | panic _=>exact he3.elim
  | outgrown=>exact he3.elim
 | _=>exact he.elim
theorem SS.pack {r l:Nat} {rc:Loop} {Cap:List Ck} (h:SS M κ0 w0 κ w (.ext (mkX r l rc [] [])::(C++Cap)) R) (hR : ∀m∈R',m.p κ w):SS M κ0 w0 κ w (.ext (mkX r l rc C R')::Cap) R:=by
 have hb:jI (.ext (mkX r l rc C R')::Cap)=jI (.ext (mkX r l rc [] [])::(C++Cap)):=by simp [jI,Ck.blks,mkX]
 refine ⟨h.ext,h.fresh,λc hc=>?_,λb hb'=>h.lt b (hb▸hb'),hb▸h.nd,λb hb'=>h.own b (hb▸hb'),h.ro⟩
 rcases List.mem_cons.1 hc with rfl|hc
 ·obtain ⟨h1,h2,_,_⟩:=(h.ok (.ext (mkX r l rc [] [])) (by simp):(mkX r l rc [] []).p κ w)
  exact ⟨h1,h2,λc hc=>h.ok c (by simp [hc]),hR⟩
 ·exact h.ok c (by simp [hc])
theorem SS.back {w1:World}{κ':Gh}{w':World}{x:XF}(h:SS M κ0 w0 κ w1 C R)(h2:SS (jI C) κ w1 κ' w' [.ext x] []):SS M κ0 w0 κ' w' [.ext x] R where
 ext:=h.ext.trans' h2.ext λb hb=>h.own b hb
 fresh:=h2.fresh
 ok:=h2.ok
 lt:=h2.lt
 nd:=h2.nd
 own:=λb hb=>(h2.own b hb).elim (λh3=>.inl (Nat.le_trans h.ext.size h3)) (h.own b)
 ro:=λm hm=>m.mono h2.ext (h.ro m hm)
theorem SS.shut {r l:Nat}{rc:Loop}(h:SS M κ0 w0 κ w [.ext (mkX r l rc C R')] R)(hb:rc.state ≠ .busy) :
  ∃w',(Instr.endLoop l).run P w = .ok rc.pending w'∧SS M κ0 w0 κ w' (.ext (BB r)::C) (R'++R):=by
 obtain ⟨⟨hr1,hr2⟩,⟨hl1,hl2⟩,hok,hro⟩:=(h.ok (.ext (mkX r l rc C R')) (by simp):(mkX r l rc C R').p κ w)
 have hbl:jI [.ext (mkX r l rc C R')]=r::l::jI C:=by simp [jI,Ck.blks,mkX]
 have hnd:=h.nd
 rw [hbl] at hnd
 obtain ⟨hn1,hn2⟩:=List.nodup_cons.1 hnd
 obtain ⟨hn3,hn4⟩:=List.nodup_cons.1 hn2
 simp only [List.mem_cons,not_or] at hn1
 have hlo:=h.own l (by rw [hbl]; simp)
 have hin : ∀b,b∈r::jI C→b∈jI [.ext (mkX r l rc C R')]:=λb hb=>by
  rw [hbl]; rcases List.mem_cons.1 hb with rfl|hb<;>simp [*]
 have h1:SS M κ0 w0 κ w (.ext (BB r)::C) (R'++R):=
  ⟨h.ext,h.fresh,λc hc=>by
   rcases List.mem_cons.1 hc with rfl|hc
   ·exact ⟨hr1,hr2⟩
   ·exact hok c hc,λb hb=>h.lt b (hin b hb),List.nodup_cons.2 ⟨hn1.2,hn4⟩,λb hb=>h.own b (hin b hb),λm hm=>(List.mem_append.1 hm).elim (hro m) (h.ro m)⟩
 have e:Ext [l] κ w κ (w.putObj l (.loop {rc with state := .exhausted})):=Ext.put hl1 hl2 (λc t fr h=>by cases h) (λc t fr h=>by cases h)
 refine ⟨_,run_endLoop hl1 hb,h1.stepM e (λb hb=>h.fresh b (by simpa using hb)) (λb hb=>by simp only [List.mem_singleton] at hb; subst hb; exact hlo) λb hb hbl'=>?_⟩
 simp only [List.mem_singleton] at hbl'
 subst hbl'
 rcases List.mem_cons.1 (show b∈r::jI C from hb) with rfl|hb
 ·exact hn1.1 rfl
 ·exact hn3 hb
theorem IS {Cap:List Ck}{g:Operand}{ps:Array Tmp}{assign body:Code}{f:FuncId}{caps:Array Value}(hF:Fr N [] L a)(hS:SS M κ0 w0 κ w (C++Cap) R)(hcov:ev L g=some (.func (.func f) #[] caps))(hf : ∀args w,(callFunc f args).run P w = .ok (.enter f args) w)(hR : ∀m∈R',m.p κ w)
  (h : ∀r l fn w1,SS M κ0 w0 κ w1 (.ext (mkX r l {state := .ready,pending:=none,fn:=fn,tmps:=a.tmps,params:=ps,assign:=assign,body:=body,defers:=r} C R')::Cap) R →
   ∃Yf:XF→Prop,Calls P f (#[.func (.yield l) #[] #[]]++caps) w1 (kP (jI (.ext (mkX r l {state := .ready,pending:=none,fn:=fn,tmps:=a.tmps,params:=ps,assign:=assign,body:=body,defers:=r} C R')::Cap)) κ w1 λ_ κ' w'=>
     ∃x,Yf x∧SS (jI (.ext (mkX r l {state := .ready,pending:=none,fn:=fn,tmps:=a.tmps,params:=ps,assign:=assign,body:=body,defers:=r} C R')::Cap)) κ w1 κ' w' [.ext x] []) ∧
    ∀x,Yf x → ∃rc' C'' R'',x=mkX r l rc' C'' R''∧rc'.state ≠ .busy ∧ ∀κ' w' a',Fr N [mark r] L a'→SS M κ0 w0 κ' w' (.ext (BB r)::C'') (R''++R) →
     (match rc'.pending with|none=>Q .normal a' w'|some c=>c.wpIn (FW none) 0 P Q a' w')) :
  (Code.rangeFunc g ps assign body).wpIn (FW none) 0 P Q a w:=by
 refine wpIn_rangeFunc λfn _=>?_
 let rc:Loop:={state := .ready,pending:=none,fn:=fn,tmps:=a.tmps,params:=ps,assign:=assign,body:=body,defers:=w.heap.size}
 have hS1:=(hS.step (Ext.allocN hS.fresh (.deferred (some [])) (λc t fr h=>by cases h)) (hS.fresh.alloc _))
 have hS2:=(hS1.step (Ext.allocN hS1.fresh (.loop rc) (λc t fr h=>by cases h)) (hS1.fresh.alloc _))
 have hsz1:(w.alloc (.deferred (some []))).heap.size=w.heap.size+1:=mA _ _
 have hr:((w.alloc (.deferred (some []))).alloc (.loop rc)).heap[w.heap.size]? = some (.deferred (some [])):=(mD _ _ _ (by rw [hsz1]; omega)).trans (nD _ _)
 have hl:((w.alloc (.deferred (some []))).alloc (.loop rc)).heap[w.heap.size+1]? = some (.loop rc):=by rw [← hsz1]; exact nD _ _
 have hS3:SS M κ0 w0 κ ((w.alloc (.deferred (some []))).alloc (.loop rc)) (.ext (mkX w.heap.size (w.heap.size+1) rc [] [])::(C++Cap)) R:=by
  refine ⟨hS2.ext,hS2.fresh,λc hc=>?_,λb hb=>?_,?_,λb hb=>?_,hS2.ro⟩
  ·rcases List.mem_cons.1 hc with rfl|hc
   ·exact ⟨⟨hr,hS.fresh _ (Nat.le_refl _)⟩,⟨hl,hS.fresh _ (by omega)⟩,(λ_ h=>by cases h),(λ_ h=>by cases h)⟩
   ·exact hS2.ok c hc
  ·rcases List.mem_cons.1 (show b∈w.heap.size::(w.heap.size+1)::jI (C++Cap) from hb) with rfl|hb
   ·simp only [mA]; omega
   ·rcases List.mem_cons.1 hb with rfl|hb
    ·simp only [mA]; omega
    ·exact hS2.lt b hb
  ·show (w.heap.size::(w.heap.size+1)::jI (C++Cap)).Nodup
   exact AH (bs:=[]) (by omega) hS.nd (λh=>by have:=hS.lt _ h; omega) (λh=>by have:=hS.lt _ h; omega)
  ·rcases List.mem_cons.1 (show b∈w.heap.size::(w.heap.size+1)::jI (C++Cap) from hb) with rfl|hb
   ·exact .inl hS.ext.size
   ·rcases List.mem_cons.1 hb with rfl|hb
    ·exact .inl (Nat.le_succ_of_le hS.ext.size)
    ·exact hS2.own b hb
 have hmono:Ext [] κ w κ ((w.alloc (.deferred (some []))).alloc (.loop rc)):=(Ext.allocN hS.fresh (.deferred (some [])) (λc t fr h=>by cases h)).trans (Ext.allocN hS1.fresh (.loop rc) (λc t fr h=>by cases h))
 have hS4:=hS3.pack (R':=R') λm hm=>m.mono hmono (hR m hm)
 obtain ⟨Yf,hcall,hend⟩:=h _ _ fn _ hS4
 have hgv:a.eval g = .func (.func f) #[] caps:=hF.ev hcov
 let W1:=(w.alloc (.deferred (some []))).alloc (.loop rc)
 refine ⟨w.heap.size+1,[mark w.heap.size],W1,{target := .fn (.func f) caps,args := #[.func (.yield (w.heap.size+1)) #[] #[]]},W1,f,#[.func (.yield (w.heap.size+1)) #[] #[]]++caps,W1,run_enterLoop_outer _ _ _ _ _,?_,λ_ _=>trivial,?_,λhd=>by simp [FW] at hd,?_⟩
 ·have hgen : ∀ρ:Operand→Value,ρ g = .func (.func f) #[] caps→(∀v,ρ (.const v)=v)→(resolve ρ (rangeCall g (w.heap.size+1)) 0).run P W1 = .ok {target := .fn (.func f) caps,args := #[.func (.yield (w.heap.size+1)) #[] #[]]} W1:=fun ρ h hk=>by
   simp [resolve,Deferred.ofValue,h,hk]
  exact hgen _ hgv λ_=>rfl
 ·simp [invoke,hf,go_sem]
 ·have hci:CallsIn (FW none) (0-1) P f (#[.func (.yield (w.heap.size+1)) #[] #[]]++caps) _ _:=(callsIn_wide (n:=0)).2 hcall
  refine CallsIn.mono hci λe w' ⟨v,κ',he,_,_,x,hYx,hx⟩=>?_
  subst he
  obtain ⟨rc',C'',R'',rfl,hb,hk⟩:=hend x hYx
  obtain ⟨w'',hrun,hS5⟩:=(hS4.back hx).shut (P:=P) hb
  refine ⟨_,w'',hrun,hk κ' w'' _ ?_ hS5⟩
  exact ⟨by simp [hF.defers],hF.size,hF.val⟩
end
end Go.Cf
namespace Go.Cf
open Go
section
variable {P:Program}{Q:Exit→Act→World→Prop}{N:Nat}{D:List Deferred}{L L':FL}{a:Act}{w:World}
variable {M:List Nat}{κ0 κ:Gh}{w0:World}{C C':List Ck}{R R':List MP}
def BJ:Nat→LoopState
 | 0=>.ready
 | _+1=>.done
def DQ (js:List Code):Nat→Option Code
 | 0=>none
 | n+1=>js[n]?
theorem BY (n:Nat):BJ n ≠ .busy:=by cases n<;>simp [BJ]
def lp (rc:Loop) (js:List Code) (n:Nat):Loop:={rc with state:=BJ n,pending:=DQ js n}
def C6 (P:Program) (Q:Exit→Act→World→Prop) (js:List Code) (n:Nat) (a:Act) (w:World):Prop:=
 match DQ js n with
 | none=>Q .normal a w
 | some c=>c.wpIn (FW none) 0 P Q a w
theorem HL {js:List Code} {n:Nat} (h:(n==0)=true) (k:Q .normal a w):C6 P Q js n a w:=by
 have:n=0:=by simpa using h
 subst this
 exact k
theorem LF {js:List Code} {n:Nat} (i:Nat) {c:Code} (h:(n==i+1)=true) (hj:js[i]? = some c) (k:c.wpIn (FW none) 0 P Q a w):C6 P Q js n a w:=by
 have:n=i+1:=by simpa using h
 subst this
 unfold C6
 simp only [DQ,hj]
 exact k
def ups (L:FL) (l:List (Tmp×Value)):FL:=l.foldl (λL x=>upd L (some x.1) x.2) L
theorem Fr.fold : ∀(l:List (Tmp×Value)) {L:FL} {t:Array Value},Fr N D L {tmps:=t,defers:=D}→(l.all λx=>x.1<N)=true→Fr N D (ups L l) {tmps:=l.foldl (λtmps (x:Tmp×Value)=>tmps.setIfInBounds x.1 x.2) t,defers:=D}:=by
 intro l
 induction l with
 | nil=>intro L t h _; exact h
 | cons x l ih=>
  intro L t h hl
  simp only [List.all_cons,Bool.and_eq_true,decide_eq_true_eq] at hl
  have h1:Fr N D (upd L (some x.1) x.2) {tmps:=t.setIfInBounds x.1 x.2,defers:=D}:=h.put (some x.1) x.2 (λt ht=>by cases ht; exact hl.1)
  exact ih h1 hl.2
theorem Fr.round {ps:Array Tmp}{args:Array Value}(h:Fr N [] L a)(hl:((ps.zip args).toList.all λx=>x.1<N)=true)(ks:List Nat)(hL:Cf.keep (ups L (ps.zip args).toList) ks=L') :
  Fr N [] L' {tmps:=(ps.zip args).foldl (λtmps (t,a)=>tmps.setIfInBounds t a) a.tmps,defers:=[]}:=by
 have h0:Fr N [] L {tmps:=a.tmps,defers:=[]}:=⟨rfl,h.size,h.val⟩
 have:=(h0.fold (ps.zip args).toList hl).keep' ks hL
 rw [← Array.foldl_toList]
 exact this
theorem EM {σ:Type}{Y:σ→XF→Prop}{r l:Nat}{rc:Loop}{js:List Code}{n:Nat}{args:Array Value}{s':σ}{c:Bool}{ps:Array Tmp}{assign body:Code}{a0:Act}(hp:(mkX r l (lp rc js n) C R).p κ w)(hf:lG κ w)(hnd:(mkX r l (lp rc js n) C R).bs.Nodup)(hlt : ∀b∈(mkX r l (lp rc js n) C R).bs,b<w.heap.size)
  (hn:(n==0)=true) (hrc:rc.params=ps∧rc.assign=assign∧rc.body=body∧rc.tmps=a0.tmps) (hargs:args.size=ps.size) (ks:List Nat) {L0:FL} (hF0:Fr N [] L0 a0) (hl:((ps.zip args).toList.all λx=>x.1<N)=true) (hL:Cf.keep (ups L0 (ps.zip args).toList) ks=L)
  (h : ∀a,Fr N [] L a→SS (jI C) κ w κ w C R→assign.wpIn (FW (some l)) 0 P (Exit.then (λa1 w1=>∃κ1 C1 R1,SS (jI C) κ w κ1 w1 C1 R1 ∧ ∀w2,SS (jI C1) κ1 w2 κ1 w2 C1 R1 →
   body.wpIn (FW (some l)) 0 P (wP Y s' c r l rc κ1 w2 C1) a1 w2) (λ_ _ _=>False)) a w):yP P l Y args (mkX r l (lp rc js n) C R) s' c κ w:=by
 obtain ⟨rfl,rfl,rfl,ht⟩:=hrc
 have hn0:n=0:=by simpa using hn
 subst hn0
 refine J9 hp hf hnd hlt rfl hargs (L:=L) (N:=N) ?_ h
 have:=hF0.round hl ks hL
 show Fr N [] L {tmps:=(rc.params.zip args).foldl (λtmps (t,a)=>tmps.setIfInBounds t a) rc.tmps,defers:=[]}
 rw [ht]
 exact this
theorem HB {σ:Type}{Y:σ→XF→Prop}{s':σ}{c:Bool}{r l:Nat}{rc:Loop}{κb:Gh}{wb:World}{Cb:List Ck}{js:List Code}{w3:World}(n:Nat)(hS:SS (jI Cb) κb wb κ w3 C R)(jump:Option Code)(hj:DQ js n=jump)(hst:BJ n=if jump.isNone then .ready else .done)(hc:c=jump.isNone)
  (hY:Y s' (mkX r l (lp rc js n) C R)):RE Y s' c r l rc κb wb Cb jump w3:=by
 subst hj
 refine ⟨κ,C,R,hS,hc,?_⟩
 rw [← hst]
 exact hY
theorem CY {σ:Type} {Y:σ→XF→Prop} {s':σ} {r l:Nat} {rc:Loop} {κb:Gh} {wb:World} {Cb:List Ck} (js:List Code) (hS:SS (jI Cb) κb wb κ w C R) (hY:Y s' (mkX r l (lp rc js 0) C R)):wP Y s' true r l rc κb wb Cb .normal a w:=
 HB 0 hS none rfl rfl rfl hY
theorem MF {σ:Type} {Y:σ→XF→Prop} {s':σ} {r l:Nat} {rc:Loop} {κb:Gh} {wb:World} {Cb:List Ck} (js:List Code) (n:Nat) (hj:js[n]? = some .ret) (hS:SS (jI Cb) κb wb κ w C R) (hY:Y s' (mkX r l (lp rc js (n+1)) C R)):wP Y s' false r l rc κb wb Cb .ret a w:=
 HB (n+1) hS (some .ret) hj rfl rfl hY
theorem HY {Cap:List Ck}(js:List Code)(args:Nat→Array Value){g:Operand}{ps:Array Tmp}{assign body:Code}{f:FuncId}{caps:Array Value}(hF:Fr N [] L a)(hS:SS M κ0 w0 κ w (C++Cap) R)(hcov:ev L g=some (.func (.func f) #[] caps))(hf : ∀args w,(callFunc f args).run P w = .ok (.enter f args) w)(hR : ∀m∈R',m.p κ w)(hargs : ∀l,#[.func (.yield l) #[] #[]]++caps=args l)
  (h : ∀r l rc w1,(rc.params=ps∧rc.assign=assign∧rc.body=body∧rc.tmps=a.tmps)→SS M κ0 w0 κ w1 (.ext (mkX r l (lp rc js 0) C R')::Cap) R →
   ∃Yf:XF→Prop,Calls P f (args l) w1 (kP (jI (.ext (mkX r l (lp rc js 0) C R')::Cap)) κ w1 λ_ κ' w'=>∃x,Yf x∧SS (jI (.ext (mkX r l (lp rc js 0) C R')::Cap)) κ w1 κ' w' [.ext x] []) ∧
    ∀x,Yf x → ∃n C'' R'',x=mkX r l (lp rc js n) C'' R'' ∧ ∀κ' w' a',Fr N [mark r] L a'→SS M κ0 w0 κ' w' (.ext (BB r)::C'') (R''++R)→C6 P Q js n a' w') :
  (Code.rangeFunc g ps assign body).wpIn (FW none) 0 P Q a w:=by
 refine IS hF hS hcov hf hR λr l fn w1 hS1=>?_
 obtain ⟨Yf,h1,h2⟩:=h r l {state := .ready,pending:=none,fn:=fn,tmps:=a.tmps,params:=ps,assign:=assign,body:=body,defers:=r} w1 ⟨rfl,rfl,rfl,rfl⟩ hS1
 refine ⟨Yf,by rw [hargs]; exact h1,λx hx=>?_⟩
 obtain ⟨n,C'',R'',hxe,hk⟩:=h2 x hx
 exact ⟨_,C'',R'',hxe,BY n,hk⟩
theorem u6 {T':Nat} {o:Oper} {f:FuncId} {xs:Array Operand} {caps:Array Value} (hop:o.op = .makeFunc (.func f) #[] xs) (hx:xs.map (evD L)=caps) : ∀w,(execOp (evD L) o).run P w = .ok (.value (.func (.func f) #[] caps)) w:=λw=>by
 subst hx
 simp [execOp,hop,Instr.makeFunc]
end
end Go.Cf
namespace Go.Cf
open Go
def gh (K:Nat) (W:World):Gh:=λb=>if b<W.heap.size then some K else none
theorem JY (K:Nat) (W:World):lG (gh K W) W:=λb hb=>by simp [gh]; omega
def RdT {α:Type} (P:Program) (t:Ty α) (ok:α→Prop) (E:TypeId):Prop := ∀(H:Type) (enc:TypeId×Value→H) (W:World) (n:Nat) (cs:List Value) (d:DataW H×List MemPlace),DataW.trod enc P W 0 (λ_=>true) true n E cs=some d → ∃x K0,ok x ∧ ∀K,K0≤K→t.rep (gh K W) W cs x
def inI (k:IntKind) (x:Int):Prop:=k.min≤x∧x≤k.max
def okB (_:Bool):Prop:=True
def okS (s:ByteArray):Prop:=s.size≤maxLen
theorem sH {P:Program} {E:TypeId} {k:IntKind} (h:P.underlying E=some (.int k)):RdT P (fInt k).ty (inI k) E:=λH enc W n cs d hd=>by
 cases n with
 | zero=>simp [DataW.trod] at hd
 | succ n=>
  unfold DataW.trod at hd
  rw [h] at hd
  split at hd<;>simp_all [fInt,FT.ty,inI,Lit.wf]
  exact ⟨_,hd.1.2,0,λ_ _=>rfl⟩
theorem AG {P:Program} {E:TypeId} (h:P.underlying E=some .string):RdT P lC.ty okS E:=λH enc W n cs d hd=>by
 cases n with
 | zero=>simp [DataW.trod] at hd
 | succ n=>
  unfold DataW.trod at hd
  rw [h] at hd
  split at hd<;>simp_all [lC,FT.ty,okS]
  exact ⟨_,hd.1,0,λ_ _=>rfl⟩
theorem HC {P:Program} {E:TypeId} (h:P.underlying E=some .bool):RdT P jM.ty okB E:=λH enc W n cs d hd=>by
 cases n with
 | zero=>simp [DataW.trod] at hd
 | succ n=>
  unfold DataW.trod at hd
  rw [h] at hd
  cases cs with
  | nil=>simp at hd
  | cons v cs=>
   cases cs with
   | cons u cs=>simp at hd
   | nil=>
    cases v<;>simp at hd
    exact ⟨_,0,trivial,λ_ _=>rfl⟩
theorem zS {P:Program}{α:Type}{t:Ty α}{ok:α→Prop}{T E:TypeId}{H:Type}{enc:TypeId×Value→H}{W:World}{n:Nat}{cs:List Value}{d:DataW H×List MemPlace}(ht:P.underlying T=some (.slice E))(hE:RdT P t ok E)(hsz:P.cellsOf E=t.size)(hpos:0<t.size)
  (h:DataW.trod enc P W 0 (λ_=>true) true n T cs=some d) : ∃p c l K0,cs=[.slice p (List.length l) c]∧(∀x∈l,ok x) ∧ ∀K,K0≤K→Ro t (gh K W) W p c (l:List α):=by
 rcases Deep.open_slice ht h with ⟨h0,_⟩ | ⟨a,len,cap,m,k,D,Pl,h0,hb,hl,hm,hmm,_,hx⟩
 ·exact ⟨none,0,[],0,h0,by simp,λK _=>Ro.nil _ _ _⟩
 ·subst h0
  have hmc:m=cap:=by simpa using hmm
  subst hmc
  rcases Nat.eq_zero_or_pos m with h0|h0
  ·subst h0
   have:len=0:=by omega
   subst this
   exact ⟨some a,0,[],0,rfl,by simp,λK _=>⟨Nat.le_refl _,Nat.zero_le _,.inl ⟨rfl,rfl⟩⟩⟩
  ·rw [hsz] at hx
   obtain ⟨cs0,h1,_⟩:=hx 0 h0
   obtain ⟨_,hlen0,hc0⟩:=World.cells?_some h1
   have hc:=hc0 0 hpos
   obtain ⟨b,off,spot⟩:=a
   have hsome : ∃v,cs0[0]? = some v:=⟨cs0[0]'(by omega),List.getElem?_eq_getElem (by omega)⟩
   obtain ⟨v0,hv0⟩:=hsome
   rw [hv0] at hc
   obtain rfl:spot=none:=by
    cases spot with
    | none=>rfl
    | some s=>
     exfalso
     simp [World.cell?,Addr.add] at hc
     split at hc<;>cases hc
   have hblt:b<W.heap.size:=by
    rcases Nat.lt_or_ge b W.heap.size with h|h
    ·exact h
    ·simp [World.cell?,pC,Array.getElem?_eq_none h] at hc
   have key : ∀i,i<m → ∃x K0,ok x ∧ ∃cs',(∀K,K0≤K→t.rep (gh K W) W cs' x) ∧ ∀j u,cs'[j]? = some u→W.cell? ⟨b,off+i*t.size+j,none⟩=some u:=λi hi=>by
    obtain ⟨cs',h1,h2⟩:=hx i hi
    obtain ⟨x,K0,hok,hr⟩:=hE _ _ _ _ _ _ h2
    refine ⟨x,K0,hok,cs',hr,λj u hj=>?_⟩
    obtain ⟨_,hlen,hc⟩:=World.cells?_some h1
    have hjl:j<t.size:=by rw [← hlen]; exact (List.getElem?_eq_some_iff.1 hj).1
    have:=hc j hjl
    rw [pC,pC,hj] at this
    exact this
   have hlist : ∀q,q≤m → ∃(l:List α) (K0:Nat),l.length=q∧(∀x∈l,ok x) ∧ ∀i x,l[i]? = some x → ∃cs',(∀K,K0≤K→t.rep (gh K W) W cs' x) ∧ ∀j u,cs'[j]? = some u→W.cell? ⟨b,off+i*t.size+j,none⟩=some u:=λq=>by
    induction q with
    | zero=>intro _; exact ⟨[],0,rfl,by simp,λi x hi=>by simp at hi⟩
    | succ q ih=>
     intro hq
     obtain ⟨l,K1,hll,hlo,hlx⟩:=ih (by omega)
     obtain ⟨x,K2,hxo,cs',hx1,hx2⟩:=key q (by omega)
     refine ⟨l++[x],max K1 K2,by simp [hll],λy hy=>?_,λi y hi=>?_⟩
     ·rcases List.mem_append.1 hy with hy|hy
      ·exact hlo y hy
      ·simp only [List.mem_singleton] at hy; subst hy; exact hxo
     rw [List.getElem?_append] at hi
     split at hi
     ·obtain ⟨cs'',q1,q2⟩:=hlx i y hi
      exact ⟨cs'',λK hK=>q1 K (by omega),q2⟩
     ·rename_i hge
      have hi0:i=q:=by
       have:=(List.getElem?_eq_some_iff.1 hi).1
       simp at this; omega
      subst hi0
      rw [hll,Nat.sub_self] at hi
      simp only [List.getElem?_cons_zero,Option.some.injEq] at hi
      subst hi
      exact ⟨cs',λK hK=>hx1 K (by omega),hx2⟩
   obtain ⟨l,K1,hll,hlo,hlx⟩:=hlist len hl
   subst hll
   refine ⟨some ⟨b,off,none⟩,m,l,max K1 (off+l.length*t.size),rfl,hlo,λK hK=>⟨hl,hm,.inr ⟨b,off,K,rfl,by simp [gh,hblt],by omega,λi x hi=>?_⟩⟩⟩
   obtain ⟨cs',q1,q2⟩:=hlx i x hi
   exact ⟨cs',q1 K (by omega),q2⟩
theorem MG {P:Program}{α:Type}{t:FT α}{ok:α→Prop}{T E:TypeId}{m:Nat}{H:Type}{enc:TypeId×Value→H}{W:World}{n:Nat}{cs:List Value}{d:DataW H×List MemPlace}(ht:P.underlying T=some (.array m E))(hE:RdT P t.ty ok E)(hsz:P.cellsOf E=t.size)(hT:P.cellsOf T=m*t.size)
  (h:DataW.trod enc P W 0 (λ_=>true) true n T cs=some d) : ∃l:List α,l.length=m∧cs=encs t l ∧ ∀x∈l,ok x:=by
 cases n with
 | zero=>simp [DataW.trod] at h
 | succ n=>
  unfold DataW.trod at h
  rw [ht] at h
  simp only at h
  split at h
  ·rename_i hl
   rw [Option.map_eq_some_iff] at h
   obtain ⟨xs,hxs,_⟩:=h
   have hlen:=mapM_some_length hxs
   rw [hT] at hl
   have key : ∀i,i<m → ∃x,ok x∧(cs.drop (i*t.size)).take t.size=t.enc x:=λi hi=>by
    have hg:=mapM_some_get hxs i i (by simp [hi])
    have hlt:i<xs.length:=by rw [hlen]; simpa using hi
    rw [List.getElem?_eq_getElem hlt,hsz] at hg
    obtain ⟨x,K0,hok,hr⟩:=hE _ _ _ _ _ _ hg
    exact ⟨x,hok,hr K0 (Nat.le_refl _)⟩
   have hlist : ∀q,q≤m → ∃l:List α,l.length=q∧cs.take (q*t.size)=encs t l ∧ ∀x∈l,ok x:=λq=>by
    induction q with
    | zero=>intro _; exact ⟨[],rfl,by simp [encs],by simp⟩
    | succ q ih=>
     intro hq
     obtain ⟨l,h1,h2,h3⟩:=ih (by omega)
     obtain ⟨x,hx1,hx2⟩:=key q (by omega)
     refine ⟨l++[x],by simp [h1],?_,λy hy=>?_⟩
     ·rw [Nat.add_mul,Nat.one_mul,List.take_add,h2,hx2]
      simp [encs]
     ·rcases List.mem_append.1 hy with hy|hy
      ·exact h3 y hy
      ·simp only [List.mem_singleton] at hy; subst hy; exact hx1
   obtain ⟨l,h1,h2,h3⟩:=hlist m (Nat.le_refl _)
   exact ⟨l,h1,by rw [← h2,List.take_of_length_le (by omega)],h3⟩
  ·cases h
def cat (cs:List Value):Nat→List Nat→List Value
 | _,[]=>[]
 | o,n::ns=>(cs.drop o).take n++cat cs (o+n) ns
theorem MT (cs:List Value) : ∀(ns:List Nat) (o:Nat),o+ns.sum=cs.length→cat cs o ns=cs.drop o:=λns=>by
 induction ns with
 | nil=>intro o h; simp at h; subst h; simp [cat]
 | cons n ns ih=>
  intro o h
  simp only [List.sum_cons] at h
  rw [cat,ih (o+n) (by omega),← List.drop_drop,List.take_append_drop]
theorem DM {cs:List Value} (ns:List Nat) (h:cs.length=ns.sum):cs=cat cs 0 ns:=by
 rw [MT cs ns 0 (by omega)]; rfl
theorem IM {P:Program}{T E:TypeId}{H:Type}{enc:TypeId×Value→H}{W:World}{v:Value}{d:DataW H}{ps:List MemPlace}(ht:P.underlying T=some (.slice E))(h:DataW.Trod enc P W 0 (λ_=>true) true T v d ps){base:Nat}(hok:Value.okWide P W .any base T v) :
  ∃n d',DataW.trod enc P W 0 (λ_=>true) true n T [v]=some d':=by
 obtain ⟨n,h⟩:=h
 have hv : ∃p l c,v = .slice p l c:=by
  unfold Value.okWide Cell.okWide at hok
  simp only [ht] at hok
  cases v<;>simp_all [Cell.ok]
 obtain ⟨p,l,c,rfl⟩:=hv
 exact ⟨n,_,h⟩
theorem LM {P:Program} {T:TypeId} {k:IntKind} {H:Type} {enc:TypeId×Value→H} {W:World} {v:Value} {d:DataW H} {ps:List MemPlace} (ht:P.underlying T=some (.int k)) (h:DataW.Trod enc P W 0 (λ_=>true) true T v d ps) {base:Nat} (hok:Value.okWide P W .any base T v) : ∃x,v = .int k x∧inI k x:=by
 obtain ⟨n,h⟩:=h
 obtain ⟨x,K0,hx,hr⟩:=sH ht _ _ _ _ _ _ h
 have hr':v.cells.toList=[.int k x]:=hr K0 (Nat.le_refl _)
 refine ⟨x,?_,hx⟩
 unfold Value.okWide Cell.okWide at hok
 simp only [ht] at hok
 cases v<;>simp_all [Cell.ok,Value.cells]
theorem LN {P:Program}{T E:TypeId}{m:Nat}{H:Type}{enc:TypeId×Value→H}{W:World}{v:Value}{d:DataW H}{ps:List MemPlace}(ht:P.underlying T=some (.array m E))(h:DataW.Trod enc P W 0 (λ_=>true) true T v d ps){base:Nat}(hok:Value.okWide P W .any base T v) :
  ∃cs:List Value,v = .agg cs.toArray ∧ ∃n d',DataW.trod enc P W 0 (λ_=>true) true n T cs=some d':=by
 unfold Value.okWide at hok
 rw [ht] at hok
 obtain ⟨⟨cs⟩,rfl,_⟩:=hok
 obtain ⟨n,h⟩:=h
 exact ⟨cs,rfl,n,_,h⟩
theorem yH {P:Program}{T:TypeId}{fs:Array Field}{H:Type}{enc:TypeId×Value→H}{W:World}{n:Nat}{cs:List Value}{d:DataW H×List MemPlace}(ht:P.underlying T=some (.struct fs))(h:DataW.trod enc P W 0 (λ_=>true) true n T cs=some d) :
  cs.length=P.cellsOf T ∧ ∃k,∀f∈fs.toList,∃d',DataW.trod enc P W 0 (λ_=>true) true k f.type ((cs.drop f.offset).take (P.cellsOf f.type))=some d':=by
 cases n with
 | zero=>simp [DataW.trod] at h
 | succ n=>
  unfold DataW.trod at h
  rw [ht] at h
  simp only at h
  split at h
  ·rename_i hl
   refine ⟨hl,n,?_⟩
   rw [Option.map_eq_some_iff] at h
   obtain ⟨xs,hxs,_⟩:=h
   intro f hf
   obtain ⟨i,hi,rfl⟩:=List.getElem_of_mem hf
   have hlen:=mapM_some_length hxs
   have hlt:i<xs.length:=by omega
   have hg:=mapM_some_get hxs i _ (List.getElem?_eq_getElem hi)
   rw [List.getElem?_eq_getElem hlt] at hg
   exact ⟨_,hg⟩
  ·cases h
theorem CH {P:Program}{H:Type}{enc:TypeId×Value→H}{W W':World}{sp:Nat→Bool}(hl:laidOutB P=true) : ∀ {ts:List TypeId}{vs:List Value}{ds:List (DataW H)}{ps:List MemPlace},(ts.all λt=>P.readableRec t&&decide (t<P.types.size))=true →
  DataW.TrodAll enc P W 0 (λ_=>true) true ts vs ds ps→(∀p∈ps,W.sameAt W' p)→(∀p∈ps,sp p.block=true)→DataW.TrodAll enc P W' 0 sp true ts vs ds ps:=by
 intro ts
 induction ts with
 | nil=>intro vs ds ps _ h _ _; cases vs<;>cases ds<;>simp_all [DataW.TrodAll]
 | cons t ts ih=>
  intro vs ds ps ht h hs hsp
  cases vs with
  | nil=>simp [DataW.TrodAll] at h
  | cons v vs=>
   cases ds with
   | nil=>simp [DataW.TrodAll] at h
   | cons d ds=>
    obtain ⟨p,q,h1,h2,rfl⟩:=h
    simp only [List.all_cons,Bool.and_eq_true,decide_eq_true_eq] at ht
    exact ⟨p,q,WideElems.Trod_stays hl ht.1.1 ht.1.2 h1 (λx hx=>hs x (by simp [hx])) (λx hx=>hsp x (by simp [hx])),ih (by simpa using ht.2) h2 (λx hx=>hs x (by simp [hx])) (λx hx=>hsp x (by simp [hx])),rfl⟩
theorem I8 {W W':World} (h : ∀b,b<W.heap.size→W'.heap[b]? = W.heap[b]?) {p:MemPlace} (hp:p.block<W.heap.size):W.sameAt W' p:=by
 cases p with
 | cell b off=>exact lM (h b hp)
 | map b=>exact h b hp
theorem JU {P:Program}{f:FuncId}{args:Array Value}{κ:Gh}{w:World}{b:Bool}{φ:Gh→World→Prop}(hb:b=true)(h:Calls P f args w (kP [] κ w λv κ w=>v = .bool b∧φ κ w)) :
  Calls P f args w λe w'=>e = .returned (.bool true)∧w.keptBut w' (λ_=>False) ∧ ∀b,b<w.heap.size→w'.heap[b]? = w.heap[b]? := by
 subst hb
 exact h.mono λe w' ⟨v,κ',he,hx,_,hv,_⟩=>⟨by rw [he,hv],hx.grown,λb hb=>(hx.keep b hb (by simp)).1⟩
theorem IB {H:Type}{enc:TypeId×Value→H}{P:Program}{f:Func}{s:ChangeSpec}{W W':World}{args:Array Value}{v:Value}{ds gs:List (DataW H)}{before pa pv:List MemPlace}
  (hW:DataW.Whole enc P f.params.toList s.vars false W args.toList ds gs before)
  (hres : ∀(b:Nat) (sp:Nat→Bool) (hd:Bool),DataW.TrodAll enc P W' b sp hd f.resultTypes.toList (v.resultList f.resultTypes.size) (s.fn H (ds++gs)).results [])
  (hargs : ∀sp:Nat→Bool,(∀p∈before,sp p.block=true)→DataW.TrodAll enc P W' 0 sp true f.params.toList args.toList (s.fn H (ds++gs)).args pa)
  (hvars : ∀sp:Nat→Bool,(∀p∈before,sp p.block=true)→DataW.TrodVars enc P W' sp s.vars (s.fn H (ds++gs)).vars pv)
  (hps:before=pa++pv) (hk:W.keptBut W' (· ∈ before)):s.post enc P f false true false false W args v W':=by
 have hold : ∀p∈before,(λb=>decide (b<W.heap.size)) p.block=true:=λp hp=>by simpa using hW.lt p hp
 refine ⟨ds,gs,before,[],pa,pv,hW,hres _ _ _,hargs _ hold,hvars _ hold,World.keptBut_mono (λp hp=>⟨hp,?_⟩) hk,λh=>by cases h⟩
 rw [hps,List.mem_append] at hp
 exact Or.inr hp
end Go.Cf
namespace Go.Cf
open Go
def AD (b:Nat) (m:MP):Prop := ∀κ w w',(∀b',b'≠b→w'.heap[b']? = w.heap[b']?)→m.p κ w→m.p κ w'
theorem FF (b:Nat) (q:Prop):AD b (MP.const q):=λ_ _ _ _ h=>h
theorem KM {α:Type} {t:FT α} {b:Nat} {p:Option Addr} {c:Nat} {l:List α} (h : ∀a,p=some a→a.block≠b):AD b (Ro.mp t.ty p c l):=λκ w w' hw ⟨h1,h2,h3⟩=>by
 refine ⟨h1,h2,?_⟩
 rcases h3 with h3 | ⟨b',off,n,hp,hk,hn,hc⟩
 ·exact .inl h3
 ·refine .inr ⟨b',off,n,hp,hk,hn,λi x hi=>?_⟩
  obtain ⟨cs,hr,hv⟩:=hc i x hi
  refine ⟨cs,hr,λj v hj=>?_⟩
  rw [lM (hw b' (h _ hp))]
  exact hv j v hj
section
variable {ro:Option Nat}{P:Program}{ops:Array Oper}{Q:Exit→Act→World→Prop}{N:Nat}{D:List Deferred}{L L':FL}{a:Act}{w:World}{o:Oper}{K:Act→World→Prop}
variable {κ0 κ:Gh}{w0:World}{C C':List Ck}{R R' R0 Ra Rb:List MP}
theorem B3 : ∀ {C:List Ck} {i j:Nat} {x y:Ck} {b:Nat},(jI C).Nodup→C[i]? = some x→C[j]? = some y→i≠j→b∈x.blks→b ∉ y.blks:=by
 have key : ∀(C:List Ck) (i j:Nat) (x y:Ck) (b:Nat),C[i]? = some x→C[j]? = some y→i<j→b∈x.blks→b∈y.blks → ¬(jI C).Nodup:=by
  intro C
  induction C with
  | nil=>intro i j x y b hx; simp at hx
  | cons e C ih=>
   intro i j x y b hx hy hij hbx hby hnd
   have hnd':(e.blks++jI C).Nodup:=hnd
   cases j with
   | zero=>omega
   | succ j=>
    simp only [List.getElem?_cons_succ] at hy
    cases i with
    | zero=>
     simp only [List.getElem?_cons_zero,Option.some.injEq] at hx
     subst hx
     exact (List.nodup_append.1 hnd').2.2 b hbx b (List.mem_flatMap.2 ⟨y,List.mem_of_getElem? hy,hby⟩) rfl
    | succ i=>
     simp only [List.getElem?_cons_succ] at hx
     exact ih i j x y b hx hy (by omega) hbx hby (List.nodup_append.1 hnd').2.1
 intro C i j x y b hnd hx hy hij hbx hby
 rcases Nat.lt_or_ge i j with h|h
 ·exact key C i j x y b hx hy h hbx hby hnd
 ·exact key C j i y x b hy hx (by omega) hby hbx hnd
theorem SS.tokApart {M:List Nat} (hS:SS M κ0 w0 κ w C R) (i j:Nat) {p p':Option Addr} {E E' s s' n n' c c':Nat} {b:Nat} {off:Nat} (hp:p=some ⟨b,off,none⟩) (hi:C[i]? = some (.tok p E s n c)) (hj:C[j]? = some (.tok p' E' s' n' c')) (hij:i≠j) : ∀a,p'=some a→a.block≠b:=by
 rintro a rfl h
 subst hp
 exact B3 hS.nd hj hi (Ne.symm hij) (b:=b) (by simp [Ck.blks,h]) (by simp [Ck.blks])
end
end Go.Cf
namespace Go.Cf
open Go
section
variable {ro:Option Nat}{P:Program}{ops:Array Oper}{Q:Exit→Act→World→Prop}{N:Nat}{D:List Deferred}{L L':FL}{a:Act}{w:World}{o:Oper}{K:Act→World→Prop}
variable {M:List Nat}{κ0 κ κ':Gh}{w0 w':World}{C C' Cin Cr Cout:List Ck}{R R' Rout:List MP}
theorem SS.callBack (h:SS M κ0 w0 κ w (Cin++Cr) R) (h2:SS (jI Cin) κ w κ' w' Cout Rout):SS M κ0 w0 κ' w' (Cout++Cr) (Rout++R):=by
 have hnd:=h.nd
 rw [kE] at hnd
 obtain ⟨n1,n2,n3⟩:=List.nodup_append.1 hnd
 have hin : ∀b∈jI Cin,b∈jI (Cin++Cr):=λb hb=>by rw [kE]; exact List.mem_append.2 (.inl hb)
 have hcr : ∀b∈jI Cr,b∈jI (Cin++Cr):=λb hb=>by rw [kE]; exact List.mem_append.2 (.inr hb)
 refine ⟨h.ext.trans' h2.ext λb hb=>h.own b (hin b hb),h2.fresh,λc hc=>?_,λb hb=>?_,?_,λb hb=>?_,λm hm=>?_⟩
 ·rcases List.mem_append.1 hc with hc|hc
  ·exact h2.ok c hc
  ·exact Ck.ok_keep (h.ok c (List.mem_append.2 (.inr hc))) (λb hb=>h.lt b (hcr b (List.mem_flatMap.2 ⟨c,hc,hb⟩))) h2.ext λb hb hb'=>n3 b hb' b (List.mem_flatMap.2 ⟨c,hc,hb⟩) rfl
 ·rw [kE] at hb
  rcases List.mem_append.1 hb with hb|hb
  ·exact h2.lt b hb
  ·exact Nat.lt_of_lt_of_le (h.lt b (hcr b hb)) h2.ext.size
 ·rw [kE]
  refine List.nodup_append.2 ⟨h2.nd,n2,λx hx y hy=>?_⟩
  rintro rfl
  rcases h2.own x hx with h3|h3
  ·have:=h.lt x (hcr x hy); omega
  ·exact n3 x h3 x hy rfl
 ·rw [kE] at hb
  rcases List.mem_append.1 hb with hb|hb
  ·rcases h2.own b hb with h3|h3
   ·exact .inl (Nat.le_trans h.ext.size h3)
   ·exact h.own b (hin b h3)
  ·exact h.own b (hcr b hb)
 ·rcases List.mem_append.1 hm with hm|hm
  ·exact h2.ro m hm
  ·exact m.mono h2.ext (h.ro m hm)
theorem IW (hF:Fr N D L a)(hS:SS M κ0 w0 κ w (Cin++Cr) R)(hc:qM N L o=true){f:FuncId}{args:Array Value}(hr:jK P (execOp (evD L) o)=some (.enter f args)){φ:Value→Gh→World→Prop}
  (hcall:SS (jI Cin) κ w κ w Cin R→Calls P f args w (kP (jI Cin) κ w φ))
  (kk : ∀v κ' w' a',φ v κ' w'→Fr N D (upd L o.dst v) a'→(∀Cout Rout,SS (jI Cin) κ w κ' w' Cout Rout→SS M κ0 w0 κ' w' (Cout++Cr) (Rout++R))→K a' w'):wo ro P o a w K Q:=by
 have hsub:Cin.Sublist (Cin++Cr):=List.sublist_append_left _ _
 exact BF hF hc hr (hcall (hS.drop hsub).rebase) λ_ w' ⟨v,κ',he,hext,hfr,hφ⟩=>⟨v,he,λa' hF'=>kk v κ' w' a' hφ hF' λCout Rout h2=>hS.callBack h2⟩
end
end Go.Cf
namespace Go.Cf
open Go
set_option linter.unusedVariables false
abbrev pt (b o:Nat):Value := .pointer (some ⟨b,o,none⟩)
abbrev si (x:Int):Nat×List Value:=(1,[.int .i64 x])
abbrev sg (x:ByteArray):Nat×List Value:=(1,[.string x])
abbrev sb (x:Bool):Nat×List Value:=(1,[.bool x])
abbrev su (x:Int):Nat×List Value:=(1,[.int .u64 x])
abbrev sl (p:Option Addr) (n c:Nat):Nat×List Value:=(1,[.slice p n c])
abbrev eb (n:Nat) (l:List Bool):Nat×List Value:=(n,encs jM l)
abbrev ei (n:Nat) (l:List Int):Nat×List Value:=(n,encs (fInt .i64) l)
abbrev ml {α:Type} (l:List α) (n:Nat):MP:=MP.const (List.length l=n)
abbrev vi (x:Int):Value := .int .i64 x
abbrev vu (x:Int):Value := .int .u64 x
abbrev vb (x:Bool):Value := .bool x
abbrev rg (n:Nat):List Nat:=List.range n
def mV (n m:Nat):Array Bool:=((List.range n).map λi=>Nat.testBit m i).toArray
def J6:Nat→lF→Bool
 | 0,_=>true
 | n+1,(k,[v])::s=>(k==1&&v.oneCell')&&J6 n s
 | _,_=>false
theorem sgN (n:Nat) {s:lF} (r:mK (s.drop n)) (h:J6 n s=true:=by kernel_rfl):mK s:=by
 induction n generalizing s with
 | zero=>exact r
 | succ n ih=>
  match s,h,r with
  | (k,[v])::s,h,r=>
   simp only [J6,Bool.and_eq_true,beq_iff_eq] at h
   obtain ⟨⟨rfl,h1⟩,h2⟩:=h
   exact sgV h1 (ih r h2)
def bxB (C:List Ck) (i:Nat):Nat:=match C[i]? with|some (.box b _ _)=>b|_=>0
def bxT (C:List Ck) (i:Nat):Nat:=match C[i]? with|some (.box _ T _)=>T|_=>0
def bxS (C:List Ck) (i:Nat):lF:=match C[i]? with|some (.box _ _ s)=>s|_=>[]
def NL (C:List Ck) (i k m:Nat) (s':lF):List Ck:=C.set i (.box (bxB C i) (bxT C i) ((bxS C i).take k++s'++(bxS C i).drop (k+m)))
def opX (o:Oper):Operand:=match o.op with | .store _ x _=>x | .load _ x=>x | .box _ x=>x|_=>.tmp 0
def opY (o:Oper):Operand:=match o.op with | .store _ _ y=>y|_=>.tmp 0
def opT (o:Oper):TypeId:=match o.op with | .store T _ _=>T | .load T _=>T | .box T _=>T | .alloc T=>T|_=>0
def L7 (s:lF) (k j:Nat):Value:=((s[k]?).bind λx=>x.2[j]?).getD undef
def G2 (s:lF) (k m:Nat):lF:=(s.drop k).take m
def JC (P:Program) (ops:Array Oper) (N n:Nat) (ks:List Nat) (l:List Oper) (L:FL):FL:=((xF P ops N (l.take n) L).map λx=>keep x ks).getD []
section
variable {ro:Option Nat}{P:Program}{ops:Array Oper}{Q:Exit→Act→World→Prop}{N:Nat}{D:List Deferred}{L L':FL}{a:Act}{w:World}{o:Oper}{K:Act→World→Prop}
variable {M:List Nat}{κ0 κ:Gh}{w0:World}{C C':List Ck}{R R':List MP}
theorem wp (n:Nat)(ks:List Nat){l:List Oper}(hF:Fr N D L a)(k : ∀a',Fr N D (JC P ops N n ks l L) a'→wl ro P ops Q (l.drop n) a' w)
  (hp:(xF P ops N (l.take n) L).isSome=true:=by kernel_rfl):wl ro P ops Q l a w:=by
 refine jE (L':=JC P ops N n ks l L) n ks hF ?_ k
 unfold JC
 cases h:xF P ops N (l.take n) L with
 | none=>rw [h] at hp; cases hp
 | some x=>rfl
theorem wc {l:List Oper} (h:wo ro P o a w (wl ro P ops Q l) Q) (hg:o.guard=none:=by kernel_rfl):wl ro P ops Q (o::l) a w:=L3 hg h
theorem wcg {l:List Oper} (hF:Fr N D L a) (h:wo ro P o a w (wl ro P ops Q l) Q) (hg:wI ops L o=some true:=by kernel_rfl):wl ro P ops Q (o::l) a w:=E7 hF hg h
theorem SS.sp (h:SS M κ0 w0 κ w C R) (is js:List Nat) {C':List Ck} {R':List MP} (hn:is.Nodup:=by decide) (hC:zR C is=C':=by kernel_rfl) (hR:zR R js=R':=by kernel_rfl):SS M κ0 w0 κ w C' R':=(h.selp is hn hC).pick js hR
theorem SS.sx (h:SS M κ0 w0 κ w C R) (is js:List Nat) {C':List Ck} {R':List MP} (hn:is.Nodup:=by decide) (hC:zR C is=C':=by kernel_rfl) (hR:zR R js=R':=by kernel_rfl):SSx M κ0 w0 C' R' w:=⟨κ,(h.selp is hn hC).pick js hR⟩
theorem Fr.kp (hF:Fr N D L a) (ks:List Nat) (h:Cf.keep L ks=L':=by kernel_rfl):Fr N D L' a:=hF.keep' ks h
theorem wld (hF:Fr N D L a)(hS:SS M κ0 w0 κ w C R)(i k j:Nat)(kk : ∀a',Fr N D (upd L o.dst (L7 (bxS C i) k j)) a'→K a' w)
  (hc:qM N L o=true:=by kernel_rfl) (hop:o.op = .load (opT o) (opX o):=by kernel_rfl) (hC:C[i]? = some (.box (bxB C i) (bxT C i) (bxS C i)):=by kernel_rfl)
  (hx:ev L (opX o)=some (.pointer (some ⟨bxB C i,tot ((bxS C i).take k)+j,none⟩)):=by kernel_rfl)
  (hj:((bxS C i)[k]?.bind λx=>x.2[j]?)=some (L7 (bxS C i) k j):=by kernel_rfl) (hg:jK P (isAgg (opT o))=some false:=by kernel_rfl):wo ro P o a w K Q:=by
 obtain ⟨⟨n,l⟩,hk,hl⟩:=Option.bind_eq_some_iff.1 hj
 exact H8 hF hS hc i k j hop hx hC hk hl rfl hg kk
theorem wls (hF:Fr N D L a)(hS:SS M κ0 w0 κ w C R)(i k m:Nat)(kk : ∀a',Fr N D (upd L o.dst (.agg (flat (G2 (bxS C i) k m)).toArray)) a'→K a' w)
  (hc:qM N L o=true:=by kernel_rfl) (hop:o.op = .load (opT o) (opX o):=by kernel_rfl) (hC:C[i]? = some (.box (bxB C i) (bxT C i) (bxS C i)):=by kernel_rfl)
  (hx:ev L (opX o)=some (.pointer (some ⟨bxB C i,tot ((bxS C i).take k),none⟩)):=by kernel_rfl)
  (hg:jK P (isAgg (opT o))=some true:=by kernel_rfl) (hsz:jK P (sizeOf (opT o))=some (tot (G2 (bxS C i) k m)):=by kernel_rfl):wo ro P o a w K Q:=
 IV hF hS hc i k m hop hx hC rfl rfl hg hsz rfl kk
theorem wst (hF:Fr N D L a)(hS:SS M κ0 w0 κ w C R)(i k m:Nat)(s':lF)(hs':mK s')(kk : ∀a' w',Fr N D (upd L o.dst undef) a'→SS M κ0 w0 κ w' (NL C i k m s') R→K a' w')
  (hc:qM N L o=true:=by kernel_rfl) (hop:o.op = .store (opT o) (opX o) (opY o):=by kernel_rfl) (hC:C[i]? = some (.box (bxB C i) (bxT C i) (bxS C i)):=by kernel_rfl)
  (hx:ev L (opX o)=some (.pointer (some ⟨bxB C i,tot ((bxS C i).take k),none⟩)):=by kernel_rfl)
  (hy:(ev L (opY o)).map Value.cells=some (flat s').toArray:=by kernel_rfl) (hsz:jK P (sizeOf (opT o))=some (tot s'):=by kernel_rfl) (hn:tot (G2 (bxS C i) k m)=tot s':=by kernel_rfl):wo ro P o a w K Q:=by
 obtain ⟨v,hv,hvc⟩:=Option.map_eq_some_iff.1 hy
 exact HZ hF hS hc i k m hop hx hv hC rfl hsz hn rfl hs'.1 hs'.2 hvc rfl rfl kk
theorem wal (hF:Fr N D L a)(hS:SS M κ0 w0 κ w C R)(s:lF)(hs:mK s)(kk : ∀b a' w',Fr N D (upd L o.dst (.pointer (some ⟨b,0,none⟩))) a'→SS M κ0 w0 κ w' (.box b (opT o) s::C) R→K a' w')
  (hc:qM N L o=true:=by kernel_rfl) (hop:o.op = .alloc (opT o):=by kernel_rfl) (hz:(jK P (zeroValue (opT o))).map Value.cells=some (flat s).toArray:=by kernel_rfl):wo ro P o a w K Q:=by
 obtain ⟨z,hz,hzs⟩:=Option.map_eq_some_iff.1 hz
 exact IX hF hS hc hop hz hs.1 hzs kk
theorem wbx (hF:Fr N D L a)(hS:SS M κ0 w0 κ w C R)(s:lF)(hs:mK s)(kk : ∀b a' w',Fr N D (upd L o.dst (.pointer (some ⟨b,0,none⟩))) a'→SS M κ0 w0 κ w' (.box b (opT o) s::C) R→K a' w')
  (hc:qM N L o=true:=by kernel_rfl) (hop:o.op = .box (opT o) (opX o):=by kernel_rfl) (hx:(ev L (opX o)).map Value.cells=some (flat s).toArray:=by kernel_rfl):wo ro P o a w K Q:=by
 obtain ⟨v,hv,hvs⟩:=Option.map_eq_some_iff.1 hx
 exact M6 hF hS hc hop hv hs.1 hvs kk
theorem vld (i k j:Nat) (hop:o.op = .load (opT o) (opX o):=by kernel_rfl) (hC:C[i]? = some (.box (bxB C i) (bxT C i) (bxS C i)):=by kernel_rfl)
  (hx:ev L (opX o)=some (.pointer (some ⟨bxB C i,tot ((bxS C i).take k)+j,none⟩)):=by kernel_rfl)
  (hj:((bxS C i)[k]?.bind λx=>x.2[j]?)=some (L7 (bxS C i) k j):=by kernel_rfl) (hg:jK P (isAgg (opT o))=some false:=by kernel_rfl) : ∀w,SSx M κ0 w0 C R w→(execOp (evD L) o).run P w = .ok (.value (L7 (bxS C i) k j)) w:=by
 obtain ⟨⟨n,l⟩,hk,hl⟩:=Option.bind_eq_some_iff.1 hj
 exact EB i k j hop hx hC hk hl rfl hg
theorem vls (i k m:Nat) (hop:o.op = .load (opT o) (opX o):=by kernel_rfl) (hC:C[i]? = some (.box (bxB C i) (bxT C i) (bxS C i)):=by kernel_rfl)
  (hx:ev L (opX o)=some (.pointer (some ⟨bxB C i,tot ((bxS C i).take k),none⟩)):=by kernel_rfl)
  (hg:jK P (isAgg (opT o))=some true:=by kernel_rfl) (hsz:jK P (sizeOf (opT o))=some (tot (G2 (bxS C i) k m)):=by kernel_rfl) : ∀w,SSx M κ0 w0 C R w→(execOp (evD L) o).run P w = .ok (.value (.agg (flat (G2 (bxS C i) k m)).toArray)) w:=
 I5 i k m hop hx hC rfl rfl hg hsz rfl
theorem rvc (hF:Fr N D L a) (hS:SS M κ0 w0 κ w C R) (i k j:Nat) {t T:Nat} {v:Value} (h:L.lookup t=some (.pointer (some ⟨bxB C i,tot ((bxS C i).take k)+j,none⟩)):=by kernel_rfl) (hC:C[i]? = some (.box (bxB C i) (bxT C i) (bxS C i)):=by kernel_rfl)
  (hj:((bxS C i)[k]?.bind λx=>x.2[j]?)=some v:=by kernel_rfl) (hg:jK P (isAgg T)=some false:=by kernel_rfl):RV P a w (.cell t T) v:=by
 obtain ⟨⟨n,l⟩,hk,hl⟩:=Option.bind_eq_some_iff.1 hj
 exact L8 hF hS i k j h hC hk hl rfl hg
theorem rvs (hF:Fr N D L a) (hS:SS M κ0 w0 κ w C R) (i k m:Nat) {t T:Nat} {v:Value} (h:L.lookup t=some (.pointer (some ⟨bxB C i,tot ((bxS C i).take k),none⟩)):=by kernel_rfl) (hC:C[i]? = some (.box (bxB C i) (bxT C i) (bxS C i)):=by kernel_rfl)
  (hv:Value.agg (flat (G2 (bxS C i) k m)).toArray=v:=by kernel_rfl) (hg:jK P (isAgg T)=some true:=by kernel_rfl) (hsz:jK P (sizeOf T)=some (tot (G2 (bxS C i) k m)):=by kernel_rfl):RV P a w (.cell t T) v:=by
 subst hv
 exact J8 hF hS i k m h hC rfl rfl hg hsz rfl
theorem rvt (hF:Fr N D L a) {t:Nat} {v:Value} (h:L.lookup t=some v:=by kernel_rfl):RV P a w (.tmp t) v:=MD hF h
end
section
variable {ro:Option Nat}{P:Program}{ops:Array Oper}{Q:Exit→Act→World→Prop}{S:World→Prop}{tl:List Nat}{N m:Nat}{D:List Deferred}{L L':FL}{a:Act}{w:World}{fuel:Nat}{listed:Array Bool}
def M8 (P:Program) (ops:Array Oper) (tl:List Nat) (N:Nat) (is ks:List Nat) (listed:Array Bool) (L:FL):FL:=((vW P ops tl N is listed L).map λx=>keep x.2 ks).getD []
def M9 (P:Program) (ops:Array Oper) (tl:List Nat) (N:Nat) (is:List Nat) (listed:Array Bool) (L:FL):Array Bool:=((vW P ops tl N is listed L).map λx=>x.1).getD #[]
theorem anp (is ks:List Nat)(hF:Fr N D L a)(hS:S w)(k : ∀a',Fr N D (M8 P ops tl N is ks listed L) a'→oP ro P ops Q S tl (m-is.length) (M9 P ops tl N is listed L) a' w)
  (hsel:vZ ops=true:=by kernel_rfl) (hQ : ∀c a w t v,Q (.panic c) (a.put t v) w→Q (.panic c) a w:=by intro c a w t v h; cases t<;>exact h)
  (hp:(vW P ops tl N is listed L).isSome=true:=by kernel_rfl) (hm:Nat.ble is.length m=true:=by kernel_rfl):oP ro P ops Q S tl m listed a w:=by
 refine jN (fuel:=m-is.length) is ks hF hS hsel hQ (L':=M8 P ops tl N is ks listed L) (listed':=M9 P ops tl N is listed L) ?_ ?_ k
 ·unfold M8 M9
  cases h:vW P ops tl N is listed L with
  | none=>rw [h] at hp; cases hp
  | some x=>rfl
 ·have:=Nat.le_of_ble_eq_true hm; omega
theorem ago (i:Nat){o:Oper}(hF:Fr N D L a)(hi:ops[i]? = some o)
  (h:wo ro P o a w (λa' w'=>(pB tl (listed.setIfInBounds i true)=true→S w')∧oP ro P ops Q S tl (m-1) (listed.setIfInBounds i true) a' w') Q)
  (hr:Region.ready md ops listed=[i]:=by kernel_rfl) (hg:wI ops L o=some true:=by kernel_rfl) (hm:Nat.ble 1 m=true:=by kernel_rfl):oP ro P ops Q S tl m listed a w:=by
 obtain ⟨f,rfl⟩ : ∃f,m=f+1:=⟨m-1,by have:=Nat.le_of_ble_eq_true hm; omega⟩
 exact MX i hF hi hr hg rfl h
theorem H2 (i j:Nat){oi oj:Oper}(hF:Fr N D L a)(hi:ops[i]? = some oi)(hj:ops[j]? = some oj)
  (h1:wo ro P oi a w (λa' w'=>(pB tl (listed.setIfInBounds i true)=true→S w')∧oP ro P ops Q S tl (m-1) (listed.setIfInBounds i true) a' w') Q)
  (h2:wo ro P oj a w (λa' w'=>(pB tl (listed.setIfInBounds j true)=true→S w')∧oP ro P ops Q S tl (m-1) (listed.setIfInBounds j true) a' w') Q)
  (hr:Region.ready md ops listed=[i,j]:=by kernel_rfl) (hgi:wI ops L oi=some true:=by kernel_rfl) (hgj:wI ops L oj=some true:=by kernel_rfl) (hm:Nat.ble 1 m=true:=by kernel_rfl):oP ro P ops Q S tl m listed a w:=by
 obtain ⟨f,rfl⟩ : ∃f,m=f+1:=⟨m-1,by have:=Nat.le_of_ble_eq_true hm; omega⟩
 exact LP i j hF hi hj hr hgi hgj rfl rfl h1 h2
theorem atk (i:Nat)(d:Option Tmp){o:Oper}(hF:Fr N D L a)(hS:S w)(hi:ops[i]? = some o){v:Value}(hv : ∀w,S w→(execOp (evD L) o).run P w = .ok (.value v) w)
  (k : ∀a',Fr N D (upd L d v) a'→oP ro P ops Q S tl (m-1) (listed.setIfInBounds i true) a' w)
  (hsel:vZ ops=true:=by kernel_rfl) (hmt:yM ops tl listed i=true:=by kernel_rfl) (hQ : ∀c a w v,Q (.panic c) (a.put o.dst v) w→Q (.panic c) a w:=by intro c a w v h; exact h)
  (hd:uB N o=true:=by kernel_rfl) (hg:wI ops L o=some true:=by kernel_rfl) (hc:uU L o=true:=by kernel_rfl) (hdd:o.dst=d:=by kernel_rfl) (hm:Nat.ble 1 m=true:=by kernel_rfl):oP ro P ops Q S tl m listed a w:=by
 obtain ⟨f,rfl⟩ : ∃f,m=f+1:=⟨m-1,by have:=Nat.le_of_ble_eq_true hm; omega⟩
 exact FH i d hF hS hi hsel hmt hQ hd hg hc hdd hv k
theorem rga {id:Nat} (S:World→Prop) (tl:List Nat) (h:oP ro P ops Q S tl ops.size (Array.replicate ops.size false) a {w with drawn:=w.drawn+1}) (hm:P.follows .mixedOrders=true:=by kernel_rfl):(Code.region id ops true).wpIn (FW ro) 0 P Q a w:=
 z7 S tl hm rfl rfl h
theorem kN (h:Q .normal a w) (hr:Region.ready md ops listed=[]:=by kernel_rfl):oP ro P ops Q S tl m listed a w:=KR hr h m
theorem notE {b:Bool} {p:Prop} (h:b=false:=by kernel_rfl):b=true→p:=λe=>absurd (h.symm.trans e) Bool.false_ne_true
def LG:Ck→Bool
 | .tok .. => false
 | _=>true
variable {M:List Nat}{κ0 κ:Gh}{w0:World}{C:List Ck}{R:List MP}
set_option linter.unusedVariables false in
theorem rgS {id:Nat} (hS:SS M κ0 w0 κ w C R) (tl:List Nat) (h:oP ro P ops Q (SSx M κ0 w0 (C.filter LG) R) tl ops.size (Array.replicate ops.size false) a {w with drawn:=w.drawn+1}) (hm:P.follows .mixedOrders=true:=by kernel_rfl):(Code.region id ops true).wpIn (FW ro) 0 P Q a w:=
 z7 _ tl hm rfl rfl h
end
end Go.Cf
namespace Go.Cf
open Go
set_option linter.unusedVariables false
theorem Ext.all {M:List Nat} {κ κ':Gh} {w w':World} (h:Ext M κ w κ' w'):Ext (List.range w.heap.size) κ w κ' w':=
 ⟨h.os,h.out,h.tape,h.size,λb hb hm=>absurd (List.mem_range.2 hb) hm,h.pub⟩
def MP.since (κ1:Gh) (w1:World):MP:=⟨λκ w=>∃M,Ext M κ1 w1 κ w,λ{_ κ w _ _} e ⟨_,h⟩=>⟨List.range w1.heap.size++List.range w.heap.size,by
 refine (h.all.weaken λb hb _=>List.mem_append.2 (.inl hb)).trans (e.all.weaken λb hb _=>List.mem_append.2 (.inr hb))⟩⟩
def MP.old (p:Option Addr) (w1:World):MP:=MP.const (∀a,p=some a→w1.heap.size≤a.block)
section
variable {ro:Option Nat}{P:Program}{ops:Array Oper}{Q:Exit→Act→World→Prop}{N:Nat}{D:List Deferred}{L L':FL}{a:Act}{w:World}{o:Oper}{K:Act→World→Prop}
variable {κ0 κ:Gh}{w0:World}{C C':List Ck}{R R' R0 Ra Rb:List MP}
theorem NK {M:List Nat} {G:Prop} (hS:SS M κ0 w0 κ w C R) (k : ∀κ1 w1,(∀m∈R,m.p κ1 w1)→lG κ1 w1→w0.heap.size≤w1.heap.size→w1.heap.size=w.heap.size→SS M κ0 w0 κ w C (MP.since κ1 w1::R)→G):G:=
 k κ w hS.ro hS.fresh hS.ext.size rfl (hS.add (m:=MP.since κ w) ⟨[],Ext.refl _ _ _⟩)
def NoF:Ck→Prop
 | .ext x=>∀κ w w',(∀b∈x.bs,w'.heap[b]? = w.heap[b]?)→x.p κ w→x.p κ w'
 | _=>True
theorem nfN : ∀d∈([]:List Ck),NoF d:=λ_ h=>by cases h
theorem nfC {c:Ck} {C:List Ck} (h:NoF c) (r : ∀d∈C,NoF d) : ∀d∈c::C,NoF d:=λd hd=>by
 rcases List.mem_cons.1 hd with rfl|hd
 ·exact h
 ·exact r d hd
theorem nfB {b T:Nat} {s:lF}:NoF (.box b T s):=trivial
theorem nfT {p:Option Addr} {E s n c:Nat}:NoF (.tok p E s n c):=trivial
theorem DE {M:List Nat}{κ1:Gh}{w1:World}(hF:Fr N D L a)(hS:SS M κ0 w0 κ w C R)(hf0:lG κ0 w0)(hf1:lG κ1 w1)(hw1:w0.heap.size≤w1.heap.size)(hR0 : ∀m∈R0,m.p κ1 w1)(hc:qM N L o=true){α:Type}{t:FT α}(ci ri si fi f:Nat){T E b off Eo c n sz:Nat}{p:Option Addr}{l:List α}{i:Int}{y z:α}{x x':Operand}{v:Value}{vs:List Value}
  (hop:o.op = .store T x x') (hx:ev L x=some (.pointer (some ⟨b,Eo,none⟩))) (hy:ev L x'=some v) (hC:C[ci]? = some (.tok p E t.size n c)) (hn:n=l.length) (hR:R[ri]? = some (Ro.mp t.ty p c l))
  (hp:p=some ⟨b,off,none⟩) (hi:idx l i=some y) (hE:off+i.toNat*t.size+f=Eo) (hsz:jK P (sizeOf T)=some sz) (hvs:v.cells=vs.toArray) (hvl:vs.length=sz) (h1 : ∀u∈vs,u.oneCell'=true)
  (hz:t.enc z=(t.enc y).take f++vs++(t.enc y).drop (f+sz)) (hfs:f+sz≤t.size) (hsi:R[si]? = some (MP.since κ1 w1)) (hfi:R[fi]? = some (MP.old p w1)) (hne : ∀d∈C,NoF d)
  (ia ib:List Nat) (hRa:(ia.filterMap λi=>R0[i]?)=Ra) (hRb:(ib.filterMap λi=>R[i]?)=Rb) (hap : ∀m∈Rb,AD b m) {Cf:Nat→List Ck} {Lf:Nat→FL} (ks:List Nat) (hCf:C=Cf l.length) (hLf:keep (upd L o.dst undef) ks=Lf l.length)
  (kk : ∀a' w',Fr N D (Lf (l.set i.toNat z).length) a'→SS M κ0 w0 κ w' (Cf (l.set i.toNat z).length) (Ro.mp t.ty p c (l.set i.toNat z)::MP.since κ1 w1::(Ra++Rb))→K a' w'):wo ro P o a w K Q:=by
 rw [List.length_set,← hCf] at kk
 subst hn hp hRa hRb
 obtain ⟨h0,hil,hiy⟩:=nR hi
 have hRo:Ro t.ty κ w (some ⟨b,off,none⟩) c l:=hS.get ri hR
 have htok:=hS.ck ci hC
 rcases htok with ⟨hp,_⟩ | ⟨b',off',cells,hp,hk,hlc,hcm,hheap,hcs⟩
 ·omega
 simp only [Option.some.injEq,Addr.mk.injEq] at hp
 obtain ⟨rfl,rfl,_⟩:=hp
 have hmul:i.toNat*t.size+t.size≤l.length*t.size:=by
  have:(i.toNat+1)*t.size≤l.length*t.size:=Nat.mul_le_mul_right _ hil
  rw [Nat.add_mul,Nat.one_mul] at this
  exact this
 have hmulc:l.length*t.size≤c*t.size:=Nat.mul_le_mul_right _ hlc
 have hbm:b∈jI C:=List.mem_flatMap.2 ⟨_,List.mem_of_getElem? hC,by simp [Ck.blks]⟩
 have hblt:b<w.heap.size:=hS.lt b hbm
 have hb1:w1.heap.size≤b:=(show ∀a:Addr,_=some a→w1.heap.size≤a.block from hS.get fi hfi) _ rfl
 have hb0:w0.heap.size≤b:=Nat.le_trans hw1 hb1
 have hst:=run_storeCells_at P b Eo E vs 0 cells w hheap (by rw [hvl,hcs]; omega) h1
 simp only [Nat.add_zero] at hst
 rw [yG w b E _ _ hheap] at hst
 have hst':(Instr.storeAt T (.pointer (some ⟨b,Eo,none⟩)) v).run P w = .ok () {w with heap:=w.heap.setIfInBounds b (.cells (cells.toList.take Eo++vs++cells.toList.drop (Eo+vs.length)).toArray E (0,0))}:=by
  have e1:v.cells.toList=vs:=by rw [hvs]
  have e2:v.cells.size=sz:=by rw [hvs]; simpa using hvl
  simp [Instr.storeAt,Instr.sureAddr,storeVar,jX _ hsz w,e1,e2,hst]
 generalize harr:(cells.toList.take Eo++vs++cells.toList.drop (Eo+vs.length)).toArray=arr at hst'
 have hal:arr.size=cells.size:=by
  subst harr
  simp only [List.size_toArray,List.length_append,List.length_take,List.length_drop,Array.length_toList]
  omega
 let w':World:={w with heap:=w.heap.setIfInBounds b (.cells arr E (0,0))}
 have hother : ∀b',b'≠b→w'.heap[b']? = w.heap[b']? := λb' hne=>by
  show (w.heap.setIfInBounds b _)[b']? = _
  rw [Array.getElem?_setIfInBounds_ne (Ne.symm hne)]
 have hme:w'.heap[b]? = some (.cells arr E (0,0)):=by
  show (w.heap.setIfInBounds b _)[b]? = _
  simp [hblt]
 have hext0:Ext M κ0 w0 κ w':=by
  refine ⟨hS.ext.os,hS.ext.out,hS.ext.tape,?_,λb' hb' hm=>?_,λb' m hm=>?_⟩
  ·have:=hS.ext.size; simpa [w'] using this
  ·obtain ⟨h1,h2⟩:=hS.ext.keep b' hb' hm
   exact ⟨(hother b' (by omega)).trans h1,h2⟩
  ·obtain ⟨n',h1,h2,h3⟩:=hS.ext.pub b' m hm
   have hb':b'<w0.heap.size:=by
    rcases Nat.lt_or_ge b' w0.heap.size with h|h
    ·exact h
    ·rw [hf0 b' h] at hm; cases hm
   exact ⟨n',h1,h2,λi hi=>(lM (hother b' (by omega))).trans (h3 i hi)⟩
 obtain ⟨M1,hx1⟩ : ∃M1,Ext M1 κ1 w1 κ w:=hS.get si hsi
 have hext1:Ext M1 κ1 w1 κ w':=by
  refine ⟨hx1.os,hx1.out,hx1.tape,?_,λb' hb' hm=>?_,λb' m hm=>?_⟩
  ·have:=hx1.size; simpa [w'] using this
  ·obtain ⟨h1,h2⟩:=hx1.keep b' hb' hm
   exact ⟨(hother b' (by omega)).trans h1,h2⟩
  ·obtain ⟨n',h1,h2,h3⟩:=hx1.pub b' m hm
   have hb':b'<w1.heap.size:=by
    rcases Nat.lt_or_ge b' w1.heap.size with h|h
    ·exact h
    ·rw [hf1 b' h] at hm; cases hm
   exact ⟨n',h1,h2,λi hi=>(lM (hother b' (by omega))).trans (h3 i hi)⟩
 have hcell : ∀k,w'.cell? ⟨b,k,none⟩=arr[k]? := λk=>by simp [World.cell?,hme]
 have hcell0 : ∀k,w.cell? ⟨b,k,none⟩=cells[k]? := λk=>by simp [World.cell?,hheap]
 have harrk : ∀k,arr[k]? = if k<Eo then cells[k]? else if k<Eo+sz then vs[k-Eo]? else cells[k]? := λk=>by
  subst harr
  have hEc:Eo+sz≤cells.toList.length:=by simp only [Array.length_toList]; omega
  rw [List.getElem?_toArray,List.append_assoc]
  by_cases hk1:k<Eo
  ·rw [if_pos hk1,List.getElem?_append_left (by simp; omega),List.getElem?_take,if_pos hk1]; simp
  ·rw [if_neg hk1,List.getElem?_append_right (by simp; omega)]
   have hlt:(cells.toList.take Eo).length=Eo:=by simp; omega
   rw [hlt]
   by_cases hk2:k<Eo+sz
   ·rw [if_pos hk2,List.getElem?_append_left (by omega)]
   ·rw [if_neg hk2,List.getElem?_append_right (by omega),List.getElem?_drop]
    simp only [Array.getElem?_toList]
    congr 1; omega
 refine zN hF hc (xJ hop hx hy hst') λa' hF'=>kk a' w' (hF'.keep' ks hLf) ⟨hext0,λb' hb'=>hS.fresh b' (by simpa [w'] using hb'),λd hd=>?_,λb' hb'=>by simpa [w'] using hS.lt b' hb',hS.nd,hS.own,λm hm=>?_⟩
 ·
  obtain ⟨j,hj⟩:=List.getElem?_of_mem hd
  have hdne:=hne d hd
  by_cases hji:j=ci
  ·subst hji
   rw [hC] at hj
   simp only [Option.some.injEq] at hj
   subst hj
   exact .inr ⟨b,off,arr,rfl,hk,hlc,hcm,hme,by rw [hal]; exact hcs⟩
  ·have hnb : ∀b',b'∈d.blks→b'≠b:=λb' hb' e=>B3 hS.nd hj hC hji hb' (by simp [Ck.blks,e])
   have hok:=hS.ok d hd
   cases d with
   | box b' T' s=>
    obtain ⟨k1,k2,k3⟩:=hok
    exact ⟨(hother b' (hnb b' (by simp [Ck.blks]))).trans k1,k2,k3⟩
   | tok p' E' s' n' c'=>
    rcases hok with k | ⟨b',off',cells',rfl,k1,k2,k3,k4,k5⟩
    ·exact .inl k
    ·exact .inr ⟨b',off',cells',rfl,k1,k2,k3,(hother b' (hnb b' (by simp [Ck.blks]))).trans k4,k5⟩
   | ext x=>exact hdne κ w w' (λb' hb'=>hother b' (hnb b' hb')) hok
 ·rcases List.mem_cons.1 hm with rfl|hm
  ·refine ⟨by rw [List.length_set]; exact hRo.1,hRo.2.1,.inr ⟨b,off,_,rfl,hk,by rw [List.length_set]; exact Nat.le_refl _,λj u hj=>⟨t.enc u,rfl,λq e he=>?_⟩⟩⟩
   have hql:q<t.size:=by rw [← t.len u]; exact (List.getElem?_eq_some_iff.1 he).1
   show w'.cell? ⟨b,off+j*t.size+q,none⟩=some e
   rw [hcell,harrk]
   rw [List.getElem?_set] at hj
   split at hj
   ·rename_i hij
    subst hij
    simp only [Option.some.injEq] at hj
    subst hj
    obtain ⟨cs,hr,hcy⟩:=hRo.at' hiy
    have hr':cs=t.enc y:=hr
    subst hr'
    rw [hz] at he
    have hyl:=t.len y
    subst hE
    by_cases hq1:q<f
    ·rw [if_pos (by omega)]
     rw [List.append_assoc,List.getElem?_append_left (by simp; omega),List.getElem?_take,if_pos hq1] at he
     rw [← hcell0]; exact hcy q e he
    ·rw [if_neg (by omega)]
     have hlt:((t.enc y).take f).length=f:=by simp; omega
     rw [List.append_assoc,List.getElem?_append_right (by omega),hlt] at he
     by_cases hq2:q<f+sz
     ·rw [if_pos (by omega)]
      rw [List.getElem?_append_left (by omega)] at he
      rw [← he]; congr 1; omega
     ·rw [if_neg (by omega)]
      rw [List.getElem?_append_right (by omega),List.getElem?_drop] at he
      rw [← hcell0]
      refine hcy q e ?_
      rw [← he]; congr 1; omega
   ·rename_i hij
    obtain ⟨cs,hr,hcu⟩:=hRo.at' hj
    have hr':cs=t.enc u:=hr
    subst hr'
    have:=hcu q e he
    rw [hcell0] at this
    have hside:off+j*t.size+q<Eo∨Eo+sz≤off+j*t.size+q:=by
     rcases Nat.lt_or_gt_of_ne hij with h|h
     ·right
      have:(i.toNat+1)*t.size≤j*t.size:=Nat.mul_le_mul_right _ h
      rw [Nat.add_mul,Nat.one_mul] at this
      omega
     ·left
      have:(j+1)*t.size≤i.toNat*t.size:=Nat.mul_le_mul_right _ h
      rw [Nat.add_mul,Nat.one_mul] at this
      omega
    rcases hside with h|h
    ·rw [if_pos h]; exact this
    ·rw [if_neg (by omega),if_neg (by omega)]; exact this
  ·rcases List.mem_cons.1 hm with rfl|hm
   ·exact ⟨M1,hext1⟩
   ·rcases List.mem_append.1 hm with hm|hm
    ·obtain ⟨j,_,hj⟩:=List.mem_filterMap.1 hm
     exact m.mono hext1 (hR0 m (List.mem_of_getElem? hj))
    ·obtain ⟨j,_,hj⟩:=List.mem_filterMap.1 hm
     exact hap m hm κ w w' hother (hS.get j hj)
end
section
variable {ro:Option Nat}{P:Program}{ops:Array Oper}{Q:Exit→Act→World→Prop}{N:Nat}{D:List Deferred}{L L':FL}{a:Act}{w:World}{o:Oper}{K:Act→World→Prop}
variable {M:List Nat}{κ0 κ:Gh}{w0:World}{C C':List Ck}{R R':List MP}
end
def shrV (k:IntKind) (x y:Int):Option Int:=if 0≤y then some (x / 2 ^ min y.toNat k.bits) else none
section
variable {P:Program}{L:FL}{o:Oper}
theorem L4 {k k':IntKind} {x y:Operand} {T T':TypeId} {a b r:Int} (hop:o.op = .binOp .shr T x y T') (hx:ev L x=some (.int k a)) (hy:ev L y=some (.int k' b)) (h:shrV k a b=some r) : ∀w:World,(execOp (evD L) o).run P w = .ok (.value (.int k r)) w:=λw=>by
 unfold shrV at h
 split at h
 ·rename_i h0
  simp only [Option.some.injEq] at h
  subst h
  simp only [execOp,hop,evD,hx,hy,Option.getD_some]
  simp [eqGuard,binOp,shift_shr_any _ _ _ _ h0]
 ·cases h
end
section
variable {ro:Option Nat}{P:Program}{ops:Array Oper}{Q:Exit→Act→World→Prop}{N:Nat}{D:List Deferred}{L L':FL}{a:Act}{w:World}{o:Oper}{K:Act→World→Prop}
variable {M:List Nat}{κ0 κ:Gh}{w0:World}{C C':List Ck}{R R':List MP}
theorem CA : ∀ {C:List Ck}{i:Nat}{x y:Ck},C[i]? = some x→y.blks=x.blks→jI (C.set i y)=jI C
 | [],_,_,_,h,_=>by simp at h
 | c::C,0,x,y,h,hb=>by
  simp only [List.getElem?_cons_zero,Option.some.injEq] at h
  subst h
  simp [jI,hb]
 | c::C,i+1,x,y,h,hb=>by
  simp only [List.getElem?_cons_succ] at h
  have:=CA h hb
  simp only [jI] at this
  simp [jI,this]
theorem SS.reck (h:SS M κ0 w0 κ w C R) (i:Nat) {x y:Ck} (hi:C[i]? = some x) (hb:y.blks=x.blks) (hok:y.ok κ w):SS M κ0 w0 κ w (C.set i y) R:=by
 have hbo:=CA hi hb
 refine ⟨h.ext,h.fresh,λc hc=>?_,λb hm=>h.lt b (hbo▸hm),hbo▸h.nd,λb hm=>h.own b (hbo▸hm),h.ro⟩
 rcases List.mem_or_eq_of_mem_set hc with hc|rfl
 ·exact h.ok c hc
 ·exact hok
theorem I1 (hF:Fr N D L a)(hS:SS M κ0 w0 κ w C R)(hc:qM N L o=true){α:Type}{t:Ty α}(ri:Nat){T E n c:Nat}{p:Option Addr}{l l':List α}{lo hi:Int}{x:Operand}{xl xh:Option Operand}(hop:o.op = .slice T x xl xh none)(hR:R[ri]? = some (Ro.mp t p c l))
  (hx:ev L x=some (.slice p n c)) (hn:n=l.length) (hlo:match xl with|some y=>∃k,ev L y=some (.int k lo)|none=>lo=0) (hhi:match xh with|some y=>∃k,ev L y=some (.int k hi)|none=>hi=l.length)
  (hs:slc l lo hi=some l') (hu:jK P (underlying T)=some (.slice E)) (hsz:jK P (sizeOf E)=some t.size)
  (kk : ∀p' c' a',p'=(if c=lo.toNat then p else p.map (·.add (lo.toNat*t.size)))→c'=c-lo.toNat→Fr N D (upd L o.dst (.slice p' l'.length c')) a'→SS M κ0 w0 κ w C (Ro.mp t p' c' l'::R)→K a' w):wo ro P o a w K Q:=by
 obtain ⟨h0,h1,h2,rfl⟩:=wO hs
 subst hn
 have hRo:Ro t κ w p c l:=hS.get ri hR
 have hlc:l.length≤c:=hRo.1
 have hlen:((l.take hi.toNat).drop lo.toNat).length=hi.toNat-lo.toNat:=by simp; omega
 have hrun:(Instr.sliceAt T (.slice p l.length c) (xl.map (evD L)) (xh.map (evD L)) none).run P w = .ok (.slice (if c=lo.toNat then p else p.map (·.add (lo.toNat*t.size))) (hi.toNat-lo.toNat) (c-lo.toNat)) w:=by
  cases xl with
  | none=>
   subst hlo
   cases xh with
   | none=>subst hhi; simp [Instr.sliceAt,Instr.slice,Instr.sliceBounds,kB hu,jX _ hsz w]
   | some y=>
    obtain ⟨k,hk⟩:=hhi
    have:hi≤(c:Int):=by omega
    simp [Instr.sliceAt,Instr.slice,Instr.sliceBounds,Instr.sliceBound,asIntOf,kB hu,jX _ hsz w,evD,hk,h1,this]
  | some z=>
   obtain ⟨kz,hkz⟩:=hlo
   cases xh with
   | none=>
    subst hhi
    simp [Instr.sliceAt,Instr.slice,Instr.sliceBounds,Instr.sliceBound,asIntOf,kB hu,jX _ hsz w,evD,hkz,h0,h1]
   | some y=>
    obtain ⟨k,hk⟩:=hhi
    have h3:hi≤(c:Int):=by omega
    have h4:0≤hi:=by omega
    have h5:lo≤max hi 0:=by omega
    simp [Instr.sliceAt,Instr.slice,Instr.sliceBounds,Instr.sliceBound,asIntOf,kB hu,jX _ hsz w,evD,hk,hkz,h0,h3,h4,h5]
 have hval:(execOp (evD L) o).run P w = .ok (.value (.slice (if c=lo.toNat then p else p.map (·.add (lo.toNat*t.size))) ((l.take hi.toNat).drop lo.toNat).length (c-lo.toNat))) w:=by
  have hev:evD L x = .slice p l.length c:=by simp [evD,hx]
  simp only [execOp,hop,hev,Option.map_none]
  rw [hlen]
  simp [hrun]
 refine kQ hF hc hval λa' hF'=>kk _ _ a' rfl rfl hF' (hS.add ?_)
 show Ro t κ w _ _ _
 refine ⟨by rw [hlen]; omega,by have:=hRo.2.1; omega,?_⟩
 rcases hRo.2.2 with ⟨rfl,rfl⟩ | ⟨b,off,m,rfl,hk,hm,hcell⟩
 ·exact .inl ⟨by simp,by omega⟩
 ·by_cases hcl:c=lo.toNat
  ·rw [if_pos hcl]
   have hz:hi.toNat-lo.toNat=0:=by omega
   have hnil:(l.take hi.toNat).drop lo.toNat=[]:=List.eq_nil_of_length_eq_zero (by rw [hlen]; exact hz)
   rw [hnil]
   exact .inr ⟨b,off,m,rfl,hk,by simp; omega,λi x hi=>by simp at hi⟩
  ·rw [if_neg hcl]
   refine .inr ⟨b,off+lo.toNat*t.size,m,by simp [pC],hk,?_,λi x hi'=>?_⟩
   ·rw [hlen,Nat.add_assoc,← Nat.add_mul]
    have:(lo.toNat+(hi.toNat-lo.toNat))*t.size≤l.length*t.size:=Nat.mul_le_mul_right _ (by omega)
    omega
   ·rw [List.getElem?_drop,List.getElem?_take] at hi'
    split at hi'
    ·obtain ⟨cs,hr,hcs⟩:=hcell _ x hi'
     refine ⟨cs,hr,λj v hj=>?_⟩
     have:=hcs j v hj
     rw [Nat.add_mul] at this
     rwa [show off+lo.toNat*t.size+i*t.size+j=off+(lo.toNat*t.size+i*t.size)+j from by omega]
    ·cases hi'
theorem AZ (hF:Fr N D L a)(hS:SS M κ0 w0 κ w C R)(hc:qM N L o=true){α:Type}{t:Ty α}(ri ci:Nat){T E n c:Nat}{p:Option Addr}{l l':List α}{lo:Int}{x y:Operand}{kd:IntKind}(hop:o.op = .slice T x (some y) none none)(hR:R[ri]? = some (Ro.mp t p c l))(hC:C[ci]? = some (.tok p E t.size n c))
  (hx:ev L x=some (.slice p n c)) (hn:n=l.length) (hy:ev L y=some (.int kd lo))
  (hs:slc l lo l.length=some l') (hu:jK P (underlying T)=some (.slice E)) (hsz:jK P (sizeOf E)=some t.size)
  (kk : ∀p' c' a',Fr N D (upd L o.dst (.slice p' l'.length c')) a'→SS M κ0 w0 κ w (C.set ci (.tok p' E t.size l'.length c')) (Ro.mp t p' c' l'::R)→K a' w):wo ro P o a w K Q:=by
 refine I1 hF hS hc ri hop hR hx hn ⟨_,hy⟩ (hi:=(l.length:Int)) rfl hs hu hsz λp' c' a' hp' hc' hF' hS'=>kk p' c' a' hF' (hS'.reck ci hC ?_ ?_)
 ·subst hp'
  split
  ·cases p<;>rfl
  ·cases p with
   | none=>rfl
   | some a=>
    show [(a.add _).block]=[a.block]
    unfold Addr.add
    split<;>rfl
 ·obtain ⟨h0,h1,h2,rfl⟩:=wO hs
  have htok:=hS.ck ci hC
  have hRo:Ro t κ w p c l:=hS.get ri hR
  have hlc:l.length≤c:=hRo.1
  have hl':((l.take (l.length:Int).toNat).drop lo.toNat).length=l.length-lo.toNat:=by simp
  rw [hl']
  subst hn hp' hc'
  rcases htok with ⟨g1,g2⟩ | ⟨b,off,cells,rfl,hk,hle,hcm,hheap,hcs⟩
  ·exact .inl ⟨by omega,by omega⟩
  ·by_cases hcl:c=lo.toNat
   ·exact .inl ⟨by omega,by omega⟩
   ·rw [if_neg hcl]
    have e1:lo.toNat*t.size+(l.length-lo.toNat)*t.size=l.length*t.size:=by rw [← Nat.add_mul]; congr 1; omega
    have e2:lo.toNat*t.size+(c-lo.toNat)*t.size=c*t.size:=by rw [← Nat.add_mul]; congr 1; omega
    exact .inr ⟨b,off+lo.toNat*t.size,cells,by simp [pC],by rw [hk]; congr 1; omega,by omega,by omega,hheap,by omega⟩
end
end Go.Cf
namespace Go.Cf
open Go
def MP.cells (b k:Nat) (cs:List Value):MP:=⟨λκ w=>∃n,κ b=some n∧k+cs.length≤n ∧ ∀j v,cs[j]? = some v→w.cell? ⟨b,k+j,none⟩=some v,λ{_ κ w κ' w'} e ⟨n,h1,h2,h3⟩=>by
 obtain ⟨n',k1,k2,k3⟩:=e.pub b n h1
 refine ⟨n',k1,Nat.le_trans h2 k2,λj v hj=>?_⟩
 have:=(List.getElem?_eq_some_iff.1 hj).1
 rw [k3 _ (by omega)]
 exact h3 j v hj⟩
section
variable {P:Program}{w:World}{L:FL}{o:Oper}{M:List Nat}{κ0 κ:Gh}{w0:World}{C:List Ck}{R:List MP}
theorem SS.elem (hS:SS M κ0 w0 κ w C R){α:Type}{t:Ty α}(ri:Nat){c b off:Nat}{p:Option Addr}{l:List α}{i:Int}{y:α}(hR:R[ri]? = some (Ro.mp t p c l))(hp:p=some ⟨b,off,none⟩)(hi:idx l i=some y) :
  ∃cs,t.rep κ w cs y∧(MP.cells b (off+i.toNat*t.size) cs).p κ w:=by
 have hRo:Ro t κ w p c l:=hS.get ri hR
 subst hp
 obtain ⟨h0,h1,h2⟩:=nR hi
 obtain ⟨cs,hr,hcs⟩:=hRo.at' h2
 rcases hRo.2.2 with ⟨hn,_⟩ | ⟨b',off',n,hp,hk,hn,_⟩
 ·rw [hn] at h2; simp at h2
 ·simp only [Option.some.injEq,Addr.mk.injEq] at hp
  obtain ⟨rfl,rfl,_⟩:=hp
  refine ⟨cs,hr,n,hk,?_,hcs⟩
  rw [t.len hr]
  have:(i.toNat+1)*t.size≤l.length*t.size:=Nat.mul_le_mul_right _ h1
  rw [Nat.add_mul,Nat.one_mul] at this
  omega
theorem pD (ri k m:Nat){T b E K n:Nat}{s s':lF}{x:Operand}(hop:o.op = .load T x)(hR:R[ri]? = some (MP.cells b K (flat s)))(hx:ev L x=some (.pointer (some ⟨b,E,none⟩)))(hs:mK s)(hE:K+tot (s.take k)=E)
  (hs':(s.drop k).take m=s') (hg:jK P (isAgg T)=some true) (hsz:jK P (sizeOf T)=some n) (hn:tot s'=n) : ∀w,SSx M κ0 w0 C R w→(execOp (evD L) o).run P w = .ok (.value (.agg (flat s').toArray)) w:=λw ⟨κ,hS⟩=>by
 obtain ⟨n',h1,h2,h3⟩:=hS.get ri hR
 subst hs'
 refine sG hop hx (u9 hg hsz ?_ ?_)
 ·rw [← hn]; exact m6 λy hy=>hs.1 y (List.mem_of_mem_drop (List.mem_of_mem_take hy))
 ·intro j v hj
  rw [← hE]
  have:=h3 _ v (zY hs.1 k m j v hj)
  rwa [Nat.add_assoc]
end
section
variable {P:Program}{L:FL}{o:Oper}
end
section
variable {ro:Option Nat}{P:Program}{ops:Array Oper}{Q:Exit→Act→World→Prop}{S:World→Prop}{tl:List Nat}{N:Nat}{D:List Deferred}{L:FL}{a:Act}{w:World}{m:Nat}{listed:Array Bool}
def OpH (ro:Option Nat) (P:Program) (ops:Array Oper) (Q:Exit→Act→World→Prop) (S:World→Prop) (tl:List Nat) (m:Nat) (listed:Array Bool) (i:Nat) (a:Act) (w:World):Prop:=
 wpOpIn (FW ro) 0 P ops Q i (λa' w'=>(pB tl (listed.setIfInBounds i true)=true→S w')∧oP ro P ops Q S tl (m-1) (listed.setIfInBounds i true) a' w') a w
theorem LA (i:Nat){o:Oper}(hF:Fr N D L a)(hi:ops[i]? = some o)
  (k : ∀a',Fr N D (upd L o.dst undef) a'→(pB tl (listed.setIfInBounds i true)=true→S w)∧oP ro P ops Q S tl (m-1) (listed.setIfInBounds i true) a' w)
  (hg:wI ops L o=some false:=by kernel_rfl) (hd:uB N o=true:=by kernel_rfl):OpH ro P ops Q S tl m listed i a w:=by
 unfold OpH wpOpIn
 simp only [hi]
 rw [if_neg (by rw [pK hF hg]; decide)]
 exact ⟨λ_ _=>trivial,k _ (hF.put _ _ (qR hd))⟩
def H4 (X:Nat→Prop):List Nat→Prop
 | []=>True
 | i::l=>X i∧H4 X l
theorem CE {X:Nat→Prop} : ∀ {l:List Nat},H4 X l → ∀i∈l,X i
 | _::_,h,i,hi=>(List.mem_cons.1 hi).elim (λe=>e▸h.1) (λhi=>CE h.2 i hi)
theorem GY (S':World→Prop) (tl':List Nat) (he:pB tl listed=false) (h:oP ro P ops Q S' tl' m listed a w):oP ro P ops Q S tl m listed a w:=by
 have late : ∀(l:Array Bool) (i:Nat),pB tl l=false→pB tl (l.setIfInBounds i true)=false:=λl i hl=>by
  unfold pB at hl ⊢
  rw [List.all_eq_false] at hl ⊢
  obtain ⟨j,hj,hb⟩:=hl
  refine ⟨j,hj,?_⟩
  simp only [Bool.not_eq_true,Bool.not_eq_false',Array.getD_eq_getD_getElem?] at hb ⊢
  by_cases e:i=j
  ·subst e
   cases hi:l[i]? with
   | none=>rw [hi] at hb; simp at hb
   | some b=>simp [(Array.getElem?_eq_some_iff.1 hi).1]
  ·rw [Array.getElem?_setIfInBounds_ne e]; exact hb
 induction m generalizing listed a w with
 | zero=>exact h
 | succ m ih=>
  refine ⟨h.1,λi hi=>?_⟩
  have h2:=h.2 i hi
  have mono : ∀a w,((pB tl' (listed.setIfInBounds i true)=true→S' w)∧oP ro P ops Q S' tl' m (listed.setIfInBounds i true) a w)→((pB tl (listed.setIfInBounds i true)=true→S w)∧oP ro P ops Q S tl m (listed.setIfInBounds i true) a w):=λa w hk=>
   ⟨λhh=>absurd ((late listed i he).symm.trans hh) (by decide),ih (late listed i he) hk.2⟩
  unfold wpOpIn at h2 ⊢
  cases hop:ops[i]? with
  | none=>rw [hop] at h2; exact mono _ _ h2
  | some o=>
   rw [hop] at h2
   simp only at h2 ⊢
   split
   ·rename_i hw; rw [if_pos hw] at h2; exact Oper.wpIn_mono mono h2
   ·rename_i hw; rw [if_neg hw] at h2; exact ⟨h2.1,mono _ _ h2.2⟩
theorem KN (S':World→Prop) (tl':List Nat) (h:oP ro P ops Q S' tl' m listed a w):oP ro P ops Q (λ_=>True) [] m listed a w:=by
 induction m generalizing listed a w with
 | zero=>exact h
 | succ m ih=>exact ⟨h.1,λi hi=>wpOpIn_mono (λa' w' hk=>⟨λ_=>trivial,ih hk.2⟩) (h.2 i hi)⟩
theorem agn (is:List Nat) (h:H4 (λi=>OpH ro P ops Q S tl m listed i a w) is) (hr:Region.ready md ops listed=is:=by kernel_rfl) (hne:is.isEmpty=false:=by rfl) (hm:Nat.ble 1 m=true:=by kernel_rfl):oP ro P ops Q S tl m listed a w:=by
 obtain ⟨f,rfl⟩ : ∃f,m=f+1:=⟨m-1,by have:=Nat.le_of_ble_eq_true hm; omega⟩
 exact ⟨λh0=>by rw [hr] at h0; subst h0; simp at hne,λi hi=>CE h i (by rw [← hr]; exact hi)⟩
end
section
variable {ro:Option Nat}{P:Program}{ops:Array Oper}{Q:Exit→Act→World→Prop}{S:World→Prop}{tl:List Nat}{N:Nat}{D:List Deferred}{L:FL}{a:Act}{w:World}{m:Nat}{listed:Array Bool}{o:Oper}{K:Act→World→Prop}
variable {M:List Nat}{κ0 κ:Gh}{w0:World}{C:List Ck}{R:List MP}
set_option linter.unusedVariables false in
theorem FI (hS:SS M κ0 w0 κ w C R) (tl':List Nat) (he:pB tl listed=false) (h:oP ro P ops Q (SSx M κ0 w0 (C.filter LG) R) tl' m listed a w):oP ro P ops Q S tl m listed a w:=GY _ tl' he h
set_option linter.unusedVariables false in
theorem mI (hS:SS M κ0 w0 κ w C R) (tl':List Nat) (h:oP ro P ops Q (SSx M κ0 w0 (C.filter LG) R) tl' m listed a w):oP ro P ops Q (λ_=>True) [] m listed a w:=KN _ tl' h
abbrev pk (C:List Ck) (is:List Nat):List Ck:=is.filterMap λi=>C[i]?
theorem wcS (k:Nat)(is:List Nat)(hF:Fr N D L a)(hS:SS M κ0 w0 κ w C R){f:FuncId}{args:Array Value}{φ:Value→Gh→World→Prop}
  (hcall:SS (jI ((pk C is).take k)) κ w κ w ((pk C is).take k) R→Calls P f args w (kP (jI ((pk C is).take k)) κ w φ))
  (kk : ∀v κ' w' a',φ v κ' w'→Fr N D (upd L o.dst v) a'→(∀Cout Rout,SS (jI ((pk C is).take k)) κ w κ' w' Cout Rout→SS M κ0 w0 κ' w' (Cout++(pk C is).drop k) (Rout++R))→K a' w')
  (hn:is.Nodup:=by decide) (hc:qM N L o=true:=by kernel_rfl) (hr:jK P (execOp (evD L) o)=some (.enter f args):=by kernel_rfl):wo ro P o a w K Q:=by
 have h1:SS M κ0 w0 κ w ((pk C is).take k++(pk C is).drop k) R:=by rw [List.take_append_drop]; exact hS.selp is hn (wB _ _)
 exact IW hF h1 hc hr hcall kk
end
structure SB (M:List Nat)(κ:Gh)(w:World)(C:List Ck)(R:List MP):Prop where
 hM:M=jI C
 hS:SS M κ w κ w C R
end Go.Cf
namespace Go.Cf
open Go
theorem IK : ∀l:List UInt8,Op.bytesLess l l=false:=λl=>by
 induction l with
 | nil=>rfl
 | cons a l ih=>simp [Op.bytesLess,ih]
theorem KK : ∀a b:List UInt8,(!Op.bytesLess a b)=(Op.bytesLess b a||b==a):=λa=>by
 induction a with
 | nil=>intro b; cases b<;>simp [Op.bytesLess]
 | cons x a ih=>
  intro b
  cases b with
  | nil=>simp [Op.bytesLess]
  | cons y b=>
   have hih:=ih b
   simp only [Op.bytesLess]
   rcases Nat.lt_trichotomy x.toNat y.toNat with h|h|h
   ·have h1:x<y:=h
    have h2 : ¬y<x:=λh3=>by have:y.toNat<x.toNat:=h3; omega
    have h3:x≠y:=λe=>by subst e; omega
    simp [h1,h2,h3,Ne.symm h3]
   ·have h0:x=y:=UInt8.toNat_inj.1 h
    subst h0
    have h2 : ¬x<x:=λh3=>by have:x.toNat<x.toNat:=h3; omega
    simp only [h2,decide_false,Bool.false_or,beq_self_eq_true,Bool.true_and,hih,List.cons_beq_cons]
   ·have h1:y<x:=h
    have h2 : ¬x<y:=λh3=>by have:x.toNat<y.toNat:=h3; omega
    have h3:x≠y:=λe=>by subst e; omega
    simp [h1,h2,h3,Ne.symm h3]
theorem GW (a:List UInt8):Op.bytesLess a []=false:=by cases a<;>rfl
end Go.Cf
namespace Go.Cf
open Go
end Go.Cf
namespace Go.Cf
open Go Go.MapKept
abbrev Mp (K V:Type):=Option (List (K×V))
class KO (K:Type) where
 lt:K→K→Bool
 irr : ∀a,lt a a=false
 tr : ∀a b c,lt a b=true→lt b c=true→lt a c=true
 tot : ∀a b,a≠b→lt a b=true∨lt b a=true
theorem NH : ∀a b c:List UInt8,Op.bytesLess a b=true→Op.bytesLess b c=true→Op.bytesLess a c=true:=λa=>by
 induction a with
 | nil=>
  intro b c h1 h2
  cases c with
  | nil=>rw [GW] at h2; cases h2
  | cons z c=>rfl
 | cons x a ih=>
  intro b c h1 h2
  cases b with
  | nil=>rw [GW] at h1; cases h1
  | cons y b=>
   cases c with
   | nil=>rw [GW] at h2; cases h2
   | cons z c=>
    simp only [Op.bytesLess,Bool.or_eq_true,decide_eq_true_eq,Bool.and_eq_true,beq_iff_eq] at h1 h2 ⊢
    rcases h1 with h1 | ⟨rfl,h1⟩
    ·rcases h2 with h2 | ⟨rfl,h2⟩
     ·exact .inl (Nat.lt_trans (show x.toNat<y.toNat from h1) (show y.toNat<z.toNat from h2))
     ·exact .inl h1
    ·rcases h2 with h2 | ⟨rfl,h2⟩
     ·exact .inl h2
     ·exact .inr ⟨rfl,ih _ _ h1 h2⟩
theorem CO {a b:ByteArray} (h:a.toList=b.toList):a=b:=by
 have h1:a.data.toList=b.data.toList:=by rw [← ByteArray.toList_eq,← ByteArray.toList_eq,h]
 cases a; cases b
 simpa using h1
instance:KO ByteArray where
 lt:=sLt
 irr a:=IK _
 tr a b c:=NH _ _ _
 tot a b h:=by
  have h1:=KK a.toList b.toList
  cases h2:Op.bytesLess a.toList b.toList
  ·rw [h2] at h1
   simp only [Bool.not_false,Bool.true_eq,Bool.or_eq_true,beq_iff_eq] at h1
   rcases h1 with h1|h1
   ·exact .inr h1
   ·exact absurd (CO h1).symm h
  ·exact .inl h2
instance:KO Int where
 lt a b:=decide (a<b)
 irr a:=by simp
 tr a b c h1 h2:=by simp only [decide_eq_true_eq] at *; omega
 tot a b h:=by simp only [decide_eq_true_eq]; omega
section
variable {K V:Type} [DecidableEq K]
def jS (l:List (K×V)) (k:K):Option V:=(l.find? λp=>decide (p.1=k)).map (·.2)
def EQ (l:List (K×V)) (k:K) (v:V):List (K×V):=if (jS l k).isSome then l.map (λp=>if p.1=k then (k,v) else p) else l++[(k,v)]
def lDel (l:List (K×V)) (k:K):List (K×V):=l.filter λp=>decide (p.1≠k)
def lPut [KO K]:List (K×V)→K→V→List (K×V)
 | [],k,v=>[(k,v)]
 | x::l,k,v=>if x.1=k then (k,v)::l else if KO.lt k x.1 then (k,v)::x::l else x::lPut l k v
def Srt [KO K] (l:List (K×V)):Prop:=l.Pairwise λx y=>KO.lt x.1 y.1=true
def mGet (m:Mp K V) (k:K):Option V:=m.bind λl=>jS l k
def mgt (m:Mp K V) (k:K) (z:V):Option (V×Bool):=some ((mGet m k).getD z,(mGet m k).isSome)
def uS [KO K] (m:Mp K V) (k:K) (v:V):Option (Mp K V):=m.map λl=>some (lPut l k v)
def mDel (m:Mp K V) (k:K):Mp K V:=m.map λl=>lDel l k
def mLen (m:Mp K V):Nat:=(m.getD []).length
def oM (m:Mp K V) (left:List K):List (K×V):=(m.getD []).filter λp=>decide (p.1∈left)
def pP (m:Mp K V):List K:=(m.getD []).map (·.1)
def kRem (left:List K) (k:K):List K:=left.filter λx=>decide (x≠k)
theorem oF {l:List (K×V)} {k:K}:jS l k=none ↔ ∀p∈l,p.1≠k:=by
 simp [jS,List.find?_eq_none]
theorem v7 {l:List (K×V)} (hn:(l.map (·.1)).Nodup) {j:Nat} {x:K×V} (h:l[j]? = some x):jS l x.1=some x.2:=by
 induction l generalizing j with
 | nil=>simp at h
 | cons y l ih=>
  simp only [List.map_cons,List.nodup_cons] at hn
  cases j with
  | zero=>simp only [List.getElem?_cons_zero,Option.some.injEq] at h; subst h; simp [jS]
  | succ j=>
   simp only [List.getElem?_cons_succ] at h
   have hne:y.1≠x.1:=λe=>hn.1 (e▸List.mem_map.2 ⟨x,List.mem_of_getElem? h,rfl⟩)
   have:=ih hn.2 h
   simp only [jS] at this ⊢
   rw [List.find?_cons_of_neg (by simpa using hne)]
   exact this
theorem pY {l:List (K×V)} {k:K} {v:V} (h:jS l k=some v):(k,v)∈l:=by
 simp only [jS,Option.map_eq_some_iff] at h
 obtain ⟨p,hp,rfl⟩:=h
 have h1:=List.find?_some hp
 simp only [decide_eq_true_eq] at h1
 subst h1
 exact List.mem_of_find?_eq_some hp
theorem EO {l:List (K×V)} (hn:(l.map (·.1)).Nodup) {j:Nat} {x:K×V} (h:l[j]? = some x) (v:V):EQ l x.1 v=l.set j (x.1,v):=by
 unfold EQ
 rw [if_pos (by rw [v7 hn h]; rfl)]
 apply List.ext_getElem?
 intro i
 rw [List.getElem?_map,List.getElem?_set]
 by_cases e:j=i
 ·subst e
  rw [h]
  simp [(List.getElem?_eq_some_iff.1 h).1]
 ·rw [if_neg e]
  cases hi:l[i]? with
  | none=>rfl
  | some y=>
   have:y.1≠x.1:=λq=>e (by
    have h1:(l.map (·.1))[i]? = some x.1:=by rw [List.getElem?_map,hi]; simp [q]
    have h2:(l.map (·.1))[j]? = some x.1:=by rw [List.getElem?_map,h]; rfl
    exact (List.getElem?_inj (by rw [List.length_map]; exact (List.getElem?_eq_some_iff.1 h).1) hn).1 (h2.trans h1.symm))
   simp [this]
theorem EP {l:List (K×V)} {k:K} (h:jS l k=none) (v:V):EQ l k v=l++[(k,v)]:=by unfold EQ; rw [h]; rfl
theorem D5 {l:List (K×V)} {k:K} (h:jS l k=none):lDel l k=l:=by
 unfold lDel
 rw [List.filter_eq_self]
 intro p hp
 simpa using oF.1 h p hp
theorem F2 {l:List (K×V)} (hn:(l.map (·.1)).Nodup) {j:Nat} {x:K×V} (h:l[j]? = some x):lDel l x.1=l.eraseIdx j:=by
 induction l generalizing j with
 | nil=>simp at h
 | cons y l ih=>
  simp only [List.map_cons,List.nodup_cons] at hn
  cases j with
  | zero=>
   simp only [List.getElem?_cons_zero,Option.some.injEq] at h; subst h
   have:jS l y.1=none:=oF.2 λp hp e=>hn.1 (e▸List.mem_map.2 ⟨p,hp,rfl⟩)
   simpa [lDel] using D5 this
  | succ j=>
   simp only [List.getElem?_cons_succ] at h
   have hne:y.1≠x.1:=λe=>hn.1 (e▸List.mem_map.2 ⟨x,List.mem_of_getElem? h,rfl⟩)
   have:=ih hn.2 h
   simp only [lDel] at this ⊢
   rw [List.filter_cons_of_pos (by simpa using hne),this]
   rfl
theorem CZ (l:List (K×V)) (k:K) (v:V) (k':K):jS (EQ l k v) k'=if k'=k then some v else jS l k':=by
 unfold EQ
 cases h:jS l k with
 | none=>
  rw [if_neg (by simp)]
  simp only [jS,List.find?_append]
  by_cases e:k'=k
  ·subst e
   have:l.find? (λp=>decide (p.1=k'))=none:=by simpa [jS] using h
   simp [this]
  ·rw [if_neg e]
   have:([(k,v)].find? λp=>decide (p.1=k'))=none:=by simp [Ne.symm e]
   rw [this,Option.or_none]
 | some u=>
  have hin : ∀l:List (K×V),(jS l k).isSome=true→jS (l.map λp=>if p.1=k then (k,v) else p) k'=if k'=k then some v else jS l k':=λl=>by
   induction l with
   | nil=>intro h; cases h
   | cons x l ih=>
    intro h
    simp only [jS,List.map_cons] at ih h ⊢
    by_cases e:x.1=k
    ·by_cases e':k'=k
     ·subst e'; simp [e]
     ·rw [if_pos e,if_neg e',List.find?_cons_of_neg (by simpa using Ne.symm e'),List.find?_cons_of_neg (by rw [e]; simpa using Ne.symm e')]
      clear ih h
      induction l with
      | nil=>rfl
      | cons y l ih=>
       simp only [List.map_cons]
       by_cases e2:y.1=k
       ·rw [if_pos e2,List.find?_cons_of_neg (by simpa using Ne.symm e'),List.find?_cons_of_neg (by rw [e2]; simpa using Ne.symm e')]; exact ih
       ·rw [if_neg e2]
        by_cases e3:y.1=k'
        ·rw [List.find?_cons_of_pos (by simpa using e3),List.find?_cons_of_pos (by simpa using e3)]
        ·rw [List.find?_cons_of_neg (by simpa using e3),List.find?_cons_of_neg (by simpa using e3)]; exact ih
    ·rw [if_neg e]
     rw [List.find?_cons_of_neg (by simpa using e)] at h
     by_cases e3:x.1=k'
     ·rw [List.find?_cons_of_pos (by simpa using e3),List.find?_cons_of_pos (by simpa using e3),if_neg (λq=>e (e3.trans q))]
     ·rw [List.find?_cons_of_neg (by simpa using e3),List.find?_cons_of_neg (by simpa using e3)]; exact ih h
  rw [if_pos (show (some u).isSome=true from rfl)]
  exact hin l (by rw [h]; rfl)
theorem qW (l:List (K×V)) (k k':K):jS (lDel l k) k'=if k'=k then none else jS l k':=by
 induction l with
 | nil=>simp [lDel,jS]
 | cons x l ih=>
  simp only [lDel,jS,List.filter_cons] at ih ⊢
  by_cases e:x.1=k
  ·simp only [e,ne_eq,not_true_eq_false,decide_false,Bool.false_eq_true,if_false]
   rw [ih]
   by_cases e':k'=k
   ·simp [e']
   ·rw [if_neg e',if_neg e',List.find?_cons_of_neg (by simp [e,Ne.symm e'])]
  ·simp only [ne_eq,e,not_false_eq_true,decide_true,if_true]
   by_cases e':x.1=k'
   ·subst e'
    rw [List.find?_cons_of_pos (by simp),List.find?_cons_of_pos (by simp),if_neg e]
   ·rw [List.find?_cons_of_neg (by simpa using e'),List.find?_cons_of_neg (by simpa using e'),ih]
section
variable [KO K]
theorem mC (l:List (K×V)) (k:K) (v:V) (k':K):jS (lPut l k v) k'=if k'=k then some v else jS l k':=by
 induction l with
 | nil=>
  by_cases e:k'=k
  ·subst e; simp [lPut,jS]
  ·simp [lPut,jS,e,Ne.symm e]
 | cons x l ih=>
  simp only [lPut]
  split
  ·rename_i h
   by_cases e:k'=k
   ·subst e; simp [jS]
   ·have h1:x.1≠k':=λq=>e (q.symm.trans h)
    simp [jS,e,Ne.symm e,h1]
  ·rename_i h
   split
   ·by_cases e:k'=k
    ·subst e; simp [jS]
    ·simp only [jS,if_neg e]
     rw [List.find?_cons_of_neg (by simpa using Ne.symm e)]
   ·by_cases e:x.1=k'
    ·have:k'≠k:=λq=>h (e.trans q)
     simp [jS,e,this]
    ·simp only [jS] at ih ⊢
     rw [List.find?_cons_of_neg (by simpa using e),List.find?_cons_of_neg (by simpa using e),ih]
theorem tM {l:List (K×V)} {k:K} {v:V} {x:K×V} (h:x∈lPut l k v):x=(k,v)∨x∈l:=by
 induction l with
 | nil=>simp [lPut] at h; exact .inl h
 | cons y l ih=>
  simp only [lPut] at h
  split at h
  ·rcases List.mem_cons.1 h with h|h
   ·exact .inl h
   ·exact .inr (List.mem_cons_of_mem _ h)
  ·split at h
   ·rcases List.mem_cons.1 h with h|h
    ·exact .inl h
    ·exact .inr h
   ·rcases List.mem_cons.1 h with rfl|h
    ·exact .inr (List.mem_cons_self ..)
    ·rcases ih h with h|h
     ·exact .inl h
     ·exact .inr (List.mem_cons_of_mem _ h)
theorem oK {l:List (K×V)} (h:Srt l) (k:K) (v:V):Srt (lPut l k v):=by
 induction l with
 | nil=>exact List.pairwise_singleton _ _
 | cons x l ih=>
  obtain ⟨h1,h2⟩:=List.pairwise_cons.1 h
  simp only [lPut]
  split
  ·rename_i e
   exact List.pairwise_cons.2 ⟨λy hy=>by rw [← e]; exact h1 y hy,h2⟩
  ·rename_i e
   split
   ·rename_i q
    refine List.pairwise_cons.2 ⟨λy hy=>?_,h⟩
    rcases List.mem_cons.1 hy with rfl|hy
    ·exact q
    ·exact KO.tr _ _ _ q (h1 y hy)
   ·rename_i q
    refine List.pairwise_cons.2 ⟨λy hy=>?_,ih h2⟩
    rcases tM hy with rfl|hy
    ·rcases KO.tot _ _ e with h|h
     ·exact h
     ·exact absurd h q
    ·exact h1 y hy
omit [DecidableEq K] in
theorem s7 [DecidableEq K] {l:List (K×V)} (h:Srt l) (k:K):Srt (lDel l k):=List.Pairwise.sublist List.filter_sublist h
omit [DecidableEq K] in
theorem Srt.nodup {l:List (K×V)} (h:Srt l):(l.map (·.1)).Nodup:=by
 refine List.Pairwise.map _ (λx y hxy e=>?_) h
 rw [e,KO.irr] at hxy; cases hxy
omit [KO K] in
theorem DR {l l':List (K×V)} (hn:(l.map (·.1)).Nodup) (hn':(l'.map (·.1)).Nodup) (h : ∀k,jS l k=jS l' k):l.Perm l':=by
 have nd : ∀ {l:List (K×V)},(l.map (·.1)).Nodup→l.Nodup:=λh=>List.Pairwise.of_map _ (λa b h e=>h (by rw [e])) h
 have sub : ∀ {l l':List (K×V)},(l.map (·.1)).Nodup→(∀k,jS l k=jS l' k) → ∀x∈l,x∈l':=λ{l l'} hn h x hx=>by
  obtain ⟨j,hj⟩:=List.mem_iff_getElem?.1 hx
  have:=v7 hn hj
  rw [h] at this
  exact pY this
 exact (List.perm_ext_iff_of_nodup (nd hn) (nd hn')).2 λx=>⟨sub hn h x,sub hn' (λk=>(h k).symm) x⟩
theorem Srt.ext {l l':List (K×V)} (h:Srt l) (h':Srt l') (hf : ∀k,jS l k=jS l' k):l=l':=by
 have hp:=DR h.nodup h'.nodup hf
 unfold Srt at h h'
 exact List.Perm.eq_of_pairwise (λa b _ _ (h1:KO.lt a.1 b.1=true) (h2:KO.lt b.1 a.1=true)=>absurd (KO.tr _ _ _ h1 h2) (by rw [KO.irr]; exact Bool.false_ne_true)) h h' hp
end
end
noncomputable def m3 {α β:Type} (l:List α) (f:α→Option β):Option β:=
 open Classical in match l with
 | []=>none
 | a::l=>if ∀b∈l,f b=f a then f a else none
theorem uY {α β:Type} {l:List α} {f:α→Option β} {r:β} (h:m3 l f=some r) : ∀a∈l,f a=some r:=by
 cases l with
 | nil=>intro a ha; cases ha
 | cons x l=>
  simp only [m3] at h
  split at h
  ·rename_i hall
   intro a ha
   rcases List.mem_cons.1 ha with rfl|ha
   ·exact h
   ·rw [hall a ha,h]
  ·cases h
theorem vA {α β:Type} {l:List α} {f:α→Option β} {r:β} (hne:l≠[]) (h : ∀a∈l,f a=some r):m3 l f=some r:=by
 cases l with
 | nil=>exact absurd rfl hne
 | cons x l=>
  simp only [m3]
  rw [if_pos (λb hb=>by rw [h b (by simp [hb]),h x (by simp)])]
  exact h x (by simp)
structure KT (K:Type) where
 enc:K→Value
 desc:TypeDesc
 key : ∀k,IsKey desc (enc k)
 inj : ∀a b,enc a=enc b→a=b
def kInt (q:IntKind):KT Int:=⟨.int q,.int q,λ_=>rfl,λ_ _ h=>by cases h; rfl⟩
def mkV (agg:Bool) (cs:List Value):Value:=if agg then .agg cs.toArray else cs.headD undef
structure LAt {K V:Type}(kt:KT K)(agg:Bool)(t:Ty V)(κ:Gh)(w:World)(es:Array MapEntry)(clk:Nat)(l:List (K×V)):Prop where
 st:Stamped es clk
 keys:es.toList.map (·.key)=l.map λx=>kt.enc x.1
 vals : ∀(i:Nat) e x,es.toList[i]? = some e→l[i]? = some x → ∃cs,e.val=mkV agg cs∧t.rep κ w cs x.2
def vB {K V:Type} [DecidableEq K] [KO K] (kt:KT K) (agg:Bool) (t:Ty V) (κ:Gh) (w:World) (p:Option Nat) (es:Array MapEntry) (clk:Nat) (m:Mp K V):Prop:=
 match m with
 | none=>p=none∧es = #[]
 | some l=>p.isSome=true∧Srt l ∧ ∃l0,LAt kt agg t κ w es clk l0 ∧ ∀k,jS l0 k=jS l k
def Map.mp {K V:Type} [DecidableEq K] [KO K] (kt:KT K) (agg:Bool) (t:Ty V) (p:Option Nat) (es:Array MapEntry) (clk:Nat) (m:Mp K V):MP:=
 ⟨λκ w=>vB kt agg t κ w p es clk m,λe h=>by
  cases m with
  | none=>exact h
  | some l=>
   obtain ⟨h1,hs,l0,h2,hf⟩:=h
   exact ⟨h1,hs,l0,⟨h2.st,h2.keys,λi x y hx hy=>let ⟨cs,h1,h2⟩:=h2.vals i x y hx hy; ⟨cs,h1,t.mono e h2⟩⟩,hf⟩⟩
section
variable {K V:Type}{kt:KT K}{agg:Bool}{t:Ty V}{κ:Gh}{w:World}{es:Array MapEntry}{clk:Nat}{l:List (K×V)}
theorem LAt.len (h:LAt kt agg t κ w es clk l):es.toList.length=l.length:=by
 have:=congrArg List.length h.keys
 simpa using this
theorem LAt.keyAt (h:LAt kt agg t κ w es clk l) {i:Nat} {e:MapEntry} {x:K×V} (he:es.toList[i]? = some e) (hx:l[i]? = some x):e.key=kt.enc x.1:=by
 have:=congrArg (λz=>z[i]?) h.keys
 simp only [List.getElem?_map,he,hx,Option.map_some,Option.some.injEq] at this
 exact this
theorem LAt.other (h:LAt kt agg t κ w es clk l) {i:Nat} {e:MapEntry} (he:es.toList[i]? = some e) : ∃x,l[i]? = some x:=
 ⟨l[i]'(by rw [← h.len]; exact (List.getElem?_eq_some_iff.1 he).1),List.getElem?_eq_getElem _⟩
theorem LAt.other' (h:LAt kt agg t κ w es clk l) {i:Nat} {x:K×V} (hx:l[i]? = some x) : ∃e,es.toList[i]? = some e:=
 ⟨es.toList[i]'(by rw [h.len]; exact (List.getElem?_eq_some_iff.1 hx).1),List.getElem?_eq_getElem _⟩
theorem LAt.isKey (h:LAt kt agg t κ w es clk l) : ∀e∈es.toList,IsKey kt.desc e.key:=λe he=>by
 obtain ⟨i,hi⟩:=List.mem_iff_getElem?.1 he
 obtain ⟨x,hx⟩:=h.other hi
 rw [h.keyAt hi hx]; exact kt.key _
theorem LAt.nodup (h:LAt kt agg t κ w es clk l):(l.map (·.1)).Nodup:=by
 have h1:=h.st.2.2
 rw [h.keys] at h1
 have h2:l.map (λx=>kt.enc x.1)=(l.map (·.1)).map kt.enc:=by simp
 rw [h2] at h1
 exact List.Pairwise.of_map kt.enc (λa b h e=>h (by rw [e])) h1
variable [DecidableEq K]
theorem LAt.find (h:LAt kt agg t κ w es clk l)(k:K) :
  (Instr.findNow kt.desc (kt.enc k) es.toList 0=some none∧jS l k=none ∧ ∀e∈es.toList,e.key≠kt.enc k) ∨
  ∃j e v cs,Instr.findNow kt.desc (kt.enc k) es.toList 0=some (some (j,e.val))∧es.toList[j]? = some e∧l[j]? = some (k,v)∧e.key=kt.enc k∧jS l k=some v∧e.val=mkV agg cs∧t.rep κ w cs v:=by
 rcases findNow_spec (kt.key k) es.toList 0 h.isKey with ⟨h1,h2⟩ | ⟨j,e,h1,h2,h3⟩
 ·refine .inl ⟨h1,oF.2 λp hp hk=>?_,h2⟩
  obtain ⟨i,hi⟩:=List.mem_iff_getElem?.1 hp
  obtain ⟨e,he⟩:=h.other' hi
  exact h2 e (List.mem_of_getElem? he) (by rw [h.keyAt he hi,hk])
 ·obtain ⟨x,hx⟩:=h.other h2
  have hk:x.1=k:=kt.inj _ _ ((h.keyAt h2 hx).symm.trans h3)
  obtain ⟨cs,h4,h5⟩:=h.vals j e x h2 hx
  subst hk
  exact .inr ⟨j,e,x.2,cs,by simpa using h1,h2,hx,h3,v7 h.nodup hx,h4,h5⟩
end
theorem rgX {ro:Option Nat} {P:Program} {ops:Array Oper} {Q:Exit→Act→World→Prop} {a:Act} {w w0:World} {M:List Nat} {κ0 κ:Gh} {C:List Ck} {R:List MP} {id:Nat} (_hS:SS M κ0 w0 κ w C R) (is:List Nat) (h:oP ro P ops Q (SSx M κ0 w0 (pk C is) R) [] ops.size (Array.replicate ops.size false) a {w with drawn:=w.drawn+1}) (hm:P.follows .mixedOrders=true:=by kernel_rfl):(Code.region id ops true).wpIn (FW ro) 0 P Q a w:=
 z7 _ [] hm rfl rfl h
def yJ:Obj→Bool
 | .cells .. => false
 | _=>true
def objX (p:Option Nat) (o:Obj):XF:=
 {
  bs:=p.toList
  p:=λκ w=>∀b,p=some b→w.heap[b]? = some o∧κ b=none
  mono:=λ{M κ w κ' w'} e hb hp b hpb=>by
   obtain ⟨h1,h2⟩:=hb b (by simp [hpb])
   obtain ⟨k1,k2⟩:=e.keep b h1 h2
   obtain ⟨q1,q2⟩:=hp b hpb
   exact ⟨k1.trans q1,k2.trans q2⟩}
section
variable {M:List Nat}{κ0 κ:Gh}{w0 w:World}{C C':List Ck}{R R':List MP}
theorem SS.newObj (h:SS M κ0 w0 κ w C R) (o:Obj) (ho:yJ o=true):SS M κ0 w0 κ (w.alloc o) (.ext (objX (some w.heap.size) o)::C) R:=by
 have hext:Ext [] κ w κ (w.alloc o):=
  ⟨rfl,rfl,rfl,by rw [mA]; omega,λb hb _=>⟨mD w o b hb,rfl⟩,λb n hn=>⟨n,hn,Nat.le_refl _,λi _=>lM (mD w o b (by
   rcases Nat.lt_or_ge b w.heap.size with h'|h'
   ·exact h'
   ·rw [h.fresh b h'] at hn; cases hn))⟩⟩
 have h':=h.step hext (h.fresh.alloc o)
 have hb:jI (.ext (objX (some w.heap.size) o)::C)=w.heap.size::jI C:=rfl
 refine ⟨h'.ext,h'.fresh,λc hc=>?_,λb hb'=>?_,?_,λb hb'=>?_,h'.ro⟩
 ·rcases List.mem_cons.1 hc with rfl|hc
  ·intro b hb'
   cases hb'
   exact ⟨nD _ _,h.fresh _ (Nat.le_refl _)⟩
  ·exact h'.ok c hc
 ·rw [hb] at hb'
  rcases List.mem_cons.1 hb' with rfl|hb'
  ·rw [mA]; omega
  ·exact h'.lt b hb'
 ·rw [hb]
  exact List.nodup_cons.2 ⟨λhm=>by have:=h.lt _ hm; omega,h.nd⟩
 ·rw [hb] at hb'
  rcases List.mem_cons.1 hb' with rfl|hb'
  ·exact .inl h.ext.size
  ·exact h.own b hb'
theorem SS.setObj (h:SS M κ0 w0 κ w C R)(i:Nat){b:Nat}{o:Obj}(hC:C[i]? = some (.ext (objX (some b) o)))(o':Obj)(ho:yJ o=true)(ho':yJ o'=true) :
  SS M κ0 w0 κ {w with heap:=w.heap.setIfInBounds b o'} (C.set i (.ext (objX (some b) o'))) R:=by
 obtain ⟨h1,h2⟩:=(h.ck i hC : ∀b',some b=some b'→_) b rfl
 have hlt:b<w.heap.size:=(Array.getElem?_eq_some_iff.1 h1).1
 have hoth : ∀b',b'≠b→({w with heap:=w.heap.setIfInBounds b o'}:World).heap[b']? = w.heap[b']? := λb' hne=>by
  show (w.heap.setIfInBounds b _)[b']? = _
  rw [Array.getElem?_setIfInBounds_ne (Ne.symm hne)]
 have hme:({w with heap:=w.heap.setIfInBounds b o'}:World).heap[b]? = some o':=by
  show (w.heap.setIfInBounds b _)[b]? = _
  simp [hlt]
 have hext:Ext (Ck.ext (objX (some b) o)).blks κ w κ {w with heap:=w.heap.setIfInBounds b o'}:=
  ⟨rfl,rfl,rfl,by simp,λb' _ hm=>⟨hoth b' (by simpa [Ck.blks,objX] using hm),rfl⟩,λb' n hn=>⟨n,hn,Nat.le_refl _,λk _=>lM (hoth b' λe=>by rw [e,h2] at hn; cases hn)⟩⟩
 obtain ⟨hCe,hCs⟩:=uP (c' := .ext (objX (some b) o')) hC
 rw [hCs]
 refine h.turn _ _ hCe hext (λb' hb'=>h.fresh b' (by simpa using hb')) (λb' hb'=>?_) (λb' hb'=>.inl hb') (λb' hb'=>?_) (by simp [Ck.blks,objX])
 ·cases hb'; exact ⟨hme,h2⟩
 ·simp [Ck.blks,objX] at hb'; subst hb'; simpa using hlt
end
section
variable {ro:Option Nat}{P:Program}{ops:Array Oper}{Q:Exit→Act→World→Prop}{N:Nat}{D:List Deferred}{L L':FL}{a:Act}{w:World}{o:Oper}{G:Act→World→Prop}
variable {M:List Nat}{κ0 κ:Gh}{w0:World}{C C':List Ck}{R R':List MP}
variable {K V:Type}{kt:KT K}{agg:Bool}{t:Ty V}{es:Array MapEntry}{clk:Nat}{p:Option Nat}{m:Mp K V} [DecidableEq K] [KO K]
theorem sS (hF:Fr N D L a)(hS:SS M κ0 w0 κ w C R)(hc:qM N L o=true)(kt:KT K)(agg:Bool)(t:Ty V){T:Nat}(hop:o.op = .makeMap T none)
  (kk : ∀b a' w',Fr N D (upd L o.dst (.map (some b))) a'→SS M κ0 w0 κ w' (.ext (objX (some b) (.map #[] 0))::C) (Map.mp kt agg t (some b) #[] 0 (some [])::R)→G a' w'):wo ro P o a w G Q:=by
 refine kQ hF hc (v := .map (some w.heap.size)) (w':=w.alloc (.map #[] 0)) ?_ λa' hF'=>kk _ a' _ hF' ((hS.newObj _ rfl).add ?_)
 ·simp only [execOp,hop]
  simp [Instr.makeMap,newObj]
  rfl
 ·exact ⟨rfl,List.Pairwise.nil,[],⟨stamped_empty 0,rfl,λi e x he=>by simp at he⟩,λk=>rfl⟩
theorem G7 {T KT E:Nat}{z:Value}{zc:List Value}{zm:V}{k:K}(c:Bool)(ht:P.underlying T=some (.map KT E))(hk:P.underlying KT=some kt.desc)(hz:(zeroValue E).run P w = .ok z w)(hzv:z=mkV agg zc)(hzr:t.rep κ w zc zm)
  (hm:vB kt agg t κ w p es clk m) (hb : ∀b,p=some b→w.heap[b]? = some (.map es clk)) :
  ∃cs,(Instr.lookup T (.map p) (kt.enc k) c).run P w = .ok (if c then .tuple #[mkV agg cs,.bool (mGet m k).isSome] else mkV agg cs) w∧t.rep κ w cs ((mGet m k).getD zm):=by
 subst hzv
 cases m with
 | none=>
  obtain ⟨rfl,-⟩:=hm
  refine ⟨zc,?_,hzr⟩
  have hfn:Instr.findNow kt.desc (kt.enc k) [] 0=some none:=rfl
  cases c<;>simp [Instr.lookup,run_underlying ht,run_checkKey hk (kt.key k),run_findKey hk hfn,hz,Result.andThen,mGet]
 | some l=>
  obtain ⟨hp,-,l0,hl,hf⟩:=hm
  obtain ⟨b,rfl⟩:=Option.isSome_iff_exists.1 hp
  have hb':=hb b rfl
  have hfk:=hf k
  rcases hl.find k with ⟨h1,h2,-⟩ | ⟨j,e,v,cs,h1,-,-,-,h5,h6,h7⟩
  ·rw [h2] at hfk
   have h2:=hfk.symm
   refine ⟨zc,?_,by simpa [mGet,h2] using hzr⟩
   cases c<;>simp [Instr.lookup,run_underlying ht,MapKept.run_getObj_map hb',run_checkKey hk (kt.key k),run_findKey hk h1,hz,Result.andThen,mGet,h2]
  ·rw [h5] at hfk
   have h5:=hfk.symm
   refine ⟨cs,?_,by simpa [mGet,h5] using h7⟩
   cases c<;>simp [Instr.lookup,run_underlying ht,MapKept.run_getObj_map hb',run_checkKey hk (kt.key k),run_findKey hk h1,Result.andThen,mGet,h5,h6]
theorem w5 {M:List Nat}{κ0 κ:Gh}{w0 w:World}{C:List Ck}{R:List MP}(hS:SS M κ0 w0 κ w C R)(ri:Nat){T KT E:Nat}{c:Bool}{x y:Operand}{k:K}{zc:List Value}{zm:V}{r:V×Bool}(hop:o.op = .lookup T x y c)(hx:ev L x=some (.map p))(hy:ev L y=some (kt.enc k))
  (hR:R[ri]? = some (Map.mp kt agg t p es clk m)) (hr:mgt m k zm=some r)
  (ht:jK P (underlying T)=some (.map KT E)) (hk:jK P (underlying KT)=some kt.desc) (hz:jK P (zeroValue E)=some (mkV agg zc)) (hzr : ∀κ w,t.rep κ w zc zm) :
  ∃cs,t.rep κ w cs r.1 ∧ ∀ {M:List Nat} {κ0:Gh} {w0:World} {C0:List Ck} {R0:List MP} (ci:Nat),C0[ci]? = some (.ext (objX p (.map es clk))) → ∀w',SSx M κ0 w0 C0 R0 w'→(execOp (evD L) o).run P w' = .ok (.value (if c then .tuple #[mkV agg cs,.bool r.2] else mkV agg cs)) w':=by
 simp only [mgt,Option.some.injEq] at hr
 subst hr
 have hm:vB kt agg t κ w p es clk m:=hS.get ri hR
 obtain ⟨cs,hcs,hrun⟩ : ∃cs,t.rep κ w cs ((mGet m k).getD zm) ∧ ∀w',(∀b,p=some b→w'.heap[b]? = some (.map es clk))→(Instr.lookup T (.map p) (kt.enc k) c).run P w' = .ok (if c then .tuple #[mkV agg cs,.bool (mGet m k).isSome] else mkV agg cs) w':=by
  have ht:=mQ ht; have hk:=mQ hk
  cases m with
  | none=>
   obtain ⟨rfl,-⟩:=hm
   refine ⟨zc,hzr κ w,λw' _=>?_⟩
   have hfn:Instr.findNow kt.desc (kt.enc k) [] 0=some none:=rfl
   have hz:=jX _ hz w'
   cases c<;>simp [Instr.lookup,run_underlying ht,run_checkKey hk (kt.key k),run_findKey hk hfn,hz,Result.andThen,mGet]
  | some l=>
   obtain ⟨hp,-,l0,hl,hf⟩:=hm
   obtain ⟨b,rfl⟩:=Option.isSome_iff_exists.1 hp
   have hfk:=hf k
   rcases hl.find k with ⟨h1,h2,-⟩ | ⟨j,e,v,cs,h1,-,-,-,h5,h6,h7⟩
   ·rw [h2] at hfk
    have h2:=hfk.symm
    refine ⟨zc,by simpa [mGet,h2] using hzr κ w,λw' hb=>?_⟩
    have hb':=hb b rfl
    have hz:=jX _ hz w'
    cases c<;>simp [Instr.lookup,run_underlying ht,MapKept.run_getObj_map hb',run_checkKey hk (kt.key k),run_findKey hk h1,hz,Result.andThen,mGet,h2]
   ·rw [h5] at hfk
    have h5:=hfk.symm
    refine ⟨cs,by simpa [mGet,h5] using h7,λw' hb=>?_⟩
    have hb':=hb b rfl
    cases c<;>simp [Instr.lookup,run_underlying ht,MapKept.run_getObj_map hb',run_checkKey hk (kt.key k),run_findKey hk h1,Result.andThen,mGet,h5,h6]
 refine ⟨cs,hcs,λ{M κ0 w0 C0 R0} ci hC w' hw=>?_⟩
 obtain ⟨κ',hw⟩:=hw
 have h1:=hrun w' (λb hb=>((hw.ck ci hC : ∀b',p=some b'→_) b hb).1)
 simp only [execOp,hop,evD,hx,hy,Option.getD_some]
 simp only [Sem.run_bind,h1,Result.andThen]
 rfl
theorem uI (hF:Fr N D L a)(hS:SS M κ0 w0 κ w C R)(hc:qM N L o=true)(ci ri:Nat){T KT E:Nat}{c:Bool}{x y:Operand}{k:K}{zc:List Value}{zm:V}{r:V×Bool}(hop:o.op = .lookup T x y c)(hx:ev L x=some (.map p))(hy:ev L y=some (kt.enc k))
  (hC:C[ci]? = some (.ext (objX p (.map es clk)))) (hR:R[ri]? = some (Map.mp kt agg t p es clk m)) (hr:mgt m k zm=some r)
  (ht:jK P (underlying T)=some (.map KT E)) (hk:jK P (underlying KT)=some kt.desc) (hz:jK P (zeroValue E)=some (mkV agg zc)) (hzr : ∀κ w,t.rep κ w zc zm)
  (kk : ∀cs a',t.rep κ w cs r.1→Fr N D (upd L o.dst (if c then .tuple #[mkV agg cs,.bool r.2] else mkV agg cs)) a'→G a' w):wo ro P o a w G Q:=by
 simp only [mgt,Option.some.injEq] at hr
 subst hr
 obtain ⟨cs,h1,h2⟩:=G7 (P:=P) (w:=w) (k:=k) c (mQ ht) (mQ hk) (jX _ hz w) rfl (hzr κ w) (hS.get ri hR) (λb hb=>((hS.ck ci hC : ∀b',p=some b'→_) b hb).1)
 refine kQ hF hc (w':=w) ?_ λa' hF'=>kk cs a' h2 hF'
 simp only [execOp,hop,evD,hx,hy,Option.getD_some]
 simp only [Sem.run_bind,h1,Result.andThen]
 rfl
theorem DK {α:Type} {l:List α} {i j:Nat} {x y:α} (h:(l.set j x)[i]? = some y):(j=i∧y=x)∨(j≠i∧l[i]? = some y):=by
 rw [List.getElem?_set] at h
 split at h
 ·rename_i e
  split at h
  ·simp at h; exact .inl ⟨e,h.symm⟩
  ·cases h
 ·rename_i e; exact .inr ⟨e,h⟩
theorem CM {es:Array MapEntry} {j:Nat} {e:MapEntry} (h:es.toList[j]? = some e) (f:MapEntry→MapEntry):(es.modify j f).toList=es.toList.set j (f e):=by
 apply List.ext_getElem?
 intro i
 rw [Array.getElem?_toList,Array.getElem?_modify,List.getElem?_set]
 by_cases q:j=i
 ·subst q
  have h':es[j]? = some e:=by simpa using h
  obtain ⟨h1,h2⟩:=Array.getElem?_eq_some_iff.1 h'
  simp [h1,h2]
 ·simp [q]
theorem CL {T KT E:Nat}{k:K}{v:V}{cs:List Value}{m':Mp K V}(ht:P.underlying T=some (.map KT E))(hk:P.underlying KT=some kt.desc)(hv:t.rep κ w cs v)
  (hm:vB kt agg t κ w p es clk m) (hb : ∀b,p=some b→w.heap[b]? = some (.map es clk)) (hp:uS m k v=some m') :
  ∃b es' clk',p=some b∧(Instr.mapUpdate T (.map p) (kt.enc k) (mkV agg cs)).run P w = .ok () {w with heap:=w.heap.setIfInBounds b (.map es' clk')}∧vB kt agg t κ w p es' clk' m' ∧
   ((mGet m k).isSome=true→clk'=clk ∧ ∀e'∈es'.toList,∃e∈es.toList,e.born=e'.born∧e.key=e'.key):=by
 cases m with
 | none=>cases hp
 | some l=>
  simp only [uS,Option.map_some,Option.some.injEq] at hp
  subst hp
  obtain ⟨hp,hs,l0,hl,hf⟩:=hm
  obtain ⟨b,rfl⟩:=Option.isSome_iff_exists.1 hp
  have hb':=hb b rfl
  rcases hl.find k with ⟨h1,h2,h3⟩ | ⟨j,e,v0,cs0,h1,h2,h3,h4,h5,h6,h7⟩
  ·refine ⟨b,es.push ⟨kt.enc k,mkV agg cs,clk⟩,clk+1,rfl,?_,⟨rfl,oK hs k v,EQ l0 k v,⟨stamped_push hl.st h3,?_,λi e x he hx=>?_⟩,λk'=>by rw [CZ,mC,hf]⟩,λh=>by simp [mGet,← hf,h2] at h⟩
   ·simp [Instr.mapUpdate,run_underlying ht,MapKept.run_getObj_map hb',run_checkKey hk (kt.key k),run_findKey hk h1,MapKept.run_setObj_map _ hb',Result.andThen]
   ·rw [EP h2]; simp [hl.keys]
   ·rw [EP h2] at hx
    simp only [Array.toList_push] at he
    rw [List.getElem?_append] at he hx
    rw [hl.len] at he
    split at hx
    ·rename_i hi
     rw [if_pos hi] at he
     exact hl.vals i e x he hx
    ·rename_i hi
     rw [if_neg hi] at he
     have e0:i-l0.length=0:=by
      have:=(List.getElem?_eq_some_iff.1 hx).1
      simp at this; omega
     rw [e0] at he hx
     simp at he hx
     subst he hx
     exact ⟨cs,rfl,hv⟩
  ·have hj:es[j]? = some e:=by simpa using h2
   have hkeyf : ∀e',es[j]? = some e'→({e' with key:=kt.enc k,val:=mkV agg cs}:MapEntry).key=e'.key:=λe' he'=>by rw [hj] at he'; cases he'; exact h4.symm
   have hlist:=CM h2 (λe'=>{e' with key:=kt.enc k,val:=mkV agg cs})
   refine ⟨b,es.modify j (λe'=>{e' with key:=kt.enc k,val:=mkV agg cs}),clk,rfl,?_,⟨rfl,oK hs k v,EQ l0 k v,⟨stamped_modify hl.st _ _ (λ_ _=>rfl) (λe' _ he'=>hkeyf e' he'),?_,λi x y hx hy=>?_⟩,λk'=>by rw [CZ,mC,hf]⟩,λ_=>⟨rfl,λe' he'=>?_⟩⟩
   ·simp [Instr.mapUpdate,run_underlying ht,MapKept.run_getObj_map hb',run_checkKey hk (kt.key k),run_findKey hk h1,hj,h4,run_keyThatStays (kt.key k),MapKept.run_setObj_map _ hb',Result.andThen]
   ·rw [modify_keys _ _ hkeyf,hl.keys,EO hl.nodup h3]
    apply List.ext_getElem?
    intro i
    simp only [List.getElem?_map,List.getElem?_set]
    by_cases q:j=i
    ·subst q; rw [h3]; simp [(List.getElem?_eq_some_iff.1 h3).1]
    ·simp [q]
   ·rw [hlist] at hx
    rw [EO hl.nodup h3] at hy
    rcases DK hx with ⟨q,rfl⟩ | ⟨q,hx⟩
    ·rcases DK hy with ⟨_,rfl⟩ | ⟨q',_⟩
     ·exact ⟨cs,rfl,hv⟩
     ·exact absurd q q'
    ·rcases DK hy with ⟨q',_⟩ | ⟨_,hy⟩
     ·exact absurd q' q
     ·exact hl.vals i x y hx hy
   ·rw [hlist] at he'
    obtain ⟨i,hi⟩:=List.mem_iff_getElem?.1 he'
    rcases DK hi with ⟨_,rfl⟩ | ⟨_,hi⟩
    ·exact ⟨e,List.mem_of_getElem? h2,rfl,h4⟩
    ·exact ⟨e',List.mem_of_getElem? hi,rfl,rfl⟩
theorem C9 {T:Nat} {x y z:Operand} {u v k:Value} {w':World} (hop:o.op = .mapUpdate T x y z) (hx:ev L x=some u) (hy:ev L y=some k) (hz:ev L z=some v) (hr:(Instr.mapUpdate T u k v).run P w = .ok () w'):(execOp (evD L) o).run P w = .ok .skip w':=by
 simp only [execOp,hop,evD,hx,hy,hz,Option.getD_some]
 simp [hr]
theorem SS.setMap (h:SS M κ0 w0 κ w C R)(i:Nat){b:Nat}{o o':Obj}(hC:C[i]? = some (.ext (objX (some b) o)))(ho:yJ o=true)(ho':yJ o'=true){m:MP}(hm:m.p κ w) :
  SS M κ0 w0 κ {w with heap:=w.heap.setIfInBounds b o'} (C.set i (.ext (objX (some b) o'))) (m::R):=(h.add hm).setObj i hC o' ho ho'
theorem oC (hF:Fr N D L a)(hS:SS M κ0 w0 κ w C R)(hc:qM N L o=true)(ci ri:Nat){T KT E:Nat}{x y u:Operand}{k:K}{v:V}{cs:List Value}{m':Mp K V}(hop:o.op = .mapUpdate T x y u)(hx:ev L x=some (.map p))(hy:ev L y=some (kt.enc k))(hu:ev L u=some (mkV agg cs))(hv:t.rep κ w cs v)
  (hC:C[ci]? = some (.ext (objX p (.map es clk)))) (hR:R[ri]? = some (Map.mp kt agg t p es clk m)) (hp:uS m k v=some m')
  (ht:jK P (underlying T)=some (.map KT E)) (hk:jK P (underlying KT)=some kt.desc)
  (kk : ∀es' clk' a' w',Fr N D (upd L o.dst undef) a'→SS M κ0 w0 κ w' (C.set ci (.ext (objX p (.map es' clk')))) (Map.mp kt agg t p es' clk' m'::R)→G a' w'):wo ro P o a w G Q:=by
 obtain ⟨b,es',clk',rfl,h1,h2,-⟩:=CL (P:=P) (w:=w) (k:=k) (mQ ht) (mQ hk) hv (hS.get ri hR) (λb hb=>((hS.ck ci hC : ∀b',p=some b'→_) b hb).1) hp
 exact zN hF hc (C9 hop hx hy hu h1) λa' hF'=>kk es' clk' a' _ hF' (hS.setMap ci hC rfl rfl h2)
theorem G8 {T KT E ty:Nat}{k:K}(ht:P.underlying T=some (.map KT E))(hk:P.underlying KT=some kt.desc)
  (hm:vB kt agg t κ w p es clk m) (hb : ∀b,p=some b→w.heap[b]? = some (.map es clk)) :
  ∃es' w',(Builtin.delete_ #[T,KT] ty #[.map p,kt.enc k]).run P w = .ok (.tuple #[]) w'∧vB kt agg t κ w p es' clk (mDel m k)∧es'.toList.Sublist es.toList ∧
   ((p=none∧w'=w∧es'=es) ∨ ∃b,p=some b∧w'={w with heap:=w.heap.setIfInBounds b (.map es' clk)}):=by
 cases m with
 | none=>
  obtain ⟨rfl,rfl⟩:=hm
  refine ⟨#[],w,?_,⟨rfl,rfl⟩,List.Sublist.refl _,.inl ⟨rfl,rfl,rfl⟩⟩
  simp [Builtin.delete_,run_underlying ht,run_checkKey hk (kt.key k),Result.andThen]
 | some l=>
  obtain ⟨hp,hs,l0,hl,hf⟩:=hm
  obtain ⟨b,rfl⟩:=Option.isSome_iff_exists.1 hp
  have hb':=hb b rfl
  rcases hl.find k with ⟨h1,h2,h3⟩ | ⟨j,e,v0,cs0,h1,h2,h3,h4,h5,h6,h7⟩
  ·refine ⟨es,_,?_,⟨rfl,s7 hs k,lDel l0 k,by rw [D5 h2]; exact hl,λk'=>by rw [qW,qW,hf]⟩,List.Sublist.refl _,.inr ⟨b,rfl,rfl⟩⟩
   simp [Builtin.delete_,run_underlying ht,MapKept.run_getObj_map hb',run_checkKey hk (kt.key k),run_findKey hk h1,MapKept.run_setObj_map _ hb',Result.andThen]
  ·have hjl:j<es.toList.length:=(List.getElem?_eq_some_iff.1 h2).1
   have hjs:j<es.size:=by simpa using hjl
   have hsub:(es.eraseIdxIfInBounds j).toList=es.toList.eraseIdx j:=by
    unfold Array.eraseIdxIfInBounds
    rw [dif_pos hjs]
    simp
   refine ⟨es.eraseIdxIfInBounds j,_,?_,⟨rfl,s7 hs k,lDel l0 k,⟨stamped_erase hl.st j,?_,λi x y hx hy=>?_⟩,λk'=>by rw [qW,qW,hf]⟩,by rw [hsub]; exact List.eraseIdx_sublist _ _,.inr ⟨b,rfl,rfl⟩⟩
   ·simp [Builtin.delete_,run_underlying ht,MapKept.run_getObj_map hb',run_checkKey hk (kt.key k),run_findKey hk h1,MapKept.run_setObj_map _ hb',Result.andThen]
   ·have h8:lDel l0 k=l0.eraseIdx j:=F2 hl.nodup h3
    show _=List.map (λx=>kt.enc x.1) (lDel l0 k)
    rw [hsub,h8]
    apply List.ext_getElem?
    intro i
    have hkk:=λ(i:Nat)=>congrArg (λz:List Value=>z[i]?) hl.keys
    simp only [List.getElem?_map] at hkk
    simp only [List.getElem?_map,List.getElem?_eraseIdx]
    split<;>exact hkk _
   ·have h8:lDel l0 k=l0.eraseIdx j:=F2 hl.nodup h3
    rw [hsub] at hx
    replace hy:(lDel l0 k)[i]? = some y:=hy
    rw [h8] at hy
    rw [List.getElem?_eraseIdx] at hx hy
    split at hy
    ·rename_i hi; rw [if_pos hi] at hx; exact hl.vals _ x y hx hy
    ·rename_i hi; rw [if_neg hi] at hx; exact hl.vals _ x y hx hy
theorem F6 {x y:Operand} {T T':Nat} {u v r:Value} {w':World} (hop:o.op = .call {callee := .builtin .delete,args := #[x,y],argTypes := #[T,T']}) (hx:ev L x=some u) (hy:ev L y=some v) (hr:(Builtin.delete_ #[T,T'] o.type #[u,v]).run P w = .ok r w'):(execOp (evD L) o).run P w = .ok (.value r) w':=by
 have hex:evD L x=u:=by simp [evD,hx]
 have hey:evD L y=v:=by simp [evD,hy]
 simp only [execOp,hop]
 simp [resolve,invoke,Go.builtin,hex,hey,hr]
theorem wM (hF:Fr N D L a) (hS:SS M κ0 w0 κ w C R) (hc:qM N L o=true) (ci ri:Nat) {T KT E:Nat} {x y:Operand} {k:K} (hop:o.op = .call {callee := .builtin .delete,args := #[x,y],argTypes := #[T,KT]}) (hx:ev L x=some (.map p)) (hy:ev L y=some (kt.enc k))
  (hC:C[ci]? = some (.ext (objX p (.map es clk)))) (hR:R[ri]? = some (Map.mp kt agg t p es clk m))
  (ht:jK P (underlying T)=some (.map KT E)) (hk:jK P (underlying KT)=some kt.desc)
  (kk : ∀es' a' w',es'.toList.Sublist es.toList→Fr N D (upd L o.dst (.tuple #[])) a'→SS M κ0 w0 κ w' (C.set ci (.ext (objX p (.map es' clk)))) (Map.mp kt agg t p es' clk (mDel m k)::R)→G a' w'):wo ro P o a w G Q:=by
 obtain ⟨es',w',h1,h2,h3,h4⟩:=G8 (P:=P) (w:=w) (k:=k) (ty:=o.type) (mQ ht) (mQ hk) (hS.get ri hR) (λb hb=>((hS.ck ci hC : ∀b',p=some b'→_) b hb).1)
 refine kQ hF hc (F6 hop hx hy h1) λa' hF'=>kk es' a' _ h3 hF' ?_
 rcases h4 with ⟨rfl,rfl,rfl⟩ | ⟨b,rfl,rfl⟩
 ·have:C.set ci (.ext (objX none (.map es' clk)))=C:=by
   obtain ⟨hi,he⟩:=List.getElem?_eq_some_iff.1 hC
   rw [← he]; exact List.set_getElem_self hi
  rw [this]
  exact hS.add h2
 ·exact hS.setMap ci hC rfl rfl h2
theorem vO (hF:Fr N D L a) (hS:SS M κ0 w0 κ w C R) (hc:qM N L o=true) (ci ri:Nat) {T KT E:Nat} {x:Operand} (hop:o.op = .call {callee := .builtin .len,args := #[x],argTypes := #[T]}) (hx:ev L x=some (.map p))
  (hC:C[ci]? = some (.ext (objX p (.map es clk)))) (hR:R[ri]? = some (Map.mp kt agg t p es clk m)) (ht:jK P (underlying T)=some (.map KT E))
  (kk : ∀a',Fr N D (upd L o.dst (.int .i64 (mLen m:Int))) a'→G a' w):wo ro P o a w G Q:=by
 refine kQ hF hc (v := .int .i64 (mLen m:Int)) (w':=w) ?_ kk
 have hex:evD L x = .map p:=by simp [evD,hx]
 have hm:vB kt agg t κ w p es clk m:=hS.get ri hR
 simp only [execOp,hop]
 cases m with
 | none=>
  obtain ⟨rfl,-⟩:=hm
  simp [resolve,invoke,Go.builtin,hex,Builtin.len_,run_underlying (mQ ht),Result.andThen,goInt,mLen]
 | some l=>
  obtain ⟨hp,hs,l0,hl,hf⟩:=hm
  obtain ⟨b,rfl⟩:=Option.isSome_iff_exists.1 hp
  have hb':=((hS.ck ci hC : ∀b',some b=some b'→_) b rfl).1
  have hlen:es.size=l.length:=by
   have h1:es.size=l0.length:=by simpa using hl.len
   rw [h1]; exact (DR hl.nodup hs.nodup hf).length_eq
  simp [resolve,invoke,Go.builtin,hex,Builtin.len_,run_underlying (mQ ht),MapKept.run_getObj_map hb',Result.andThen,goInt,mLen,hlen]
end
end Go.Cf
namespace Go.Cf
open Go Go.MapKept
def itO (p:Option Nat) (clk:Nat) (seen:Array Nat):Obj:=
 match p with
 | none=>.mapIter none 0 #[] 0
 | some b=>.mapIter (some b) clk seen clk
theorem DT (p:Option Nat) (clk:Nat) (seen:Array Nat):yJ (itO p clk seen)=true:=by cases p<;>rfl
def E0 {K:Type} (kt:KT K) (es:Array MapEntry) (seen:Array Nat) (left:List K):Prop := ∀e∈es.toList,∀k,e.key=kt.enc k→(seen.contains e.born=false↔k∈left)
def It.mp {K:Type} (kt:KT K) (es:Array MapEntry) (seen:Array Nat) (left:List K):MP:=MP.const (E0 kt es seen left)
def Cur.mp {K V:Type} [DecidableEq K] (kt:KT K) (es:Array MapEntry) (seen:Array Nat) (m:Mp K V) (x:K×V):MP:=
 MP.const ((∃e∈es.toList,seen.back? = some e.born∧e.key=kt.enc x.1)∧mGet m x.1=some x.2)
theorem E0.sub {K:Type} {kt:KT K} {es es':Array MapEntry} {seen:Array Nat} {left:List K} (h:E0 kt es seen left) (hs:es'.toList.Sublist es.toList):E0 kt es' seen left:=λe he k hk=>h e (hs.subset he) k hk
theorem E0.turn {K:Type} {kt:KT K} {es es':Array MapEntry} {seen:Array Nat} {left:List K} (h:E0 kt es seen left) (hs : ∀e'∈es'.toList,∃e∈es.toList,e.born=e'.born∧e.key=e'.key):E0 kt es' seen left:=λe he k hk=>by
 obtain ⟨e0,h0,hb,hkk⟩:=hs e he
 rw [← hb]; exact h e0 h0 k (hkk.trans hk)
section
variable {ro:Option Nat}{P:Program}{ops:Array Oper}{Q:Exit→Act→World→Prop}{N:Nat}{D:List Deferred}{L L':FL}{a:Act}{w:World}{o:Oper}{G:Act→World→Prop}
variable {M:List Nat}{κ0 κ:Gh}{w0:World}{C C':List Ck}{R R':List MP}
variable {K V:Type}{kt:KT K}{agg:Bool}{t:Ty V}{es:Array MapEntry}{clk:Nat}{p:Option Nat}{m:Mp K V} [DecidableEq K] [KO K]
theorem xW (hF:Fr N D L a)(hS:SS M κ0 w0 κ w C R)(hc:qM N L o=true)(ci ri:Nat){T KT E:Nat}{x:Operand}(hop:o.op = .range T x)(hx:ev L x=some (.map p))
  (hC:C[ci]? = some (.ext (objX p (.map es clk)))) (hR:R[ri]? = some (Map.mp kt agg t p es clk m)) (ht:jK P (underlying T)=some (.map KT E))
  (kk : ∀r a' w',Fr N D (upd L o.dst (.pointer (some ⟨r,0,none⟩))) a'→SS M κ0 w0 κ w' (.ext (objX (some r) (itO p clk #[]))::C) (It.mp kt es #[] (pP m)::R)→G a' w'):wo ro P o a w G Q:=by
 have hm:vB kt agg t κ w p es clk m:=hS.get ri hR
 have hu:=mQ ht
 refine kQ hF hc (v := .pointer (some ⟨w.heap.size,0,none⟩)) (w':=w.alloc (itO p clk #[])) ?_ λa' hF'=>kk _ a' _ hF' ((hS.newObj _ (DT _ _ _)).add ?_)
 ·have hex:evD L x = .map p:=by simp [evD,hx]
  simp only [execOp,hop,hex]
  cases p with
  | none=>simp [Instr.range,run_underlying hu,Result.andThen,newObj]; rfl
  | some b=>
   have hb:=((hS.ck ci hC : ∀b',some b=some b'→_) b rfl).1
   simp [Instr.range,run_underlying hu,MapKept.run_getObj_map hb,Result.andThen,newObj]; rfl
 ·intro e he k hk
  simp only [Array.contains_empty,true_iff]
  cases m with
  | none=>obtain ⟨_,rfl⟩:=hm; simp at he
  | some l=>
   obtain ⟨i,hi⟩:=List.mem_iff_getElem?.1 he
   obtain ⟨-,hs,l0,hl,hf⟩:=hm
   obtain ⟨y,hy⟩:=hl.other hi
   have:y.1=k:=kt.inj _ _ ((hl.keyAt hi hy).symm.trans hk)
   exact List.mem_map.2 ⟨y,pY ((hf y.1).symm.trans (v7 hl.nodup hy)),this⟩
omit [KO K] in
theorem y0 {l:List (K×V)} (hn:(l.map (·.1)).Nodup) {x:K×V} (h:x∈l):mGet (some l) x.1=some x.2:=by
 obtain ⟨j,hj⟩:=List.mem_iff_getElem?.1 h
 exact v7 hn hj
omit [KO K] in
theorem yL {m:Mp K V} {left:List K} {x:K×V} (h:x∈oM m left):x.1∈left:=by
 simp only [oM,List.mem_filter,decide_eq_true_eq] at h
 exact h.2
theorem zO (hF:Fr N D L a)(hS:SS M κ0 w0 κ w C R)(hc:qM N L o=true)(ci ii ri ti:Nat){r:Nat}{x:Operand}{seen:Array Nat}{left:List K}{ρ:Type}{A:Option ρ}{f:K×V→Option ρ}{res:ρ}(hop:o.op = .next x false)(hx:ev L x=some (.pointer (some ⟨r,0,none⟩)))
  (hC:C[ci]? = some (.ext (objX p (.map es clk)))) (hI:C[ii]? = some (.ext (objX (some r) (itO p clk seen)))) (hR:R[ri]? = some (Map.mp kt agg t p es clk m)) (hT:R[ti]? = some (It.mp kt es seen left))
  (H:(bif (oM m left).isEmpty then A else m3 (oM m left) f)=some res)
  (k0:A=some res → ∀a',Fr N D (upd L o.dst (.tuple #[.bool false])) a'→G a' w)
  (k1 : ∀y cs seen' a' w',f y=some res→Fr N D (upd L o.dst (.tuple #[.bool true,kt.enc y.1,mkV agg cs])) a'→SS M κ0 w0 κ w' (C.set ii (.ext (objX (some r) (itO p clk seen')))) (Cur.mp kt es seen' m y::It.mp kt es seen' (kRem left y.1)::R)→G a' w'):wo ro P o a w G Q:=by
 have hm:vB kt agg t κ w p es clk m:=hS.get ri hR
 have hit:E0 kt es seen left:=hS.get ti hT
 have hr:=((hS.ck ii hI : ∀b',some r=some b'→_) r rfl).1
 have hev:evD L x = .pointer (some ⟨r,0,none⟩):=by simp [evD,hx]
 cases m with
 | none=>
  obtain ⟨rfl,rfl⟩:=hm
  refine kQ hF hc (v := .tuple #[.bool false]) (w':=w) ?_ λa' hF'=>k0 (by simpa [oM] using H) a' hF'
  simp only [execOp,hop,hev]
  simp only [itO] at hr
  simp [Instr.next,getObj,Sem.run,hr,Result.andThen]
 | some l=>
  obtain ⟨hp,hs,l0,hl,hf⟩:=hm
  obtain ⟨b,rfl⟩:=Option.isSome_iff_exists.1 hp
  have hb:=((hS.ck ci hC : ∀b',some b=some b'→_) b rfl).1
  simp only [itO] at hr
  have hto : ∀ {y:K×V},y∈l0→y∈l:=λ{y} hy=>by
   obtain ⟨i,hi⟩:=List.mem_iff_getElem?.1 hy
   exact pY ((hf y.1).symm.trans (v7 hl.nodup hi))
  rcases run_next_at (P:=P) w o.type r b clk clk seen es clk hr hb hl.st.1 (Nat.le_refl _) with ⟨h0,hrun⟩ | ⟨e,he,w1,hw1,hrun⟩
  ·have hemp:oM (some l) left=[]:=by
    rw [List.eq_nil_iff_forall_not_mem]
    intro y hy
    have hyl:y∈l:=(List.mem_filter.1 hy).1
    obtain ⟨i0,hi0⟩:=List.mem_iff_getElem?.1 hyl
    obtain ⟨i,hi⟩:=List.mem_iff_getElem?.1 (pY ((hf y.1).trans (v7 hs.nodup hi0)))
    obtain ⟨e,he⟩:=hl.other' hi
    have h1:=(hit e (List.mem_of_getElem? he) y.1 (hl.keyAt he hi)).2 (yL hy)
    have h2:e∈(leftOf es seen).toList:=by
     unfold leftOf
     simp only [Array.toList_filter,List.mem_filter]
     exact ⟨List.mem_of_getElem? he,by rw [h1]; rfl⟩
    have:(leftOf es seen).toList=[]:=by
     have:=h0; rw [← Array.length_toList] at this; exact List.eq_nil_of_length_eq_zero this
    rw [this] at h2; cases h2
   rw [hemp] at H
   refine kQ hF hc (v := .tuple #[.bool false]) (w':=w) ?_ λa' hF'=>k0 (by simpa using H) a' hF'
   simp only [execOp,hop,hev]
   simp [hrun]
  ·have he':e∈es.toList∧seen.contains e.born=false:=by
    unfold leftOf at he
    simpa using he
   obtain ⟨i,hi⟩:=List.mem_iff_getElem?.1 he'.1
   obtain ⟨y,hy⟩:=hl.other hi
   have hk:=hl.keyAt hi hy
   obtain ⟨cs,hcs,hrep⟩:=hl.vals i e y hi hy
   have hyc:y∈oM (some l) left:=List.mem_filter.2 ⟨hto (List.mem_of_getElem? hy),by simpa using (hit e he'.1 y.1 hk).1 he'.2⟩
   have hne:(oM (some l) left).isEmpty=false:=by
    cases hcc:oM (some l) left with
    | nil=>rw [hcc] at hyc; cases hyc
    | cons _ _=>rfl
   rw [hne] at H
   have hf:=uY (show m3 _ f=some res from H) y hyc
   have hS1:SS M κ0 w0 κ w1 C R:=by rcases hw1 with rfl|rfl; exact hS; exact hS.drew
   have hset:(ChangeMaps.setBlock w1 r (.mapIter (some b) clk (seen.push e.born) clk))={w1 with heap:=w1.heap.setIfInBounds r (itO (some b) clk (seen.push e.born))}:=rfl
   refine kQ hF hc (v := .tuple #[.bool true,kt.enc y.1,mkV agg cs]) (w':=_) ?_ λa' hF'=>k1 y cs (seen.push e.born) a' _ hf hF' (((hS1.add ?_).add ?_).setObj ii hI _ (DT _ _ _) (DT _ _ _))
   ·simp only [execOp,hop,hev]
    rw [← hk,← hcs]
    simp only [Sem.run_bind,hrun,Result.andThen,hset]
    rfl
   ·intro e2 he2 k2 hk2
    have h3:=hit e2 he2 k2 hk2
    simp only [kRem,List.mem_filter,decide_eq_true_eq,← h3]
    have key:e2.born=e.born↔k2=y.1:=by
     constructor
     ·intro hbn
      have:e2=e:=by
       obtain ⟨j,hj⟩:=List.mem_iff_getElem?.1 he2
       have hbj:(es.toList.map (·.born))[j]? = some e.born:=by rw [List.getElem?_map,hj]; simp [hbn]
       have hbi:(es.toList.map (·.born))[i]? = some e.born:=by rw [List.getElem?_map,hi]; rfl
       have:j=i:=(List.getElem?_inj (by rw [List.length_map]; exact (List.getElem?_eq_some_iff.1 hj).1) hl.st.2.1).1 (hbj.trans hbi.symm)
       subst this
       rw [hj] at hi; exact Option.some.inj hi
      subst this
      exact kt.inj _ _ (hk2.symm.trans hk)
     ·intro hkk
      subst hkk
      obtain ⟨j,hj⟩:=List.mem_iff_getElem?.1 he2
      have hbj:(es.toList.map (·.key))[j]? = some e.key:=by rw [List.getElem?_map,hj]; simp [hk2,hk]
      have hbi:(es.toList.map (·.key))[i]? = some e.key:=by rw [List.getElem?_map,hi]; rfl
      have:j=i:=(List.getElem?_inj (by rw [List.length_map]; exact (List.getElem?_eq_some_iff.1 hj).1) hl.st.2.2).1 (hbj.trans hbi.symm)
      subst this
      rw [hj] at hi; rw [Option.some.inj hi]
    rw [Array.contains_push]
    simp only [Bool.or_eq_false_iff,beq_eq_false_iff_ne,ne_eq]
    rw [show (¬e2.born=e.born) ↔ ¬k2=y.1 from not_congr key]
   ·exact ⟨⟨e,he'.1,by simp,hk⟩,y0 hs.nodup (hto (List.mem_of_getElem? hy))⟩
theorem xX (hF:Fr N D L a)(hS:SS M κ0 w0 κ w C R)(hc:qM N L o=true)(ci ii ri ti:Nat){r:Nat}{x:Operand}{seen:Array Nat}{y:K×V}(hop:o.op = .entry x)(hx:ev L x=some (.pointer (some ⟨r,0,none⟩)))
  (hC:C[ci]? = some (.ext (objX p (.map es clk)))) (hI:C[ii]? = some (.ext (objX (some r) (itO p clk seen)))) (hR:R[ri]? = some (Map.mp kt agg t p es clk m)) (hT:R[ti]? = some (Cur.mp kt es seen m y))
  (kk : ∀cs a',t.rep κ w cs y.2→Fr N D (upd L o.dst (.tuple #[kt.enc y.1,mkV agg cs])) a'→G a' w):wo ro P o a w G Q:=by
 have hm:vB kt agg t κ w p es clk m:=hS.get ri hR
 obtain ⟨⟨e,he,hback,hkey⟩,hget⟩:(∃e∈es.toList,seen.back? = some e.born∧e.key=kt.enc y.1)∧mGet m y.1=some y.2:=hS.get ti hT
 have hr:=((hS.ck ii hI : ∀b',some r=some b'→_) r rfl).1
 have hev:evD L x = .pointer (some ⟨r,0,none⟩):=by simp [evD,hx]
 cases m with
 | none=>obtain ⟨rfl,rfl⟩:=hm; simp at he
 | some l=>
  obtain ⟨hp,hs,l0,hl,hf⟩:=hm
  obtain ⟨b,rfl⟩:=Option.isSome_iff_exists.1 hp
  have hb:=((hS.ck ci hC : ∀b',some b=some b'→_) b rfl).1
  simp only [itO] at hr
  obtain ⟨i,hi⟩:=List.mem_iff_getElem?.1 he
  obtain ⟨z,hz⟩:=hl.other hi
  have hk:z.1=y.1:=kt.inj _ _ ((hl.keyAt hi hz).symm.trans hkey)
  obtain ⟨cs,hcs,hrep⟩:=hl.vals i e z hi hz
  have hz2:z.2=y.2:=by
   have:mGet (some l) z.1=some z.2:=(hf z.1).symm.trans (v7 hl.nodup hz)
   rw [hk,hget] at this
   exact (Option.some.inj this).symm
  have hfind:es.find? (·.born==e.born)=some e:=by rw [← Array.find?_toList]; exact find_born e es.toList hl.st.2.1 he
  refine kQ hF hc (v := .tuple #[kt.enc y.1,mkV agg cs]) (w':=w) ?_ λa' hF'=>kk cs a' (hz2▸hrep) hF'
  simp only [execOp,hop,hev]
  rw [← hkey,← hcs]
  simp [Instr.entry,getObj,Sem.run,hr,hb,Result.andThen,hback,hfind]
end
end Go.Cf
namespace Go.Cf
open Go
section
variable {M:List Nat}{κ0 κ:Gh}{w0 w:World}{C C':List Ck}{R R':List MP}
theorem SS.room (hS:SS M κ0 w0 κ w C R){α:Type}(t:Ty α)(E:Nat)(cells:Array Value)(c:Nat)(hn:cells.size=c*t.size)(hm:c≤maxLen) :
  ∃κ',SS M κ0 w0 κ' (w.alloc (.cells cells E)) (.tok (some ⟨w.heap.size,0,none⟩) E t.size 0 c::C) (Ro.mp t (some ⟨w.heap.size,0,none⟩) c ([]:List α)::R):=by
 let w':=w.alloc (.cells cells E)
 let κ':Gh:=λb=>if b=w.heap.size then some 0 else κ b
 have hκ : ∀b,b≠w.heap.size→κ' b=κ b:=λb hb=>by simp [κ',hb]
 have hext:Ext [] κ w κ' w':=by
  refine ⟨rfl,rfl,rfl,by rw [mA]; omega,λb hb _=>⟨mD w _ b hb,hκ b (by omega)⟩,λb n hn=>?_⟩
  have hbl:b<w.heap.size:=by
   rcases Nat.lt_or_ge b w.heap.size with h|h
   ·exact h
   ·rw [hS.fresh b h] at hn; cases hn
  exact ⟨n,(hκ b (by omega)).trans hn,Nat.le_refl _,λi _=>lM (mD w _ b hbl)⟩
 have hfr:lG κ' w':=λb hb=>by
  rw [mA] at hb
  rw [hκ b (by omega)]; exact hS.fresh b (by omega)
 have hkn:κ' w.heap.size=some 0:=by simp [κ']
 have h':=hS.step hext hfr
 have htok:(Ck.tok (some ⟨w.heap.size,0,none⟩) E t.size 0 c).ok κ' w':=
  .inr ⟨w.heap.size,0,cells,rfl,by rw [hkn,Nat.zero_mul],Nat.zero_le _,hm,nD _ _,by rw [hn,Nat.zero_add]⟩
 have h'':SS M κ0 w0 κ' w' (.tok (some ⟨w.heap.size,0,none⟩) E t.size 0 c::C) R:=by
  refine ⟨h'.ext,h'.fresh,λc hc=>?_,λb hb=>?_,?_,λb hb=>?_,h'.ro⟩
  ·rcases List.mem_cons.1 hc with rfl|hc
   ·exact htok
   ·exact h'.ok c hc
  ·rcases List.mem_cons.1 (show b∈w.heap.size::jI C from hb) with rfl|hb
   ·rw [mA]; omega
   ·exact h'.lt b hb
  ·show (w.heap.size::jI C).Nodup
   exact List.nodup_cons.2 ⟨λhm=>by have:=hS.lt _ hm; omega,hS.nd⟩
  ·rcases List.mem_cons.1 (show b∈w.heap.size::jI C from hb) with rfl|hb
   ·exact .inl hS.ext.size
   ·exact h'.own b hb
 exact ⟨κ',h''.add (m:=Ro.mp t _ c []) ⟨Nat.zero_le _,hm,.inr ⟨w.heap.size,0,0,rfl,hkn,by simp,λi x hx=>by simp at hx⟩⟩⟩
end
section
variable {ro:Option Nat}{P:Program}{ops:Array Oper}{Q:Exit→Act→World→Prop}{N:Nat}{D:List Deferred}{L L':FL}{a:Act}{w:World}{o:Oper}{K:Act→World→Prop}
variable {M:List Nat}{κ0 κ:Gh}{w0:World}{C C':List Ck}{R R':List MP}
end
section
variable {M:List Nat}{κ0 κ:Gh}{w0 w:World}{C C':List Ck}{R R':List MP}
theorem SS.packC {r l:Nat} {rc:Loop} {Cp:List Ck} (h:SS M κ0 w0 κ w (.ext (mkX r l rc C R')::Cp) R):SS M κ0 w0 κ w [.ext (mkX r l rc (C++Cp) R')] R:=by
 have hb:jI [.ext (mkX r l rc (C++Cp) R')]=jI (.ext (mkX r l rc C R')::Cp):=by simp [jI,Ck.blks,mkX]
 refine ⟨h.ext,h.fresh,λc hc=>?_,λb hb'=>h.lt b (hb▸hb'),hb▸h.nd,λb hb'=>h.own b (hb▸hb'),h.ro⟩
 obtain rfl:=List.mem_singleton.1 hc
 obtain ⟨h1,h2,h3,h4⟩:=(h.ok (.ext (mkX r l rc C R')) (by simp):(mkX r l rc C R').p κ w)
 exact ⟨h1,h2,λc hc=>(List.mem_append.1 hc).elim (h3 c) (λh5=>h.ok c (by simp [h5])),h4⟩
theorem SS.backC {w1:World}{κ':Gh}{w':World}{C2:List Ck}{R2:List MP}(h:SS M κ0 w0 κ w1 C R)(h2:SS (jI C) κ w1 κ' w' C2 R2):SS M κ0 w0 κ' w' C2 (R2++R) where
 ext:=h.ext.trans' h2.ext λb hb=>h.own b hb
 fresh:=h2.fresh
 ok:=h2.ok
 lt:=h2.lt
 nd:=h2.nd
 own:=λb hb=>(h2.own b hb).elim (λh3=>.inl (Nat.le_trans h.ext.size h3)) (h.own b)
 ro:=λm hm=>(List.mem_append.1 hm).elim (h2.ro m) λhm=>m.mono h2.ext (h.ro m hm)
end
section
variable {P:Program}{Q:Exit→Act→World→Prop}{N:Nat}{D:List Deferred}{L L':FL}{a:Act}{w:World}
variable {M:List Nat}{κ0 κ:Gh}{w0:World}{C C':List Ck}{R R':List MP}
end
section
variable {F:Fence}{n:Nat}{P:Program}{Q:Exit→Act→World→Prop}{a:Act}{w:World}
theorem tX {b:Frame} {k:List Item} {cs:List Frame} {c:Code}:step P (lone (b.atR a (.code (.scope c)::k)) cs w) = .next (lone (b.atR a (.code c :: .inScope c::k)) cs w):=
 step_lone_go (by simp [stepG,stepG.exec,Frame.atR])
theorem CI {b:Frame} {k:List Item} {cs:List Frame} {c:Code}:step P (lone (b.atR a (.inScope c::k)) cs w) = .next (lone (b.atR a k) cs w):=
 step_lone_go (by simp [stepG,stepG.exec,Frame.atR])
theorem FY {c:Code} (h:c.wpIn F n P (Exit.noGoto Q) a w):(Code.scope c).wpIn F n P Q a w:=by
 intro b k cs hro hb hr
 have h0:(lone (b.atR a (.code (.scope c)::k)) cs w).fenced P F:=fenced_calm hb hr rfl
 obtain ⟨e,a₁,w₁,hq,harr⟩:=h b (.inScope c::k) cs hro hb hr
 cases e with
 | normal=>exact ⟨.normal,a₁,w₁,hq,.head h0 tX (StepsIn.trans harr (.one (fenced_calm hb hr rfl) CI))⟩
 | exit id'=>
  have hx:exitTo id' (.inScope c::k)=exitTo id' k:=by simp [exitTo]
  exact ⟨.exit id',a₁,w₁,hq,λk' hk=>.head h0 tX (harr.1 k' (by rw [hx]; exact hk)),
   λhr' hk=>let ⟨k₁,h1,h2⟩:=harr.2 hr' (by rw [hx]; exact hk); ⟨k₁,h1,.head h0 tX h2⟩⟩
 | goto l=>exact hq.elim
 | ret=>exact ⟨.ret,a₁,w₁,hq,.of_steps (.one h0 tX) harr⟩
 | panic ch=>exact ⟨.panic ch,a₁,w₁,hq,.of_steps (.one h0 tX) harr⟩
 | outgrown=>exact ⟨.outgrown,a₁,w₁,hq,.of_steps (.one h0 tX) harr⟩
end
end Go.Cf
namespace Go.Cf
open Go
section
variable {ro:Option Nat}{P:Program}{ops:Array Oper}{Q:Exit→Act→World→Prop}{N:Nat}{D:List Deferred}{L L':FL}{a:Act}{w:World}{o:Oper}{K:Act→World→Prop}
variable {M:List Nat}{κ0 κ:Gh}{w0:World}{C C':List Ck}{R R':List MP}
theorem SS.cC (h:SS M κ0 w0 κ w C R) {C':List Ck} (e:C=C':=by kernel_rfl):SS M κ0 w0 κ w C' R:=e▸h
end
end Go.Cf
namespace Go.Cf
open Go Go.MapKept
set_option linter.unusedVariables false
def Ent.mp {K:Type} (kt:KT K) (es:Array MapEntry) (k:K) (st:Int):MP:=MP.const (∃e∈es.toList,(e.born:Int)=st∧e.key=kt.enc k)
section
variable {ro:Option Nat}{P:Program}{ops:Array Oper}{Q:Exit→Act→World→Prop}{N:Nat}{D:List Deferred}{L L':FL}{a:Act}{w:World}{o:Oper}{G:Act→World→Prop}
variable {M:List Nat}{κ0 κ:Gh}{w0:World}{C C':List Ck}{R R':List MP}
variable {K V:Type} [DecidableEq K] [KO K]{kt:KT K}{agg:Bool}{t:Ty V}{p:Option Nat}{es:Array MapEntry}{clk:Nat}{m:Mp K V}
theorem D3 {l:List (K×V)} (hs:Srt l) {k:K} {v:V} (h:jS l k=some v):lPut l k v=l:=by
 refine (oK hs k v).ext hs λk'=>?_
 rw [mC]
 split
 ·rename_i e; subst e; exact h.symm
 ·rfl
theorem find_born {es:Array MapEntry} {clk:Nat} (hs:Stamped es clk) {j:Nat} {e:MapEntry} (h:es.toList[j]? = some e):es.findIdx? (λx=>(x.born:Int)==(e.born:Int))=some j:=by
 have hj:=(List.getElem?_eq_some_iff.1 h).1
 have hje:=(List.getElem?_eq_some_iff.1 h).2
 have hnd:=hs.2.1
 rw [show es.findIdx? (λx=>(x.born:Int)==(e.born:Int))=es.toList.findIdx? (λx=>(x.born:Int)==(e.born:Int)) from by cases es; simp,List.findIdx?_eq_some_iff_getElem]
 refine ⟨hj,by rw [hje]; simp,λi hi=>?_⟩
 have hil:i<es.toList.length:=by omega
 intro hb
 have hb':(es.toList[i]).born=e.born:=Int.ofNat.inj (eq_of_beq hb)
 have h1:(es.toList.map (·.born))[i]? = some e.born:=by rw [List.getElem?_map,List.getElem?_eq_getElem hil]; exact congrArg some hb'
 have h2:(es.toList.map (·.born))[j]? = some e.born:=by rw [List.getElem?_map,h]; rfl
 have:=(List.getElem?_inj (by simpa using hil) hnd).1 (h1.trans h2.symm)
 omega
end
section
variable {M:List Nat}{κ0 κ:Gh}{w0 w:World}{C:List Ck}{R:List MP}
theorem CN {i b T:Nat} {s s':lF} (hC:C[i]? = some (.box b T s)):jI (C.set i (.box b T s'))=jI C:=by
 induction C generalizing i with
 | nil=>rfl
 | cons c C ih=>
  cases i with
  | zero=>simp at hC; subst hC; rfl
  | succ i=>simp only [List.set_cons_succ,jI,List.flatMap_cons] at *; rw [ih (by simpa using hC)]
theorem SS.reseg (h:SS M κ0 w0 κ w C R) (i:Nat) {b T:Nat} {s s':lF} (hC:C[i]? = some (.box b T s)) (hf:flat s'=flat s) (hs:mB s→mB s'):SS M κ0 w0 κ w (C.set i (.box b T s')) R:=by
 have hb:=CN (s':=s') hC
 refine ⟨h.ext,h.fresh,λc hc=>?_,by rw [hb]; exact h.lt,by rw [hb]; exact h.nd,by rw [hb]; exact h.own,h.ro⟩
 rcases List.mem_or_eq_of_mem_set hc with hc|rfl
 ·exact h.ok c hc
 ·obtain ⟨h1,h2,h3⟩:=(h.ck i hC:_∧_)
  exact ⟨by rw [hf]; exact h1,hs h2,h3⟩
theorem SS.segs (h:SS M κ0 w0 κ w C R) (i:Nat) {b T:Nat} {s:lF} (hC:C[i]? = some (.box b T s)):mB s:=(h.ck i hC:_∧_).2.1
end
end Go.Cf
namespace Go.Cf
open Go
def regr:List (Bool×Nat)→lF→lF
 | [],s=>s
 | (false,n)::g,s=>s.take n++regr g (s.drop n)
 | (true,n)::g,s=>(tot (s.take n),flat (s.take n))::regr g (s.drop n)
def wF:List (Bool×Nat)→lF→lF
 | [],_=>[]
 | (false,n)::g,s=>wF g (s.drop n)
 | (true,n)::g,s=>s.take n++wF g (s.drop n)
theorem y7 (n:Nat) (s:lF):flat (s.take n)++flat (s.drop n)=flat s:=by rw [← oL,List.take_append_drop]
theorem D7 (g:List (Bool×Nat)) (s:lF):flat (regr g s)=flat s:=by
 induction g generalizing s with
 | nil=>rfl
 | cons x g ih=>
  obtain ⟨b,n⟩:=x
  cases b with
  | false=>rw [regr,oL,ih,y7]
  | true=>
   rw [regr]
   show flat (s.take n)++flat (regr g (s.drop n))=_
   rw [ih,y7]
theorem uR {n:Nat} {s:lF}:mB s↔mB (s.take n)∧mB (s.drop n):=by rw [← qG,List.take_append_drop]
theorem EI (g:List (Bool×Nat)) (s:lF) (h:mB s):mB (regr g s):=by
 induction g generalizing s with
 | nil=>exact h
 | cons x g ih=>
  obtain ⟨b,n⟩:=x
  obtain ⟨h1,h2⟩:=(uR (n:=n)).1 h
  cases b with
  | false=>rw [regr,qG]; exact ⟨h1,ih _ h2⟩
  | true=>rw [regr,uZ]; exact ⟨m6 h1,ih _ h2⟩
theorem EJ (g:List (Bool×Nat)) (s:lF) (h:mB s):mB (wF g s):=by
 induction g generalizing s with
 | nil=>exact BM
 | cons x g ih=>
  obtain ⟨b,n⟩:=x
  obtain ⟨h1,h2⟩:=(uR (n:=n)).1 h
  cases b with
  | false=>exact ih _ h2
  | true=>rw [wF,qG]; exact ⟨h1,ih _ h2⟩
theorem CK (g:List (Bool×Nat)) (s:lF) (h:mB (regr g s)) (hr:mB (wF g s)):mB s:=by
 induction g generalizing s with
 | nil=>exact h
 | cons x g ih=>
  obtain ⟨b,n⟩:=x
  refine (uR (n:=n)).2 ?_
  cases b with
  | false=>rw [regr,qG] at h; exact ⟨h.1,ih _ h.2 hr⟩
  | true=>rw [regr,uZ] at h; rw [wF,qG] at hr; exact ⟨hr.1,ih _ h.2 hr.2⟩
section
variable {M:List Nat}{κ0 κ:Gh}{w0 w:World}{C:List Ck}{R:List MP}
theorem SS.regr (h:SS M κ0 w0 κ w C R) (i:Nat) (g:List (Bool×Nat)) {b T:Nat} {s:lF} (hC:C[i]? = some (.box b T s)):SS M κ0 w0 κ w (C.set i (.box b T (Cf.regr g s))) R:=
 h.reseg i hC (D7 g s) (EI g s)
theorem SS.unregr (h:SS M κ0 w0 κ w C R) (i:Nat) (g:List (Bool×Nat)) {b T:Nat} {s s':lF} (hg:mB s) (hr:wF g s'=wF g s) (hC:C[i]? = some (.box b T (Cf.regr g s'))):SS M κ0 w0 κ w (C.set i (.box b T s')) R:=
 h.reseg i hC (D7 g s').symm λhs=>CK g s' hs (hr▸EJ g s hg)
end
end Go.Cf
namespace Go.Cf
open Go
theorem MP.oldC {w1 w0:World} {κ1 κ κ':Gh} {w:World} {C:List Ck} {p:Option Addr} {E sz n c:Nat} (hsi:(MP.since κ1 w1).p κ' w0) (hn:sJ w0 κ w C) (hm:Ck.tok p E sz n c∈C):(MP.old p w1).p κ w:=by
 obtain ⟨M1,hx⟩ : ∃M1,Ext M1 κ1 w1 κ' w0:=hsi
 intro a ha
 subst ha
 exact Nat.le_trans hx.size (hn.2.2 _ (List.mem_flatMap.2 ⟨_,hm,by simp [Ck.blks]⟩)).1
theorem aN {b:Nat} : ∀m∈([]:List MP),AD b m:=λ_ h=>by cases h
theorem aC {b:Nat} {m:MP} {R:List MP} (h:AD b m) (r : ∀m∈R,AD b m) : ∀x∈m::R,AD b x:=λx hx=>by
 rcases List.mem_cons.1 hx with rfl|hx
 ·exact h
 ·exact r x hx
theorem aK {b:Nat} {q:Prop} {R:List MP} (r : ∀m∈R,AD b m) : ∀x∈MP.const q::R,AD b x:=aC (FF _ _) r
end Go.Cf
namespace Go.Cf
open Go
set_option linter.unusedVariables false
def pa (o:Option Nat):Option Addr:=o.map λb=>⟨b,0,none⟩
def pO:FT (Option Nat):=⟨1,λx=>[.pointer (pa x)],λ_=>rfl,λ_ v hv=>by simp at hv; subst hv; rfl⟩
section
variable {M:List Nat}{κ0 κ:Gh}{w0 w:World}{C C':List Ck}{R R':List MP}
theorem SS.recast (h:SS M κ0 w0 κ w C R) (hok : ∀c∈C',c.ok κ w) (D:List Nat) (hb:(jI C'++D).Perm (jI C)):SS M κ0 w0 κ w C' R:=by
 have hm : ∀b∈jI C',b∈jI C:=λb hb'=>hb.mem_iff.1 (List.mem_append.2 (.inl hb'))
 exact ⟨h.ext,h.fresh,hok,λb hb'=>h.lt b (hm b hb'),(List.nodup_append.1 (hb.nodup_iff.2 h.nd)).1,λb hb'=>h.own b (hm b hb'),h.ro⟩
theorem SS.recut (h:SS M κ0 w0 κ w C R) (i:Nat) {c:Ck} (hC:C[i]? = some c) (A:List Ck) (hok : ∀c∈A,c.ok κ w) (D:List Nat) (hb:(jI A++D).Perm c.blks):SS M κ0 w0 κ w (A++C.eraseIdx i) R:=by
 obtain ⟨hCe,-⟩:=uP (c':=c) hC
 have hE:C.eraseIdx i=C.take i++C.drop (i+1):=List.eraseIdx_eq_take_drop_succ ..
 have hCb:(jI C).Perm (c.blks++jI (C.eraseIdx i)):=by
  have e1:jI C=jI (C.take i)++(c.blks++jI (C.drop (i+1))):=by
   conv=>lhs; rw [hCe]
   rw [kE]; rfl
  rw [e1,hE,kE,← List.append_assoc,← List.append_assoc]
  exact List.Perm.append_right _ List.perm_append_comm
 refine h.recast (λd hd=>?_) D ?_
 ·rcases List.mem_append.1 hd with hd|hd
  ·exact hok d hd
  ·exact h.ok d (List.mem_of_mem_eraseIdx hd)
 ·rw [kE]
  refine List.Perm.trans ?_ hCb.symm
  rw [List.append_assoc]
  exact (List.Perm.append_left _ List.perm_append_comm).trans ((List.append_assoc .. ▸ List.Perm.append_right _ hb))
end
structure OT (α:Type) where
 x:Nat→List Nat→α→XF
 bs : ∀b bs a,(x b bs a).bs=bs
theorem LL {A:List Ck} {bs M:List Nat} {κ κ':Gh} {w w':World} (hp:(jI A).Perm bs) (he:Ext M κ w κ' w') (hb : ∀b∈bs,b<w.heap.size∧b ∉ M) (h : ∀c∈A,c.ok κ w) : ∀c∈A,c.ok κ' w':=λc hc=>
 have hm : ∀b∈c.blks,b∈bs:=λb hb'=>hp.mem_iff.1 (List.mem_flatMap.2 ⟨c,hc,hb'⟩)
 Ck.ok_keep (h c hc) (λb hb'=>(hb b (hm b hb')).1) he λb hb'=>(hb b (hm b hb')).2
def OT.of {α H:Type}(ck:Nat→H→α→List Ck)(fs:H→α→List MP):OT α where
 x b bs a:={
        bs:=bs
        p:=λκ w=>∃h:H,(jI (ck b h a)).Perm bs∧(∀c∈ck b h a,c.ok κ w) ∧ ∀m∈fs h a,m.p κ w
        mono:=λ{M κ w κ' w'} he hb ⟨h,h1,h2,h3⟩=>⟨h,h1,LL h1 he hb h2,λm hm=>m.mono he (h3 m hm)⟩}
 bs _ _ _:=rfl
def optX {α:Type} (O:OT α) (p:Option Nat) (bs:List Nat) (o:Option α):XF:=
 match p,o with
 | some b,some a=>O.x b bs a
 | p,o=>{bs:=bs,p:=λ_ _=>p=none∧o=none∧bs=[],mono:=λ_ _ h=>h}
theorem DP {α:Type} (O:OT α) (p:Option Nat) (bs:List Nat) (o:Option α):(optX O p bs o).bs=bs:=by
 cases p<;>cases o<;>first|rfl|exact O.bs ..
def arrX {α:Type}(O:OT α)(ps:List (Option Nat))(bs:List Nat)(xs:List (Option α)):XF where
 bs:=bs
 p κ w := ∃bss:List (List Nat),bss.length=ps.length∧xs.length=ps.length∧bss.flatten.Perm bs ∧ ∀(i:Nat) (p:Option Nat) (o:Option α) (b:List Nat),ps[i]? = some p→xs[i]? = some o→bss[i]? = some b→(optX O p b o).p κ w
 mono:=by
  intro M κ w κ' w' he hb h
  obtain ⟨bss,h1,h2,h3,h4⟩:=h
  exact ⟨bss,h1,h2,h3,λi p o b hp ho hbi=>(optX O p b o).mono he (λb' hb'=>by
   rw [DP] at hb'
   exact hb b' (h3.mem_iff.1 (List.mem_flatten.2 ⟨b,List.mem_of_getElem? hbi,hb'⟩))) (h4 i p o b hp ho hbi)⟩
section
variable {M:List Nat}{κ0 κ:Gh}{w0 w:World}{C C':List Ck}{R R':List MP}
variable {α H:Type}{ck:Nat→H→α→List Ck}{fs:H→α→List MP}{b:Nat}{bs:List Nat}{a:α}{O:OT α}{p:Option Nat}{o:Option α}{ps:List (Option Nat)}{xs:List (Option α)}
theorem SS.fold {h:H} (hS:SS M κ0 w0 κ w (ck b h a++C) R) (hf : ∀m∈fs h a,m.p κ w):SS M κ0 w0 κ w (.ext ((OT.of ck fs).x b (jI (ck b h a)) a)::C) R:=by
 refine hS.recast (λc hc=>?_) [] (by rw [List.append_nil,kE]; exact List.Perm.refl _)
 rcases List.mem_cons.1 hc with rfl|hc
 ·exact ⟨h,List.Perm.refl _,λc hc=>hS.ok c (List.mem_append.2 (.inl hc)),hf⟩
 ·exact hS.ok c (List.mem_append.2 (.inr hc))
theorem SS.foldO {h:H} (hS:SS M κ0 w0 κ w (ck b h a++C) R) (hf:SS M κ0 w0 κ w (ck b h a++C) (fs h a)) : ∃bs,SS M κ0 w0 κ w (.ext (optX (OT.of ck fs) (some b) bs (some a))::C) R:=⟨_,hS.fold hf.ro⟩
theorem SS.optS (hS:SS M κ0 w0 κ w C R) (i:Nat) (hC:C[i]? = some (.ext (optX O p bs o))) (ho:o=some a) : ∃b,p=some b∧SS M κ0 w0 κ w (C.set i (.ext (optX O (some b) bs (some a)))) R:=by
 subst ho
 cases p with
 | none=>obtain ⟨-,h,-⟩:=(hS.ck i hC:(optX O none bs (some a)).p κ w); cases h
 | some b=>
  refine ⟨b,rfl,?_⟩
  obtain ⟨hi,he⟩:=List.getElem?_eq_some_iff.1 hC
  rw [← he,List.set_getElem_self hi]; exact hS
theorem SS.optN (hS:SS M κ0 w0 κ w C R) (i:Nat) (hC:C[i]? = some (.ext (optX O p bs o))) (ho:o=none):p=none∧SS M κ0 w0 κ w (C.set i (.ext (optX O none [] none))) R:=by
 subst ho
 obtain ⟨rfl,-,rfl⟩:p=none∧(none:Option α)=none∧bs=[]:=by
  have:=(hS.ck i hC:(optX O p bs none).p κ w)
  cases p<;>exact this
 refine ⟨rfl,?_⟩
 obtain ⟨hi,he⟩:=List.getElem?_eq_some_iff.1 hC
 rw [← he,List.set_getElem_self hi]; exact hS
theorem SS.addOpt (hS:SS M κ0 w0 κ w C R) (O:OT α):SS M κ0 w0 κ w (.ext (optX O none [] none)::C) R:=by
 refine hS.recast (λc hc=>?_) [] (by rw [List.append_nil]; exact List.Perm.refl _)
 rcases List.mem_cons.1 hc with rfl|hc
 ·exact ⟨rfl,rfl,rfl⟩
 ·exact hS.ok c hc
theorem D1:(optX O none [] none).p κ w:=⟨rfl,rfl,rfl⟩
theorem B5 {l:List (List Nat)} {j:Nat} {x y:List Nat} (h:l[j]? = some x):(y++l.flatten).Perm (x++(l.set j y).flatten):=by
 induction l generalizing j with
 | nil=>simp at h
 | cons z l ih=>
  cases j with
  | zero=>
   simp only [List.getElem?_cons_zero,Option.some.injEq] at h; subst h
   simp only [List.flatten_cons,List.set_cons_zero]
   rw [← List.append_assoc,← List.append_assoc]
   exact List.Perm.append_right _ List.perm_append_comm
  | succ j=>
   simp only [List.getElem?_cons_succ] at h
   simp only [List.flatten_cons,List.set_cons_succ]
   have h1:=ih h
   have h2:(y++(z++l.flatten)).Perm (z++(y++l.flatten)):=by
    rw [← List.append_assoc,← List.append_assoc]; exact List.Perm.append_right _ List.perm_append_comm
   have h3:(z++(x++(l.set j y).flatten)).Perm (x++(z++(l.set j y).flatten)):=by
    rw [← List.append_assoc,← List.append_assoc]; exact List.Perm.append_right _ List.perm_append_comm
   exact h2.trans ((List.Perm.append_left z h1).trans h3)
theorem FD (h:(arrX O ps bs xs).p κ w):xs.length=ps.length:=by obtain ⟨_,_,h,_⟩:=h; exact h
theorem SS.arrTake (hS:SS M κ0 w0 κ w (.ext (arrX O ps bs xs)::C) R){j:Nat}{o:Option α}(hx:xs[j]? = some o) :
  ∃p bs1 bs2,ps[j]? = some p∧SS M κ0 w0 κ w (.ext (optX O p bs1 o) :: .ext (arrX O (ps.set j none) bs2 (xs.set j none))::C) R:=by
 obtain ⟨bss,h1,h2,h3,h4⟩:=(hS.ck 0 rfl:(arrX O ps bs xs).p κ w)
 have hj:j<xs.length:=(List.getElem?_eq_some_iff.1 hx).1
 obtain ⟨p,hp⟩ : ∃p,ps[j]? = some p:=⟨_,List.getElem?_eq_getElem (by omega)⟩
 obtain ⟨b1,hb1⟩ : ∃b,bss[j]? = some b:=⟨_,List.getElem?_eq_getElem (by omega)⟩
 refine ⟨p,b1,(bss.set j []).flatten,hp,hS.recut 0 rfl [.ext (optX O p b1 o),.ext (arrX O (ps.set j none) (bss.set j []).flatten (xs.set j none))] (λc hc=>?_) [] ?_⟩
 ·rcases List.mem_cons.1 hc with rfl|hc
  ·exact h4 j p o b1 hp hx hb1
  ·simp only [List.mem_singleton] at hc; subst hc
   refine ⟨bss.set j [],by simp [h1],by simp [h2],List.Perm.refl _,λi p' o' b' hp' ho' hb'=>?_⟩
   rw [List.getElem?_set] at hp' ho' hb'
   by_cases e:j=i
   ·subst e
    rw [if_pos rfl,if_pos (by omega)] at hp' ho' hb'
    cases hp'; cases ho'; cases hb'; exact D1
   ·rw [if_neg e] at hp' ho' hb'; exact h4 i p' o' b' hp' ho' hb'
 ·have:=B5 (y:=[]) hb1
  simp only [List.nil_append] at this
  simp only [jI,List.flatMap_cons,List.flatMap_nil,List.append_nil,Ck.blks,DP]
  exact this.symm.trans h3
theorem SS.arrPut {j:Nat} {p:Option Nat} {bs1:List Nat} (hS:SS M κ0 w0 κ w (.ext (optX O p bs1 o) :: .ext (arrX O (ps.set j none) bs (xs.set j none))::C) R) : ∃bs',SS M κ0 w0 κ w (.ext (arrX O (ps.set j p) bs' (xs.set j o))::C) R:=by
 obtain ⟨bss,h1,h2,h3,h4⟩:=(hS.ck 1 rfl:(arrX O (ps.set j none) bs (xs.set j none)).p κ w)
 have h0:=(hS.ck 0 rfl:(optX O p bs1 o).p κ w)
 simp only [List.length_set] at h1 h2
 by_cases hj:j<bss.length
 ·obtain ⟨b1,hb1⟩ : ∃b,bss[j]? = some b:=⟨_,List.getElem?_eq_getElem hj⟩
  have he:b1=[]:=by
   obtain ⟨-,-,h⟩:=(h4 j none none b1 (by rw [List.getElem?_set,if_pos rfl,if_pos (by omega)]) (by rw [List.getElem?_set,if_pos rfl,if_pos (by omega)]) hb1:(optX O none b1 none).p κ w)
   exact h
  subst he
  have hfl:=B5 (y:=bs1) hb1
  simp only [List.nil_append] at hfl
  refine ⟨(bss.set j bs1).flatten,hS.recast (λc hc=>?_) [] ?_⟩
  ·rcases List.mem_cons.1 hc with rfl|hc
   ·refine ⟨bss.set j bs1,by simp [h1],by simp [h2],List.Perm.refl _,λi p' o' b' hp' ho' hb'=>?_⟩
    rw [List.getElem?_set] at hp' ho' hb'
    by_cases e:j=i
    ·subst e
     rw [if_pos rfl,if_pos (by omega)] at hp' ho' hb'
     cases hp'; cases ho'; cases hb'; exact h0
    ·rw [if_neg e] at hp' ho' hb'
     exact h4 i p' o' b' (by rw [List.getElem?_set,if_neg e]; exact hp') (by rw [List.getElem?_set,if_neg e]; exact ho') hb'
   ·exact hS.ok c (by simp [hc])
  ·simp only [jI,List.flatMap_cons,Ck.blks,DP,List.append_nil]
   rw [← List.append_assoc]
   exact List.Perm.append_right _ (hfl.symm.trans (List.Perm.append_left _ h3))
 ·have e1 : ∀ {β:Type} (l:List β) (x:β),l.length=bss.length→l.set j x=l:=λl x hl=>List.set_eq_of_length_le (by omega)
  rw [e1 ps p h1.symm,e1 xs o (by omega)]
  rw [e1 ps none h1.symm,e1 xs none (by omega)] at hS
  exact ⟨bs,hS.drop (List.sublist_cons_self _ _)⟩
theorem SS.arrDrop (hS:SS M κ0 w0 κ w (.ext (arrX O ps bs xs)::C) R) (j:Nat) : ∃bs',SS M κ0 w0 κ w (.ext (arrX O (ps.set j none) bs' (xs.set j none))::C) R:=by
 by_cases hj:j<xs.length
 ·obtain ⟨p,b1,b2,-,h⟩:=hS.arrTake (j:=j) (o:=xs[j]) (List.getElem?_eq_getElem hj)
  exact ⟨b2,h.drop (List.sublist_cons_self _ _)⟩
 ·have hl:=FD (hS.ck 0 rfl:(arrX O ps bs xs).p κ w)
  exact ⟨bs,by rw [List.set_eq_of_length_le (by omega),List.set_eq_of_length_le (by omega)]; exact hS⟩
theorem IL (n:Nat):(arrX O (List.replicate n none) [] (List.replicate n none)).p κ w:=
 ⟨List.replicate n [],by simp,by simp,by simp,λi p o b hp ho hb=>by
  rw [List.getElem?_replicate] at hp ho hb
  split at hp
  ·rename_i h
   rw [if_pos h] at ho hb
   cases hp; cases ho; cases hb; exact D1
  ·cases hp⟩
theorem SS.addArr (hS:SS M κ0 w0 κ w C R) (O:OT α) (n:Nat):SS M κ0 w0 κ w (.ext (arrX O (List.replicate n none) [] (List.replicate n none))::C) R:=by
 refine hS.recast (λc hc=>?_) [] (by rw [List.append_nil]; exact List.Perm.refl _)
 rcases List.mem_cons.1 hc with rfl|hc
 ·exact IL n
 ·exact hS.ok c hc
end
section
variable {P:Program}{M:List Nat}{κ0:Gh}{w0:World}{Cin Cr:List Ck}{R:List MP}
end
def pA {α ρ:Type} (o:Option α) (A:Option ρ) (B:α→Option ρ):Option ρ:=match o with
 | none=>A
 | some x=>B x
theorem kY {α ρ:Type} {o:Option α} {A:Option ρ} {B:α→Option ρ} {r:ρ} {G:Prop} (H:pA o A B=some r) (h1:o=none→A=some r→G) (h2 : ∀x,o=some x→B x=some r→G):G:=by
 cases o with
 | none=>exact h1 rfl H
 | some x=>exact h2 x rfl H
end Go.Cf
namespace Go.Cf
open Go
set_option linter.unusedVariables false
def pblk:Option Addr→List Nat
 | some a=>[a.block]
 | none=>[]
def ownX {α:Type}(t:FT α)(E:Nat)(p:Option Addr)(c:Nat)(l:List α):XF where
 bs:=pblk p
 p κ w:=(l=[]∧c=0∧p=none) ∨ ∃b off cells,p=some ⟨b,off,none⟩∧κ b=none∧l.length≤c∧c≤maxLen∧w.heap[b]? = some (.cells cells E (0,0))∧(c≠0→cells.size=off+c*t.size) ∧
  ∀i x,l[i]? = some x → ∀j v,(t.enc x)[j]? = some v→cells[off+i*t.size+j]? = some v
 mono:=λ{M κ w κ' w'} he hb h=>by
  rcases h with h | ⟨b,off,cells,rfl,h1,h2,h3,h4,h5,h6⟩
  ·exact .inl h
  ·obtain ⟨hlt,hm⟩:=hb b (by simp [pblk])
   obtain ⟨k1,k2⟩:=he.keep b hlt hm
   exact .inr ⟨b,off,cells,rfl,k2.trans h1,h2,h3,k1.trans h4,h5,h6⟩
section
variable {ro:Option Nat}{P:Program}{ops:Array Oper}{Q:Exit→Act→World→Prop}{N:Nat}{D:List Deferred}{L L':FL}{a:Act}{w:World}{o:Oper}{K:Act→World→Prop}
variable {M:List Nat}{κ0 κ:Gh}{w0:World}{C C':List Ck}{R R':List MP}
variable {α:Type}{t:FT α}{E c:Nat}{p:Option Addr}{l:List α}
theorem ownX.at {κ:Gh}{w:World}(h:(ownX t E p c l).p κ w){k:Nat}{x:α}(hk:l[k]? = some x) : ∃b off cells,p=some ⟨b,off,none⟩∧κ b=none∧l.length≤c∧c≤maxLen∧w.heap[b]? = some (.cells cells E (0,0))∧(c≠0→cells.size=off+c*t.size) ∧
  ∀i x,l[i]? = some x → ∀j v,(t.enc x)[j]? = some v→cells[off+i*t.size+j]? = some v:=by
 rcases h with ⟨rfl,-⟩|h
 ·simp at hk
 ·exact h
theorem SS.addOwn (h:SS M κ0 w0 κ w C R) (t:FT α) (E:Nat):SS M κ0 w0 κ w (.ext (ownX t E none 0 [])::C) R:=by
 refine h.recast (λc hc=>?_) [] (by rw [List.append_nil]; exact List.Perm.refl _)
 rcases List.mem_cons.1 hc with rfl|hc
 ·exact .inl ⟨rfl,rfl,rfl⟩
 ·exact h.ok c hc
theorem SS.ptrO (hS:SS M κ0 w0 κ w C R) (ci:Nat) {i:Int} {y:α} (hC:C[ci]? = some (.ext (ownX t E p c l))) (hi:idx l i=some y) : ∃b off,p=some ⟨b,off,none⟩:=by
 obtain ⟨b,off,_,hp,_⟩:=ownX.at (hS.ck ci hC:(ownX t E p c l).p κ w) (nR hi).2.2
 exact ⟨b,off,hp⟩
theorem uJ (hF:Fr N D L a)(hS:SS M κ0 w0 κ w C R)(hc:qM N L o=true)(ci:Nat){T sz n:Nat}{kd:IntKind}{i:Int}{y:α}{x ix:Operand}(hop:o.op = .indexAddr T x ix)(hC:C[ci]? = some (.ext (ownX t E p c l)))
  (hx:ev L x=some (.slice p n c)) (hn:n=l.length) (hix:ev L ix=some (.int kd i)) (hi:idx l i=some y) (hu:jK P (underlying T)=some (.slice E)) (hs:jK P (sizeOf E)=some sz)
  (kk : ∀b off a',p=some ⟨b,off,none⟩→Fr N D (upd L o.dst (.pointer (some ⟨b,off+i.toNat*sz,none⟩))) a'→K a' w):wo ro P o a w K Q:=by
 obtain ⟨h0,h1,h2⟩:=nR hi
 obtain ⟨b,off,hp⟩:=hS.ptrO ci hC hi
 refine kQ hF hc (v := .pointer (some ⟨b,off+i.toNat*sz,none⟩)) (w':=w) ?_ λa' hF'=>kk b off a' hp hF'
 simp only [execOp,hop,evD,hx,hix,Option.getD_some]
 subst hn hp
 have hlt:i<(l.length:Int):=by omega
 simp [Instr.indexAt,asIntOf,kB hu,jX _ hs w,h0,hlt,pC]
theorem yC (ci:Nat){T b off Eo:Nat}{i:Int}{y:α}{x:Operand}{v:Value}(hop:o.op = .load T x)(hC:C[ci]? = some (.ext (ownX t E p c l)))
  (hp:p=some ⟨b,off,none⟩) (hx:ev L x=some (.pointer (some ⟨b,Eo,none⟩))) (hi:idx l i=some y) (hE:off+i.toNat*t.size=Eo) (hv:(t.enc y)[0]? = some v) (hg:jK P (isAgg T)=some false) : ∀w,SSx M κ0 w0 C R w→(execOp (evD L) o).run P w = .ok (.value v) w:=λw ⟨κ,hS⟩=>by
 obtain ⟨b',off',cells,hp',h1,h2,h3,h4,h5,h6⟩:=ownX.at (hS.ck ci hC:(ownX t E p c l).p κ w) (nR hi).2.2
 rw [hp] at hp'
 simp only [Option.some.injEq,Addr.mk.injEq] at hp'
 obtain ⟨rfl,rfl,_⟩:=hp'
 subst hE
 have:=h6 _ _ (nR hi).2.2 0 v hv
 exact sG hop hx (pX hg (by simpa [World.cell?,h4] using this))
theorem zP (hF:Fr N D L a)(hS:SS M κ0 w0 κ w C R)(hc:qM N L o=true)(ci:Nat){T b off Eo:Nat}{i:Int}{y:α}{x:Operand}{v:Value}(hop:o.op = .load T x)(hC:C[ci]? = some (.ext (ownX t E p c l)))
  (hp:p=some ⟨b,off,none⟩) (hx:ev L x=some (.pointer (some ⟨b,Eo,none⟩))) (hi:idx l i=some y) (hE:off+i.toNat*t.size=Eo) (hv:(t.enc y)[0]? = some v) (hg:jK P (isAgg T)=some false)
  (kk : ∀a',Fr N D (upd L o.dst v) a'→K a' w):wo ro P o a w K Q:=
 kQ hF hc (yC (M:=M) (κ0:=κ0) (w0:=w0) (R:=R) ci hop hC hp hx hi hE hv hg w ⟨κ,hS⟩) kk
theorem I0 (hF:Fr N D L a)(hS:SS M κ0 w0 κ w C R)(hc:qM N L o=true)(ci:Nat){T b off Eo sz:Nat}{i:Int}{y z:α}{x x':Operand}{v:Value}(hop:o.op = .store T x x')(hx:ev L x=some (.pointer (some ⟨b,Eo,none⟩)))(hy:ev L x'=some v)(hC:C[ci]? = some (.ext (ownX t E p c l)))
  (hp:p=some ⟨b,off,none⟩) (hi:idx l i=some y) (hE:off+i.toNat*t.size=Eo) (hsz:jK P (sizeOf T)=some sz) (hts:t.size=sz) (hvs:v.cells=(t.enc z).toArray)
  (kk : ∀a' w',Fr N D (upd L o.dst undef) a'→SS M κ0 w0 κ w' (C.set ci (.ext (ownX t E p c (l.set i.toNat z)))) R→K a' w'):wo ro P o a w K Q:=by
 subst hp hts
 obtain ⟨h0,hil,hiy⟩:=nR hi
 obtain ⟨b',off',cells,hp',h1,h2,h3,h4,h5,h6⟩:=ownX.at (hS.ck ci hC:(ownX t E _ c l).p κ w) hiy
 simp only [Option.some.injEq,Addr.mk.injEq] at hp'
 obtain ⟨rfl,rfl,_⟩:=hp'
 have h5e:=h5 (by omega)
 have hmul:i.toNat*t.size+t.size≤l.length*t.size:=by
  have:(i.toNat+1)*t.size≤l.length*t.size:=Nat.mul_le_mul_right _ hil
  rw [Nat.add_mul,Nat.one_mul] at this
  exact this
 have hmulc:l.length*t.size≤c*t.size:=Nat.mul_le_mul_right _ h2
 have hbm:b∈jI C:=List.mem_flatMap.2 ⟨_,List.mem_of_getElem? hC,by simp [Ck.blks,ownX,pblk]⟩
 have hblt:b<w.heap.size:=hS.lt b hbm
 have hzl:=t.len z
 have hst:=run_storeCells_at P b Eo E (t.enc z) 0 cells w h4 (by rw [hzl,h5e]; omega) (t.one z)
 simp only [Nat.add_zero] at hst
 rw [yG w b E _ _ h4] at hst
 have hst':(Instr.storeAt T (.pointer (some ⟨b,Eo,none⟩)) v).run P w = .ok () {w with heap:=w.heap.setIfInBounds b (.cells (cells.toList.take Eo++t.enc z++cells.toList.drop (Eo+(t.enc z).length)).toArray E (0,0))}:=by
  have e1:v.cells.toList=t.enc z:=by rw [hvs]
  have e2:v.cells.size=t.size:=by rw [hvs]; simpa using hzl
  simp [Instr.storeAt,Instr.sureAddr,storeVar,jX _ hsz w,e1,e2,hst]
 generalize harr:(cells.toList.take Eo++t.enc z++cells.toList.drop (Eo+(t.enc z).length)).toArray=arr at hst'
 have hal:arr.size=cells.size:=by
  subst harr
  simp only [List.size_toArray,List.length_append,List.length_take,List.length_drop,Array.length_toList]
  omega
 have harrk : ∀k,arr[k]? = if k<Eo then cells[k]? else if k<Eo+t.size then (t.enc z)[k-Eo]? else cells[k]? := λk=>by
  subst harr
  have hEc:Eo+t.size≤cells.toList.length:=by simp only [Array.length_toList]; omega
  rw [List.getElem?_toArray,List.append_assoc]
  by_cases hk1:k<Eo
  ·rw [if_pos hk1,List.getElem?_append_left (by simp; omega),List.getElem?_take,if_pos hk1]; simp
  ·rw [if_neg hk1,List.getElem?_append_right (by simp; omega)]
   have hlt:(cells.toList.take Eo).length=Eo:=by simp; omega
   rw [hlt]
   by_cases hk2:k<Eo+t.size
   ·rw [if_pos hk2,List.getElem?_append_left (by omega)]
   ·rw [if_neg hk2,List.getElem?_append_right (by omega),List.getElem?_drop]
    simp only [Array.getElem?_toList]
    congr 1; omega
 let w':World:={w with heap:=w.heap.setIfInBounds b (.cells arr E (0,0))}
 have hother : ∀b',b'≠b→w'.heap[b']? = w.heap[b']? := λb' hne=>by
  show (w.heap.setIfInBounds b _)[b']? = _
  rw [Array.getElem?_setIfInBounds_ne (Ne.symm hne)]
 have hme:w'.heap[b]? = some (.cells arr E (0,0)):=by
  show (w.heap.setIfInBounds b _)[b]? = _
  simp [hblt]
 have hext:Ext (Ck.ext (ownX t E (some ⟨b,off,none⟩) c l)).blks κ w κ w':=
  ⟨rfl,rfl,rfl,by simp [w'],λb' _ hm=>⟨hother b' (by simpa [Ck.blks,ownX,pblk] using hm),rfl⟩,λb' n hn=>⟨n,hn,Nat.le_refl _,λk _=>lM (hother b' λe=>by rw [e,h1] at hn; cases hn)⟩⟩
 obtain ⟨hCe,hCs⟩:=uP (c' := .ext (ownX t E (some ⟨b,off,none⟩) c (l.set i.toNat z))) hC
 refine zN hF hc (xJ hop hx hy hst') λa' hF'=>kk a' w' hF' ?_
 rw [hCs]
 refine hS.turn _ _ hCe hext (λb' hb'=>hS.fresh b' (by simpa [w'] using hb')) ?_ (λb' hb'=>.inl hb') (λb' hb'=>?_) (by simp [Ck.blks,ownX,pblk])
 ·refine .inr ⟨b,off,arr,rfl,h1,by rw [List.length_set]; exact h2,h3,hme,λhc0=>by rw [hal]; exact h5 hc0,λj u hj q e he=>?_⟩
  have hql:q<t.size:=by rw [← t.len u]; exact (List.getElem?_eq_some_iff.1 he).1
  rw [harrk]
  rw [List.getElem?_set] at hj
  split at hj
  ·rename_i hij
   simp only [Option.some.injEq] at hj
   subst hij hj
   rw [if_neg (by omega),if_pos (by omega),show off+i.toNat*t.size+q-Eo=q from by omega]; exact he
  ·rename_i hij
   have hju:=h6 _ _ hj q e he
   rcases Nat.lt_or_gt_of_ne hij with h|h
   ·have:(i.toNat+1)*t.size≤j*t.size:=Nat.mul_le_mul_right _ h
    rw [Nat.add_mul,Nat.one_mul] at this
    rw [if_neg (by omega),if_neg (by omega)]; exact hju
   ·have:(j+1)*t.size≤i.toNat*t.size:=Nat.mul_le_mul_right _ h
    rw [Nat.add_mul,Nat.one_mul] at this
    rw [if_pos (by omega)]; exact hju
 ·have:b'=b:=by simpa [Ck.blks,ownX,pblk] using hb'
  subst this; simpa [w'] using hblt
def mkl {α:Type} (n:Int) (z:α):Option (List α):=if 0≤n∧n<2147483648 then some (List.replicate n.toNat z) else none
theorem wL (hF:Fr N D L a)(hS:SS M κ0 w0 κ w C R)(hc:qM N L o=true)(t:FT α){T:Nat}{kl kc:IntKind}{m:Int}{x y:Operand}{i:TypeInfo}{z:Value}{zm:α}(hop:o.op = .makeSlice T x y)(hx:ev L x=some (.int kl m))(hy:ev L y=some (.int kc m))(hn:mkl m zm=some l)
  (ht:P.underlying T=some (.slice E)) (hi:P.info? E=some i) (hz:i.zero=some z) (hsize:i.size=t.size) (hb:i.bytes≤4096) (hzc:z.cells.toList=t.enc zm)
  (kk : ∀p a' w',Fr N D (upd L o.dst (.slice p l.length l.length)) a'→SS M κ0 w0 κ w' (.ext (ownX t E p l.length l)::C) R→K a' w'):wo ro P o a w K Q:=by
 unfold mkl at hn
 split at hn
 ·rename_i h
  simp only [Option.some.injEq] at hn
  subst hn
  have hbytes:(i.bytes:Int)*m≤281474976710656:=by
   have h1:(i.bytes:Int)≤4096:=by omega
   have h2:(i.bytes:Int)*m≤4096*m:=Int.mul_le_mul_of_nonneg_right h1 h.1
   omega
  have hrun:=run_make (P:=P) w T E i z ht hi hz kl kc m m h.1 (Int.le_refl _) hbytes (by omega)
  rw [List.length_replicate] at *
  refine kQ hF hc (v := .slice (some ⟨w.heap.size,0,none⟩) m.toNat m.toNat) (w':=w.alloc (.cells (madeCells z.cells (m.toNat*i.size)) E)) ?_ λa' hF'=>kk (some ⟨w.heap.size,0,none⟩) a' _ hF' ?_
  ·simp only [execOp,hop,evD,hx,hy,Option.getD_some]
   simp only [Sem.run_bind,hrun,Result.andThen]
   rfl
  ·have hext:Ext [] κ w κ (w.alloc (.cells (madeCells z.cells (m.toNat*i.size)) E)):=Ext.alloc hS.fresh _ ⟨_,_,rfl⟩
   have h':=hS.step hext (hS.fresh.alloc _)
   have hbl:jI (.ext (ownX t E (some ⟨w.heap.size,0,none⟩) m.toNat (List.replicate m.toNat zm))::C)=w.heap.size::jI C:=rfl
   have hzs:z.cells.size=t.size:=by rw [← Array.length_toList,hzc,t.len]
   refine ⟨h'.ext,h'.fresh,λd hd=>?_,λb hb'=>?_,?_,λb hb'=>?_,h'.ro⟩
   ·rcases List.mem_cons.1 hd with rfl|hd
    ·refine .inr ⟨w.heap.size,0,madeCells z.cells (m.toNat*i.size),rfl,hS.fresh _ (Nat.le_refl _),by simp,by unfold maxLen; omega,nD _ _,λ_=>by rw [hsize]; simp [madeCells],λj u hj q e he=>?_⟩
     rw [List.getElem?_replicate] at hj
     split at hj
     ·rename_i hjm
      simp only [Option.some.injEq] at hj
      subst hj
      have hql:q<t.size:=by rw [← t.len zm]; exact (List.getElem?_eq_some_iff.1 he).1
      have hmul:j*t.size+t.size≤m.toNat*t.size:=by
       have:(j+1)*t.size≤m.toNat*t.size:=Nat.mul_le_mul_right _ hjm
       rw [Nat.add_mul,Nat.one_mul] at this
       exact this
      have hmod:(0+j*t.size+q) % z.cells.size=q:=by
       rw [hzs,Nat.zero_add,Nat.mul_comm,Nat.mul_add_mod,Nat.mod_eq_of_lt hql]
      have hq2:z.cells[q]? = some e:=by rw [← Array.getElem?_toList,hzc]; exact he
      have hlt:0+j*t.size+q<m.toNat*i.size:=by rw [hsize]; omega
      unfold madeCells
      rw [Array.getElem?_map,Array.getElem?_range]
      rw [if_pos hlt]
      simp only [Option.map_some,hmod]
      rw [getElem!_def,hq2]
     ·cases hj
    ·exact h'.ok d hd
   ·rw [hbl] at hb'
    rcases List.mem_cons.1 hb' with rfl|hb'
    ·rw [mA]; omega
    ·exact h'.lt b hb'
   ·rw [hbl]
    exact List.nodup_cons.2 ⟨λhm=>by have:=hS.lt _ hm; omega,hS.nd⟩
   ·rw [hbl] at hb'
    rcases List.mem_cons.1 hb' with rfl|hb'
    ·exact .inl hS.ext.size
    ·exact hS.own b hb'
 ·cases hn
def zD {α:Type} (l l':List α):Option (List α):=if l'.isEmpty then none else apd l l'
theorem xD (hF:Fr N D L a)(hS:SS M κ0 w0 κ w C R)(hc:qM N L o=true)(ci ri2:Nat){T c2 n n2:Nat}{i:TypeInfo}{z:Value}{p2:Option Addr}{l2 l':List α}{x y:Operand}
  (hop:o.op = .call {callee := .builtin .append,args := #[x,y],argTypes := #[T,T]}) (hx:ev L x=some (.slice p n c)) (hy:ev L y=some (.slice p2 n2 c2)) (hn:n=l.length) (hn2:n2=l2.length) (hC:C[ci]? = some (.ext (ownX t E p c l)))
  (hR2:R[ri2]? = some (Ro.mp t.ty p2 c2 l2)) (ha:zD l l2=some l')
  (ht:jK P (underlying T)=some (.slice E)) (hi:P.info? E=some i) (hz:i.zero=some z) (hsize:(i.size==t.size&&z.cells.size==t.size&&decide (i.bytes≤4096)&&decide (0<t.size))=true)
  (kk : ∀p' c' κ' a' w',Fr N D (upd L o.dst (.slice p' l'.length c')) a'→SS M κ0 w0 κ' w' (C.set ci (.ext (ownX t E p' c' l'))) R→K a' w'):wo ro P o a w K Q:=by
 unfold zD at ha
 split at ha
 ·cases ha
 rename_i hne
 have hpos:0<l2.length:=by cases l2 with
  | nil=>simp at hne
  | cons=>simp
 obtain ⟨hlen,rfl⟩:=FE ha
 subst hn hn2
 simp only [Bool.and_eq_true,beq_iff_eq,decide_eq_true_eq] at hsize
 obtain ⟨⟨⟨hs1,hs2⟩,hs3⟩,hs4⟩:=hsize
 have hck:=(hS.ck ci hC:(ownX t E p c l).p κ w)
 have hblk : ∀b∈pblk p,b∈jI C:=λb hb=>List.mem_flatMap.2 ⟨_,List.mem_of_getElem? hC,hb⟩
 have hpb : ∀E n s c,(Ck.tok p E s n c).blks=pblk p:=λ_ _ _ _=>by cases p<;>rfl
 have hl2:Ro t.ty κ w p2 c2 l2:=hS.get ri2 hR2
 have hpn : ∀b∈pblk p,κ b=none:=λb hb=>by
  rcases hck with ⟨-,-,rfl⟩ | ⟨b',off,cells,rfl,g1,_⟩
  ·simp [pblk] at hb
  ·simp only [pblk,List.mem_singleton] at hb; subst hb; exact g1
 obtain ⟨κ1,hfr1,htok,hl,hl21,hk1⟩ : ∃κ1:Gh,lG κ1 w∧(Ck.tok p E t.ty.size l.length c).ok κ1 w∧Ro t.ty κ1 w p c l∧Ro t.ty κ1 w p2 c2 l2 ∧ ∀b,b ∉ pblk p→κ1 b=κ b:=by
  rcases hck with ⟨rfl,rfl,rfl⟩ | ⟨b,off,cells,rfl,g1,g2,g3,g4,g5,g6⟩
  ·exact ⟨κ,hS.fresh,.inl ⟨rfl,rfl⟩,⟨Nat.le_refl _,Nat.zero_le _,.inl ⟨rfl,rfl⟩⟩,hl2,λ_ _=>rfl⟩
  ·have hblt:b<w.heap.size:=hS.lt b (hblk b (by simp [pblk]))
   have hRo2 : ∀κ1:Gh,(∀x,x≠b→κ1 x=κ x)→Ro t.ty κ1 w p2 c2 l2:=λκ1 h1=>by
    obtain ⟨q1,q2,q3⟩:=hl2
    refine ⟨q1,q2,?_⟩
    rcases q3 with q3 | ⟨b',off',n',rfl,hk,hn,hcell⟩
    ·exact .inl q3
    ·have:b'≠b:=λe=>by rw [e,g1] at hk; cases hk
     exact .inr ⟨b',off',n',rfl,(h1 _ this).trans hk,hn,hcell⟩
   by_cases hc0:c=0
   ·have:l=[]:=List.eq_nil_of_length_eq_zero (by omega)
    subst this hc0
    exact ⟨κ,hS.fresh,.inl ⟨rfl,rfl⟩,⟨Nat.le_refl _,Nat.zero_le _,.inl ⟨rfl,rfl⟩⟩,hl2,λ_ _=>rfl⟩
   refine ⟨λx=>if x=b then some (off+l.length*t.size) else κ x,λx hx=>?_,.inr ⟨b,off,cells,rfl,if_pos rfl,g2,g3,g4,g5 hc0⟩,⟨g2,g3,.inr ⟨b,off,_,rfl,if_pos rfl,Nat.le_refl _,λj u hj=>⟨t.enc u,rfl,λq v hv=>?_⟩⟩⟩,hRo2 _ λx hx=>if_neg hx,λx hx=>?_⟩
   ·have:x≠b:=by omega
    exact (if_neg this).trans (hS.fresh x hx)
   ·have hq:cells[off+j*t.ty.size+q]? = some v:=g6 j u hj q v hv
    simpa [World.cell?,g4] using hq
   ·have:x≠b:=by simpa [pblk] using hx
    exact if_neg this
 obtain ⟨p',c',κ',w',hrun,hext,hfr,hro,htok',hb'⟩:=BO (P:=P) (y:=o.type) t.ty (mQ ht) hi hz hs1 hs2 rfl hs3 hs4 hfr1 htok (λb hb=>hS.lt b (hblk b (by rw [hpb] at hb; exact hb))) hl hl21 hlen
 have hpb' : ∀E n s c,(Ck.tok p' E s n c).blks=pblk p':=λ_ _ _ _=>by cases p'<;>rfl
 rw [hpb] at hext
 have hval:(execOp (evD L) o).run P w = .ok (.value (.slice p' (l++l2).length c')) w':=by
  have hex:evD L x = .slice p l.length c:=by simp [evD,hx]
  have hey:evD L y = .slice p2 l2.length c2:=by simp [evD,hy]
  simp only [execOp,hop]
  simp [resolve,invoke,Go.builtin,hex,hey,hrun]
 have hbm' : ∀b∈pblk p',(b∈pblk p∨w.heap.size≤b)∧b<w'.heap.size:=λb hb=>by
  have:=hb' b (by rw [hpb']; exact hb)
  rw [hpb] at this
  exact this
 obtain ⟨κ2,hk2,hk2'⟩ : ∃κ2:Gh,(∀b,b<w.heap.size→κ2 b=κ b) ∧ ∀b,w.heap.size≤b→κ2 b=none:=
  ⟨λb=>if b<w.heap.size then κ b else none,λb hb=>if_pos hb,λb hb=>if_neg (by omega)⟩
 have hext2:Ext (Ck.ext (ownX t E p c l)).blks κ w κ2 w':=by
  refine ⟨hext.os,hext.out,hext.tape,hext.size,λb hb hm=>⟨(hext.keep b hb hm).1,hk2 b hb⟩,λb n hn=>?_⟩
  have hblt:b<w.heap.size:=by
   rcases Nat.lt_or_ge b w.heap.size with h|h
   ·exact h
   ·rw [hS.fresh b h] at hn; cases hn
  refine ⟨n,(hk2 b hblt).trans hn,Nat.le_refl _,λi hi=>?_⟩
  by_cases hm:b∈pblk p
  ·rw [hpn b hm] at hn; cases hn
  ·exact lM (hext.keep b hblt hm).1
 obtain ⟨hCe,hCs⟩:=uP (c' := .ext (ownX t E p' c' (l++l2))) hC
 refine kQ hF hc hval λa' hF'=>kk p' c' κ2 a' w' hF' ?_
 rw [hCs]
 refine hS.turn _ _ hCe hext2 (λb hb=>hk2' b (Nat.le_trans hext.size hb)) ?_ (λb hb=>(hbm' b hb).1) (λb hb=>(hbm' b hb).2) (by cases p'<;>simp [Ck.blks,ownX,pblk])
 rcases htok' with ⟨h1,-⟩ | ⟨b,off,cells,rfl,k1,k2,k3,k4,k5⟩
 ·simp only [List.length_append] at h1; omega
 ·refine .inr ⟨b,off,cells,rfl,?_,k2,k3,k4,λ_=>k5,λi u hi j v hv=>?_⟩
  ·rcases (hbm' b (by simp [pblk])).1 with h|h
   ·rw [hk2 b (hS.lt b (hblk b h))]; exact hpn b h
   ·exact hk2' b h
  ·obtain ⟨cs,hr,hcs⟩:=hro.at' hi
   have hr':cs=t.enc u:=hr
   subst hr'
   have hq:w'.cell? ⟨b,off+i*t.ty.size+j,none⟩=some v:=hcs j v hv
   have hq2:cells[off+i*t.ty.size+j]? = some v:=by simpa [World.cell?,k4] using hq
   exact hq2
theorem sR (hF:Fr N D L a)(hS:SS M κ0 w0 κ w C R)(hc:qM N L o=true)(ci:Nat){T b off Eo sz:Nat}{i:Int}{y z:α}{x x':Operand}{v:Value}(hop:o.op = .store T x x')(hx:ev L x=some (.pointer (some ⟨b,Eo,none⟩)))(hy:ev L x'=some v)(hC:C[ci]? = some (.ext (ownX t E p c l)))
  (hp:p=some ⟨b,off,none⟩) (hi:idx l i=some y) (hE:off+i.toNat*t.size=Eo) (hsz:jK P (sizeOf T)=some sz) (hts:t.size=sz) (hvs:v.cells=(t.enc z).toArray)
  {Cf:Nat→List Ck} {Lf:Nat→FL} (ks:List Nat) (hCf:C.set ci (.ext (ownX t E p c (l.set i.toNat z)))=Cf l.length) (hLf:keep (upd L o.dst undef) ks=Lf l.length)
  (kk : ∀a' w',Fr N D (Lf (l.set i.toNat z).length) a'→SS M κ0 w0 κ w' (Cf (l.set i.toNat z).length) R→K a' w'):wo ro P o a w K Q:=by
 rw [List.length_set,← hCf] at kk
 exact I0 hF hS hc ci hop hx hy hC hp hi hE hsz hts hvs λa' w' hF' hS'=>kk a' w' (hF'.keep' ks hLf) hS'
theorem SS.pubO (hS:SS M κ0 w0 κ w C R) (i:Nat) (hC:C[i]? = some (.ext (ownX t E p c l))) : ∃κ',SS M κ0 w0 κ' w (C.set i (.tok p E t.size l.length c)) (Ro.mp t.ty p c l::R):=by
 have hck:=(hS.ck i hC:(ownX t E p c l).p κ w)
 obtain ⟨hCe,hCs⟩:=uP (c' := .tok p E t.size l.length c) hC
 have hpb:(Ck.tok p E t.size l.length c).blks=pblk p:=by cases p<;>rfl
 have hblk : ∀b∈pblk p,b∈jI C:=λb hb=>List.mem_flatMap.2 ⟨_,List.mem_of_getElem? hC,hb⟩
 rcases hck with ⟨rfl,rfl,rfl⟩ | ⟨b,off,cells,rfl,g1,g2,g3,g4,g5,g6⟩
 ·refine ⟨κ,?_⟩
  rw [hCs]
  have hok:(Ck.tok none E t.size ([]:List α).length 0).ok κ w := .inl ⟨rfl,rfl⟩
  exact (hS.turn _ _ hCe (Ext.refl _ _ _) hS.fresh hok (λb hb=>by simp [Ck.blks] at hb) (λb hb=>by simp [Ck.blks] at hb) (by simp [Ck.blks])).add ⟨Nat.le_refl _,Nat.zero_le _,.inl ⟨rfl,rfl⟩⟩
 ·have hblt:b<w.heap.size:=hS.lt b (hblk b (by simp [pblk]))
  let κ':Gh:=λx=>if x=b then some (off+l.length*t.size) else κ x
  have hκb:κ' b=some (off+l.length*t.size):=if_pos rfl
  have hκ : ∀x,x≠b→κ' x=κ x:=λx hx=>if_neg hx
  have hext:Ext (Ck.ext (ownX t E (some ⟨b,off,none⟩) c l)).blks κ w κ' w:=
   ⟨rfl,rfl,rfl,Nat.le_refl _,λx _ hm=>⟨rfl,hκ x (by simpa [Ck.blks,ownX,pblk] using hm)⟩,λx n hn=>⟨n,(hκ x λe=>by rw [e,g1] at hn; cases hn).trans hn,Nat.le_refl _,λ_ _=>rfl⟩⟩
  have hfr:lG κ' w:=λx hx=>(hκ x (by omega)).trans (hS.fresh x hx)
  refine ⟨κ',?_⟩
  rw [hCs]
  refine (hS.turn _ _ hCe hext hfr ?_ (λx hx=>.inl (by rw [hpb] at hx; exact hx)) (λx hx=>?_) (by simp [Ck.blks])).add ⟨g2,g3,?_⟩
  ·by_cases hc0:c=0
   ·exact .inl ⟨by omega,hc0⟩
   ·exact .inr ⟨b,off,cells,rfl,hκb,g2,g3,g4,g5 hc0⟩
  ·have:x=b:=by simpa [Ck.blks] using hx
   subst this; exact hblt
  ·refine .inr ⟨b,off,_,rfl,hκb,Nat.le_refl _,λj u hj=>⟨t.enc u,rfl,λq v hv=>?_⟩⟩
   have hq:cells[off+j*t.ty.size+q]? = some v:=g6 j u hj q v hv
   simpa [World.cell?,g4] using hq
theorem G5 (hS:SS M κ0 w0 κ w C R)(ci:Nat){T n:Nat}{l':List α}{lo:Int}{x y:Operand}{kd:IntKind}(hop:o.op = .slice T x (some y) none none)(hC:C[ci]? = some (.ext (ownX t E p c l)))
  (hx:ev L x=some (.slice p n c)) (hn:n=l.length) (hy:ev L y=some (.int kd lo))
  (hs:slc l lo l.length=some l') (hu:jK P (underlying T)=some (.slice E)) (hsz:jK P (sizeOf E)=some t.size) :
  ∃p' c',((∀κ w,(ownX t E p c l).p κ w→(ownX t E p' c' l').p κ w)∧pblk p'=pblk p) ∧ ∀w,(execOp (evD L) o).run P w = .ok (.value (.slice p' l'.length c')) w:=by
 obtain ⟨h0,h1,h2,rfl⟩:=wO hs
 subst hn
 have hck:=(hS.ck ci hC:(ownX t E p c l).p κ w)
 have hlc:l.length≤c:=by
  rcases hck with ⟨rfl,rfl,-⟩ | ⟨b,off,cells,rfl,h1,h2,_⟩
  ·simp
  ·exact h2
 have hlen:((l.take (l.length:Int).toNat).drop lo.toNat).length=l.length-lo.toNat:=by simp
 refine ⟨if c=lo.toNat then p else p.map (·.add (lo.toNat*t.size)),c-lo.toNat,⟨λκ w hck=>?_,?_⟩,λw=>?_⟩
 ·rcases hck with ⟨rfl,rfl,rfl⟩ | ⟨b,off,cells,rfl,g1,g2,g3,g4,g5,g6⟩
  ·exact .inl ⟨by simp,by omega,by split<;>rfl⟩
  ·have hget : ∀i u,((l.take (l.length:Int).toNat).drop lo.toNat)[i]? = some u→l[lo.toNat+i]? = some u:=λi u hi=>by
    rw [List.getElem?_drop,List.getElem?_take] at hi
    split at hi
    ·exact hi
    ·cases hi
   by_cases hcl:c=lo.toNat
   ·rw [if_pos hcl]
    have hnil:(l.take (l.length:Int).toNat).drop lo.toNat=[]:=List.eq_nil_of_length_eq_zero (by rw [hlen]; omega)
    rw [hnil]
    exact .inr ⟨b,off,cells,rfl,g1,Nat.zero_le _,by omega,g4,λh=>absurd (by omega) h,λi u hi=>by simp at hi⟩
   ·rw [if_neg hcl]
    have e2:lo.toNat*t.size+(c-lo.toNat)*t.size=c*t.size:=by rw [← Nat.add_mul]; congr 1; omega
    refine .inr ⟨b,off+lo.toNat*t.size,cells,by simp [pC],g1,by rw [hlen]; omega,by omega,g4,λ_=>by have:=g5 (by omega); omega,λi u hi j v hv=>?_⟩
    have:=g6 _ u (hget i u hi) j v hv
    rwa [Nat.add_mul,← Nat.add_assoc] at this
 ·split
  ·rfl
  ·cases p with
   | none=>rfl
   | some a=>
    show [(a.add _).block]=[a.block]
    unfold Addr.add
    split<;>rfl
 ·have hrun:(Instr.sliceAt T (.slice p l.length c) (some (evD L y)) none none).run P w = .ok (.slice (if c=lo.toNat then p else p.map (·.add (lo.toNat*t.size))) (l.length-lo.toNat) (c-lo.toNat)) w:=by
   simp [Instr.sliceAt,Instr.slice,Instr.sliceBounds,Instr.sliceBound,asIntOf,kB hu,jX _ hsz w,evD,hy,h0,h1]
  have hev:evD L x = .slice p l.length c:=by simp [evD,hx]
  simp only [execOp,hop,hev,Option.map_none,Option.map_some]
  rw [hlen]
  simp [hrun]
theorem SS.convO (hS:SS M κ0 w0 κ w C R) (ci:Nat) (hC:C[ci]? = some (.ext (ownX t E p c l))) {p':Option Addr} {c':Nat} {l':List α} (h:(∀κ w,(ownX t E p c l).p κ w→(ownX t E p' c' l').p κ w)∧pblk p'=pblk p):SS M κ0 w0 κ w (C.set ci (.ext (ownX t E p' c' l'))) R:=
 hS.reck ci hC h.2 (h.1 κ w (hS.ck ci hC))
end
end Go.Cf
namespace Go.Cf
open Go Go.MapKept
set_option linter.unusedVariables false
section
variable {M:List Nat}{κ0 κ:Gh}{w0 w:World}{C C':List Ck}{R R':List MP}
variable {α H:Type}{ck:Nat→H→α→List Ck}{fs:H→α→List MP}{b:Nat}{bs:List Nat}{a:α}{O:OT α}{p:Option Nat}{o:Option α}{ps:List (Option Nat)}{xs:List (Option α)}
theorem SS.lead (hS:SS M κ0 w0 κ w C R) (is js:List Nat) (hn:(is++js).Nodup) {A:List Ck} (hA:(is.filterMap λi=>C[i]?)=A):SS M κ0 w0 κ w (A++js.filterMap λi=>C[i]?) R:=by
 subst hA
 exact hS.selp (is++js) hn (by rw [wB,List.filterMap_append])
theorem SS.unfI (hS:SS M κ0 w0 κ w C R) (i:Nat) (hC:C[i]? = some (.ext (optX (OT.of ck fs) (some b) bs (some a)))) : ∃h,SS M κ0 w0 κ w (ck b h a++C.eraseIdx i) (fs h a++R):=by
 obtain ⟨h,h1,h2,h3⟩:=(hS.ck i hC:((OT.of ck fs).x b bs a).p κ w)
 refine ⟨h,(hS.recut i hC (ck b h a) h2 [] (by rw [List.append_nil]; exact h1)).facts λm hm=>?_⟩
 rcases List.mem_append.1 hm with hm|hm
 ·exact h3 m hm
 ·exact hS.ro m hm
theorem SS.foldI (hS:SS M κ0 w0 κ w C R)(b:Nat)(h:H)(a:α)(is js ri:List Nat)(hn:(is++js).Nodup)(hC:zR C is=ck b h a)(hR:zR R ri=fs h a) :
  ∃bs,SS M κ0 w0 κ w (.ext (optX (OT.of ck fs) (some b) bs (some a))::js.filterMap λi=>C[i]?) R:=
 (hS.lead is js hn ((wB _ _).symm.trans hC)).foldO ((hS.lead is js hn ((wB _ _).symm.trans hC)).pick ri hR)
theorem SS.swap {c d:Ck} (h:SS M κ0 w0 κ w (c::d::C) R):SS M κ0 w0 κ w (d::c::C) R:=by
 refine h.recast (λx hx=>h.ok x ?_) [] ?_
 ·simp only [List.mem_cons] at hx ⊢
  rcases hx with hx|hx|hx
  ·exact .inr (.inl hx)
  ·exact .inl hx
  ·exact .inr (.inr hx)
 ·rw [List.append_nil]
  show (d.blks++(c.blks++jI C)).Perm (c.blks++(d.blks++jI C))
  rw [← List.append_assoc,← List.append_assoc]
  exact List.Perm.append_right _ List.perm_append_comm
theorem SS.arrTakeI (hS:SS M κ0 w0 κ w C R)(i:Nat)(hC:C[i]? = some (.ext (arrX O ps bs xs))){j:Int}{o:Option α}(hx:idx xs j=some o) :
  ∃p bs1 bs2,idx ps j=some p∧SS M κ0 w0 κ w (.ext (optX O p bs1 o) :: .ext (arrX O (ps.set j.toNat none) bs2 (xs.set j.toNat none))::C.eraseIdx i) R:=by
 obtain ⟨j0,-,j2⟩:=nR hx
 have h:=hS.recut i hC [.ext (arrX O ps bs xs)] (λc hc=>by simp only [List.mem_singleton] at hc; subst hc; exact hS.ck i hC) [] (by rw [List.append_nil]; simp [jI])
 obtain ⟨p,b1,b2,hp,h⟩:=h.arrTake j2
 exact ⟨p,b1,b2,by unfold idx; rw [if_pos j0]; exact hp,h⟩
theorem HA {β:Type} {l:List β} {j:Int} {x:β} (h:idx l j=some x):l.set j.toNat x=l:=by
 obtain ⟨_,h1,h2⟩:=nR h
 obtain ⟨_,he⟩:=List.getElem?_eq_some_iff.1 h2
 rw [← he]; exact List.set_getElem_self h1
theorem SS.arrPutI (hS:SS M κ0 w0 κ w C R)(i k:Nat)(js:List Nat)(hn:([i,k]++js).Nodup){j:Int}{bs1:List Nat}(hi:C[i]? = some (.ext (optX O p bs1 o)))(hk:C[k]? = some (.ext (arrX O (ps.set j.toNat none) bs (xs.set j.toNat none))))(hp:idx ps j=some p) :
  ∃bs',SS M κ0 w0 κ w (.ext (arrX O ps bs' (xs.set j.toNat o))::js.filterMap λi=>C[i]?) R:=by
 have h:=hS.lead [i,k] js hn (A:=[.ext (optX O p bs1 o),.ext (arrX O (ps.set j.toNat none) bs (xs.set j.toNat none))]) (by simp [hi,hk])
 obtain ⟨b',h⟩:=SS.arrPut h
 rw [HA hp] at h
 exact ⟨b',h⟩
theorem SS.arrBackI (hS:SS M κ0 w0 κ w C R)(i k:Nat)(js:List Nat)(hn:([i,k]++js).Nodup){j:Int}{bs1:List Nat}(hi:C[i]? = some (.ext (optX O p bs1 o)))(hk:C[k]? = some (.ext (arrX O (ps.set j.toNat none) bs (xs.set j.toNat none))))(hp:idx ps j=some p)(hx:idx xs j=some o) :
  ∃bs',SS M κ0 w0 κ w (.ext (arrX O ps bs' xs)::js.filterMap λi=>C[i]?) R:=by
 obtain ⟨b',h⟩:=hS.arrPutI i k js hn hi hk hp
 rw [HA hx] at h
 exact ⟨b',h⟩
theorem SS.arrSetI (hS:SS M κ0 w0 κ w C R)(i k:Nat)(js:List Nat)(hn:([i,k]++js).Nodup)(j:Nat){bs1:List Nat}(hi:C[i]? = some (.ext (optX O p bs1 o)))(hk:C[k]? = some (.ext (arrX O ps bs xs))) :
  ∃bs',SS M κ0 w0 κ w (.ext (arrX O (ps.set j p) bs' (xs.set j o))::js.filterMap λi=>C[i]?) R:=by
 have h:=hS.lead ([k,i]) js (by
  simp only [List.cons_append,List.nil_append,List.nodup_cons,List.mem_cons,not_or] at hn ⊢
  exact ⟨⟨λe=>hn.1.1 e.symm,hn.2.1⟩,hn.1.2,hn.2.2⟩) (A:=[.ext (arrX O ps bs xs),.ext (optX O p bs1 o)]) (by simp [hi,hk])
 obtain ⟨b2,h⟩:=SS.arrDrop h j
 exact h.swap.arrPut
end
section
variable {K α:Type} [DecidableEq K] [KO K]
def mpX (O:OT α)(mb:Mp K (Option Nat))(bs:List Nat)(m:Mp K α)(hole:Option K):XF where
 bs:=bs
 p κ w:=match m,mb with
  | some l,some lb=>Srt l∧lb.map (·.1)=l.map (·.1) ∧ ∃f:K→List Nat,((l.filter λe=>decide (some e.1≠hole)).flatMap λe=>f e.1).Perm bs ∧ ∀k a,some k≠hole→jS l k=some a → ∃b,jS lb k=some (some b)∧(O.x b (f k) a).p κ w
  | none,none=>bs=[]
  | _,_=>False
 mono:=by
  intro M κ w κ' w' he hb h
  cases m with
  | none=>cases mb<;>exact h
  | some l=>
   cases mb with
   | none=>exact h
   | some lb=>
    obtain ⟨h1,h2,f,h3,h4⟩:=h
    refine ⟨h1,h2,f,h3,λk a hk hl=>?_⟩
    obtain ⟨b,h5,h6⟩:=h4 k a hk hl
    refine ⟨b,h5,(O.x b (f k) a).mono he (λb' hb'=>hb b' (h3.mem_iff.1 ?_)) h6⟩
    rw [O.bs] at hb'
    exact List.mem_flatMap.2 ⟨(k,a),List.mem_filter.2 ⟨pY hl,by simpa using hk⟩,hb'⟩
omit [KO K] in
theorem C7 (f:K→List Nat) {l:List (K×α)} (hn:(l.map (·.1)).Nodup) {k:K} {a:α} (hk:jS l k=some a):(l.flatMap λe=>f e.1).Perm (f k++(l.filter λe=>decide (some e.1≠some k)).flatMap λe=>f e.1):=by
 induction l with
 | nil=>simp [jS] at hk
 | cons x l ih=>
  simp only [List.map_cons,List.nodup_cons] at hn
  by_cases e:x.1=k
  ·have hf:(l.filter λe=>decide (some e.1≠some k))=l:=List.filter_eq_self.2 λy hy=>by
    simp only [ne_eq,Option.some.injEq,decide_eq_true_eq]
    intro q
    exact hn.1 (by rw [e,← q]; exact List.mem_map.2 ⟨y,hy,rfl⟩)
   rw [List.filter_cons_of_neg (by simp [e]),hf,List.flatMap_cons,e]
  ·have hk':jS l k=some a:=by
    simp only [jS] at hk ⊢
    rw [List.find?_cons_of_neg (by simpa using e)] at hk; exact hk
   rw [List.filter_cons_of_pos (by simpa using e),List.flatMap_cons,List.flatMap_cons]
   refine (List.Perm.append_left _ (ih hn.2 hk')).trans ?_
   rw [← List.append_assoc,← List.append_assoc]
   exact List.Perm.append_right _ List.perm_append_comm
omit [DecidableEq K] [KO K] in
theorem wV (l:List (K×α)):(l.filter λe=>decide (some e.1≠(none:Option K)))=l:=List.filter_eq_self.2 λ_ _=>by simp
theorem D4 {β:Type} (k:K) (v:α) (v':β) : ∀ {l:List (K×α)} {l':List (K×β)},l.map (·.1)=l'.map (·.1)→(lPut l k v).map (·.1)=(lPut l' k v').map (·.1):=by
 intro l
 induction l with
 | nil=>intro l' h; cases l' with
  | nil=>rfl
  | cons=>simp at h
 | cons x l ih=>
  intro l' h
  cases l' with
  | nil=>simp at h
  | cons y l'=>
   simp only [List.map_cons,List.cons.injEq] at h
   obtain ⟨h1,h2⟩:=h
   simp only [lPut,← h1]
   split
   ·simp [h2]
   ·split
    ·simp [h1,h2]
    ·simp [h1,ih h2]
omit [KO K] in
theorem ID {β:Type} (k:K) {l:List (K×α)} {l':List (K×β)} (h:l.map (·.1)=l'.map (·.1)):(lDel l k).map (·.1)=(lDel l' k).map (·.1):=by
 induction l generalizing l' with
 | nil=>cases l' with
  | nil=>rfl
  | cons=>simp at h
 | cons x l ih=>
  cases l' with
  | nil=>simp at h
  | cons y l'=>
   simp only [List.map_cons,List.cons.injEq] at h
   obtain ⟨h1,h2⟩:=h
   have:=ih h2
   simp only [lDel,List.filter_cons,← h1] at this ⊢
   split
   ·simp only [List.map_cons,h1]; rw [this]
   ·exact this
omit [KO K] in
theorem GJ {β:Type} {l:List (K×α)} {l':List (K×β)} (h:l.map (·.1)=l'.map (·.1)) (k:K):(jS l k).isSome=(jS l' k).isSome:=by
 induction l generalizing l' with
 | nil=>cases l' with
  | nil=>rfl
  | cons=>simp at h
 | cons x l ih=>
  cases l' with
  | nil=>simp at h
  | cons y l'=>
   simp only [List.map_cons,List.cons.injEq] at h
   obtain ⟨h1,h2⟩:=h
   have:=ih h2
   simp only [jS,List.find?_cons] at this ⊢
   rw [← h1]
   cases decide (x.1=k)
   ·exact this
   ·rfl
theorem KB (f:K→List Nat) {l:List (K×α)} {k:K} (a:α) (h:jS l k=none):((lPut l k a).flatMap λe=>f e.1).Perm (f k++l.flatMap λe=>f e.1):=by
 induction l with
 | nil=>simp [lPut]
 | cons x l ih=>
  have hx:x.1≠k:=oF.1 h x (by simp)
  have hl:jS l k=none:=oF.2 λp hp=>oF.1 h p (by simp [hp])
  simp only [lPut,if_neg hx]
  split
  ·simp
  ·simp only [List.flatMap_cons]
   refine (List.Perm.append_left _ (ih hl)).trans ?_
   rw [← List.append_assoc,← List.append_assoc]
   exact List.Perm.append_right _ List.perm_append_comm
theorem JW {l:List (K×α)} (hs:Srt l) (k:K) (a:α):lPut l k a=lPut (lDel l k) k a:=
 (oK hs k a).ext (oK (s7 hs k) k a) λk'=>by
  rw [mC,mC]
  split
  ·rfl
  ·rename_i h; rw [qW,if_neg h]
omit [DecidableEq K] [KO K] in
theorem GP {f g:K→List Nat} {l:List (K×α)} (h : ∀e∈l,f e.1=g e.1):(l.flatMap λe=>f e.1)=l.flatMap λe=>g e.1:=by
 induction l with
 | nil=>rfl
 | cons x l ih=>simp only [List.flatMap_cons]; rw [h x (by simp),ih λe he=>h e (by simp [he])]
section
variable {M:List Nat}{κ0 κ:Gh}{w0 w:World}{C C':List Ck}{R R':List MP}{O:OT α}{mb:Mp K (Option Nat)}{m m':Mp K α}{bs:List Nat}{k:K}{a:α}{b:Nat}{hole:Option K}
theorem HG (h:(mpX O mb bs m none).p κ w):(mGet m k=none→(mGet mb k).getD none=none)∧mLen mb=mLen m∧pP mb=pP m∧(mb.isSome=m.isSome):=by
 cases m with
 | none=>cases mb with
  | none=>exact ⟨λ_=>rfl,rfl,rfl,rfl⟩
  | some _=>exact h.elim
 | some l=>cases mb with
  | none=>exact h.elim
  | some lb=>
   obtain ⟨h1,h2,_⟩:=h
   refine ⟨λhn=>?_,?_,h2,rfl⟩
   ·have:=GJ h2 k
    simp only [mGet,Option.bind_some] at hn ⊢
    rw [hn] at this
    cases hf:jS lb k with
    | none=>rfl
    | some _=>rw [hf] at this; cases this
   ·have:=congrArg List.length h2
    simpa [mLen] using this
theorem SS.mpTake (hS:SS M κ0 w0 κ w C R)(i:Nat)(hC:C[i]? = some (.ext (mpX O mb bs m none)))(hx:mGet m k=some a) :
  ∃b bs1 bs2,(mGet mb k).getD none=some b∧SS M κ0 w0 κ w (.ext (optX O (some b) bs1 (some a)) :: .ext (mpX O mb bs2 m (some k))::C.eraseIdx i) R:=by
 have h:=(hS.ck i hC:(mpX O mb bs m none).p κ w)
 cases m with
 | none=>cases hx
 | some l=>
  cases mb with
  | none=>exact h.elim
  | some lb=>
   obtain ⟨h1,h2,f,h3,h4⟩:=h
   have hl:jS l k=some a:=hx
   obtain ⟨b,h5,h6⟩:=h4 k a (by simp) hl
   rw [wV] at h3
   have hp:=C7 f h1.nodup hl
   refine ⟨b,f k,(l.filter λe=>decide (some e.1≠some k)).flatMap λe=>f e.1,by simp [mGet,h5],hS.recut i hC [.ext (optX O (some b) (f k) (some a)),.ext (mpX O (some lb) _ (some l) (some k))] (λc hc=>?_) [] ?_⟩
   ·rcases List.mem_cons.1 hc with rfl|hc
    ·exact h6
    ·simp only [List.mem_singleton] at hc; subst hc
     exact ⟨h1,h2,f,List.Perm.refl _,λk' a' _ hl'=>h4 k' a' (by simp) hl'⟩
   ·simp only [jI,List.flatMap_cons,List.flatMap_nil,List.append_nil,Ck.blks]
    show ((O.x b (f k) a).bs++_).Perm bs
    rw [O.bs]
    exact hp.symm.trans h3
theorem JO {f:K→List Nat}{l:List (K×α)}{lb:List (K×Option Nat)}{lb':List (K×Option Nat)}(h1:Srt l)(h2:lb'.map (·.1)=(lPut l k a).map (·.1))(hb:jS lb' k=some (some b))(bs1:List Nat)(hx:(O.x b bs1 a).p κ w)
  (h4 : ∀k' a',k'≠k→jS l k'=some a' → ∃b,jS lb' k'=some (some b)∧(O.x b (f k') a').p κ w) :
  (mpX O (some lb') (bs1++(l.filter λe=>decide (some e.1≠some k)).flatMap λe=>f e.1) (some (lPut l k a)) none).p κ w:=by
 refine ⟨oK h1 k a,h2,λx=>if x=k then bs1 else f x,?_,λk' a' _ hl=>?_⟩
 ·rw [wV,JW h1]
  refine (KB (λx=>if x=k then bs1 else f x) a (by rw [qW,if_pos rfl])).trans ?_
  rw [if_pos rfl]
  refine List.Perm.append_left _ ?_
  have:lDel l k=l.filter λe=>decide (some e.1≠some k):=by
   unfold lDel; congr 1; funext e; simp
  have hc : ∀e∈(l.filter λe=>decide (some e.1≠some k)),(λx=>if x=k then bs1 else f x) e.1=f e.1:=λe he=>by
   have:=(List.mem_filter.1 he).2
   exact if_neg (by simpa using this)
  rw [this,GP (f:=λx=>if x=k then bs1 else f x) (g:=f) hc]
 ·rw [mC] at hl
  split at hl
  ·rename_i e; subst e
   cases hl
   exact ⟨b,hb,by show (O.x b (if k'=k' then bs1 else f k') a).p κ w; rw [if_pos rfl]; exact hx⟩
  ·rename_i e
   obtain ⟨b',h5,h6⟩:=h4 k' a' e hl
   exact ⟨b',h5,by show (O.x b' (if k'=k then bs1 else f k') a').p κ w; rw [if_neg e]; exact h6⟩
theorem SS.mpPutI (hS:SS M κ0 w0 κ w C R)(i j:Nat)(js:List Nat)(hn:([i,j]++js).Nodup){bs1:List Nat}{a0:α}(hi:C[i]? = some (.ext (optX O (some b) bs1 (some a))))(hj:C[j]? = some (.ext (mpX O mb bs m (some k))))(hb:(mGet mb k).getD none=some b)(hx:mGet m k=some a0)(hm:uS m k a=some m') :
  ∃bs',SS M κ0 w0 κ w (.ext (mpX O mb bs' m' none)::js.filterMap λi=>C[i]?) R:=by
 have h:=hS.lead [i,j] js hn (A:=[.ext (optX O (some b) bs1 (some a)),.ext (mpX O mb bs m (some k))]) (by simp [hi,hj])
 have h0:=(h.ck 0 rfl:(O.x b bs1 a).p κ w)
 have hq:=(h.ck 1 rfl:(mpX O mb bs m (some k)).p κ w)
 cases m with
 | none=>cases hm
 | some l=>
  cases mb with
  | none=>exact hq.elim
  | some lb=>
   simp only [uS,Option.map_some,Option.some.injEq] at hm
   subst hm
   obtain ⟨h1,h2,f,h3,h4⟩:=hq
   have hlb:jS lb k=some (some b):=by
    simp only [mGet,Option.bind_some] at hb
    cases hf:jS lb k with
    | none=>rw [hf] at hb; cases hb
    | some o=>rw [hf] at hb; simp at hb; rw [hb]
   have hkeys:lb.map (·.1)=(lPut l k a).map (·.1):=by
    have hsl:Srt lb:=by
     have h1':((l.map (·.1))).Pairwise (λx y=>KO.lt x y=true):=List.Pairwise.map _ (λ_ _ h=>h) h1
     rw [← h2] at h1'
     exact List.Pairwise.of_map _ (λ_ _ h=>h) h1'
    rw [← D4 k (some b) a h2,D3 hsl hlb]
   refine ⟨bs1++bs,h.recast (λc hc=>?_) [] (by
    rw [List.append_nil]
    show ((bs1++bs)++_).Perm ((O.x b bs1 a).bs++(bs++_))
    rw [O.bs,List.append_assoc]; exact List.Perm.refl _)⟩
   rcases List.mem_cons.1 hc with rfl|hc
   ·have hp:=JO (O:=O) (κ:=κ) (w:=w) (f:=f) (lb:=lb) h1 hkeys hlb bs1 h0 (λk' a' e hl=>h4 k' a' (by simpa using e) hl)
    obtain ⟨g1,g2,f',g3,g4⟩:=hp
    exact ⟨g1,g2,f',g3.trans (List.Perm.append_left _ h3),g4⟩
   ·exact h.ok c (by simp [hc])
theorem SS.mpSetI (hS:SS M κ0 w0 κ w C R)(i j:Nat)(js:List Nat)(hn:([i,j]++js).Nodup){bs1:List Nat}(hi:C[i]? = some (.ext (optX O (some b) bs1 (some a))))(hj:C[j]? = some (.ext (mpX O mb bs m none)))(hm:uS m k a=some m'){mb':Mp K (Option Nat)}(hmb:uS mb k (some b)=some mb') :
  ∃bs',SS M κ0 w0 κ w (.ext (mpX O mb' bs' m' none)::js.filterMap λi=>C[i]?) R:=by
 have h:=hS.lead [i,j] js hn (A:=[.ext (optX O (some b) bs1 (some a)),.ext (mpX O mb bs m none)]) (by simp [hi,hj])
 have h0:=(h.ck 0 rfl:(O.x b bs1 a).p κ w)
 have hq:=(h.ck 1 rfl:(mpX O mb bs m none).p κ w)
 cases m with
 | none=>cases hm
 | some l=>
  cases mb with
  | none=>exact hq.elim
  | some lb=>
   simp only [uS,Option.map_some,Option.some.injEq] at hm hmb
   subst hm hmb
   obtain ⟨h1,h2,f,h3,h4⟩:=hq
   rw [wV] at h3
   have hp:=JO (O:=O) (κ:=κ) (w:=w) (f:=f) (lb:=lb) h1 (D4 k (some b) a h2) (by rw [mC,if_pos rfl]) bs1 h0 (λk' a' e hl=>by
    obtain ⟨b',h5,h6⟩:=h4 k' a' (by simp) hl
    exact ⟨b',by rw [mC,if_neg e]; exact h5,h6⟩)
   obtain ⟨D,hD⟩ : ∃D,(((l.filter λe=>decide (some e.1≠some k)).flatMap λe=>f e.1)++D).Perm bs:=by
    cases hf:jS l k with
    | none=>
     refine ⟨[],?_⟩
     rw [List.append_nil,List.filter_eq_self.2 λy hy=>by simpa using oF.1 hf y hy]
     exact h3
    | some a0=>exact ⟨f k,(List.perm_append_comm.trans (C7 f h1.nodup hf).symm).trans h3⟩
   refine ⟨bs1++(l.filter λe=>decide (some e.1≠some k)).flatMap λe=>f e.1,h.recast (C' := .ext (mpX O (some (lPut lb k (some b))) (bs1++(l.filter λe=>decide (some e.1≠some k)).flatMap λe=>f e.1) (some (lPut l k a)) none)::js.filterMap λi=>C[i]?) (λc hc=>?_) D ?_⟩
   ·rcases List.mem_cons.1 hc with rfl|hc
    ·exact hp
    ·exact h.ok c (by simp [hc])
   ·show (((bs1++_)++jI _)++D).Perm ((O.x b bs1 a).bs++(bs++jI _))
    rw [O.bs,List.append_assoc,List.append_assoc]
    refine List.Perm.append_left _ ?_
    refine List.Perm.trans ?_ (List.Perm.append_right _ hD)
    rw [List.append_assoc]
    exact List.Perm.append_left _ List.perm_append_comm
theorem SS.mpDelI (hS:SS M κ0 w0 κ w C R)(j:Nat)(js:List Nat)(hn:([j]++js).Nodup)(hj:C[j]? = some (.ext (mpX O mb bs m none)))(k:K) :
  ∃bs',SS M κ0 w0 κ w (.ext (mpX O (mDel mb k) bs' (mDel m k) none)::js.filterMap λi=>C[i]?) R:=by
 have h:=hS.lead [j] js hn (A:=[.ext (mpX O mb bs m none)]) (by simp [hj])
 have hq:=(h.ck 0 rfl:(mpX O mb bs m none).p κ w)
 cases m with
 | none=>cases mb with
  | none=>exact ⟨bs,h⟩
  | some _=>exact hq.elim
 | some l=>
  cases mb with
  | none=>exact hq.elim
  | some lb=>
   obtain ⟨h1,h2,f,h3,h4⟩:=hq
   rw [wV] at h3
   have hdel:lDel l k=l.filter λe=>decide (some e.1≠some k):=by
    unfold lDel; congr 1; funext e; simp
   obtain ⟨D,hD⟩ : ∃D,(((lDel l k).flatMap λe=>f e.1)++D).Perm bs:=by
    rw [hdel]
    cases hf:jS l k with
    | none=>
     refine ⟨[],?_⟩
     rw [List.append_nil,List.filter_eq_self.2 λy hy=>by simpa using oF.1 hf y hy]
     exact h3
    | some a0=>exact ⟨f k,(List.perm_append_comm.trans (C7 f h1.nodup hf).symm).trans h3⟩
   refine ⟨_,h.recast (C' := .ext (mpX O (some (lDel lb k)) ((lDel l k).flatMap λe=>f e.1) (some (lDel l k)) none)::js.filterMap λi=>C[i]?) (λc hc=>?_) D ?_⟩
   ·rcases List.mem_cons.1 hc with rfl|hc
    ·refine ⟨s7 h1 k,ID k h2,f,by rw [wV],λk' a' _ hl=>?_⟩
     rw [qW] at hl
     split at hl
     ·cases hl
     ·rename_i e
      obtain ⟨b',h5,h6⟩:=h4 k' a' (by simp) hl
      exact ⟨b',by rw [qW,if_neg e]; exact h5,h6⟩
    ·exact h.ok c (by simp [hc])
   ·show ((_++jI _)++D).Perm (bs++jI _)
    refine List.Perm.trans ?_ (List.Perm.append_right _ hD)
    rw [List.append_assoc,List.append_assoc]
    exact List.Perm.append_left _ List.perm_append_comm
theorem SS.addMp (hS:SS M κ0 w0 κ w C R) (O:OT α):SS M κ0 w0 κ w (.ext (mpX O (some ([]:List (K×Option Nat))) [] (some []) none)::C) R:=by
 refine hS.recast (λc hc=>?_) [] (by rw [List.append_nil]; exact List.Perm.refl _)
 rcases List.mem_cons.1 hc with rfl|hc
 ·exact ⟨List.Pairwise.nil,rfl,λ_=>[],List.Perm.refl _,λk a _ h=>by simp [jS] at h⟩
 ·exact hS.ok c hc
end
end
end Go.Cf
namespace Go.Cf
open Go
set_option linter.unusedVariables false
section
variable {ro:Option Nat}{P:Program}{ops:Array Oper}{Q:Exit→Act→World→Prop}{S:World→Prop}{tl:List Nat}
theorem B7 {i:Nat} {listed:Array Bool} (h:i ∉ tl):pB tl (listed.setIfInBounds i true)=pB tl listed:=by
 unfold pB
 rw [Bool.eq_iff_iff,List.all_eq_true,List.all_eq_true]
 have hne : ∀k∈tl,i≠k:=λk hk e=>h (e▸hk)
 refine ⟨λH k hk=>?_,λH k hk=>?_⟩
 ·have:=H k hk; rwa [getD_set_ne false (hne k hk)] at this
 ·rw [getD_set_ne false (hne k hk)]; exact H k hk
theorem CC {i:Nat}{oi:Oper}{v:Value}(hi:ops[i]? = some oi)(hsel:vZ ops=true)(itl:i ∉ tl)
  (hQ : ∀c a w,Q (.panic c) (a.put oi.dst v) w→Q (.panic c) a w) :
  ∀(fuel:Nat) (listed:Array Bool) (a:Act) (w:World),
   (∀j oj,ops[j]? = some oj→j≠i→listed.getD j true=false→(∀e∈oj.after,Region.binds md e=true→e.on≠i)→oi.apart ops oj=true) →
   i∈Region.ready md ops listed→pW P ops (λ_=>True) oi v a→(pB tl listed=true→S w) →
   oP ro P ops Q S tl fuel (listed.setIfInBounds i true) (a.put oi.dst v) w→oP ro P ops Q S tl (fuel+1) listed a w:=by
 have earlyIff : ∀ {listed:Array Bool},pB tl (listed.setIfInBounds i true)=pB tl listed:=B7 itl
 intro fuel
 induction fuel with
 | zero=>
  intro listed a w _ hr hy hS H
  refine ⟨λh=>(by rw [h] at hr; cases hr),λj hj=>?_⟩
  by_cases hji:j=i
  ·subst hji; exact hy.op hi (rH hsel hi) trivial ⟨λh=>hS (earlyIff▸h),H⟩
  ·have:=ready_mono hj hji
   rw [H.1] at this
   cases this
 | succ fuel ih=>
  intro listed a w hfree hr hy hS H
  refine ⟨λh=>(by rw [h] at hr; cases hr),λj hj=>?_⟩
  by_cases hji:j=i
  ·subst hji; exact hy.op hi (rH hsel hi) trivial ⟨λh=>hS (earlyIff▸h),H⟩
  ·have h1:=H.2 j (ready_mono hj hji)
   obtain ⟨hjun,oj,hoj,hall⟩:=mem_ready.1 hj
   have hnot : ∀e∈oj.after,Region.binds md e=true→e.on≠i:=λe he hb heq=>by
    have h1:=hall e he hb
    have h0:=(mem_ready.1 hr).1
    rw [heq] at h1
    rcases Nat.lt_or_ge i listed.size with h'|h'
    ·simp [h'] at h0 h1; rw [h0] at h1; cases h1
    ·simp [Array.getElem?_eq_none h'] at h1
   have h2:=BR hoj (hfree j oj hoj hji hjun hnot) (rH hsel hi) (rH hsel hoj) hQ hy h1
   have hfree' : ∀k ok,ops[k]? = some ok→k≠i→(listed.setIfInBounds j true).getD k true=false →
     (∀e∈ok.after,Region.binds md e=true→e.on≠i)→oi.apart ops ok=true:=λk ok hk hki hun hno=>by
    refine hfree k ok hk hki ?_ hno
    by_cases hjk:j=k
    ·subst hjk; exact hjun
    ·rw [getD_set_ne true hjk] at hun; exact hun
   have hcm:(listed.setIfInBounds j true).setIfInBounds i true=(listed.setIfInBounds i true).setIfInBounds j true:=Array.setIfInBounds_comm _ _ hji
   have hee:pB tl ((listed.setIfInBounds i true).setIfInBounds j true)=pB tl (listed.setIfInBounds j true):=by rw [← hcm,earlyIff]
   refine wpOpIn_mono (λa' w' h3=>⟨λhe=>h3.2.1 (by rw [hee]; exact he),ih (listed.setIfInBounds j true) a' w' hfree' (ready_mono hr (Ne.symm hji)) h3.1 (λhe=>h3.2.1 (by rw [hee]; exact he)) (by rw [hcm]; exact h3.2.2)⟩) h2
def EU (ops:Array Oper) (tl:List Nat) (listed:Array Bool) (i:Nat):Bool:=Region.free md ops listed i&&(Region.ready md ops listed).contains i && !tl.contains i
variable {N m:Nat}{D:List Deferred}{L L':FL}{a:Act}{w:World}{fuel:Nat}{listed:Array Bool}
theorem DA (i:Nat)(d:Option Tmp){o:Oper}(hF:Fr N D L a)(hS:pB tl listed=true→S w)(hi:ops[i]? = some o)(hsel:vZ ops=true)(hm:EU ops tl listed i=true)(hQ : ∀c a w v,Q (.panic c) (a.put o.dst v) w→Q (.panic c) a w)
  (hd:uB N o=true) (hg:wI ops L o=some true) (hc:uU L o=true) {v:Value} (hdd:o.dst=d) (hv : ∀w,(execOp (evD L) o).run P w = .ok (.value v) w)
  (k : ∀a',Fr N D (upd L d v) a'→oP ro P ops Q S tl fuel (listed.setIfInBounds i true) a' w):oP ro P ops Q S tl (fuel+1) listed a w:=by
 subst hdd
 simp only [EU,Bool.and_eq_true,Bool.not_eq_true',List.contains_eq_mem,decide_eq_true_eq,decide_eq_false_iff_not] at hm
 obtain ⟨⟨hf,hr⟩,ht⟩:=hm
 have hn:=rH hsel hi
 refine CC hi hsel ht (λc a w=>hQ c a w v) fuel _ a w (Region.free_spec hi hf) hr (.inl ⟨pK hF hg,λw _=>?_⟩) hS (k _ (hF.put _ _ (qR hd)))
 rw [DW hF hc hn]
 exact hv w
theorem IP (i:Nat){o:Oper}(hF:Fr N D L a)(hS:pB tl listed=true→S w)(hi:ops[i]? = some o)(hsel:vZ ops=true)(hm:EU ops tl listed i=true)(hQ : ∀c a w v,Q (.panic c) (a.put o.dst v) w→Q (.panic c) a w)
  (hd:uB N o=true) (hg:wI ops L o=some false)
  (k : ∀a',Fr N D (upd L o.dst undef) a'→oP ro P ops Q S tl fuel (listed.setIfInBounds i true) a' w):oP ro P ops Q S tl (fuel+1) listed a w:=by
 simp only [EU,Bool.and_eq_true,Bool.not_eq_true',List.contains_eq_mem,decide_eq_true_eq,decide_eq_false_iff_not] at hm
 obtain ⟨⟨hf,hr⟩,ht⟩:=hm
 exact CC hi hsel ht (λc a w=>hQ c a w undef) fuel _ a w (Region.free_spec hi hf) hr (.inr ⟨by rw [pK hF hg],rfl⟩) hS (k _ (hF.put _ _ (qR hd)))
def vK (P:Program)(ops:Array Oper)(tl:List Nat)(N:Nat):List Nat→Array Bool→FL→Option (Array Bool×FL)
 | [],listed,L=>some (listed,L)
 | i::is,listed,L=>
  match ops[i]? with
  | none=>none
  | some o=>if EU ops tl listed i&&uB N o then
    match wI ops L o with
    | some true=>if uU L o then (match GE P L o with|some v=>vK P ops tl N is (listed.setIfInBounds i true) (upd L o.dst v)|none=>none) else none
    | some false=>vK P ops tl N is (listed.setIfInBounds i true) (upd L o.dst undef)
    | none=>none
   else none
theorem GS {i:Nat} (hm:EU ops tl listed i=true):pB tl (listed.setIfInBounds i true)=pB tl listed:=by
 simp only [EU,Bool.and_eq_true,Bool.not_eq_true',List.contains_eq_mem,decide_eq_true_eq,decide_eq_false_iff_not] at hm
 exact B7 hm.2
theorem FJ (hsel:vZ ops=true)(hQ : ∀c a w t v,Q (.panic c) (a.put t v) w→Q (.panic c) a w) : ∀(is:List Nat){listed listed':Array Bool}{L L':FL}{a:Act},(pB tl listed=true→S w)→Fr N D L a→vK P ops tl N is listed L=some (listed',L') →
  (∀a',Fr N D L' a'→oP ro P ops Q S tl fuel listed' a' w)→oP ro P ops Q S tl (fuel+is.length) listed a w:=by
 intro is
 induction is with
 | nil=>intro listed listed' L L' a _ hF hp k; simp only [vK,Option.some.injEq,Prod.mk.injEq] at hp; obtain ⟨rfl,rfl⟩:=hp; exact k a hF
 | cons i is ih=>
  intro listed listed' L L' a hS hF hp k
  simp only [vK] at hp
  cases hi:ops[i]? with
  | none=>rw [hi] at hp; cases hp
  | some o=>
   rw [hi] at hp
   simp only at hp
   split at hp
   ·rename_i hc
    simp only [Bool.and_eq_true] at hc
    have hfe:fuel+(i::is).length=(fuel+is.length)+1:=by simp [Nat.add_assoc]
    rw [hfe]
    have hS':pB tl (listed.setIfInBounds i true)=true→S w:=λh=>hS (GS hc.1▸h)
    split at hp
    ·rename_i hg
     split at hp
     ·rename_i hcov
      split at hp
      ·rename_i v hv
       refine DA i _ hF hS hi hsel hc.1 (λc a w v=>hQ c a w _ v) hc.2 hg hcov (v:=v) rfl (λw=>?_) λa' hF'=>ih hS' hF' hp k
       unfold GE at hv
       split at hv
       ·rename_i u hu
        simp only [Option.some.injEq] at hv
        subst hv
        exact jX _ hu w
       ·cases hv
      ·cases hp
     ·cases hp
    ·rename_i hg
     exact IP i hF hS hi hsel hc.1 (λc a w v=>hQ c a w _ v) hc.2 hg λa' hF'=>ih hS' hF' hp k
    ·cases hp
   ·cases hp
def LT (P:Program) (ops:Array Oper) (tl:List Nat) (N:Nat) (is ks:List Nat) (listed:Array Bool) (L:FL):FL:=((vK P ops tl N is listed L).map λx=>keep x.2 ks).getD []
def LU (P:Program) (ops:Array Oper) (tl:List Nat) (N:Nat) (is:List Nat) (listed:Array Bool) (L:FL):Array Bool:=((vK P ops tl N is listed L).map λx=>x.1).getD #[]
theorem u1 (is ks:List Nat)(hF:Fr N D L a)(hS:pB tl listed=true→S w)(k : ∀a',Fr N D (LT P ops tl N is ks listed L) a'→oP ro P ops Q S tl (m-is.length) (LU P ops tl N is listed L) a' w)
  (hsel:vZ ops=true:=by kernel_rfl) (hQ : ∀c a w t v,Q (.panic c) (a.put t v) w→Q (.panic c) a w:=by intro c a w t v h; cases t<;>exact h)
  (hp:(vK P ops tl N is listed L).isSome=true:=by kernel_rfl) (hm:Nat.ble is.length m=true:=by kernel_rfl):oP ro P ops Q S tl m listed a w:=by
 obtain ⟨f,rfl⟩ : ∃f,m=f+is.length:=⟨m-is.length,by have:=Nat.le_of_ble_eq_true hm; omega⟩
 cases h:vK P ops tl N is listed L with
 | none=>rw [h] at hp; cases hp
 | some x=>
  obtain ⟨l1,L1⟩:=x
  rw [Nat.add_sub_cancel] at k
  unfold LT LU at k
  rw [h] at k
  exact FJ hsel hQ is hS hF h λa' hF'=>k a' (hF'.keep ks)
theorem MW (i:Nat)(d:Option Tmp){o:Oper}(hF:Fr N D L a)(hS:pB tl listed=true→S w)(hi:ops[i]? = some o){v:Value}(hv : ∀w,(execOp (evD L) o).run P w = .ok (.value v) w)
  (k : ∀a',Fr N D (upd L d v) a'→oP ro P ops Q S tl (m-1) (listed.setIfInBounds i true) a' w)
  (hsel:vZ ops=true:=by kernel_rfl) (hmt:EU ops tl listed i=true:=by kernel_rfl) (hQ : ∀c a w v,Q (.panic c) (a.put o.dst v) w→Q (.panic c) a w:=by intro c a w v h; exact h)
  (hd:uB N o=true:=by kernel_rfl) (hg:wI ops L o=some true:=by kernel_rfl) (hc:uU L o=true:=by kernel_rfl) (hdd:o.dst=d:=by kernel_rfl) (hm:Nat.ble 1 m=true:=by kernel_rfl):oP ro P ops Q S tl m listed a w:=by
 obtain ⟨f,rfl⟩ : ∃f,m=f+1:=⟨m-1,by have:=Nat.le_of_ble_eq_true hm; omega⟩
 exact DA i d hF hS hi hsel hmt hQ hd hg hc hdd hv k
end
section
variable {L:FL}{o:Oper}{M:List Nat}{κ0 κ:Gh}{w0 w:World}{C C':List Ck}{R R':List MP}
theorem G4 (P:Program){α:Type}(t:Ty α)(E':Nat){T E n c:Nat}{p:Option Addr}{l l':List α}{lo:Int}{x y:Operand}{kd:IntKind}(hop:o.op = .slice T x (some y) none none)(hlc:l.length≤c)
  (hx:ev L x=some (.slice p n c)) (hn:n=l.length) (hy:ev L y=some (.int kd lo))
  (hs:slc l lo l.length=some l') (hu:jK P (underlying T)=some (.slice E)) (hsz:jK P (sizeOf E)=some t.size) :
  ∃p' c',(∀w,(execOp (evD L) o).run P w = .ok (.value (.slice p' l'.length c')) w)∧(∀κ w,Ro t κ w p c l→Ro t κ w p' c' l') ∧
   (∀κ w,(Ck.tok p E' t.size l.length c).ok κ w→(Ck.tok p' E' t.size l'.length c').ok κ w)∧(Ck.tok p' E' t.size l'.length c').blks=(Ck.tok p E' t.size l.length c).blks:=by
 obtain ⟨h0,h1,h2,rfl⟩:=wO hs
 subst hn
 have hlen:((l.take (l.length:Int).toNat).drop lo.toNat).length=l.length-lo.toNat:=by simp
 have hrun : ∀w,(Instr.sliceAt T (.slice p l.length c) (some (evD L y)) none none).run P w = .ok (.slice (if c=lo.toNat then p else p.map (·.add (lo.toNat*t.size))) (l.length-lo.toNat) (c-lo.toNat)) w:=λw=>by
  simp [Instr.sliceAt,Instr.slice,Instr.sliceBounds,Instr.sliceBound,asIntOf,kB hu,jX _ hsz w,evD,hy,h0,h1]
 refine ⟨if c=lo.toNat then p else p.map (·.add (lo.toNat*t.size)),c-lo.toNat,λw=>?_,λκ w hRo=>?_,λκ w htok=>?_,?_⟩
 ·have hev:evD L x = .slice p l.length c:=by simp [evD,hx]
  simp only [execOp,hop,hev,Option.map_none,Option.map_some]
  rw [hlen]
  simp [hrun w]
 ·refine ⟨by rw [hlen]; omega,by have:=hRo.2.1; omega,?_⟩
  rcases hRo.2.2 with ⟨rfl,rfl⟩ | ⟨b,off,m,rfl,hk,hm,hcell⟩
  ·exact .inl ⟨by simp,by omega⟩
  ·by_cases hcl:c=lo.toNat
   ·rw [if_pos hcl]
    have hz:l.length-lo.toNat=0:=by omega
    have hnil:(l.take (l.length:Int).toNat).drop lo.toNat=[]:=List.eq_nil_of_length_eq_zero (by rw [hlen]; exact hz)
    rw [hnil]
    exact .inr ⟨b,off,m,rfl,hk,by simp; omega,λi x hi=>by simp at hi⟩
   ·rw [if_neg hcl]
    refine .inr ⟨b,off+lo.toNat*t.size,m,by simp [pC],hk,?_,λi x hi'=>?_⟩
    ·rw [hlen,Nat.add_assoc,← Nat.add_mul]
     have:(lo.toNat+(l.length-lo.toNat))*t.size≤l.length*t.size:=Nat.mul_le_mul_right _ (by omega)
     omega
    ·rw [List.getElem?_drop,List.getElem?_take] at hi'
     split at hi'
     ·obtain ⟨cs,hr,hcs⟩:=hcell _ x hi'
      refine ⟨cs,hr,λj v hj=>?_⟩
      have:=hcs j v hj
      rw [Nat.add_mul] at this
      rwa [show off+lo.toNat*t.size+i*t.size+j=off+(lo.toNat*t.size+i*t.size)+j from by omega]
     ·cases hi'
 ·rw [hlen]
  rcases htok with ⟨g1,g2⟩ | ⟨b,off,cells,rfl,hk,hle,hcm,hheap,hcs⟩
  ·exact .inl ⟨by omega,by omega⟩
  ·by_cases hcl:c=lo.toNat
   ·exact .inl ⟨by omega,by omega⟩
   ·rw [if_neg hcl]
    have e1:lo.toNat*t.size+(l.length-lo.toNat)*t.size=l.length*t.size:=by rw [← Nat.add_mul]; congr 1; omega
    have e2:lo.toNat*t.size+(c-lo.toNat)*t.size=c*t.size:=by rw [← Nat.add_mul]; congr 1; omega
    exact .inr ⟨b,off+lo.toNat*t.size,cells,by simp [pC],by rw [hk]; congr 1; omega,by omega,by omega,hheap,by omega⟩
 ·split
  ·cases p<;>rfl
  ·cases p with
   | none=>rfl
   | some a=>
    show [(a.add _).block]=[a.block]
    unfold Addr.add
    split<;>rfl
theorem SS.convT (hS:SS M κ0 w0 κ w C R) (ci:Nat) {c c':Ck} (hC:C[ci]? = some c) (h:(∀κ w,c.ok κ w→c'.ok κ w)∧c'.blks=c.blks):SS M κ0 w0 κ w (C.set ci c') R:=
 hS.reck ci hC h.2 (h.1 κ w (hS.ck ci hC))
theorem EA {P:Program}{α:Type}{t:Ty α}(ri f:Nat){T c b off E:Nat}{p:Option Addr}{l:List α}{i:Int}{y:α}{x:Operand}{v:Value}(hop:o.op = .load T x)(hR:R[ri]? = some (Ro.mp t p c l))
  (hp:p=some ⟨b,off,none⟩) (hx:ev L x=some (.pointer (some ⟨b,E,none⟩))) (hi:idx l i=some y) (hE:off+i.toNat*t.size+f=E) (hv : ∀κ w cs,t.rep κ w cs y→cs[f]? = some v) (hg:jK P (isAgg T)=some false) : ∀w,SSx M κ0 w0 C R w→(execOp (evD L) o).run P w = .ok (.value v) w:=λw ⟨κ,hS⟩=>by
 have hRo:Ro t κ w p c l:=hS.get ri hR
 subst hp hE
 obtain ⟨cs,hr,hcs⟩:=hRo.at' (nR hi).2.2
 exact sG hop hx (pX hg (hcs f v (hv κ w cs hr)))
end
section
variable {M:List Nat}{κ0 κ:Gh}{w0 w:World}{C C':List Ck}{R R':List MP}
variable {α:Type}{O:OT α}{p:Option Nat}{o:Option α}{ps:List (Option Nat)}{xs:List (Option α)}{bs:List Nat}
theorem SS.arrIdx (hS:SS M κ0 w0 κ w C R) (i:Nat) (hC:C[i]? = some (.ext (arrX O ps bs xs))) {j:Int} (hx:idx xs j=some o) : ∃p,idx ps j=some p:=by
 obtain ⟨j0,j1,_⟩:=nR hx
 have hl:=FD (hS.ck i hC:(arrX O ps bs xs).p κ w)
 exact ⟨ps[j.toNat]'(by omega),by unfold idx; rw [if_pos j0]; exact List.getElem?_eq_getElem _⟩
theorem SS.arrTakeP (hS:SS M κ0 w0 κ w C R)(i:Nat)(hC:C[i]? = some (.ext (arrX O ps bs xs))){j:Int}(hx:idx xs j=some o)(hp:idx ps j=some p) :
  ∃bs1 bs2,SS M κ0 w0 κ w (.ext (optX O p bs1 o) :: .ext (arrX O (ps.set j.toNat none) bs2 (xs.set j.toNat none))::C.eraseIdx i) R:=by
 obtain ⟨p',b1,b2,hp',h⟩:=hS.arrTakeI i hC hx
 rw [hp] at hp'
 cases hp'
 exact ⟨b1,b2,h⟩
end
section
variable {K α:Type} [DecidableEq K] [KO K]
variable {M:List Nat}{κ0 κ:Gh}{w0 w:World}{C C':List Ck}{R R':List MP}{O:OT α}{mb:Mp K (Option Nat)}{m m':Mp K α}{bs:List Nat}{k:K}{a:α}{b:Nat}{hole:Option K}{p:Option Nat}
theorem SS.mpNone (hS:SS M κ0 w0 κ w C R) (i:Nat) (hC:C[i]? = some (.ext (mpX O mb bs m none))) (hx:mGet m k=none) (hp:(mGet mb k).getD none=p):p=none:=by
 rw [← hp]; exact (HG (hS.ck i hC:(mpX O mb bs m none).p κ w)).1 hx
theorem SS.mpTakeP (hS:SS M κ0 w0 κ w C R)(i:Nat)(hC:C[i]? = some (.ext (mpX O mb bs m none)))(hx:mGet m k=some a)(hp:(mGet mb k).getD none=p) :
  ∃b bs1 bs2,p=some b∧SS M κ0 w0 κ w (.ext (optX O (some b) bs1 (some a)) :: .ext (mpX O mb bs2 m (some k))::C.eraseIdx i) R:=by
 obtain ⟨b,b1,b2,h1,h2⟩:=hS.mpTake i hC hx
 exact ⟨b,b1,b2,hp.symm.trans h1,h2⟩
theorem SS.mpPutE (hS:SS M κ0 w0 κ w C R) (i:Nat) (hC:C[i]? = some (.ext (mpX O mb bs m none))) (hm:uS m k a=some m') (v:Option Nat) : ∃mb',uS mb k v=some mb':=by
 obtain ⟨_,_,_,h⟩:=HG (k:=k) (hS.ck i hC:(mpX O mb bs m none).p κ w)
 cases m with
 | none=>cases hm
 | some l=>
  cases mb with
  | none=>cases h
  | some lb=>exact ⟨_,rfl⟩
theorem SS.mpLen (hS:SS M κ0 w0 κ w C R) (i:Nat) (hC:C[i]? = some (.ext (mpX O mb bs m none))):mLen mb=mLen m:=
 by
  cases m with
  | none=>cases mb with
   | none=>rfl
   | some _=>exact ((hS.ck i hC:(mpX O (some _) bs none none).p κ w):False).elim
  | some l=>cases mb with
   | none=>exact ((hS.ck i hC:(mpX O none bs (some l) none).p κ w):False).elim
   | some lb=>
    obtain ⟨_,h2,_⟩:=(hS.ck i hC:(mpX O (some lb) bs (some l) none).p κ w)
    have:=congrArg List.length h2
    simpa [mLen] using this
theorem SS.mpKeys (hS:SS M κ0 w0 κ w C R) (i:Nat) (hC:C[i]? = some (.ext (mpX O mb bs m none))):pP mb=pP m:=by
 cases m with
 | none=>cases mb with
  | none=>rfl
  | some _=>exact ((hS.ck i hC:(mpX O (some _) bs none none).p κ w):False).elim
 | some l=>cases mb with
  | none=>exact ((hS.ck i hC:(mpX O none bs (some l) none).p κ w):False).elim
  | some lb=>
   obtain ⟨_,h2,_⟩:=(hS.ck i hC:(mpX O (some lb) bs (some l) none).p κ w)
   exact h2
def tL (m:Mp K α) (k:K) (v:α):Mp K α:=(uS m k v).getD m
theorem zT {v:α} (hx:mGet m k=some a):uS m k v=some (tL m k v):=by
 cases m with
 | none=>cases hx
 | some l=>rfl
theorem JS {v:Option Nat} {mb mb':Mp K (Option Nat)} (h:uS mb k v=some mb'):(mGet mb' k).getD none=v:=by
 cases mb with
 | none=>cases h
 | some l=>
  simp only [uS,Option.map_some,Option.some.injEq] at h
  subst h
  simp [mGet,mC]
theorem SS.mpBackI (hS:SS M κ0 w0 κ w C R)(i j:Nat)(js:List Nat)(hn:([i,j]++js).Nodup){bs1:List Nat}(hi:C[i]? = some (.ext (optX O (some b) bs1 (some a))))(hj:C[j]? = some (.ext (mpX O mb bs m (some k))))(hb:(mGet mb k).getD none=some b)(hx:mGet m k=some a) :
  ∃bs',SS M κ0 w0 κ w (.ext (mpX O mb bs' m none)::js.filterMap λi=>C[i]?) R:=by
 have hq:=(hS.ck j hj:(mpX O mb bs m (some k)).p κ w)
 obtain ⟨b',h⟩:=hS.mpPutI i j js hn hi hj hb hx (zT hx)
 have:tL m k a=m:=by
  cases m with
  | none=>cases hx
  | some l=>
   cases mb with
   | none=>exact hq.elim
   | some lb=>
    show some (lPut l k a)=some l
    rw [D3 hq.1 hx]
 rw [this] at h
 exact ⟨b',h⟩
end
theorem CB {α:Type} {b:Bool} {o:Option α} {x:α} (h:(bif b then o else none)=some x):b=true∧o=some x:=by
 cases b
 ·cases h
 ·exact ⟨rfl,h⟩
section
variable {ro:Option Nat}{P:Program}{ops:Array Oper}{Q:Exit→Act→World→Prop}{N:Nat}{D:List Deferred}{L L':FL}{a:Act}{w:World}{o:Oper}{G:Act→World→Prop}
variable {M:List Nat}{κ0 κ:Gh}{w0:World}{C C':List Ck}{R R':List MP}
variable {K:Type}{kt:KT K}{es:Array MapEntry}{clk:Nat}{p:Option Nat}{mb:Mp K (Option Nat)} [DecidableEq K] [KO K]
theorem rY (hF:Fr N D L a)(hS:SS M κ0 w0 κ w C R)(hc:qM N L o=true)(ci ri:Nat){T KT E:Nat}{x y:Operand}{k:K}{q:Option Nat}(hop:o.op = .lookup T x y false)(hx:ev L x=some (.map p))(hy:ev L y=some (kt.enc k))
  (hC:C[ci]? = some (.ext (objX p (.map es clk)))) (hR:R[ri]? = some (Map.mp kt false pO.ty p es clk mb)) (hq:(mGet mb k).getD none=q)
  (ht:jK P (underlying T)=some (.map KT E)) (hk:jK P (underlying KT)=some kt.desc) (hz:jK P (zeroValue E)=some (.pointer none))
  (kk : ∀a',Fr N D (upd L o.dst (.pointer (pa q))) a'→G a' w):wo ro P o a w G Q:=by
 subst hq
 refine uI (agg:=false) (t:=pO.ty) (zc:=[.pointer none]) (zm:=none) hF hS hc ci ri hop hx hy hC hR rfl ht hk hz (λ_ _=>rfl) λcs a' hr hF'=>kk a' ?_
 have hr':cs=pO.enc ((mGet mb k).getD none):=hr
 subst hr'
 exact hF'
theorem FZ (hF:Fr N D L a) (hS:SS M κ0 w0 κ w C R) (hc:qM N L o=true) (ci ri:Nat) {T KT E n:Nat} {x:Operand} (hop:o.op = .call {callee := .builtin .len,args := #[x],argTypes := #[T]}) (hx:ev L x=some (.map p))
  (hC:C[ci]? = some (.ext (objX p (.map es clk)))) (hR:R[ri]? = some (Map.mp kt false pO.ty p es clk mb)) (ht:jK P (underlying T)=some (.map KT E)) (hl:mLen mb=n)
  (kk : ∀a',Fr N D (upd L o.dst (.int .i64 (n:Int))) a'→G a' w):wo ro P o a w G Q:=by
 subst hl
 exact vO (agg:=false) (t:=pO.ty) hF hS hc ci ri hop hx hC hR ht kk
end
section
variable {K:Type} [DecidableEq K]
def vG {α:Type} (m:Mp K α) (left:List K):List K:=(pP m).filter λk=>decide (k∈left)
theorem GV {β:Type} (mb:Mp K β) (left:List K):(oM mb left).map (·.1)=(pP mb).filter λk=>decide (k∈left):=by
 unfold oM pP
 induction mb.getD [] with
 | nil=>rfl
 | cons x l ih=>
  simp only [List.filter_cons,List.map_cons]
  split
  ·simp only [List.map_cons,ih]
  ·exact ih
theorem JL {α β ρ:Type}{mb:Mp K β}{m:Mp K α}{left:List K}{A:Option ρ}{f:K→Option ρ}{res:ρ}(hk:pP mb=pP m)(H:(bif (vG m left).isEmpty then A else m3 (vG m left) f)=some res) :
  (bif (oM mb left).isEmpty then A else m3 (oM mb left) λx=>f x.1)=some res:=by
 have e:vG m left=(oM mb left).map (·.1):=by rw [GV,hk]; rfl
 rw [e] at H
 cases hc:oM mb left with
 | nil=>rw [hc] at H; exact H
 | cons x l=>
  rw [hc] at H
  refine vA (by simp) λa ha=>uY (show m3 (List.map (·.1) (x::l)) f=some res from H) a.1 (List.mem_map.2 ⟨a,ha,rfl⟩)
omit [DecidableEq K] in
theorem LQ {kt:KT K} {es:Array MapEntry} {seen:Array Nat} {l l':List K} {κ:Gh} {w:World} (h:(It.mp kt es seen l).p κ w) (e:l=l'):(It.mp kt es seen l').p κ w:=e▸h
end
end Go.Cf
namespace Go.Cf
open Go Go.MapKept
set_option linter.unusedVariables false
section
variable {ro:Option Nat}{P:Program}{ops:Array Oper}{Q:Exit→Act→World→Prop}{N:Nat}{D:List Deferred}{L L':FL}{a:Act}{w:World}{o:Oper}{G:Act→World→Prop}
variable {M:List Nat}{κ0 κ:Gh}{w0:World}{C C':List Ck}{R R':List MP}
variable {K V:Type}{kt:KT K}{agg:Bool}{t:Ty V}{es:Array MapEntry}{clk:Nat}{p:Option Nat}{m:Mp K V} [DecidableEq K] [KO K]
omit [DecidableEq K] [KO K] in
def BX (m:Mp K V):Mp K V:=m.map λ_=>[]
theorem vB.clr {κ:Gh} {w:World} (h:vB kt agg t κ w p es clk m):vB kt agg t κ w p #[] clk (BX m):=by
 cases m with
 | none=>exact ⟨h.1,rfl⟩
 | some l=>exact ⟨h.1,List.Pairwise.nil,[],⟨stamped_empty clk,rfl,λi e x he=>by simp at he⟩,λk=>rfl⟩
theorem BK (hF:Fr N D L a) (hS:SS M κ0 w0 κ w C R) (hc:qM N L o=true) (ci ri:Nat) {T KT E:Nat} {x:Operand} (hop:o.op = .call {callee := .builtin .clear,args := #[x],argTypes := #[T]}) (hx:ev L x=some (.map p))
  (hC:C[ci]? = some (.ext (objX p (.map es clk)))) (hR:R[ri]? = some (Map.mp kt agg t p es clk m)) (ht:jK P (underlying T)=some (.map KT E))
  (kk : ∀a' w',Fr N D (upd L o.dst (.tuple #[])) a'→SS M κ0 w0 κ w' (C.set ci (.ext (objX p (.map #[] clk)))) (Map.mp kt agg t p #[] clk (BX m)::R)→G a' w'):wo ro P o a w G Q:=by
 have hm:vB kt agg t κ w p es clk m:=hS.get ri hR
 have hex:evD L x = .map p:=by simp [evD,hx]
 cases p with
 | none=>
  have hes:es = #[]:=by cases m with
   | none=>exact hm.2
   | some l=>exact absurd hm.1 (by simp)
  subst hes
  have hset:C.set ci (.ext (objX none (.map #[] clk)))=C:=by
   obtain ⟨hi,he⟩:=List.getElem?_eq_some_iff.1 hC
   rw [← he]; exact List.set_getElem_self hi
  refine kQ hF hc (v := .tuple #[]) (w':=w) ?_ λa' hF'=>kk a' w hF' (by rw [hset]; exact hS.add hm.clr)
  simp only [execOp,hop]
  simp [resolve,invoke,Go.builtin,hex,Builtin.clear_,kB ht]
 | some b=>
  have hb':=((hS.ck ci hC : ∀b',some b=some b'→_) b rfl).1
  refine kQ hF hc (v := .tuple #[]) (w':={w with heap:=w.heap.setIfInBounds b (.map #[] clk)}) ?_ λa' hF'=>kk a' _ hF' (hS.setMap ci hC rfl rfl hm.clr)
  simp only [execOp,hop]
  simp [resolve,invoke,Go.builtin,hex,Builtin.clear_,kB ht,MapKept.run_getObj_map hb',MapKept.run_setObj_map _ hb',Result.andThen]
end
section
variable {ro:Option Nat}{P:Program}{ops:Array Oper}{Q:Exit→Act→World→Prop}{N m:Nat}{D:List Deferred}{L:FL}{a:Act}{w:World}{listed:Array Bool}
variable {M:List Nat}{κ0 κ:Gh}{w0:World}{C:List Ck}{R:List MP}
abbrev Mk:=Value→List Ck→List MP→Prop
def NI (ro:Option Nat) (P:Program) (Q:Exit→Act→World→Prop) (N:Nat) (D:List Deferred) (L:FL) (M:List Nat) (κ0:Gh) (w0:World) (R:List MP) (o:Oper) (Φ:Mk):Prop:=
 ∀(L1:FL) (R1:List MP) (C:List Ck) (κ:Gh) (a:Act) (w:World) (K:Act→World→Prop),Fr N D (L++L1) a→SS M κ0 w0 κ w C (R++R1) →
  (∀v A F κ' a' w',Φ v A F→Fr N D (upd (L++L1) o.dst v) a'→SS M κ0 w0 κ' w' (A++C) (F++(R++R1))→K a' w')→wo ro P o a w K Q
def uQ (listed:Array Bool):List Nat→Array Bool
 | []=>listed
 | i::is=>uQ (listed.setIfInBounds i true) is
def HE (ops:Array Oper):Nat→List Nat→Array Bool→Bool
 | 0,is,_=>is.isEmpty
 | n+1,is,listed=>is.isEmpty||(Region.ready md ops listed==is&&is.all λi=>HE ops n (is.filter λj=>j != i) (listed.setIfInBounds i true))
structure Sp where
 i:Nat
 d:Tmp
 Φ:Mk
structure FN where
 v:Value
 A:List Ck
 F:List MP
theorem EH {l1 l2:List Nat} (h:l1.Perm l2) : ∀listed,uQ listed l1=uQ listed l2:=by
 induction h with
 | nil=>intro listed; rfl
 | cons x _ ih=>intro listed; exact ih _
 | swap x y l=>
  intro listed
  show uQ ((listed.setIfInBounds y true).setIfInBounds x true) l=uQ ((listed.setIfInBounds x true).setIfInBounds y true) l
  by_cases e:x=y
  ·subst e; rfl
  ·rw [Array.setIfInBounds_comm _ _ (Ne.symm e)]
 | trans _ _ ih1 ih2=>intro listed; exact (ih1 listed).trans (ih2 listed)
theorem CJ (l1 l2:List Nat) : ∀listed,uQ listed (l1++l2)=uQ (uQ listed l1) l2:=by
 induction l1 with
 | nil=>intro listed; rfl
 | cons x l ih=>intro listed; exact ih _
theorem xG (L L1:FL) (t:Nat):(L++L1).lookup t=match L.lookup t with|some v=>some v|none=>L1.lookup t:=by
 induction L with
 | nil=>rfl
 | cons x L ih=>
  obtain ⟨k,v⟩:=x
  simp only [List.cons_append,List.lookup_cons]
  cases t==k
  ·exact ih
  ·rfl
theorem zB {f:Nat→FN} : ∀ {E:List Sp}{t:Nat}{v:Value},(E.map λs=>(s.d,(f s.i).v)).lookup t=some v → ∃s∈E,s.d=t∧(f s.i).v=v
 | [],t,v,h=>by simp at h
 | s::E,t,v,h=>by
  simp only [List.map_cons,List.lookup_cons] at h
  by_cases e:t=s.d
  ·subst e
   simp at h
   exact ⟨s,by simp,rfl,h⟩
  ·have hb:(t==s.d)=false:=by simp [e]
   rw [hb] at h
   obtain ⟨s',h1,h2⟩:=zB h
   exact ⟨s',by simp [h1],h2⟩
theorem EG {β:Type}(g:FN→List β){f f':Nat→FN} : ∀ {E:List Sp},(∀x∈E,f' x.i=f x.i)→(E.flatMap λx=>g (f' x.i))=E.flatMap λx=>g (f x.i)
 | [],_=>rfl
 | y::E,h=>by
  simp only [List.flatMap_cons]
  rw [h y (by simp),EG g λx hx=>h x (by simp [hx])]
theorem J5 {s:Sp} : ∀ {rs:List Sp},(rs.map (·.i)).Nodup→s∈rs→(s::rs.filter λx=>x.i != s.i).Perm rs
 | [],_,h=>by cases h
 | y::rs,hni,hs=>by
  simp only [List.map_cons,List.nodup_cons] at hni
  by_cases e:y.i=s.i
  ·have hys:s=y:=by
    rcases List.mem_cons.1 hs with h|h
    ·exact h
    ·exact absurd (List.mem_map.2 ⟨s,h,rfl⟩) (e▸hni.1)
   subst hys
   have:(rs.filter λx=>x.i != s.i)=rs:=List.filter_eq_self.2 λx hx=>by
    simp only [bne_iff_ne,ne_eq]
    exact λq=>hni.1 (q▸List.mem_map.2 ⟨x,hx,rfl⟩)
   rw [List.filter_cons_of_neg (by simp),this]
  ·have hs':s∈rs:=by
    rcases List.mem_cons.1 hs with h|h
    ·exact absurd (congrArg Sp.i h).symm e
    ·exact h
   rw [List.filter_cons_of_pos (by simpa using e)]
   exact (List.Perm.swap _ _ _).trans ((J5 hni.2 hs').cons y)
theorem CV {f:Nat→FN}{x:Sp} : ∀ {E:List Sp},(E.map (·.d)).Nodup→x∈E→(E.map λs=>(s.d,(f s.i).v)).lookup x.d=some (f x.i).v
 | [],_,h=>by cases h
 | y::E,hnE,hx=>by
  simp only [List.map_cons,List.nodup_cons] at hnE
  simp only [List.map_cons,List.lookup_cons]
  rcases List.mem_cons.1 hx with rfl|hx
  ·simp
  ·have hb:(x.d==y.d)=false:=by
    simp only [beq_eq_false_iff_ne,ne_eq]
    exact λq=>hnE.1 (q▸List.mem_map.2 ⟨x,hx,rfl⟩)
   rw [hb]
   exact CV hnE.2 hx
theorem LO (rs0:List Sp)(k:Nat)(hL:Fr N D L a)(hS:SS M κ0 w0 κ w C R)(hops : ∀s∈rs0,∃o,ops[s.i]? = some o∧o.guard=none∧o.dst=some s.d∧NI ro P Q N D L M κ0 w0 R o s.Φ)
  (hd:(rs0.map (·.d)).Nodup) (hi:(rs0.map (·.i)).Nodup) (hLd : ∀s∈rs0,L.lookup s.d=none) (hpar:HE ops rs0.length (rs0.map (·.i)) listed=true) (hm:m=k+rs0.length)
  (fin : ∀(f:Nat→FN) κ a w,(∀s∈rs0,s.Φ (f s.i).v (f s.i).A (f s.i).F)→Fr N D (L++rs0.map λs=>(s.d,(f s.i).v)) a→SS M κ0 w0 κ w ((rs0.flatMap λs=>(f s.i).A)++C) (R++rs0.flatMap λs=>(f s.i).F) →
   oP ro P ops Q (λ_=>True) [] k (uQ listed (rs0.map (·.i))) a w):oP ro P ops Q (λ_=>True) [] m listed a w:=by
 have key : ∀(n:Nat) (E rs:List Sp) (f:Nat→FN) (κ:Gh) (a:Act) (w:World),rs.length=n→(E++rs).Perm rs0→HE ops n (rs.map (·.i)) (uQ listed (E.map (·.i)))=true →
   (∀s∈E,s.Φ (f s.i).v (f s.i).A (f s.i).F)→Fr N D L a→(∀s∈E,a.tmps[s.d]? = some (f s.i).v)→SS M κ0 w0 κ w ((E.flatMap λs=>(f s.i).A)++C) (R++E.flatMap λs=>(f s.i).F) →
   oP ro P ops Q (λ_=>True) [] (k+n) (uQ listed (E.map (·.i))) a w:=by
  intro n
  induction n with
  | zero=>
   intro E rs f κ a w hn hp _ hΦ hF ht hS
   have:rs=[]:=List.eq_nil_of_length_eq_zero hn
   subst this
   rw [List.append_nil] at hp
   rw [EH (hp.map _) listed]
   refine fin f κ a w (λs hs=>hΦ s (hp.mem_iff.2 hs)) ⟨hF.defers,hF.size,λt v hv=>?_⟩ ?_
   ·rw [xG] at hv
    cases hl:L.lookup t with
    | some u=>rw [hl] at hv; cases hv; exact hF.val t _ hl
    | none=>
     rw [hl] at hv
     obtain ⟨s,hs,rfl,rfl⟩:=zB hv
     exact ht s (hp.mem_iff.2 hs)
   ·have hpA:(E.flatMap λs=>(f s.i).A).Perm (rs0.flatMap λs=>(f s.i).A):=hp.flatMap_right _
    have h1:SS M κ0 w0 κ w ((rs0.flatMap λs=>(f s.i).A)++C) (R++E.flatMap λs=>(f s.i).F):=by
     refine hS.recast (λc hc=>hS.ok c ?_) [] ?_
     ·rcases List.mem_append.1 hc with hc|hc
      ·exact List.mem_append.2 (.inl (hpA.mem_iff.2 hc))
      ·exact List.mem_append.2 (.inr hc)
     ·rw [List.append_nil,kE,kE]
      exact List.Perm.append_right _ (hpA.symm.flatMap_right _)
    refine h1.facts λm hm=>hS.ro m ?_
    rcases List.mem_append.1 hm with hm|hm
    ·exact List.mem_append.2 (.inl hm)
    ·exact List.mem_append.2 (.inr ((hp.flatMap_right _).mem_iff.2 hm))
  | succ n ih=>
   intro E rs f κ a w hn hp hpo hΦ hF ht hS
   have hne:(rs.map (·.i)).isEmpty=false:=by cases rs with
    | nil=>simp at hn
    | cons=>rfl
   simp only [HE,hne,Bool.false_or,Bool.and_eq_true,beq_iff_eq,List.all_eq_true] at hpo
   obtain ⟨hr,hall⟩:=hpo
   refine ⟨λh0=>(by rw [hr] at h0; rw [h0] at hne; cases hne),λi hi'=>?_⟩
   rw [hr] at hi'
   obtain ⟨s,hs,rfl⟩:=List.mem_map.1 hi'
   have hs0:s∈rs0:=hp.mem_iff.1 (List.mem_append.2 (.inr hs))
   obtain ⟨o,ho,hg,hdst,hmk⟩:=hops s hs0
   have hnd:((E++rs).map (·.i)).Nodup:=(hp.map (·.i)).nodup_iff.2 hi
   have hndd:((E++rs).map (·.d)).Nodup:=(hp.map (·.d)).nodup_iff.2 hd
   rw [List.map_append,List.nodup_append] at hnd hndd
   unfold wpOpIn
   simp only [ho]
   rw [if_pos (by simp [Region.wanted,hg])]
   have hF1:Fr N D (L++E.map λs=>(s.d,(f s.i).v)) a:=⟨hF.defers,hF.size,λt v hv=>by
    rw [xG] at hv
    cases hl:L.lookup t with
    | some u=>rw [hl] at hv; cases hv; exact hF.val t _ hl
    | none=>
     rw [hl] at hv
     obtain ⟨s,hs,rfl,rfl⟩:=zB hv
     exact ht s hs⟩
   refine hmk _ _ _ κ a w _ hF1 hS λv A F κ' a' w' hv hF' hS'=>⟨λ_=>trivial,?_⟩
   rw [hdst] at hF'
   have hval : ∀t u,t≠s.d→(L++E.map λs=>(s.d,(f s.i).v)).lookup t=some u→a'.tmps[t]? = some u:=λt u hne hu=>hF'.val t u (by
    simp only [upd,List.lookup_cons]
    have hb:(t==s.d)=false:=by simp [hne]
    rw [hb]
    simp only
    rw [uT _ _ _ hne]; exact hu)
   have hsE : ∀x∈E,x.i≠s.i:=λx hx e=>hnd.2.2 _ (List.mem_map.2 ⟨x,hx,rfl⟩) _ (List.mem_map.2 ⟨s,hs,rfl⟩) e
   have hdE : ∀x∈E,x.d≠s.d:=λx hx e=>hndd.2.2 _ (List.mem_map.2 ⟨x,hx,rfl⟩) _ (List.mem_map.2 ⟨s,hs,rfl⟩) e
   let f':Nat→FN:=λj=>if j=s.i then ⟨v,A,F⟩ else f j
   have hf : ∀x∈E,f' x.i=f x.i:=λx hx=>if_neg (hsE x hx)
   have hfs:f' s.i=⟨v,A,F⟩:=if_pos rfl
   have hfl : ∀ {β:Type} (g:FN→List β),(E.flatMap λx=>g (f' x.i))=E.flatMap λx=>g (f x.i):=λg=>EG g hf
   have hrem:(s::rs.filter λx=>x.i != s.i).Perm rs:=J5 hnd.2.1 hs
   have hset:(uQ listed (E.map (·.i))).setIfInBounds s.i true=uQ listed ((E++[s]).map (·.i)):=by
    rw [List.map_append,CJ]; rfl
   rw [hset]
   refine ih (E++[s]) (rs.filter λx=>x.i != s.i) f' κ' a' w' ?_ ?_ ?_ ?_ ⟨hF'.defers,hF'.size,λt u hu=>?_⟩ ?_ ?_
   ·have:=hrem.length_eq
    simp only [List.length_cons] at this; omega
   ·rw [List.append_assoc]
    exact (List.Perm.append_left _ hrem).trans hp
   ·have:=hall s.i hi'
    rw [hset] at this
    rw [List.filter_map] at this
    exact this
   ·intro x hx
    rcases List.mem_append.1 hx with hx|hx
    ·rw [hf x hx]; exact hΦ x hx
    ·obtain rfl:=List.mem_singleton.1 hx
     rw [hfs]; exact hv
   ·refine hval t u (λe=>?_) (by rw [xG,hu])
    rw [e,hLd s hs0] at hu; cases hu
   ·intro x hx
    rcases List.mem_append.1 hx with hx|hx
    ·rw [hf x hx]
     have h1:=ht x hx
     have h2:(L++E.map λs=>(s.d,(f s.i).v)).lookup x.d=some (f x.i).v:=by
      rw [xG,hLd x (hp.mem_iff.1 (List.mem_append.2 (.inl hx)))]
      simp only
      exact CV hndd.1 hx
     exact hval x.d _ (hdE x hx) h2
    ·obtain rfl:=List.mem_singleton.1 hx
     rw [hfs]
     exact hF'.val _ _ (by simp [upd])
   ·rw [List.flatMap_append,List.flatMap_append,hfl (λx=>x.A),hfl (λx=>x.F)]
    simp only [List.flatMap_cons,List.flatMap_nil,List.append_nil,hfs]
    have h1:SS M κ0 w0 κ' w' ((E.flatMap (λx=>(f x.i).A)++A)++C) (F++(R++E.flatMap λx=>(f x.i).F)):=by
     refine hS'.recast (λc hc=>hS'.ok c ?_) [] ?_
     ·simp only [List.mem_append] at hc ⊢
      rcases hc with (hc|hc)|hc
      ·exact .inr (.inl hc)
      ·exact .inl hc
      ·exact .inr (.inr hc)
     ·rw [List.append_nil]
      simp only [kE,← List.append_assoc]
      exact List.Perm.append_right _ List.perm_append_comm
    refine h1.facts λm hm=>h1.ro m ?_
    simp only [List.mem_append] at hm ⊢
    rcases hm with hm|hm|hm
    ·exact .inr (.inl hm)
    ·exact .inr (.inr hm)
    ·exact .inl hm
 subst hm
 exact key rs0.length [] rs0 (λ_=>⟨undef,[],[]⟩) κ a w rfl (List.Perm.refl _) hpar (λ_ h=>by cases h) hL (λ_ h=>by cases h) (by simpa using hS)
end
end Go.Cf
namespace Go.Cf
open Go Go.Proofs
set_option linter.unusedVariables false
def EW (rs:List Nat):List Deferred:=rs.map mark
def qI (rs:List Nat):XF where
 bs:=rs
 p:=λκ w=>∀r∈rs,w.heap[r]? = some (.deferred (some []))∧κ r=none
 mono:=λ{M κ w κ' w'} he hb h r hr=>by
  obtain ⟨r1,r2⟩:=hb r hr
  obtain ⟨k1,k2⟩:=he.keep r r1 r2
  exact ⟨k1.trans (h r hr).1,k2.trans (h r hr).2⟩
theorem CG {P:Program} {L:FL} {o:Oper} {f:FuncId} {xs ys:Array Operand} {caps bnd:Array Value} (hop:o.op = .makeFunc (.func f) ys xs) (hy:ys.map (evD L)=bnd) (hx:xs.map (evD L)=caps) : ∀w,(execOp (evD L) o).run P w = .ok (.value (.func (.func f) bnd caps)) w:=λw=>by
 subst hx hy
 simp [execOp,hop,Instr.makeFunc]
section
variable {P:Program}{Q:Exit→Act→World→Prop}{N:Nat}{D:List Deferred}{L L':FL}{a:Act}{w:World}
variable {M:List Nat}{κ0 κ:Gh}{w0:World}{C C':List Ck}{R R':List MP}
theorem SS.sbK {M':List Nat} (h:SS M κ w κ w C R) (ri:List Nat) (hM:M'=jI C':=by kernel_rfl) (hC:C=C':=by kernel_rfl) (hR:zR R ri=R':=by kernel_rfl) (hm:M=jI C:=by kernel_rfl):SB M' κ w C' R':=by
 subst hC hM hm
 exact ⟨rfl,h.pick ri hR⟩
theorem SS.unregrK (h:SS M κ0 w0 κ w C R) (i:Nat) (g:List (Bool×Nat)) {b T:Nat} {s s' s1:lF} (hg:mB s) (hC:C[i]? = some (.box b T s1)) (he:s1=Cf.regr g s':=by kernel_rfl) (hr:wF g s'=wF g s:=by kernel_rfl):SS M κ0 w0 κ w (C.set i (.box b T s')) R:=
 h.unregr i g hg hr (he▸hC)
theorem SS.defs0 (h:SS M κ0 w0 κ w C R):SS M κ0 w0 κ w (.ext (qI [])::C) R:=
 ⟨h.ext,h.fresh,λc hc=>(List.mem_cons.1 hc).elim (λe=>by subst e; exact λ_ h=>by cases h) (h.ok c),h.lt,h.nd,h.own,h.ro⟩
theorem SS.defsC {r:Nat} {rs:List Nat} (h:SS M κ0 w0 κ w (.ext (BB r)::C) R) (i:Nat) (hi:C[i]? = some (.ext (qI rs))) (hC:C.eraseIdx i=C'):SS M κ0 w0 κ w (.ext (qI (r::rs))::C') R:=by
 obtain ⟨A,B,hAB,hAl⟩ : ∃A B,C=A ++ .ext (qI rs)::B∧A.length=i:=by
  have hi':=(List.getElem?_eq_some_iff.1 hi).1
  refine ⟨C.take i,C.drop (i+1),?_,by simp; omega⟩
  have:=(List.getElem?_eq_some_iff.1 hi).2
  rw [← this]; simp
 have hC':C'=A++B:=by rw [← hC,hAB,← hAl]; simp [List.eraseIdx_append_of_length_le]
 subst hC' hAB
 have hb:(jI (.ext (qI (r::rs))::(A++B))).Perm (jI (.ext (BB r)::(A ++ .ext (qI rs)::B))):=by
  show (r::(rs++jI (A++B))).Perm (r::jI (A ++ .ext (qI rs)::B))
  refine List.Perm.cons r ?_
  rw [kE,kE]
  show (rs++(jI A++jI B)).Perm (jI A++(rs++jI B))
  rw [← List.append_assoc,← List.append_assoc]
  exact List.Perm.append_right _ List.perm_append_comm
 refine ⟨h.ext,h.fresh,λc hc=>?_,λb hb'=>h.lt b (hb.mem_iff.1 hb'),hb.nodup_iff.2 h.nd,λb hb'=>h.own b (hb.mem_iff.1 hb'),h.ro⟩
 rcases List.mem_cons.1 hc with rfl|hc
 ·intro q hq
  rcases List.mem_cons.1 hq with rfl|hq
  ·exact h.ok (.ext (BB q)) (by simp)
  ·exact (h.ok (.ext (qI rs)) (by simp):(qI rs).p κ w) q hq
 ·refine h.ok c (List.mem_cons.2 (.inr ?_))
  rcases List.mem_append.1 hc with hc|hc
  ·exact List.mem_append.2 (.inl hc)
  ·exact List.mem_append.2 (.inr (List.mem_cons.2 (.inr hc)))
theorem I9 {σ:Type}{Y:σ→XF→Prop}{r l:Nat}{rc:Loop}{js:List Code}{n:Nat}{args:Array Value}{s':σ}{c:Bool}{ps:Array Tmp}{assign body:Code}{a0:Act}(hp:(mkX r l (lp rc js n) C R).p κ w)(hf:lG κ w)(hnd:(mkX r l (lp rc js n) C R).bs.Nodup)(hlt : ∀b∈(mkX r l (lp rc js n) C R).bs,b<w.heap.size)
  (hn:(n==0)=true) (hrc:rc.params=ps∧rc.assign=assign∧rc.body=body∧rc.tmps=a0.tmps) (hargs:args.size=ps.size) (ks:List Nat) {L0:FL} (hF0:Fr N D L0 a0) (hl:((ps.zip args).toList.all λx=>x.1<N)=true) (hL:Cf.keep (ups L0 (ps.zip args).toList) ks=L)
  (h : ∀a,Fr N [] L a→SS (jI C) κ w κ w C R→assign.wpIn (FW (some l)) 0 P (Exit.then (λa1 w1=>∃κ1 C1 R1,SS (jI C) κ w κ1 w1 C1 R1 ∧ ∀w2,SS (jI C1) κ1 w2 κ1 w2 C1 R1 →
   body.wpIn (FW (some l)) 0 P (wP Y s' c r l rc κ1 w2 C1) a1 w2) (λ_ _ _=>False)) a w):yP P l Y args (mkX r l (lp rc js n) C R) s' c κ w:=
 EM (a0:={a0 with defers:=[]}) hp hf hnd hlt hn hrc hargs ks ⟨rfl,hF0.size,hF0.val⟩ hl hL h
theorem HK {fn:Func}{φ:Value→Gh→World→Prop} : ∀(rs:List Nat){w:World}{tmps:Array Value},SS M κ0 w0 κ w (.ext (qI rs)::C) R →
  (∀w',SS M κ0 w0 κ w' C R → ∃v,(results fn tmps).run P w' = .ok v w'∧φ v κ w')→LeavesInM (FW none) 0 P fn tmps (kP M κ0 w0 φ) (EW rs) .returning w
 | [],w,tmps,hS,k=>by
  have hS':SS M κ0 w0 κ w C R:=hS.drop (List.sublist_cons_self _ _)
  obtain ⟨v,hv,hφ⟩:=k w hS'
  exact ⟨v,hv,v,κ,rfl,hS'.ext,hS'.fresh,hφ⟩
 | r::rs,w,tmps,hS,k=>by
  have hall:(qI (r::rs)).p κ w:=hS.ok (.ext (qI (r::rs))) (by simp)
  have hp:w.heap[r]? = some (.deferred (some []))∧κ r=none:=hall r (by simp)
  have hnd:(r::(rs++jI C)).Nodup:=hS.nd
  have hrM:w0.heap.size≤r∨r∈M:=hS.own r (show r∈r::(rs++jI C) by simp)
  have hS1:SS M κ0 w0 κ w (.ext (qI rs)::C) R:=
   ⟨hS.ext,hS.fresh,λc hc=>by
    rcases List.mem_cons.1 hc with rfl|hc
    ·exact λq hq=>hall q (List.mem_cons.2 (.inr hq))
    ·exact hS.ok c (List.mem_cons.2 (.inr hc)),λb hb=>hS.lt b (show b∈r::(rs++jI C) from List.mem_cons.2 (.inr hb)),(List.nodup_cons.1 hnd).2,λb hb=>hS.own b (show b∈r::(rs++jI C) from List.mem_cons.2 (.inr hb)),hS.ro⟩
  have he:Ext [r] κ w κ (w.putObj r (.deferred none)):=Ext.put hp.1 hp.2 (λc t fr h=>by cases h) (λc t fr h=>by cases h)
  have hS2:SS M κ0 w0 κ (w.putObj r (.deferred none)) (.ext (qI rs)::C) R:=hS1.stepM he (λb hb=>hS.fresh b (by simpa using hb)) (λb hb=>by simp only [List.mem_singleton] at hb; subst hb; exact hrM) λb hb hbr=>by
   simp only [List.mem_singleton] at hbr
   subst hbr
   exact (List.nodup_cons.1 hnd).1 hb
  show LeavesInM (FW none) 0 P fn tmps (kP M κ0 w0 φ) (mark r::EW rs) .returning w
  exact ⟨by simp,.inl ⟨r,_,rfl,run_takeDeferred hp.1,HK rs hS2 k⟩⟩
theorem IA {fn:Func}{φ:Value→Gh→World→Prop}{rs:List Nat}(hF:Fr N (EW rs) L a)(hS:SS M κ0 w0 κ w C R)(i:Nat)(hC:C[i]? = some (.ext (qI rs)))(hi:C.eraseIdx i=C')
  (k : ∀w',SS M κ0 w0 κ w' C' R → ∃v,(results fn a.tmps).run P w' = .ok v w'∧φ v κ w'):JE P fn (kP M κ0 w0 φ) .ret a w:=by
 show LeavesInM (FW none) 0 P fn a.tmps (kP M κ0 w0 φ) a.defers .returning w
 rw [hF.defers]
 refine HK rs ?_ k
 obtain ⟨A,B,hAB,hAl⟩ : ∃A B,C=A ++ .ext (qI rs)::B∧A.length=i:=by
  have hi:=(List.getElem?_eq_some_iff.1 hC).1
  refine ⟨C.take i,C.drop (i+1),?_,by simp; omega⟩
  have:=(List.getElem?_eq_some_iff.1 hC).2
  rw [← this]; simp
 have hC':C'=A++B:=by rw [← hi,hAB,← hAl]; simp [List.eraseIdx_append_of_length_le]
 subst hC' hAB
 have hb:(jI (.ext (qI rs)::(A++B))).Perm (jI (A ++ .ext (qI rs)::B)):=by
  show (rs++jI (A++B)).Perm (jI (A ++ .ext (qI rs)::B))
  rw [kE,kE]
  show (rs++(jI A++jI B)).Perm (jI A++(rs++jI B))
  rw [← List.append_assoc,← List.append_assoc]
  exact List.Perm.append_right _ List.perm_append_comm
 exact ⟨hS.ext,hS.fresh,λc hc=>hS.ok c (by
  rcases List.mem_cons.1 hc with rfl|hc
  ·simp
  ·rcases List.mem_append.1 hc with hc|hc<;>simp [hc]),λb hb'=>hS.lt b (hb.mem_iff.1 hb'),hb.nodup_iff.2 hS.nd,λb hb'=>hS.own b (hb.mem_iff.1 hb'),hS.ro⟩
theorem FX {Cap Cap2:List Ck}{Rc:List MP}{g:Operand}{ps:Array Tmp}{assign body:Code}{f:FuncId}{caps:Array Value}(hF:Fr N D L a)(hS:SS M κ0 w0 κ w (C++Cap) R)(hcov:ev L g=some (.func (.func f) #[] caps))(hf : ∀args w,(callFunc f args).run P w = .ok (.enter f args) w)(hR : ∀m∈R',m.p κ w)
  (h : ∀r l fn w1,SS M κ0 w0 κ w1 (.ext (mkX r l {state := .ready,pending:=none,fn:=fn,tmps:=a.tmps,params:=ps,assign:=assign,body:=body,defers:=r} C R')::Cap) R →
   ∃Yf:XF→Prop,Calls P f (#[.func (.yield l) #[] #[]]++caps) w1 (kP (jI (.ext (mkX r l {state := .ready,pending:=none,fn:=fn,tmps:=a.tmps,params:=ps,assign:=assign,body:=body,defers:=r} C R')::Cap)) κ w1 λ_ κ' w'=>
     ∃x,Yf x∧SS (jI (.ext (mkX r l {state := .ready,pending:=none,fn:=fn,tmps:=a.tmps,params:=ps,assign:=assign,body:=body,defers:=r} C R')::Cap)) κ w1 κ' w' (.ext x::Cap2) Rc) ∧
    ∀x,Yf x → ∃rc' C'' R'',x=mkX r l rc' C'' R''∧rc'.state ≠ .busy ∧ ∀κ' w' a',Fr N (mark r::D) L a'→SS M κ0 w0 κ' w' (.ext (BB r)::(C''++Cap2)) (R''++(Rc++R)) →
     (match rc'.pending with|none=>Q .normal a' w'|some c=>c.wpIn (FW none) 0 P Q a' w')) :
  (Code.rangeFunc g ps assign body).wpIn (FW none) 0 P Q a w:=by
 refine wpIn_rangeFunc λfn _=>?_
 let rc:Loop:={state := .ready,pending:=none,fn:=fn,tmps:=a.tmps,params:=ps,assign:=assign,body:=body,defers:=w.heap.size}
 have hS1:=(hS.step (Ext.allocN hS.fresh (.deferred (some [])) (λc t fr h=>by cases h)) (hS.fresh.alloc _))
 have hS2:=(hS1.step (Ext.allocN hS1.fresh (.loop rc) (λc t fr h=>by cases h)) (hS1.fresh.alloc _))
 have hsz1:(w.alloc (.deferred (some []))).heap.size=w.heap.size+1:=mA _ _
 have hr:((w.alloc (.deferred (some []))).alloc (.loop rc)).heap[w.heap.size]? = some (.deferred (some [])):=(mD _ _ _ (by rw [hsz1]; omega)).trans (nD _ _)
 have hl:((w.alloc (.deferred (some []))).alloc (.loop rc)).heap[w.heap.size+1]? = some (.loop rc):=by rw [← hsz1]; exact nD _ _
 have hS3:SS M κ0 w0 κ ((w.alloc (.deferred (some []))).alloc (.loop rc)) (.ext (mkX w.heap.size (w.heap.size+1) rc [] [])::(C++Cap)) R:=by
  refine ⟨hS2.ext,hS2.fresh,λc hc=>?_,λb hb=>?_,?_,λb hb=>?_,hS2.ro⟩
  ·rcases List.mem_cons.1 hc with rfl|hc
   ·exact ⟨⟨hr,hS.fresh _ (Nat.le_refl _)⟩,⟨hl,hS.fresh _ (by omega)⟩,(λ_ h=>by cases h),(λ_ h=>by cases h)⟩
   ·exact hS2.ok c hc
  ·rcases List.mem_cons.1 (show b∈w.heap.size::(w.heap.size+1)::jI (C++Cap) from hb) with rfl|hb
   ·simp only [mA]; omega
   ·rcases List.mem_cons.1 hb with rfl|hb
    ·simp only [mA]; omega
    ·exact hS2.lt b hb
  ·show (w.heap.size::(w.heap.size+1)::jI (C++Cap)).Nodup
   exact AH (bs:=[]) (by omega) hS.nd (λh=>by have:=hS.lt _ h; omega) (λh=>by have:=hS.lt _ h; omega)
  ·rcases List.mem_cons.1 (show b∈w.heap.size::(w.heap.size+1)::jI (C++Cap) from hb) with rfl|hb
   ·exact .inl hS.ext.size
   ·rcases List.mem_cons.1 hb with rfl|hb
    ·exact .inl (Nat.le_succ_of_le hS.ext.size)
    ·exact hS2.own b hb
 have hmono:Ext [] κ w κ ((w.alloc (.deferred (some []))).alloc (.loop rc)):=(Ext.allocN hS.fresh (.deferred (some [])) (λc t fr h=>by cases h)).trans (Ext.allocN hS1.fresh (.loop rc) (λc t fr h=>by cases h))
 have hS4:=hS3.pack (R':=R') λm hm=>m.mono hmono (hR m hm)
 obtain ⟨Yf,hcall,hend⟩:=h _ _ fn _ hS4
 have hgv:a.eval g = .func (.func f) #[] caps:=hF.ev hcov
 let W1:=(w.alloc (.deferred (some []))).alloc (.loop rc)
 refine ⟨w.heap.size+1,[mark w.heap.size],W1,{target := .fn (.func f) caps,args := #[.func (.yield (w.heap.size+1)) #[] #[]]},W1,f,#[.func (.yield (w.heap.size+1)) #[] #[]]++caps,W1,run_enterLoop_outer _ _ _ _ _,?_,λ_ _=>trivial,?_,λhd=>by simp [FW] at hd,?_⟩
 ·have hgen : ∀ρ:Operand→Value,ρ g = .func (.func f) #[] caps→(∀v,ρ (.const v)=v)→(resolve ρ (rangeCall g (w.heap.size+1)) 0).run P W1 = .ok {target := .fn (.func f) caps,args := #[.func (.yield (w.heap.size+1)) #[] #[]]} W1:=fun ρ h hk=>by
   simp [resolve,Deferred.ofValue,h,hk]
  exact hgen _ hgv λ_=>rfl
 ·simp [invoke,hf,go_sem]
 ·have hci:CallsIn (FW none) (0-1) P f (#[.func (.yield (w.heap.size+1)) #[] #[]]++caps) _ _:=(callsIn_wide (n:=0)).2 hcall
  refine CallsIn.mono hci λe w' ⟨v,κ',he,_,_,x,hYx,hx⟩=>?_
  subst he
  obtain ⟨rc',C'',R'',rfl,hb,hk⟩:=hend x hYx
  obtain ⟨w'',hrun,hS5⟩:=(hS4.backC hx).packC.shut (P:=P) hb
  refine ⟨_,w'',hrun,hk κ' w'' _ ?_ hS5⟩
  exact ⟨by simp [hF.defers],hF.size,hF.val⟩
theorem E5 {Cap Cap2:List Ck}{Rc:List MP}(js:List Code)(args:Nat→Array Value){g:Operand}{ps:Array Tmp}{assign body:Code}{f:FuncId}{caps:Array Value}(hF:Fr N D L a)(hS:SS M κ0 w0 κ w (C++Cap) R)(hcov:ev L g=some (.func (.func f) #[] caps))(hf : ∀args w,(callFunc f args).run P w = .ok (.enter f args) w)(hR : ∀m∈R',m.p κ w)(hargs : ∀l,#[.func (.yield l) #[] #[]]++caps=args l)
  (h : ∀r l rc w1,(rc.params=ps∧rc.assign=assign∧rc.body=body∧rc.tmps=a.tmps)→SS M κ0 w0 κ w1 (.ext (mkX r l (lp rc js 0) C R')::Cap) R →
   ∃Yf:XF→Prop,Calls P f (args l) w1 (kP (jI (.ext (mkX r l (lp rc js 0) C R')::Cap)) κ w1 λ_ κ' w'=>∃x,Yf x∧SS (jI (.ext (mkX r l (lp rc js 0) C R')::Cap)) κ w1 κ' w' (.ext x::Cap2) Rc) ∧
    ∀x,Yf x → ∃n C'' R'',x=mkX r l (lp rc js n) C'' R'' ∧ ∀κ' w' a',Fr N (mark r::D) L a'→SS M κ0 w0 κ' w' (.ext (BB r)::(C''++Cap2)) (R''++(Rc++R))→C6 P Q js n a' w') :
  (Code.rangeFunc g ps assign body).wpIn (FW none) 0 P Q a w:=by
 refine FX (Cap2:=Cap2) (Rc:=Rc) hF hS hcov hf hR λr l fn w1 hS1=>?_
 obtain ⟨Yf,h1,h2⟩:=h r l {state := .ready,pending:=none,fn:=fn,tmps:=a.tmps,params:=ps,assign:=assign,body:=body,defers:=r} w1 ⟨rfl,rfl,rfl,rfl⟩ hS1
 refine ⟨Yf,by rw [hargs]; exact h1,λx hx=>?_⟩
 obtain ⟨n,C'',R'',hxe,hk⟩:=h2 x hx
 exact ⟨_,C'',R'',hxe,BY n,hk⟩
end
end Go.Cf
namespace Go.Cf
open Go Go.Proofs
theorem C8 {p q:Nat→Option (Nat×Nat)} : ∀(parts:List (Nat×Value))(cells:Array Value),(∀x∈parts,p x.1=q x.1)→Instr.fill p cells parts=Instr.fill q cells parts
 | [],_,_=>rfl
 | (i,v)::rest,cells,h=>by
  unfold Instr.fill
  rw [h (i,v) (by simp)]
  cases q i with
  | none=>rfl
  | some y=>
   obtain ⟨off,size⟩:=y
   simp only
   split
   ·rfl
   ·exact C8 rest _ λx hx=>h x (by simp [hx])
def M5 (P:Program) (T:Nat):Option (Nat×Nat):=match P.underlying T with
 | some (.array n e)=>(P.info? e).map λi=>(n,i.size)
 | _=>none
theorem G1 {P:Program}{L:FL}{o:Oper}{T:Nat}{parts:Array (Nat×Operand)}{n sz:Nat}{rows:List lF}{vals:List (Nat×lF)}{s':lF}(hop:o.op = .build T parts)
  (hz:DD P T=some (.agg (flat rows.flatten).toArray)) (hpl:M5 P T=some (n,sz)) (hrow:rows.map tot=List.replicate n sz) (hok:GA rows=true)
  (hv:parts.toList.map (λp=>(p.1,(evD L p.2).cells.toList))=vals.map (λx=>(x.1,flat x.2))) (hg:mK (vals.flatMap (·.2))) (hs:(vals.all λx=>(List.replicate n sz)[x.1]? == some (tot x.2))=true)
  (hr:(vals.foldl (λr x=>r.set x.1 x.2) rows).flatten=s') : ∀w,(execOp (evD L) o).run P w = .ok (.value (.agg (flat s').toArray)) w:=λw=>by
 subst hr
 have hs' : ∀x∈vals,(List.replicate n sz)[x.1]? = some (tot x.2):=λx hx=>by
  have:=List.all_eq_true.1 hs x hx
  simpa using this
 have hb:P.built T ((parts.map λp=>(p.1,evD L p.2)).toList)=some (flat (vals.foldl (λr x=>r.set x.1 x.2) rows).flatten).toArray:=by
  have hf:=D8 (parts.map λp=>(p.1,evD L p.2)).toList vals rows (List.replicate n sz) (by rw [← hv]; simp) hrow (B2 hok) (B1 hg) hs'
  have hpl2 : ∀x∈(parts.map λp=>(p.1,evD L p.2)).toList,(some (x.1*sz,sz):Option (Nat×Nat))=(qQ 0 (List.replicate n sz)).toArray[x.1]? := λx hx=>by
   have hx1:x.1∈vals.map (·.1):=by
    have h1:(parts.map λp=>(p.1,evD L p.2)).toList.map (·.1)=vals.map (·.1):=by
     have:=congrArg (List.map (·.1)) hv
     simpa [Function.comp_def] using this
    rw [← h1]; exact List.mem_map.2 ⟨x,hx,rfl⟩
   obtain ⟨y,hy,hyx⟩:=List.mem_map.1 hx1
   have h2:=hs' y hy
   rw [hyx] at h2
   have hlt:x.1<n:=by
    have:=(List.getElem?_eq_some_iff.1 h2).1
    simpa using this
   have h3:=vX (List.replicate n sz) 0 x.1 sz (by simp [hlt])
   rw [List.getElem?_toArray,h3,List.take_replicate,List.sum_replicate_nat]
   simp [Nat.min_eq_left (Nat.le_of_lt hlt)]
  unfold DD at hz
  unfold M5 at hpl
  unfold Program.built
  cases hi:P.info? T with
  | none=>simp [hi] at hz
  | some it=>
   cases hu:P.underlying T with
   | none=>simp [hu] at hpl
   | some d=>
    cases d with
    | array len e=>
     simp only [hi,Option.bind_some] at hz
     simp only [hu] at hpl
     cases he:P.info? e with
     | none=>simp [he] at hpl
     | some ie=>
      simp only [he,Option.map_some,Option.some.injEq,Prod.mk.injEq] at hpl
      obtain ⟨rfl,rfl⟩:=hpl
      simp only [hz,he]
      exact (C8 (p:=λi=>some (i*ie.size,ie.size)) (q:=λi=>(qQ 0 (List.replicate len ie.size)).toArray[i]?) _ _ hpl2).trans hf
    | _=>simp [hu] at hpl
 have:=run_build w T _ _ hb
 simp only [execOp,hop]
 simp [this]
noncomputable def FK {α β:Type} (l:Option (List α)) (f:List α→Option β):Option β:=
 l.bind λl=>open Classical in if h : ∃r,∀l':List α,l'.Perm l→f l'=some r then some h.choose else none
theorem H1 {α β:Type} {l:Option (List α)} {f:List α→Option β} {r:β} (h:FK l f=some r) : ∃l0,l=some l0 ∧ ∀l':List α,l'.Perm l0→f l'=some r:=by
 cases l with
 | none=>cases h
 | some l0=>
  refine ⟨l0,rfl,?_⟩
  simp only [FK,Option.bind_some] at h
  split at h
  ·rename_i hx
   cases h
   exact hx.choose_spec
  ·cases h
theorem KW {α β:Type} {l:List α} {f:List α→Option β} {r:β} (h : ∀l':List α,l'.Perm l→f l'=some r):FK (some l) f=some r:=by
 have hx : ∃r,∀l':List α,l'.Perm l→f l'=some r:=⟨r,h⟩
 simp only [FK,Option.bind_some]
 rw [dif_pos hx]
 have h1:=hx.choose_spec l (List.Perm.refl l)
 rw [h l (List.Perm.refl l)] at h1
 exact h1.symm
def I4 (q:IntKind) (m:Mp Int Int):Option (List Int):=
 m.bind λl=>bif (l.all λx=>(Lit.int q x.1).wf)&&decide (l.length*8≤140737488355328) then some (l.map (·.2)) else none
def srtI (l:List Int):List Int:=l.mergeSort λx y=>decide (x≤y)
def CU (l:List Int):Option (List Int):=if l.length<4611686018427387904 then some (srtI l) else none
theorem xY (l:List Int):(srtI l).length=l.length:=by simp [srtI]
theorem DH {l x:List Int} (h:CU l=some x):x.length=l.length:=by
 unfold CU at h
 split at h
 ·cases h; exact xY l
 ·cases h
end Go.Cf
namespace Go.Cf
open Go
set_option linter.unusedVariables false
abbrev _root_.Prod.u4 {α β γ δ ε:Type} (x:α×β×γ×δ×ε):ε:=x.2.2.2.2
abbrev _root_.Prod.u8 {α β γ δ ε ζ η θ ι:Type} (x:α×β×γ×δ×ε×ζ×η×θ×ι):ι:=x.2.2.2.2.2.2.2.2
theorem kr {p:Prop} (h:p:=by kernel_rfl):p:=h
theorem dc {p:Prop} (h:p:=by decide):p:=h
section
variable {F:Fence}{n:Nat}{P:Program}{ops:Array Oper}{Q:Exit→Act→World→Prop}{a:Act}{w:World}{x y:Code}{K:Act→World→Prop}
theorem qs (h : ∀K:Act→World→Prop,(∀a w,y.wpIn F n P Q a w→K a w)→x.wpIn F n P (Exit.then K Q) a w):(Code.seq x y).wpIn F n P Q a w:=wpIn_seq_k h
theorem qr {id:Nat} {l:List Oper} (h : ∀K:Act→World→Prop,(∀a w,y.wpIn F n P Q a w→K a w)→wpListIn F n P l.toArray (Exit.then K Q) l a w):(Code.seq (Code.region id l.toArray false) y).wpIn F n P Q a w:=
 wpIn_seq_k λK hK=>wpIn_region_lit (h K hK)
theorem rl {id:Nat} {l:List Oper} (h:wpListIn F n P l.toArray Q l a w):(Code.region id l.toArray false).wpIn F n P Q a w:=wpIn_region_lit h
theorem nl (h:Q .normal a w):wpListIn F n P ops Q [] a w:=h
theorem sk (h:Q .normal a w):Code.skip.wpIn F n P Q a w:=wpIn_skip h
theorem rt (h:Q .ret a w):Code.ret.wpIn F n P Q a w:=wpIn_ret h
theorem bk {id:Nat} (h:x.wpIn F n P (Exit.inBlock id Q) a w):(Code.block id x).wpIn F n P Q a w:=wpIn_block h
theorem xt {id:Nat} (h:Q (.exit id) a w):(Code.exit id).wpIn F n P Q a w:=wpIn_exit h
end
section
variable {ro:Option Nat}{P:Program}{ops:Array Oper}{Q:Exit→Act→World→Prop}{N:Nat}{D:List Deferred}{L L':FL}{a:Act}{w w0:World}{M:List Nat}{κ0 κ:Gh}{C C':List Ck}{R R':List MP}
variable {S:World→Prop}{tl:List Nat}{m:Nat}{listed:Array Bool}
theorem ct {c:Operand} {x y:Code} (hF:Fr N D L a) {b:Bool} (hb:b=true) (h:x.wpIn (FW ro) 0 P Q a w) (hc:ev L c=some (.bool b):=by kernel_rfl):(Code.cond c x y).wpIn (FW ro) 0 P Q a w:=KG hF hc hb h
theorem cf {c:Operand} {x y:Code} (hF:Fr N D L a) {b:Bool} (hb:b=false) (h:y.wpIn (FW ro) 0 P Q a w) (hc:ev L c=some (.bool b):=by kernel_rfl):(Code.cond c x y).wpIn (FW ro) 0 P Q a w:=KH hF hc hb h
theorem bc {ρ:Type}{b:Bool}{A B:Option ρ}{r:ρ}{c:Operand}{x y:Code}(hF:Fr N D L a)(H:(bif b then A else B)=some r)(h1:b=true→A=some r→x.wpIn (FW ro) 0 P Q a w)(h2:b=false→B=some r→y.wpIn (FW ro) 0 P Q a w)
  (hc:ev L c=some (.bool b):=by kernel_rfl):(Code.cond c x y).wpIn (FW ro) 0 P Q a w:=wY H (λhb H=>KG hF hc hb (h1 hb H)) λhb H=>KH hF hc hb (h2 hb H)
theorem bs {ρ:Type} {b:Bool} {A B:Option ρ} {r:ρ} {G:Prop} (H:(bif b then A else B)=some r) (h1:b=true→A=some r→G) (h2:b=false→B=some r→G):G:=wY H h1 h2
theorem bd {ρ σ:Type} {m:Option σ} {f:σ→Option ρ} {r:ρ} {G:Prop} (H:m.bind f=some r) (h : ∀x,m=some x→f x=some r→G):G:=GX H h
theorem Fr.bv (hF:Fr N D L a) (t:Nat) {b b':Bool} (h:b=b') (hl:L.lookup t=some (.bool b):=by kernel_rfl):Fr N D (upd L (some t) (.bool b')) a:=hF.boolv t hl h
theorem en {f:FuncId}{fn:Func}{c:Code}{args:Array Value}{R:Ending→World→Prop}(hf:P.funcs[f]? = some fn)(hb:fn.body=some c)(hn:fn.ntmps=N)(h : ∀a,Fr N [] (HX args) a→c.wpIn (FW none) 0 P (bodyPost P fn R) a w)
  (hs:Nat.ble args.size N=true:=by kernel_rfl):Calls P f args w R:=enter hf hb hn (Nat.le_of_ble_eq_true hs) rfl h
theorem enL (L:FL){f:FuncId}{fn:Func}{c:Code}{args:Array Value}{R:Ending→World→Prop}(hf:P.funcs[f]? = some fn)(hb:fn.body=some c)(hn:fn.ntmps=N)(h : ∀a,Fr N [] L a→c.wpIn (FW none) 0 P (bodyPost P fn R) a w)
  (hs:Nat.ble args.size N=true:=by kernel_rfl) (hL:HX args=L:=by kernel_rfl):Calls P f args w R:=enter hf hb hn (Nat.le_of_ble_eq_true hs) hL h
theorem SS.px (h:SS M κ0 w0 κ w C R) (is:List Nat) (hn:is.Nodup:=by decide):SSx M κ0 w0 (pk C is) R w:=⟨κ,h.selp is hn (wB _ _)⟩
theorem SS.fx (h:SS M κ0 w0 κ w C R):SSx M κ0 w0 (C.filter LG) R w:=⟨κ,h.drop List.filter_sublist⟩
abbrev ra (a n:Nat):List Nat:=List.range' a n
abbrev sp (p:Option Nat):Nat×List Value:=(1,[.pointer (pa p)])
abbrev sm (p:Option Nat):Nat×List Value:=(1,[.map p])
abbrev mx (p:Option Nat) (m:Array MapEntry) (c:Nat):Ck := .ext (objX p (.map m c))
abbrev ox {α:Type} (O:OT α) (p:Option Nat) (bs:List Nat) (o:Option α):Ck := .ext (optX O p bs o)
end
end Go.Cf
namespace Go.Cf
open Go
structure jY where
 Epoch:Int
 Has:(List Bool)
 T:(List Int)
structure j4 where
 dc:Int
 beats:(List Int)
 got:jY
 known:jY
 stable:Int
structure mN where
 TS:Int
 DC:Int
 Tx:Int
structure jB where
 Key:ByteArray
 Val:ByteArray
 Gone:Bool
 TS:Int
 DC:Int
 Tx:Int
structure kC where
 TS:Int
 DC:Int
 Tx:Int
 Vers:(List jB)
structure jC where
 list:(List kC)
 waiting:(List kC)
 bound:Int
structure j3 where
 base:Int
 list:(List kC)
 handed:Int
 done:(List Bool)
 hearts:(Mp Int Int)
 got:Int
structure j5 where
 Cuts:(List ByteArray)
 Nodes:(List Int)
structure l6 where
 Lo:ByteArray
 Hi:ByteArray
 Node:Int
structure jJ where
 Node:Int
 Vers:(List jB)
structure jH where
 low:Int
 shares:(List jJ)
 votes:(Mp Int Int)
 ended:(Mp Int Bool)
 at_:Int
 decided:Bool
structure j9 where
 open_:(Mp Int jH)
structure jU where
 Kind:Int
 DC:Int
 Shard:Int
 Node:Int
 Mode:Int
 Key:ByteArray
structure jF where
 Kind:Int
 Id:Int
 N:Int
 TS:Int
 Lo:ByteArray
 Hi:ByteArray
 Vers:(List jB)
 Vec:(List Int)
 Cmd:jU
structure i9 where
 To:Int
 Msg:jF
structure jL where
 Call:Int
 Kind:Int
 Old:Bool
 Has:Bool
 Ver:jB
 Mark:mN
structure j8 where
 span:l6
 shard:Int
 to:Int
 step_:Int
structure i8 where
 id:Int
 read:Bool
 key:ByteArray
 at_:Int
 writes:(List jB)
structure jA where
 dc:Int
 at_:Int
 left:Int
 keys:(List ByteArray)
structure jV where
 dc:Int
 nodes:Int
 role:Int
 epoch:Int
 base:Int
 txs:Int
 m:j5
 modes:(List Int)
 agreed:(List Bool)
 old:(List Int)
 owing:Bool
 st:(Option j4)
 log:(Option jC)
 co:(Option j9)
 hi:Int
 boxes:(List (Option j3))
 cursor:(List Int)
 heard:(List Int)
 calls:(Mp Int Int)
 reads:(Mp Int i8)
 held:(List i8)
 loads:(Mp Int jA)
 last:Int
 mv:(Option j8)
 seedTo:Int
 seeds:Int
 cut:(List Int)
 end_:(List Int)
 floor:Int
 floored:Bool
 seeded:Bool
 said:Bool
 out:(List i9)
 replies:(List jL)
structure kG where
 Kind:Int
 From:Int
 Call:Int
 Msg:jF
 Key:ByteArray
 T:Int
 Writes:(List jB)
def jG:FT jB:=⟨6,λx=>[.string (x.Key),.string (x.Val),.bool (x.Gone),.int .u64 (x.TS),.int .i64 (x.DC),.int .i64 (x.Tx)],λ_=>rfl,λx v hv=>by
 simp only [List.mem_cons,List.not_mem_nil,or_false] at hv
 rcases hv with rfl|rfl|rfl|rfl|rfl|rfl<;>rfl⟩
def II:FT jU:=⟨6,λx=>[.int .i64 (x.Kind),.int .i64 (x.DC),.int .i64 (x.Shard),.int .i64 (x.Node),.int .i64 (x.Mode),.string (x.Key)],λ_=>rfl,λx v hv=>by
 simp only [List.mem_cons,List.not_mem_nil,or_false] at hv
 rcases hv with rfl|rfl|rfl|rfl|rfl|rfl<;>rfl⟩
def kK:FT jL:=⟨13,λx=>[.int .i64 (x.Call),.int .i64 (x.Kind),.bool (x.Old),.bool (x.Has),.string (x.Ver.Key),.string (x.Ver.Val),.bool (x.Ver.Gone),.int .u64 (x.Ver.TS),.int .i64 (x.Ver.DC),.int .i64 (x.Ver.Tx),.int .u64 (x.Mark.TS),.int .i64 (x.Mark.DC),.int .i64 (x.Mark.Tx)],λ_=>rfl,λx v hv=>by
 simp only [List.mem_cons,List.not_mem_nil,or_false] at hv
 rcases hv with rfl|rfl|rfl|rfl|rfl|rfl|rfl|rfl|rfl|rfl|rfl|rfl|rfl<;>rfl⟩
def lD:Ty kC:=Ty.of (H:=Option Addr×Nat) 4 (λh x=>[(1,[.int .u64 (x.TS)]),(1,[.int .i64 (x.DC)]),(1,[.int .i64 (x.Tx)]),(1,[.slice h.1 x.Vers.length h.2])]) (λh x=>[Ro.mp jG.ty h.1 h.2 x.Vers]) (λh x κ w hR=>by
 have hget : ∀(i:Nat) {m:MP},([Ro.mp jG.ty h.1 h.2 x.Vers]:List MP)[i]? = some m→m.p κ w:=λi m hi=>hR m (List.mem_of_getElem? hi)
 exact (sgN 4 jD)) (λ_ _=>by kernel_rfl)
def lP:Ty jJ:=Ty.of (H:=Option Addr×Nat) 2 (λh x=>[(1,[.int .i64 (x.Node)]),(1,[.slice h.1 x.Vers.length h.2])]) (λh x=>[Ro.mp jG.ty h.1 h.2 x.Vers]) (λh x κ w hR=>by
 have hget : ∀(i:Nat) {m:MP},([Ro.mp jG.ty h.1 h.2 x.Vers]:List MP)[i]? = some m→m.p κ w:=λi m hi=>hR m (List.mem_of_getElem? hi)
 exact (sgN 2 jD)) (λ_ _=>by kernel_rfl)
def I7:Ty jF:=Ty.of (H:=Option Addr×Nat×Option Addr×Nat) 14 (λh x=>[(1,[.int .i64 (x.Kind)]),(1,[.int .u64 (x.Id)]),(1,[.int .u64 (x.N)]),(1,[.int .u64 (x.TS)]),(1,[.string (x.Lo)]),(1,[.string (x.Hi)]),(1,[.slice h.1 x.Vers.length h.2.1]),(1,[.slice h.2.2.1 x.Vec.length h.2.2.2]),(1,[.int .i64 (x.Cmd.Kind)]),(1,[.int .i64 (x.Cmd.DC)]),(1,[.int .i64 (x.Cmd.Shard)]),(1,[.int .i64 (x.Cmd.Node)]),(1,[.int .i64 (x.Cmd.Mode)]),(1,[.string (x.Cmd.Key)])]) (λh x=>[Ro.mp jG.ty h.1 h.2.1 x.Vers,Ro.mp (fInt .u64).ty h.2.2.1 h.2.2.2 x.Vec]) (λh x κ w hR=>by
 have hget : ∀(i:Nat) {m:MP},([Ro.mp jG.ty h.1 h.2.1 x.Vers,Ro.mp (fInt .u64).ty h.2.2.1 h.2.2.2 x.Vec]:List MP)[i]? = some m→m.p κ w:=λi m hi=>hR m (List.mem_of_getElem? hi)
 exact (sgN 14 jD)) (λ_ _=>by kernel_rfl)
def n9:Ty i9:=Ty.of (H:=Option Addr×Nat×Option Addr×Nat) 15 (λh x=>[(1,[.int .i64 (x.To)]),(1,[.int .i64 (x.Msg.Kind)]),(1,[.int .u64 (x.Msg.Id)]),(1,[.int .u64 (x.Msg.N)]),(1,[.int .u64 (x.Msg.TS)]),(1,[.string (x.Msg.Lo)]),(1,[.string (x.Msg.Hi)]),(1,[.slice h.1 x.Msg.Vers.length h.2.1]),(1,[.slice h.2.2.1 x.Msg.Vec.length h.2.2.2]),(1,[.int .i64 (x.Msg.Cmd.Kind)]),(1,[.int .i64 (x.Msg.Cmd.DC)]),(1,[.int .i64 (x.Msg.Cmd.Shard)]),(1,[.int .i64 (x.Msg.Cmd.Node)]),(1,[.int .i64 (x.Msg.Cmd.Mode)]),(1,[.string (x.Msg.Cmd.Key)])]) (λh x=>[Ro.mp jG.ty h.1 h.2.1 x.Msg.Vers,Ro.mp (fInt .u64).ty h.2.2.1 h.2.2.2 x.Msg.Vec]) (λh x κ w hR=>by
 have hget : ∀(i:Nat) {m:MP},([Ro.mp jG.ty h.1 h.2.1 x.Msg.Vers,Ro.mp (fInt .u64).ty h.2.2.1 h.2.2.2 x.Msg.Vec]:List MP)[i]? = some m→m.p κ w:=λi m hi=>hR m (List.mem_of_getElem? hi)
 exact (sgN 15 jD)) (λ_ _=>by kernel_rfl)
def kO:Ty i8:=Ty.of (H:=Option Addr×Nat) 5 (λh x=>[(1,[.int .i64 (x.id)]),(1,[.bool (x.read)]),(1,[.string (x.key)]),(1,[.int .u64 (x.at_)]),(1,[.slice h.1 x.writes.length h.2])]) (λh x=>[Ro.mp jG.ty h.1 h.2 x.writes]) (λh x κ w hR=>by
 have hget : ∀(i:Nat) {m:MP},([Ro.mp jG.ty h.1 h.2 x.writes]:List MP)[i]? = some m→m.p κ w:=λi m hi=>hR m (List.mem_of_getElem? hi)
 exact (sgN 5 jD)) (λ_ _=>by kernel_rfl)
theorem E4 (κ:Gh) (w:World):(kO).rep κ w (flat [(1,[.int .i64 (0)]),(1,[.bool (false)]),(1,[.string (ByteArray.empty)]),(1,[.int .u64 (0)]),(1,[.slice none 0 0])]) (i8.mk 0 false ByteArray.empty 0 ([]:List jB)):=
 ⟨(none,0),rfl,by
  intro m hm
  simp only [List.mem_cons,List.not_mem_nil,or_false] at hm
  rcases hm with rfl
  ·exact Ro.nil _ _ _⟩
def mE:Ty jA:=Ty.of (H:=Option Addr×Nat) 4 (λh x=>[(1,[.int .i64 (x.dc)]),(1,[.int .i64 (x.at_)]),(1,[.int .i64 (x.left)]),(1,[.slice h.1 x.keys.length h.2])]) (λh x=>[Ro.mp lC.ty h.1 h.2 x.keys]) (λh x κ w hR=>by
 have hget : ∀(i:Nat) {m:MP},([Ro.mp lC.ty h.1 h.2 x.keys]:List MP)[i]? = some m→m.p κ w:=λi m hi=>hR m (List.mem_of_getElem? hi)
 exact (sgN 4 jD)) (λ_ _=>by kernel_rfl)
theorem E3 (κ:Gh) (w:World):(mE).rep κ w (flat [(1,[.int .i64 (0)]),(1,[.int .i64 (0)]),(1,[.int .i64 (0)]),(1,[.slice none 0 0])]) (jA.mk 0 0 0 ([]:List ByteArray)):=
 ⟨(none,0),rfl,by
  intro m hm
  simp only [List.mem_cons,List.not_mem_nil,or_false] at hm
  rcases hm with rfl
  ·exact Ro.nil _ _ _⟩
def lL:Ty kG:=Ty.of (H:=Option Addr×Nat×Option Addr×Nat×Option Addr×Nat) 20 (λh x=>[(1,[.int .i64 (x.Kind)]),(1,[.int .i64 (x.From)]),(1,[.int .i64 (x.Call)]),(1,[.int .i64 (x.Msg.Kind)]),(1,[.int .u64 (x.Msg.Id)]),(1,[.int .u64 (x.Msg.N)]),(1,[.int .u64 (x.Msg.TS)]),(1,[.string (x.Msg.Lo)]),(1,[.string (x.Msg.Hi)]),(1,[.slice h.1 x.Msg.Vers.length h.2.1]),(1,[.slice h.2.2.1 x.Msg.Vec.length h.2.2.2.1]),(1,[.int .i64 (x.Msg.Cmd.Kind)]),(1,[.int .i64 (x.Msg.Cmd.DC)]),(1,[.int .i64 (x.Msg.Cmd.Shard)]),(1,[.int .i64 (x.Msg.Cmd.Node)]),(1,[.int .i64 (x.Msg.Cmd.Mode)]),(1,[.string (x.Msg.Cmd.Key)]),(1,[.string (x.Key)]),(1,[.int .u64 (x.T)]),(1,[.slice h.2.2.2.2.1 x.Writes.length h.2.2.2.2.2])]) (λh x=>[Ro.mp jG.ty h.1 h.2.1 x.Msg.Vers,Ro.mp (fInt .u64).ty h.2.2.1 h.2.2.2.1 x.Msg.Vec,Ro.mp jG.ty h.2.2.2.2.1 h.2.2.2.2.2 x.Writes]) (λh x κ w hR=>by
 have hget : ∀(i:Nat) {m:MP},([Ro.mp jG.ty h.1 h.2.1 x.Msg.Vers,Ro.mp (fInt .u64).ty h.2.2.1 h.2.2.2.1 x.Msg.Vec,Ro.mp jG.ty h.2.2.2.2.1 h.2.2.2.2.2 x.Writes]:List MP)[i]? = some m→m.p κ w:=λi m hi=>hR m (List.mem_of_getElem? hi)
 exact (sgN 20 jD)) (λ_ _=>by kernel_rfl)
def jP (b:Nat) (h:(Option Addr)×Nat) (x:j4):List Ck:=[.box b 109 [(1,[.int .i64 (x.dc)]),(1,[.slice h.1 x.beats.length h.2]),(1,[.int .i64 (x.got.Epoch)]),(4,(encs jM x.got.Has)),(4,(encs (fInt .u64) x.got.T)),(1,[.int .i64 (x.known.Epoch)]),(4,(encs jM x.known.Has)),(4,(encs (fInt .u64) x.known.T)),(1,[.int .u64 (x.stable)])],.ext (ownX (fInt .u64) 32 h.1 h.2 x.beats)]
def jO (h:(Option Addr)×Nat) (x:j4):List MP:=[MP.const (List.length x.got.Has=4),MP.const (List.length x.got.T=4),MP.const (List.length x.known.Has=4),MP.const (List.length x.known.T=4)]
def o_stab_Table:OT j4:=OT.of jP jO
def kA (b:Nat) (h:(Option Addr)×Nat×(Option Nat)×(Array MapEntry)×Nat×(Option Nat)×(Array MapEntry)×Nat) (x:jH):List Ck:=[.box b 185 [(1,[.int .u64 (x.low)]),(1,[.slice h.1 x.shares.length h.2.1]),(1,[.map h.2.2.1]),(1,[.map h.2.2.2.2.2.1]),(1,[.int .u64 (x.at_)]),(1,[.bool (x.decided)])],.ext (objX h.2.2.1 (.map h.2.2.2.1 h.2.2.2.2.1)),.ext (objX h.2.2.2.2.2.1 (.map h.2.2.2.2.2.2.1 h.2.2.2.2.2.2.2))]
def k9 (h:(Option Addr)×Nat×(Option Nat)×(Array MapEntry)×Nat×(Option Nat)×(Array MapEntry)×Nat) (x:jH):List MP:=[Ro.mp lP h.1 h.2.1 x.shares,Map.mp (kInt .i64) false (fInt .u64).ty h.2.2.1 h.2.2.2.1 h.2.2.2.2.1 x.votes,Map.mp (kInt .i64) false jM.ty h.2.2.2.2.2.1 h.2.2.2.2.2.2.1 h.2.2.2.2.2.2.2 x.ended]
def jW:OT jH:=OT.of kA k9
def lA (b:Nat) (h:Unit) (x:j8):List Ck:=[.box b 132 [(1,[.string (x.span.Lo)]),(1,[.string (x.span.Hi)]),(1,[.int .i64 (x.span.Node)]),(1,[.int .i64 (x.shard)]),(1,[.int .i64 (x.to)]),(1,[.int .i64 (x.step_)])]]
def l8 (h:Unit) (x:j8):List MP:=[]
def o_gate_move:OT j8:=OT.of lA l8
def kW (b:Nat) (h:(Option Addr)×Nat×(Option Addr)×Nat) (x:jC):List Ck:=[.box b 166 [(1,[.slice h.1 x.list.length h.2.1]),(1,[.slice h.2.2.1 x.waiting.length h.2.2.2]),(1,[.int .u64 (x.bound)])],.tok h.1 135 4 x.list.length h.2.1,.tok h.2.2.1 135 4 x.waiting.length h.2.2.2]
def kT (h:(Option Addr)×Nat×(Option Addr)×Nat) (x:jC):List MP:=[Ro.mp lD h.1 h.2.1 x.list,Ro.mp lD h.2.2.1 h.2.2.2 x.waiting]
def o_order_Log:OT jC:=OT.of kW kT
def l3 (b:Nat) (h:(Option Nat)×(Array MapEntry)×Nat×(Mp Int (Option Nat))×(List Nat)) (x:j9):List Ck:=[.box b 172 [(1,[.map h.1])],.ext (objX h.1 (.map h.2.1 h.2.2.1)),.ext (mpX jW h.2.2.2.1 h.2.2.2.2 x.open_ none)]
def kZ (h:(Option Nat)×(Array MapEntry)×Nat×(Mp Int (Option Nat))×(List Nat)) (x:j9):List MP:=[Map.mp (kInt .u64) false pO.ty h.1 h.2.1 h.2.2.1 h.2.2.2.1]
def o_coord_Table:OT j9:=OT.of l3 kZ
def lO (b:Nat) (h:(Option Addr)×Nat×(Option Addr)×Nat×(Option Nat)×(Array MapEntry)×Nat) (x:j3):List Ck:=[.box b 114 [(1,[.int .i64 (x.base)]),(1,[.slice h.1 x.list.length h.2.1]),(1,[.int .i64 (x.handed)]),(1,[.slice h.2.2.1 x.done.length h.2.2.2.1]),(1,[.map h.2.2.2.2.1]),(1,[.int .u64 (x.got)])],.tok h.1 135 4 x.list.length h.2.1,.ext (ownX jM 4 h.2.2.1 h.2.2.2.1 x.done),.ext (objX h.2.2.2.2.1 (.map h.2.2.2.2.2.1 h.2.2.2.2.2.2))]
def lN (h:(Option Addr)×Nat×(Option Addr)×Nat×(Option Nat)×(Array MapEntry)×Nat) (x:j3):List MP:=[Ro.mp lD h.1 h.2.1 x.list,Map.mp (kInt .i64) false (fInt .u64).ty h.2.2.2.2.1 h.2.2.2.2.2.1 h.2.2.2.2.2.2 x.hearts]
def j6:OT j3:=OT.of lO lN
def lZ (b:Nat) (h:(Option Addr)×Nat×(Option Addr)×Nat×(Option Addr)×Nat×(Option Addr)×Nat×(Option Addr)×Nat×(Option Nat)×(List Nat)×(Option Nat)×(List Nat)×(Option Nat)×(List Nat)×(List (Option Nat))×(List Nat)×(Option Nat)×(Array MapEntry)×Nat×(Option Nat)×(Array MapEntry)×Nat×(Option Addr)×Nat×(Option Nat)×(Array MapEntry)×Nat×(Option Nat)×(List Nat)×(Option Addr)×Nat×(Option Addr)×Nat×(Option Addr)×Nat×(Option Addr)×Nat) (x:jV):List Ck:=[.box b 87 [(1,[.int .i64 (x.dc)]),(1,[.int .i64 (x.nodes)]),(1,[.int .i64 (x.role)]),(1,[.int .i64 (x.epoch)]),(1,[.int .i64 (x.base)]),(1,[.int .i64 (x.txs)]),(1,[.slice h.1 x.m.Cuts.length h.2.1]),(1,[.slice h.2.2.1 x.m.Nodes.length h.2.2.2.1]),(1,[.slice h.2.2.2.2.1 x.modes.length h.2.2.2.2.2.1]),(1,[.slice h.2.2.2.2.2.2.1 x.agreed.length h.2.2.2.2.2.2.2.1]),(1,[.slice h.2.2.2.2.2.2.2.2.1 x.old.length h.2.2.2.2.2.2.2.2.2.1]),(1,[.bool (x.owing)]),(1,[.pointer (pa h.2.2.2.2.2.2.2.2.2.2.1)]),(1,[.pointer (pa h.2.2.2.2.2.2.2.2.2.2.2.2.1)]),(1,[.pointer (pa h.2.2.2.2.2.2.2.2.2.2.2.2.2.2.1)]),(1,[.int .u64 (x.hi)]),(4,(encs pO h.2.2.2.2.2.2.2.2.2.2.2.2.2.2.2.2.1)),(4,(encs (fInt .i64) x.cursor)),(4,(encs (fInt .i64) x.heard)),(1,[.map h.2.2.2.2.2.2.2.2.2.2.2.2.2.2.2.2.2.2.1]),(1,[.map h.2.2.2.2.2.2.2.2.2.2.2.2.2.2.2.2.2.2.2.2.2.1]),(1,[.slice h.2.2.2.2.2.2.2.2.2.2.2.2.2.2.2.2.2.2.2.2.2.2.2.2.1 x.held.length h.2.2.2.2.2.2.2.2.2.2.2.2.2.2.2.2.2.2.2.2.2.2.2.2.2.1]),(1,[.map h.2.2.2.2.2.2.2.2.2.2.2.2.2.2.2.2.2.2.2.2.2.2.2.2.2.2.1]),(1,[.int .u64 (x.last)]),(1,[.pointer (pa h.2.2.2.2.2.2.2.2.2.2.2.2.2.2.2.2.2.2.2.2.2.2.2.2.2.2.2.2.2.1)]),(1,[.int .i64 (x.seedTo)]),(1,[.int .i64 (x.seeds)]),(1,[.slice h.2.2.2.2.2.2.2.2.2.2.2.2.2.2.2.2.2.2.2.2.2.2.2.2.2.2.2.2.2.2.2.1 x.cut.length h.2.2.2.2.2.2.2.2.2.2.2.2.2.2.2.2.2.2.2.2.2.2.2.2.2.2.2.2.2.2.2.2.1]),(1,[.slice h.2.2.2.2.2.2.2.2.2.2.2.2.2.2.2.2.2.2.2.2.2.2.2.2.2.2.2.2.2.2.2.2.2.1 x.end_.length h.2.2.2.2.2.2.2.2.2.2.2.2.2.2.2.2.2.2.2.2.2.2.2.2.2.2.2.2.2.2.2.2.2.2.1]),(1,[.int .u64 (x.floor)]),(1,[.bool (x.floored)]),(1,[.bool (x.seeded)]),(1,[.bool (x.said)]),(1,[.slice h.2.2.2.2.2.2.2.2.2.2.2.2.2.2.2.2.2.2.2.2.2.2.2.2.2.2.2.2.2.2.2.2.2.2.2.1 x.out.length h.2.2.2.2.2.2.2.2.2.2.2.2.2.2.2.2.2.2.2.2.2.2.2.2.2.2.2.2.2.2.2.2.2.2.2.2.1]),(1,[.slice h.2.2.2.2.2.2.2.2.2.2.2.2.2.2.2.2.2.2.2.2.2.2.2.2.2.2.2.2.2.2.2.2.2.2.2.2.2.1 x.replies.length h.2.2.2.2.2.2.2.2.2.2.2.2.2.2.2.2.2.2.2.2.2.2.2.2.2.2.2.2.2.2.2.2.2.2.2.2.2.2])],.tok h.2.2.2.2.2.2.2.2.2.2.2.2.2.2.2.2.2.2.2.2.2.2.2.2.1 95 5 x.held.length h.2.2.2.2.2.2.2.2.2.2.2.2.2.2.2.2.2.2.2.2.2.2.2.2.2.1,.tok h.2.2.2.2.2.2.2.2.2.2.2.2.2.2.2.2.2.2.2.2.2.2.2.2.2.2.2.2.2.2.2.1 32 1 x.cut.length h.2.2.2.2.2.2.2.2.2.2.2.2.2.2.2.2.2.2.2.2.2.2.2.2.2.2.2.2.2.2.2.2.1,.tok h.2.2.2.2.2.2.2.2.2.2.2.2.2.2.2.2.2.2.2.2.2.2.2.2.2.2.2.2.2.2.2.2.2.1 32 1 x.end_.length h.2.2.2.2.2.2.2.2.2.2.2.2.2.2.2.2.2.2.2.2.2.2.2.2.2.2.2.2.2.2.2.2.2.2.1,.tok h.2.2.2.2.2.2.2.2.2.2.2.2.2.2.2.2.2.2.2.2.2.2.2.2.2.2.2.2.2.2.2.2.2.2.2.1 61 15 x.out.length h.2.2.2.2.2.2.2.2.2.2.2.2.2.2.2.2.2.2.2.2.2.2.2.2.2.2.2.2.2.2.2.2.2.2.2.2.1,.tok h.2.2.2.2.2.2.2.2.2.2.2.2.2.2.2.2.2.2.2.2.2.2.2.2.2.2.2.2.2.2.2.2.2.2.2.2.2.1 52 13 x.replies.length h.2.2.2.2.2.2.2.2.2.2.2.2.2.2.2.2.2.2.2.2.2.2.2.2.2.2.2.2.2.2.2.2.2.2.2.2.2.2,.ext (ownX (fInt .i64) 3 h.2.2.2.2.1 h.2.2.2.2.2.1 x.modes),.ext (ownX jM 4 h.2.2.2.2.2.2.1 h.2.2.2.2.2.2.2.1 x.agreed),.ext (ownX (fInt .i64) 3 h.2.2.2.2.2.2.2.2.1 h.2.2.2.2.2.2.2.2.2.1 x.old),.ext (optX o_stab_Table h.2.2.2.2.2.2.2.2.2.2.1 h.2.2.2.2.2.2.2.2.2.2.2.1 x.st),.ext (optX o_order_Log h.2.2.2.2.2.2.2.2.2.2.2.2.1 h.2.2.2.2.2.2.2.2.2.2.2.2.2.1 x.log),.ext (optX o_coord_Table h.2.2.2.2.2.2.2.2.2.2.2.2.2.2.1 h.2.2.2.2.2.2.2.2.2.2.2.2.2.2.2.1 x.co),.ext (arrX j6 h.2.2.2.2.2.2.2.2.2.2.2.2.2.2.2.2.1 h.2.2.2.2.2.2.2.2.2.2.2.2.2.2.2.2.2.1 x.boxes),.ext (objX h.2.2.2.2.2.2.2.2.2.2.2.2.2.2.2.2.2.2.1 (.map h.2.2.2.2.2.2.2.2.2.2.2.2.2.2.2.2.2.2.2.1 h.2.2.2.2.2.2.2.2.2.2.2.2.2.2.2.2.2.2.2.2.1)),.ext (objX h.2.2.2.2.2.2.2.2.2.2.2.2.2.2.2.2.2.2.2.2.2.1 (.map h.2.2.2.2.2.2.2.2.2.2.2.2.2.2.2.2.2.2.2.2.2.2.1 h.2.2.2.2.2.2.2.2.2.2.2.2.2.2.2.2.2.2.2.2.2.2.2.1)),.ext (objX h.2.2.2.2.2.2.2.2.2.2.2.2.2.2.2.2.2.2.2.2.2.2.2.2.2.2.1 (.map h.2.2.2.2.2.2.2.2.2.2.2.2.2.2.2.2.2.2.2.2.2.2.2.2.2.2.2.1 h.2.2.2.2.2.2.2.2.2.2.2.2.2.2.2.2.2.2.2.2.2.2.2.2.2.2.2.2.1)),.ext (optX o_gate_move h.2.2.2.2.2.2.2.2.2.2.2.2.2.2.2.2.2.2.2.2.2.2.2.2.2.2.2.2.2.1 h.2.2.2.2.2.2.2.2.2.2.2.2.2.2.2.2.2.2.2.2.2.2.2.2.2.2.2.2.2.2.1 x.mv)]
def lV (h:(Option Addr)×Nat×(Option Addr)×Nat×(Option Addr)×Nat×(Option Addr)×Nat×(Option Addr)×Nat×(Option Nat)×(List Nat)×(Option Nat)×(List Nat)×(Option Nat)×(List Nat)×(List (Option Nat))×(List Nat)×(Option Nat)×(Array MapEntry)×Nat×(Option Nat)×(Array MapEntry)×Nat×(Option Addr)×Nat×(Option Nat)×(Array MapEntry)×Nat×(Option Nat)×(List Nat)×(Option Addr)×Nat×(Option Addr)×Nat×(Option Addr)×Nat×(Option Addr)×Nat) (x:jV):List MP:=[Ro.mp lC.ty h.1 h.2.1 x.m.Cuts,Ro.mp (fInt .i64).ty h.2.2.1 h.2.2.2.1 x.m.Nodes,MP.const (List.length h.2.2.2.2.2.2.2.2.2.2.2.2.2.2.2.2.1=4),MP.const (List.length x.cursor=4),MP.const (List.length x.heard=4),Map.mp (kInt .u64) false (fInt .i64).ty h.2.2.2.2.2.2.2.2.2.2.2.2.2.2.2.2.2.2.1 h.2.2.2.2.2.2.2.2.2.2.2.2.2.2.2.2.2.2.2.1 h.2.2.2.2.2.2.2.2.2.2.2.2.2.2.2.2.2.2.2.2.1 x.calls,Map.mp (kInt .u64) true kO h.2.2.2.2.2.2.2.2.2.2.2.2.2.2.2.2.2.2.2.2.2.1 h.2.2.2.2.2.2.2.2.2.2.2.2.2.2.2.2.2.2.2.2.2.2.1 h.2.2.2.2.2.2.2.2.2.2.2.2.2.2.2.2.2.2.2.2.2.2.2.1 x.reads,Ro.mp kO h.2.2.2.2.2.2.2.2.2.2.2.2.2.2.2.2.2.2.2.2.2.2.2.2.1 h.2.2.2.2.2.2.2.2.2.2.2.2.2.2.2.2.2.2.2.2.2.2.2.2.2.1 x.held,Map.mp (kInt .u64) true mE h.2.2.2.2.2.2.2.2.2.2.2.2.2.2.2.2.2.2.2.2.2.2.2.2.2.2.1 h.2.2.2.2.2.2.2.2.2.2.2.2.2.2.2.2.2.2.2.2.2.2.2.2.2.2.2.1 h.2.2.2.2.2.2.2.2.2.2.2.2.2.2.2.2.2.2.2.2.2.2.2.2.2.2.2.2.1 x.loads,Ro.mp (fInt .u64).ty h.2.2.2.2.2.2.2.2.2.2.2.2.2.2.2.2.2.2.2.2.2.2.2.2.2.2.2.2.2.2.2.1 h.2.2.2.2.2.2.2.2.2.2.2.2.2.2.2.2.2.2.2.2.2.2.2.2.2.2.2.2.2.2.2.2.1 x.cut,Ro.mp (fInt .u64).ty h.2.2.2.2.2.2.2.2.2.2.2.2.2.2.2.2.2.2.2.2.2.2.2.2.2.2.2.2.2.2.2.2.2.1 h.2.2.2.2.2.2.2.2.2.2.2.2.2.2.2.2.2.2.2.2.2.2.2.2.2.2.2.2.2.2.2.2.2.2.1 x.end_,Ro.mp n9 h.2.2.2.2.2.2.2.2.2.2.2.2.2.2.2.2.2.2.2.2.2.2.2.2.2.2.2.2.2.2.2.2.2.2.2.1 h.2.2.2.2.2.2.2.2.2.2.2.2.2.2.2.2.2.2.2.2.2.2.2.2.2.2.2.2.2.2.2.2.2.2.2.2.1 x.out,Ro.mp kK.ty h.2.2.2.2.2.2.2.2.2.2.2.2.2.2.2.2.2.2.2.2.2.2.2.2.2.2.2.2.2.2.2.2.2.2.2.2.2.1 h.2.2.2.2.2.2.2.2.2.2.2.2.2.2.2.2.2.2.2.2.2.2.2.2.2.2.2.2.2.2.2.2.2.2.2.2.2.2 x.replies]
def l9:OT jV:=OT.of lZ lV
end Go.Cf
