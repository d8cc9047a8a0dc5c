/- 'slices.Collect(maps.Values(m))' and 'slices.Sort' of ints: the shelf's contracts at this dump. -/
import Derived.Shelf.SlIterI.Collect
import Derived.Shelf.SlIter.AllValues
import Derived.Maps.RangeWalk
import Derived.Shelf.SortM.Plain
import Derived.Shelf.SortM.SortNone
import Derived.Ground.GgzProg
import Derived.Ground.GgmProg
import Derived.Ground.SlgmProg
import Derived.Test.YtcplebnnanjngaaGreatProg
import Derived.Test.YtcplebnnanjngaaGreatZK2
set_option linter.unusedVariables false
namespace Go.Proofs
open Go.RowKit Go.Maps Go.Sort Go.Shelf
structure KX (P:Program)(ρ:Ren)(q:IntKind):Prop where
 mixed:P.follows .mixedOrders=true
 f7:Bears P (ρ.f 7) (SlBodyY.n7 ρ)
 t0:P.underlying (ρ.t 0)=some (TypeDesc.tuple #[])
 a0 : ∀w,(isAgg (ρ.t 0)).run P w = .ok false w
 z0 : ∀w,(Go.sizeOf (ρ.t 0)).run P w = .ok 1 w
 v0 : ∀w,(zeroValue (ρ.t 0)).run P w = .ok (Value.tuple #[]) w
 t3:P.underlying (ρ.t 3)=some (TypeDesc.int IntKind.i64)
 a3 : ∀w,(isAgg (ρ.t 3)).run P w = .ok false w
 z3 : ∀w,(Go.sizeOf (ρ.t 3)).run P w = .ok 1 w
 v3 : ∀w,(zeroValue (ρ.t 3)).run P w = .ok (Value.int IntKind.i64 0) w
 t4:P.underlying (ρ.t 4)=some (TypeDesc.bool)
 a4 : ∀w,(isAgg (ρ.t 4)).run P w = .ok false w
 z4 : ∀w,(Go.sizeOf (ρ.t 4)).run P w = .ok 1 w
 v4 : ∀w,(zeroValue (ρ.t 4)).run P w = .ok (Value.bool false) w
 t23:P.underlying (ρ.t 23)=some (TypeDesc.map (ρ.t 27) (ρ.t 3))
 a23 : ∀w,(isAgg (ρ.t 23)).run P w = .ok false w
 z23 : ∀w,(Go.sizeOf (ρ.t 23)).run P w = .ok 1 w
 v23 : ∀w,(zeroValue (ρ.t 23)).run P w = .ok (Value.map none) w
 t33:P.underlying (ρ.t 33)=some (TypeDesc.func #[ρ.t 3] #[ρ.t 4] false)
 a33 : ∀w,(isAgg (ρ.t 33)).run P w = .ok false w
 z33 : ∀w,(Go.sizeOf (ρ.t 33)).run P w = .ok 1 w
 v33 : ∀w,(zeroValue (ρ.t 33)).run P w = .ok (Value.nilFunc) w
 t27:P.underlying (ρ.t 27)=some (TypeDesc.int q)
def xP (v:Value):Option (DataW Unit×List MemPlace):=match v with | .int .i64 a=>some (.lit (.int .i64 a),[])|_=>none
theorem D6 {v:Value} {z:DataW Unit×List MemPlace} (h:xP v=some z) : ∃a,v = .int .i64 a∧z=(.lit (.int .i64 a),[]):=by
 unfold xP at h
 split at h
 ·exact ⟨_,rfl,(Option.some.inj h).symm⟩
 ·cases h
structure B9 (q:IntKind)(D0:DataW Unit)(left:Lit→Bool)(ps:List (Int×Int)):Prop where
 nd:(ps.map (·.1)).Nodup
 mem : ∀x,x∈ps.map (·.1)↔(has D0 (.int q x)=true∧left (.int q x)=false)
 at_ : ∀p∈ps,∀zd,D0.atKey (.int q p.1) zd = .lit (.int .i64 p.2)
theorem B9.start (q:IntKind) (D0:DataW Unit):B9 q D0 (has D0) []:=⟨List.nodup_nil,λx=>by cases has D0 (.int q x)<;>simp,λ_ h=>by cases h⟩
theorem B9.step {q:IntKind} {D0:DataW Unit} {left:Lit→Bool} {ps:List (Int×Int)} (h:B9 q D0 left ps) {x c:Int} (hlk:left (.int q x)=true) (hat : ∀zd,D0.atKey (.int q x) zd = .lit (.int .i64 c)):B9 q D0 (λz=>left z && !z.sameKey (.int q x)) (ps++[(x,c)]):=by
 have hhas:has D0 (.int q x)=true:=has_true_of_atKey hat
 have hnew:x ∉ ps.map (·.1):=λhx=>by have:=((h.mem x).1 hx).2; rw [hlk] at this; cases this
 refine ⟨?_,λy=>?_,λp hp=>?_⟩
 ·rw [List.map_append]
  exact List.nodup_append.2 ⟨h.nd,by simp,λa ha b hb=>by simp at hb; subst hb; exact λe=>hnew (e▸ha)⟩
 ·by_cases hy:y=x
  ·subst hy; simp [hhas,Lit.sameKey]
  ·rw [List.map_append,List.mem_append,h.mem y]; simp [hy,Lit.sameKey]
 ·rcases List.mem_append.1 hp with hp|hp
  ·exact h.at_ p hp
  ·simp at hp; subst hp; exact hat
def LR (q:IntKind) (D0:DataW Unit) (xs:List Int):Prop := ∃ps:List (Int×Int),B9 q D0 (λ_=>false) ps∧xs=ps.map (·.2)
set_option maxRecDepth 100000 in
set_option maxHeartbeats 1000000 in
theorem J1 {P:Program}{ρ:Ren}{q:IntKind}(L:KX P ρ q)(F:Fence)(n:Nat)(h8:F.fn (ρ.f 7))(hro:F.round=none)(hn:1≤n)(l Bm b nn:Nat)(D0:DataW Unit)(J:List Int→World→Prop)
  (hY : ∀pre x W,J pre W→pre.length<Maps.size D0→YieldAt F (n-1) P l #[encZ x] W λe W'=>e = .returned (.bool true)∧J (pre++[x]) W'∧KeepsWalks W W')
  (W:World) (hJ:AbidesFrom W.heap.size J) (hm:W.cell? ⟨Bm,0,none⟩=some (.map (some b))) (hown:W.ownsMap P (ρ.t 27) xP b nn D0) (h0:J [] W) :
  CallsIn F n P (ρ.f 7) #[.func (.yield l) #[] #[],.pointer (some ⟨Bm,0,none⟩)] W λe W'=>(∃v,e = .returned v) ∧ ∃xs,LR q D0 xs∧J xs W':=by
 have mixed:=L.mixed; have t0:=L.t0; have a0:=L.a0; have z0:=L.z0; have v0:=L.v0; have t3:=L.t3; have a3:=L.a3; have z3:=L.z3; have v3:=L.v3; have t4:=L.t4; have a4:=L.a4; have z4:=L.z4; have v4:=L.v4; have t23:=L.t23; have a23:=L.a23; have z23:=L.z23; have v23:=L.v23; have t33:=L.t33; have a33:=L.a33; have z33:=L.z33; have v33:=L.v33; have t27:=L.t27
 have u0:=run_underlying L.t0; have u3:=run_underlying L.t3; have u4:=run_underlying L.t4; have u23:=run_underlying L.t23; have u33:=run_underlying L.t33; have u27:=run_underlying L.t27
 obtain ⟨_,_,FG⟩:=L.f7
 refine callsIn_of_wp FG rfl h8 ?_ hro
 simp only [SlBodyY.n7_ntmps ρ,List.size_toArray,List.length_cons,List.length_nil,Nat.reduceAdd,Nat.reduceSub,Array.replicate_succ,Array.replicate_zero,List.push_toArray,List.append_toArray,List.nil_append,List.cons_append]
 gi_wp2_with (first
  | (gi_at_range; refine wpListIn_range_own _ rfl _ (ρ.t 23) rfl (ρ.t 27) (ρ.t 3) (int_keyed L.t27) L.t23 _ b nn _ rfl hown ?_; intro w0 hrg0 hg0 hs0)
  | gi_in)
 go_frame
 gi_loopw [4] (λ_ wr=>∃(left:Lit→Bool) (cnt:Nat) (ps:List (Int×Int)),wr.ranges P (ρ.t 27) xP b W.heap.size nn D0 left cnt∧ps.length+cnt≤Maps.size D0∧B9 q D0 left ps∧J (ps.map (·.2)) wr)
  (λ_ wr=>wr.rangeLeft b W.heap.size)
 case atStart=>
  exact ⟨_,_,[],hrg0,by simp,B9.start q D0,hJ [] W w0 none h0 hg0 (λr e=>by cases e)⟩
 case round=>
  obtain ⟨left,cnt,ps,hrg,hcs,hC,hJs⟩:=hrel
  gi_wp2_with (first
   | (gi_at_next; refine wpListIn_next_ranges _ rfl _ rfl (ρ.t 27) (int_keyed L.t27) xP (Value.int q) (Value.int .i64) (λkey kl hk=>by obtain ⟨x,hx,_⟩:=Maps.keyOf_int_inv L.t27 hk; exact ⟨x,hx⟩) (λv y hv=>by obtain ⟨c,rfl,_⟩:=D6 hv; exact ⟨c,rfl⟩) b W.heap.size nn _ _ _ rfl hrg ?_ ?_)
   | gi_in)
  ·
   intro hc0 hl0
   gi_wp2
   go_end0
   refine ⟨⟨_,rfl⟩,_,⟨ps,⟨hC.nd,λx=>?_,hC.at_⟩,rfl⟩,hJs⟩
   rw [hC.mem x,hl0]
  ·
   intro x c kl yd yp w2 cnt2 hkey hlk hv hat hrg2 hlt hg2 hs2 hen
   obtain ⟨x',ex,rfl,_⟩:=Maps.keyOf_int_inv L.t27 hkey
   obtain rfl:x=x':=by simpa using ex
   obtain ⟨c',ec,ez⟩:=D6 hv
   obtain rfl:c=c':=by simpa using ec
   obtain rfl:yd = .lit (.int .i64 c):=(Prod.mk.inj ez).1
   have hJ2:J (ps.map (·.2)) w2:=hJ _ wr w2 (some W.heap.size) hJs hg2 (λr e=>by cases e; exact ⟨Nat.le_refl _,hrg.iter_walk⟩)
   obtain ⟨fn,tmps,assign,body,hy,hR⟩:=hY (ps.map (·.2)) c w2 hJ2 (by simp; omega)
   clear hs2
   gi_wp2
   refine hR.mono ?_
   rintro e W3 ⟨rfl,hJ3,hk3⟩
   gi_wp2
   have hrg3:=hrg2.of_walks hk3
   go_roundw
   case rel=>exact ⟨_,cnt2,ps++[(x,c)],hrg3,by simp; omega,hC.step hlk hat,by simpa using hJ3⟩
   case measure=>rw [hrg3.left_eq,hrg.left_eq]; exact hlt
theorem EC {P:Program}{ρ:Ren}{q:IntKind}(L:KX P ρ q)(F:Fence)(n:Nat)(h10:F.fn (ρ.f 7))(hro:F.round=none)(hn:1≤n)(Bm b nn:Nat)(D0:DataW Unit)(w:World)(hBm:Bm<w.heap.size)
  (hm:w.cell? ⟨Bm,0,none⟩=some (.map (some b))) (hown:w.ownsMap P (ρ.t 27) xP b nn D0) :
  SeqGives F n P (ρ.f 7) #[.pointer (some ⟨Bm,0,none⟩)] encZ (LR q D0) (Maps.size D0) w:=λl J W hW hJ hY h0=>by
 have hown':W.ownsMap P (ρ.t 27) xP b nn D0:=by
  have hbl:=hown.lt
  obtain ⟨es,clock,hb,Ft,hs,hD⟩:=hown
  exact ⟨es,clock,(hW.block b hbl).trans hb,Ft,hs,hD⟩
 exact J1 L F n h10 hro hn l Bm b nn D0 J hY W hJ ((hW.cell (p:=⟨Bm,0,none⟩) hBm).trans hm) hown' h0
end Go.Proofs
namespace Go.Cf
open Go Go.Proofs Go.RowKit Go.Maps Go.Sort
section
variable {κ:Gh}{w:World}{es:Array MapEntry}{clk:Nat}{l l0:List (Int×Int)}{q:IntKind}
theorem rdI {P:Program}{K:Nat}(hK:P.underlying K=some (.int q))(h:LAt (kInt q) false (fInt .i64).ty κ w es clk l0)(hk : ∀x∈l0,(Lit.int q x.1).wf=true){i:Nat}{e:MapEntry}{x:Int×Int}(hi:es.toList[i]? = some e)(hx:l0[i]? = some x) :
  WideElems.rd P K xP e=some (.int q x.1,.lit (.int .i64 x.2)):=by
 have h1:e.key = .int q x.1:=h.keyAt hi hx
 obtain ⟨cs,hv,hr⟩:=h.vals i e x hi hx
 have h2:e.val = .int .i64 x.2:=by
  obtain ⟨_,rfl,_⟩:=hr
  rw [hv]; rfl
 unfold WideElems.rd
 rw [h1,keyOf_int_mk hK (hk x (List.mem_of_getElem? hx)),h2]
 rfl
theorem NR {P:Program} {K:Nat} (hK:P.underlying K=some (.int q)) (h:LAt (kInt q) false (fInt .i64).ty κ w es clk l0) (hsz:es.size≤maxLen) (hk : ∀x∈l0,(Lit.int q x.1).wf=true):WideElems.Fit P K xP es clk:=
 ⟨hsz,h.st,λe he=>by
  obtain ⟨i,hi⟩:=List.mem_iff_getElem?.1 he
  obtain ⟨x,hx⟩:=h.other hi
  exact ⟨_,rdI hK h hk hi hx⟩⟩
theorem rgI {P:Program} {K:Nat} (hK:P.underlying K=some (.int q)) (h:LAt (kInt q) false (fInt .i64).ty κ w es clk l0) (hk : ∀x∈l0,(Lit.int q x.1).wf=true):es.toList.map (WideElems.rg P K xP)=l0.map λx=>((.int q x.1,.lit (.int .i64 x.2)):Lit×DataW Unit):=by
 apply List.ext_getElem?
 intro i
 simp only [List.getElem?_map]
 cases hi:es.toList[i]? with
 | none=>
  have:l0[i]? = none:=by
   rw [List.getElem?_eq_none_iff] at hi ⊢
   rw [← h.len]; exact hi
  rw [this]; rfl
 | some e=>
  obtain ⟨x,hx⟩:=h.other hi
  rw [hx]
  simp only [Option.map_some]
  unfold WideElems.rg
  rw [rdI hK h hk hi hx]
  rfl
theorem IQ (hn:(l0.map (·.1)).Nodup) {E:List (Lit×DataW Unit)} (hE:E.Perm (l0.map λx=>((.int q x.1,.lit (.int .i64 x.2)):Lit×DataW Unit))) {xs:List Int} (h:LR q (.map E) xs):xs.Perm (l0.map (·.2)):=by
 obtain ⟨ps,hC,rfl⟩:=h
 refine List.Perm.map _ ?_
 have hu : ∀x∈l0,∀y∈l0,x.1=y.1→x=y:=λx hx y hy e=>by
  obtain ⟨i,hi,rfl⟩:=List.mem_iff_getElem.1 hx
  obtain ⟨j,hj,rfl⟩:=List.mem_iff_getElem.1 hy
  have:i=j:=(List.getElem_inj (h₀:=by simpa using hi) (h₁:=by simpa using hj) hn).1 (by simpa using e)
  subst this; rfl
 have hin : ∀e∈E,∃x∈l0,e=(.int q x.1,.lit (.int .i64 x.2)):=λe he=>by
  obtain ⟨x,hx,rfl⟩:=List.mem_map.1 (hE.mem_iff.1 he)
  exact ⟨x,hx,rfl⟩
 have hto : ∀p∈ps,p∈l0:=λp hp=>by
  have h1:=hC.at_ p hp .nil
  have h2:=(hC.mem p.1).1 (List.mem_map.2 ⟨p,hp,rfl⟩)
  simp only [DataW.atKey] at h1
  cases hf:E.find? (λy=>y.1.sameKey (.int q p.1)) with
  | none=>rw [hf] at h1; cases h1
  | some e=>
   rw [hf] at h1
   simp only at h1
   obtain ⟨x,hx,rfl⟩:=hin e (List.mem_of_find?_eq_some hf)
   have h3:=List.find?_some hf
   simp only [Lit.sameKey,decide_eq_true_eq,true_and] at h3
   simp only [DataW.lit.injEq,Lit.int.injEq,true_and] at h1
   have:p=x:=Prod.ext h3.symm h1.symm
   rw [this]; exact hx
 have hnp:ps.Nodup:=List.Pairwise.of_map (·.1) (λa b h e=>h (e▸rfl)) hC.nd
 have hnl:l0.Nodup:=List.Pairwise.of_map (·.1) (λa b h e=>h (e▸rfl)) hn
 refine (List.perm_ext_iff_of_nodup hnp hnl).2 λp=>⟨hto p,λhp=>?_⟩
 have hh:has (.map E:DataW Unit) (.int q p.1)=true:=by
  simp only [has,List.any_eq_true]
  exact ⟨(.int q p.1,.lit (.int .i64 p.2)),hE.mem_iff.2 (List.mem_map.2 ⟨p,hp,rfl⟩),by simp [Lit.sameKey]⟩
 obtain ⟨p',hp',e⟩:=List.mem_map.1 ((hC.mem p.1).2 ⟨hh,rfl⟩)
 have:=hu p' (hto p' hp') p hp e
 rw [← this]; exact hp'
end
theorem DY {P:Program}{f g K E bx T:Nat}{q:IntKind}{κ0:Gh}{w0:World}{es:Array MapEntry}{clk:Nat}{p:Option Nat}{m:Mp Int Int}(hK:P.underlying K=some (.int q))
  (hc : ∀(S:List Int→Prop) (N:Nat),N≤maxLen→N*8≤140737488355328→SeqGives Fence.wide 2 P g #[.pointer (some ⟨bx,0,none⟩)] encZ S N w0→CallsIn Fence.wide 4 P f #[.func (.func g) #[] #[.pointer (some ⟨bx,0,none⟩)]] w0 λe w'=>∃(v:Value) (ss:List Int),e = .returned v∧S ss ∧
   w'.ownsRow w0.heap.size E 1 v ss.length (ss.map encZ)∧(v = .slice none 0 0↔ss=[])∧Below w0.heap.size w0 w')
  (hk : ∀(b nn:Nat) (D0:DataW Unit),bx<w0.heap.size→w0.cell? ⟨bx,0,none⟩=some (.map (some b))→w0.ownsMap P K xP b nn D0→SeqGives Fence.wide 2 P g #[.pointer (some ⟨bx,0,none⟩)] encZ (LR q D0) (Maps.size D0) w0)
  (hfr:lG κ0 w0) (hbx:w0.heap[bx]? = some (.cells #[.map p] T (0,0))) (hmp : ∀b,p=some b→w0.heap[b]? = some (.map es clk)) (hm:vB (kInt q) false (fInt .i64).ty κ0 w0 p es clk m) {l:List Int} (H:I4 q m=some l) :
  Calls P f #[.func (.func g) #[] #[.pointer (some ⟨bx,0,none⟩)]] w0 (kP [] κ0 w0 λv κ w=>∃(x:List Int) (a:Option Addr) (c:Nat),x.Perm l∧v = .slice a x.length c∧sJ w0 κ w [.ext (ownX (fInt .i64) E a c x)]):=by
 have hbl:bx<w0.heap.size:=(Array.getElem?_eq_some_iff.1 hbx).1
 have hcell:w0.cell? ⟨bx,0,none⟩=some (.map p):=by simp [World.cell?,hbx]
 cases m with
 | none=>cases H
 | some lm=>
  simp only [I4,Option.bind_some] at H
  obtain ⟨hcond,H⟩:=CB H
  simp only [Option.some.injEq] at H
  subst H
  simp only [Bool.and_eq_true,List.all_eq_true,decide_eq_true_eq] at hcond
  obtain ⟨hks,hlen⟩:=hcond
  obtain ⟨hp,hs,l0,hl,hf⟩:=hm
  obtain ⟨b,rfl⟩:=Option.isSome_iff_exists.1 hp
  have hperm:l0.Perm lm:=DR hl.nodup hs.nodup hf
  have hk1 : ∀x∈l0,(Lit.int q x.1).wf=true:=λx hx=>hks x (hperm.mem_iff.1 hx)
  have hes:es.size=lm.length:=by
   have h1:es.size=l0.length:=by simpa using hl.len
   rw [h1]; exact hperm.length_eq
  have hsz:es.size≤maxLen:=by rw [hes]; unfold maxLen; omega
  have F:=NR (P:=P) hK hl hsz hk1
  have hsize:Maps.size (DataW.map ((es.toList.map (WideElems.rg P K xP)).foldr DataW.insert []))=es.size:=by simp [Maps.size,length_sorted]
  have hseq:=hk b es.size _ hbl hcell ⟨es,clk,hmp b rfl,F,Nat.le_refl _,rfl⟩
  refine (callsIn_wide.1 (hc _ _ (by rw [hsize]; exact hsz) (by rw [hsize,hes]; exact hlen) hseq)).mono λe w' ⟨v,ss,he,hSs,hrow,hnil,hbel⟩=>?_
  have hsp:ss.Perm (lm.map (·.2)):=by
   refine (IQ hl.nodup ?_ hSs).trans (hperm.map _)
   rw [← rgI hK hl hk1]
   exact WideShapes.sorted_perm _
  obtain ⟨-,hrow⟩:=hrow
  have hext:Ext [] κ0 w0 κ0 w':=⟨hbel.os,hbel.output,hbel.tape,hbel.size,λb hb _=>⟨hbel.block b hb,rfl⟩,λb n hn=>⟨n,hn,Nat.le_refl _,λi _=>lM (hbel.block b (by
   rcases Nat.lt_or_ge b w0.heap.size with h|h
   ·exact h
   ·rw [hfr b h] at hn; cases hn))⟩⟩
  have hfr':lG κ0 w':=λb hb=>hfr b (Nat.le_trans hbel.size hb)
  rcases hrow with ⟨rfl,hz⟩ | ⟨g0,cap,cur,rfl,hg,hh,hcap,hcm,hcs,htk⟩
  ·have hnil0:ss=[]:=List.eq_nil_of_length_eq_zero hz
   subst hnil0
   refine ⟨_,κ0,he,hext,hfr',[],none,0,hsp,rfl,λc hc=>?_,by simp [jI,Ck.blks,ownX,pblk],λb hb=>by simp [jI,Ck.blks,ownX,pblk] at hb⟩
   simp only [List.mem_cons,List.not_mem_nil,or_false] at hc
   subst hc
   exact .inl ⟨rfl,rfl,rfl⟩
  ·have hglt:g0<w'.heap.size:=(Array.getElem?_eq_some_iff.1 hh).1
   refine ⟨_,κ0,he,hext,hfr',ss,some ⟨g0,0,none⟩,cap,hsp,rfl,λc hc=>?_,by simp [jI,Ck.blks,ownX,pblk],λb hb=>?_⟩
   ·simp only [List.mem_cons,List.not_mem_nil,or_false] at hc
    subst hc
    refine .inr ⟨g0,0,cur,rfl,hfr g0 hg,hcap,hcm,hh,λ_=>by rw [Nat.zero_add]; exact hcs,λi x hx j v hj=>?_⟩
    cases j with
    | zero=>
     simp only [fInt,List.getElem?_cons_zero,Option.some.injEq] at hj
     subst hj
     have h3:i<ss.length:=(List.getElem?_eq_some_iff.1 hx).1
     have h4:(cur.toList.take (ss.length*1))[i]? = some (.int .i64 x):=by
      rw [htk,List.getElem?_map,hx]
      rfl
     rw [List.getElem?_take_of_lt (by omega)] at h4
     simpa [fInt] using h4
    | succ j=>simp [fInt] at hj
   ·simp [jI,Ck.blks,ownX,pblk] at hb
    subst hb
    exact ⟨hg,hglt⟩
section
variable {ro:Option Nat}{P:Program}{ops:Array Oper}{Q:Exit→Act→World→Prop}{N:Nat}{D:List Deferred}{L L':FL}{a:Act}{w:World}{o:Oper}{K:Act→World→Prop}
variable {M:List Nat}{κ0 κ:Gh}{w0:World}{C C':List Ck}{R R':List MP}
theorem IU (hF:Fr N D L a)(hS:SS M κ0 w0 κ w C R)(hc:qM N L o=true)(ci:Nat){f E c n:Nat}{p:Option Addr}{l:List Int}(hr:jK P (execOp (evD L) o)=some (.enter f #[.slice p n c]))(hn:n=l.length)(hC:C[ci]? = some (.ext (ownX (fInt .i64) E p c l)))
  (h1 : ∀(blk off cap:Nat) (zs:List Int) (w:World),Holds (Value.int .i64) w blk off zs.toArray→blk<w.heap.size→zs.length<4611686018427387904→Calls P f #[.slice (some ⟨blk,off,none⟩) zs.length cap] w λe w'=>e = .returned (.tuple #[]) ∧ ∃n os,w'=grow (putRow (Value.int .i64) (Sort.ahead w n) blk off (zs.mergeSort λx y=>decide (x≤y)).toArray) os)
  (h0 : ∀(p:Option Addr) (cap:Nat) (w:World),Calls P f #[.slice p 0 cap] w λe w'=>e = .returned (.tuple #[])∧w'=w)
  {x:List Int} (hx:CU l=some x)
  (kk : ∀a' w',Fr N D (upd L o.dst (.tuple #[])) a'→SS M κ0 w0 κ w' (C.set ci (.ext (ownX (fInt .i64) E p c x))) R→K a' w'):wo ro P o a w K Q:=by
 subst hn
 unfold CU at hx
 split at hx
 case isFalse=>cases hx
 rename_i hlen
 cases hx
 have hok:(ownX (fInt .i64) E p c l).p κ w:=hS.ck ci hC
 rcases hok with ⟨rfl,rfl,rfl⟩ | ⟨b,off,cells,rfl,k1,k2,k3,k4,k5,k6⟩
 ·refine BF hF hc hr (h0 none 0 w) λe w' ⟨he,hw⟩=>⟨_,he,λa' hF'=>kk a' w' hF' ?_⟩
  subst hw
  have:C.set ci (.ext (ownX (fInt .i64) E none 0 (srtI [])))=C:=by
   obtain ⟨hi,he⟩:=List.getElem?_eq_some_iff.1 hC
   rw [show srtI []=[] from by simp [srtI],← he]; exact List.set_getElem_self hi
  rw [this]; exact hS
 ·have hbm:b∈jI C:=List.mem_flatMap.2 ⟨_,List.mem_of_getElem? hC,by simp [Ck.blks,ownX,pblk]⟩
  have hblt:b<w.heap.size:=hS.lt b hbm
  have hcell : ∀j x,l[j]? = some x→cells[off+j]? = some (.int .i64 x):=λj x hx=>by
   have:=k6 j x hx 0 (.int .i64 x) rfl
   simpa [fInt] using this
  have hH:Holds (Value.int .i64) w b off l.toArray:=λj hj=>by
   have hj':j<l.length:=by simpa using hj
   refine ⟨?_,by simp [World.frozen?,k4]⟩
   have:=hcell j l[j] (List.getElem?_eq_getElem hj')
   simp only [World.cell?,k4]
   simp [this,hj']
  refine BF hF hc hr (h1 b off c l w hH hblt hlen) λe w' ⟨he,n,os,hw⟩=>⟨_,he,λa' hF'=>kk a' w' hF' ?_⟩
  have hl2:(srtI l).length=l.length:=xY l
  have hw0 : ∀k,k<w.heap.size→w'.heap[k]? = if k=b then some (.cells (putCells (Value.int .i64) off (srtI l).toArray cells) E (0,0)) else w.heap[k]? := λk hk=>by
   rw [hw,heap_grow_old _ _ (by simpa [putRow,mapBlock,Sort.ahead] using hk)]
   by_cases e:k=b
   ·subst e
    rw [if_pos rfl]
    simp [putRow,mapBlock,Sort.ahead,Array.getElem?_modify,k4,onCells,srtI]
   ·rw [if_neg e]
    simp [putRow,mapBlock,Sort.ahead,Array.getElem?_modify,Ne.symm e]
  have hsz:w.heap.size≤w'.heap.size:=by rw [hw]; simp [putRow,mapBlock,Sort.ahead]
  have hext:Ext (Ck.ext (ownX (fInt .i64) E (some ⟨b,off,none⟩) c l)).blks κ w κ w':=by
   refine ⟨by rw [hw]; rfl,by rw [hw]; rfl,by rw [hw]; rfl,hsz,λb' hlt hm=>⟨?_,rfl⟩,λb' m hm=>⟨m,hm,Nat.le_refl _,λk _=>lM ?_⟩⟩
   ·rw [hw0 b' hlt,if_neg (by simpa [Ck.blks,ownX,pblk] using hm)]
   ·have hne:b'≠b:=λe=>by rw [e,k1] at hm; cases hm
    have hlt:b'<w.heap.size:=by
     rcases Nat.lt_or_ge b' w.heap.size with h|h
     ·exact h
     ·rw [hS.fresh b' h] at hm; cases hm
    rw [hw0 b' hlt,if_neg hne]
  obtain ⟨hCe,hCs⟩:=uP (c' := .ext (ownX (fInt .i64) E (some ⟨b,off,none⟩) c (srtI l))) hC
  rw [hCs]
  refine hS.turn _ _ hCe hext (λb' hb'=>hS.fresh b' (Nat.le_trans hsz hb')) ?_ (λb' hb'=>.inl hb') (λb' hb'=>?_) (by simp [Ck.blks,ownX,pblk])
  ·refine .inr ⟨b,off,_,rfl,k1,by rw [hl2]; exact k2,k3,(hw0 b hblt).trans (if_pos rfl),λhc0=>by simpa [putCells] using k5 hc0,λi x hx j v hj=>?_⟩
   cases j with
   | zero=>
    simp only [fInt,List.getElem?_cons_zero,Option.some.injEq] at hj
    subst hj
    have hi:i<l.length:=by rw [← hl2]; exact (List.getElem?_eq_some_iff.1 hx).1
    have hc1:=hcell i l[i] (List.getElem?_eq_getElem hi)
    have hlt:off+i<cells.size:=(Array.getElem?_eq_some_iff.1 hc1).1
    have hx2:(srtI l)[i]'(by omega)=x:=by
     have:=(List.getElem?_eq_some_iff.1 hx).2
     exact this
    simp only [fInt,Nat.mul_one,Nat.add_zero,putCells,Array.getElem?_mapIdx]
    rw [Array.getElem?_eq_getElem hlt]
    simp only [Option.map_some,List.size_toArray,Option.some.injEq]
    rw [if_pos ⟨by omega,by omega⟩]
    simp [Nat.add_sub_cancel_left,show i<(srtI l).length by omega,hx2]
   | succ j=>simp [fInt] at hj
  ·have:b'=b:=by simpa [Ck.blks,ownX,pblk] using hb'
   subst this; exact Nat.lt_of_lt_of_le hblt hsz
end
end Go.Cf
namespace Go.Proofs
def Tryz.coll36_ren:Go.Shelf.Ren:=⟨fun|8=>36|11=>89|n=>n,fun|26=>3|28=>98|24=>29|0=>0|33=>162|4=>4|n=>n,fun|n=>n⟩
theorem Tryz.coll36:Go.Proofs.SlLaysZI.n8 Tryz.prog Tryz.coll36_ren:={
 mixed:=by kernel_rfl
 f8:=⟨Tryz.f36.name,by decide,Tryz.func36.trans (congrArg some (by kernel_rfl))⟩
 f11:=⟨Tryz.f89.name,by decide,Tryz.func89.trans (congrArg some (by kernel_rfl))⟩
 t0:=Tryz.underlying0
 a0:=Tryz.isAgg0
 z0:=Tryz.sizeOf0
 v0:=Tryz.zeroValue0
 t24:=Tryz.underlying29
 a24:=Tryz.isAgg29
 z24:=Tryz.sizeOf29
 v24:=Tryz.zeroValue29
 t26:=Tryz.underlying3
 a26:=Tryz.isAgg3
 z26:=Tryz.sizeOf3
 v26:=Tryz.zeroValue3
 t28:=Tryz.underlying98
 a28:=Tryz.isAgg98
 z28:=Tryz.sizeOf98
 v28:=Tryz.zeroValue98
 i26:=by kernel_rfl}
def Tryz.sort38_ren:Go.Shelf.Ren:=⟨fun|5=>38|8=>92|7=>91|19=>127|20=>128|10=>118|11=>119|12=>120|13=>121|14=>122|15=>123|16=>124|17=>125|18=>126|30=>133|31=>134|32=>135|33=>136|34=>137|35=>138|40=>139|n=>n,fun|23=>29|25=>3|3=>3|32=>28|22=>29|0=>0|44=>212|46=>32|4=>4|36=>204|35=>203|41=>209|5=>5|9=>9|53=>217|57=>220|63=>222|64=>223|n=>n,fun|n=>n⟩
theorem Tryz.sort38:Go.Proofs.SlLaysM.n5 Tryz.prog Tryz.sort38_ren:={
 mixed:=by kernel_rfl
 f5:=⟨Tryz.f38.name,by decide,Tryz.func38.trans (congrArg some (by kernel_rfl))⟩
 f7:=⟨Tryz.f91.name,by decide,Tryz.func91.trans (congrArg some (by kernel_rfl))⟩
 f8:=Tryz.func92.trans (congrArg some (by kernel_rfl))
 f10:=⟨Tryz.f118.name,by decide,Tryz.func118.trans (congrArg some (by kernel_rfl))⟩
 f11:=⟨Tryz.f119.name,by decide,Tryz.func119.trans (congrArg some (by kernel_rfl))⟩
 f12:=⟨Tryz.f120.name,by decide,Tryz.func120.trans (congrArg some (by kernel_rfl))⟩
 f13:=⟨Tryz.f121.name,by decide,Tryz.func121.trans (congrArg some (by kernel_rfl))⟩
 f14:=⟨Tryz.f122.name,by decide,Tryz.func122.trans (congrArg some (by kernel_rfl))⟩
 f15:=⟨Tryz.f123.name,by decide,Tryz.func123.trans (congrArg some (by kernel_rfl))⟩
 f16:=⟨Tryz.f124.name,by decide,Tryz.func124.trans (congrArg some (by kernel_rfl))⟩
 f17:=⟨Tryz.f125.name,by decide,Tryz.func125.trans (congrArg some (by kernel_rfl))⟩
 f18:=⟨Tryz.f126.name,by decide,Tryz.func126.trans (congrArg some (by kernel_rfl))⟩
 f19:=Tryz.func127.trans (congrArg some (by kernel_rfl))
 f20:=Tryz.func128.trans (congrArg some (by kernel_rfl))
 f30:=⟨Tryz.f133.name,by decide,Tryz.func133.trans (congrArg some (by kernel_rfl))⟩
 f31:=Tryz.func134.trans (congrArg some (by kernel_rfl))
 f32:=Tryz.func135.trans (congrArg some (by kernel_rfl))
 f33:=⟨Tryz.f136.name,by decide,Tryz.func136.trans (congrArg some (by kernel_rfl))⟩
 f34:=⟨Tryz.f137.name,by decide,Tryz.func137.trans (congrArg some (by kernel_rfl))⟩
 f35:=⟨Tryz.f138.name,by decide,Tryz.func138.trans (congrArg some (by kernel_rfl))⟩
 f40:=⟨Tryz.f139.name,by decide,Tryz.func139.trans (congrArg some (by kernel_rfl))⟩
 t0:=Tryz.underlying0
 a0:=Tryz.isAgg0
 z0:=Tryz.sizeOf0
 v0:=Tryz.zeroValue0
 t3:=Tryz.underlying3
 a3:=Tryz.isAgg3
 z3:=Tryz.sizeOf3
 v3:=Tryz.zeroValue3
 t4:=Tryz.underlying4
 a4:=Tryz.isAgg4
 z4:=Tryz.sizeOf4
 v4:=Tryz.zeroValue4
 t5:=Tryz.underlying5
 a5:=Tryz.isAgg5
 z5:=Tryz.sizeOf5
 v5:=Tryz.zeroValue5
 t9:=Tryz.underlying9
 a9:=Tryz.isAgg9
 z9:=Tryz.sizeOf9
 v9:=Tryz.zeroValue9
 t22:=Tryz.underlying29
 a22:=Tryz.isAgg29
 z22:=Tryz.sizeOf29
 v22:=Tryz.zeroValue29
 t23:=Tryz.underlying29
 a23:=Tryz.isAgg29
 z23:=Tryz.sizeOf29
 v23:=Tryz.zeroValue29
 t25:=Tryz.underlying3
 a25:=Tryz.isAgg3
 z25:=Tryz.sizeOf3
 v25:=Tryz.zeroValue3
 t32:=Tryz.underlying28
 a32:=Tryz.isAgg28
 z32:=Tryz.sizeOf28
 v32:=Tryz.zeroValue28
 t35:=Tryz.underlying203
 a35:=Tryz.isAgg203
 z35:=Tryz.sizeOf203
 v35:=Tryz.zeroValue203
 t36:=Tryz.underlying204
 a36:=Tryz.isAgg204
 z36:=Tryz.sizeOf204
 v36:=Tryz.zeroValue204
 t41:=Tryz.underlying209
 a41:=Tryz.isAgg209
 z41:=Tryz.sizeOf209
 v41:=Tryz.zeroValue209
 t44:=Tryz.underlying212
 a44:=Tryz.isAgg212
 z44:=Tryz.sizeOf212
 v44:=Tryz.zeroValue212
 t46:=Tryz.underlying32
 a46:=Tryz.isAgg32
 z46:=Tryz.sizeOf32
 v46:=Tryz.zeroValue32
 t53:=Tryz.underlying217
 a53:=Tryz.isAgg217
 z53:=Tryz.sizeOf217
 v53:=Tryz.zeroValue217
 t57:=Tryz.underlying220
 a57:=Tryz.isAgg220
 z57:=Tryz.sizeOf220
 v57:=Tryz.zeroValue220
 t63:=Tryz.underlying222
 a63:=Tryz.isAgg222
 z63:=Tryz.sizeOf222
 v63:=Tryz.zeroValue222
 t64:=Tryz.underlying223
 a64:=Tryz.isAgg223
 z64:=Tryz.sizeOf223
 v64:=Tryz.zeroValue223}
def Tryz.vals90_ren:Go.Shelf.Ren:=⟨fun|7=>90|n=>n,fun|33=>162|23=>76|27=>32|n=>n,fun|n=>n⟩
theorem Tryz.vals90:KX Tryz.prog Tryz.vals90_ren .u64:={
 mixed:=by kernel_rfl
 f7:=⟨Tryz.f90.name,by decide,Tryz.func90.trans (congrArg some (by kernel_rfl))⟩
 t0:=Tryz.underlying0
 a0:=Tryz.isAgg0
 z0:=Tryz.sizeOf0
 v0:=Tryz.zeroValue0
 t3:=Tryz.underlying3
 a3:=Tryz.isAgg3
 z3:=Tryz.sizeOf3
 v3:=Tryz.zeroValue3
 t4:=Tryz.underlying4
 a4:=Tryz.isAgg4
 z4:=Tryz.sizeOf4
 v4:=Tryz.zeroValue4
 t23:=Tryz.underlying76
 a23:=Tryz.isAgg76
 z23:=Tryz.sizeOf76
 v23:=Tryz.zeroValue76
 t33:=Tryz.underlying162
 a33:=Tryz.isAgg162
 z33:=Tryz.sizeOf162
 v33:=Tryz.zeroValue162
 t27:=Tryz.underlying32}
end Go.Proofs
namespace Go.Cf
open Go Go.Proofs Go.RowKit Go.Maps Go.Sort
theorem FV {κ0:Gh}{w0:World}(hfr:lG κ0 w0)(bx:Nat)(p:Option Nat)(es:Array MapEntry)(clk:Nat)(m:Mp Int Int)(hbx:w0.heap[bx]? = some (.cells #[.map p] 76 (0,0)))(hmp : ∀b,p=some b→w0.heap[b]? = some (.map es clk))(hm:vB (kInt .u64) false (fInt .i64).ty κ0 w0 p es clk m){l:List Int}(H:I4 .u64 m=some l) :
  Calls Tryz.prog 36 #[.func (.func 90) #[] #[.pointer (some ⟨bx,0,none⟩)]] w0 (kP [] κ0 w0 λv κ w=>∃(x:List Int) (a:Option Addr) (c:Nat),x.Perm l∧v = .slice a x.length c∧sJ w0 κ w [.ext (ownX (fInt .i64) 3 a c x)]):=
 DY (f:=36) (g:=90) Tryz.underlying32
  (λS N h1 h2 hseq=>AnyZI.collect_in Tryz.coll36 Fence.wide 4 trivial trivial rfl (by omega) 90 #[.pointer (some ⟨bx,0,none⟩)] trivial (enters_of Tryz.func90 (by kernel_rfl) rfl) S N h1 h2 w0 hseq)
  (λb nn D0 h1 h2 h3=>EC Tryz.vals90 Fence.wide _ trivial rfl (by omega) bx b nn D0 w0 h1 h2 h3)
  hfr hbx hmp hm H
theorem L6 (blk off cap:Nat) (zs:List Int) (w:World) (hH:Holds (Value.int .i64) w blk off zs.toArray) (hb:blk<w.heap.size) (hsz:zs.length<4611686018427387904):Calls Tryz.prog 38 #[.slice (some ⟨blk,off,none⟩) zs.length cap] w λe w'=>e = .returned (.tuple #[]) ∧ ∃n os,w'=grow (putRow (Value.int .i64) (Sort.ahead w n) blk off (zs.mergeSort λx y=>decide (x≤y)).toArray) os:=
 AnyM.slices_Sort_int Tryz.sort38 blk off cap zs w hH hb hsz
theorem L5 (p:Option Addr) (cap:Nat) (w:World):Calls Tryz.prog 38 #[.slice p 0 cap] w λe w'=>e = .returned (.tuple #[])∧w'=w:=AnyM.slices_Sort_int_none Tryz.sort38 p cap w
end Go.Cf
