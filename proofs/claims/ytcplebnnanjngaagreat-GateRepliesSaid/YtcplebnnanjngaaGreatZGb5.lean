/- The gate's iM, fourth part: moving, learning, work. -/
import Derived.Test.YtcplebnnanjngaaGreatZGb4
set_option linter.unusedVariables false
namespace Go.Cf
open Go
theorem GU {V:Type} (m:Mp Int V) (left:List Int) (k:Int):oM m (kRem left k)=(oM m left).filter λy=>decide (y.1≠k):=by
 unfold oM
 rw [List.filter_filter]
 refine List.filter_congr λx _=>?_
 simp only [kRem,List.mem_filter,decide_eq_true_eq]
 by_cases h1:x.1∈left<;>by_cases h2:x.1=k<;>simp [h1,h2]
theorem IN {V:Type} {cs:List (Int×V)} (hn : ∀x∈cs,∀y∈cs,x.1=y.1→x=y) (p:Int×V→Bool) {x:Int×V} (hx:x∈cs):cs.any p=(p x||(cs.filter λy=>decide (y.1≠x.1)).any p):=by
 cases hp:p x
 ·simp only [Bool.false_or]
  cases h:cs.any p
  ·symm
   rw [List.any_eq_false] at h ⊢
   exact λy hy=>h y (List.mem_filter.1 hy).1
  ·symm
   rw [List.any_eq_true] at h ⊢
   obtain ⟨y,hy,h⟩:=h
   exact ⟨y,List.mem_filter.2 ⟨hy,decide_eq_true λe=>by rw [hn y hy x hx e,hp] at h; cases h⟩,h⟩
 ·rw [Bool.true_or,List.any_eq_true]; exact ⟨x,hx,hp⟩
theorem GT {R V:Type}{l:List (Int×V)}(hs:Srt l)(L:Nat→List Int→Option R)(f:Int×V→Option R→Option R)(X Bv:Option R)(p:Int×V→Bool)
  (hL : ∀n left,L (n+1) left=bif (oM (some l) left).isEmpty then X else m3 (oM (some l) left) λx=>f x (L n (kRem left x.1)))
  (hf : ∀x∈l,∀r,f x r=bif p x then Bv else r) (r:R) (hX:X=some r) (rb:R) (hB:Bv=some rb) : ∀(n:Nat) (left:List Int),left.length<n→L n left=bif (oM (some l) left).any p then some rb else some r
 | 0,left,h=>by omega
 | n+1,left,h=>by
  rw [hL]
  cases hc:oM (some l) left with
  | nil=>exact hX
  | cons y ys=>
   show m3 (y::ys) _=_
   have hex : ∃q,(bif (y::ys).any p then some rb else some r)=some q:=by cases (y::ys).any p<;>exact ⟨_,rfl⟩
   obtain ⟨q,hq⟩:=hex
   rw [hq]
   refine vA (by simp) λx hx=>?_
   rw [← hq]
   rw [← hc] at hx ⊢
   have hxl:x.1∈left:=yL hx
   have hxm:x∈l:=(List.mem_filter.1 hx).1
   have hlt:=DS hxl
   rw [GT hs L f X Bv p hL hf r hX rb hB n _ (by omega),hf x hxm,GU,IN (cs:=oM (some l) left) (λa ha b hb e=>F3 hs.nodup (List.mem_filter.1 ha).1 (List.mem_filter.1 hb).1 e) p hx,hB]
   cases p x<;>rfl
theorem FM {α β:Type} {l:List α} {f g:α→Option β} (h : ∀x∈l,f x=g x):m3 l f=m3 l g:=by
 cases l with
 | nil=>rfl
 | cons a l=>
  have ha:=h a (by simp)
  by_cases hf : ∀b∈l,f b=f a
  ·have hg : ∀b∈l,g b=g a:=λb hb=>by rw [← ha,← h b (by simp [hb])]; exact hf b hb
   unfold m3
   simp only
   rw [if_pos hf,if_pos hg,ha]
  ·have hg : ¬ ∀b∈l,g b=g a:=λhg=>hf λb hb=>by rw [ha,h b (by simp [hb])]; exact hg b hb
   unfold m3
   simp only
   rw [if_neg hf,if_neg hg]
theorem IC {N:Nat} (mv:Option j8) (key:ByteArray) : ∃w,M.lT N mv key=some (w,mv):=by
 obtain ⟨r,h1,h2⟩:=zX (N:=N) mv key
 exact ⟨r.1,by rw [h1,← h2]⟩
theorem FA (N:Nat)(mv:Option j8){ws:List ByteArray}(hw:ws.length≤200) : ∀(i2:Nat)(i:Int),0≤i→i≤200→200-i<i2→Okp (M.kH N i2 ws mv i) λr=>r.2=mv
 | 0,i,g0,g1,g2=>by omega
 | i2+1,i,g0,g1,g2=>by
  unfold M.kH
  rw [kF (x:=i+1) (by omega) (by omega)]
  refine .bp (λhi=>.ix g0 hi λx hx=>.call (zX mv _) λr hr=>.bb (λ_=>.ret hr) λ_=>?_) λ_=>.ret rfl
  rw [hr]
  exact FA N mv hw i2 _ (by omega) (by omega) (by omega)
theorem F9 {N:Nat} (hN:1000≤N) (mv:Option j8) {ws:List ByteArray} (hw:ws.length≤200) : ∃w,M.kI N ws mv=some (w,mv):=by
 unfold M.kI M.m1
 obtain ⟨r,h1,h2⟩:=FA N mv hw N 0 (by omega) (by omega) (by omega)
 rw [h1]
 exact ⟨_,by rw [← h2]; rfl⟩
def mvQ (co:Option j9) (n:Nat) (r:Option j9×Option j8×List i9):Prop:=r.1=co∧r.2.2.length≤n+1
theorem JP (N:Nat) (hN:1000000≤N) (a1:Int) (a7:Mp Int i8) {ll:List (Int×jA)} (hs:Srt ll) (hll:ll.length<N) (hk : ∀p∈ll,p.2.keys.length≤200) {out:List i9} (ho:out.length<900000000) (v:Option j9×Option j8×Bool) (x:j8):Okp (M.nI N N a1 a7 (some ll) out v (some x) (pP (some ll))) (mvQ v.1 out.length):=by
 have hw : ∀y:Int×jA,∃w:Bool,y∈ll→M.kI N y.2.keys (some x)=some (w,some x):=λy=>by
  by_cases hy:y∈ll
  ·obtain ⟨w,h⟩:=F9 (N:=N) (by omega) (some x) (hk y hy)
   exact ⟨w,λ_=>h⟩
  ·exact ⟨false,λh=>absurd h hy⟩
 obtain ⟨q,hq1,hq2⟩ : ∃q,(Option.bind (some x) λx182=>(Option.bind (M.lB N a1 out (((j8.mk (l6.mk x182.span.Lo x182.span.Hi x182.span.Node) x182.shard x182.to 1).span).Node) (jF.mk 5 0 1 0 (((j8.mk (l6.mk x182.span.Lo x182.span.Hi x182.span.Node) x182.shard x182.to 1).span).Lo) (((j8.mk (l6.mk x182.span.Lo x182.span.Hi x182.span.Node) x182.shard x182.to 1).span).Hi) ([]:List jB) ([]:List Int) (jU.mk 0 0 0 0 0 ByteArray.empty))) λx185=>(some (v.1,(some (j8.mk (l6.mk x182.span.Lo x182.span.Hi x182.span.Node) x182.shard x182.to 1)),x185))))=some q∧mvQ v.1 out.length q:=by
  obtain ⟨o,h1,h2⟩:=wU (N:=N) (by omega:out.length<1000000000) a1 (((j8.mk (l6.mk x.span.Lo x.span.Hi x.span.Node) x.shard x.to 1).span).Node) (jF.mk 5 0 1 0 (((j8.mk (l6.mk x.span.Lo x.span.Hi x.span.Node) x.shard x.to 1).span).Lo) (((j8.mk (l6.mk x.span.Lo x.span.Hi x.span.Node) x.shard x.to 1).span).Hi) ([]:List jB) ([]:List Int) (jU.mk 0 0 0 0 0 ByteArray.empty))
  simp only [Option.bind_some]
  rw [h1]
  exact ⟨_,rfl,rfl,by show o.length≤_; omega⟩
 obtain ⟨p,hp⟩:=Classical.axiomOfChoice hw
 rw [GT hs (λn left=>M.nI N n a1 a7 (some ll) out v (some x) left) (λy r=>Option.bind (M.kI N y.2.keys (some x)) λx195=>bif x195.1 then some (v.1,x195.2,out) else r) _ (some (v.1,some x,out)) p (λn left=>?_) (λy hy r=>?_) q hq1 _ rfl N (pP (some ll)) (by simpa [pP] using hll)]
 ·exact .bb (λ_=>.ret ⟨rfl,by show out.length≤_; omega⟩) λ_=>.ret hq2
 ·simp only [M.nI]
  congr 1
  refine FM λy hy=>?_
  obtain ⟨w,h⟩:=F9 (N:=N) (by omega) (some x) (hk y (List.mem_filter.1 hy).1)
  rw [h]
  rfl
 ·rw [hp y hy]
  cases p y<;>rfl
theorem JQ (N:Nat) (hN:1000000≤N) (a1:Int) {rl:List (Int×i8)} (hr:Srt rl) (hrl:rl.length<N) {ll:List (Int×jA)} (hs:Srt ll) (hll:ll.length<N) (hk : ∀p∈ll,p.2.keys.length≤200) {out:List i9} (ho:out.length<900000000) (v:Option j9×Option j8×Bool) (x:j8):Okp (M.nJ N N a1 (some rl) (some ll) out v (some x) (pP (some rl))) (mvQ v.1 out.length):=by
 obtain ⟨q,hq1,hq2⟩:=JP N hN a1 (some rl) hs hll hk ho v x
 have hw : ∀y:Int×i8,∃w:Bool,M.lT N (some x) y.2.key=some (w,some x):=λy=>IC (some x) _
 obtain ⟨p,hp⟩:=Classical.axiomOfChoice hw
 rw [GT hr (λn left=>M.nJ N n a1 (some rl) (some ll) out v (some x) left) (λy r=>Option.bind (M.lT N (some x) y.2.key) λx204=>bif x204.1 then some (v.1,x204.2,out) else r) _ (some (v.1,some x,out)) p (λn left=>?_) (λy hy r=>?_) q hq1 _ rfl N (pP (some rl)) (by simpa [pP] using hrl)]
 ·exact .bb (λ_=>.ret ⟨rfl,by show out.length≤_; omega⟩) λ_=>.ret hq2
 ·simp only [M.nJ]
  congr 1
  congr 1
  funext y
  rw [hp y]
  rfl
 ·rw [hp y]
  cases p y<;>rfl
theorem MO {N:Nat}(hN:1000000≤N)(a1:Int){B:Nat}{cl:List (Int×jH)}(hcl:wW B cl)(hB:B<N){rl:List (Int×i8)}(hr:Srt rl)(hrl:rl.length<N){k u:Nat}{iL:List (Option j3)}{iV:Mp Int jA}{iX:Int}{out:List i9}(h:Ld k u iL iV iX out)(hu:u<1000000)(mv:Option j8) :
  Okp (M.s9 N a1 (some ⟨some cl⟩) (some rl) iV mv out) (mvQ (some ⟨some cl⟩) out.length):=by
 obtain ⟨ll,rfl,h2,h3,h4⟩:=h.ld
 have:=h.out
 unfold M.s9
 refine .call (R:=λv=>v.1=some ⟨some cl⟩∧(v.2.2=true ∨ ∃x,v.2.1=some x)) (.oc (λ_=>.ret ⟨rfl,.inl rfl⟩) λx hx=>.bind (.ret (.call (R:=λ_=>True) (.bb (λ_=>.ret trivial) λ_=>.call (KJ (by omega) hcl hB _ _) λ_ _=>.ret trivial) λ_ _=>.ret ⟨rfl,.inr ⟨x,rfl⟩⟩))) λv hv=>.bb (λ_=>.ret ⟨hv.1,by show out.length≤_; omega⟩) λhf=>?_
 rcases hv.2 with h' | ⟨x,hx⟩
 ·rw [h'] at hf; cases hf
 ·rw [hx]
  have:=JQ N hN a1 hr hrl h2 (by omega) (λp hp=>(h4 p hp).2.2) (by omega:out.length<900000000) v x
  rw [hv.1] at this
  exact this
def lrQ (st:Option j4) (k n:Nat) (r:Option j4×List (Option j3)×List Int×Bool×Bool×List i9):Prop:=r.1=st∧vM k r.2.1∧r.2.2.1.length=4∧r.2.2.2.2.2.length≤n+5
theorem D2 (N:Nat) (hN:1000≤N) (a1 a3 a4:Int) (a6:Bool) (a16:Mp Int jA) (a21:List Int) (a24:Int) (a25 a27:Bool) {s:j4} {z:Int} (hs:rW z s) {k:Nat} {iL:List (Option j3)} (hb:vM k iL) {cu:List Int} (hc:cu.length=4) (sd:Bool) {out:List i9} (n:Nat) (ho:out.length≤n+4) (hn:n<900000000):Okp (M.oX N a1 a3 a4 a6 a16 a21 a24 a25 a27 (some s) iL cu sd out) (lrQ (some s) k n):=by
 unfold M.oX
 refine .bind (.ret (.call (R:=λ_=>True) (.bb (λ_=>.bb (λ_=>.bb (λ_=>.call (EK (by omega) hs) λ_ _=>.ret trivial) λ_=>.ret trivial) λ_=>.ret trivial) λ_=>.ret trivial) λv _=>.bb (λ_=>.call (B4 (by omega) _ _) λo ho'=>.ret ⟨rfl,hb,hc,by show o.length≤_; omega⟩) λ_=>.ret ⟨rfl,hb,hc,by show out.length≤_; omega⟩))
theorem AK (N:Nat)(hN:1000≤N)(a1 a3 a4:Int)(a6:Bool)(a16:Mp Int jA){ed:List Int}(he:ed.length=4 ∧ ∀x∈ed,0≤x∧x≤1073741824)(a24:Int)(a25 a27:Bool){s:j4}{z:Int}(hs:rW z s){hd:List Bool}(hh:hd.length=4){k:Nat}(n:Nat)(hn:n<900000000) : ∀(i2:Nat)(i:Int)(iL:List (Option j3))(cu:List Int)(out:List i9),0≤i→i≤4→4-i<i2→vM k iL→cu.length=4→(out.length:Int)≤n+i→Okp (M.m9 N i2 a1 a3 a4 a6 a16 ed a24 a25 a27 s hd iL cu out i) (lrQ (some s) k n)
 | 0,i,iL,cu,out,g0,g1,g2,g3,g4,g5=>by omega
 | i2+1,i,iL,cu,out,g0,g1,g2,g3,g4,g5=>by
  have hb4:=g3.1; have he4:=he.1
  unfold M.m9 M.q7 M.pH
  rw [kF (x:=i+1) (by omega) (by omega)]
  refine .bp (λhi=>.ix g0 (by omega) λx hx=>.call (R:=λ_=>True) (.bb (λ_=>.ret trivial) λ_=>.ret trivial) λv _=>.bb (λ_=>.ix g0 (by omega) λ_ _=>.ix g0 (by omega) λe hee=>?_) λ_=>?_) λ_=>D2 N hN a1 a3 a4 a6 a16 ed a24 a25 a27 hs g3 g4 true n (by omega) hn
  ·have hem:=he.2 e (List.mem_of_getElem? hee)
   rw [kF (x:=e) (by omega) (by omega)]
   refine .call (MK (k:=k) (v:=40) (q:=k) e hem.2) λb hb=>.ix g0 (by omega) λ_ _=>.ix g0 (by omega) λ_ _=>.bind (.ret (.call (B4 (by omega) _ _) λo ho=>?_))
   exact AK N hN a1 a3 a4 a6 a16 he a24 a25 a27 hs hh n hn i2 _ _ _ _ (by omega) (by omega) (by omega) (g3.set _ λb' e=>by simp only [Option.some.injEq] at e; subst e; exact hb) (by simp [g4]) (by omega)
  ·exact AK N hN a1 a3 a4 a6 a16 he a24 a25 a27 hs hh n hn i2 _ _ _ _ (by omega) (by omega) (by omega) g3 g4 (by omega)
theorem LI {N:Nat} (hN:1000≤N) (a1 a3 a4:Int) (a6:Bool) {s:j4} {z:Int} (hs:rW z s) {k:Nat} {iL:List (Option j3)} (hb:vM k iL) {cu:List Int} (hc:cu.length=4) (a16:Mp Int jA) {ed:List Int} (he:GR ed) (a24:Int) (a25 a26 a27:Bool) {out:List i9} (ho:out.length<900000000):Okp (M.rS N a1 a3 a4 a6 (some s) iL cu a16 ed a24 a25 a26 a27 out) (lrQ (some s) k out.length):=by
 unfold M.rS M.m0
 refine .call (R:=λ_=>True) (.bb (λ_=>.ret trivial) λ_=>.ret trivial) λv _=>.bb (λ_=>.ret ⟨rfl,hb,hc,by show out.length≤_; omega⟩) λ_=>?_
 refine .call (R:=λv=>v=true→ed≠[]) (.bb (λ_=>.bp (λh=>.ret λ_ e=>by rw [e] at h; simp at h) λ_=>.ret (λh=>by cases h)) λ_=>.ret (λh=>by cases h)) λv hv=>.bb (λhvt=>.bind (.ret (.bind (.ret ?_)))) λ_=>D2 N hN a1 a3 a4 a6 a16 ed a24 a25 a27 hs hb hc a26 out.length (by omega) ho
 rcases he with he|he
 ·exact absurd he (hv hvt)
 ·exact AK N hN a1 a3 a4 a6 a16 he a24 a25 a27 hs hs.got.1 out.length ho N 0 iL cu out (by omega) (by omega) (by omega) hb hc (by omega)
theorem HP (N:Nat)(a1:Int){he:List Int}(hh:he.length=4)(a15:Mp Int i8)(a19:List i8)(a22:Mp Int jA)(co:j9)(lg:jC)(s:j4){hd:List Bool}(hd4:hd.length=4) : ∀(i2:Nat)(i:Int),0≤i→i≤4→4-i<i2→Okp (M.oV N i2 a1 he a15 a19 a22 co lg s hd i) λr=>r.2=(some s,some lg,some co)
 | 0,i,g0,g1,g2=>by omega
 | i2+1,i,g0,g1,g2=>by
  unfold M.oV M.oT
  rw [kF (x:=i+1) (by omega) (by omega)]
  exact .bp (λhi=>.ix g0 (by omega) λx hx=>.call (R:=λ_=>True) (.bb (λ_=>.bb (λ_=>.ix g0 (by omega) λ_ _=>.bind (.ret (.ret trivial))) λ_=>.ret trivial) λ_=>.ret trivial) λv _=>.bb (λ_=>.ret rfl) λ_=>HP N a1 hh a15 a19 a22 co lg s hd4 i2 _ (by omega) (by omega) (by omega)) λ_=>.ret rfl
theorem NB {N:Nat} (hN:1000≤N) (a1:Int) {s:j4} {z:Int} (hs:rW z s) (lg:jC) (co:j9) {he:List Int} (hh:he.length=4) (a15:Mp Int i8) (a19:List i8) (a22:Mp Int jA):Okp (M.sZ N a1 (some s) (some lg) (some co) he a15 a19 a22) λr=>r.2=(some s,some lg,some co):=by
 unfold M.sZ M.tU M.sM M.m0
 refine .bind (.ret (.bind (.ret (.call (R:=λ_=>True) (.bind (.ret (.bb (λ_=>.ret trivial) λ_=>.bb (λ_=>.ret trivial) λ_=>.bb (λ_=>.ret trivial) λ_=>.bb (λ_=>.ret trivial) λ_=>.bind (.ret (.ret trivial))))) λv _=>.bb (λ_=>.ret rfl) λ_=>.bind (.ret (.bind (.ret ?_)))))))
 exact HP N a1 hh a15 a19 a22 co lg s hs.got.1 N 0 (by omega) (by omega) (by omega)
theorem HU (N:Nat){l:List Bool}(h4:l.length≤4)(b:Bool) : ∀(i2:Nat)(i:Int),0≤i→i≤4→4-i<i2→Okp (M.kX N i2 l b i) λ_=>True
 | 0,i,g0,g1,g2=>by omega
 | i2+1,i,g0,g1,g2=>by
  unfold M.kX
  rw [kF (x:=i+1) (by omega) (by omega)]
  exact .bp (λhi=>.ix g0 hi λx hx=>.bb (λ_=>.ret trivial) λ_=>HU N h4 b i2 _ (by omega) (by omega) (by omega)) λ_=>.ret trivial
def wkQ (k u:Nat) (z:Int) (s:j4) (co:Option j9) (iX:Int) (r:Bool×Option j4×Option jC×Option j9×Int×List (Option j3)×List Int×Mp Int jA×Int×Option j8×Bool×Bool×List i9):Prop:=
 r.2.1=some s∧(∃l,r.2.2.1=some l∧tE k 40 l)∧r.2.2.2.1=co∧Ld k u r.2.2.2.2.2.1 r.2.2.2.2.2.2.2.1 r.2.2.2.2.2.2.2.2.1 r.2.2.2.2.2.2.2.2.2.2.2.2∧r.2.2.2.2.2.2.1.length=4∧iX≤r.2.2.2.2.2.2.2.2.1
theorem H6 (N:Nat)(hN:1000≤N)(a1 a3 a4:Int)(a6:j5)(a12:List Bool){he:List Int}(hh:he.length=4)(a33:Mp Int i8)(a37:List i8)(a49:List Int)(a52:Int)(a53:Bool){lg:jC}{k u:Nat}(hl:tE k 40 lg)(co:j9)(hi':Int){iL:List (Option j3)}{cu:List Int}(hc:cu.length=4){iV:Mp Int jA}{iX last0:Int}(hl0:last0≤iX)(sd sa ow:Bool){s:j4}{z:Int}(hs:rW z s)(mv:Option j8){out:List i9}(h:Ld k u iL iV iX out)(hu:u≤900000) :
  Okp (M.pQ N a1 a3 a4 a6 a12 he a33 a37 a49 a52 a53 (some lg) (some co) hi' iL cu iV iX sd sa ow (some s) mv out) (wkQ k (u+1) z s (some co) last0):=by
 unfold M.pQ
 have:=h.out
 refine .call (R:=λv=>v.1=some s∧v.2.1=some lg∧v.2.2.1=some co) (.bb (λ_=>.bb (λ_=>.bb (λ_=>.call (NB hN a1 hs lg co hh a33 a37 iV) λr hr=>.ret ?_) λ_=>.ret ⟨rfl,rfl,rfl⟩) λ_=>.ret ⟨rfl,rfl,rfl⟩) λ_=>.ret ⟨rfl,rfl,rfl⟩) λv ⟨v1,v2,v3⟩=>.bb (λ_=>.call (B4 (by omega) _ _) λo ho=>.ret ⟨v1,⟨lg,v2,hl⟩,v3,⟨h.bx,h.ld.mono (by omega),h.l0,?_,?_⟩,hc,hl0⟩) λ_=>.ret ⟨v1,⟨lg,v2,hl⟩,v3,h.mono (Nat.le_refl _) (by omega),hc,hl0⟩
 ·rw [hr]; exact ⟨rfl,rfl,rfl⟩
 ·have:=h.l1; show iX≤_; omega
 ·show o.length≤_; omega
theorem H7 (N:Nat)(hN:1000≤N)(a1 a3 a4:Int)(a6:j5){ag:List Bool}(ha:ag.length≤4)(ow:Bool){he:List Int}(hh:he.length=4)(a33:Mp Int i8)(a37:List i8)(a49:List Int)(a52:Int)(a53:Bool){s:j4}{z:Int}(hs:rW z s){lg:jC}{k u:Nat}(hl:tE k 40 lg)(co:j9)(hi':Int){iL:List (Option j3)}{cu:List Int}(hc:cu.length=4){iV:Mp Int jA}{iX last0:Int}(hl0:last0≤iX)(mv:Option j8)(sd sa:Bool){out:List i9}(h:Ld k u iL iV iX out)(hu:u≤800000) :
  Okp (M.pR N a1 a3 a4 a6 ag ow he a33 a37 a49 a52 a53 (some s) (some lg) (some co) hi' iL cu iV iX mv sd sa out) (wkQ k (u+2) z s (some co) last0):=by
 unfold M.pR M.mO M.nQ M.nX
 have:=h.out
 have i7 : ∀r,wkQ k (u+1) z s (some co) last0 r→wkQ k (u+2) z s (some co) last0 r:=λr ⟨r1,r2,r3,r4,r5,r6⟩=>⟨r1,r2,r3,r4.mono (Nat.le_refl _) (by omega),r5,r6⟩
 refine .call (R:=λ_=>True) (.oc (λ_=>.call (R:=λ_=>True) (.bb (λ_=>.bind (.call (HU N ha false N 0 (by omega) (by omega) (by omega)) λ_ _=>.ret (.ret trivial))) λ_=>.ret trivial) λ_ _=>.ret trivial) λx _=>.call (R:=λ_=>True) (.bb (λ_=>.ret trivial) λ_=>.ret trivial) λ_ _=>.ret trivial) λv _=>.bb (λ_=>.bind (.ret (.bind (.ret (.call (B4 (by omega) _ _) λo ho=>?_))))) λ_=>(H6 N hN a1 a3 a4 a6 ag hh a33 a37 a49 a52 a53 hl co hi' hc hl0 sd sa ow hs v.1 h (by omega)).mono i7
 have h':Ld k (u+1) iL iV iX o:=⟨h.bx,h.ld.mono (by omega),h.l0,by have:=h.l1; omega,by omega⟩
 exact H6 N hN a1 a3 a4 a6 ag hh a33 a37 a49 a52 a53 hl co hi' hc hl0 sd sa false hs v.1 h' (by omega)
theorem N7 {N:Nat}(hN:1000000≤N)(a1 a3 a4:Int){m:j5}(hm:sP m){ag:List Bool}(ha:ag.length≤4)(ow:Bool){s:j4}{z:Int}(hs:rW z s){lg:jC}{k u B:Nat}(hk:k≤1000)(hl:tE k 40 lg){cl:List (Int×jH)}(hcl:wW B cl)(hB:B<N)(hi':Int){iL:List (Option j3)}{cu:List Int}(hc:cu.length=4){he:List Int}(hh:he.length=4){rl:List (Int×i8)}(hr:Srt rl)(hrl:rl.length<N)(iW:List i8){iV:Mp Int jA}{iX:Int}(mv:Option j8){ed:List Int}(hed:GR ed)(fl:Int)(fd sd sa:Bool){out:List i9}(h:Ld k u iL iV iX out)(hu:u≤700000) :
  Okp (M.pL N a1 a3 a4 m ag ow (some s) (some lg) (some ⟨some cl⟩) hi' iL cu he (some rl) iW iV iX mv ed fl fd sd sa out) (wkQ k (u+20*k+10) z s (some ⟨some cl⟩) iX):=by
 unfold M.pL
 have:=h.out
 refine .bb (λ_=>.call (N9 (by omega) hs hk hl hc (by omega)) λq ⟨q1,⟨lg',q2,hl'⟩,q3,q4⟩=>?_) λ_=>(H7 N (by omega) a1 a3 a4 m ha ow hh (some rl) iW ed fl fd hs hl ⟨some cl⟩ hi' hc (Int.le_refl _) mv sd sa h (by omega)).mono λr ⟨r1,r2,r3,r4,r5,r6⟩=>⟨r1,r2,r3,r4.mono (Nat.le_refl _) (by omega),r5,r6⟩
 have h1:Ld k (u+4*k) iL iV iX q.2.2.2:=⟨h.bx,h.ld.mono (by omega),h.l0,by have:=h.l1; omega,by omega⟩
 refine .call (NA (by omega) a1 hm hk mv (by omega) hi' h1) λp ⟨p1,p2,p3⟩=>?_
 rw [p2]
 refine .call (MO hN a1 hcl hB hr hrl p1 (by omega) mv) λx ⟨x1,x2⟩=>?_
 have hp:=p1.out
 rw [q1]
 refine .call (LI (by omega) a1 a3 a4 ow hs p1.bx q3 p.2.2.1 hed fl fd sd sa (by omega)) λy ⟨y1,y2,y3,y4⟩=>?_
 rw [y1,q2,x1]
 have h2:Ld k (u+4*k+16*k+6) y.2.1 p.2.2.1 p.2.2.2.1 y.2.2.2.2.2:=⟨y2,p1.ld.mono (by omega),p1.l0,by have:=p1.l1; omega,by omega⟩
 exact (H7 N (by omega) a1 a3 a4 m ha ow hh (some rl) iW ed fl fd hs hl' ⟨some cl⟩ _ y3 p3 _ _ _ h2 (by omega)).mono λr ⟨r1,r2,r3,r4,r5,r6⟩=>⟨r1,r2,r3,r4.mono (Nat.le_refl _) (by omega),r5,r6⟩
end Go.Cf
