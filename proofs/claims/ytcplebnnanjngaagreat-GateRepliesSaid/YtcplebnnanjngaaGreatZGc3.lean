/- The plain law of GateReplies. -/
import Derived.ProofKit
import Derived.Test.YtcplebnnanjngaaGreatZGc1
import Derived.Test.YtcplebnnanjngaaGreatZM1
set_option linter.unusedVariables false
namespace Go.Cf
open Go
theorem CT {l l':List Int} (h:l.Perm l'):srtI l=srtI l':=by
 have tr : ∀a b c:Int,decide (a≤b)=true→decide (b≤c)=true→decide (a≤c)=true:=λa b c h1 h2=>by simp only [decide_eq_true_eq] at *; omega
 have to : ∀a b:Int,(decide (a≤b)||decide (b≤a))=true:=λa b=>by simp only [Bool.or_eq_true,decide_eq_true_eq]; omega
 exact List.Perm.eq_of_pairwise (le:=λa b=>decide (a≤b)=true) (λa b _ _ h1 h2=>by simp only [decide_eq_true_eq] at h1 h2; omega) (List.pairwise_mergeSort tr to l) (List.pairwise_mergeSort tr to l') (((List.mergeSort_perm l _).trans h).trans (List.mergeSort_perm l' _).symm)
theorem J4 {l:List Int} {x:Int}:x∈srtI l↔x∈l:=(List.mergeSort_perm l _).mem_iff
theorem E8 (N:Nat)(a2:Mp Int Int)(a6:Mp Int i8)(iW:List i8)(hh:iW.length≤1000)(n:Nat)(hn:n≤2000) : ∀(i2:Nat)(j:Int)(ys:List Int),0≤j→j≤iW.length→iW.length-j<i2→(ys.length:Int)≤n+j→M.mM N i2 a2 a6 iW ys j=some (srtI (ys++(iW.drop j.toNat).map (·.id)))
 | 0,j,ys,g0,g1,g2,g3=>by omega
 | i2+1,j,ys,g0,g1,g2,g3=>by
  unfold M.mM
  rw [kF (x:=j+1) (by omega) (by omega)]
  by_cases hj:j<iW.length
  ·have h2:j.toNat<iW.length:=by omega
   have hi:idx iW j=some iW[j.toNat]:=by simp [Cf.idx,g0,h2]
   rw [decide_eq_true hj,cond_true,hi]
   show Option.bind (zD ys [iW[j.toNat].id]) _=_
   have ha:zD ys [iW[j.toNat].id]=some (ys++[iW[j.toNat].id]):=by
    unfold zD apd
    rw [if_neg (by simp),if_pos (by simp; omega)]
   rw [ha]
   show M.mM N i2 a2 a6 iW (ys++[iW[j.toNat].id]) (j+1)=_
   rw [E8 N a2 a6 iW hh n hn i2 (j+1) _ (by omega) (by omega) (by omega) (by simp; omega)]
   have hd:(iW.drop j.toNat).map (·.id)=iW[j.toNat].id::(iW.drop (j+1).toNat).map (·.id):=by
    rw [List.drop_eq_getElem_cons h2,show (j+1).toNat=j.toNat+1 from by omega]; rfl
   rw [hd]
   simp only [List.append_assoc,List.cons_append,List.nil_append]
  ·rw [decide_eq_false hj,cond_false,List.drop_of_length_le (by omega)]
   unfold CU
   rw [if_pos (by omega)]
   simp
theorem AI {left:List Int} {x y:Int} (h:y≠x):decide (y∈kRem left x)=decide (y∈left):=by
 rw [decide_eq_decide]
 rw [show y∈kRem left x↔y∈left∧y≠x from by simp [kRem]]
 exact ⟨λh=>h.1,λh1=>⟨h1,h⟩⟩
theorem D9 {left:List Int} : ∀ {l:List (Int×i8)},(l.map (·.1)).Nodup → ∀ {x:Int×i8},x∈l→x.1∈left→(x::l.filter λp=>decide (p.1∈kRem left x.1)).Perm (l.filter λp=>decide (p.1∈left))
 | [],_,x,hx,_=>by cases hx
 | y::t,hn,x,hx,hl=>by
  have hn':=hn
  rw [List.map_cons,List.nodup_cons] at hn'
  obtain ⟨n1,n2⟩:=hn'
  rcases List.mem_cons.1 hx with rfl|hx
  ·have h1:(x::t).filter (λp=>decide (p.1∈kRem left x.1))=t.filter λp=>decide (p.1∈left):=by
    rw [List.filter_cons_of_neg (by simp [kRem])]
    refine List.filter_congr λp hp=>AI λe=>n1 (List.mem_map.2 ⟨p,hp,e⟩)
   rw [h1,List.filter_cons_of_pos (by simpa using hl)]
  ·have hne:y.1≠x.1:=λe=>n1 (List.mem_map.2 ⟨x,hx,e.symm⟩)
   have ih:=D9 n2 hx hl
   by_cases hy:y.1∈left
   ·rw [List.filter_cons_of_pos (p:=λp:Int×i8=>decide (p.1∈kRem left x.1)) (by rw [AI hne]; simpa using hy),List.filter_cons_of_pos (by simpa using hy)]
    exact (List.Perm.swap _ _ _).trans (ih.cons _)
   ·rw [List.filter_cons_of_neg (p:=λp:Int×i8=>decide (p.1∈kRem left x.1)) (by rw [AI hne]; simpa using hy),List.filter_cons_of_neg (by simpa using hy)]
    exact ih
theorem KI {l:List (Int×i8)} (hn:(l.map (·.1)).Nodup) {left:List Int} {x:Int×i8} (hx:x∈oM (some l) left):(x::oM (some l) (kRem left x.1)).Perm (oM (some l) left):=by
 have hx':x∈l.filter λp=>decide (p.1∈left):=hx
 obtain ⟨h1,h2⟩:=List.mem_filter.1 hx'
 exact D9 hn h1 (of_decide_eq_true h2)
theorem E9 (N:Nat)(hN:100000≤N)(a2:Mp Int Int){rl:List (Int×i8)}(hn:(rl.map (·.1)).Nodup)(hrl:rl.length≤1000)(iW:List i8)(hh:iW.length≤1000) : ∀(i2:Nat)(ys:List Int)(left:List Int),(oM (some rl) left).length<i2→ys.length+(oM (some rl) left).length≤2000→M.nL N i2 a2 (some rl) iW ys left=some (srtI (ys++((oM (some rl) left).map (·.2.id)++iW.map (·.id))))
 | 0,ys,left,g0,g1=>by omega
 | i2+1,ys,left,g0,g1=>by
  unfold M.nL
  cases hc:oM (some rl) left with
  | nil=>
   show M.mM N N a2 (some rl) iW ys 0=_
   rw [hc] at g1
   rw [E8 N a2 (some rl) iW hh 2000 (by omega) N 0 ys (by omega) (by omega) (by omega) (by simp at g1; omega)]
   rfl
  | cons x0 rest=>
   show m3 (x0::rest) _=_
   refine vA (by simp) λx hx=>?_
   rw [← hc] at hx
   have hp:=KI hn hx
   have hlen:=hp.length_eq
   simp only [List.length_cons] at hlen
   have ha:zD ys [x.2.id]=some (ys++[x.2.id]):=by
    unfold zD apd
    rw [if_neg (by simp),if_pos (by simp; omega)]
   rw [ha]
   show M.nL N i2 a2 (some rl) iW (ys++[x.2.id]) (kRem left x.1)=_
   rw [E9 N hN a2 hn hrl iW hh i2 _ _ (by omega) (by simp; omega),← hc]
   refine congrArg some (CT ?_)
   rw [List.append_assoc]
   refine List.Perm.append_left _ ?_
   have:=(hp.map (·.2.id)).append_right (iW.map (·.id))
   simpa using this
theorem MM {N:Nat} (hN:100000≤N) {i:Nat} {S A:Int→Int} {iY iZ iX:Int} {cl:List (Int×jH)} {cs:List (Int×Int)} {rs:List (Int×i8)} {iW:List i8} (h:Pd i S A iY iZ cl cs rs iW iX) (hi:i≤1000) (hb:iY≤16384) (ht:iZ≤1000000):Okp (M.qX N (some cs) (some rs) iW) λl=>(∀x∈l,x∈pids cs rs iW)∧l.length≤2000:=by
 have hlen:=h.len
 have hv:I4 .u64 (some cs)=some (cs.map (·.2)):=by
  unfold I4
  rw [Option.bind_some]
  have h1:(cs.all λx=>(Lit.int .u64 x.1).wf)=true:=List.all_eq_true.2 λp hp=>by
   have:=h.ck p hp
   show (decide _&&decide _)=true
   simp only [Bool.and_eq_true,decide_eq_true_eq]
   constructor
   ·show (0:Int)≤p.1; omega
   ·show p.1≤18446744073709551615; omega
  rw [h1,decide_eq_true (by omega)]
  rfl
 have hcd:oM (some rs) (pP (some rs))=rs:=by
  show rs.filter _=rs
  exact List.filter_eq_self.2 λp hp=>decide_eq_true (List.mem_map.2 ⟨p,hp,rfl⟩)
 unfold M.qX
 refine .call (R:=λ_=>True) ⟨(),rfl,trivial⟩ λ_ _=>⟨srtI (pids cs rs iW),?_,λx hx=>J4.1 hx,by rw [xY]; simp only [pids,List.length_append,List.length_map]; omega⟩
 rw [hv]
 refine KW λl' hl'=>?_
 have hll:=hl'.length_eq
 simp only [List.length_map] at hll
 rw [E9 N hN _ h.sr.nodup (by omega) iW (by omega) N l' _ (by rw [hcd]; omega) (by rw [hcd]; omega),hcd]
 exact congrArg some (CT (hl'.append_right _))
def rpI (z:Int) (i:Nat) (g:jV) (m:Mp Int Int):Prop := ∃S A l,GG i i (3000*i) S A z g∧m=some l ∧ ∀k,(jS l k).getD 0=S k
theorem JA {N:Nat}(a3:List kG)(rec1:List kG→Option jV→Mp Int Int→Int→Option Bool)(j:Int)(m:Mp Int Int)(v:Option jV×List Int×Int)(hl:v.2.2=v.2.1.length)(hsm:v.2.1.length≤100000)(hrs : ∀x∈v.2.1,(mGet m x).getD 0=1∨(mGet m x).getD 0=2∨(mGet m x).getD 0=3)(fin:Okp (rec1 a3 v.1 m (IntKind.i64.wrap (j+1))) (· = true)) : ∀(i2:Nat)(i:Int),0≤i→i≤v.2.1.length→v.2.1.length-i<i2→Okp (M.mF N rec1 i2 a3 j m v i) (· = true)
 | 0,i,g0,g1,g2=>by omega
 | i2+1,i,g0,g1,g2=>by
  unfold M.mF
  rw [kF (x:=i+1) (by omega) (by omega)]
  refine .bp (λhi=>.ix g0 (by omega) λx hx=>.call (R:=λv=>v=false) (.mg (.bb (λh0=>?_) λ_=>.mg (.ret ?_))) λw hw=>?_) λ_=>fin
  ·have h0:(mGet m x).getD 0=0:=eq_of_beq h0
   have:=hrs x (List.mem_of_getElem? hx)
   omega
  ·have:=hrs x (List.mem_of_getElem? hx)
   show ((mGet m x).getD 0==4)=false
   exact beq_eq_false_iff_ne.2 (by omega)
  ·subst hw
   exact .bb (λh=>by cases h) λ_=>JA a3 rec1 j m v hl hsm hrs fin i2 _ (by omega) (by omega) (by omega)
theorem ME {N:Nat}(hN:1000≤N)(a3:List kG)(rec1:List kG→Option jV→Mp Int Int→Int→Option Bool)(j:Int){S A S':Int→Int}{rs:List jL}(h:L9 S A rs S')(g:Option jV){l:List (Int×Int)}(hl : ∀k,(jS l k).getD 0=S k)
  (fin : ∀l':List (Int×Int),(∀k,(jS l' k).getD 0=S' k)→Okp (Option.bind (pA g (Option.bind (M.rE N) λx325=>(some ((none:Option jV),x325,((x325).length:Int)))) λx280=>(Option.bind (M.qX N x280.calls x280.reads x280.held) λx321=>(some ((some x280),x321,((x321).length:Int))))) λv279=>(M.mF N rec1 N a3 j (some l') v279 0)) (· = true)) :
  Okp (M.kU N rec1 N a3 j (g,rs,(rs.length:Int)) (some l) 0) (· = true):=by
 obtain ⟨n,rfl⟩ : ∃n,N=n+2:=⟨N-2,by omega⟩
 rcases h with ⟨rfl,rfl⟩ | ⟨r,rfl,h⟩
 ·unfold M.kU
  exact .bp (λh=>absurd h (by show ¬(0:Int)<0; omega)) λ_=>fin l hl
 ·unfold M.kU
  refine .bp (λ_=>.ix (Int.le_refl _) (by show (0:Int)<1; decide) λx hx=>?_) λh=>absurd (show (0:Int)<1 by decide) h
  have hx:r=x:=by simpa using hx
  subst hx
  have step : ∀v:Int,v≠0→S'=upS S r.Call v→Okp (M.nC (n+2) (M.kU (n+2) rec1 (n+1)) a3 j (g,[r],(([r]:List jL).length:Int)) 0 r (some (lPut l r.Call v))) (· = true):=λv hv e=>by
   unfold M.nC
   refine .mg (.bb (λh0=>?_) λ_=>?_)
   ·have h0:(jS (lPut l r.Call v) r.Call).getD 0=0:=eq_of_beq h0
    rw [rP] at h0
    exact absurd h0 hv
   ·unfold M.kU
    refine .bp (λh=>absurd h (by show ¬(IntKind.i64.wrap (0+1)<1); decide)) λ_=>fin _ λk=>?_
    rw [mC,e]
    unfold upS
    split
    ·rfl
    ·exact hl k
  have hS:(mGet (some l) r.Call).getD 0=S r.Call:=hl r.Call
  refine .mg (.call (R:=λv=>v=(r.Kind==1&&S r.Call==1)) (.bb (λh=>.ret ?_) λh=>.ret ?_) λv hv=>?_)
  ·rw [h,hS]; rfl
  ·rw [h]; rfl
  subst hv
  refine .bb (λh1=>.mp (step 4 (by decide) ?_)) λh1=>.call (R:=λv=>v=(r.Kind==2&&S r.Call==2)) (.bb (λh=>.ret ?_) λh=>.ret ?_) λv hv=>?_
  ·simp only [Bool.and_eq_true,beq_iff_eq] at h1
   rcases h with ⟨_,_,e⟩ | ⟨e,_⟩ | ⟨e,_⟩
   ·exact e
   ·omega
   ·omega
  ·rw [h,hS]; rfl
  ·rw [h]; rfl
  subst hv
  refine .bb (λh2=>.mp (step 3 (by decide) ?_)) λh2=>.call (R:=λv=>v=(r.Kind==3&&S r.Call==3)) (.bb (λh=>.ret ?_) λh=>.ret ?_) λv hv=>?_
  ·simp only [Bool.and_eq_true,beq_iff_eq] at h2
   rcases h with ⟨e,_⟩ | ⟨_,_,_,e⟩ | ⟨e,_⟩
   ·omega
   ·exact e
   ·omega
  ·rw [h,hS]; rfl
  ·rw [h]; rfl
  subst hv
  refine .bb (λh3=>.mp (step 4 (by decide) ?_)) λh3=>?_
  ·simp only [Bool.and_eq_true,beq_iff_eq] at h3
   rcases h with ⟨e,_⟩ | ⟨e,_⟩ | ⟨_,_,e⟩
   ·omega
   ·omega
   ·exact e
  ·exfalso
   simp only [Bool.and_eq_false_iff,beq_eq_false_iff_ne] at h1 h2 h3
   rcases h with ⟨e1,e2,_⟩ | ⟨e1,e2,_⟩ | ⟨e1,e2,_⟩<;>omega
theorem JB (N:Nat)(hN:1000000≤N)(haw:M.v6 N=some true){z:Int}(a3:List kG)(h3 : ∀o∈a3,LB o) : ∀(i2 i:Nat)(g:jV)(m:Mp Int Int),i≤100→100-i<i2→rpI z i g m→Okp (M.kV N i2 a3 (some g) m i) (· = true)
 | 0,i,g,m,g0,g1,g2=>by omega
 | i2+1,i,g,m,g0,g1,g2=>by
  obtain ⟨S,A,l,hG,rfl,hS⟩:=g2
  obtain ⟨s,hs,_⟩:=hG.1.st
  have hz:=hG.1.z4
  unfold M.kV
  refine .call (R:=λv=>v=true→(i:Int)<a3.length∧(i:Int)<100) (.bp (λh1=>.ret λh2=>⟨h1,of_decide_eq_true h2⟩) λ_=>.ret (λh=>by cases h)) λv hv=>.bb (λhvt=>?_) λ_=>by rw [haw]; exact .bind (.ret (.ret rfl))
  obtain ⟨hi1,hi2⟩:=hv hvt
  refine .ix (by omega) hi1 λo ho=>?_
  refine .call (NP (h3 o (List.mem_of_getElem? ho))) λq ⟨q1,q2,q3,q4⟩=>?_
  refine .call (R:=λv=>∃(code:Int) (r:TkT),v=(some (gmk g r r.2.2.2.2.2.2.2.2.2.2.2.2.2.2.2.2.2.2.2.2.2.2.2.2.2.2.2.2.2.2.2),(bif code==0 then (bif q.Kind==2 then true else q.Kind==3) else false))∧tQ (i+1) (i+1) (3000*i+3000) (opS S i q.Kind code) (opA A i q.Kind code (if q.T > s.stable then q.T else s.stable)) z (some s) q.Msg.Kind r) (.oc (λh=>by cases h) λb hb=>?_) λv ⟨code,r,e1,hr⟩=>?_
  ·simp only [Option.some.injEq] at hb
   subst hb
   refine .call (R:=λv=>∃(code:Int) (r:TkT),v=(gmk g r r.2.2.2.2.2.2.2.2.2.2.2.2.2.2.2.2.2.2.2.2.2.2.2.2.2.2.2.2.2.2.2,(bif code==0 then (bif q.Kind==2 then true else q.Kind==3) else false))∧tQ (i+1) (i+1) (3000*i+3000) (opS S i q.Kind code) (opA A i q.Kind code (if q.T > s.stable then q.T else s.stable)) z (some s) q.Msg.Kind r) ?_ λv ⟨code,r,e1,hr⟩=>.ret ⟨code,r,by rw [e1],hr⟩
   refine .call (NQ hN (z:=z) hG.2.2.1 hG.2.2.2 hs hG.2.1 _ _ _ _ _ _ _ _ _ _ _ hG.1 (by omega) (by omega) (o:={q with Call:=(i:Int)}) rfl q4) λr hr=>.bb (λh0=>.bb (λh1=>.ret ⟨r.1,r.2,?_,hr⟩) λh1=>.ret ⟨r.1,r.2,?_,hr⟩) λh0=>.ret ⟨r.1,r.2,?_,hr⟩
   ·rw [h0,h1]; rfl
   ·rw [h0,h1]; rfl
   ·rw [h0]; rfl
  subst e1
  obtain ⟨S',hr1,hr2,hr3⟩:=hr
  have hA' : ∀(m':Mp Int Int) l',m'=some l'→(∀k,(jS l' k).getD 0=opS S i q.Kind code k)→Okp (M.oJ N (M.kV N i2) a3 (i:Int) (some (gmk g r r.2.2.2.2.2.2.2.2.2.2.2.2.2.2.2.2.2.2.2.2.2.2.2.2.2.2.2.2.2.2.2)) m') (· = true):=λm' l' e hl=>by
   subst e
   have hG1:GG (i+1) (i+1) (3000*i+3000) S' (opA A i q.Kind code (if q.T > s.stable then q.T else s.stable)) z (gmk g r []):=⟨hr1,rfl,hG.2.2.1,hG.2.2.2⟩
   generalize hgg:(gmk g r [])=gg at hG1
   unfold M.oJ
   refine .call (R:=λv=>v=(some gg,r.2.2.2.2.2.2.2.2.2.2.2.2.2.2.2.2.2.2.2.2.2.2.2.2.2.2.2.2.2.2.2,(r.2.2.2.2.2.2.2.2.2.2.2.2.2.2.2.2.2.2.2.2.2.2.2.2.2.2.2.2.2.2.2.length:Int))) (.oc (λh=>by cases h) λb hb=>?_) λv hv=>?_
   ·simp only [Option.some.injEq] at hb
    subst hb
    unfold M.rF
    exact .bind (.ret (.ret (by rw [← hgg])))
   subst hv
   refine ME (by omega) a3 _ (i:Int) hr2 _ hl λl2 hl2=>?_
   obtain ⟨cl,cs,rs,e1,e2,e3,hp⟩:=hG1.1.pd
   have hba:=hG1.1.ba; have htx:=hG1.1.tx
   have hlen:=hp.len
   refine .call (R:=λv=>v.1=some gg∧v.2.2=v.2.1.length∧v.2.1.length≤100000 ∧ ∀x∈v.2.1,x∈pids cs rs gg.held) (.oc (λh=>by cases h) λb hb=>?_) λv ⟨v1,v2,v3,v4⟩=>?_
   ·simp only [Option.some.injEq] at hb
    subst hb
    rw [e2,e3]
    refine .call (MM (by omega) hp (by omega) hba.2 (by omega)) λw ⟨hw1,hw2⟩=>.ret ⟨rfl,rfl,by show w.length≤_; omega,hw1⟩
   ·refine JA a3 _ _ _ v v2 v3 (λx hx=>?_) ?_ N 0 (by omega) (by omega) (by omega)
    ·have:=hp.pend x (v4 x hx)
     show (jS l2 x).getD 0=1∨(jS l2 x).getD 0=2∨(jS l2 x).getD 0=3
     rw [hl2]; exact this
    ·rw [kF (x:=(i:Int)+1) (by omega) (by omega),v1]
     exact JB N hN haw a3 h3 i2 (i+1) _ _ (by omega) (by omega) ⟨S',_,l2,hG1,rfl,hl2⟩
  refine .bb (λhf=>.mp (hA' _ _ rfl λk=>?_)) λhf=>hA' _ _ rfl λk=>?_
  ·have hf:code=0∧(q.Kind=2∨q.Kind=3):=by
    have hf:(bif code==0 then (bif q.Kind==2 then true else q.Kind==3) else false)=true:=hf
    cases hc:(code==0)
    ·rw [hc] at hf; cases hf
    ·rw [hc] at hf
     refine ⟨by simpa using hc,?_⟩
     cases h2:(q.Kind==2)
     ·rw [h2] at hf; exact .inr (by simpa using hf)
     ·exact .inl (by simpa using h2)
   rcases hf with ⟨hc,h2|h2⟩
   ·have e:opS S i q.Kind code=upS S i 1:=by
     unfold opS
     rw [if_pos ⟨hc,h2⟩]
    rw [mC,e,h2]
    unfold upS
    split
    ·show IntKind.i64.wrap (2-1)=1
     decide
    ·exact hS k
   ·have e:opS S i q.Kind code=upS S i 2:=by
     unfold opS
     rw [if_neg (by omega),if_pos ⟨hc,h2⟩]
    rw [mC,e,h2]
    unfold upS
    split
    ·show IntKind.i64.wrap (3-1)=2
     decide
    ·exact hS k
  ·have hf : ¬(code=0∧(q.Kind=2∨q.Kind=3)):=λ⟨h1,h2⟩=>by
    have hf:(bif code==0 then (bif q.Kind==2 then true else q.Kind==3) else false)=false:=hf
    rw [h1] at hf
    rcases h2 with h2|h2<;>rw [h2] at hf<;>cases hf
   unfold opS
   rw [if_neg (λh=>hf ⟨h.1,.inl h.2⟩),if_neg (λh=>hf ⟨h.1,.inr h.2⟩)]
   exact hS k
theorem LK:M.v6 1000000=some true:=by kernel_rfl
theorem DO (a1:Int) (a2:List Bool) (h2:a2.length=4) (a3:List kG) (h3 : ∀o∈a3,LB o):M.r9 1000000 a1 a2 a3=some true:=by
 suffices h:Okp (M.r9 1000000 a1 a2 a3) (· = true) by
  obtain ⟨b,h1,h2⟩:=h
  rw [h1,h2]
 unfold M.r9
 have hz:=LC a1
 generalize IntKind.i64.wrap ((IntKind.i64.wrap (Int.tmod (IntKind.u64.wrap a1) 4))+1)=z at hz
 refine .ix (by omega) (by omega) λ_ _=>.call (MQ (by omega)) λmo hmo=>.call (NN (by omega) 0 0 0 (λ_=>0) (λ_=>0) (λk h=>absurd rfl h) hz (by simpa using h2) hmo) λx ⟨hx,g,hg,hG⟩=>?_
 obtain ⟨x1,x2⟩:=x
 simp only at hx hg
 subst hx hg
 refine .call (R:=λv=>v=(some g,false)) (.oc (λh=>by cases h) λb hb=>?_) λv hv=>?_
 ·simp only [Option.some.injEq] at hb
  subst hb
  exact .call (R:=λv=>v=false) (.bb (λh=>by cases h) λ_=>.ret rfl) λv hv=>.ret (by rw [hv])
 subst hv
 exact .bb (λh=>by cases h) λ_=>JB 1000000 (by omega) LK a3 h3 1000000 0 g _ (by omega) (by omega) ⟨_,_,[],hG,rfl,λ_=>rfl⟩
end Go.Cf
