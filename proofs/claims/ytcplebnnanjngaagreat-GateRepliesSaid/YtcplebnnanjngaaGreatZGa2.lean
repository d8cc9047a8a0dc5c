/- The gate's parts: splits, merges and moves of maps, iL, transactions: that their iM come to something. -/
import Derived.Test.YtcplebnnanjngaaGreatZGa1
import Derived.Test.YtcplebnnanjngaaGreatZM1
set_option linter.unusedVariables false
namespace Go.Cf
open Go
abbrev atB (a:Int):(Bool×ByteArray×ByteArray×Int×Nat)→Int→l6→Option ((Bool×ByteArray×ByteArray×Int×Nat)×Bool):=
 λv73 x17 x18=>bif (v73.2.2.2.2==0) then (bif (x17==a) then (some (((true,x18.Lo,x18.Hi,x18.Node,1)),false)) else (some (((v73.1,v73.2.1,v73.2.2.1,v73.2.2.2.1,0)),true))) else none
def atQ (m:j5) (a:Int) (u:Bool×ByteArray×ByteArray×Int×Nat):Prop:=u.2.2.2.2=0∨(u.2.2.2.2=1∧0≤a∧a<m.Nodes.length)
theorem M4 (N:Nat){m:j5}(hm:sP m)(hf:m.Nodes.length=m.Cuts.length+1)(a:Int) : ∀(i2:Nat)(i:Int)(v:Bool×ByteArray×ByteArray×Int×Nat),v.2.2.2.2=0→0≤i→i≤8→8-i<i2→Okp (M.lS N (atB a) i2 m i v) (atQ m a)
 | 0,i,v,hv,h0,h1,h4=>by omega
 | i2+1,i,v,hv,h0,h1,h4=>by
  have hc:=hm.c; have hn:=hm.n
  unfold M.lS
  refine .bp (λhi=>?_) λ_=>.ret (.inl hv)
  have k3 : ∀x lo hi',Okp (M.qK N (atB a) (M.lS N (atB a) i2) m i v x lo hi') (atQ m a):=λx lo hi'=>by
   unfold M.qK atB
   rw [kF (by omega) (by omega),hv]
   refine .bind (.bb (λ_=>.bb (λe=>.ret (.ret (.inr ⟨rfl,?_⟩))) λ_=>.ret ?_) λh=>by cases h)
   ·have:i=a:=by simpa using e
    omega
   ·exact M4 N hm hf a i2 _ _ rfl (by omega) (by omega) (by omega)
  have k2 : ∀x lo,Okp (M.qL N (atB a) (M.lS N (atB a) i2) m i v x lo) (atQ m a):=λx lo=>by
   unfold M.qL
   exact .bp (λh=>.ix h0 h λ_ _=>k3 _ _ _) λ_=>k3 _ _ _
  rw [kF (x:=i-1) (by omega) (by omega)]
  exact .ix h0 hi λ_ _=>.bp (λh=>.ix (by omega) (by omega) λ_ _=>k2 _ _) λ_=>k2 _ _
theorem pAt {N:Nat} (hN:100≤N) {m:j5} (hm:sP m) (hf:m.Nodes.length=m.Cuts.length+1) (a:Int):Okp (M.yF N m a) λr=>r.2=true→0≤a∧a<m.Nodes.length:=by
 have hc:=hm.c
 unfold M.yF M.wA M.uX
 refine .bind (.ret (.call (R:=atQ m a) (.bb (λh=>?_) λ_=>M4 N hm hf a N 0 _ rfl (by omega) (by omega) (by omega)) λu hu=>?_))
 ·change ((m.Nodes.length:Int) != IntKind.i64.wrap ((m.Cuts.length:Int)+1))=true at h
  rw [kF (by omega) (by omega)] at h
  simp only [bne_iff_ne,ne_eq] at h
  omega
 ·rcases hu with hu | ⟨hu,hr⟩
  ·rw [hu]; exact .ret λh=>by cases h
  ·rw [hu]; exact .ret λ_=>hr
theorem MH {N:Nat} (hN:100≤N) {m:j5} (hm:sP m) (n i:Int) (key:ByteArray):Okp (M.vU N m n i key) λr=>sP r.1:=by
 have hc:=hm.c; have hn:=hm.n
 unfold M.vU
 refine .call (GF hN hm n) λe he=>.bb (λ_=>.ret s3) λh0=>?_
 have hf:=he (by simpa using h0)
 refine .call (pAt hN hm hf i) λs hs=>.bb (λ_=>.ret s3) λh1=>?_
 obtain ⟨i0,i1⟩:=hs (by simpa using h1)
 have k : ∀c:Bool,Okp (bif c then some (j5.mk [] [],(14:Int)) else (bif ((m.Nodes.length:Int)==8) then (some ((j5.mk ([]:List ByteArray) ([]:List Int)),9)) else (Option.bind (Option.bind (slc m.Cuts 0 i) λx39=>(Option.bind (apd ([]:List ByteArray) x39) λx42=>(Option.bind (apd x42 [key]) λx46=>(Option.bind (slc m.Cuts i (m.Cuts.length:Int)) λx49=>(Option.bind (apd x46 x49) λx52=>(some x52)))))) λv38=>(Option.bind (Option.bind (slc m.Nodes 0 i) λx60=>(Option.bind (apd ([]:List Int) x60) λx63=>(Option.bind (apd x63 [s.1.Node]) λx67=>(Option.bind (slc m.Nodes i (m.Nodes.length:Int)) λx70=>(Option.bind (apd x67 x70) λx73=>(some x73)))))) λv59=>(some ((j5.mk v38 v59),0)))))) λr=>sP r.1:=λc=>by
  refine .bb (λ_=>.ret s3) λ_=>.bb (λ_=>.ret s3) λh8=>?_
  have h8' : ¬((m.Nodes.length:Int)=8):=by simpa using h8
  refine .bind (.sl (by omega) (by omega) (by omega) (.ap (by simp; omega) (.ap (by simp; omega) (.sl (by omega) (by omega) (by omega) (.ap (by simp; omega) (.ret ?_))))))
  refine .bind (.sl (by omega) (by omega) (by omega) (.ap (by simp; omega) (.ap (by simp; omega) (.sl (by omega) (by omega) (by omega) (.ap (by simp; omega) (.ret (.ret ⟨?_,?_⟩)))))))
  ·simp; omega
  ·simp; omega
 exact .bind (.bb (λ_=>.ret (k _)) λ_=>.bb (λ_=>.ret (k _)) λ_=>.call (DN _ _ _) λ_ _=>.ret (k _))
theorem MI {N:Nat} (hN:100≤N) {m:j5} (hm:sP m) (n i:Int):Okp (M.vV N m n i) λr=>sP r.1:=by
 have hc:=hm.c; have hn:=hm.n
 unfold M.vV
 refine .call (GF hN hm n) λe he=>.bb (λ_=>.ret s3) λh0=>?_
 have hf:=he (by simpa using h0)
 refine .bind (.bp (λ_=>.ret (.ret s3)) λi0=>.ret (.bb (λ_=>.ret s3) λh1=>?_))
 have i1:i<m.Cuts.length:=by simpa using h1
 rw [kF (x:=i+1) (by omega) (by omega)]
 refine .ix (by omega) (by omega) λ_ _=>.ix (by omega) (by omega) λ_ _=>.bb (λ_=>.ret s3) λ_=>?_
 refine .sl (by omega) (by omega) (by omega) (.ap (by simp; omega) (.sl (by omega) (by omega) (by omega) (.ap (by simp; omega) (.sl (by omega) (by omega) (by omega) (.ap (by simp; omega) (.sl (by omega) (by omega) (by omega) (.ap (by simp; omega) (.ret ⟨?_,?_⟩))))))))
 ·simp; omega
 ·simp; omega
theorem LX {N:Nat} (hN:100≤N) {m:j5} (hm:sP m) (n i j:Int):Okp (M.vP N m n i j) λr=>sP r.1∧(r.2=0→m.Nodes.length=m.Cuts.length+1):=by
 have hc:=hm.c; have hn:=hm.n
 unfold M.vP
 refine .call (GF hN hm n) λe he=>.bb (λh0=>.ret ⟨s3,λh=>by have h:e=0:=h; rw [h] at h0; cases h0⟩) λh0=>?_
 have he':=he (by simpa using h0)
 refine .bind (.bp (λ_=>.ret (.ret ⟨s3,λ_=>he'⟩)) λi0=>.ret (.bb (λ_=>.ret ⟨s3,λ_=>he'⟩) λh1=>?_))
 have i1:i<m.Nodes.length:=by simpa using h1
 have k : ∀c:Bool,Okp (bif c then some (j5.mk [] [],(1:Int)) else (Option.bind (idx m.Nodes i) λx29=>(bif (x29==j) then (some ((j5.mk ([]:List ByteArray) ([]:List Int)),8)) else (Option.bind (M.vQ N m) λx34=>(Option.bind (idx x34.Nodes i) λx42=>(some ((j5.mk x34.Cuts (List.set x34.Nodes (Int.toNat i) j)),0))))))) λr=>sP r.1∧(r.2=0→m.Nodes.length=m.Cuts.length+1):=λc=>
  .bb (λ_=>.ret ⟨s3,λ_=>he'⟩) λ_=>.ix (by omega) (by omega) λ_ _=>.bb (λ_=>.ret ⟨s3,λ_=>he'⟩) λ_=>.call (N2 hm) λq hq=>by
   subst hq
   exact .ix (by omega) (by omega) λ_ _=>.ret ⟨⟨hm.c,by simp; omega⟩,λ_=>he'⟩
 exact .bind (.bp (λ_=>.ret (k _)) λ_=>.ret (k _))
theorem xK {σ C R:Type}(cs:σ→List C)(st:σ→C→σ)(fin:σ→R)(L:Nat→σ→Option R)(hL : ∀f s,L (f+1) s=bif (cs s).isEmpty then some (fin s) else m3 (cs s) λx=>L f (st s x))(μ:σ→Nat)(I:σ→Prop)
  (hμ : ∀s x,I s→x∈cs s→μ (st s x)<μ s) (hI : ∀s x,I s→x∈cs s→I (st s x)) (hc : ∀s x y,I s→x∈cs s→y∈cs s→x≠y→y∈cs (st s x)∧st (st s x) y=st (st s y) x) :
  ∀(f:Nat) (s:σ),I s→μ s<f → ∃s',I s'∧L f s=some (fin s')
 | 0,s,hs,h=>by omega
 | f+1,s,hs,h=>by
  rw [hL]
  cases hcs:cs s with
  | nil=>exact ⟨s,hs,rfl⟩
  | cons x l=>
   have hx:x∈cs s:=by rw [hcs]; simp
   obtain ⟨s',h1,h2⟩:=xK cs st fin L hL μ I hμ hI hc f (st s x) (hI s x hs hx) (by have:=hμ s x hs hx; omega)
   refine ⟨s',h1,?_⟩
   show m3 (x::l) _=_
   refine vA (by simp) λy hy=>?_
   rw [← hcs] at hy
   by_cases e:y=x
   ·subst e; exact h2
   ·obtain ⟨hy2,hxy⟩:=hc s x y hs hx hy (Ne.symm e)
    obtain ⟨hx2,_⟩:=hc s y x hs hy hx e
    cases f with
    | zero=>have:=hμ s x hs hx; omega
    | succ f=>
     have e1:L (f+1) (st s x)=L f (st (st s x) y):=by
      obtain ⟨t,_,ht⟩:=xK cs st fin L hL μ I hμ hI hc (f+1) (st s x) (hI s x hs hx) (by have:=hμ s x hs hx; omega)
      have ht':=ht
      rw [hL] at ht'
      cases hz:cs (st s x) with
      | nil=>rw [hz] at hy2; cases hy2
      | cons z l'=>
       rw [hz] at ht'
       have:=uY (show m3 (z::l') _=some (fin t) from ht') y (by rw [← hz]; exact hy2)
       rw [ht,this]
     have e2:L (f+1) (st s y)=L f (st (st s y) x):=by
      obtain ⟨t,_,ht⟩:=xK cs st fin L hL μ I hμ hI hc (f+1) (st s y) (hI s y hs hy) (by have:=hμ s y hs hy; omega)
      have ht':=ht
      rw [hL] at ht'
      cases hz:cs (st s y) with
      | nil=>rw [hz] at hx2; cases hx2
      | cons z l'=>
       rw [hz] at ht'
       have:=uY (show m3 (z::l') _=some (fin t) from ht') x (by rw [← hz]; exact hx2)
       rw [ht,this]
     show L (f+1) (st s y)=_
     rw [e2,← hxy,← e1,h2]
structure vL (k v q:Nat)(b:j3):Prop where
 h0:0≤b.handed
 h1:b.handed≤b.list.length
 d:b.done.length=b.list.length
 l:b.list.length≤k
 vl : ∀r∈b.list,r.Vers.length≤v
 b0:0≤b.base
 b1:b.base+b.list.length≤1073741824+k
 hs : ∃l,b.hearts=some l∧Srt l∧l.length≤q
theorem JX {K:Type} [DecidableEq K] {l:List K} {k x:K}:x∈kRem l k↔x∈l∧x≠k:=by simp [kRem]
theorem DS {K:Type} [DecidableEq K] {l:List K} {k:K} (h:k∈l):(kRem l k).length<l.length:=by
 unfold kRem
 have:=List.length_filter_lt_length_iff_exists (l:=l) (p:=λx=>decide (x≠k))
 exact this.2 ⟨k,h,by simp⟩
theorem IF {K:Type} [DecidableEq K] (l:List K) (x y:K):kRem (kRem l x) y=kRem (kRem l y) x:=by
 unfold kRem
 rw [List.filter_filter,List.filter_filter]
 exact List.filter_congr λz _=>Bool.and_comm _ _
theorem IE {K V:Type} [DecidableEq K] (l:List (K×V)) (x y:K):lDel (lDel l x) y=lDel (lDel l y) x:=by
 unfold lDel
 rw [List.filter_filter,List.filter_filter]
 exact List.filter_congr λz _=>Bool.and_comm _ _
theorem zV {K V:Type} [DecidableEq K] (l:List (K×V)) (k:K):(lDel l k).length≤l.length:=List.length_filter_le _ _
theorem F3 {K V:Type} [DecidableEq K] {l:List (K×V)} (h:(l.map (·.1)).Nodup) {x y:K×V} (hx:x∈l) (hy:y∈l) (e:x.1=y.1):x=y:=by
 have h1:=y0 h hx
 have h2:=y0 h hy
 rw [e,h2] at h1
 have:y.2=x.2:=by simpa using h1
 exact Prod.ext e this.symm
def ED (iY:Int) (s:Mp Int Int×Int×List Int) (x:Int×Int):Mp Int Int×Int×List Int:=
 (bif decide (x.1≤iY) then mDel s.1 x.1 else s.1,bif decide (x.1≤iY) then (if x.2 > s.2.1 then x.2 else s.2.1) else s.2.1,kRem s.2.2 x.1)
theorem HQ {N k v q:Nat} {b:j3} (hb:vL k v q b) (hN:q<N):Okp (M.pF N b) (vL k v q):=by
 obtain ⟨l0,e0,hn0,hl0⟩:=hb.hs
 unfold M.pF
 obtain ⟨s',⟨l,e1,h1,h2⟩,hr⟩:=xK (σ:=Mp Int Int×Int×List Int) (λs=>oM s.1 s.2.2) (ED b.base) (λs=>j3.mk b.base b.list b.handed b.done s.1 s.2.1) (λf s=>M.m8 N f b s.1 s.2.1 s.2.2) (λf s=>by
   show M.m8 N (f+1) b s.1 s.2.1 s.2.2=_
   simp only [M.m8]
   congr 1
   congr 1
   funext x
   unfold ED
   cases decide (x.1≤b.base)<;>rfl) (λs=>s.2.2.length) (λs=>∃l,s.1=some l∧Srt l∧l.length≤q)
  (λs x _ hx=>DS (yL hx)) (λs x ⟨l,e,h1,h2⟩ hx=>by
   unfold ED
   cases decide (x.1≤b.base)
   ·exact ⟨l,e,h1,h2⟩
   ·exact ⟨lDel l x.1,by simp [e,mDel],s7 h1 _,Nat.le_trans (zV _ _) h2⟩) (λs x y ⟨l,e,h1,h2⟩ hx hy hxy=>by
   obtain ⟨m,g,left⟩:=s
   simp only at e hx hy
   subst e
   have hx1:x∈l:=(List.mem_filter.1 hx).1
   have hy1:y∈l:=(List.mem_filter.1 hy).1
   have hk:x.1≠y.1:=λe=>hxy (F3 h1.nodup hx1 hy1 e)
   have hyl:y.1∈kRem left x.1:=JX.2 ⟨yL hy,Ne.symm hk⟩
   refine ⟨?_,?_⟩
   ·unfold ED oM
    refine List.mem_filter.2 ⟨?_,decide_eq_true hyl⟩
    cases decide (x.1≤b.base)
    ·exact hy1
    ·exact List.mem_filter.2 ⟨hy1,decide_eq_true (Ne.symm hk)⟩
   ·unfold ED
    refine Prod.ext ?_ (Prod.ext ?_ (IF _ _ _))
    ·cases decide (x.1≤b.base)<;>cases decide (y.1≤b.base)<;>simp [mDel,IE]
    ·cases decide (x.1≤b.base)<;>cases decide (y.1≤b.base)<;>simp only [cond_true,cond_false]
     repeat' split
     all_goals omega) N (b.hearts,b.got,pP b.hearts) ⟨l0,e0,hn0,hl0⟩ (by simp [e0,pP]; omega)
 exact ⟨_,hr,hb.h0,hb.h1,hb.d,hb.l,hb.vl,hb.b0,hb.b1,l,e1,h1,h2⟩
theorem vL.mono {k k' v q q':Nat} {b:j3} (h:vL k v q b) (hk:k≤k') (hq:q≤q'):vL k' v q' b:=by
 obtain ⟨l,e,h1,h2⟩:=h.hs
 exact ⟨h.h0,h.h1,h.d,Nat.le_trans h.l hk,h.vl,h.b0,by have:=h.b1; omega,l,e,h1,Nat.le_trans h2 hq⟩
theorem MK {N v k q:Nat} (a:Int) (ha:a≤1073741824):Okp (M.vR N a) (vL k v q):=
 .ret ⟨Int.le_refl _,Int.le_refl _,rfl,Nat.zero_le _,(λ_ h=>by cases h),by show 0≤if 0 > a then 0 else a; split<;>omega,by show (if 0 > a then 0 else a)+((0:Nat):Int)≤_; split<;>omega,[],rfl,List.Pairwise.nil,Nat.zero_le _⟩
theorem NM {N k v q:Nat} {b:j3} (hb:vL k v q b) (hk:k<1000000) (hv:v<1000000) (a:Int) {r:kC} (hr:r.Vers.length≤v):Okp (M.tN N b a r) λu=>vL (k+1) v q u.2:=by
 have hl:=hb.l
 have h':=hb.mono (k':=k+1) (q':=q) (by omega) (by omega)
 have hd:=hb.d
 unfold M.tN
 refine .bb (λ_=>.ret h') λ_=>.bb (λ_=>.ret h') λ_=>.bb (λ_=>.ret h') λ_=>.call (HF (by omega:r.Vers.length<1000000)) λx hx=>.ap (by simp; omega) ?_
 subst hx
 have e1:zD b.done [false]=some (b.done++[false]):=by
  show apd b.done [false]=_
  rw [apd,if_pos (by simp; omega)]
 refine .bind ⟨_,e1,.ret ⟨hb.h0,by simp; have:=hb.h1; omega,by simp [hd],by simp; omega,λy hy=>?_,hb.b0,by have:=hb.b1; simp; omega,hb.hs⟩⟩
 rcases List.mem_append.1 hy with hy|hy
 ·exact hb.vl y hy
 ·rw [List.mem_singleton.1 hy]; exact hr
theorem LY {N k v q:Nat} {b:j3} (hb:vL k v q b) (hv:v<1000000):Okp (M.rQ N b) λu=>u.1.Vers.length≤v∧(u.2=true↔b.handed<b.list.length):=by
 have h1:=hb.h1; have h0:=hb.h0
 unfold M.rQ
 refine .bb (λh=>.ret ⟨Nat.zero_le _,?_⟩) λh=>?_
 ·have:b.handed=b.list.length:=by simpa using h
  exact ⟨(λh=>by cases h),λh=>by omega⟩
 ·have hne : ¬b.handed=b.list.length:=by simpa using h
  refine .ix h0 (by omega) λx hx=>?_
  have hxv:x.Vers.length≤v:=hb.vl x (List.mem_of_getElem? hx)
  exact .call (HF (by omega:x.Vers.length<1000000)) λy hy=>.ret ⟨by rw [hy]; exact hxv,λ_=>by omega,λ_=>rfl⟩
theorem N4 {N k v q:Nat} {b:j3} (hb:vL k v q b) (hk:k<1000000) (hv:v<1000000):Okp (M.sV N b) λu=>vL k v q u.2.2.2∧(b.handed<b.list.length→u.2.2.2.list=b.list∧u.2.2.2.handed=b.handed+1)∧u.1≤1073741824+1000000:=by
 have hl:=hb.l
 unfold M.sV
 refine .call (LY hb hv) λu hu=>.bb (λh=>.ret ⟨hb,λh'=>?_,show (0:Int)≤1073741824+1000000 by decide⟩) λh=>.ret ⟨?_,λh'=>⟨rfl,kF ?_ ?_⟩,?_⟩
 ·have:=hu.2.2 h'; rw [this] at h; cases h
 ·have hlt:b.handed<b.list.length:=hu.2.1 (by simpa using h)
  have h1:=hb.h1; have h0:=hb.h0
  rw [kF (x:=b.handed+1) (by omega) (by omega)]
  exact ⟨by show 0≤b.handed+1; omega,by show b.handed+1≤(b.list.length:Int); omega,hb.d,hb.l,hb.vl,hb.b0,hb.b1,hb.hs⟩
 ·have h0:=hb.h0; omega
 ·omega
 ·have h0:=hb.h0; have h1:=hb.h1; have b0:=hb.b0; have b1:=hb.b1
  show IntKind.i64.wrap (IntKind.i64.wrap (b.base+IntKind.i64.wrap (b.handed+1))-1)≤_
  rw [kF (x:=b.handed+1) (by omega) (by omega),kF (x:=b.base+(b.handed+1)) (by omega) (by omega),kF (by omega) (by omega)]
  omega
theorem HS (N:Nat){k v q:Nat}{b:j3}(hb:vL k v q b)(hN:q<N)(hk:k<1000000)(a:Int) : ∀(i2:Nat)(i:Int),0≤i→i≤b.handed→b.handed-i<i2→Okp (M.nY N i2 b a i) λu=>vL k v q u.2
 | 0,i,h0,h1,h4=>by omega
 | i2+1,i,h0,h1,h4=>by
  have hl:=hb.l; have hh:=hb.h1; have hd:=hb.d
  unfold M.nY
  have b0:=hb.b0; have b1:=hb.b1
  rw [kF (x:=i+1) (by omega) (by omega),kF (x:=b.base+i) (by omega) (by omega),kF (x:=b.handed-i) (by omega) (by omega)]
  generalize hD:List.set b.done (Int.toNat (IntKind.i64.wrap (a-b.base))) true=D
  have hDl:D.length=b.list.length:=by rw [← hD]; simp [hd]
  have fin:Okp (Option.bind (slc b.list i (b.list.length:Int)) λx87=>Option.bind (slc D i (D.length:Int)) λx90=>Option.bind (M.pF N (j3.mk (b.base+i) x87 (b.handed-i) x90 b.hearts b.got)) λx94=>some ((0:Int),(j3.mk x94.base x94.list x94.handed x94.done x94.hearts x94.got))) λu=>vL k v q u.2:=by
   refine .sl h0 (by omega) (by omega) (.sl h0 (by omega) (by omega) (.call (HQ (k:=k) (v:=v) (q:=q) ⟨?_,?_,?_,?_,λy hy=>hb.vl y (List.mem_of_mem_take (List.mem_of_mem_drop hy)),?_,?_,hb.hs⟩ hN) λu hu=>.ret hu))
   ·show 0≤b.handed-i; omega
   ·show b.handed-i≤_; simp; omega
   ·simp; omega
   ·simp; omega
   ·show 0≤b.base+i; omega
   ·show b.base+i+_≤_; simp; omega
  refine .bind (.bp (λhi=>.ix h0 (by omega) λx hx=>.ret (.bb (λ_=>?_) λ_=>fin)) λ_=>.ret fin)
  exact HS N hb hN hk a i2 _ (by omega) (by omega) (by omega)
theorem N5 {N k v q:Nat} {b:j3} (hb:vL k v q b) (hN:k<N∧q<N) (hk:k<1000000) (a:Int) (ha:a≤1073741824+1000000):Okp (M.sW N b a) λu=>vL k v q u.2:=by
 have hl:=hb.l; have hh:=hb.h1; have h0:=hb.h0; have b0:=hb.b0; have hd:=hb.d
 unfold M.sW
 refine .bind (.bp (λ_=>.ret (.ret hb)) λh1=>?_)
 rw [kF (x:=a-b.base) (by omega) (by omega)]
 have k:a-b.base<b.handed → ∀c:Bool,Okp (bif c then some ((7:Int),b) else Option.bind (idx b.done (a-b.base)) λx23=>M.nY N N b a 0) λu=>vL k v q u.2:=λh2 c=>
  .bb (λ_=>.ret hb) λ_=>.ix (by omega) (by omega) λ_ _=>HS N hb hN.2 hk a N 0 (by omega) (by omega) (by omega)
 exact .bp (λ_=>.ret (.ret hb)) λh2=>.ix (by omega) (by omega) λ_ _=>.ret (k (by omega) _)
theorem C5 {K V:Type} [DecidableEq K] [KO K] : ∀(l:List (K×V))(k:K)(v:V),(lPut l k v).length≤l.length+1
 | [],k,v=>by simp [lPut]
 | x::l,k,v=>by
  unfold lPut
  have:=C5 l k v
  split
  ·simp
  ·split
   ·simp
   ·simp; omega
theorem ML {N k v q:Nat} {b:j3} (hb:vL k v q b) (hN:q+1<N) (t n:Int):Okp (M.s8 N b t n) (vL k v (q+1)):=by
 obtain ⟨l,e,h1,h2⟩:=hb.hs
 unfold M.s8
 rw [e]
 refine .mg (.mp (.call (HQ (k:=k) (v:=v) (q:=q+1) ⟨hb.h0,hb.h1,hb.d,hb.l,hb.vl,hb.b0,hb.b1,_,rfl,oK h1 _ _,?_⟩ hN) λu hu=>.ret hu))
 exact Nat.le_trans (C5 _ _ _) (by omega)
end Go.Cf
