/- The gate's parts: vectors of times, tables of times, logs, maps: that their iM come to something. -/
import Derived.Test.YtcplebnnanjngaaGreatZOk1
import Derived.Test.YtcplebnnanjngaaGreatZM1
set_option linter.unusedVariables false
namespace Go.Cf
open Go
def vOk (v:jY):Prop:=v.Has.length=4∧v.T.length=4
theorem ER (N:Nat)(v:jY)(hv:v.Has.length=4) : ∀(i2:Nat)(i:Int)(l:List Int),0≤i→i≤4→4-i<i2→l.length=4→Okp (M.qB N i2 v l i) λw=>vOk w∧w.Has=v.Has∧w.Epoch=v.Epoch
 | 0,i,l,h0,h1,h2,h3=>by omega
 | i2+1,i,l,h0,h1,h2,h3=>by
  unfold M.qB
  refine .bp (λhi=>.ix h0 (by omega) λx hx=>.bb (λ_=>.ix h0 (by omega) λy hy=>?_) λ_=>?_) λ_=>.ret ⟨⟨hv,h3⟩,rfl,rfl⟩
  all_goals
   unfold M.u5
   rw [kF (by omega) (by omega)]
   exact ER N v hv i2 _ _ (by omega) (by omega) (by omega) (by simp [h3])
theorem DG {N:Nat} (hN:100≤N) {v:jY} (hv:vOk v):Okp (M.uM N v) λw=>vOk w∧w.Has=v.Has∧w.Epoch=v.Epoch:=
 ER N v hv.1 N 0 v.T (by omega) (by omega) (by omega) hv.2
theorem DF {N:Nat} (hN:100≤N) {v:jY} (hv:vOk v) (d t:Int):Okp (M.tA N v d t) λw=>vOk w∧w.Has=v.Has∧w.Epoch=v.Epoch:=by
 unfold M.tA
 refine .call (DG hN hv) λw ⟨hw,h1,h2⟩=>.bind ?_
 refine .bp (λh0=>.bp (λh4=>.ix h0 (by rw [hw.1]; omega) λx hx=>.ret ?_) λ_=>.ret ?_) λ_=>.ret ?_
 all_goals
  unfold M.u2
  refine .bb (λhx=>?_) λ_=>.ret ⟨hw,h1,h2⟩
 ·exact .ix h0 (by rw [hw.2]; omega) λ_ _=>.ix h0 (by rw [hw.2]; omega) λ_ _=>.ret ⟨⟨hw.1,by simp [hw.2]⟩,h1,h2⟩
 ·cases hx
 ·cases hx
theorem EZ (N:Nat)(v:jY)(hv:vOk v) : ∀(i2:Nat)(i t:Int)(b:Bool),0≤i→i≤4→4-i<i2→Okp (M.oD N i2 v t b i) λ_=>True
 | 0,i,t,b,h0,h1,h2=>by omega
 | i2+1,i,t,b,h0,h1,h2=>by
  unfold M.oD
  refine .bp (λhi=>.ix h0 (by rw [hv.1]; omega) λx hx=>.bind ?_) λ_=>.ret trivial
  have k : ∀t b,Okp (M.qZ N (M.oD N i2) v i t b) λ_=>True:=λt b=>by
   unfold M.qZ
   rw [kF (by omega) (by omega)]
   exact EZ N v hv i2 _ t b (by omega) (by omega) (by omega)
  have k2 : ∀c:Bool,Okp (bif c then Option.bind (idx v.T i) λx70=>M.qZ N (M.oD N i2) v i x70 true else M.qZ N (M.oD N i2) v i t b) λ_=>True:=λc=>.bb (λ_=>.ix h0 (by rw [hv.2]; omega) λ_ _=>k _ _) λ_=>k _ _
  exact .bb (λ_=>.bb (λ_=>.ret (k2 _)) λ_=>.ix h0 (by rw [hv.2]; omega) λ_ _=>.ret (k2 _)) λ_=>.ret (k2 _)
theorem J0 {N:Nat} (hN:100≤N) {v:jY} (hv:vOk v):Okp (M.wN N v) λ_=>True:=
 EZ N v hv N 0 0 false (by omega) (by omega) (by omega)
theorem H9 {N:Nat} (hN:100≤N) {v:jY} (hv:vOk v) (e:Int) {has:List Bool} (hh:has.length=4):Okp (M.uL N v e has) λw=>vOk w.1:=by
 unfold M.uL
 refine .bp (λ_=>.ret ⟨rfl,rfl⟩) λ_=>.call (DG hN hv) λw hw=>.call (DG hN (v:=⟨e,has,w.T⟩) ⟨hh,hw.1.2⟩) λu hu=>.ret hu.1
structure rW (n:Int)(s:j4):Prop where
 n1:1≤n
 n4:n≤4
 beats:(s.beats.length:Int)=n
 got:vOk s.got
 known:vOk s.known
theorem MB {N:Nat} (d n:Int) (hd:0≤d∧d<4) (hn:1≤n∧n≤4) {has:List Bool} (hh:has.length=4):Okp (M.vT N d n has) λr=>r.2=0 ∧ ∃s,r.1=some s∧rW n s:=by
 unfold M.vT M.xE
 refine .bind (.bp (λh=>by omega) λ_=>.bp (λh=>by omega) λ_=>.bp (λh=>by omega) λ_=>.ret ?_)
 rw [show decide (n > 4)=false from by simp; omega]
 exact .bind (.mk (by omega) (by omega) (.ret ⟨_,rfl,rfl,_,rfl,hn.1,hn.2,by simp; omega,⟨hh,rfl⟩,⟨hh,rfl⟩⟩))
theorem EY (N:Nat)(s:j4)(hs:s.beats.length≤4) : ∀(i2:Nat)(i t:Int),0≤i→i≤4→4-i<i2→Okp (M.nS N i2 s t i) λ_=>True
 | 0,i,t,h0,h1,h2=>by omega
 | i2+1,i,t,h0,h1,h2=>by
  unfold M.nS
  refine .bp (λhi=>.ix h0 hi λx hx=>?_) λ_=>.ret trivial
  rw [kF (by omega) (by omega)]
  exact EY N s hs i2 _ _ (by omega) (by omega) (by omega)
theorem J7 {N:Nat} (hN:100≤N) {n:Int} {s:j4} (hs:rW n s):Okp (M.qJ N s) λ_=>True:=by
 have h1:=hs.n1; have h4:=hs.n4; have hb:=hs.beats
 unfold M.qJ
 exact .ix (by omega) (by omega) λx _=>EY N s (by omega) N 0 x (by omega) (by omega) (by omega)
theorem EK {N:Nat} (hN:100≤N) {n:Int} {s:j4} (hs:rW n s):Okp (M.pE N s) λ_=>True:=by
 unfold M.pE
 exact .call (J7 hN hs) λt _=>.call (DF hN hs.got _ t) λv hv=>.call (J0 hN hv.1) λ_ _=>.ret trivial
theorem BI {N:Nat} (hN:100≤N) {n:Int} {s:j4} (hs:rW n s):Okp (M.mW N s) λt=>rW n t∧s.stable≤t.stable:=by
 unfold M.mW
 refine .call (EK hN hs) λt _=>.call (DF hN hs.known _ t) λv hv=>.call (J0 hN hv.1) λu _=>.ret ⟨⟨hs.n1,hs.n4,hs.beats,hs.got,hs.known⟩,?_⟩
 show s.stable≤if u.1 > s.stable then u.1 else s.stable
 split<;>omega
theorem N1 {N:Nat} (hN:100≤N) {n:Int} {s:j4} (hs:rW n s) (j t:Int):Okp (M.s6 N s j t) λu=>rW n u∧s.stable≤u.stable:=by
 unfold M.s6
 refine .bind (.bp (λ_=>.ret (.bb (λ_=>.ret ⟨hs,Int.le_refl _⟩) λh=>by cases h)) λh0=>.ret (.bb (λ_=>.ret ⟨hs,Int.le_refl _⟩) λh=>?_))
 have h1:j<s.beats.length:=by simpa using h
 exact .ix (by omega) h1 λ_ _=>.ix (by omega) h1 λ_ _=>.call (BI hN (n:=n) ⟨hs.n1,hs.n4,by simpa using hs.beats,hs.got,hs.known⟩) λu hu=>.ret hu
theorem N0 {N:Nat} (hN:100≤N) {n:Int} {s:j4} (hs:rW n s) (d t:Int):Okp (M.rM N s d t) λu=>rW n u∧s.stable≤u.stable:=by
 unfold M.rM
 exact .bb (λ_=>.ret ⟨hs,Int.le_refl _⟩) λ_=>.call (DF hN hs.got d t) λv hv=>.call (BI hN (n:=n) ⟨hs.n1,hs.n4,hs.beats,hv.1,hs.known⟩) λu hu=>.ret hu
theorem MY {N:Nat} (hN:100≤N) {n:Int} {s:j4} (hs:rW n s) (d e t:Int):Okp (M.s5 N s d e t) λu=>rW n u∧s.stable≤u.stable:=by
 unfold M.s5
 have k : ∀c:Bool,Okp (bif c then some s else Option.bind (M.tA N s.known d t) λx13=>Option.bind (M.mW N ⟨s.dc,s.beats,s.got,x13,s.stable⟩) λx14=>some x14) λu=>rW n u∧s.stable≤u.stable:=λc=>
  .bb (λ_=>.ret ⟨hs,Int.le_refl _⟩) λ_=>.call (DF hN hs.known d t) λv hv=>.call (BI hN (n:=n) ⟨hs.n1,hs.n4,hs.beats,hs.got,hv.1⟩) λu hu=>.ret hu
 exact .bind (.bb (λ_=>.ret (k _)) λ_=>.ret (k _))
theorem MZ {N:Nat} {n:Int} {s:j4} (hs:rW n s) (t:Int):Okp (M.tS N s t) λu=>rW n u := .ret ⟨hs.n1,hs.n4,hs.beats,hs.got,hs.known⟩
theorem LW {N:Nat} (hN:100≤N) {n:Int} {s:j4} (hs:rW n s) (d e:Int):Okp (M.qV N s d e) λu=>rW n u.2:=by
 unfold M.qV M.xE
 refine .bind (.bp (λ_=>.ret (.bb (λ_=>.ret hs) λh=>by cases h)) λh0=>.ret (.bp (λ_=>.ret hs) λh=>?_))
 exact .ix (by omega) (by rw [hs.got.1]; omega) λ_ _=>.bb (λ_=>.ret hs) λ_=>.bb (λ_=>.ret hs) λ_=>.ix (by omega) (by rw [hs.got.1]; omega) λ_ _=>.call (H9 hN hs.got e (by simp [hs.got.1])) λv hv=>.bind (.ret (.ret ⟨hs.n1,hs.n4,hs.beats,hv,⟨by simp [hs.got.1],rfl⟩⟩))
theorem MC {N:Nat} (hN:100≤N) {n:Int} {s:j4} (hs:rW n s) (d e:Int):Okp (M.rL N s d e) λu=>rW n u.2:=by
 unfold M.rL
 refine .bind (.bp (λ_=>.ret (.bb (λ_=>.ret hs) λh=>by cases h)) λh0=>.ret (.bp (λ_=>.ret hs) λh=>?_))
 exact .ix (by omega) (by rw [hs.got.1]; omega) λ_ _=>.bb (λ_=>.ret hs) λ_=>.bb (λ_=>.ret hs) λ_=>.ix (by omega) (by rw [hs.got.1]; omega) λ_ _=>.call (H9 hN hs.got e (by simp [hs.got.1])) λv hv=>.call (DG hN (v:=⟨s.known.Epoch,List.set s.got.Has (Int.toNat d) false,s.known.T⟩) ⟨by simp [hs.got.1],hs.known.2⟩) λx hx=>.call (BI hN (n:=n) ⟨hs.n1,hs.n4,hs.beats,hv,⟨hx.1.1,hx.1.2⟩⟩) λu hu=>.ret hu.1
theorem NJ {N:Nat} (a b:mN):Okp (M.zW N a b) λ_=>True:=by
 unfold M.zW M.wS
 have k : ∀c:Bool,Okp (Option.bind (bif c then some (-1:Int) else some 1) λx=>some x) λ_=>True:=λc=>.bind (.bb (λ_=>.ret (.ret trivial)) λ_=>.ret (.ret trivial))
 exact .bb (λ_=>k _) λ_=>.bb (λ_=>k _) λ_=>.bb (λ_=>k _) λ_=>.ret trivial
theorem HF {N:Nat} {r:kC} (h:r.Vers.length<1000000):Okp (M.sU N r) λq=>q=r:=by
 unfold M.sU
 exact .ap (by simp; omega) (.ret (by simp))
structure tE (k v:Nat)(l:jC):Prop where
 len:l.list.length+l.waiting.length≤k
 vl : ∀r∈l.list,r.Vers.length≤v
 vw : ∀r∈l.waiting,r.Vers.length≤v
theorem tE.mono {k k' v:Nat} {l:jC} (h:tE k v l) (hk:k≤k'):tE k' v l:=⟨Nat.le_trans h.len hk,h.vl,h.vw⟩
theorem N3 {v k:Nat}:tE k v ⟨[],[],0⟩:=⟨Nat.zero_le _,(λ_ h=>by cases h),λ_ h=>by cases h⟩
theorem AN (N:Nat){k v:Nat}{l:jC}(hl:tE k v l)(hk:k<1000000)(hv:v<1000000){r:kC}(hr:r.Vers.length≤v) : ∀(i2:Nat)(i t:Int),0≤i→i≤l.waiting.length→0≤t→t≤i→l.waiting.length-i<i2→Okp (M.m7 N i2 l r t i) λu=>tE (k+1) v u.2
 | 0,i,t,h0,h1,h2,h3,h4=>by omega
 | i2+1,i,t,h0,h1,h2,h3,h4=>by
  have hlen:=hl.len
  unfold M.m7 M.vY M.q6
  refine .bp (λhi=>.ix h0 hi λx hx=>.bind (.ret (.bind (.ret (.call (NJ _ _) λc _=>.bb (λ_=>.ret (hl.mono (by omega))) λ_=>.bb (λ_=>?_) λ_=>?_))))) λhi=>?_
  ·rw [kF (x:=i+1) (by omega) (by omega)]
   exact AN N hl hk hv hr i2 _ _ (by omega) (by omega) (by omega) (by omega) (by omega)
  ·rw [kF (x:=i+1) (by omega) (by omega)]
   exact AN N hl hk hv hr i2 _ _ (by omega) (by omega) (by omega) (by omega) (by omega)
  ·refine .sl (by omega) (by omega) (by omega) (.ap (by simp; omega) (.call (HF (by omega:r.Vers.length<1000000)) λq hq=>.ap (by simp; omega) (.sl (by omega) (by omega) (by omega) (.ap (by simp; omega) (.ret ⟨?_,hl.vl,?_⟩)))))
   ·simp; omega
   ·intro y hy
    simp only [List.nil_append,List.append_assoc,List.mem_append,List.mem_singleton] at hy
    rcases hy with hy|hy|hy
    ·exact hl.vw y (List.mem_of_mem_take (List.mem_of_mem_drop hy))
    ·subst hy; rw [hq]; exact hr
    ·exact hl.vw y (List.mem_of_mem_take (List.mem_of_mem_drop hy))
theorem LE {N k v:Nat} {l:jC} (hl:tE k v l) (hN:k<N) (hk:k<1000000) (hv:v<1000000) {r:kC} (hr:r.Vers.length≤v):Okp (M.rN N l r) λu=>tE (k+1) v u.2:=by
 have:=hl.len
 unfold M.rN
 exact .bb (λ_=>.ret (hl.mono (by omega))) λ_=>AN N hl hk hv hr N 0 0 (by omega) (by omega) (by omega) (by omega) (by omega)
theorem BP (N:Nat){k v:Nat}{l:jC}(hl:tE k v l)(hk:k<1000000)(t:Int) : ∀(i2:Nat)(i:Int),0≤i→i≤l.waiting.length→l.waiting.length-i<i2→Okp (M.nA N i2 l t i) λu=>tE k v u.2
 | 0,i,h0,h1,h4=>by omega
 | i2+1,i,h0,h1,h4=>by
  have hlen:=hl.len
  unfold M.nA
  have fin:Okp (Option.bind (slc l.waiting 0 i) λx75=>Option.bind (apd l.list x75) λx78=>Option.bind (slc l.waiting i (l.waiting.length:Int)) λx82=>some (i,jC.mk x78 x82 (if t > l.bound then t else l.bound))) λu=>tE k v u.2:=by
   refine .sl (by omega) (by omega) (by omega) (.ap (by simp; omega) (.sl (by omega) (by omega) (by omega) (.ret ⟨?_,λy hy=>?_,λy hy=>?_⟩)))
   ·simp; omega
   ·rcases List.mem_append.1 hy with hy|hy
    ·exact hl.vl y hy
    ·exact hl.vw y (List.mem_of_mem_take (List.mem_of_mem_drop hy))
   ·exact hl.vw y (List.mem_of_mem_take (List.mem_of_mem_drop hy))
  refine .bind (.bp (λhi=>.ix h0 hi λx hx=>.ret (.bb (λ_=>?_) λ_=>fin)) λhi=>.ret fin)
  rw [kF (by omega) (by omega)]
  exact BP N hl hk t i2 _ (by omega) (by omega) (by omega)
theorem JV {N k v:Nat} {l:jC} (hl:tE k v l) (hN:k<N) (hk:k<1000000) (t:Int):Okp (M.sN N l t) λu=>tE k v u.2:=by
 have:=hl.len
 exact BP N hl hk t N 0 (by omega) (by omega) (by omega)
structure sP (m:j5):Prop where
 c:m.Cuts.length≤8
 n:m.Nodes.length≤8
theorem s3:sP ⟨[],[]⟩:=⟨by decide,by decide⟩
theorem DV (N:Nat){m:j5}(hm:m.Cuts.length≤8)(key:ByteArray) : ∀(i2:Nat)(i t:Int),0≤i→i≤8→0≤t→t≤i→8-i<i2→Okp (M.qC N i2 m key t i) λu=>0≤u
 | 0,i,t,h0,h1,h2,h3,h4=>by omega
 | i2+1,i,t,h0,h1,h2,h3,h4=>by
  unfold M.qC M.u7
  rw [kF (x:=i+1) (by omega) (by omega),kF (x:=t+1) (by omega) (by omega)]
  exact .bp (λhi=>.ix h0 hi λx hx=>.bb (λ_=>DV N hm key i2 _ _ (by omega) (by omega) (by omega) (by omega) (by omega)) λ_=>DV N hm key i2 _ _ (by omega) (by omega) (by omega) (by omega) (by omega)) λ_=>.ret h2
theorem JG {N:Nat} (hN:100≤N) {m:j5} (hm:sP m) (key:ByteArray):Okp (M.uO N m key) λ_=>True:=by
 unfold M.uO M.yE
 exact .call (DV N hm.c key N 0 0 (by omega) (by omega) (by omega) (by omega) (by omega)) λi hi=>.bp (λh=>.ix hi h λ_ _=>.ret trivial) λ_=>.ret trivial
theorem DN {N:Nat} (k lo hi:ByteArray):Okp (M.sT N k lo hi) λ_=>True:=by
 unfold M.sT
 exact .bind (.bb (λ_=>.bb (λ_=>.ret (.ret trivial)) λ_=>.ret (.ret trivial)) λ_=>.ret (.ret trivial))
theorem FB (N:Nat){m:j5}(hm:m.Nodes.length≤8)(n:Int) : ∀(i2:Nat)(i:Int),0≤i→i≤8→8-i<i2→Okp (M.qF N i2 m n i) λ_=>True
 | 0,i,h0,h1,h4=>by omega
 | i2+1,i,h0,h1,h4=>by
  unfold M.qF
  rw [kF (x:=i+1) (by omega) (by omega)]
  refine .bp (λhi=>?_) λ_=>.ret trivial
  have k : ∀c:Bool,Okp (bif c then some 7 else M.qF N i2 m n (i+1)) λ_=>True:=λc=>
   .bb (λ_=>.ret trivial) λ_=>FB N hm n i2 _ (by omega) (by omega) (by omega)
  exact .ix h0 hi λx hx=>.bind (.bb (λ_=>.ret (k _)) λ_=>.ret (k _))
theorem FC (N:Nat)(hN:100≤N){m:j5}(hm:sP m)(n:Int) : ∀(i2:Nat)(i:Int),0≤i→i≤8→8-i<i2→Okp (M.pI N i2 m n i) λ_=>True
 | 0,i,h0,h1,h4=>by omega
 | i2+1,i,h0,h1,h4=>by
  unfold M.pI
  have hc:=hm.c
  refine .bp (λhi=>?_) λ_=>FB N hm.n n N 0 (by omega) (by omega) (by omega)
  rw [kF (x:=i+1) (by omega) (by omega),kF (x:=i-1) (by omega) (by omega)]
  have k : ∀c:Bool,Okp (bif c then some 3 else M.pI N i2 m n (i+1)) λ_=>True:=λc=>.bb (λ_=>.ret trivial) λ_=>FC N hN hm n i2 _ (by omega) (by omega) (by omega)
  exact .ix h0 hi λx hx=>.bb (λ_=>.ret trivial) λ_=>.bind (.bb (λ_=>.ret (k _)) λ_=>.bp (λh=>.ix (by omega) (by omega) λ_ _=>.ret (k _)) λ_=>.ret (k _))
theorem GF {N:Nat} (hN:100≤N) {m:j5} (hm:sP m) (n:Int):Okp (M.tW N m n) λe=>e=0→m.Nodes.length=m.Cuts.length+1:=by
 have hc:=hm.c; have hn:=hm.n
 unfold M.tW
 rw [kF (x:=(m.Cuts.length:Int)+1) (by omega) (by omega)]
 have k : ∀c:Bool,Okp (bif c then some 1 else bif decide ((m.Nodes.length:Int) > 8) then some 9 else bif (m.Nodes.length:Int) != (m.Cuts.length:Int)+1 then some 3 else M.pI N N m n 0) λe=>e=0→m.Nodes.length=m.Cuts.length+1:=λc=>
  .bb (λ_=>.ret λe=>by cases e) λ_=>.bb (λ_=>.ret λe=>by cases e) λ_=>.bb (λ_=>.ret λe=>by cases e) λh=>(FC N hN hm n N 0 (by omega) (by omega) (by omega)).mono λ_ _ _=>by
   have:(m.Nodes.length:Int)=(m.Cuts.length:Int)+1:=by simpa using h
   omega
 exact .bind (.bb (λ_=>.ret (k _)) λ_=>.ret (k _))
theorem N2 {N:Nat} {m:j5} (hm:sP m):Okp (M.vQ N m) λq=>q=m:=by
 have hc:=hm.c; have hn:=hm.n
 unfold M.vQ
 exact .ap (by simp; omega) (.ap (by simp; omega) (.ret (by simp)))
end Go.Cf
