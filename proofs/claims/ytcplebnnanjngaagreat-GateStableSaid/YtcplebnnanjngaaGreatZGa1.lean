/- The gate's parts: vectors of times, tables of times, logs, maps: that their iN come to something. -/
import Derived.Test.YtcplebnnanjngaaGreatZOk1
import Derived.Test.YtcplebnnanjngaaGreatZM1
namespace Go.Cf
open Go
def vOk (v:kC):Prop:=v.Has.length=4∧v.T.length=4
theorem DW (N:Nat)(v:kC)(hv:v.Has.length=4) : ∀(i3:Nat)(i:Int)(l:List Int),0≤i→i≤4→4-i<i3→l.length=4→Okp (M.pW N i3 v l i) λw=>vOk w∧w.Has=v.Has∧w.Epoch=v.Epoch
 | 0,i,l,h0,h1,h2,h3=>by omega
 | i3+1,i,l,h0,h1,h2,h3=>by
  unfold M.pW
  refine .bp (λhi => .ix h0 (by omega) λx hx => .bb (λ_ => .ix h0 (by omega) λy hy=>?_) λ_=>?_) λ_ => .ret ⟨⟨hv,h3⟩,rfl,rfl⟩
  all_goals
   unfold M.tW
   rw [kF (by omega) (by omega)]
   exact DW N v hv i3 _ _ (by omega) (by omega) (by omega) (by simp [h3])
theorem CQ {N:Nat} (hN:100≤N) {v:kC} (hv:vOk v):Okp (M.uD N v) λw=>vOk w∧w.Has=v.Has∧w.Epoch=v.Epoch:=
 DW N v hv.1 N 0 v.T (by omega) (by omega) (by omega) hv.2
theorem CP {N:Nat} (hN:100≤N) {v:kC} (hv:vOk v) (d t:Int):Okp (M.sY N v d t) λw=>vOk w∧w.Has=v.Has∧w.Epoch=v.Epoch:=by
 unfold M.sY
 refine .call (CQ hN hv) λw ⟨hw,h1,h2⟩ => .bind ?_
 refine .bp (λh0 => .bp (λh4 => .ix h0 (by rw [hw.1]; omega) λx hx => .ret ?_) λ_ => .ret ?_) λ_ => .ret ?_
 all_goals
  unfold M.tV
  refine .bb (λhx=>?_) λ_ => .ret ⟨hw,h1,h2⟩
 ·exact .ix h0 (by rw [hw.2]; omega) λ_ _ => .ix h0 (by rw [hw.2]; omega) λ_ _ => .ret ⟨⟨hw.1,by simp [hw.2]⟩,h1,h2⟩
 ·cases hx
 ·cases hx
theorem E5 (N:Nat)(v:kC)(hv:vOk v) : ∀(i3:Nat)(i t:Int)(b:Bool),0≤i→i≤4→4-i<i3→Okp (M.nW N i3 v t b i) λ_=>True
 | 0,i,t,b,h0,h1,h2=>by omega
 | i3+1,i,t,b,h0,h1,h2=>by
  unfold M.nW
  refine .bp (λhi => .ix h0 (by rw [hv.1]; omega) λx hx => .bind ?_) λ_ => .ret trivial
  have k : ∀t b,Okp (M.qU N (M.nW N i3) v i t b) λ_=>True:=λt b=>by
   unfold M.qU
   rw [kF (by omega) (by omega)]
   exact E5 N v hv i3 _ t b (by omega) (by omega) (by omega)
  have k2 : ∀c:Bool,Okp (bif c then Option.bind (idx v.T i) λx70=>M.qU N (M.nW N i3) v i x70 true else M.qU N (M.nW N i3) v i t b) λ_=>True:=λc => .bb (λ_ => .ix h0 (by rw [hv.2]; omega) λ_ _=>k _ _) λ_=>k _ _
  exact .bb (λ_ => .bb (λ_ => .ret (k2 _)) λ_ => .ix h0 (by rw [hv.2]; omega) λ_ _ => .ret (k2 _)) λ_ => .ret (k2 _)
theorem I4 {N:Nat} (hN:100≤N) {v:kC} (hv:vOk v):Okp (M.wD N v) λ_=>True:=
 E5 N v hv N 0 0 false (by omega) (by omega) (by omega)
theorem GF {N:Nat} (hN:100≤N) {v:kC} (hv:vOk v) (e:Int) {has:List Bool} (hh:has.length=4):Okp (M.uC N v e has) λw=>vOk w.1:=by
 unfold M.uC
 refine .bp (λ_ => .ret ⟨rfl,rfl⟩) λ_ => .call (CQ hN hv) λw hw => .call (CQ hN (v:=⟨e,has,w.T⟩) ⟨hh,hw.1.2⟩) λu hu => .ret hu.1
structure rS (n:Int)(s:j4):Prop where
 n1:1≤n
 n4:n≤4
 beats:(s.beats.length:Int)=n
 got:vOk s.got
 known:vOk s.known
theorem L5 {N:Nat} (d n:Int) (hd:0≤d∧d<4) (hn:1≤n∧n≤4) {has:List Bool} (hh:has.length=4):Okp (M.vG N d n has) λr=>r.2=0 ∧ ∃s,r.1=some s∧rS n s:=by
 unfold M.vG M.wU
 refine .bind (.bp (λh=>by omega) λ_ => .bp (λh=>by omega) λ_ => .bp (λh=>by omega) λ_ => .ret ?_)
 rw [show decide (n > 4)=false from by simp; omega]
 exact .bind (.mk (by omega) (by omega) (.ret ⟨_,rfl,rfl,_,rfl,hn.1,hn.2,by simp; omega,⟨hh,rfl⟩,⟨hh,rfl⟩⟩))
theorem E4 (N:Nat)(s:j4)(hs:s.beats.length≤4) : ∀(i3:Nat)(i t:Int),0≤i→i≤4→4-i<i3→Okp (M.nM N i3 s t i) λ_=>True
 | 0,i,t,h0,h1,h2=>by omega
 | i3+1,i,t,h0,h1,h2=>by
  unfold M.nM
  refine .bp (λhi => .ix h0 hi λx hx=>?_) λ_ => .ret trivial
  rw [kF (by omega) (by omega)]
  exact E4 N s hs i3 _ _ (by omega) (by omega) (by omega)
theorem IB {N:Nat} (hN:100≤N) {n:Int} {s:j4} (hs:rS n s):Okp (M.qB N s) λ_=>True:=by
 have h1:=hs.n1; have h4:=hs.n4; have hb:=hs.beats
 unfold M.qB
 exact .ix (by omega) (by omega) λx _=>E4 N s (by omega) N 0 x (by omega) (by omega) (by omega)
theorem DP {N:Nat} (hN:100≤N) {n:Int} {s:j4} (hs:rS n s):Okp (M.oV N s) λ_=>True:=by
 unfold M.oV
 exact .call (IB hN hs) λt _ => .call (CP hN hs.got _ t) λv hv => .call (I4 hN hv.1) λ_ _ => .ret trivial
theorem AY {N:Nat} (hN:100≤N) {n:Int} {s:j4} (hs:rS n s):Okp (M.mV N s) λt=>rS n t∧s.stable≤t.stable:=by
 unfold M.mV
 refine .call (DP hN hs) λt _ => .call (CP hN hs.known _ t) λv hv => .call (I4 hN hv.1) λu _ => .ret ⟨⟨hs.n1,hs.n4,hs.beats,hs.got,hs.known⟩,?_⟩
 show s.stable≤if u.1 > s.stable then u.1 else s.stable
 split<;>omega
theorem LT {N:Nat} (hN:100≤N) {n:Int} {s:j4} (hs:rS n s) (j t:Int):Okp (M.rZ N s j t) λu=>rS n u∧s.stable≤u.stable:=by
 unfold M.rZ
 refine .bind (.bp (λ_ => .ret (.bb (λ_ => .ret ⟨hs,Int.le_refl _⟩) λh=>by cases h)) λh0 => .ret (.bb (λ_ => .ret ⟨hs,Int.le_refl _⟩) λh=>?_))
 have h1:j<s.beats.length:=by simpa using h
 exact .ix (by omega) h1 λ_ _ => .ix (by omega) h1 λ_ _ => .call (AY hN (n:=n) ⟨hs.n1,hs.n4,by simpa using hs.beats,hs.got,hs.known⟩) λu hu => .ret hu
theorem LS {N:Nat} (hN:100≤N) {n:Int} {s:j4} (hs:rS n s) (d t:Int):Okp (M.rH N s d t) λu=>rS n u∧s.stable≤u.stable:=by
 unfold M.rH
 exact .bb (λ_ => .ret ⟨hs,Int.le_refl _⟩) λ_ => .call (CP hN hs.got d t) λv hv => .call (AY hN (n:=n) ⟨hs.n1,hs.n4,hs.beats,hv.1,hs.known⟩) λu hu => .ret hu
theorem LQ {N:Nat} (hN:100≤N) {n:Int} {s:j4} (hs:rS n s) (d e t:Int):Okp (M.rY N s d e t) λu=>rS n u∧s.stable≤u.stable:=by
 unfold M.rY
 have k : ∀c:Bool,Okp (bif c then some s else Option.bind (M.sY N s.known d t) λx13=>Option.bind (M.mV N ⟨s.dc,s.beats,s.got,x13,s.stable⟩) λx14=>some x14) λu=>rS n u∧s.stable≤u.stable:=λc=>
  .bb (λ_ => .ret ⟨hs,Int.le_refl _⟩) λ_ => .call (CP hN hs.known d t) λv hv => .call (AY hN (n:=n) ⟨hs.n1,hs.n4,hs.beats,hs.got,hv.1⟩) λu hu => .ret hu
 exact .bind (.bb (λ_ => .ret (k _)) λ_ => .ret (k _))
theorem LR {N:Nat} {n:Int} {s:j4} (hs:rS n s) (t:Int):Okp (M.tK N s t) λu=>rS n u := .ret ⟨hs.n1,hs.n4,hs.beats,hs.got,hs.known⟩
theorem KM {N:Nat} (hN:100≤N) {n:Int} {s:j4} (hs:rS n s) (d e:Int):Okp (M.qR N s d e) λu=>rS n u.2:=by
 unfold M.qR M.wU
 refine .bind (.bp (λ_ => .ret (.bb (λ_ => .ret hs) λh=>by cases h)) λh0 => .ret (.bp (λ_ => .ret hs) λh=>?_))
 exact .ix (by omega) (by rw [hs.got.1]; omega) λ_ _ => .bb (λ_ => .ret hs) λ_ => .bb (λ_ => .ret hs) λ_ => .ix (by omega) (by rw [hs.got.1]; omega) λ_ _ => .call (GF hN hs.got e (by simp [hs.got.1])) λv hv => .bind (.ret (.ret ⟨hs.n1,hs.n4,hs.beats,hv,⟨by simp [hs.got.1],rfl⟩⟩))
theorem L6 {N:Nat} (hN:100≤N) {n:Int} {s:j4} (hs:rS n s) (d e:Int):Okp (M.rG N s d e) λu=>rS n u.2:=by
 unfold M.rG
 refine .bind (.bp (λ_ => .ret (.bb (λ_ => .ret hs) λh=>by cases h)) λh0 => .ret (.bp (λ_ => .ret hs) λh=>?_))
 exact .ix (by omega) (by rw [hs.got.1]; omega) λ_ _ => .bb (λ_ => .ret hs) λ_ => .bb (λ_ => .ret hs) λ_ => .ix (by omega) (by rw [hs.got.1]; omega) λ_ _ => .call (GF hN hs.got e (by simp [hs.got.1])) λv hv => .call (CQ hN (v:=⟨s.known.Epoch,List.set s.got.Has (Int.toNat d) false,s.known.T⟩) ⟨by simp [hs.got.1],hs.known.2⟩) λx hx => .call (AY hN (n:=n) ⟨hs.n1,hs.n4,hs.beats,hv,⟨hx.1.1,hx.1.2⟩⟩) λu hu => .ret hu.1
theorem MD {N:Nat} (a b:mJ):Okp (M.zF N a b) λ_=>True:=by
 unfold M.zF M.wI
 have k : ∀c:Bool,Okp (Option.bind (bif c then some (-1:Int) else some 1) λx=>some x) λ_=>True:=λc => .bind (.bb (λ_ => .ret (.ret trivial)) λ_ => .ret (.ret trivial))
 exact .bb (λ_=>k _) λ_ => .bb (λ_=>k _) λ_ => .bb (λ_=>k _) λ_ => .ret trivial
theorem GM {N:Nat} {r:kK} (h:r.Vers.length<1000000):Okp (M.sO N r) λq=>q=r:=by
 unfold M.sO
 exact .ap (by simp; omega) (.ret (by simp))
structure t7 (k v:Nat)(l:jD):Prop where
 len:l.list.length+l.waiting.length≤k
 vl : ∀r∈l.list,r.Vers.length≤v
 vw : ∀r∈l.waiting,r.Vers.length≤v
theorem t7.mono {k k' v:Nat} {l:jD} (h:t7 k v l) (hk:k≤k'):t7 k' v l:=⟨Nat.le_trans h.len hk,h.vl,h.vw⟩
theorem LV {v k:Nat}:t7 k v ⟨[],[],0⟩:=⟨Nat.zero_le _,(λ_ h=>by cases h),λ_ h=>by cases h⟩
theorem A4 (N:Nat){k v:Nat}{l:jD}(hl:t7 k v l)(hk:k<1000000)(hv:v<1000000){r:kK}(hr:r.Vers.length≤v) : ∀(i3:Nat)(i t:Int),0≤i→i≤l.waiting.length→0≤t→t≤i→l.waiting.length-i<i3→Okp (M.m3 N i3 l r t i) λu=>t7 (k+1) v u.2
 | 0,i,t,h0,h1,h2,h3,h4=>by omega
 | i3+1,i,t,h0,h1,h2,h3,h4=>by
  have hlen:=hl.len
  unfold M.m3 M.vL M.pR
  refine .bp (λhi => .ix h0 hi λx hx => .bind (.ret (.bind (.ret (.call (MD _ _) λc _ => .bb (λ_ => .ret (hl.mono (by omega))) λ_ => .bb (λ_=>?_) λ_=>?_))))) λhi=>?_
  ·rw [kF (x:=i+1) (by omega) (by omega)]
   exact A4 N hl hk hv hr i3 _ _ (by omega) (by omega) (by omega) (by omega) (by omega)
  ·rw [kF (x:=i+1) (by omega) (by omega)]
   exact A4 N hl hk hv hr i3 _ _ (by omega) (by omega) (by omega) (by omega) (by omega)
  ·refine .sl (by omega) (by omega) (by omega) (.ap (by simp; omega) (.call (GM (by omega:r.Vers.length<1000000)) λq hq => .ap (by simp; omega) (.sl (by omega) (by omega) (by omega) (.ap (by simp; omega) (.ret ⟨?_,hl.vl,?_⟩)))))
   ·simp; omega
   ·intro y hy
    simp only [List.nil_append,List.append_assoc,List.mem_append,List.mem_singleton] at hy
    rcases hy with hy|hy|hy
    ·exact hl.vw y (List.mem_of_mem_take (List.mem_of_mem_drop hy))
    ·subst hy; rw [hq]; exact hr
    ·exact hl.vw y (List.mem_of_mem_take (List.mem_of_mem_drop hy))
theorem JX {N k v:Nat} {l:jD} (hl:t7 k v l) (hN:k<N) (hk:k<1000000) (hv:v<1000000) {r:kK} (hr:r.Vers.length≤v):Okp (M.rI N l r) λu=>t7 (k+1) v u.2:=by
 have:=hl.len
 unfold M.rI
 exact .bb (λ_ => .ret (hl.mono (by omega))) λ_=>A4 N hl hk hv hr N 0 0 (by omega) (by omega) (by omega) (by omega) (by omega)
theorem B6 (N:Nat){k v:Nat}{l:jD}(hl:t7 k v l)(hk:k<1000000)(t:Int) : ∀(i3:Nat)(i:Int),0≤i→i≤l.waiting.length→l.waiting.length-i<i3→Okp (M.n7 N i3 l t i) λu=>t7 k v u.2
 | 0,i,h0,h1,h4=>by omega
 | i3+1,i,h0,h1,h4=>by
  have hlen:=hl.len
  unfold M.n7
  have fin:Okp (Option.bind (slc l.waiting 0 i) λx75=>Option.bind (apd l.list x75) λx78=>Option.bind (slc l.waiting i (l.waiting.length:Int)) λx82=>some (i,jD.mk x78 x82 (if t > l.bound then t else l.bound))) λu=>t7 k v u.2:=by
   refine .sl (by omega) (by omega) (by omega) (.ap (by simp; omega) (.sl (by omega) (by omega) (by omega) (.ret ⟨?_,λy hy=>?_,λy hy=>?_⟩)))
   ·simp; omega
   ·rcases List.mem_append.1 hy with hy|hy
    ·exact hl.vl y hy
    ·exact hl.vw y (List.mem_of_mem_take (List.mem_of_mem_drop hy))
   ·exact hl.vw y (List.mem_of_mem_take (List.mem_of_mem_drop hy))
  refine .bind (.bp (λhi => .ix h0 hi λx hx => .ret (.bb (λ_=>?_) λ_=>fin)) λhi => .ret fin)
  rw [kF (by omega) (by omega)]
  exact B6 N hl hk t i3 _ (by omega) (by omega) (by omega)
theorem IY {N k v:Nat} {l:jD} (hl:t7 k v l) (hN:k<N) (hk:k<1000000) (t:Int):Okp (M.sH N l t) λu=>t7 k v u.2:=by
 have:=hl.len
 exact B6 N hl hk t N 0 (by omega) (by omega) (by omega)
structure sJ (m:jA):Prop where
 c:m.Cuts.length≤8
 n:m.Nodes.length≤8
theorem rW:sJ ⟨[],[]⟩:=⟨by decide,by decide⟩
theorem D3 (N:Nat){m:jA}(hm:m.Cuts.length≤8)(key:ByteArray) : ∀(i3:Nat)(i t:Int),0≤i→i≤8→0≤t→t≤i→8-i<i3→Okp (M.pX N i3 m key t i) λu=>0≤u
 | 0,i,t,h0,h1,h2,h3,h4=>by omega
 | i3+1,i,t,h0,h1,h2,h3,h4=>by
  unfold M.pX M.tX
  rw [kF (x:=i+1) (by omega) (by omega),kF (x:=t+1) (by omega) (by omega)]
  exact .bp (λhi => .ix h0 hi λx hx => .bb (λ_=>D3 N hm key i3 _ _ (by omega) (by omega) (by omega) (by omega) (by omega)) λ_=>D3 N hm key i3 _ _ (by omega) (by omega) (by omega) (by omega) (by omega)) λ_ => .ret h2
theorem II {N:Nat} (hN:100≤N) {m:jA} (hm:sJ m) (key:ByteArray):Okp (M.uF N m key) λ_=>True:=by
 unfold M.uF M.xV
 exact .call (D3 N hm.c key N 0 0 (by omega) (by omega) (by omega) (by omega) (by omega)) λi hi => .bp (λh => .ix hi h λ_ _ => .ret trivial) λ_ => .ret trivial
theorem CW {N:Nat} (k lo hi:ByteArray):Okp (M.sN N k lo hi) λ_=>True:=by
 unfold M.sN
 exact .bind (.bb (λ_ => .bb (λ_ => .ret (.ret trivial)) λ_ => .ret (.ret trivial)) λ_ => .ret (.ret trivial))
theorem EH (N:Nat){m:jA}(hm:m.Nodes.length≤8)(n:Int) : ∀(i3:Nat)(i:Int),0≤i→i≤8→8-i<i3→Okp (M.q6 N i3 m n i) λ_=>True
 | 0,i,h0,h1,h4=>by omega
 | i3+1,i,h0,h1,h4=>by
  unfold M.q6
  rw [kF (x:=i+1) (by omega) (by omega)]
  refine .bp (λhi=>?_) λ_ => .ret trivial
  have k : ∀c:Bool,Okp (bif c then some 7 else M.q6 N i3 m n (i+1)) λ_=>True:=λc=>
   .bb (λ_ => .ret trivial) λ_=>EH N hm n i3 _ (by omega) (by omega) (by omega)
  exact .ix h0 hi λx hx => .bind (.bb (λ_ => .ret (k _)) λ_ => .ret (k _))
theorem EI (N:Nat)(hN:100≤N){m:jA}(hm:sJ m)(n:Int) : ∀(i3:Nat)(i:Int),0≤i→i≤8→8-i<i3→Okp (M.oZ N i3 m n i) λ_=>True
 | 0,i,h0,h1,h4=>by omega
 | i3+1,i,h0,h1,h4=>by
  unfold M.oZ
  have hc:=hm.c
  refine .bp (λhi=>?_) λ_=>EH N hm.n n N 0 (by omega) (by omega) (by omega)
  rw [kF (x:=i+1) (by omega) (by omega),kF (x:=i-1) (by omega) (by omega)]
  have k : ∀c:Bool,Okp (bif c then some 3 else M.oZ N i3 m n (i+1)) λ_=>True:=λc => .bb (λ_ => .ret trivial) λ_=>EI N hN hm n i3 _ (by omega) (by omega) (by omega)
  exact .ix h0 hi λx hx => .bb (λ_ => .ret trivial) λ_ => .bind (.bb (λ_ => .ret (k _)) λ_ => .bp (λh => .ix (by omega) (by omega) λ_ _ => .ret (k _)) λ_ => .ret (k _))
theorem FJ {N:Nat} (hN:100≤N) {m:jA} (hm:sJ m) (n:Int):Okp (M.tO N m n) λe=>e=0→m.Nodes.length=m.Cuts.length+1:=by
 have hc:=hm.c; have hn:=hm.n
 unfold M.tO
 rw [kF (x:=(m.Cuts.length:Int)+1) (by omega) (by omega)]
 have k : ∀c:Bool,Okp (bif c then some 1 else bif decide ((m.Nodes.length:Int) > 8) then some 9 else bif (m.Nodes.length:Int) != (m.Cuts.length:Int)+1 then some 3 else M.oZ N N m n 0) λe=>e=0→m.Nodes.length=m.Cuts.length+1:=λc=>
  .bb (λ_ => .ret λe=>by cases e) λ_ => .bb (λ_ => .ret λe=>by cases e) λ_ => .bb (λ_ => .ret λe=>by cases e) λh=>(EI N hN hm n N 0 (by omega) (by omega) (by omega)).mono λ_ _ _=>by
   have:(m.Nodes.length:Int)=(m.Cuts.length:Int)+1:=by simpa using h
   omega
 exact .bind (.bb (λ_ => .ret (k _)) λ_ => .ret (k _))
theorem LU {N:Nat} {m:jA} (hm:sJ m):Okp (M.vC N m) λq=>q=m:=by
 have hc:=hm.c; have hn:=hm.n
 unfold M.vC
 exact .ap (by simp; omega) (.ap (by simp; omega) (.ret (by simp)))
end Go.Cf
