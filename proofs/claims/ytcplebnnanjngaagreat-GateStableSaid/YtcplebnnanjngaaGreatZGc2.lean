/- The plain law of GateStable. -/
import Derived.ProofKit
import Derived.Test.YtcplebnnanjngaaGreatZGc1
import Derived.Test.YtcplebnnanjngaaGreatZM1
namespace Go.Cf
open Go
theorem LJ:M.uP 1000000=some true:=by kernel_rfl
def stI (z:Int) (i:Nat) (g:jV) (m:Mp Int Int):Prop := ∃S A l,GG i i (3000*i) S A z g∧m=some l ∧ ∀k,(jU l k).getD 0=A k
theorem GG.st {i k u:Nat} {S A:Int→Int} {z:Int} {g:jV} (h:GG i k u S A z g) : ∃s,g.st=some s:=by
 obtain ⟨s,e,_⟩:=h.1.st
 exact ⟨s,e⟩
theorem GG.tell {i k u:Nat} {S A:Int→Int} {z:Int} {g:jV} (h:GG i k u S A z g) {s:j4} (hs:g.st=some s):GG i k u S A z {g with st:=some s}:=by
 obtain ⟨h1,h2,h3,h4⟩:=h
 rw [hs] at h1
 exact ⟨h1,h2,h3,h4⟩
section
variable {z:Int}{N:Nat}(a3:List kP)
theorem I7 (rec1:List kP→Option jV→Mp Int Int→Int→Option Bool)(j:Int)(m:Mp Int Int)(v:Option jV×List jM×Int)(hl:v.2.2=v.2.1.length)(hsm:v.2.1.length≤10)(hrs : ∀r∈v.2.1,r.Kind=2→(mGet m r.Call).getD 0<r.Mark.TS)(fin:Okp (rec1 a3 v.1 m (IntKind.i64.wrap (j+1))) (· = true)) : ∀(i3:Nat)(i:Int),0≤i→i≤v.2.1.length→v.2.1.length-i<i3→Okp (M.nO N rec1 i3 a3 j m v i) (· = true)
 | 0,i,g0,g1,g2=>by omega
 | i3+1,i,g0,g1,g2=>by
  unfold M.nO
  rw [kF (x:=i+1) (by omega) (by omega)]
  refine .bp (λhi => .ix g0 (by omega) λr hr => .call (R:=λv=>v=false) (.bb (λh2 => .mg (.ret ?_)) λ_ => .ret rfl) λw hw=>?_) λ_=>fin
  ·have h2:r.Kind=2:=by simpa using h2
   have:=hrs r (List.mem_of_getElem? hr) h2
   exact decide_eq_false (by show ¬r.Mark.TS≤(mGet m r.Call).getD 0; omega)
  ·subst hw
   exact .bb (λh=>by cases h) λ_=>I7 rec1 j m v hl hsm hrs fin i3 _ (by omega) (by omega) (by omega)
end
theorem FF.small {S A:Int→Int} {rs:List jM} {S':Int→Int} (h:FF S A rs S'):rs.length≤1:=by
 rcases h with ⟨rfl,_⟩ | ⟨r,rfl,_⟩<;>simp
theorem FF.two {S A:Int→Int} {rs:List jM} {S':Int→Int} (h:FF S A rs S') : ∀r∈rs,r.Kind=2→A r.Call<r.Mark.TS:=by
 rcases h with ⟨rfl,_⟩ | ⟨r,rfl,h⟩
 ·intro r hr; cases hr
 ·intro r' hr h2
  rw [List.mem_singleton.1 hr] at h2 ⊢
  rcases h with ⟨h,_⟩ | ⟨_,_,h,_⟩ | ⟨h,_⟩
  ·omega
  ·exact h
  ·omega
theorem I8 (N:Nat)(hN:1000000≤N)(haw:M.uP N=some true){z:Int}(a3:List kP)(h3 : ∀o∈a3,JU o) : ∀(i3 i:Nat)(g:jV)(m:Mp Int Int),i≤100→100-i<i3→stI z i g m→Okp (M.lG N i3 a3 (some g) m i) (· = true)
 | 0,i,g,m,g0,g1,g2=>by omega
 | i3+1,i,g,m,g0,g1,g2=>by
  obtain ⟨S,A,l,hG,rfl,hA⟩:=g2
  obtain ⟨s,hs⟩:=hG.st
  have hz:=hG.1.z4
  unfold M.lG
  refine .call (R:=λv=>v=true→(i:Int)<a3.length∧(i:Int)<100) (.bp (λh1 => .ret λh2=>⟨h1,of_decide_eq_true h2⟩) λ_ => .ret (λh=>by cases h)) λv hv => .bb (λhvt=>?_) λ_=>by rw [haw]; exact .bind (.ret (.ret rfl))
  obtain ⟨hi1,hi2⟩:=hv hvt
  refine .ix (by omega) hi1 λo ho=>?_
  refine .call (MJ (h3 o (List.mem_of_getElem? ho))) λq ⟨q1,q2,q3,q4⟩=>?_
  refine .call (R:=λv=>v=(some {g with st:=some s},s.stable,g.role)) (.oc (λh=>by cases h) λb hb=>?_) λv hv=>?_
  ·simp only [Option.some.injEq] at hb
   subst hb
   unfold M.rP
   exact .call (M2 hs) λr hr => .bind (.ret (.ret (by rw [hr])))
  subst hv
  have hG':=hG.tell hs
  refine .call (R:=λv => ∃(code:Int) (r:TkT),v=(some (gmk g r r.2.2.2.2.2.2.2.2.2.2.2.2.2.2.2.2.2.2.2.2.2.2.2.2.2.2.2.2.2.2.2),(bif code==0 then q.Kind==3 else false))∧tQ (i+1) (i+1) (3000*i+3000) (opS S i q.Kind code) (opA A i q.Kind code (if q.T > s.stable then q.T else s.stable)) z (some s) q.Msg.Kind r) (.oc (λh=>by cases h) λb hb=>?_) λv ⟨code,r,e1,hr⟩=>?_
  ·simp only [Option.some.injEq] at hb
   subst hb
   refine .call (R:=λv => ∃(code:Int) (r:TkT),v=(gmk g r r.2.2.2.2.2.2.2.2.2.2.2.2.2.2.2.2.2.2.2.2.2.2.2.2.2.2.2.2.2.2.2,(bif code==0 then q.Kind==3 else false))∧tQ (i+1) (i+1) (3000*i+3000) (opS S i q.Kind code) (opA A i q.Kind code (if q.T > s.stable then q.T else s.stable)) z (some s) q.Msg.Kind r) ?_ λv ⟨code,r,e1,hr⟩ => .ret ⟨code,r,by rw [e1],hr⟩
   refine .call (MK hN (z:=z) hG'.2.2.1 hG'.2.2.2 rfl hG'.2.1 _ _ _ _ _ _ _ _ _ _ _ hG'.1 (by omega) (by omega) (o:={q with Call:=(i:Int)}) rfl q4) λr hr => .bb (λh0 => .ret ⟨r.1,r.2,?_,hr⟩) λh0 => .ret ⟨r.1,r.2,?_,hr⟩
   ·rw [h0]; rfl
   ·rw [h0]; rfl
  subst e1
  obtain ⟨S',hr1,hr2,hr3⟩:=hr
  have hA' : ∀(m':Mp Int Int) l',m'=some l'→(∀k,(jU l' k).getD 0=opA A i q.Kind code (if q.T > s.stable then q.T else s.stable) k)→Okp (M.oL N (M.lG N i3) a3 (i:Int) q (some {g with st:=some s},s.stable,g.role) (some (gmk g r r.2.2.2.2.2.2.2.2.2.2.2.2.2.2.2.2.2.2.2.2.2.2.2.2.2.2.2.2.2.2.2)) m') (· = true):=λm' l' e hl=>by
   subst e
   obtain ⟨s1,hs1,_⟩:=hr1.st
   have hs1:r.2.2.2.2.2.2.2.2.2.1=some s1:=hs1
   unfold M.oL
   refine .call (R:=λv => ∃g',v=(some g',false)∧g'.replies=r.2.2.2.2.2.2.2.2.2.2.2.2.2.2.2.2.2.2.2.2.2.2.2.2.2.2.2.2.2.2.2∧(∀S A,TkG (i+1) (i+1) (3000*i+3000) S A z r→GG (i+1) (i+1) (3000*i+3000) S A z {g' with replies:=[]})) (.oc (λh=>by cases h) λb hb=>?_) λv ⟨g',e1,e2,e3⟩=>?_
   ·simp only [Option.some.injEq] at hb
    subst hb
    have same : ∀S A,TkG (i+1) (i+1) (3000*i+3000) S A z r→GG (i+1) (i+1) (3000*i+3000) S A z (gmk g r []):=λS A h=>⟨h,rfl,hG.2.2.1,hG.2.2.2⟩
    unfold M.rP
    refine .call (R:=λv => ∃g',v=(g',false)∧g'.replies=r.2.2.2.2.2.2.2.2.2.2.2.2.2.2.2.2.2.2.2.2.2.2.2.2.2.2.2.2.2.2.2∧(∀S A,TkG (i+1) (i+1) (3000*i+3000) S A z r→GG (i+1) (i+1) (3000*i+3000) S A z {g' with replies:=[]})) (.bb (λ_ => .bind (.ret (.bb (λ_ => .bb (λ_ => .call (M2 hs1) λx hx => .bp (λhlt => .ret ⟨_,Prod.ext rfl ?_,rfl,?_⟩) λ_ => .ret ⟨_,rfl,rfl,?_⟩) λ_ => .ret ⟨_,rfl,rfl,same⟩) λ_ => .ret ⟨_,rfl,rfl,same⟩))) λ_ => .ret ⟨_,rfl,rfl,same⟩) λv ⟨g',e1,e2,e3⟩ => .ret ⟨g',by rw [e1],e2,e3⟩
    ·subst hx
     have hk:q.Msg.Kind=21:=Classical.byContradiction λhne=>by
      obtain ⟨s2,h1,h2⟩:=hr3 hne s rfl
      rw [hs1] at h1
      simp only [Option.some.injEq] at h1
      subst h1
      have hlt:s1.stable<s.stable:=hlt
      omega
     show (q.Msg.Kind != 21)=false
     rw [hk]; rfl
    all_goals
     subst hx
     intro S A h
     refine ⟨?_,rfl,hG.2.2.1,hG.2.2.2⟩
     have h':Gi (i+1) (i+1) (3000*i+3000) S A z r.2.1 r.2.2.1 r.2.2.2.1 r.2.2.2.2.1 r.2.2.2.2.2.1 r.2.2.2.2.2.2.1 r.2.2.2.2.2.2.2.1 r.2.2.2.2.2.2.2.2.2.1 r.2.2.2.2.2.2.2.2.2.2.1 r.2.2.2.2.2.2.2.2.2.2.2.1 r.2.2.2.2.2.2.2.2.2.2.2.2.2.1 r.2.2.2.2.2.2.2.2.2.2.2.2.2.2.1 r.2.2.2.2.2.2.2.2.2.2.2.2.2.2.2.1 r.2.2.2.2.2.2.2.2.2.2.2.2.2.2.2.2.1 r.2.2.2.2.2.2.2.2.2.2.2.2.2.2.2.2.2.1 r.2.2.2.2.2.2.2.2.2.2.2.2.2.2.2.2.2.2.1 r.2.2.2.2.2.2.2.2.2.2.2.2.2.2.2.2.2.2.2.1 r.2.2.2.2.2.2.2.2.2.2.2.2.2.2.2.2.2.2.2.2.1 r.2.2.2.2.2.2.2.2.2.2.2.2.2.2.2.2.2.2.2.2.2.2.2.2.2.1 r.2.2.2.2.2.2.2.2.2.2.2.2.2.2.2.2.2.2.2.2.2.2.2.2.2.2.2.2.2.2.1:=h
     rw [hs1] at h'
     exact h'
   subst e1
   refine .bb (λh=>by cases h) λ_ => .call (R:=λv=>v=(some {g' with replies:=[]},r.2.2.2.2.2.2.2.2.2.2.2.2.2.2.2.2.2.2.2.2.2.2.2.2.2.2.2.2.2.2.2,(r.2.2.2.2.2.2.2.2.2.2.2.2.2.2.2.2.2.2.2.2.2.2.2.2.2.2.2.2.2.2.2.length:Int))) (.oc (λh=>by cases h) λb hb=>?_) λv hv=>?_
   ·simp only [Option.some.injEq] at hb
    subst hb
    unfold M.qZ
    exact .bind (.ret (.ret (by rw [e2])))
   subst hv
   have hsm:=hr2.small
   refine I7 a3 _ (i:Int) _ _ rfl (by show r.2.2.2.2.2.2.2.2.2.2.2.2.2.2.2.2.2.2.2.2.2.2.2.2.2.2.2.2.2.2.2.length≤_; omega) (λx hx hx2=>?_) ?_ N 0 (by omega) (by omega) (by show (r.2.2.2.2.2.2.2.2.2.2.2.2.2.2.2.2.2.2.2.2.2.2.2.2.2.2.2.2.2.2.2.length:Int)-0<_; omega)
   ·have:=hr2.two x hx hx2
    show (jU l' x.Call).getD 0<_
    rw [hl]
    exact this
   ·rw [kF (x:=(i:Int)+1) (by omega) (by omega)]
    exact I8 N hN haw a3 h3 i3 (i+1) _ _ (by omega) (by omega) ⟨S',_,l',e3 _ _ hr1,rfl,hl⟩
  refine .bb (λhf => .mp (hA' _ _ rfl λk=>?_)) λhf=>hA' _ _ rfl λk=>?_
  ·have hf:code=0∧q.Kind=3:=by
    have hf:(bif code==0 then q.Kind==3 else false)=true:=hf
    cases hc:(code==0)
    ·rw [hc] at hf; cases hf
    ·rw [hc] at hf; exact ⟨by simpa using hc,by simpa using hf⟩
   unfold opA
   rw [if_pos hf,mP]
   unfold upS
   split
   ·rfl
   ·exact hA k
  ·have hf : ¬(code=0∧q.Kind=3):=λ⟨h1,h2⟩=>by
    have hf:(bif code==0 then q.Kind==3 else false)=false:=hf
    rw [h1,h2] at hf
    cases hf
   unfold opA
   rw [if_neg hf]
   exact hA k
theorem DY (a1:Int) (a2:List Bool) (h2:a2.length=4) (a3:List kP) (h3 : ∀o∈a3,JU o):M.rK 1000000 a1 a2 a3=some true:=by
 suffices h:Okp (M.rK 1000000 a1 a2 a3) (· = true) by
  obtain ⟨b,h1,h2⟩:=h
  rw [h1,h2]
 unfold M.rK
 have hz:=JV a1
 generalize IntKind.i64.wrap ((IntKind.i64.wrap (Int.tmod (IntKind.u64.wrap a1) 4))+1)=z at hz
 refine .ix (by omega) (by omega) λ_ _ => .call (LH (by omega)) λmo hmo => .call (MH (by omega) 0 0 0 (λ_=>0) (λ_=>0) (λk h=>absurd rfl h) hz (by simpa using h2) hmo) λx ⟨hx,g,hg,hG⟩=>?_
 obtain ⟨x1,x2⟩:=x
 simp only at hx hg
 subst hx hg
 refine .call (R:=λv=>v=(some g,false)) (.oc (λh=>by cases h) λb hb=>?_) λv hv=>?_
 ·simp only [Option.some.injEq] at hb
  subst hb
  exact .call (R:=λv=>v=false) (.bb (λh=>by cases h) λ_ => .ret rfl) λv hv => .ret (by rw [hv])
 subst hv
 exact .bb (λh=>by cases h) λ_=>I8 1000000 (by omega) LJ a3 h3 1000000 0 g _ (by omega) (by omega) ⟨_,_,[],hG,rfl,λ_=>rfl⟩
end Go.Cf
