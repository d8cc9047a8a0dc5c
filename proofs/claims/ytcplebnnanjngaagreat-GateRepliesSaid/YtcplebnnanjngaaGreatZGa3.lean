/- The gate's parts: transactions. -/
import Derived.Test.YtcplebnnanjngaaGreatZGa2
set_option linter.unusedVariables false
namespace Go.Cf
open Go
theorem yK : ∀ {l s:List Int},l.Nodup→(∀x∈l,x∈s)→l.length≤s.length
 | [],s,_,_=>Nat.zero_le _
 | a::l,s,h,hs=>by
  obtain ⟨h1,h2⟩:=List.nodup_cons.1 h
  have ha:a∈s:=hs a (by simp)
  have:=yK (s:=s.erase a) h2 λx hx=>(List.mem_erase_of_ne (a:=x) (b:=a) λe=>h1 (by rw [← e]; exact hx)).2 (hs x (by simp [hx]))
  rw [List.length_erase_of_mem ha] at this
  have:0<s.length:=List.length_pos_of_mem ha
  simp only [List.length_cons]; omega
abbrev nods (l:List jJ):List Int:=l.map (·.Node)
structure eOk (e:jH):Prop where
 n0:0<e.shares.length
 n4:e.shares.length≤4
 nd:(nods e.shares).Nodup
 vs : ∀s∈e.shares,s.Vers.length≤8
 votes : ∃l,e.votes=some l∧Srt l∧(∀k∈l.map (·.1),k∈nods e.shares)∧e.decided=((l.length:Int)==(e.shares.length:Int))∧(l≠[]→e.low<e.at_)
 ended : ∃l,e.ended=some l
structure wW (B:Nat)(l:List (Int×jH)):Prop where
 srt:Srt l
 len:l.length≤B
 ent : ∀p∈l,eOk p.2
theorem wW.find {B:Nat} {l:List (Int×jH)} (h:wW B l) {k:Int} {e:jH} (he:jS l k=some e):eOk e:=h.ent _ (pY he)
theorem uC {K V:Type} [DecidableEq K] [KO K] : ∀ {l:List (K×V)}{k:K}{v x:V},Srt l→jS l k=some x→(lPut l k v).length=l.length
 | [],k,v,x,_,h=>by cases h
 | y::l,k,v,x,hs,h=>by
  obtain ⟨h1,h2⟩:=List.pairwise_cons.1 hs
  unfold lPut
  split
  ·rfl
  ·rename_i hne
   have hl:jS l k=some x:=by
    unfold jS at h ⊢
    rw [List.find?_cons_of_neg (by simpa using hne)] at h
    exact h
   have hm:=pY hl
   have hlt:=h1 _ hm
   split
   ·rename_i hlt'
    have:=KO.tr _ _ _ hlt hlt'
    rw [KO.irr] at this
    cases this
   ·simp [uC h2 hl]
theorem xH {K V:Type} [DecidableEq K] [KO K] : ∀ {l:List (K×V)}{k:K}{v:V},jS l k=none→(lPut l k v).length=l.length+1
 | [],k,v,_=>rfl
 | y::l,k,v,h=>by
  have hn:=oF.1 h
  unfold lPut
  rw [if_neg (hn y (by simp))]
  split
  ·rfl
  ·simp [xH (l:=l) (oF.2 λp hp=>hn p (by simp [hp]))]
theorem wW.put {B:Nat} {l:List (Int×jH)} (h:wW B l) {k:Int} {e e':jH} (he:jS l k=some e) (h':eOk e'):wW B (lPut l k e'):=
 ⟨oK h.srt _ _,by rw [uC h.srt he]; exact h.len,λp hp=>by
  rcases tM hp with rfl|hp
  ·exact h'
  ·exact h.ent p hp⟩
theorem AE (N:Nat)(hN:100≤N){m:j5}(hm:sP m){w:Nat}(hw40:w≤40){ws:List jB}(hw:ws.length≤w)(F:List jJ→Prop)(rec1:j5→List jB→List jJ→Int→Option (List jJ))(out:List jJ)(ho:out.length≤4)(n:Int)(h0:0≤n)(h4:n<4)
  (hr : ∀o,(o=out ∨ ∃l,o=out++[⟨n,l⟩]∧l.length≤w∧l≠[])→Okp (rec1 m ws o (n+1)) F) : ∀(i2:Nat) (i:Int) (l:List jB),0≤i→i≤w→(l.length:Int)≤i→w-i<i2→i≤ws.length→Okp (M.oE N rec1 i2 m ws out n l i) F
 | 0,i,l,g0,g1,g2,g3,g4=>by omega
 | i2+1,i,l,g0,g1,g2,g3,g4=>by
  unfold M.oE M.sC M.sD
  rw [kF (x:=i+1) (by omega) (by omega),kF (x:=n+1) (by omega) (by omega)]
  refine .bp (λhi=>.ix g0 hi λx hx=>.call (JG hN hm _) λo _=>.bb (λ_=>.ap (by simp; omega) ?_) λ_=>?_) λhi=>.bp (λh=>.ap (by simp; omega) ?_) λ_=>hr _ (.inl rfl)
  ·exact AE N hN hm hw40 hw F rec1 out ho n h0 h4 hr i2 _ _ (by omega) (by omega) (by simp; omega) (by omega) (by omega)
  ·exact AE N hN hm hw40 hw F rec1 out ho n h0 h4 hr i2 _ _ (by omega) (by omega) (by omega) (by omega) (by omega)
  ·exact hr _ (.inr ⟨l,rfl,by omega,λe=>by rw [e] at h; simp at h⟩)
structure DJ (w:Nat)(sh:List jJ):Prop where
 n4:sh.length≤4
 nd:(nods sh).Nodup
 vs : ∀s∈sh,s.Vers.length≤w
theorem AF (N:Nat)(hN:100≤N){m:j5}(hm:sP m){w:Nat}(hw40:w≤40){ws:List jB}(hw:ws.length≤w) : ∀(i2:Nat)(i:Int)(out:List jJ),0≤i→i≤4→4-i<i2→(out.length:Int)≤i→DJ w out→(∀k∈nods out,k<i)→Okp (M.nO N i2 m ws out i) (DJ w)
 | 0,i,out,g0,g1,g2,g3,g4,g5=>by omega
 | i2+1,i,out,g0,g1,g2,g3,g4,g5=>by
  unfold M.nO
  refine .bp (λhi=>AE N hN hm hw40 hw _ _ out (by omega) i g0 hi (λo ho=>?_) N 0 [] (by omega) (by omega) (by simp) (by omega) (by omega)) λ_=>.ret g4
  rcases ho with rfl | ⟨l,rfl,hl,_⟩
  ·exact AF N hN hm hw40 hw i2 _ _ (by omega) (by omega) (by omega) (by omega) g4 λk hk=>by have:=g5 k hk; omega
  ·refine AF N hN hm hw40 hw i2 _ _ (by omega) (by omega) (by omega) (by simp; omega) ⟨by simp; omega,?_,?_⟩ λk hk=>?_
   ·simp only [nods,List.map_append,List.map_cons,List.map_nil]
    exact List.nodup_append.2 ⟨g4.nd,by simp,λx hx y hy=>by simp at hy; subst hy; have:=g5 x hx; omega⟩
   ·intro s hs
    rcases List.mem_append.1 hs with hs|hs
    ·exact g4.vs s hs
    ·rw [List.mem_singleton.1 hs]; exact hl
   ·simp only [nods,List.map_append,List.map_cons,List.map_nil,List.mem_append,List.mem_singleton] at hk
    rcases hk with hk|hk
    ·have:=g5 k hk; omega
    ·omega
theorem HW {N:Nat} (hN:100≤N) {m:j5} (hm:sP m) {w:Nat} (hw40:w≤40) {ws:List jB} (hw:ws.length≤w):Okp (M.uF N m ws) (DJ w):=
 AF N hN hm hw40 hw N 0 [] (by omega) (by omega) (by omega) (by simp) ⟨by simp,by simp [nods],λ_ h=>by cases h⟩ λ_ h=>by cases h
theorem M2 (N:Nat)(t:j9)(tx node:Int)(e:jH)(h4:e.shares.length≤4) : ∀(i2:Nat)(i:Int),0≤i→i≤4→4-i<i2→Okp (M.nW N i2 t tx node e i) λr=>r.2=0→r.1=true∧node∈nods e.shares
 | 0,i,g0,g1,g2=>by omega
 | i2+1,i,g0,g1,g2=>by
  unfold M.nW
  rw [kF (x:=i+1) (by omega) (by omega)]
  refine .bp (λhi=>.ix g0 hi λx hx=>.bb (λh=>.ret λ_=>⟨rfl,?_⟩) λ_=>M2 N t tx node e h4 i2 _ (by omega) (by omega) (by omega)) λ_=>.ret (λh=>by cases h)
  have:x.Node=node:=by simpa using h
  exact this▸List.mem_map.2 ⟨x,List.mem_of_getElem? hx,rfl⟩
theorem M3 {N B:Nat} (hN:100≤N) {l:List (Int×jH)} (hl:wW B l) (tx node:Int):Okp (M.qN N ⟨some l⟩ tx node) λr=>r.2=0→r.1=true ∧ ∃e,jS l tx=some e∧node∈nods e.shares:=by
 unfold M.qN
 have h:mGet (some l) tx=jS l tx:=rfl
 cases he:jS l tx with
 | none=>
  rw [h,he]
  exact .bind (.ret (.ret (λh=>by cases h)))
 | some e=>
  rw [h,he]
  refine .bind (.ret ?_)
  exact (M2 N _ tx node e (hl.find he).n4 N 0 (by omega) (by omega) (by omega)).mono λr hr h0=>⟨(hr h0).1,e,rfl,(hr h0).2⟩
theorem EE (N:Nat)(F:Int×j9→Prop)(rec1:j9→Int→Int→List jJ→List jJ→Int→Option (Int×j9))(t:j9)(tx low:Int){sh:List jJ}(hs:DJ 8 sh)(xs:List jJ)(j:Int)(h0:0≤j)(hj:j<sh.length)(s:jJ)(hx:sh[j.toNat]? = some s)(hxs:xs.length≤4)
  (hr:Okp (rec1 t tx low sh (xs++[s]) (j+1)) F) : ∀(i2:Nat) (i:Int),0≤i→i≤j→j-i<i2→Okp (M.nM N rec1 i2 t tx low sh xs j s ((sh.take j.toNat).drop (0:Int).toNat) i) F
 | 0,i,g0,g1,g2=>by omega
 | i2+1,i,g0,g1,g2=>by
  have h4:=hs.n4
  unfold M.nM
  rw [kF (x:=i+1) (by omega) (by omega),kF (x:=j+1) (by omega) (by omega)]
  refine .bp (λhi=>.ix g0 hi λy hy=>.bb (λh=>?_) λ_=>EE N F rec1 t tx low hs xs j h0 hj s hx hxs hr i2 _ (by omega) (by simp at hi; omega) (by omega)) λ_=>?_
  ·
   exfalso
   have e:y.Node=s.Node:=by simpa using h
   simp only [Int.toNat_zero,List.drop_zero] at hy hi
   have hil:i.toNat<j.toNat:=by simp at hi; omega
   rw [List.getElem?_take,if_pos hil] at hy
   have hnd:=List.pairwise_iff_getElem.1 hs.nd i.toNat j.toNat (by simp [nods]; omega) (by simp [nods]; omega) hil
   obtain ⟨h1,h2⟩:=List.getElem?_eq_some_iff.1 hy
   obtain ⟨h3,h4'⟩:=List.getElem?_eq_some_iff.1 hx
   simp only [nods,List.getElem_map,h2,h4',ne_eq] at hnd
   exact hnd e
  ·have hv:=hs.vs s (List.mem_of_getElem? hx)
   refine .ap (by simp; omega) (.ap (by simp; omega) ?_)
   simpa using hr
def G3 (l:List (Int×jH)) (tx low:Int) (r:Int×j9):Prop:=
 r.2.open_=some l ∨ ∃e,r.2.open_=some (lPut l tx e)∧eOk e∧e.low=low∧e.decided=false
theorem EF (N:Nat)(hN:100≤N)(l:List (Int×jH))(tx low:Int){sh:List jJ}(hs:DJ 8 sh)(h0:0<sh.length) : ∀(i2:Nat)(i:Int),0≤i→i≤sh.length→sh.length-i<i2→Okp (M.lY N i2 ⟨some l⟩ tx low sh (sh.take i.toNat) i) (G3 l tx low)
 | 0,i,g0,g1,g2=>by omega
 | i2+1,i,g0,g1,g2=>by
  have h4:=hs.n4
  unfold M.lY
  refine .bp (λhi=>.ix g0 hi λx hx=>.sl (by omega) g0 (by omega) (EE N _ _ _ tx low hs _ i g0 hi x hx (by simp; omega) ?_ N 0 (by omega) g0 (by omega))) λhi=>.mp (.ret (.inr ⟨_,rfl,?_,rfl,rfl⟩))
  ·have e:sh.take i.toNat++[x]=sh.take (i+1).toNat:=by
    rw [show (i+1).toNat=i.toNat+1 from by omega,List.take_add_one,hx]; rfl
   rw [e]
   exact EF N hN l tx low hs h0 i2 _ (by omega) (by omega) (by omega)
  ·have e:sh.take i.toNat=sh:=List.take_of_length_le (by omega)
   rw [e]
   refine ⟨h0,h4,hs.nd,hs.vs,⟨[],rfl,List.Pairwise.nil,(λ_ h=>by cases h),?_,λh=>absurd rfl h⟩,[],rfl⟩
   show false=((0:Int)==(sh.length:Int))
   symm
   simp; omega
theorem MU {N:Nat} (hN:100≤N) (l:List (Int×jH)) (tx low:Int) {sh:List jJ} (hs:DJ 8 sh):Okp (M.rG N ⟨some l⟩ tx low sh) (G3 l tx low):=by
 unfold M.rG
 refine .bb (λ_=>.ret (.inl rfl)) λh=>.bind ?_
 have h0:0<sh.length:=by
  have : ¬(sh.length:Int)=0:=by simpa using h
  omega
 have k : ∀c:Bool,Okp (bif c then some ((8:Int),(⟨some l⟩:j9)) else M.lY N N ⟨some l⟩ tx low sh [] 0) (G3 l tx low):=λc=>.bb (λ_=>.ret (.inl rfl)) λ_=>EF N hN l tx low hs h0 N 0 (by omega) (by omega) (by have:=hs.n4; omega)
 exact .oc (λ_=>.ret (k _)) λ_ _=>.ret (k _)
theorem rP {K V:Type} [DecidableEq K] [KO K] (l:List (K×V)) (k:K) (v:V):jS (lPut l k v) k=some v:=by rw [mC,if_pos rfl]
theorem AJ {V:Type} {l:List (Int×V)} {k:Int} {v:V}:tL (some l) k v=some (lPut l k v):=rfl
theorem F0 {K V:Type} [DecidableEq K] [KO K] {l:List (K×V)} (h:Srt l) (k:K) (v w:V):lPut (lPut l k v) k w=lPut l k w:=
 Srt.ext (oK (oK h _ _) _ _) (oK h _ _) λx=>by
  rw [mC,mC,mC]
  split<;>rfl
structure xN (l l':List (Int×jH))(d:Option Int):Prop where
 low : ∀k,(jS l' k).map (·.low)=(jS l k).map (·.low)
 dec : ∀k,some k≠d→(jS l' k).map (·.decided)=(jS l k).map (·.decided)
theorem xN.refl (l:List (Int×jH)):xN l l none:=⟨λ_=>rfl,λ_ _=>rfl⟩
theorem xN.put {l:List (Int×jH)} {k:Int} {e e':jH} (he:jS l k=some e) (h1:e'.low=e.low) (d:Option Int) (h2:d=some k∨e'.decided=e.decided):xN l (lPut l k e') d:=by
 refine ⟨λx=>?_,λx hx=>?_⟩
 ·rw [mC]
  split
  ·rename_i h; subst h; rw [he]; simp [h1]
  ·rfl
 ·rw [mC]
  split
  ·rename_i h; subst h; rw [he]
   rcases h2 with h2|h2
   ·exact absurd h2.symm hx
   ·simp [h2]
  ·rfl
def LS (B:Nat) (l:List (Int×jH)) (tx:Int) (r:Int×Bool×Int×j9):Prop:=
 ∃l',r.2.2.2.open_=some l'∧wW B l'∧l'.length=l.length∧((¬(r.2.2.1=0∧r.2.1=true)∧xN l l' none) ∨
  (r.2.2.1=0∧r.2.1=true∧xN l l' (some tx)∧(jS l' tx).map (·.decided)=some true ∧ ∃e,jS l tx=some e∧e.decided=false∧e.low<r.1))
theorem NG {N B:Nat} (hN:100≤N) {l:List (Int×jH)} (hl:wW B l) (tx node at':Int):Okp (M.rV N ⟨some l⟩ tx node at') (LS B l tx):=by
 unfold M.rV
 have same : ∀r:Int×Bool×Int×j9,r.2.2.2.open_=some l→(r.2.2.1≠0∨r.2.1=false)→LS B l tx r:=λr h1 h2=>⟨l,h1,hl,rfl,.inl ⟨λ⟨a,b⟩=>h2.elim (λh=>h a) (λh=>by rw [h] at b; cases b),.refl l⟩⟩
 refine .call (M3 hN hl tx node) λf hf=>.bb (λh=>.ret (same _ rfl (.inl (by simpa using h)))) λh=>?_
 obtain ⟨hf1,e,he,hn⟩:=hf (by simpa using h)
 have hg:mGet (some l) tx=some e:=he
 rw [hf1]
 simp only [cond_true]
 rw [hg]
 obtain ⟨g0,g4,gnd,gvs,⟨vt,hvt,hvs,hvk,hvd,hva⟩,ged⟩:=hl.find he
 refine .bind (.ret ?_)
 rw [hvt]
 refine .mg (.bb (λ_=>.ret (same _ rfl (.inl (show (8:Int)≠0 from by decide)))) λhnv=>.bind (.ret (.bp (λ_=>.ret (same _ rfl (.inl (show (11:Int)≠0 from by decide)))) λhlt=>.bind (.ret ?_))))
 rw [hvt]
 refine .mp ?_
 have hnew:jS vt node=none:=by
  cases hq:jS vt node with
  | none=>rfl
  | some q=>
   have:(mGet (some vt) node).isSome=true:=by show (jS vt node).isSome=true; rw [hq]; rfl
   rw [this] at hnv; cases hnv
 simp only [AJ]
 generalize hv':lPut vt node at'=vt'
 have hvl:vt'.length=vt.length+1:=by rw [← hv']; exact xH hnew
 have hvs':Srt vt':=by rw [← hv']; exact oK hvs _ _
 have hvk' : ∀k∈vt'.map (·.1),k∈nods e.shares:=λk hk=>by
  obtain ⟨p,hp,rfl⟩:=List.mem_map.1 hk
  rw [← hv'] at hp
  rcases tM hp with rfl|hp
  ·exact hn
  ·exact hvk _ (List.mem_map.2 ⟨p,hp,rfl⟩)
 have hvn' : ¬node∈vt.map (·.1):=λhm=>by
  obtain ⟨p,hp,hpe⟩:=List.mem_map.1 hm
  exact oF.1 hnew p hp hpe
 have hdec:e.decided=false:=by
  rw [hvd]
  have:vt.length<e.shares.length:=by
   have:=yK (l:=vt'.map (·.1)) (s:=nods e.shares) hvs'.nodup hvk'
   simp only [List.length_map] at this
   omega
  simp; omega
 have hm:mGet (some (lPut l tx (jH.mk e.low e.shares (some vt') e.ended e.at_ e.decided))) tx=some (jH.mk e.low e.shares (some vt') e.ended e.at_ e.decided):=rP _ _ _
 rw [hm]
 refine .bind (.ret ?_)
 simp only [AJ,F0 hl.srt]
 generalize ha:(if at' > e.at_ then at' else e.at_)=av
 have hav:e.low<av:=by
  have : ¬at'≤e.low:=hlt
  rw [← ha]; split<;>omega
 have hm2 : ∀e',mGet (some (lPut l tx e')) tx=some e':=λe'=>rP _ _ _
 rw [hm2]
 refine .bind (.ret ?_)
 simp only [F0 hl.srt]
 rw [hm2]
 refine .bind (.ret ?_)
 have hlen:(mLen (some vt'):Int)=(vt'.length:Int):=rfl
 have hok:eOk (jH.mk e.low e.shares (some vt') e.ended av ((vt'.length:Int)==(e.shares.length:Int))):=⟨g0,g4,gnd,gvs,⟨vt',rfl,hvs',hvk',rfl,λ_=>hav⟩,ged⟩
 refine .bb (λhd=>?_) λhd=>.bind (.ret ?_)
 ·have hd':((vt'.length:Int)==(e.shares.length:Int))=e.decided:=by
   rw [hdec,← hlen]
   simpa using hd
  exact .ret ⟨_,rfl,hl.put he hok,uC hl.srt he,.inl ⟨(λ⟨_,b⟩=>by cases b),xN.put he (by rfl) none (.inr hd')⟩⟩
 ·have hd':((vt'.length:Int)==(e.shares.length:Int))=true:=by rw [← hlen]; simpa using hd
  refine .ret ⟨_,rfl,hl.put he hok,uC hl.srt he,.inr ⟨rfl,rfl,xN.put he (by rfl) _ (.inl rfl),?_,e,he,hdec,hav⟩⟩
  rw [rP]
  show some ((vt'.length:Int)==(e.shares.length:Int))=_
  rw [hd']
def NF (B:Nat) (l:List (Int×jH)) (tx:Int) (r:Bool×Int×j9):Prop:=
 ∃l',r.2.2.open_=some l'∧wW B l'∧((r.1=false∧xN l l' none)∨(r.1=true∧l'=lDel l tx ∧ ∃e,jS l tx=some e∧e.decided=true))
theorem F1 {V:Type} {l:List (Int×V)} (h:Srt l) (k:Int) (v:V):lDel (lPut l k v) k=lDel l k:=
 Srt.ext (s7 (oK h _ _) _) (s7 h _) λx=>by
  rw [qW,qW,mC]
  split<;>rfl
theorem NS {N B:Nat} (hN:100≤N) {l:List (Int×jH)} (hl:wW B l) (tx node:Int):Okp (M.sB N ⟨some l⟩ tx node) (NF B l tx):=by
 unfold M.sB
 have same : ∀r:Bool×Int×j9,r.2.2.open_=some l→r.1=false→NF B l tx r:=λr h1 h2=>⟨l,h1,hl,.inl ⟨h2,.refl l⟩⟩
 refine .call (M3 hN hl tx node) λf hf=>.bb (λh=>.ret (same _ rfl rfl)) λh=>?_
 obtain ⟨hf1,e,he,hn⟩:=hf (by simpa using h)
 have hg:mGet (some l) tx=some e:=he
 rw [hf1]
 simp only [cond_true]
 rw [hg]
 obtain ⟨g0,g4,gnd,gvs,gv,⟨ed,hed⟩⟩:=hl.find he
 refine .bind (.ret (.bb (λ_=>.ret (same _ rfl rfl)) λhd=>.bind (.ret ?_)))
 rw [hed]
 refine .mg (.bb (λ_=>.ret (same _ rfl rfl)) λ_=>.bind (.ret ?_))
 rw [hed]
 refine .mp ?_
 simp only [AJ]
 have hm2 : ∀e',mGet (some (lPut l tx e')) tx=some e':=λe'=>rP _ _ _
 rw [hm2]
 have hok:eOk (jH.mk e.low e.shares e.votes (some (lPut ed node true)) e.at_ e.decided):=⟨g0,g4,gnd,gvs,gv,_,rfl⟩
 refine .bind (.ret (.bb (λ_=>.ret ⟨_,rfl,hl.put he hok,.inl ⟨rfl,xN.put he (by rfl) none (.inr (by rfl))⟩⟩) λ_=>.ret ⟨_,rfl,?_,.inr ⟨rfl,F1 hl.srt _ _,e,he,by simpa using hd⟩⟩))
 show wW B (lDel (lPut l tx _) tx)
 rw [F1 hl.srt]
 exact ⟨s7 hl.srt _,Nat.le_trans (zV _ _) hl.len,λp hp=>hl.ent p (List.mem_filter.1 hp).1⟩
theorem H5 (N:Nat)(t:j9)(e:jH)(h4:e.shares.length≤4)(hv : ∀s∈e.shares,s.Vers.length≤8) : ∀(i2:Nat)(i:Int)(o:List jB),0≤i→i≤4→4-i<i2→(o.length:Int)≤8*i→Okp (M.mU N i2 t e o i) λr=>r.length≤32
 | 0,i,o,g0,g1,g2,g3=>by omega
 | i2+1,i,o,g0,g1,g2,g3=>by
  unfold M.mU
  rw [kF (x:=i+1) (by omega) (by omega)]
  refine .bp (λhi=>.ix g0 hi λx hx=>?_) λ_=>.ret (by omega)
  have:=hv x (List.mem_of_getElem? hx)
  exact .ap (by omega) (H5 N t e h4 hv i2 _ _ (by omega) (by omega) (by omega) (by simp; omega))
theorem HV {N B:Nat} (hN:100≤N) {l:List (Int×jH)} (hl:wW B l) (tx:Int):Okp (M.oH N ⟨some l⟩ tx) λr=>r.length≤32:=by
 unfold M.oH
 have h:mGet (some l) tx=jS l tx:=rfl
 cases he:jS l tx with
 | none=>rw [h,he]; exact .bind (.ret (.ret (Nat.zero_le _)))
 | some e=>
  rw [h,he]
  exact .bind (.ret (H5 N _ e (hl.find he).n4 (hl.find he).vs N 0 [] (by omega) (by omega) (by omega) (by simp)))
theorem JK (N:Nat)(t:j9)(e:jH)(h4:e.shares.length≤4) : ∀(i2:Nat)(i:Int)(o:List Int),0≤i→i≤4→4-i<i2→(o.length:Int)≤i→Okp (M.nN N i2 t e o i) λr=>r.length≤4
 | 0,i,o,g0,g1,g2,g3=>by omega
 | i2+1,i,o,g0,g1,g2,g3=>by
  unfold M.nN
  rw [kF (x:=i+1) (by omega) (by omega)]
  exact .bp (λhi=>.ix g0 hi λx hx=>.ap (by simp; omega) (JK N t e h4 i2 _ _ (by omega) (by omega) (by omega) (by simp; omega))) λ_=>.ret (by omega)
theorem MV {N B:Nat} (hN:100≤N) {l:List (Int×jH)} (hl:wW B l) (tx:Int):Okp (M.pV N ⟨some l⟩ tx) λr=>r.length≤4:=by
 unfold M.pV
 have h:mGet (some l) tx=jS l tx:=rfl
 cases he:jS l tx with
 | none=>rw [h,he]; exact .bind (.ret (.ret (Nat.zero_le _)))
 | some e=>
  rw [h,he]
  exact .bind (.ret (JK N _ e (hl.find he).n4 N 0 [] (by omega) (by omega) (by omega) (by simp)))
theorem KP {K:Type} [DecidableEq K] {cs:List K} (p:K→Bool) {x:K} (hx:x∈cs):cs.any p=(p x||(cs.filter λy=>decide (y≠x)).any p):=by
 cases hp:p x
 ·simp only [Bool.false_or]
  cases h:cs.any p
  ·symm
   rw [List.any_eq_false] at h ⊢
   exact λy hy=>h y (List.mem_filter.1 hy).1
  ·symm
   rw [List.any_eq_true] at h ⊢
   obtain ⟨y,hy,h⟩:=h
   exact ⟨y,List.mem_filter.2 ⟨hy,decide_eq_true λe=>by subst e; rw [hp] at h; cases h⟩,h⟩
 ·rw [Bool.true_or,List.any_eq_true]; exact ⟨x,hx,hp⟩
theorem IJ {V:Type} (m:Mp Int V) (left:List Int) (k:Int):vG m (kRem left k)=(vG m left).filter λy=>decide (y≠k):=by
 unfold vG
 rw [List.filter_filter]
 refine List.filter_congr λx _=>?_
 simp only [kRem,List.mem_filter,decide_eq_true_eq]
 by_cases h1:x∈left<;>by_cases h2:x=k<;>simp [h1,h2]
theorem KF {R V:Type}(m:Mp Int V)(L:Nat→List Int→Option R)(f:Int→Option R→Option R)(A Bv:R)(p:Int→Bool)
  (hL : ∀n left,L (n+1) left=bif (vG m left).isEmpty then some A else m3 (vG m left) λx=>f x (L n (kRem left x)))
  (hf : ∀x,x∈pP m → ∀r,f x r=bif p x then some Bv else r) : ∀(n:Nat) (left:List Int),left.length<n→L n left=some (bif (vG m left).any p then Bv else A)
 | 0,left,h=>by omega
 | n+1,left,h=>by
  rw [hL]
  cases hc:vG m left with
  | nil=>rfl
  | cons y ys=>
   show m3 (y::ys) _=_
   refine vA (by simp) λx hx=>?_
   rw [← hc] at hx ⊢
   have hxl:x∈left:=by
    have:=(List.mem_filter.1 hx).2
    simpa using this
   have hxk:x∈pP m:=(List.mem_filter.1 hx).1
   have hlt:=DS hxl
   rw [KF m L f A Bv p hL hf n _ (by omega),hf x hxk,IJ,KP p hx]
   cases p x<;>rfl
theorem M7 (N:Nat) (rec1:j9→ByteArray→ByteArray→List Int→Option Bool) (t:j9) (lo hi:ByteArray) (left:List Int) (k:Int) (ws:List jB) (hw:ws.length≤32) : ∃b:Bool,∀rec1:j9→ByteArray→ByteArray→List Int→Option Bool,∀left,∀(i2:Nat),32<i2→M.l5 N rec1 i2 t lo hi left k ws 0=bif b then some true else rec1 t lo hi (kRem left k):=by
 have key : ∀(n:Nat) (i:Int),0≤i→i≤32→32-i<n → ∃b:Bool,∀rec1:j9→ByteArray→ByteArray→List Int→Option Bool,∀left,∀(i2:Nat),32-i<i2→M.l5 N rec1 i2 t lo hi left k ws i=bif b then some true else rec1 t lo hi (kRem left k):=by
  intro n
  induction n with
  | zero=>intro i h0 h1 h2; omega
  | succ n ih=>
   intro i h0 h1 h2
   by_cases hi':i<ws.length
   ·obtain ⟨w,hw1,_⟩:=DN (N:=N) (ws[i.toNat]'(by omega)).Key lo hi
    obtain ⟨b,hb⟩ : ∃b:Bool,∀rec1:j9→ByteArray→ByteArray→List Int→Option Bool,∀left,∀(i2:Nat),32-(i+1)<i2→M.l5 N rec1 i2 t lo hi left k ws (i+1)=bif b then some true else rec1 t lo hi (kRem left k):=by
     by_cases h32:i+1≤32
     ·exact ih (i+1) (by omega) (by omega) (by omega)
     ·omega
    refine ⟨w||b,λrec1 left i2 hf=>?_⟩
    cases i2 with
    | zero=>omega
    | succ i2=>
     simp only [M.l5]
     rw [kF (by omega) (by omega),decide_eq_true hi',show idx ws i=some (ws[i.toNat]'(by omega)) from by simp [idx,h0]]
     simp only [cond_true,Option.bind_some,hw1]
     cases w
     ·simpa using hb rec1 left i2 (by omega)
     ·rfl
   ·refine ⟨false,λrec1 left i2 hf=>?_⟩
    cases i2 with
    | zero=>omega
    | succ i2=>
     simp only [M.l5]
     rw [decide_eq_false hi']
     rfl
 exact (key 40 0 (by omega) (by omega) (by omega)).imp λb h rec1 left i2 hf=>h rec1 left i2 (by omega)
theorem KJ {N B:Nat} (hN:100≤N) {l:List (Int×jH)} (hl:wW B l) (hB:B<N) (lo hi:ByteArray):Okp (M.qA N ⟨some l⟩ lo hi) λ_=>True:=by
 unfold M.qA
 have hw : ∀x,∃b:Bool,∀(rec1:j9→ByteArray→ByteArray→List Int→Option Bool) left,(Option.bind (M.oH N ⟨some l⟩ x) λx79=>M.l5 N rec1 N ⟨some l⟩ lo hi left x x79 0)=bif b then some true else rec1 ⟨some l⟩ lo hi (kRem left x):=λx=>by
  obtain ⟨ws,h1,h2⟩:=HV hN hl x
  obtain ⟨b,hb⟩:=M7 N (λ_ _ _ _=>none) ⟨some l⟩ lo hi [] x ws h2
  exact ⟨b,λrec1 left=>by rw [h1]; exact hb rec1 left N (by omega)⟩
 refine ⟨_,KF (some l) (λn left=>M.lI N n ⟨some l⟩ lo hi left) (λx r=>bif Classical.choose (hw x) then some true else r) false true (λx=>Classical.choose (hw x)) (λn left=>?_) (λ_ _ _=>rfl) N (pP (some l)) ?_,trivial⟩
 ·simp only [M.lI]
  congr 1
  congr 1
  funext x
  exact Classical.choose_spec (hw x) (M.lI N n) left
 ·simp only [pP,Option.getD_some,List.length_map]
  have:=hl.len; omega
end Go.Cf
