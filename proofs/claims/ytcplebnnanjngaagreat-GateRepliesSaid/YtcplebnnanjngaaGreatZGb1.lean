/- The iM that are pending at a gate: in one of three places, each in one of them. -/
import Derived.Test.YtcplebnnanjngaaGreatZGa3
set_option linter.unusedVariables false
namespace Go.Cf
open Go
def pids (iM:List (Int×Int)) (iU:List (Int×i8)) (iW:List i8):List Int:=iM.map (·.2)++(iU.map (·.2.id)++iW.map (·.id))
structure Pd (i:Nat)(S A:Int→Int)(iY iZ:Int)(cl:List (Int×jH))(iM:List (Int×Int))(iU:List (Int×i8))(iW:List i8)(iX:Int):Prop where
 co:wW i cl
 sc:Srt iM
 sr:Srt iU
 sub : ∀tx e,jS cl tx=some e → ∃id,jS iM tx=some id
 ck : ∀p∈iM,0≤p.1∧p.1≤iY*65536+iZ
 rk : ∀p∈iU,p.1≤iX
 rv : ∀p∈iU,S p.2.id=1
 hv : ∀c∈iW,c.writes.length≤8∧(if c.read then S c.id=1 else S c.id=2∧A c.id≤c.at_)
 cv : ∀p∈iM,match jS cl p.1 with|some e=>S p.2=(if e.decided then 3 else 2)∧A p.2≤e.low|none=>S p.2=2
 nd:(pids iM iU iW).Nodup
 rng : ∀k,S k≠0→0≤k∧k<i
variable {i:Nat}{S A:Int→Int}{iY iZ iX:Int}{cl:List (Int×jH)}{iM:List (Int×Int)}{iU:List (Int×i8)}{iW:List i8}
theorem Pd.pend (h:Pd i S A iY iZ cl iM iU iW iX) : ∀k∈pids iM iU iW,S k=1∨S k=2∨S k=3:=λk hk=>by
 simp only [pids,List.mem_append,List.mem_map] at hk
 rcases hk with ⟨p,hp,rfl⟩ | ⟨p,hp,rfl⟩ | ⟨c,hc,rfl⟩
 ·have:=h.cv p hp
  cases hl:jS cl p.1 with
  | none=>rw [hl] at this; exact .inr (.inl this)
  | some e=>
   rw [hl] at this
   have:=this.1
   cases hd:e.decided
   ·rw [hd] at this; exact .inr (.inl this)
   ·rw [hd] at this; exact .inr (.inr this)
 ·exact .inl (h.rv p hp)
 ·have:=(h.hv c hc).2
  split at this
  ·exact .inl this
  ·exact .inr (.inl this.1)
theorem Pd.len (h:Pd i S A iY iZ cl iM iU iW iX):iM.length+(iU.length+iW.length)≤i:=by
 have hr : ∀k∈pids iM iU iW,k∈(List.range i).map (Nat.cast:Nat→Int):=λk hk=>by
  have h0:S k≠0:=by rcases h.pend k hk with e|e|e<;>omega
  obtain ⟨h1,h2⟩:=h.rng k h0
  exact List.mem_map.2 ⟨k.toNat,List.mem_range.2 (by omega),by show ((k.toNat:Nat):Int)=k; omega⟩
 have:=yK h.nd hr
 simpa [pids] using this
theorem Pd.mono (h:Pd i S A iY iZ cl iM iU iW iX) {i':Nat} (hi:i≤i') {last':Int} (hl:iX≤last'):Pd i' S A iY iZ cl iM iU iW last':=
 ⟨⟨h.co.srt,Nat.le_trans h.co.len hi,h.co.ent⟩,h.sc,h.sr,h.sub,h.ck,λp hp=>Int.le_trans (h.rk p hp) hl,h.rv,h.hv,h.cv,h.nd,λk hk=>by have:=h.rng k hk; omega⟩
theorem Pd.new (i:Nat) (S A:Int→Int) (hr : ∀k,S k≠0→0≤k∧k<i) (iY iZ iX:Int):Pd i S A iY iZ [] [] [] [] iX:=
 ⟨⟨List.Pairwise.nil,Nat.zero_le _,(λ_ h=>by cases h)⟩,List.Pairwise.nil,List.Pairwise.nil,(λ_ _ h=>by cases h),(λ_ h=>by cases h),(λ_ h=>by cases h),(λ_ h=>by cases h),(λ_ h=>by cases h),(λ_ h=>by cases h),List.nodup_nil,hr⟩
theorem Pd.come (h:Pd i S A iY iZ cl iM iU iW iX){c:i8}(hid:c.id=(i:Int))(hw:c.writes.length≤8)(s:Int)(hs:s=if c.read then 1 else 2)(a:Int)(ha:c.read=false→a≤c.at_) :
  Pd (i+1) (λk=>if k=i then s else S k) (λk=>if k=i then a else A k) iY iZ cl iM iU (iW++[c]) iX:=by
 have hne : ∀k∈pids iM iU iW,k≠i:=λk hk e=>by
  have h0:S k≠0:=by rcases h.pend k hk with e|e|e<;>omega
  have:=h.rng k h0; omega
 have n1 : ∀p∈iM,p.2≠i:=λp hp=>hne _ (by simp only [pids,List.mem_append,List.mem_map]; exact .inl ⟨p,hp,rfl⟩)
 have n2 : ∀p∈iU,p.2.id≠i:=λp hp=>hne _ (by simp only [pids,List.mem_append,List.mem_map]; exact .inr (.inl ⟨p,hp,rfl⟩))
 have n3 : ∀p∈iW,p.id≠i:=λp hp=>hne _ (by simp only [pids,List.mem_append,List.mem_map]; exact .inr (.inr ⟨p,hp,rfl⟩))
 have h':=h.mono (i':=i+1) (by omega) (Int.le_refl iX)
 refine ⟨h'.co,h.sc,h.sr,h.sub,h.ck,h.rk,λp hp=>?_,λx hx=>?_,λp hp=>?_,?_,λk hk=>?_⟩
 ·show (if p.2.id=(i:Int) then s else S p.2.id)=1
  rw [if_neg (n2 p hp)]; exact h.rv p hp
 ·rcases List.mem_append.1 hx with hx|hx
  ·simp only [if_neg (n3 x hx)]; exact h.hv x hx
  ·have e:=List.mem_singleton.1 hx
   subst e
   simp only [hid,if_true,hs]
   refine ⟨hw,?_⟩
   cases hr:x.read
   ·exact ⟨rfl,ha hr⟩
   ·rfl
 ·simp only [if_neg (n1 p hp)]; exact h.cv p hp
 ·have:=h.nd
  have e:pids iM iU (iW++[c])=pids iM iU iW++[(i:Int)]:=by simp [pids,hid]
  rw [e]
  exact List.nodup_append.2 ⟨this,by simp,λx hx y hy=>by simp only [List.mem_singleton] at hy; subst hy; exact hne x hx⟩
 ·by_cases e:k=i
  ·subst e; omega
  ·simp only [if_neg e] at hk
   have:=h.rng k hk; omega
theorem BV {a b:List Int} (h:a.Perm b):a.Nodup↔b.Nodup:=h.nodup_iff
theorem AL {V:Type} : ∀ {l:List (Int×V)}{k:Int}(v:V),jS l k=none→(lPut l k v).Perm ((k,v)::l)
 | [],k,v,_=>List.Perm.refl _
 | y::l,k,v,h=>by
  have hn:=oF.1 h
  unfold lPut
  rw [if_neg (hn y (by simp))]
  split
  ·exact List.Perm.refl _
  ·exact ((AL (l:=l) v (oF.2 λp hp=>hn p (by simp [hp]))).cons y).trans (List.Perm.swap _ _ _)
theorem Pd.read {c:i8} {rest:List i8} (h:Pd i S A iY iZ cl iM iU (iW++c::rest) iX) (hr:c.read=true):Pd i S A iY iZ cl iM (lPut iU (iX+1) c) (iW++rest) (iX+1):=by
 have hnew:jS iU (iX+1)=none:=oF.2 λp hp=>by have:=h.rk p hp; omega
 have hp:=AL c hnew
 refine ⟨h.co,h.sc,oK h.sr _ _,h.sub,h.ck,λp hp'=>?_,λp hp'=>?_,λx hx=>h.hv x ?_,h.cv,?_,h.rng⟩
 ·rcases tM hp' with rfl|hp'
  ·exact Int.le_refl _
  ·have:=h.rk p hp'; omega
 ·rcases tM hp' with rfl|hp'
  ·have:=(h.hv c (by simp)).2
   rw [hr] at this
   exact this
  ·exact h.rv p hp'
 ·simp only [List.mem_append,List.mem_cons] at hx ⊢
  rcases hx with hx|hx
  ·exact .inl hx
  ·exact .inr (.inr hx)
 ·refine (BV ?_).1 h.nd
  simp only [pids,List.map_append,List.map_cons]
  refine List.Perm.append_left _ ?_
  refine (List.perm_middle.append_left _).trans ?_
  refine List.perm_middle.trans ?_
  have:=(hp.map λp=>p.2.id).symm
  simp only [List.map_cons] at this
  exact this.append_right _
theorem Pd.commit {c:i8}{rest:List i8}(h:Pd i S A iY iZ cl iM iU (iW++c::rest) iX)(hr:c.read=false)(h0:0≤iY*65536+iZ)(cl':List (Int×jH))(hc:cl'=cl ∨ ∃e,cl'=lPut cl (iY*65536+iZ+1) e∧eOk e∧e.low=c.at_∧e.decided=false) :
  Pd i S A iY (iZ+1) cl' (lPut iM (iY*65536+iZ+1) c.id) iU (iW++rest) iX:=by
 have hnew:jS iM (iY*65536+iZ+1)=none:=oF.2 λp hp=>by have:=h.ck p hp; omega
 have hnew':jS cl (iY*65536+iZ+1)=none:=by
  cases he:jS cl (iY*65536+iZ+1) with
  | none=>rfl
  | some e=>obtain ⟨id,hid⟩:=h.sub _ _ he; rw [hnew] at hid; cases hid
 have hp:=AL c.id hnew
 have hcv:=(h.hv c (by simp)).2
 rw [hr] at hcv
 have hcv:S c.id=2∧A c.id≤c.at_:=hcv
 have hlen:=h.len
 have hf : ∀k,k≠iY*65536+iZ+1→jS cl' k=jS cl k:=λk hk=>by
  rcases hc with rfl | ⟨e,rfl,_⟩
  ·rfl
  ·rw [mC,if_neg hk]
 have hnd:(pids (lPut iM (iY*65536+iZ+1) c.id) iU (iW++rest)).Nodup:=by
  refine (BV ?_).1 h.nd
  simp only [pids,List.map_append,List.map_cons]
  have:=(hp.map (·.2)).symm
  simp only [List.map_cons] at this
  refine (((List.perm_middle.append_left _).trans List.perm_middle).append_left _).trans (List.perm_middle.trans ?_)
  exact this.append_right _
 refine ⟨?_,oK h.sc _ _,h.sr,λtx e he=>?_,λp hp'=>?_,h.rk,h.rv,λx hx=>h.hv x ?_,λp hp'=>?_,hnd,h.rng⟩
 ·rcases hc with rfl | ⟨e,rfl,he,_⟩
  ·exact h.co
  ·refine ⟨oK h.co.srt _ _,?_,λp hp'=>?_⟩
   ·
    have h1:=yK (l:=(lPut cl (iY*65536+iZ+1) e).map (·.1)) (s:=(lPut iM (iY*65536+iZ+1) c.id).map (·.1)) (oK h.co.srt _ _).nodup λx hx=>by
     obtain ⟨p,hp1,rfl⟩:=List.mem_map.1 hx
     have h2:=y0 (oK h.co.srt (iY*65536+iZ+1) e).nodup hp1
     have h2:jS (lPut cl (iY*65536+iZ+1) e) p.1=some p.2:=h2
     rw [mC] at h2
     have : ∃id,jS (lPut iM (iY*65536+iZ+1) c.id) p.1=some id:=by
      rw [mC]
      split at h2
      ·rename_i e1; rw [if_pos e1]; exact ⟨_,rfl⟩
      ·rename_i e1; rw [if_neg e1]; exact h.sub _ _ h2
     obtain ⟨id,hid⟩:=this
     exact List.mem_map.2 ⟨_,pY hid,rfl⟩
    simp only [List.length_map] at h1
    rw [xH hnew] at h1
    simp only [List.length_append,List.length_cons] at hlen
    omega
   ·rcases tM hp' with rfl|hp'
    ·exact he
    ·exact h.co.ent p hp'
 ·rw [mC]
  by_cases e1:tx=iY*65536+iZ+1
  ·rw [if_pos e1]; exact ⟨_,rfl⟩
  ·rw [if_neg e1]; rw [hf tx e1] at he; exact h.sub _ _ he
 ·rcases tM hp' with rfl|hp'
  ·show 0≤iY*65536+iZ+1∧iY*65536+iZ+1≤_; omega
  ·have:=h.ck p hp'; omega
 ·simp only [List.mem_append,List.mem_cons] at hx ⊢
  rcases hx with hx|hx
  ·exact .inl hx
  ·exact .inr (.inr hx)
 ·rcases tM hp' with rfl|hp'
  ·simp only
   rcases hc with rfl | ⟨e,rfl,he,h1,h2⟩
   ·rw [hnew']; exact hcv.1
   ·rw [rP]
    simp only [h2,h1]
    exact hcv
  ·have hne:p.1≠iY*65536+iZ+1:=by have:=h.ck p hp'; omega
   rw [hf _ hne]; exact h.cv p hp'
theorem Pd.same (h:Pd i S A iY iZ cl iM iU iW iX) {cl':List (Int×jH)} (hc:wW i cl') (hs:xN cl cl' none):Pd i S A iY iZ cl' iM iU iW iX:=by
 have hf : ∀k,(jS cl' k).map (λe=>(e.low,e.decided))=(jS cl k).map λe=>(e.low,e.decided):=λk=>by
  have h1:=hs.low k
  have h2:=hs.dec k (by simp)
  cases ha:jS cl' k<;>cases hb:jS cl k<;>rw [ha,hb] at h1 h2<;>simp_all
 refine ⟨hc,h.sc,h.sr,λtx e he=>?_,h.ck,h.rk,h.rv,h.hv,λp hp=>?_,h.nd,h.rng⟩
 ·have:=hf tx
  rw [he] at this
  cases hb:jS cl tx with
  | none=>rw [hb] at this; cases this
  | some e'=>exact h.sub _ _ hb
 ·have:=hf p.1
  have hv:=h.cv p hp
  cases ha:jS cl' p.1<;>cases hb:jS cl p.1<;>rw [ha,hb] at this<;>rw [hb] at hv
  ·exact hv
  ·cases this
  ·cases this
  ·simp only [Option.map_some,Option.some.injEq,Prod.mk.injEq] at this
   simp only [this.1,this.2]
   exact hv
theorem BH {V:Type}{f:V→Int} : ∀ {l:List (Int×V)}(_:(l.map λp=>f p.2).Nodup){p q:Int×V},p∈l→q∈l→f p.2=f q.2→p=q
 | [],_,p,q,hp,_,_=>by cases hp
 | x::l,h,p,q,hp,hq,e=>by
  obtain ⟨h1,h2⟩:=List.nodup_cons.1 h
  rcases List.mem_cons.1 hp with hp|hp<;>rcases List.mem_cons.1 hq with hq|hq
  ·rw [hp,hq]
  ·rw [hp] at e; exact absurd (List.mem_map.2 ⟨q,hq,e.symm⟩) h1
  ·rw [hq] at e; exact absurd (List.mem_map.2 ⟨p,hp,e⟩) h1
  ·exact BH h2 hp hq e
theorem Pd.nd1 (h:Pd i S A iY iZ cl iM iU iW iX):(iM.map λp=>id p.2).Nodup:=(List.nodup_append.1 h.nd).1
theorem Pd.decide (h:Pd i S A iY iZ cl iM iU iW iX){tx:Int}{e:jH}(he:jS cl tx=some e)(hd:e.decided=false){cl':List (Int×jH)}(hc:wW i cl')(hs:xN cl cl' (some tx))(hd':(jS cl' tx).map (·.decided)=some true) :
  ∃id,jS iM tx=some id∧S id=2∧A id≤e.low∧Pd i (λk=>if k=id then 3 else S k) A iY iZ cl' iM iU iW iX:=by
 obtain ⟨id,hid⟩:=h.sub _ _ he
 have hm:=pY hid
 have hcv:=h.cv _ hm
 simp only [he,hd] at hcv
 refine ⟨id,hid,hcv.1,hcv.2,hc,h.sc,h.sr,λt x hx=>?_,h.ck,h.rk,λp hp=>?_,λc hc=>?_,λp hp=>?_,h.nd,λk hk=>?_⟩
 ·have:=hs.low t
  rw [hx] at this
  cases hb:jS cl t with
  | none=>rw [hb] at this; cases this
  | some e'=>exact h.sub _ _ hb
 ·have:=h.rv p hp
  show (if p.2.id=id then 3 else S p.2.id)=1
  rw [if_neg λe1=>by rw [e1,hcv.1] at this; cases this]; exact this
 ·have hh:=h.hv c hc
  have hne:c.id≠id:=λe1=>by
   have hnd:=h.nd
   simp only [pids] at hnd
   exact (List.nodup_append.1 hnd).2.2 id (List.mem_map.2 ⟨_,hm,rfl⟩) c.id (List.mem_append.2 (.inr (List.mem_map.2 ⟨c,hc,rfl⟩))) e1.symm
  simp only [if_neg hne]; exact hh
 ·have hv:=h.cv p hp
  by_cases e1:p.2=id
  ·have hpe:p=(tx,id):=BH (f:=_root_.id) h.nd1 hp hm e1
   subst hpe
   have hlow:=hs.low tx
   cases ha:jS cl' tx with
   | none=>rw [ha] at hd'; cases hd'
   | some e'=>
    rw [ha,he] at hlow
    rw [ha] at hd'
    simp only [Option.map_some,Option.some.injEq] at hlow hd'
    simp only [hd',if_true,hlow]
    exact ⟨trivial,hcv.2⟩
  ·have hne:p.1≠tx:=λe2=>e1 (by
    have h1:=y0 h.sc.nodup hp
    have h1:jS iM p.1=some p.2:=h1
    rw [e2,hid] at h1
    simpa using h1.symm)
   have hl:=hs.low p.1
   have hdd:=hs.dec p.1 (by simpa using hne)
   simp only [if_neg e1]
   cases ha:jS cl' p.1<;>cases hb:jS cl p.1<;>rw [ha,hb] at hl hdd<;>rw [hb] at hv
   ·exact hv
   ·cases hl
   ·cases hl
   ·simp only [Option.map_some,Option.some.injEq] at hl hdd
    simp only [hl,hdd]; exact hv
 ·by_cases e1:k=id
  ·subst e1; exact h.rng k (by rw [hcv.1]; decide)
  ·simp only [if_neg e1] at hk; exact h.rng k hk
theorem Pd.fin (h:Pd i S A iY iZ cl iM iU iW iX){tx:Int}{e:jH}(he:jS cl tx=some e)(hd:e.decided=true) :
  ∃id,jS iM tx=some id∧S id=3∧Pd i (λk=>if k=id then 4 else S k) A iY iZ (lDel cl tx) (lDel iM tx) iU iW iX:=by
 obtain ⟨id,hid⟩:=h.sub _ _ he
 have hm:=pY hid
 have hcv:=h.cv _ hm
 simp only [he,hd] at hcv
 have hne : ∀p∈lDel iM tx,p.2≠id:=λp hp e1=>by
  have hp':=List.mem_filter.1 hp
  have hpe:p=(tx,id):=BH (f:=_root_.id) h.nd1 hp'.1 hm e1
  subst hpe; simpa using hp'.2
 have hnd:=h.nd
 simp only [pids] at hnd
 have hne2 : ∀x∈iU.map (·.2.id)++iW.map (·.id),x≠id:=λx hx e1=>(List.nodup_append.1 hnd).2.2 id (List.mem_map.2 ⟨_,hm,rfl⟩) x hx e1.symm
 refine ⟨id,hid,hcv.1,⟨s7 h.co.srt _,Nat.le_trans (zV _ _) h.co.len,λp hp=>h.co.ent p (List.mem_filter.1 hp).1⟩,s7 h.sc _,h.sr,λt x hx=>?_,λp hp=>h.ck p (List.mem_filter.1 hp).1,h.rk,λp hp=>?_,λc hc=>?_,λp hp=>?_,?_,λk hk=>?_⟩
 ·rw [qW] at hx ⊢
  split at hx
  ·cases hx
  ·rename_i e1; rw [if_neg e1]; exact h.sub _ _ hx
 ·show (if p.2.id=id then 4 else S p.2.id)=1
  rw [if_neg (hne2 _ (List.mem_append.2 (.inl (List.mem_map.2 ⟨p,hp,rfl⟩))))]; exact h.rv p hp
 ·simp only [if_neg (hne2 _ (List.mem_append.2 (.inr (List.mem_map.2 ⟨c,hc,rfl⟩))))]; exact h.hv c hc
 ·have hp':=List.mem_filter.1 hp
  have h1:p.1≠tx:=by simpa using hp'.2
  simp only [if_neg (hne p hp),qW,if_neg h1]; exact h.cv p hp'.1
 ·exact hnd.sublist ((List.filter_sublist.map _).append_right _)
 ·by_cases e1:k=id
  ·subst e1; exact h.rng k (by rw [hcv.1]; decide)
  ·simp only [if_neg e1] at hk; exact h.rng k hk
theorem Pd.seen (h:Pd i S A iY iZ cl iM iU iW iX) {k:Int} {c:i8} (hc:jS iU k=some c):S c.id=1∧Pd i (λx=>if x=c.id then 4 else S x) A iY iZ cl iM (lDel iU k) iW iX:=by
 have hm:=pY hc
 have hv:=h.rv _ hm
 have hnd:=h.nd
 simp only [pids] at hnd
 obtain ⟨n1,n2,n3⟩:=List.nodup_append.1 hnd
 obtain ⟨n4,n5,n6⟩:=List.nodup_append.1 n2
 have hin:c.id∈iU.map (·.2.id):=List.mem_map.2 ⟨_,hm,rfl⟩
 refine ⟨hv,h.co,h.sc,s7 h.sr _,h.sub,h.ck,λp hp=>h.rk p (List.mem_filter.1 hp).1,λp hp=>?_,λx hx=>?_,λp hp=>?_,?_,λx hx=>?_⟩
 ·have hp':=List.mem_filter.1 hp
  have hne:p.2.id≠c.id:=λe1=>by
   have hpe:p=(k,c):=BH (f:=(·.id)) n4 hp'.1 hm e1
   subst hpe; simpa using hp'.2
  show (if p.2.id=c.id then 4 else S p.2.id)=1
  rw [if_neg hne]; exact h.rv p hp'.1
 ·have hne:x.id≠c.id:=λe1=>n6 c.id hin x.id (List.mem_map.2 ⟨x,hx,rfl⟩) e1.symm
  simp only [if_neg hne]; exact h.hv x hx
 ·have hne:p.2≠c.id:=λe1=>n3 p.2 (List.mem_map.2 ⟨p,hp,rfl⟩) c.id (List.mem_append.2 (.inl hin)) e1
  simp only [if_neg hne]; exact h.cv p hp
 ·exact hnd.sublist (((List.filter_sublist.map _).append_right _).append_left _)
 ·by_cases e1:x=c.id
  ·subst e1; exact h.rng _ (by rw [hv]; decide)
  ·simp only [if_neg e1] at hx; exact h.rng x hx
end Go.Cf
