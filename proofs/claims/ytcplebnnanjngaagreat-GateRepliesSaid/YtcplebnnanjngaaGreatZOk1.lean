/- What an Option model comes to: a value with a property. Rules for each operation of the models. -/
import Derived.Test.YtcplebnnanjngaaGreatZK2
set_option linter.unusedVariables false
namespace Go.Cf
open Go
def Okp {α:Type} (m:Option α) (Q:α→Prop):Prop := ∃a,m=some a∧Q a
section
variable {α β K V:Type}{Q:α→Prop}{R:β→Prop}
theorem Okp.ret {a:α} (h:Q a):Okp (some a) Q:=⟨a,rfl,h⟩
theorem Okp.bind {m:Option β} {f:β→Option α} (h:Okp m λb=>Okp (f b) Q):Okp (Option.bind m f) Q:=by
 obtain ⟨b,rfl,a,h1,h2⟩:=h
 exact ⟨a,h1,h2⟩
theorem Okp.mono {Q':α→Prop} {m:Option α} (h:Okp m Q) (k : ∀a,Q a→Q' a):Okp m Q':=by
 obtain ⟨a,h1,h2⟩:=h
 exact ⟨a,h1,k a h2⟩
theorem Okp.call {m:Option β} {f:β→Option α} (h:Okp m R) (k : ∀b,R b→Okp (f b) Q):Okp (Option.bind m f) Q := .bind (h.mono k)
theorem Okp.bb {c:Bool} {x y:Option α} (ht:c=true→Okp x Q) (hf:c=false→Okp y Q):Okp (bif c then x else y) Q:=by
 cases c
 ·exact hf rfl
 ·exact ht rfl
theorem Okp.bp {c:Prop} [Decidable c] {x y:Option α} (ht:c→Okp x Q) (hf : ¬c→Okp y Q):Okp (bif decide c then x else y) Q:=
 .bb (λh=>ht (of_decide_eq_true h)) λh=>hf (of_decide_eq_false h)
theorem Okp.oc {o:Option β} {x:Option α} {y:β→Option α} (hn:o=none→Okp x Q) (hs : ∀b,o=some b→Okp (y b) Q):Okp (Cf.pA o x y) Q:=by
 cases o with
 | none=>exact hn rfl
 | some b=>exact hs b rfl
theorem Okp.ix {l:List β} {i:Int} {f:β→Option α} (h0:0≤i) (h1:i<l.length) (k : ∀x,l[i.toNat]? = some x→Okp (f x) Q):Okp (Option.bind (idx l i) f) Q:=by
 have h2:i.toNat<l.length:=by omega
 refine .bind ⟨l[i.toNat],?_,k _ (List.getElem?_eq_getElem h2)⟩
 simp [Cf.idx,h0,h2]
theorem Okp.sl {l:List β} {lo hi:Int} {f:List β→Option α} (h0:0≤lo) (h1:lo≤hi) (h2:hi≤l.length) (k:Okp (f ((l.take hi.toNat).drop lo.toNat)) Q):Okp (Option.bind (slc l lo hi) f) Q:=
 .bind ⟨_,by rw [Cf.slc,if_pos ⟨h0,h1,h2⟩],k⟩
theorem Okp.ap {l l':List β} {f:List β→Option α} (h:l.length+l'.length<2147483648) (k:Okp (f (l++l')) Q):Okp (Option.bind (apd l l') f) Q:=
 .bind ⟨_,by rw [Cf.apd,if_pos h],k⟩
theorem Okp.mk {n:Int} {z:β} {f:List β→Option α} (h0:0≤n) (h1:n<2147483648) (k:Okp (f (List.replicate n.toNat z)) Q):Okp (Option.bind (mkl n z) f) Q:=
 .bind ⟨_,by rw [Cf.mkl,if_pos ⟨h0,h1⟩],k⟩
theorem Okp.mg {m:Mp K V} [DecidableEq K] [KO K] {k:K} {z:V} {f:V×Bool→Option α} (h:Okp (f ((mGet m k).getD z,(mGet m k).isSome)) Q):Okp (Option.bind (mgt m k z) f) Q:=
 .bind ⟨_,rfl,h⟩
theorem Okp.mp {l:List (K×V)} [DecidableEq K] [KO K] {k:K} {v:V} {f:Mp K V→Option α} (h:Okp (f (some (lPut l k v))) Q):Okp (Option.bind (uS (some l) k v) f) Q:=
 .bind ⟨_,rfl,h⟩
open Classical in
theorem Okp.ag {l:List β} {f:β→Option α} {a:α} (hl:l≠[]) (h : ∀b∈l,f b=some a) (hq:Q a):Okp (m3 l f) Q:=by
 cases l with
 | nil=>exact absurd rfl hl
 | cons b l=>
  refine ⟨a,?_,hq⟩
  show (if ∀c∈l,f c=f b then f b else none)=_
  rw [if_pos]
  ·exact h b (by simp)
  ·intro c hc
   rw [h c (by simp [hc]),h b (by simp)]
theorem kF {x:Int} (h0 : -9223372036854775808≤x) (h1:x<9223372036854775808):IntKind.i64.wrap x=x:=by
 rw [IntKind.wrap_i64]; omega
end
end Go.Cf
