/- 'slices.Collect(maps.Values(m))' and 'slices.Sort' of ints: the shelf's contracts at this dump. -/
import Derived.Test.YtcplebnnanjngaaGreatZSh
import Derived.Shelf.SlIterI.Collect
import Derived.Shelf.SlIter.AllValues
import Derived.Maps.RangeWalk
import Derived.Shelf.SortM.Plain
import Derived.Shelf.SortM.SortNone
import Derived.Ground.GgzProg
import Derived.Ground.GgmProg
import Derived.Ground.SlgmProg
import Derived.Test.YtcplebnnanjngaaGreatProg
import Derived.Test.YtcplebnnanjngaaGreatZK2
namespace Go.Proofs
open Go.RowKit Go.Maps Go.Sort Go.Shelf
open _root_.Int(toNat tdiv tmod)
open _root_.List(set replicate)
open _root_.ByteArray(empty)
open Go.IntKind(i64 u64)
structure ET (q:IntKind)(D0:DataW Unit)(left:Lit→Bool)(ps:List (Int×Int)):Prop where
 nd:(ps.map (·.1)).Nodup
 mem : ∀x,x∈ps.map (·.1)↔(has D0 (.int q x)=true∧left (.int q x)=false)
 at_ : ∀p∈ps,∀zd,D0.atKey (.int q p.1) zd = .lit (.int .i64 p.2)
theorem ET.start (q:IntKind) (D0:DataW Unit):ET q D0 (has D0) []:=⟨List.nodup_nil,λx=>by cases has D0 (.int q x)<;>simp,λ_ h=>by cases h⟩
theorem ET.step {q:IntKind} {D0:DataW Unit} {left:Lit→Bool} {ps:List (Int×Int)} (h:ET q D0 left ps) {x c:Int} (hlk:left (.int q x)=true) (hat : ∀zd,D0.atKey (.int q x) zd = .lit (.int .i64 c)):ET q D0 (λz=>left z && !z.sameKey (.int q x)) (ps++[(x,c)]):=by
 have hhas:has D0 (.int q x)=true:=has_true_of_atKey hat
 have hnew:x ∉ ps.map (·.1):=λhx=>by have:=((h.mem x).1 hx).2; rw [hlk] at this; cases this
 refine ⟨?_,λy=>?_,λp hp=>?_⟩
 ·rw [List.map_append]
  exact List.nodup_append.2 ⟨h.nd,by simp,λa ha b hb=>by simp at hb; subst hb; exact λe=>hnew (e▸ha)⟩
 ·by_cases hy:y=x
  ·subst hy; simp [hhas,Lit.sameKey]
  ·rw [List.map_append,List.mem_append,h.mem y]; simp [hy,Lit.sameKey]
 ·rcases List.mem_append.1 hp with hp|hp
  ·exact h.at_ p hp
  ·simp at hp; subst hp; exact hat
end Go.Proofs
namespace Go.Cf
open Go Go.Proofs Go.RowKit Go.Maps Go.Sort
section
variable {κ:Gh}{w:World}{es:Array MapEntry}{clk:Nat}{l l0:List (Int×Int)}{q:IntKind}
end
section
variable {ro:Option Nat}{P:Program}{ops:Array Oper}{Q:Exit→Act→World→Prop}{N:Nat}{D:List Deferred}{L L':FL}{a:Act}{w:World}{o:Oper}{K:Act→World→Prop}
variable {M:List Nat}{κ0 κ:Gh}{w0:World}{C C':List Ck}{R R':List MP}
end
end Go.Cf
namespace Go.Proofs
end Go.Proofs
namespace Go.Cf
open Go Go.Proofs Go.RowKit Go.Maps Go.Sort
end Go.Cf
