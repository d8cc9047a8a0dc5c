/- What the readings know of a law's operations, turned. -/
import Derived.Test.YtcplebnnanjngaaGreatZRd
import Derived.Test.YtcplebnnanjngaaGreatZGc1
set_option linter.unusedVariables false
namespace Go.Cf
open Go
theorem MJ {l:List kG} (h : ∀y∈l,xZ y) : ∀o∈l,LB o:=λo ho=>by
 obtain ⟨_,_,_,⟨_,h1,h2,_,_,_,_,h3,_⟩,_⟩:=h o ho
 have n : ∀x:Int,inI .u64 x→0≤x:=λx hx=>hx.1
 exact ⟨λx hx=>n x (h3 x hx),n _ h1,n _ h2⟩
end Go.Cf
