/- The walks: each function returns what its model says. Printed by a program of ours. -/
import Derived.Test.YtcplebnnanjngaaGreatZSh
import Derived.Test.YtcplebnnanjngaaGreatZM1
import Derived.Test.YtcplebnnanjngaaGreatZWg8
import Derived.Test.YtcplebnnanjngaaGreatZWg9
import Derived.Test.YtcplebnnanjngaaGreatZWr2
namespace Go.Cf
open Go Go.Proofs Tryz
open _root_.Int(toNat tdiv tmod)
open _root_.List(set replicate)
open _root_.ByteArray(empty)
open Go.IntKind(i64 u64)
set_option linter.unusedVariables false
set_option maxRecDepth 20000
set_option maxHeartbeats 8000000
theorem BD (N){l}{m}{g}(d:kG)(h)(i)(j)(k)(n)(o)(e:SB l m g [] [k3l h i d.Msg.Vers,k3m j k d.Msg.Vec,k3l n o d.Writes]){r}(H:M.wH N d=some r) :
    Calls Tryz.prog 12 #[.pointer none,.agg (flat (k2p d h i j k n o)).toArray] g (kP l m g λv κ w=>v=vi r∧SS l m g κ w [] []):=by
 have c:=e.hS
 have J:=c.fresh
 refine en func12 rfl ntmps12 λa b=>?_
 unfold M.wH at H
 refine qr λ_ I=>wc (wbx b c (k2p d h i j k n o) (sgN 20 jD) λR a w b c=>?_)
 refine wp 1 [0,3] b λa b=>I _ _ (m2 (λa w=>∃κ,Fr (47) [] [] a∧SS l m g κ w [] []∧M.rO N=some r) ?_ ?_)
 refine qr λ_ x=>wp 1 [0,3,5] b λa b=>wc (wld b c 0 0 0 λa b=>x _ _ (bk (qr λ_ y=>wp 2 [0,3,6,7] b λa b=>y _ _ (bc b H (λhb H=>?_) λhb H=>?_))))
 refine rl (wp 2 [3,9,10] b λa b=>wc (wld b c 0 1 0 λa b=>wp 1 [9,11,12] b λa b=>wc (wls b c 0 3 14 λa b=>bd H λK p H=>wc (wcS 0 [0] b c (λc=>sL N d.From d.Msg h i j k (c.sbK [0,1]) p) ?_))))
 rintro _ κ w a ⟨rfl,f⟩ b e
 have c:=e _ _ f
 refine nl ?_
 exact ⟨_,b.kp [],c.sp [] [],H⟩
 refine qr λ_ z=>wp 2 [0,3,6,15] b λa b=>z _ _ (bc b H (λhb H=>?_) λhb H=>?_)
 refine rl (wp 2 [3,17,18] b λa b=>wc (wld b c 0 1 0 λa b=>wp 1 [17,19,20] b λa b=>wc (wls b c 0 3 14 λa b=>bd H λL q H=>wc (wcS 0 [0] b c (λc=>xU N d.From d.Msg h i j k (c.sbK [0,1]) q) ?_))))
 rintro _ κ w a ⟨rfl,f⟩ b e
 have c:=e _ _ f
 refine nl ?_
 exact ⟨_,b.kp [],c.sp [] [],H⟩
 refine qr λ_ A=>wp 2 [0,3,6,23] b λa b=>A _ _ (bc b H (λhb H=>?_) λhb H=>?_)
 refine qr λ_ B=>wp 2 [3,25,26] b λa b=>wc (wld b c 0 2 0 λa b=>wp 1 [3,25,27,28] b λa b=>wc (wld b c 0 17 0 λa b=>wp 1 [25,27,29,30] b λa b=>wc (wld b c 0 18 0 λa b=>bd H λO s H=>wc (wcS 0 [0] b c (λc=>xT N d.Call d.Key d.T (c.sbK []) s) ?_))))
 rintro _ κ w a ⟨rfl,f⟩ b e
 have c:=e _ _ f
 refine wp 1 [4] b λa b=>B _ _ (rt ?_)
 cases H
 exact j7 b c (l4 results12 (rvt b)) ⟨rfl,c.sp [] []⟩
 refine qr λ_ C=>wp 2 [0,3,6,33] b λa b=>C _ _ (bc b H (λhb H=>?_) λhb H=>?_)
 refine qr λ_ D=>wp 2 [3,35,36] b λa b=>wc (wld b c 0 2 0 λa b=>wp 1 [3,35,37,38] b λa b=>wc (wld b c 0 18 0 λa b=>wp 1 [35,37,39,40] b λa b=>wc (wld b c 0 19 0 λa b=>bd H λP t H=>wc (wcS 0 [0] b c (λc=>xC N d.Call d.T d.Writes n o (c.sbK [2]) t) ?_))))
 rintro _ κ w a ⟨rfl,f⟩ b e
 have c:=e _ _ f
 refine wp 1 [4] b λa b=>D _ _ (rt ?_)
 cases H
 exact j7 b c (l4 results12 (rvt b)) ⟨rfl,c.sp [] []⟩
 refine qr λ_ E=>wp 2 [0,43] b λa b=>E _ _ (bc b H (λhb H=>?_) λhb H=>?_)
 refine qr λ_ F=>wp 1 [45] b λa b=>bd H λQ u H=>wc (wcS 0 [0] b c (λc=>xS N (c.sbK []) u) ?_)
 rintro _ κ w a ⟨rfl,f⟩ b e
 have c:=e _ _ f
 refine wp 1 [4] b λa b=>F _ _ (rt ?_)
 cases H
 exact j7 b c (l4 results12 (rvt b)) ⟨rfl,c.sp [] []⟩
 refine sk ?_
 exact ⟨_,b.kp [],c.sp [] [],H⟩
 rintro a w ⟨κ,b,c,H⟩
 unfold M.rO at H
 refine qr λ_ G=>wp 1 [4] b λa b=>G _ _ (rt ?_)
 cases H
 exact j7 b c (l4 results12 (rvt b)) ⟨rfl,c.sp [] []⟩
end Go.Cf
