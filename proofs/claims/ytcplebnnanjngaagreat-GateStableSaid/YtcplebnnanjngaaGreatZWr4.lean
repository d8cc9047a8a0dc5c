/- The walks: each function returns what its model says. Printed by a program of ours. -/
import Derived.Test.YtcplebnnanjngaaGreatZSh
import Derived.Test.YtcplebnnanjngaaGreatZM1
import Derived.Test.YtcplebnnanjngaaGreatZWg8
import Derived.Test.YtcplebnnanjngaaGreatZWg9
import Derived.Test.YtcplebnnanjngaaGreatZWr2
namespace Go.Cf
open Go Go.Proofs
open _root_.Int(toNat tdiv tmod)
open _root_.List(set replicate)
open _root_.ByteArray(empty)
open Go.IntKind(i64 u64)
set_option linter.unusedVariables false
set_option maxRecDepth 20000
set_option maxHeartbeats 8000000
theorem AT (N){l}{m}{g}(c:kP)(h)(i)(j)(k)(n)(o)(e:SB l m g [] [k2u h i c.Msg.Vers,k2v j k c.Msg.Vec,k2u n o c.Writes]){r}(H:M.w7 N c=some r) :
    Calls Tryz.prog 12 #[.pointer none,.agg (flat (k23 c.Kind c.From c.Call c.Msg.Kind c.Msg.Id c.Msg.N c.Msg.TS c.Msg.Lo c.Msg.Hi h (c.Msg.Vers).length i j (c.Msg.Vec).length k c.Msg.Cmd.Kind c.Msg.Cmd.DC c.Msg.Cmd.Shard c.Msg.Cmd.Node c.Msg.Cmd.Mode c.Msg.Cmd.Key c.Key c.T n (c.Writes).length o)).toArray] g (kQ l m g λv κ w=>v=vi r∧SS l m g κ w [] []):=by
 have d:=e.hS
 have J:=d.fresh
 refine en Tryz.func12 rfl Tryz.ntmps12 λa b=>?_
 unfold M.w7 at H
 refine qr λ_ I=>wc (wbx b d (k23 c.Kind c.From c.Call c.Msg.Kind c.Msg.Id c.Msg.N c.Msg.TS c.Msg.Lo c.Msg.Hi h (c.Msg.Vers).length i j (c.Msg.Vec).length k c.Msg.Cmd.Kind c.Msg.Cmd.DC c.Msg.Cmd.Shard c.Msg.Cmd.Node c.Msg.Cmd.Mode c.Msg.Cmd.Key c.Key c.T n (c.Writes).length o) (sgN 20 jE) λR a w b d=>?_)
 refine wp 1 [0,3] b λa b=>I _ _ (m9 (λa w => ∃κ:Gh,Fr (47) [] [] a∧SS l m g κ w [] []∧M.rJ N=some r) ?_ ?_)
 refine qr λ_ x=>wp 1 [0,3,5] b λa b=>wc (wld b d 0 0 0 λa b=>x _ _ (bk (qr λ_ y=>wp 2 [0,3,6,7] b λa b=>y _ _ (bc b H (λhb H=>?_) λhb H=>?_))))
 refine rl (wp 2 [3,9,10] b λa b=>wc (wld b d 0 1 0 λa b=>wp 1 [9,11,12] b λa b=>wc (wls b d 0 3 14 λa b=>bd H λK p H=>wc (wcS 0 [0] b d (λd=>sF N c.From c.Msg h i j k (d.sbK [0,1]) p) ?_))))
 rintro _ κ w a ⟨rfl,f⟩ b e
 have d:=e _ _ f
 refine nl ?_
 exact ⟨_,b.kp [],d.sp [] [],H⟩
 refine qr λ_ z=>wp 2 [0,3,6,15] b λa b=>z _ _ (bc b H (λhb H=>?_) λhb H=>?_)
 refine rl (wp 2 [3,17,18] b λa b=>wc (wld b d 0 1 0 λa b=>wp 1 [17,19,20] b λa b=>wc (wls b d 0 3 14 λa b=>bd H λL q H=>wc (wcS 0 [0] b d (λd=>xJ N c.From c.Msg h i j k (d.sbK [0,1]) q) ?_))))
 rintro _ κ w a ⟨rfl,f⟩ b e
 have d:=e _ _ f
 refine nl ?_
 exact ⟨_,b.kp [],d.sp [] [],H⟩
 refine qr λ_ A=>wp 2 [0,3,6,23] b λa b=>A _ _ (bc b H (λhb H=>?_) λhb H=>?_)
 refine qr λ_ B=>wp 2 [3,25,26] b λa b=>wc (wld b d 0 2 0 λa b=>wp 1 [3,25,27,28] b λa b=>wc (wld b d 0 17 0 λa b=>wp 1 [25,27,29,30] b λa b=>wc (wld b d 0 18 0 λa b=>bd H λO s H=>wc (wcS 0 [0] b d (λd=>xI N c.Call c.Key c.T (d.sbK []) s) ?_))))
 rintro _ κ w a ⟨rfl,f⟩ b e
 have d:=e _ _ f
 refine wp 1 [4] b λa b=>B _ _ (rt ?_)
 cases H
 exact j7 b d (l3 Tryz.results12 (rvt b)) ⟨rfl,d.sp [] []⟩
 refine qr λ_ C=>wp 2 [0,3,6,33] b λa b=>C _ _ (bc b H (λhb H=>?_) λhb H=>?_)
 refine qr λ_ D=>wp 2 [3,35,36] b λa b=>wc (wld b d 0 2 0 λa b=>wp 1 [3,35,37,38] b λa b=>wc (wld b d 0 18 0 λa b=>wp 1 [35,37,39,40] b λa b=>wc (wld b d 0 19 0 λa b=>bd H λP t H=>wc (wcS 0 [0] b d (λd=>wT N c.Call c.T c.Writes n o (d.sbK [2]) t) ?_))))
 rintro _ κ w a ⟨rfl,f⟩ b e
 have d:=e _ _ f
 refine wp 1 [4] b λa b=>D _ _ (rt ?_)
 cases H
 exact j7 b d (l3 Tryz.results12 (rvt b)) ⟨rfl,d.sp [] []⟩
 refine qr λ_ E=>wp 2 [0,43] b λa b=>E _ _ (bc b H (λhb H=>?_) λhb H=>?_)
 refine qr λ_ F=>wp 1 [45] b λa b=>bd H λQ u H=>wc (wcS 0 [0] b d (λd=>xH N (d.sbK []) u) ?_)
 rintro _ κ w a ⟨rfl,f⟩ b e
 have d:=e _ _ f
 refine wp 1 [4] b λa b=>F _ _ (rt ?_)
 cases H
 exact j7 b d (l3 Tryz.results12 (rvt b)) ⟨rfl,d.sp [] []⟩
 refine sk ?_
 exact ⟨_,b.kp [],d.sp [] [],H⟩
 rintro a w ⟨κ,b,d,H⟩
 unfold M.rJ at H
 refine qr λ_ G=>wp 1 [4] b λa b=>G _ _ (rt ?_)
 cases H
 exact j7 b d (l3 Tryz.results12 (rvt b)) ⟨rfl,d.sp [] []⟩
end Go.Cf
