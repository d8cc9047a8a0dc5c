/- The walks: each function returns what its model says. Printed by a program of ours. -/
import Derived.Test.YtcplebnnanjngaaGreatZSh
import Derived.Test.YtcplebnnanjngaaGreatZM1
import Derived.Test.YtcplebnnanjngaaGreatZWs
import Derived.Test.YtcplebnnanjngaaGreatZWo
import Derived.Test.YtcplebnnanjngaaGreatZWi
import Derived.Test.YtcplebnnanjngaaGreatZWp
import Derived.Test.YtcplebnnanjngaaGreatZWg1
import Derived.Test.YtcplebnnanjngaaGreatZWg3
import Derived.Test.YtcplebnnanjngaaGreatZWg4
import Derived.Test.YtcplebnnanjngaaGreatZWg5
import Derived.Test.YtcplebnnanjngaaGreatZWg6
import Derived.Test.YtcplebnnanjngaaGreatZWg7
import Derived.Test.YtcplebnnanjngaaGreatZWt
import Derived.Test.YtcplebnnanjngaaGreatZWg8
namespace Go.Cf
open Go Go.Proofs
open _root_.Int(toNat tdiv tmod)
open _root_.List(set replicate)
open _root_.ByteArray(empty)
open Go.IntKind(i64 u64)
set_option linter.unusedVariables false
set_option maxRecDepth 20000
set_option maxHeartbeats 8000000
theorem sF (N){f}{g}{e}(l)(b:jK)(h)(i)(j)(k)(n:SB f g e [] [k2u h i b.Vers,k2v j k b.Vec]){r}(H:M.pT N l b=some r) :
    Calls Tryz.prog 15 #[.pointer none,vi l,.agg (flat (k07 b.Kind b.Id b.N b.TS b.Lo b.Hi h (b.Vers).length i j (b.Vec).length k b.Cmd.Kind b.Cmd.DC b.Cmd.Shard b.Cmd.Node b.Cmd.Mode b.Cmd.Key)).toArray] e (kQ f g e λv κ w=>v = .tuple #[]∧SS f g e κ w [] []):=by
 have d:=n.hS
 have p:=d.fresh
 refine en Tryz.func15 rfl Tryz.ntmps15 λa c=>?_
 unfold M.pT at H
 refine qr λ_ o=>wc (wbx c d (k07 b.Kind b.Id b.N b.TS b.Lo b.Hi h (b.Vers).length i j (b.Vec).length k b.Cmd.Kind b.Cmd.DC b.Cmd.Shard b.Cmd.Node b.Cmd.Mode b.Cmd.Key) (sgN 14 jE) λq a w c d=>o _ _ (qs λ_ s=>qr λ_ m=>wp 10 [0,1,5,17] c λa c=>m _ _ (ct c rfl (rt ?_))))
 cases H
 exact j7 c d (mI Tryz.results15) ⟨rfl,d.sp [] []⟩
theorem xJ (N){f}{g}{e}(l)(b:jK)(h)(i)(j)(k)(n:SB f g e [] [k2u h i b.Vers,k2v j k b.Vec]){r}(H:M.tB N l b=some r) :
    Calls Tryz.prog 29 #[.pointer none,vi l,.agg (flat (k07 b.Kind b.Id b.N b.TS b.Lo b.Hi h (b.Vers).length i j (b.Vec).length k b.Cmd.Kind b.Cmd.DC b.Cmd.Shard b.Cmd.Node b.Cmd.Mode b.Cmd.Key)).toArray] e (kQ f g e λv κ w=>v = .tuple #[]∧SS f g e κ w [] []):=by
 have d:=n.hS
 have p:=d.fresh
 refine en Tryz.func29 rfl Tryz.ntmps29 λa c=>?_
 unfold M.tB at H
 refine qr λ_ o=>wc (wbx c d (k07 b.Kind b.Id b.N b.TS b.Lo b.Hi h (b.Vers).length i j (b.Vec).length k b.Cmd.Kind b.Cmd.DC b.Cmd.Shard b.Cmd.Node b.Cmd.Mode b.Cmd.Key) (sgN 14 jE) λq a w c d=>o _ _ (qs λ_ s=>qr λ_ m=>wp 22 [0,1,5,29] c λa c=>m _ _ (ct c rfl (rt ?_))))
 cases H
 exact j7 c d (mI Tryz.results29) ⟨rfl,d.sp [] []⟩
theorem xI (N){d}{e}{c}(g)(h)(i)(j:SB d e c [] []){r}(H:M.tA N g h i=some r) :
    Calls Tryz.prog 18 #[.pointer none,vi g,.string (h),vu i] c (kQ d e c λv κ w=>v=vi r∧SS d e c κ w [] []):=by
 have f:=j.hS
 have n:=f.fresh
 refine en Tryz.func18 rfl Tryz.ntmps18 λa b=>?_
 unfold M.tA at H
 refine qr λ_ k=>wp 1 (rg 4) b λa b=>k _ _ (qs λ_ o=>qr λ_ l=>wp 9 [0,1,2,3,17] b λa b=>l _ _ (ct b rfl (qr λ_ m=>wp 1 [8] b λa b=>m _ _ (rt ?_))))
 cases H
 exact j7 b f (l3 Tryz.results18 (rvt b)) ⟨rfl,f.sp [] []⟩
theorem wT (N){d}{e}{c}(h)(i)(f)(j)(k)(l:SB d e c [] (k0i j k f)){r}(H:M.sE N h i f=some r) :
    Calls Tryz.prog 17 #[.pointer none,vi h,vu i,.slice j f.length k] c (kQ d e c λv κ w=>v=vi r∧SS d e c κ w [] []):=by
 have g:=l.hS
 have p:=g.fresh
 refine en Tryz.func17 rfl Tryz.ntmps17 λa b=>?_
 unfold M.sE at H
 refine qr λ_ m=>wp 1 (rg 4) b λa b=>m _ _ (qs λ_ q=>qr λ_ n=>wp 9 [0,1,2,3,17] b λa b=>n _ _ (ct b rfl (qr λ_ o=>wp 1 [8] b λa b=>o _ _ (rt ?_))))
 cases H
 exact j7 b g (l3 Tryz.results17 (rvt b)) ⟨rfl,g.sp [] []⟩
theorem xH (N){d}{e}{c}(g:SB d e c [] []){r}(H:M.t8 N=some r) :
    Calls Tryz.prog 30 #[.pointer none] c (kQ d e c λv κ w=>v=vi r∧SS d e c κ w [] []):=by
 have f:=g.hS
 have k:=f.fresh
 refine en Tryz.func30 rfl Tryz.ntmps30 λa b=>?_
 unfold M.t8 at H
 refine qr λ_ h=>wp 1 [0] b λa b=>h _ _ (qs λ_ hz=>qr λ_ i=>wp 9 [0,12] b λa b=>i _ _ (ct b rfl (qr λ_ j=>wp 1 [2] b λa b=>j _ _ (rt ?_))))
 cases H
 exact j7 b f (l3 Tryz.results30 (rvt b)) ⟨rfl,f.sp [] []⟩
theorem tJ (N){e}{f}{d}(i:SB e f d [] []){r}(H:M.pZ N=some r) :
    Calls Tryz.prog 13 #[.pointer none] d (kQ e f d λv κ w => ∃g h,v = .slice g r.length h∧SS e f d κ w [k2w g r.length h] [k2x g h r]):=by
 have c:=i.hS
 have n:=c.fresh
 refine en Tryz.func13 rfl Tryz.ntmps13 λa b=>?_
 unfold M.pZ at H
 refine qr λ_ j=>wp 1 [0] b λa b=>j _ _ (qs λ_ hz=>qr λ_ k=>wp 2 [0,5] b λa b=>k _ _ (ct b rfl (qr λ_ l=>wp 1 [2] b λa b=>l _ _ (rt ?_))))
 have c:=c.add (m:=Ro.mp kN.ty none 0 ([]:List jM)) (Ro.nil kN.ty _ _)
 have c:=c.addNil 52 13
 cases H
 exact j7 b c (l3 Tryz.results13 (rvt b)) ⟨none,0,rfl,c.sp [0] [0]⟩
theorem u9 (N){d}{e}{c}(g:SB d e c [] []){r}(H:M.rC N=some r) :
    Calls Tryz.prog 11 #[.pointer none] c (kQ d e c λv κ w=>v=vi r∧SS d e c κ w [] []):=by
 have f:=g.hS
 have k:=f.fresh
 refine en Tryz.func11 rfl Tryz.ntmps11 λa b=>?_
 unfold M.rC at H
 refine qr λ_ h=>wp 1 [0] b λa b=>h _ _ (qs λ_ hz=>qr λ_ i=>wp 2 [0,4] b λa b=>i _ _ (ct b rfl (qr λ_ j=>wp 1 [2] b λa b=>j _ _ (rt ?_))))
 cases H
 exact j7 b f (l3 Tryz.results11 (rvt b)) ⟨rfl,f.sp [] []⟩
theorem tT (N){d}{e}{c}(g:SB d e c [] []){r}(H:M.qQ N=some r) :
    Calls Tryz.prog 10 #[.pointer none] c (kQ d e c λv κ w=>v=vu r∧SS d e c κ w [] []):=by
 have f:=g.hS
 have k:=f.fresh
 refine en Tryz.func10 rfl Tryz.ntmps10 λa b=>?_
 unfold M.qQ at H
 refine qr λ_ h=>wp 1 [0] b λa b=>h _ _ (qs λ_ hz=>qr λ_ i=>wp 2 [0,4] b λa b=>i _ _ (ct b rfl (qr λ_ j=>wp 1 [2] b λa b=>j _ _ (rt ?_))))
 cases H
 exact j7 b f (l3 Tryz.results10 (rvt b)) ⟨rfl,f.sp [] []⟩
end Go.Cf
