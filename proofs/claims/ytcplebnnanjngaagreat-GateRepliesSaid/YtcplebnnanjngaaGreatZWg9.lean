/- The walks: each function returns what its model says. Printed by a program of ours. -/
import Derived.Test.YtcplebnnanjngaaGreatZSh
import Derived.Test.YtcplebnnanjngaaGreatZM1
import Derived.Test.YtcplebnnanjngaaGreatZWs
import Derived.Test.YtcplebnnanjngaaGreatZWo
import Derived.Test.YtcplebnnanjngaaGreatZWi
import Derived.Test.YtcplebnnanjngaaGreatZWp
import Derived.Test.YtcplebnnanjngaaGreatZWg1
import Derived.Test.YtcplebnnanjngaaGreatZWg3
import Derived.Test.YtcplebnnanjngaaGreatZWg4
import Derived.Test.YtcplebnnanjngaaGreatZWg5
import Derived.Test.YtcplebnnanjngaaGreatZWg6
import Derived.Test.YtcplebnnanjngaaGreatZWg7
import Derived.Test.YtcplebnnanjngaaGreatZWgw
import Derived.Test.YtcplebnnanjngaaGreatZWg8
namespace Go.Cf
open Go Go.Proofs Tryz
open _root_.Int(toNat tdiv tmod)
open _root_.List(set replicate)
open _root_.ByteArray(empty)
open Go.IntKind(i64 u64)
set_option linter.unusedVariables false
set_option maxRecDepth 20000
set_option maxHeartbeats 8000000
theorem sL (N){f}{g}{e}(l)(c:jF)(h)(i)(j)(k)(n:SB f g e [] [k3l h i c.Vers,k3m j k c.Vec]){r}(H:M.q9 N l c=some r) :
    Calls Tryz.prog 15 #[.pointer none,vi l,.agg (flat (k0c c h i j k)).toArray] e (kP f g e λv κ w=>v = .tuple #[]∧SS f g e κ w [] []):=by
 have d:=n.hS
 have p:=d.fresh
 refine en func15 rfl ntmps15 λa b=>?_
 unfold M.q9 at H
 refine qr λ_ o=>wc (wbx b d (k0c c h i j k) (sgN 14 jD) λq a w b d=>o _ _ (qs λ_ s=>qr λ_ m=>wp 10 [0,1,5,17] b λa b=>m _ _ (ct b rfl (rt ?_))))
 cases H
 exact j7 b d (mL results15) ⟨rfl,d.sp [] []⟩
theorem xU (N){f}{g}{e}(l)(c:jF)(h)(i)(j)(k)(n:SB f g e [] [k3l h i c.Vers,k3m j k c.Vec]){r}(H:M.tH N l c=some r) :
    Calls Tryz.prog 29 #[.pointer none,vi l,.agg (flat (k0c c h i j k)).toArray] e (kP f g e λv κ w=>v = .tuple #[]∧SS f g e κ w [] []):=by
 have d:=n.hS
 have p:=d.fresh
 refine en func29 rfl ntmps29 λa b=>?_
 unfold M.tH at H
 refine qr λ_ o=>wc (wbx b d (k0c c h i j k) (sgN 14 jD) λq a w b d=>o _ _ (qs λ_ s=>qr λ_ m=>wp 22 [0,1,5,29] b λa b=>m _ _ (ct b rfl (rt ?_))))
 cases H
 exact j7 b d (mL results29) ⟨rfl,d.sp [] []⟩
theorem xT (N){d}{e}{c}(g)(h)(i)(j:SB d e c [] []){r}(H:M.tG N g h i=some r) :
    Calls Tryz.prog 18 #[.pointer none,vi g,.string (h),vu i] c (kP d e c λv κ w=>v=vi r∧SS d e c κ w [] []):=by
 have f:=j.hS
 have n:=f.fresh
 refine en func18 rfl ntmps18 λa b=>?_
 unfold M.tG at H
 refine qr λ_ k=>wp 1 (rg 4) b λa b=>k _ _ (qs λ_ o=>qr λ_ l=>wp 9 [0,1,2,3,17] b λa b=>l _ _ (ct b rfl (qr λ_ m=>wp 1 [8] b λa b=>m _ _ (rt ?_))))
 cases H
 exact j7 b f (l4 results18 (rvt b)) ⟨rfl,f.sp [] []⟩
theorem xC (N){d}{e}{c}(h)(i)(f)(j)(k)(l:SB d e c [] (k0r j k f)){r}(H:M.sI N h i f=some r) :
    Calls Tryz.prog 17 #[.pointer none,vi h,vu i,.slice j f.length k] c (kP d e c λv κ w=>v=vi r∧SS d e c κ w [] []):=by
 have g:=l.hS
 have p:=g.fresh
 refine en func17 rfl ntmps17 λa b=>?_
 unfold M.sI at H
 refine qr λ_ m=>wp 1 (rg 4) b λa b=>m _ _ (qs λ_ q=>qr λ_ n=>wp 9 [0,1,2,3,17] b λa b=>n _ _ (ct b rfl (qr λ_ o=>wp 1 [8] b λa b=>o _ _ (rt ?_))))
 cases H
 exact j7 b g (l4 results17 (rvt b)) ⟨rfl,g.sp [] []⟩
theorem xS (N){d}{e}{c}(g:SB d e c [] []){r}(H:M.tF N=some r) :
    Calls Tryz.prog 30 #[.pointer none] c (kP d e c λv κ w=>v=vi r∧SS d e c κ w [] []):=by
 have f:=g.hS
 have k:=f.fresh
 refine en func30 rfl ntmps30 λa b=>?_
 unfold M.tF at H
 refine qr λ_ h=>wp 1 [0] b λa b=>h _ _ (qs λ_ hz=>qr λ_ i=>wp 9 [0,12] b λa b=>i _ _ (ct b rfl (qr λ_ j=>wp 1 [2] b λa b=>j _ _ (rt ?_))))
 cases H
 exact j7 b f (l4 results30 (rvt b)) ⟨rfl,f.sp [] []⟩
theorem tR (N){e}{f}{d}(i:SB e f d [] []){r}(H:M.qE N=some r) :
    Calls Tryz.prog 13 #[.pointer none] d (kP e f d λv κ w=>∃g h,v = .slice g r.length h∧SS e f d κ w [k3n g r.length h] [k3o g h r]):=by
 have c:=i.hS
 have n:=c.fresh
 refine en func13 rfl ntmps13 λa b=>?_
 unfold M.qE at H
 refine qr λ_ j=>wp 1 [0] b λa b=>j _ _ (qs λ_ hz=>qr λ_ k=>wp 2 [0,5] b λa b=>k _ _ (ct b rfl (qr λ_ l=>wp 1 [2] b λa b=>l _ _ (rt ?_))))
 have c:=c.add (m:=Ro.mp kK.ty none 0 ([]:List jL)) (Ro.nil kK.ty _ _)
 have c:=c.addNil 52 13
 cases H
 exact j7 b c (l4 results13 (rvt b)) ⟨none,0,rfl,c.sp [0] [0]⟩
theorem xM (N){e}{f}{d}(i:SB e f d [] []){r}(H:M.rE N=some r) :
    Calls Tryz.prog 19 #[.pointer none] d (kP e f d λv κ w=>∃g h,v = .slice g r.length h∧SS e f d κ w [.tok g 3 1 r.length h] [k3b g h r]):=by
 have c:=i.hS
 have n:=c.fresh
 refine en func19 rfl ntmps19 λa b=>?_
 unfold M.rE at H
 refine qr λ_ j=>wp 1 [0] b λa b=>j _ _ (qs λ_ hz=>qr λ_ k=>wp 2 [0,9] b λa b=>k _ _ (ct b rfl (qr λ_ l=>wp 1 [2] b λa b=>l _ _ (rt ?_))))
 have c:=c.add (m:=Ro.mp (fInt .i64).ty none 0 ([]:List Int)) (Ro.nil (fInt .i64).ty _ _)
 have c:=c.addNil 3 1
 cases H
 exact j7 b c (l4 results19 (rvt b)) ⟨none,0,rfl,c.sp [0] [0]⟩
end Go.Cf
