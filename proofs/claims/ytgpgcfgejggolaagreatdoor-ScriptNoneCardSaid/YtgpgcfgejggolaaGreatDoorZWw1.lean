/- The walks: each function returns what its model says. Printed by a program of ours. -/
import Derived.Test.YtgpgcfgejggolaaGreatDoorZM1
import Derived.Test.YtgpgcfgejggolaaGreatDoorZWp1
import Derived.Test.YtgpgcfgejggolaaGreatDoorZWp3
import Derived.Test.YtgpgcfgejggolaaGreatDoorZWp4
namespace Go.Cf
open Go Go.Proofs
set_option linter.unusedVariables false
set_option maxRecDepth 20000
set_option maxHeartbeats 8000000
theorem C_law24_awake (N:Nat){κ0:Gh}{w0:World}(hfr:Fresh κ0 w0)(hR : ∀m∈([GL]:List MP),m.p κ0 w0){r:(Bool)}(H:M.law24_awake N=some r) :
    Calls Tryz.prog 8 #[] w0 (Post [] κ0 w0 fun v κ w=>v=vb r∧(∀m∈([]:List MP),m.p κ w)∧NewC w0 κ w []):=by
 have hS:=SS.start hfr hR
 refine en Tryz.func8 rfl Tryz.ntmps8 fun a hF=>?_
 unfold M.law24_awake at H
 refine qr fun _ h1=>(wp 1 [] hF fun a hF=>(h1 _ _ (qs fun _ hz=>rl (bd H fun x3 hx3 H=>wc (wcS 0 [] hF hS (fun hS=>C_script_New N (hS.sbK []) hx3) ?_)))))
 rintro _ κ w a ⟨b4,p5,cs6,rfl,h2⟩ hF hB
 have hS:=hB _ _ h2
 refine wp 1 [1] hF fun a hF=>nl (hz _ _ (qr fun _ h7=>(bd H fun v9 hv9 H=>wl_join (fun a w => ∃κ:Gh,Fr (20) [] [(0,vb v9)] a∧SS [] κ0 w0 κ w [] [GL]∧True) ?_ ?_)))
 refine wp 4 [1,5,6] hF fun a hF=>bd hv9 fun x10 hx10 hv9=>wcg hF (wcS 2 [0,1] hF hS (fun hS=>C_script_Shell_Do N (T_script_Shell.mk x3.c) (ByteArray.mk #[110,101,119,32,49,32,49,32,49]) p5 cs6 b4 (hS.sbK [0]) hx10) ?_)
 rintro _ κ w a ⟨p11,cs12,rfl,h2⟩ hF hB
 have hS:=(hB _ _ h2).cC (C':=[.box b4 37 [sp p11],ox o_cluster_Cluster p11 cs12 x10.2.c])
 refine wp 3 [1,10] hF fun a hF=>bs hv9 (fun hb hv9=>?_) fun hb hv9=>?_
 have hF:=hF.bv 10 hb
 refine wp 1 [1,10,11] hF fun a hF=>bd hv9 fun x13 hx13 hv9=>wcg hF (wcS 2 [0,1] hF hS (fun hS=>C_script_Shell_Do N (T_script_Shell.mk x10.2.c) (ByteArray.mk #[98,101,103,105,110,32,48]) p11 cs12 b4 (hS.sbK [0]) hx13) ?_)
 rintro _ κ w a ⟨p14,cs15,rfl,h2⟩ hF hB
 have hS:=hB _ _ h2
 refine wp 3 [1,15] hF fun a hF=>bs hv9 (fun hb hv9=>?_) fun hb hv9=>?_
 have hF:=hF.bv 15 hb
 refine wp 1 [15,16] hF fun a hF=>bd hv9 fun x16 hx16 hv9=>wcg hF (wcS 2 [0,1] hF hS (fun hS=>C_script_Shell_Do N (T_script_Shell.mk x13.2.c) (ByteArray.mk #[102,114,111,98]) p14 cs15 b4 (hS.sbK [0]) hx16) ?_)
 rintro _ κ w a ⟨p17,cs18,rfl,h2⟩ hF hB
 have hS:=(hB _ _ h2).cC (C':=[.box b4 37 [sp p17],ox o_cluster_Cluster p17 cs18 x16.2.c])
 refine wp 3 [0] hF fun a hF=>nl ?_
 cases hv9
 exact ⟨_,hF.kp [0],hS.sp [] [0],trivial⟩
 have hF:=hF.bv 15 hb
 refine wp 5 [0] hF fun a hF=>nl ?_
 cases hv9
 exact ⟨_,hF.kp [0],hS.sp [] [0],trivial⟩
 have hF:=hF.bv 10 hb
 refine wp 10 [0] hF fun a hF=>nl ?_
 cases hv9
 exact ⟨_,hF.kp [0],hS.sp [] [0],trivial⟩
 rintro a w ⟨κ,hF,hS,-⟩
 refine h7 _ _ (rt ?_)
 cases H
 exact (ret_done hF hS (res1 Tryz.results8 (rvt hF)) ⟨rfl,(hS.pick [] kr).ro,hS.newC [] dc kr⟩)
end Go.Cf
