/- The walks: each function returns what its model says. Printed by a program of ours. -/
import Derived.Test.YtgpgcfgejggolaaGreatDoorZM1
import Derived.Test.YtgpgcfgejggolaaGreatDoorZWp1
import Derived.Test.YtgpgcfgejggolaaGreatDoorZWp3
import Derived.Test.YtgpgcfgejggolaaGreatDoorZWq1
import Derived.Test.YtgpgcfgejggolaaGreatDoorZWBld
import Derived.Test.YtgpgcfgejggolaaGreatDoorZWq4
import Derived.Test.YtgpgcfgejggolaaGreatDoorZWLib
import Derived.Test.YtgpgcfgejggolaaGreatDoorZWp4
import Derived.Test.YtgpgcfgejggolaaGreatDoorZWq5
import Derived.Test.YtgpgcfgejggolaaGreatDoorZWw1
namespace Go.Cf
open Go Go.Proofs
set_option linter.unusedVariables false
set_option maxRecDepth 20000
set_option maxHeartbeats 8000000
theorem C_law24_ScriptNone (N:Nat){κ0:Gh}{w0:World}(hfr:Fresh κ0 w0)(a1:ByteArray)(hR : ∀m∈([GL]:List MP),m.p κ0 w0){r:(Bool)}(H:M.law24_ScriptNone N a1=some r) :
    Calls Tryz.prog 5 #[.string (a1)] w0 (Post [] κ0 w0 fun v κ w=>v=vb r∧(∀m∈([]:List MP),m.p κ w)∧NewC w0 κ w []):=by
 have hS:=SS.start hfr hR
 refine en Tryz.func5 rfl Tryz.ntmps5 fun a hF=>?_
 unfold M.law24_ScriptNone at H
 refine qs fun _ hz=>rl (wp 1 [0] hF fun a hF=>nl (hz _ _ (qr fun _ h3=>(wp 1 [0,3] hF fun a hF=>(h3 _ _ (qs fun _ h4=>qr fun _ h5=>(wp 3 [0,3,10] hF fun a hF=>(h5 _ _ (bc hF H (fun hb H=>?_) fun hb H=>?_)))))))))
 refine qr fun _ h6=>(bd H fun x7 hx7 H=>wc (wo_callP hF hS kr kr (C_law24_awake N hS.fresh ((hS.pick [0] kr).ro) hx7) ?_))
 rintro _ κ w a ⟨rfl,hR,hN⟩ hF hS hO
 refine wp 1 [2] hF fun a hF=>(h6 _ _ (rt ?_))
 cases H
 exact (ret_done hF hS (res1 Tryz.results5 (rvt hF)) ⟨rfl,(hS.pick [] kr).ro,hS.newC [] dc kr⟩)
 refine sk (h4 _ _ (qr fun _ h8=>(wp 1 [0,3,12] hF fun a hF=>bd H fun x9 hx9 H=>wc (wcS 0 [] hF hS (fun hS=>C_script_Shell_Do_nil0 N (ByteArray.mk #[110,101,119,32,49,32,49,32,49]) (hS.sbK [0]) hx9) ?_))))
 rintro _ κ w a ⟨rfl,h2⟩ hF hB
 have hS:=hB _ _ h2
 refine wp 1 [0,3,4] hF fun a hF=>(h8 _ _ (qr fun _ h10=>(wp 1 [0,3,4,14] hF fun a hF=>bd H fun x11 hx11 H=>wc (wcS 0 [] hF hS (fun hS=>C_script_Shell_Do_nil0 N (ByteArray.mk #[97,99,107,101,100]) (hS.sbK [0]) hx11) ?_))))
 rintro _ κ w a ⟨rfl,h2⟩ hF hB
 have hS:=(hB _ _ h2).cC (C':=[])
 refine wp 1 [0,3,4,5] hF fun a hF=>(h10 _ _ (qr fun _ h12=>(wp 1 [0,3,4,5,17] hF fun a hF=>bd H fun x13 hx13 H=>wc (wcS 0 [] hF hS (fun hS=>C_script_Shell_Run_nil0 N (ByteArray.mk #[98,101,103,105,110,32,48,10,102,114,111,98]) (hS.sbK [0]) hx13) ?_))))
 rintro _ κ w a ⟨rfl,h2⟩ hF hB
 have hS:=hB _ _ h2
 refine wp 5 [0,3,4,5,6,7] hF fun a hF=>(h12 _ _ (qr fun _ h14=>(bd H fun v16 hv16 H=>wl_join (fun a w => ∃κ:Gh,Fr (47) [] [(2,vb v16)] a∧SS [] κ0 w0 κ w [] [GL]∧True) ?_ ?_)))
 refine bd hv16 fun x17 hx17 hv16=>wc (wo_callP hF hS kr kr (C_law24_awake N hS.fresh ((hS.pick [0] kr).ro) hx17) ?_)
 rintro _ κ w a ⟨rfl,hR,hN⟩ hF hS hO
 refine wp 1 [0,3,4,5,6,7,22] hF fun a hF=>bs hv16 (fun hb hv16=>?_) fun hb hv16=>?_
 have hF:=hF.bv 22 hb
 refine wp 4 [0,3,5,6,7,26] hF fun a hF=>bs hv16 (fun hb hv16=>?_) fun hb hv16=>?_
 have hF:=hF.bv 26 hb
 refine wp 4 [0,3,6,7,30] hF fun a hF=>bs hv16 (fun hb hv16=>?_) fun hb hv16=>?_
 have hF:=hF.bv 30 hb
 refine wp 4 [0,3,7,34] hF fun a hF=>bs hv16 (fun hb hv16=>?_) fun hb hv16=>?_
 have hF:=hF.bv 34 hb
 refine wp 4 [0,3,38] hF fun a hF=>bs hv16 (fun hb hv16=>?_) fun hb hv16=>?_
 have hF:=hF.bv 38 hb
 refine bd hv16 fun x18 hx18 hv16=>wcg hF (wcS 0 [] hF hS (fun hS=>C_script_New N (hS.sbK []) hx18) ?_)
 rintro _ κ w a ⟨b19,p20,cs21,rfl,h2⟩ hF hB
 have hS:=(hB _ _ h2).cC (C':=[.box b19 37 [sp p20],ox o_cluster_Cluster p20 cs21 x18.c])
 refine wp 1 [0,3,38,39,40] hF fun a hF=>bd hv16 fun x22 hx22 hv16=>wcg hF (wcS 2 [0,1] hF hS (fun hS=>C_script_Shell_Do N (T_script_Shell.mk x18.c) a1 p20 cs21 b19 (hS.sbK [0]) hx22) ?_)
 rintro _ κ w a ⟨p23,cs24,rfl,h2⟩ hF hB
 have hS:=hB _ _ h2
 refine wp 2 [38,41,42,43] hF fun a hF=>bd hv16 fun x25 hx25 hv16=>wcg hF (wcS 0 [0,1] hF hS (fun hS=>C_script_Shell_Do_nil0 N a1 (hS.sbK [0]) hx25) ?_)
 rintro _ κ w a ⟨rfl,h2⟩ hF hB
 have hS:=(hB _ _ h2).cC (C':=[.box b19 37 [sp p23],ox o_cluster_Cluster p23 cs24 x22.2.c])
 refine wp 3 [2] hF fun a hF=>nl ?_
 cases hv16
 exact ⟨_,hF.kp [2],hS.sp [] [0],trivial⟩
 have hF:=hF.bv 38 hb
 refine wp 9 [2] hF fun a hF=>nl ?_
 cases hv16
 exact ⟨_,hF.kp [2],hS.sp [] [0],trivial⟩
 have hF:=hF.bv 34 hb
 refine wp 13 [2] hF fun a hF=>nl ?_
 cases hv16
 exact ⟨_,hF.kp [2],hS.sp [] [0],trivial⟩
 have hF:=hF.bv 30 hb
 refine wp 17 [2] hF fun a hF=>nl ?_
 cases hv16
 exact ⟨_,hF.kp [2],hS.sp [] [0],trivial⟩
 have hF:=hF.bv 26 hb
 refine wp 21 [2] hF fun a hF=>nl ?_
 cases hv16
 exact ⟨_,hF.kp [2],hS.sp [] [0],trivial⟩
 have hF:=hF.bv 22 hb
 refine wp 25 [2] hF fun a hF=>nl ?_
 cases hv16
 exact ⟨_,hF.kp [2],hS.sp [] [0],trivial⟩
 rintro a w ⟨κ,hF,hS,-⟩
 refine h14 _ _ (rt ?_)
 cases H
 exact (ret_done hF hS (res1 Tryz.results5 (rvt hF)) ⟨rfl,(hS.pick [] kr).ro,hS.newC [] dc kr⟩)
end Go.Cf
