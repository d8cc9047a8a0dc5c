/- The walks: each function returns what its model says. Printed by a program of ours. -/
import Derived.Test.YtgpgcfgejggolaaGreatDoorZM1
import Derived.Test.YtgpgcfgejggolaaGreatDoorZWp1
import Derived.Test.YtgpgcfgejggolaaGreatDoorZWp3
import Derived.Test.YtgpgcfgejggolaaGreatDoorZWw1
namespace Go.Cf
open Go Go.Proofs
set_option linter.unusedVariables false
set_option maxRecDepth 20000
set_option maxHeartbeats 8000000
theorem C_law24_ScriptWrong (N:Nat){κ0:Gh}{w0:World}(hfr:Fresh κ0 w0)(a1:ByteArray)(a2:ByteArray)(hR : ∀m∈([GL]:List MP),m.p κ0 w0){r:(Bool)}(H:M.law24_ScriptWrong N a1 a2=some r) :
    Calls Tryz.prog 3 #[.string (a1),.string (a2)] w0 (Post [] κ0 w0 fun v κ w=>v=vb r∧(∀m∈([]:List MP),m.p κ w)∧NewC w0 κ w []):=by
 have hS:=SS.start hfr hR
 refine en Tryz.func3 rfl Tryz.ntmps3 fun a hF=>?_
 unfold M.law24_ScriptWrong at H
 refine qr fun _ h3=>(wp 1 [0,1] hF fun a hF=>(h3 _ _ (qr fun _ h4=>(bd H fun x5 hx5 H=>wc (wcS 0 [] hF hS (fun hS=>C_script_New N (hS.sbK []) hx5) ?_)))))
 rintro _ κ w a ⟨b6,p7,cs8,rfl,h2⟩ hF hB
 have hS:=hB _ _ h2
 refine wp 1 [0,1,5] hF fun a hF=>(h4 _ _ (qs fun _ h9=>qr fun _ h10=>(wp 4 [0,1,5,12,13] hF fun a hF=>bd H fun x11 hx11 H=>wcg hF (wcS 2 [0,1] hF hS (fun hS=>C_script_Shell_Do N (T_script_Shell.mk x5.c) (ByteArray.mk #[110,101,119,32,50,32,49,32,49]) p7 cs8 b6 (hS.sbK [0]) hx11) ?_))))
 rintro _ κ w a ⟨p12,cs13,rfl,h2⟩ hF hB
 have hS:=(hB _ _ h2).cC (C':=[.box b6 37 [sp p12],ox o_cluster_Cluster p12 cs13 x11.2.c])
 refine wp 2 [0,1,5,16] hF fun a hF=>(h10 _ _ (bc hF H (fun hb H=>?_) fun hb H=>?_))
 refine qr fun _ h14=>(wp 1 [4] hF fun a hF=>(h14 _ _ (rt ?_)))
 cases H
 exact (ret_done hF hS (res1 Tryz.results3 (rvt hF)) ⟨rfl,(hS.pick [] kr).ro,hS.newC [] dc kr⟩)
 refine sk (h9 _ _ (qs fun _ h15=>qr fun _ h16=>(bd H fun v18 hv18 H=>wl_join (fun a w => ∃κ:Gh,Fr (78) [] [(0,.string (a1)),(5,pt b6 0),(24,vb v18)] a∧SS [] κ0 w0 κ w [.box b6 37 [sp p12],ox o_cluster_Cluster p12 cs13 x11.2.c] [GL]∧True) ?_ ?_)))
 refine wp 4 [0,1,5,20] hF fun a hF=>bs hv18 (fun hb hv18=>?_) fun hb hv18=>?_
 have hF:=hF.bv 20 hb
 refine wp 4 [0,5,24] hF fun a hF=>nl ?_
 cases hv18
 exact ⟨_,hF.kp [0,5,24],hS.sp [0,1] [0],trivial⟩
 have hF:=hF.bv 20 hb
 refine wp 4 [0,5,24] hF fun a hF=>nl ?_
 cases hv18
 exact ⟨_,hF.kp [0,5,24],hS.sp [0,1] [0],trivial⟩
 rintro a w ⟨κ,hF,hS,-⟩
 refine h16 _ _ (bc hF H (fun hb H=>?_) fun hb H=>?_)
 refine qr fun _ h19=>(bd H fun x20 hx20 H=>wc (wo_callP hF hS kr kr (C_law24_awake N hS.fresh ((hS.pick [0] kr).ro) hx20) ?_))
 rintro _ κ w a ⟨rfl,hR,hN⟩ hF hS hO
 refine wp 1 [4] hF fun a hF=>(h19 _ _ (rt ?_))
 cases H
 exact (ret_done hF hS (res1 Tryz.results3 (rvt hF)) ⟨rfl,(hS.pick [] kr).ro,hS.newC [] dc kr⟩)
 refine sk (h15 _ _ (qs fun _ h21=>qr fun _ h22=>(bd H fun v24 hv24 H=>wl_join (fun a w => ∃κ:Gh,Fr (78) [] [(0,.string (a1)),(5,pt b6 0),(32,vb v24)] a∧SS [] κ0 w0 κ w [.box b6 37 [sp p12],ox o_cluster_Cluster p12 cs13 x11.2.c] [GL]∧True) ?_ ?_)))
 refine wp 3 [0,5,28] hF fun a hF=>bs hv24 (fun hb hv24=>?_) fun hb hv24=>?_
 have hF:=hF.bv 28 hb
 refine wp 4 [0,5,32] hF fun a hF=>nl ?_
 cases hv24
 exact ⟨_,hF.kp [0,5,32],hS.sp [0,1] [0],trivial⟩
 have hF:=hF.bv 28 hb
 refine wl_pure (L':=[(0,.string (a1)),(5,pt b6 0),(28,vb false),(29,.string (a1))]) 1 [0,5,28,29] hF kr fun a hF=>bd hv24 fun x25 hx25 hv24=>wcg hF (wo_val hF kr (v := .int .u8 (x25)) ((val_sIx rfl rfl rfl kr hx25) _) fun a hF=>wp 2 [0,5,32] hF fun a hF=>nl ?_)
 cases hv24
 exact ⟨_,hF.kp [0,5,32],hS.sp [0,1] [0],trivial⟩
 rintro a w ⟨κ,hF,hS,-⟩
 refine h22 _ _ (bc hF H (fun hb H=>?_) fun hb H=>?_)
 refine qr fun _ h26=>(bd H fun v28 hv28 H=>wl_join (fun a w => ∃κ:Gh,Fr (78) [] [(4,vb v28)] a∧SS [] κ0 w0 κ w [] [GL]∧True) ?_ ?_)
 refine bd hv28 fun x29 hx29 hv28=>wc (wo_callP hF hS kr kr (C_law24_awake N hS.fresh ((hS.pick [0] kr).ro) hx29) ?_)
 rintro _ κ w a ⟨rfl,hR,hN⟩ hF hS hO
 refine wp 1 [0,5,34] hF fun a hF=>bs hv28 (fun hb hv28=>?_) fun hb hv28=>?_
 have hF:=hF.bv 34 hb
 refine wp 2 [34,35,36] hF fun a hF=>bd hv28 fun x30 hx30 hv28=>wcg hF (wcS 2 [0,1] hF hS (fun hS=>C_script_Shell_Do N (T_script_Shell.mk x11.2.c) a1 p12 cs13 b6 (hS.sbK [0]) hx30) ?_)
 rintro _ κ w a ⟨p31,cs32,rfl,h2⟩ hF hB
 have hS:=hB _ _ h2
 refine wp 3 [4] hF fun a hF=>nl ?_
 cases hv28
 exact ⟨_,hF.kp [4],hS.sp [] [0],trivial⟩
 have hF:=hF.bv 34 hb
 refine wp 6 [4] hF fun a hF=>nl ?_
 cases hv28
 exact ⟨_,hF.kp [4],hS.sp [] [0],trivial⟩
 rintro a w ⟨κ,hF,hS,-⟩
 refine h26 _ _ (rt ?_)
 cases H
 exact (ret_done hF hS (res1 Tryz.results3 (rvt hF)) ⟨rfl,(hS.pick [] kr).ro,hS.newC [] dc kr⟩)
 refine sk (h21 _ _ (qr fun _ h33=>(wl_pure (L':=[(0,.string (a1)),(5,pt b6 0),(40,.string (a1))]) 1 [0,5,40] hF kr fun a hF=>bd H fun x34 hx34 H=>wc (wo_val hF kr (v := .string (x34)) ((val_cat rfl rfl rfl hx34) _) fun a hF=>wc (wo_buildN (t:=fStr) (z := .string (ByteArray.empty)) (l:=[x34,(ByteArray.mk #[98,101,103,105,110]),(ByteArray.mk #[98,101,103,105,110,32,48,32,48]),(ByteArray.mk #[98,101,103,105,110,32,48,48]),(ByteArray.mk #[98,101,103,105,110,32,43,49]),(ByteArray.mk #[98,101,103,105,110,32,57,50,50,51,51,55,50,48,51,54,56,53,52,55,55,53,56,48,56]),(ByteArray.mk #[114,101,97,100,32,48,32]),(ByteArray.mk #[119,114,105,116,101,32,48,32,97]),(ByteArray.mk #[98,101,103,105,110,32,32,48]),(ByteArray.mk #[32,98,101,103,105,110,32,48]),(ByteArray.mk #[98,101,103,105,110,32,48,32]),(ByteArray.mk #[99,111,109,109,105,116,32,120]),(ByteArray.mk #[97,99,107,101,100,32,49])]) (vs:=[(0,.string (x34)),(1,.string ((ByteArray.mk #[98,101,103,105,110]))),(2,.string ((ByteArray.mk #[98,101,103,105,110,32,48,32,48]))),(3,.string ((ByteArray.mk #[98,101,103,105,110,32,48,48]))),(4,.string ((ByteArray.mk #[98,101,103,105,110,32,43,49]))),(5,.string ((ByteArray.mk #[98,101,103,105,110,32,57,50,50,51,51,55,50,48,51,54,56,53,52,55,55,53,56,48,56]))),(6,.string ((ByteArray.mk #[114,101,97,100,32,48,32]))),(7,.string ((ByteArray.mk #[119,114,105,116,101,32,48,32,97]))),(8,.string ((ByteArray.mk #[98,101,103,105,110,32,32,48]))),(9,.string ((ByteArray.mk #[32,98,101,103,105,110,32,48]))),(10,.string ((ByteArray.mk #[98,101,103,105,110,32,48,32]))),(11,.string ((ByteArray.mk #[99,111,109,109,105,116,32,120]))),(12,.string ((ByteArray.mk #[97,99,107,101,100,32,49])))]) (cells := #[.string (x34),.string ((ByteArray.mk #[98,101,103,105,110])),.string ((ByteArray.mk #[98,101,103,105,110,32,48,32,48])),.string ((ByteArray.mk #[98,101,103,105,110,32,48,48])),.string ((ByteArray.mk #[98,101,103,105,110,32,43,49])),.string ((ByteArray.mk #[98,101,103,105,110,32,57,50,50,51,51,55,50,48,51,54,56,53,52,55,55,53,56,48,56])),.string ((ByteArray.mk #[114,101,97,100,32,48,32])),.string ((ByteArray.mk #[119,114,105,116,101,32,48,32,97])),.string ((ByteArray.mk #[98,101,103,105,110,32,32,48])),.string ((ByteArray.mk #[32,98,101,103,105,110,32,48])),.string ((ByteArray.mk #[98,101,103,105,110,32,48,32])),.string ((ByteArray.mk #[99,111,109,109,105,116,32,120])),.string ((ByteArray.mk #[97,99,107,101,100,32,49]))]) (E:=9) hF hS kr rfl kr kr rfl kr kr kr kr kr fun p35 κ a w hF hS=>?_)))))
 refine wp 1 [0,5,6] hF fun a hF=>(h33 _ _ (qs fun _ h36=>qr fun _ h37=>(wp 3 [0,5,43,44,45] hF fun a hF=>(h37 _ _ (bk (loop_fuel (n:=N) (fun n a w => ∃(κ:Gh) (p88:Option Nat) (cs89:List Nat) (y90:Option T_cluster_Cluster) (y91:Int),Fr (78) [] [(0,.string (a1)),(5,pt b6 0),(43,.slice p35 ([x34,(ByteArray.mk #[98,101,103,105,110]),(ByteArray.mk #[98,101,103,105,110,32,48,32,48]),(ByteArray.mk #[98,101,103,105,110,32,48,48]),(ByteArray.mk #[98,101,103,105,110,32,43,49]),(ByteArray.mk #[98,101,103,105,110,32,57,50,50,51,51,55,50,48,51,54,56,53,52,55,55,53,56,48,56]),(ByteArray.mk #[114,101,97,100,32,48,32]),(ByteArray.mk #[119,114,105,116,101,32,48,32,97]),(ByteArray.mk #[98,101,103,105,110,32,32,48]),(ByteArray.mk #[32,98,101,103,105,110,32,48]),(ByteArray.mk #[98,101,103,105,110,32,48,32]),(ByteArray.mk #[99,111,109,109,105,116,32,120]),(ByteArray.mk #[97,99,107,101,100,32,49])]).length 13),(44,vi (([x34,(ByteArray.mk #[98,101,103,105,110]),(ByteArray.mk #[98,101,103,105,110,32,48,32,48]),(ByteArray.mk #[98,101,103,105,110,32,48,48]),(ByteArray.mk #[98,101,103,105,110,32,43,49]),(ByteArray.mk #[98,101,103,105,110,32,57,50,50,51,51,55,50,48,51,54,56,53,52,55,55,53,56,48,56]),(ByteArray.mk #[114,101,97,100,32,48,32]),(ByteArray.mk #[119,114,105,116,101,32,48,32,97]),(ByteArray.mk #[98,101,103,105,110,32,32,48]),(ByteArray.mk #[32,98,101,103,105,110,32,48]),(ByteArray.mk #[98,101,103,105,110,32,48,32]),(ByteArray.mk #[99,111,109,109,105,116,32,120]),(ByteArray.mk #[97,99,107,101,100,32,49])]).length:Int)),(45,vi y91)] a∧SS [] κ0 w0 κ w [.box b6 37 [sp p88],.tok p35 9 1 ([x34,(ByteArray.mk #[98,101,103,105,110]),(ByteArray.mk #[98,101,103,105,110,32,48,32,48]),(ByteArray.mk #[98,101,103,105,110,32,48,48]),(ByteArray.mk #[98,101,103,105,110,32,43,49]),(ByteArray.mk #[98,101,103,105,110,32,57,50,50,51,51,55,50,48,51,54,56,53,52,55,55,53,56,48,56]),(ByteArray.mk #[114,101,97,100,32,48,32]),(ByteArray.mk #[119,114,105,116,101,32,48,32,97]),(ByteArray.mk #[98,101,103,105,110,32,32,48]),(ByteArray.mk #[32,98,101,103,105,110,32,48]),(ByteArray.mk #[98,101,103,105,110,32,48,32]),(ByteArray.mk #[99,111,109,109,105,116,32,120]),(ByteArray.mk #[97,99,107,101,100,32,49])]).length 13,ox o_cluster_Cluster p88 cs89 y90] [Ro.mp fStr.ty p35 13 [x34,(ByteArray.mk #[98,101,103,105,110]),(ByteArray.mk #[98,101,103,105,110,32,48,32,48]),(ByteArray.mk #[98,101,103,105,110,32,48,48]),(ByteArray.mk #[98,101,103,105,110,32,43,49]),(ByteArray.mk #[98,101,103,105,110,32,57,50,50,51,51,55,50,48,51,54,56,53,52,55,55,53,56,48,56]),(ByteArray.mk #[114,101,97,100,32,48,32]),(ByteArray.mk #[119,114,105,116,101,32,48,32,97]),(ByteArray.mk #[98,101,103,105,110,32,32,48]),(ByteArray.mk #[32,98,101,103,105,110,32,48]),(ByteArray.mk #[98,101,103,105,110,32,48,32]),(ByteArray.mk #[99,111,109,109,105,116,32,120]),(ByteArray.mk #[97,99,107,101,100,32,49])],GL]∧M.law24_ScriptWrong_L1 N n a1 x34 y90 y91=some r) ?_ ?_))))))
 exact ⟨_,p12,cs13,x11.2.c,0,hF.kp [0,5,43,44,45],hS.sp [1,0,2] [0,1],H⟩
 rintro n a w ⟨κ,p88,cs89,y90,y91,hF,hS,H⟩
 rcases n with _|fuel1
 simp [M.law24_ScriptWrong_L1] at H
 simp only [M.law24_ScriptWrong_L1] at H
 refine qr fun _ h92=>(wl_pure (L':=[(0,.string (a1)),(5,pt b6 0),(43,.slice p35 ([x34,(ByteArray.mk #[98,101,103,105,110]),(ByteArray.mk #[98,101,103,105,110,32,48,32,48]),(ByteArray.mk #[98,101,103,105,110,32,48,48]),(ByteArray.mk #[98,101,103,105,110,32,43,49]),(ByteArray.mk #[98,101,103,105,110,32,57,50,50,51,51,55,50,48,51,54,56,53,52,55,55,53,56,48,56]),(ByteArray.mk #[114,101,97,100,32,48,32]),(ByteArray.mk #[119,114,105,116,101,32,48,32,97]),(ByteArray.mk #[98,101,103,105,110,32,32,48]),(ByteArray.mk #[32,98,101,103,105,110,32,48]),(ByteArray.mk #[98,101,103,105,110,32,48,32]),(ByteArray.mk #[99,111,109,109,105,116,32,120]),(ByteArray.mk #[97,99,107,101,100,32,49])]).length 13),(44,vi (([x34,(ByteArray.mk #[98,101,103,105,110]),(ByteArray.mk #[98,101,103,105,110,32,48,32,48]),(ByteArray.mk #[98,101,103,105,110,32,48,48]),(ByteArray.mk #[98,101,103,105,110,32,43,49]),(ByteArray.mk #[98,101,103,105,110,32,57,50,50,51,51,55,50,48,51,54,56,53,52,55,55,53,56,48,56]),(ByteArray.mk #[114,101,97,100,32,48,32]),(ByteArray.mk #[119,114,105,116,101,32,48,32,97]),(ByteArray.mk #[98,101,103,105,110,32,32,48]),(ByteArray.mk #[32,98,101,103,105,110,32,48]),(ByteArray.mk #[98,101,103,105,110,32,48,32]),(ByteArray.mk #[99,111,109,109,105,116,32,120]),(ByteArray.mk #[97,99,107,101,100,32,49])]).length:Int)),(45,vi y91),(46,vb (decide (y91<(([x34,(ByteArray.mk #[98,101,103,105,110]),(ByteArray.mk #[98,101,103,105,110,32,48,32,48]),(ByteArray.mk #[98,101,103,105,110,32,48,48]),(ByteArray.mk #[98,101,103,105,110,32,43,49]),(ByteArray.mk #[98,101,103,105,110,32,57,50,50,51,51,55,50,48,51,54,56,53,52,55,55,53,56,48,56]),(ByteArray.mk #[114,101,97,100,32,48,32]),(ByteArray.mk #[119,114,105,116,101,32,48,32,97]),(ByteArray.mk #[98,101,103,105,110,32,32,48]),(ByteArray.mk #[32,98,101,103,105,110,32,48]),(ByteArray.mk #[98,101,103,105,110,32,48,32]),(ByteArray.mk #[99,111,109,109,105,116,32,120]),(ByteArray.mk #[97,99,107,101,100,32,49])]).length:Int))))]) 1 [0,5,43,44,45,46] hF kr fun a hF=>?_)
 refine h92 _ _ (qs fun _ h93=>bc hF H (fun hb H=>?_) fun hb H=>?_)
 refine sk (h93 _ _ (qs fun _ h94=>bk (qr fun _ h95=>(bd H fun x96 hx96 H=>wc (wo_index hF hS kr 0 (E:=9) (sz:=1) rfl rfl rfl kr rfl hx96 kr kr fun b97 f98 a hpx96 hF=>wc (wo_loadRo (t:=fStr) hF hS kr 0 0 (v := .string (x96)) rfl rfl hpx96 rfl hx96 kr kr kr fun a hF=>wp 1 [0,5,8,43,44,45] hF fun a hF=>(h95 _ _ (qr fun _ h99=>(bd H fun v104 hv104 H=>wl_join (fun a w => ∃(κ:Gh) (p100:Option Nat) (cs101:List Nat),Fr (78) [] [(0,.string (a1)),(5,pt b6 0),(43,.slice p35 ([x34,(ByteArray.mk #[98,101,103,105,110]),(ByteArray.mk #[98,101,103,105,110,32,48,32,48]),(ByteArray.mk #[98,101,103,105,110,32,48,48]),(ByteArray.mk #[98,101,103,105,110,32,43,49]),(ByteArray.mk #[98,101,103,105,110,32,57,50,50,51,51,55,50,48,51,54,56,53,52,55,55,53,56,48,56]),(ByteArray.mk #[114,101,97,100,32,48,32]),(ByteArray.mk #[119,114,105,116,101,32,48,32,97]),(ByteArray.mk #[98,101,103,105,110,32,32,48]),(ByteArray.mk #[32,98,101,103,105,110,32,48]),(ByteArray.mk #[98,101,103,105,110,32,48,32]),(ByteArray.mk #[99,111,109,109,105,116,32,120]),(ByteArray.mk #[97,99,107,101,100,32,49])]).length 13),(44,vi (([x34,(ByteArray.mk #[98,101,103,105,110]),(ByteArray.mk #[98,101,103,105,110,32,48,32,48]),(ByteArray.mk #[98,101,103,105,110,32,48,48]),(ByteArray.mk #[98,101,103,105,110,32,43,49]),(ByteArray.mk #[98,101,103,105,110,32,57,50,50,51,51,55,50,48,51,54,56,53,52,55,55,53,56,48,56]),(ByteArray.mk #[114,101,97,100,32,48,32]),(ByteArray.mk #[119,114,105,116,101,32,48,32,97]),(ByteArray.mk #[98,101,103,105,110,32,32,48]),(ByteArray.mk #[32,98,101,103,105,110,32,48]),(ByteArray.mk #[98,101,103,105,110,32,48,32]),(ByteArray.mk #[99,111,109,109,105,116,32,120]),(ByteArray.mk #[97,99,107,101,100,32,49])]).length:Int)),(45,vi y91),(58,vb v104.2)] a∧SS [] κ0 w0 κ w [.box b6 37 [sp p100],.tok p35 9 1 ([x34,(ByteArray.mk #[98,101,103,105,110]),(ByteArray.mk #[98,101,103,105,110,32,48,32,48]),(ByteArray.mk #[98,101,103,105,110,32,48,48]),(ByteArray.mk #[98,101,103,105,110,32,43,49]),(ByteArray.mk #[98,101,103,105,110,32,57,50,50,51,51,55,50,48,51,54,56,53,52,55,55,53,56,48,56]),(ByteArray.mk #[114,101,97,100,32,48,32]),(ByteArray.mk #[119,114,105,116,101,32,48,32,97]),(ByteArray.mk #[98,101,103,105,110,32,32,48]),(ByteArray.mk #[32,98,101,103,105,110,32,48]),(ByteArray.mk #[98,101,103,105,110,32,48,32]),(ByteArray.mk #[99,111,109,109,105,116,32,120]),(ByteArray.mk #[97,99,107,101,100,32,49])]).length 13,ox o_cluster_Cluster p100 cs101 v104.1] [Ro.mp fStr.ty p35 13 [x34,(ByteArray.mk #[98,101,103,105,110]),(ByteArray.mk #[98,101,103,105,110,32,48,32,48]),(ByteArray.mk #[98,101,103,105,110,32,48,48]),(ByteArray.mk #[98,101,103,105,110,32,43,49]),(ByteArray.mk #[98,101,103,105,110,32,57,50,50,51,51,55,50,48,51,54,56,53,52,55,55,53,56,48,56]),(ByteArray.mk #[114,101,97,100,32,48,32]),(ByteArray.mk #[119,114,105,116,101,32,48,32,97]),(ByteArray.mk #[98,101,103,105,110,32,32,48]),(ByteArray.mk #[32,98,101,103,105,110,32,48]),(ByteArray.mk #[98,101,103,105,110,32,48,32]),(ByteArray.mk #[99,111,109,109,105,116,32,120]),(ByteArray.mk #[97,99,107,101,100,32,49])],GL]∧True) ?_ ?_)))))))))
 refine wl_pure (L':=[(0,.string (a1)),(5,pt b6 0),(8,.string (x96)),(43,.slice p35 ([x34,(ByteArray.mk #[98,101,103,105,110]),(ByteArray.mk #[98,101,103,105,110,32,48,32,48]),(ByteArray.mk #[98,101,103,105,110,32,48,48]),(ByteArray.mk #[98,101,103,105,110,32,43,49]),(ByteArray.mk #[98,101,103,105,110,32,57,50,50,51,51,55,50,48,51,54,56,53,52,55,55,53,56,48,56]),(ByteArray.mk #[114,101,97,100,32,48,32]),(ByteArray.mk #[119,114,105,116,101,32,48,32,97]),(ByteArray.mk #[98,101,103,105,110,32,32,48]),(ByteArray.mk #[32,98,101,103,105,110,32,48]),(ByteArray.mk #[98,101,103,105,110,32,48,32]),(ByteArray.mk #[99,111,109,109,105,116,32,120]),(ByteArray.mk #[97,99,107,101,100,32,49])]).length 13),(44,vi (([x34,(ByteArray.mk #[98,101,103,105,110]),(ByteArray.mk #[98,101,103,105,110,32,48,32,48]),(ByteArray.mk #[98,101,103,105,110,32,48,48]),(ByteArray.mk #[98,101,103,105,110,32,43,49]),(ByteArray.mk #[98,101,103,105,110,32,57,50,50,51,51,55,50,48,51,54,56,53,52,55,55,53,56,48,56]),(ByteArray.mk #[114,101,97,100,32,48,32]),(ByteArray.mk #[119,114,105,116,101,32,48,32,97]),(ByteArray.mk #[98,101,103,105,110,32,32,48]),(ByteArray.mk #[32,98,101,103,105,110,32,48]),(ByteArray.mk #[98,101,103,105,110,32,48,32]),(ByteArray.mk #[99,111,109,109,105,116,32,120]),(ByteArray.mk #[97,99,107,101,100,32,49])]).length:Int)),(45,vi y91),(49,.string (x96)),(50,.string (a1))]) 2 [0,5,8,43,44,45,49,50] hF kr fun a hF=>?_
 refine bd hv104 fun x105 hx105 hv104=>wc (wo_val hF kr (v := .string (x105)) ((val_cat rfl rfl rfl hx105) _) fun a hF=>wp 2 [0,5,8,43,44,45,53] hF fun a hF=>bs hv104 (fun hb hv104=>?_) fun hb hv104=>?_)
 have hF:=hF.bv 53 hb
 refine wp 2 [0,5,43,44,45,53,54,55] hF fun a hF=>bd hv104 fun x106 hx106 hv104=>wcg hF (wcS 2 [0,2,1] hF hS (fun hS=>C_script_Shell_Do N (T_script_Shell.mk y90) x96 p88 cs89 b6 (hS.sbK [1]) hx106) ?_)
 rintro _ κ w a ⟨p107,cs108,rfl,h2⟩ hF hB
 have hS:=hB _ _ h2
 refine wp 2 [0,5,43,44,45,58] hF fun a hF=>nl ?_
 cases hv104
 exact ⟨_,p107,cs108,hF.kp [0,5,43,44,45,58],hS.sp [0,2,1] [0,1],trivial⟩
 have hF:=hF.bv 53 hb
 refine wp 5 [0,5,43,44,45,58] hF fun a hF=>nl ?_
 cases hv104
 exact ⟨_,p88,cs89,hF.kp [0,5,43,44,45,58],hS.sp [0,1,2] [0,1],trivial⟩
 rintro a w ⟨κ,p100,cs101,hF,hS,-⟩
 refine h99 _ _ (bc hF H (fun hb H=>?_) fun hb H=>?_)
 refine qr fun _ h109=>(wp 1 [4] hF fun a hF=>(h109 _ _ (rt ?_)))
 cases H
 exact (ret_done hF hS (res1 Tryz.results3 (rvt hF)) ⟨rfl,(hS.pick [] kr).ro,hS.newC [] dc kr⟩)
 refine sk (h94 _ _ (rl (wp 2 [0,5,43,44,45] hF fun a hF=>nl ?_)))
 exact ⟨fuel1,Nat.lt_succ_self _,_,p100,cs101,v104.1,IntKind.i64.wrap (y91+1),hF.kp [0,5,43,44,45],hS.sp [0,1,2] [0,1],H⟩
 refine xt (h36 _ _ (qr fun _ h110=>(bd H fun v112 hv112 H=>wl_join (fun a w => ∃κ:Gh,Fr (78) [] [(4,vb v112)] a∧SS [] κ0 w0 κ w [] [GL]∧True) ?_ ?_)))
 refine bd hv112 fun x113 hx113 hv112=>wc (wo_callP hF hS kr kr (C_law24_awake N hS.fresh ((hS.pick [1] kr).ro) hx113) ?_)
 rintro _ κ w a ⟨rfl,hR,hN⟩ hF hS hO
 refine wp 1 [0,5,61] hF fun a hF=>bs hv112 (fun hb hv112=>?_) fun hb hv112=>?_
 have hF:=hF.bv 61 hb
 refine wl_pure (L':=[(5,pt b6 0),(61,vb true),(62,pt b6 0),(63,.string (a1))]) 2 [5,61,62,63] hF kr fun a hF=>bd hv112 fun x114 hx114 hv112=>wcg hF (wo_val hF kr (v := .string (x114)) ((val_cat rfl rfl rfl hx114) _) fun a hF=>bd hv112 fun x115 hx115 hv112=>wcg hF (wcS 2 [0,2,1] hF hS (fun hS=>C_script_Shell_Do N (T_script_Shell.mk y90) x114 p88 cs89 b6 (hS.sbK [1]) hx115) ?_))
 rintro _ κ w a ⟨p116,cs117,rfl,h2⟩ hF hB
 have hS:=hB _ _ h2
 refine wp 3 [5,68] hF fun a hF=>bs hv112 (fun hb hv112=>?_) fun hb hv112=>?_
 have hF:=hF.bv 68 hb
 refine wp 1 [5,68,69] hF fun a hF=>bd hv112 fun x118 hx118 hv112=>wcg hF (wcS 2 [0,1,2] hF hS (fun hS=>C_script_Shell_Do N (T_script_Shell.mk x115.2.c) (ByteArray.mk #[108,97,115,116,32,48]) p116 cs117 b6 (hS.sbK [1]) hx118) ?_)
 rintro _ κ w a ⟨p119,cs120,rfl,h2⟩ hF hB
 have hS:=(hB _ _ h2).cC (C':=[.box b6 37 [sp p119],ox o_cluster_Cluster p119 cs120 x118.2.c,.tok p35 9 1 ([x34,(ByteArray.mk #[98,101,103,105,110]),(ByteArray.mk #[98,101,103,105,110,32,48,32,48]),(ByteArray.mk #[98,101,103,105,110,32,48,48]),(ByteArray.mk #[98,101,103,105,110,32,43,49]),(ByteArray.mk #[98,101,103,105,110,32,57,50,50,51,51,55,50,48,51,54,56,53,52,55,55,53,56,48,56]),(ByteArray.mk #[114,101,97,100,32,48,32]),(ByteArray.mk #[119,114,105,116,101,32,48,32,97]),(ByteArray.mk #[98,101,103,105,110,32,32,48]),(ByteArray.mk #[32,98,101,103,105,110,32,48]),(ByteArray.mk #[98,101,103,105,110,32,48,32]),(ByteArray.mk #[99,111,109,109,105,116,32,120]),(ByteArray.mk #[97,99,107,101,100,32,49])]).length 13])
 refine wp 3 [5,73] hF fun a hF=>bs hv112 (fun hb hv112=>?_) fun hb hv112=>?_
 have hF:=hF.bv 73 hb
 refine wp 1 [73,74] hF fun a hF=>bd hv112 fun x121 hx121 hv112=>wcg hF (wcS 2 [0,1,2] hF hS (fun hS=>C_script_Shell_Do N (T_script_Shell.mk x118.2.c) (ByteArray.mk #[114,111,108,101,32,48]) p119 cs120 b6 (hS.sbK [1]) hx121) ?_)
 rintro _ κ w a ⟨p122,cs123,rfl,h2⟩ hF hB
 have hS:=hB _ _ h2
 refine wp 3 [4] hF fun a hF=>nl ?_
 cases hv112
 exact ⟨_,hF.kp [4],hS.sp [] [1],trivial⟩
 have hF:=hF.bv 73 hb
 refine wp 5 [4] hF fun a hF=>nl ?_
 cases hv112
 exact ⟨_,hF.kp [4],hS.sp [] [1],trivial⟩
 have hF:=hF.bv 68 hb
 refine wp 10 [4] hF fun a hF=>nl ?_
 cases hv112
 exact ⟨_,hF.kp [4],hS.sp [] [1],trivial⟩
 have hF:=hF.bv 61 hb
 refine wp 17 [4] hF fun a hF=>nl ?_
 cases hv112
 exact ⟨_,hF.kp [4],hS.sp [] [1],trivial⟩
 rintro a w ⟨κ,hF,hS,-⟩
 refine h110 _ _ (rt ?_)
 cases H
 exact (ret_done hF hS (res1 Tryz.results3 (rvt hF)) ⟨rfl,(hS.pick [] kr).ro,hS.newC [] dc kr⟩)
end Go.Cf
