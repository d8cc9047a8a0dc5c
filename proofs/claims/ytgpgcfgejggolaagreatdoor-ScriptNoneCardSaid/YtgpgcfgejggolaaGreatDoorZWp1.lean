/- The walks: each function returns what its model says. Printed by a program of ours. -/
import Derived.Test.YtgpgcfgejggolaaGreatDoorZM1
import Derived.Test.YtgpgcfgejggolaaGreatDoorZWl
import Derived.Test.YtgpgcfgejggolaaGreatDoorZWLib
namespace Go.Cf
open Go Go.Proofs
set_option linter.unusedVariables false
set_option maxRecDepth 20000
set_option maxHeartbeats 8000000
theorem C_script_New (N:Nat){Ms:List Nat}{κ0:Gh}{w0:World}(hB:SB Ms κ0 w0 [] []){r:(T_script_Shell)}(H:M.script_New N=some r) :
    Calls Tryz.prog 6 #[] w0 (Post Ms κ0 w0 fun v κ w => ∃(b4:Nat) (p5:Option Nat) (cs6:List Nat),v=pt b4 0∧SS Ms κ0 w0 κ w [.box b4 37 [sp p5],ox o_cluster_Cluster p5 cs6 r.c] []):=by
 have hS:=hB.hS
 have hfr:=hS.fresh
 refine en Tryz.func6 rfl Tryz.ntmps6 fun a hF=>?_
 unfold M.script_New at H
 refine qr fun _ h1=>(wp 1 [] hF fun a hF=>(h1 _ _ (qs fun _ hz=>rl (wp 1 [1] hF fun a hF=>wc (wbx hF hS [(1,[.pointer none])] (sgN 1 sgNil) fun b3 a w hF hS=>wp 1 [0] hF fun a hF=>nl (hz _ _ (rt ?_)))))))
 have hS:=hS.addOpt o_cluster_Cluster
 cases H
 exact ret_done hF hS (res1 Tryz.results6 (rvt hF)) ⟨b3,none,[],rfl,hS.sp [1,0] []⟩
theorem C_script_form (N:Nat){κ0:Gh}{w0:World}(hfr:Fresh κ0 w0)(a1:ByteArray)(hR : ∀m∈([]:List MP),m.p κ0 w0){r:(ByteArray×Bool)}(H:M.script_form N a1=some r) :
    Calls Tryz.prog 12 #[.string (a1)] w0 (Post [] κ0 w0 fun v κ w=>v = .tuple #[.string (r.1),vb r.2]∧(∀m∈([]:List MP),m.p κ w)∧NewC w0 κ w []):=by
 have hS:=SS.start hfr hR
 refine en Tryz.func12 rfl Tryz.ntmps12 fun a hF=>?_
 unfold M.script_form at H
 refine qs fun _ hz=>rl (wp 2 [0] hF fun a hF=>nl (hz _ _ (qs fun _ h3=>qr fun _ h4=>(wp 1 [4] hF fun a hF=>(h4 _ _ (bk (qr fun _ h5=>(wp 2 [4,5] hF fun a hF=>(h5 _ _ (bc hF H (fun hb H=>?_) fun hb H=>?_))))))))))
 refine qr fun _ h6=>(wp 2 [2,3] hF fun a hF=>(h6 _ _ (rt ?_)))
 cases H
 exact (ret_done hF hS (res2 Tryz.results12 (rvt hF) (rvt hF)) ⟨rfl,(hS.pick [] kr).ro,hS.newC [] dc kr⟩)
 refine seq_join (fun a w => ∃(κ:Gh) (y7:Bool),Fr (46) [] [(4,.string (a1)),(7,vb y7)] a∧SS [] κ0 w0 κ w [] []∧M.script_form_k1 N a1 y7=some r) ?_ ?_
 refine qr fun _ h35=>(wp 2 [4,7] hF fun a hF=>(h35 _ _ (bc hF H (fun hb H=>?_) fun hb H=>?_)))
 refine sk ?_
 exact ⟨_,(sEq a1 (ByteArray.mk #[115,116,101,112])),hF.kp [4,7],hS.sp [] [],H⟩
 refine qr fun _ h36=>(wp 2 [4,7] hF fun a hF=>(h36 _ _ (bc hF H (fun hb H=>?_) fun hb H=>?_)))
 refine sk ?_
 exact ⟨_,(sEq a1 (ByteArray.mk #[99,97,108,109])),hF.kp [4,7],hS.sp [] [],H⟩
 refine qr fun _ h37=>(wp 2 [4,7] hF fun a hF=>(h37 _ _ (bc hF H (fun hb H=>?_) fun hb H=>?_)))
 refine sk ?_
 exact ⟨_,(sEq a1 (ByteArray.mk #[98,101,103,105,110])),hF.kp [4,7],hS.sp [] [],H⟩
 refine qr fun _ h38=>(wp 2 [4,7] hF fun a hF=>(h38 _ _ (bc hF H (fun hb H=>?_) fun hb H=>?_)))
 refine sk ?_
 exact ⟨_,(sEq a1 (ByteArray.mk #[99,111,109,109,105,116])),hF.kp [4,7],hS.sp [] [],H⟩
 refine qr fun _ h39=>(wp 2 [4,7] hF fun a hF=>(h39 _ _ (bc hF H (fun hb H=>?_) fun hb H=>?_)))
 refine sk ?_
 exact ⟨_,(sEq a1 (ByteArray.mk #[97,98,111,114,116])),hF.kp [4,7],hS.sp [] [],H⟩
 refine qr fun _ h40=>(wp 2 [4,7] hF fun a hF=>(h40 _ _ (bc hF H (fun hb H=>?_) fun hb H=>?_)))
 refine sk ?_
 exact ⟨_,(sEq a1 (ByteArray.mk #[108,97,115,116])),hF.kp [4,7],hS.sp [] [],H⟩
 refine qr fun _ h41=>(wp 2 [4,7] hF fun a hF=>(h41 _ _ (bc hF H (fun hb H=>?_) fun hb H=>?_)))
 refine sk ?_
 exact ⟨_,(sEq a1 (ByteArray.mk #[97,100,100])),hF.kp [4,7],hS.sp [] [],H⟩
 refine qr fun _ h42=>(wp 2 [4,7] hF fun a hF=>(h42 _ _ (bc hF H (fun hb H=>?_) fun hb H=>?_)))
 refine sk ?_
 exact ⟨_,(sEq a1 (ByteArray.mk #[114,101,109,111,118,101])),hF.kp [4,7],hS.sp [] [],H⟩
 refine qr fun _ h43=>(wp 2 [4,7] hF fun a hF=>(h43 _ _ (bc hF H (fun hb H=>?_) fun hb H=>?_)))
 refine sk ?_
 exact ⟨_,(sEq a1 (ByteArray.mk #[99,111,108,108,101,99,116])),hF.kp [4,7],hS.sp [] [],H⟩
 refine qr fun _ h44=>(wp 2 [4,7] hF fun a hF=>(h44 _ _ (bc hF H (fun hb H=>?_) fun hb H=>?_)))
 refine sk ?_
 exact ⟨_,(sEq a1 (ByteArray.mk #[115,116,97,98,108,101])),hF.kp [4,7],hS.sp [] [],H⟩
 refine qr fun _ h45=>(wp 2 [4,7] hF fun a hF=>(h45 _ _ (bc hF H (fun hb H=>?_) fun hb H=>?_)))
 refine sk ?_
 exact ⟨_,(sEq a1 (ByteArray.mk #[114,111,108,101])),hF.kp [4,7],hS.sp [] [],H⟩
 refine qr fun _ h46=>(wp 2 [4,7] hF fun a hF=>(h46 _ _ (bc hF H (fun hb H=>?_) fun hb H=>?_)))
 refine sk ?_
 exact ⟨_,(sEq a1 (ByteArray.mk #[109,97,112])),hF.kp [4,7],hS.sp [] [],H⟩
 refine rl (wp 2 [4,7] hF fun a hF=>nl ?_)
 exact ⟨_,(sEq a1 (ByteArray.mk #[118,101,114,115,105,111,110,115])),hF.kp [4,7],hS.sp [] [],H⟩
 rintro a w ⟨κ,y7,hF,hS,H⟩
 unfold M.script_form_k1 at H
 refine bc hF H (fun hb H=>?_) fun hb H=>?_
 refine qr fun _ h8=>(wp 2 [2,3] hF fun a hF=>(h8 _ _ (rt ?_)))
 cases H
 exact (ret_done hF hS (res2 Tryz.results12 (rvt hF) (rvt hF)) ⟨rfl,(hS.pick [] kr).ro,hS.newC [] dc kr⟩)
 refine seq_join (fun a w => ∃(κ:Gh) (y9:Bool),Fr (46) [] [(4,.string (a1)),(21,vb y9)] a∧SS [] κ0 w0 κ w [] []∧M.script_form_k2 N a1 y9=some r) ?_ ?_
 refine qr fun _ h33=>(wp 2 [4,21] hF fun a hF=>(h33 _ _ (bc hF H (fun hb H=>?_) fun hb H=>?_)))
 refine sk ?_
 exact ⟨_,(sEq a1 (ByteArray.mk #[116,105,99,107])),hF.kp [4,21],hS.sp [] [],H⟩
 refine qr fun _ h34=>(wp 2 [4,21] hF fun a hF=>(h34 _ _ (bc hF H (fun hb H=>?_) fun hb H=>?_)))
 refine sk ?_
 exact ⟨_,(sEq a1 (ByteArray.mk #[104,111,109,101])),hF.kp [4,21],hS.sp [] [],H⟩
 refine rl (wp 2 [4,21] hF fun a hF=>nl ?_)
 exact ⟨_,(sEq a1 (ByteArray.mk #[109,101,114,103,101])),hF.kp [4,21],hS.sp [] [],H⟩
 rintro a w ⟨κ,y9,hF,hS,H⟩
 unfold M.script_form_k2 at H
 refine bc hF H (fun hb H=>?_) fun hb H=>?_
 refine qr fun _ h10=>(wp 2 [2,3] hF fun a hF=>(h10 _ _ (rt ?_)))
 cases H
 exact (ret_done hF hS (res2 Tryz.results12 (rvt hF) (rvt hF)) ⟨rfl,(hS.pick [] kr).ro,hS.newC [] dc kr⟩)
 refine seq_join (fun a w => ∃(κ:Gh) (y11:Bool),Fr (46) [] [(4,.string (a1)),(25,vb y11)] a∧SS [] κ0 w0 κ w [] []∧M.script_form_k3 N a1 y11=some r) ?_ ?_
 refine qr fun _ h28=>(wp 2 [4,25] hF fun a hF=>(h28 _ _ (bc hF H (fun hb H=>?_) fun hb H=>?_)))
 refine sk ?_
 exact ⟨_,(sEq a1 (ByteArray.mk #[100,101,108,105,118,101,114])),hF.kp [4,25],hS.sp [] [],H⟩
 refine qr fun _ h29=>(wp 2 [4,25] hF fun a hF=>(h29 _ _ (bc hF H (fun hb H=>?_) fun hb H=>?_)))
 refine sk ?_
 exact ⟨_,(sEq a1 (ByteArray.mk #[108,111,115,101])),hF.kp [4,25],hS.sp [] [],H⟩
 refine qr fun _ h30=>(wp 2 [4,25] hF fun a hF=>(h30 _ _ (bc hF H (fun hb H=>?_) fun hb H=>?_)))
 refine sk ?_
 exact ⟨_,(sEq a1 (ByteArray.mk #[116,119,105,99,101])),hF.kp [4,25],hS.sp [] [],H⟩
 refine qr fun _ h31=>(wp 2 [4,25] hF fun a hF=>(h31 _ _ (bc hF H (fun hb H=>?_) fun hb H=>?_)))
 refine sk ?_
 exact ⟨_,(sEq a1 (ByteArray.mk #[98,97,99,107])),hF.kp [4,25],hS.sp [] [],H⟩
 refine qr fun _ h32=>(wp 2 [4,25] hF fun a hF=>(h32 _ _ (bc hF H (fun hb H=>?_) fun hb H=>?_)))
 refine sk ?_
 exact ⟨_,(sEq a1 (ByteArray.mk #[109,111,118,101])),hF.kp [4,25],hS.sp [] [],H⟩
 refine rl (wp 2 [4,25] hF fun a hF=>nl ?_)
 exact ⟨_,(sEq a1 (ByteArray.mk #[115,119,105,116,99,104])),hF.kp [4,25],hS.sp [] [],H⟩
 rintro a w ⟨κ,y11,hF,hS,H⟩
 unfold M.script_form_k3 at H
 refine bc hF H (fun hb H=>?_) fun hb H=>?_
 refine qr fun _ h12=>(wp 2 [2,3] hF fun a hF=>(h12 _ _ (rt ?_)))
 cases H
 exact (ret_done hF hS (res2 Tryz.results12 (rvt hF) (rvt hF)) ⟨rfl,(hS.pick [] kr).ro,hS.newC [] dc kr⟩)
 refine qr fun _ h13=>(wp 2 [4,32] hF fun a hF=>(h13 _ _ (bc hF H (fun hb H=>?_) fun hb H=>?_)))
 refine qr fun _ h14=>(wp 2 [2,3] hF fun a hF=>(h14 _ _ (rt ?_)))
 cases H
 exact (ret_done hF hS (res2 Tryz.results12 (rvt hF) (rvt hF)) ⟨rfl,(hS.pick [] kr).ro,hS.newC [] dc kr⟩)
 refine seq_join (fun a w => ∃(κ:Gh) (y15:Bool),Fr (46) [] [(4,.string (a1)),(34,vb y15)] a∧SS [] κ0 w0 κ w [] []∧M.script_form_k4 N a1 y15=some r) ?_ ?_
 refine qr fun _ h27=>(wp 2 [4,34] hF fun a hF=>(h27 _ _ (bc hF H (fun hb H=>?_) fun hb H=>?_)))
 refine sk ?_
 exact ⟨_,(sEq a1 (ByteArray.mk #[114,101,97,100])),hF.kp [4,34],hS.sp [] [],H⟩
 refine rl (wp 2 [4,34] hF fun a hF=>nl ?_)
 exact ⟨_,(sEq a1 (ByteArray.mk #[100,101,108,101,116,101])),hF.kp [4,34],hS.sp [] [],H⟩
 rintro a w ⟨κ,y15,hF,hS,H⟩
 unfold M.script_form_k4 at H
 refine bc hF H (fun hb H=>?_) fun hb H=>?_
 refine qr fun _ h16=>(wp 2 [2,3] hF fun a hF=>(h16 _ _ (rt ?_)))
 cases H
 exact (ret_done hF hS (res2 Tryz.results12 (rvt hF) (rvt hF)) ⟨rfl,(hS.pick [] kr).ro,hS.newC [] dc kr⟩)
 refine qr fun _ h17=>(wp 2 [4,37] hF fun a hF=>(h17 _ _ (bc hF H (fun hb H=>?_) fun hb H=>?_)))
 refine qr fun _ h18=>(wp 2 [2,3] hF fun a hF=>(h18 _ _ (rt ?_)))
 cases H
 exact (ret_done hF hS (res2 Tryz.results12 (rvt hF) (rvt hF)) ⟨rfl,(hS.pick [] kr).ro,hS.newC [] dc kr⟩)
 refine qr fun _ h19=>(wp 2 [4,39] hF fun a hF=>(h19 _ _ (bc hF H (fun hb H=>?_) fun hb H=>?_)))
 refine qr fun _ h20=>(wp 2 [2,3] hF fun a hF=>(h20 _ _ (rt ?_)))
 cases H
 exact (ret_done hF hS (res2 Tryz.results12 (rvt hF) (rvt hF)) ⟨rfl,(hS.pick [] kr).ro,hS.newC [] dc kr⟩)
 refine seq_join (fun a w => ∃(κ:Gh) (y21:Bool),Fr (46) [] [(41,vb y21)] a∧SS [] κ0 w0 κ w [] []∧M.script_form_k5 N y21=some r) ?_ ?_
 refine qr fun _ h24=>(wp 2 [4,41] hF fun a hF=>(h24 _ _ (bc hF H (fun hb H=>?_) fun hb H=>?_)))
 refine sk ?_
 exact ⟨_,(sEq a1 (ByteArray.mk #[97,99,107,101,100])),hF.kp [41],hS.sp [] [],H⟩
 refine qr fun _ h25=>(wp 2 [4,41] hF fun a hF=>(h25 _ _ (bc hF H (fun hb H=>?_) fun hb H=>?_)))
 refine sk ?_
 exact ⟨_,(sEq a1 (ByteArray.mk #[112,101,110,100,105,110,103])),hF.kp [41],hS.sp [] [],H⟩
 refine qr fun _ h26=>(wp 2 [4,41] hF fun a hF=>(h26 _ _ (bc hF H (fun hb H=>?_) fun hb H=>?_)))
 refine sk ?_
 exact ⟨_,(sEq a1 (ByteArray.mk #[102,108,105,103,104,116])),hF.kp [41],hS.sp [] [],H⟩
 refine rl (wp 2 [41] hF fun a hF=>nl ?_)
 exact ⟨_,(sEq a1 (ByteArray.mk #[99,104,101,99,107])),hF.kp [41],hS.sp [] [],H⟩
 rintro a w ⟨κ,y21,hF,hS,H⟩
 unfold M.script_form_k5 at H
 refine bc hF H (fun hb H=>?_) fun hb H=>?_
 refine qr fun _ h22=>(wp 2 [2,3] hF fun a hF=>(h22 _ _ (rt ?_)))
 cases H
 exact (ret_done hF hS (res2 Tryz.results12 (rvt hF) (rvt hF)) ⟨rfl,(hS.pick [] kr).ro,hS.newC [] dc kr⟩)
 refine sk (h3 _ _ (qr fun _ h23=>(wp 2 [2,3] hF fun a hF=>(h23 _ _ (rt ?_)))))
 cases H
 exact (ret_done hF hS (res2 Tryz.results12 (rvt hF) (rvt hF)) ⟨rfl,(hS.pick [] kr).ro,hS.newC [] dc kr⟩)
theorem C_script_number (N:Nat){κ0:Gh}{w0:World}(hfr:Fresh κ0 w0)(a1:ByteArray)(hR : ∀m∈([GL]:List MP),m.p κ0 w0){r:(Int×Bool)}(H:M.script_number N a1=some r) :
    Calls Tryz.prog 13 #[.string (a1)] w0 (Post [] κ0 w0 fun v κ w=>v = .tuple #[vi r.1,vb r.2]∧(∀m∈([]:List MP),m.p κ w)∧NewC w0 κ w []):=by
 have hS:=SS.start hfr hR
 refine en Tryz.func13 rfl Tryz.ntmps13 fun a hF=>?_
 unfold M.script_number at H
 refine qs fun _ hz=>rl (wp 2 [0] hF fun a hF=>nl (hz _ _ (qr fun _ h3=>(wp 1 [0,7] hF fun a hF=>bd H fun x4 hx4 H=>wc (wo_callP hF hS kr kr (C_strconv_Atoi N hS.fresh a1 ((hS.pick [0] kr).ro) hx4) ?_)))))
 rintro _ κ w a ⟨r5,rfl,hR,hN⟩ hF hS hO
 have hS:=hS.adds hR
 refine wp 5 [0,4,5] hF fun a hF=>(h3 _ _ (qr fun _ h6=>(bd H fun v8 hv8 H=>wl_join (fun a w => ∃κ:Gh,Fr (20) [] [(2,vi x4.1),(3,vb v8)] a∧SS [] κ0 w0 κ w [] [GL]∧True) ?_ ?_)))
 refine wl_pure (L':=[(0,.string (a1)),(4,vi x4.1),(11,vi x4.1),(12,r5)]) 2 [0,4,11,12] hF kr fun a hF=>wc (wo_val hF kr (v:=vb x4.2) ((val_errNil rfl rfl Tryz.underlying69 (hS.get 0 rfl)) _) fun a hF=>wp 1 [0,4,11,14] hF fun a hF=>bs hv8 (fun hb hv8=>?_) fun hb hv8=>?_)
 have hF:=hF.bv 14 hb
 refine wp 1 [0,11,14,15] hF fun a hF=>bd hv8 fun x9 hx9 hv8=>wcg hF (wo_callP hF hS kr kr (C_strconv_Itoa N hS.fresh x4.1 ((hS.pick [1] kr).ro) hx9) ?_)
 rintro _ κ w a ⟨rfl,hR,hN⟩ hF hS hO
 refine wp 5 [2,3] hF fun a hF=>nl ?_
 cases hv8
 exact ⟨_,hF.kp [2,3],hS.sp [] [1],trivial⟩
 have hF:=hF.bv 14 hb
 refine wp 7 [2,3] hF fun a hF=>nl ?_
 cases hv8
 exact ⟨_,hF.kp [2,3],hS.sp [] [1],trivial⟩
 rintro a w ⟨κ,hF,hS,-⟩
 refine h6 _ _ (rt ?_)
 cases H
 exact (ret_done hF hS (res2 Tryz.results13 (rvt hF) (rvt hF)) ⟨rfl,(hS.pick [] kr).ro,hS.newC [] dc kr⟩)
theorem C_script_said (N:Nat){κ0:Gh}{w0:World}(hfr:Fresh κ0 w0)(a1:Int)(hR : ∀m∈([GL]:List MP),m.p κ0 w0){r:(ByteArray)}(H:M.script_said N a1=some r) :
    Calls Tryz.prog 10 #[vi a1] w0 (Post [] κ0 w0 fun v κ w=>v = .string (r)∧(∀m∈([]:List MP),m.p κ w)∧NewC w0 κ w []):=by
 have hS:=SS.start hfr hR
 refine en Tryz.func10 rfl Tryz.ntmps10 fun a hF=>?_
 unfold M.script_said at H
 refine qs fun _ hz=>rl (wp 1 [0] hF fun a hF=>nl (hz _ _ (qs fun _ h3=>qr fun _ h4=>(wp 2 [0,4] hF fun a hF=>(h4 _ _ (bc hF H (fun hb H=>?_) fun hb H=>?_))))))
 refine qr fun _ h5=>(wp 1 [2] hF fun a hF=>(h5 _ _ (rt ?_)))
 cases H
 exact (ret_done hF hS (res1 Tryz.results10 (rvt hF)) ⟨rfl,(hS.pick [] kr).ro,hS.newC [] dc kr⟩)
 refine sk (h3 _ _ (qr fun _ h6=>(wl_pure (L':=[(5,vi a1)]) 1 [5] hF kr fun a hF=>bd H fun x7 hx7 H=>wc (wo_callP hF hS kr kr (C_strconv_Itoa N hS.fresh a1 ((hS.pick [0] kr).ro) hx7) ?_))))
 rintro _ κ w a ⟨rfl,hR,hN⟩ hF hS hO
 refine bd H fun x8 hx8 H=>wc (wo_val hF kr (v := .string (x8)) ((val_cat rfl rfl rfl hx8) _) fun a hF=>wp 1 [2] hF fun a hF=>(h6 _ _ (rt ?_)))
 cases H
 exact (ret_done hF hS (res1 Tryz.results10 (rvt hF)) ⟨rfl,(hS.pick [] kr).ro,hS.newC [] dc kr⟩)
theorem C_script_plain (N:Nat){κ0:Gh}{w0:World}(hfr:Fresh κ0 w0)(a1:ByteArray)(hR : ∀m∈([]:List MP),m.p κ0 w0){r:(Bool)}(H:M.script_plain N a1=some r) :
    Calls Tryz.prog 14 #[.string (a1)] w0 (Post [] κ0 w0 fun v κ w=>v=vb r∧(∀m∈([]:List MP),m.p κ w)∧NewC w0 κ w []):=by
 have hS:=SS.start hfr hR
 refine en Tryz.func14 rfl Tryz.ntmps14 fun a hF=>?_
 unfold M.script_plain at H
 refine qs fun _ hz=>rl (wp 1 [0] hF fun a hF=>nl (hz _ _ (qs fun _ h3=>qr fun _ h4=>(wp 3 [0,5,6] hF fun a hF=>(h4 _ _ (bk (loop_fuel (n:=N) (fun n a w => ∃(κ:Gh) (y55:Int),Fr (22) [] [(0,.string (a1)),(5,vi ((a1).size:Int)),(6,vi y55)] a∧SS [] κ0 w0 κ w [] []∧M.script_plain_L1 N n a1 y55=some r) ?_ ?_)))))))
 exact ⟨_,0,hF.kp [0,5,6],hS.sp [] [],H⟩
 rintro n a w ⟨κ,y55,hF,hS,H⟩
 rcases n with _|fuel1
 simp [M.script_plain_L1] at H
 simp only [M.script_plain_L1] at H
 refine qr fun _ h56=>(wp 1 [0,5,6,7] hF fun a hF=>(h56 _ _ (qs fun _ h57=>bc hF H (fun hb H=>?_) fun hb H=>?_)))
 refine sk (h57 _ _ (qs fun _ h58=>bk (qr fun _ h59=>(wp 2 [0,3,5,6] hF fun a hF=>(h59 _ _ (qr fun _ h60=>(bd H fun v62 hv62 H=>wl_join (fun a w => ∃κ:Gh,Fr (22) [] [(0,.string (a1)),(5,vi ((a1).size:Int)),(6,vi y55),(18,vb v62)] a∧SS [] κ0 w0 κ w [] []∧True) ?_ ?_)))))))
 refine wl_pure (L':=[(0,.string (a1)),(3,vi y55),(5,vi ((a1).size:Int)),(6,vi y55),(9,.string (a1)),(10,vi y55)]) 2 [0,3,5,6,9,10] hF kr fun a hF=>bd hv62 fun x63 hx63 hv62=>wc (wo_val hF kr (v := .int .u8 (x63)) ((val_sIx rfl rfl rfl kr hx63) _) fun a hF=>wp 2 [0,3,5,6,13] hF fun a hF=>bs hv62 (fun hb hv62=>?_) fun hb hv62=>?_)
 have hF:=hF.bv 13 hb
 refine wp 5 [0,5,6,18] hF fun a hF=>nl ?_
 cases hv62
 exact ⟨_,hF.kp [0,5,6,18],hS.sp [] [],trivial⟩
 have hF:=hF.bv 13 hb
 refine wl_pure (L':=[(0,.string (a1)),(5,vi ((a1).size:Int)),(6,vi y55),(13,vb false),(14,.string (a1)),(15,vi y55)]) 2 [0,5,6,13,14,15] hF kr fun a hF=>bd hv62 fun x64 hx64 hv62=>wcg hF (wo_val hF kr (v := .int .u8 (x64)) ((val_sIx rfl rfl rfl kr hx64) _) fun a hF=>wp 2 [0,5,6,18] hF fun a hF=>nl ?_)
 cases hv62
 exact ⟨_,hF.kp [0,5,6,18],hS.sp [] [],trivial⟩
 rintro a w ⟨κ,hF,hS,-⟩
 refine h60 _ _ (bc hF H (fun hb H=>?_) fun hb H=>?_)
 refine qr fun _ h65=>(wp 1 [2] hF fun a hF=>(h65 _ _ (rt ?_)))
 cases H
 exact (ret_done hF hS (res1 Tryz.results14 (rvt hF)) ⟨rfl,(hS.pick [] kr).ro,hS.newC [] dc kr⟩)
 refine sk (h58 _ _ (rl (wp 2 [0,5,6] hF fun a hF=>nl ?_)))
 exact ⟨fuel1,Nat.lt_succ_self _,_,IntKind.i64.wrap (y55+1),hF.kp [0,5,6],hS.sp [] [],H⟩
 refine xt (h3 _ _ (qr fun _ h66=>(wp 3 [2] hF fun a hF=>(h66 _ _ (rt ?_)))))
 cases H
 exact (ret_done hF hS (res1 Tryz.results14 (rvt hF)) ⟨rfl,(hS.pick [] kr).ro,hS.newC [] dc kr⟩)
theorem C_script_value (N:Nat){κ0:Gh}{w0:World}(hfr:Fresh κ0 w0)(a1:T_cluster_Answer)(hR : ∀m∈([]:List MP),m.p κ0 w0){r:(ByteArray)}(H:M.script_value N a1=some r) :
    Calls Tryz.prog 41 #[.agg (flat [si a1.Err,sb a1.Wait,su a1.Time,si a1.N,sb a1.Found,sg a1.Val]).toArray] w0 (Post [] κ0 w0 fun v κ w=>v = .string (r)∧(∀m∈([]:List MP),m.p κ w)∧NewC w0 κ w []):=by
 have hS:=SS.start hfr hR
 refine en Tryz.func41 rfl Tryz.ntmps41 fun a hF=>?_
 unfold M.script_value at H
 refine qs fun _ hz=>rl (wc (wbx hF hS [si a1.Err,sb a1.Wait,su a1.Time,si a1.N,sb a1.Found,sg a1.Val] (sgN 6 sgNil) fun b3 a w hF hS=>wp 1 [1] hF fun a hF=>nl (hz _ _ (qs fun _ h4=>qr fun _ h5=>(wp 1 [1,3] hF fun a hF=>wc (wld hF hS 0 4 0 fun a hF=>wp 1 [1,5] hF fun a hF=>(h5 _ _ (bc hF H (fun hb H=>?_) fun hb H=>?_))))))))
 refine qr fun _ h6=>(wp 1 [2] hF fun a hF=>(h6 _ _ (rt ?_)))
 cases H
 exact (ret_done hF hS (res1 Tryz.results41 (rvt hF)) ⟨rfl,(hS.pick [] kr).ro,hS.newC [] dc kr⟩)
 refine sk (h4 _ _ (qr fun _ h7=>(wl_pure (L':=[(6,pt b3 5)]) 1 [6] hF kr fun a hF=>wc (wld hF hS 0 5 0 fun a hF=>bd H fun x8 hx8 H=>wc (wo_val hF kr (v := .string (x8)) ((val_cat rfl rfl rfl hx8) _) fun a hF=>wp 1 [2] hF fun a hF=>(h7 _ _ (rt ?_)))))))
 cases H
 exact (ret_done hF hS (res1 Tryz.results41 (rvt hF)) ⟨rfl,(hS.pick [] kr).ro,hS.newC [] dc kr⟩)
theorem C_script_told (N:Nat){κ0:Gh}{w0:World}(hfr:Fresh κ0 w0)(a1:T_cluster_Op)(a2:T_cluster_Answer)(hR : ∀m∈([GL]:List MP),m.p κ0 w0){r:(ByteArray)}(H:M.script_told N a1 a2=some r) :
    Calls Tryz.prog 17 #[.agg (flat [si a1.Kind,si a1.Who,si a1.A,si a1.B,si a1.N,sg a1.Key,sg a1.Val,si a1.Cmd.Kind,si a1.Cmd.DC,si a1.Cmd.Shard,si a1.Cmd.Node,si a1.Cmd.Mode,sg a1.Cmd.Key]).toArray,.agg (flat [si a2.Err,sb a2.Wait,su a2.Time,si a2.N,sb a2.Found,sg a2.Val]).toArray] w0 (Post [] κ0 w0 fun v κ w=>v = .string (r)∧(∀m∈([]:List MP),m.p κ w)∧NewC w0 κ w []):=by
 have hS:=SS.start hfr hR
 refine en Tryz.func17 rfl Tryz.ntmps17 fun a hF=>?_
 unfold M.script_told at H
 refine qr fun _ h3=>(wc (wbx hF hS [si a1.Kind,si a1.Who,si a1.A,si a1.B,si a1.N,sg a1.Key,sg a1.Val,si a1.Cmd.Kind,si a1.Cmd.DC,si a1.Cmd.Shard,si a1.Cmd.Node,si a1.Cmd.Mode,sg a1.Cmd.Key] (sgN 13 sgNil) fun b4 a w hF hS=>wc (wbx hF hS [si a2.Err,sb a2.Wait,su a2.Time,si a2.N,sb a2.Found,sg a2.Val] (sgN 6 sgNil) fun b5 a w hF hS=>wp 1 [2,3] hF fun a hF=>(h3 _ _ (qs fun _ h6=>?_)))))
 refine bk (qr fun _ h7=>(wp 1 [2,3,6] hF fun a hF=>wc (wld hF hS 0 0 0 fun a hF=>wp 2 [2,3,5] hF fun a hF=>(h7 _ _ (bc hF H (fun hb H=>?_) fun hb H=>?_)))))
 refine qr fun _ h8=>(wp 1 [9] hF fun a hF=>wc (wld hF hS 0 0 0 fun a hF=>bd H fun x9 hx9 H=>wc (wo_callP hF hS kr kr (C_script_said N hS.fresh a2.Err ((hS.pick [0] kr).ro) hx9) ?_)))
 rintro _ κ w a ⟨rfl,hR,hN⟩ hF hS hO
 refine wp 1 [4] hF fun a hF=>(h8 _ _ (rt ?_))
 cases H
 exact (ret_done hF hS (res1 Tryz.results17 (rvt hF)) ⟨rfl,(hS.pick [] kr).ro,hS.newC [] dc kr⟩)
 refine qr fun _ h10=>(wp 1 [2,3,13] hF fun a hF=>wc (wld hF hS 0 1 0 fun a hF=>wp 1 [2,3,12] hF fun a hF=>(h10 _ _ (bc hF H (fun hb H=>?_) fun hb H=>?_))))
 refine qr fun _ h11=>(wp 1 [4] hF fun a hF=>(h11 _ _ (rt ?_)))
 cases H
 exact (ret_done hF hS (res1 Tryz.results17 (rvt hF)) ⟨rfl,(hS.pick [] kr).ro,hS.newC [] dc kr⟩)
 refine qr fun _ h12=>(wp 1 [2,3,16] hF fun a hF=>wc (wld hF hS 1 0 0 fun a hF=>wp 2 [2,3,15] hF fun a hF=>(h12 _ _ (bc hF H (fun hb H=>?_) fun hb H=>?_))))
 refine qr fun _ h13=>(wp 1 [19] hF fun a hF=>wc (wld hF hS 0 2 0 fun a hF=>bd H fun x14 hx14 H=>wc (wo_callP hF hS kr kr (C_strconv_FormatUint N hS.fresh a2.Time 10 ((hS.pick [] kr).ro) hx14) ?_)))
 rintro _ κ w a ⟨rfl,hR,hN⟩ hF hS hO
 refine wp 1 [4] hF fun a hF=>(h13 _ _ (rt ?_))
 cases H
 exact (ret_done hF hS (res1 Tryz.results17 (rvt hF)) ⟨rfl,(hS.pick [] kr).ro,hS.newC [] dc kr⟩)
 refine qr fun _ h15=>(wp 1 [2,3,23] hF fun a hF=>wc (wld hF hS 1 0 0 fun a hF=>wp 2 [2,3,22] hF fun a hF=>(h15 _ _ (bc hF H (fun hb H=>?_) fun hb H=>?_))))
 refine qr fun _ h16=>(wc (wls hF hS 0 0 6 fun a hF=>bd H fun x17 hx17 H=>wc (wo_callP hF hS kr kr (C_script_value N hS.fresh (T_cluster_Answer.mk a2.Err a2.Wait a2.Time a2.N a2.Found a2.Val) ((hS.pick [] kr).ro) hx17) ?_)))
 rintro _ κ w a ⟨rfl,hR,hN⟩ hF hS hO
 refine wp 1 [4] hF fun a hF=>(h16 _ _ (rt ?_))
 cases H
 exact (ret_done hF hS (res1 Tryz.results17 (rvt hF)) ⟨rfl,(hS.pick [] kr).ro,hS.newC [] dc kr⟩)
 refine qr fun _ h18=>(bd H fun v20 hv20 H=>wl_join (fun a w => ∃κ:Gh,Fr (40) [] [(3,pt b5 0),(28,vb v20)] a∧SS [] κ0 w0 κ w [.box b5 58 [si a2.Err,sb a2.Wait,su a2.Time,si a2.N,sb a2.Found,sg a2.Val]] [GL]∧True) ?_ ?_)
 refine wp 1 [2,3,29] hF fun a hF=>wc (wld hF hS 1 0 0 fun a hF=>wp 2 [2,3,32] hF fun a hF=>bs hv20 (fun hb hv20=>?_) fun hb hv20=>?_)
 have hF:=hF.bv 32 hb
 refine wp 5 [3,28] hF fun a hF=>nl ?_
 cases hv20
 exact ⟨_,hF.kp [3,28],hS.sp [0] [0],trivial⟩
 have hF:=hF.bv 32 hb
 refine wp 1 [3,32,33] hF fun a hF=>wcg hF (wld hF hS 1 0 0 fun a hF=>wp 3 [3,28] hF fun a hF=>nl ?_)
 cases hv20
 exact ⟨_,hF.kp [3,28],hS.sp [0] [0],trivial⟩
 rintro a w ⟨κ,hF,hS,-⟩
 refine h18 _ _ (bc hF H (fun hb H=>?_) fun hb H=>?_)
 refine qr fun _ h21=>(wp 1 [37] hF fun a hF=>wc (wld hF hS 0 3 0 fun a hF=>bd H fun x22 hx22 H=>wc (wo_callP hF hS kr kr (C_strconv_Itoa N hS.fresh a2.N ((hS.pick [0] kr).ro) hx22) ?_)))
 rintro _ κ w a ⟨rfl,hR,hN⟩ hF hS hO
 refine wp 1 [4] hF fun a hF=>(h21 _ _ (rt ?_))
 cases H
 exact (ret_done hF hS (res1 Tryz.results17 (rvt hF)) ⟨rfl,(hS.pick [] kr).ro,hS.newC [] dc kr⟩)
 refine sk (h6 _ _ (qr fun _ h23=>(wp 1 [4] hF fun a hF=>(h23 _ _ (rt ?_)))))
 cases H
 exact (ret_done hF hS (res1 Tryz.results17 (rvt hF)) ⟨rfl,(hS.pick [] kr).ro,hS.newC [] dc kr⟩)
end Go.Cf
