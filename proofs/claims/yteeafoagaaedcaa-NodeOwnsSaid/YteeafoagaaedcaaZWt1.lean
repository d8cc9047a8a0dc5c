/- The walks: each function returns what its model says. Printed by a program of ours. -/
import Derived.Test.YteeafoagaaedcaaZM1
namespace Go.Cf
open Go Go.Proofs
set_option linter.unusedVariables false
set_option maxRecDepth 20000
set_option maxHeartbeats 8000000
theorem C_store_Check (N:Nat){κ0:Gh}{w0:World}(hfr:Fresh κ0 w0)(a1:T_api_Ver)(hR : ∀m∈([]:List MP),m.p κ0 w0){r:(Int)}(H:M.store_Check N a1=some r) :
    Calls Try.prog 53 #[.agg (flat [sg a1.Key,sg a1.Val,sb a1.Gone,su a1.TS,si a1.DC,si a1.Tx]).toArray] w0 (Post [] κ0 w0 fun v κ w=>v=vi r∧(∀m∈([]:List MP),m.p κ w)∧NewC w0 κ w []):=by
 have hS:=SS.start hfr hR
 refine en Try.func53 rfl Try.ntmps53 fun a hF=>?_
 unfold M.store_Check at H
 refine qs fun _ hz=>rl (wc (wbx hF hS [sg a1.Key,sg a1.Val,sb a1.Gone,su a1.TS,si a1.DC,si a1.Tx] (sgN 6 sgNil) fun b3 a w hF hS=>wp 1 [1] hF fun a hF=>nl (hz _ _ (qs fun _ h4=>qr fun _ h5=>(bd H fun v7 hv7 H=>wl_join (fun a w => ∃κ:Gh,Fr (45) [] [(1,pt b3 0),(12,vb v7)] a∧SS [] κ0 w0 κ w [.box b3 37 [sg a1.Key,sg a1.Val,sb a1.Gone,su a1.TS,si a1.DC,si a1.Tx]] []∧True) ?_ ?_)))))
 refine wp 1 [1,3] hF fun a hF=>wc (wld hF hS 0 0 0 fun a hF=>wp 3 [1,7] hF fun a hF=>bs hv7 (fun hb hv7=>?_) fun hb hv7=>?_)
 have hF:=hF.bv 7 hb
 refine wp 5 [1,12] hF fun a hF=>nl ?_
 cases hv7
 exact ⟨_,hF.kp [1,12],hS.sp [0] [],trivial⟩
 have hF:=hF.bv 7 hb
 refine wp 1 [1,7,8] hF fun a hF=>wcg hF (wld hF hS 0 1 0 fun a hF=>wp 3 [1,12] hF fun a hF=>nl ?_)
 cases hv7
 exact ⟨_,hF.kp [1,12],hS.sp [0] [],trivial⟩
 rintro a w ⟨κ,hF,hS,-⟩
 refine h5 _ _ (bc hF H (fun hb H=>?_) fun hb H=>?_)
 refine qr fun _ h8=>(wp 1 [2] hF fun a hF=>(h8 _ _ (rt ?_)))
 cases H
 exact (ret_done hF hS (res1 Try.results53 (rvt hF)) ⟨rfl,(hS.pick [] kr).ro,hS.newC [] dc kr⟩)
 refine sk (h4 _ _ (qs fun _ h9=>qr fun _ h10=>(bd H fun v12 hv12 H=>wl_join (fun a w => ∃κ:Gh,Fr (45) [] [(44,vb v12)] a∧SS [] κ0 w0 κ w [] []∧True) ?_ ?_)))
 refine wp 1 [1,13] hF fun a hF=>wc (wld hF hS 0 0 0 fun a hF=>wp 2 [1,16] hF fun a hF=>bs hv12 (fun hb hv12=>?_) fun hb hv12=>?_)
 have hF:=hF.bv 16 hb
 refine wp 28 [44] hF fun a hF=>nl ?_
 cases hv12
 exact ⟨_,hF.kp [44],hS.sp [] [],trivial⟩
 have hF:=hF.bv 16 hb
 refine wp 1 [1,16,17] hF fun a hF=>wcg hF (wld hF hS 0 2 0 fun a hF=>wp 1 [1,16,19] hF fun a hF=>bs hv12 (fun hb hv12=>?_) fun hb hv12=>?_)
 have hF:=hF.bv 19 hb
 refine wp 1 [1,16,19,20] hF fun a hF=>wcg hF (wld hF hS 0 1 0 fun a hF=>wp 4 [1,25] hF fun a hF=>bs hv12 (fun hb hv12=>?_) fun hb hv12=>?_)
 have hF:=hF.bv 25 hb
 refine wp 19 [44] hF fun a hF=>nl ?_
 cases hv12
 exact ⟨_,hF.kp [44],hS.sp [] [],trivial⟩
 have hF:=hF.bv 25 hb
 refine wp 1 [1,25,26] hF fun a hF=>wcg hF (wld hF hS 0 4 0 fun a hF=>wp 3 [1,30] hF fun a hF=>bs hv12 (fun hb hv12=>?_) fun hb hv12=>?_)
 have hF:=hF.bv 30 hb
 refine wp 14 [44] hF fun a hF=>nl ?_
 cases hv12
 exact ⟨_,hF.kp [44],hS.sp [] [],trivial⟩
 have hF:=hF.bv 30 hb
 refine wp 1 [1,30,31] hF fun a hF=>wcg hF (wld hF hS 0 4 0 fun a hF=>wp 3 [1,35] hF fun a hF=>bs hv12 (fun hb hv12=>?_) fun hb hv12=>?_)
 have hF:=hF.bv 35 hb
 refine wp 9 [44] hF fun a hF=>nl ?_
 cases hv12
 exact ⟨_,hF.kp [44],hS.sp [] [],trivial⟩
 have hF:=hF.bv 35 hb
 refine wp 1 [1,35,36] hF fun a hF=>wcg hF (wld hF hS 0 5 0 fun a hF=>wp 3 [1,40] hF fun a hF=>bs hv12 (fun hb hv12=>?_) fun hb hv12=>?_)
 have hF:=hF.bv 40 hb
 refine wp 4 [44] hF fun a hF=>nl ?_
 cases hv12
 exact ⟨_,hF.kp [44],hS.sp [] [],trivial⟩
 have hF:=hF.bv 40 hb
 refine wp 1 [40,41] hF fun a hF=>wcg hF (wld hF hS 0 5 0 fun a hF=>wp 2 [44] hF fun a hF=>nl ?_)
 cases hv12
 exact ⟨_,hF.kp [44],hS.sp [] [],trivial⟩
 have hF:=hF.bv 19 hb
 refine wp 7 [1,25,26] hF fun a hF=>wcg hF (wld hF hS 0 4 0 fun a hF=>wp 3 [1,30] hF fun a hF=>bs hv12 (fun hb hv12=>?_) fun hb hv12=>?_)
 have hF:=hF.bv 30 hb
 refine wp 14 [44] hF fun a hF=>nl ?_
 cases hv12
 exact ⟨_,hF.kp [44],hS.sp [] [],trivial⟩
 have hF:=hF.bv 30 hb
 refine wp 1 [1,30,31] hF fun a hF=>wcg hF (wld hF hS 0 4 0 fun a hF=>wp 3 [1,35] hF fun a hF=>bs hv12 (fun hb hv12=>?_) fun hb hv12=>?_)
 have hF:=hF.bv 35 hb
 refine wp 9 [44] hF fun a hF=>nl ?_
 cases hv12
 exact ⟨_,hF.kp [44],hS.sp [] [],trivial⟩
 have hF:=hF.bv 35 hb
 refine wp 1 [1,35,36] hF fun a hF=>wcg hF (wld hF hS 0 5 0 fun a hF=>wp 3 [1,40] hF fun a hF=>bs hv12 (fun hb hv12=>?_) fun hb hv12=>?_)
 have hF:=hF.bv 40 hb
 refine wp 4 [44] hF fun a hF=>nl ?_
 cases hv12
 exact ⟨_,hF.kp [44],hS.sp [] [],trivial⟩
 have hF:=hF.bv 40 hb
 refine wp 1 [40,41] hF fun a hF=>wcg hF (wld hF hS 0 5 0 fun a hF=>wp 2 [44] hF fun a hF=>nl ?_)
 cases hv12
 exact ⟨_,hF.kp [44],hS.sp [] [],trivial⟩
 rintro a w ⟨κ,hF,hS,-⟩
 refine h10 _ _ (bc hF H (fun hb H=>?_) fun hb H=>?_)
 refine qr fun _ h13=>(wp 1 [2] hF fun a hF=>(h13 _ _ (rt ?_)))
 cases H
 exact (ret_done hF hS (res1 Try.results53 (rvt hF)) ⟨rfl,(hS.pick [] kr).ro,hS.newC [] dc kr⟩)
 refine sk (h9 _ _ (qr fun _ h14=>(wp 1 [2] hF fun a hF=>(h14 _ _ (rt ?_)))))
 cases H
 exact (ret_done hF hS (res1 Try.results53 (rvt hF)) ⟨rfl,(hS.pick [] kr).ro,hS.newC [] dc kr⟩)
theorem C_store_New (N:Nat){Ms:List Nat}{κ0:Gh}{w0:World}(hB:SB Ms κ0 w0 [] []){r:(T_store_Store)}(H:M.store_New N=some r) :
    Calls Try.prog 40 #[] w0 (Post Ms κ0 w0 fun v κ w => ∃(b5:Nat) (p6:Option Nat) (m7:Array MapEntry) (c8:Nat),v=pt b5 0∧SS Ms κ0 w0 κ w [.box b5 130 [sm p6,su r.floor],mx p6 m7 c8] [Map.mp kStr false (tSl f_api_Ver.ty) p6 m7 c8 r.chains]):=by
 have hS:=hB.hS
 have hfr:=hS.fresh
 refine en Try.func40 rfl Try.ntmps40 fun a hF=>?_
 unfold M.store_New at H
 refine qr fun _ h1=>(wl_pure (L':=[]) 1 [] hF kr fun a hF=>(h1 _ _ (qs fun _ hz=>rl (wc (wo_makeMap hF hS kr kStr false (tSl f_api_Ver.ty) rfl fun b3 a w hF hS=>wp 1 [2] hF fun a hF=>wc (wbx hF hS [(1,[.map (some b3)]),su 0] (sgN 2 sgNil) fun b4 a w hF hS=>wp 1 [0] hF fun a hF=>nl (hz _ _ (rt ?_))))))))
 cases H
 exact ret_done hF hS (res1 Try.results40 (rvt hF)) ⟨b4,(some b3),#[],0,rfl,hS.sp [0,1] [0]⟩
theorem C_span_Within (N:Nat){κ0:Gh}{w0:World}(hfr:Fresh κ0 w0)(a1:ByteArray)(a2:ByteArray)(a3:ByteArray)(hR : ∀m∈([]:List MP),m.p κ0 w0){r:(Bool)}(H:M.span_Within N a1 a2 a3=some r) :
    Calls Try.prog 81 #[.string (a1),.string (a2),.string (a3)] w0 (Post [] κ0 w0 fun v κ w=>v=vb r∧(∀m∈([]:List MP),m.p κ w)∧NewC w0 κ w []):=by
 have hS:=SS.start hfr hR
 refine en Try.func81 rfl Try.ntmps81 fun a hF=>?_
 unfold M.span_Within at H
 refine qr fun _ h4=>(wp 1 [0,1,2] hF fun a hF=>(h4 _ _ (qr fun _ h5=>(bd H fun v7 hv7 H=>wl_join (fun a w => ∃κ:Gh,Fr (19) [] [(6,vb v7)] a∧SS [] κ0 w0 κ w [] []∧True) ?_ ?_))))
 refine wp 4 [0,2,10] hF fun a hF=>bs hv7 (fun hb hv7=>?_) fun hb hv7=>?_
 have hF:=hF.bv 10 hb
 refine wp 3 [0,2,10,13] hF fun a hF=>bs hv7 (fun hb hv7=>?_) fun hb hv7=>?_
 have hF:=hF.bv 13 hb
 refine wp 6 [6] hF fun a hF=>nl ?_
 cases hv7
 exact ⟨_,hF.kp [6],hS.sp [] [],trivial⟩
 have hF:=hF.bv 13 hb
 refine wp 6 [6] hF fun a hF=>nl ?_
 cases hv7
 exact ⟨_,hF.kp [6],hS.sp [] [],trivial⟩
 have hF:=hF.bv 10 hb
 refine wp 9 [6] hF fun a hF=>nl ?_
 cases hv7
 exact ⟨_,hF.kp [6],hS.sp [] [],trivial⟩
 rintro a w ⟨κ,hF,hS,-⟩
 refine h5 _ _ (rt ?_)
 cases H
 exact (ret_done hF hS (res1 Try.results81 (rvt hF)) ⟨rfl,(hS.pick [] kr).ro,hS.newC [] dc kr⟩)
theorem C_hlc_Of (N:Nat){κ0:Gh}{w0:World}(hfr:Fresh κ0 w0)(a1:T_api_Ver)(hR : ∀m∈([]:List MP),m.p κ0 w0){r:(T_api_Mark)}(H:M.hlc_Of N a1=some r) :
    Calls Try.prog 86 #[.agg (flat [sg a1.Key,sg a1.Val,sb a1.Gone,su a1.TS,si a1.DC,si a1.Tx]).toArray] w0 (Post [] κ0 w0 fun v κ w=>v = .agg (flat [su r.TS,si r.DC,si r.Tx]).toArray∧(∀m∈([]:List MP),m.p κ w)∧NewC w0 κ w []):=by
 have hS:=SS.start hfr hR
 refine en Try.func86 rfl Try.ntmps86 fun a hF=>?_
 unfold M.hlc_Of at H
 refine qs fun _ hz=>rl (wc (wbx hF hS [sg a1.Key,sg a1.Val,sb a1.Gone,su a1.TS,si a1.DC,si a1.Tx] (sgN 6 sgNil) fun b3 a w hF hS=>wc (wal hF hS [su 0,si 0,si 0] (sgN 3 sgNil) fun b4 a w hF hS=>nl (hz _ _ (qr fun _ h5=>(wp 1 [1,2,3] hF fun a hF=>wc (wld hF hS 1 3 0 fun a hF=>wp 1 [1,2,4,5] hF fun a hF=>wc (wld hF hS 1 4 0 fun a hF=>wp 1 [2,4,6,7] hF fun a hF=>wc (wld hF hS 1 5 0 fun a hF=>wp 1 [2,9] hF fun a hF=>wc (wst hF hS 0 0 3 [su a1.TS,si a1.DC,si a1.Tx] (sgN 3 sgNil) fun a w hF hS=>?_))))))))))
 refine h5 _ _ (rt ?_)
 have hS':=hS
 cases H
 exact (ret_done hF hS (res1 Try.results86 (rvs hF hS' 0 0 3)) ⟨rfl,(hS.pick [] kr).ro,hS.newC [] dc kr⟩)
theorem C_hlc_sign (N:Nat){κ0:Gh}{w0:World}(hfr:Fresh κ0 w0)(a1:Bool)(hR : ∀m∈([]:List MP),m.p κ0 w0){r:(Int)}(H:M.hlc_sign N a1=some r) :
    Calls Try.prog 116 #[vb a1] w0 (Post [] κ0 w0 fun v κ w=>v=vi r∧(∀m∈([]:List MP),m.p κ w)∧NewC w0 κ w []):=by
 have hS:=SS.start hfr hR
 refine en Try.func116 rfl Try.ntmps116 fun a hF=>?_
 unfold M.hlc_sign at H
 refine qs fun _ hz=>rl (wp 1 [0] hF fun a hF=>nl (hz _ _ (qs fun _ h3=>qr fun _ h4=>(wp 1 [3] hF fun a hF=>(h4 _ _ (bc hF H (fun hb H=>?_) fun hb H=>?_))))))
 refine qr fun _ h5=>(wp 1 [2] hF fun a hF=>(h5 _ _ (rt ?_)))
 cases H
 exact (ret_done hF hS (res1 Try.results116 (rvt hF)) ⟨rfl,(hS.pick [] kr).ro,hS.newC [] dc kr⟩)
 refine sk (h3 _ _ (qr fun _ h6=>(wp 1 [2] hF fun a hF=>(h6 _ _ (rt ?_)))))
 cases H
 exact (ret_done hF hS (res1 Try.results116 (rvt hF)) ⟨rfl,(hS.pick [] kr).ro,hS.newC [] dc kr⟩)
theorem C_hlc_Cmp (N:Nat){κ0:Gh}{w0:World}(hfr:Fresh κ0 w0)(a1:T_api_Mark)(a2:T_api_Mark)(hR : ∀m∈([]:List MP),m.p κ0 w0){r:(Int)}(H:M.hlc_Cmp N a1 a2=some r) :
    Calls Try.prog 85 #[.agg (flat [su a1.TS,si a1.DC,si a1.Tx]).toArray,.agg (flat [su a2.TS,si a2.DC,si a2.Tx]).toArray] w0 (Post [] κ0 w0 fun v κ w=>v=vi r∧(∀m∈([]:List MP),m.p κ w)∧NewC w0 κ w []):=by
 have hS:=SS.start hfr hR
 refine en Try.func85 rfl Try.ntmps85 fun a hF=>?_
 unfold M.hlc_Cmp at H
 refine qr fun _ h3=>(wc (wbx hF hS [su a1.TS,si a1.DC,si a1.Tx] (sgN 3 sgNil) fun b4 a w hF hS=>wc (wbx hF hS [su a2.TS,si a2.DC,si a2.Tx] (sgN 3 sgNil) fun b5 a w hF hS=>wp 1 [2,3] hF fun a hF=>(h3 _ _ (qs fun _ h6=>bk (qr fun _ h7=>(wp 1 [2,3,6] hF fun a hF=>wc (wld hF hS 1 0 0 fun a hF=>wp 1 [2,3,7,8] hF fun a hF=>wc (wld hF hS 0 0 0 fun a hF=>wp 2 [2,3,5] hF fun a hF=>(h7 _ _ (bc hF H (fun hb H=>?_) fun hb H=>?_)))))))))))
 refine qr fun _ h8=>(wp 1 [3,11] hF fun a hF=>wc (wld hF hS 1 0 0 fun a hF=>wp 1 [12,13] hF fun a hF=>wc (wld hF hS 0 0 0 fun a hF=>wp 1 [15] hF fun a hF=>bd H fun x9 hx9 H=>wc (wo_callP hF hS kr kr (C_hlc_sign N hS.fresh (decide (a1.TS<a2.TS)) ((hS.pick [] kr).ro) hx9) ?_))))
 rintro _ κ w a ⟨rfl,hR,hN⟩ hF hS hO
 refine wp 1 [4] hF fun a hF=>(h8 _ _ (rt ?_))
 cases H
 exact (ret_done hF hS (res1 Try.results85 (rvt hF)) ⟨rfl,(hS.pick [] kr).ro,hS.newC [] dc kr⟩)
 refine qr fun _ h10=>(wp 1 [2,3,18] hF fun a hF=>wc (wld hF hS 1 1 0 fun a hF=>wp 1 [2,3,19,20] hF fun a hF=>wc (wld hF hS 0 1 0 fun a hF=>wp 2 [2,3,17] hF fun a hF=>(h10 _ _ (bc hF H (fun hb H=>?_) fun hb H=>?_)))))
 refine qr fun _ h11=>(wp 1 [3,23] hF fun a hF=>wc (wld hF hS 1 1 0 fun a hF=>wp 1 [24,25] hF fun a hF=>wc (wld hF hS 0 1 0 fun a hF=>wp 1 [27] hF fun a hF=>bd H fun x12 hx12 H=>wc (wo_callP hF hS kr kr (C_hlc_sign N hS.fresh (decide (a1.DC<a2.DC)) ((hS.pick [] kr).ro) hx12) ?_))))
 rintro _ κ w a ⟨rfl,hR,hN⟩ hF hS hO
 refine wp 1 [4] hF fun a hF=>(h11 _ _ (rt ?_))
 cases H
 exact (ret_done hF hS (res1 Try.results85 (rvt hF)) ⟨rfl,(hS.pick [] kr).ro,hS.newC [] dc kr⟩)
 refine qr fun _ h13=>(wp 1 [2,3,30] hF fun a hF=>wc (wld hF hS 1 2 0 fun a hF=>wp 1 [2,3,31,32] hF fun a hF=>wc (wld hF hS 0 2 0 fun a hF=>wp 2 [2,3,29] hF fun a hF=>(h13 _ _ (bc hF H (fun hb H=>?_) fun hb H=>?_)))))
 refine qr fun _ h14=>(wp 1 [3,35] hF fun a hF=>wc (wld hF hS 1 2 0 fun a hF=>wp 1 [36,37] hF fun a hF=>wc (wld hF hS 0 2 0 fun a hF=>wp 1 [39] hF fun a hF=>bd H fun x15 hx15 H=>wc (wo_callP hF hS kr kr (C_hlc_sign N hS.fresh (decide (a1.Tx<a2.Tx)) ((hS.pick [] kr).ro) hx15) ?_))))
 rintro _ κ w a ⟨rfl,hR,hN⟩ hF hS hO
 refine wp 1 [4] hF fun a hF=>(h14 _ _ (rt ?_))
 cases H
 exact (ret_done hF hS (res1 Try.results85 (rvt hF)) ⟨rfl,(hS.pick [] kr).ro,hS.newC [] dc kr⟩)
 refine sk (h6 _ _ (qr fun _ h16=>(wp 1 [4] hF fun a hF=>(h16 _ _ (rt ?_)))))
 cases H
 exact (ret_done hF hS (res1 Try.results85 (rvt hF)) ⟨rfl,(hS.pick [] kr).ro,hS.newC [] dc kr⟩)
theorem C_hlc_after (N:Nat){κ0:Gh}{w0:World}(hfr:Fresh κ0 w0)(a1:Int)(a2:Int)(hR : ∀m∈([]:List MP),m.p κ0 w0){r:(Int×Int)}(H:M.hlc_after N a1 a2=some r) :
    Calls Try.prog 141 #[vu a1,vi a2] w0 (Post [] κ0 w0 fun v κ w=>v = .tuple #[vu r.1,vi r.2]∧(∀m∈([]:List MP),m.p κ w)∧NewC w0 κ w []):=by
 have hS:=SS.start hfr hR
 refine en Try.func141 rfl Try.ntmps141 fun a hF=>?_
 unfold M.hlc_after at H
 refine qr fun _ h3=>(wp 2 [0,1] hF fun a hF=>(h3 _ _ (qs fun _ h4=>qr fun _ h5=>(bd H fun v7 hv7 H=>wl_join (fun a w => ∃κ:Gh,Fr (25) [] [(0,vu a1),(1,vi a2),(12,vb v7)] a∧SS [] κ0 w0 κ w [] []∧True) ?_ ?_))))
 refine wp 3 [0,1,9] hF fun a hF=>bs hv7 (fun hb hv7=>?_) fun hb hv7=>?_
 have hF:=hF.bv 9 hb
 refine wp 3 [0,1,12] hF fun a hF=>nl ?_
 cases hv7
 exact ⟨_,hF.kp [0,1,12],hS.sp [] [],trivial⟩
 have hF:=hF.bv 9 hb
 refine wp 3 [0,1,12] hF fun a hF=>nl ?_
 cases hv7
 exact ⟨_,hF.kp [0,1,12],hS.sp [] [],trivial⟩
 rintro a w ⟨κ,hF,hS,-⟩
 refine h5 _ _ (bc hF H (fun hb H=>?_) fun hb H=>?_)
 refine qr fun _ h8=>(wp 2 [4,5] hF fun a hF=>(h8 _ _ (rt ?_)))
 cases H
 exact (ret_done hF hS (res2 Try.results141 (rvt hF) (rvt hF)) ⟨rfl,(hS.pick [] kr).ro,hS.newC [] dc kr⟩)
 refine sk (h4 _ _ (qs fun _ h9=>qr fun _ h10=>(wp 4 [0,6] hF fun a hF=>(h10 _ _ (qr fun _ h11=>(wp 3 [0,6,18] hF fun a hF=>(h11 _ _ (bc hF H (fun hb H=>?_) fun hb H=>?_))))))))
 refine qr fun _ h12=>(wp 3 [4,5] hF fun a hF=>(h12 _ _ (rt ?_)))
 cases H
 exact (ret_done hF hS (res2 Try.results141 (rvt hF) (rvt hF)) ⟨rfl,(hS.pick [] kr).ro,hS.newC [] dc kr⟩)
 refine sk (h9 _ _ (qs fun _ h13=>qr fun _ h14=>(wp 3 [0,22] hF fun a hF=>(h14 _ _ (bc hF H (fun hb H=>?_) fun hb H=>?_)))))
 refine qr fun _ h15=>(wp 2 [4,5] hF fun a hF=>(h15 _ _ (rt ?_)))
 cases H
 exact (ret_done hF hS (res2 Try.results141 (rvt hF) (rvt hF)) ⟨rfl,(hS.pick [] kr).ro,hS.newC [] dc kr⟩)
 refine sk (h13 _ _ (qr fun _ h16=>(wp 4 [4,5] hF fun a hF=>(h16 _ _ (rt ?_)))))
 cases H
 exact (ret_done hF hS (res2 Try.results141 (rvt hF) (rvt hF)) ⟨rfl,(hS.pick [] kr).ro,hS.newC [] dc kr⟩)
theorem C_chain_at (N:Nat){κ0:Gh}{w0:World}(hfr:Fresh κ0 w0)(a1:(List T_api_Ver))(a4:Int)(p2:Option Addr)(c3:Nat)(hR : ∀m∈([Ro.mp f_api_Ver.ty p2 c3 a1]:List MP),m.p κ0 w0){r:(Int)}(H:M.chain_at N a1 a4=some r) :
    Calls Try.prog 115 #[.slice p2 a1.length c3,vu a4] w0 (Post [] κ0 w0 fun v κ w=>v=vi r∧(∀m∈([]:List MP),m.p κ w)∧NewC w0 κ w []):=by
 have hS:=SS.start hfr hR
 refine en Try.func115 rfl Try.ntmps115 fun a hF=>?_
 unfold M.chain_at at H
 refine qr fun _ h5=>(wp 1 [0,1] hF fun a hF=>(h5 _ _ (qr fun _ h6=>(wp 1 [0,1,5] hF fun a hF=>(h6 _ _ (qs fun _ h7=>qr fun _ h8=>(wp 3 [0,1,5,8,9,10] hF fun a hF=>(h8 _ _ (bk (loop_fuel (n:=N) (fun n a w => ∃(κ:Gh) (y59 y60:Int),Fr (37) [] [(0,.slice p2 a1.length c3),(1,vu a4),(5,vi y59),(8,.slice p2 a1.length c3),(9,vi (a1.length:Int)),(10,vi y60)] a∧SS [] κ0 w0 κ w [] [Ro.mp f_api_Ver.ty p2 c3 a1]∧M.chain_at_L1 N n a1 a4 y59 y60=some r) ?_ ?_))))))))))
 exact ⟨_,(-1),0,hF.kp [0,1,5,8,9,10],hS.sp [] [0],H⟩
 rintro n a w ⟨κ,y59,y60,hF,hS,H⟩
 rcases n with _|fuel1
 simp [M.chain_at_L1] at H
 simp only [M.chain_at_L1] at H
 refine qr fun _ h61=>(wp 1 [0,1,5,8,9,10,11] hF fun a hF=>(h61 _ _ (qs fun _ h62=>bc hF H (fun hb H=>?_) fun hb H=>?_)))
 refine sk (h62 _ _ (seq_join (fun a w => ∃(κ:Gh) (y63:Int),Fr (37) [] [(0,.slice p2 a1.length c3),(1,vu a4),(5,vi y63),(8,.slice p2 a1.length c3),(9,vi (a1.length:Int)),(10,vi y60)] a∧SS [] κ0 w0 κ w [] [Ro.mp f_api_Ver.ty p2 c3 a1]∧M.chain_at_k2 N (M.chain_at_L1 N fuel1) a1 a4 y60 y63=some r) ?_ ?_))
 refine bk (qr fun _ h64=>(wl_pure (L':=[(0,.slice p2 a1.length c3),(1,vu a4),(5,vi y59),(8,.slice p2 a1.length c3),(9,vi (a1.length:Int)),(10,vi y60),(12,vi y60)]) 1 [0,1,5,8,9,10,12] hF kr fun a hF=>bd H fun x65 hx65 H=>wc (wo_index hF hS kr 0 (E:=37) (sz:=6) rfl rfl rfl kr rfl hx65 kr kr fun b66 f67 a hpx65 hF=>wc (wo_loadRoAgg (t:=f_api_Ver) hF hS kr 0 rfl rfl hpx65 rfl hx65 kr kr kr fun a hF=>wc (wal hF hS [sg ByteArray.empty,sg ByteArray.empty,sb false,su 0,si 0,si 0] (sgN 6 sgNil) fun b68 a w hF hS=>?_)))))
 refine wp 1 [0,1,5,6,7,8,9,10,14] hF fun a hF=>wc (wst hF hS 0 0 6 [sg x65.Key,sg x65.Val,sb x65.Gone,su x65.TS,si x65.DC,si x65.Tx] (sgN 6 sgNil) fun a w hF hS=>(h64 _ _ (qs fun _ h69=>bd H fun v71 hv71 H=>code_join (fun a w => ∃κ:Gh,Fr (37) [] [(0,.slice p2 a1.length c3),(1,vu a4),(5,vi y59),(6,vi y60),(8,.slice p2 a1.length c3),(9,vi (a1.length:Int)),(10,vi y60),(33,vb v71)] a∧SS [] κ0 w0 κ w [] [Ro.mp f_api_Ver.ty p2 c3 a1]∧True) ?_ ?_)))
 refine rgS hS [] ?_
 have hS:=hS.drew
 have hX:=hS.fx
 refine bif_split hv71 (fun hb72 hv71=>?_) (fun hb72 hv71=>?_)
 refine bif_split hv71 (fun hb73 hv71=>?_) (fun hb73 hv71=>?_)
 refine anp [0,2] [0,1,5,6,7,8,9,10,15,17] hF hX fun a hF=>atk 1 (some 16) hF hX rfl (vld 0 3 0) fun a hF=>anp [3,4] [0,1,5,6,7,8,9,10,19] hF hX fun a hF=>?_
 have hF:=hF.boolv 19 kr hb72
 refine anp [5,6,7] [0,1,5,6,7,8,9,10,19,22] hF hX fun a hF=>?_
 have hF:=hF.boolv 22 kr hb73
 refine anp (ra 8 11) [0,1,5,6,8,9,10,33] hF hX fun a hF=>and_ ?_
 cases hv71
 exact ⟨_,hF.kp [0,1,5,6,8,9,10,33],hS.sp [] [0],trivial⟩
 refine bd hv71 fun x74 hx74 hv71=>bd hv71 fun x77 hx77 hv71=>bd hv71 fun x78 hx78 hv71=>bd hv71 fun x79 hx79 hv71=>anp [0,2] [0,1,5,6,7,8,9,10,15,17] hF hX fun a hF=>atk 1 (some 16) hF hX rfl (vld 0 3 0) fun a hF=>anp [3,4] [0,1,5,6,7,8,9,10,19] hF hX fun a hF=>?_
 have hF:=hF.boolv 19 kr hb72
 refine anp [5,6,7] [0,1,5,6,7,8,9,10,19,22] hF hX fun a hF=>?_
 have hF:=hF.boolv 22 kr hb73
 refine any_pure [8,9] [0,1,5,6,7,8,9,10,19,22,23,24] (L':=[(0,.slice p2 a1.length c3),(1,vu a4),(5,vi y59),(6,vi y60),(7,pt b68 0),(8,.slice p2 a1.length c3),(9,vi (a1.length:Int)),(10,vi y60),(19,vb true),(22,vb false),(23,.slice p2 a1.length c3),(24,vi y59)]) (listed':=(bitA 19 1023)) (fuel:=9) hF hX kr (by intro c a w t v h; cases t<;>exact h) kr rfl fun a hF=>?_
 obtain ⟨b75,f76,hpx74⟩:=hS.ptr 0 rfl hx74
 refine atk 10 (some 25) hF (hS.sx [0] [0]) rfl (fun w _=>val_index (E:=37) (sz:=6) rfl hpx74 rfl kr rfl hx74 kr kr w) fun a hF=>atk 11 (some 26) hF (hS.sx [0] [0]) rfl (val_loadRoAgg (t:=f_api_Ver) 0 rfl rfl hpx74 rfl hx74 kr kr kr) fun a hF=>atk 13 (some 28) hF (hS.sx [0] [0]) rfl (vls 0 0 6) fun a hF=>ago 12 hF rfl (wo_callP hF hS kr kr (C_hlc_Of N hS.fresh (T_api_Ver.mk x74.Key x74.Val x74.Gone x74.TS x74.DC x74.Tx) ((hS.pick [] kr).ro) hx77) ?_)
 rintro _ κ w a ⟨rfl,hR,hN⟩ hF hS hO
 refine ⟨fun _=>(hS.sx [0] [0]),?_⟩
 refine ago 14 hF rfl (wo_callP hF hS kr kr (C_hlc_Of N hS.fresh (T_api_Ver.mk x65.Key x65.Val x65.Gone x65.TS x65.DC x65.Tx) ((hS.pick [] kr).ro) hx78) ?_)
 rintro _ κ w a ⟨rfl,hR,hN⟩ hF hS hO
 refine ⟨fun _=>(hS.sx [0] [0]),?_⟩
 refine ago 15 hF rfl (wo_callP hF hS kr kr (C_hlc_Cmp N hS.fresh (T_api_Mark.mk x77.TS x77.DC x77.Tx) (T_api_Mark.mk x78.TS x78.DC x78.Tx) ((hS.pick [] kr).ro) hx79) ?_)
 rintro _ κ w a ⟨rfl,hR,hN⟩ hF hS hO
 refine ⟨fun _=>(hS.sx [0] [0]),?_⟩
 refine anp [16,17,18] [0,1,5,6,8,9,10,33] hF (hS.sx [0] [0]) fun a hF=>and_ ?_
 cases hv71
 exact ⟨_,hF.kp [0,1,5,6,8,9,10,33],hS.sp [] [0],trivial⟩
 refine anp [0,2] [0,1,5,6,7,8,9,10,15,17] hF hX fun a hF=>atk 1 (some 16) hF hX rfl (vld 0 3 0) fun a hF=>anp [3,4] [0,1,5,6,7,8,9,10,19] hF hX fun a hF=>?_
 have hF:=hF.boolv 19 kr hb72
 refine anp (ra 5 14) [0,1,5,6,8,9,10,33] hF hX fun a hF=>and_ ?_
 cases hv71
 exact ⟨_,hF.kp [0,1,5,6,8,9,10,33],hS.sp [] [0],trivial⟩
 rintro a w ⟨κ,hF,hS,-⟩
 refine h69 _ _ (bc hF H (fun hb H=>?_) fun hb H=>?_)
 refine rl (wp 2 [0,1,5,8,9,10] hF fun a hF=>nl ?_)
 exact ⟨_,y60,hF.kp [0,1,5,8,9,10],hS.sp [] [0],H⟩
 refine sk ?_
 exact ⟨_,y59,hF.kp [0,1,5,8,9,10],hS.sp [] [0],H⟩
 rintro a w ⟨κ,y63,hF,hS,H⟩
 unfold M.chain_at_k2 at H
 refine rl (wp 2 [0,1,5,8,9,10] hF fun a hF=>nl ?_)
 exact ⟨fuel1,Nat.lt_succ_self _,_,y63,IntKind.i64.wrap (y60+1),hF.kp [0,1,5,8,9,10],hS.sp [] [0],H⟩
 refine xt (h7 _ _ (qr fun _ h80=>(wp 2 [4] hF fun a hF=>(h80 _ _ (rt ?_)))))
 cases H
 exact (ret_done hF hS (res1 Try.results115 (rvt hF)) ⟨rfl,(hS.pick [] kr).ro,hS.newC [] dc kr⟩)
theorem C_chain_At (N:Nat){κ0:Gh}{w0:World}(hfr:Fresh κ0 w0)(a1:(List T_api_Ver))(a4:Int)(p2:Option Addr)(c3:Nat)(hR : ∀m∈([Ro.mp f_api_Ver.ty p2 c3 a1]:List MP),m.p κ0 w0){r:(T_api_Ver×Bool)}(H:M.chain_At N a1 a4=some r) :
    Calls Try.prog 84 #[.slice p2 a1.length c3,vu a4] w0 (Post [] κ0 w0 fun v κ w=>v = .tuple #[.agg (flat [sg r.1.Key,sg r.1.Val,sb r.1.Gone,su r.1.TS,si r.1.DC,si r.1.Tx]).toArray,vb r.2]∧(∀m∈([]:List MP),m.p κ w)∧NewC w0 κ w []):=by
 have hS:=SS.start hfr hR
 refine en Try.func84 rfl Try.ntmps84 fun a hF=>?_
 unfold M.chain_At at H
 refine qr fun _ h5=>(wc (wal hF hS [sg ByteArray.empty,sg ByteArray.empty,sb false,su 0,si 0,si 0] (sgN 6 sgNil) fun b6 a w hF hS=>wp 1 [0,1,4] hF fun a hF=>(h5 _ _ (qs fun _ h7=>qr fun _ h8=>(wp 2 [0,4,7,8] hF fun a hF=>bd H fun x9 hx9 H=>wc (wo_callP hF hS kr kr (C_chain_at N hS.fresh a1 a4 p2 c3 ((hS.pick [0] kr).ro) hx9) ?_))))))
 rintro _ κ w a ⟨rfl,hR,hN⟩ hF hS hO
 refine wp 1 [0,4,6] hF fun a hF=>(h8 _ _ (qr fun _ h10=>(wp 2 [0,4,6,11] hF fun a hF=>(h10 _ _ (bc hF H (fun hb H=>?_) fun hb H=>?_)))))
 refine qr fun _ h11=>(wl_pure (L':=[(4,pt b6 0),(12,.slice p2 a1.length c3),(13,vi x9)]) 2 [4,12,13] hF kr fun a hF=>bd H fun x12 hx12 H=>wc (wo_index hF hS kr 0 (E:=37) (sz:=6) rfl rfl rfl kr rfl hx12 kr kr fun b13 f14 a hpx12 hF=>wc (wo_loadRoAgg (t:=f_api_Ver) hF hS kr 0 rfl rfl hpx12 rfl hx12 kr kr kr fun a hF=>wc (wst hF hS 0 0 6 [sg x12.Key,sg x12.Val,sb x12.Gone,su x12.TS,si x12.DC,si x12.Tx] (sgN 6 sgNil) fun a w hF hS=>wp 1 [4,5] hF fun a hF=>(h11 _ _ (rt ?_))))))
 have hS':=hS
 cases H
 exact (ret_done hF hS (res2 Try.results84 (rvs hF hS' 0 0 6) (rvt hF)) ⟨rfl,(hS.pick [] kr).ro,hS.newC [] dc kr⟩)
 refine sk (h7 _ _ (qr fun _ h15=>(wp 1 [4,16] hF fun a hF=>wc (wst hF hS 0 0 6 [sg ByteArray.empty,sg ByteArray.empty,sb false,su 0,si 0,si 0] (sgN 6 sgNil) fun a w hF hS=>wp 1 [4,5] hF fun a hF=>(h15 _ _ (rt ?_))))))
 have hS':=hS
 cases H
 exact (ret_done hF hS (res2 Try.results84 (rvs hF hS' 0 0 6) (rvt hF)) ⟨rfl,(hS.pick [] kr).ro,hS.newC [] dc kr⟩)
theorem C_chain_Put (N:Nat){κ0:Gh}{w0:World}(hfr:Fresh κ0 w0)(a1:(List T_api_Ver))(a4:T_api_Ver)(p2:Option Addr)(c3:Nat)(hR : ∀m∈([Ro.mp f_api_Ver.ty p2 c3 a1]:List MP),m.p κ0 w0){r:((List T_api_Ver)×Int)}(H:M.chain_Put N a1 a4=some r) :
    Calls Try.prog 83 #[.slice p2 a1.length c3,.agg (flat [sg a4.Key,sg a4.Val,sb a4.Gone,su a4.TS,si a4.DC,si a4.Tx]).toArray] w0 (Post [] κ0 w0 fun v κ w => ∃(p112:Option Addr) (c113:Nat),v = .tuple #[.slice p112 (r.1).length c113,vi r.2]∧(∀m∈([Ro.mp f_api_Ver.ty p112 c113 r.1]:List MP),m.p κ w)∧NewC w0 κ w [.tok p112 37 6 (r.1).length c113]):=by
 have hS:=SS.start hfr hR
 refine en Try.func83 rfl Try.ntmps83 fun a hF=>?_
 unfold M.chain_Put at H
 refine qr fun _ h5=>(wc (wbx hF hS [sg a4.Key,sg a4.Val,sb a4.Gone,su a4.TS,si a4.DC,si a4.Tx] (sgN 6 sgNil) fun b6 a w hF hS=>wp 2 [0,3] hF fun a hF=>(h5 _ _ (qr fun _ h7=>(wp 1 [0,3,6] hF fun a hF=>(h7 _ _ (qs fun _ h8=>qr fun _ h9=>(wp 3 [0,3,6,11,12,13] hF fun a hF=>(h9 _ _ (bk (loop_fuel (n:=N) (fun n a w => ∃(κ:Gh) (y60 y61:Int),Fr (61) [] [(0,.slice p2 a1.length c3),(3,pt b6 0),(6,vi y60),(11,.slice p2 a1.length c3),(12,vi (a1.length:Int)),(13,vi y61)] a∧SS [] κ0 w0 κ w [.box b6 37 [sg a4.Key,sg a4.Val,sb a4.Gone,su a4.TS,si a4.DC,si a4.Tx]] [Ro.mp f_api_Ver.ty p2 c3 a1]∧M.chain_Put_L1 N n a1 a4 y60 y61=some r) ?_ ?_)))))))))))
 exact ⟨_,(-1),0,hF.kp [0,3,6,11,12,13],hS.sp [0] [0],H⟩
 rintro n a w ⟨κ,y60,y61,hF,hS,H⟩
 rcases n with _|fuel1
 simp [M.chain_Put_L1] at H
 simp only [M.chain_Put_L1] at H
 refine qr fun _ h62=>(wp 1 [0,3,6,11,12,13,14] hF fun a hF=>(h62 _ _ (qs fun _ h63=>bc hF H (fun hb H=>?_) fun hb H=>?_)))
 refine sk (h63 _ _ (seq_join (fun a w => ∃(κ:Gh) (y64:Int),Fr (61) [] [(0,.slice p2 a1.length c3),(3,pt b6 0),(6,vi y64),(11,.slice p2 a1.length c3),(12,vi (a1.length:Int)),(13,vi y61)] a∧SS [] κ0 w0 κ w [.box b6 37 [sg a4.Key,sg a4.Val,sb a4.Gone,su a4.TS,si a4.DC,si a4.Tx]] [Ro.mp f_api_Ver.ty p2 c3 a1]∧M.chain_Put_k2 N (M.chain_Put_L1 N fuel1) a1 a4 y61 y64=some r) ?_ ?_))
 refine bk (qr fun _ h65=>(wl_pure (L':=[(0,.slice p2 a1.length c3),(3,pt b6 0),(6,vi y60),(11,.slice p2 a1.length c3),(12,vi (a1.length:Int)),(13,vi y61),(15,vi y61)]) 1 [0,3,6,11,12,13,15] hF kr fun a hF=>bd H fun x66 hx66 H=>wc (wo_index hF hS kr 0 (E:=37) (sz:=6) rfl rfl rfl kr rfl hx66 kr kr fun b67 f68 a hpx66 hF=>wc (wo_loadRoAgg (t:=f_api_Ver) hF hS kr 0 rfl rfl hpx66 rfl hx66 kr kr kr fun a hF=>wc (wal hF hS [sg ByteArray.empty,sg ByteArray.empty,sb false,su 0,si 0,si 0] (sgN 6 sgNil) fun b69 a w hF hS=>?_)))))
 refine wp 1 [0,3,6,7,8,11,12,13,17] hF fun a hF=>wc (wst hF hS 0 0 6 [sg x66.Key,sg x66.Val,sb x66.Gone,su x66.TS,si x66.DC,si x66.Tx] (sgN 6 sgNil) fun a w hF hS=>(h65 _ _ (qs fun _ h70=>rgS hS [] ?_)))
 have hS:=hS.drew
 have hX:=hS.fx
 refine bd H fun x71 hx71 H=>bd H fun x72 hx72 H=>bd H fun x73 hx73 H=>atk 0 (some 18) hF hX rfl (vls 0 0 6) fun a hF=>atk 2 (some 20) hF hX rfl (vls 1 0 6) fun a hF=>ago 1 hF rfl (wo_callP hF hS kr kr (C_hlc_Of N hS.fresh (T_api_Ver.mk x66.Key x66.Val x66.Gone x66.TS x66.DC x66.Tx) ((hS.pick [] kr).ro) hx71) ?_)
 rintro _ κ w a ⟨rfl,hR,hN⟩ hF hS hO
 refine ⟨fun _=>(hS.sx [0,1] [0]),?_⟩
 refine ago 3 hF rfl (wo_callP hF hS kr kr (C_hlc_Of N hS.fresh (T_api_Ver.mk a4.Key a4.Val a4.Gone a4.TS a4.DC a4.Tx) ((hS.pick [] kr).ro) hx72) ?_)
 rintro _ κ w a ⟨rfl,hR,hN⟩ hF hS hO
 refine ⟨fun _=>(hS.sx [0,1] [0]),?_⟩
 refine ago 4 hF rfl (wo_callP hF hS kr kr (C_hlc_Cmp N hS.fresh (T_api_Mark.mk x71.TS x71.DC x71.Tx) (T_api_Mark.mk x72.TS x72.DC x72.Tx) ((hS.pick [] kr).ro) hx73) ?_)
 rintro _ κ w a ⟨rfl,hR,hN⟩ hF hS hO
 refine ⟨fun _=>(hS.sx [0,1] [0]),?_⟩
 refine anp [5] [0,3,6,7,8,9,11,12,13] hF (hS.sx [0,1] [0]) fun a hF=>and_ (h70 _ _ (qs fun _ h74=>qr fun _ h75=>(bd H fun v77 hv77 H=>wl_join (fun a w => ∃κ:Gh,Fr (61) [] [(0,.slice p2 a1.length c3),(3,pt b6 0),(6,vi y60),(7,vi y61),(9,vi x73),(11,.slice p2 a1.length c3),(12,vi (a1.length:Int)),(13,vi y61),(29,vb v77)] a∧SS [] κ0 w0 κ w [.box b6 37 [sg a4.Key,sg a4.Val,sb a4.Gone,su a4.TS,si a4.DC,si a4.Tx]] [Ro.mp f_api_Ver.ty p2 c3 a1]∧True) ?_ ?_)))
 refine wl_pure (L':=[(0,.slice p2 a1.length c3),(3,pt b6 0),(6,vi y60),(7,vi y61),(8,pt b69 0),(9,vi x73),(11,.slice p2 a1.length c3),(12,vi (a1.length:Int)),(13,vi y61),(25,vb (x73==0))]) 3 [0,3,6,7,8,9,11,12,13,25] hF kr fun a hF=>bs hv77 (fun hb hv77=>?_) fun hb hv77=>?_
 have hF:=hF.bv 25 hb
 refine wcg hF (wls hF hS 0 0 6 fun a hF=>wcg hF (wls hF hS 1 0 6 fun a hF=>wcg hF (wo_val hF kr (v:=vb (cEq (flat [sg x66.Key,sg x66.Val,sb x66.Gone,su x66.TS,si x66.DC,si x66.Tx]) (flat [sg a4.Key,sg a4.Val,sb a4.Gone,su a4.TS,si a4.DC,si a4.Tx]))) ((val_eq (neg:=false) (xs:=(flat [sg x66.Key,sg x66.Val,sb x66.Gone,su x66.TS,si x66.DC,si x66.Tx])) (ys:=(flat [sg a4.Key,sg a4.Val,sb a4.Gone,su a4.TS,si a4.DC,si a4.Tx])) (ks:=[.str,.str,.bool,.int .u64,.int .i64,.int .i64]) 20 dc rfl kr kr kr kr kr kr kr) _) fun a hF=>?_)))
 refine wp 1 [0,3,6,7,9,11,12,13,29] hF fun a hF=>nl ?_
 cases hv77
 exact ⟨_,hF.kp [0,3,6,7,9,11,12,13,29],hS.sp [1] [0],trivial⟩
 have hF:=hF.bv 25 hb
 refine wp 4 [0,3,6,7,9,11,12,13,29] hF fun a hF=>nl ?_
 cases hv77
 exact ⟨_,hF.kp [0,3,6,7,9,11,12,13,29],hS.sp [1] [0],trivial⟩
 rintro a w ⟨κ,hF,hS,-⟩
 refine h75 _ _ (bc hF H (fun hb H=>?_) fun hb H=>?_)
 refine qr fun _ h78=>(wp 2 [4,5] hF fun a hF=>(h78 _ _ (rt ?_)))
 have hS:=hS.add (m:=Ro.mp f_api_Ver.ty none 0 ([]:List T_api_Ver)) (Ro.nil f_api_Ver.ty _ _)
 have hS:=hS.addNil 37 6
 cases H
 exact (ret_done hF hS (res2 Try.results83 (rvt hF) (rvt hF)) ⟨none,0,rfl,(hS.pick [0] kr).ro,hS.newC [0] dc kr⟩)
 refine sk (h74 _ _ (qs fun _ h79=>qr fun _ h80=>(wp 2 [0,3,6,7,9,11,12,13,31] hF fun a hF=>(h80 _ _ (bc hF H (fun hb H=>?_) fun hb H=>?_)))))
 refine qr fun _ h81=>(wp 2 [4,5] hF fun a hF=>(h81 _ _ (rt ?_)))
 have hS:=hS.add (m:=Ro.mp f_api_Ver.ty none 0 ([]:List T_api_Ver)) (Ro.nil f_api_Ver.ty _ _)
 have hS:=hS.addNil 37 6
 cases H
 exact (ret_done hF hS (res2 Try.results83 (rvt hF) (rvt hF)) ⟨none,0,rfl,(hS.pick [0] kr).ro,hS.newC [0] dc kr⟩)
 refine sk (h79 _ _ (qr fun _ h82=>(bd H fun v84 hv84 H=>wl_join (fun a w => ∃κ:Gh,Fr (61) [] [(0,.slice p2 a1.length c3),(3,pt b6 0),(6,vi y60),(7,vi y61),(11,.slice p2 a1.length c3),(12,vi (a1.length:Int)),(13,vi y61),(37,vb v84)] a∧SS [] κ0 w0 κ w [.box b6 37 [sg a4.Key,sg a4.Val,sb a4.Gone,su a4.TS,si a4.DC,si a4.Tx]] [Ro.mp f_api_Ver.ty p2 c3 a1]∧True) ?_ ?_)))
 refine wp 3 [0,3,6,7,11,12,13,34] hF fun a hF=>bs hv84 (fun hb hv84=>?_) fun hb hv84=>?_
 have hF:=hF.bv 34 hb
 refine wp 3 [0,3,6,7,11,12,13,37] hF fun a hF=>nl ?_
 cases hv84
 exact ⟨_,hF.kp [0,3,6,7,11,12,13,37],hS.sp [0] [0],trivial⟩
 have hF:=hF.bv 34 hb
 refine wp 3 [0,3,6,7,11,12,13,37] hF fun a hF=>nl ?_
 cases hv84
 exact ⟨_,hF.kp [0,3,6,7,11,12,13,37],hS.sp [0] [0],trivial⟩
 rintro a w ⟨κ,hF,hS,-⟩
 refine h82 _ _ (bc hF H (fun hb H=>?_) fun hb H=>?_)
 refine rl (wp 2 [0,3,6,11,12,13] hF fun a hF=>nl ?_)
 exact ⟨_,y61,hF.kp [0,3,6,11,12,13],hS.sp [0] [0],H⟩
 refine sk ?_
 exact ⟨_,y60,hF.kp [0,3,6,11,12,13],hS.sp [0] [0],H⟩
 rintro a w ⟨κ,y64,hF,hS,H⟩
 unfold M.chain_Put_k2 at H
 refine rl (wp 2 [0,3,6,11,12,13] hF fun a hF=>nl ?_)
 exact ⟨fuel1,Nat.lt_succ_self _,_,y64,IntKind.i64.wrap (y61+1),hF.kp [0,3,6,11,12,13],hS.sp [0] [0],H⟩
 refine xt (h8 _ _ (seq_join (fun a w => ∃(κ:Gh) (y85:Int),Fr (61) [] [(0,.slice p2 a1.length c3),(3,pt b6 0),(6,vi y85)] a∧SS [] κ0 w0 κ w [.box b6 37 [sg a4.Key,sg a4.Val,sb a4.Gone,su a4.TS,si a4.DC,si a4.Tx]] [Ro.mp f_api_Ver.ty p2 c3 a1]∧M.chain_Put_k3 N a1 a4 y85=some r) ?_ ?_))
 refine qr fun _ h111=>(wp 2 [0,3,6,41] hF fun a hF=>(h111 _ _ (bc hF H (fun hb H=>?_) fun hb H=>?_)))
 refine rl (wp 3 [0,3,6] hF fun a hF=>nl ?_)
 exact ⟨_,(a1.length:Int),hF.kp [0,3,6],hS.sp [0] [0],H⟩
 refine sk ?_
 exact ⟨_,y60,hF.kp [0,3,6],hS.sp [0] [0],H⟩
 rintro a w ⟨κ,y85,hF,hS,H⟩
 unfold M.chain_Put_k3 at H
 refine qr fun _ h86=>(wl_pure (L':=[(0,.slice p2 a1.length c3),(3,pt b6 0),(6,vi y85),(46,vi (IntKind.i64.wrap ((a1.length:Int)+1)))]) 3 [0,3,6,46] hF kr fun a hF=>bd H fun x87 hx87 H=>wc (wo_make0 (t:=f_api_Ver.ty) (E:=37) (i:=Try.t37) (z := .agg (flat [sg ByteArray.empty,sg ByteArray.empty,sb false,su 0,si 0,si 0]).toArray) (kl := .i64) (kc := .i64) hF hS kr rfl kr kr hx87 kr kr kr kr (Nat.le_of_ble_eq_true kr) fun p88 κ a w hF hS=>wp 1 [0,3,6,10] hF fun a hF=>(h86 _ _ (qs fun _ h89=>bd H fun v93 hv93 H=>code_join (fun a w => ∃(κ:Gh) (p91:Option Addr) (c92:Nat),Fr (61) [] [(0,.slice p2 a1.length c3),(6,vi y85),(10,.slice p91 v93.length c92)] a∧SS [] κ0 w0 κ w [.tok p91 37 6 v93.length c92] [Ro.mp f_api_Ver.ty p2 c3 a1,Ro.mp f_api_Ver.ty p91 c92 v93]∧True) ?_ ?_))))
 refine rgS hS [] ?_
 have hS:=hS.drew
 refine bd hv93 fun x94 hx94 hv93=>bd hv93 fun x97 hx97 hv93=>bd hv93 fun x101 hx101 hv93=>any_pure [0,1,2] [0,3,6,10,48,49,50] (L':=[(0,.slice p2 a1.length c3),(3,pt b6 0),(6,vi y85),(10,.slice p88 (([]:List T_api_Ver)).length x87),(48,.slice p88 (([]:List T_api_Ver)).length x87),(49,.slice p2 a1.length c3),(50,vi y85)]) (listed':=(bitA 9 7)) (fuel:=6) hF (hS.sx [1] [0,1]) kr (by intro c a w t v h; cases t<;>exact h) kr rfl fun a hF=>?_
 obtain ⟨p95,c96,hvx94,hrx94⟩:=slice_val Try.prog f_api_Ver.ty (L:=[(0,.slice p2 a1.length c3),(3,pt b6 0),(6,vi y85),(10,.slice p88 (([]:List T_api_Ver)).length x87),(48,.slice p88 (([]:List T_api_Ver)).length x87),(49,.slice p2 a1.length c3),(50,vi y85)]) (o:=⟨(some 51),(Go.Op.slice 39 (Go.Operand.tmp 49) none (some (Go.Operand.tmp 50)) none),39,"chain.go:28",#[(Go.Edge.mk 1 Go.Ground.data),(Go.Edge.mk 2 Go.Ground.data)],none⟩) (E:=37) (lo:=0) (hi:=y85) rfl (hS.get 1 rfl:Ro f_api_Ver.ty _ _ p2 c3 a1).1 rfl rfl rfl ⟨_,rfl⟩ hx94 kr kr
 have hS:=hS.add (m:=Ro.mp f_api_Ver.ty p95 c96 x94) (hrx94 _ _ (hS.get 1 rfl))
 refine atk 3 (some 51) hF (hS.sx [1] [1,2]) rfl (fun w _=>hvx94 w) fun a hF=>atk 5 (some 53) hF (hS.sx [1] [1,2]) rfl (vls 0 0 6) fun a hF=>ago2 4 6 hF rfl rfl ?_ ?_
 refine wo_append (ty:=f_api_Ver.ty) hF hS kr 0 1 0 rfl rfl rfl kr kr rfl rfl rfl hx97 kr (i:=Try.t37) (z := .agg (flat [sg ByteArray.empty,sg ByteArray.empty,sb false,su 0,si 0,si 0]).toArray) kr kr kr fun p98 c99 κ a w hF hS=>⟨fun _=>(hS.sx [1] [2,3]),?_⟩
 refine ago 6 hF rfl (wo_buildN (t:=f_api_Ver) (z := .agg (flat [sg ByteArray.empty,sg ByteArray.empty,sb false,su 0,si 0,si 0]).toArray) (l:=[(T_api_Ver.mk a4.Key a4.Val a4.Gone a4.TS a4.DC a4.Tx)]) (vs:=[(0,.agg (flat [sg a4.Key,sg a4.Val,sb a4.Gone,su a4.TS,si a4.DC,si a4.Tx]).toArray)]) (cells := #[.string (a4.Key),.string (a4.Val),vb a4.Gone,vu a4.TS,vi a4.DC,vi a4.Tx]) (E:=37) hF hS kr rfl kr kr rfl kr kr kr kr kr fun p100 κ a w hF hS=>⟨fun _=>(hS.sx [2] [3,4]),?_⟩)
 refine ago 7 hF rfl (wo_append (ty:=f_api_Ver.ty) hF hS kr 1 1 0 rfl rfl rfl kr kr rfl rfl rfl hx101 kr (i:=Try.t37) (z := .agg (flat [sg ByteArray.empty,sg ByteArray.empty,sb false,su 0,si 0,si 0]).toArray) kr kr kr fun p102 c103 κ a w hF hS=>⟨fun _=>(hS.sx [2] [4,5]),?_⟩)
 refine anp [8] [0,6,10] hF (hS.sx [2] [4,5]) fun a hF=>and_ ?_
 cases hv93
 exact ⟨_,p102,c103,hF.kp [0,6,10],hS.sp [1] [5,0],trivial⟩
 refine wo_buildN (t:=f_api_Ver) (z := .agg (flat [sg ByteArray.empty,sg ByteArray.empty,sb false,su 0,si 0,si 0]).toArray) (l:=[(T_api_Ver.mk a4.Key a4.Val a4.Gone a4.TS a4.DC a4.Tx)]) (vs:=[(0,.agg (flat [sg a4.Key,sg a4.Val,sb a4.Gone,su a4.TS,si a4.DC,si a4.Tx]).toArray)]) (cells := #[.string (a4.Key),.string (a4.Val),vb a4.Gone,vu a4.TS,vi a4.DC,vi a4.Tx]) (E:=37) hF hS kr rfl kr kr rfl kr kr kr kr kr fun p100 κ a w hF hS=>⟨fun _=>(hS.sx [2] [2,3]),?_⟩
 refine ago 4 hF rfl (wo_append (ty:=f_api_Ver.ty) hF hS kr 1 2 1 rfl rfl rfl kr kr rfl rfl rfl hx97 kr (i:=Try.t37) (z := .agg (flat [sg ByteArray.empty,sg ByteArray.empty,sb false,su 0,si 0,si 0]).toArray) kr kr kr fun p98 c99 κ a w hF hS=>⟨fun _=>(hS.sx [2] [3,4]),?_⟩)
 refine ago 7 hF rfl (wo_append (ty:=f_api_Ver.ty) hF hS kr 1 0 1 rfl rfl rfl kr kr rfl rfl rfl hx101 kr (i:=Try.t37) (z := .agg (flat [sg ByteArray.empty,sg ByteArray.empty,sb false,su 0,si 0,si 0]).toArray) kr kr kr fun p102 c103 κ a w hF hS=>⟨fun _=>(hS.sx [2] [4,5]),?_⟩)
 refine anp [8] [0,6,10] hF (hS.sx [2] [4,5]) fun a hF=>and_ ?_
 cases hv93
 exact ⟨_,p102,c103,hF.kp [0,6,10],hS.sp [1] [5,0],trivial⟩
 rintro a w ⟨κ,p91,c92,hF,hS,-⟩
 refine h89 _ _ (qr fun _ h104=>(wl_pure (L':=[(56,.slice p91 v93.length c92),(57,.slice p2 a1.length c3),(58,vi y85)]) 3 [56,57,58] hF kr fun a hF=>bd H fun x105 hx105 H=>wc (wo_slice hF hS kr 0 (E:=37) (lo:=y85) (hi:=(a1.length:Int)) rfl rfl rfl kr ⟨_,rfl⟩ rfl hx105 kr kr fun p106 c107 a hF hS=>bd H fun x108 hx108 H=>wc (wo_append (ty:=f_api_Ver.ty) hF hS kr 0 2 0 rfl rfl rfl kr kr rfl rfl rfl hx108 kr (i:=Try.t37) (z := .agg (flat [sg ByteArray.empty,sg ByteArray.empty,sb false,su 0,si 0,si 0]).toArray) kr kr kr fun p109 c110 κ a w hF hS=>wp 2 [4,5] hF fun a hF=>?_))))
 refine h104 _ _ (rt ?_)
 cases H
 exact (ret_done hF hS (res2 Try.results83 (rvt hF) (rvt hF)) ⟨p109,c110,rfl,(hS.pick [0] kr).ro,hS.newC [0] dc kr⟩)
theorem C_chain_Trim (N:Nat){κ0:Gh}{w0:World}(hfr:Fresh κ0 w0)(a1:(List T_api_Ver))(a4:Int)(p2:Option Addr)(c3:Nat)(hR : ∀m∈([Ro.mp f_api_Ver.ty p2 c3 a1]:List MP),m.p κ0 w0){r:((List T_api_Ver)×Int)}(H:M.chain_Trim N a1 a4=some r) :
    Calls Try.prog 82 #[.slice p2 a1.length c3,vu a4] w0 (Post [] κ0 w0 fun v κ w => ∃(p90:Option Addr) (c91:Nat),v = .tuple #[.slice p90 (r.1).length c91,vi r.2]∧(∀m∈([Ro.mp f_api_Ver.ty p90 c91 r.1]:List MP),m.p κ w)∧NewC w0 κ w [.tok p90 37 6 (r.1).length c91]):=by
 have hS:=SS.start hfr hR
 refine en Try.func82 rfl Try.ntmps82 fun a hF=>?_
 unfold M.chain_Trim at H
 refine qr fun _ h5=>(wp 2 [0,1] hF fun a hF=>(h5 _ _ (qr fun _ h6=>(wp 2 [0,10,11] hF fun a hF=>bd H fun x7 hx7 H=>wc (wo_callP hF hS kr kr (C_chain_at N hS.fresh a1 a4 p2 c3 ((hS.pick [0] kr).ro) hx7) ?_)))))
 rintro _ κ w a ⟨rfl,hR,hN⟩ hF hS hO
 refine wp 1 [0,6] hF fun a hF=>(h6 _ _ (qr fun _ h8=>(wp 1 [0,6,7] hF fun a hF=>(h8 _ _ (qs fun _ h9=>qr fun _ h10=>(wp 3 [0,6,7,13,14,15] hF fun a hF=>(h10 _ _ (bk (loop_fuel (n:=N) (fun n a w => ∃(κ:Gh) (y61:List T_api_Ver) (p62:Option Addr) (c63:Nat) (y64:Int),Fr (43) [] [(0,.slice p2 a1.length c3),(6,vi x7),(7,.slice p62 y61.length c63),(13,.slice p2 a1.length c3),(14,vi (a1.length:Int)),(15,vi y64)] a∧SS [] κ0 w0 κ w [.tok p62 37 6 y61.length c63] [Ro.mp f_api_Ver.ty p2 c3 a1,Ro.mp f_api_Ver.ty p62 c63 y61]∧M.chain_Trim_L1 N n a1 x7 y61 y64=some r) ?_ ?_)))))))))
 have hS:=hS.add (m:=Ro.mp f_api_Ver.ty none 0 ([]:List T_api_Ver)) (Ro.nil f_api_Ver.ty _ _)
 have hS:=hS.addNil 37 6
 exact ⟨_,([]:List T_api_Ver),none,0,0,hF.kp [0,6,7,13,14,15],hS.sp [0] [1,0],H⟩
 rintro n a w ⟨κ,y61,p62,c63,y64,hF,hS,H⟩
 rcases n with _|fuel1
 simp [M.chain_Trim_L1] at H
 simp only [M.chain_Trim_L1] at H
 refine qr fun _ h65=>(wl_pure (L':=[(0,.slice p2 a1.length c3),(6,vi x7),(7,.slice p62 y61.length c63),(13,.slice p2 a1.length c3),(14,vi (a1.length:Int)),(15,vi y64),(16,vb (decide (y64<(a1.length:Int))))]) 1 [0,6,7,13,14,15,16] hF kr fun a hF=>(h65 _ _ (qs fun _ h66=>bc hF H (fun hb H=>?_) fun hb H=>?_)))
 refine sk (h66 _ _ (seq_join (fun a w => ∃(κ:Gh) (y67:List T_api_Ver) (p68:Option Addr) (c69:Nat),Fr (43) [] [(0,.slice p2 a1.length c3),(6,vi x7),(7,.slice p68 y67.length c69),(13,.slice p2 a1.length c3),(14,vi (a1.length:Int)),(15,vi y64)] a∧SS [] κ0 w0 κ w [.tok p68 37 6 y67.length c69] [Ro.mp f_api_Ver.ty p2 c3 a1,Ro.mp f_api_Ver.ty p68 c69 y67]∧M.chain_Trim_k2 N (M.chain_Trim_L1 N fuel1) a1 x7 y64 y67=some r) ?_ ?_))
 refine bk (qr fun _ h70=>(bd H fun x71 hx71 H=>wc (wo_index hF hS kr 0 (E:=37) (sz:=6) rfl rfl rfl kr rfl hx71 kr kr fun b72 f73 a hpx71 hF=>wc (wo_loadRoAgg (t:=f_api_Ver) hF hS kr 0 rfl rfl hpx71 rfl hx71 kr kr kr fun a hF=>wc (wal hF hS [sg ByteArray.empty,sg ByteArray.empty,sb false,su 0,si 0,si 0] (sgN 6 sgNil) fun b74 a w hF hS=>wc (wst hF hS 0 0 6 [sg x71.Key,sg x71.Val,sb x71.Gone,su x71.TS,si x71.DC,si x71.Tx] (sgN 6 sgNil) fun a w hF hS=>(h70 _ _ (qs fun _ h75=>bd H fun v77 hv77 H=>?_))))))))
 refine code_join (fun a w => ∃κ:Gh,Fr (43) [] [(0,.slice p2 a1.length c3),(6,vi x7),(7,.slice p62 y61.length c63),(9,pt b74 0),(13,.slice p2 a1.length c3),(14,vi (a1.length:Int)),(15,vi y64),(31,vb v77)] a∧SS [] κ0 w0 κ w [.box b74 37 [sg x71.Key,sg x71.Val,sb x71.Gone,su x71.TS,si x71.DC,si x71.Tx],.tok p62 37 6 y61.length c63] [Ro.mp f_api_Ver.ty p2 c3 a1,Ro.mp f_api_Ver.ty p62 c63 y61]∧True) ?_ ?_
 refine rgS hS [] ?_
 have hS:=hS.drew
 have hX:=hS.fx
 refine bif_split hv77 (fun hb78 hv77=>?_) (fun hb78 hv77=>?_)
 refine anp [0,1,2] [0,6,7,9,13,14,15,21] hF hX fun a hF=>?_
 have hF:=hF.boolv 21 kr hb78
 refine anp (ra 3 10) [0,6,7,9,13,14,15,31] hF hX fun a hF=>and_ ?_
 cases hv77
 exact ⟨_,hF.kp [0,6,7,9,13,14,15,31],hS.sp [0,1] [0,1],trivial⟩
 refine bd hv77 fun x79 hx79 hv77=>bd hv77 fun x80 hx80 hv77=>bd hv77 fun x83 hx83 hv77=>bd hv77 fun x84 hx84 hv77=>anp [0,1,2] [0,6,7,9,13,14,15,21] hF hX fun a hF=>?_
 have hF:=hF.boolv 21 kr hb78
 refine any_pure [5,6] [0,6,7,9,13,14,15,21,24,25] (L':=[(0,.slice p2 a1.length c3),(6,vi x7),(7,.slice p62 y61.length c63),(9,pt b74 0),(13,.slice p2 a1.length c3),(14,vi (a1.length:Int)),(15,vi y64),(21,vb false),(24,.slice p2 a1.length c3),(25,vi x7)]) (listed':=(bitA 13 103)) (fuel:=8) hF hX kr (by intro c a w t v h; cases t<;>exact h) kr rfl fun a hF=>atk 3 (some 22) hF hX rfl (vls 0 0 6) fun a hF=>?_
 obtain ⟨b81,f82,hpx80⟩:=hS.ptr 0 rfl hx80
 refine atk 7 (some 26) hF (hS.sx [0] [0,1]) rfl (fun w _=>val_index (E:=37) (sz:=6) rfl hpx80 rfl kr rfl hx80 kr kr w) fun a hF=>atk 8 (some 27) hF (hS.sx [0] [0,1]) rfl (val_loadRoAgg (t:=f_api_Ver) 0 rfl rfl hpx80 rfl hx80 kr kr kr) fun a hF=>ago 4 hF rfl (wo_callP hF hS kr kr (C_hlc_Of N hS.fresh (T_api_Ver.mk x71.Key x71.Val x71.Gone x71.TS x71.DC x71.Tx) ((hS.pick [] kr).ro) hx79) ?_)
 rintro _ κ w a ⟨rfl,hR,hN⟩ hF hS hO
 refine ⟨fun _=>(hS.sx [0] [0,1]),?_⟩
 refine ago 9 hF rfl (wo_callP hF hS kr kr (C_hlc_Of N hS.fresh (T_api_Ver.mk x80.Key x80.Val x80.Gone x80.TS x80.DC x80.Tx) ((hS.pick [] kr).ro) hx83) ?_)
 rintro _ κ w a ⟨rfl,hR,hN⟩ hF hS hO
 refine ⟨fun _=>(hS.sx [0] [0,1]),?_⟩
 refine ago 10 hF rfl (wo_callP hF hS kr kr (C_hlc_Cmp N hS.fresh (T_api_Mark.mk x79.TS x79.DC x79.Tx) (T_api_Mark.mk x83.TS x83.DC x83.Tx) ((hS.pick [] kr).ro) hx84) ?_)
 rintro _ κ w a ⟨rfl,hR,hN⟩ hF hS hO
 refine ⟨fun _=>(hS.sx [0] [0,1]),?_⟩
 refine anp [11,12] [0,6,7,9,13,14,15,31] hF (hS.sx [0] [0,1]) fun a hF=>and_ ?_
 cases hv77
 exact ⟨_,hF.kp [0,6,7,9,13,14,15,31],hS.sp [0,1] [0,1],trivial⟩
 rintro a w ⟨κ,hF,hS,-⟩
 refine h75 _ _ (bc hF H (fun hb H=>?_) fun hb H=>?_)
 refine rl (wl_pure (L':=[(0,.slice p2 a1.length c3),(6,vi x7),(9,pt b74 0),(13,.slice p2 a1.length c3),(14,vi (a1.length:Int)),(15,vi y64),(32,.slice p62 y61.length c63)]) 1 [0,6,9,13,14,15,32] hF kr fun a hF=>wc (wls hF hS 0 0 6 fun a hF=>wc (wo_buildN (t:=f_api_Ver) (z := .agg (flat [sg ByteArray.empty,sg ByteArray.empty,sb false,su 0,si 0,si 0]).toArray) (l:=[(T_api_Ver.mk x71.Key x71.Val x71.Gone x71.TS x71.DC x71.Tx)]) (vs:=[(0,.agg (flat [sg x71.Key,sg x71.Val,sb x71.Gone,su x71.TS,si x71.DC,si x71.Tx]).toArray)]) (cells := #[.string (x71.Key),.string (x71.Val),vb x71.Gone,vu x71.TS,vi x71.DC,vi x71.Tx]) (E:=37) hF hS kr rfl kr kr rfl kr kr kr kr kr fun p85 κ a w hF hS=>?_)))
 refine bd H fun x86 hx86 H=>wc (wo_append (ty:=f_api_Ver.ty) hF hS kr 2 2 0 rfl rfl rfl kr kr rfl rfl rfl hx86 kr (i:=Try.t37) (z := .agg (flat [sg ByteArray.empty,sg ByteArray.empty,sb false,su 0,si 0,si 0]).toArray) kr kr kr fun p87 c88 κ a w hF hS=>wp 1 [0,6,7,13,14,15] hF fun a hF=>nl ?_)
 exact ⟨_,x86,p87,c88,hF.kp [0,6,7,13,14,15],hS.sp [2] [2,0],H⟩
 refine sk ?_
 exact ⟨_,y61,p62,c63,hF.kp [0,6,7,13,14,15],hS.sp [1] [0,1],H⟩
 rintro a w ⟨κ,y67,p68,c69,hF,hS,H⟩
 unfold M.chain_Trim_k2 at H
 refine rl (wp 2 [0,6,7,13,14,15] hF fun a hF=>nl ?_)
 exact ⟨fuel1,Nat.lt_succ_self _,_,y67,p68,c69,IntKind.i64.wrap (y64+1),hF.kp [0,6,7,13,14,15],hS.sp [0] [0,1],H⟩
 refine xt (h9 _ _ (qr fun _ h89=>(wp 8 [4,5] hF fun a hF=>(h89 _ _ (rt ?_)))))
 cases H
 exact (ret_done hF hS (res2 Try.results82 (rvt hF) (rvt hF)) ⟨p62,c63,rfl,(hS.pick [1] kr).ro,hS.newC [0] dc kr⟩)
end Go.Cf
