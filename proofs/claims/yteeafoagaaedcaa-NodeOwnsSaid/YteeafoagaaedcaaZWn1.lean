/- The walks: each function returns what its model says. Printed by a program of ours. -/
import Derived.Test.YteeafoagaaedcaaZM1
import Derived.Test.YteeafoagaaedcaaZWt1
namespace Go.Cf
open Go Go.Proofs
set_option linter.unusedVariables false
set_option maxRecDepth 20000
set_option maxHeartbeats 8000000
theorem C_hlc_Recv (N:Nat){κ0:Gh}{w0:World}(hfr:Fresh κ0 w0)(a1:Int)(a2:Int)(a3:Int)(hR : ∀m∈([]:List MP),m.p κ0 w0){r:(Int×Int)}(H:M.hlc_Recv N a1 a2 a3=some r) :
    Calls Try.prog 128 #[vu a1,vu a2,vi a3] w0 (Post [] κ0 w0 fun v κ w=>v = .tuple #[vu r.1,vi r.2]∧(∀m∈([]:List MP),m.p κ w)∧NewC w0 κ w []):=by
 have hS:=SS.start hfr hR
 refine en Try.func128 rfl Try.ntmps128 fun a hF=>?_
 unfold M.hlc_Recv at H
 refine qr fun _ h4=>(wp 2 [0,1,2] hF fun a hF=>(h4 _ _ (qr fun _ h5=>(wp 4 [10,11] hF fun a hF=>bd H fun x6 hx6 H=>wc (wo_callP hF hS kr kr (C_hlc_after N hS.fresh (if a2 > a1 then a2 else a1) a3 ((hS.pick [] kr).ro) hx6) ?_)))))
 rintro _ κ w a ⟨rfl,hR,hN⟩ hF hS hO
 refine wp 4 [6,7] hF fun a hF=>(h5 _ _ (rt ?_))
 cases H
 exact (ret_done hF hS (res2 Try.results128 (rvt hF) (rvt hF)) ⟨rfl,(hS.pick [] kr).ro,hS.newC [] dc kr⟩)
theorem C_hlc_Raise (N:Nat){κ0:Gh}{w0:World}(hfr:Fresh κ0 w0)(a1:Int)(a2:Int)(hR : ∀m∈([]:List MP),m.p κ0 w0){r:(Int×Int)}(H:M.hlc_Raise N a1 a2=some r) :
    Calls Try.prog 120 #[vu a1,vi a2] w0 (Post [] κ0 w0 fun v κ w=>v = .tuple #[vu r.1,vi r.2]∧(∀m∈([]:List MP),m.p κ w)∧NewC w0 κ w []):=by
 have hS:=SS.start hfr hR
 refine en Try.func120 rfl Try.ntmps120 fun a hF=>?_
 unfold M.hlc_Raise at H
 refine qr fun _ h3=>(wp 2 [0,1] hF fun a hF=>(h3 _ _ (qs fun _ h4=>qr fun _ h5=>(bd H fun v7 hv7 H=>wl_join (fun a w => ∃κ:Gh,Fr (17) [] [(0,vu a1),(1,vi a2),(11,vb v7)] a∧SS [] κ0 w0 κ w [] []∧True) ?_ ?_))))
 refine wp 3 [0,1,8] hF fun a hF=>bs hv7 (fun hb hv7=>?_) fun hb hv7=>?_
 have hF:=hF.bv 8 hb
 refine wp 3 [0,1,11] hF fun a hF=>nl ?_
 cases hv7
 exact ⟨_,hF.kp [0,1,11],hS.sp [] [],trivial⟩
 have hF:=hF.bv 8 hb
 refine wp 3 [0,1,11] hF fun a hF=>nl ?_
 cases hv7
 exact ⟨_,hF.kp [0,1,11],hS.sp [] [],trivial⟩
 rintro a w ⟨κ,hF,hS,-⟩
 refine h5 _ _ (bc hF H (fun hb H=>?_) fun hb H=>?_)
 refine qr fun _ h8=>(wp 2 [4,5] hF fun a hF=>(h8 _ _ (rt ?_)))
 cases H
 exact (ret_done hF hS (res2 Try.results120 (rvt hF) (rvt hF)) ⟨rfl,(hS.pick [] kr).ro,hS.newC [] dc kr⟩)
 refine sk (h4 _ _ (qr fun _ h9=>(wp 7 [4,5] hF fun a hF=>(h9 _ _ (rt ?_)))))
 cases H
 exact (ret_done hF hS (res2 Try.results120 (rvt hF) (rvt hF)) ⟨rfl,(hS.pick [] kr).ro,hS.newC [] dc kr⟩)
theorem C_part_New (N:Nat){Ms:List Nat}{κ0:Gh}{w0:World}(hB:SB Ms κ0 w0 [] []){r:(T_part_Part)}(H:M.part_New N=some r) :
    Calls Try.prog 95 #[] w0 (Post Ms κ0 w0 fun v κ w => ∃(b5:Nat) (p6:Option Nat) (m7:Array MapEntry) (c8:Nat),v=pt b5 0∧SS Ms κ0 w0 κ w [.box b5 174 [su r.clock,sm p6],mx p6 m7 c8] [Map.mp (kInt .u64) false (fInt .u64).ty p6 m7 c8 r.open_]):=by
 have hS:=hB.hS
 have hfr:=hS.fresh
 refine en Try.func95 rfl Try.ntmps95 fun a hF=>?_
 unfold M.part_New at H
 refine qr fun _ h1=>(wl_pure (L':=[]) 1 [] hF kr fun a hF=>(h1 _ _ (qs fun _ hz=>rl (wc (wo_makeMap hF hS kr (kInt .u64) false (fInt .u64).ty rfl fun b3 a w hF hS=>wp 1 [2] hF fun a hF=>wc (wbx hF hS [su 0,(1,[.map (some b3)])] (sgN 2 sgNil) fun b4 a w hF hS=>wp 1 [0] hF fun a hF=>nl (hz _ _ (rt ?_))))))))
 cases H
 exact ret_done hF hS (res1 Try.results95 (rvt hF)) ⟨b4,(some b3),#[],0,rfl,hS.sp [0,1] [0]⟩
theorem C_part_Part_Prepare (N:Nat){Ms:List Nat}{κ0:Gh}{w0:World}(a1:T_part_Part)(a6:Int)(a7:Int)(a8:Int)(p2:Option Nat)(m3:Array MapEntry)(c4:Nat)(b5:Nat)(hB:SB Ms κ0 w0 [.box b5 174 [su a1.clock,sm p2],mx p2 m3 c4] [Map.mp (kInt .u64) false (fInt .u64).ty p2 m3 c4 a1.open_]){r:(Int×Int×T_part_Part)}(H:M.part_Part_Prepare N a1 a6 a7 a8=some r) :
    Calls Try.prog 119 #[pt b5 0,vu a6,vu a7,vi a8] w0 (Post Ms κ0 w0 fun v κ w => ∃(p32:Option Nat) (m33:Array MapEntry) (c34:Nat),v = .tuple #[vu r.1,vi r.2.1]∧SS Ms κ0 w0 κ w [.box b5 174 [su r.2.2.clock,sm p32],mx p32 m33 c34] [Map.mp (kInt .u64) false (fInt .u64).ty p32 m33 c34 r.2.2.open_]):=by
 have hS:=hB.hS
 have hfr:=hS.fresh
 refine en Try.func119 rfl Try.ntmps119 fun a hF=>?_
 unfold M.part_Part_Prepare at H
 refine qr fun _ h9=>(wp 2 (rg 4) hF fun a hF=>(h9 _ _ (qs fun _ h10=>qr fun _ h11=>(wp 2 [0,1,2,3,15] hF fun a hF=>(h11 _ _ (cf hF rfl (sk (h10 _ _ (qs fun _ h12=>qr fun _ h13=>(wp 3 [0,1,2,3,19] hF fun a hF=>wc (wld hF hS 0 1 0 fun a hF=>wl_pure (L':=[(0,pt b5 0),(1,vu a6),(2,vu a7),(3,vi a8),(20,.map p2),(21,vu a6)]) 1 [0,1,2,3,20,21] hF kr fun a hF=>bd H fun x14 hx14 H=>wc (wo_lookup (KT:=25) (E:=25) (kt:=(kInt .u64)) (agg:=false) (t:=(fInt .u64).ty) hF hS kr 1 0 (k:=a6) (zc:=flat [su 0]) (zm:=0) rfl kr kr rfl rfl hx14 kr kr kr (fun _ _=>rfl) ?_))))))))))))
 rintro _ a rfl hF
 refine wp 5 [0,1,2,3,11] hF fun a hF=>(h13 _ _ (qr fun _ h15=>(wp 1 [0,1,2,3,25] hF fun a hF=>(h15 _ _ (bc hF H (fun hb H=>?_) fun hb H=>?_)))))
 refine qr fun _ h16=>(wp 2 [8,9] hF fun a hF=>(h16 _ _ (rt ?_)))
 cases H
 exact ret_done hF hS (res2 Try.results119 (rvt hF) (rvt hF)) ⟨p2,m3,c4,rfl,hS.sp [0,1] [0]⟩
 refine sk (h12 _ _ (qr fun _ h17=>(wp 3 [0,1,2,3,29] hF fun a hF=>wc (wld hF hS 0 0 0 fun a hF=>wp 2 [0,1,30,31,32] hF fun a hF=>bd H fun x18 hx18 H=>wc (wo_callP hF hS kr kr (C_hlc_Recv N hS.fresh a1.clock a7 a8 ((hS.pick [] kr).ro) hx18) ?_)))))
 rintro _ κ w a ⟨rfl,hR,hN⟩ hF hS hO
 refine wp 5 [0,1,12,13] hF fun a hF=>(h17 _ _ (qs fun _ h19=>qr fun _ h20=>(wp 2 [0,1,12,13,37] hF fun a hF=>(h20 _ _ (bc hF H (fun hb H=>?_) fun hb H=>?_)))))
 refine qr fun _ h21=>(wp 3 [8,9] hF fun a hF=>(h21 _ _ (rt ?_)))
 cases H
 exact ret_done hF hS (res2 Try.results119 (rvt hF) (rvt hF)) ⟨p2,m3,c4,rfl,hS.sp [0,1] [0]⟩
 refine sk (h19 _ _ (qr fun _ h22=>(wp 4 [1,12,39,42] hF fun a hF=>wc (wld hF hS 0 1 0 fun a hF=>wl_pure (L':=[(12,vu x18.1),(43,.map p2),(44,vu a6),(45,vu x18.1),(46,vu x18.1),(48,pt b5 0)]) 5 [12,43,44,45,46,48] hF kr fun a hF=>wc (wst hF hS 0 0 1 [su x18.1] (sgN 1 sgNil) fun a w hF hS=>bd H fun x23 hx23 H=>bd H fun x24 hx24 H=>wc (wo_mapEntry (KT:=25) (E:=25) (kt:=(kInt .u64)) (agg:=false) (t:=(fInt .u64).ty) hF hS kr 1 0 (k:=a6) (zc:=flat [su 0]) (zm:=0) rfl kr kr rfl rfl hx23 hx24 kr kr kr (fun _ _=>rfl) ?_))))))
 rintro m25 c26 _ c28 a w rfl hF hS
 refine wl_pure (L':=[(12,vu x18.1),(43,.map p2),(46,vu x18.1),(50,vi c28)]) 1 [12,43,46,50] hF kr fun a hF=>bd H fun x29 hx29 H=>wc (wo_entryStore (kt:=(kInt .u64)) (agg:=false) (t:=(fInt .u64).ty) hF hS kr 1 0 1 (k:=a6) (v:=x18.1) (cs:=flat [su x18.1]) rfl kr kr kr rfl rfl rfl rfl hx29 fun m30 a w hF hS=>(h22 _ _ (qr fun _ h31=>(wp 3 [8,9] hF fun a hF=>(h31 _ _ (rt ?_))))))
 cases H
 exact ret_done hF hS (res2 Try.results119 (rvt hF) (rvt hF)) ⟨p2,m30,c26,rfl,hS.sp [0,1] [0]⟩
theorem C_part_Part_Commit (N:Nat){Ms:List Nat}{κ0:Gh}{w0:World}(a1:T_part_Part)(a6:Int)(a7:Int)(a8:Int)(p2:Option Nat)(m3:Array MapEntry)(c4:Nat)(b5:Nat)(hB:SB Ms κ0 w0 [.box b5 174 [su a1.clock,sm p2],mx p2 m3 c4] [Map.mp (kInt .u64) false (fInt .u64).ty p2 m3 c4 a1.open_]){r:(Int×T_part_Part)}(H:M.part_Part_Commit N a1 a6 a7 a8=some r) :
    Calls Try.prog 97 #[pt b5 0,vu a6,vu a7,vi a8] w0 (Post Ms κ0 w0 fun v κ w => ∃(p28:Option Nat) (m29:Array MapEntry) (c30:Nat),v=vi r.1∧SS Ms κ0 w0 κ w [.box b5 174 [su r.2.clock,sm p28],mx p28 m29 c30] [Map.mp (kInt .u64) false (fInt .u64).ty p28 m29 c30 r.2.open_]):=by
 have hS:=hB.hS
 have hfr:=hS.fresh
 refine en Try.func97 rfl Try.ntmps97 fun a hF=>?_
 unfold M.part_Part_Commit at H
 refine qr fun _ h9=>(wp 1 (rg 4) hF fun a hF=>(h9 _ _ (qs fun _ h10=>qr fun _ h11=>(bd H fun v13 hv13 H=>wl_join (fun a w => ∃κ:Gh,Fr (54) [] [(0,pt b5 0),(1,vu a6),(2,vu a7),(3,vi a8),(20,vb v13)] a∧SS Ms κ0 w0 κ w [.box b5 174 [su a1.clock,sm p2],mx p2 m3 c4] [Map.mp (kInt .u64) false (fInt .u64).ty p2 m3 c4 a1.open_]∧True) ?_ ?_))))
 refine wp 7 [0,1,2,3,17] hF fun a hF=>bs hv13 (fun hb hv13=>?_) fun hb hv13=>?_
 have hF:=hF.bv 17 hb
 refine wp 3 [0,1,2,3,20] hF fun a hF=>nl ?_
 cases hv13
 exact ⟨_,hF.kp [0,1,2,3,20],hS.sp [0,1] [0],trivial⟩
 have hF:=hF.bv 17 hb
 refine wp 3 [0,1,2,3,20] hF fun a hF=>nl ?_
 cases hv13
 exact ⟨_,hF.kp [0,1,2,3,20],hS.sp [0,1] [0],trivial⟩
 rintro a w ⟨κ,hF,hS,-⟩
 refine h11 _ _ (bc hF H (fun hb H=>?_) fun hb H=>?_)
 refine qr fun _ h14=>(wp 1 [8] hF fun a hF=>(h14 _ _ (rt ?_)))
 cases H
 exact ret_done hF hS (res1 Try.results97 (rvt hF)) ⟨p2,m3,c4,rfl,hS.sp [0,1] [0]⟩
 refine sk (h10 _ _ (qr fun _ h15=>(wp 3 [0,1,2,3,24] hF fun a hF=>wc (wld hF hS 0 1 0 fun a hF=>wl_pure (L':=[(0,pt b5 0),(1,vu a6),(2,vu a7),(3,vi a8),(25,.map p2),(26,vu a6)]) 1 [0,1,2,3,25,26] hF kr fun a hF=>bd H fun x16 hx16 H=>wc (wo_lookup (KT:=25) (E:=25) (kt:=(kInt .u64)) (agg:=false) (t:=(fInt .u64).ty) hF hS kr 1 0 (k:=a6) (zc:=flat [su 0]) (zm:=0) rfl kr kr rfl rfl hx16 kr kr kr (fun _ _=>rfl) ?_)))))
 rintro _ a rfl hF
 refine wp 5 [0,1,2,3,9,10] hF fun a hF=>(h15 _ _ (qs fun _ h17=>qr fun _ h18=>(wp 2 [0,1,2,3,9,31] hF fun a hF=>(h18 _ _ (bc hF H (fun hb H=>?_) fun hb H=>?_)))))
 refine qr fun _ h19=>(wp 1 [8] hF fun a hF=>(h19 _ _ (rt ?_)))
 cases H
 exact ret_done hF hS (res1 Try.results97 (rvt hF)) ⟨p2,m3,c4,rfl,hS.sp [0,1] [0]⟩
 refine sk (h17 _ _ (qs fun _ h20=>qr fun _ h21=>(wp 3 [0,1,2,3,34] hF fun a hF=>(h21 _ _ (bc hF H (fun hb H=>?_) fun hb H=>?_)))))
 refine qr fun _ h22=>(wp 1 [8] hF fun a hF=>(h22 _ _ (rt ?_)))
 cases H
 exact ret_done hF hS (res1 Try.results97 (rvt hF)) ⟨p2,m3,c4,rfl,hS.sp [0,1] [0]⟩
 refine sk (h20 _ _ (qr fun _ h23=>(wp 3 [0,1,2,3,37] hF fun a hF=>wc (wld hF hS 0 1 0 fun a hF=>wl_pure (L':=[(0,pt b5 0),(2,vu a7),(3,vi a8),(38,.map p2),(39,vu a6)]) 1 [0,2,3,38,39] hF kr fun a hF=>wc (wo_delete (KT:=25) (E:=25) (kt:=(kInt .u64)) (agg:=false) (t:=(fInt .u64).ty) hF hS kr 1 0 (k:=a6) rfl kr kr rfl rfl kr kr fun m24 a w hsub hF hS=>(h23 _ _ (qr fun _ h25=>(wp 4 [2,3,41,44] hF fun a hF=>wc (wld hF hS 0 0 0 fun a hF=>wp 3 [41,47,48] hF fun a hF=>bd H fun x26 hx26 H=>wc (wo_callP hF hS kr kr (C_hlc_Raise N hS.fresh (if a7 > a1.clock then a7 else a1.clock) a8 ((hS.pick [] kr).ro) hx26) ?_))))))))))
 rintro _ κ w a ⟨rfl,hR,hN⟩ hF hS hO
 refine wp 5 [50,53] hF fun a hF=>wc (wst hF hS 0 0 1 [su x26.1] (sgN 1 sgNil) fun a w hF hS=>(h25 _ _ (qr fun _ h27=>(wp 1 [8] hF fun a hF=>(h27 _ _ (rt ?_))))))
 cases H
 exact ret_done hF hS (res1 Try.results97 (rvt hF)) ⟨p2,m24,c4,rfl,hS.sp [0,1] [0]⟩
theorem C_part_Part_See (N:Nat){Ms:List Nat}{κ0:Gh}{w0:World}(a1:T_part_Part)(a6:Int)(p2:Option Nat)(m3:Array MapEntry)(c4:Nat)(b5:Nat)(hB:SB Ms κ0 w0 [.box b5 174 [su a1.clock,sm p2],mx p2 m3 c4] [Map.mp (kInt .u64) false (fInt .u64).ty p2 m3 c4 a1.open_]){r:(T_part_Part)}(H:M.part_Part_See N a1 a6=some r) :
    Calls Try.prog 101 #[pt b5 0,vu a6] w0 (Post Ms κ0 w0 fun v κ w => ∃(p8:Option Nat) (m9:Array MapEntry) (c10:Nat),v = .tuple #[]∧SS Ms κ0 w0 κ w [.box b5 174 [su r.clock,sm p8],mx p8 m9 c10] [Map.mp (kInt .u64) false (fInt .u64).ty p8 m9 c10 r.open_]):=by
 have hS:=hB.hS
 have hfr:=hS.fresh
 refine en Try.func101 rfl Try.ntmps101 fun a hF=>?_
 unfold M.part_Part_See at H
 refine qr fun _ h7=>(wp 2 [0,1,5] hF fun a hF=>(h7 _ _ (ct hF rfl (rl (wp 4 [1,6,9] hF fun a hF=>wc (wld hF hS 0 0 0 fun a hF=>wp 4 [12,14] hF fun a hF=>wc (wst hF hS 0 0 1 [su (if a6 > a1.clock then a6 else a1.clock)] (sgN 1 sgNil) fun a w hF hS=>nl ?_)))))))
 cases H
 exact ret_done hF hS (res0 Try.results101) ⟨p2,m3,c4,rfl,hS.sp [0,1] [0]⟩
theorem C_part_Part_Clock (N:Nat){Ms:List Nat}{κ0:Gh}{w0:World}(a1:T_part_Part)(p2:Option Nat)(m3:Array MapEntry)(c4:Nat)(b5:Nat)(hB:SB Ms κ0 w0 [.box b5 174 [su a1.clock,sm p2],mx p2 m3 c4] [Map.mp (kInt .u64) false (fInt .u64).ty p2 m3 c4 a1.open_]){r:(Int)}(H:M.part_Part_Clock N a1=some r) :
    Calls Try.prog 100 #[pt b5 0] w0 (Post Ms κ0 w0 fun v κ w=>v=vu r∧SS Ms κ0 w0 κ w [.box b5 174 [su a1.clock,sm p2],mx p2 m3 c4] []):=by
 have hS:=hB.hS
 have hfr:=hS.fresh
 refine en Try.func100 rfl Try.ntmps100 fun a hF=>?_
 unfold M.part_Part_Clock at H
 refine qr fun _ h6=>(wp 1 [0] hF fun a hF=>(h6 _ _ (qs fun _ h7=>qr fun _ h8=>(wp 2 [0,4] hF fun a hF=>(h8 _ _ (cf hF rfl (sk (h7 _ _ (qr fun _ h9=>(wp 3 [7] hF fun a hF=>wc (wld hF hS 0 0 0 fun a hF=>wp 1 [2] hF fun a hF=>(h9 _ _ (rt ?_)))))))))))))
 cases H
 exact ret_done hF hS (res1 Try.results100 (rvt hF)) ⟨rfl,hS.sp [0,1] []⟩
end Go.Cf
