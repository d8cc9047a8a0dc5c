/- The walks: each function returns what its model says. Printed by a program of ours. -/
import Derived.Test.YtgpgcfgejggolaaGreatDoorZM1
import Derived.Test.YtgpgcfgejggolaaGreatDoorZWp
namespace Go.Cf
open Go Go.Proofs
set_option linter.unusedVariables false
set_option maxRecDepth 20000
set_option maxHeartbeats 8000000
theorem C_store_New (N:Nat){Ms:List Nat}{κ0:Gh}{w0:World}(hB:SB Ms κ0 w0 [] []){r:(T_store_Store)}(H:M.store_New N=some r) :
    Calls Tryz.prog 87 #[] w0 (Post Ms κ0 w0 fun v κ w => ∃(b5:Nat) (p6:Option Nat) (m7:Array MapEntry) (c8:Nat),v=pt b5 0∧SS Ms κ0 w0 κ w [.box b5 293 [sm p6,su r.floor],mx p6 m7 c8] [Map.mp kStr false (tSl f_api_Ver.ty) p6 m7 c8 r.chains]):=by
 have hS:=hB.hS
 have hfr:=hS.fresh
 refine en Tryz.func87 rfl Tryz.ntmps87 fun a hF=>?_
 unfold M.store_New at H
 refine qr fun _ h1=>(wl_pure (L':=[]) 1 [] hF kr fun a hF=>(h1 _ _ (qs fun _ hz=>rl (wc (wo_makeMap hF hS kr kStr false (tSl f_api_Ver.ty) rfl fun b3 a w hF hS=>wp 1 [2] hF fun a hF=>wc (wbx hF hS [(1,[.map (some b3)]),su 0] (sgN 2 sgNil) fun b4 a w hF hS=>wp 1 [0] hF fun a hF=>nl (hz _ _ (rt ?_))))))))
 cases H
 exact ret_done hF hS (res1 Tryz.results87 (rvt hF)) ⟨b4,(some b3),#[],0,rfl,hS.sp [0,1] [0]⟩
theorem C_store_Store_Drop (N:Nat){Ms:List Nat}{κ0:Gh}{w0:World}(a1:T_store_Store)(a6:ByteArray)(a7:ByteArray)(p2:Option Nat)(m3:Array MapEntry)(c4:Nat)(b5:Nat)(hB:SB Ms κ0 w0 [.box b5 293 [sm p2,su a1.floor],mx p2 m3 c4] [Map.mp kStr false (tSl f_api_Ver.ty) p2 m3 c4 a1.chains]){r:(Int×T_store_Store)}(H:M.store_Store_Drop N a1 a6 a7=some r) :
    Calls Tryz.prog 99 #[pt b5 0,.string (a6),.string (a7)] w0 (Post Ms κ0 w0 fun v κ w => ∃(p84:Option Nat) (m85:Array MapEntry) (c86:Nat),v=vi r.1∧SS Ms κ0 w0 κ w [.box b5 293 [sm p84,su r.2.floor],mx p84 m85 c86] [Map.mp kStr false (tSl f_api_Ver.ty) p84 m85 c86 r.2.chains]):=by
 have hS:=hB.hS
 have hfr:=hS.fresh
 refine en Tryz.func99 rfl Tryz.ntmps99 fun a hF=>?_
 unfold M.store_Store_Drop at H
 refine qr fun _ h8=>(wp 1 [0,1,2] hF fun a hF=>(h8 _ _ (qr fun _ h9=>(wp 1 [0,1,2,7] hF fun a hF=>(h9 _ _ (qs fun _ h10=>qr fun _ h11=>(wp 2 [0,1,2,7,11] hF fun a hF=>(h11 _ _ (cf hF rfl (sk (h10 _ _ (qs fun _ h12=>qr fun _ h13=>(wl_pure (L':=[(0,pt b5 0),(1,.string (a6)),(2,.string (a7)),(7,vi 0),(14,pt b5 0)]) 3 [0,1,2,7,14] hF kr fun a hF=>wc (wld hF hS 0 0 0 fun a hF=>wc (wo_range (KT:=9) (E:=108) (kt:=kStr) (agg:=false) (t:=(tSl f_api_Ver.ty)) hF hS kr 1 0 rfl kr rfl rfl kr fun b14 a w hF hS=>(h13 _ _ (bk (loop_fuel (n:=N) (fun n a w => ∃(κ:Gh) (m65:Array MapEntry) (y66:Mp ByteArray (List T_api_Ver)) (y67:Int) (m68:Array Nat) (y69:List ByteArray),Fr (36) [] [(0,pt b5 0),(1,.string (a6)),(2,.string (a7)),(7,vi y67),(16,pt b14 0)] a∧SS Ms κ0 w0 κ w [.box b5 293 [sm p2,su a1.floor],mx p2 m65 c4,.ext (objX (some b14) (itO p2 c4 m68))] [Map.mp kStr false (tSl f_api_Ver.ty) p2 m65 c4 y66,It.mp kStr m65 m68 y69]∧M.store_Store_Drop_L1 N n a1 a6 a7 y66 y67 y69=some r) ?_ ?_))))))))))))))))))
 exact ⟨_,m3,a1.chains,0,#[],(mKeys a1.chains),hF.kp [0,1,2,7,16],hS.sp [1,2,0] [1,0],H⟩
 rintro n a w ⟨κ,m65,y66,y67,m68,y69,hF,hS,H⟩
 rcases n with _|fuel1
 simp [M.store_Store_Drop_L1] at H
 simp only [M.store_Store_Drop_L1] at H
 refine qr fun _ h70=>(wc (wo_next (kt:=kStr) (agg:=false) (t:=(tSl f_api_Ver.ty)) hF hS kr 1 2 0 1 rfl kr rfl rfl rfl rfl H ?_ ?_))
 intro H a hF
 refine wp 1 [0,1,2,7,16,18] hF fun a hF=>(h70 _ _ (qs fun _ h74=>cf hF rfl (xt (h12 _ _ (qr fun _ h75=>(wp 2 [6] hF fun a hF=>(h75 _ _ (rt ?_))))))))
 cases H
 exact ret_done hF hS (res1 Tryz.results99 (rvt hF)) ⟨p2,m65,c4,rfl,hS.sp [0,1] [0]⟩
 intro x71 cs72 m73 a w H hF hS
 refine wl_pure (L':=[(0,pt b5 0),(1,.string (a6)),(2,.string (a7)),(7,vi y67),(16,pt b14 0),(18,vb true)]) 1 [0,1,2,7,16,18] hF kr fun a hF=>(h70 _ _ (qs fun _ h76=>ct hF rfl (sk (h76 _ _ (bk (qr fun _ h77=>(wc (wo_entry (kt:=kStr) (agg:=false) (t:=(tSl f_api_Ver.ty)) hF hS kr 1 2 2 0 rfl kr rfl rfl rfl rfl ?_))))))))
 rintro _ a ⟨⟨p78,c79⟩,rfl,hR⟩ hF
 have hS:=hS.adds hR
 refine wp 4 [0,1,2,7,8,9,16] hF fun a hF=>(h77 _ _ (qr fun _ h80=>(wp 3 [0,1,2,7,8,9,16,22,23,24] hF fun a hF=>bd H fun x81 hx81 H=>wc (wo_callP hF hS kr kr (C_span_Within N hS.fresh x71.1 a6 a7 ((hS.pick [] kr).ro) hx81) ?_))))
 rintro _ κ w a ⟨rfl,hR,hN⟩ hF hS hO
 refine h80 _ _ (bc hF H (fun hb H=>?_) fun hb H=>?_)
 refine qr fun _ h82=>(wp 5 [0,1,2,7,8,16] hF fun a hF=>(h82 _ _ (rl (wp 3 [0,1,2,7,8,16,32] hF fun a hF=>wc (wld hF hS 0 0 0 fun a hF=>wl_pure (L':=[(0,pt b5 0),(1,.string (a6)),(2,.string (a7)),(7,vi (IntKind.i64.wrap (y67+((x71.2).length:Int)))),(16,pt b14 0),(33,.map p2),(34,.string (x71.1))]) 1 [0,1,2,7,16,33,34] hF kr fun a hF=>wc (wo_delete (KT:=9) (E:=108) (kt:=kStr) (agg:=false) (t:=(tSl f_api_Ver.ty)) hF hS kr 1 3 (k:=x71.1) rfl kr kr rfl rfl kr kr fun m83 a w hsub hF hS=>?_))))))
 have hS:=hS.add (m:=It.mp kStr m83 m73 (kRem y69 x71.1)) (ItOk.sub (hS.get 3 rfl) hsub)
 refine nl ?_
 exact ⟨fuel1,Nat.lt_succ_self _,_,m83,(mDel y66 x71.1),IntKind.i64.wrap (y67+((x71.2).length:Int)),m73,(kRem y69 x71.1),hF.kp [0,1,2,7,16],hS.sp [0,1,2] [1,0],H⟩
 refine sk ?_
 exact ⟨fuel1,Nat.lt_succ_self _,_,m65,y66,y67,m73,(kRem y69 x71.1),hF.kp [0,1,2,7,16],hS.sp [0,1,2] [3,2],H⟩
theorem C_store_Store_Trim (N:Nat){Ms:List Nat}{κ0:Gh}{w0:World}(a1:T_store_Store)(a6:Int)(p2:Option Nat)(m3:Array MapEntry)(c4:Nat)(b5:Nat)(hB:SB Ms κ0 w0 [.box b5 293 [sm p2,su a1.floor],mx p2 m3 c4] [Map.mp kStr false (tSl f_api_Ver.ty) p2 m3 c4 a1.chains]){r:(Int×T_store_Store)}(H:M.store_Store_Trim N a1 a6=some r) :
    Calls Tryz.prog 101 #[pt b5 0,vu a6] w0 (Post Ms κ0 w0 fun v κ w => ∃(p26:Option Nat) (m27:Array MapEntry) (c28:Nat),v=vi r.1∧SS Ms κ0 w0 κ w [.box b5 293 [sm p26,su r.2.floor],mx p26 m27 c28] [Map.mp kStr false (tSl f_api_Ver.ty) p26 m27 c28 r.2.chains]):=by
 have hS:=hB.hS
 have hfr:=hS.fresh
 refine en Tryz.func101 rfl Tryz.ntmps101 fun a hF=>?_
 unfold M.store_Store_Trim at H
 refine qr fun _ h7=>(wp 1 [0,1] hF fun a hF=>(h7 _ _ (qs fun _ h8=>qr fun _ h9=>(wp 2 [0,1,11] hF fun a hF=>(h9 _ _ (cf hF rfl (sk (h8 _ _ (qr fun _ h10=>(wp 4 [0,1,12,15] hF fun a hF=>wc (wld hF hS 0 1 0 fun a hF=>wp 4 [0,18,20] hF fun a hF=>wc (wst hF hS 0 1 1 [su (if a6 > a1.floor then a6 else a1.floor)] (sgN 1 sgNil) fun a w hF hS=>(h10 _ _ (qr fun _ h11=>(wp 1 [0,5] hF fun a hF=>(h11 _ _ (qs fun _ h12=>qr fun _ h13=>(wl_pure (L':=[(0,pt b5 0),(5,vi 0),(23,pt b5 0)]) 3 [0,5,23] hF kr fun a hF=>wc (wld hF hS 0 0 0 fun a hF=>?_)))))))))))))))))))
 refine wc (wo_range (KT:=9) (E:=108) (kt:=kStr) (agg:=false) (t:=(tSl f_api_Ver.ty)) hF hS kr 1 0 rfl kr rfl rfl kr fun b14 a w hF hS=>(h13 _ _ (bk (loop_fuel (n:=N) (fun n a w => ∃κ:Gh,Fr (50) [] [(0,pt b5 0),(5,vi 0),(25,pt b14 0)] a∧SS Ms κ0 w0 κ w [.box b5 293 [sm p2,su (if a6 > a1.floor then a6 else a1.floor)],mx p2 m3 c4,.ext (objX (some b14) (itO p2 c4 (#[])))] [Map.mp kStr false (tSl f_api_Ver.ty) p2 m3 c4 a1.chains,It.mp kStr m3 (#[]) (mKeys a1.chains)]∧M.store_Store_Trim_L1 N n a1 a6=some r) ?_ ?_))))
 exact ⟨_,hF.kp [0,5,25],hS.sp [1,2,0] [1,0],H⟩
 rintro n a w ⟨κ,hF,hS,H⟩
 rcases n with _|fuel1
 simp [M.store_Store_Trim_L1] at H
 simp only [M.store_Store_Trim_L1] at H
 refine qr fun _ h15=>(wc (wo_next (kt:=kStr) (agg:=false) (t:=(tSl f_api_Ver.ty)) hF hS kr 1 2 0 1 rfl kr rfl rfl rfl rfl H ?_ ?_))
 intro H a hF
 refine wp 1 [0,5,25,27] hF fun a hF=>(h15 _ _ (qs fun _ h19=>cf hF rfl (xt (h12 _ _ (qr fun _ h20=>(wp 2 [4] hF fun a hF=>(h20 _ _ (rt ?_))))))))
 cases H
 exact ret_done hF hS (res1 Tryz.results101 (rvt hF)) ⟨p2,m3,c4,rfl,hS.sp [0,1] [0]⟩
 intro x16 cs17 m18 a w H hF hS
 refine wl_pure (L':=[(0,pt b5 0),(5,vi 0),(25,pt b14 0),(27,vb true)]) 1 [0,5,25,27] hF kr fun a hF=>(h15 _ _ (qs fun _ h21=>ct hF rfl (sk (h21 _ _ (bk (qr fun _ h22=>(wc (wo_entry (kt:=kStr) (agg:=false) (t:=(tSl f_api_Ver.ty)) hF hS kr 1 2 2 0 rfl kr rfl rfl rfl rfl ?_))))))))
 rintro _ a ⟨⟨p23,c24⟩,rfl,hR⟩ hF
 have hS:=hS.adds hR
 refine wp 4 [0,5,6,7,25] hF fun a hF=>(h22 _ _ (qs fun _ h25=>?_))
 cases H
theorem C_part_New (N:Nat){Ms:List Nat}{κ0:Gh}{w0:World}(hB:SB Ms κ0 w0 [] []){r:(T_part_Part)}(H:M.part_New N=some r) :
    Calls Tryz.prog 88 #[] w0 (Post Ms κ0 w0 fun v κ w => ∃(b5:Nat) (p6:Option Nat) (m7:Array MapEntry) (c8:Nat),v=pt b5 0∧SS Ms κ0 w0 κ w [.box b5 296 [su r.clock,sm p6],mx p6 m7 c8] [Map.mp (kInt .u64) false (fInt .u64).ty p6 m7 c8 r.open_]):=by
 have hS:=hB.hS
 have hfr:=hS.fresh
 refine en Tryz.func88 rfl Tryz.ntmps88 fun a hF=>?_
 unfold M.part_New at H
 refine qr fun _ h1=>(wl_pure (L':=[]) 1 [] hF kr fun a hF=>(h1 _ _ (qs fun _ hz=>rl (wc (wo_makeMap hF hS kr (kInt .u64) false (fInt .u64).ty rfl fun b3 a w hF hS=>wp 1 [2] hF fun a hF=>wc (wbx hF hS [su 0,(1,[.map (some b3)])] (sgN 2 sgNil) fun b4 a w hF hS=>wp 1 [0] hF fun a hF=>nl (hz _ _ (rt ?_))))))))
 cases H
 exact ret_done hF hS (res1 Tryz.results88 (rvt hF)) ⟨b4,(some b3),#[],0,rfl,hS.sp [0,1] [0]⟩
theorem C_part_Part_See (N:Nat){Ms:List Nat}{κ0:Gh}{w0:World}(a1:T_part_Part)(a6:Int)(p2:Option Nat)(m3:Array MapEntry)(c4:Nat)(b5:Nat)(hB:SB Ms κ0 w0 [.box b5 296 [su a1.clock,sm p2],mx p2 m3 c4] [Map.mp (kInt .u64) false (fInt .u64).ty p2 m3 c4 a1.open_]){r:(T_part_Part)}(H:M.part_Part_See N a1 a6=some r) :
    Calls Tryz.prog 100 #[pt b5 0,vu a6] w0 (Post Ms κ0 w0 fun v κ w => ∃(p8:Option Nat) (m9:Array MapEntry) (c10:Nat),v = .tuple #[]∧SS Ms κ0 w0 κ w [.box b5 296 [su r.clock,sm p8],mx p8 m9 c10] [Map.mp (kInt .u64) false (fInt .u64).ty p8 m9 c10 r.open_]):=by
 have hS:=hB.hS
 have hfr:=hS.fresh
 refine en Tryz.func100 rfl Tryz.ntmps100 fun a hF=>?_
 unfold M.part_Part_See at H
 refine qr fun _ h7=>(wp 2 [0,1,5] hF fun a hF=>(h7 _ _ (ct hF rfl (rl (wp 4 [1,6,9] hF fun a hF=>wc (wld hF hS 0 0 0 fun a hF=>wp 4 [12,14] hF fun a hF=>wc (wst hF hS 0 0 1 [su (if a6 > a1.clock then a6 else a1.clock)] (sgN 1 sgNil) fun a w hF hS=>nl ?_)))))))
 cases H
 exact ret_done hF hS (res0 Tryz.results100) ⟨p2,m3,c4,rfl,hS.sp [0,1] [0]⟩
end Go.Cf
