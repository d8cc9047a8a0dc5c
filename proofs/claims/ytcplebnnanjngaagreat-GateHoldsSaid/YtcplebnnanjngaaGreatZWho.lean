/- The walks: each function returns what its model says. Printed by a program of ours. -/
import Derived.Test.YtcplebnnanjngaaGreatZM1
namespace Go.Cf
open Go Go.Proofs
set_option linter.unusedVariables false
set_option maxRecDepth 20000 in
set_option maxHeartbeats 8000000 in
theorem C_hlc_sign (N:Nat){κ0:Gh}{w0:World}(hfr:Fresh κ0 w0)(a1:Bool)(hR : ∀m∈([]:List MP),m.p κ0 w0){r:(Int)}(H:M.hlc_sign N a1=some r) :
    Calls Tryz.prog 130 #[vb a1] w0 (Post [] κ0 w0 fun v κ w=>v=vi r∧(∀m∈([]:List MP),m.p κ w)∧NewC w0 κ w []):=by
 have hS:=SS.start hfr hR
 refine enter (N:=(4)) (L:=[(0,vb a1)]) Tryz.func130 rfl Tryz.ntmps130 (show 1≤(4) by decide) rfl fun a hF=>?_
 unfold M.hlc_sign at H
 refine wpIn_seq_k fun K2 hK2=>?_
 refine wpIn_region_lit ?_
 refine wp 1 [0] hF fun a hF=>?_
 refine wpListIn_nil ?_
 refine hK2 _ _ ?_
 refine wpIn_seq_k fun K3 hK3=>?_
 refine wpIn_seq_k fun K4 hK4=>?_
 refine wpIn_region_lit ?_
 refine wp 1 [3] hF fun a hF=>?_
 refine wpListIn_nil ?_
 refine hK4 _ _ ?_
 refine bif_split H (fun hb H=>?_) (fun hb H=>?_)
 refine cond_t hF (by kernel_rfl) hb ?_
 refine wpIn_seq_k fun K5 hK5=>?_
 refine wpIn_region_lit ?_
 refine wp 1 [2] hF fun a hF=>?_
 refine wpListIn_nil ?_
 refine hK5 _ _ ?_
 refine wpIn_ret ?_
 cases H
 exact (ret_done hF hS (res1 Tryz.results130 (rvt hF)) ⟨rfl,(hS.pick [] (by kernel_rfl)).ro,hS.newC [] (by decide) (by kernel_rfl)⟩)
 refine cond_f hF (by kernel_rfl) hb ?_
 refine wpIn_skip ?_
 refine hK3 _ _ ?_
 refine wpIn_seq_k fun K6 hK6=>?_
 refine wpIn_region_lit ?_
 refine wp 1 [2] hF fun a hF=>?_
 refine wpListIn_nil ?_
 refine hK6 _ _ ?_
 refine wpIn_ret ?_
 cases H
 exact (ret_done hF hS (res1 Tryz.results130 (rvt hF)) ⟨rfl,(hS.pick [] (by kernel_rfl)).ro,hS.newC [] (by decide) (by kernel_rfl)⟩)
set_option maxRecDepth 20000 in
set_option maxHeartbeats 8000000 in
theorem C_hlc_Cmp (N:Nat){κ0:Gh}{w0:World}(hfr:Fresh κ0 w0)(a1:T_api_Mark)(a2:T_api_Mark)(hR : ∀m∈([]:List MP),m.p κ0 w0){r:(Int)}(H:M.hlc_Cmp N a1 a2=some r) :
    Calls Tryz.prog 105 #[.agg (flat [su a1.TS,si a1.DC,si a1.Tx]).toArray,.agg (flat [su a2.TS,si a2.DC,si a2.Tx]).toArray] w0 (Post [] κ0 w0 fun v κ w=>v=vi r∧(∀m∈([]:List MP),m.p κ w)∧NewC w0 κ w []):=by
 have hS:=SS.start hfr hR
 refine enter (N:=(41)) (L:=[(0,.agg (flat [su a1.TS,si a1.DC,si a1.Tx]).toArray),(1,.agg (flat [su a2.TS,si a2.DC,si a2.Tx]).toArray)]) Tryz.func105 rfl Tryz.ntmps105 (show 2≤(41) by decide) rfl fun a hF=>?_
 unfold M.hlc_Cmp at H
 refine wpIn_seq_k fun K3 hK3=>?_
 refine wpIn_region_lit ?_
 refine wc (wbx hF hS [su a1.TS,si a1.DC,si a1.Tx] (sgN 3 sgNil) fun b4 a w hF hS=>?_)
 refine wc (wbx hF hS [su a2.TS,si a2.DC,si a2.Tx] (sgN 3 sgNil) fun b5 a w hF hS=>?_)
 refine wp 1 [2,3] hF fun a hF=>?_
 refine wpListIn_nil ?_
 refine hK3 _ _ ?_
 refine wpIn_seq_k fun K6 hK6=>?_
 refine wpIn_block ?_
 refine wpIn_seq_k fun K7 hK7=>?_
 refine wpIn_region_lit ?_
 refine wp 1 [2,3,6] hF fun a hF=>?_
 refine wc (wld hF hS 1 0 0 fun a hF=>?_)
 refine wp 1 [2,3,7,8] hF fun a hF=>?_
 refine wc (wld hF hS 0 0 0 fun a hF=>?_)
 refine wp 2 [2,3,5] hF fun a hF=>?_
 refine wpListIn_nil ?_
 refine hK7 _ _ ?_
 refine bif_split H (fun hb H=>?_) (fun hb H=>?_)
 refine cond_t hF (by kernel_rfl) hb ?_
 refine wpIn_seq_k fun K8 hK8=>?_
 refine wpIn_region_lit ?_
 refine wp 1 [3,11] hF fun a hF=>?_
 refine wc (wld hF hS 1 0 0 fun a hF=>?_)
 refine wp 1 [12,13] hF fun a hF=>?_
 refine wc (wld hF hS 0 0 0 fun a hF=>?_)
 refine wp 1 [15] hF fun a hF=>?_
 refine bind_split H (fun x9 hx9 H=>?_)
 refine wc (wo_callP hF hS (by kernel_rfl) (by kernel_rfl) (C_hlc_sign N hS.fresh (decide (a1.TS<a2.TS)) ((hS.pick [] (by kernel_rfl)).ro) hx9) ?_)
 rintro _ κ w a ⟨rfl,hR,hN⟩ hF hS hO
 refine wp 1 [4] hF fun a hF=>?_
 refine wpListIn_nil ?_
 refine hK8 _ _ ?_
 refine wpIn_ret ?_
 cases H
 exact (ret_done hF hS (res1 Tryz.results105 (rvt hF)) ⟨rfl,(hS.pick [] (by kernel_rfl)).ro,hS.newC [] (by decide) (by kernel_rfl)⟩)
 refine cond_f hF (by kernel_rfl) hb ?_
 refine wpIn_seq_k fun K10 hK10=>?_
 refine wpIn_region_lit ?_
 refine wp 1 [2,3,18] hF fun a hF=>?_
 refine wc (wld hF hS 1 1 0 fun a hF=>?_)
 refine wp 1 [2,3,19,20] hF fun a hF=>?_
 refine wc (wld hF hS 0 1 0 fun a hF=>?_)
 refine wp 2 [2,3,17] hF fun a hF=>?_
 refine wpListIn_nil ?_
 refine hK10 _ _ ?_
 refine bif_split H (fun hb H=>?_) (fun hb H=>?_)
 refine cond_t hF (by kernel_rfl) hb ?_
 refine wpIn_seq_k fun K11 hK11=>?_
 refine wpIn_region_lit ?_
 refine wp 1 [3,23] hF fun a hF=>?_
 refine wc (wld hF hS 1 1 0 fun a hF=>?_)
 refine wp 1 [24,25] hF fun a hF=>?_
 refine wc (wld hF hS 0 1 0 fun a hF=>?_)
 refine wp 1 [27] hF fun a hF=>?_
 refine bind_split H (fun x12 hx12 H=>?_)
 refine wc (wo_callP hF hS (by kernel_rfl) (by kernel_rfl) (C_hlc_sign N hS.fresh (decide (a1.DC<a2.DC)) ((hS.pick [] (by kernel_rfl)).ro) hx12) ?_)
 rintro _ κ w a ⟨rfl,hR,hN⟩ hF hS hO
 refine wp 1 [4] hF fun a hF=>?_
 refine wpListIn_nil ?_
 refine hK11 _ _ ?_
 refine wpIn_ret ?_
 cases H
 exact (ret_done hF hS (res1 Tryz.results105 (rvt hF)) ⟨rfl,(hS.pick [] (by kernel_rfl)).ro,hS.newC [] (by decide) (by kernel_rfl)⟩)
 refine cond_f hF (by kernel_rfl) hb ?_
 refine wpIn_seq_k fun K13 hK13=>?_
 refine wpIn_region_lit ?_
 refine wp 1 [2,3,30] hF fun a hF=>?_
 refine wc (wld hF hS 1 2 0 fun a hF=>?_)
 refine wp 1 [2,3,31,32] hF fun a hF=>?_
 refine wc (wld hF hS 0 2 0 fun a hF=>?_)
 refine wp 2 [2,3,29] hF fun a hF=>?_
 refine wpListIn_nil ?_
 refine hK13 _ _ ?_
 refine bif_split H (fun hb H=>?_) (fun hb H=>?_)
 refine cond_t hF (by kernel_rfl) hb ?_
 refine wpIn_seq_k fun K14 hK14=>?_
 refine wpIn_region_lit ?_
 refine wp 1 [3,35] hF fun a hF=>?_
 refine wc (wld hF hS 1 2 0 fun a hF=>?_)
 refine wp 1 [36,37] hF fun a hF=>?_
 refine wc (wld hF hS 0 2 0 fun a hF=>?_)
 refine wp 1 [39] hF fun a hF=>?_
 refine bind_split H (fun x15 hx15 H=>?_)
 refine wc (wo_callP hF hS (by kernel_rfl) (by kernel_rfl) (C_hlc_sign N hS.fresh (decide (a1.Tx<a2.Tx)) ((hS.pick [] (by kernel_rfl)).ro) hx15) ?_)
 rintro _ κ w a ⟨rfl,hR,hN⟩ hF hS hO
 refine wp 1 [4] hF fun a hF=>?_
 refine wpListIn_nil ?_
 refine hK14 _ _ ?_
 refine wpIn_ret ?_
 cases H
 exact (ret_done hF hS (res1 Tryz.results105 (rvt hF)) ⟨rfl,(hS.pick [] (by kernel_rfl)).ro,hS.newC [] (by decide) (by kernel_rfl)⟩)
 refine cond_f hF (by kernel_rfl) hb ?_
 refine wpIn_skip ?_
 refine hK6 _ _ ?_
 refine wpIn_seq_k fun K16 hK16=>?_
 refine wpIn_region_lit ?_
 refine wp 1 [4] hF fun a hF=>?_
 refine wpListIn_nil ?_
 refine hK16 _ _ ?_
 refine wpIn_ret ?_
 cases H
 exact (ret_done hF hS (res1 Tryz.results105 (rvt hF)) ⟨rfl,(hS.pick [] (by kernel_rfl)).ro,hS.newC [] (by decide) (by kernel_rfl)⟩)
set_option maxRecDepth 20000 in
set_option maxHeartbeats 8000000 in
theorem C_order_New (N:Nat){Ms:List Nat}{κ0:Gh}{w0:World}(hB:SB Ms κ0 w0 [] []){r:(T_order_Log)}(H:M.order_New N=some r) :
    Calls Tryz.prog 48 #[] w0 (Post Ms κ0 w0 fun v κ w => ∃(b4:Nat) (p5:Option Addr) (c6:Nat) (p7:Option Addr) (c8:Nat),v=pt b4 0∧SS Ms κ0 w0 κ w [.box b4 166 [sl p5 (r.list).length c6,sl p7 (r.waiting).length c8,su r.bound],.tok p5 135 4 (r.list).length c6,.tok p7 135 4 (r.waiting).length c8] [Ro.mp t_api_Rec p5 c6 r.list,Ro.mp t_api_Rec p7 c8 r.waiting]):=by
 have hS:=hB.hS
 have hfr:=hS.fresh
 refine enter (N:=(3)) (L:=[]) Tryz.func48 rfl Tryz.ntmps48 (show 0≤(3) by decide) rfl fun a hF=>?_
 unfold M.order_New at H
 refine wpIn_seq_k fun K1 hK1=>?_
 refine wpIn_region_lit ?_
 refine wp 1 [] hF fun a hF=>?_
 refine wpListIn_nil ?_
 refine hK1 _ _ ?_
 refine wpIn_seq_k fun K2 hK2=>?_
 refine wpIn_region_lit ?_
 refine wp 1 [1] hF fun a hF=>?_
 refine wc (wbx hF hS [sl none 0 0,sl none 0 0,su 0] (sgN 3 sgNil) fun b3 a w hF hS=>?_)
 refine wp 1 [0] hF fun a hF=>?_
 refine wpListIn_nil ?_
 refine hK2 _ _ ?_
 refine wpIn_ret ?_
 have hS:=hS.add (m:=Ro.mp t_api_Rec none 0 ([]:List T_api_Rec)) (Ro.nil t_api_Rec _ _)
 have hS:=hS.addNil 135 4
 have hS:=hS.addNil 135 4
 cases H
 exact ret_done hF hS (res1 Tryz.results48 (rvt hF)) ⟨b3,none,0,none,0,rfl,hS.sp [2,1,0] [0,0]⟩
set_option maxRecDepth 20000 in
set_option maxHeartbeats 8000000 in
theorem C_order_mark (N:Nat){κ0:Gh}{w0:World}(hfr:Fresh κ0 w0)(a1:T_api_Rec)(p2:Option Addr)(c3:Nat)(hR : ∀m∈([Ro.mp f_api_Ver.ty p2 c3 a1.Vers]:List MP),m.p κ0 w0){r:(T_api_Mark)}(H:M.order_mark N a1=some r) :
    Calls Tryz.prog 106 #[.agg (flat [su a1.TS,si a1.DC,si a1.Tx,sl p2 (a1.Vers).length c3]).toArray] w0 (Post [] κ0 w0 fun v κ w=>v = .agg (flat [su r.TS,si r.DC,si r.Tx]).toArray∧(∀m∈([]:List MP),m.p κ w)∧NewC w0 κ w []):=by
 have hS:=SS.start hfr hR
 refine enter (N:=(10)) (L:=[(0,.agg (flat [su a1.TS,si a1.DC,si a1.Tx,sl p2 (a1.Vers).length c3]).toArray)]) Tryz.func106 rfl Tryz.ntmps106 (show 1≤(10) by decide) rfl fun a hF=>?_
 unfold M.order_mark at H
 refine wpIn_seq_k fun K4 hK4=>?_
 refine wpIn_region_lit ?_
 refine wc (wbx hF hS [su a1.TS,si a1.DC,si a1.Tx,sl p2 (a1.Vers).length c3] (sgN 4 sgNil) fun b5 a w hF hS=>?_)
 refine wc (wal hF hS [su 0,si 0,si 0] (sgN 3 sgNil) fun b6 a w hF hS=>?_)
 refine wpListIn_nil ?_
 refine hK4 _ _ ?_
 refine wpIn_seq_k fun K7 hK7=>?_
 refine wpIn_region_lit ?_
 refine wp 1 [1,2,3] hF fun a hF=>?_
 refine wc (wld hF hS 1 0 0 fun a hF=>?_)
 refine wp 1 [1,2,4,5] hF fun a hF=>?_
 refine wc (wld hF hS 1 1 0 fun a hF=>?_)
 refine wp 1 [2,4,6,7] hF fun a hF=>?_
 refine wc (wld hF hS 1 2 0 fun a hF=>?_)
 refine wp 1 [2,9] hF fun a hF=>?_
 refine wc (wst hF hS 0 0 3 [su a1.TS,si a1.DC,si a1.Tx] (sgN 3 sgNil) fun a w hF hS=>?_)
 refine wpListIn_nil ?_
 refine hK7 _ _ ?_
 refine wpIn_ret ?_
 have hS':=hS
 cases H
 exact (ret_done hF hS (res1 Tryz.results106 (rvs hF hS' 0 0 3)) ⟨rfl,(hS.pick [] (by kernel_rfl)).ro,hS.newC [] (by decide) (by kernel_rfl)⟩)
set_option maxRecDepth 20000 in
set_option maxHeartbeats 8000000 in
theorem C_order_Copy (N:Nat){κ0:Gh}{w0:World}(hfr:Fresh κ0 w0)(a1:T_api_Rec)(p2:Option Addr)(c3:Nat)(hR : ∀m∈([Ro.mp f_api_Ver.ty p2 c3 a1.Vers]:List MP),m.p κ0 w0){r:(T_api_Rec)}(H:M.order_Copy N a1=some r) :
    Calls Tryz.prog 103 #[.agg (flat [su a1.TS,si a1.DC,si a1.Tx,sl p2 (a1.Vers).length c3]).toArray] w0 (Post [] κ0 w0 fun v κ w => ∃(p12:Option Addr) (c13:Nat),v = .agg (flat [su r.TS,si r.DC,si r.Tx,sl p12 (r.Vers).length c13]).toArray∧(∀m∈([Ro.mp f_api_Ver.ty p12 c13 r.Vers]:List MP),m.p κ w)∧NewC w0 κ w [.tok p12 48 6 (r.Vers).length c13]):=by
 have hS:=SS.start hfr hR
 refine enter (N:=(8)) (L:=[(0,.agg (flat [su a1.TS,si a1.DC,si a1.Tx,sl p2 (a1.Vers).length c3]).toArray)]) Tryz.func103 rfl Tryz.ntmps103 (show 1≤(8) by decide) rfl fun a hF=>?_
 unfold M.order_Copy at H
 refine wpIn_seq_k fun K4 hK4=>?_
 refine wpIn_region_lit ?_
 refine wc (wbx hF hS [su a1.TS,si a1.DC,si a1.Tx,sl p2 (a1.Vers).length c3] (sgN 4 sgNil) fun b5 a w hF hS=>?_)
 refine wc (wal hF hS [su 0,si 0,si 0,sl none 0 0] (sgN 4 sgNil) fun b6 a w hF hS=>?_)
 refine wpListIn_nil ?_
 refine hK4 _ _ ?_
 refine wpIn_seq_k fun K7 hK7=>?_
 refine wpIn_region_lit ?_
 refine wl_pure (L':=[(1,pt b5 0),(2,pt b6 0),(3,pt b5 3)]) 1 [1,2,3] hF (by kernel_rfl) fun a hF=>?_
 refine wc (wld hF hS 1 3 0 fun a hF=>?_)
 have hS:=hS.add (m:=Ro.mp f_api_Ver.ty none 0 ([]:List T_api_Ver)) (Ro.nil f_api_Ver.ty _ _)
 have hS:=hS.addNil 48 6
 refine bind_split H (fun x8 hx8 H=>?_)
 refine wc (wo_append (ty:=f_api_Ver.ty) hF hS (by kernel_rfl) 0 0 1 rfl rfl rfl (by kernel_rfl) (by kernel_rfl) rfl rfl rfl hx8 (by kernel_rfl) (i:=Tryz.t48) (z := .agg (flat [sg ByteArray.empty,sg ByteArray.empty,sb false,su 0,si 0,si 0]).toArray) (by kernel_rfl) (by kernel_rfl) (by kernel_rfl) fun p9 c10 κ a w hF hS=>?_)
 refine wp 1 [1,2,5,6] hF fun a hF=>?_
 refine wc (wst hF hS 2 3 1 [sl p9 (x8).length c10] (sgN 1 sgNil) fun a w hF hS=>?_)
 refine wpListIn_nil ?_
 refine hK7 _ _ ?_
 refine wpIn_seq_k fun K11 hK11=>?_
 refine wpIn_region_lit ?_
 refine wc (wls hF hS 2 0 4 fun a hF=>?_)
 refine wc (wst hF hS 1 0 4 [su a1.TS,si a1.DC,si a1.Tx,sl p9 (x8).length c10] (sgN 4 sgNil) fun a w hF hS=>?_)
 refine wpListIn_nil ?_
 refine hK11 _ _ ?_
 refine wpIn_ret ?_
 have hS':=hS
 cases H
 exact (ret_done hF hS (res1 Tryz.results103 (rvs hF hS' 1 0 4)) ⟨p9,c10,rfl,(hS.pick [0] (by kernel_rfl)).ro,hS.newC [0] (by decide) (by kernel_rfl)⟩)
set_option maxRecDepth 20000 in
set_option maxHeartbeats 8000000 in
theorem C_order_Log_Decide (N:Nat){Ms:List Nat}{κ0:Gh}{w0:World}(a1:T_order_Log)(a7:T_api_Rec)(p2:Option Addr)(c3:Nat)(p4:Option Addr)(c5:Nat)(p8:Option Addr)(c9:Nat)(b6:Nat)(hB:SB Ms κ0 w0 [.box b6 166 [sl p2 (a1.list).length c3,sl p4 (a1.waiting).length c5,su a1.bound],.tok p2 135 4 (a1.list).length c3,.tok p4 135 4 (a1.waiting).length c5] [Ro.mp t_api_Rec p2 c3 a1.list,Ro.mp t_api_Rec p4 c5 a1.waiting,Ro.mp f_api_Ver.ty p8 c9 a7.Vers]){r:(Int×T_order_Log)}(H:M.order_Log_Decide N a1 a7=some r) :
    Calls Tryz.prog 70 #[pt b6 0,.agg (flat [su a7.TS,si a7.DC,si a7.Tx,sl p8 (a7.Vers).length c9]).toArray] w0 (Post Ms κ0 w0 fun v κ w => ∃(p111:Option Addr) (c112:Nat) (p113:Option Addr) (c114:Nat),v=vi r.1∧SS Ms κ0 w0 κ w [.box b6 166 [sl p111 (r.2.list).length c112,sl p113 (r.2.waiting).length c114,su r.2.bound],.tok p111 135 4 (r.2.list).length c112,.tok p113 135 4 (r.2.waiting).length c114] [Ro.mp t_api_Rec p111 c112 r.2.list,Ro.mp t_api_Rec p113 c114 r.2.waiting]):=by
 have hS:=hB.hS
 have hfr:=hS.fresh
 refine enter (N:=(65)) (L:=[(0,pt b6 0),(1,.agg (flat [su a7.TS,si a7.DC,si a7.Tx,sl p8 (a7.Vers).length c9]).toArray)]) Tryz.func70 rfl Tryz.ntmps70 (show 2≤(65) by decide) rfl fun a hF=>?_
 unfold M.order_Log_Decide at H
 refine wpIn_seq_k fun K10 hK10=>?_
 refine wpIn_region_lit ?_
 refine wc (wbx hF hS [su a7.TS,si a7.DC,si a7.Tx,sl p8 (a7.Vers).length c9] (sgN 4 sgNil) fun b11 a w hF hS=>?_)
 refine wp 1 [0,3] hF fun a hF=>?_
 refine wpListIn_nil ?_
 refine hK10 _ _ ?_
 refine wpIn_seq_k fun K12 hK12=>?_
 refine wpIn_seq_k fun K13 hK13=>?_
 refine wpIn_region_lit ?_
 refine wp 2 [0,3,11] hF fun a hF=>?_
 refine wpListIn_nil ?_
 refine hK13 _ _ ?_
 refine cond_f hF (by kernel_rfl) rfl ?_
 refine wpIn_skip ?_
 refine hK12 _ _ ?_
 refine wpIn_seq_k fun K14 hK14=>?_
 refine wpIn_seq_k fun K15 hK15=>?_
 refine rgS hS [] ?_
 have hS:=hS.drew
 refine anp [0,2,3,4] [0,3,12,16] hF (hS.sx [0,1] [0,1,2]) fun a hF=>?_
 refine atk 1 (some 13) hF (hS.sx [0,1] [0,1,2]) rfl (vld 0 0 0) fun a hF=>?_
 refine atk 5 (some 17) hF (hS.sx [0,1] [0,1,2]) rfl (vld 1 2 0) fun a hF=>?_
 refine anp [6] [0,3,18] hF (hS.sx [0,1] [0,1,2]) fun a hF=>?_
 refine and_ ?_
 refine hK15 _ _ ?_
 refine bif_split H (fun hb H=>?_) (fun hb H=>?_)
 refine cond_t hF (by kernel_rfl) hb ?_
 refine wpIn_seq_k fun K16 hK16=>?_
 refine wpIn_region_lit ?_
 refine wp 1 [4] hF fun a hF=>?_
 refine wpListIn_nil ?_
 refine hK16 _ _ ?_
 refine wpIn_ret ?_
 cases H
 exact ret_done hF hS (res1 Tryz.results70 (rvt hF)) ⟨p2,c3,p4,c5,rfl,hS.sp [1,2,3] [0,1]⟩
 refine cond_f hF (by kernel_rfl) hb ?_
 refine wpIn_skip ?_
 refine hK14 _ _ ?_
 refine wpIn_seq_k fun K17 hK17=>?_
 refine wpIn_region_lit ?_
 refine wp 1 [0,3,5] hF fun a hF=>?_
 refine wpListIn_nil ?_
 refine hK17 _ _ ?_
 refine wpIn_seq_k fun K18 hK18=>?_
 refine wpIn_seq_k fun K19 hK19=>?_
 refine wpIn_region_lit ?_
 refine wp 3 [0,3,5,21] hF fun a hF=>?_
 refine wc (wld hF hS 1 1 0 fun a hF=>?_)
 refine wp 2 [0,3,5,22,23,24] hF fun a hF=>?_
 refine wpListIn_nil ?_
 refine hK19 _ _ ?_
 refine wpIn_block ?_
 refine loop_fuel (n:=N) (fun n a w => ∃(κ:Gh) (y70 y71:Int),Fr (65) [] [(0,pt b6 0),(3,pt b11 0),(5,vi y70),(22,.slice p4 (a1.waiting).length c5),(23,vi ((a1.waiting).length:Int)),(24,vi y71)] a∧SS Ms κ0 w0 κ w [.box b11 135 [su a7.TS,si a7.DC,si a7.Tx,sl p8 (a7.Vers).length c9],.box b6 166 [sl p2 (a1.list).length c3,sl p4 (a1.waiting).length c5,su a1.bound],.tok p2 135 4 (a1.list).length c3,.tok p4 135 4 (a1.waiting).length c5] [Ro.mp t_api_Rec p4 c5 a1.waiting,Ro.mp f_api_Ver.ty p8 c9 a7.Vers,Ro.mp t_api_Rec p2 c3 a1.list]∧M.order_Log_Decide_L1 N n a1 a7 y70 y71=some r) ?_ ?_
 exact ⟨_,0,0,hF.kp [0,3,5,22,23,24],hS.sp (rg 4) [1,2,0],H⟩
 rintro n a w ⟨κ,y70,y71,hF,hS,H⟩
 rcases n with _|fuel1
 simp [M.order_Log_Decide_L1] at H
 simp only [M.order_Log_Decide_L1] at H
 refine wpIn_seq_k fun K72 hK72=>?_
 refine wpIn_region_lit ?_
 refine wp 1 [0,3,5,22,23,24,25] hF fun a hF=>?_
 refine wpListIn_nil ?_
 refine hK72 _ _ ?_
 refine wpIn_seq_k fun K73 hK73=>?_
 refine bif_split H (fun hb H=>?_) (fun hb H=>?_)
 refine cond_t hF (by kernel_rfl) hb ?_
 refine wpIn_skip ?_
 refine hK73 _ _ ?_
 refine seq_join (fun a w => ∃(κ:Gh) (y74:Int),Fr (65) [] [(0,pt b6 0),(3,pt b11 0),(5,vi y74),(22,.slice p4 (a1.waiting).length c5),(23,vi ((a1.waiting).length:Int)),(24,vi y71)] a∧SS Ms κ0 w0 κ w [.box b11 135 [su a7.TS,si a7.DC,si a7.Tx,sl p8 (a7.Vers).length c9],.box b6 166 [sl p2 (a1.list).length c3,sl p4 (a1.waiting).length c5,su a1.bound],.tok p2 135 4 (a1.list).length c3,.tok p4 135 4 (a1.waiting).length c5] [Ro.mp t_api_Rec p4 c5 a1.waiting,Ro.mp f_api_Ver.ty p8 c9 a7.Vers,Ro.mp t_api_Rec p2 c3 a1.list]∧M.order_Log_Decide_k2 N (M.order_Log_Decide_L1 N fuel1) a1 a7 y71 y74=some r) ?_ ?_
 refine wpIn_block ?_
 refine wpIn_seq_k fun K75 hK75=>?_
 refine wpIn_region_lit ?_
 refine wl_pure (L':=[(0,pt b6 0),(3,pt b11 0),(5,vi y70),(22,.slice p4 (a1.waiting).length c5),(23,vi ((a1.waiting).length:Int)),(24,vi y71),(26,vi y71)]) 1 [0,3,5,22,23,24,26] hF (by kernel_rfl) fun a hF=>?_
 refine bind_split H (fun x76 hx76 H=>?_)
 refine wc (wo_index hF hS (by kernel_rfl) 0 (E:=135) (sz:=4) rfl rfl rfl (by kernel_rfl) rfl hx76 (by kernel_rfl) (by kernel_rfl) fun b77 f78 a hpx76 hF=>?_)
 obtain ⟨_,⟨⟨p79,c80⟩,rfl,hR⟩,hc⟩:=hS.elem 0 rfl hpx76 hx76
 have hS:=(hS.adds hR).add hc
 refine wc (wo_val hF (by kernel_rfl) (v := .agg (flat [su x76.TS,si x76.DC,si x76.Tx,sl p79 (x76.Vers).length c80]).toArray) ((val_loadCs 0 0 4 (s:=[su x76.TS,si x76.DC,si x76.Tx,sl p79 (x76.Vers).length c80]) (s':=[su x76.TS,si x76.DC,si x76.Tx,sl p79 (x76.Vers).length c80]) (n:=4) rfl rfl rfl (show segGood [su x76.TS,si x76.DC,si x76.Tx,sl p79 (x76.Vers).length c80] from (sgN 4 sgNil)) (by kernel_rfl) (by kernel_rfl) (by kernel_rfl) (by kernel_rfl) (by kernel_rfl) _ ⟨_,hS⟩)) fun a hF=>?_)
 refine wc (wal hF hS [su 0,si 0,si 0,sl none 0 0] (sgN 4 sgNil) fun b81 a w hF hS=>?_)
 refine wp 1 [0,3,5,6,7,22,23,24,28] hF fun a hF=>?_
 refine wc (wst hF hS 0 0 4 [su x76.TS,si x76.DC,si x76.Tx,sl p79 (x76.Vers).length c80] (sgN 4 sgNil) fun a w hF hS=>?_)
 refine wpListIn_nil ?_
 refine hK75 _ _ ?_
 refine wpIn_seq_k fun K82 hK82=>?_
 refine rgS hS [] ?_
 have hS:=hS.drew
 refine bind_split H (fun x83 hx83 H=>?_)
 refine bind_split H (fun x84 hx84 H=>?_)
 refine bind_split H (fun x85 hx85 H=>?_)
 refine atk 0 (some 29) hF (hS.sx [0,1,2] (rg 5)) rfl (vls 0 0 4) fun a hF=>?_
 refine atk 2 (some 31) hF (hS.sx [0,1,2] (rg 5)) rfl (vls 1 0 4) fun a hF=>?_
 refine ago 1 hF rfl ?_
 refine wo_callP hF hS (by kernel_rfl) (by kernel_rfl) (C_order_mark N hS.fresh (T_api_Rec.mk x76.TS x76.DC x76.Tx x76.Vers) p79 c80 ((hS.pick [1] (by kernel_rfl)).ro) hx83) ?_
 rintro _ κ w a ⟨rfl,hR,hN⟩ hF hS hO
 refine ⟨fun _=>(hS.sx [0,1,2] (rg 5)),?_⟩
 refine ago 3 hF rfl ?_
 refine wo_callP hF hS (by kernel_rfl) (by kernel_rfl) (C_order_mark N hS.fresh (T_api_Rec.mk a7.TS a7.DC a7.Tx a7.Vers) p8 c9 ((hS.pick [3] (by kernel_rfl)).ro) hx84) ?_
 rintro _ κ w a ⟨rfl,hR,hN⟩ hF hS hO
 refine ⟨fun _=>(hS.sx [0,1,2] (rg 5)),?_⟩
 refine ago 4 hF rfl ?_
 refine wo_callP hF hS (by kernel_rfl) (by kernel_rfl) (C_hlc_Cmp N hS.fresh (T_api_Mark.mk x83.TS x83.DC x83.Tx) (T_api_Mark.mk x84.TS x84.DC x84.Tx) ((hS.pick [] (by kernel_rfl)).ro) hx85) ?_
 rintro _ κ w a ⟨rfl,hR,hN⟩ hF hS hO
 refine ⟨fun _=>(hS.sx [0,1,2] (rg 5)),?_⟩
 refine anp [5] [0,3,5,6,8,22,23,24] hF (hS.sx [0,1,2] (rg 5)) fun a hF=>?_
 refine and_ ?_
 refine hK82 _ _ ?_
 refine wpIn_block ?_
 refine wpIn_seq_k fun K86 hK86=>?_
 refine wpIn_region_lit ?_
 refine wp 3 [0,3,5,6,8,22,23,24,34] hF fun a hF=>?_
 refine wpListIn_nil ?_
 refine hK86 _ _ ?_
 refine bif_split H (fun hb H=>?_) (fun hb H=>?_)
 refine cond_t hF (by kernel_rfl) hb ?_
 refine wpIn_seq_k fun K87 hK87=>?_
 refine wpIn_region_lit ?_
 refine wp 1 [4] hF fun a hF=>?_
 refine wpListIn_nil ?_
 refine hK87 _ _ ?_
 refine wpIn_ret ?_
 cases H
 exact ret_done hF hS (res1 Tryz.results70 (rvt hF)) ⟨p2,c3,p4,c5,rfl,hS.sp [2,3,4] [4,2]⟩
 refine cond_f hF (by kernel_rfl) hb ?_
 refine wpIn_seq_k fun K88 hK88=>?_
 refine wpIn_region_lit ?_
 refine wp 3 [0,3,5,6,22,23,24,37] hF fun a hF=>?_
 refine wpListIn_nil ?_
 refine hK88 _ _ ?_
 refine bif_split H (fun hb H=>?_) (fun hb H=>?_)
 refine cond_t hF (by kernel_rfl) hb ?_
 refine wpIn_region_lit ?_
 refine wp 3 [0,3,5,22,23,24] hF fun a hF=>?_
 refine wpListIn_nil ?_
 exact ⟨_,IntKind.i64.wrap (y71+1),hF.kp [0,3,5,22,23,24],hS.sp [1,2,3,4] [2,3,4],H⟩
 refine cond_f hF (by kernel_rfl) hb ?_
 refine wpIn_skip ?_
 exact ⟨_,y70,hF.kp [0,3,5,22,23,24],hS.sp [1,2,3,4] [2,3,4],H⟩
 rintro a w ⟨κ,y74,hF,hS,H⟩
 unfold M.order_Log_Decide_k2 at H
 refine wpIn_region_lit ?_
 refine wp 2 [0,3,5,22,23,24] hF fun a hF=>?_
 refine wpListIn_nil ?_
 exact ⟨fuel1,Nat.lt_succ_self _,_,y74,IntKind.i64.wrap (y71+1),hF.kp [0,3,5,22,23,24],hS.sp (rg 4) [0,1,2],H⟩
 refine cond_f hF (by kernel_rfl) hb ?_
 refine wpIn_exit ?_
 refine hK18 _ _ ?_
 refine wpIn_seq_k fun K89 hK89=>?_
 refine rgS hS [] ?_
 have hS:=hS.drew
 refine bind_split H (fun x90 hx90 H=>?_)
 refine bind_split H (fun x93 hx93 H=>?_)
 refine bind_split H (fun x96 hx96 H=>?_)
 refine bind_split H (fun x100 hx100 H=>?_)
 refine any_pure [0,1,2,4] [0,3,5,45,47] (L':=[(0,pt b6 0),(3,pt b11 0),(5,vi y70),(45,pt b6 1),(47,vi y70)]) (listed':=(bitA 12 23)) (fuel:=8) hF (hS.sx [0,1] [0,1,2]) (by kernel_rfl) (by intro c a w t v h; cases t<;>exact h) (by kernel_rfl) rfl fun a hF=>?_
 refine atk 3 (some 46) hF (hS.sx [0,1] [0,1,2]) rfl (vld 1 1 0) fun a hF=>?_
 obtain ⟨p91,c92,hvx90,hrx90⟩:=slice_val Tryz.prog t_api_Rec (L:=[(0,pt b6 0),(3,pt b11 0),(5,vi y70),(45,pt b6 1),(46,.slice p4 (a1.waiting).length c5),(47,vi y70)]) (o:=⟨(some 48),(Go.Op.slice 112 (Go.Operand.tmp 46) none (some (Go.Operand.tmp 47)) none),112,"order.go:46",#[(Go.Edge.mk 3 Go.Ground.data),(Go.Edge.mk 4 Go.Ground.data)],none⟩) (E:=135) (lo:=0) (hi:=y70) rfl (hS.get 0 rfl:Ro t_api_Rec _ _ p4 c5 a1.waiting).1 rfl rfl rfl ⟨_,rfl⟩ hx90 (by kernel_rfl) (by kernel_rfl)
 have hS:=hS.add (m:=Ro.mp t_api_Rec p91 c92 x90) (hrx90 _ _ (hS.get 0 rfl))
 refine atk 5 (some 48) hF (hS.sx [0,1] [1,2,3]) rfl (fun w _=>hvx90 w) fun a hF=>?_
 refine atk 7 (some 50) hF (hS.sx [0,1] [1,2,3]) rfl (vls 0 0 4) fun a hF=>?_
 refine ago 6 hF rfl ?_
 have hS:=hS.add (m:=Ro.mp t_api_Rec none 0 ([]:List T_api_Rec)) (Ro.nil t_api_Rec _ _)
 have hS:=hS.addNil 135 4
 refine wo_append (ty:=t_api_Rec) hF hS (by kernel_rfl) 0 0 1 rfl rfl rfl (by kernel_rfl) (by kernel_rfl) rfl rfl rfl hx93 (by kernel_rfl) (i:=Tryz.t135) (z := .agg (flat [su 0,si 0,si 0,sl none 0 0]).toArray) (by kernel_rfl) (by kernel_rfl) (by kernel_rfl) fun p94 c95 κ a w hF hS=>?_
 refine ⟨fun _=>(hS.sx [1,2] [3,4,5]),?_⟩
 refine ago 8 hF rfl ?_
 refine wo_callP hF hS (by kernel_rfl) (by kernel_rfl) (C_order_Copy N hS.fresh (T_api_Rec.mk a7.TS a7.DC a7.Tx a7.Vers) p8 c9 ((hS.pick [4] (by kernel_rfl)).ro) hx96) ?_
 rintro _ κ w a ⟨p97,c98,rfl,hR,hN⟩ hF hS hO
 have hS:=hS.adds hR
 have hS:=hS.addC hO hN
 refine ⟨fun _=>(hS.sx [2,3] [4,5,6]),?_⟩
 refine ago 9 hF rfl ?_
 refine wo_build1 (t:=t_api_Rec) (y:=(T_api_Rec.mk x96.TS x96.DC x96.Tx x96.Vers)) (v := .agg (flat [su x96.TS,si x96.DC,si x96.Tx,sl p97 (x96.Vers).length c98]).toArray) (z := .agg (flat [su 0,si 0,si 0,sl none 0 0]).toArray) (cells:=(flat [su x96.TS,si x96.DC,si x96.Tx,sl p97 (x96.Vers).length c98]).toArray) (E:=135) hF hS (by kernel_rfl) rfl (by kernel_rfl) ⟨(p97,c98),rfl,(hS.pick [0] (by kernel_rfl)).ro⟩ (by kernel_rfl) (by kernel_rfl) (by kernel_rfl) (by kernel_rfl) (by kernel_rfl) fun p99 κ a w hF hS=>?_
 refine ⟨fun _=>(hS.sx [3,4] [5,6,7]),?_⟩
 refine ago 10 hF rfl ?_
 refine wo_append (ty:=t_api_Rec) hF hS (by kernel_rfl) 2 2 0 rfl rfl rfl (by kernel_rfl) (by kernel_rfl) rfl rfl rfl hx100 (by kernel_rfl) (i:=Tryz.t135) (z := .agg (flat [su 0,si 0,si 0,sl none 0 0]).toArray) (by kernel_rfl) (by kernel_rfl) (by kernel_rfl) fun p101 c102 κ a w hF hS=>?_
 refine ⟨fun _=>(hS.sx [3,4] [6,7,8]),?_⟩
 refine anp [11] [0,5,9] hF (hS.sx [3,4] [6,7,8]) fun a hF=>?_
 refine and_ ?_
 refine hK89 _ _ ?_
 refine wpIn_seq_k fun K103 hK103=>?_
 refine wpIn_region_lit ?_
 refine wp 5 [5,54,55,58] hF fun a hF=>?_
 refine wc (wld hF hS 4 1 0 fun a hF=>?_)
 refine wl_pure (L':=[(54,pt b6 0),(55,.slice p101 (x100).length c102),(59,.slice p4 (a1.waiting).length c5),(60,vi y70)]) 1 [54,55,59,60] hF (by kernel_rfl) fun a hF=>?_
 refine bind_split H (fun x104 hx104 H=>?_)
 refine wc (wo_sliceTok hF hS (by kernel_rfl) 6 6 rfl rfl rfl rfl rfl rfl hx104 (by kernel_rfl) (by kernel_rfl) fun p105 c106 a hF hS=>?_)
 refine bind_split H (fun x107 hx107 H=>?_)
 refine wc (wo_append (ty:=t_api_Rec) hF hS (by kernel_rfl) 2 1 0 rfl rfl rfl (by kernel_rfl) (by kernel_rfl) rfl rfl rfl hx107 (by kernel_rfl) (i:=Tryz.t135) (z := .agg (flat [su 0,si 0,si 0,sl none 0 0]).toArray) (by kernel_rfl) (by kernel_rfl) (by kernel_rfl) fun p108 c109 κ a w hF hS=>?_)
 refine wp 2 [62,64] hF fun a hF=>?_
 refine wc (wst hF hS 4 1 1 [sl p108 (x107).length c109] (sgN 1 sgNil) fun a w hF hS=>?_)
 refine wpListIn_nil ?_
 refine hK103 _ _ ?_
 refine wpIn_seq_k fun K110 hK110=>?_
 refine wpIn_region_lit ?_
 refine wp 1 [4] hF fun a hF=>?_
 refine wpListIn_nil ?_
 refine hK110 _ _ ?_
 refine wpIn_ret ?_
 cases H
 exact ret_done hF hS (res1 Tryz.results70 (rvt hF)) ⟨p2,c3,p108,c109,rfl,hS.sp [4,5,2] [10,0]⟩
set_option maxRecDepth 20000 in
set_option maxHeartbeats 8000000 in
theorem C_order_Log_Release (N:Nat){Ms:List Nat}{κ0:Gh}{w0:World}(a1:T_order_Log)(a7:Int)(p2:Option Addr)(c3:Nat)(p4:Option Addr)(c5:Nat)(b6:Nat)(hB:SB Ms κ0 w0 [.box b6 166 [sl p2 (a1.list).length c3,sl p4 (a1.waiting).length c5,su a1.bound],.tok p2 135 4 (a1.list).length c3,.tok p4 135 4 (a1.waiting).length c5] [Ro.mp t_api_Rec p2 c3 a1.list,Ro.mp t_api_Rec p4 c5 a1.waiting]){r:(Int×T_order_Log)}(H:M.order_Log_Release N a1 a7=some r) :
    Calls Tryz.prog 107 #[pt b6 0,vu a7] w0 (Post Ms κ0 w0 fun v κ w => ∃(p86:Option Addr) (c87:Nat) (p88:Option Addr) (c89:Nat),v=vi r.1∧SS Ms κ0 w0 κ w [.box b6 166 [sl p86 (r.2.list).length c87,sl p88 (r.2.waiting).length c89,su r.2.bound],.tok p86 135 4 (r.2.list).length c87,.tok p88 135 4 (r.2.waiting).length c89] [Ro.mp t_api_Rec p86 c87 r.2.list,Ro.mp t_api_Rec p88 c89 r.2.waiting]):=by
 have hS:=hB.hS
 have hfr:=hS.fresh
 refine enter (N:=(65)) (L:=[(0,pt b6 0),(1,vu a7)]) Tryz.func107 rfl Tryz.ntmps107 (show 2≤(65) by decide) rfl fun a hF=>?_
 unfold M.order_Log_Release at H
 refine wpIn_seq_k fun K8 hK8=>?_
 refine wpIn_region_lit ?_
 refine wp 1 [0,1] hF fun a hF=>?_
 refine wpListIn_nil ?_
 refine hK8 _ _ ?_
 refine wpIn_seq_k fun K9 hK9=>?_
 refine wpIn_seq_k fun K10 hK10=>?_
 refine wpIn_region_lit ?_
 refine wp 2 [0,1,7] hF fun a hF=>?_
 refine wpListIn_nil ?_
 refine hK10 _ _ ?_
 refine cond_f hF (by kernel_rfl) rfl ?_
 refine wpIn_skip ?_
 refine hK9 _ _ ?_
 refine wpIn_seq_k fun K11 hK11=>?_
 refine wpIn_region_lit ?_
 refine wp 4 [0,1,8,11] hF fun a hF=>?_
 refine wc (wld hF hS 0 2 0 fun a hF=>?_)
 refine wp 4 [0,14,16] hF fun a hF=>?_
 refine wc (wst hF hS 0 2 1 [su (if a7 > a1.bound then a7 else a1.bound)] (sgN 1 sgNil) fun a w hF hS=>?_)
 refine wpListIn_nil ?_
 refine hK11 _ _ ?_
 refine wpIn_seq_k fun K12 hK12=>?_
 refine wpIn_region_lit ?_
 refine wp 1 [0,5] hF fun a hF=>?_
 refine wpListIn_nil ?_
 refine hK12 _ _ ?_
 refine wpIn_seq_k fun K13 hK13=>?_
 refine wpIn_block ?_
 refine loop_fuel (n:=N) (fun n a w => ∃(κ:Gh) (y64:Int),Fr (65) [] [(0,pt b6 0),(5,vi y64)] a∧SS Ms κ0 w0 κ w [.box b6 166 [sl p2 (a1.list).length c3,sl p4 (a1.waiting).length c5,su (if a7 > a1.bound then a7 else a1.bound)],.tok p2 135 4 (a1.list).length c3,.tok p4 135 4 (a1.waiting).length c5] [Ro.mp t_api_Rec p2 c3 a1.list,Ro.mp t_api_Rec p4 c5 a1.waiting]∧M.order_Log_Release_L1 N n a1 a7 y64=some r) ?_ ?_
 exact ⟨_,0,hF.kp [0,5],hS.sp [0,1,2] [0,1],H⟩
 rintro n a w ⟨κ,y64,hF,hS,H⟩
 rcases n with _|fuel1
 simp [M.order_Log_Release_L1] at H
 simp only [M.order_Log_Release_L1] at H
 refine wpIn_seq_k fun K65 hK65=>?_
 refine wpIn_seq_k fun K66 hK66=>?_
 refine bind_split H (fun v68 hv68 H=>?_)
 refine code_join (fun a w => ∃κ:Gh,Fr (65) [] [(0,pt b6 0),(5,vi y64),(38,vb v68)] a∧SS Ms κ0 w0 κ w [.box b6 166 [sl p2 (a1.list).length c3,sl p4 (a1.waiting).length c5,su (if a7 > a1.bound then a7 else a1.bound)],.tok p2 135 4 (a1.list).length c3,.tok p4 135 4 (a1.waiting).length c5] [Ro.mp t_api_Rec p2 c3 a1.list,Ro.mp t_api_Rec p4 c5 a1.waiting]∧True) ?_ ?_
 refine rgS hS [] ?_
 have hS:=hS.drew
 refine anp (rg 4) [0,5,17,20] hF (hS.sx [0] [0,1]) fun a hF=>?_
 refine atk 4 (some 21) hF (hS.sx [0] [0,1]) rfl (vld 0 1 0) fun a hF=>?_
 refine anp [5,6,7] [0,5,24] hF (hS.sx [0] [0,1]) fun a hF=>?_
 refine bif_split hv68 (fun hb hv68=>?_) (fun hb hv68=>?_)
 have hF:=hF.boolv 24 (by kernel_rfl) hb
 refine any_pure [8,9,10,12,16,17,18] [0,5,24,27,29,35] (L':=[(0,pt b6 0),(5,vi y64),(24,vb true),(27,pt b6 1),(29,vi y64),(35,pt b6 2)]) (listed':=(bitA 22 464895)) (fuel:=7) hF (hS.sx [0] [0,1]) (by kernel_rfl) (by intro c a w t v h; cases t<;>exact h) (by kernel_rfl) rfl fun a hF=>?_
 refine atk 11 (some 28) hF (hS.sx [0] [0,1]) rfl (vld 0 1 0) fun a hF=>?_
 refine bind_split hv68 (fun x69 hx69 hv68=>?_)
 obtain ⟨b70,f71,hpx69⟩:=hS.ptr 1 rfl hx69
 refine atk 13 (some 30) hF (hS.sx [0] [0,1]) rfl (fun w _=>val_index (E:=135) (sz:=4) rfl hpx69 rfl (by kernel_rfl) rfl hx69 (by kernel_rfl) (by kernel_rfl) w) fun a hF=>?_
 refine any_pure [14] [0,5,24,31,35] (L':=[(0,pt b6 0),(5,vi y64),(24,vb true),(31,.pointer (some ⟨b70,(f71+Int.toNat y64*4),none⟩)),(35,pt b6 2)]) (listed':=(bitA 22 491519)) (fuel:=4) hF (hS.sx [0] [0,1]) (by kernel_rfl) (by intro c a w t v h; cases t<;>exact h) (by kernel_rfl) rfl fun a hF=>?_
 refine atk 15 (some 32) hF (hS.sx [0] [0,1]) rfl (val_loadRoF (t:=t_api_Rec) 1 0 (v:=vu x69.TS) rfl rfl hpx69 rfl hx69 (by kernel_rfl) (by rintro _ _ _ ⟨_,rfl,-⟩; rfl) (by kernel_rfl)) fun a hF=>?_
 refine atk 19 (some 36) hF (hS.sx [0] [0,1]) rfl (vld 0 2 0) fun a hF=>?_
 refine anp [20,21] [0,5,38] hF (hS.sx [0] [0,1]) fun a hF=>?_
 refine and_ ?_
 cases hv68
 exact ⟨_,hF.kp [0,5,38],hS.sp [0,1,2] [0,1],trivial⟩
 have hF:=hF.boolv 24 (by kernel_rfl) hb
 refine anp [8,9,10,11,12,13,14,15,16,17,18,19,20,21] [0,5,38] hF (hS.sx [0] [0,1]) fun a hF=>?_
 refine and_ ?_
 cases hv68
 exact ⟨_,hF.kp [0,5,38],hS.sp [0,1,2] [0,1],trivial⟩
 rintro a w ⟨κ,hF,hS,-⟩
 refine hK66 _ _ ?_
 refine bif_split H (fun hb H=>?_) (fun hb H=>?_)
 refine cond_t hF (by kernel_rfl) hb ?_
 refine wpIn_skip ?_
 refine hK65 _ _ ?_
 refine wpIn_block ?_
 refine wpIn_region_lit ?_
 refine wp 3 [0,5] hF fun a hF=>?_
 refine wpListIn_nil ?_
 exact ⟨fuel1,Nat.lt_succ_self _,_,IntKind.i64.wrap (y64+1),hF.kp [0,5],hS.sp [0,1,2] [0,1],H⟩
 refine cond_f hF (by kernel_rfl) hb ?_
 refine wpIn_exit ?_
 refine hK13 _ _ ?_
 refine wpIn_seq_k fun K74 hK74=>?_
 refine rgS hS [14] ?_
 have hS:=hS.drew
 refine any_pure [0,1,2,3,5,6,7,9] [0,5,41,44,48,50] (L':=[(0,pt b6 0),(5,vi y64),(41,pt b6 0),(44,pt b6 0),(48,pt b6 1),(50,vi y64)]) (listed':=(bitA 15 751)) (fuel:=7) hF (hS.sx [0] [0,1]) (by kernel_rfl) (by intro c a w t v h; cases t<;>exact h) (by kernel_rfl) rfl fun a hF=>?_
 refine atk 4 (some 45) hF (hS.sx [0] [0,1]) rfl (vld 0 0 0) fun a hF=>?_
 refine atk 8 (some 49) hF (hS.sx [0] [0,1]) rfl (vld 0 1 0) fun a hF=>?_
 refine bind_split H (fun x75 hx75 H=>?_)
 obtain ⟨p76,c77,hvx75,hrx75⟩:=slice_val Tryz.prog t_api_Rec (L:=[(0,pt b6 0),(5,vi y64),(41,pt b6 0),(44,pt b6 0),(45,.slice p2 (a1.list).length c3),(48,pt b6 1),(49,.slice p4 (a1.waiting).length c5),(50,vi y64)]) (o:=⟨(some 51),(Go.Op.slice 112 (Go.Operand.tmp 49) none (some (Go.Operand.tmp 50)) none),112,"order.go:61",#[(Go.Edge.mk 8 Go.Ground.data),(Go.Edge.mk 9 Go.Ground.data)],none⟩) (E:=135) (lo:=0) (hi:=y64) rfl (hS.get 1 rfl:Ro t_api_Rec _ _ p4 c5 a1.waiting).1 rfl rfl rfl ⟨_,rfl⟩ hx75 (by kernel_rfl) (by kernel_rfl)
 have hS:=hS.add (m:=Ro.mp t_api_Rec p76 c77 x75) (hrx75 _ _ (hS.get 1 rfl))
 refine atk 10 (some 51) hF (hS.sx [0] [1,2]) rfl (fun w _=>hvx75 w) fun a hF=>?_
 refine ago 11 hF rfl ?_
 refine bind_split H (fun x78 hx78 H=>?_)
 refine wo_append (ty:=t_api_Rec) hF hS (by kernel_rfl) 1 1 0 rfl rfl rfl (by kernel_rfl) (by kernel_rfl) rfl rfl rfl hx78 (by kernel_rfl) (i:=Tryz.t135) (z := .agg (flat [su 0,si 0,si 0,sl none 0 0]).toArray) (by kernel_rfl) (by kernel_rfl) (by kernel_rfl) fun p79 c80 κ a w hF hS=>?_
 refine ⟨fun _=>(hS.sx [0] [2,3]),?_⟩
 refine anp [12,13] [0,5,52,54] hF (hS.sx [0] [2,3]) fun a hF=>?_
 refine ago 14 hF rfl ?_
 refine wst hF hS 0 0 1 [sl p79 (x78).length c80] (sgN 1 sgNil) fun a w hF hS=>?_
 refine ⟨notE,?_⟩
 refine and_ ?_
 refine hK74 _ _ ?_
 refine wpIn_seq_k fun K81 hK81=>?_
 refine wpIn_region_lit ?_
 refine wp 4 [5,55,58] hF fun a hF=>?_
 refine wc (wld hF hS 0 1 0 fun a hF=>?_)
 refine wl_pure (L':=[(5,vi y64),(55,pt b6 0),(59,.slice p4 (a1.waiting).length c5),(60,vi y64)]) 1 [5,55,59,60] hF (by kernel_rfl) fun a hF=>?_
 refine bind_split H (fun x82 hx82 H=>?_)
 refine wc (wo_sliceTok hF hS (by kernel_rfl) 3 2 rfl rfl rfl rfl rfl rfl hx82 (by kernel_rfl) (by kernel_rfl) fun p83 c84 a hF hS=>?_)
 refine wp 2 [5,61,63] hF fun a hF=>?_
 refine wc (wst hF hS 0 1 1 [sl p83 (x82).length c84] (sgN 1 sgNil) fun a w hF hS=>?_)
 refine wpListIn_nil ?_
 refine hK81 _ _ ?_
 refine wpIn_seq_k fun K85 hK85=>?_
 refine wpIn_region_lit ?_
 refine wp 2 [4] hF fun a hF=>?_
 refine wpListIn_nil ?_
 refine hK85 _ _ ?_
 refine wpIn_ret ?_
 cases H
 exact ret_done hF hS (res1 Tryz.results107 (rvt hF)) ⟨p79,c80,p83,c84,rfl,hS.sp [0,1,2] [1,0]⟩
end Go.Cf
