/- The walks: each function returns what its model says. Printed by a program of ours. -/
import Derived.Test.YtcplebnnanjngaaGreatZM1
namespace Go.Cf
open Go Go.Proofs
set_option linter.unusedVariables false
set_option maxRecDepth 20000 in
set_option maxHeartbeats 8000000 in
theorem C_api_Place (N:Nat){κ0:Gh}{w0:World}(hfr:Fresh κ0 w0)(a1:Int)(a2:Int)(hR : ∀m∈([]:List MP),m.p κ0 w0){r:(Int)}(H:M.api_Place N a1 a2=some r) :
    Calls Tryz.prog 45 #[vi a1,vi a2] w0 (Post [] κ0 w0 fun v κ w=>v=vi r∧(∀m∈([]:List MP),m.p κ w)∧NewC w0 κ w []):=by
 have hS:=SS.start hfr hR
 refine enter (N:=(11)) (L:=[(0,vi a1),(1,vi a2)]) Tryz.func45 rfl Tryz.ntmps45 (show 2≤(11) by decide) rfl fun a hF=>?_
 unfold M.api_Place at H
 refine wpIn_seq_k fun K3 hK3=>?_
 refine wpIn_region_lit ?_
 refine wp 1 [0,1] hF fun a hF=>?_
 refine wpListIn_nil ?_
 refine hK3 _ _ ?_
 refine wpIn_seq_k fun K4 hK4=>?_
 refine wpIn_region_lit ?_
 refine wp 7 [4] hF fun a hF=>?_
 refine wpListIn_nil ?_
 refine hK4 _ _ ?_
 refine wpIn_ret ?_
 cases H
 exact (ret_done hF hS (res1 Tryz.results45 (rvt hF)) ⟨rfl,(hS.pick [] (by kernel_rfl)).ro,hS.newC [] (by decide) (by kernel_rfl)⟩)
set_option maxRecDepth 20000 in
set_option maxHeartbeats 8000000 in
theorem C_span_Within (N:Nat){κ0:Gh}{w0:World}(hfr:Fresh κ0 w0)(a1:ByteArray)(a2:ByteArray)(a3:ByteArray)(hR : ∀m∈([]:List MP),m.p κ0 w0){r:(Bool)}(H:M.span_Within N a1 a2 a3=some r) :
    Calls Tryz.prog 101 #[.string (a1),.string (a2),.string (a3)] w0 (Post [] κ0 w0 fun v κ w=>v=vb r∧(∀m∈([]:List MP),m.p κ w)∧NewC w0 κ w []):=by
 have hS:=SS.start hfr hR
 refine enter (N:=(19)) (L:=[(0,.string (a1)),(1,.string (a2)),(2,.string (a3))]) Tryz.func101 rfl Tryz.ntmps101 (show 3≤(19) by decide) rfl fun a hF=>?_
 unfold M.span_Within at H
 refine wpIn_seq_k fun K4 hK4=>?_
 refine wpIn_region_lit ?_
 refine wp 1 [0,1,2] hF fun a hF=>?_
 refine wpListIn_nil ?_
 refine hK4 _ _ ?_
 refine wpIn_seq_k fun K5 hK5=>?_
 refine wpIn_region_lit ?_
 refine bind_split H (fun v7 hv7 H=>?_)
 refine wl_join (fun a w => ∃κ:Gh,Fr (19) [] [(6,vb v7)] a∧SS [] κ0 w0 κ w [] []∧True) ?_ ?_
 refine wp 4 [0,2,10] hF fun a hF=>?_
 refine bif_split hv7 (fun hb hv7=>?_) (fun hb hv7=>?_)
 have hF:=hF.boolv 10 (by kernel_rfl) hb
 refine wp 3 [0,2,10,13] hF fun a hF=>?_
 refine bif_split hv7 (fun hb hv7=>?_) (fun hb hv7=>?_)
 have hF:=hF.boolv 13 (by kernel_rfl) hb
 refine wp 6 [6] hF fun a hF=>?_
 refine wpListIn_nil ?_
 cases hv7
 exact ⟨_,hF.kp [6],hS.sp [] [],trivial⟩
 have hF:=hF.boolv 13 (by kernel_rfl) hb
 refine wp 6 [6] hF fun a hF=>?_
 refine wpListIn_nil ?_
 cases hv7
 exact ⟨_,hF.kp [6],hS.sp [] [],trivial⟩
 have hF:=hF.boolv 10 (by kernel_rfl) hb
 refine wp 9 [6] hF fun a hF=>?_
 refine wpListIn_nil ?_
 cases hv7
 exact ⟨_,hF.kp [6],hS.sp [] [],trivial⟩
 rintro a w ⟨κ,hF,hS,-⟩
 refine hK5 _ _ ?_
 refine wpIn_ret ?_
 cases H
 exact (ret_done hF hS (res1 Tryz.results101 (rvt hF)) ⟨rfl,(hS.pick [] (by kernel_rfl)).ro,hS.newC [] (by decide) (by kernel_rfl)⟩)
set_option maxRecDepth 20000 in
set_option maxHeartbeats 8000000 in
theorem C_span_Whole (N:Nat){κ0:Gh}{w0:World}(hfr:Fresh κ0 w0)(a1:Int)(hR : ∀m∈([]:List MP),m.p κ0 w0){r:(T_api_Map)}(H:M.span_Whole N a1=some r) :
    Calls Tryz.prog 25 #[vi a1] w0 (Post [] κ0 w0 fun v κ w => ∃(p6:Option Addr) (c7:Nat) (p8:Option Addr) (c9:Nat),v = .agg (flat [sl p6 (r.Cuts).length c7,sl p8 (r.Nodes).length c9]).toArray∧(∀m∈([Ro.mp fStr.ty p6 c7 r.Cuts,Ro.mp (fInt .i64).ty p8 c9 r.Nodes]:List MP),m.p κ w)∧NewC w0 κ w [.tok p6 9 1 (r.Cuts).length c7,.tok p8 3 1 (r.Nodes).length c9]):=by
 have hS:=SS.start hfr hR
 refine enter (N:=(6)) (L:=[(0,vi a1)]) Tryz.func25 rfl Tryz.ntmps25 (show 1≤(6) by decide) rfl fun a hF=>?_
 unfold M.span_Whole at H
 refine wpIn_seq_k fun K2 hK2=>?_
 refine wpIn_region_lit ?_
 refine wc (wal hF hS [sl none 0 0,sl none 0 0] (sgN 2 sgNil) fun b3 a w hF hS=>?_)
 refine wpListIn_nil ?_
 refine hK2 _ _ ?_
 refine wpIn_seq_k fun K4 hK4=>?_
 refine wpIn_region_lit ?_
 refine wl_pure (L':=[(2,pt b3 0),(3,vi a1)]) 1 [2,3] hF (by kernel_rfl) fun a hF=>?_
 refine wc (wo_buildN (t:=(fInt .i64)) (z:=vi 0) (l:=[a1]) (vs:=[(0,vi a1)]) (cells := #[vi a1]) (E:=3) hF hS (by kernel_rfl) rfl (by kernel_rfl) (by kernel_rfl) rfl (by kernel_rfl) (by kernel_rfl) (by kernel_rfl) (by kernel_rfl) (by kernel_rfl) fun p5 κ a w hF hS=>?_)
 refine wp 1 [2,5] hF fun a hF=>?_
 refine wc (wst hF hS 1 0 2 [sl none 0 0,sl p5 ([a1]).length 1] (sgN 2 sgNil) fun a w hF hS=>?_)
 refine wpListIn_nil ?_
 refine hK4 _ _ ?_
 refine wpIn_ret ?_
 have hS':=hS
 have hS:=hS.add (m:=Ro.mp fStr.ty none 0 ([]:List ByteArray)) (Ro.nil fStr.ty _ _)
 have hS:=hS.addNil 9 1
 cases H
 exact (ret_done hF hS (res1 Tryz.results25 (rvs hF hS' 1 0 2)) ⟨none,0,p5,1,rfl,(hS.pick [0,1] (by kernel_rfl)).ro,hS.newC [0,1] (by decide) (by kernel_rfl)⟩)
set_option maxRecDepth 20000 in
set_option maxHeartbeats 8000000 in
theorem C_span_Find (N:Nat){κ0:Gh}{w0:World}(hfr:Fresh κ0 w0)(a1:T_api_Map)(a6:ByteArray)(p2:Option Addr)(c3:Nat)(p4:Option Addr)(c5:Nat)(hR : ∀m∈([Ro.mp fStr.ty p2 c3 a1.Cuts,Ro.mp (fInt .i64).ty p4 c5 a1.Nodes]:List MP),m.p κ0 w0){r:(Int)}(H:M.span_Find N a1 a6=some r) :
    Calls Tryz.prog 117 #[.agg (flat [sl p2 (a1.Cuts).length c3,sl p4 (a1.Nodes).length c5]).toArray,.string (a6)] w0 (Post [] κ0 w0 fun v κ w=>v=vi r∧(∀m∈([]:List MP),m.p κ w)∧NewC w0 κ w []):=by
 have hS:=SS.start hfr hR
 refine enter (N:=(22)) (L:=[(0,.agg (flat [sl p2 (a1.Cuts).length c3,sl p4 (a1.Nodes).length c5]).toArray),(1,.string (a6))]) Tryz.func117 rfl Tryz.ntmps117 (show 2≤(22) by decide) rfl fun a hF=>?_
 unfold M.span_Find at H
 refine wpIn_seq_k fun K7 hK7=>?_
 refine wpIn_region_lit ?_
 refine wc (wbx hF hS [sl p2 (a1.Cuts).length c3,sl p4 (a1.Nodes).length c5] (sgN 2 sgNil) fun b8 a w hF hS=>?_)
 refine wp 1 [1,2] hF fun a hF=>?_
 refine wpListIn_nil ?_
 refine hK7 _ _ ?_
 refine wpIn_seq_k fun K9 hK9=>?_
 refine wpIn_region_lit ?_
 refine wp 1 [1,2,5] hF fun a hF=>?_
 refine wpListIn_nil ?_
 refine hK9 _ _ ?_
 refine wpIn_seq_k fun K10 hK10=>?_
 refine wpIn_seq_k fun K11 hK11=>?_
 refine wpIn_region_lit ?_
 refine wp 1 [1,5,8] hF fun a hF=>?_
 refine wc (wld hF hS 0 0 0 fun a hF=>?_)
 refine wp 2 [1,5,9,10,11] hF fun a hF=>?_
 refine wpListIn_nil ?_
 refine hK11 _ _ ?_
 refine wpIn_block ?_
 refine loop_fuel (n:=N) (fun n a w => ∃(κ:Gh) (y62 y63:Int),Fr (22) [] [(1,.string (a6)),(5,vi y62),(9,.slice p2 (a1.Cuts).length c3),(10,vi ((a1.Cuts).length:Int)),(11,vi y63)] a∧SS [] κ0 w0 κ w [] [Ro.mp fStr.ty p2 c3 a1.Cuts]∧M.span_Find_L1 N n a1 a6 y62 y63=some r) ?_ ?_
 exact ⟨_,0,0,hF.kp [1,5,9,10,11],hS.sp [] [0],H⟩
 rintro n a w ⟨κ,y62,y63,hF,hS,H⟩
 rcases n with _|fuel1
 simp [M.span_Find_L1] at H
 simp only [M.span_Find_L1] at H
 refine wpIn_seq_k fun K64 hK64=>?_
 refine wpIn_region_lit ?_
 refine wl_pure (L':=[(1,.string (a6)),(5,vi y62),(9,.slice p2 (a1.Cuts).length c3),(10,vi ((a1.Cuts).length:Int)),(11,vi y63),(12,vb (decide (y63<((a1.Cuts).length:Int))))]) 1 [1,5,9,10,11,12] hF (by kernel_rfl) fun a hF=>?_
 refine wpListIn_nil ?_
 refine hK64 _ _ ?_
 refine wpIn_seq_k fun K65 hK65=>?_
 refine bif_split H (fun hb H=>?_) (fun hb H=>?_)
 refine cond_t hF (by kernel_rfl) hb ?_
 refine wpIn_skip ?_
 refine hK65 _ _ ?_
 refine seq_join (fun a w => ∃(κ:Gh) (y66:Int),Fr (22) [] [(1,.string (a6)),(5,vi y66),(9,.slice p2 (a1.Cuts).length c3),(10,vi ((a1.Cuts).length:Int)),(11,vi y63)] a∧SS [] κ0 w0 κ w [] [Ro.mp fStr.ty p2 c3 a1.Cuts]∧M.span_Find_k2 N (M.span_Find_L1 N fuel1) a1 a6 y63 y66=some r) ?_ ?_
 refine wpIn_block ?_
 refine wpIn_seq_k fun K67 hK67=>?_
 refine wpIn_region_lit ?_
 refine bind_split H (fun x68 hx68 H=>?_)
 refine wc (wo_index hF hS (by kernel_rfl) 0 (E:=9) (sz:=1) rfl rfl rfl (by kernel_rfl) rfl hx68 (by kernel_rfl) (by kernel_rfl) fun b69 f70 a hpx68 hF=>?_)
 refine wc (wo_loadRo (t:=fStr) hF hS (by kernel_rfl) 0 0 (v := .string (x68)) rfl rfl hpx68 rfl hx68 (by kernel_rfl) (by kernel_rfl) (by kernel_rfl) fun a hF=>?_)
 refine wp 1 [1,5,7,9,10,11] hF fun a hF=>?_
 refine wpListIn_nil ?_
 refine hK67 _ _ ?_
 refine wpIn_seq_k fun K71 hK71=>?_
 refine wpIn_region_lit ?_
 refine wp 3 [1,5,9,10,11,17] hF fun a hF=>?_
 refine wpListIn_nil ?_
 refine hK71 _ _ ?_
 refine bif_split H (fun hb H=>?_) (fun hb H=>?_)
 refine cond_t hF (by kernel_rfl) hb ?_
 refine wpIn_region_lit ?_
 refine wp 3 [1,5,9,10,11] hF fun a hF=>?_
 refine wpListIn_nil ?_
 exact ⟨_,IntKind.i64.wrap (y62+1),hF.kp [1,5,9,10,11],hS.sp [] [0],H⟩
 refine cond_f hF (by kernel_rfl) hb ?_
 refine wpIn_skip ?_
 exact ⟨_,y62,hF.kp [1,5,9,10,11],hS.sp [] [0],H⟩
 rintro a w ⟨κ,y66,hF,hS,H⟩
 unfold M.span_Find_k2 at H
 refine wpIn_region_lit ?_
 refine wp 2 [1,5,9,10,11] hF fun a hF=>?_
 refine wpListIn_nil ?_
 exact ⟨fuel1,Nat.lt_succ_self _,_,y66,IntKind.i64.wrap (y63+1),hF.kp [1,5,9,10,11],hS.sp [] [0],H⟩
 refine cond_f hF (by kernel_rfl) hb ?_
 refine wpIn_exit ?_
 refine hK10 _ _ ?_
 refine wpIn_seq_k fun K72 hK72=>?_
 refine wpIn_region_lit ?_
 refine wp 2 [4] hF fun a hF=>?_
 refine wpListIn_nil ?_
 refine hK72 _ _ ?_
 refine wpIn_ret ?_
 cases H
 exact (ret_done hF hS (res1 Tryz.results117 (rvt hF)) ⟨rfl,(hS.pick [] (by kernel_rfl)).ro,hS.newC [] (by decide) (by kernel_rfl)⟩)
set_option maxRecDepth 20000 in
set_option maxHeartbeats 8000000 in
theorem C_span_Owner (N:Nat){κ0:Gh}{w0:World}(hfr:Fresh κ0 w0)(a1:T_api_Map)(a6:ByteArray)(p2:Option Addr)(c3:Nat)(p4:Option Addr)(c5:Nat)(hR : ∀m∈([Ro.mp fStr.ty p2 c3 a1.Cuts,Ro.mp (fInt .i64).ty p4 c5 a1.Nodes]:List MP),m.p κ0 w0){r:(Int)}(H:M.span_Owner N a1 a6=some r) :
    Calls Tryz.prog 86 #[.agg (flat [sl p2 (a1.Cuts).length c3,sl p4 (a1.Nodes).length c5]).toArray,.string (a6)] w0 (Post [] κ0 w0 fun v κ w=>v=vi r∧(∀m∈([]:List MP),m.p κ w)∧NewC w0 κ w []):=by
 have hS:=SS.start hfr hR
 refine enter (N:=(19)) (L:=[(0,.agg (flat [sl p2 (a1.Cuts).length c3,sl p4 (a1.Nodes).length c5]).toArray),(1,.string (a6))]) Tryz.func86 rfl Tryz.ntmps86 (show 2≤(19) by decide) rfl fun a hF=>?_
 unfold M.span_Owner at H
 refine wpIn_seq_k fun K7 hK7=>?_
 refine wpIn_region_lit ?_
 refine wc (wbx hF hS [sl p2 (a1.Cuts).length c3,sl p4 (a1.Nodes).length c5] (sgN 2 sgNil) fun b8 a w hF hS=>?_)
 refine wp 1 [1,2] hF fun a hF=>?_
 refine wpListIn_nil ?_
 refine hK7 _ _ ?_
 refine wpIn_seq_k fun K9 hK9=>?_
 refine wpIn_seq_k fun K10 hK10=>?_
 refine wpIn_region_lit ?_
 refine wc (wls hF hS 0 0 2 fun a hF=>?_)
 refine wp 1 [2,6,7] hF fun a hF=>?_
 refine bind_split H (fun x11 hx11 H=>?_)
 refine wc (wo_callP hF hS (by kernel_rfl) (by kernel_rfl) (C_span_Find N hS.fresh (T_api_Map.mk a1.Cuts a1.Nodes) a6 p2 c3 p4 c5 ((hS.pick [0,1] (by kernel_rfl)).ro) hx11) ?_)
 rintro _ κ w a ⟨rfl,hR,hN⟩ hF hS hO
 refine wp 1 [2,5] hF fun a hF=>?_
 refine wpListIn_nil ?_
 refine hK10 _ _ ?_
 refine wpIn_seq_k fun K12 hK12=>?_
 refine wpIn_region_lit ?_
 refine wp 2 [2,5,9,10] hF fun a hF=>?_
 refine wc (wld hF hS 0 1 0 fun a hF=>?_)
 refine wp 2 [2,5,13] hF fun a hF=>?_
 refine wpListIn_nil ?_
 refine hK12 _ _ ?_
 refine bif_split H (fun hb H=>?_) (fun hb H=>?_)
 refine cond_t hF (by kernel_rfl) hb ?_
 refine wpIn_seq_k fun K13 hK13=>?_
 refine wpIn_region_lit ?_
 refine wp 1 [5,14] hF fun a hF=>?_
 refine wc (wld hF hS 0 1 0 fun a hF=>?_)
 refine wl_pure (L':=[(15,.slice p4 (a1.Nodes).length c5),(16,vi x11)]) 1 [15,16] hF (by kernel_rfl) fun a hF=>?_
 refine bind_split H (fun x14 hx14 H=>?_)
 refine wc (wo_index hF hS (by kernel_rfl) 1 (E:=3) (sz:=1) rfl rfl rfl (by kernel_rfl) rfl hx14 (by kernel_rfl) (by kernel_rfl) fun b15 f16 a hpx14 hF=>?_)
 refine wc (wo_loadRo (t:=(fInt .i64)) hF hS (by kernel_rfl) 1 0 (v:=vi x14) rfl rfl hpx14 rfl hx14 (by kernel_rfl) (by kernel_rfl) (by kernel_rfl) fun a hF=>?_)
 refine wp 1 [4] hF fun a hF=>?_
 refine wpListIn_nil ?_
 refine hK13 _ _ ?_
 refine wpIn_ret ?_
 cases H
 exact (ret_done hF hS (res1 Tryz.results86 (rvt hF)) ⟨rfl,(hS.pick [] (by kernel_rfl)).ro,hS.newC [] (by decide) (by kernel_rfl)⟩)
 refine cond_f hF (by kernel_rfl) hb ?_
 refine wpIn_skip ?_
 refine hK9 _ _ ?_
 refine wpIn_seq_k fun K17 hK17=>?_
 refine wpIn_region_lit ?_
 refine wp 1 [4] hF fun a hF=>?_
 refine wpListIn_nil ?_
 refine hK17 _ _ ?_
 refine wpIn_ret ?_
 cases H
 exact (ret_done hF hS (res1 Tryz.results86 (rvt hF)) ⟨rfl,(hS.pick [] (by kernel_rfl)).ro,hS.newC [] (by decide) (by kernel_rfl)⟩)
set_option maxRecDepth 20000 in
set_option maxHeartbeats 8000000 in
theorem C_span_Check (N:Nat){κ0:Gh}{w0:World}(hfr:Fresh κ0 w0)(a1:T_api_Map)(a6:Int)(p2:Option Addr)(c3:Nat)(p4:Option Addr)(c5:Nat)(hR : ∀m∈([Ro.mp fStr.ty p2 c3 a1.Cuts,Ro.mp (fInt .i64).ty p4 c5 a1.Nodes]:List MP),m.p κ0 w0){r:(Int)}(H:M.span_Check N a1 a6=some r) :
    Calls Tryz.prog 100 #[.agg (flat [sl p2 (a1.Cuts).length c3,sl p4 (a1.Nodes).length c5]).toArray,vi a6] w0 (Post [] κ0 w0 fun v κ w=>v=vi r∧(∀m∈([]:List MP),m.p κ w)∧NewC w0 κ w []):=by
 have hS:=SS.start hfr hR
 refine enter (N:=(70)) (L:=[(0,.agg (flat [sl p2 (a1.Cuts).length c3,sl p4 (a1.Nodes).length c5]).toArray),(1,vi a6)]) Tryz.func100 rfl Tryz.ntmps100 (show 2≤(70) by decide) rfl fun a hF=>?_
 unfold M.span_Check at H
 refine wpIn_seq_k fun K7 hK7=>?_
 refine wpIn_region_lit ?_
 refine wc (wbx hF hS [sl p2 (a1.Cuts).length c3,sl p4 (a1.Nodes).length c5] (sgN 2 sgNil) fun b8 a w hF hS=>?_)
 refine wp 1 [1,2] hF fun a hF=>?_
 refine wpListIn_nil ?_
 refine hK7 _ _ ?_
 refine wpIn_seq_k fun K9 hK9=>?_
 refine wpIn_seq_k fun K10 hK10=>?_
 refine wpIn_region_lit ?_
 refine bind_split H (fun v12 hv12 H=>?_)
 refine wl_join (fun a w => ∃κ:Gh,Fr (70) [] [(1,vi a6),(2,pt b8 0),(14,vb v12)] a∧SS [] κ0 w0 κ w [.box b8 68 [sl p2 (a1.Cuts).length c3,sl p4 (a1.Nodes).length c5]] [Ro.mp fStr.ty p2 c3 a1.Cuts,Ro.mp (fInt .i64).ty p4 c5 a1.Nodes]∧True) ?_ ?_
 refine wp 3 [1,2,11] hF fun a hF=>?_
 refine bif_split hv12 (fun hb hv12=>?_) (fun hb hv12=>?_)
 have hF:=hF.boolv 11 (by kernel_rfl) hb
 refine wp 3 [1,2,14] hF fun a hF=>?_
 refine wpListIn_nil ?_
 cases hv12
 exact ⟨_,hF.kp [1,2,14],hS.sp [0] [0,1],trivial⟩
 have hF:=hF.boolv 11 (by kernel_rfl) hb
 refine wp 3 [1,2,14] hF fun a hF=>?_
 refine wpListIn_nil ?_
 cases hv12
 exact ⟨_,hF.kp [1,2,14],hS.sp [0] [0,1],trivial⟩
 rintro a w ⟨κ,hF,hS,-⟩
 refine hK10 _ _ ?_
 refine bif_split H (fun hb H=>?_) (fun hb H=>?_)
 refine cond_t hF (by kernel_rfl) hb ?_
 refine wpIn_seq_k fun K13 hK13=>?_
 refine wpIn_region_lit ?_
 refine wp 1 [4] hF fun a hF=>?_
 refine wpListIn_nil ?_
 refine hK13 _ _ ?_
 refine wpIn_ret ?_
 cases H
 exact (ret_done hF hS (res1 Tryz.results100 (rvt hF)) ⟨rfl,(hS.pick [] (by kernel_rfl)).ro,hS.newC [] (by decide) (by kernel_rfl)⟩)
 refine cond_f hF (by kernel_rfl) hb ?_
 refine wpIn_skip ?_
 refine hK9 _ _ ?_
 refine wpIn_seq_k fun K14 hK14=>?_
 refine wpIn_seq_k fun K15 hK15=>?_
 refine wpIn_region_lit ?_
 refine wp 1 [1,2,15] hF fun a hF=>?_
 refine wc (wld hF hS 0 1 0 fun a hF=>?_)
 refine wp 2 [1,2,18] hF fun a hF=>?_
 refine wpListIn_nil ?_
 refine hK15 _ _ ?_
 refine bif_split H (fun hb H=>?_) (fun hb H=>?_)
 refine cond_t hF (by kernel_rfl) hb ?_
 refine wpIn_seq_k fun K16 hK16=>?_
 refine wpIn_region_lit ?_
 refine wp 1 [4] hF fun a hF=>?_
 refine wpListIn_nil ?_
 refine hK16 _ _ ?_
 refine wpIn_ret ?_
 cases H
 exact (ret_done hF hS (res1 Tryz.results100 (rvt hF)) ⟨rfl,(hS.pick [] (by kernel_rfl)).ro,hS.newC [] (by decide) (by kernel_rfl)⟩)
 refine cond_f hF (by kernel_rfl) hb ?_
 refine wpIn_skip ?_
 refine hK14 _ _ ?_
 refine wpIn_seq_k fun K17 hK17=>?_
 refine wpIn_seq_k fun K18 hK18=>?_
 refine wpIn_region_lit ?_
 refine wp 1 [1,2,19] hF fun a hF=>?_
 refine wc (wld hF hS 0 1 0 fun a hF=>?_)
 refine wp 2 [1,2,21,22] hF fun a hF=>?_
 refine wc (wld hF hS 0 0 0 fun a hF=>?_)
 refine wp 3 [1,2,26] hF fun a hF=>?_
 refine wpListIn_nil ?_
 refine hK18 _ _ ?_
 refine bif_split H (fun hb H=>?_) (fun hb H=>?_)
 refine cond_t hF (by kernel_rfl) hb ?_
 refine wpIn_seq_k fun K19 hK19=>?_
 refine wpIn_region_lit ?_
 refine wp 1 [4] hF fun a hF=>?_
 refine wpListIn_nil ?_
 refine hK19 _ _ ?_
 refine wpIn_ret ?_
 cases H
 exact (ret_done hF hS (res1 Tryz.results100 (rvt hF)) ⟨rfl,(hS.pick [] (by kernel_rfl)).ro,hS.newC [] (by decide) (by kernel_rfl)⟩)
 refine cond_f hF (by kernel_rfl) hb ?_
 refine wpIn_skip ?_
 refine hK17 _ _ ?_
 refine wpIn_seq_k fun K20 hK20=>?_
 refine wpIn_seq_k fun K21 hK21=>?_
 refine wpIn_region_lit ?_
 refine wp 1 [1,2,27] hF fun a hF=>?_
 refine wc (wld hF hS 0 0 0 fun a hF=>?_)
 refine wp 2 [1,2,28,29,30] hF fun a hF=>?_
 refine wpListIn_nil ?_
 refine hK21 _ _ ?_
 refine wpIn_block ?_
 refine loop_fuel (n:=N) (fun n a w => ∃(κ:Gh) (y72:Int),Fr (70) [] [(1,vi a6),(2,pt b8 0),(28,.slice p2 (a1.Cuts).length c3),(29,vi ((a1.Cuts).length:Int)),(30,vi y72)] a∧SS [] κ0 w0 κ w [.box b8 68 [sl p2 (a1.Cuts).length c3,sl p4 (a1.Nodes).length c5]] [Ro.mp fStr.ty p2 c3 a1.Cuts,Ro.mp (fInt .i64).ty p4 c5 a1.Nodes]∧M.span_Check_L1 N n a1 a6 y72=some r) ?_ ?_
 exact ⟨_,0,hF.kp [1,2,28,29,30],hS.sp [0] [0,1],H⟩
 rintro n a w ⟨κ,y72,hF,hS,H⟩
 rcases n with _|fuel1
 simp [M.span_Check_L1] at H
 simp only [M.span_Check_L1] at H
 refine wpIn_seq_k fun K73 hK73=>?_
 refine wpIn_region_lit ?_
 refine wp 1 [1,2,28,29,30,31] hF fun a hF=>?_
 refine wpListIn_nil ?_
 refine hK73 _ _ ?_
 refine wpIn_seq_k fun K74 hK74=>?_
 refine bif_split H (fun hb H=>?_) (fun hb H=>?_)
 refine cond_t hF (by kernel_rfl) hb ?_
 refine wpIn_skip ?_
 refine hK74 _ _ ?_
 refine wpIn_seq_k fun K75 hK75=>?_
 refine wpIn_block ?_
 refine wpIn_seq_k fun K76 hK76=>?_
 refine wpIn_region_lit ?_
 refine wl_pure (L':=[(1,vi a6),(2,pt b8 0),(28,.slice p2 (a1.Cuts).length c3),(29,vi ((a1.Cuts).length:Int)),(30,vi y72),(32,vi y72)]) 1 [1,2,28,29,30,32] hF (by kernel_rfl) fun a hF=>?_
 refine bind_split H (fun x77 hx77 H=>?_)
 refine wc (wo_index hF hS (by kernel_rfl) 0 (E:=9) (sz:=1) rfl rfl rfl (by kernel_rfl) rfl hx77 (by kernel_rfl) (by kernel_rfl) fun b78 f79 a hpx77 hF=>?_)
 refine wc (wo_loadRo (t:=fStr) hF hS (by kernel_rfl) 0 0 (v := .string (x77)) rfl rfl hpx77 rfl hx77 (by kernel_rfl) (by kernel_rfl) (by kernel_rfl) fun a hF=>?_)
 refine wp 2 [1,2,5,6,28,29,30] hF fun a hF=>?_
 refine wpListIn_nil ?_
 refine hK76 _ _ ?_
 refine wpIn_seq_k fun K80 hK80=>?_
 refine wpIn_seq_k fun K81 hK81=>?_
 refine wpIn_region_lit ?_
 refine wp 3 [1,2,5,6,28,29,30,37] hF fun a hF=>?_
 refine wpListIn_nil ?_
 refine hK81 _ _ ?_
 refine bif_split H (fun hb H=>?_) (fun hb H=>?_)
 refine cond_t hF (by kernel_rfl) hb ?_
 refine wpIn_seq_k fun K82 hK82=>?_
 refine wpIn_region_lit ?_
 refine wp 1 [4] hF fun a hF=>?_
 refine wpListIn_nil ?_
 refine hK82 _ _ ?_
 refine wpIn_ret ?_
 cases H
 exact (ret_done hF hS (res1 Tryz.results100 (rvt hF)) ⟨rfl,(hS.pick [] (by kernel_rfl)).ro,hS.newC [] (by decide) (by kernel_rfl)⟩)
 refine cond_f hF (by kernel_rfl) hb ?_
 refine wpIn_skip ?_
 refine hK80 _ _ ?_
 refine wpIn_seq_k fun K83 hK83=>?_
 refine wpIn_region_lit ?_
 refine bind_split H (fun v85 hv85 H=>?_)
 refine wl_join (fun a w => ∃κ:Gh,Fr (70) [] [(1,vi a6),(2,pt b8 0),(28,.slice p2 (a1.Cuts).length c3),(29,vi ((a1.Cuts).length:Int)),(30,vi y72),(53,vb v85)] a∧SS [] κ0 w0 κ w [.box b8 68 [sl p2 (a1.Cuts).length c3,sl p4 (a1.Nodes).length c5]] [Ro.mp fStr.ty p2 c3 a1.Cuts,Ro.mp (fInt .i64).ty p4 c5 a1.Nodes]∧True) ?_ ?_
 refine wp 3 [1,2,5,6,28,29,30,40] hF fun a hF=>?_
 refine bif_split hv85 (fun hb hv85=>?_) (fun hb hv85=>?_)
 have hF:=hF.boolv 40 (by kernel_rfl) hb
 refine wp 13 [1,2,28,29,30,53] hF fun a hF=>?_
 refine wpListIn_nil ?_
 cases hv85
 exact ⟨_,hF.kp [1,2,28,29,30,53],hS.sp [0] [0,1],trivial⟩
 have hF:=hF.boolv 40 (by kernel_rfl) hb
 refine wp 3 [1,2,5,6,28,29,30,40,43] hF fun a hF=>?_
 refine bif_split hv85 (fun hb hv85=>?_) (fun hb hv85=>?_)
 have hF:=hF.boolv 43 (by kernel_rfl) hb
 refine wp 1 [1,2,5,6,28,29,30,40,43,44] hF fun a hF=>?_
 refine wcg hF (wld hF hS 0 0 0 fun a hF=>?_)
 refine wl_pure (L':=[(1,vi a6),(2,pt b8 0),(6,.string (x77)),(28,.slice p2 (a1.Cuts).length c3),(29,vi ((a1.Cuts).length:Int)),(30,vi y72),(40,vb false),(43,vb true),(45,.slice p2 (a1.Cuts).length c3),(47,vi (IntKind.i64.wrap (y72-1)))]) 2 [1,2,6,28,29,30,40,43,45,47] hF (by kernel_rfl) fun a hF=>?_
 refine bind_split hv85 (fun x86 hx86 hv85=>?_)
 refine wcg hF (wo_index hF hS (by kernel_rfl) 0 (E:=9) (sz:=1) rfl rfl rfl (by kernel_rfl) rfl hx86 (by kernel_rfl) (by kernel_rfl) fun b87 f88 a hpx86 hF=>?_)
 refine wcg hF (wo_loadRo (t:=fStr) hF hS (by kernel_rfl) 0 0 (v := .string (x86)) rfl rfl hpx86 rfl hx86 (by kernel_rfl) (by kernel_rfl) (by kernel_rfl) fun a hF=>?_)
 refine wp 4 [1,2,28,29,30,53] hF fun a hF=>?_
 refine wpListIn_nil ?_
 cases hv85
 exact ⟨_,hF.kp [1,2,28,29,30,53],hS.sp [0] [0,1],trivial⟩
 have hF:=hF.boolv 43 (by kernel_rfl) hb
 refine wp 10 [1,2,28,29,30,53] hF fun a hF=>?_
 refine wpListIn_nil ?_
 cases hv85
 exact ⟨_,hF.kp [1,2,28,29,30,53],hS.sp [0] [0,1],trivial⟩
 rintro a w ⟨κ,hF,hS,-⟩
 refine hK83 _ _ ?_
 refine bif_split H (fun hb H=>?_) (fun hb H=>?_)
 refine cond_t hF (by kernel_rfl) hb ?_
 refine wpIn_seq_k fun K89 hK89=>?_
 refine wpIn_region_lit ?_
 refine wp 1 [4] hF fun a hF=>?_
 refine wpListIn_nil ?_
 refine hK89 _ _ ?_
 refine wpIn_ret ?_
 cases H
 exact (ret_done hF hS (res1 Tryz.results100 (rvt hF)) ⟨rfl,(hS.pick [] (by kernel_rfl)).ro,hS.newC [] (by decide) (by kernel_rfl)⟩)
 refine cond_f hF (by kernel_rfl) hb ?_
 refine wpIn_skip ?_
 refine hK75 _ _ ?_
 refine wpIn_region_lit ?_
 refine wp 2 [1,2,28,29,30] hF fun a hF=>?_
 refine wpListIn_nil ?_
 exact ⟨fuel1,Nat.lt_succ_self _,_,IntKind.i64.wrap (y72+1),hF.kp [1,2,28,29,30],hS.sp [0] [0,1],H⟩
 refine cond_f hF (by kernel_rfl) hb ?_
 refine wpIn_exit ?_
 refine hK20 _ _ ?_
 refine wpIn_seq_k fun K90 hK90=>?_
 refine wpIn_seq_k fun K91 hK91=>?_
 refine wpIn_region_lit ?_
 refine wp 1 [1,55] hF fun a hF=>?_
 refine wc (wld hF hS 0 1 0 fun a hF=>?_)
 refine wp 2 [1,56,57,58] hF fun a hF=>?_
 refine wpListIn_nil ?_
 refine hK91 _ _ ?_
 refine wpIn_block ?_
 refine loop_fuel (n:=N) (fun n a w => ∃(κ:Gh) (y142:Int),Fr (70) [] [(1,vi a6),(56,.slice p4 (a1.Nodes).length c5),(57,vi ((a1.Nodes).length:Int)),(58,vi y142)] a∧SS [] κ0 w0 κ w [] [Ro.mp (fInt .i64).ty p4 c5 a1.Nodes]∧M.span_Check_L2 N n a1 a6 y142=some r) ?_ ?_
 exact ⟨_,0,hF.kp [1,56,57,58],hS.sp [] [1],H⟩
 rintro n a w ⟨κ,y142,hF,hS,H⟩
 rcases n with _|fuel2
 simp [M.span_Check_L2] at H
 simp only [M.span_Check_L2] at H
 refine wpIn_seq_k fun K143 hK143=>?_
 refine wpIn_region_lit ?_
 refine wl_pure (L':=[(1,vi a6),(56,.slice p4 (a1.Nodes).length c5),(57,vi ((a1.Nodes).length:Int)),(58,vi y142),(59,vb (decide (y142<((a1.Nodes).length:Int))))]) 1 [1,56,57,58,59] hF (by kernel_rfl) fun a hF=>?_
 refine wpListIn_nil ?_
 refine hK143 _ _ ?_
 refine wpIn_seq_k fun K144 hK144=>?_
 refine bif_split H (fun hb H=>?_) (fun hb H=>?_)
 refine cond_t hF (by kernel_rfl) hb ?_
 refine wpIn_skip ?_
 refine hK144 _ _ ?_
 refine wpIn_seq_k fun K145 hK145=>?_
 refine wpIn_block ?_
 refine wpIn_seq_k fun K146 hK146=>?_
 refine wpIn_region_lit ?_
 refine bind_split H (fun x147 hx147 H=>?_)
 refine wc (wo_index hF hS (by kernel_rfl) 0 (E:=3) (sz:=1) rfl rfl rfl (by kernel_rfl) rfl hx147 (by kernel_rfl) (by kernel_rfl) fun b148 f149 a hpx147 hF=>?_)
 refine wc (wo_loadRo (t:=(fInt .i64)) hF hS (by kernel_rfl) 0 0 (v:=vi x147) rfl rfl hpx147 rfl hx147 (by kernel_rfl) (by kernel_rfl) (by kernel_rfl) fun a hF=>?_)
 refine wp 1 [1,8,56,57,58] hF fun a hF=>?_
 refine wpListIn_nil ?_
 refine hK146 _ _ ?_
 refine wpIn_seq_k fun K150 hK150=>?_
 refine wpIn_region_lit ?_
 refine bind_split H (fun v152 hv152 H=>?_)
 refine wl_join (fun a w => ∃κ:Gh,Fr (70) [] [(1,vi a6),(56,.slice p4 (a1.Nodes).length c5),(57,vi ((a1.Nodes).length:Int)),(58,vi y142),(68,vb v152)] a∧SS [] κ0 w0 κ w [] [Ro.mp (fInt .i64).ty p4 c5 a1.Nodes]∧True) ?_ ?_
 refine wp 3 [1,8,56,57,58,64] hF fun a hF=>?_
 refine bif_split hv152 (fun hb hv152=>?_) (fun hb hv152=>?_)
 have hF:=hF.boolv 64 (by kernel_rfl) hb
 refine wp 4 [1,56,57,58,68] hF fun a hF=>?_
 refine wpListIn_nil ?_
 cases hv152
 exact ⟨_,hF.kp [1,56,57,58,68],hS.sp [] [0],trivial⟩
 have hF:=hF.boolv 64 (by kernel_rfl) hb
 refine wp 4 [1,56,57,58,68] hF fun a hF=>?_
 refine wpListIn_nil ?_
 cases hv152
 exact ⟨_,hF.kp [1,56,57,58,68],hS.sp [] [0],trivial⟩
 rintro a w ⟨κ,hF,hS,-⟩
 refine hK150 _ _ ?_
 refine bif_split H (fun hb H=>?_) (fun hb H=>?_)
 refine cond_t hF (by kernel_rfl) hb ?_
 refine wpIn_seq_k fun K153 hK153=>?_
 refine wpIn_region_lit ?_
 refine wp 1 [4] hF fun a hF=>?_
 refine wpListIn_nil ?_
 refine hK153 _ _ ?_
 refine wpIn_ret ?_
 cases H
 exact (ret_done hF hS (res1 Tryz.results100 (rvt hF)) ⟨rfl,(hS.pick [] (by kernel_rfl)).ro,hS.newC [] (by decide) (by kernel_rfl)⟩)
 refine cond_f hF (by kernel_rfl) hb ?_
 refine wpIn_skip ?_
 refine hK145 _ _ ?_
 refine wpIn_region_lit ?_
 refine wp 2 [1,56,57,58] hF fun a hF=>?_
 refine wpListIn_nil ?_
 exact ⟨fuel2,Nat.lt_succ_self _,_,IntKind.i64.wrap (y142+1),hF.kp [1,56,57,58],hS.sp [] [0],H⟩
 refine cond_f hF (by kernel_rfl) hb ?_
 refine wpIn_exit ?_
 refine hK90 _ _ ?_
 refine wpIn_seq_k fun K154 hK154=>?_
 refine wpIn_region_lit ?_
 refine wp 1 [4] hF fun a hF=>?_
 refine wpListIn_nil ?_
 refine hK154 _ _ ?_
 refine wpIn_ret ?_
 cases H
 exact (ret_done hF hS (res1 Tryz.results100 (rvt hF)) ⟨rfl,(hS.pick [] (by kernel_rfl)).ro,hS.newC [] (by decide) (by kernel_rfl)⟩)
set_option maxRecDepth 20000 in
set_option maxHeartbeats 8000000 in
theorem C_span_Copy (N:Nat){κ0:Gh}{w0:World}(hfr:Fresh κ0 w0)(a1:T_api_Map)(p2:Option Addr)(c3:Nat)(p4:Option Addr)(c5:Nat)(hR : ∀m∈([Ro.mp fStr.ty p2 c3 a1.Cuts,Ro.mp (fInt .i64).ty p4 c5 a1.Nodes]:List MP),m.p κ0 w0){r:(T_api_Map)}(H:M.span_Copy N a1=some r) :
    Calls Tryz.prog 44 #[.agg (flat [sl p2 (a1.Cuts).length c3,sl p4 (a1.Nodes).length c5]).toArray] w0 (Post [] κ0 w0 fun v κ w => ∃(p16:Option Addr) (c17:Nat) (p18:Option Addr) (c19:Nat),v = .agg (flat [sl p16 (r.Cuts).length c17,sl p18 (r.Nodes).length c19]).toArray∧(∀m∈([Ro.mp fStr.ty p16 c17 r.Cuts,Ro.mp (fInt .i64).ty p18 c19 r.Nodes]:List MP),m.p κ w)∧NewC w0 κ w [.tok p16 9 1 (r.Cuts).length c17,.tok p18 3 1 (r.Nodes).length c19]):=by
 have hS:=SS.start hfr hR
 refine enter (N:=(10)) (L:=[(0,.agg (flat [sl p2 (a1.Cuts).length c3,sl p4 (a1.Nodes).length c5]).toArray)]) Tryz.func44 rfl Tryz.ntmps44 (show 1≤(10) by decide) rfl fun a hF=>?_
 unfold M.span_Copy at H
 refine wpIn_seq_k fun K6 hK6=>?_
 refine wpIn_region_lit ?_
 refine wc (wbx hF hS [sl p2 (a1.Cuts).length c3,sl p4 (a1.Nodes).length c5] (sgN 2 sgNil) fun b7 a w hF hS=>?_)
 refine wc (wal hF hS [sl none 0 0,sl none 0 0] (sgN 2 sgNil) fun b8 a w hF hS=>?_)
 refine wpListIn_nil ?_
 refine hK6 _ _ ?_
 refine wpIn_seq_k fun K9 hK9=>?_
 refine rgS hS [7] ?_
 have hS:=hS.drew
 refine bind_split H (fun x10 hx10 H=>?_)
 refine bind_split H (fun x13 hx13 H=>?_)
 refine any_pure [0,3] [2,3,6] (L':=[(2,pt b8 0),(3,pt b7 0),(6,pt b7 1)]) (listed':=(bitA 8 9)) (fuel:=6) hF (hS.sx [0,1] [0,1]) (by kernel_rfl) (by intro c a w t v h; cases t<;>exact h) (by kernel_rfl) rfl fun a hF=>?_
 refine atk 1 (some 4) hF (hS.sx [0,1] [0,1]) rfl (vld 1 0 0) fun a hF=>?_
 refine atk 4 (some 7) hF (hS.sx [0,1] [0,1]) rfl (vld 1 1 0) fun a hF=>?_
 refine ago 2 hF rfl ?_
 have hS:=hS.add (m:=Ro.mp fStr.ty none 0 ([]:List ByteArray)) (Ro.nil fStr.ty _ _)
 have hS:=hS.addNil 9 1
 refine wo_append (ty:=fStr.ty) hF hS (by kernel_rfl) 0 0 1 rfl rfl rfl (by kernel_rfl) (by kernel_rfl) rfl rfl rfl hx10 (by kernel_rfl) (i:=Tryz.t9) (z := .string (ByteArray.empty)) (by kernel_rfl) (by kernel_rfl) (by kernel_rfl) fun p11 c12 κ a w hF hS=>?_
 refine ⟨fun _=>(hS.sx [1,2] [2,3]),?_⟩
 refine ago 5 hF rfl ?_
 have hS:=hS.add (m:=Ro.mp (fInt .i64).ty none 0 ([]:List Int)) (Ro.nil (fInt .i64).ty _ _)
 have hS:=hS.addNil 3 1
 refine wo_append (ty:=(fInt .i64).ty) hF hS (by kernel_rfl) 0 0 4 rfl rfl rfl (by kernel_rfl) (by kernel_rfl) rfl rfl rfl hx13 (by kernel_rfl) (i:=Tryz.t3) (z:=vi 0) (by kernel_rfl) (by kernel_rfl) (by kernel_rfl) fun p14 c15 κ a w hF hS=>?_
 refine ⟨fun _=>(hS.sx [2,3] [4,5]),?_⟩
 refine anp [6] [2,9] hF (hS.sx [2,3] [4,5]) fun a hF=>?_
 refine ago 7 hF rfl ?_
 refine wst hF hS 2 0 2 [sl p11 (x10).length c12,sl p14 (x13).length c15] (sgN 2 sgNil) fun a w hF hS=>?_
 refine ⟨notE,?_⟩
 refine and_ ?_
 refine hK9 _ _ ?_
 refine wpIn_ret ?_
 have hS':=hS
 cases H
 exact (ret_done hF hS (res1 Tryz.results44 (rvs hF hS' 2 0 2)) ⟨p11,c12,p14,c15,rfl,(hS.pick [2,0] (by kernel_rfl)).ro,hS.newC [1,0] (by decide) (by kernel_rfl)⟩)
set_option maxRecDepth 20000 in
set_option maxHeartbeats 8000000 in
theorem C_span_Shards_1 (N:Nat){σ:Type}{B:σ→Int→T_span_Shard→Option (σ×Bool)}{Y:σ→XF→Prop}{l:Nat}
    (hB : ∀ {s:σ} {x:XF} {κ:Gh} {w:World} (x900:Int) (x901:T_span_Shard) {s':σ} {c:Bool},Y s x→x.p κ w→Fresh κ w→x.bs.Nodup→(∀b∈x.bs,b<w.heap.size)→(∀m∈([]:List MP),m.p κ w)→B s x900 x901=some (s',c)→RoundOk Tryz.prog l Y #[vi x900,.agg (flat [sg x901.Lo,sg x901.Hi,si x901.Node]).toArray] x s' c κ w)
    (a3:T_api_Map) (p4:Option Addr) (c5:Nat) (p6:Option Addr) (c7:Nat) {Ms:List Nat} {κ0:Gh} {w0:World} {p2:XF} {y1:σ} {b8:Nat} (hS:SS Ms κ0 w0 κ0 w0 [.ext p2,.box b8 68 [sl p4 (a3.Cuts).length c5,sl p6 (a3.Nodes).length c7]] [Ro.mp fStr.ty p4 c5 a3.Cuts,Ro.mp (fInt .i64).ty p6 c7 a3.Nodes,MP.const (Y y1 p2)]) {r:σ} (H:M.span_Shards_1 N B a3 y1=some r) :
    Calls Tryz.prog 129 #[.func (.yield l) #[] #[],pt b8 0] w0 (Post Ms κ0 w0 fun _ κ w => ∃x,Y r x∧SS Ms κ0 w0 κ w [.ext x] []):=by
 refine enter (N:=(50)) (L:=[(0,.func (.yield l) #[] #[]),(1,pt b8 0)]) Tryz.func129 rfl Tryz.ntmps129 (show 2≤(50) by decide) rfl fun a hF=>?_
 unfold M.span_Shards_1 at H
 refine wpIn_seq_k fun K9 hK9=>?_
 refine wpIn_seq_k fun K10 hK10=>?_
 refine wpIn_region_lit ?_
 refine wp 1 [0,1,6] hF fun a hF=>?_
 refine wc (wld hF hS 1 1 0 fun a hF=>?_)
 refine wp 2 [0,1,8,9] hF fun a hF=>?_
 refine wc (wld hF hS 1 0 0 fun a hF=>?_)
 refine wp 3 [0,1,13] hF fun a hF=>?_
 refine wpListIn_nil ?_
 refine hK10 _ _ ?_
 refine bif_split H (fun hb H=>?_) (fun hb H=>?_)
 refine cond_t hF (by kernel_rfl) hb ?_
 refine wpIn_ret ?_
 cases H
 exact ret_done hF hS (res0 Tryz.results129) ⟨_,hS.get 2 rfl,(hS.selp [0] (by decide) (by kernel_rfl)).pick [] rfl⟩
 refine cond_f hF (by kernel_rfl) hb ?_
 refine wpIn_skip ?_
 refine hK9 _ _ ?_
 refine wpIn_seq_k fun K11 hK11=>?_
 refine wpIn_region_lit ?_
 refine wp 1 [0,1,14] hF fun a hF=>?_
 refine wc (wld hF hS 1 1 0 fun a hF=>?_)
 refine wp 2 [0,1,15,16,17] hF fun a hF=>?_
 refine wpListIn_nil ?_
 refine hK11 _ _ ?_
 refine wpIn_block ?_
 refine loop_fuel (n:=N) (fun n a w => ∃(κ:Gh) (y62:Int) (y63:σ) (p64:XF),Fr (50) [] [(0,.func (.yield l) #[] #[]),(1,pt b8 0),(15,.slice p6 (a3.Nodes).length c7),(16,vi ((a3.Nodes).length:Int)),(17,vi y62)] a∧SS Ms κ0 w0 κ w [.box b8 68 [sl p4 (a3.Cuts).length c5,sl p6 (a3.Nodes).length c7],.ext p64] [MP.const (Y y63 p64),Ro.mp (fInt .i64).ty p6 c7 a3.Nodes,Ro.mp fStr.ty p4 c5 a3.Cuts]∧M.span_Shards_1_L1 N B n a3 y62 y63=some r) ?_ ?_
 exact ⟨_,0,y1,p2,hF.kp [0,1,15,16,17],hS.sp [1,0] [2,1,0],H⟩
 rintro n a w ⟨κ,y62,y63,p64,hF,hS,H⟩
 rcases n with _|fuel1
 simp [M.span_Shards_1_L1] at H
 simp only [M.span_Shards_1_L1] at H
 refine wpIn_seq_k fun K65 hK65=>?_
 refine wpIn_region_lit ?_
 refine wp 1 [0,1,15,16,17,18] hF fun a hF=>?_
 refine wpListIn_nil ?_
 refine hK65 _ _ ?_
 refine wpIn_seq_k fun K66 hK66=>?_
 refine bif_split H (fun hb H=>?_) (fun hb H=>?_)
 refine cond_t hF (by kernel_rfl) hb ?_
 refine wpIn_skip ?_
 refine hK66 _ _ ?_
 refine wpIn_seq_k fun K67 hK67=>?_
 refine wpIn_block ?_
 refine wpIn_seq_k fun K68 hK68=>?_
 refine wpIn_region_lit ?_
 refine wl_pure (L':=[(0,.func (.yield l) #[] #[]),(1,pt b8 0),(15,.slice p6 (a3.Nodes).length c7),(16,vi ((a3.Nodes).length:Int)),(17,vi y62),(19,vi y62)]) 1 [0,1,15,16,17,19] hF (by kernel_rfl) fun a hF=>?_
 refine bind_split H (fun x69 hx69 H=>?_)
 refine wc (wo_index hF hS (by kernel_rfl) 1 (E:=3) (sz:=1) rfl rfl rfl (by kernel_rfl) rfl hx69 (by kernel_rfl) (by kernel_rfl) fun b70 f71 a hpx69 hF=>?_)
 refine wc (wo_loadRo (t:=(fInt .i64)) hF hS (by kernel_rfl) 1 0 (v:=vi x69) rfl rfl hpx69 rfl hx69 (by kernel_rfl) (by kernel_rfl) (by kernel_rfl) fun a hF=>?_)
 refine wp 2 [0,1,3,4,15,16,17] hF fun a hF=>?_
 refine wpListIn_nil ?_
 refine hK68 _ _ ?_
 refine wpIn_seq_k fun K72 hK72=>?_
 refine wpIn_region_lit ?_
 refine wp 2 [0,1,3,15,16,17,23] hF fun a hF=>?_
 refine wc (wal hF hS [sg ByteArray.empty,sg ByteArray.empty,si 0] (sgN 3 sgNil) fun b73 a w hF hS=>?_)
 refine wc (wst hF hS 0 0 3 [sg ByteArray.empty,sg ByteArray.empty,si x69] (sgN 3 sgNil) fun a w hF hS=>?_)
 refine wpListIn_nil ?_
 refine hK72 _ _ ?_
 refine seq_join (fun a w => ∃(κ:Gh) (y74:ByteArray),Fr (50) [] [(0,.func (.yield l) #[] #[]),(1,pt b8 0),(3,vi y62),(5,pt b73 0),(15,.slice p6 (a3.Nodes).length c7),(16,vi ((a3.Nodes).length:Int)),(17,vi y62)] a∧SS Ms κ0 w0 κ w [.box b73 128 [sg y74,sg ByteArray.empty,si x69],.box b8 68 [sl p4 (a3.Cuts).length c5,sl p6 (a3.Nodes).length c7],.ext p64] [MP.const (Y y63 p64),Ro.mp (fInt .i64).ty p6 c7 a3.Nodes,Ro.mp fStr.ty p4 c5 a3.Cuts]∧M.span_Shards_1_k2 N B (M.span_Shards_1_L1 N B fuel1) a3 y62 y63 x69 y74=some r) ?_ ?_
 refine wpIn_seq_k fun K83 hK83=>?_
 refine wpIn_region_lit ?_
 refine wp 2 [0,1,3,5,15,16,17,25] hF fun a hF=>?_
 refine wpListIn_nil ?_
 refine hK83 _ _ ?_
 refine bif_split H (fun hb H=>?_) (fun hb H=>?_)
 refine cond_t hF (by kernel_rfl) hb ?_
 refine wpIn_region_lit ?_
 refine wp 1 [0,1,3,5,15,16,17,26] hF fun a hF=>?_
 refine wc (wld hF hS 1 0 0 fun a hF=>?_)
 refine wl_pure (L':=[(0,.func (.yield l) #[] #[]),(1,pt b8 0),(3,vi y62),(5,pt b73 0),(15,.slice p6 (a3.Nodes).length c7),(16,vi ((a3.Nodes).length:Int)),(17,vi y62),(27,.slice p4 (a3.Cuts).length c5),(29,vi (IntKind.i64.wrap (y62-1)))]) 2 [0,1,3,5,15,16,17,27,29] hF (by kernel_rfl) fun a hF=>?_
 refine bind_split H (fun x84 hx84 H=>?_)
 refine wc (wo_index hF hS (by kernel_rfl) 2 (E:=9) (sz:=1) rfl rfl rfl (by kernel_rfl) rfl hx84 (by kernel_rfl) (by kernel_rfl) fun b85 f86 a hpx84 hF=>?_)
 refine wc (wo_loadRo (t:=fStr) hF hS (by kernel_rfl) 2 0 (v := .string (x84)) rfl rfl hpx84 rfl hx84 (by kernel_rfl) (by kernel_rfl) (by kernel_rfl) fun a hF=>?_)
 refine wp 1 [0,1,3,5,15,16,17,31,32] hF fun a hF=>?_
 refine wc (wst hF hS 0 0 1 [sg x84] (sgN 1 sgNil) fun a w hF hS=>?_)
 refine wpListIn_nil ?_
 exact ⟨_,x84,hF.kp [0,1,3,5,15,16,17],hS.sp [0,1,2] [0,1,2],H⟩
 refine cond_f hF (by kernel_rfl) hb ?_
 refine wpIn_skip ?_
 exact ⟨_,ByteArray.empty,hF.kp [0,1,3,5,15,16,17],hS.sp [0,1,2] [0,1,2],H⟩
 rintro a w ⟨κ,y74,hF,hS,H⟩
 unfold M.span_Shards_1_k2 at H
 refine seq_join (fun a w => ∃(κ:Gh) (y75:ByteArray),Fr (50) [] [(0,.func (.yield l) #[] #[]),(1,pt b8 0),(3,vi y62),(5,pt b73 0),(15,.slice p6 (a3.Nodes).length c7),(16,vi ((a3.Nodes).length:Int)),(17,vi y62)] a∧SS Ms κ0 w0 κ w [.box b73 128 [sg y74,sg y75,si x69],.box b8 68 [sl p4 (a3.Cuts).length c5,sl p6 (a3.Nodes).length c7],.ext p64] [MP.const (Y y63 p64),Ro.mp (fInt .i64).ty p6 c7 a3.Nodes,Ro.mp fStr.ty p4 c5 a3.Cuts]∧M.span_Shards_1_k3 N B (M.span_Shards_1_L1 N B fuel1) a3 y62 y63 x69 y74 y75=some r) ?_ ?_
 refine wpIn_seq_k fun K79 hK79=>?_
 refine wpIn_region_lit ?_
 refine wp 2 [0,1,3,5,15,16,17,33,34] hF fun a hF=>?_
 refine wc (wld hF hS 1 0 0 fun a hF=>?_)
 refine wp 2 [0,1,3,5,15,16,17,37] hF fun a hF=>?_
 refine wpListIn_nil ?_
 refine hK79 _ _ ?_
 refine bif_split H (fun hb H=>?_) (fun hb H=>?_)
 refine cond_t hF (by kernel_rfl) hb ?_
 refine wpIn_region_lit ?_
 refine wp 1 [0,1,3,5,15,16,17,38] hF fun a hF=>?_
 refine wc (wld hF hS 1 0 0 fun a hF=>?_)
 refine wl_pure (L':=[(0,.func (.yield l) #[] #[]),(1,pt b8 0),(3,vi y62),(5,pt b73 0),(15,.slice p6 (a3.Nodes).length c7),(16,vi ((a3.Nodes).length:Int)),(17,vi y62),(39,.slice p4 (a3.Cuts).length c5),(40,vi y62)]) 1 [0,1,3,5,15,16,17,39,40] hF (by kernel_rfl) fun a hF=>?_
 refine bind_split H (fun x80 hx80 H=>?_)
 refine wc (wo_index hF hS (by kernel_rfl) 2 (E:=9) (sz:=1) rfl rfl rfl (by kernel_rfl) rfl hx80 (by kernel_rfl) (by kernel_rfl) fun b81 f82 a hpx80 hF=>?_)
 refine wc (wo_loadRo (t:=fStr) hF hS (by kernel_rfl) 2 0 (v := .string (x80)) rfl rfl hpx80 rfl hx80 (by kernel_rfl) (by kernel_rfl) (by kernel_rfl) fun a hF=>?_)
 refine wp 1 [0,1,3,5,15,16,17,42,43] hF fun a hF=>?_
 refine wc (wst hF hS 0 1 1 [sg x80] (sgN 1 sgNil) fun a w hF hS=>?_)
 refine wpListIn_nil ?_
 exact ⟨_,x80,hF.kp [0,1,3,5,15,16,17],hS.sp [0,1,2] [0,1,2],H⟩
 refine cond_f hF (by kernel_rfl) hb ?_
 refine wpIn_skip ?_
 exact ⟨_,ByteArray.empty,hF.kp [0,1,3,5,15,16,17],hS.sp [0,1,2] [0,1,2],H⟩
 rintro a w ⟨κ,y75,hF,hS,H⟩
 unfold M.span_Shards_1_k3 at H
 refine wpIn_seq_k fun K76 hK76=>?_
 refine wpIn_region_lit ?_
 refine wl_pure (L':=[(0,.func (.yield l) #[] #[]),(1,pt b8 0),(5,pt b73 0),(15,.slice p6 (a3.Nodes).length c7),(16,vi ((a3.Nodes).length:Int)),(17,vi y62),(44,.func (.yield l) #[] #[]),(45,vi y62)]) 2 [0,1,5,15,16,17,44,45] hF (by kernel_rfl) fun a hF=>?_
 refine wc (wls hF hS 0 0 3 fun a hF=>?_)
 refine bind_split H (fun y77 hy77 H=>?_)
 refine wc (wo_yield (Y:=Y) (s':=y77.1) (c:=y77.2) (x:=p64) (l:=l) (args := #[vi y62,.agg (flat [sg y74,sg y75,si x69]).toArray]) hF hS (by kernel_rfl) 2 rfl (by kernel_rfl) (by kernel_rfl) rfl (fun hp hf hn hl=>hB y62 (T_span_Shard.mk y74 y75 x69) (hS.get 0 rfl) hp hf hn hl ((hS.pick [] (by kernel_rfl)).ro) hy77) fun p78 κ w a hY hF hS=>?_)
 have hS:=hS.add (m:=MP.const (Y y77.1 p78)) hY
 refine wp 1 [0,1,15,16,17,48] hF fun a hF=>?_
 refine wpListIn_nil ?_
 refine hK76 _ _ ?_
 refine bif_split H (fun hb H=>?_) (fun hb H=>?_)
 refine cond_t hF (by kernel_rfl) hb ?_
 refine wpIn_ret ?_
 cases H
 exact ret_done hF hS (res0 Tryz.results129) ⟨_,hS.get 0 rfl,(hS.selp [2] (by decide) (by kernel_rfl)).pick [] rfl⟩
 refine cond_f hF (by kernel_rfl) hb ?_
 refine wpIn_skip ?_
 refine hK67 _ _ ?_
 refine wpIn_region_lit ?_
 refine wp 2 [0,1,15,16,17] hF fun a hF=>?_
 refine wpListIn_nil ?_
 exact ⟨fuel1,Nat.lt_succ_self _,_,IntKind.i64.wrap (y62+1),y77.1,p78,hF.kp [0,1,15,16,17],hS.sp [1,2] [0,2,3],H⟩
 refine cond_f hF (by kernel_rfl) hb ?_
 refine wpIn_exit ?_
 cases H
 exact ret_done hF hS (res0 Tryz.results129) ⟨_,hS.get 0 rfl,(hS.selp [1] (by decide) (by kernel_rfl)).pick [] rfl⟩
set_option maxRecDepth 20000 in
set_option maxHeartbeats 8000000 in
theorem C_span_Shards (N:Nat){κ0:Gh}{w0:World}(hfr:Fresh κ0 w0)(a1:T_api_Map)(p2:Option Addr)(c3:Nat)(p4:Option Addr)(c5:Nat)(hR : ∀m∈([Ro.mp fStr.ty p2 c3 a1.Cuts,Ro.mp (fInt .i64).ty p4 c5 a1.Nodes]:List MP),m.p κ0 w0){r:Unit}(H:M.span_Shards N a1=some r) :
    Calls Tryz.prog 102 #[.agg (flat [sl p2 (a1.Cuts).length c3,sl p4 (a1.Nodes).length c5]).toArray] w0 (Post [] κ0 w0 fun v κ w => ∃b900:Nat,v = .func (.func 129) #[] #[pt b900 0]∧(∀m∈([]:List MP),m.p κ w)∧NewC w0 κ w [.box b900 68 [sl p2 (a1.Cuts).length c3,sl p4 (a1.Nodes).length c5]]):=by
 have hS:=SS.start hfr hR
 refine enter (N:=(4)) (L:=[(0,.agg (flat [sl p2 (a1.Cuts).length c3,sl p4 (a1.Nodes).length c5]).toArray)]) Tryz.func102 rfl Tryz.ntmps102 (show 1≤(4) by decide) rfl fun a hF=>?_
 unfold M.span_Shards at H
 refine wpIn_seq_k fun K6 hK6=>?_
 refine wpIn_region_lit ?_
 refine wc (wbx hF hS [sl p2 (a1.Cuts).length c3,sl p4 (a1.Nodes).length c5] (sgN 2 sgNil) fun b7 a w hF hS=>?_)
 refine wl_pure (L':=[(1,pt b7 0)]) 1 [1] hF (by kernel_rfl) fun a hF=>?_
 refine wpListIn_nil ?_
 refine hK6 _ _ ?_
 refine wpIn_seq_k fun K8 hK8=>?_
 refine wpIn_region_lit ?_
 refine wc (wo_val hF (by kernel_rfl) (v := .func (.func 129) #[] #[pt b7 0]) (val_makeFunc (T':=0) (caps := #[pt b7 0]) rfl (by kernel_rfl) _) fun a hF=>?_)
 refine wp 1 [2] hF fun a hF=>?_
 refine wpListIn_nil ?_
 refine hK8 _ _ ?_
 refine wpIn_ret ?_
 cases H
 exact (ret_done hF hS (res1 Tryz.results102 (rvt hF)) ⟨b7,rfl,(hS.pick [] rfl).ro,hS.newC [0] (by decide) (by kernel_rfl)⟩)
set_option maxRecDepth 20000 in
set_option maxHeartbeats 8000000 in
theorem C_span_At (N:Nat){κ0:Gh}{w0:World}(hfr:Fresh κ0 w0)(a1:T_api_Map)(a6:Int)(p2:Option Addr)(c3:Nat)(p4:Option Addr)(c5:Nat)(hR : ∀m∈([Ro.mp fStr.ty p2 c3 a1.Cuts,Ro.mp (fInt .i64).ty p4 c5 a1.Nodes]:List MP),m.p κ0 w0){r:(T_span_Shard×Bool)}(H:M.span_At N a1 a6=some r) :
    Calls Tryz.prog 63 #[.agg (flat [sl p2 (a1.Cuts).length c3,sl p4 (a1.Nodes).length c5]).toArray,vi a6] w0 (Post [] κ0 w0 fun v κ w=>v = .tuple #[.agg (flat [sg r.1.Lo,sg r.1.Hi,si r.1.Node]).toArray,vb r.2]∧(∀m∈([]:List MP),m.p κ w)∧NewC w0 κ w []):=by
 have hS:=SS.start hfr hR
 refine enterM (N:=(17)) (L:=[(0,.agg (flat [sl p2 (a1.Cuts).length c3,sl p4 (a1.Nodes).length c5]).toArray),(1,vi a6)]) Tryz.func63 rfl Tryz.ntmps63 (show 2≤(17) by decide) rfl fun a hF=>?_
 unfold M.span_At at H
 refine wpIn_seq_k fun K7 hK7=>?_
 refine wpIn_region_lit ?_
 refine wc (wbx hF hS [sl p2 (a1.Cuts).length c3,sl p4 (a1.Nodes).length c5] (sgN 2 sgNil) fun b8 a w hF hS=>?_)
 refine wc (wbx hF hS [si a6] (sgN 1 sgNil) fun b9 a w hF hS=>?_)
 refine wc (wal hF hS [sg ByteArray.empty,sg ByteArray.empty,si 0] (sgN 3 sgNil) fun b10 a w hF hS=>?_)
 refine wc (wal hF hS [sb false] (sgN 1 sgNil) fun b11 a w hF hS=>?_)
 refine wpListIn_nil ?_
 refine hK7 _ _ ?_
 refine wpIn_seq_k fun K12 hK12=>?_
 refine wpIn_seq_k fun K13 hK13=>?_
 refine wpIn_region_lit ?_
 refine wc (wls hF hS 3 0 2 fun a hF=>?_)
 refine bind_split H (fun x14 hx14 H=>?_)
 refine wc (wo_callP hF hS (by kernel_rfl) (by kernel_rfl) (C_span_Shards N hS.fresh (T_api_Map.mk a1.Cuts a1.Nodes) p2 c3 p4 c5 ((hS.pick [0,1] (by kernel_rfl)).ro) hx14) ?_)
 rintro _ κ w a ⟨b15,rfl,hR,hN⟩ hF hS hO
 have hS:=hS.addC hO hN
 refine wpListIn_nil ?_
 refine hK13 _ _ ?_
 refine wpIn_block ?_
 refine bind_split H (fun v78 hv78 H=>?_)
 have hS:SS [] κ0 w0 _ _ [.box b11 4 [sb false],.box b10 128 [sg ByteArray.empty,sg ByteArray.empty,si 0],.box b9 3 [si a6],.box b15 68 [sl p2 (a1.Cuts).length c3,sl p4 (a1.Nodes).length c5]] _:=hS.selp [1,2,3,0] (by decide) (by kernel_rfl)
 refine wp_range' (C:=[.box b11 4 [sb false],.box b10 128 [sg ByteArray.empty,sg ByteArray.empty,si 0],.box b9 3 [si a6]]) (Cap:=[.box b15 68 [sl p2 (a1.Cuts).length c3,sl p4 (a1.Nodes).length c5]]) (R':=[]) (caps := #[pt b15 0]) (f:=129) [.ret] (fun l => #[.func (.yield l) #[] #[],pt b15 0]) hF hS (by kernel_rfl) (fun _ _=>rfl) ((hS.pick [] (by kernel_rfl)).ro) (fun l=>by kernel_rfl) fun b16 l rc w hrc hS=>?_
 refine ⟨fun x=>(fun (v73:(Bool×ByteArray×ByteArray×Int×Nat)) (x:XF)=>x=mkX b16 l (lp rc [.ret] v73.2.2.2.2) [.box b11 4 [sb v73.1],.box b10 128 [sg v73.2.1,sg v73.2.2.1,si v73.2.2.2.1],.box b9 3 [si a6]] []) v78 x,?_,?_⟩
 have hS:=(hS.rebase.add (m:=MP.const ((fun (v73:(Bool×ByteArray×ByteArray×Int×Nat)) (x:XF)=>x=mkX b16 l (lp rc [.ret] v73.2.2.2.2) [.box b11 4 [sb v73.1],.box b10 128 [sg v73.2.1,sg v73.2.2.1,si v73.2.2.2.1],.box b9 3 [si a6]] []) (false,ByteArray.empty,ByteArray.empty,0,0) (mkX b16 l (lp rc [.ret] 0) [.box b11 4 [sb false],.box b10 128 [sg ByteArray.empty,sg ByteArray.empty,si 0],.box b9 3 [si a6]] []))) rfl).pick (R':=[Ro.mp fStr.ty p2 c3 a1.Cuts,Ro.mp (fInt .i64).ty p4 c5 a1.Nodes,MP.const ((fun (v73:(Bool×ByteArray×ByteArray×Int×Nat)) (x:XF)=>x=mkX b16 l (lp rc [.ret] v73.2.2.2.2) [.box b11 4 [sb v73.1],.box b10 128 [sg v73.2.1,sg v73.2.2.1,si v73.2.2.2.1],.box b9 3 [si a6]] []) (false,ByteArray.empty,ByteArray.empty,0,0) (mkX b16 l (lp rc [.ret] 0) [.box b11 4 [sb false],.box b10 128 [sg ByteArray.empty,sg ByteArray.empty,si 0],.box b9 3 [si a6]] []))]) [1,2,0] (by kernel_rfl)
 refine C_span_Shards_1 N (Y:=(fun (v73:(Bool×ByteArray×ByteArray×Int×Nat)) (x:XF)=>x=mkX b16 l (lp rc [.ret] v73.2.2.2.2) [.box b11 4 [sb v73.1],.box b10 128 [sg v73.2.1,sg v73.2.2.1,si v73.2.2.2.1],.box b9 3 [si a6]] [])) (B:=(fun (v73:(Bool×ByteArray×ByteArray×Int×Nat)) x17 x18=>bif (v73.2.2.2.2==0) then (bif (x17==a6) then (some (((true,x18.Lo,x18.Hi,x18.Node,1)),false)) else (some (((v73.1,v73.2.1,v73.2.2.1,v73.2.2.2.1,0)),true))) else none)) (l:=l) ?_ (T_api_Map.mk a1.Cuts a1.Nodes) p2 c3 p4 c5 hS hv78
 rintro v73 _ κ w x17 x18 s' c rfl hp hf hnd hlt hR H
 refine bif_split H (fun hn H=>?_) (fun _ H=>by cases H)
 refine round_at (L:=[(3,pt b9 0),(4,pt b10 0),(5,pt b11 0),(10,vi x17),(11,.agg (flat [sg x18.Lo,sg x18.Hi,si x18.Node]).toArray)]) hp hf hnd hlt hn hrc rfl [3,4,5,10,11] hF (by kernel_rfl) (by kernel_rfl) fun a hF hS=>?_
 have hS:=hS.adds hR
 skip
 refine wpIn_seq_k fun K74 hK74=>?_
 refine wpIn_region_lit ?_
 refine wl_pure (L':=[(3,pt b9 0),(4,pt b10 0),(5,pt b11 0),(6,vi x17),(11,.agg (flat [sg x18.Lo,sg x18.Hi,si x18.Node]).toArray)]) 1 [3,4,5,6,11] hF (by kernel_rfl) fun a hF=>?_
 refine wpListIn_nil ?_
 refine hK74 _ _ ?_
 refine wpIn_region_lit ?_
 refine wc (wal hF hS [sg ByteArray.empty,sg ByteArray.empty,si 0] (sgN 3 sgNil) fun b75 a w hF hS=>?_)
 refine wc (wst hF hS 0 0 3 [sg x18.Lo,sg x18.Hi,si x18.Node] (sgN 3 sgNil) fun a w hF hS=>?_)
 refine wpListIn_nil ?_
 refine ⟨_,_,_,hS,fun wb hS=>?_⟩
 obtain ⟨κb,hκb⟩ : ∃κb,κb=κ:=⟨_,rfl⟩
 subst hκb
 refine wpIn_block ?_
 refine wpIn_seq_k fun K76 hK76=>?_
 refine wpIn_region_lit ?_
 refine wp 1 [3,4,5,7,12] hF fun a hF=>?_
 refine wc (wld hF hS 3 0 0 fun a hF=>?_)
 refine wl_pure (L':=[(3,pt b9 0),(4,pt b10 0),(5,pt b11 0),(7,pt b75 0),(14,vb (x17==a6))]) 1 [3,4,5,7,14] hF (by kernel_rfl) fun a hF=>?_
 refine wpListIn_nil ?_
 refine hK76 _ _ ?_
 refine bif_split H (fun hb H=>?_) (fun hb H=>?_)
 refine cond_t hF (by kernel_rfl) hb ?_
 refine wpIn_seq_k fun K77 hK77=>?_
 refine wpIn_region_lit ?_
 refine wc (wls hF hS 0 0 3 fun a hF=>?_)
 refine wc (wst hF hS 2 0 3 [sg x18.Lo,sg x18.Hi,si x18.Node] (sgN 3 sgNil) fun a w hF hS=>?_)
 refine wc (wst hF hS 1 0 1 [sb true] (sgN 1 sgNil) fun a w hF hS=>?_)
 refine wpListIn_nil ?_
 refine hK77 _ _ ?_
 refine wpIn_ret ?_
 cases H
 try dsimp only [Exit.inBlock,Exit.then]
 repeat rw [if_neg (by decide)]
 refine re_ret [.ret] 0 rfl (C:=[.box b11 4 [sb true],.box b10 128 [sg x18.Lo,sg x18.Hi,si x18.Node],.box b9 3 [si a6]]) (R:=[]) (hS.sp [1,2,3] []) ?_
 exact rfl
 refine cond_f hF (by kernel_rfl) hb ?_
 refine wpIn_skip ?_
 cases H
 try dsimp only [Exit.inBlock,Exit.then]
 repeat rw [if_neg (by decide)]
 refine re_normal [.ret] (C:=[.box b11 4 [sb v73.1],.box b10 128 [sg v73.2.1,sg v73.2.2.1,si v73.2.2.2.1],.box b9 3 [si a6]]) (R:=[]) (hS.sp [1,2,3] []) ?_
 exact rfl
 rintro _ rfl
 refine ⟨_,_,_,rfl,fun κ w a hF hS=>?_⟩
 refine bif_split H (fun hb H=>?_) (fun hb H=>?_)
 refine jumped0 hb ?_
 refine hK12 _ _ ?_
 refine wpIn_seq_k fun K79 hK79=>?_
 refine wpIn_region_lit ?_
 refine wl_pure (L':=[(4,pt b10 0),(5,pt b11 0),(16,.agg (flat [sg ByteArray.empty,sg ByteArray.empty,si 0]).toArray)]) 1 [4,5,16] hF (by kernel_rfl) fun a hF=>?_
 refine wc (wst hF hS 2 0 3 [sg ByteArray.empty,sg ByteArray.empty,si 0] (sgN 3 sgNil) fun a w hF hS=>?_)
 refine wc (wst hF hS 1 0 1 [sb false] (sgN 1 sgNil) fun a w hF hS=>?_)
 refine wpListIn_nil ?_
 refine hK79 _ _ ?_
 refine wpIn_ret ?_
 refine ret_doneM (C':=[.box b11 4 [sb false],.box b10 128 [sg ByteArray.empty,sg ByteArray.empty,si 0],.box b9 3 [si a6]]) hF hS 0 rfl (by kernel_rfl) fun w hS=>?_
 cases H
 exact ⟨_,(res2 Tryz.results63 (rvs hF hS 1 0 3) (rvc hF hS 0 0 0)),⟨rfl,(hS.pick [] (by kernel_rfl)).ro,hS.newC [] (by decide) (by kernel_rfl)⟩⟩
 refine bif_split H (fun hb H=>?_) (fun hb H=>?_)
 refine jumpedS 0 hb rfl ?_
 refine wpIn_ret ?_
 refine ret_doneM (C':=[.box b11 4 [sb v78.1],.box b10 128 [sg v78.2.1,sg v78.2.2.1,si v78.2.2.2.1],.box b9 3 [si a6]]) hF hS 0 rfl (by kernel_rfl) fun w hS=>?_
 cases H
 exact ⟨_,(res2 Tryz.results63 (rvs hF hS 1 0 3) (rvc hF hS 0 0 0)),⟨rfl,(hS.pick [] (by kernel_rfl)).ro,hS.newC [] (by decide) (by kernel_rfl)⟩⟩
 cases H
set_option maxRecDepth 20000 in
set_option maxHeartbeats 8000000 in
theorem C_span_Split (N:Nat){κ0:Gh}{w0:World}(hfr:Fresh κ0 w0)(a1:T_api_Map)(a6:Int)(a7:Int)(a8:ByteArray)(p2:Option Addr)(c3:Nat)(p4:Option Addr)(c5:Nat)(hR : ∀m∈([Ro.mp fStr.ty p2 c3 a1.Cuts,Ro.mp (fInt .i64).ty p4 c5 a1.Nodes]:List MP),m.p κ0 w0){r:(T_api_Map×Int)}(H:M.span_Split N a1 a6 a7 a8=some r) :
    Calls Tryz.prog 60 #[.agg (flat [sl p2 (a1.Cuts).length c3,sl p4 (a1.Nodes).length c5]).toArray,vi a6,vi a7,.string (a8)] w0 (Post [] κ0 w0 fun v κ w => ∃(p77:Option Addr) (c78:Nat) (p79:Option Addr) (c80:Nat),v = .tuple #[.agg (flat [sl p77 (r.1.Cuts).length c78,sl p79 (r.1.Nodes).length c80]).toArray,vi r.2]∧(∀m∈([Ro.mp fStr.ty p77 c78 r.1.Cuts,Ro.mp (fInt .i64).ty p79 c80 r.1.Nodes]:List MP),m.p κ w)∧NewC w0 κ w [.tok p77 9 1 (r.1.Cuts).length c78,.tok p79 3 1 (r.1.Nodes).length c80]):=by
 have hS:=SS.start hfr hR
 refine enter (N:=(89)) (L:=[(0,.agg (flat [sl p2 (a1.Cuts).length c3,sl p4 (a1.Nodes).length c5]).toArray),(1,vi a6),(2,vi a7),(3,.string (a8))]) Tryz.func60 rfl Tryz.ntmps60 (show 4≤(89) by decide) rfl fun a hF=>?_
 unfold M.span_Split at H
 refine wpIn_seq_k fun K9 hK9=>?_
 refine wpIn_region_lit ?_
 refine wc (wbx hF hS [sl p2 (a1.Cuts).length c3,sl p4 (a1.Nodes).length c5] (sgN 2 sgNil) fun b10 a w hF hS=>?_)
 refine wc (wal hF hS [sl none 0 0,sl none 0 0] (sgN 2 sgNil) fun b11 a w hF hS=>?_)
 refine wp 1 [1,2,3,4,8] hF fun a hF=>?_
 refine wpListIn_nil ?_
 refine hK9 _ _ ?_
 refine wpIn_seq_k fun K12 hK12=>?_
 refine wpIn_seq_k fun K13 hK13=>?_
 refine wpIn_region_lit ?_
 refine wc (wls hF hS 1 0 2 fun a hF=>?_)
 refine wp 1 [2,3,4,8,14,15] hF fun a hF=>?_
 refine bind_split H (fun x14 hx14 H=>?_)
 refine wc (wo_callP hF hS (by kernel_rfl) (by kernel_rfl) (C_span_Check N hS.fresh (T_api_Map.mk a1.Cuts a1.Nodes) a6 p2 c3 p4 c5 ((hS.pick [0,1] (by kernel_rfl)).ro) hx14) ?_)
 rintro _ κ w a ⟨rfl,hR,hN⟩ hF hS hO
 refine wp 1 [2,3,4,8,10] hF fun a hF=>?_
 refine wpListIn_nil ?_
 refine hK13 _ _ ?_
 refine wpIn_seq_k fun K15 hK15=>?_
 refine wpIn_region_lit ?_
 refine wp 2 [2,3,4,8,10,18] hF fun a hF=>?_
 refine wpListIn_nil ?_
 refine hK15 _ _ ?_
 refine bif_split H (fun hb H=>?_) (fun hb H=>?_)
 refine cond_t hF (by kernel_rfl) hb ?_
 refine wpIn_seq_k fun K16 hK16=>?_
 refine wpIn_region_lit ?_
 refine wp 2 [8,19,20] hF fun a hF=>?_
 refine wc (wst hF hS 0 0 2 [sl none 0 0,sl none 0 0] (sgN 2 sgNil) fun a w hF hS=>?_)
 refine wp 1 [8,9] hF fun a hF=>?_
 refine wpListIn_nil ?_
 refine hK16 _ _ ?_
 refine wpIn_ret ?_
 have hS':=hS
 have hS:=hS.add (m:=Ro.mp fStr.ty none 0 ([]:List ByteArray)) (Ro.nil fStr.ty _ _)
 have hS:=hS.add (m:=Ro.mp (fInt .i64).ty none 0 ([]:List Int)) (Ro.nil (fInt .i64).ty _ _)
 have hS:=hS.addNil 9 1
 have hS:=hS.addNil 3 1
 cases H
 exact (ret_done hF hS (res2 Tryz.results60 (rvs hF hS' 0 0 2) (rvt hF)) ⟨none,0,none,0,rfl,(hS.pick [1,0] (by kernel_rfl)).ro,hS.newC [1,0] (by decide) (by kernel_rfl)⟩)
 refine cond_f hF (by kernel_rfl) hb ?_
 refine wpIn_skip ?_
 refine hK12 _ _ ?_
 refine wpIn_seq_k fun K17 hK17=>?_
 refine wpIn_region_lit ?_
 refine wc (wls hF hS 1 0 2 fun a hF=>?_)
 refine wp 1 [2,3,4,8,22,23] hF fun a hF=>?_
 refine bind_split H (fun x18 hx18 H=>?_)
 refine wc (wo_callP hF hS (by kernel_rfl) (by kernel_rfl) (C_span_At N hS.fresh (T_api_Map.mk a1.Cuts a1.Nodes) a7 p2 c3 p4 c5 ((hS.pick [0,1] (by kernel_rfl)).ro) hx18) ?_)
 rintro _ κ w a ⟨rfl,hR,hN⟩ hF hS hO
 refine wp 3 [2,3,4,8,25,26] hF fun a hF=>?_
 refine wc (wal hF hS [sg ByteArray.empty,sg ByteArray.empty,si 0] (sgN 3 sgNil) fun b19 a w hF hS=>?_)
 refine wc (wst hF hS 0 0 3 [sg x18.1.Lo,sg x18.1.Hi,si x18.1.Node] (sgN 3 sgNil) fun a w hF hS=>?_)
 refine wp 1 [2,3,4,8,11,12] hF fun a hF=>?_
 refine wpListIn_nil ?_
 refine hK17 _ _ ?_
 refine wpIn_seq_k fun K20 hK20=>?_
 refine wpIn_seq_k fun K21 hK21=>?_
 refine wpIn_region_lit ?_
 refine wp 2 [2,3,4,8,11,28] hF fun a hF=>?_
 refine wpListIn_nil ?_
 refine hK21 _ _ ?_
 refine bif_split H (fun hb H=>?_) (fun hb H=>?_)
 refine cond_t hF (by kernel_rfl) hb ?_
 refine wpIn_seq_k fun K22 hK22=>?_
 refine wpIn_region_lit ?_
 refine wp 1 [8,29] hF fun a hF=>?_
 refine wc (wst hF hS 1 0 2 [sl none 0 0,sl none 0 0] (sgN 2 sgNil) fun a w hF hS=>?_)
 refine wp 1 [8,9] hF fun a hF=>?_
 refine wpListIn_nil ?_
 refine hK22 _ _ ?_
 refine wpIn_ret ?_
 have hS':=hS
 have hS:=hS.add (m:=Ro.mp fStr.ty none 0 ([]:List ByteArray)) (Ro.nil fStr.ty _ _)
 have hS:=hS.add (m:=Ro.mp (fInt .i64).ty none 0 ([]:List Int)) (Ro.nil (fInt .i64).ty _ _)
 have hS:=hS.addNil 9 1
 have hS:=hS.addNil 3 1
 cases H
 exact (ret_done hF hS (res2 Tryz.results60 (rvs hF hS' 1 0 2) (rvt hF)) ⟨none,0,none,0,rfl,(hS.pick [1,0] (by kernel_rfl)).ro,hS.newC [1,0] (by decide) (by kernel_rfl)⟩)
 refine cond_f hF (by kernel_rfl) hb ?_
 refine wpIn_skip ?_
 refine hK20 _ _ ?_
 refine wpIn_seq_k fun K23 hK23=>?_
 refine wpIn_seq_k fun K24 hK24=>?_
 refine wpIn_region_lit ?_
 refine bind_split H (fun v26 hv26 H=>?_)
 refine wl_join (fun a w => ∃κ:Gh,Fr (89) [] [(2,vi a7),(3,.string (a8)),(4,pt b10 0),(8,pt b11 0),(11,pt b19 0),(47,vb v26)] a∧SS [] κ0 w0 κ w [.box b19 128 [sg x18.1.Lo,sg x18.1.Hi,si x18.1.Node],.box b11 68 [sl none 0 0,sl none 0 0],.box b10 68 [sl p2 (a1.Cuts).length c3,sl p4 (a1.Nodes).length c5]] [Ro.mp fStr.ty none 0 ([]:List ByteArray),Ro.mp (fInt .i64).ty none 0 ([]:List Int),Ro.mp fStr.ty p2 c3 a1.Cuts,Ro.mp (fInt .i64).ty p4 c5 a1.Nodes]∧True) ?_ ?_
 refine wp 4 [2,3,4,8,11,33] hF fun a hF=>?_
 refine bif_split hv26 (fun hb hv26=>?_) (fun hb hv26=>?_)
 have hF:=hF.boolv 33 (by kernel_rfl) hb
 refine wp 14 [2,3,4,8,11,47] hF fun a hF=>?_
 refine wpListIn_nil ?_
 cases hv26
 have hS:=hS.add (m:=Ro.mp fStr.ty none 0 ([]:List ByteArray)) (Ro.nil fStr.ty _ _)
 have hS:=hS.add (m:=Ro.mp (fInt .i64).ty none 0 ([]:List Int)) (Ro.nil (fInt .i64).ty _ _)
 exact ⟨_,hF.kp [2,3,4,8,11,47],hS.sp [0,1,2] [1,0,2,3],trivial⟩
 have hF:=hF.boolv 33 (by kernel_rfl) hb
 refine wp 2 [2,3,4,8,11,33,34,35] hF fun a hF=>?_
 refine wcg hF (wld hF hS 0 0 0 fun a hF=>?_)
 refine wp 3 [2,3,4,8,11,39] hF fun a hF=>?_
 refine bif_split hv26 (fun hb hv26=>?_) (fun hb hv26=>?_)
 have hF:=hF.boolv 39 (by kernel_rfl) hb
 refine wp 8 [2,3,4,8,11,47] hF fun a hF=>?_
 refine wpListIn_nil ?_
 cases hv26
 have hS:=hS.add (m:=Ro.mp fStr.ty none 0 ([]:List ByteArray)) (Ro.nil fStr.ty _ _)
 have hS:=hS.add (m:=Ro.mp (fInt .i64).ty none 0 ([]:List Int)) (Ro.nil (fInt .i64).ty _ _)
 exact ⟨_,hF.kp [2,3,4,8,11,47],hS.sp [0,1,2] [1,0,2,3],trivial⟩
 have hF:=hF.boolv 39 (by kernel_rfl) hb
 refine wp 2 [2,3,4,8,11,39,40,41] hF fun a hF=>?_
 refine wcg hF (wld hF hS 0 0 0 fun a hF=>?_)
 refine wp 1 [2,3,4,8,11,39,40,42,43] hF fun a hF=>?_
 refine wcg hF (wld hF hS 0 1 0 fun a hF=>?_)
 refine bind_split hv26 (fun x27 hx27 hv26=>?_)
 refine wcg hF (wo_callP hF hS (by kernel_rfl) (by kernel_rfl) (C_span_Within N hS.fresh a8 x18.1.Lo x18.1.Hi ((hS.pick [] (by kernel_rfl)).ro) hx27) ?_)
 rintro _ κ w a ⟨rfl,hR,hN⟩ hF hS hO
 refine wp 2 [2,3,4,8,11,47] hF fun a hF=>?_
 refine wpListIn_nil ?_
 cases hv26
 have hS:=hS.add (m:=Ro.mp fStr.ty none 0 ([]:List ByteArray)) (Ro.nil fStr.ty _ _)
 have hS:=hS.add (m:=Ro.mp (fInt .i64).ty none 0 ([]:List Int)) (Ro.nil (fInt .i64).ty _ _)
 exact ⟨_,hF.kp [2,3,4,8,11,47],hS.sp [0,1,2] [1,0,2,3],trivial⟩
 rintro a w ⟨κ,hF,hS,-⟩
 refine hK24 _ _ ?_
 refine bif_split H (fun hb H=>?_) (fun hb H=>?_)
 refine cond_t hF (by kernel_rfl) hb ?_
 refine wpIn_seq_k fun K28 hK28=>?_
 refine wpIn_region_lit ?_
 refine wp 1 [8,48] hF fun a hF=>?_
 refine wc (wst hF hS 1 0 2 [sl none 0 0,sl none 0 0] (sgN 2 sgNil) fun a w hF hS=>?_)
 refine wp 1 [8,9] hF fun a hF=>?_
 refine wpListIn_nil ?_
 refine hK28 _ _ ?_
 refine wpIn_ret ?_
 have hS':=hS
 have hS:=hS.addNil 9 1
 have hS:=hS.addNil 3 1
 cases H
 exact (ret_done hF hS (res2 Tryz.results60 (rvs hF hS' 1 0 2) (rvt hF)) ⟨none,0,none,0,rfl,(hS.pick [0,1] (by kernel_rfl)).ro,hS.newC [1,0] (by decide) (by kernel_rfl)⟩)
 refine cond_f hF (by kernel_rfl) hb ?_
 refine wpIn_skip ?_
 refine hK23 _ _ ?_
 refine wpIn_seq_k fun K29 hK29=>?_
 refine wpIn_seq_k fun K30 hK30=>?_
 refine wpIn_region_lit ?_
 refine wp 1 [2,3,4,8,11,49] hF fun a hF=>?_
 refine wc (wld hF hS 2 1 0 fun a hF=>?_)
 refine wp 2 [2,3,4,8,11,52] hF fun a hF=>?_
 refine wpListIn_nil ?_
 refine hK30 _ _ ?_
 refine bif_split H (fun hb H=>?_) (fun hb H=>?_)
 refine cond_t hF (by kernel_rfl) hb ?_
 refine wpIn_seq_k fun K31 hK31=>?_
 refine wpIn_region_lit ?_
 refine wp 1 [8,53] hF fun a hF=>?_
 refine wc (wst hF hS 1 0 2 [sl none 0 0,sl none 0 0] (sgN 2 sgNil) fun a w hF hS=>?_)
 refine wp 1 [8,9] hF fun a hF=>?_
 refine wpListIn_nil ?_
 refine hK31 _ _ ?_
 refine wpIn_ret ?_
 have hS':=hS
 have hS:=hS.addNil 9 1
 have hS:=hS.addNil 3 1
 cases H
 exact (ret_done hF hS (res2 Tryz.results60 (rvs hF hS' 1 0 2) (rvt hF)) ⟨none,0,none,0,rfl,(hS.pick [0,1] (by kernel_rfl)).ro,hS.newC [1,0] (by decide) (by kernel_rfl)⟩)
 refine cond_f hF (by kernel_rfl) hb ?_
 refine wpIn_skip ?_
 refine hK29 _ _ ?_
 refine wpIn_seq_k fun K32 hK32=>?_
 refine wpIn_region_lit ?_
 refine wp 1 [2,3,4,8,11,54] hF fun a hF=>?_
 refine wc (wal hF hS [sl none 0 0,sl none 0 0] (sgN 2 sgNil) fun b33 a w hF hS=>?_)
 refine wc (wst hF hS 0 0 2 [sl none 0 0,sl none 0 0] (sgN 2 sgNil) fun a w hF hS=>?_)
 refine wpListIn_nil ?_
 refine hK32 _ _ ?_
 refine wpIn_seq_k fun K34 hK34=>?_
 refine bind_split H (fun v38 hv38 H=>?_)
 refine code_join (fun a w => ∃(κ:Gh) (p36:Option Addr) (c37:Nat),Fr (89) [] [(2,vi a7),(4,pt b10 0),(8,pt b11 0),(11,pt b19 0),(13,pt b33 0)] a∧SS [] κ0 w0 κ w [.box b33 68 [sl p36 (v38).length c37,sl none 0 0],.box b19 128 [sg x18.1.Lo,sg x18.1.Hi,si x18.1.Node],.box b11 68 [sl none 0 0,sl none 0 0],.box b10 68 [sl p2 (a1.Cuts).length c3,sl p4 (a1.Nodes).length c5],.tok p36 9 1 (v38).length c37] [Ro.mp fStr.ty p36 c37 v38,Ro.mp (fInt .i64).ty none 0 ([]:List Int),Ro.mp fStr.ty none 0 ([]:List ByteArray),Ro.mp fStr.ty p2 c3 a1.Cuts,Ro.mp (fInt .i64).ty p4 c5 a1.Nodes]∧True) ?_ ?_
 refine rgS hS [16] ?_
 have hS:=hS.drew
 refine bind_split hv38 (fun x39 hx39 hv38=>?_)
 refine bind_split hv38 (fun x42 hx42 hv38=>?_)
 refine bind_split hv38 (fun x46 hx46 hv38=>?_)
 refine bind_split hv38 (fun x49 hx49 hv38=>?_)
 refine bind_split hv38 (fun x52 hx52 hv38=>?_)
 refine any_pure [0,2,4,7,10,12] [2,4,8,11,13,55,57,59,62,65,67] (L':=[(2,vi a7),(4,pt b10 0),(8,pt b11 0),(11,pt b19 0),(13,pt b33 0),(55,pt b33 0),(57,pt b10 0),(59,vi a7),(62,.string (a8)),(65,pt b10 0),(67,vi a7)]) (listed':=(bitA 17 5269)) (fuel:=11) hF (hS.sx (rg 4) (rg 4)) (by kernel_rfl) (by intro c a w t v h; cases t<;>exact h) (by kernel_rfl) rfl fun a hF=>?_
 refine atk 1 (some 56) hF (hS.sx (rg 4) (rg 4)) rfl (vld 0 0 0) fun a hF=>?_
 refine atk 3 (some 58) hF (hS.sx (rg 4) (rg 4)) rfl (vld 3 0 0) fun a hF=>?_
 obtain ⟨p40,c41,hvx39,hrx39⟩:=slice_val Tryz.prog fStr.ty (L:=[(2,vi a7),(4,pt b10 0),(8,pt b11 0),(11,pt b19 0),(13,pt b33 0),(55,pt b33 0),(56,.slice none 0 0),(57,pt b10 0),(58,.slice p2 (a1.Cuts).length c3),(59,vi a7),(62,.string (a8)),(65,pt b10 0),(67,vi a7)]) (o:=⟨(some 60),(Go.Op.slice 66 (Go.Operand.tmp 58) none (some (Go.Operand.tmp 59)) none),66,"span.go:120",#[(Go.Edge.mk 3 Go.Ground.data),(Go.Edge.mk 4 Go.Ground.data)],none⟩) (E:=9) (lo:=0) (hi:=a7) rfl (hS.get 2 rfl:Ro fStr.ty _ _ p2 c3 a1.Cuts).1 rfl rfl rfl ⟨_,rfl⟩ hx39 (by kernel_rfl) (by kernel_rfl)
 have hS:=hS.add (m:=Ro.mp fStr.ty p40 c41 x39) (hrx39 _ _ (hS.get 2 rfl))
 refine atk 5 (some 60) hF (hS.sx (rg 4) [1,2,3,4]) rfl (fun w _=>hvx39 w) fun a hF=>?_
 refine atk 11 (some 66) hF (hS.sx (rg 4) [1,2,3,4]) rfl (vld 3 0 0) fun a hF=>?_
 obtain ⟨p50,c51,hvx49,hrx49⟩:=slice_val Tryz.prog fStr.ty (L:=[(2,vi a7),(4,pt b10 0),(8,pt b11 0),(11,pt b19 0),(13,pt b33 0),(55,pt b33 0),(56,.slice none 0 0),(57,pt b10 0),(58,.slice p2 (a1.Cuts).length c3),(59,vi a7),(60,.slice p40 (x39).length c41),(62,.string (a8)),(65,pt b10 0),(66,.slice p2 (a1.Cuts).length c3),(67,vi a7)]) (o:=⟨(some 68),(Go.Op.slice 66 (Go.Operand.tmp 66) (some (Go.Operand.tmp 67)) none none),66,"span.go:120",#[(Go.Edge.mk 11 Go.Ground.data),(Go.Edge.mk 12 Go.Ground.data)],none⟩) (E:=9) (lo:=a7) (hi:=((a1.Cuts).length:Int)) rfl (hS.get 3 rfl:Ro fStr.ty _ _ p2 c3 a1.Cuts).1 rfl rfl ⟨_,rfl⟩ rfl hx49 (by kernel_rfl) (by kernel_rfl)
 have hS:=hS.add (m:=Ro.mp fStr.ty p50 c51 x49) (hrx49 _ _ (hS.get 3 rfl))
 refine atk 13 (some 68) hF (hS.sx (rg 4) [2,3,4,5]) rfl (fun w _=>hvx49 w) fun a hF=>?_
 refine ago2 6 8 hF rfl rfl ?_ ?_
 have hS:=hS.addNil 9 1
 refine wo_append (ty:=fStr.ty) hF hS (by kernel_rfl) 0 2 1 rfl rfl rfl (by kernel_rfl) (by kernel_rfl) rfl rfl rfl hx42 (by kernel_rfl) (i:=Tryz.t9) (z := .string (ByteArray.empty)) (by kernel_rfl) (by kernel_rfl) (by kernel_rfl) fun p43 c44 κ a w hF hS=>?_
 refine ⟨fun _=>(hS.sx [1,2,3,4] [3,4,5,6]),?_⟩
 refine ago 8 hF rfl ?_
 refine wo_buildN (t:=fStr) (z := .string (ByteArray.empty)) (l:=[a8]) (vs:=[(0,.string (a8))]) (cells := #[.string (a8)]) (E:=9) hF hS (by kernel_rfl) rfl (by kernel_rfl) (by kernel_rfl) rfl (by kernel_rfl) (by kernel_rfl) (by kernel_rfl) (by kernel_rfl) (by kernel_rfl) fun p45 κ a w hF hS=>?_
 refine ⟨fun _=>(hS.sx [2,3,4,5] [4,5,6,7]),?_⟩
 refine ago 9 hF rfl ?_
 refine wo_append (ty:=fStr.ty) hF hS (by kernel_rfl) 1 1 0 rfl rfl rfl (by kernel_rfl) (by kernel_rfl) rfl rfl rfl hx46 (by kernel_rfl) (i:=Tryz.t9) (z := .string (ByteArray.empty)) (by kernel_rfl) (by kernel_rfl) (by kernel_rfl) fun p47 c48 κ a w hF hS=>?_
 refine ⟨fun _=>(hS.sx [2,3,4,5] [5,6,7,8]),?_⟩
 refine ago 14 hF rfl ?_
 refine wo_append (ty:=fStr.ty) hF hS (by kernel_rfl) 1 0 3 rfl rfl rfl (by kernel_rfl) (by kernel_rfl) rfl rfl rfl hx52 (by kernel_rfl) (i:=Tryz.t9) (z := .string (ByteArray.empty)) (by kernel_rfl) (by kernel_rfl) (by kernel_rfl) fun p53 c54 κ a w hF hS=>?_
 refine ⟨fun _=>(hS.sx [2,3,4,5] [6,7,8,9]),?_⟩
 refine anp [15] [2,4,8,11,13,69,70] hF (hS.sx [2,3,4,5] [6,7,8,9]) fun a hF=>?_
 refine ago 16 hF rfl ?_
 refine wst hF hS 2 0 1 [sl p53 (x52).length c54] (sgN 1 sgNil) fun a w hF hS=>?_
 refine ⟨notE,?_⟩
 refine and_ ?_
 cases hv38
 exact ⟨_,p53,c54,hF.kp [2,4,8,11,13],hS.sp [2,3,4,5,1] [0,7,6,8,9],trivial⟩
 refine wo_buildN (t:=fStr) (z := .string (ByteArray.empty)) (l:=[a8]) (vs:=[(0,.string (a8))]) (cells := #[.string (a8)]) (E:=9) hF hS (by kernel_rfl) rfl (by kernel_rfl) (by kernel_rfl) rfl (by kernel_rfl) (by kernel_rfl) (by kernel_rfl) (by kernel_rfl) (by kernel_rfl) fun p45 κ a w hF hS=>?_
 refine ⟨fun _=>(hS.sx [1,2,3,4] [3,4,5,6]),?_⟩
 refine ago 6 hF rfl ?_
 have hS:=hS.addNil 9 1
 refine wo_append (ty:=fStr.ty) hF hS (by kernel_rfl) 0 3 2 rfl rfl rfl (by kernel_rfl) (by kernel_rfl) rfl rfl rfl hx42 (by kernel_rfl) (i:=Tryz.t9) (z := .string (ByteArray.empty)) (by kernel_rfl) (by kernel_rfl) (by kernel_rfl) fun p43 c44 κ a w hF hS=>?_
 refine ⟨fun _=>(hS.sx [2,3,4,5] [4,5,6,7]),?_⟩
 refine ago 9 hF rfl ?_
 refine wo_append (ty:=fStr.ty) hF hS (by kernel_rfl) 0 0 1 rfl rfl rfl (by kernel_rfl) (by kernel_rfl) rfl rfl rfl hx46 (by kernel_rfl) (i:=Tryz.t9) (z := .string (ByteArray.empty)) (by kernel_rfl) (by kernel_rfl) (by kernel_rfl) fun p47 c48 κ a w hF hS=>?_
 refine ⟨fun _=>(hS.sx [2,3,4,5] [5,6,7,8]),?_⟩
 refine ago 14 hF rfl ?_
 refine wo_append (ty:=fStr.ty) hF hS (by kernel_rfl) 0 0 3 rfl rfl rfl (by kernel_rfl) (by kernel_rfl) rfl rfl rfl hx52 (by kernel_rfl) (i:=Tryz.t9) (z := .string (ByteArray.empty)) (by kernel_rfl) (by kernel_rfl) (by kernel_rfl) fun p53 c54 κ a w hF hS=>?_
 refine ⟨fun _=>(hS.sx [2,3,4,5] [6,7,8,9]),?_⟩
 refine anp [15] [2,4,8,11,13,69,70] hF (hS.sx [2,3,4,5] [6,7,8,9]) fun a hF=>?_
 refine ago 16 hF rfl ?_
 refine wst hF hS 2 0 1 [sl p53 (x52).length c54] (sgN 1 sgNil) fun a w hF hS=>?_
 refine ⟨notE,?_⟩
 refine and_ ?_
 cases hv38
 exact ⟨_,p53,c54,hF.kp [2,4,8,11,13],hS.sp [2,3,4,5,0] [0,7,6,8,9],trivial⟩
 rintro a w ⟨κ,p36,c37,hF,hS,-⟩
 refine hK34 _ _ ?_
 refine wpIn_seq_k fun K55 hK55=>?_
 refine bind_split H (fun v59 hv59 H=>?_)
 refine code_join (fun a w => ∃(κ:Gh) (p57:Option Addr) (c58:Nat),Fr (89) [] [(8,pt b11 0),(13,pt b33 0)] a∧SS [] κ0 w0 κ w [.box b33 68 [sl p36 (v38).length c37,sl p57 (v59).length c58],.box b11 68 [sl none 0 0,sl none 0 0],.tok p57 3 1 (v59).length c58,.tok p36 9 1 (v38).length c37] [Ro.mp fStr.ty p36 c37 v38,Ro.mp (fInt .i64).ty p57 c58 v59,Ro.mp fStr.ty none 0 ([]:List ByteArray),Ro.mp (fInt .i64).ty none 0 ([]:List Int)]∧True) ?_ ?_
 refine rgS hS [17] ?_
 have hS:=hS.drew
 refine bind_split hv59 (fun x60 hx60 hv59=>?_)
 refine bind_split hv59 (fun x63 hx63 hv59=>?_)
 refine bind_split hv59 (fun x67 hx67 hv59=>?_)
 refine bind_split hv59 (fun x70 hx70 hv59=>?_)
 refine bind_split hv59 (fun x73 hx73 hv59=>?_)
 refine any_pure [0,2,4,7,11,13] [8,13,71,73,75,78,82,84] (L':=[(8,pt b11 0),(13,pt b33 0),(71,pt b33 1),(73,pt b10 1),(75,vi a7),(78,pt b19 2),(82,pt b10 1),(84,vi a7)]) (listed':=(bitA 18 10389)) (fuel:=12) hF (hS.sx (rg 4) (rg 5)) (by kernel_rfl) (by intro c a w t v h; cases t<;>exact h) (by kernel_rfl) rfl fun a hF=>?_
 refine atk 1 (some 72) hF (hS.sx (rg 4) (rg 5)) rfl (vld 0 1 0) fun a hF=>?_
 refine atk 3 (some 74) hF (hS.sx (rg 4) (rg 5)) rfl (vld 3 1 0) fun a hF=>?_
 obtain ⟨p61,c62,hvx60,hrx60⟩:=slice_val Tryz.prog (fInt .i64).ty (L:=[(8,pt b11 0),(13,pt b33 0),(71,pt b33 1),(72,.slice none 0 0),(73,pt b10 1),(74,.slice p4 (a1.Nodes).length c5),(75,vi a7),(78,pt b19 2),(82,pt b10 1),(84,vi a7)]) (o:=⟨(some 76),(Go.Op.slice 29 (Go.Operand.tmp 74) none (some (Go.Operand.tmp 75)) none),29,"span.go:121",#[(Go.Edge.mk 3 Go.Ground.data),(Go.Edge.mk 4 Go.Ground.data)],none⟩) (E:=3) (lo:=0) (hi:=a7) rfl (hS.get 4 rfl:Ro (fInt .i64).ty _ _ p4 c5 a1.Nodes).1 rfl rfl rfl ⟨_,rfl⟩ hx60 (by kernel_rfl) (by kernel_rfl)
 have hS:=hS.add (m:=Ro.mp (fInt .i64).ty p61 c62 x60) (hrx60 _ _ (hS.get 4 rfl))
 refine atk 5 (some 76) hF (hS.sx (rg 4) [1,2,3,4,5]) rfl (fun w _=>hvx60 w) fun a hF=>?_
 refine atk 8 (some 79) hF (hS.sx (rg 4) [1,2,3,4,5]) rfl (vld 1 2 0) fun a hF=>?_
 refine atk 12 (some 83) hF (hS.sx (rg 4) [1,2,3,4,5]) rfl (vld 3 1 0) fun a hF=>?_
 obtain ⟨p71,c72,hvx70,hrx70⟩:=slice_val Tryz.prog (fInt .i64).ty (L:=[(8,pt b11 0),(13,pt b33 0),(71,pt b33 1),(72,.slice none 0 0),(73,pt b10 1),(74,.slice p4 (a1.Nodes).length c5),(75,vi a7),(76,.slice p61 (x60).length c62),(78,pt b19 2),(79,vi x18.1.Node),(82,pt b10 1),(83,.slice p4 (a1.Nodes).length c5),(84,vi a7)]) (o:=⟨(some 85),(Go.Op.slice 29 (Go.Operand.tmp 83) (some (Go.Operand.tmp 84)) none none),29,"span.go:121",#[(Go.Edge.mk 12 Go.Ground.data),(Go.Edge.mk 13 Go.Ground.data)],none⟩) (E:=3) (lo:=a7) (hi:=((a1.Nodes).length:Int)) rfl (hS.get 5 rfl:Ro (fInt .i64).ty _ _ p4 c5 a1.Nodes).1 rfl rfl ⟨_,rfl⟩ rfl hx70 (by kernel_rfl) (by kernel_rfl)
 have hS:=hS.add (m:=Ro.mp (fInt .i64).ty p71 c72 x70) (hrx70 _ _ (hS.get 5 rfl))
 refine atk 14 (some 85) hF (hS.sx (rg 4) [2,3,4,5,6]) rfl (fun w _=>hvx70 w) fun a hF=>?_
 refine ago2 6 9 hF rfl rfl ?_ ?_
 have hS:=hS.addNil 3 1
 refine wo_append (ty:=(fInt .i64).ty) hF hS (by kernel_rfl) 0 3 1 rfl rfl rfl (by kernel_rfl) (by kernel_rfl) rfl rfl rfl hx63 (by kernel_rfl) (i:=Tryz.t3) (z:=vi 0) (by kernel_rfl) (by kernel_rfl) (by kernel_rfl) fun p64 c65 κ a w hF hS=>?_
 refine ⟨fun _=>(hS.sx [1,2,3,4] [3,4,5,6,7]),?_⟩
 refine ago 9 hF rfl ?_
 refine wo_buildN (t:=(fInt .i64)) (z:=vi 0) (l:=[x18.1.Node]) (vs:=[(0,vi x18.1.Node)]) (cells := #[vi x18.1.Node]) (E:=3) hF hS (by kernel_rfl) rfl (by kernel_rfl) (by kernel_rfl) rfl (by kernel_rfl) (by kernel_rfl) (by kernel_rfl) (by kernel_rfl) (by kernel_rfl) fun p66 κ a w hF hS=>?_
 refine ⟨fun _=>(hS.sx [2,3,4,5] [4,5,6,7,8]),?_⟩
 refine ago 10 hF rfl ?_
 refine wo_append (ty:=(fInt .i64).ty) hF hS (by kernel_rfl) 1 1 0 rfl rfl rfl (by kernel_rfl) (by kernel_rfl) rfl rfl rfl hx67 (by kernel_rfl) (i:=Tryz.t3) (z:=vi 0) (by kernel_rfl) (by kernel_rfl) (by kernel_rfl) fun p68 c69 κ a w hF hS=>?_
 refine ⟨fun _=>(hS.sx [2,3,4,5] [5,6,7,8,9]),?_⟩
 refine ago 15 hF rfl ?_
 refine wo_append (ty:=(fInt .i64).ty) hF hS (by kernel_rfl) 1 0 3 rfl rfl rfl (by kernel_rfl) (by kernel_rfl) rfl rfl rfl hx73 (by kernel_rfl) (i:=Tryz.t3) (z:=vi 0) (by kernel_rfl) (by kernel_rfl) (by kernel_rfl) fun p74 c75 κ a w hF hS=>?_
 refine ⟨fun _=>(hS.sx [2,3,4,5] [6,7,8,9,10]),?_⟩
 refine anp [16] [8,13,86,87] hF (hS.sx [2,3,4,5] [6,7,8,9,10]) fun a hF=>?_
 refine ago 17 hF rfl ?_
 refine wst hF hS 2 1 1 [sl p74 (x73).length c75] (sgN 1 sgNil) fun a w hF hS=>?_
 refine ⟨notE,?_⟩
 refine and_ ?_
 cases hv59
 exact ⟨_,p74,c75,hF.kp [8,13],hS.sp [2,4,1,6] [6,0,8,7],trivial⟩
 refine wo_buildN (t:=(fInt .i64)) (z:=vi 0) (l:=[x18.1.Node]) (vs:=[(0,vi x18.1.Node)]) (cells := #[vi x18.1.Node]) (E:=3) hF hS (by kernel_rfl) rfl (by kernel_rfl) (by kernel_rfl) rfl (by kernel_rfl) (by kernel_rfl) (by kernel_rfl) (by kernel_rfl) (by kernel_rfl) fun p66 κ a w hF hS=>?_
 refine ⟨fun _=>(hS.sx [1,2,3,4] [3,4,5,6,7]),?_⟩
 refine ago 6 hF rfl ?_
 have hS:=hS.addNil 3 1
 refine wo_append (ty:=(fInt .i64).ty) hF hS (by kernel_rfl) 0 4 2 rfl rfl rfl (by kernel_rfl) (by kernel_rfl) rfl rfl rfl hx63 (by kernel_rfl) (i:=Tryz.t3) (z:=vi 0) (by kernel_rfl) (by kernel_rfl) (by kernel_rfl) fun p64 c65 κ a w hF hS=>?_
 refine ⟨fun _=>(hS.sx [2,3,4,5] [4,5,6,7,8]),?_⟩
 refine ago 10 hF rfl ?_
 refine wo_append (ty:=(fInt .i64).ty) hF hS (by kernel_rfl) 0 0 1 rfl rfl rfl (by kernel_rfl) (by kernel_rfl) rfl rfl rfl hx67 (by kernel_rfl) (i:=Tryz.t3) (z:=vi 0) (by kernel_rfl) (by kernel_rfl) (by kernel_rfl) fun p68 c69 κ a w hF hS=>?_
 refine ⟨fun _=>(hS.sx [2,3,4,5] [5,6,7,8,9]),?_⟩
 refine ago 15 hF rfl ?_
 refine wo_append (ty:=(fInt .i64).ty) hF hS (by kernel_rfl) 0 0 3 rfl rfl rfl (by kernel_rfl) (by kernel_rfl) rfl rfl rfl hx73 (by kernel_rfl) (i:=Tryz.t3) (z:=vi 0) (by kernel_rfl) (by kernel_rfl) (by kernel_rfl) fun p74 c75 κ a w hF hS=>?_
 refine ⟨fun _=>(hS.sx [2,3,4,5] [6,7,8,9,10]),?_⟩
 refine anp [16] [8,13,86,87] hF (hS.sx [2,3,4,5] [6,7,8,9,10]) fun a hF=>?_
 refine ago 17 hF rfl ?_
 refine wst hF hS 2 1 1 [sl p74 (x73).length c75] (sgN 1 sgNil) fun a w hF hS=>?_
 refine ⟨notE,?_⟩
 refine and_ ?_
 cases hv59
 exact ⟨_,p74,c75,hF.kp [8,13],hS.sp [2,4,0,6] [6,0,8,7],trivial⟩
 rintro a w ⟨κ,p57,c58,hF,hS,-⟩
 refine hK55 _ _ ?_
 refine wpIn_seq_k fun K76 hK76=>?_
 refine wpIn_region_lit ?_
 refine wc (wls hF hS 0 0 2 fun a hF=>?_)
 refine wc (wst hF hS 1 0 2 [sl p36 (v38).length c37,sl p57 (v59).length c58] (sgN 2 sgNil) fun a w hF hS=>?_)
 refine wp 1 [8,9] hF fun a hF=>?_
 refine wpListIn_nil ?_
 refine hK76 _ _ ?_
 refine wpIn_ret ?_
 have hS':=hS
 cases H
 exact (ret_done hF hS (res2 Tryz.results60 (rvs hF hS' 1 0 2) (rvt hF)) ⟨p36,c37,p57,c58,rfl,(hS.pick [0,1] (by kernel_rfl)).ro,hS.newC [3,2] (by decide) (by kernel_rfl)⟩)
set_option maxRecDepth 20000 in
set_option maxHeartbeats 8000000 in
theorem C_span_Move (N:Nat){κ0:Gh}{w0:World}(hfr:Fresh κ0 w0)(a1:T_api_Map)(a6:Int)(a7:Int)(a8:Int)(p2:Option Addr)(c3:Nat)(p4:Option Addr)(c5:Nat)(hR : ∀m∈([Ro.mp fStr.ty p2 c3 a1.Cuts,Ro.mp (fInt .i64).ty p4 c5 a1.Nodes]:List MP),m.p κ0 w0){r:(T_api_Map×Int)}(H:M.span_Move N a1 a6 a7 a8=some r) :
    Calls Tryz.prog 62 #[.agg (flat [sl p2 (a1.Cuts).length c3,sl p4 (a1.Nodes).length c5]).toArray,vi a6,vi a7,vi a8] w0 (Post [] κ0 w0 fun v κ w => ∃(p46:Option Addr) (c47:Nat) (p48:Option Addr) (c49:Nat),v = .tuple #[.agg (flat [sl p46 (r.1.Cuts).length c47,sl p48 (r.1.Nodes).length c49]).toArray,vi r.2]∧(∀m∈([Ro.mp fStr.ty p46 c47 r.1.Cuts,Ro.mp (fInt .i64).ty p48 c49 r.1.Nodes]:List MP),m.p κ w)∧NewC w0 κ w [.tok p46 9 1 (r.1.Cuts).length c47,.tok p48 3 1 (r.1.Nodes).length c49]):=by
 have hS:=SS.start hfr hR
 refine enter (N:=(53)) (L:=[(0,.agg (flat [sl p2 (a1.Cuts).length c3,sl p4 (a1.Nodes).length c5]).toArray),(1,vi a6),(2,vi a7),(3,vi a8)]) Tryz.func62 rfl Tryz.ntmps62 (show 4≤(53) by decide) rfl fun a hF=>?_
 unfold M.span_Move at H
 refine wpIn_seq_k fun K9 hK9=>?_
 refine wpIn_region_lit ?_
 refine wc (wbx hF hS [sl p2 (a1.Cuts).length c3,sl p4 (a1.Nodes).length c5] (sgN 2 sgNil) fun b10 a w hF hS=>?_)
 refine wc (wal hF hS [sl none 0 0,sl none 0 0] (sgN 2 sgNil) fun b11 a w hF hS=>?_)
 refine wp 1 [1,2,3,4,8] hF fun a hF=>?_
 refine wpListIn_nil ?_
 refine hK9 _ _ ?_
 refine wpIn_seq_k fun K12 hK12=>?_
 refine wpIn_seq_k fun K13 hK13=>?_
 refine wpIn_region_lit ?_
 refine wc (wls hF hS 1 0 2 fun a hF=>?_)
 refine wp 1 [1,2,3,4,8,12,13] hF fun a hF=>?_
 refine bind_split H (fun x14 hx14 H=>?_)
 refine wc (wo_callP hF hS (by kernel_rfl) (by kernel_rfl) (C_span_Check N hS.fresh (T_api_Map.mk a1.Cuts a1.Nodes) a6 p2 c3 p4 c5 ((hS.pick [0,1] (by kernel_rfl)).ro) hx14) ?_)
 rintro _ κ w a ⟨rfl,hR,hN⟩ hF hS hO
 refine wp 1 [1,2,3,4,8,10] hF fun a hF=>?_
 refine wpListIn_nil ?_
 refine hK13 _ _ ?_
 refine wpIn_seq_k fun K15 hK15=>?_
 refine wpIn_region_lit ?_
 refine wp 2 [1,2,3,4,8,10,16] hF fun a hF=>?_
 refine wpListIn_nil ?_
 refine hK15 _ _ ?_
 refine bif_split H (fun hb H=>?_) (fun hb H=>?_)
 refine cond_t hF (by kernel_rfl) hb ?_
 refine wpIn_seq_k fun K16 hK16=>?_
 refine wpIn_region_lit ?_
 refine wp 2 [8,17,18] hF fun a hF=>?_
 refine wc (wst hF hS 0 0 2 [sl none 0 0,sl none 0 0] (sgN 2 sgNil) fun a w hF hS=>?_)
 refine wp 1 [8,9] hF fun a hF=>?_
 refine wpListIn_nil ?_
 refine hK16 _ _ ?_
 refine wpIn_ret ?_
 have hS':=hS
 have hS:=hS.add (m:=Ro.mp fStr.ty none 0 ([]:List ByteArray)) (Ro.nil fStr.ty _ _)
 have hS:=hS.add (m:=Ro.mp (fInt .i64).ty none 0 ([]:List Int)) (Ro.nil (fInt .i64).ty _ _)
 have hS:=hS.addNil 9 1
 have hS:=hS.addNil 3 1
 cases H
 exact (ret_done hF hS (res2 Tryz.results62 (rvs hF hS' 0 0 2) (rvt hF)) ⟨none,0,none,0,rfl,(hS.pick [1,0] (by kernel_rfl)).ro,hS.newC [1,0] (by decide) (by kernel_rfl)⟩)
 refine cond_f hF (by kernel_rfl) hb ?_
 refine wpIn_skip ?_
 refine hK12 _ _ ?_
 refine wpIn_seq_k fun K17 hK17=>?_
 refine wpIn_seq_k fun K18 hK18=>?_
 refine wpIn_region_lit ?_
 refine bind_split H (fun v20 hv20 H=>?_)
 refine wl_join (fun a w => ∃κ:Gh,Fr (53) [] [(1,vi a6),(2,vi a7),(3,vi a8),(4,pt b10 0),(8,pt b11 0),(27,vb v20)] a∧SS [] κ0 w0 κ w [.box b11 68 [sl none 0 0,sl none 0 0],.box b10 68 [sl p2 (a1.Cuts).length c3,sl p4 (a1.Nodes).length c5]] [Ro.mp fStr.ty none 0 ([]:List ByteArray),Ro.mp (fInt .i64).ty none 0 ([]:List Int),Ro.mp fStr.ty p2 c3 a1.Cuts,Ro.mp (fInt .i64).ty p4 c5 a1.Nodes]∧True) ?_ ?_
 refine wp 3 [1,2,3,4,8,21] hF fun a hF=>?_
 refine bif_split hv20 (fun hb hv20=>?_) (fun hb hv20=>?_)
 have hF:=hF.boolv 21 (by kernel_rfl) hb
 refine wp 6 [1,2,3,4,8,27] hF fun a hF=>?_
 refine wpListIn_nil ?_
 cases hv20
 have hS:=hS.add (m:=Ro.mp fStr.ty none 0 ([]:List ByteArray)) (Ro.nil fStr.ty _ _)
 have hS:=hS.add (m:=Ro.mp (fInt .i64).ty none 0 ([]:List Int)) (Ro.nil (fInt .i64).ty _ _)
 exact ⟨_,hF.kp [1,2,3,4,8,27],hS.sp [0,1] [1,0,2,3],trivial⟩
 have hF:=hF.boolv 21 (by kernel_rfl) hb
 refine wp 2 [1,2,3,4,8,21,22,23] hF fun a hF=>?_
 refine wcg hF (wld hF hS 1 1 0 fun a hF=>?_)
 refine wp 3 [1,2,3,4,8,27] hF fun a hF=>?_
 refine wpListIn_nil ?_
 cases hv20
 have hS:=hS.add (m:=Ro.mp fStr.ty none 0 ([]:List ByteArray)) (Ro.nil fStr.ty _ _)
 have hS:=hS.add (m:=Ro.mp (fInt .i64).ty none 0 ([]:List Int)) (Ro.nil (fInt .i64).ty _ _)
 exact ⟨_,hF.kp [1,2,3,4,8,27],hS.sp [0,1] [1,0,2,3],trivial⟩
 rintro a w ⟨κ,hF,hS,-⟩
 refine hK18 _ _ ?_
 refine bif_split H (fun hb H=>?_) (fun hb H=>?_)
 refine cond_t hF (by kernel_rfl) hb ?_
 refine wpIn_seq_k fun K21 hK21=>?_
 refine wpIn_region_lit ?_
 refine wp 1 [8,28] hF fun a hF=>?_
 refine wc (wst hF hS 0 0 2 [sl none 0 0,sl none 0 0] (sgN 2 sgNil) fun a w hF hS=>?_)
 refine wp 1 [8,9] hF fun a hF=>?_
 refine wpListIn_nil ?_
 refine hK21 _ _ ?_
 refine wpIn_ret ?_
 have hS':=hS
 have hS:=hS.addNil 9 1
 have hS:=hS.addNil 3 1
 cases H
 exact (ret_done hF hS (res2 Tryz.results62 (rvs hF hS' 0 0 2) (rvt hF)) ⟨none,0,none,0,rfl,(hS.pick [0,1] (by kernel_rfl)).ro,hS.newC [1,0] (by decide) (by kernel_rfl)⟩)
 refine cond_f hF (by kernel_rfl) hb ?_
 refine wpIn_skip ?_
 refine hK17 _ _ ?_
 refine wpIn_seq_k fun K22 hK22=>?_
 refine wpIn_seq_k fun K23 hK23=>?_
 refine wpIn_region_lit ?_
 refine bind_split H (fun v25 hv25 H=>?_)
 refine wl_join (fun a w => ∃κ:Gh,Fr (53) [] [(2,vi a7),(3,vi a8),(4,pt b10 0),(8,pt b11 0),(35,vb v25)] a∧SS [] κ0 w0 κ w [.box b11 68 [sl none 0 0,sl none 0 0],.box b10 68 [sl p2 (a1.Cuts).length c3,sl p4 (a1.Nodes).length c5]] [Ro.mp fStr.ty none 0 ([]:List ByteArray),Ro.mp (fInt .i64).ty none 0 ([]:List Int),Ro.mp fStr.ty p2 c3 a1.Cuts,Ro.mp (fInt .i64).ty p4 c5 a1.Nodes]∧True) ?_ ?_
 refine wp 3 [1,2,3,4,8,31] hF fun a hF=>?_
 refine bif_split hv25 (fun hb hv25=>?_) (fun hb hv25=>?_)
 have hF:=hF.boolv 31 (by kernel_rfl) hb
 refine wp 4 [2,3,4,8,35] hF fun a hF=>?_
 refine wpListIn_nil ?_
 cases hv25
 exact ⟨_,hF.kp [2,3,4,8,35],hS.sp [0,1] (rg 4),trivial⟩
 have hF:=hF.boolv 31 (by kernel_rfl) hb
 refine wp 4 [2,3,4,8,35] hF fun a hF=>?_
 refine wpListIn_nil ?_
 cases hv25
 exact ⟨_,hF.kp [2,3,4,8,35],hS.sp [0,1] (rg 4),trivial⟩
 rintro a w ⟨κ,hF,hS,-⟩
 refine hK23 _ _ ?_
 refine bif_split H (fun hb H=>?_) (fun hb H=>?_)
 refine cond_t hF (by kernel_rfl) hb ?_
 refine wpIn_seq_k fun K26 hK26=>?_
 refine wpIn_region_lit ?_
 refine wp 1 [8,36] hF fun a hF=>?_
 refine wc (wst hF hS 0 0 2 [sl none 0 0,sl none 0 0] (sgN 2 sgNil) fun a w hF hS=>?_)
 refine wp 1 [8,9] hF fun a hF=>?_
 refine wpListIn_nil ?_
 refine hK26 _ _ ?_
 refine wpIn_ret ?_
 have hS':=hS
 have hS:=hS.addNil 9 1
 have hS:=hS.addNil 3 1
 cases H
 exact (ret_done hF hS (res2 Tryz.results62 (rvs hF hS' 0 0 2) (rvt hF)) ⟨none,0,none,0,rfl,(hS.pick [0,1] (by kernel_rfl)).ro,hS.newC [1,0] (by decide) (by kernel_rfl)⟩)
 refine cond_f hF (by kernel_rfl) hb ?_
 refine wpIn_skip ?_
 refine hK22 _ _ ?_
 refine wpIn_seq_k fun K27 hK27=>?_
 refine wpIn_seq_k fun K28 hK28=>?_
 refine wpIn_region_lit ?_
 refine wp 1 [2,3,4,8,37] hF fun a hF=>?_
 refine wc (wld hF hS 1 1 0 fun a hF=>?_)
 refine wl_pure (L':=[(2,vi a7),(3,vi a8),(4,pt b10 0),(8,pt b11 0),(38,.slice p4 (a1.Nodes).length c5),(39,vi a7)]) 1 [2,3,4,8,38,39] hF (by kernel_rfl) fun a hF=>?_
 refine bind_split H (fun x29 hx29 H=>?_)
 refine wc (wo_index hF hS (by kernel_rfl) 3 (E:=3) (sz:=1) rfl rfl rfl (by kernel_rfl) rfl hx29 (by kernel_rfl) (by kernel_rfl) fun b30 f31 a hpx29 hF=>?_)
 refine wc (wo_loadRo (t:=(fInt .i64)) hF hS (by kernel_rfl) 3 0 (v:=vi x29) rfl rfl hpx29 rfl hx29 (by kernel_rfl) (by kernel_rfl) (by kernel_rfl) fun a hF=>?_)
 refine wl_pure (L':=[(2,vi a7),(3,vi a8),(4,pt b10 0),(8,pt b11 0),(43,vb (x29==a8))]) 2 [2,3,4,8,43] hF (by kernel_rfl) fun a hF=>?_
 refine wpListIn_nil ?_
 refine hK28 _ _ ?_
 refine bif_split H (fun hb H=>?_) (fun hb H=>?_)
 refine cond_t hF (by kernel_rfl) hb ?_
 refine wpIn_seq_k fun K32 hK32=>?_
 refine wpIn_region_lit ?_
 refine wp 1 [8,44] hF fun a hF=>?_
 refine wc (wst hF hS 0 0 2 [sl none 0 0,sl none 0 0] (sgN 2 sgNil) fun a w hF hS=>?_)
 refine wp 1 [8,9] hF fun a hF=>?_
 refine wpListIn_nil ?_
 refine hK32 _ _ ?_
 refine wpIn_ret ?_
 have hS':=hS
 have hS:=hS.addNil 9 1
 have hS:=hS.addNil 3 1
 cases H
 exact (ret_done hF hS (res2 Tryz.results62 (rvs hF hS' 0 0 2) (rvt hF)) ⟨none,0,none,0,rfl,(hS.pick [0,1] (by kernel_rfl)).ro,hS.newC [1,0] (by decide) (by kernel_rfl)⟩)
 refine cond_f hF (by kernel_rfl) hb ?_
 refine wpIn_skip ?_
 refine hK27 _ _ ?_
 refine wpIn_seq_k fun K33 hK33=>?_
 refine wpIn_region_lit ?_
 refine wc (wls hF hS 1 0 2 fun a hF=>?_)
 refine snap hS fun κ39 w39 hR39 hf39 hw39 he39 hS=>?_
 have hsi:=hS.get 0 rfl
 refine bind_split H (fun x34 hx34 H=>?_)
 refine wc (wo_callP hF hS (by kernel_rfl) (by kernel_rfl) (C_span_Copy N hS.fresh (T_api_Map.mk a1.Cuts a1.Nodes) p2 c3 p4 c5 ((hS.pick [3,4] (by kernel_rfl)).ro) hx34) ?_)
 rintro _ κ w a ⟨p35,c36,p37,c38,rfl,hR,hN⟩ hF hS hO
 have hS:=hS.adds hR
 have hS:=hS.add (m:=MP.old p35 w39) (MP.oldC hsi hN (List.mem_of_getElem? (i:=0) rfl))
 have hS:=hS.add (m:=MP.old p37 w39) (MP.oldC hsi hN (List.mem_of_getElem? (i:=1) rfl))
 have hS:=hS.addC hO hN
 refine wc (wal hF hS [sl none 0 0,sl none 0 0] (sgN 2 sgNil) fun b40 a w hF hS=>?_)
 refine wc (wst hF hS 0 0 2 [sl p35 (x34.Cuts).length c36,sl p37 (x34.Nodes).length c38] (sgN 2 sgNil) fun a w hF hS=>?_)
 refine wpListIn_nil ?_
 refine hK33 _ _ ?_
 refine wpIn_seq_k fun K41 hK41=>?_
 refine wpIn_region_lit ?_
 refine wp 1 [2,3,8,11,47] hF fun a hF=>?_
 refine wc (wld hF hS 0 1 0 fun a hF=>?_)
 refine wl_pure (L':=[(8,pt b11 0),(11,pt b40 0),(48,.slice p37 (x34.Nodes).length c38),(49,vi a7),(50,vi a8)]) 2 [8,11,48,49,50] hF (by kernel_rfl) fun a hF=>?_
 refine bind_split H (fun x42 hx42 H=>?_)
 refine wc (wo_index hF hS (by kernel_rfl) 3 (E:=3) (sz:=1) rfl rfl rfl (by kernel_rfl) rfl hx42 (by kernel_rfl) (by kernel_rfl) fun b43 f44 a hpx42 hF=>?_)
 refine wc (wo_storeTokS (t:=(fInt .i64)) (y:=x42) (z:=a8) (v:=vi a8) (vs:=(flat [si a8])) (sz:=1) hF hS hfr hf39 hw39 hR39 (by kernel_rfl) 2 3 4 0 0 rfl rfl (by kernel_rfl) rfl rfl rfl hpx42 hx42 rfl (by kernel_rfl) (by kernel_rfl) rfl (show segGood [si a8] from (sgN 1 sgNil)).2 rfl (by decide) rfl rfl (nfC nfB (nfC nfT (nfC nfT (nfC nfB (nfC nfB nfN))))) (rg 4) [0,1,2] (Ra:=[Ro.mp fStr.ty none 0 ([]:List ByteArray),Ro.mp (fInt .i64).ty none 0 ([]:List Int),Ro.mp fStr.ty p2 c3 a1.Cuts,Ro.mp (fInt .i64).ty p4 c5 a1.Nodes]) (Rb:=[MP.old p37 w39,MP.old p35 w39,Ro.mp fStr.ty p35 c36 x34.Cuts]) rfl rfl (aK (aK (aC (apart_ro (hS.tokApart 2 1 hpx42 rfl rfl (by decide))) aN))) (Cf:=(fun nn=>[.box b40 68 [sl p35 (x34.Cuts).length c36,sl p37 nn c38],.tok p35 9 1 (x34.Cuts).length c36,.tok p37 3 1 nn c38,.box b11 68 [sl none 0 0,sl none 0 0],.box b10 68 [sl p2 (a1.Cuts).length c3,sl p4 (a1.Nodes).length c5]])) (Lf:=(fun nn=>[(8,pt b11 0),(11,pt b40 0),(48,.slice p37 nn c38),(49,vi a7),(50,vi a8),(51,.pointer (some ⟨b43,(f44+Int.toNat a7*1),none⟩))])) [8,11,48,49,50,51] rfl (by kernel_rfl) fun a w hF hS=>?_)
 refine wpListIn_nil ?_
 refine hK41 _ _ ?_
 refine wpIn_seq_k fun K45 hK45=>?_
 refine wpIn_region_lit ?_
 refine wc (wls hF hS 0 0 2 fun a hF=>?_)
 refine wc (wst hF hS 3 0 2 [sl p35 (x34.Cuts).length c36,sl p37 ((List.set x34.Nodes (Int.toNat a7) a8)).length c38] (sgN 2 sgNil) fun a w hF hS=>?_)
 refine wp 1 [8,9] hF fun a hF=>?_
 refine wpListIn_nil ?_
 refine hK45 _ _ ?_
 refine wpIn_ret ?_
 have hS':=hS
 cases H
 exact (ret_done hF hS (res2 Tryz.results62 (rvs hF hS' 3 0 2) (rvt hF)) ⟨p35,c36,p37,c38,rfl,(hS.pick [8,0] (by kernel_rfl)).ro,hS.newC [1,2] (by decide) (by kernel_rfl)⟩)
end Go.Cf
