/- The walks: each function returns what its model says. Printed by a program of ours. -/
import Derived.Test.YtcplebnnanjngaaGreatZM1
import Derived.Test.YtcplebnnanjngaaGreatZWhp
import Derived.Test.YtcplebnnanjngaaGreatZWhg1
namespace Go.Cf
open Go Go.Proofs
set_option linter.unusedVariables false
set_option maxRecDepth 20000 in
set_option maxHeartbeats 8000000 in
theorem C_slices_Clone___api_Ver_api_Ver__sn (N:Nat){κ0:Gh}{w0:World}(hfr:Fresh κ0 w0)(a1:(List T_api_Ver))(hR : ∀m∈([]:List MP),m.p κ0 w0){r:((List T_api_Ver))}(H:M.slices_Clone___api_Ver_api_Ver__sn N a1=some r) :
    Calls Tryz.prog 66 #[.slice none 0 0] w0 (Post [] κ0 w0 fun v κ w => ∃(p6:Option Addr) (c7:Nat),v = .slice p6 (r).length c7∧(∀m∈([Ro.mp f_api_Ver.ty p6 c7 r]:List MP),m.p κ w)∧NewC w0 κ w [.tok p6 48 6 (r).length c7]):=by
 have hS:=SS.start hfr hR
 refine enter (N:=(8)) (L:=[(0,.slice none 0 0)]) Tryz.func66 rfl Tryz.ntmps66 (show 1≤(8) by decide) rfl fun a hF=>?_
 unfold M.slices_Clone___api_Ver_api_Ver__sn at H
 refine wpIn_seq_k fun K2 hK2=>?_
 refine wpIn_region_lit ?_
 refine wp 1 [0] hF fun a hF=>?_
 refine wpListIn_nil ?_
 refine hK2 _ _ ?_
 refine wpIn_seq_k fun K3 hK3=>?_
 refine wpIn_seq_k fun K4 hK4=>?_
 refine wpIn_region_lit ?_
 refine wp 2 [0,4] hF fun a hF=>?_
 refine wpListIn_nil ?_
 refine hK4 _ _ ?_
 refine cond_t hF (by kernel_rfl) rfl ?_
 refine wpIn_seq_k fun K5 hK5=>?_
 refine wpIn_region_lit ?_
 refine wp 1 [2] hF fun a hF=>?_
 refine wpListIn_nil ?_
 refine hK5 _ _ ?_
 refine wpIn_ret ?_
 have hS:=hS.add (m:=Ro.mp f_api_Ver.ty none 0 ([]:List T_api_Ver)) (Ro.nil f_api_Ver.ty _ _)
 have hS:=hS.addNil 48 6
 cases H
 exact (ret_done hF hS (res1 Tryz.results66 (rvt hF)) ⟨none,0,rfl,(hS.pick [0] (by kernel_rfl)).ro,hS.newC [0] (by decide) (by kernel_rfl)⟩)
set_option maxRecDepth 20000 in
set_option maxHeartbeats 8000000 in
theorem C_slices_Clone___api_Ver_api_Ver__ss (N:Nat){κ0:Gh}{w0:World}(hfr:Fresh κ0 w0)(a1:(List T_api_Ver))(p2:Addr)(c3:Nat)(hR : ∀m∈([Ro.mp f_api_Ver.ty (some p2) c3 a1]:List MP),m.p κ0 w0){r:((List T_api_Ver))}(H:M.slices_Clone___api_Ver_api_Ver__ss N a1=some r) :
    Calls Tryz.prog 66 #[.slice (some p2) (a1).length c3] w0 (Post [] κ0 w0 fun v κ w => ∃(p12:Option Addr) (c13:Nat),v = .slice p12 (r).length c13∧(∀m∈([Ro.mp f_api_Ver.ty p12 c13 r]:List MP),m.p κ w)∧NewC w0 κ w [.tok p12 48 6 (r).length c13]):=by
 have hS:=SS.start hfr hR
 refine enter (N:=(8)) (L:=[(0,.slice (some p2) (a1).length c3)]) Tryz.func66 rfl Tryz.ntmps66 (show 1≤(8) by decide) rfl fun a hF=>?_
 unfold M.slices_Clone___api_Ver_api_Ver__ss at H
 refine wpIn_seq_k fun K4 hK4=>?_
 refine wpIn_region_lit ?_
 refine wp 1 [0] hF fun a hF=>?_
 refine wpListIn_nil ?_
 refine hK4 _ _ ?_
 refine wpIn_seq_k fun K5 hK5=>?_
 refine wpIn_seq_k fun K6 hK6=>?_
 refine wpIn_region_lit ?_
 refine wl_pure (L':=[(0,.slice (some p2) (a1).length c3),(4,vb false)]) 2 [0,4] hF (by kernel_rfl) fun a hF=>?_
 refine wpListIn_nil ?_
 refine hK6 _ _ ?_
 refine cond_f hF (by kernel_rfl) rfl ?_
 refine wpIn_skip ?_
 refine hK5 _ _ ?_
 refine wpIn_seq_k fun K7 hK7=>?_
 refine wpIn_region_lit ?_
 refine wc (wo_build0 hF hS (by kernel_rfl) f_api_Ver.ty (E:=48) rfl (by kernel_rfl) (by kernel_rfl) fun p8 κ a w hF hS=>?_)
 refine wl_pure (L':=[(5,.slice p8 (([]:List T_api_Ver)).length 0),(6,.slice (some p2) (a1).length c3)]) 1 [5,6] hF (by kernel_rfl) fun a hF=>?_
 refine bind_split H (fun x9 hx9 H=>?_)
 refine wc (wo_append (ty:=f_api_Ver.ty) hF hS (by kernel_rfl) 0 0 1 rfl rfl rfl (by kernel_rfl) (by kernel_rfl) rfl rfl rfl hx9 (by kernel_rfl) (i:=Tryz.t48) (z := .agg (flat [sg ByteArray.empty,sg ByteArray.empty,sb false,su 0,si 0,si 0]).toArray) (by kernel_rfl) (by kernel_rfl) (by kernel_rfl) fun p10 c11 κ a w hF hS=>?_)
 refine wp 1 [2] hF fun a hF=>?_
 refine wpListIn_nil ?_
 refine hK7 _ _ ?_
 refine wpIn_ret ?_
 cases H
 exact (ret_done hF hS (res1 Tryz.results66 (rvt hF)) ⟨p10,c11,rfl,(hS.pick [0] (by kernel_rfl)).ro,hS.newC [0] (by decide) (by kernel_rfl)⟩)
theorem C_slices_Clone___api_Ver_api_Ver_ (N:Nat){κ0:Gh}{w0:World}(hfr:Fresh κ0 w0)(a1:(List T_api_Ver))(p2:Option Addr)(c3:Nat)(hR : ∀m∈([Ro.mp f_api_Ver.ty p2 c3 a1]:List MP),m.p κ0 w0){r:((List T_api_Ver))}(H:M.slices_Clone___api_Ver_api_Ver_ N a1=some r) :
    Calls Tryz.prog 66 #[.slice p2 (a1).length c3] w0 (Post [] κ0 w0 fun v κ w => ∃p12:Option Addr,∃c13:Nat,v = .slice p12 (r).length c13∧(∀m∈([Ro.mp f_api_Ver.ty p12 c13 r]:List MP),m.p κ w)∧NewC w0 κ w [.tok p12 48 6 (r).length c13]):=by
 cases p2 with
 | some p=>exact C_slices_Clone___api_Ver_api_Ver__ss N hfr a1 p c3 hR H
 | none=>
  obtain ⟨_,_,h | ⟨_,_,_,h,_⟩⟩:=hR _ (List.mem_singleton_self _)
  · obtain ⟨h1,h2⟩:=h
    subst h1 h2; cases H
    exact C_slices_Clone___api_Ver_api_Ver__sn N hfr [] (fun _ h=>by cases h) rfl
  · cases h
set_option maxRecDepth 20000 in
set_option maxHeartbeats 8000000 in
theorem C_gate_Gate_data (N:Nat){Ms:List Nat}{κ0:Gh}{w0:World}(a1:Int)(a3:(Option T_gate_move))(a6:Int)(a7:Int)(a8:(List Int))(a12:(List T_api_Mail))(a17:T_api_Msg)(cs2:List Value)(p4:Option Nat)(cs5:List Nat)(p9:Option Addr)(c10:Nat)(cs11:List Value)(p13:Option Addr)(c14:Nat)(cs15:List Value)(p18:Option Addr)(c19:Nat)(p20:Option Addr)(c21:Nat)(b16:Nat)(hB:SB Ms κ0 w0 [.box b16 87 [si a1,(32,cs2),(1,[.pointer (pa p4)]),si a6,si a7,sl p9 (a8).length c10,(5,cs11),sl p13 (a12).length c14,(1,cs15)],.tok p13 61 15 (a12).length c14,.ext (optX o_gate_move p4 cs5 a3)] [Ro.mp (fInt .u64).ty p9 c10 a8,Ro.mp t_api_Mail p13 c14 a12,Ro.mp f_api_Ver.ty p18 c19 a17.Vers,Ro.mp (fInt .u64).ty p20 c21 a17.Vec]){r:((Option T_gate_move)×(List T_api_Mail))}(H:M.gate_Gate_data N a1 a3 a6 a7 a8 a12 a17=some r) :
    Calls Tryz.prog 74 #[pt b16 0,.agg (flat [si a17.Kind,su a17.Id,su a17.N,su a17.TS,sg a17.Lo,sg a17.Hi,sl p18 (a17.Vers).length c19,sl p20 (a17.Vec).length c21,si a17.Cmd.Kind,si a17.Cmd.DC,si a17.Cmd.Shard,si a17.Cmd.Node,si a17.Cmd.Mode,sg a17.Cmd.Key]).toArray] w0 (Post Ms κ0 w0 fun v κ w => ∃(p51:Option Nat) (cs52:List Nat) (p53:Option Addr) (c54:Nat),v = .tuple #[]∧SS Ms κ0 w0 κ w [.box b16 87 [si a1,(32,cs2),(1,[.pointer (pa p51)]),si a6,si a7,sl p9 (a8).length c10,(5,cs11),sl p53 (r.2).length c54,(1,cs15)],.tok p53 61 15 (r.2).length c54,.ext (optX o_gate_move p51 cs52 r.1)] [Ro.mp t_api_Mail p53 c54 r.2]):=by
 have hS:=hB.hS
 have hfr:=hS.fresh
 refine enter (N:=(111)) (L:=[(0,pt b16 0),(1,.agg (flat [si a17.Kind,su a17.Id,su a17.N,su a17.TS,sg a17.Lo,sg a17.Hi,sl p18 (a17.Vers).length c19,sl p20 (a17.Vec).length c21,si a17.Cmd.Kind,si a17.Cmd.DC,si a17.Cmd.Shard,si a17.Cmd.Node,si a17.Cmd.Mode,sg a17.Cmd.Key]).toArray)]) Tryz.func74 rfl Tryz.ntmps74 (show 2≤(111) by decide) rfl fun a hF=>?_
 unfold M.gate_Gate_data at H
 refine wpIn_seq_k fun K22 hK22=>?_
 refine wpIn_region_lit ?_
 refine wc (wbx hF hS [si a17.Kind,su a17.Id,su a17.N,su a17.TS,sg a17.Lo,sg a17.Hi,sl p18 (a17.Vers).length c19,sl p20 (a17.Vec).length c21,si a17.Cmd.Kind,si a17.Cmd.DC,si a17.Cmd.Shard,si a17.Cmd.Node,si a17.Cmd.Mode,sg a17.Cmd.Key] (sgN 14 sgNil) fun b23 a w hF hS=>?_)
 refine wpListIn_nil ?_
 refine hK22 _ _ ?_
 refine seq_join (fun a w => ∃(κ:Gh) (p24:Option Nat) (cs25:List Nat) (y26:Option T_gate_move) (y27:List T_api_Mail) (p28:Option Addr) (c29:Nat),Fr (111) [] [(0,pt b16 0),(3,pt b23 0)] a∧SS Ms κ0 w0 κ w [.box b16 87 [si a1,(32,cs2),(1,[.pointer (pa p24)]),si a6,si a7,sl p9 (a8).length c10,(5,cs11),sl p28 (y27).length c29,(1,cs15)],.box b23 38 [si a17.Kind,su a17.Id,su a17.N,su a17.TS,sg a17.Lo,sg a17.Hi,sl p18 (a17.Vers).length c19,sl p20 (a17.Vec).length c21,si a17.Cmd.Kind,si a17.Cmd.DC,si a17.Cmd.Shard,si a17.Cmd.Node,si a17.Cmd.Mode,sg a17.Cmd.Key],.tok p28 61 15 (y27).length c29,.ext (optX o_gate_move p24 cs25 y26)] [Ro.mp (fInt .u64).ty p9 c10 a8,Ro.mp t_api_Mail p28 c29 y27,Ro.mp f_api_Ver.ty p18 c19 a17.Vers,Ro.mp (fInt .u64).ty p20 c21 a17.Vec]∧M.gate_Gate_data_k1 N a1 a6 a7 a8 a17 y26 y27=some r) ?_ ?_
 refine wpIn_seq_k fun K34 hK34=>?_
 refine opt_split H (fun ho H=>?_) (fun x35 ho H=>?_)
 obtain ⟨hpq,hS⟩:=hS.optN 3 rfl ho
 rw [hpq] at hS
 try rw [hpq] at hF
 cases H
 obtain ⟨b36,hpq,hS⟩:=hS.optS 3 rfl ho
 rw [hpq] at hS
 try rw [hpq] at hF
 obtain ⟨_,hS⟩:=hS.unfI (ck:=c_gate_move) (fs:=q_gate_move) 3 rfl
 refine wpIn_region_lit ?_
 refine bind_split H (fun v39 hv39 H=>?_)
 refine wl_join (fun a w => ∃(κ:Gh) (cs37:List Nat),Fr (111) [] [(0,pt b16 0),(3,pt b23 0),(24,vb v39)] a∧SS Ms κ0 w0 κ w [.box b23 38 [si a17.Kind,su a17.Id,su a17.N,su a17.TS,sg a17.Lo,sg a17.Hi,sl p18 (a17.Vers).length c19,sl p20 (a17.Vec).length c21,si a17.Cmd.Kind,si a17.Cmd.DC,si a17.Cmd.Shard,si a17.Cmd.Node,si a17.Cmd.Mode,sg a17.Cmd.Key],.box b16 87 [si a1,(32,cs2),(1,[pt b36 0]),si a6,si a7,sl p9 (a8).length c10,(5,cs11),sl p13 (a12).length c14,(1,cs15)],.tok p13 61 15 (a12).length c14,.ext (optX o_gate_move (some b36) cs37 (some x35))] [Ro.mp (fInt .u64).ty p9 c10 a8,Ro.mp t_api_Mail p13 c14 a12,Ro.mp f_api_Ver.ty p18 c19 a17.Vers,Ro.mp (fInt .u64).ty p20 c21 a17.Vec]∧True) ?_ ?_
 refine wp 1 [0,3,5] hF fun a hF=>?_
 refine wc (wld hF hS 1 2 0 fun a hF=>?_)
 refine wp 2 [0,3,8] hF fun a hF=>?_
 refine bif_split hv39 (fun hb hv39=>?_) (fun hb hv39=>?_)
 have hF:=hF.boolv 8 (by kernel_rfl) hb
 refine wp 3 [0,3,8,11] hF fun a hF=>?_
 refine wcg hF (wld hF hS 2 2 0 fun a hF=>?_)
 refine wp 6 [0,3,15,18] hF fun a hF=>?_
 refine wcg hF (wld hF hS 2 2 0 fun a hF=>?_)
 refine wp 2 [0,3,15,21] hF fun a hF=>?_
 refine wcg hF (wld hF hS 0 5 0 fun a hF=>?_)
 refine wp 2 [0,3,24] hF fun a hF=>?_
 obtain ⟨cs40,hS⟩:=hS.foldI (ck:=c_gate_move) (fs:=q_gate_move) b36 () x35 [0] [1,2,3] [] (by decide) (by kernel_rfl) (by kernel_rfl)
 refine wpListIn_nil ?_
 cases hv39
 exact ⟨_,cs40,hF.kp [0,3,24],hS.sp [1,2,3,0] (rg 4),trivial⟩
 have hF:=hF.boolv 8 (by kernel_rfl) hb
 refine wp 16 [0,3,24] hF fun a hF=>?_
 obtain ⟨cs41,hS⟩:=hS.foldI (ck:=c_gate_move) (fs:=q_gate_move) b36 () x35 [0] [1,2,3] [] (by decide) (by kernel_rfl) (by kernel_rfl)
 refine wpListIn_nil ?_
 cases hv39
 exact ⟨_,cs41,hF.kp [0,3,24],hS.sp [1,2,3,0] (rg 4),trivial⟩
 rintro a w ⟨κ,cs37,hF,hS,-⟩
 refine hK34 _ _ ?_
 refine bif_split H (fun hb H=>?_) (fun hb H=>?_)
 refine cond_t hF (by kernel_rfl) hb ?_
 refine wpIn_seq_k fun K42 hK42=>?_
 obtain ⟨_,hS⟩:=hS.unfI (ck:=c_gate_move) (fs:=q_gate_move) 3 rfl
 refine wpIn_region_lit ?_
 refine wp 3 [0,3,27] hF fun a hF=>?_
 refine wc (wld hF hS 2 2 0 fun a hF=>?_)
 refine wp 2 [0,3,30] hF fun a hF=>?_
 refine wc (wst hF hS 0 5 1 [si 2] (sgN 1 sgNil) fun a w hF hS=>?_)
 refine wpListIn_nil ?_
 obtain ⟨cs43,hS⟩:=hS.foldI (ck:=c_gate_move) (fs:=q_gate_move) b36 () (T_gate_move.mk (T_span_Shard.mk x35.span.Lo x35.span.Hi x35.span.Node) x35.shard x35.to 2) [0] [1,2,3] [] (by decide) (by kernel_rfl) (by kernel_rfl)
 refine hK42 _ _ ?_
 obtain ⟨_,hS⟩:=hS.unfI (ck:=c_gate_move) (fs:=q_gate_move) 0 rfl
 refine rga (fun _=>True) [] ?_
 have hS:=hS.drew
 refine anp [0,1,2,3,8,10,12,13,14,20,21,22,28] [0,3,31,34,39,41,45,53,59] hF trivial fun a hF=>?_
 refine any_weakS hS [32] ?_
 refine atk 4 (some 35) hF (hS.sx [0,1,2] (rg 4)) rfl (vld 2 2 0) fun a hF=>?_
 refine anp [5,6] [0,3,31,37,39,41,45,53,59] hF (hS.sx [0,1,2] (rg 4)) fun a hF=>?_
 refine atk 7 (some 38) hF (hS.sx [0,1,2] (rg 4)) rfl (vld 0 4 0) fun a hF=>?_
 refine atk 9 (some 40) hF (hS.sx [0,1,2] (rg 4)) rfl (vld 1 1 0) fun a hF=>?_
 refine atk 11 (some 42) hF (hS.sx [0,1,2] (rg 4)) rfl (vld 1 3 0) fun a hF=>?_
 refine atk 15 (some 46) hF (hS.sx [0,1,2] (rg 4)) rfl (vld 2 2 0) fun a hF=>?_
 refine anp [16,17,18] [0,3,31,38,40,42,49,53,59] hF (hS.sx [0,1,2] (rg 4)) fun a hF=>?_
 refine atk 19 (some 50) hF (hS.sx [0,1,2] (rg 4)) rfl (vld 0 0 0) fun a hF=>?_
 refine atk 23 (some 54) hF (hS.sx [0,1,2] (rg 4)) rfl (vld 2 2 0) fun a hF=>?_
 refine anp [24,25,26] [0,3,31,38,40,42,50,57,59] hF (hS.sx [0,1,2] (rg 4)) fun a hF=>?_
 refine atk 27 (some 58) hF (hS.sx [0,1,2] (rg 4)) rfl (vld 0 1 0) fun a hF=>?_
 refine atk 29 (some 60) hF (hS.sx [0,1,2] (rg 4)) rfl (vld 1 6 0) fun a hF=>?_
 refine ago 30 hF rfl ?_
 refine bind_split H (fun x44 hx44 H=>?_)
 refine wo_callP hF hS (by kernel_rfl) (by kernel_rfl) (C_slices_Clone___api_Ver_api_Ver_ N hS.fresh a17.Vers p18 c19 ((hS.pick [2] (by kernel_rfl)).ro) hx44) ?_
 rintro _ κ w a ⟨p45,c46,rfl,hR,hN⟩ hF hS hO
 have hS:=hS.adds hR
 have hS:=hS.addC hO hN
 refine ⟨fun _=>(hS.sx [1,2,3] [1,2,3,4]),?_⟩
 refine anp [31] [0,3,31,38,62] hF (hS.sx [1,2,3] [1,2,3,4]) fun a hF=>?_
 refine ago 32 hF rfl ?_
 have hS:=hS.add (m:=Ro.mp (fInt .u64).ty none 0 ([]:List Int)) (Ro.nil (fInt .u64).ty _ _)
 refine bind_split H (fun x47 hx47 H=>?_)
 have hgx470:=hS.segs 3 rfl
 refine wcS 2 [3,4,0,1,2] hF hS (fun hS=>C_gate_Gate_tell N a1 a12 ((T_gate_move.mk (T_span_Shard.mk x35.span.Lo x35.span.Hi x35.span.Node) x35.shard x35.to 2).to) (T_api_Msg.mk 6 a17.Id 0 a17.TS (((T_gate_move.mk (T_span_Shard.mk x35.span.Lo x35.span.Hi x35.span.Node) x35.shard x35.to 2).span).Lo) (((T_gate_move.mk (T_span_Shard.mk x35.span.Lo x35.span.Hi x35.span.Node) x35.shard x35.to 2).span).Hi) x44 ([]:List Int) (T_api_Cmd.mk 0 0 0 0 0 ByteArray.empty)) (flat [(32,cs2),(1,[pt b36 0]),si a6,si a7,sl p9 (a8).length c10,(5,cs11)]) p13 c14 cs15 p45 c46 none 0 b16 ((hS.regr 0 [(false,1),(true,6),(false,2)] rfl).sbK [3,1,0]) hx47) ?_
 rintro _ κ w a ⟨p48,c49,rfl,h2⟩ hF hB
 have hS:=(hB _ _ h2).unregrK 0 [(false,1),(true,6),(false,2)] (s':=[si a1,(32,cs2),(1,[pt b36 0]),si a6,si a7,sl p9 (a8).length c10,(5,cs11),sl p48 (x47).length c49,(1,cs15)]) hgx470 rfl
 refine ⟨notE,?_⟩
 refine and_ ?_
 obtain ⟨cs50,hS⟩:=hS.foldI (ck:=c_gate_move) (fs:=q_gate_move) b36 () (T_gate_move.mk (T_span_Shard.mk x35.span.Lo x35.span.Hi x35.span.Node) x35.shard x35.to 2) [3] [0,1,2,4] [] (by decide) (by kernel_rfl) (by kernel_rfl)
 exact ⟨_,(some b36),cs50,(some (T_gate_move.mk (T_span_Shard.mk x35.span.Lo x35.span.Hi x35.span.Node) x35.shard x35.to 2)),x47,p48,c49,hF.kp [0,3],hS.sp [1,4,2,0] [3,0,5,6],H⟩
 refine cond_f hF (by kernel_rfl) hb ?_
 refine wpIn_skip ?_
 exact ⟨_,(some b36),cs37,(some x35),a12,p13,c14,hF.kp [0,3],hS.sp [1,0,2,3] (rg 4),H⟩
 rintro a w ⟨κ,p24,cs25,y26,y27,p28,c29,hF,hS,H⟩
 unfold M.gate_Gate_data_k1 at H
 refine wpIn_seq_k fun K30 hK30=>?_
 refine wpIn_region_lit ?_
 refine bind_split H (fun v32 hv32 H=>?_)
 refine wl_join (fun a w => ∃κ:Gh,Fr (111) [] [(0,pt b16 0),(3,pt b23 0),(73,vb v32)] a∧SS Ms κ0 w0 κ w [.box b16 87 [si a1,(32,cs2),(1,[.pointer (pa p24)]),si a6,si a7,sl p9 (a8).length c10,(5,cs11),sl p28 (y27).length c29,(1,cs15)],.box b23 38 [si a17.Kind,su a17.Id,su a17.N,su a17.TS,sg a17.Lo,sg a17.Hi,sl p18 (a17.Vers).length c19,sl p20 (a17.Vec).length c21,si a17.Cmd.Kind,si a17.Cmd.DC,si a17.Cmd.Shard,si a17.Cmd.Node,si a17.Cmd.Mode,sg a17.Cmd.Key],.tok p28 61 15 (y27).length c29,.ext (optX o_gate_move p24 cs25 y26)] [Ro.mp (fInt .u64).ty p9 c10 a8,Ro.mp t_api_Mail p28 c29 y27,Ro.mp f_api_Ver.ty p18 c19 a17.Vers,Ro.mp (fInt .u64).ty p20 c21 a17.Vec]∧True) ?_ ?_
 refine wp 1 [0,3,64] hF fun a hF=>?_
 refine wc (wld hF hS 1 2 0 fun a hF=>?_)
 refine wp 2 [0,3,67] hF fun a hF=>?_
 refine bif_split hv32 (fun hb hv32=>?_) (fun hb hv32=>?_)
 have hF:=hF.boolv 67 (by kernel_rfl) hb
 refine wp 3 [0,3,67,70] hF fun a hF=>?_
 refine wcg hF (wld hF hS 0 4 0 fun a hF=>?_)
 refine wp 2 [0,3,73] hF fun a hF=>?_
 refine wpListIn_nil ?_
 cases hv32
 exact ⟨_,hF.kp [0,3,73],hS.sp (rg 4) (rg 4),trivial⟩
 have hF:=hF.boolv 67 (by kernel_rfl) hb
 refine wp 6 [0,3,73] hF fun a hF=>?_
 refine wpListIn_nil ?_
 cases hv32
 exact ⟨_,hF.kp [0,3,73],hS.sp (rg 4) (rg 4),trivial⟩
 rintro a w ⟨κ,hF,hS,-⟩
 refine hK30 _ _ ?_
 refine bif_split H (fun hb H=>?_) (fun hb H=>?_)
 refine cond_t hF (by kernel_rfl) hb ?_
 refine wpIn_seq_k fun K33 hK33=>?_
 cases H
 refine cond_f hF (by kernel_rfl) hb ?_
 refine wpIn_skip ?_
 cases H
 exact ret_done hF hS (res0 Tryz.results74) ⟨p24,cs25,p28,c29,rfl,hS.sp [0,2,3] [1]⟩
end Go.Cf
