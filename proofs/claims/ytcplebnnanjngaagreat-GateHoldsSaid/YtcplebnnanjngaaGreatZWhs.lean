/- The walks: each function returns what its model says. Printed by a program of ours. -/
import Derived.Test.YtcplebnnanjngaaGreatZM1
import Derived.Test.YtcplebnnanjngaaGreatZWhv
namespace Go.Cf
open Go Go.Proofs
set_option linter.unusedVariables false
set_option maxRecDepth 20000 in
set_option maxHeartbeats 8000000 in
theorem C_stab_New (N:Nat){Ms:List Nat}{κ0:Gh}{w0:World}(a1:Int)(a2:Int)(a3:(List Bool))(hB:SB Ms κ0 w0 [] [ml a3 4]){r:((Option T_stab_Table)×Int)}(H:M.stab_New N a1 a2 a3=some r) :
    Calls Tryz.prog 23 #[vi a1,vi a2,.agg (flat [eb 4 a3]).toArray] w0 (Post Ms κ0 w0 fun v κ w => ∃(p29:Option Nat) (cs30:List Nat),v = .tuple #[.pointer (pa p29),vi r.2]∧SS Ms κ0 w0 κ w [.ext (optX o_stab_Table p29 cs30 r.1)] []):=by
 have hS:=hB.hS
 have hfr:=hS.fresh
 refine enter (N:=(31)) (L:=[(0,vi a1),(1,vi a2),(2,.agg (flat [eb 4 a3]).toArray)]) Tryz.func23 rfl Tryz.ntmps23 (show 3≤(31) by decide) rfl fun a hF=>?_
 unfold M.stab_New at H
 refine wpIn_seq_k fun K4 hK4=>?_
 refine wpIn_region_lit ?_
 refine wc (wbx hF hS [eb 4 a3] (sgEnc (hS.get 0 rfl) sgNil) fun b5 a w hF hS=>?_)
 refine wp 2 [0,1,5] hF fun a hF=>?_
 refine wpListIn_nil ?_
 refine hK4 _ _ ?_
 refine wpIn_seq_k fun K6 hK6=>?_
 refine wpIn_seq_k fun K7 hK7=>?_
 refine wpIn_region_lit ?_
 refine bind_split H (fun v9 hv9 H=>?_)
 refine wl_join (fun a w => ∃κ:Gh,Fr (31) [] [(0,vi a1),(1,vi a2),(5,pt b5 0),(21,vb v9)] a∧SS Ms κ0 w0 κ w [.box b5 22 [eb 4 a3]] [ml a3 4]∧True) ?_ ?_
 refine wp 3 [0,1,5,10] hF fun a hF=>?_
 refine bif_split hv9 (fun hb hv9=>?_) (fun hb hv9=>?_)
 have hF:=hF.boolv 10 (by kernel_rfl) hb
 refine wp 11 [0,1,5,21] hF fun a hF=>?_
 refine wpListIn_nil ?_
 cases hv9
 exact ⟨_,hF.kp [0,1,5,21],hS.sp [0] [0],trivial⟩
 have hF:=hF.boolv 10 (by kernel_rfl) hb
 refine wp 4 [0,1,5,14] hF fun a hF=>?_
 refine bif_split hv9 (fun hb hv9=>?_) (fun hb hv9=>?_)
 have hF:=hF.boolv 14 (by kernel_rfl) hb
 refine wp 7 [0,1,5,21] hF fun a hF=>?_
 refine wpListIn_nil ?_
 cases hv9
 exact ⟨_,hF.kp [0,1,5,21],hS.sp [0] [0],trivial⟩
 have hF:=hF.boolv 14 (by kernel_rfl) hb
 refine wp 4 [0,1,5,18] hF fun a hF=>?_
 refine bif_split hv9 (fun hb hv9=>?_) (fun hb hv9=>?_)
 have hF:=hF.boolv 18 (by kernel_rfl) hb
 refine wp 3 [0,1,5,21] hF fun a hF=>?_
 refine wpListIn_nil ?_
 cases hv9
 exact ⟨_,hF.kp [0,1,5,21],hS.sp [0] [0],trivial⟩
 have hF:=hF.boolv 18 (by kernel_rfl) hb
 refine wp 3 [0,1,5,21] hF fun a hF=>?_
 refine wpListIn_nil ?_
 cases hv9
 exact ⟨_,hF.kp [0,1,5,21],hS.sp [0] [0],trivial⟩
 rintro a w ⟨κ,hF,hS,-⟩
 refine hK7 _ _ ?_
 refine bif_split H (fun hb H=>?_) (fun hb H=>?_)
 refine cond_t hF (by kernel_rfl) hb ?_
 refine wpIn_seq_k fun K10 hK10=>?_
 refine wpIn_region_lit ?_
 refine wp 2 [6,7] hF fun a hF=>?_
 refine wpListIn_nil ?_
 refine hK10 _ _ ?_
 refine wpIn_ret ?_
 have hS:=hS.addOpt o_stab_Table
 cases H
 exact ret_done hF hS (res2 Tryz.results23 (rvt hF) (rvt hF)) ⟨none,[],rfl,hS.sp [0] []⟩
 refine cond_f hF (by kernel_rfl) hb ?_
 refine wpIn_skip ?_
 refine hK6 _ _ ?_
 refine wpIn_seq_k fun K11 hK11=>?_
 refine bind_split H (fun v22 hv22 H=>?_)
 refine code_join (fun a w => ∃(κ:Gh) (b12:Nat) (p13:Option Addr) (c14:Nat),Fr (31) [] [(6,pt b12 0),(7,vi 0)] a∧SS Ms κ0 w0 κ w [.box b12 109 [si a1,sl p13 (v22.1).length c14,si v22.2.1,eb 4 v22.2.2.1,(4,(encs (fInt .u64) v22.2.2.2.1)),si v22.2.2.2.2.1,eb 4 v22.2.2.2.2.2.1,(4,(encs (fInt .u64) v22.2.2.2.2.2.2)),su 0],.ext (ownX (fInt .u64) 32 p13 c14 v22.1)] [ml v22.2.2.1 4,ml v22.2.2.2.1 4,ml v22.2.2.2.2.2.1 4,ml v22.2.2.2.2.2.2 4]∧True) ?_ ?_
 refine rgS hS [] ?_
 have hS:=hS.drew
 refine bind_split hv22 (fun x23 hx23 hv22=>?_)
 refine bind_split hv22 (fun x25 hx25 hv22=>?_)
 refine bind_split hv22 (fun x26 hx26 hv22=>?_)
 refine any_pure [0,1] [5,22,23] (L':=[(5,pt b5 0),(22,vi a1),(23,vi a2)]) (listed':=(bitA 11 3)) (fuel:=9) hF (hS.sx [0] [0]) (by kernel_rfl) (by intro c a w t v h; cases t<;>exact h) (by kernel_rfl) rfl fun a hF=>?_
 refine atk 3 (some 25) hF (hS.sx [0] [0]) rfl (vls 0 0 1) fun a hF=>?_
 refine atk 5 (some 27) hF (hS.sx [0] [0]) rfl (vls 0 0 1) fun a hF=>?_
 refine ago2 2 4 hF rfl rfl ?_ ?_
 refine wo_makeO (E:=32) (i:=Tryz.t32) (z:=vu 0) (zm:=0) (kl := .i64) (kc := .i64) hF hS (by kernel_rfl) (fInt .u64) rfl (by kernel_rfl) (by kernel_rfl) hx23 (by kernel_rfl) (by kernel_rfl) (by kernel_rfl) (by kernel_rfl) (Nat.le_of_ble_eq_true (by kernel_rfl)) (by kernel_rfl) fun p24 a w hF hS=>?_
 refine ⟨fun _=>(hS.sx [1] [0]),?_⟩
 refine ago 4 hF rfl ?_
 refine wo_callP hF hS (by kernel_rfl) (by kernel_rfl) (C_vec_New N hS.fresh 0 a3 ((hS.pick [0] (by kernel_rfl)).ro) hx25) ?_
 rintro _ κ w a ⟨rfl,hR,hN⟩ hF hS hO
 have hS:=hS.adds hR
 refine ⟨fun _=>(hS.sx [1] [2]),?_⟩
 refine ago 6 hF rfl ?_
 refine wo_callP hF hS (by kernel_rfl) (by kernel_rfl) (C_vec_New N hS.fresh 0 a3 ((hS.pick [2] (by kernel_rfl)).ro) hx26) ?_
 rintro _ κ w a ⟨rfl,hR,hN⟩ hF hS hO
 have hS:=hS.adds hR
 refine ⟨fun _=>(hS.sx [1] [4]),?_⟩
 refine ago 7 hF rfl ?_
 refine wo_val hF (by kernel_rfl) (v := .agg (flat [si a1,sl p24 (x23).length (x23).length,si x25.Epoch,eb 4 x25.Has,(4,(encs (fInt .u64) x25.T)),si x26.Epoch,eb 4 x26.Has,(4,(encs (fInt .u64) x26.T)),su 0]).toArray) (val_build (rows:=[[si 0],[sl none 0 0],[si 0,eb 4 (List.replicate 4 false),(4,(encs (fInt .u64) (List.replicate 4 0)))],[si 0,eb 4 (List.replicate 4 false),(4,(encs (fInt .u64) (List.replicate 4 0)))],[su 0]]) (vals:=[(0,[si a1]),(1,[sl p24 (x23).length (x23).length]),(2,[si x25.Epoch,eb 4 x25.Has,(4,(encs (fInt .u64) x25.T))]),(3,[si x26.Epoch,eb 4 x26.Has,(4,(encs (fInt .u64) x26.T))])]) (sizes:=[1,1,9,9,1]) (s':=[si a1,sl p24 (x23).length (x23).length,si x25.Epoch,eb 4 x25.Has,(4,(encs (fInt .u64) x25.T)),si x26.Epoch,eb 4 x26.Has,(4,(encs (fInt .u64) x26.T)),su 0]) rfl (by kernel_rfl) (by kernel_rfl) (by kernel_rfl) (by kernel_rfl) (by kernel_rfl) (sgN 3 (sgEnc (hS.get 2 rfl) (sgEnc (hS.get 3 rfl) (sgN 1 (sgEnc (hS.get 0 rfl) (sgEnc (hS.get 1 rfl) sgNil)))))) (by kernel_rfl) (by kernel_rfl) _) fun a hF=>?_
 refine ⟨fun _=>(hS.sx [1] [4]),?_⟩
 refine ago 8 hF rfl ?_
 refine wbx hF hS [si a1,sl p24 (x23).length (x23).length,si x25.Epoch,eb 4 x25.Has,(4,(encs (fInt .u64) x25.T)),si x26.Epoch,eb 4 x26.Has,(4,(encs (fInt .u64) x26.T)),su 0] (sgN 3 (sgEnc (hS.get 2 rfl) (sgEnc (hS.get 3 rfl) (sgN 1 (sgEnc (hS.get 0 rfl) (sgEnc (hS.get 1 rfl) (sgN 1 sgNil))))))) fun b27 a w hF hS=>?_
 refine ⟨fun _=>(hS.sx [2] [4]),?_⟩
 refine anp [9,10] [6,7] hF (hS.sx [2] [4]) fun a hF=>?_
 refine and_ ?_
 cases hv22
 exact ⟨_,b27,p24,(x23).length,hF.kp [6,7],hS.sp [0,1] [2,3,0,1],trivial⟩
 refine wo_callP hF hS (by kernel_rfl) (by kernel_rfl) (C_vec_New N hS.fresh 0 a3 ((hS.pick [0] (by kernel_rfl)).ro) hx25) ?_
 rintro _ κ w a ⟨rfl,hR,hN⟩ hF hS hO
 have hS:=hS.adds hR
 refine ⟨fun _=>(hS.sx [0] [2]),?_⟩
 refine ago2 2 6 hF rfl rfl ?_ ?_
 refine wo_makeO (E:=32) (i:=Tryz.t32) (z:=vu 0) (zm:=0) (kl := .i64) (kc := .i64) hF hS (by kernel_rfl) (fInt .u64) rfl (by kernel_rfl) (by kernel_rfl) hx23 (by kernel_rfl) (by kernel_rfl) (by kernel_rfl) (by kernel_rfl) (Nat.le_of_ble_eq_true (by kernel_rfl)) (by kernel_rfl) fun p24 a w hF hS=>?_
 refine ⟨fun _=>(hS.sx [1] [2]),?_⟩
 refine ago 6 hF rfl ?_
 refine wo_callP hF hS (by kernel_rfl) (by kernel_rfl) (C_vec_New N hS.fresh 0 a3 ((hS.pick [2] (by kernel_rfl)).ro) hx26) ?_
 rintro _ κ w a ⟨rfl,hR,hN⟩ hF hS hO
 have hS:=hS.adds hR
 refine ⟨fun _=>(hS.sx [1] [4]),?_⟩
 refine ago 7 hF rfl ?_
 refine wo_val hF (by kernel_rfl) (v := .agg (flat [si a1,sl p24 (x23).length (x23).length,si x25.Epoch,eb 4 x25.Has,(4,(encs (fInt .u64) x25.T)),si x26.Epoch,eb 4 x26.Has,(4,(encs (fInt .u64) x26.T)),su 0]).toArray) (val_build (rows:=[[si 0],[sl none 0 0],[si 0,eb 4 (List.replicate 4 false),(4,(encs (fInt .u64) (List.replicate 4 0)))],[si 0,eb 4 (List.replicate 4 false),(4,(encs (fInt .u64) (List.replicate 4 0)))],[su 0]]) (vals:=[(0,[si a1]),(1,[sl p24 (x23).length (x23).length]),(2,[si x25.Epoch,eb 4 x25.Has,(4,(encs (fInt .u64) x25.T))]),(3,[si x26.Epoch,eb 4 x26.Has,(4,(encs (fInt .u64) x26.T))])]) (sizes:=[1,1,9,9,1]) (s':=[si a1,sl p24 (x23).length (x23).length,si x25.Epoch,eb 4 x25.Has,(4,(encs (fInt .u64) x25.T)),si x26.Epoch,eb 4 x26.Has,(4,(encs (fInt .u64) x26.T)),su 0]) rfl (by kernel_rfl) (by kernel_rfl) (by kernel_rfl) (by kernel_rfl) (by kernel_rfl) (sgN 3 (sgEnc (hS.get 2 rfl) (sgEnc (hS.get 3 rfl) (sgN 1 (sgEnc (hS.get 0 rfl) (sgEnc (hS.get 1 rfl) sgNil)))))) (by kernel_rfl) (by kernel_rfl) _) fun a hF=>?_
 refine ⟨fun _=>(hS.sx [1] [4]),?_⟩
 refine ago 8 hF rfl ?_
 refine wbx hF hS [si a1,sl p24 (x23).length (x23).length,si x25.Epoch,eb 4 x25.Has,(4,(encs (fInt .u64) x25.T)),si x26.Epoch,eb 4 x26.Has,(4,(encs (fInt .u64) x26.T)),su 0] (sgN 3 (sgEnc (hS.get 2 rfl) (sgEnc (hS.get 3 rfl) (sgN 1 (sgEnc (hS.get 0 rfl) (sgEnc (hS.get 1 rfl) (sgN 1 sgNil))))))) fun b27 a w hF hS=>?_
 refine ⟨fun _=>(hS.sx [2] [4]),?_⟩
 refine anp [9,10] [6,7] hF (hS.sx [2] [4]) fun a hF=>?_
 refine and_ ?_
 cases hv22
 exact ⟨_,b27,p24,(x23).length,hF.kp [6,7],hS.sp [0,1] [2,3,0,1],trivial⟩
 refine wo_callP hF hS (by kernel_rfl) (by kernel_rfl) (C_vec_New N hS.fresh 0 a3 ((hS.pick [2] (by kernel_rfl)).ro) hx26) ?_
 rintro _ κ w a ⟨rfl,hR,hN⟩ hF hS hO
 have hS:=hS.adds hR
 refine ⟨fun _=>(hS.sx [0] [4]),?_⟩
 refine ago 2 hF rfl ?_
 refine wo_makeO (E:=32) (i:=Tryz.t32) (z:=vu 0) (zm:=0) (kl := .i64) (kc := .i64) hF hS (by kernel_rfl) (fInt .u64) rfl (by kernel_rfl) (by kernel_rfl) hx23 (by kernel_rfl) (by kernel_rfl) (by kernel_rfl) (by kernel_rfl) (Nat.le_of_ble_eq_true (by kernel_rfl)) (by kernel_rfl) fun p24 a w hF hS=>?_
 refine ⟨fun _=>(hS.sx [1] [4]),?_⟩
 refine ago 7 hF rfl ?_
 refine wo_val hF (by kernel_rfl) (v := .agg (flat [si a1,sl p24 (x23).length (x23).length,si x25.Epoch,eb 4 x25.Has,(4,(encs (fInt .u64) x25.T)),si x26.Epoch,eb 4 x26.Has,(4,(encs (fInt .u64) x26.T)),su 0]).toArray) (val_build (rows:=[[si 0],[sl none 0 0],[si 0,eb 4 (List.replicate 4 false),(4,(encs (fInt .u64) (List.replicate 4 0)))],[si 0,eb 4 (List.replicate 4 false),(4,(encs (fInt .u64) (List.replicate 4 0)))],[su 0]]) (vals:=[(0,[si a1]),(1,[sl p24 (x23).length (x23).length]),(2,[si x25.Epoch,eb 4 x25.Has,(4,(encs (fInt .u64) x25.T))]),(3,[si x26.Epoch,eb 4 x26.Has,(4,(encs (fInt .u64) x26.T))])]) (sizes:=[1,1,9,9,1]) (s':=[si a1,sl p24 (x23).length (x23).length,si x25.Epoch,eb 4 x25.Has,(4,(encs (fInt .u64) x25.T)),si x26.Epoch,eb 4 x26.Has,(4,(encs (fInt .u64) x26.T)),su 0]) rfl (by kernel_rfl) (by kernel_rfl) (by kernel_rfl) (by kernel_rfl) (by kernel_rfl) (sgN 3 (sgEnc (hS.get 2 rfl) (sgEnc (hS.get 3 rfl) (sgN 1 (sgEnc (hS.get 0 rfl) (sgEnc (hS.get 1 rfl) sgNil)))))) (by kernel_rfl) (by kernel_rfl) _) fun a hF=>?_
 refine ⟨fun _=>(hS.sx [1] [4]),?_⟩
 refine ago 8 hF rfl ?_
 refine wbx hF hS [si a1,sl p24 (x23).length (x23).length,si x25.Epoch,eb 4 x25.Has,(4,(encs (fInt .u64) x25.T)),si x26.Epoch,eb 4 x26.Has,(4,(encs (fInt .u64) x26.T)),su 0] (sgN 3 (sgEnc (hS.get 2 rfl) (sgEnc (hS.get 3 rfl) (sgN 1 (sgEnc (hS.get 0 rfl) (sgEnc (hS.get 1 rfl) (sgN 1 sgNil))))))) fun b27 a w hF hS=>?_
 refine ⟨fun _=>(hS.sx [2] [4]),?_⟩
 refine anp [9,10] [6,7] hF (hS.sx [2] [4]) fun a hF=>?_
 refine and_ ?_
 cases hv22
 exact ⟨_,b27,p24,(x23).length,hF.kp [6,7],hS.sp [0,1] [2,3,0,1],trivial⟩
 rintro a w ⟨κ,b12,p13,c14,hF,hS,-⟩
 refine hK11 _ _ ?_
 refine wpIn_ret ?_
 obtain ⟨cs28,hS⟩:=hS.foldI (ck:=c_stab_Table) (fs:=q_stab_Table) b12 (p13,c14) (T_stab_Table.mk a1 v22.1 (T_vec_Vec.mk v22.2.1 v22.2.2.1 v22.2.2.2.1) (T_vec_Vec.mk v22.2.2.2.2.1 v22.2.2.2.2.2.1 v22.2.2.2.2.2.2) 0) [0,1] [] (rg 4) (by decide) (by kernel_rfl) (by kernel_rfl)
 cases H
 exact ret_done hF hS (res2 Tryz.results23 (rvt hF) (rvt hF)) ⟨(some b12),cs28,rfl,hS.sp [0] []⟩
set_option maxRecDepth 20000 in
set_option maxHeartbeats 8000000 in
theorem C_stab_Table_Stable (N:Nat){Ms:List Nat}{κ0:Gh}{w0:World}(a1:T_stab_Table)(p2:Option Addr)(c3:Nat)(b4:Nat)(hB:SB Ms κ0 w0 [.box b4 109 [si a1.dc,sl p2 (a1.beats).length c3,si a1.got.Epoch,eb 4 a1.got.Has,(4,(encs (fInt .u64) a1.got.T)),si a1.known.Epoch,eb 4 a1.known.Has,(4,(encs (fInt .u64) a1.known.T)),su a1.stable],.ext (ownX (fInt .u64) 32 p2 c3 a1.beats)] [ml a1.got.Has 4,ml a1.got.T 4,ml a1.known.Has 4,ml a1.known.T 4]){r:(Int)}(H:M.stab_Table_Stable N a1=some r) :
    Calls Tryz.prog 28 #[pt b4 0] w0 (Post Ms κ0 w0 fun v κ w=>v=vu r∧SS Ms κ0 w0 κ w [.box b4 109 [si a1.dc,sl p2 (a1.beats).length c3,si a1.got.Epoch,eb 4 a1.got.Has,(4,(encs (fInt .u64) a1.got.T)),si a1.known.Epoch,eb 4 a1.known.Has,(4,(encs (fInt .u64) a1.known.T)),su a1.stable],.ext (ownX (fInt .u64) 32 p2 c3 a1.beats)] []):=by
 have hS:=hB.hS
 have hfr:=hS.fresh
 refine enter (N:=(9)) (L:=[(0,pt b4 0)]) Tryz.func28 rfl Tryz.ntmps28 (show 1≤(9) by decide) rfl fun a hF=>?_
 unfold M.stab_Table_Stable at H
 refine wpIn_seq_k fun K5 hK5=>?_
 refine wpIn_region_lit ?_
 refine wp 1 [0] hF fun a hF=>?_
 refine wpListIn_nil ?_
 refine hK5 _ _ ?_
 refine wpIn_seq_k fun K6 hK6=>?_
 refine wpIn_seq_k fun K7 hK7=>?_
 refine wpIn_region_lit ?_
 refine wp 2 [0,4] hF fun a hF=>?_
 refine wpListIn_nil ?_
 refine hK7 _ _ ?_
 refine cond_f hF (by kernel_rfl) rfl ?_
 refine wpIn_skip ?_
 refine hK6 _ _ ?_
 refine wpIn_seq_k fun K8 hK8=>?_
 refine wpIn_region_lit ?_
 refine wp 3 [7] hF fun a hF=>?_
 refine wc (wld hF hS 0 8 0 fun a hF=>?_)
 refine wp 1 [2] hF fun a hF=>?_
 refine wpListIn_nil ?_
 refine hK8 _ _ ?_
 refine wpIn_ret ?_
 cases H
 exact ret_done hF hS (res1 Tryz.results28 (rvt hF)) ⟨rfl,hS.sp [0,1] []⟩
set_option maxRecDepth 20000 in
set_option maxHeartbeats 8000000 in
theorem C_stab_Table_Local (N:Nat){Ms:List Nat}{κ0:Gh}{w0:World}(a1:T_stab_Table)(p2:Option Addr)(c3:Nat)(b4:Nat)(hB:SB Ms κ0 w0 [.box b4 109 [si a1.dc,sl p2 (a1.beats).length c3,si a1.got.Epoch,eb 4 a1.got.Has,(4,(encs (fInt .u64) a1.got.T)),si a1.known.Epoch,eb 4 a1.known.Has,(4,(encs (fInt .u64) a1.known.T)),su a1.stable],.ext (ownX (fInt .u64) 32 p2 c3 a1.beats)] [ml a1.got.Has 4,ml a1.got.T 4,ml a1.known.Has 4,ml a1.known.T 4]){r:(Int)}(H:M.stab_Table_Local N a1=some r) :
    Calls Tryz.prog 40 #[pt b4 0] w0 (Post Ms κ0 w0 fun v κ w=>v=vu r∧SS Ms κ0 w0 κ w [.box b4 109 [si a1.dc,sl p2 (a1.beats).length c3,si a1.got.Epoch,eb 4 a1.got.Has,(4,(encs (fInt .u64) a1.got.T)),si a1.known.Epoch,eb 4 a1.known.Has,(4,(encs (fInt .u64) a1.known.T)),su a1.stable],.ext (ownX (fInt .u64) 32 p2 c3 a1.beats)] []):=by
 have hS:=hB.hS
 have hfr:=hS.fresh
 refine enter (N:=(28)) (L:=[(0,pt b4 0)]) Tryz.func40 rfl Tryz.ntmps40 (show 1≤(28) by decide) rfl fun a hF=>?_
 unfold M.stab_Table_Local at H
 refine wpIn_seq_k fun K5 hK5=>?_
 refine wpIn_region_lit ?_
 refine wp 1 [0] hF fun a hF=>?_
 refine wpListIn_nil ?_
 refine hK5 _ _ ?_
 refine wpIn_seq_k fun K6 hK6=>?_
 refine wpIn_seq_k fun K7 hK7=>?_
 refine wpIn_region_lit ?_
 refine wp 2 [0,7] hF fun a hF=>?_
 refine wpListIn_nil ?_
 refine hK7 _ _ ?_
 refine cond_f hF (by kernel_rfl) rfl ?_
 refine wpIn_skip ?_
 refine hK6 _ _ ?_
 refine wpIn_seq_k fun K8 hK8=>?_
 refine wpIn_region_lit ?_
 refine wl_pure (L':=[(0,pt b4 0),(10,pt b4 1)]) 3 [0,10] hF (by kernel_rfl) fun a hF=>?_
 refine wc (wld hF hS 0 1 0 fun a hF=>?_)
 refine bind_split H (fun x9 hx9 H=>?_)
 refine wc (wo_indexO hF hS (by kernel_rfl) 1 (sz:=1) rfl rfl rfl rfl rfl hx9 (by kernel_rfl) (by kernel_rfl) fun b10 f11 a hpx9 hF=>?_)
 refine wc (wo_loadO hF hS (by kernel_rfl) 1 (v:=vu x9) rfl rfl hpx9 rfl hx9 rfl (by kernel_rfl) (by kernel_rfl) fun a hF=>?_)
 refine wp 1 [0,3] hF fun a hF=>?_
 refine wpListIn_nil ?_
 refine hK8 _ _ ?_
 refine wpIn_seq_k fun K12 hK12=>?_
 refine wpIn_seq_k fun K13 hK13=>?_
 refine wpIn_region_lit ?_
 refine wp 3 [3,16] hF fun a hF=>?_
 refine wc (wld hF hS 0 1 0 fun a hF=>?_)
 refine wp 2 [3,17,18,19] hF fun a hF=>?_
 refine wpListIn_nil ?_
 refine hK13 _ _ ?_
 refine wpIn_block ?_
 refine loop_fuel (n:=N) (fun n a w => ∃(κ:Gh) (y64 y65:Int),Fr (28) [] [(3,vu y64),(17,.slice p2 (a1.beats).length c3),(18,vi ((a1.beats).length:Int)),(19,vi y65)] a∧SS Ms κ0 w0 κ w [.box b4 109 [si a1.dc,sl p2 (a1.beats).length c3,si a1.got.Epoch,eb 4 a1.got.Has,(4,(encs (fInt .u64) a1.got.T)),si a1.known.Epoch,eb 4 a1.known.Has,(4,(encs (fInt .u64) a1.known.T)),su a1.stable],.ext (ownX (fInt .u64) 32 p2 c3 a1.beats)] [ml a1.got.Has 4,ml a1.got.T 4,ml a1.known.Has 4,ml a1.known.T 4]∧M.stab_Table_Local_L1 N n a1 y64 y65=some r) ?_ ?_
 exact ⟨_,x9,0,hF.kp [3,17,18,19],hS.sp [0,1] (rg 4),H⟩
 rintro n a w ⟨κ,y64,y65,hF,hS,H⟩
 rcases n with _|fuel1
 simp [M.stab_Table_Local_L1] at H
 simp only [M.stab_Table_Local_L1] at H
 refine wpIn_seq_k fun K66 hK66=>?_
 refine wpIn_region_lit ?_
 refine wl_pure (L':=[(3,vu y64),(17,.slice p2 (a1.beats).length c3),(18,vi ((a1.beats).length:Int)),(19,vi y65),(20,vb (decide (y65<((a1.beats).length:Int))))]) 1 [3,17,18,19,20] hF (by kernel_rfl) fun a hF=>?_
 refine wpListIn_nil ?_
 refine hK66 _ _ ?_
 refine wpIn_seq_k fun K67 hK67=>?_
 refine bif_split H (fun hb H=>?_) (fun hb H=>?_)
 refine cond_t hF (by kernel_rfl) hb ?_
 refine wpIn_skip ?_
 refine hK67 _ _ ?_
 refine wpIn_seq_k fun K68 hK68=>?_
 refine wpIn_block ?_
 refine wpIn_seq_k fun K69 hK69=>?_
 refine wpIn_region_lit ?_
 refine bind_split H (fun x70 hx70 H=>?_)
 refine wc (wo_indexO hF hS (by kernel_rfl) 1 (sz:=1) rfl rfl rfl rfl rfl hx70 (by kernel_rfl) (by kernel_rfl) fun b71 f72 a hpx70 hF=>?_)
 refine wc (wo_loadO hF hS (by kernel_rfl) 1 (v:=vu x70) rfl rfl hpx70 rfl hx70 rfl (by kernel_rfl) (by kernel_rfl) fun a hF=>?_)
 refine wp 1 [3,5,17,18,19] hF fun a hF=>?_
 refine wpListIn_nil ?_
 refine hK69 _ _ ?_
 refine wpIn_region_lit ?_
 refine wp 4 [3,17,18,19] hF fun a hF=>?_
 refine wpListIn_nil ?_
 refine hK68 _ _ ?_
 refine wpIn_region_lit ?_
 refine wp 2 [3,17,18,19] hF fun a hF=>?_
 refine wpListIn_nil ?_
 exact ⟨fuel1,Nat.lt_succ_self _,_,(if x70<y64 then x70 else y64),IntKind.i64.wrap (y65+1),hF.kp [3,17,18,19],hS.sp [0,1] (rg 4),H⟩
 refine cond_f hF (by kernel_rfl) hb ?_
 refine wpIn_exit ?_
 refine hK12 _ _ ?_
 refine wpIn_seq_k fun K73 hK73=>?_
 refine wpIn_region_lit ?_
 refine wp 2 [2] hF fun a hF=>?_
 refine wpListIn_nil ?_
 refine hK73 _ _ ?_
 refine wpIn_ret ?_
 cases H
 exact ret_done hF hS (res1 Tryz.results40 (rvt hF)) ⟨rfl,hS.sp [0,1] []⟩
end Go.Cf
