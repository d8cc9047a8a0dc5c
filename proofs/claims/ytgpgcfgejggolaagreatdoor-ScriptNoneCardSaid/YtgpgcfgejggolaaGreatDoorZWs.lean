/- The walks: each function returns what its model says. Printed by a program of ours. -/
import Derived.Test.YtgpgcfgejggolaaGreatDoorZM1
import Derived.Test.YtgpgcfgejggolaaGreatDoorZWv
namespace Go.Cf
open Go Go.Proofs
set_option linter.unusedVariables false
set_option maxRecDepth 20000
set_option maxHeartbeats 8000000
theorem C_stab_New (N:Nat){Ms:List Nat}{κ0:Gh}{w0:World}(a1:Int)(a2:Int)(a3:(List Bool))(hB:SB Ms κ0 w0 [] [ml a3 4]){r:((Option T_stab_Table)×Int)}(H:M.stab_New N a1 a2 a3=some r) :
    Calls Tryz.prog 84 #[vi a1,vi a2,.agg (flat [eb 4 a3]).toArray] w0 (Post Ms κ0 w0 fun v κ w => ∃(p29:Option Nat) (cs30:List Nat),v = .tuple #[.pointer (pa p29),vi r.2]∧SS Ms κ0 w0 κ w [ox o_stab_Table p29 cs30 r.1] []):=by
 have hS:=hB.hS
 have hfr:=hS.fresh
 refine en Tryz.func84 rfl Tryz.ntmps84 fun a hF=>?_
 unfold M.stab_New at H
 refine qr fun _ h4=>(wc (wbx hF hS [eb 4 a3] (sgEnc (hS.get 0 rfl) sgNil) fun b5 a w hF hS=>wp 2 [0,1,5] hF fun a hF=>(h4 _ _ (qs fun _ h6=>qr fun _ h7=>(bd H fun v9 hv9 H=>wl_join (fun a w => ∃κ:Gh,Fr (31) [] [(0,vi a1),(1,vi a2),(5,pt b5 0),(21,vb v9)] a∧SS Ms κ0 w0 κ w [.box b5 76 [eb 4 a3]] [ml a3 4]∧True) ?_ ?_)))))
 refine wp 3 [0,1,5,10] hF fun a hF=>bs hv9 (fun hb hv9=>?_) fun hb hv9=>?_
 have hF:=hF.bv 10 hb
 refine wp 11 [0,1,5,21] hF fun a hF=>nl ?_
 cases hv9
 exact ⟨_,hF.kp [0,1,5,21],hS.sp [0] [0],trivial⟩
 have hF:=hF.bv 10 hb
 refine wp 4 [0,1,5,14] hF fun a hF=>bs hv9 (fun hb hv9=>?_) fun hb hv9=>?_
 have hF:=hF.bv 14 hb
 refine wp 7 [0,1,5,21] hF fun a hF=>nl ?_
 cases hv9
 exact ⟨_,hF.kp [0,1,5,21],hS.sp [0] [0],trivial⟩
 have hF:=hF.bv 14 hb
 refine wp 4 [0,1,5,18] hF fun a hF=>bs hv9 (fun hb hv9=>?_) fun hb hv9=>?_
 have hF:=hF.bv 18 hb
 refine wp 3 [0,1,5,21] hF fun a hF=>nl ?_
 cases hv9
 exact ⟨_,hF.kp [0,1,5,21],hS.sp [0] [0],trivial⟩
 have hF:=hF.bv 18 hb
 refine wp 3 [0,1,5,21] hF fun a hF=>nl ?_
 cases hv9
 exact ⟨_,hF.kp [0,1,5,21],hS.sp [0] [0],trivial⟩
 rintro a w ⟨κ,hF,hS,-⟩
 refine h7 _ _ (bc hF H (fun hb H=>?_) fun hb H=>?_)
 refine qr fun _ h10=>(wp 2 [6,7] hF fun a hF=>(h10 _ _ (rt ?_)))
 have hS:=hS.addOpt o_stab_Table
 cases H
 exact ret_done hF hS (res2 Tryz.results84 (rvt hF) (rvt hF)) ⟨none,[],rfl,hS.sp [0] []⟩
 refine sk (h6 _ _ (qs fun _ h11=>bd H fun v22 hv22 H=>code_join (fun a w => ∃(κ:Gh) (b12:Nat) (p13:Option Addr) (c14:Nat),Fr (31) [] [(6,pt b12 0),(7,vi 0)] a∧SS Ms κ0 w0 κ w [.box b12 284 [si a1,sl p13 (v22.1).length c14,si v22.2.1,eb 4 v22.2.2.1,(4,(encs (fInt .u64) v22.2.2.2.1)),si v22.u4.1,eb 4 v22.u4.2.1,(4,(encs (fInt .u64) v22.u4.2.2)),su 0],.ext (ownX (fInt .u64) 56 p13 c14 v22.1)] [ml v22.2.2.1 4,ml v22.2.2.2.1 4,ml v22.u4.2.1 4,ml v22.u4.2.2 4]∧True) ?_ ?_))
 refine rgS hS [] ?_
 have hS:=hS.drew
 have hX:=hS.fx
 refine bd hv22 fun x23 hx23 hv22=>bd hv22 fun x25 hx25 hv22=>bd hv22 fun x26 hx26 hv22=>any_pure [0,1] [5,22,23] (L':=[(5,pt b5 0),(22,vi a1),(23,vi a2)]) (listed':=(bitA 11 3)) (fuel:=9) hF hX kr (by intro c a w t v h; cases t<;>exact h) kr rfl fun a hF=>atk 3 (some 25) hF hX rfl (vls 0 0 1) fun a hF=>atk 5 (some 27) hF hX rfl (vls 0 0 1) fun a hF=>ago2 2 4 hF rfl rfl ?_ ?_
 refine wo_makeO (E:=56) (i:=Tryz.t56) (z:=vu 0) (zm:=0) (kl := .i64) (kc := .i64) hF hS kr (fInt .u64) rfl kr kr hx23 kr kr kr kr (Nat.le_of_ble_eq_true kr) kr fun p24 a w hF hS=>⟨fun _=>(hS.sx [1] [0]),?_⟩
 refine ago 4 hF rfl (wo_callP hF hS kr kr (C_vec_New N hS.fresh 0 a3 ((hS.pick [0] kr).ro) hx25) ?_)
 rintro _ κ w a ⟨rfl,hR,hN⟩ hF hS hO
 have hS:=hS.adds hR
 refine ⟨fun _=>(hS.sx [1] [2]),?_⟩
 refine ago 6 hF rfl (wo_callP hF hS kr kr (C_vec_New N hS.fresh 0 a3 ((hS.pick [2] kr).ro) hx26) ?_)
 rintro _ κ w a ⟨rfl,hR,hN⟩ hF hS hO
 have hS:=hS.adds hR
 refine ⟨fun _=>(hS.sx [1] [4]),?_⟩
 refine ago 7 hF rfl (wo_val hF kr (v := .agg (flat [si a1,sl p24 x23.length x23.length,si x25.Epoch,eb 4 x25.Has,(4,(encs (fInt .u64) x25.T)),si x26.Epoch,eb 4 x26.Has,(4,(encs (fInt .u64) x26.T)),su 0]).toArray) (val_build (rows:=[[si 0],[sl none 0 0],[si 0,eb 4 (List.replicate 4 false),(4,(encs (fInt .u64) (List.replicate 4 0)))],[si 0,eb 4 (List.replicate 4 false),(4,(encs (fInt .u64) (List.replicate 4 0)))],[su 0]]) (vals:=[(0,[si a1]),(1,[sl p24 x23.length x23.length]),(2,[si x25.Epoch,eb 4 x25.Has,(4,(encs (fInt .u64) x25.T))]),(3,[si x26.Epoch,eb 4 x26.Has,(4,(encs (fInt .u64) x26.T))])]) (sizes:=[1,1,9,9,1]) (s':=[si a1,sl p24 x23.length x23.length,si x25.Epoch,eb 4 x25.Has,(4,(encs (fInt .u64) x25.T)),si x26.Epoch,eb 4 x26.Has,(4,(encs (fInt .u64) x26.T)),su 0]) rfl kr kr kr kr kr (sgN 3 (sgEnc (hS.get 2 rfl) (sgEnc (hS.get 3 rfl) (sgN 1 (sgEnc (hS.get 0 rfl) (sgEnc (hS.get 1 rfl) sgNil)))))) kr kr _) fun a hF=>?_)
 refine ⟨fun _=>(hS.sx [1] [4]),?_⟩
 refine ago 8 hF rfl (wbx hF hS [si a1,sl p24 x23.length x23.length,si x25.Epoch,eb 4 x25.Has,(4,(encs (fInt .u64) x25.T)),si x26.Epoch,eb 4 x26.Has,(4,(encs (fInt .u64) x26.T)),su 0] (sgN 3 (sgEnc (hS.get 2 rfl) (sgEnc (hS.get 3 rfl) (sgN 1 (sgEnc (hS.get 0 rfl) (sgEnc (hS.get 1 rfl) (sgN 1 sgNil))))))) fun b27 a w hF hS=>⟨fun _=>(hS.sx [2] [4]),?_⟩)
 refine anp [9,10] [6,7] hF (hS.sx [2] [4]) fun a hF=>and_ ?_
 cases hv22
 exact ⟨_,b27,p24,x23.length,hF.kp [6,7],hS.sp [0,1] [2,3,0,1],trivial⟩
 refine wo_callP hF hS kr kr (C_vec_New N hS.fresh 0 a3 ((hS.pick [0] kr).ro) hx25) ?_
 rintro _ κ w a ⟨rfl,hR,hN⟩ hF hS hO
 have hS:=hS.adds hR
 refine ⟨fun _=>(hS.sx [0] [2]),?_⟩
 refine ago2 2 6 hF rfl rfl ?_ ?_
 refine wo_makeO (E:=56) (i:=Tryz.t56) (z:=vu 0) (zm:=0) (kl := .i64) (kc := .i64) hF hS kr (fInt .u64) rfl kr kr hx23 kr kr kr kr (Nat.le_of_ble_eq_true kr) kr fun p24 a w hF hS=>⟨fun _=>(hS.sx [1] [2]),?_⟩
 refine ago 6 hF rfl (wo_callP hF hS kr kr (C_vec_New N hS.fresh 0 a3 ((hS.pick [2] kr).ro) hx26) ?_)
 rintro _ κ w a ⟨rfl,hR,hN⟩ hF hS hO
 have hS:=hS.adds hR
 refine ⟨fun _=>(hS.sx [1] [4]),?_⟩
 refine ago 7 hF rfl (wo_val hF kr (v := .agg (flat [si a1,sl p24 x23.length x23.length,si x25.Epoch,eb 4 x25.Has,(4,(encs (fInt .u64) x25.T)),si x26.Epoch,eb 4 x26.Has,(4,(encs (fInt .u64) x26.T)),su 0]).toArray) (val_build (rows:=[[si 0],[sl none 0 0],[si 0,eb 4 (List.replicate 4 false),(4,(encs (fInt .u64) (List.replicate 4 0)))],[si 0,eb 4 (List.replicate 4 false),(4,(encs (fInt .u64) (List.replicate 4 0)))],[su 0]]) (vals:=[(0,[si a1]),(1,[sl p24 x23.length x23.length]),(2,[si x25.Epoch,eb 4 x25.Has,(4,(encs (fInt .u64) x25.T))]),(3,[si x26.Epoch,eb 4 x26.Has,(4,(encs (fInt .u64) x26.T))])]) (sizes:=[1,1,9,9,1]) (s':=[si a1,sl p24 x23.length x23.length,si x25.Epoch,eb 4 x25.Has,(4,(encs (fInt .u64) x25.T)),si x26.Epoch,eb 4 x26.Has,(4,(encs (fInt .u64) x26.T)),su 0]) rfl kr kr kr kr kr (sgN 3 (sgEnc (hS.get 2 rfl) (sgEnc (hS.get 3 rfl) (sgN 1 (sgEnc (hS.get 0 rfl) (sgEnc (hS.get 1 rfl) sgNil)))))) kr kr _) fun a hF=>?_)
 refine ⟨fun _=>(hS.sx [1] [4]),?_⟩
 refine ago 8 hF rfl (wbx hF hS [si a1,sl p24 x23.length x23.length,si x25.Epoch,eb 4 x25.Has,(4,(encs (fInt .u64) x25.T)),si x26.Epoch,eb 4 x26.Has,(4,(encs (fInt .u64) x26.T)),su 0] (sgN 3 (sgEnc (hS.get 2 rfl) (sgEnc (hS.get 3 rfl) (sgN 1 (sgEnc (hS.get 0 rfl) (sgEnc (hS.get 1 rfl) (sgN 1 sgNil))))))) fun b27 a w hF hS=>⟨fun _=>(hS.sx [2] [4]),?_⟩)
 refine anp [9,10] [6,7] hF (hS.sx [2] [4]) fun a hF=>and_ ?_
 cases hv22
 exact ⟨_,b27,p24,x23.length,hF.kp [6,7],hS.sp [0,1] [2,3,0,1],trivial⟩
 refine wo_callP hF hS kr kr (C_vec_New N hS.fresh 0 a3 ((hS.pick [2] kr).ro) hx26) ?_
 rintro _ κ w a ⟨rfl,hR,hN⟩ hF hS hO
 have hS:=hS.adds hR
 refine ⟨fun _=>(hS.sx [0] [4]),?_⟩
 refine ago 2 hF rfl (wo_makeO (E:=56) (i:=Tryz.t56) (z:=vu 0) (zm:=0) (kl := .i64) (kc := .i64) hF hS kr (fInt .u64) rfl kr kr hx23 kr kr kr kr (Nat.le_of_ble_eq_true kr) kr fun p24 a w hF hS=>⟨fun _=>(hS.sx [1] [4]),?_⟩)
 refine ago 7 hF rfl (wo_val hF kr (v := .agg (flat [si a1,sl p24 x23.length x23.length,si x25.Epoch,eb 4 x25.Has,(4,(encs (fInt .u64) x25.T)),si x26.Epoch,eb 4 x26.Has,(4,(encs (fInt .u64) x26.T)),su 0]).toArray) (val_build (rows:=[[si 0],[sl none 0 0],[si 0,eb 4 (List.replicate 4 false),(4,(encs (fInt .u64) (List.replicate 4 0)))],[si 0,eb 4 (List.replicate 4 false),(4,(encs (fInt .u64) (List.replicate 4 0)))],[su 0]]) (vals:=[(0,[si a1]),(1,[sl p24 x23.length x23.length]),(2,[si x25.Epoch,eb 4 x25.Has,(4,(encs (fInt .u64) x25.T))]),(3,[si x26.Epoch,eb 4 x26.Has,(4,(encs (fInt .u64) x26.T))])]) (sizes:=[1,1,9,9,1]) (s':=[si a1,sl p24 x23.length x23.length,si x25.Epoch,eb 4 x25.Has,(4,(encs (fInt .u64) x25.T)),si x26.Epoch,eb 4 x26.Has,(4,(encs (fInt .u64) x26.T)),su 0]) rfl kr kr kr kr kr (sgN 3 (sgEnc (hS.get 2 rfl) (sgEnc (hS.get 3 rfl) (sgN 1 (sgEnc (hS.get 0 rfl) (sgEnc (hS.get 1 rfl) sgNil)))))) kr kr _) fun a hF=>?_)
 refine ⟨fun _=>(hS.sx [1] [4]),?_⟩
 refine ago 8 hF rfl (wbx hF hS [si a1,sl p24 x23.length x23.length,si x25.Epoch,eb 4 x25.Has,(4,(encs (fInt .u64) x25.T)),si x26.Epoch,eb 4 x26.Has,(4,(encs (fInt .u64) x26.T)),su 0] (sgN 3 (sgEnc (hS.get 2 rfl) (sgEnc (hS.get 3 rfl) (sgN 1 (sgEnc (hS.get 0 rfl) (sgEnc (hS.get 1 rfl) (sgN 1 sgNil))))))) fun b27 a w hF hS=>⟨fun _=>(hS.sx [2] [4]),?_⟩)
 refine anp [9,10] [6,7] hF (hS.sx [2] [4]) fun a hF=>and_ ?_
 cases hv22
 exact ⟨_,b27,p24,x23.length,hF.kp [6,7],hS.sp [0,1] [2,3,0,1],trivial⟩
 rintro a w ⟨κ,b12,p13,c14,hF,hS,-⟩
 refine h11 _ _ (rt ?_)
 obtain ⟨cs28,hS⟩:=hS.foldI (ck:=c_stab_Table) (fs:=q_stab_Table) b12 (p13,c14) (T_stab_Table.mk a1 v22.1 (T_vec_Vec.mk v22.2.1 v22.2.2.1 v22.2.2.2.1) (T_vec_Vec.mk v22.u4.1 v22.u4.2.1 v22.u4.2.2) 0) [0,1] [] (rg 4) dc kr kr
 cases H
 exact ret_done hF hS (res2 Tryz.results84 (rvt hF) (rvt hF)) ⟨(some b12),cs28,rfl,hS.sp [0] []⟩
theorem C_stab_Table_Stable (N:Nat){Ms:List Nat}{κ0:Gh}{w0:World}(a1:T_stab_Table)(p2:Option Addr)(c3:Nat)(b4:Nat)(hB:SB Ms κ0 w0 [.box b4 284 [si a1.dc,sl p2 (a1.beats).length c3,si a1.got.Epoch,eb 4 a1.got.Has,(4,(encs (fInt .u64) a1.got.T)),si a1.known.Epoch,eb 4 a1.known.Has,(4,(encs (fInt .u64) a1.known.T)),su a1.stable],.ext (ownX (fInt .u64) 56 p2 c3 a1.beats)] [ml a1.got.Has 4,ml a1.got.T 4,ml a1.known.Has 4,ml a1.known.T 4]){r:(Int)}(H:M.stab_Table_Stable N a1=some r) :
    Calls Tryz.prog 134 #[pt b4 0] w0 (Post Ms κ0 w0 fun v κ w=>v=vu r∧SS Ms κ0 w0 κ w [.box b4 284 [si a1.dc,sl p2 (a1.beats).length c3,si a1.got.Epoch,eb 4 a1.got.Has,(4,(encs (fInt .u64) a1.got.T)),si a1.known.Epoch,eb 4 a1.known.Has,(4,(encs (fInt .u64) a1.known.T)),su a1.stable],.ext (ownX (fInt .u64) 56 p2 c3 a1.beats)] []):=by
 have hS:=hB.hS
 have hfr:=hS.fresh
 refine en Tryz.func134 rfl Tryz.ntmps134 fun a hF=>?_
 unfold M.stab_Table_Stable at H
 refine qr fun _ h5=>(wp 1 [0] hF fun a hF=>(h5 _ _ (qs fun _ h6=>qr fun _ h7=>(wp 2 [0,4] hF fun a hF=>(h7 _ _ (cf hF rfl (sk (h6 _ _ (qr fun _ h8=>(wp 3 [7] hF fun a hF=>wc (wld hF hS 0 8 0 fun a hF=>wp 1 [2] hF fun a hF=>(h8 _ _ (rt ?_)))))))))))))
 cases H
 exact ret_done hF hS (res1 Tryz.results134 (rvt hF)) ⟨rfl,hS.sp [0,1] []⟩
end Go.Cf
