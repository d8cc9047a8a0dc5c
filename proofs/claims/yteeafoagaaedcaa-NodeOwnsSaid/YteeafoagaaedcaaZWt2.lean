/- The walks: each function returns what its model says. Printed by a program of ours. -/
import Derived.Test.YteeafoagaaedcaaZM1
import Derived.Test.YteeafoagaaedcaaZWt1
import Derived.Test.YteeafoagaaedcaaZSrt
namespace Go.Cf
open Go Go.Proofs
set_option linter.unusedVariables false
set_option maxRecDepth 20000
set_option maxHeartbeats 8000000
theorem C_maps_Keys_map_string___api_Ver_string___api_Ver_ (N:Nat){κ0:Gh}{w0:World}(hfr:Fresh κ0 w0)(a1:(Mp ByteArray (List T_api_Ver)))(p2:Option Nat)(m3:Array MapEntry)(c4:Nat)(hR : ∀m∈([Map.mp kStr false (tSl f_api_Ver.ty) p2 m3 c4 a1]:List MP),m.p κ0 w0){r:Unit}(H:M.maps_Keys_map_string___api_Ver_string___api_Ver_ N a1=some r) :
    Calls Try.prog 80 #[.map p2] w0 (Post [] κ0 w0 fun v κ w => ∃b900:Nat,v = .func (.func 114) #[] #[pt b900 0]∧(∀m∈([]:List MP),m.p κ w)∧NewC w0 κ w [.box b900 128 [sm p2]]):=by
 have hS:=SS.start hfr hR
 refine en Try.func80 rfl Try.ntmps80 fun a hF=>?_
 unfold M.maps_Keys_map_string___api_Ver_string___api_Ver_ at H
 refine qr fun _ h5=>(wc (wbx hF hS [sm p2] (sgN 1 sgNil) fun b6 a w hF hS=>wl_pure (L':=[(1,pt b6 0)]) 1 [1] hF kr fun a hF=>(h5 _ _ (qr fun _ h7=>(wc (wo_val hF kr (v := .func (.func 114) #[] #[pt b6 0]) (val_makeFunc (T':=0) (caps := #[pt b6 0]) rfl kr _) fun a hF=>wp 1 [2] hF fun a hF=>(h7 _ _ (rt ?_))))))))
 cases H
 exact (ret_done hF hS (res1 Try.results80 (rvt hF)) ⟨b6,rfl,(hS.pick [] rfl).ro,hS.newC [0] dc kr⟩)
theorem C_store_Store_Put (N:Nat){Ms:List Nat}{κ0:Gh}{w0:World}(a1:T_store_Store)(a6:T_api_Ver)(p2:Option Nat)(m3:Array MapEntry)(c4:Nat)(b5:Nat)(hB:SB Ms κ0 w0 [.box b5 130 [sm p2,su a1.floor],mx p2 m3 c4] [Map.mp kStr false (tSl f_api_Ver.ty) p2 m3 c4 a1.chains]){r:(Int×T_store_Store)}(H:M.store_Store_Put N a1 a6=some r) :
    Calls Try.prog 49 #[pt b5 0,.agg (flat [sg a6.Key,sg a6.Val,sb a6.Gone,su a6.TS,si a6.DC,si a6.Tx]).toArray] w0 (Post Ms κ0 w0 fun v κ w => ∃(p48:Option Nat) (m49:Array MapEntry) (c50:Nat),v=vi r.1∧SS Ms κ0 w0 κ w [.box b5 130 [sm p48,su r.2.floor],mx p48 m49 c50] [Map.mp kStr false (tSl f_api_Ver.ty) p48 m49 c50 r.2.chains]):=by
 have hS:=hB.hS
 have hfr:=hS.fresh
 refine en Try.func49 rfl Try.ntmps49 fun a hF=>?_
 unfold M.store_Store_Put at H
 refine qr fun _ h7=>(wc (wbx hF hS [sg a6.Key,sg a6.Val,sb a6.Gone,su a6.TS,si a6.DC,si a6.Tx] (sgN 6 sgNil) fun b8 a w hF hS=>wp 1 [0,3] hF fun a hF=>(h7 _ _ (qs fun _ h9=>qr fun _ h10=>(wp 2 [0,3,12] hF fun a hF=>(h10 _ _ (cf hF rfl (sk (h9 _ _ (qs fun _ h11=>qr fun _ h12=>(wc (wls hF hS 0 0 6 fun a hF=>bd H fun x13 hx13 H=>wc (wo_callP hF hS kr kr (C_store_Check N hS.fresh (T_api_Ver.mk a6.Key a6.Val a6.Gone a6.TS a6.DC a6.Tx) ((hS.pick [] kr).ro) hx13) ?_)))))))))))))
 rintro _ κ w a ⟨rfl,hR,hN⟩ hF hS hO
 refine wp 1 [0,3,5] hF fun a hF=>(h12 _ _ (qr fun _ h14=>(wp 2 [0,3,5,16] hF fun a hF=>(h14 _ _ (bc hF H (fun hb H=>?_) fun hb H=>?_)))))
 refine qr fun _ h15=>(wp 2 [4] hF fun a hF=>(h15 _ _ (rt ?_)))
 cases H
 exact ret_done hF hS (res1 Try.results49 (rvt hF)) ⟨p2,m3,c4,rfl,hS.sp [1,2] [0]⟩
 refine sk (h11 _ _ (qs fun _ h16=>rgS hS [] ?_))
 have hS:=hS.drew
 have hX:=hS.fx
 refine any_pure [0,1,2,4] [0,3,20,22] (L':=[(0,pt b5 0),(3,pt b8 0),(20,pt b5 0),(22,pt b8 0)]) (listed':=(bitA 8 23)) (fuel:=4) hF hX kr (by intro c a w t v h; cases t<;>exact h) kr rfl fun a hF=>atk 3 (some 21) hF hX rfl (vld 1 0 0) fun a hF=>atk 5 (some 23) hF hX rfl (vld 0 0 0) fun a hF=>bd H fun x17 hx17 H=>?_
 obtain ⟨_,⟨⟨p18,c19⟩,rfl,hR⟩,hvx17⟩:=lookup_val (P:=Try.prog) (KT:=9) (E:=39) (kt:=kStr) (agg:=false) (t:=(tSl f_api_Ver.ty)) (L:=[(0,pt b5 0),(3,pt b8 0),(20,pt b5 0),(21,.map p2),(22,pt b8 0),(23,.string (a6.Key))]) (o:=⟨(some 24),(Go.Op.lookup 128 (Go.Operand.tmp 21) (Go.Operand.tmp 23) false),39,"store.go:43",#[(Go.Edge.mk 3 Go.Ground.data),(Go.Edge.mk 5 Go.Ground.data)],none⟩) hS 0 (k:=a6.Key) (zc:=flat [sl none 0 0]) (zm:=([]:List T_api_Ver)) rfl kr kr rfl hx17 kr kr kr (ztSl _)
 have hS:=hS.adds hR
 refine atk 6 (some 24) hF (hS.sx [0,1,2] [1]) rfl (fun w hw=>hvx17 2 rfl w hw) fun a hF=>anp [7] [0,3,6] hF (hS.sx [0,1,2] [1]) fun a hF=>and_ (h16 _ _ (qr fun _ h20=>(wp 1 [0,3,6,26] hF fun a hF=>wc (wls hF hS 0 0 6 fun a hF=>bd H fun x21 hx21 H=>wc (wo_callP hF hS kr kr (C_chain_Put N hS.fresh x17.1 (T_api_Ver.mk a6.Key a6.Val a6.Gone a6.TS a6.DC a6.Tx) p18 c19 ((hS.pick [0] kr).ro) hx21) ?_)))))
 rintro _ κ w a ⟨p22,c23,rfl,hR,hN⟩ hF hS hO
 have hS:=hS.adds hR
 have hS:=hS.addC hO hN
 refine wp 5 [0,3,6,7,8] hF fun a hF=>(h20 _ _ (qs fun _ h24=>qr fun _ h25=>(wp 2 [0,3,6,7,8,32] hF fun a hF=>(h25 _ _ (bc hF H (fun hb H=>?_) fun hb H=>?_)))))
 refine qr fun _ h26=>(wp 2 [4] hF fun a hF=>(h26 _ _ (rt ?_)))
 cases H
 exact ret_done hF hS (res1 Try.results49 (rvt hF)) ⟨p2,m3,c4,rfl,hS.sp [2,3] [2]⟩
 refine sk (h24 _ _ (qs fun _ h27=>qr fun _ h28=>(wp 4 [0,3,7,35,38] hF fun a hF=>wc (wld hF hS 2 1 0 fun a hF=>bd H fun x29 hx29 H=>wc (wo_callP hF hS kr kr (C_chain_At N hS.fresh x17.1 a1.floor p18 c19 ((hS.pick [1] kr).ro) hx29) ?_)))))
 rintro _ κ w a ⟨rfl,hR,hN⟩ hF hS hO
 refine wp 3 [0,3,7,41,42] hF fun a hF=>wc (wal hF hS [sg ByteArray.empty,sg ByteArray.empty,sb false,su 0,si 0,si 0] (sgN 6 sgNil) fun b30 a w hF hS=>wc (wst hF hS 0 0 6 [sg x29.1.Key,sg x29.1.Val,sb x29.1.Gone,su x29.1.TS,si x29.1.DC,si x29.1.Tx] (sgN 6 sgNil) fun a w hF hS=>wp 1 [0,3,7,9,10] hF fun a hF=>(h28 _ _ (qs fun _ h31=>bd H fun v33 hv33 H=>code_join (fun a w => ∃κ:Gh,Fr (68) [] [(0,pt b5 0),(3,pt b8 0),(7,.slice p22 (x21.1).length c23),(51,vb v33)] a∧SS Ms κ0 w0 κ w [.box b8 37 [sg a6.Key,sg a6.Val,sb a6.Gone,su a6.TS,si a6.DC,si a6.Tx],.box b5 130 [sm p2,su a1.floor],.tok p22 37 6 (x21.1).length c23,mx p2 m3 c4] [Map.mp kStr false (tSl f_api_Ver.ty) p2 m3 c4 a1.chains,Ro.mp f_api_Ver.ty p22 c23 x21.1]∧True) ?_ ?_))))
 refine rgS hS [] ?_
 have hS:=hS.drew
 have hX:=hS.fx
 refine bif_split hv33 (fun hb34 hv33=>?_) (fun hb34 hv33=>?_)
 refine bd hv33 fun x35 hx35 hv33=>bd hv33 fun x36 hx36 hv33=>bd hv33 fun x37 hx37 hv33=>anp [0,1] [0,3,7,9,44] hF hX fun a hF=>?_
 have hF:=hF.boolv 44 kr hb34
 refine atk 2 (some 45) hF hX rfl (vls 1 0 6) fun a hF=>atk 4 (some 47) hF hX rfl (vls 0 0 6) fun a hF=>ago 3 hF rfl (wo_callP hF hS kr kr (C_hlc_Of N hS.fresh (T_api_Ver.mk a6.Key a6.Val a6.Gone a6.TS a6.DC a6.Tx) ((hS.pick [] kr).ro) hx35) ?_)
 rintro _ κ w a ⟨rfl,hR,hN⟩ hF hS hO
 refine ⟨fun _=>(hS.sx [0,2,3,4] [0,1,2]),?_⟩
 refine ago 5 hF rfl (wo_callP hF hS kr kr (C_hlc_Of N hS.fresh (T_api_Ver.mk x29.1.Key x29.1.Val x29.1.Gone x29.1.TS x29.1.DC x29.1.Tx) ((hS.pick [] kr).ro) hx36) ?_)
 rintro _ κ w a ⟨rfl,hR,hN⟩ hF hS hO
 refine ⟨fun _=>(hS.sx [0,2,3,4] [0,1,2]),?_⟩
 refine ago 6 hF rfl (wo_callP hF hS kr kr (C_hlc_Cmp N hS.fresh (T_api_Mark.mk x35.TS x35.DC x35.Tx) (T_api_Mark.mk x36.TS x36.DC x36.Tx) ((hS.pick [] kr).ro) hx37) ?_)
 rintro _ κ w a ⟨rfl,hR,hN⟩ hF hS hO
 refine ⟨fun _=>(hS.sx [0,2,3,4] [0,1,2]),?_⟩
 refine anp [7,8] [0,3,7,51] hF (hS.sx [0,2,3,4] [0,1,2]) fun a hF=>and_ ?_
 cases hv33
 exact ⟨_,hF.kp [0,3,7,51],hS.sp [2,3,1,4] [2,0],trivial⟩
 refine anp [0,1] [0,3,7,9,44] hF hX fun a hF=>?_
 have hF:=hF.boolv 44 kr hb34
 refine anp (ra 2 7) [0,3,7,51] hF hX fun a hF=>and_ ?_
 cases hv33
 exact ⟨_,hF.kp [0,3,7,51],hS.sp [2,3,1,4] [2,0],trivial⟩
 rintro a w ⟨κ,hF,hS,-⟩
 refine h31 _ _ (bc hF H (fun hb H=>?_) fun hb H=>?_)
 refine qr fun _ h38=>(wp 1 [4] hF fun a hF=>(h38 _ _ (rt ?_)))
 cases H
 exact ret_done hF hS (res1 Try.results49 (rvt hF)) ⟨p2,m3,c4,rfl,hS.sp [1,3] [0]⟩
 refine sk (h27 _ _ (qr fun _ h39=>(wp 4 [0,3,53,56] hF fun a hF=>wc (wld hF hS 1 1 0 fun a hF=>bd H fun x40 hx40 H=>wc (wo_callP hF hS kr kr (C_chain_Trim N hS.fresh x21.1 a1.floor p22 c23 ((hS.pick [1] kr).ro) hx40) ?_)))))
 rintro _ κ w a ⟨p41,c42,rfl,hR,hN⟩ hF hS hO
 have hS:=hS.adds hR
 have hS:=hS.addC hO hN
 refine wp 4 [0,3,7] hF fun a hF=>(h39 _ _ (qs fun _ h43=>rgX hS [1,2] ?_))
 have hS:=hS.drew
 have hX:=hS.px [1,2]
 refine any_pure [0,1,2,4,6] [63,65,67] (L':=[(63,pt b5 0),(65,pt b8 0),(67,.slice p41 (x40.1).length c42)]) (listed':=(bitA 8 87)) (fuel:=3) hF hX kr (by intro c a w t v h; cases t<;>exact h) kr rfl fun a hF=>atk 3 (some 64) hF hX rfl (vld 1 0 0) fun a hF=>atk 5 (some 66) hF hX rfl (vld 0 0 0) fun a hF=>ago 7 hF rfl (bd H fun x44 hx44 H=>wo_mapUpdate (KT:=9) (E:=39) (kt:=kStr) (agg:=false) (t:=(tSl f_api_Ver.ty)) hF hS kr 4 1 (k:=a6.Key) (v:=x40.1) (cs:=flat [sl p41 (x40.1).length c42]) rfl kr kr kr ⟨(p41,c42),rfl,(hS.pick [0] kr).ro⟩ rfl rfl hx44 kr kr fun m45 c46 a w hF hS=>⟨fun _=>(hS.sx [1,2] [1,2,3]),?_⟩)
 refine and_ (h43 _ _ (qr fun _ h47=>(wp 1 [4] hF fun a hF=>(h47 _ _ (rt ?_)))))
 cases H
 exact ret_done hF hS (res1 Try.results49 (rvt hF)) ⟨p2,m45,c46,rfl,hS.sp [2,4] [0]⟩
theorem C_store_Store_Get (N:Nat){Ms:List Nat}{κ0:Gh}{w0:World}(a1:T_store_Store)(a6:ByteArray)(a7:Int)(p2:Option Nat)(m3:Array MapEntry)(c4:Nat)(b5:Nat)(hB:SB Ms κ0 w0 [.box b5 130 [sm p2,su a1.floor],mx p2 m3 c4] [Map.mp kStr false (tSl f_api_Ver.ty) p2 m3 c4 a1.chains]){r:(T_api_Ver×Bool×Int)}(H:M.store_Store_Get N a1 a6 a7=some r) :
    Calls Try.prog 50 #[pt b5 0,.string (a6),vu a7] w0 (Post Ms κ0 w0 fun v κ w=>v = .tuple #[.agg (flat [sg r.1.Key,sg r.1.Val,sb r.1.Gone,su r.1.TS,si r.1.DC,si r.1.Tx]).toArray,vb r.2.1,vi r.2.2]∧SS Ms κ0 w0 κ w [.box b5 130 [sm p2,su a1.floor],mx p2 m3 c4] []):=by
 have hS:=hB.hS
 have hfr:=hS.fresh
 refine en Try.func50 rfl Try.ntmps50 fun a hF=>?_
 unfold M.store_Store_Get at H
 refine qr fun _ h8=>(wc (wal hF hS [sg ByteArray.empty,sg ByteArray.empty,sb false,su 0,si 0,si 0] (sgN 6 sgNil) fun b9 a w hF hS=>wp 2 [0,1,2,6] hF fun a hF=>(h8 _ _ (qs fun _ h10=>qr fun _ h11=>(wp 2 [0,1,2,6,12] hF fun a hF=>(h11 _ _ (cf hF rfl (sk (h10 _ _ (qs fun _ h12=>qr fun _ h13=>(wp 4 [0,1,2,6,14,17] hF fun a hF=>wc (wld hF hS 1 1 0 fun a hF=>wp 1 [0,1,2,6,19] hF fun a hF=>(h13 _ _ (bc hF H (fun hb H=>?_) fun hb H=>?_))))))))))))))
 refine qr fun _ h14=>(wp 1 [6,20] hF fun a hF=>wc (wst hF hS 0 0 6 [sg ByteArray.empty,sg ByteArray.empty,sb false,su 0,si 0,si 0] (sgN 6 sgNil) fun a w hF hS=>wp 2 [6,7,8] hF fun a hF=>(h14 _ _ (rt ?_))))
 have hS':=hS
 cases H
 exact ret_done hF hS (res3 Try.results50 (rvs hF hS' 0 0 6) (rvt hF) (rvt hF)) ⟨rfl,hS.sp [1,2] []⟩
 refine sk (h12 _ _ (qr fun _ h15=>(wp 3 [1,2,6,24] hF fun a hF=>wc (wld hF hS 1 0 0 fun a hF=>wl_pure (L':=[(2,vu a7),(6,pt b9 0),(25,.map p2),(26,.string (a6))]) 1 [2,6,25,26] hF kr fun a hF=>bd H fun x16 hx16 H=>wc (wo_lookup (KT:=9) (E:=39) (kt:=kStr) (agg:=false) (t:=(tSl f_api_Ver.ty)) hF hS kr 2 0 (k:=a6) (zc:=flat [sl none 0 0]) (zm:=([]:List T_api_Ver)) rfl kr kr rfl rfl hx16 kr kr kr (ztSl _) ?_)))))
 rintro _ a ⟨⟨p17,c18⟩,rfl,hR⟩ hF
 have hS:=hS.adds hR
 refine wp 1 [6,27,28] hF fun a hF=>bd H fun x19 hx19 H=>wc (wo_callP hF hS kr kr (C_chain_At N hS.fresh x16.1 a7 p17 c18 ((hS.pick [0] kr).ro) hx19) ?_)
 rintro _ κ w a ⟨rfl,hR,hN⟩ hF hS hO
 refine wp 3 [6,30,31] hF fun a hF=>wc (wal hF hS [sg ByteArray.empty,sg ByteArray.empty,sb false,su 0,si 0,si 0] (sgN 6 sgNil) fun b20 a w hF hS=>wc (wst hF hS 0 0 6 [sg x19.1.Key,sg x19.1.Val,sb x19.1.Gone,su x19.1.TS,si x19.1.DC,si x19.1.Tx] (sgN 6 sgNil) fun a w hF hS=>wp 1 [6,9,10] hF fun a hF=>(h15 _ _ (qr fun _ h21=>(wc (wls hF hS 0 0 6 fun a hF=>wp 1 [6,32,33] hF fun a hF=>wc (wst hF hS 1 0 6 [sg x19.1.Key,sg x19.1.Val,sb x19.1.Gone,su x19.1.TS,si x19.1.DC,si x19.1.Tx] (sgN 6 sgNil) fun a w hF hS=>?_)))))))
 refine wp 2 [6,7,8] hF fun a hF=>(h21 _ _ (rt ?_))
 have hS':=hS
 cases H
 exact ret_done hF hS (res3 Try.results50 (rvs hF hS' 1 0 6) (rvt hF) (rvt hF)) ⟨rfl,hS.sp [2,3] []⟩
theorem C_store_Store_Drop (N:Nat){Ms:List Nat}{κ0:Gh}{w0:World}(a1:T_store_Store)(a6:ByteArray)(a7:ByteArray)(p2:Option Nat)(m3:Array MapEntry)(c4:Nat)(b5:Nat)(hB:SB Ms κ0 w0 [.box b5 130 [sm p2,su a1.floor],mx p2 m3 c4] [Map.mp kStr false (tSl f_api_Ver.ty) p2 m3 c4 a1.chains]){r:(Int×T_store_Store)}(H:M.store_Store_Drop N a1 a6 a7=some r) :
    Calls Try.prog 51 #[pt b5 0,.string (a6),.string (a7)] w0 (Post Ms κ0 w0 fun v κ w => ∃(p84:Option Nat) (m85:Array MapEntry) (c86:Nat),v=vi r.1∧SS Ms κ0 w0 κ w [.box b5 130 [sm p84,su r.2.floor],mx p84 m85 c86] [Map.mp kStr false (tSl f_api_Ver.ty) p84 m85 c86 r.2.chains]):=by
 have hS:=hB.hS
 have hfr:=hS.fresh
 refine en Try.func51 rfl Try.ntmps51 fun a hF=>?_
 unfold M.store_Store_Drop at H
 refine qr fun _ h8=>(wp 1 [0,1,2] hF fun a hF=>(h8 _ _ (qr fun _ h9=>(wp 1 [0,1,2,7] hF fun a hF=>(h9 _ _ (qs fun _ h10=>qr fun _ h11=>(wp 2 [0,1,2,7,11] hF fun a hF=>(h11 _ _ (cf hF rfl (sk (h10 _ _ (qs fun _ h12=>qr fun _ h13=>(wl_pure (L':=[(0,pt b5 0),(1,.string (a6)),(2,.string (a7)),(7,vi 0),(14,pt b5 0)]) 3 [0,1,2,7,14] hF kr fun a hF=>wc (wld hF hS 0 0 0 fun a hF=>wc (wo_range (KT:=9) (E:=39) (kt:=kStr) (agg:=false) (t:=(tSl f_api_Ver.ty)) hF hS kr 1 0 rfl kr rfl rfl kr fun b14 a w hF hS=>(h13 _ _ (bk (loop_fuel (n:=N) (fun n a w => ∃(κ:Gh) (m65:Array MapEntry) (y66:Mp ByteArray (List T_api_Ver)) (y67:Int) (m68:Array Nat) (y69:List ByteArray),Fr (36) [] [(0,pt b5 0),(1,.string (a6)),(2,.string (a7)),(7,vi y67),(16,pt b14 0)] a∧SS Ms κ0 w0 κ w [.box b5 130 [sm p2,su a1.floor],mx p2 m65 c4,.ext (objX (some b14) (itO p2 c4 m68))] [Map.mp kStr false (tSl f_api_Ver.ty) p2 m65 c4 y66,It.mp kStr m65 m68 y69]∧M.store_Store_Drop_L1 N n a1 a6 a7 y66 y67 y69=some r) ?_ ?_))))))))))))))))))
 exact ⟨_,m3,a1.chains,0,#[],(mKeys a1.chains),hF.kp [0,1,2,7,16],hS.sp [1,2,0] [1,0],H⟩
 rintro n a w ⟨κ,m65,y66,y67,m68,y69,hF,hS,H⟩
 rcases n with _|fuel1
 simp [M.store_Store_Drop_L1] at H
 simp only [M.store_Store_Drop_L1] at H
 refine qr fun _ h70=>(wc (wo_next (kt:=kStr) (agg:=false) (t:=(tSl f_api_Ver.ty)) hF hS kr 1 2 0 1 rfl kr rfl rfl rfl rfl H ?_ ?_))
 intro H a hF
 refine wp 1 [0,1,2,7,16,18] hF fun a hF=>(h70 _ _ (qs fun _ h74=>cf hF rfl (xt (h12 _ _ (qr fun _ h75=>(wp 2 [6] hF fun a hF=>(h75 _ _ (rt ?_))))))))
 cases H
 exact ret_done hF hS (res1 Try.results51 (rvt hF)) ⟨p2,m65,c4,rfl,hS.sp [0,1] [0]⟩
 intro x71 cs72 m73 a w H hF hS
 refine wl_pure (L':=[(0,pt b5 0),(1,.string (a6)),(2,.string (a7)),(7,vi y67),(16,pt b14 0),(18,vb true)]) 1 [0,1,2,7,16,18] hF kr fun a hF=>(h70 _ _ (qs fun _ h76=>ct hF rfl (sk (h76 _ _ (bk (qr fun _ h77=>(wc (wo_entry (kt:=kStr) (agg:=false) (t:=(tSl f_api_Ver.ty)) hF hS kr 1 2 2 0 rfl kr rfl rfl rfl rfl ?_))))))))
 rintro _ a ⟨⟨p78,c79⟩,rfl,hR⟩ hF
 have hS:=hS.adds hR
 refine wp 4 [0,1,2,7,8,9,16] hF fun a hF=>(h77 _ _ (qr fun _ h80=>(wp 3 [0,1,2,7,8,9,16,22,23,24] hF fun a hF=>bd H fun x81 hx81 H=>wc (wo_callP hF hS kr kr (C_span_Within N hS.fresh x71.1 a6 a7 ((hS.pick [] kr).ro) hx81) ?_))))
 rintro _ κ w a ⟨rfl,hR,hN⟩ hF hS hO
 refine h80 _ _ (bc hF H (fun hb H=>?_) fun hb H=>?_)
 refine qr fun _ h82=>(wp 5 [0,1,2,7,8,16] hF fun a hF=>(h82 _ _ (rl (wp 3 [0,1,2,7,8,16,32] hF fun a hF=>wc (wld hF hS 0 0 0 fun a hF=>wl_pure (L':=[(0,pt b5 0),(1,.string (a6)),(2,.string (a7)),(7,vi (IntKind.i64.wrap (y67+((x71.2).length:Int)))),(16,pt b14 0),(33,.map p2),(34,.string (x71.1))]) 1 [0,1,2,7,16,33,34] hF kr fun a hF=>wc (wo_delete (KT:=9) (E:=39) (kt:=kStr) (agg:=false) (t:=(tSl f_api_Ver.ty)) hF hS kr 1 3 (k:=x71.1) rfl kr kr rfl rfl kr kr fun m83 a w hsub hF hS=>?_))))))
 have hS:=hS.add (m:=It.mp kStr m83 m73 (kRem y69 x71.1)) (ItOk.sub (hS.get 3 rfl) hsub)
 refine nl ?_
 exact ⟨fuel1,Nat.lt_succ_self _,_,m83,(mDel y66 x71.1),IntKind.i64.wrap (y67+((x71.2).length:Int)),m73,(kRem y69 x71.1),hF.kp [0,1,2,7,16],hS.sp [0,1,2] [1,0],H⟩
 refine sk ?_
 exact ⟨fuel1,Nat.lt_succ_self _,_,m65,y66,y67,m73,(kRem y69 x71.1),hF.kp [0,1,2,7,16],hS.sp [0,1,2] [3,2],H⟩
theorem C_store_Store_Trim (N:Nat){Ms:List Nat}{κ0:Gh}{w0:World}(a1:T_store_Store)(a6:Int)(p2:Option Nat)(m3:Array MapEntry)(c4:Nat)(b5:Nat)(hB:SB Ms κ0 w0 [.box b5 130 [sm p2,su a1.floor],mx p2 m3 c4] [Map.mp kStr false (tSl f_api_Ver.ty) p2 m3 c4 a1.chains]){r:(Int×T_store_Store)}(H:M.store_Store_Trim N a1 a6=some r) :
    Calls Try.prog 48 #[pt b5 0,vu a6] w0 (Post Ms κ0 w0 fun v κ w => ∃(p88:Option Nat) (m89:Array MapEntry) (c90:Nat),v=vi r.1∧SS Ms κ0 w0 κ w [.box b5 130 [sm p88,su r.2.floor],mx p88 m89 c90] [Map.mp kStr false (tSl f_api_Ver.ty) p88 m89 c90 r.2.chains]):=by
 have hS:=hB.hS
 have hfr:=hS.fresh
 refine en Try.func48 rfl Try.ntmps48 fun a hF=>?_
 unfold M.store_Store_Trim at H
 refine qr fun _ h7=>(wp 1 [0,1] hF fun a hF=>(h7 _ _ (qs fun _ h8=>qr fun _ h9=>(wp 2 [0,1,11] hF fun a hF=>(h9 _ _ (cf hF rfl (sk (h8 _ _ (qr fun _ h10=>(wp 4 [0,1,12,15] hF fun a hF=>wc (wld hF hS 0 1 0 fun a hF=>wp 4 [0,18,20] hF fun a hF=>wc (wst hF hS 0 1 1 [su (if a6 > a1.floor then a6 else a1.floor)] (sgN 1 sgNil) fun a w hF hS=>(h10 _ _ (qr fun _ h11=>(wp 1 [0,5] hF fun a hF=>(h11 _ _ (qs fun _ h12=>qr fun _ h13=>(wl_pure (L':=[(0,pt b5 0),(5,vi 0),(23,pt b5 0)]) 3 [0,5,23] hF kr fun a hF=>wc (wld hF hS 0 0 0 fun a hF=>?_)))))))))))))))))))
 refine wc (wo_range (KT:=9) (E:=39) (kt:=kStr) (agg:=false) (t:=(tSl f_api_Ver.ty)) hF hS kr 1 0 rfl kr rfl rfl kr fun b14 a w hF hS=>(h13 _ _ (bk (loop_fuel (n:=N) (fun n a w => ∃(κ:Gh) (m65:Array MapEntry) (y66:Mp ByteArray (List T_api_Ver)) (y67:Int) (m68:Array Nat) (y69:List ByteArray),Fr (50) [] [(0,pt b5 0),(5,vi y67),(25,pt b14 0)] a∧SS Ms κ0 w0 κ w [.box b5 130 [sm p2,su (if a6 > a1.floor then a6 else a1.floor)],mx p2 m65 c4,.ext (objX (some b14) (itO p2 c4 m68))] [Map.mp kStr false (tSl f_api_Ver.ty) p2 m65 c4 y66,It.mp kStr m65 m68 y69]∧M.store_Store_Trim_L1 N n a1 a6 y66 y67 y69=some r) ?_ ?_))))
 exact ⟨_,m3,a1.chains,0,#[],(mKeys a1.chains),hF.kp [0,5,25],hS.sp [1,2,0] [1,0],H⟩
 rintro n a w ⟨κ,m65,y66,y67,m68,y69,hF,hS,H⟩
 rcases n with _|fuel1
 simp [M.store_Store_Trim_L1] at H
 simp only [M.store_Store_Trim_L1] at H
 refine qr fun _ h70=>(wc (wo_next (kt:=kStr) (agg:=false) (t:=(tSl f_api_Ver.ty)) hF hS kr 1 2 0 1 rfl kr rfl rfl rfl rfl H ?_ ?_))
 intro H a hF
 refine wp 1 [0,5,25,27] hF fun a hF=>(h70 _ _ (qs fun _ h74=>cf hF rfl (xt (h12 _ _ (qr fun _ h75=>(wp 2 [4] hF fun a hF=>(h75 _ _ (rt ?_))))))))
 cases H
 exact ret_done hF hS (res1 Try.results48 (rvt hF)) ⟨p2,m65,c4,rfl,hS.sp [0,1] [0]⟩
 intro x71 cs72 m73 a w H hF hS
 refine wl_pure (L':=[(0,pt b5 0),(5,vi y67),(25,pt b14 0),(27,vb true)]) 1 [0,5,25,27] hF kr fun a hF=>(h70 _ _ (qs fun _ h76=>ct hF rfl (sk (h76 _ _ (bk (qr fun _ h77=>(wc (wo_entry (kt:=kStr) (agg:=false) (t:=(tSl f_api_Ver.ty)) hF hS kr 1 2 2 0 rfl kr rfl rfl rfl rfl ?_))))))))
 rintro _ a ⟨⟨p78,c79⟩,rfl,hR⟩ hF
 have hS:=hS.adds hR
 refine wp 4 [0,5,6,7,25] hF fun a hF=>(h77 _ _ (qr fun _ h80=>(wp 4 [0,5,6,25,32,35] hF fun a hF=>wc (wld hF hS 0 1 0 fun a hF=>bd H fun x81 hx81 H=>wc (wo_callP hF hS kr kr (C_chain_Trim N hS.fresh x71.2 (if a6 > a1.floor then a6 else a1.floor) p78 c79 ((hS.pick [0] kr).ro) hx81) ?_)))))
 rintro _ κ w a ⟨p82,c83,rfl,hR,hN⟩ hF hS hO
 have hS:=hS.adds hR
 have hS:=hS.addC hO hN
 refine wp 5 [0,5,6,8,9,25] hF fun a hF=>(h80 _ _ (qr fun _ h84=>(wp 3 [0,5,6,8,9,25,42] hF fun a hF=>wc (wld hF hS 1 0 0 fun a hF=>wl_pure (L':=[(0,pt b5 0),(5,vi y67),(9,vi x81.2),(25,pt b14 0),(43,.map p2),(44,.string (x71.1)),(45,.slice p82 (x81.1).length c83)]) 2 [0,5,9,25,43,44,45] hF kr fun a hF=>bd H fun x85 hx85 H=>wc (wo_mapSet (KT:=9) (E:=39) (kt:=kStr) (agg:=false) (t:=(tSl f_api_Ver.ty)) hF hS kr 2 4 (k:=x71.1) (v:=x81.1) (cs:=flat [sl p82 (x81.1).length c83]) rfl kr kr kr ⟨(p82,c83),rfl,(hS.pick [0] kr).ro⟩ rfl rfl hx85 kr kr fun m86 a w hsub hF hS0=>?_)))))
 have hS:=hS0
 have hS:=hS.add (m:=It.mp kStr m86 m73 (kRem y69 x71.1)) (hsub _ _ (hS.get 4 rfl))
 refine h84 _ _ (rl (wp 4 [0,5,25] hF fun a hF=>nl ?_))
 exact ⟨fuel1,Nat.lt_succ_self _,_,m86,x85,IntKind.i64.wrap (y67+x81.2),m73,(kRem y69 x71.1),hF.kp [0,5,25],hS.sp [1,2,3] [1,0],H⟩
theorem C_store_Store_Floor (N:Nat){Ms:List Nat}{κ0:Gh}{w0:World}(a1:T_store_Store)(p2:Option Nat)(m3:Array MapEntry)(c4:Nat)(b5:Nat)(hB:SB Ms κ0 w0 [.box b5 130 [sm p2,su a1.floor],mx p2 m3 c4] [Map.mp kStr false (tSl f_api_Ver.ty) p2 m3 c4 a1.chains]){r:(Int)}(H:M.store_Store_Floor N a1=some r) :
    Calls Try.prog 60 #[pt b5 0] w0 (Post Ms κ0 w0 fun v κ w=>v=vu r∧SS Ms κ0 w0 κ w [.box b5 130 [sm p2,su a1.floor],mx p2 m3 c4] []):=by
 have hS:=hB.hS
 have hfr:=hS.fresh
 refine en Try.func60 rfl Try.ntmps60 fun a hF=>?_
 unfold M.store_Store_Floor at H
 refine qr fun _ h6=>(wp 1 [0] hF fun a hF=>(h6 _ _ (qs fun _ h7=>qr fun _ h8=>(wp 2 [0,4] hF fun a hF=>(h8 _ _ (cf hF rfl (sk (h7 _ _ (qr fun _ h9=>(wp 3 [7] hF fun a hF=>wc (wld hF hS 0 1 0 fun a hF=>wp 1 [2] hF fun a hF=>(h9 _ _ (rt ?_)))))))))))))
 cases H
 exact ret_done hF hS (res1 Try.results60 (rvt hF)) ⟨rfl,hS.sp [0,1] []⟩
theorem C_store_Store_All (N:Nat){Ms:List Nat}{κ0:Gh}{w0:World}(a1:T_store_Store)(a6:ByteArray)(a7:ByteArray)(p2:Option Nat)(m3:Array MapEntry)(c4:Nat)(b5:Nat)(hB:SB Ms κ0 w0 [.box b5 130 [sm p2,su a1.floor],mx p2 m3 c4] [Map.mp kStr false (tSl f_api_Ver.ty) p2 m3 c4 a1.chains]){r:(Unit)}(H:M.store_Store_All N a1 a6 a7=some r) :
    Calls Try.prog 44 #[pt b5 0,.string (a6),.string (a7)] w0 (Post Ms κ0 w0 fun v κ w => ∃(b13 b14 b15:Nat),v = .func (.func 79) #[] #[pt b13 0,pt b14 0,pt b15 0]∧SS Ms κ0 w0 κ w [.box b5 130 [sm p2,su a1.floor],mx p2 m3 c4,.box b13 55 [(1,[pt b5 0])],.box b14 9 [sg a6],.box b15 9 [sg a7]] []):=by
 have hS:=hB.hS
 have hfr:=hS.fresh
 refine en Try.func44 rfl Try.ntmps44 fun a hF=>?_
 unfold M.store_Store_All at H
 refine qr fun _ h8=>(wc (wbx hF hS [(1,[pt b5 0])] (sgN 1 sgNil) fun b9 a w hF hS=>wc (wbx hF hS [sg a6] (sgN 1 sgNil) fun b10 a w hF hS=>wc (wbx hF hS [sg a7] (sgN 1 sgNil) fun b11 a w hF hS=>wl_pure (L':=[(3,pt b9 0),(4,pt b10 0),(5,pt b11 0)]) 1 [3,4,5] hF kr fun a hF=>(h8 _ _ (qr fun _ h12=>(wc (wo_val hF kr (v := .func (.func 79) #[] #[pt b9 0,pt b10 0,pt b11 0]) (val_makeFunc (T':=0) (caps := #[pt b9 0,pt b10 0,pt b11 0]) rfl kr _) fun a hF=>?_))))))))
 refine wp 1 [6] hF fun a hF=>(h12 _ _ (rt ?_))
 cases H
 exact ret_done hF hS (res1 Try.results44 (rvt hF)) ⟨b9,b10,b11,rfl,hS.sp [3,4,2,1,0] []⟩
theorem C_store_Store_All_1 (N:Nat){σ:Type}{B:σ→T_api_Ver→Option (σ×Bool)}{Y:σ→XF→Prop}{l:Nat}
    (hB : ∀ {s:σ} {x:XF} {κ:Gh} {w:World} (x900:T_api_Ver) {s':σ} {c:Bool},Y s x→x.p κ w→Fresh κ w→x.bs.Nodup→(∀b∈x.bs,b<w.heap.size)→(∀m∈([]:List MP),m.p κ w)→B s x900=some (s',c)→RoundOk Try.prog l Y #[.agg (flat [sg x900.Key,sg x900.Val,sb x900.Gone,su x900.TS,si x900.DC,si x900.Tx]).toArray] x s' c κ w)
    (a3:T_store_Store) (a9:ByteArray) (a11:ByteArray) (b4:Nat) (p5:Option Nat) (m6:Array MapEntry) (c7:Nat) {Ms:List Nat} {κ0:Gh} {w0:World} {p2:XF} {y1:σ} {b8:Nat} {b10:Nat} {b12:Nat} (hS:SS Ms κ0 w0 κ0 w0 [.ext p2,.box b8 55 [(1,[pt b4 0])],.box b10 9 [sg a9],.box b12 9 [sg a11],.box b4 130 [sm p5,su a3.floor],mx p5 m6 c7] [Map.mp kStr false (tSl f_api_Ver.ty) p5 m6 c7 a3.chains,MP.const (Y y1 p2)]) {r:σ} (H:M.store_Store_All_1 N B a3 a9 a11 y1=some r) :
    Calls Try.prog 79 #[.func (.yield l) #[] #[],pt b8 0,pt b10 0,pt b12 0] w0 (Post Ms κ0 w0 fun _ κ w => ∃x,Y r x∧SS Ms κ0 w0 κ w [.ext x,.box b8 55 [(1,[pt b4 0])],.box b10 9 [sg a9],.box b12 9 [sg a11],.box b4 130 [sm p5,su a3.floor],mx p5 m6 c7] [Map.mp kStr false (tSl f_api_Ver.ty) p5 m6 c7 a3.chains]):=by
 refine enL [(0,.func (.yield l) #[] #[]),(1,pt b8 0),(2,pt b10 0),(3,pt b12 0)] Try.func79 rfl Try.ntmps79 fun a hF=>?_
 unfold M.store_Store_All_1 at H
 refine wpIn_scope (qs fun _ h13=>qr fun _ h14=>(wc (wld hF hS 1 0 0 fun a hF=>wl_pure (L':=[(0,.func (.yield l) #[] #[]),(1,pt b8 0),(2,pt b10 0),(3,pt b12 0),(10,vb false)]) 1 [0,1,2,3,10] hF kr fun a hF=>(h14 _ _ (cf hF rfl (sk (h13 _ _ (qs fun _ h15=>wpIn_label (h15 _ _ (qr fun _ h16=>(wc (wld hF hS 1 0 0 fun a hF=>wp 2 [0,1,2,3,13] hF fun a hF=>wc (wld hF hS 4 0 0 fun a hF=>bd H fun x17 hx17 H=>wc (wo_callP hF hS kr kr (C_maps_Keys_map_string___api_Ver_string___api_Ver_ N hS.fresh a3.chains p5 m6 c7 ((hS.pick [0] kr).ro) hx17) ?_))))))))))))))
 rintro _ κ w a ⟨b18,rfl,hR,hN⟩ hF hS hO
 have hS:=hS.addC hO hN
 refine bd H fun x19 hx19 H=>wc (wo_callP hF hS kr kr (C_Sorted114 hS.fresh b18 p5 m6 c7 a3.chains (hS.ck 0 rfl).1 (fun b hb=>((hS.ck 6 rfl) b hb).1) (hS.get 0 rfl) hx19) ?_)
 rintro _ κ w a ⟨p20,c21,rfl,hR,hN⟩ hF hS hO
 have hS:=hS.adds hR
 have hS:=hS.addC hO hN
 refine wp 2 [0,1,2,3,16,17,18] hF fun a hF=>(h16 _ _ (bk (loop_fuel (n:=N) (fun n a w => ∃(κ:Gh) (y72:Int) (y73:σ) (p74:XF),Fr (44) [] [(0,.func (.yield l) #[] #[]),(1,pt b8 0),(2,pt b10 0),(3,pt b12 0),(16,.slice p20 x19.length c21),(17,vi (x19.length:Int)),(18,vi y72)] a∧SS Ms κ0 w0 κ w [.box b8 55 [(1,[pt b4 0])],.box b10 9 [sg a9],.box b12 9 [sg a11],.box b4 130 [sm p5,su a3.floor],.tok p20 9 1 x19.length c21,mx p5 m6 c7,.ext p74] [MP.const (Y y73 p74),Ro.mp fStr.ty p20 c21 x19,Map.mp kStr false (tSl f_api_Ver.ty) p5 m6 c7 a3.chains]∧M.store_Store_All_1_L1 N B n a3 a9 a11 x19 y72 y73=some r) ?_ ?_)))
 exact ⟨_,0,y1,p2,hF.kp [0,1,2,3,16,17,18],hS.sp [3,4,5,6,0,7,2] [2,0,1],H⟩
 rintro n a w ⟨κ,y72,y73,p74,hF,hS,H⟩
 rcases n with _|fuel1
 simp [M.store_Store_All_1_L1] at H
 simp only [M.store_Store_All_1_L1] at H
 refine qr fun _ h75=>(wl_pure (L':=[(0,.func (.yield l) #[] #[]),(1,pt b8 0),(2,pt b10 0),(3,pt b12 0),(16,.slice p20 x19.length c21),(17,vi (x19.length:Int)),(18,vi y72),(19,vb (decide (y72<(x19.length:Int))))]) 1 [0,1,2,3,16,17,18,19] hF kr fun a hF=>(h75 _ _ (qs fun _ h76=>bc hF H (fun hb H=>?_) fun hb H=>?_)))
 refine sk (h76 _ _ (seq_join (fun a w => ∃(κ:Gh) (y77:σ) (p78:XF),Fr (44) [] [(0,.func (.yield l) #[] #[]),(1,pt b8 0),(2,pt b10 0),(3,pt b12 0),(16,.slice p20 x19.length c21),(17,vi (x19.length:Int)),(18,vi y72)] a∧SS Ms κ0 w0 κ w [.box b8 55 [(1,[pt b4 0])],.box b10 9 [sg a9],.box b12 9 [sg a11],.box b4 130 [sm p5,su a3.floor],.tok p20 9 1 x19.length c21,mx p5 m6 c7,.ext p78] [MP.const (Y y77 p78),Ro.mp fStr.ty p20 c21 x19,Map.mp kStr false (tSl f_api_Ver.ty) p5 m6 c7 a3.chains]∧M.store_Store_All_1_k2 N B (M.store_Store_All_1_L1 N B fuel1) a3 a9 a11 x19 y72 y77=some r) ?_ ?_))
 refine bk (qr fun _ h79=>(bd H fun x80 hx80 H=>wc (wo_index hF hS kr 1 (E:=9) (sz:=1) rfl rfl rfl kr rfl hx80 kr kr fun b81 f82 a hpx80 hF=>wc (wo_loadRo (t:=fStr) hF hS kr 1 0 (v := .string (x80)) rfl rfl hpx80 rfl hx80 kr kr kr fun a hF=>wp 1 [0,1,2,3,6,16,17,18] hF fun a hF=>(h79 _ _ (qs fun _ h83=>qr fun _ h84=>(wp 1 [0,1,2,3,6,16,17,18,22] hF fun a hF=>wc (wld hF hS 1 0 0 fun a hF=>wc (wld hF hS 2 0 0 fun a hF=>bd H fun x85 hx85 H=>wc (wo_callP hF hS kr kr (C_span_Within N hS.fresh x80 a9 a11 ((hS.pick [] kr).ro) hx85) ?_))))))))))
 rintro _ κ w a ⟨rfl,hR,hN⟩ hF hS hO
 refine wp 1 [0,1,2,3,6,16,17,18,26] hF fun a hF=>(h84 _ _ (bc hF H (fun hb H=>?_) fun hb H=>?_))
 refine xt ?_
 exact ⟨_,y73,p74,hF.kp [0,1,2,3,16,17,18],hS.sp (rg 7) [0,1,2],H⟩
 refine sk (h83 _ _ (qr fun _ h86=>(wc (wld hF hS 0 0 0 fun a hF=>wp 2 [0,1,2,3,6,16,17,18,29] hF fun a hF=>wc (wld hF hS 3 0 0 fun a hF=>wl_pure (L':=[(0,.func (.yield l) #[] #[]),(1,pt b8 0),(2,pt b10 0),(3,pt b12 0),(16,.slice p20 x19.length c21),(17,vi (x19.length:Int)),(18,vi y72),(30,.map p5),(31,.string (x80))]) 1 [0,1,2,3,16,17,18,30,31] hF kr fun a hF=>bd H fun x87 hx87 H=>wc (wo_lookup (KT:=9) (E:=39) (kt:=kStr) (agg:=false) (t:=(tSl f_api_Ver.ty)) hF hS kr 5 2 (k:=x80) (zc:=flat [sl none 0 0]) (zm:=([]:List T_api_Ver)) rfl kr kr rfl rfl hx87 kr kr kr (ztSl _) ?_))))))
 rintro _ a ⟨⟨p88,c89⟩,rfl,hR⟩ hF
 have hS:=hS.adds hR
 refine wp 2 [0,1,2,3,16,17,18,32,33,34] hF fun a hF=>(h86 _ _ (bk (loop_fuel (n:=N) (fun n a w => ∃(κ:Gh) (y140:Int) (y141:σ) (p142:XF),Fr (44) [] [(0,.func (.yield l) #[] #[]),(1,pt b8 0),(2,pt b10 0),(3,pt b12 0),(16,.slice p20 x19.length c21),(17,vi (x19.length:Int)),(18,vi y72),(32,.slice p88 (x87.1).length c89),(33,vi ((x87.1).length:Int)),(34,vi y140)] a∧SS Ms κ0 w0 κ w [.box b8 55 [(1,[pt b4 0])],.box b10 9 [sg a9],.box b12 9 [sg a11],.box b4 130 [sm p5,su a3.floor],.tok p20 9 1 x19.length c21,mx p5 m6 c7,.ext p142] [MP.const (Y y141 p142),Ro.mp fStr.ty p20 c21 x19,Ro.mp f_api_Ver.ty p88 c89 x87.1,Map.mp kStr false (tSl f_api_Ver.ty) p5 m6 c7 a3.chains]∧M.store_Store_All_1_L3 N B (M.store_Store_All_1_L1 N B fuel1) n a3 a9 a11 x19 y72 x87 y140 y141=some r) ?_ ?_)))
 exact ⟨_,0,y73,p74,hF.kp [0,1,2,3,16,17,18,32,33,34],hS.sp (rg 7) [1,2,0,3],H⟩
 rintro n a w ⟨κ,y140,y141,p142,hF,hS,H⟩
 rcases n with _|fuel3
 simp [M.store_Store_All_1_L3] at H
 simp only [M.store_Store_All_1_L3] at H
 refine qr fun _ h143=>(wl_pure (L':=[(0,.func (.yield l) #[] #[]),(1,pt b8 0),(2,pt b10 0),(3,pt b12 0),(16,.slice p20 x19.length c21),(17,vi (x19.length:Int)),(18,vi y72),(32,.slice p88 (x87.1).length c89),(33,vi ((x87.1).length:Int)),(34,vi y140),(35,vb (decide (y140<((x87.1).length:Int))))]) 1 [0,1,2,3,16,17,18,32,33,34,35] hF kr fun a hF=>(h143 _ _ (qs fun _ h144=>bc hF H (fun hb H=>?_) fun hb H=>?_)))
 refine sk (h144 _ _ (qs fun _ h145=>bk (qr fun _ h146=>(bd H fun x147 hx147 H=>wc (wo_index hF hS kr 2 (E:=37) (sz:=6) rfl rfl rfl kr rfl hx147 kr kr fun b148 f149 a hpx147 hF=>wc (wo_loadRoAgg (t:=f_api_Ver) hF hS kr 2 rfl rfl hpx147 rfl hx147 kr kr kr fun a hF=>wc (wal hF hS [sg ByteArray.empty,sg ByteArray.empty,sb false,su 0,si 0,si 0] (sgN 6 sgNil) fun b150 a w hF hS=>wc (wst hF hS 0 0 6 [sg x147.Key,sg x147.Val,sb x147.Gone,su x147.TS,si x147.DC,si x147.Tx] (sgN 6 sgNil) fun a w hF hS=>?_))))))))
 refine h146 _ _ (qr fun _ h151=>(wl_pure (L':=[(0,.func (.yield l) #[] #[]),(1,pt b8 0),(2,pt b10 0),(3,pt b12 0),(8,pt b150 0),(16,.slice p20 x19.length c21),(17,vi (x19.length:Int)),(18,vi y72),(32,.slice p88 (x87.1).length c89),(33,vi ((x87.1).length:Int)),(34,vi y140),(38,.func (.yield l) #[] #[])]) 1 [0,1,2,3,8,16,17,18,32,33,34,38] hF kr fun a hF=>wc (wls hF hS 0 0 6 fun a hF=>bd H fun y152 hy152 H=>wc (wo_yield (Y:=Y) (s':=y152.1) (c:=y152.2) (x:=p142) (l:=l) (args := #[.agg (flat [sg x147.Key,sg x147.Val,sb x147.Gone,su x147.TS,si x147.DC,si x147.Tx]).toArray]) hF hS kr 7 rfl kr kr rfl (fun hp hf hn hl=>hB (T_api_Ver.mk x147.Key x147.Val x147.Gone x147.TS x147.DC x147.Tx) (hS.get 0 rfl) hp hf hn hl ((hS.pick [] kr).ro) hy152) fun p153 κ w a hY hF hS=>?_))))
 have hS:=hS.add (m:=MP.const (Y y152.1 p153)) hY
 refine wp 1 [0,1,2,3,16,17,18,32,33,34,41] hF fun a hF=>(h151 _ _ (bc hF H (fun hb H=>?_) fun hb H=>?_))
 refine xt ?_
 cases H
 exact ret_done hF hS (res0 Try.results79) ⟨_,hS.get 0 rfl,hS.sp [7,1,2,3,4,6] [4]⟩
 refine sk (h145 _ _ (rl (wp 2 [0,1,2,3,16,17,18,32,33,34] hF fun a hF=>nl ?_)))
 exact ⟨fuel3,Nat.lt_succ_self _,_,IntKind.i64.wrap (y140+1),y152.1,p153,hF.kp [0,1,2,3,16,17,18,32,33,34],hS.sp (ra 1 7) [0,2,3,4],H⟩
 refine xt ?_
 exact ⟨_,y141,p142,hF.kp [0,1,2,3,16,17,18],hS.sp (rg 7) [0,1,3],H⟩
 rintro a w ⟨κ,y77,p78,hF,hS,H⟩
 unfold M.store_Store_All_1_k2 at H
 refine rl (wp 2 [0,1,2,3,16,17,18] hF fun a hF=>nl ?_)
 exact ⟨fuel1,Nat.lt_succ_self _,_,IntKind.i64.wrap (y72+1),y77,p78,hF.kp [0,1,2,3,16,17,18],hS.sp (rg 7) [0,1,2],H⟩
 refine xt ?_
 cases H
 exact ret_done hF hS (res0 Try.results79) ⟨_,hS.get 0 rfl,hS.sp [6,0,1,2,3,5] [2]⟩
end Go.Cf
