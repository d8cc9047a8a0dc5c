/- The walks: each function returns what its model says. Printed by a program of ours. -/
import Derived.Test.YtgpgcfgejggolaaGreatDoorZM1
namespace Go.Cf
open Go Go.Proofs
set_option linter.unusedVariables false
set_option maxRecDepth 20000
set_option maxHeartbeats 8000000
theorem C_script_op (N:Nat){κ0:Gh}{w0:World}(hfr:Fresh κ0 w0)(a1:ByteArray)(a2:(List Int))(a5:(List ByteArray))(p3:Option Addr)(c4:Nat)(p6:Option Addr)(c7:Nat)(hR : ∀m∈([Ro.mp (fInt .i64).ty p3 c4 a2,Ro.mp fStr.ty p6 c7 a5]:List MP),m.p κ0 w0){r:(T_cluster_Op×Bool)}(H:M.script_op N a1 a2 a5=some r) :
    Calls Tryz.prog 16 #[.string (a1),.slice p3 a2.length c4,.slice p6 a5.length c7] w0 (Post [] κ0 w0 fun v κ w=>v = .tuple #[.agg (flat [si r.1.Kind,si r.1.Who,si r.1.A,si r.1.B,si r.1.N,sg r.1.Key,sg r.1.Val,si r.1.Cmd.Kind,si r.1.Cmd.DC,si r.1.Cmd.Shard,si r.1.Cmd.Node,si r.1.Cmd.Mode,sg r.1.Cmd.Key]).toArray,vb r.2]∧(∀m∈([]:List MP),m.p κ w)∧NewC w0 κ w []):=by
 have hS:=SS.start hfr hR
 refine en Tryz.func16 rfl Tryz.ntmps16 fun a hF=>?_
 unfold M.script_op at H
 refine qr fun _ h8=>(wc (wbx hF hS [sl p3 a2.length c4] (sgN 1 sgNil) fun b9 a w hF hS=>wc (wal hF hS [si 0,si 0,si 0,si 0,si 0,sg ByteArray.empty,sg ByteArray.empty,si 0,si 0,si 0,si 0,si 0,sg ByteArray.empty] (sgN 13 sgNil) fun b10 a w hF hS=>wp 1 [0,2,4,6] hF fun a hF=>(h8 _ _ (qr fun _ h11=>(wl_pure (L':=[(0,.string (a1)),(2,.slice p6 a5.length c7),(4,pt b9 0),(6,pt b10 0),(8,.func (.func 38) #[] #[])]) 1 [0,2,4,6,8] hF kr fun a hF=>?_))))))
 refine h11 _ _ (qr fun _ h12=>(wc (wo_val hF kr (v := .func (.func 39) #[] #[pt b9 0]) (val_makeFunc (T':=0) (caps := #[pt b9 0]) rfl kr _) fun a hF=>wp 1 [0,2,4,6,8,9] hF fun a hF=>(h12 _ _ (qs fun _ h13=>qr fun _ h14=>(wp 1 [2,4,6,8,9,11] hF fun a hF=>(h14 _ _ (bk (qr fun _ h15=>(wl_pure (L':=[(2,.slice p6 a5.length c7),(4,pt b9 0),(6,pt b10 0),(8,.func (.func 38) #[] #[]),(9,.func (.func 39) #[] #[pt b9 0]),(11,.string (a1)),(12,vb (sEq a1 (ByteArray.mk #[115,116,101,112])))]) 2 [2,4,6,8,9,11,12] hF kr fun a hF=>?_))))))))))
 refine h15 _ _ (bc hF H (fun hb H=>?_) fun hb H=>?_)
 refine qr fun _ h16=>(wc (wld hF hS 1 0 0 fun a hF=>bd H fun x17 hx17 H=>wc (wo_index hF hS kr 0 (E:=3) (sz:=1) rfl rfl rfl kr rfl hx17 kr kr fun b18 f19 a hpx17 hF=>wc (wo_loadRo (t:=(fInt .i64)) hF hS kr 0 0 (v:=vi x17) rfl rfl hpx17 rfl hx17 kr kr kr fun a hF=>wp 1 [6,17] hF fun a hF=>wc (wst hF hS 0 0 13 [si 1,si 0,si x17,si 0,si 0,sg ByteArray.empty,sg ByteArray.empty,si 0,si 0,si 0,si 0,si 0,sg ByteArray.empty] (sgN 13 sgNil) fun a w hF hS=>?_)))))
 refine wp 1 [6,7] hF fun a hF=>(h16 _ _ (rt ?_))
 have hS':=hS
 cases H
 exact (ret_done hF hS (res2 Tryz.results16 (rvs hF hS' 0 0 13) (rvt hF)) ⟨rfl,(hS.pick [] kr).ro,hS.newC [] dc kr⟩)
 refine qr fun _ h20=>(wl_pure (L':=[(2,.slice p6 a5.length c7),(4,pt b9 0),(6,pt b10 0),(8,.func (.func 38) #[] #[]),(9,.func (.func 39) #[] #[pt b9 0]),(11,.string (a1)),(18,vb (sEq a1 (ByteArray.mk #[116,105,99,107])))]) 2 [2,4,6,8,9,11,18] hF kr fun a hF=>(h20 _ _ (bc hF H (fun hb H=>?_) fun hb H=>?_)))
 refine qs fun _ h21=>rgS hS [7] ?_
 have hS:=hS.drew
 refine atk 0 (some 20) hF (hS.sx [0,1] [0,1]) rfl (vld 1 0 0) fun a hF=>bd H fun x22 hx22 H=>?_
 obtain ⟨b23,f24,hpx22⟩:=hS.ptr 0 rfl hx22
 refine atk 1 (some 21) hF (hS.sx [0,1] [0,1]) rfl (fun w _=>val_index (E:=3) (sz:=1) rfl hpx22 rfl kr rfl hx22 kr kr w) fun a hF=>atk 2 (some 22) hF (hS.sx [0,1] [0,1]) rfl (val_loadRo (t:=(fInt .i64)) 0 0 (v:=vi x22) rfl rfl hpx22 rfl hx22 kr kr kr) fun a hF=>atk 3 (some 23) hF (hS.sx [0,1] [0,1]) rfl (vld 1 0 0) fun a hF=>bd H fun x25 hx25 H=>?_
 obtain ⟨b26,f27,hpx25⟩:=hS.ptr 0 rfl hx25
 refine atk 4 (some 24) hF (hS.sx [0,1] [0,1]) rfl (fun w _=>val_index (E:=3) (sz:=1) rfl hpx25 rfl kr rfl hx25 kr kr w) fun a hF=>atk 5 (some 25) hF (hS.sx [0,1] [0,1]) rfl (val_loadRo (t:=(fInt .i64)) 0 0 (v:=vi x25) rfl rfl hpx25 rfl hx25 kr kr kr) fun a hF=>anp [6] [6,26] hF (hS.sx [0,1] [0,1]) fun a hF=>ago 7 hF rfl (wst hF hS 0 0 13 [si 2,si 0,si x22,si 0,si x25,sg ByteArray.empty,sg ByteArray.empty,si 0,si 0,si 0,si 0,si 0,sg ByteArray.empty] (sgN 13 sgNil) fun a w hF hS=>?_)
 refine ⟨notE,?_⟩
 refine anpP [8] [6,7] hF notE fun a hF=>?_
 have hF:Fr (217) _ [(6,pt b10 0),(7,vb true)] a:=hF.kp [6,7]
 refine and_ (h21 _ _ (rt ?_))
 have hS':=hS
 cases H
 exact (ret_done hF hS (res2 Tryz.results16 (rvs hF hS' 0 0 13) (rvt hF)) ⟨rfl,(hS.pick [] kr).ro,hS.newC [] dc kr⟩)
 refine qr fun _ h28=>(wp 2 [2,4,6,8,9,11,27] hF fun a hF=>(h28 _ _ (bc hF H (fun hb H=>?_) fun hb H=>?_)))
 refine qs fun _ h29=>?_
 cases H
 refine qr fun _ h30=>(wp 2 [2,4,6,8,9,11,33] hF fun a hF=>(h30 _ _ (bc hF H (fun hb H=>?_) fun hb H=>?_)))
 refine qs fun _ h31=>?_
 cases H
 refine qr fun _ h32=>(wp 2 [2,4,6,8,9,11,39] hF fun a hF=>(h32 _ _ (bc hF H (fun hb H=>?_) fun hb H=>?_)))
 refine qs fun _ h33=>?_
 cases H
 refine qr fun _ h34=>(wp 2 [2,4,6,8,9,11,45] hF fun a hF=>(h34 _ _ (bc hF H (fun hb H=>?_) fun hb H=>?_)))
 refine qs fun _ h35=>?_
 cases H
 refine qr fun _ h36=>(wl_pure (L':=[(2,.slice p6 a5.length c7),(4,pt b9 0),(6,pt b10 0),(8,.func (.func 38) #[] #[]),(11,.string (a1)),(51,vb (sEq a1 (ByteArray.mk #[115,112,111,105,108])))]) 2 [2,4,6,8,11,51] hF kr fun a hF=>(h36 _ _ (bc hF H (fun hb H=>?_) fun hb H=>?_)))
 refine qs fun _ h37=>rgS hS [13] ?_
 have hS:=hS.drew
 refine atk 0 (some 53) hF (hS.sx [0,1] [0,1]) rfl (vld 1 0 0) fun a hF=>bd H fun x38 hx38 H=>?_
 obtain ⟨b39,f40,hpx38⟩:=hS.ptr 0 rfl hx38
 refine atk 1 (some 54) hF (hS.sx [0,1] [0,1]) rfl (fun w _=>val_index (E:=3) (sz:=1) rfl hpx38 rfl kr rfl hx38 kr kr w) fun a hF=>atk 2 (some 55) hF (hS.sx [0,1] [0,1]) rfl (val_loadRo (t:=(fInt .i64)) 0 0 (v:=vi x38) rfl rfl hpx38 rfl hx38 kr kr kr) fun a hF=>atk 3 (some 56) hF (hS.sx [0,1] [0,1]) rfl (vld 1 0 0) fun a hF=>bd H fun x41 hx41 H=>?_
 obtain ⟨b42,f43,hpx41⟩:=hS.ptr 0 rfl hx41
 refine atk 4 (some 57) hF (hS.sx [0,1] [0,1]) rfl (fun w _=>val_index (E:=3) (sz:=1) rfl hpx41 rfl kr rfl hx41 kr kr w) fun a hF=>atk 5 (some 58) hF (hS.sx [0,1] [0,1]) rfl (val_loadRo (t:=(fInt .i64)) 0 0 (v:=vi x41) rfl rfl hpx41 rfl hx41 kr kr kr) fun a hF=>atk 6 (some 59) hF (hS.sx [0,1] [0,1]) rfl (vld 1 0 0) fun a hF=>bd H fun x44 hx44 H=>?_
 obtain ⟨b45,f46,hpx44⟩:=hS.ptr 0 rfl hx44
 refine atk 7 (some 60) hF (hS.sx [0,1] [0,1]) rfl (fun w _=>val_index (E:=3) (sz:=1) rfl hpx44 rfl kr rfl hx44 kr kr w) fun a hF=>atk 8 (some 61) hF (hS.sx [0,1] [0,1]) rfl (val_loadRo (t:=(fInt .i64)) 0 0 (v:=vi x44) rfl rfl hpx44 rfl hx44 kr kr kr) fun a hF=>atk 9 (some 62) hF (hS.sx [0,1] [0,1]) rfl (vld 1 0 0) fun a hF=>bd H fun x47 hx47 H=>?_
 obtain ⟨b48,f49,hpx47⟩:=hS.ptr 0 rfl hx47
 refine atk 10 (some 63) hF (hS.sx [0,1] [0,1]) rfl (fun w _=>val_index (E:=3) (sz:=1) rfl hpx47 rfl kr rfl hx47 kr kr w) fun a hF=>atk 11 (some 64) hF (hS.sx [0,1] [0,1]) rfl (val_loadRo (t:=(fInt .i64)) 0 0 (v:=vi x47) rfl rfl hpx47 rfl hx47 kr kr kr) fun a hF=>anp [12] [6,65] hF (hS.sx [0,1] [0,1]) fun a hF=>ago 13 hF rfl (wst hF hS 0 0 13 [si 7,si x47,si x38,si x41,si x44,sg ByteArray.empty,sg ByteArray.empty,si 0,si 0,si 0,si 0,si 0,sg ByteArray.empty] (sgN 13 sgNil) fun a w hF hS=>?_)
 refine ⟨notE,?_⟩
 refine anpP [14] [6,7] hF notE fun a hF=>?_
 have hF:Fr (217) _ [(6,pt b10 0),(7,vb true)] a:=hF.kp [6,7]
 refine and_ (h37 _ _ (rt ?_))
 have hS':=hS
 cases H
 exact (ret_done hF hS (res2 Tryz.results16 (rvs hF hS' 0 0 13) (rvt hF)) ⟨rfl,(hS.pick [] kr).ro,hS.newC [] dc kr⟩)
 refine qr fun _ h50=>(wl_pure (L':=[(2,.slice p6 a5.length c7),(4,pt b9 0),(6,pt b10 0),(8,.func (.func 38) #[] #[]),(11,.string (a1)),(66,vb (sEq a1 (ByteArray.mk #[99,97,108,109])))]) 2 [2,4,6,8,11,66] hF kr fun a hF=>(h50 _ _ (bc hF H (fun hb H=>?_) fun hb H=>?_)))
 refine qr fun _ h51=>(wc (wld hF hS 1 0 0 fun a hF=>bd H fun x52 hx52 H=>wc (wo_index hF hS kr 0 (E:=3) (sz:=1) rfl rfl rfl kr rfl hx52 kr kr fun b53 f54 a hpx52 hF=>wc (wo_loadRo (t:=(fInt .i64)) hF hS kr 0 0 (v:=vi x52) rfl rfl hpx52 rfl hx52 kr kr kr fun a hF=>wp 1 [6,71] hF fun a hF=>wc (wst hF hS 0 0 13 [si 18,si 0,si 0,si 0,si x52,sg ByteArray.empty,sg ByteArray.empty,si 0,si 0,si 0,si 0,si 0,sg ByteArray.empty] (sgN 13 sgNil) fun a w hF hS=>?_)))))
 refine wp 1 [6,7] hF fun a hF=>(h51 _ _ (rt ?_))
 have hS':=hS
 cases H
 exact (ret_done hF hS (res2 Tryz.results16 (rvs hF hS' 0 0 13) (rvt hF)) ⟨rfl,(hS.pick [] kr).ro,hS.newC [] dc kr⟩)
 refine qr fun _ h55=>(wl_pure (L':=[(2,.slice p6 a5.length c7),(4,pt b9 0),(6,pt b10 0),(8,.func (.func 38) #[] #[]),(11,.string (a1)),(72,vb (sEq a1 (ByteArray.mk #[98,101,103,105,110])))]) 2 [2,4,6,8,11,72] hF kr fun a hF=>(h55 _ _ (bc hF H (fun hb H=>?_) fun hb H=>?_)))
 refine qr fun _ h56=>(wc (wld hF hS 1 0 0 fun a hF=>bd H fun x57 hx57 H=>wc (wo_index hF hS kr 0 (E:=3) (sz:=1) rfl rfl rfl kr rfl hx57 kr kr fun b58 f59 a hpx57 hF=>wc (wo_loadRo (t:=(fInt .i64)) hF hS kr 0 0 (v:=vi x57) rfl rfl hpx57 rfl hx57 kr kr kr fun a hF=>wp 1 [6,77] hF fun a hF=>wc (wst hF hS 0 0 13 [si 9,si x57,si 0,si 0,si 0,sg ByteArray.empty,sg ByteArray.empty,si 0,si 0,si 0,si 0,si 0,sg ByteArray.empty] (sgN 13 sgNil) fun a w hF hS=>?_)))))
 refine wp 1 [6,7] hF fun a hF=>(h56 _ _ (rt ?_))
 have hS':=hS
 cases H
 exact (ret_done hF hS (res2 Tryz.results16 (rvs hF hS' 0 0 13) (rvt hF)) ⟨rfl,(hS.pick [] kr).ro,hS.newC [] dc kr⟩)
 refine qr fun _ h60=>(wp 2 [2,4,6,8,11,78] hF fun a hF=>(h60 _ _ (bc hF H (fun hb H=>?_) fun hb H=>?_)))
 refine qs fun _ h61=>rgS hS [7] ?_
 have hS:=hS.drew
 have hX:=hS.fx
 refine any_pure [3] [4,6,83] (L':=[(4,pt b9 0),(6,pt b10 0),(83,.slice p6 a5.length c7)]) (listed':=(bitA 9 8)) (fuel:=8) hF hX kr (by intro c a w t v h; cases t<;>exact h) kr rfl fun a hF=>atk 0 (some 80) hF hX rfl (vld 1 0 0) fun a hF=>bd H fun x62 hx62 H=>?_
 obtain ⟨b63,f64,hpx62⟩:=hS.ptr 0 rfl hx62
 refine atk 1 (some 81) hF (hS.sx [0,1] [0,1]) rfl (fun w _=>val_index (E:=3) (sz:=1) rfl hpx62 rfl kr rfl hx62 kr kr w) fun a hF=>atk 2 (some 82) hF (hS.sx [0,1] [0,1]) rfl (val_loadRo (t:=(fInt .i64)) 0 0 (v:=vi x62) rfl rfl hpx62 rfl hx62 kr kr kr) fun a hF=>bd H fun x65 hx65 H=>?_
 obtain ⟨b66,f67,hpx65⟩:=hS.ptr 1 rfl hx65
 refine atk 4 (some 84) hF (hS.sx [0,1] [0,1]) rfl (fun w _=>val_index (E:=9) (sz:=1) rfl hpx65 rfl kr rfl hx65 kr kr w) fun a hF=>atk 5 (some 85) hF (hS.sx [0,1] [0,1]) rfl (val_loadRo (t:=fStr) 1 0 (v := .string (x65)) rfl rfl hpx65 rfl hx65 kr kr kr) fun a hF=>anp [6] [6,86] hF (hS.sx [0,1] [0,1]) fun a hF=>ago 7 hF rfl (wst hF hS 0 0 13 [si 10,si x62,si 0,si 0,si 0,sg x65,sg ByteArray.empty,si 0,si 0,si 0,si 0,si 0,sg ByteArray.empty] (sgN 13 sgNil) fun a w hF hS=>?_)
 refine ⟨notE,?_⟩
 refine anpP [8] [6,7] hF notE fun a hF=>?_
 have hF:Fr (217) _ [(6,pt b10 0),(7,vb true)] a:=hF.kp [6,7]
 refine and_ (h61 _ _ (rt ?_))
 have hS':=hS
 cases H
 exact (ret_done hF hS (res2 Tryz.results16 (rvs hF hS' 0 0 13) (rvt hF)) ⟨rfl,(hS.pick [] kr).ro,hS.newC [] dc kr⟩)
 refine qr fun _ h68=>(wp 2 [2,4,6,8,11,87] hF fun a hF=>(h68 _ _ (bc hF H (fun hb H=>?_) fun hb H=>?_)))
 refine qs fun _ h69=>rgS hS [10] ?_
 have hS:=hS.drew
 have hX:=hS.fx
 refine any_pure [3,6] [4,6,92,95] (L':=[(4,pt b9 0),(6,pt b10 0),(92,.slice p6 a5.length c7),(95,.slice p6 a5.length c7)]) (listed':=(bitA 12 72)) (fuel:=10) hF hX kr (by intro c a w t v h; cases t<;>exact h) kr rfl fun a hF=>atk 0 (some 89) hF hX rfl (vld 1 0 0) fun a hF=>bd H fun x70 hx70 H=>?_
 obtain ⟨b71,f72,hpx70⟩:=hS.ptr 0 rfl hx70
 refine atk 1 (some 90) hF (hS.sx [0,1] [0,1]) rfl (fun w _=>val_index (E:=3) (sz:=1) rfl hpx70 rfl kr rfl hx70 kr kr w) fun a hF=>atk 2 (some 91) hF (hS.sx [0,1] [0,1]) rfl (val_loadRo (t:=(fInt .i64)) 0 0 (v:=vi x70) rfl rfl hpx70 rfl hx70 kr kr kr) fun a hF=>bd H fun x73 hx73 H=>?_
 obtain ⟨b74,f75,hpx73⟩:=hS.ptr 1 rfl hx73
 refine atk 4 (some 93) hF (hS.sx [0,1] [0,1]) rfl (fun w _=>val_index (E:=9) (sz:=1) rfl hpx73 rfl kr rfl hx73 kr kr w) fun a hF=>atk 5 (some 94) hF (hS.sx [0,1] [0,1]) rfl (val_loadRo (t:=fStr) 1 0 (v := .string (x73)) rfl rfl hpx73 rfl hx73 kr kr kr) fun a hF=>bd H fun x76 hx76 H=>?_
 obtain ⟨b77,f78,hpx76⟩:=hS.ptr 1 rfl hx76
 refine atk 7 (some 96) hF (hS.sx [0,1] [0,1]) rfl (fun w _=>val_index (E:=9) (sz:=1) rfl hpx76 rfl kr rfl hx76 kr kr w) fun a hF=>atk 8 (some 97) hF (hS.sx [0,1] [0,1]) rfl (val_loadRo (t:=fStr) 1 0 (v := .string (x76)) rfl rfl hpx76 rfl hx76 kr kr kr) fun a hF=>anp [9] [6,98] hF (hS.sx [0,1] [0,1]) fun a hF=>ago 10 hF rfl (wst hF hS 0 0 13 [si 11,si x70,si 0,si 0,si 0,sg x73,sg x76,si 0,si 0,si 0,si 0,si 0,sg ByteArray.empty] (sgN 13 sgNil) fun a w hF hS=>?_)
 refine ⟨notE,?_⟩
 refine anpP [11] [6,7] hF notE fun a hF=>?_
 have hF:Fr (217) _ [(6,pt b10 0),(7,vb true)] a:=hF.kp [6,7]
 refine and_ (h69 _ _ (rt ?_))
 have hS':=hS
 cases H
 exact (ret_done hF hS (res2 Tryz.results16 (rvs hF hS' 0 0 13) (rvt hF)) ⟨rfl,(hS.pick [] kr).ro,hS.newC [] dc kr⟩)
 refine qr fun _ h79=>(wp 2 [2,4,6,8,11,99] hF fun a hF=>(h79 _ _ (bc hF H (fun hb H=>?_) fun hb H=>?_)))
 refine qs fun _ h80=>rgS hS [7] ?_
 have hS:=hS.drew
 have hX:=hS.fx
 refine any_pure [3] [4,6,104] (L':=[(4,pt b9 0),(6,pt b10 0),(104,.slice p6 a5.length c7)]) (listed':=(bitA 9 8)) (fuel:=8) hF hX kr (by intro c a w t v h; cases t<;>exact h) kr rfl fun a hF=>atk 0 (some 101) hF hX rfl (vld 1 0 0) fun a hF=>bd H fun x81 hx81 H=>?_
 obtain ⟨b82,f83,hpx81⟩:=hS.ptr 0 rfl hx81
 refine atk 1 (some 102) hF (hS.sx [0,1] [0,1]) rfl (fun w _=>val_index (E:=3) (sz:=1) rfl hpx81 rfl kr rfl hx81 kr kr w) fun a hF=>atk 2 (some 103) hF (hS.sx [0,1] [0,1]) rfl (val_loadRo (t:=(fInt .i64)) 0 0 (v:=vi x81) rfl rfl hpx81 rfl hx81 kr kr kr) fun a hF=>bd H fun x84 hx84 H=>?_
 obtain ⟨b85,f86,hpx84⟩:=hS.ptr 1 rfl hx84
 refine atk 4 (some 105) hF (hS.sx [0,1] [0,1]) rfl (fun w _=>val_index (E:=9) (sz:=1) rfl hpx84 rfl kr rfl hx84 kr kr w) fun a hF=>atk 5 (some 106) hF (hS.sx [0,1] [0,1]) rfl (val_loadRo (t:=fStr) 1 0 (v := .string (x84)) rfl rfl hpx84 rfl hx84 kr kr kr) fun a hF=>anp [6] [6,107] hF (hS.sx [0,1] [0,1]) fun a hF=>ago 7 hF rfl (wst hF hS 0 0 13 [si 12,si x81,si 0,si 0,si 0,sg x84,sg ByteArray.empty,si 0,si 0,si 0,si 0,si 0,sg ByteArray.empty] (sgN 13 sgNil) fun a w hF hS=>?_)
 refine ⟨notE,?_⟩
 refine anpP [8] [6,7] hF notE fun a hF=>?_
 have hF:Fr (217) _ [(6,pt b10 0),(7,vb true)] a:=hF.kp [6,7]
 refine and_ (h80 _ _ (rt ?_))
 have hS':=hS
 cases H
 exact (ret_done hF hS (res2 Tryz.results16 (rvs hF hS' 0 0 13) (rvt hF)) ⟨rfl,(hS.pick [] kr).ro,hS.newC [] dc kr⟩)
 refine qr fun _ h87=>(wl_pure (L':=[(2,.slice p6 a5.length c7),(4,pt b9 0),(6,pt b10 0),(8,.func (.func 38) #[] #[]),(11,.string (a1)),(108,vb (sEq a1 (ByteArray.mk #[99,111,109,109,105,116])))]) 2 [2,4,6,8,11,108] hF kr fun a hF=>(h87 _ _ (bc hF H (fun hb H=>?_) fun hb H=>?_)))
 refine qr fun _ h88=>(wc (wld hF hS 1 0 0 fun a hF=>bd H fun x89 hx89 H=>wc (wo_index hF hS kr 0 (E:=3) (sz:=1) rfl rfl rfl kr rfl hx89 kr kr fun b90 f91 a hpx89 hF=>wc (wo_loadRo (t:=(fInt .i64)) hF hS kr 0 0 (v:=vi x89) rfl rfl hpx89 rfl hx89 kr kr kr fun a hF=>wp 1 [6,113] hF fun a hF=>wc (wst hF hS 0 0 13 [si 13,si x89,si 0,si 0,si 0,sg ByteArray.empty,sg ByteArray.empty,si 0,si 0,si 0,si 0,si 0,sg ByteArray.empty] (sgN 13 sgNil) fun a w hF hS=>?_)))))
 refine wp 1 [6,7] hF fun a hF=>(h88 _ _ (rt ?_))
 have hS':=hS
 cases H
 exact (ret_done hF hS (res2 Tryz.results16 (rvs hF hS' 0 0 13) (rvt hF)) ⟨rfl,(hS.pick [] kr).ro,hS.newC [] dc kr⟩)
 refine qr fun _ h92=>(wl_pure (L':=[(2,.slice p6 a5.length c7),(4,pt b9 0),(6,pt b10 0),(8,.func (.func 38) #[] #[]),(11,.string (a1)),(114,vb (sEq a1 (ByteArray.mk #[97,98,111,114,116])))]) 2 [2,4,6,8,11,114] hF kr fun a hF=>(h92 _ _ (bc hF H (fun hb H=>?_) fun hb H=>?_)))
 refine qr fun _ h93=>(wc (wld hF hS 1 0 0 fun a hF=>bd H fun x94 hx94 H=>wc (wo_index hF hS kr 0 (E:=3) (sz:=1) rfl rfl rfl kr rfl hx94 kr kr fun b95 f96 a hpx94 hF=>wc (wo_loadRo (t:=(fInt .i64)) hF hS kr 0 0 (v:=vi x94) rfl rfl hpx94 rfl hx94 kr kr kr fun a hF=>wp 1 [6,119] hF fun a hF=>wc (wst hF hS 0 0 13 [si 14,si x94,si 0,si 0,si 0,sg ByteArray.empty,sg ByteArray.empty,si 0,si 0,si 0,si 0,si 0,sg ByteArray.empty] (sgN 13 sgNil) fun a w hF hS=>?_)))))
 refine wp 1 [6,7] hF fun a hF=>(h93 _ _ (rt ?_))
 have hS':=hS
 cases H
 exact (ret_done hF hS (res2 Tryz.results16 (rvs hF hS' 0 0 13) (rvt hF)) ⟨rfl,(hS.pick [] kr).ro,hS.newC [] dc kr⟩)
 refine qr fun _ h97=>(wl_pure (L':=[(2,.slice p6 a5.length c7),(4,pt b9 0),(6,pt b10 0),(8,.func (.func 38) #[] #[]),(11,.string (a1)),(120,vb (sEq a1 (ByteArray.mk #[104,111,109,101])))]) 2 [2,4,6,8,11,120] hF kr fun a hF=>(h97 _ _ (bc hF H (fun hb H=>?_) fun hb H=>?_)))
 refine qs fun _ h98=>rgS hS [7] ?_
 have hS:=hS.drew
 refine atk 0 (some 122) hF (hS.sx [0,1] [0,1]) rfl (vld 1 0 0) fun a hF=>bd H fun x99 hx99 H=>?_
 obtain ⟨b100,f101,hpx99⟩:=hS.ptr 0 rfl hx99
 refine atk 1 (some 123) hF (hS.sx [0,1] [0,1]) rfl (fun w _=>val_index (E:=3) (sz:=1) rfl hpx99 rfl kr rfl hx99 kr kr w) fun a hF=>atk 2 (some 124) hF (hS.sx [0,1] [0,1]) rfl (val_loadRo (t:=(fInt .i64)) 0 0 (v:=vi x99) rfl rfl hpx99 rfl hx99 kr kr kr) fun a hF=>atk 3 (some 125) hF (hS.sx [0,1] [0,1]) rfl (vld 1 0 0) fun a hF=>bd H fun x102 hx102 H=>?_
 obtain ⟨b103,f104,hpx102⟩:=hS.ptr 0 rfl hx102
 refine atk 4 (some 126) hF (hS.sx [0,1] [0,1]) rfl (fun w _=>val_index (E:=3) (sz:=1) rfl hpx102 rfl kr rfl hx102 kr kr w) fun a hF=>atk 5 (some 127) hF (hS.sx [0,1] [0,1]) rfl (val_loadRo (t:=(fInt .i64)) 0 0 (v:=vi x102) rfl rfl hpx102 rfl hx102 kr kr kr) fun a hF=>anp [6] [6,128] hF (hS.sx [0,1] [0,1]) fun a hF=>ago 7 hF rfl (wst hF hS 0 0 13 [si 15,si x99,si x102,si 0,si 0,sg ByteArray.empty,sg ByteArray.empty,si 0,si 0,si 0,si 0,si 0,sg ByteArray.empty] (sgN 13 sgNil) fun a w hF hS=>?_)
 refine ⟨notE,?_⟩
 refine anpP [8] [6,7] hF notE fun a hF=>?_
 have hF:Fr (217) _ [(6,pt b10 0),(7,vb true)] a:=hF.kp [6,7]
 refine and_ (h98 _ _ (rt ?_))
 have hS':=hS
 cases H
 exact (ret_done hF hS (res2 Tryz.results16 (rvs hF hS' 0 0 13) (rvt hF)) ⟨rfl,(hS.pick [] kr).ro,hS.newC [] dc kr⟩)
 refine qr fun _ h105=>(wl_pure (L':=[(2,.slice p6 a5.length c7),(4,pt b9 0),(6,pt b10 0),(8,.func (.func 38) #[] #[]),(11,.string (a1)),(129,vb (sEq a1 (ByteArray.mk #[99,111,108,108,101,99,116])))]) 2 [2,4,6,8,11,129] hF kr fun a hF=>(h105 _ _ (bc hF H (fun hb H=>?_) fun hb H=>?_)))
 refine qr fun _ h106=>(wc (wld hF hS 1 0 0 fun a hF=>bd H fun x107 hx107 H=>wc (wo_index hF hS kr 0 (E:=3) (sz:=1) rfl rfl rfl kr rfl hx107 kr kr fun b108 f109 a hpx107 hF=>wc (wo_loadRo (t:=(fInt .i64)) hF hS kr 0 0 (v:=vi x107) rfl rfl hpx107 rfl hx107 kr kr kr fun a hF=>wp 1 [6,134] hF fun a hF=>wc (wst hF hS 0 0 13 [si 17,si 0,si x107,si 0,si 0,sg ByteArray.empty,sg ByteArray.empty,si 0,si 0,si 0,si 0,si 0,sg ByteArray.empty] (sgN 13 sgNil) fun a w hF hS=>?_)))))
 refine wp 1 [6,7] hF fun a hF=>(h106 _ _ (rt ?_))
 have hS':=hS
 cases H
 exact (ret_done hF hS (res2 Tryz.results16 (rvs hF hS' 0 0 13) (rvt hF)) ⟨rfl,(hS.pick [] kr).ro,hS.newC [] dc kr⟩)
 refine qr fun _ h110=>(wp 2 [2,4,6,8,11,135] hF fun a hF=>(h110 _ _ (bc hF H (fun hb H=>?_) fun hb H=>?_)))
 refine qs fun _ h111=>?_
 cases H
 refine qr fun _ h115=>(wp 2 [2,4,6,8,11,145] hF fun a hF=>(h115 _ _ (bc hF H (fun hb H=>?_) fun hb H=>?_)))
 refine qs fun _ h116=>?_
 cases H
 refine qr fun _ h120=>(wp 2 [2,4,6,8,11,155] hF fun a hF=>(h120 _ _ (bc hF H (fun hb H=>?_) fun hb H=>?_)))
 refine qs fun _ h121=>?_
 cases H
 refine qr fun _ h131=>(wp 2 [4,6,8,11,171] hF fun a hF=>(h131 _ _ (bc hF H (fun hb H=>?_) fun hb H=>?_)))
 refine qs fun _ h132=>?_
 cases H
 refine qr fun _ h139=>(wp 2 [4,6,8,11,184] hF fun a hF=>(h139 _ _ (bc hF H (fun hb H=>?_) fun hb H=>?_)))
 refine qs fun _ h140=>?_
 cases H
 refine qr fun _ h150=>(wp 2 [4,6,8,200] hF fun a hF=>(h150 _ _ (bc hF H (fun hb H=>?_) fun hb H=>?_)))
 refine qs fun _ h151=>?_
 cases H
 refine sk (h13 _ _ (qr fun _ h161=>(wp 1 [6,216] hF fun a hF=>wc (wst hF hS 0 0 13 [si 0,si 0,si 0,si 0,si 0,sg ByteArray.empty,sg ByteArray.empty,si 0,si 0,si 0,si 0,si 0,sg ByteArray.empty] (sgN 13 sgNil) fun a w hF hS=>wp 1 [6,7] hF fun a hF=>(h161 _ _ (rt ?_))))))
 have hS':=hS
 cases H
 exact (ret_done hF hS (res2 Tryz.results16 (rvs hF hS' 0 0 13) (rvt hF)) ⟨rfl,(hS.pick [] kr).ro,hS.newC [] dc kr⟩)
end Go.Cf
