/- The walks: each function returns what its model says. Printed by a program of ours. -/
import Derived.Test.YteeafoagaaedcaaZM1
import Derived.Test.YteeafoagaaedcaaZWt2
import Derived.Test.YteeafoagaaedcaaZWt1
import Derived.Test.YteeafoagaaedcaaZWn1
import Derived.Test.YteeafoagaaedcaaZWn2
import Derived.Test.YteeafoagaaedcaaZWn3
namespace Go.Cf
open Go Go.Proofs
set_option linter.unusedVariables false
set_option maxRecDepth 20000
set_option maxHeartbeats 8000000
theorem C_node_Node_Versions (N:Nat){Ms:List Nat}{κ0:Gh}{w0:World}(a1:T_node_Node)(a18:ByteArray)(a19:ByteArray)(b2:Nat)(p3:Option Nat)(m4:Array MapEntry)(c5:Nat)(b6:Nat)(p7:Option Nat)(m8:Array MapEntry)(c9:Nat)(p10:Option Nat)(m11:Array MapEntry)(c12:Nat)(p13:Option Addr)(c14:Nat)(p15:Option Addr)(c16:Nat)(b17:Nat)(hB:SB Ms κ0 w0 [.box b17 151 [si a1.dc,(1,[pt b2 0]),(1,[pt b6 0]),sm p10,sl p13 (a1.owned).length c14,sl p15 (a1.modes).length c16],.box b2 130 [sm p3,su a1.store.floor],mx p3 m4 c5,.box b6 174 [su a1.part.clock,sm p7],mx p7 m8 c9,mx p10 m11 c12] [Map.mp kStr false (tSl f_api_Ver.ty) p3 m4 c5 a1.store.chains,Map.mp (kInt .u64) false (fInt .u64).ty p7 m8 c9 a1.part.open_,Map.mp (kInt .u64) false (tSl f_api_Ver.ty) p10 m11 c12 a1.writes,Ro.mp f_span_Shard.ty p13 c14 a1.owned,Ro.mp (fInt .u64).ty p15 c16 a1.modes]){r:(Unit)}(H:M.node_Node_Versions N a1 a18 a19=some r) :
    Calls Try.prog 103 #[pt b17 0,.string (a18),.string (a19)] w0 (Post Ms κ0 w0 fun v κ w => ∃(b28 b29 b30:Nat),v = .func (.func 79) #[] #[pt b28 0,pt b29 0,pt b30 0]∧SS Ms κ0 w0 κ w [.box b17 151 [si a1.dc,(1,[pt b2 0]),(1,[pt b6 0]),sm p10,sl p13 (a1.owned).length c14,sl p15 (a1.modes).length c16],.box b2 130 [sm p3,su a1.store.floor],mx p3 m4 c5,.box b6 174 [su a1.part.clock,sm p7],mx p7 m8 c9,mx p10 m11 c12,.box b28 55 [(1,[pt b2 0])],.box b29 9 [sg a18],.box b30 9 [sg a19]] []):=by
 have hS:=hB.hS
 have hfr:=hS.fresh
 refine en Try.func103 rfl Try.ntmps103 fun a hF=>?_
 unfold M.node_Node_Versions at H
 refine qr fun _ h20=>(wp 1 [0,1,2] hF fun a hF=>(h20 _ _ (qs fun _ h21=>qr fun _ h22=>(wp 2 [0,1,2,8] hF fun a hF=>(h22 _ _ (cf hF rfl (sk (h21 _ _ (qr fun _ h23=>(wp 3 [1,2,14] hF fun a hF=>wc (wld hF hS 0 1 0 fun a hF=>wp 2 [15,16,17] hF fun a hF=>bd H fun x24 hx24 H=>wc (wcS 2 [1,2,0,3,4,5] hF hS (fun hS=>C_store_Store_All N (T_store_Store.mk a1.store.chains a1.store.floor) a18 a19 p3 m4 c5 b2 ⟨rfl,hS.pick [0] kr⟩ hx24) ?_))))))))))))
 rintro _ κ w a ⟨b25,b26,b27,rfl,h2⟩ hF hB
 have hS:=hB _ _ h2
 refine wp 1 [6] hF fun a hF=>(h23 _ _ (rt ?_))
 cases H
 exact ret_done hF hS (res1 Try.results103 (rvt hF)) ⟨b25,b26,b27,rfl,hS.sp [5,0,1,6,7,8,2,3,4] []⟩
theorem C_node_Node_Mode (N:Nat){Ms:List Nat}{κ0:Gh}{w0:World}(a1:T_node_Node)(a18:Int)(b2:Nat)(p3:Option Nat)(m4:Array MapEntry)(c5:Nat)(b6:Nat)(p7:Option Nat)(m8:Array MapEntry)(c9:Nat)(p10:Option Nat)(m11:Array MapEntry)(c12:Nat)(p13:Option Addr)(c14:Nat)(p15:Option Addr)(c16:Nat)(b17:Nat)(hB:SB Ms κ0 w0 [.box b17 151 [si a1.dc,(1,[pt b2 0]),(1,[pt b6 0]),sm p10,sl p13 (a1.owned).length c14,sl p15 (a1.modes).length c16],.box b2 130 [sm p3,su a1.store.floor],mx p3 m4 c5,.box b6 174 [su a1.part.clock,sm p7],mx p7 m8 c9,mx p10 m11 c12] [Map.mp kStr false (tSl f_api_Ver.ty) p3 m4 c5 a1.store.chains,Map.mp (kInt .u64) false (fInt .u64).ty p7 m8 c9 a1.part.open_,Map.mp (kInt .u64) false (tSl f_api_Ver.ty) p10 m11 c12 a1.writes,Ro.mp f_span_Shard.ty p13 c14 a1.owned,Ro.mp (fInt .u64).ty p15 c16 a1.modes]){r:(Int)}(H:M.node_Node_Mode N a1 a18=some r) :
    Calls Try.prog 67 #[pt b17 0,vi a18] w0 (Post Ms κ0 w0 fun v κ w=>v=vi r∧SS Ms κ0 w0 κ w [.box b17 151 [si a1.dc,(1,[pt b2 0]),(1,[pt b6 0]),sm p10,sl p13 (a1.owned).length c14,sl p15 (a1.modes).length c16],.box b2 130 [sm p3,su a1.store.floor],mx p3 m4 c5,.box b6 174 [su a1.part.clock,sm p7],mx p7 m8 c9,mx p10 m11 c12] []):=by
 have hS:=hB.hS
 have hfr:=hS.fresh
 refine en Try.func67 rfl Try.ntmps67 fun a hF=>?_
 unfold M.node_Node_Mode at H
 refine qr fun _ h19=>(wp 1 [0,1] hF fun a hF=>(h19 _ _ (qs fun _ h20=>qr fun _ h21=>(bd H fun v23 hv23 H=>wl_join (fun a w => ∃κ:Gh,Fr (30) [] [(0,pt b17 0),(1,vi a18),(20,vb v23)] a∧SS Ms κ0 w0 κ w [.box b17 151 [si a1.dc,(1,[pt b2 0]),(1,[pt b6 0]),sm p10,sl p13 (a1.owned).length c14,sl p15 (a1.modes).length c16],.box b2 130 [sm p3,su a1.store.floor],.box b6 174 [su a1.part.clock,sm p7],mx p3 m4 c5,mx p7 m8 c9,mx p10 m11 c12] [Map.mp kStr false (tSl f_api_Ver.ty) p3 m4 c5 a1.store.chains,Map.mp (kInt .u64) false (fInt .u64).ty p7 m8 c9 a1.part.open_,Map.mp (kInt .u64) false (tSl f_api_Ver.ty) p10 m11 c12 a1.writes,Ro.mp f_span_Shard.ty p13 c14 a1.owned,Ro.mp (fInt .u64).ty p15 c16 a1.modes]∧True) ?_ ?_))))
 refine wp 7 [0,1,11] hF fun a hF=>bs hv23 (fun hb hv23=>?_) fun hb hv23=>?_
 have hF:=hF.bv 11 hb
 refine wp 9 [0,1,20] hF fun a hF=>nl ?_
 cases hv23
 exact ⟨_,hF.kp [0,1,20],hS.sp [0,1,3,2,4,5] (rg 5),trivial⟩
 have hF:=hF.bv 11 hb
 refine wp 4 [0,1,11,12,15] hF fun a hF=>wcg hF (wld hF hS 0 5 0 fun a hF=>wp 4 [0,1,20] hF fun a hF=>nl ?_)
 cases hv23
 exact ⟨_,hF.kp [0,1,20],hS.sp [0,1,3,2,4,5] (rg 5),trivial⟩
 rintro a w ⟨κ,hF,hS,-⟩
 refine h21 _ _ (bc hF H (fun hb H=>?_) fun hb H=>?_)
 refine qr fun _ h24=>(wp 1 [4] hF fun a hF=>(h24 _ _ (rt ?_)))
 cases H
 exact ret_done hF hS (res1 Try.results67 (rvt hF)) ⟨rfl,hS.sp [0,1,3,2,4,5] []⟩
 refine sk (h20 _ _ (qr fun _ h25=>(wp 3 [1,23] hF fun a hF=>wc (wld hF hS 0 5 0 fun a hF=>wl_pure (L':=[(24,.slice p15 (a1.modes).length c16),(26,vi (IntKind.i64.wrap (a18+1)))]) 2 [24,26] hF kr fun a hF=>bd H fun x26 hx26 H=>wc (wo_index hF hS kr 4 (E:=25) (sz:=1) rfl rfl rfl kr rfl hx26 kr kr fun b27 f28 a hpx26 hF=>wc (wo_loadRo (t:=(fInt .u64)) hF hS kr 4 0 (v:=vu x26) rfl rfl hpx26 rfl hx26 kr kr kr fun a hF=>wp 2 [4] hF fun a hF=>(h25 _ _ (rt ?_))))))))
 cases H
 exact ret_done hF hS (res1 Try.results67 (rvt hF)) ⟨rfl,hS.sp [0,1,3,2,4,5] []⟩
theorem C_law20_awake (N:Nat){κ0:Gh}{w0:World}(hfr:Fresh κ0 w0)(hR : ∀m∈([]:List MP),m.p κ0 w0){r:(Bool)}(H:M.law20_awake N=some r) :
    Calls Try.prog 64 #[] w0 (Post [] κ0 w0 fun v κ w=>v=vb r∧(∀m∈([]:List MP),m.p κ w)∧NewC w0 κ w []):=by
 have hS:=SS.start hfr hR
 refine en Try.func64 rfl Try.ntmps64 fun a hF=>?_
 unfold M.law20_awake at H
 refine qr fun _ h1=>(wp 1 [] hF fun a hF=>(h1 _ _ (qs fun _ hz=>rl (bd H fun x3 hx3 H=>wc (wcS 0 [] hF hS (fun hS=>C_node_New N 0 ⟨rfl,hS.pick [] kr⟩ hx3) ?_)))))
 rintro _ κ w a ⟨b4,b5,p6,m7,c8,b9,p10,m11,c12,p13,m14,c15,p16,c17,p18,c19,rfl,h2⟩ hF hB
 have hS:=hB _ _ h2
 refine wp 1 [1] hF fun a hF=>nl (hz _ _ (qs fun _ h20=>qr fun _ h21=>(wp 2 [1,6] hF fun a hF=>(h21 _ _ (cf hF rfl (sk (h20 _ _ (qr fun _ h22=>(wp 2 [1,7,8] hF fun a hF=>?_)))))))))
 have hS:=hS.add (m:=Ro.mp f_api_Ver.ty none 0 ([]:List T_api_Ver)) (Ro.nil f_api_Ver.ty _ _)
 have hS:=hS.add (m:=Ro.mp (fInt .u64).ty none 0 ([]:List Int)) (Ro.nil (fInt .u64).ty _ _)
 refine bd H fun x23 hx23 H=>wc (wcS 8 [0,6,7,1,2,3,4,5] hF hS (fun hS=>C_node_Node_Take N (T_node_Node.mk x3.dc (T_store_Store.mk x3.store.chains x3.store.floor) (T_part_Part.mk x3.part.clock x3.part.open_) x3.writes x3.owned x3.modes) (T_api_Msg.mk 6 0 0 0 ByteArray.empty ByteArray.empty ([]:List T_api_Ver) ([]:List Int) (T_api_Cmd.mk 0 0 0 0 0 ByteArray.empty)) 0 b5 p6 m7 c8 b9 p10 m11 c12 p13 m14 c15 p16 c17 p18 c19 none 0 none 0 b4 ⟨rfl,hS.pick [2,3,4,5,6,1,0] kr⟩ hx23) ?_)
 rintro _ κ w a ⟨p24,c25,p26,c27,b28,p29,m30,c31,b32,p33,m34,c35,p36,m37,c38,p39,c40,p41,c42,rfl,h2⟩ hF hB
 have hS:=(hB _ _ h2).cC (C':=[.box b4 151 [si x23.2.2.dc,(1,[pt b28 0]),(1,[pt b32 0]),sm p36,sl p39 (x23.2.2.owned).length c40,sl p41 (x23.2.2.modes).length c42],.tok p39 157 3 (x23.2.2.owned).length c40,.tok p41 25 1 (x23.2.2.modes).length c42,.box b28 130 [sm p29,su x23.2.2.store.floor],mx p29 m30 c31,.box b32 174 [su x23.2.2.part.clock,sm p33],mx p33 m34 c35,mx p36 m37 c38,.tok p24 37 6 (x23.1.Vers).length c25,.tok p26 25 1 (x23.1.Vec).length c27])
 refine h22 _ _ (qr fun _ h43=>(wl_pure (L':=[(11,pt b4 0),(12,.agg (flat [sg (ByteArray.mk #[97]),sg (ByteArray.mk #[120]),sb false,su 0,si 0,si 0]).toArray)]) 2 [11,12] hF kr fun a hF=>wc (wo_buildN (t:=f_api_Ver) (z := .agg (flat [sg ByteArray.empty,sg ByteArray.empty,sb false,su 0,si 0,si 0]).toArray) (l:=[(T_api_Ver.mk (ByteArray.mk #[97]) (ByteArray.mk #[120]) false 0 0 0)]) (vs:=[(0,.agg (flat [sg (ByteArray.mk #[97]),sg (ByteArray.mk #[120]),sb false,su 0,si 0,si 0]).toArray)]) (cells := #[.string ((ByteArray.mk #[97])),.string ((ByteArray.mk #[120])),vb false,vu 0,vi 0,vi 0]) (E:=37) hF hS kr rfl kr kr rfl kr kr kr kr kr fun p44 κ a w hF hS=>?_)))
 refine wp 1 [11,14] hF fun a hF=>bd H fun x45 hx45 H=>wc (wcS 8 [1,2,3,4,5,6,7,8,0,9,10] hF hS (fun hS=>C_node_Node_Take N (T_node_Node.mk x23.2.2.dc (T_store_Store.mk x23.2.2.store.chains x23.2.2.store.floor) (T_part_Part.mk x23.2.2.part.clock x23.2.2.part.open_) x23.2.2.writes x23.2.2.owned x23.2.2.modes) (T_api_Msg.mk 1 7 0 5 ByteArray.empty ByteArray.empty [(T_api_Ver.mk (ByteArray.mk #[97]) (ByteArray.mk #[120]) false 0 0 0)] ([]:List Int) (T_api_Cmd.mk 0 0 0 0 0 ByteArray.empty)) 0 b28 p29 m30 c31 b32 p33 m34 c35 p36 m37 c38 p39 c40 p41 c42 p44 1 none 0 b4 ⟨rfl,hS.pick [3,4,5,6,7,0,8] kr⟩ hx45) ?_)
 rintro _ κ w a ⟨p46,c47,p48,c49,b50,p51,m52,c53,b54,p55,m56,c57,p58,m59,c60,p61,c62,p63,c64,rfl,h2⟩ hF hB
 have hS:=hB _ _ h2
 refine wp 3 [16,17] hF fun a hF=>wc (wal hF hS [si 0,su 0,su 0,su 0,sg ByteArray.empty,sg ByteArray.empty,sl none 0 0,sl none 0 0,si 0,si 0,si 0,si 0,si 0,sg ByteArray.empty] (sgN 14 sgNil) fun b65 a w hF hS=>wc (wst hF hS 0 0 14 [si x45.1.Kind,su x45.1.Id,su x45.1.N,su x45.1.TS,sg x45.1.Lo,sg x45.1.Hi,sl p46 (x45.1.Vers).length c47,sl p48 (x45.1.Vec).length c49,si x45.1.Cmd.Kind,si x45.1.Cmd.DC,si x45.1.Cmd.Shard,si x45.1.Cmd.Node,si x45.1.Cmd.Mode,sg x45.1.Cmd.Key] (sgN 14 sgNil) fun a w hF hS=>?_))
 refine wp 1 [2,3] hF fun a hF=>(h43 _ _ (qr fun _ h66=>(bd H fun v68 hv68 H=>wl_join (fun a w => ∃κ:Gh,Fr (34) [] [(0,vb v68)] a∧SS [] κ0 w0 κ w [] []∧True) ?_ ?_)))
 refine wp 2 [2,19] hF fun a hF=>bs hv68 (fun hb hv68=>?_) fun hb hv68=>?_
 have hF:=hF.bv 19 hb
 refine wp 1 [2,19,20] hF fun a hF=>wcg hF (wld hF hS 0 0 0 fun a hF=>wp 3 [2,24] hF fun a hF=>bs hv68 (fun hb hv68=>?_) fun hb hv68=>?_)
 have hF:=hF.bv 24 hb
 refine wp 1 [2,24,25] hF fun a hF=>wcg hF (wld hF hS 0 1 0 fun a hF=>wp 3 [2,29] hF fun a hF=>bs hv68 (fun hb hv68=>?_) fun hb hv68=>?_)
 have hF:=hF.bv 29 hb
 refine wp 1 [29,30] hF fun a hF=>wcg hF (wld hF hS 0 3 0 fun a hF=>wp 3 [0] hF fun a hF=>nl ?_)
 cases hv68
 exact ⟨_,hF.kp [0],hS.sp [] [],trivial⟩
 have hF:=hF.bv 29 hb
 refine wp 5 [0] hF fun a hF=>nl ?_
 cases hv68
 exact ⟨_,hF.kp [0],hS.sp [] [],trivial⟩
 have hF:=hF.bv 24 hb
 refine wp 10 [0] hF fun a hF=>nl ?_
 cases hv68
 exact ⟨_,hF.kp [0],hS.sp [] [],trivial⟩
 have hF:=hF.bv 19 hb
 refine wp 15 [0] hF fun a hF=>nl ?_
 cases hv68
 exact ⟨_,hF.kp [0],hS.sp [] [],trivial⟩
 rintro a w ⟨κ,hF,hS,-⟩
 refine h66 _ _ (rt ?_)
 cases H
 exact (ret_done hF hS (res1 Try.results64 (rvt hF)) ⟨rfl,(hS.pick [] kr).ro,hS.newC [] dc kr⟩)
theorem C_law20_all (N:Nat){Ms:List Nat}{κ0:Gh}{w0:World}(a1:T_node_Node)(a18:ByteArray)(a19:ByteArray)(b2:Nat)(p3:Option Nat)(m4:Array MapEntry)(c5:Nat)(b6:Nat)(p7:Option Nat)(m8:Array MapEntry)(c9:Nat)(p10:Option Nat)(m11:Array MapEntry)(c12:Nat)(p13:Option Addr)(c14:Nat)(p15:Option Addr)(c16:Nat)(b17:Nat)(hB:SB Ms κ0 w0 [.box b17 151 [si a1.dc,(1,[pt b2 0]),(1,[pt b6 0]),sm p10,sl p13 (a1.owned).length c14,sl p15 (a1.modes).length c16],.box b2 130 [sm p3,su a1.store.floor],mx p3 m4 c5,.box b6 174 [su a1.part.clock,sm p7],mx p7 m8 c9,mx p10 m11 c12] [Map.mp kStr false (tSl f_api_Ver.ty) p3 m4 c5 a1.store.chains,Map.mp (kInt .u64) false (fInt .u64).ty p7 m8 c9 a1.part.open_,Map.mp (kInt .u64) false (tSl f_api_Ver.ty) p10 m11 c12 a1.writes,Ro.mp f_span_Shard.ty p13 c14 a1.owned,Ro.mp (fInt .u64).ty p15 c16 a1.modes]){r:((List T_api_Ver))}(H:M.law20_all N a1 a18 a19=some r) :
    Calls Try.prog 66 #[pt b17 0,.string (a18),.string (a19)] w0 (Post Ms κ0 w0 fun v κ w => ∃(p92:Option Addr) (c93:Nat),v = .slice p92 r.length c93∧SS Ms κ0 w0 κ w [.box b17 151 [si a1.dc,(1,[pt b2 0]),(1,[pt b6 0]),sm p10,sl p13 (a1.owned).length c14,sl p15 (a1.modes).length c16],.box b2 130 [sm p3,su a1.store.floor],mx p3 m4 c5,.box b6 174 [su a1.part.clock,sm p7],mx p7 m8 c9,mx p10 m11 c12,.tok p92 37 6 r.length c93] [Ro.mp f_api_Ver.ty p92 c93 r]):=by
 have hS:=hB.hS
 have hfr:=hS.fresh
 refine enterM (N:=(19)) (L:=[(0,pt b17 0),(1,.string (a18)),(2,.string (a19))]) Try.func66 rfl Try.ntmps66 (show 3≤(19) by decide) rfl fun a hF=>?_
 unfold M.law20_all at H
 refine qr fun _ h20=>(wp 1 [0,1,2] hF fun a hF=>(h20 _ _ (qr fun _ h21=>(wc (wal hF hS [sl none 0 0] (sgN 1 sgNil) fun b22 a w hF hS=>(h21 _ _ (qs fun _ h23=>qr fun _ h24=>(wl_pure (L':=[(7,pt b22 0),(9,pt b17 0),(10,.string (a18)),(11,.string (a19))]) 3 [7,9,10,11] hF kr fun a hF=>bd H fun x25 hx25 H=>wc (wcS 6 [1,2,3,4,5,6,0] hF hS (fun hS=>C_node_Node_Versions N (T_node_Node.mk a1.dc (T_store_Store.mk a1.store.chains a1.store.floor) (T_part_Part.mk a1.part.clock a1.part.open_) a1.writes a1.owned a1.modes) a18 a19 b2 p3 m4 c5 b6 p7 m8 c9 p10 m11 c12 p13 c14 p15 c16 b17 ⟨rfl,hS.pick (rg 5) kr⟩ hx25) ?_)))))))))
 rintro _ κ w a ⟨b26,b27,b28,rfl,h2⟩ hF hB
 have hS:=hB _ _ h2
 refine h24 _ _ (bk (bd H fun v90 hv90 H=>?_))
 have hS:=hS.add (m:=Ro.mp f_api_Ver.ty none 0 ([]:List T_api_Ver)) (Ro.nil f_api_Ver.ty _ _)
 have hS:=hS.addNil 37 6
 have hS:SS Ms κ0 w0 _ _ [.box b17 151 [si a1.dc,(1,[pt b2 0]),(1,[pt b6 0]),sm p10,sl p13 (a1.owned).length c14,sl p15 (a1.modes).length c16],.box b6 174 [su a1.part.clock,sm p7],.box b22 39 [sl none 0 0],.tok none 37 6 0 0,mx p7 m8 c9,mx p10 m11 c12,.box b26 55 [(1,[pt b2 0])],.box b27 9 [sg a18],.box b28 9 [sg a19],.box b2 130 [sm p3,su a1.store.floor],mx p3 m4 c5] _:=hS.selp [1,4,10,0,5,6,7,8,9,2,3] dc kr
 refine wp_rangeC' (C:=[.box b17 151 [si a1.dc,(1,[pt b2 0]),(1,[pt b6 0]),sm p10,sl p13 (a1.owned).length c14,sl p15 (a1.modes).length c16],.box b6 174 [su a1.part.clock,sm p7],.box b22 39 [sl none 0 0],.tok none 37 6 0 0,mx p7 m8 c9,mx p10 m11 c12]) (Cap:=[.box b26 55 [(1,[pt b2 0])],.box b27 9 [sg a18],.box b28 9 [sg a19],.box b2 130 [sm p3,su a1.store.floor],mx p3 m4 c5]) (Cap2:=[.box b26 55 [(1,[pt b2 0])],.box b27 9 [sg a18],.box b28 9 [sg a19],.box b2 130 [sm p3,su a1.store.floor],mx p3 m4 c5]) (Rc:=[Map.mp kStr false (tSl f_api_Ver.ty) p3 m4 c5 a1.store.chains]) (R':=[Map.mp kStr false (tSl f_api_Ver.ty) p3 m4 c5 a1.store.chains,Map.mp (kInt .u64) false (fInt .u64).ty p7 m8 c9 a1.part.open_,Map.mp (kInt .u64) false (tSl f_api_Ver.ty) p10 m11 c12 a1.writes,Ro.mp f_span_Shard.ty p13 c14 a1.owned,Ro.mp (fInt .u64).ty p15 c16 a1.modes,Ro.mp f_api_Ver.ty none 0 ([]:List T_api_Ver)]) (caps := #[pt b26 0,pt b27 0,pt b28 0]) (f:=79) [] (fun l => #[.func (.yield l) #[] #[],pt b26 0,pt b27 0,pt b28 0]) hF hS kr (fun _ _=>rfl) ((hS.pick [1,2,3,4,5,0] kr).ro) (fun l=>by kernel_rfl) fun b29 l rc w hrc hS=>?_
 refine ⟨fun x=>(fun (v84:((List T_api_Ver)×Nat)) (x:XF) => ∃(p82:Option Addr) (c83:Nat),x=mkX b29 l (lp rc [] v84.2) [.box b17 151 [si a1.dc,(1,[pt b2 0]),(1,[pt b6 0]),sm p10,sl p13 (a1.owned).length c14,sl p15 (a1.modes).length c16],.box b6 174 [su a1.part.clock,sm p7],.box b22 39 [sl p82 (v84.1).length c83],.tok p82 37 6 (v84.1).length c83,mx p7 m8 c9,mx p10 m11 c12] [Map.mp kStr false (tSl f_api_Ver.ty) p3 m4 c5 a1.store.chains,Map.mp (kInt .u64) false (fInt .u64).ty p7 m8 c9 a1.part.open_,Map.mp (kInt .u64) false (tSl f_api_Ver.ty) p10 m11 c12 a1.writes,Ro.mp f_span_Shard.ty p13 c14 a1.owned,Ro.mp (fInt .u64).ty p15 c16 a1.modes,Ro.mp f_api_Ver.ty p82 c83 v84.1]) v90 x,?_,?_⟩
 have hS:=(hS.rebase.add (m:=MP.const ((fun (v84:((List T_api_Ver)×Nat)) (x:XF) => ∃(p82:Option Addr) (c83:Nat),x=mkX b29 l (lp rc [] v84.2) [.box b17 151 [si a1.dc,(1,[pt b2 0]),(1,[pt b6 0]),sm p10,sl p13 (a1.owned).length c14,sl p15 (a1.modes).length c16],.box b6 174 [su a1.part.clock,sm p7],.box b22 39 [sl p82 (v84.1).length c83],.tok p82 37 6 (v84.1).length c83,mx p7 m8 c9,mx p10 m11 c12] [Map.mp kStr false (tSl f_api_Ver.ty) p3 m4 c5 a1.store.chains,Map.mp (kInt .u64) false (fInt .u64).ty p7 m8 c9 a1.part.open_,Map.mp (kInt .u64) false (tSl f_api_Ver.ty) p10 m11 c12 a1.writes,Ro.mp f_span_Shard.ty p13 c14 a1.owned,Ro.mp (fInt .u64).ty p15 c16 a1.modes,Ro.mp f_api_Ver.ty p82 c83 v84.1]) (([]:List T_api_Ver),0) (mkX b29 l (lp rc [] 0) [.box b17 151 [si a1.dc,(1,[pt b2 0]),(1,[pt b6 0]),sm p10,sl p13 (a1.owned).length c14,sl p15 (a1.modes).length c16],.box b6 174 [su a1.part.clock,sm p7],.box b22 39 [sl none 0 0],.tok none 37 6 0 0,mx p7 m8 c9,mx p10 m11 c12] [Map.mp kStr false (tSl f_api_Ver.ty) p3 m4 c5 a1.store.chains,Map.mp (kInt .u64) false (fInt .u64).ty p7 m8 c9 a1.part.open_,Map.mp (kInt .u64) false (tSl f_api_Ver.ty) p10 m11 c12 a1.writes,Ro.mp f_span_Shard.ty p13 c14 a1.owned,Ro.mp (fInt .u64).ty p15 c16 a1.modes,Ro.mp f_api_Ver.ty none 0 ([]:List T_api_Ver)]))) ⟨none,0,rfl⟩).pick (R':=[Map.mp kStr false (tSl f_api_Ver.ty) p3 m4 c5 a1.store.chains,MP.const ((fun (v84:((List T_api_Ver)×Nat)) (x:XF) => ∃(p82:Option Addr) (c83:Nat),x=mkX b29 l (lp rc [] v84.2) [.box b17 151 [si a1.dc,(1,[pt b2 0]),(1,[pt b6 0]),sm p10,sl p13 (a1.owned).length c14,sl p15 (a1.modes).length c16],.box b6 174 [su a1.part.clock,sm p7],.box b22 39 [sl p82 (v84.1).length c83],.tok p82 37 6 (v84.1).length c83,mx p7 m8 c9,mx p10 m11 c12] [Map.mp kStr false (tSl f_api_Ver.ty) p3 m4 c5 a1.store.chains,Map.mp (kInt .u64) false (fInt .u64).ty p7 m8 c9 a1.part.open_,Map.mp (kInt .u64) false (tSl f_api_Ver.ty) p10 m11 c12 a1.writes,Ro.mp f_span_Shard.ty p13 c14 a1.owned,Ro.mp (fInt .u64).ty p15 c16 a1.modes,Ro.mp f_api_Ver.ty p82 c83 v84.1]) (([]:List T_api_Ver),0) (mkX b29 l (lp rc [] 0) [.box b17 151 [si a1.dc,(1,[pt b2 0]),(1,[pt b6 0]),sm p10,sl p13 (a1.owned).length c14,sl p15 (a1.modes).length c16],.box b6 174 [su a1.part.clock,sm p7],.box b22 39 [sl none 0 0],.tok none 37 6 0 0,mx p7 m8 c9,mx p10 m11 c12] [Map.mp kStr false (tSl f_api_Ver.ty) p3 m4 c5 a1.store.chains,Map.mp (kInt .u64) false (fInt .u64).ty p7 m8 c9 a1.part.open_,Map.mp (kInt .u64) false (tSl f_api_Ver.ty) p10 m11 c12 a1.writes,Ro.mp f_span_Shard.ty p13 c14 a1.owned,Ro.mp (fInt .u64).ty p15 c16 a1.modes,Ro.mp f_api_Ver.ty none 0 ([]:List T_api_Ver)]))]) [2,0] kr
 refine C_store_Store_All_1 N (Y:=(fun (v84:((List T_api_Ver)×Nat)) (x:XF) => ∃(p82:Option Addr) (c83:Nat),x=mkX b29 l (lp rc [] v84.2) [.box b17 151 [si a1.dc,(1,[pt b2 0]),(1,[pt b6 0]),sm p10,sl p13 (a1.owned).length c14,sl p15 (a1.modes).length c16],.box b6 174 [su a1.part.clock,sm p7],.box b22 39 [sl p82 (v84.1).length c83],.tok p82 37 6 (v84.1).length c83,mx p7 m8 c9,mx p10 m11 c12] [Map.mp kStr false (tSl f_api_Ver.ty) p3 m4 c5 a1.store.chains,Map.mp (kInt .u64) false (fInt .u64).ty p7 m8 c9 a1.part.open_,Map.mp (kInt .u64) false (tSl f_api_Ver.ty) p10 m11 c12 a1.writes,Ro.mp f_span_Shard.ty p13 c14 a1.owned,Ro.mp (fInt .u64).ty p15 c16 a1.modes,Ro.mp f_api_Ver.ty p82 c83 v84.1])) (B:=(fun (v84:((List T_api_Ver)×Nat)) x30=>bif (v84.2==0) then (Option.bind (apd v84.1 [(T_api_Ver.mk x30.Key x30.Val x30.Gone x30.TS x30.DC x30.Tx)]) fun x87=>(some (((x87,0)),true))) else none)) (l:=l) ?_ (T_store_Store.mk a1.store.chains a1.store.floor) a18 a19 b2 p3 m4 c5 hS hv90
 rintro v84 _ κ w x30 s' c ⟨p82,c83,rfl⟩ hp hf hnd hlt hR H
 refine bif_split H (fun hn H=>?_) (fun _ H=>by cases H)
 refine round_at (L:=[(7,pt b22 0),(13,.agg (flat [sg x30.Key,sg x30.Val,sb x30.Gone,su x30.TS,si x30.DC,si x30.Tx]).toArray)]) hp hf hnd hlt hn hrc rfl [7,13] hF kr kr fun a hF hS=>?_
 have hS:=hS.adds hR
 skip
 refine rl (wc (wal hF hS [sg ByteArray.empty,sg ByteArray.empty,sb false,su 0,si 0,si 0] (sgN 6 sgNil) fun b85 a w hF hS=>wc (wst hF hS 0 0 6 [sg x30.Key,sg x30.Val,sb x30.Gone,su x30.TS,si x30.DC,si x30.Tx] (sgN 6 sgNil) fun a w hF hS=>nl (⟨_,_,_,hS,fun wb hS=>?_⟩))))
 obtain ⟨κb,hκb⟩ : ∃κb,κb=κ:=⟨_,rfl⟩
 subst hκb
 refine bk (rl (wc (wld hF hS 3 0 0 fun a hF=>wc (wls hF hS 0 0 6 fun a hF=>wc (wo_buildN (t:=f_api_Ver) (z := .agg (flat [sg ByteArray.empty,sg ByteArray.empty,sb false,su 0,si 0,si 0]).toArray) (l:=[(T_api_Ver.mk x30.Key x30.Val x30.Gone x30.TS x30.DC x30.Tx)]) (vs:=[(0,.agg (flat [sg x30.Key,sg x30.Val,sb x30.Gone,su x30.TS,si x30.DC,si x30.Tx]).toArray)]) (cells := #[.string (x30.Key),.string (x30.Val),vb x30.Gone,vu x30.TS,vi x30.DC,vi x30.Tx]) (E:=37) hF hS kr rfl kr kr rfl kr kr kr kr kr fun p86 κ a w hF hS=>?_)))))
 refine bd H fun x87 hx87 H=>wc (wo_append (ty:=f_api_Ver.ty) hF hS kr 5 6 0 rfl rfl rfl kr kr rfl rfl rfl hx87 kr (i:=Try.t37) (z := .agg (flat [sg ByteArray.empty,sg ByteArray.empty,sb false,su 0,si 0,si 0]).toArray) kr kr kr fun p88 c89 κ a w hF hS=>wc (wst hF hS 4 0 1 [sl p88 x87.length c89] (sgN 1 sgNil) fun a w hF hS=>nl ?_))
 cases H
 try dsimp only [Exit.inBlock,Exit.then]
 repeat rw [if_neg dc]
 refine re_normal [] (C:=[.box b17 151 [si a1.dc,(1,[pt b2 0]),(1,[pt b6 0]),sm p10,sl p13 (a1.owned).length c14,sl p15 (a1.modes).length c16],.box b6 174 [su a1.part.clock,sm p7],.box b22 39 [sl p88 x87.length c89],.tok p88 37 6 x87.length c89,mx p7 m8 c9,mx p10 m11 c12]) (R:=[Map.mp kStr false (tSl f_api_Ver.ty) p3 m4 c5 a1.store.chains,Map.mp (kInt .u64) false (fInt .u64).ty p7 m8 c9 a1.part.open_,Map.mp (kInt .u64) false (tSl f_api_Ver.ty) p10 m11 c12 a1.writes,Ro.mp f_span_Shard.ty p13 c14 a1.owned,Ro.mp (fInt .u64).ty p15 c16 a1.modes,Ro.mp f_api_Ver.ty p88 c89 x87]) (hS.sp (ra 2 6) [2,3,4,5,6,0]) ?_
 exact ⟨p88,c89,rfl⟩
 rintro _ ⟨p82,c83,rfl⟩
 refine ⟨_,_,_,rfl,fun κ w a hF hS=>?_⟩
 refine bs H (fun hb H=>?_) fun hb H=>?_
 refine jumped0 hb (h23 _ _ (qr fun _ h91=>(wc (wld hF hS 3 0 0 fun a hF=>wl_pure (L':=[(6,.slice p82 (v90.1).length c83)]) 1 [6] hF kr fun a hF=>(h91 _ _ (rt (ret_doneM (C':=[.box b17 151 [si a1.dc,(1,[pt b2 0]),(1,[pt b6 0]),sm p10,sl p13 (a1.owned).length c14,sl p15 (a1.modes).length c16],.box b6 174 [su a1.part.clock,sm p7],.box b22 39 [sl p82 (v90.1).length c83],.tok p82 37 6 (v90.1).length c83,mx p7 m8 c9,mx p10 m11 c12,.box b26 55 [(1,[pt b2 0])],.box b27 9 [sg a18],.box b28 9 [sg a19],.box b2 130 [sm p3,su a1.store.floor],mx p3 m4 c5]) hF hS 0 rfl kr fun w hS=>?_)))))))
 cases H
 exact ⟨_,(res1 Try.results66 (rvt hF)),⟨p82,c83,rfl,hS.sp [0,9,10,1,4,5,3] [5]⟩⟩
 cases H
end Go.Cf
