/- The walks: each function returns what its model says. Printed by a program of ours. -/
import Derived.Test.YtgpgcfgejggolaaGreatDoorZM1
import Derived.Test.YtgpgcfgejggolaaGreatDoorZWn1
import Derived.Test.YtgpgcfgejggolaaGreatDoorZWn2
namespace Go.Cf
open Go Go.Proofs
set_option linter.unusedVariables false
set_option maxRecDepth 20000
set_option maxHeartbeats 8000000
theorem C_node_Node_Take_vtN (N:Nat){Ms:List Nat}{κ0:Gh}{w0:World}(a1:T_node_Node)(a18:T_api_Msg)(a23:Int)(b2:Nat)(p3:Option Nat)(m4:Array MapEntry)(c5:Nat)(b6:Nat)(p7:Option Nat)(m8:Array MapEntry)(c9:Nat)(p10:Option Nat)(m11:Array MapEntry)(c12:Nat)(p13:Option Addr)(c14:Nat)(p15:Option Addr)(c16:Nat)(p19:Option Addr)(c20:Nat)(p21:Option Addr)(c22:Nat)(b17:Nat)(hB:SB Ms κ0 w0 [.box b17 193 [si a1.dc,(1,[pt b2 0]),(1,[pt b6 0]),sm p10,sl p13 (a1.owned).length c14,sl p15 (a1.modes).length c16],.tok p13 150 3 (a1.owned).length c14,.tok p15 56 1 (a1.modes).length c16,.box b2 293 [sm p3,su a1.store.floor],mx p3 m4 c5,.box b6 296 [su a1.part.clock,sm p7],mx p7 m8 c9,mx p10 m11 c12] [Map.mp kStr false (tSl f_api_Ver.ty) p3 m4 c5 a1.store.chains,Map.mp (kInt .u64) false (fInt .u64).ty p7 m8 c9 a1.part.open_,Map.mp (kInt .u64) false (tSl f_api_Ver.ty) p10 m11 c12 a1.writes,Ro.mp f_span_Shard.ty p13 c14 a1.owned,Ro.mp (fInt .u64).ty p15 c16 a1.modes,Ro.mp f_api_Ver.ty p19 c20 a18.Vers,Ro.mp (fInt .u64).ty p21 c22 a18.Vec]){r:(T_api_Msg×Bool×T_node_Node)}(H:M.node_Node_Take_vtN N a1 a18 a23=some r) :
    Calls Tryz.prog 33 #[pt b17 0,.agg (flat [si a18.Kind,su a18.Id,su a18.N,su a18.TS,sg a18.Lo,sg a18.Hi,sl p19 (a18.Vers).length c20,sl p21 (a18.Vec).length c22,si a18.Cmd.Kind,si a18.Cmd.DC,si a18.Cmd.Shard,si a18.Cmd.Node,si a18.Cmd.Mode,sg a18.Cmd.Key]).toArray,vi a23] w0 (Post Ms κ0 w0 fun v κ w => ∃(p94:Option Addr) (c95:Nat) (p96:Option Addr) (c97 b98:Nat) (p99:Option Nat) (m100:Array MapEntry) (c101 b102:Nat) (p103:Option Nat) (m104:Array MapEntry) (c105:Nat) (p106:Option Nat) (m107:Array MapEntry) (c108:Nat) (p109:Option Addr) (c110:Nat) (p111:Option Addr) (c112:Nat),v = .tuple #[.agg (flat [si r.1.Kind,su r.1.Id,su r.1.N,su r.1.TS,sg r.1.Lo,sg r.1.Hi,sl p94 (r.1.Vers).length c95,sl p96 (r.1.Vec).length c97,si r.1.Cmd.Kind,si r.1.Cmd.DC,si r.1.Cmd.Shard,si r.1.Cmd.Node,si r.1.Cmd.Mode,sg r.1.Cmd.Key]).toArray,vb r.2.1]∧SS Ms κ0 w0 κ w [.box b17 193 [si r.2.2.dc,(1,[pt b98 0]),(1,[pt b102 0]),sm p106,sl p109 (r.2.2.owned).length c110,sl p111 (r.2.2.modes).length c112],.tok p109 150 3 (r.2.2.owned).length c110,.tok p111 56 1 (r.2.2.modes).length c112,.box b98 293 [sm p99,su r.2.2.store.floor],mx p99 m100 c101,.box b102 296 [su r.2.2.part.clock,sm p103],mx p103 m104 c105,mx p106 m107 c108,.tok p94 196 6 (r.1.Vers).length c95,.tok p96 56 1 (r.1.Vec).length c97] [Ro.mp f_api_Ver.ty p94 c95 r.1.Vers,Ro.mp (fInt .u64).ty p96 c97 r.1.Vec,Map.mp kStr false (tSl f_api_Ver.ty) p99 m100 c101 r.2.2.store.chains,Map.mp (kInt .u64) false (fInt .u64).ty p103 m104 c105 r.2.2.part.open_,Map.mp (kInt .u64) false (tSl f_api_Ver.ty) p106 m107 c108 r.2.2.writes,Ro.mp f_span_Shard.ty p109 c110 r.2.2.owned,Ro.mp (fInt .u64).ty p111 c112 r.2.2.modes]):=by
 have hS:=hB.hS
 have hfr:=hS.fresh
 refine enterM (N:=(295)) (L:=[(0,pt b17 0),(1,.agg (flat [si a18.Kind,su a18.Id,su a18.N,su a18.TS,sg a18.Lo,sg a18.Hi,sl p19 (a18.Vers).length c20,sl p21 (a18.Vec).length c22,si a18.Cmd.Kind,si a18.Cmd.DC,si a18.Cmd.Shard,si a18.Cmd.Node,si a18.Cmd.Mode,sg a18.Cmd.Key]).toArray),(2,vi a23)]) Tryz.func33 rfl Tryz.ntmps33 (show 3≤(295) by decide) rfl fun a hF=>?_
 unfold M.node_Node_Take_vtN at H
 refine qr fun _ h24=>(wc (wbx hF hS [si a18.Kind,su a18.Id,su a18.N,su a18.TS,sg a18.Lo,sg a18.Hi,sl p19 (a18.Vers).length c20,sl p21 (a18.Vec).length c22,si a18.Cmd.Kind,si a18.Cmd.DC,si a18.Cmd.Shard,si a18.Cmd.Node,si a18.Cmd.Mode,sg a18.Cmd.Key] (sgN 14 sgNil) fun b25 a w hF hS=>wc (wal hF hS [si 0,su 0,su 0,su 0,sg ByteArray.empty,sg ByteArray.empty,sl none 0 0,sl none 0 0,si 0,si 0,si 0,si 0,si 0,sg ByteArray.empty] (sgN 14 sgNil) fun b26 a w hF hS=>?_)))
 refine wp 1 [0,2,4,6] hF fun a hF=>(h24 _ _ (qs fun _ h27=>qr fun _ h28=>(bd H fun v30 hv30 H=>wl_join (fun a w => ∃κ:Gh,Fr (295) [] [(0,pt b17 0),(2,vi a23),(4,pt b25 0),(6,pt b26 0),(27,vb v30)] a∧SS Ms κ0 w0 κ w [.box b26 110 [si 0,su 0,su 0,su 0,sg ByteArray.empty,sg ByteArray.empty,sl none 0 0,sl none 0 0,si 0,si 0,si 0,si 0,si 0,sg ByteArray.empty],.box b25 110 [si a18.Kind,su a18.Id,su a18.N,su a18.TS,sg a18.Lo,sg a18.Hi,sl p19 (a18.Vers).length c20,sl p21 (a18.Vec).length c22,si a18.Cmd.Kind,si a18.Cmd.DC,si a18.Cmd.Shard,si a18.Cmd.Node,si a18.Cmd.Mode,sg a18.Cmd.Key],.box b17 193 [si a1.dc,(1,[pt b2 0]),(1,[pt b6 0]),sm p10,sl p13 (a1.owned).length c14,sl p15 (a1.modes).length c16],.box b2 293 [sm p3,su a1.store.floor],.box b6 296 [su a1.part.clock,sm p7],.tok p13 150 3 (a1.owned).length c14,.tok p15 56 1 (a1.modes).length c16,mx p3 m4 c5,mx p7 m8 c9,mx p10 m11 c12] [Map.mp kStr false (tSl f_api_Ver.ty) p3 m4 c5 a1.store.chains,Map.mp (kInt .u64) false (fInt .u64).ty p7 m8 c9 a1.part.open_,Map.mp (kInt .u64) false (tSl f_api_Ver.ty) p10 m11 c12 a1.writes,Ro.mp f_span_Shard.ty p13 c14 a1.owned,Ro.mp (fInt .u64).ty p15 c16 a1.modes,Ro.mp f_api_Ver.ty none 0 ([]:List T_api_Ver),Ro.mp (fInt .u64).ty none 0 ([]:List Int),Ro.mp f_api_Ver.ty p19 c20 a18.Vers,Ro.mp (fInt .u64).ty p21 c22 a18.Vec]∧True) ?_ ?_)))
 refine wp 7 [0,2,4,6,24] hF fun a hF=>bs hv30 (fun hb hv30=>?_) fun hb hv30=>?_
 have hF:=hF.bv 24 hb
 refine wp 3 [0,2,4,6,27] hF fun a hF=>nl ?_
 cases hv30
 have hS:=hS.add (m:=Ro.mp f_api_Ver.ty none 0 ([]:List T_api_Ver)) (Ro.nil f_api_Ver.ty _ _)
 have hS:=hS.add (m:=Ro.mp (fInt .u64).ty none 0 ([]:List Int)) (Ro.nil (fInt .u64).ty _ _)
 exact ⟨_,hF.kp [0,2,4,6,27],hS.sp [0,1,2,5,7,3,4,6,8,9] [2,3,4,5,6,1,0,7,8],trivial⟩
 have hF:=hF.bv 24 hb
 refine wp 3 [0,2,4,6,27] hF fun a hF=>nl ?_
 cases hv30
 have hS:=hS.add (m:=Ro.mp f_api_Ver.ty none 0 ([]:List T_api_Ver)) (Ro.nil f_api_Ver.ty _ _)
 have hS:=hS.add (m:=Ro.mp (fInt .u64).ty none 0 ([]:List Int)) (Ro.nil (fInt .u64).ty _ _)
 exact ⟨_,hF.kp [0,2,4,6,27],hS.sp [0,1,2,5,7,3,4,6,8,9] [2,3,4,5,6,1,0,7,8],trivial⟩
 rintro a w ⟨κ,hF,hS,-⟩
 refine h28 _ _ (bc hF H (fun hb H=>?_) fun hb H=>?_)
 refine qs fun _ h31=>?_
 cases H
 refine sk (h27 _ _ (seq_join (fun a w => ∃κ:Gh,Fr (295) [] [(6,pt b26 0)] a∧SS Ms κ0 w0 κ w [.box b26 110 [si 0,su 0,su 0,su 0,sg ByteArray.empty,sg ByteArray.empty,sl none 0 0,sl none 0 0,si 0,si 0,si 0,si 0,si 0,sg ByteArray.empty],.box b17 193 [si a1.dc,(1,[pt b2 0]),(1,[pt b6 0]),sm p10,sl p13 (a1.owned).length c14,sl p15 (a1.modes).length c16],.box b2 293 [sm p3,su a1.store.floor],.box b6 296 [su a1.part.clock,sm p7],.tok p13 150 3 (a1.owned).length c14,.tok p15 56 1 (a1.modes).length c16,mx p3 m4 c5,mx p7 m8 c9,mx p10 m11 c12] [Ro.mp f_api_Ver.ty none 0 ([]:List T_api_Ver),Ro.mp (fInt .u64).ty none 0 ([]:List Int),Map.mp kStr false (tSl f_api_Ver.ty) p3 m4 c5 a1.store.chains,Map.mp (kInt .u64) false (fInt .u64).ty p7 m8 c9 a1.part.open_,Map.mp (kInt .u64) false (tSl f_api_Ver.ty) p10 m11 c12 a1.writes,Ro.mp f_span_Shard.ty p13 c14 a1.owned,Ro.mp (fInt .u64).ty p15 c16 a1.modes]∧M.node_Node_Take_vtN_k1 N a1=some r) ?_ ?_))
 refine qr fun _ h33=>(wp 1 [0,2,4,6,29] hF fun a hF=>wc (wld hF hS 1 0 0 fun a hF=>(h33 _ _ (bk (qr fun _ h34=>(wp 2 [0,2,4,6,30,31] hF fun a hF=>(h34 _ _ (bc hF H (fun hb H=>?_) fun hb H=>?_))))))))
 refine qs fun _ h35=>?_
 cases H
 refine qr fun _ h36=>(wp 2 [0,2,4,6,30,39] hF fun a hF=>(h36 _ _ (bc hF H (fun hb H=>?_) fun hb H=>?_)))
 refine qs fun _ h37=>qs fun _ h38=>?_
 cases H
 refine qr fun _ h39=>(wp 2 [0,4,6,30,93] hF fun a hF=>(h39 _ _ (bc hF H (fun hb H=>?_) fun hb H=>?_)))
 refine qs fun _ h40=>qs fun _ h41=>?_
 cases H
 refine qr fun _ h42=>(wp 2 [0,4,6,30,128] hF fun a hF=>(h42 _ _ (bc hF H (fun hb H=>?_) fun hb H=>?_)))
 refine qs fun _ h43=>?_
 cases H
 refine qr fun _ h44=>(wp 2 [0,4,6,30,136] hF fun a hF=>(h44 _ _ (bc hF H (fun hb H=>?_) fun hb H=>?_)))
 refine qs fun _ h45=>qs fun _ h46=>?_
 cases H
 refine qr fun _ h47=>(wp 2 [0,4,6,30,185] hF fun a hF=>(h47 _ _ (bc hF H (fun hb H=>?_) fun hb H=>?_)))
 refine qs fun _ h48=>rgX hS [0,1,2,4,8,9] ?_
 have hS:=hS.drew
 have hX:=hS.px [0,1,2,4,8,9]
 refine anp [0,1,2,4,6] [0,4,6,189,191,193] hF hX fun a hF=>atk 3 (some 190) hF hX rfl (vld 2 1 0) fun a hF=>atk 5 (some 192) hF hX rfl (vld 1 4 0) fun a hF=>atk 7 (some 194) hF hX rfl (vld 1 5 0) fun a hF=>ago 8 hF rfl (bd H fun x49 hx49 H=>wcS 2 [3,7,0,1,2,4,5,6,8,9] hF hS (fun hS=>C_store_Store_Drop N (T_store_Store.mk a1.store.chains a1.store.floor) a18.Lo a18.Hi p3 m4 c5 b2 (hS.sbK [0]) hx49) ?_)
 rintro _ κ w a ⟨p50,m51,c52,rfl,h2⟩ hF hB
 have hS:=hB _ _ h2
 refine ⟨fun _=>(hS.sx [2,3,4,5,8,9] (ra 1 9)),?_⟩
 refine and_ (h48 _ _ (qr fun _ h53=>(wp 1 [0,4,6,196] hF fun a hF=>wc (wls hF hS 3 0 14 fun a hF=>bd H fun x54 hx54 H=>wc (wcS 6 [4,0,1,5,8,9,2,3,6,7] hF hS (fun hS=>C_node_Node_load_vtL N (T_node_Node.mk a1.dc (T_store_Store.mk x49.2.chains x49.2.floor) (T_part_Part.mk a1.part.clock a1.part.open_) a1.writes a1.owned a1.modes) (T_api_Msg.mk a18.Kind a18.Id a18.N a18.TS a18.Lo a18.Hi a18.Vers a18.Vec (T_api_Cmd.mk a18.Cmd.Kind a18.Cmd.DC a18.Cmd.Shard a18.Cmd.Node a18.Cmd.Mode a18.Cmd.Key)) b2 p50 m51 c52 b6 p7 m8 c9 p10 m11 c12 p13 c14 p15 c16 p19 c20 p21 c22 b17 (hS.sbK [0,2,3,4,5,8,9]) hx54) ?_)))))
 rintro _ κ w a ⟨rfl,h2⟩ hF hB
 have hS:=(hB _ _ h2).cC (C':=[.box b17 193 [si a1.dc,(1,[pt b2 0]),(1,[pt b6 0]),sm p10,sl p13 (a1.owned).length c14,sl p15 (a1.modes).length c16],.box b2 293 [sm p50,su x49.2.floor],mx p50 m51 c52,.box b6 296 [su a1.part.clock,sm p7],mx p7 m8 c9,mx p10 m11 c12,.box b26 110 [si 0,su 0,su 0,su 0,sg ByteArray.empty,sg ByteArray.empty,sl none 0 0,sl none 0 0,si 0,si 0,si 0,si 0,si 0,sg ByteArray.empty],.box b25 110 [si a18.Kind,su a18.Id,su a18.N,su a18.TS,sg a18.Lo,sg a18.Hi,sl p19 (a18.Vers).length c20,sl p21 (a18.Vec).length c22,si a18.Cmd.Kind,si a18.Cmd.DC,si a18.Cmd.Shard,si a18.Cmd.Node,si a18.Cmd.Mode,sg a18.Cmd.Key],.tok p13 150 3 (a1.owned).length c14,.tok p15 56 1 (a1.modes).length c16])
 refine h53 _ _ (qs fun _ h55=>rgX hS [0,1,2,5,6,7] ?_)
 have hS:=hS.drew
 have hX:=hS.px [0,1,2,5,6,7]
 refine anp [0,1,2,4] [0,4,6,201,203] hF hX fun a hF=>atk 3 (some 202) hF hX rfl (vld 0 2 0) fun a hF=>atk 5 (some 204) hF hX rfl (vld 5 3 0) fun a hF=>ago 6 hF rfl (bd H fun x56 hx56 H=>wcS 2 [3,4,0,1,2,5,6,7,8,9] hF hS (fun hS=>C_part_Part_See N (T_part_Part.mk a1.part.clock a1.part.open_) a18.TS p7 m8 c9 b6 (hS.sbK [2]) hx56) ?_)
 rintro _ κ w a ⟨p57,m58,c59,rfl,h2⟩ hF hB
 have hS:=hB _ _ h2
 refine ⟨fun _=>(hS.sx (ra 2 6) (ra 1 10)),?_⟩
 refine and_ (h55 _ _ (qs fun _ h60=>?_))
 have hS:=hS.cC (C':=[.box b6 296 [su x56.clock,sm p57],mx p57 m58 c59,.box b17 193 [si a1.dc,(1,[pt b2 0]),(1,[pt b6 0]),sm p10,sl p13 (a1.owned).length c14,sl p15 (a1.modes).length c16],.box b2 293 [sm p50,su x49.2.floor],mx p50 m51 c52,mx p10 m11 c12,.box b26 110 [si 0,su 0,su 0,su 0,sg ByteArray.empty,sg ByteArray.empty,sl none 0 0,sl none 0 0,si 0,si 0,si 0,si 0,si 0,sg ByteArray.empty],.box b25 110 [si a18.Kind,su a18.Id,su a18.N,su a18.TS,sg a18.Lo,sg a18.Hi,sl p19 (a18.Vers).length c20,sl p21 (a18.Vec).length c22,si a18.Cmd.Kind,si a18.Cmd.DC,si a18.Cmd.Shard,si a18.Cmd.Node,si a18.Cmd.Mode,sg a18.Cmd.Key],.tok p13 150 3 (a1.owned).length c14,.tok p15 56 1 (a1.modes).length c16])
 refine rgX hS [0,1,2,5,6,7] ?_
 have hS:=hS.drew
 have hX:=hS.px [0,1,2,5,6,7]
 refine anp [0,1,2,4] [0,4,6,208,210] hF hX fun a hF=>atk 3 (some 209) hF hX rfl (vld 2 1 0) fun a hF=>atk 5 (some 211) hF hX rfl (vld 5 1 0) fun a hF=>ago 6 hF rfl (bd H fun x61 hx61 H=>wcS 2 [3,4,0,1,2,5,6,7,8,9] hF hS (fun hS=>C_store_Store_Trim N (T_store_Store.mk x49.2.chains x49.2.floor) a18.Id p50 m51 c52 b2 (hS.sbK [1]) hx61) ?_)
 rintro _ κ w a ⟨p62,m63,c64,rfl,h2⟩ hF hB
 have hS:=hB _ _ h2
 refine ⟨fun _=>(hS.sx (ra 2 6) (ra 1 11)),?_⟩
 refine and_ (h60 _ _ (qr fun _ h65=>(wp 2 [4,6,213,214] hF fun a hF=>wc (wld hF hS 7 4 0 fun a hF=>wp 1 [4,6,213,215,216] hF fun a hF=>wc (wld hF hS 7 5 0 fun a hF=>bd H fun x66 hx66 H=>wc (wcS 8 [4,8,9,0,1,2,3,5,6,7] hF hS (fun hS=>C_node_Node_own N (T_node_Node.mk a1.dc (T_store_Store.mk x61.2.chains x61.2.floor) (T_part_Part.mk x56.clock x56.open_) a1.writes a1.owned a1.modes) a18.Lo a18.Hi b2 p62 m63 c64 b6 p57 m58 c59 p10 m11 c12 p13 c14 p15 c16 b17 (hS.sbK [0,1,5,6,7]) hx66) ?_))))))
 rintro _ κ w a ⟨b67,p68,m69,c70,b71,p72,m73,c74,p75,m76,c77,p78,c79,p80,c81,rfl,h2⟩ hF hB
 have hS:=(hB _ _ h2).cC (C':=[.box b17 193 [si x66.dc,(1,[pt b67 0]),(1,[pt b71 0]),sm p75,sl p78 (x66.owned).length c79,sl p80 (x66.modes).length c81],.tok p78 150 3 (x66.owned).length c79,.tok p80 56 1 (x66.modes).length c81,.box b67 293 [sm p68,su x66.store.floor],mx p68 m69 c70,.box b71 296 [su x66.part.clock,sm p72],mx p72 m73 c74,mx p75 m76 c77,.box b26 110 [si 0,su 0,su 0,su 0,sg ByteArray.empty,sg ByteArray.empty,sl none 0 0,sl none 0 0,si 0,si 0,si 0,si 0,si 0,sg ByteArray.empty],.box b25 110 [si a18.Kind,su a18.Id,su a18.N,su a18.TS,sg a18.Lo,sg a18.Hi,sl p19 (a18.Vers).length c20,sl p21 (a18.Vec).length c22,si a18.Cmd.Kind,si a18.Cmd.DC,si a18.Cmd.Shard,si a18.Cmd.Node,si a18.Cmd.Mode,sg a18.Cmd.Key]])
 refine h65 _ _ (qr fun _ h82=>(wp 1 [4,6,219] hF fun a hF=>wc (wld hF hS 9 4 0 fun a hF=>wp 1 [6,220,221] hF fun a hF=>wc (wld hF hS 9 5 0 fun a hF=>wp 1 [6,223] hF fun a hF=>wc (wst hF hS 8 0 14 [si 16,su 0,su 0,su 0,sg a18.Lo,sg a18.Hi,sl none 0 0,sl none 0 0,si 0,si 0,si 0,si 0,si 0,sg ByteArray.empty] (sgN 14 sgNil) fun a w hF hS=>wp 1 [6,7] hF fun a hF=>(h82 _ _ (rt ?_)))))))
 have hS':=hS
 have hS:=hS.addNil 196 6
 have hS:=hS.addNil 56 1
 cases H
 exact ret_done0 hF hS (res2 Tryz.results33 (rvs hF hS' 8 0 14) (rvt hF)) ⟨none,0,none,0,b67,p68,m69,c70,b71,p72,m73,c74,p75,m76,c77,p78,c79,p80,c81,rfl,hS.sp [2,3,4,5,6,7,8,9,1,0] [13,14,0,1,2,3,4]⟩
 refine qr fun _ h83=>(wp 2 [0,4,6,30,224] hF fun a hF=>(h83 _ _ (bc hF H (fun hb H=>?_) fun hb H=>?_)))
 cases H
 refine qr fun _ h84=>(wp 2 [0,4,6,30,235] hF fun a hF=>(h84 _ _ (bc hF H (fun hb H=>?_) fun hb H=>?_)))
 refine qs fun _ h85=>?_
 cases H
 refine qr fun _ h86=>(wp 2 [0,4,6,30,265] hF fun a hF=>(h86 _ _ (bc hF H (fun hb H=>?_) fun hb H=>?_)))
 cases H
 refine qr fun _ h87=>(wp 2 [0,4,6,30,274] hF fun a hF=>(h87 _ _ (bc hF H (fun hb H=>?_) fun hb H=>?_)))
 refine qr fun _ h88=>(wl_pure (L':=[(4,pt b25 0),(6,pt b26 0),(276,pt b17 0),(277,pt b25 7)]) 2 [4,6,276,277] hF kr fun a hF=>wc (wld hF hS 1 7 0 fun a hF=>?_))
 have hS:=hS.addNil 56 1
 refine bd H fun x89 hx89 H=>wc (wo_append (ty:=(fInt .u64).ty) hF hS kr 0 6 8 rfl rfl rfl kr kr rfl rfl rfl hx89 kr (i:=Tryz.t56) (z:=vu 0) kr kr kr fun p90 c91 κ a w hF hS=>wp 2 [4,6,279,281] hF fun a hF=>wc (wst hF hS 3 5 1 [sl p90 x89.length c91] (sgN 1 sgNil) fun a w hF hS=>(h88 _ _ (qr fun _ h92=>(wp 1 [6,282] hF fun a hF=>wc (wld hF hS 2 1 0 fun a hF=>wp 1 [6,284] hF fun a hF=>wc (wst hF hS 1 0 14 [si 17,su a18.Id,su 0,su 0,sg ByteArray.empty,sg ByteArray.empty,sl none 0 0,sl none 0 0,si 0,si 0,si 0,si 0,si 0,sg ByteArray.empty] (sgN 14 sgNil) fun a w hF hS=>?_)))))))
 refine wp 1 [6,7] hF fun a hF=>(h92 _ _ (rt ?_))
 have hS':=hS
 have hS:=hS.addNil 196 6
 have hS:=hS.addNil 56 1
 cases H
 exact ret_done0 hF hS (res2 Tryz.results33 (rvs hF hS' 1 0 14) (rvt hF)) ⟨none,0,none,0,b2,p3,m4,c5,b6,p7,m8,c9,p10,m11,c12,p13,c14,p90,c91,rfl,hS.sp [5,8,2,6,10,7,11,12,1,0] [6,7,1,2,3,4,0]⟩
 refine qr fun _ h93=>(wp 2 [0,4,6,285] hF fun a hF=>(h93 _ _ (bc hF H (fun hb H=>?_) fun hb H=>?_)))
 cases H
 refine sk ?_
 exact ⟨_,hF.kp [6],hS.sp [0,2,3,4,5,6,7,8,9] [5,6,0,1,2,3,4],H⟩
 rintro a w ⟨κ,hF,hS,H⟩
 unfold M.node_Node_Take_vtN_k1 at H
 refine qs fun _ h32=>?_
 cases H
end Go.Cf
