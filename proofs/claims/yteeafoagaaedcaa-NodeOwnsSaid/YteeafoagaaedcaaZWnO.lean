/- The walks: each function returns what its model says. Printed by a program of ours. -/
import Derived.Test.YteeafoagaaedcaaZM1
import Derived.Test.YteeafoagaaedcaaZWs3
import Derived.Test.YteeafoagaaedcaaZWt2
import Derived.Test.YteeafoagaaedcaaZWt1
import Derived.Test.YteeafoagaaedcaaZWn1
import Derived.Test.YteeafoagaaedcaaZWn2
import Derived.Test.YteeafoagaaedcaaZWn3
import Derived.Test.YteeafoagaaedcaaZWn4
namespace Go.Cf
open Go Go.Proofs
set_option linter.unusedVariables false
set_option maxRecDepth 20000
set_option maxHeartbeats 8000000
theorem C_node_Node_load_vtL (N:Nat){Ms:List Nat}{κ0:Gh}{w0:World}(a1:T_node_Node)(a18:T_api_Msg)(b2:Nat)(p3:Option Nat)(m4:Array MapEntry)(c5:Nat)(b6:Nat)(p7:Option Nat)(m8:Array MapEntry)(c9:Nat)(p10:Option Nat)(m11:Array MapEntry)(c12:Nat)(p13:Option Addr)(c14:Nat)(p15:Option Addr)(c16:Nat)(p19:Option Addr)(c20:Nat)(p21:Option Addr)(c22:Nat)(b17:Nat)(hB:SB Ms κ0 w0 [.box b17 151 [si a1.dc,(1,[pt b2 0]),(1,[pt b6 0]),sm p10,sl p13 (a1.owned).length c14,sl p15 (a1.modes).length c16],.tok p13 157 3 (a1.owned).length c14,.tok p15 25 1 (a1.modes).length c16,.box b2 130 [sm p3,su a1.store.floor],mx p3 m4 c5,.box b6 174 [su a1.part.clock,sm p7],mx p7 m8 c9,mx p10 m11 c12,.ext (ownX f_api_Ver 37 p19 c20 a18.Vers),.ext (ownX (fInt .u64) 25 p21 c22 a18.Vec)] [Map.mp kStr false (tSl f_api_Ver.ty) p3 m4 c5 a1.store.chains,Map.mp (kInt .u64) false (fInt .u64).ty p7 m8 c9 a1.part.open_,Map.mp (kInt .u64) false (tSl f_api_Ver.ty) p10 m11 c12 a1.writes,Ro.mp f_span_Shard.ty p13 c14 a1.owned,Ro.mp (fInt .u64).ty p15 c16 a1.modes]){r:(T_node_Node)}(H:M.node_Node_load_vtL N a1 a18=some r) :
    Calls Try.prog 98 #[pt b17 0,.agg (flat [si a18.Kind,su a18.Id,su a18.N,su a18.TS,sg a18.Lo,sg a18.Hi,sl p19 (a18.Vers).length c20,sl p21 (a18.Vec).length c22,si a18.Cmd.Kind,si a18.Cmd.DC,si a18.Cmd.Shard,si a18.Cmd.Node,si a18.Cmd.Mode,sg a18.Cmd.Key]).toArray] w0 (Post Ms κ0 w0 fun v κ w => ∃(b104:Nat) (p105:Option Nat) (m106:Array MapEntry) (c107 b108:Nat) (p109:Option Nat) (m110:Array MapEntry) (c111:Nat) (p112:Option Nat) (m113:Array MapEntry) (c114:Nat) (p115:Option Addr) (c116:Nat) (p117:Option Addr) (c118:Nat),v = .tuple #[]∧SS Ms κ0 w0 κ w [.box b17 151 [si r.dc,(1,[pt b104 0]),(1,[pt b108 0]),sm p112,sl p115 (r.owned).length c116,sl p117 (r.modes).length c118],.tok p115 157 3 (r.owned).length c116,.tok p117 25 1 (r.modes).length c118,.box b104 130 [sm p105,su r.store.floor],mx p105 m106 c107,.box b108 174 [su r.part.clock,sm p109],mx p109 m110 c111,mx p112 m113 c114,.ext (ownX f_api_Ver 37 p19 c20 a18.Vers),.ext (ownX (fInt .u64) 25 p21 c22 a18.Vec)] [Map.mp kStr false (tSl f_api_Ver.ty) p105 m106 c107 r.store.chains,Map.mp (kInt .u64) false (fInt .u64).ty p109 m110 c111 r.part.open_,Map.mp (kInt .u64) false (tSl f_api_Ver.ty) p112 m113 c114 r.writes,Ro.mp f_span_Shard.ty p115 c116 r.owned,Ro.mp (fInt .u64).ty p117 c118 r.modes]):=by
 have hS:=hB.hS
 have hfr:=hS.fresh
 refine en Try.func98 rfl Try.ntmps98 fun a hF=>?_
 unfold M.node_Node_load_vtL at H
 refine qr fun _ h23=>(wc (wbx hF hS [si a18.Kind,su a18.Id,su a18.N,su a18.TS,sg a18.Lo,sg a18.Hi,sl p19 (a18.Vers).length c20,sl p21 (a18.Vec).length c22,si a18.Cmd.Kind,si a18.Cmd.DC,si a18.Cmd.Shard,si a18.Cmd.Node,si a18.Cmd.Mode,sg a18.Cmd.Key] (sgN 14 sgNil) fun b24 a w hF hS=>(h23 _ _ (qr fun _ h25=>(wp 1 [0,6] hF fun a hF=>wc (wld hF hS 0 6 0 fun a hF=>wp 2 [0,7,8,9] hF fun a hF=>(h25 _ _ (bk (loop_fuel (n:=N) (fun n a w => ∃(κ:Gh) (p76:Option Nat) (m77:Array MapEntry) (c78:Nat) (y79:Mp ByteArray (List T_api_Ver)) (y80 y81:Int) (p82:Option Nat) (m83:Array MapEntry) (c84:Nat) (y85:Mp Int Int) (y86:Int),Fr (27) [] [(0,pt b17 0),(7,.slice p19 (a18.Vers).length c20),(8,vi ((a18.Vers).length:Int)),(9,vi y86)] a∧SS Ms κ0 w0 κ w [.box b17 151 [si a1.dc,(1,[pt b2 0]),(1,[pt b6 0]),sm p10,sl p13 (a1.owned).length c14,sl p15 (a1.modes).length c16],.box b2 130 [sm p76,su y80],.box b6 174 [su y81,sm p82],.tok p13 157 3 (a1.owned).length c14,.tok p15 25 1 (a1.modes).length c16,mx p76 m77 c78,mx p82 m83 c84,mx p10 m11 c12,.ext (ownX f_api_Ver 37 p19 c20 a18.Vers),.ext (ownX (fInt .u64) 25 p21 c22 a18.Vec)] [Map.mp kStr false (tSl f_api_Ver.ty) p76 m77 c78 y79,Map.mp (kInt .u64) false (fInt .u64).ty p82 m83 c84 y85,Map.mp (kInt .u64) false (tSl f_api_Ver.ty) p10 m11 c12 a1.writes,Ro.mp f_span_Shard.ty p13 c14 a1.owned,Ro.mp (fInt .u64).ty p15 c16 a1.modes]∧M.node_Node_load_vtL_L1 N n a1 a18 y79 y80 y81 y85 y86=some r) ?_ ?_)))))))))
 exact ⟨_,p3,m4,c5,a1.store.chains,a1.store.floor,a1.part.clock,p7,m8,c9,a1.part.open_,0,hF.kp [0,7,8,9],hS.sp [1,4,6,2,3,5,7,8,9,10] (rg 5),H⟩
 rintro n a w ⟨κ,p76,m77,c78,y79,y80,y81,p82,m83,c84,y85,y86,hF,hS,H⟩
 rcases n with _|fuel1
 simp [M.node_Node_load_vtL_L1] at H
 simp only [M.node_Node_load_vtL_L1] at H
 refine qr fun _ h87=>(wl_pure (L':=[(0,pt b17 0),(7,.slice p19 (a18.Vers).length c20),(8,vi ((a18.Vers).length:Int)),(9,vi y86),(10,vb (decide (y86<((a18.Vers).length:Int))))]) 1 [0,7,8,9,10] hF kr fun a hF=>(h87 _ _ (qs fun _ h88=>bc hF H (fun hb H=>?_) fun hb H=>?_)))
 refine sk (h88 _ _ (qs fun _ h89=>bk (qr fun _ h90=>(bd H fun x91 hx91 H=>wc (wo_indexO hF hS kr 8 (sz:=6) rfl rfl rfl rfl rfl hx91 kr kr fun b92 f93 a hpx91 hF=>wc (wo_loadOA hF hS kr 8 rfl rfl hpx91 rfl hx91 rfl kr kr fun a hF=>wc (wal hF hS [sg ByteArray.empty,sg ByteArray.empty,sb false,su 0,si 0,si 0] (sgN 6 sgNil) fun b94 a w hF hS=>wc (wst hF hS 0 0 6 [sg x91.Key,sg x91.Val,sb x91.Gone,su x91.TS,si x91.DC,si x91.Tx] (sgN 6 sgNil) fun a w hF hS=>(h90 _ _ (qs fun _ h95=>?_))))))))))
 refine rgX hS [0,1,3,7,8,9,10] ?_
 have hS:=hS.drew
 have hX:=hS.px [0,1,3,7,8,9,10]
 refine anp [0,1,2] [0,5,7,8,9,15] hF hX fun a hF=>atk 3 (some 16) hF hX rfl (vld 1 1 0) fun a hF=>atk 4 (some 17) hF hX rfl (vls 0 0 6) fun a hF=>ago 5 hF rfl (bd H fun x96 hx96 H=>wcS 2 [2,6,0,1,3,4,5,7,8,9,10] hF hS (fun hS=>C_store_Store_Put N (T_store_Store.mk y79 y80) (T_api_Ver.mk x91.Key x91.Val x91.Gone x91.TS x91.DC x91.Tx) p76 m77 c78 b2 ⟨rfl,hS.pick [0] kr⟩ hx96) ?_)
 rintro _ κ w a ⟨p97,m98,c99,rfl,h2⟩ hF hB
 have hS:=hB _ _ h2
 refine ⟨fun _=>(hS.sx [2,3,4,7,8,9,10] (ra 1 5)),?_⟩
 refine and_ (h95 _ _ (rgX hS [0,1,2,3,8,9,10] ?_))
 have hS:=hS.drew
 have hX:=hS.px [0,1,2,3,8,9,10]
 refine anp [0,1,2,4] [0,7,8,9,21,23] hF hX fun a hF=>atk 3 (some 22) hF hX rfl (vld 3 2 0) fun a hF=>atk 5 (some 24) hF hX rfl (vld 2 3 0) fun a hF=>ago 6 hF rfl (bd H fun x100 hx100 H=>wcS 2 [4,7,0,1,2,3,5,6,8,9,10] hF hS (fun hS=>C_part_Part_See N (T_part_Part.mk y81 y85) x91.TS p82 m83 c84 b6 ⟨rfl,hS.pick [2] kr⟩ hx100) ?_)
 rintro _ κ w a ⟨p101,m102,c103,rfl,h2⟩ hF hB
 have hS:=(hB _ _ h2).cC (C':=[.box b6 174 [su x100.clock,sm p101],mx p101 m102 c103,.box b2 130 [sm p97,su x96.2.floor],mx p97 m98 c99,.box b94 37 [sg x91.Key,sg x91.Val,sb x91.Gone,su x91.TS,si x91.DC,si x91.Tx],.box b17 151 [si a1.dc,(1,[pt b2 0]),(1,[pt b6 0]),sm p10,sl p13 (a1.owned).length c14,sl p15 (a1.modes).length c16],.tok p13 157 3 (a1.owned).length c14,.tok p15 25 1 (a1.modes).length c16,mx p10 m11 c12,.ext (ownX f_api_Ver 37 p19 c20 a18.Vers),.ext (ownX (fInt .u64) 25 p21 c22 a18.Vec)])
 refine ⟨fun _=>(hS.sx [2,3,4,5,8,9,10] (ra 1 6)),?_⟩
 refine and_ (h89 _ _ (rl (wp 2 [0,7,8,9] hF fun a hF=>nl ?_)))
 exact ⟨fuel1,Nat.lt_succ_self _,_,p97,m98,c99,x96.2.chains,x96.2.floor,x100.clock,p101,m102,c103,x100.open_,IntKind.i64.wrap (y86+1),hF.kp [0,7,8,9],hS.sp [5,2,0,6,7,3,1,8,9,10] [1,0,4,5,6],H⟩
 refine xt ?_
 cases H
 exact ret_done hF hS (res0 Try.results98) ⟨b2,p76,m77,c78,b6,p82,m83,c84,p10,m11,c12,p13,c14,p15,c16,rfl,hS.sp [0,3,4,1,5,2,6,7,8,9] (rg 5)⟩
theorem C_node_Node_Take_vtA (N:Nat){Ms:List Nat}{κ0:Gh}{w0:World}(a1:T_node_Node)(a18:T_api_Msg)(a23:Int)(b2:Nat)(p3:Option Nat)(m4:Array MapEntry)(c5:Nat)(b6:Nat)(p7:Option Nat)(m8:Array MapEntry)(c9:Nat)(p10:Option Nat)(m11:Array MapEntry)(c12:Nat)(p13:Option Addr)(c14:Nat)(p15:Option Addr)(c16:Nat)(p19:Option Addr)(c20:Nat)(p21:Option Addr)(c22:Nat)(b17:Nat)(hB:SB Ms κ0 w0 [.box b17 151 [si a1.dc,(1,[pt b2 0]),(1,[pt b6 0]),sm p10,sl p13 (a1.owned).length c14,sl p15 (a1.modes).length c16],.tok p13 157 3 (a1.owned).length c14,.tok p15 25 1 (a1.modes).length c16,.box b2 130 [sm p3,su a1.store.floor],mx p3 m4 c5,.box b6 174 [su a1.part.clock,sm p7],mx p7 m8 c9,mx p10 m11 c12,.ext (ownX f_api_Ver 37 p19 c20 a18.Vers),.ext (ownX (fInt .u64) 25 p21 c22 a18.Vec)] [Map.mp kStr false (tSl f_api_Ver.ty) p3 m4 c5 a1.store.chains,Map.mp (kInt .u64) false (fInt .u64).ty p7 m8 c9 a1.part.open_,Map.mp (kInt .u64) false (tSl f_api_Ver.ty) p10 m11 c12 a1.writes,Ro.mp f_span_Shard.ty p13 c14 a1.owned,Ro.mp (fInt .u64).ty p15 c16 a1.modes]){r:(T_api_Msg×Bool×T_node_Node)}(H:M.node_Node_Take_vtA N a1 a18 a23=some r) :
    Calls Try.prog 62 #[pt b17 0,.agg (flat [si a18.Kind,su a18.Id,su a18.N,su a18.TS,sg a18.Lo,sg a18.Hi,sl p19 (a18.Vers).length c20,sl p21 (a18.Vec).length c22,si a18.Cmd.Kind,si a18.Cmd.DC,si a18.Cmd.Shard,si a18.Cmd.Node,si a18.Cmd.Mode,sg a18.Cmd.Key]).toArray,vi a23] w0 (Post Ms κ0 w0 fun v κ w => ∃(p105:Option Addr) (c106:Nat) (p107:Option Addr) (c108 b109:Nat) (p110:Option Nat) (m111:Array MapEntry) (c112 b113:Nat) (p114:Option Nat) (m115:Array MapEntry) (c116:Nat) (p117:Option Nat) (m118:Array MapEntry) (c119:Nat) (p120:Option Addr) (c121:Nat) (p122:Option Addr) (c123:Nat),v = .tuple #[.agg (flat [si r.1.Kind,su r.1.Id,su r.1.N,su r.1.TS,sg r.1.Lo,sg r.1.Hi,sl p105 (r.1.Vers).length c106,sl p107 (r.1.Vec).length c108,si r.1.Cmd.Kind,si r.1.Cmd.DC,si r.1.Cmd.Shard,si r.1.Cmd.Node,si r.1.Cmd.Mode,sg r.1.Cmd.Key]).toArray,vb r.2.1]∧SS Ms κ0 w0 κ w [.box b17 151 [si r.2.2.dc,(1,[pt b109 0]),(1,[pt b113 0]),sm p117,sl p120 (r.2.2.owned).length c121,sl p122 (r.2.2.modes).length c123],.tok p120 157 3 (r.2.2.owned).length c121,.tok p122 25 1 (r.2.2.modes).length c123,.box b109 130 [sm p110,su r.2.2.store.floor],mx p110 m111 c112,.box b113 174 [su r.2.2.part.clock,sm p114],mx p114 m115 c116,mx p117 m118 c119,.ext (ownX f_api_Ver 37 p105 c106 r.1.Vers),.ext (ownX (fInt .u64) 25 p107 c108 r.1.Vec),.ext (ownX f_api_Ver 37 p19 c20 a18.Vers),.ext (ownX (fInt .u64) 25 p21 c22 a18.Vec)] [Map.mp kStr false (tSl f_api_Ver.ty) p110 m111 c112 r.2.2.store.chains,Map.mp (kInt .u64) false (fInt .u64).ty p114 m115 c116 r.2.2.part.open_,Map.mp (kInt .u64) false (tSl f_api_Ver.ty) p117 m118 c119 r.2.2.writes,Ro.mp f_span_Shard.ty p120 c121 r.2.2.owned,Ro.mp (fInt .u64).ty p122 c123 r.2.2.modes]):=by
 have hS:=hB.hS
 have hfr:=hS.fresh
 refine enterM (N:=(295)) (L:=[(0,pt b17 0),(1,.agg (flat [si a18.Kind,su a18.Id,su a18.N,su a18.TS,sg a18.Lo,sg a18.Hi,sl p19 (a18.Vers).length c20,sl p21 (a18.Vec).length c22,si a18.Cmd.Kind,si a18.Cmd.DC,si a18.Cmd.Shard,si a18.Cmd.Node,si a18.Cmd.Mode,sg a18.Cmd.Key]).toArray),(2,vi a23)]) Try.func62 rfl Try.ntmps62 (show 3≤(295) by decide) rfl fun a hF=>?_
 unfold M.node_Node_Take_vtA at H
 refine qr fun _ h24=>(wc (wbx hF hS [si a18.Kind,su a18.Id,su a18.N,su a18.TS,sg a18.Lo,sg a18.Hi,sl p19 (a18.Vers).length c20,sl p21 (a18.Vec).length c22,si a18.Cmd.Kind,si a18.Cmd.DC,si a18.Cmd.Shard,si a18.Cmd.Node,si a18.Cmd.Mode,sg a18.Cmd.Key] (sgN 14 sgNil) fun b25 a w hF hS=>wc (wal hF hS [si 0,su 0,su 0,su 0,sg ByteArray.empty,sg ByteArray.empty,sl none 0 0,sl none 0 0,si 0,si 0,si 0,si 0,si 0,sg ByteArray.empty] (sgN 14 sgNil) fun b26 a w hF hS=>?_)))
 refine wp 1 [0,2,4,6] hF fun a hF=>(h24 _ _ (qs fun _ h27=>qr fun _ h28=>(bd H fun v30 hv30 H=>wl_join (fun a w => ∃κ:Gh,Fr (295) [] [(0,pt b17 0),(2,vi a23),(4,pt b25 0),(6,pt b26 0),(27,vb v30)] a∧SS Ms κ0 w0 κ w [.box b26 93 [si 0,su 0,su 0,su 0,sg ByteArray.empty,sg ByteArray.empty,sl none 0 0,sl none 0 0,si 0,si 0,si 0,si 0,si 0,sg ByteArray.empty],.box b25 93 [si a18.Kind,su a18.Id,su a18.N,su a18.TS,sg a18.Lo,sg a18.Hi,sl p19 (a18.Vers).length c20,sl p21 (a18.Vec).length c22,si a18.Cmd.Kind,si a18.Cmd.DC,si a18.Cmd.Shard,si a18.Cmd.Node,si a18.Cmd.Mode,sg a18.Cmd.Key],.box b17 151 [si a1.dc,(1,[pt b2 0]),(1,[pt b6 0]),sm p10,sl p13 (a1.owned).length c14,sl p15 (a1.modes).length c16],.box b2 130 [sm p3,su a1.store.floor],.box b6 174 [su a1.part.clock,sm p7],.tok p13 157 3 (a1.owned).length c14,.tok p15 25 1 (a1.modes).length c16,.ext (ownX f_api_Ver 37 p19 c20 a18.Vers),.ext (ownX (fInt .u64) 25 p21 c22 a18.Vec),mx p3 m4 c5,mx p7 m8 c9,mx p10 m11 c12] [Map.mp kStr false (tSl f_api_Ver.ty) p3 m4 c5 a1.store.chains,Map.mp (kInt .u64) false (fInt .u64).ty p7 m8 c9 a1.part.open_,Map.mp (kInt .u64) false (tSl f_api_Ver.ty) p10 m11 c12 a1.writes,Ro.mp f_span_Shard.ty p13 c14 a1.owned,Ro.mp (fInt .u64).ty p15 c16 a1.modes]∧True) ?_ ?_)))
 refine wp 7 [0,2,4,6,24] hF fun a hF=>bs hv30 (fun hb hv30=>?_) fun hb hv30=>?_
 have hF:=hF.bv 24 hb
 refine wp 3 [0,2,4,6,27] hF fun a hF=>nl ?_
 cases hv30
 exact ⟨_,hF.kp [0,2,4,6,27],hS.sp [0,1,2,5,7,3,4,10,11,6,8,9] (rg 5),trivial⟩
 have hF:=hF.bv 24 hb
 refine wp 3 [0,2,4,6,27] hF fun a hF=>nl ?_
 cases hv30
 exact ⟨_,hF.kp [0,2,4,6,27],hS.sp [0,1,2,5,7,3,4,10,11,6,8,9] (rg 5),trivial⟩
 rintro a w ⟨κ,hF,hS,-⟩
 refine h28 _ _ (bc hF H (fun hb H=>?_) fun hb H=>?_)
 refine qs fun _ h31=>?_
 cases H
 refine sk (h27 _ _ (seq_join (fun a w => ∃κ:Gh,Fr (295) [] [(6,pt b26 0)] a∧SS Ms κ0 w0 κ w [.box b26 93 [si 0,su 0,su 0,su 0,sg ByteArray.empty,sg ByteArray.empty,sl none 0 0,sl none 0 0,si 0,si 0,si 0,si 0,si 0,sg ByteArray.empty],.box b17 151 [si a1.dc,(1,[pt b2 0]),(1,[pt b6 0]),sm p10,sl p13 (a1.owned).length c14,sl p15 (a1.modes).length c16],.box b2 130 [sm p3,su a1.store.floor],.box b6 174 [su a1.part.clock,sm p7],.tok p13 157 3 (a1.owned).length c14,.tok p15 25 1 (a1.modes).length c16,mx p3 m4 c5,mx p7 m8 c9,mx p10 m11 c12,.ext (ownX f_api_Ver 37 p19 c20 a18.Vers),.ext (ownX (fInt .u64) 25 p21 c22 a18.Vec)] [Map.mp kStr false (tSl f_api_Ver.ty) p3 m4 c5 a1.store.chains,Map.mp (kInt .u64) false (fInt .u64).ty p7 m8 c9 a1.part.open_,Map.mp (kInt .u64) false (tSl f_api_Ver.ty) p10 m11 c12 a1.writes,Ro.mp f_span_Shard.ty p13 c14 a1.owned,Ro.mp (fInt .u64).ty p15 c16 a1.modes]∧M.node_Node_Take_vtA_k1 N a1 a18=some r) ?_ ?_))
 refine qr fun _ h33=>(wp 1 [0,2,4,6,29] hF fun a hF=>wc (wld hF hS 1 0 0 fun a hF=>(h33 _ _ (bk (qr fun _ h34=>(wp 2 [0,2,4,6,30,31] hF fun a hF=>(h34 _ _ (bc hF H (fun hb H=>?_) fun hb H=>?_))))))))
 refine qs fun _ h35=>?_
 cases H
 refine qr fun _ h36=>(wp 2 [0,2,4,6,30,39] hF fun a hF=>(h36 _ _ (bc hF H (fun hb H=>?_) fun hb H=>?_)))
 refine qs fun _ h37=>qs fun _ h38=>?_
 cases H
 refine qr fun _ h39=>(wp 2 [0,4,6,30,93] hF fun a hF=>(h39 _ _ (bc hF H (fun hb H=>?_) fun hb H=>?_)))
 refine qs fun _ h40=>qs fun _ h41=>?_
 cases H
 refine qr fun _ h42=>(wp 2 [0,4,6,30,128] hF fun a hF=>(h42 _ _ (bc hF H (fun hb H=>?_) fun hb H=>?_)))
 refine qs fun _ h43=>?_
 cases H
 refine qr fun _ h44=>(wp 2 [0,4,6,30,136] hF fun a hF=>(h44 _ _ (bc hF H (fun hb H=>?_) fun hb H=>?_)))
 refine qs fun _ h45=>qs fun _ h46=>?_
 cases H
 refine qr fun _ h47=>(wp 2 [0,4,6,30,185] hF fun a hF=>(h47 _ _ (bc hF H (fun hb H=>?_) fun hb H=>?_)))
 refine qs fun _ h48=>rgX hS [0,1,2,4,7,8,10,11] ?_
 have hS:=hS.drew
 have hX:=hS.px [0,1,2,4,7,8,10,11]
 refine anp [0,1,2,4,6] [0,4,6,189,191,193] hF hX fun a hF=>atk 3 (some 190) hF hX rfl (vld 2 1 0) fun a hF=>atk 5 (some 192) hF hX rfl (vld 1 4 0) fun a hF=>atk 7 (some 194) hF hX rfl (vld 1 5 0) fun a hF=>ago 8 hF rfl (bd H fun x49 hx49 H=>wcS 2 [3,9,0,1,2,4,5,6,7,8,10,11] hF hS (fun hS=>C_store_Store_Drop N (T_store_Store.mk a1.store.chains a1.store.floor) a18.Lo a18.Hi p3 m4 c5 b2 ⟨rfl,hS.pick [0] kr⟩ hx49) ?_)
 rintro _ κ w a ⟨p50,m51,c52,rfl,h2⟩ hF hB
 have hS:=hB _ _ h2
 refine ⟨fun _=>(hS.sx [2,3,4,5,8,9,10,11] (ra 1 5)),?_⟩
 refine and_ (h48 _ _ (qr fun _ h53=>(wp 1 [0,4,6,196] hF fun a hF=>wc (wls hF hS 3 0 14 fun a hF=>bd H fun x54 hx54 H=>wc (wcS 10 [4,6,7,0,1,5,10,11,8,9,2,3] hF hS (fun hS=>C_node_Node_load_vtL N (T_node_Node.mk a1.dc (T_store_Store.mk x49.2.chains x49.2.floor) (T_part_Part.mk a1.part.clock a1.part.open_) a1.writes a1.owned a1.modes) (T_api_Msg.mk a18.Kind a18.Id a18.N a18.TS a18.Lo a18.Hi a18.Vers a18.Vec (T_api_Cmd.mk a18.Cmd.Kind a18.Cmd.DC a18.Cmd.Shard a18.Cmd.Node a18.Cmd.Mode a18.Cmd.Key)) b2 p50 m51 c52 b6 p7 m8 c9 p10 m11 c12 p13 c14 p15 c16 p19 c20 p21 c22 b17 ⟨rfl,hS.pick [0,2,3,4,5] kr⟩ hx54) ?_)))))
 rintro _ κ w a ⟨b55,p56,m57,c58,b59,p60,m61,c62,p63,m64,c65,p66,c67,p68,c69,rfl,h2⟩ hF hB
 have hS:=(hB _ _ h2).cC (C':=[.box b17 151 [si x54.dc,(1,[pt b55 0]),(1,[pt b59 0]),sm p63,sl p66 (x54.owned).length c67,sl p68 (x54.modes).length c69],.tok p66 157 3 (x54.owned).length c67,.tok p68 25 1 (x54.modes).length c69,.box b55 130 [sm p56,su x54.store.floor],mx p56 m57 c58,.box b59 174 [su x54.part.clock,sm p60],mx p60 m61 c62,mx p63 m64 c65,.ext (ownX f_api_Ver 37 p19 c20 a18.Vers),.ext (ownX (fInt .u64) 25 p21 c22 a18.Vec),.box b26 93 [si 0,su 0,su 0,su 0,sg ByteArray.empty,sg ByteArray.empty,sl none 0 0,sl none 0 0,si 0,si 0,si 0,si 0,si 0,sg ByteArray.empty],.box b25 93 [si a18.Kind,su a18.Id,su a18.N,su a18.TS,sg a18.Lo,sg a18.Hi,sl p19 (a18.Vers).length c20,sl p21 (a18.Vec).length c22,si a18.Cmd.Kind,si a18.Cmd.DC,si a18.Cmd.Shard,si a18.Cmd.Node,si a18.Cmd.Mode,sg a18.Cmd.Key]])
 refine h53 _ _ (qs fun _ h70=>rgX hS [0,3,4,7,8,9,10,11] ?_)
 have hS:=hS.drew
 have hX:=hS.px [0,3,4,7,8,9,10,11]
 refine anp [0,1,2,4] [0,4,6,201,203] hF hX fun a hF=>atk 3 (some 202) hF hX rfl (vld 0 2 0) fun a hF=>atk 5 (some 204) hF hX rfl (vld 7 3 0) fun a hF=>ago 6 hF rfl (bd H fun x71 hx71 H=>wcS 2 [5,6,0,1,2,3,4,7,8,9,10,11] hF hS (fun hS=>C_part_Part_See N (T_part_Part.mk x54.part.clock x54.part.open_) a18.TS p60 m61 c62 b59 ⟨rfl,hS.pick [1] kr⟩ hx71) ?_)
 rintro _ κ w a ⟨p72,m73,c74,rfl,h2⟩ hF hB
 have hS:=hB _ _ h2
 refine ⟨fun _=>(hS.sx [2,5,6,7,8,9,10,11] (ra 1 11)),?_⟩
 refine and_ (h70 _ _ (qs fun _ h75=>rgX hS [0,1,2,7,8,9,10,11] ?_))
 have hS:=hS.drew
 have hX:=hS.px [0,1,2,7,8,9,10,11]
 refine anp [0,1,2,4] [0,4,6,208,210] hF hX fun a hF=>atk 3 (some 209) hF hX rfl (vld 2 1 0) fun a hF=>atk 5 (some 211) hF hX rfl (vld 7 1 0) fun a hF=>ago 6 hF rfl (bd H fun x76 hx76 H=>wcS 2 [5,6,0,1,2,3,4,7,8,9,10,11] hF hS (fun hS=>C_store_Store_Trim N (T_store_Store.mk x54.store.chains x54.store.floor) a18.Id p56 m57 c58 b55 ⟨rfl,hS.pick [1] kr⟩ hx76) ?_)
 rintro _ κ w a ⟨p77,m78,c79,rfl,h2⟩ hF hB
 have hS:=(hB _ _ h2).cC (C':=[.box b55 130 [sm p77,su x76.2.floor],mx p77 m78 c79,.box b59 174 [su x71.clock,sm p72],mx p72 m73 c74,.box b17 151 [si x54.dc,(1,[pt b55 0]),(1,[pt b59 0]),sm p63,sl p66 (x54.owned).length c67,sl p68 (x54.modes).length c69],.tok p66 157 3 (x54.owned).length c67,.tok p68 25 1 (x54.modes).length c69,mx p63 m64 c65,.ext (ownX f_api_Ver 37 p19 c20 a18.Vers),.ext (ownX (fInt .u64) 25 p21 c22 a18.Vec),.box b26 93 [si 0,su 0,su 0,su 0,sg ByteArray.empty,sg ByteArray.empty,sl none 0 0,sl none 0 0,si 0,si 0,si 0,si 0,si 0,sg ByteArray.empty],.box b25 93 [si a18.Kind,su a18.Id,su a18.N,su a18.TS,sg a18.Lo,sg a18.Hi,sl p19 (a18.Vers).length c20,sl p21 (a18.Vec).length c22,si a18.Cmd.Kind,si a18.Cmd.DC,si a18.Cmd.Shard,si a18.Cmd.Node,si a18.Cmd.Mode,sg a18.Cmd.Key]])
 refine ⟨fun _=>(hS.sx [2,3,4,7,8,9,10,11] (ra 1 12)),?_⟩
 refine and_ (h75 _ _ (qr fun _ h80=>(wp 2 [4,6,213,214] hF fun a hF=>wc (wld hF hS 11 4 0 fun a hF=>wp 1 [4,6,213,215,216] hF fun a hF=>wc (wld hF hS 11 5 0 fun a hF=>bd H fun x81 hx81 H=>wc (wcS 8 [4,5,6,0,1,2,3,7,8,9,10,11] hF hS (fun hS=>C_node_Node_own N (T_node_Node.mk x54.dc (T_store_Store.mk x76.2.chains x76.2.floor) (T_part_Part.mk x71.clock x71.open_) x54.writes x54.owned x54.modes) a18.Lo a18.Hi b55 p77 m78 c79 b59 p72 m73 c74 p63 m64 c65 p66 c67 p68 c69 b17 ⟨rfl,hS.pick [0,1,4,5,6] kr⟩ hx81) ?_))))))
 rintro _ κ w a ⟨b82,p83,m84,c85,b86,p87,m88,c89,p90,m91,c92,p93,c94,p95,c96,rfl,h2⟩ hF hB
 have hS:=hB _ _ h2
 refine h80 _ _ (qr fun _ h97=>(wp 1 [4,6,219] hF fun a hF=>wc (wld hF hS 11 4 0 fun a hF=>wp 1 [6,220,221] hF fun a hF=>wc (wld hF hS 11 5 0 fun a hF=>wp 1 [6,223] hF fun a hF=>wc (wst hF hS 10 0 14 [si 16,su 0,su 0,su 0,sg a18.Lo,sg a18.Hi,sl none 0 0,sl none 0 0,si 0,si 0,si 0,si 0,si 0,sg ByteArray.empty] (sgN 14 sgNil) fun a w hF hS=>wp 1 [6,7] hF fun a hF=>(h97 _ _ (rt ?_)))))))
 have hS':=hS
 have hS:=hS.addOwn f_api_Ver 37
 have hS:=hS.addOwn (fInt .u64) 25
 cases H
 exact ret_done0 hF hS (res2 Try.results62 (rvs hF hS' 10 0 14) (rvt hF)) ⟨none,0,none,0,b82,p83,m84,c85,b86,p87,m88,c89,p90,m91,c92,p93,c94,p95,c96,rfl,hS.sp [2,3,4,5,6,7,8,9,1,0,10,11] (rg 5)⟩
 refine qr fun _ h98=>(wp 2 [0,4,6,30,224] hF fun a hF=>(h98 _ _ (bc hF H (fun hb H=>?_) fun hb H=>?_)))
 cases H
 refine qr fun _ h99=>(wp 2 [0,4,6,30,235] hF fun a hF=>(h99 _ _ (bc hF H (fun hb H=>?_) fun hb H=>?_)))
 refine qs fun _ h100=>?_
 cases H
 refine qr fun _ h101=>(wp 2 [0,4,6,30,265] hF fun a hF=>(h101 _ _ (bc hF H (fun hb H=>?_) fun hb H=>?_)))
 cases H
 refine qr fun _ h102=>(wp 2 [0,4,6,30,274] hF fun a hF=>(h102 _ _ (bc hF H (fun hb H=>?_) fun hb H=>?_)))
 refine qs fun _ h103=>?_
 cases H
 refine qr fun _ h104=>(wp 2 [0,4,6,285] hF fun a hF=>(h104 _ _ (bc hF H (fun hb H=>?_) fun hb H=>?_)))
 cases H
 refine sk ?_
 exact ⟨_,hF.kp [6],hS.sp [0,2,3,4,5,6,9,10,11,7,8] (rg 5),H⟩
 rintro a w ⟨κ,hF,hS,H⟩
 unfold M.node_Node_Take_vtA_k1 at H
 refine qs fun _ h32=>?_
 cases H
theorem C_node_Node_Take_vtB (N:Nat){Ms:List Nat}{κ0:Gh}{w0:World}(a1:T_node_Node)(a18:T_api_Msg)(a23:Int)(b2:Nat)(p3:Option Nat)(m4:Array MapEntry)(c5:Nat)(b6:Nat)(p7:Option Nat)(m8:Array MapEntry)(c9:Nat)(p10:Option Nat)(m11:Array MapEntry)(c12:Nat)(p13:Option Addr)(c14:Nat)(p15:Option Addr)(c16:Nat)(p19:Option Addr)(c20:Nat)(p21:Option Addr)(c22:Nat)(b17:Nat)(hB:SB Ms κ0 w0 [.box b17 151 [si a1.dc,(1,[pt b2 0]),(1,[pt b6 0]),sm p10,sl p13 (a1.owned).length c14,sl p15 (a1.modes).length c16],.box b2 130 [sm p3,su a1.store.floor],mx p3 m4 c5,.box b6 174 [su a1.part.clock,sm p7],mx p7 m8 c9,mx p10 m11 c12,.ext (ownX f_api_Ver 37 p19 c20 a18.Vers),.ext (ownX (fInt .u64) 25 p21 c22 a18.Vec)] [Map.mp kStr false (tSl f_api_Ver.ty) p3 m4 c5 a1.store.chains,Map.mp (kInt .u64) false (fInt .u64).ty p7 m8 c9 a1.part.open_,Map.mp (kInt .u64) false (tSl f_api_Ver.ty) p10 m11 c12 a1.writes,Ro.mp f_span_Shard.ty p13 c14 a1.owned,Ro.mp (fInt .u64).ty p15 c16 a1.modes]){r:(T_api_Msg×Bool)}(H:M.node_Node_Take_vtB N a1 a18 a23=some r) :
    Calls Try.prog 62 #[pt b17 0,.agg (flat [si a18.Kind,su a18.Id,su a18.N,su a18.TS,sg a18.Lo,sg a18.Hi,sl p19 (a18.Vers).length c20,sl p21 (a18.Vec).length c22,si a18.Cmd.Kind,si a18.Cmd.DC,si a18.Cmd.Shard,si a18.Cmd.Node,si a18.Cmd.Mode,sg a18.Cmd.Key]).toArray,vi a23] w0 (Post Ms κ0 w0 fun v κ w => ∃(p137:Option Addr) (c138:Nat) (p139:Option Addr) (c140:Nat),v = .tuple #[.agg (flat [si r.1.Kind,su r.1.Id,su r.1.N,su r.1.TS,sg r.1.Lo,sg r.1.Hi,sl p137 (r.1.Vers).length c138,sl p139 (r.1.Vec).length c140,si r.1.Cmd.Kind,si r.1.Cmd.DC,si r.1.Cmd.Shard,si r.1.Cmd.Node,si r.1.Cmd.Mode,sg r.1.Cmd.Key]).toArray,vb r.2]∧SS Ms κ0 w0 κ w [.box b17 151 [si a1.dc,(1,[pt b2 0]),(1,[pt b6 0]),sm p10,sl p13 (a1.owned).length c14,sl p15 (a1.modes).length c16],.box b2 130 [sm p3,su a1.store.floor],mx p3 m4 c5,.box b6 174 [su a1.part.clock,sm p7],mx p7 m8 c9,mx p10 m11 c12,.ext (ownX f_api_Ver 37 p137 c138 r.1.Vers),.ext (ownX (fInt .u64) 25 p139 c140 r.1.Vec),.ext (ownX f_api_Ver 37 p19 c20 a18.Vers),.ext (ownX (fInt .u64) 25 p21 c22 a18.Vec)] []):=by
 have hS:=hB.hS
 have hfr:=hS.fresh
 refine enterM (N:=(295)) (L:=[(0,pt b17 0),(1,.agg (flat [si a18.Kind,su a18.Id,su a18.N,su a18.TS,sg a18.Lo,sg a18.Hi,sl p19 (a18.Vers).length c20,sl p21 (a18.Vec).length c22,si a18.Cmd.Kind,si a18.Cmd.DC,si a18.Cmd.Shard,si a18.Cmd.Node,si a18.Cmd.Mode,sg a18.Cmd.Key]).toArray),(2,vi a23)]) Try.func62 rfl Try.ntmps62 (show 3≤(295) by decide) rfl fun a hF=>?_
 unfold M.node_Node_Take_vtB at H
 refine qr fun _ h24=>(wc (wbx hF hS [si a18.Kind,su a18.Id,su a18.N,su a18.TS,sg a18.Lo,sg a18.Hi,sl p19 (a18.Vers).length c20,sl p21 (a18.Vec).length c22,si a18.Cmd.Kind,si a18.Cmd.DC,si a18.Cmd.Shard,si a18.Cmd.Node,si a18.Cmd.Mode,sg a18.Cmd.Key] (sgN 14 sgNil) fun b25 a w hF hS=>wc (wal hF hS [si 0,su 0,su 0,su 0,sg ByteArray.empty,sg ByteArray.empty,sl none 0 0,sl none 0 0,si 0,si 0,si 0,si 0,si 0,sg ByteArray.empty] (sgN 14 sgNil) fun b26 a w hF hS=>?_)))
 refine wp 1 [0,2,4,6] hF fun a hF=>(h24 _ _ (qs fun _ h27=>qr fun _ h28=>(bd H fun v30 hv30 H=>wl_join (fun a w => ∃κ:Gh,Fr (295) [] [(0,pt b17 0),(2,vi a23),(4,pt b25 0),(6,pt b26 0),(27,vb v30)] a∧SS Ms κ0 w0 κ w [.box b26 93 [si 0,su 0,su 0,su 0,sg ByteArray.empty,sg ByteArray.empty,sl none 0 0,sl none 0 0,si 0,si 0,si 0,si 0,si 0,sg ByteArray.empty],.box b25 93 [si a18.Kind,su a18.Id,su a18.N,su a18.TS,sg a18.Lo,sg a18.Hi,sl p19 (a18.Vers).length c20,sl p21 (a18.Vec).length c22,si a18.Cmd.Kind,si a18.Cmd.DC,si a18.Cmd.Shard,si a18.Cmd.Node,si a18.Cmd.Mode,sg a18.Cmd.Key],.box b17 151 [si a1.dc,(1,[pt b2 0]),(1,[pt b6 0]),sm p10,sl p13 (a1.owned).length c14,sl p15 (a1.modes).length c16],.box b2 130 [sm p3,su a1.store.floor],.box b6 174 [su a1.part.clock,sm p7],.ext (ownX f_api_Ver 37 p19 c20 a18.Vers),.ext (ownX (fInt .u64) 25 p21 c22 a18.Vec),mx p3 m4 c5,mx p7 m8 c9,mx p10 m11 c12] [Map.mp kStr false (tSl f_api_Ver.ty) p3 m4 c5 a1.store.chains,Map.mp (kInt .u64) false (fInt .u64).ty p7 m8 c9 a1.part.open_,Map.mp (kInt .u64) false (tSl f_api_Ver.ty) p10 m11 c12 a1.writes,Ro.mp f_span_Shard.ty p13 c14 a1.owned,Ro.mp (fInt .u64).ty p15 c16 a1.modes]∧True) ?_ ?_)))
 refine wp 7 [0,2,4,6,24] hF fun a hF=>bs hv30 (fun hb hv30=>?_) fun hb hv30=>?_
 have hF:=hF.bv 24 hb
 refine wp 3 [0,2,4,6,27] hF fun a hF=>nl ?_
 cases hv30
 exact ⟨_,hF.kp [0,2,4,6,27],hS.sp [0,1,2,3,5,8,9,4,6,7] (rg 5),trivial⟩
 have hF:=hF.bv 24 hb
 refine wp 3 [0,2,4,6,27] hF fun a hF=>nl ?_
 cases hv30
 exact ⟨_,hF.kp [0,2,4,6,27],hS.sp [0,1,2,3,5,8,9,4,6,7] (rg 5),trivial⟩
 rintro a w ⟨κ,hF,hS,-⟩
 refine h28 _ _ (bc hF H (fun hb H=>?_) fun hb H=>?_)
 refine qs fun _ h31=>?_
 cases H
 refine sk (h27 _ _ (seq_join (fun a w => ∃κ:Gh,Fr (295) [] [(6,pt b26 0)] a∧SS Ms κ0 w0 κ w [.box b26 93 [si 0,su 0,su 0,su 0,sg ByteArray.empty,sg ByteArray.empty,sl none 0 0,sl none 0 0,si 0,si 0,si 0,si 0,si 0,sg ByteArray.empty],.box b17 151 [si a1.dc,(1,[pt b2 0]),(1,[pt b6 0]),sm p10,sl p13 (a1.owned).length c14,sl p15 (a1.modes).length c16],.box b2 130 [sm p3,su a1.store.floor],.box b6 174 [su a1.part.clock,sm p7],mx p3 m4 c5,mx p7 m8 c9,mx p10 m11 c12,.ext (ownX f_api_Ver 37 p19 c20 a18.Vers),.ext (ownX (fInt .u64) 25 p21 c22 a18.Vec)] [Map.mp kStr false (tSl f_api_Ver.ty) p3 m4 c5 a1.store.chains,Map.mp (kInt .u64) false (fInt .u64).ty p7 m8 c9 a1.part.open_,Map.mp (kInt .u64) false (tSl f_api_Ver.ty) p10 m11 c12 a1.writes,Ro.mp f_span_Shard.ty p13 c14 a1.owned,Ro.mp (fInt .u64).ty p15 c16 a1.modes]∧M.node_Node_Take_vtB_k1 N a1 a18=some r) ?_ ?_))
 refine qr fun _ h33=>(wp 1 [0,2,4,6,29] hF fun a hF=>wc (wld hF hS 1 0 0 fun a hF=>(h33 _ _ (bk (qr fun _ h34=>(wp 2 [0,2,4,6,30,31] hF fun a hF=>(h34 _ _ (bc hF H (fun hb H=>?_) fun hb H=>?_))))))))
 refine qs fun _ h35=>?_
 cases H
 refine qr fun _ h36=>(wp 2 [0,2,4,6,30,39] hF fun a hF=>(h36 _ _ (bc hF H (fun hb H=>?_) fun hb H=>?_)))
 refine qs fun _ h37=>qs fun _ h38=>?_
 cases H
 refine qr fun _ h39=>(wp 2 [0,4,6,30,93] hF fun a hF=>(h39 _ _ (bc hF H (fun hb H=>?_) fun hb H=>?_)))
 refine qs fun _ h40=>qs fun _ h41=>?_
 cases H
 refine qr fun _ h42=>(wp 2 [0,4,6,30,128] hF fun a hF=>(h42 _ _ (bc hF H (fun hb H=>?_) fun hb H=>?_)))
 refine qs fun _ h43=>?_
 cases H
 refine qr fun _ h44=>(wp 2 [0,4,6,30,136] hF fun a hF=>(h44 _ _ (bc hF H (fun hb H=>?_) fun hb H=>?_)))
 refine seq_join (fun a w => ∃κ:Gh,Fr (295) [] [(0,pt b17 0),(4,pt b25 0),(6,pt b26 0)] a∧SS Ms κ0 w0 κ w [.box b26 93 [si 0,su 0,su 0,su 0,sg ByteArray.empty,sg ByteArray.empty,sl none 0 0,sl none 0 0,si 0,si 0,si 0,si 0,si 0,sg ByteArray.empty],.box b25 93 [si a18.Kind,su a18.Id,su a18.N,su a18.TS,sg a18.Lo,sg a18.Hi,sl p19 (a18.Vers).length c20,sl p21 (a18.Vec).length c22,si a18.Cmd.Kind,si a18.Cmd.DC,si a18.Cmd.Shard,si a18.Cmd.Node,si a18.Cmd.Mode,sg a18.Cmd.Key],.box b17 151 [si a1.dc,(1,[pt b2 0]),(1,[pt b6 0]),sm p10,sl p13 (a1.owned).length c14,sl p15 (a1.modes).length c16],.box b2 130 [sm p3,su a1.store.floor],.box b6 174 [su a1.part.clock,sm p7],.ext (ownX f_api_Ver 37 p19 c20 a18.Vers),.ext (ownX (fInt .u64) 25 p21 c22 a18.Vec),mx p3 m4 c5,mx p7 m8 c9,mx p10 m11 c12] [Map.mp kStr false (tSl f_api_Ver.ty) p3 m4 c5 a1.store.chains,Map.mp (kInt .u64) false (fInt .u64).ty p7 m8 c9 a1.part.open_,Map.mp (kInt .u64) false (tSl f_api_Ver.ty) p10 m11 c12 a1.writes,Ro.mp f_span_Shard.ty p13 c14 a1.owned,Ro.mp (fInt .u64).ty p15 c16 a1.modes]∧M.node_Node_Take_vtB_k2 N a1 a18=some r) ?_ ?_
 refine qr fun _ h127=>(wp 1 [0,4,6,138] hF fun a hF=>wc (wld hF hS 1 2 0 fun a hF=>wp 1 [0,4,6,140] hF fun a hF=>(h127 _ _ (bc hF H (fun hb H=>?_) fun hb H=>?_))))
 cases H
 refine sk ?_
 exact ⟨_,hF.kp [0,4,6],hS.sp (rg 10) (rg 5),H⟩
 rintro a w ⟨κ,hF,hS,H⟩
 unfold M.node_Node_Take_vtB_k2 at H
 refine qs fun _ h45=>bd H fun v49 hv49 H=>code_join (fun a w => ∃(κ:Gh) (b46:Nat),Fr (295) [] [(0,pt b17 0),(4,pt b25 0),(6,pt b26 0),(14,pt b46 0)] a∧SS Ms κ0 w0 κ w [.box b2 130 [sm p3,su a1.store.floor],.box b6 174 [su a1.part.clock,sm p7],.box b26 93 [si 0,su 0,su 0,su 0,sg ByteArray.empty,sg ByteArray.empty,sl none 0 0,sl none 0 0,si 0,si 0,si 0,si 0,si 0,sg ByteArray.empty],.box b25 93 [si a18.Kind,su a18.Id,su a18.N,su a18.TS,sg a18.Lo,sg a18.Hi,sl p19 (a18.Vers).length c20,sl p21 (a18.Vec).length c22,si a18.Cmd.Kind,si a18.Cmd.DC,si a18.Cmd.Shard,si a18.Cmd.Node,si a18.Cmd.Mode,sg a18.Cmd.Key],.box b17 151 [si a1.dc,(1,[pt b2 0]),(1,[pt b6 0]),sm p10,sl p13 (a1.owned).length c14,sl p15 (a1.modes).length c16],.box b46 93 [si 15,su v49.1,su a18.N,su v49.2,sg a18.Lo,sg a18.Hi,sl none 0 0,sl none 0 0,si 0,si 0,si 0,si 0,si 0,sg ByteArray.empty],.ext (ownX f_api_Ver 37 p19 c20 a18.Vers),.ext (ownX (fInt .u64) 25 p21 c22 a18.Vec),mx p3 m4 c5,mx p7 m8 c9,mx p10 m11 c12] [Map.mp kStr false (tSl f_api_Ver.ty) p3 m4 c5 a1.store.chains,Map.mp (kInt .u64) false (fInt .u64).ty p7 m8 c9 a1.part.open_,Map.mp (kInt .u64) false (tSl f_api_Ver.ty) p10 m11 c12 a1.writes,Ro.mp f_span_Shard.ty p13 c14 a1.owned,Ro.mp (fInt .u64).ty p15 c16 a1.modes]∧True) ?_ ?_
 refine rgS hS [18] ?_
 have hS:=hS.drew
 have hX:=hS.fx
 refine bd hv49 fun x50 hx50 hv49=>bd hv49 fun x51 hx51 hv49=>anp [0,2,4,6,7,8,11,12,13] [0,4,6,147,149,151,155,160] hF hX fun a hF=>atk 1 (some 148) hF hX rfl (vld 1 2 0) fun a hF=>atk 3 (some 150) hF hX rfl (vld 1 4 0) fun a hF=>atk 5 (some 152) hF hX rfl (vld 1 5 0) fun a hF=>atk 9 (some 156) hF hX rfl (vld 2 2 0) fun a hF=>atk 14 (some 161) hF hX rfl (vld 2 1 0) fun a hF=>ago2 10 17 hF rfl rfl ?_ ?_
 refine wcS 2 [4,8,0,1,2,3,5,6,7,9] hF hS (fun hS=>C_part_Part_Clock N (T_part_Part.mk a1.part.clock a1.part.open_) p7 m8 c9 b6 ⟨rfl,hS.pick [1] kr⟩ hx50) ?_
 rintro _ κ w a ⟨rfl,h2⟩ hF hB
 have hS:=hB _ _ h2
 refine ⟨fun _=>(hS.sx [2,3,4,5,0,6,7,8,1,9] (rg 5)),?_⟩
 refine ago2 15 17 hF rfl rfl ?_ ?_
 refine wcS 2 [5,8,0,1,2,3,4,6,7,9] hF hS (fun hS=>C_store_Store_Floor N (T_store_Store.mk a1.store.chains a1.store.floor) p3 m4 c5 b2 ⟨rfl,hS.pick [0] kr⟩ hx51) ?_
 rintro _ κ w a ⟨rfl,h2⟩ hF hB
 have hS:=(hB _ _ h2).cC (C':=[.box b2 130 [sm p3,su a1.store.floor],mx p3 m4 c5,.box b6 174 [su a1.part.clock,sm p7],mx p7 m8 c9,.box b26 93 [si 0,su 0,su 0,su 0,sg ByteArray.empty,sg ByteArray.empty,sl none 0 0,sl none 0 0,si 0,si 0,si 0,si 0,si 0,sg ByteArray.empty],.box b25 93 [si a18.Kind,su a18.Id,su a18.N,su a18.TS,sg a18.Lo,sg a18.Hi,sl p19 (a18.Vers).length c20,sl p21 (a18.Vec).length c22,si a18.Cmd.Kind,si a18.Cmd.DC,si a18.Cmd.Shard,si a18.Cmd.Node,si a18.Cmd.Mode,sg a18.Cmd.Key],.box b17 151 [si a1.dc,(1,[pt b2 0]),(1,[pt b6 0]),sm p10,sl p13 (a1.owned).length c14,sl p15 (a1.modes).length c16],.ext (ownX f_api_Ver 37 p19 c20 a18.Vers),.ext (ownX (fInt .u64) 25 p21 c22 a18.Vec),mx p10 m11 c12])
 refine ⟨fun _=>(hS.sx [4,5,6,0,2,7,8,1,3,9] (rg 5)),?_⟩
 refine anp [16] [0,4,6,163] hF (hS.sx [4,5,6,0,2,7,8,1,3,9] (rg 5)) fun a hF=>ago 17 hF rfl (wal hF hS [si 0,su 0,su 0,su 0,sg ByteArray.empty,sg ByteArray.empty,sl none 0 0,sl none 0 0,si 0,si 0,si 0,si 0,si 0,sg ByteArray.empty] (sgN 14 sgNil) fun b52 a w hF hS=>⟨fun _=>(hS.sx [5,6,7,1,3,8,9,2,4,10] (rg 5)),?_⟩)
 refine ago 18 hF rfl (wst hF hS 0 0 14 [si 15,su x51,su a18.N,su x50,sg a18.Lo,sg a18.Hi,sl none 0 0,sl none 0 0,si 0,si 0,si 0,si 0,si 0,sg ByteArray.empty] (sgN 14 sgNil) fun a w hF hS=>⟨notE,?_⟩)
 refine and_ ?_
 cases hv49
 exact ⟨_,b52,hF.kp [0,4,6,14],hS.sp [1,3,5,6,7,0,8,9,2,4,10] (rg 5),trivial⟩
 refine wal hF hS [si 0,su 0,su 0,su 0,sg ByteArray.empty,sg ByteArray.empty,sl none 0 0,sl none 0 0,si 0,si 0,si 0,si 0,si 0,sg ByteArray.empty] (sgN 14 sgNil) fun b52 a w hF hS=>⟨fun _=>(hS.sx [3,4,5,6,1,7,8,9,2,10] (rg 5)),?_⟩
 refine ago 15 hF rfl (wcS 2 [6,9,0,1,2,3,4,5,7,8,10] hF hS (fun hS=>C_store_Store_Floor N (T_store_Store.mk a1.store.chains a1.store.floor) p3 m4 c5 b2 ⟨rfl,hS.pick [0] kr⟩ hx51) ?_)
 rintro _ κ w a ⟨rfl,h2⟩ hF hB
 have hS:=(hB _ _ h2).cC (C':=[.box b2 130 [sm p3,su a1.store.floor],mx p3 m4 c5,.box b52 93 [si 0,su 0,su 0,su 0,sg ByteArray.empty,sg ByteArray.empty,sl none 0 0,sl none 0 0,si 0,si 0,si 0,si 0,si 0,sg ByteArray.empty],.box b6 174 [su a1.part.clock,sm p7],mx p7 m8 c9,.box b26 93 [si 0,su 0,su 0,su 0,sg ByteArray.empty,sg ByteArray.empty,sl none 0 0,sl none 0 0,si 0,si 0,si 0,si 0,si 0,sg ByteArray.empty],.box b25 93 [si a18.Kind,su a18.Id,su a18.N,su a18.TS,sg a18.Lo,sg a18.Hi,sl p19 (a18.Vers).length c20,sl p21 (a18.Vec).length c22,si a18.Cmd.Kind,si a18.Cmd.DC,si a18.Cmd.Shard,si a18.Cmd.Node,si a18.Cmd.Mode,sg a18.Cmd.Key],.box b17 151 [si a1.dc,(1,[pt b2 0]),(1,[pt b6 0]),sm p10,sl p13 (a1.owned).length c14,sl p15 (a1.modes).length c16],.ext (ownX f_api_Ver 37 p19 c20 a18.Vers),.ext (ownX (fInt .u64) 25 p21 c22 a18.Vec),mx p10 m11 c12])
 refine ⟨fun _=>(hS.sx [5,6,7,0,3,8,9,1,4,10] (rg 5)),?_⟩
 refine anp [16] [0,4,6,14,163] hF (hS.sx [5,6,7,0,3,8,9,1,4,10] (rg 5)) fun a hF=>ago 18 hF rfl (wst hF hS 2 0 14 [si 15,su x51,su a18.N,su x50,sg a18.Lo,sg a18.Hi,sl none 0 0,sl none 0 0,si 0,si 0,si 0,si 0,si 0,sg ByteArray.empty] (sgN 14 sgNil) fun a w hF hS=>⟨notE,?_⟩)
 refine and_ ?_
 cases hv49
 exact ⟨_,b52,hF.kp [0,4,6,14],hS.sp [0,3,5,6,7,2,8,9,1,4,10] (rg 5),trivial⟩
 refine wal hF hS [si 0,su 0,su 0,su 0,sg ByteArray.empty,sg ByteArray.empty,sl none 0 0,sl none 0 0,si 0,si 0,si 0,si 0,si 0,sg ByteArray.empty] (sgN 14 sgNil) fun b52 a w hF hS=>⟨fun _=>(hS.sx (ra 1 10) (rg 5)),?_⟩
 refine ago 10 hF rfl (wcS 2 [5,9,0,1,2,3,4,6,7,8,10] hF hS (fun hS=>C_part_Part_Clock N (T_part_Part.mk a1.part.clock a1.part.open_) p7 m8 c9 b6 ⟨rfl,hS.pick [1] kr⟩ hx50) ?_)
 rintro _ κ w a ⟨rfl,h2⟩ hF hB
 have hS:=hB _ _ h2
 refine ⟨fun _=>(hS.sx [3,4,5,6,0,7,8,9,1,10] (rg 5)),?_⟩
 refine ago 15 hF rfl (wcS 2 [6,9,0,1,2,3,4,5,7,8,10] hF hS (fun hS=>C_store_Store_Floor N (T_store_Store.mk a1.store.chains a1.store.floor) p3 m4 c5 b2 ⟨rfl,hS.pick [0] kr⟩ hx51) ?_)
 rintro _ κ w a ⟨rfl,h2⟩ hF hB
 have hS:=(hB _ _ h2).cC (C':=[.box b2 130 [sm p3,su a1.store.floor],mx p3 m4 c5,.box b6 174 [su a1.part.clock,sm p7],mx p7 m8 c9,.box b52 93 [si 0,su 0,su 0,su 0,sg ByteArray.empty,sg ByteArray.empty,sl none 0 0,sl none 0 0,si 0,si 0,si 0,si 0,si 0,sg ByteArray.empty],.box b26 93 [si 0,su 0,su 0,su 0,sg ByteArray.empty,sg ByteArray.empty,sl none 0 0,sl none 0 0,si 0,si 0,si 0,si 0,si 0,sg ByteArray.empty],.box b25 93 [si a18.Kind,su a18.Id,su a18.N,su a18.TS,sg a18.Lo,sg a18.Hi,sl p19 (a18.Vers).length c20,sl p21 (a18.Vec).length c22,si a18.Cmd.Kind,si a18.Cmd.DC,si a18.Cmd.Shard,si a18.Cmd.Node,si a18.Cmd.Mode,sg a18.Cmd.Key],.box b17 151 [si a1.dc,(1,[pt b2 0]),(1,[pt b6 0]),sm p10,sl p13 (a1.owned).length c14,sl p15 (a1.modes).length c16],.ext (ownX f_api_Ver 37 p19 c20 a18.Vers),.ext (ownX (fInt .u64) 25 p21 c22 a18.Vec),mx p10 m11 c12])
 refine ⟨fun _=>(hS.sx [5,6,7,0,2,8,9,1,3,10] (rg 5)),?_⟩
 refine anp [16] [0,4,6,14,163] hF (hS.sx [5,6,7,0,2,8,9,1,3,10] (rg 5)) fun a hF=>ago 18 hF rfl (wst hF hS 4 0 14 [si 15,su x51,su a18.N,su x50,sg a18.Lo,sg a18.Hi,sl none 0 0,sl none 0 0,si 0,si 0,si 0,si 0,si 0,sg ByteArray.empty] (sgN 14 sgNil) fun a w hF hS=>⟨notE,?_⟩)
 refine and_ ?_
 cases hv49
 exact ⟨_,b52,hF.kp [0,4,6,14],hS.sp [0,2,5,6,7,4,8,9,1,3,10] (rg 5),trivial⟩
 rintro a w ⟨κ,b46,hF,hS,-⟩
 refine h45 _ _ (seq_join (fun a w => ∃(κ:Gh) (p53:Option Addr) (c54:Nat) (y55:List T_api_Ver) (b56:Nat),Fr (295) [mark b56] [(6,pt b26 0),(14,pt b46 0)] a∧SS Ms κ0 w0 κ w [.box b6 174 [su a1.part.clock,sm p7],.box b26 93 [si 0,su 0,su 0,su 0,sg ByteArray.empty,sg ByteArray.empty,sl none 0 0,sl none 0 0,si 0,si 0,si 0,si 0,si 0,sg ByteArray.empty],.box b17 151 [si a1.dc,(1,[pt b2 0]),(1,[pt b6 0]),sm p10,sl p13 (a1.owned).length c14,sl p15 (a1.modes).length c16],.box b46 93 [si 15,su v49.1,su a18.N,su v49.2,sg a18.Lo,sg a18.Hi,sl p53 y55.length c54,sl none 0 0,si 0,si 0,si 0,si 0,si 0,sg ByteArray.empty],.box b2 130 [sm p3,su a1.store.floor],mx p3 m4 c5,mx p7 m8 c9,mx p10 m11 c12,.ext (ownX f_api_Ver 37 p53 c54 y55),.ext (ownX f_api_Ver 37 p19 c20 a18.Vers),.ext (ownX (fInt .u64) 25 p21 c22 a18.Vec),.ext (defX b56)] [Map.mp (kInt .u64) false (fInt .u64).ty p7 m8 c9 a1.part.open_,Map.mp kStr false (tSl f_api_Ver.ty) p3 m4 c5 a1.store.chains,Map.mp (kInt .u64) false (tSl f_api_Ver.ty) p10 m11 c12 a1.writes,Ro.mp f_span_Shard.ty p13 c14 a1.owned,Ro.mp (fInt .u64).ty p15 c16 a1.modes]∧M.node_Node_Take_vtB_k3 N a1 a18 v49 y55=some r) ?_ ?_)
 refine qs fun _ h58=>rgS hS [] ?_
 have hS:=hS.drew
 have hX:=hS.fx
 refine any_pure [0,1,2,4,6] [6,14,166,168,170] (L':=[(6,pt b26 0),(14,pt b46 0),(166,pt b17 1),(168,pt b25 4),(170,pt b25 5)]) (listed':=(bitA 9 87)) (fuel:=4) hF hX kr (by intro c a w t v h; cases t<;>exact h) kr rfl fun a hF=>atk 3 (some 167) hF hX rfl (vld 4 1 0) fun a hF=>atk 5 (some 169) hF hX rfl (vld 3 4 0) fun a hF=>atk 7 (some 171) hF hX rfl (vld 3 5 0) fun a hF=>ago 8 hF rfl (bd H fun x59 hx59 H=>wcS 2 [0,8,1,2,3,4,5,6,7,9,10] hF hS (fun hS=>C_store_Store_All N (T_store_Store.mk a1.store.chains a1.store.floor) a18.Lo a18.Hi p3 m4 c5 b2 ⟨rfl,hS.pick [0] kr⟩ hx59) ?_)
 rintro _ κ w a ⟨b60,b61,b62,rfl,h2⟩ hF hB
 have hS:=hB _ _ h2
 refine ⟨fun _=>(hS.sx [0,5,6,7,8,9,10,11,1,12,13] (rg 5)),?_⟩
 refine and_ (h58 _ _ (bk (bd H fun v126 hv126 H=>?_)))
 have hS:=hS.addOwn f_api_Ver 37
 have hS:SS Ms κ0 w0 _ _ [.box b6 174 [su a1.part.clock,sm p7],.box b26 93 [si 0,su 0,su 0,su 0,sg ByteArray.empty,sg ByteArray.empty,sl none 0 0,sl none 0 0,si 0,si 0,si 0,si 0,si 0,sg ByteArray.empty],.box b17 151 [si a1.dc,(1,[pt b2 0]),(1,[pt b6 0]),sm p10,sl p13 (a1.owned).length c14,sl p15 (a1.modes).length c16],.box b46 93 [si 15,su v49.1,su a18.N,su v49.2,sg a18.Lo,sg a18.Hi,sl none 0 0,sl none 0 0,si 0,si 0,si 0,si 0,si 0,sg ByteArray.empty],mx p7 m8 c9,mx p10 m11 c12,.ext (ownX f_api_Ver 37 none 0 ([]:List T_api_Ver)),.ext (ownX f_api_Ver 37 p19 c20 a18.Vers),.ext (ownX (fInt .u64) 25 p21 c22 a18.Vec),.box b60 55 [(1,[pt b2 0])],.box b61 9 [sg a18.Lo],.box b62 9 [sg a18.Hi],.box b2 130 [sm p3,su a1.store.floor],mx p3 m4 c5] _:=hS.selp [6,7,9,10,13,14,0,11,12,3,4,5,1,2] dc kr
 refine wp_rangeC' (C:=[.box b6 174 [su a1.part.clock,sm p7],.box b26 93 [si 0,su 0,su 0,su 0,sg ByteArray.empty,sg ByteArray.empty,sl none 0 0,sl none 0 0,si 0,si 0,si 0,si 0,si 0,sg ByteArray.empty],.box b17 151 [si a1.dc,(1,[pt b2 0]),(1,[pt b6 0]),sm p10,sl p13 (a1.owned).length c14,sl p15 (a1.modes).length c16],.box b46 93 [si 15,su v49.1,su a18.N,su v49.2,sg a18.Lo,sg a18.Hi,sl none 0 0,sl none 0 0,si 0,si 0,si 0,si 0,si 0,sg ByteArray.empty],mx p7 m8 c9,mx p10 m11 c12,.ext (ownX f_api_Ver 37 none 0 ([]:List T_api_Ver)),.ext (ownX f_api_Ver 37 p19 c20 a18.Vers),.ext (ownX (fInt .u64) 25 p21 c22 a18.Vec)]) (Cap:=[.box b60 55 [(1,[pt b2 0])],.box b61 9 [sg a18.Lo],.box b62 9 [sg a18.Hi],.box b2 130 [sm p3,su a1.store.floor],mx p3 m4 c5]) (Cap2:=[.box b60 55 [(1,[pt b2 0])],.box b61 9 [sg a18.Lo],.box b62 9 [sg a18.Hi],.box b2 130 [sm p3,su a1.store.floor],mx p3 m4 c5]) (Rc:=[Map.mp kStr false (tSl f_api_Ver.ty) p3 m4 c5 a1.store.chains]) (R':=[Map.mp (kInt .u64) false (fInt .u64).ty p7 m8 c9 a1.part.open_,Map.mp kStr false (tSl f_api_Ver.ty) p3 m4 c5 a1.store.chains,Map.mp (kInt .u64) false (tSl f_api_Ver.ty) p10 m11 c12 a1.writes,Ro.mp f_span_Shard.ty p13 c14 a1.owned,Ro.mp (fInt .u64).ty p15 c16 a1.modes]) (caps := #[pt b60 0,pt b61 0,pt b62 0]) (f:=79) [.exit 4] (fun l => #[.func (.yield l) #[] #[],pt b60 0,pt b61 0,pt b62 0]) hF hS kr (fun _ _=>rfl) ((hS.pick [1,0,2,3,4] kr).ro) (fun l=>by kernel_rfl) fun b63 l rc w hrc hS=>?_
 refine ⟨fun x=>(fun (v118:((List T_api_Ver)×Nat)) (x:XF) => ∃(p115:Option Addr) (c116:Nat),x=mkX b63 l (lp rc [.exit 4] v118.2) [.box b6 174 [su a1.part.clock,sm p7],.box b26 93 [si 0,su 0,su 0,su 0,sg ByteArray.empty,sg ByteArray.empty,sl none 0 0,sl none 0 0,si 0,si 0,si 0,si 0,si 0,sg ByteArray.empty],.box b17 151 [si a1.dc,(1,[pt b2 0]),(1,[pt b6 0]),sm p10,sl p13 (a1.owned).length c14,sl p15 (a1.modes).length c16],.box b46 93 [si 15,su v49.1,su a18.N,su v49.2,sg a18.Lo,sg a18.Hi,sl p115 (v118.1).length c116,sl none 0 0,si 0,si 0,si 0,si 0,si 0,sg ByteArray.empty],mx p7 m8 c9,mx p10 m11 c12,.ext (ownX f_api_Ver 37 p115 c116 v118.1),.ext (ownX f_api_Ver 37 p19 c20 a18.Vers),.ext (ownX (fInt .u64) 25 p21 c22 a18.Vec)] [Map.mp (kInt .u64) false (fInt .u64).ty p7 m8 c9 a1.part.open_,Map.mp kStr false (tSl f_api_Ver.ty) p3 m4 c5 a1.store.chains,Map.mp (kInt .u64) false (tSl f_api_Ver.ty) p10 m11 c12 a1.writes,Ro.mp f_span_Shard.ty p13 c14 a1.owned,Ro.mp (fInt .u64).ty p15 c16 a1.modes]) v126 x,?_,?_⟩
 have hS:=(hS.rebase.add (m:=MP.const ((fun (v118:((List T_api_Ver)×Nat)) (x:XF) => ∃(p115:Option Addr) (c116:Nat),x=mkX b63 l (lp rc [.exit 4] v118.2) [.box b6 174 [su a1.part.clock,sm p7],.box b26 93 [si 0,su 0,su 0,su 0,sg ByteArray.empty,sg ByteArray.empty,sl none 0 0,sl none 0 0,si 0,si 0,si 0,si 0,si 0,sg ByteArray.empty],.box b17 151 [si a1.dc,(1,[pt b2 0]),(1,[pt b6 0]),sm p10,sl p13 (a1.owned).length c14,sl p15 (a1.modes).length c16],.box b46 93 [si 15,su v49.1,su a18.N,su v49.2,sg a18.Lo,sg a18.Hi,sl p115 (v118.1).length c116,sl none 0 0,si 0,si 0,si 0,si 0,si 0,sg ByteArray.empty],mx p7 m8 c9,mx p10 m11 c12,.ext (ownX f_api_Ver 37 p115 c116 v118.1),.ext (ownX f_api_Ver 37 p19 c20 a18.Vers),.ext (ownX (fInt .u64) 25 p21 c22 a18.Vec)] [Map.mp (kInt .u64) false (fInt .u64).ty p7 m8 c9 a1.part.open_,Map.mp kStr false (tSl f_api_Ver.ty) p3 m4 c5 a1.store.chains,Map.mp (kInt .u64) false (tSl f_api_Ver.ty) p10 m11 c12 a1.writes,Ro.mp f_span_Shard.ty p13 c14 a1.owned,Ro.mp (fInt .u64).ty p15 c16 a1.modes]) (([]:List T_api_Ver),0) (mkX b63 l (lp rc [.exit 4] 0) [.box b6 174 [su a1.part.clock,sm p7],.box b26 93 [si 0,su 0,su 0,su 0,sg ByteArray.empty,sg ByteArray.empty,sl none 0 0,sl none 0 0,si 0,si 0,si 0,si 0,si 0,sg ByteArray.empty],.box b17 151 [si a1.dc,(1,[pt b2 0]),(1,[pt b6 0]),sm p10,sl p13 (a1.owned).length c14,sl p15 (a1.modes).length c16],.box b46 93 [si 15,su v49.1,su a18.N,su v49.2,sg a18.Lo,sg a18.Hi,sl none 0 0,sl none 0 0,si 0,si 0,si 0,si 0,si 0,sg ByteArray.empty],mx p7 m8 c9,mx p10 m11 c12,.ext (ownX f_api_Ver 37 none 0 ([]:List T_api_Ver)),.ext (ownX f_api_Ver 37 p19 c20 a18.Vers),.ext (ownX (fInt .u64) 25 p21 c22 a18.Vec)] [Map.mp (kInt .u64) false (fInt .u64).ty p7 m8 c9 a1.part.open_,Map.mp kStr false (tSl f_api_Ver.ty) p3 m4 c5 a1.store.chains,Map.mp (kInt .u64) false (tSl f_api_Ver.ty) p10 m11 c12 a1.writes,Ro.mp f_span_Shard.ty p13 c14 a1.owned,Ro.mp (fInt .u64).ty p15 c16 a1.modes]))) ⟨none,0,rfl⟩).pick (R':=[Map.mp kStr false (tSl f_api_Ver.ty) p3 m4 c5 a1.store.chains,MP.const ((fun (v118:((List T_api_Ver)×Nat)) (x:XF) => ∃(p115:Option Addr) (c116:Nat),x=mkX b63 l (lp rc [.exit 4] v118.2) [.box b6 174 [su a1.part.clock,sm p7],.box b26 93 [si 0,su 0,su 0,su 0,sg ByteArray.empty,sg ByteArray.empty,sl none 0 0,sl none 0 0,si 0,si 0,si 0,si 0,si 0,sg ByteArray.empty],.box b17 151 [si a1.dc,(1,[pt b2 0]),(1,[pt b6 0]),sm p10,sl p13 (a1.owned).length c14,sl p15 (a1.modes).length c16],.box b46 93 [si 15,su v49.1,su a18.N,su v49.2,sg a18.Lo,sg a18.Hi,sl p115 (v118.1).length c116,sl none 0 0,si 0,si 0,si 0,si 0,si 0,sg ByteArray.empty],mx p7 m8 c9,mx p10 m11 c12,.ext (ownX f_api_Ver 37 p115 c116 v118.1),.ext (ownX f_api_Ver 37 p19 c20 a18.Vers),.ext (ownX (fInt .u64) 25 p21 c22 a18.Vec)] [Map.mp (kInt .u64) false (fInt .u64).ty p7 m8 c9 a1.part.open_,Map.mp kStr false (tSl f_api_Ver.ty) p3 m4 c5 a1.store.chains,Map.mp (kInt .u64) false (tSl f_api_Ver.ty) p10 m11 c12 a1.writes,Ro.mp f_span_Shard.ty p13 c14 a1.owned,Ro.mp (fInt .u64).ty p15 c16 a1.modes]) (([]:List T_api_Ver),0) (mkX b63 l (lp rc [.exit 4] 0) [.box b6 174 [su a1.part.clock,sm p7],.box b26 93 [si 0,su 0,su 0,su 0,sg ByteArray.empty,sg ByteArray.empty,sl none 0 0,sl none 0 0,si 0,si 0,si 0,si 0,si 0,sg ByteArray.empty],.box b17 151 [si a1.dc,(1,[pt b2 0]),(1,[pt b6 0]),sm p10,sl p13 (a1.owned).length c14,sl p15 (a1.modes).length c16],.box b46 93 [si 15,su v49.1,su a18.N,su v49.2,sg a18.Lo,sg a18.Hi,sl none 0 0,sl none 0 0,si 0,si 0,si 0,si 0,si 0,sg ByteArray.empty],mx p7 m8 c9,mx p10 m11 c12,.ext (ownX f_api_Ver 37 none 0 ([]:List T_api_Ver)),.ext (ownX f_api_Ver 37 p19 c20 a18.Vers),.ext (ownX (fInt .u64) 25 p21 c22 a18.Vec)] [Map.mp (kInt .u64) false (fInt .u64).ty p7 m8 c9 a1.part.open_,Map.mp kStr false (tSl f_api_Ver.ty) p3 m4 c5 a1.store.chains,Map.mp (kInt .u64) false (tSl f_api_Ver.ty) p10 m11 c12 a1.writes,Ro.mp f_span_Shard.ty p13 c14 a1.owned,Ro.mp (fInt .u64).ty p15 c16 a1.modes]))]) [1,0] kr
 refine C_store_Store_All_1 N (Y:=(fun (v118:((List T_api_Ver)×Nat)) (x:XF) => ∃(p115:Option Addr) (c116:Nat),x=mkX b63 l (lp rc [.exit 4] v118.2) [.box b6 174 [su a1.part.clock,sm p7],.box b26 93 [si 0,su 0,su 0,su 0,sg ByteArray.empty,sg ByteArray.empty,sl none 0 0,sl none 0 0,si 0,si 0,si 0,si 0,si 0,sg ByteArray.empty],.box b17 151 [si a1.dc,(1,[pt b2 0]),(1,[pt b6 0]),sm p10,sl p13 (a1.owned).length c14,sl p15 (a1.modes).length c16],.box b46 93 [si 15,su v49.1,su a18.N,su v49.2,sg a18.Lo,sg a18.Hi,sl p115 (v118.1).length c116,sl none 0 0,si 0,si 0,si 0,si 0,si 0,sg ByteArray.empty],mx p7 m8 c9,mx p10 m11 c12,.ext (ownX f_api_Ver 37 p115 c116 v118.1),.ext (ownX f_api_Ver 37 p19 c20 a18.Vers),.ext (ownX (fInt .u64) 25 p21 c22 a18.Vec)] [Map.mp (kInt .u64) false (fInt .u64).ty p7 m8 c9 a1.part.open_,Map.mp kStr false (tSl f_api_Ver.ty) p3 m4 c5 a1.store.chains,Map.mp (kInt .u64) false (tSl f_api_Ver.ty) p10 m11 c12 a1.writes,Ro.mp f_span_Shard.ty p13 c14 a1.owned,Ro.mp (fInt .u64).ty p15 c16 a1.modes])) (B:=(fun (v118:((List T_api_Ver)×Nat)) x64=>bif (v118.2==0) then (bif (((v118.1).length:Int)==4096) then (some (((v118.1,1)),false)) else (Option.bind (apd v118.1 [(T_api_Ver.mk x64.Key x64.Val x64.Gone x64.TS x64.DC x64.Tx)]) fun x123=>(some (((x123,0)),true)))) else none)) (l:=l) ?_ (T_store_Store.mk a1.store.chains a1.store.floor) a18.Lo a18.Hi b2 p3 m4 c5 hS hv126
 rintro v118 _ κ w x64 s' c ⟨p115,c116,rfl⟩ hp hf hnd hlt hR H
 refine bif_split H (fun hn H=>?_) (fun _ H=>by cases H)
 refine round_at (L:=[(6,pt b26 0),(14,pt b46 0),(173,.agg (flat [sg x64.Key,sg x64.Val,sb x64.Gone,su x64.TS,si x64.DC,si x64.Tx]).toArray)]) hp hf hnd hlt hn hrc rfl [6,14,173] hF kr kr fun a hF hS=>?_
 have hS:=hS.adds hR
 skip
 refine rl (wc (wal hF hS [sg ByteArray.empty,sg ByteArray.empty,sb false,su 0,si 0,si 0] (sgN 6 sgNil) fun b119 a w hF hS=>wc (wst hF hS 0 0 6 [sg x64.Key,sg x64.Val,sb x64.Gone,su x64.TS,si x64.DC,si x64.Tx] (sgN 6 sgNil) fun a w hF hS=>nl (⟨_,_,_,hS,fun wb hS=>?_⟩))))
 obtain ⟨κb,hκb⟩ : ∃κb,κb=κ:=⟨_,rfl⟩
 subst hκb
 refine bk (qs fun _ h120=>qr fun _ h121=>(wp 1 [6,14,15,174] hF fun a hF=>wc (wld hF hS 4 6 0 fun a hF=>wl_pure (L':=[(6,pt b26 0),(14,pt b46 0),(15,pt b119 0),(177,vb (((v118.1).length:Int)==4096))]) 2 [6,14,15,177] hF kr fun a hF=>(h121 _ _ (bc hF H (fun hb H=>?_) fun hb H=>?_)))))
 refine xt ?_
 cases H
 try dsimp only [Exit.inBlock,Exit.then]
 repeat rw [if_neg dc]
 refine re_exit [.exit 4] 0 rfl (C:=[.box b6 174 [su a1.part.clock,sm p7],.box b26 93 [si 0,su 0,su 0,su 0,sg ByteArray.empty,sg ByteArray.empty,sl none 0 0,sl none 0 0,si 0,si 0,si 0,si 0,si 0,sg ByteArray.empty],.box b17 151 [si a1.dc,(1,[pt b2 0]),(1,[pt b6 0]),sm p10,sl p13 (a1.owned).length c14,sl p15 (a1.modes).length c16],.box b46 93 [si 15,su v49.1,su a18.N,su v49.2,sg a18.Lo,sg a18.Hi,sl p115 (v118.1).length c116,sl none 0 0,si 0,si 0,si 0,si 0,si 0,sg ByteArray.empty],mx p7 m8 c9,mx p10 m11 c12,.ext (ownX f_api_Ver 37 p115 c116 v118.1),.ext (ownX f_api_Ver 37 p19 c20 a18.Vers),.ext (ownX (fInt .u64) 25 p21 c22 a18.Vec)]) (R:=[Map.mp (kInt .u64) false (fInt .u64).ty p7 m8 c9 a1.part.open_,Map.mp kStr false (tSl f_api_Ver.ty) p3 m4 c5 a1.store.chains,Map.mp (kInt .u64) false (tSl f_api_Ver.ty) p10 m11 c12 a1.writes,Ro.mp f_span_Shard.ty p13 c14 a1.owned,Ro.mp (fInt .u64).ty p15 c16 a1.modes]) (hS.sp (ra 1 9) (rg 5)) ?_
 exact ⟨p115,c116,rfl⟩
 refine sk (h120 _ _ (rl (wl_pure (L':=[(6,pt b26 0),(14,pt b46 0),(15,pt b119 0),(178,pt b46 6)]) 1 [6,14,15,178] hF kr fun a hF=>wc (wld hF hS 4 6 0 fun a hF=>wc (wls hF hS 0 0 6 fun a hF=>wc (wo_buildN (t:=f_api_Ver) (z := .agg (flat [sg ByteArray.empty,sg ByteArray.empty,sb false,su 0,si 0,si 0]).toArray) (l:=[(T_api_Ver.mk x64.Key x64.Val x64.Gone x64.TS x64.DC x64.Tx)]) (vs:=[(0,.agg (flat [sg x64.Key,sg x64.Val,sb x64.Gone,su x64.TS,si x64.DC,si x64.Tx]).toArray)]) (cells := #[.string (x64.Key),.string (x64.Val),vb x64.Gone,vu x64.TS,vi x64.DC,vi x64.Tx]) (E:=37) hF hS kr rfl kr kr rfl kr kr kr kr kr fun p122 κ a w hF hS=>?_))))))
 refine bd H fun x123 hx123 H=>wc (wo_appendOE hF hS kr 8 0 rfl rfl rfl rfl rfl rfl rfl hx123 kr (i:=Try.t37) (z := .agg (flat [sg ByteArray.empty,sg ByteArray.empty,sb false,su 0,si 0,si 0]).toArray) kr kr kr fun p124 c125 κ a w hF hS=>wl_pure (L':=[(6,pt b26 0),(14,pt b46 0),(182,.slice p124 x123.length c125),(183,pt b46 6)]) 1 [6,14,182,183] hF kr fun a hF=>wc (wst hF hS 5 6 1 [sl p124 x123.length c125] (sgN 1 sgNil) fun a w hF hS=>nl ?_))
 cases H
 try dsimp only [Exit.inBlock,Exit.then]
 repeat rw [if_neg dc]
 refine re_normal [.exit 4] (C:=[.box b6 174 [su a1.part.clock,sm p7],.box b26 93 [si 0,su 0,su 0,su 0,sg ByteArray.empty,sg ByteArray.empty,sl none 0 0,sl none 0 0,si 0,si 0,si 0,si 0,si 0,sg ByteArray.empty],.box b17 151 [si a1.dc,(1,[pt b2 0]),(1,[pt b6 0]),sm p10,sl p13 (a1.owned).length c14,sl p15 (a1.modes).length c16],.box b46 93 [si 15,su v49.1,su a18.N,su v49.2,sg a18.Lo,sg a18.Hi,sl p124 x123.length c125,sl none 0 0,si 0,si 0,si 0,si 0,si 0,sg ByteArray.empty],mx p7 m8 c9,mx p10 m11 c12,.ext (ownX f_api_Ver 37 p124 c125 x123),.ext (ownX f_api_Ver 37 p19 c20 a18.Vers),.ext (ownX (fInt .u64) 25 p21 c22 a18.Vec)]) (R:=[Map.mp (kInt .u64) false (fInt .u64).ty p7 m8 c9 a1.part.open_,Map.mp kStr false (tSl f_api_Ver.ty) p3 m4 c5 a1.store.chains,Map.mp (kInt .u64) false (tSl f_api_Ver.ty) p10 m11 c12 a1.writes,Ro.mp f_span_Shard.ty p13 c14 a1.owned,Ro.mp (fInt .u64).ty p15 c16 a1.modes]) (hS.sp (ra 2 9) (ra 1 5)) ?_
 exact ⟨p124,c125,rfl⟩
 rintro _ ⟨p115,c116,rfl⟩
 refine ⟨_,_,_,rfl,fun κ w a hF hS=>?_⟩
 refine bs H (fun hb H=>?_) fun hb H=>?_
 refine jumped0 hb ?_
 exact ⟨_,p115,c116,v126.1,b63,hF.kp [6,14],hS.sp [1,2,3,4,13,14,5,6,7,8,9,0] (rg 5),H⟩
 refine bs H (fun hb H=>?_) fun hb H=>?_
 refine jumpedS 0 hb rfl (xt ?_)
 exact ⟨_,p115,c116,v126.1,b63,hF.kp [6,14],hS.sp [1,2,3,4,13,14,5,6,7,8,9,0] (rg 5),H⟩
 cases H
 rintro a w ⟨κ,p53,c54,y55,b56,hF,hS,H⟩
 unfold M.node_Node_Take_vtB_k3 at H
 refine qr fun _ h57=>(wc (wls hF hS 3 0 14 fun a hF=>wc (wst hF hS 1 0 14 [si 15,su v49.1,su a18.N,su v49.2,sg a18.Lo,sg a18.Hi,sl p53 y55.length c54,sl none 0 0,si 0,si 0,si 0,si 0,si 0,sg ByteArray.empty] (sgN 14 sgNil) fun a w hF hS=>wl_pure (L':=[(6,pt b26 0),(7,vb true)]) 1 [6,7] hF kr fun a hF=>(h57 _ _ (rt (ret_doneM (C':=[.box b6 174 [su a1.part.clock,sm p7],.box b26 93 [si 15,su v49.1,su a18.N,su v49.2,sg a18.Lo,sg a18.Hi,sl p53 y55.length c54,sl none 0 0,si 0,si 0,si 0,si 0,si 0,sg ByteArray.empty],.box b17 151 [si a1.dc,(1,[pt b2 0]),(1,[pt b6 0]),sm p10,sl p13 (a1.owned).length c14,sl p15 (a1.modes).length c16],.box b46 93 [si 15,su v49.1,su a18.N,su v49.2,sg a18.Lo,sg a18.Hi,sl p53 y55.length c54,sl none 0 0,si 0,si 0,si 0,si 0,si 0,sg ByteArray.empty],.box b2 130 [sm p3,su a1.store.floor],mx p3 m4 c5,mx p7 m8 c9,mx p10 m11 c12,.ext (ownX f_api_Ver 37 p53 c54 y55),.ext (ownX f_api_Ver 37 p19 c20 a18.Vers),.ext (ownX (fInt .u64) 25 p21 c22 a18.Vec)]) hF hS 11 rfl kr fun w hS=>?_))))))
 have hS':=hS
 have hS:=hS.addOwn (fInt .u64) 25
 cases H
 exact ⟨_,(res2 Try.results62 (rvs hF hS' 1 0 14) (rvt hF)),⟨p53,c54,none,0,rfl,hS.sp [3,5,6,1,7,8,9,0,10,11] []⟩⟩
 refine qr fun _ h128=>(wp 2 [0,4,6,30,185] hF fun a hF=>(h128 _ _ (bc hF H (fun hb H=>?_) fun hb H=>?_)))
 refine qs fun _ h129=>?_
 cases H
 refine qr fun _ h130=>(wp 2 [0,4,6,30,224] hF fun a hF=>(h130 _ _ (bc hF H (fun hb H=>?_) fun hb H=>?_)))
 cases H
 refine qr fun _ h131=>(wp 2 [0,4,6,30,235] hF fun a hF=>(h131 _ _ (bc hF H (fun hb H=>?_) fun hb H=>?_)))
 refine qs fun _ h132=>?_
 cases H
 refine qr fun _ h133=>(wp 2 [0,4,6,30,265] hF fun a hF=>(h133 _ _ (bc hF H (fun hb H=>?_) fun hb H=>?_)))
 cases H
 refine qr fun _ h134=>(wp 2 [0,4,6,30,274] hF fun a hF=>(h134 _ _ (bc hF H (fun hb H=>?_) fun hb H=>?_)))
 refine qs fun _ h135=>?_
 cases H
 refine qr fun _ h136=>(wp 2 [0,4,6,285] hF fun a hF=>(h136 _ _ (bc hF H (fun hb H=>?_) fun hb H=>?_)))
 cases H
 refine sk ?_
 exact ⟨_,hF.kp [6],hS.sp [0,2,3,4,7,8,9,5,6] (rg 5),H⟩
 rintro a w ⟨κ,hF,hS,H⟩
 unfold M.node_Node_Take_vtB_k1 at H
 refine qs fun _ h32=>?_
 cases H
theorem C_node_Node_Take_vtC (N:Nat){Ms:List Nat}{κ0:Gh}{w0:World}(a1:T_node_Node)(a18:T_api_Msg)(a23:Int)(b2:Nat)(p3:Option Nat)(m4:Array MapEntry)(c5:Nat)(b6:Nat)(p7:Option Nat)(m8:Array MapEntry)(c9:Nat)(p10:Option Nat)(m11:Array MapEntry)(c12:Nat)(p13:Option Addr)(c14:Nat)(p15:Option Addr)(c16:Nat)(p19:Option Addr)(c20:Nat)(p21:Option Addr)(c22:Nat)(b17:Nat)(hB:SB Ms κ0 w0 [.box b17 151 [si a1.dc,(1,[pt b2 0]),(1,[pt b6 0]),sm p10,sl p13 (a1.owned).length c14,sl p15 (a1.modes).length c16],.tok p13 157 3 (a1.owned).length c14,.tok p15 25 1 (a1.modes).length c16,.box b2 130 [sm p3,su a1.store.floor],mx p3 m4 c5,.box b6 174 [su a1.part.clock,sm p7],mx p7 m8 c9,mx p10 m11 c12,.ext (ownX f_api_Ver 37 p19 c20 a18.Vers),.ext (ownX (fInt .u64) 25 p21 c22 a18.Vec)] [Map.mp kStr false (tSl f_api_Ver.ty) p3 m4 c5 a1.store.chains,Map.mp (kInt .u64) false (fInt .u64).ty p7 m8 c9 a1.part.open_,Map.mp (kInt .u64) false (tSl f_api_Ver.ty) p10 m11 c12 a1.writes,Ro.mp f_span_Shard.ty p13 c14 a1.owned,Ro.mp (fInt .u64).ty p15 c16 a1.modes]){r:(T_api_Msg×Bool×T_node_Node)}(H:M.node_Node_Take_vtC N a1 a18 a23=some r) :
    Calls Try.prog 62 #[pt b17 0,.agg (flat [si a18.Kind,su a18.Id,su a18.N,su a18.TS,sg a18.Lo,sg a18.Hi,sl p19 (a18.Vers).length c20,sl p21 (a18.Vec).length c22,si a18.Cmd.Kind,si a18.Cmd.DC,si a18.Cmd.Shard,si a18.Cmd.Node,si a18.Cmd.Mode,sg a18.Cmd.Key]).toArray,vi a23] w0 (Post Ms κ0 w0 fun v κ w => ∃(p60:Option Addr) (c61:Nat) (p62:Option Addr) (c63 b64:Nat) (p65:Option Nat) (m66:Array MapEntry) (c67 b68:Nat) (p69:Option Nat) (m70:Array MapEntry) (c71:Nat) (p72:Option Nat) (m73:Array MapEntry) (c74:Nat) (p75:Option Addr) (c76:Nat) (p77:Option Addr) (c78:Nat),v = .tuple #[.agg (flat [si r.1.Kind,su r.1.Id,su r.1.N,su r.1.TS,sg r.1.Lo,sg r.1.Hi,sl p60 (r.1.Vers).length c61,sl p62 (r.1.Vec).length c63,si r.1.Cmd.Kind,si r.1.Cmd.DC,si r.1.Cmd.Shard,si r.1.Cmd.Node,si r.1.Cmd.Mode,sg r.1.Cmd.Key]).toArray,vb r.2.1]∧SS Ms κ0 w0 κ w [.box b17 151 [si r.2.2.dc,(1,[pt b64 0]),(1,[pt b68 0]),sm p72,sl p75 (r.2.2.owned).length c76,sl p77 (r.2.2.modes).length c78],.tok p75 157 3 (r.2.2.owned).length c76,.tok p77 25 1 (r.2.2.modes).length c78,.box b64 130 [sm p65,su r.2.2.store.floor],mx p65 m66 c67,.box b68 174 [su r.2.2.part.clock,sm p69],mx p69 m70 c71,mx p72 m73 c74,.ext (ownX f_api_Ver 37 p60 c61 r.1.Vers),.ext (ownX (fInt .u64) 25 p62 c63 r.1.Vec),.ext (ownX f_api_Ver 37 p19 c20 a18.Vers),.ext (ownX (fInt .u64) 25 p21 c22 a18.Vec)] [Map.mp kStr false (tSl f_api_Ver.ty) p65 m66 c67 r.2.2.store.chains,Map.mp (kInt .u64) false (fInt .u64).ty p69 m70 c71 r.2.2.part.open_,Map.mp (kInt .u64) false (tSl f_api_Ver.ty) p72 m73 c74 r.2.2.writes,Ro.mp f_span_Shard.ty p75 c76 r.2.2.owned,Ro.mp (fInt .u64).ty p77 c78 r.2.2.modes]):=by
 have hS:=hB.hS
 have hfr:=hS.fresh
 refine enterM (N:=(295)) (L:=[(0,pt b17 0),(1,.agg (flat [si a18.Kind,su a18.Id,su a18.N,su a18.TS,sg a18.Lo,sg a18.Hi,sl p19 (a18.Vers).length c20,sl p21 (a18.Vec).length c22,si a18.Cmd.Kind,si a18.Cmd.DC,si a18.Cmd.Shard,si a18.Cmd.Node,si a18.Cmd.Mode,sg a18.Cmd.Key]).toArray),(2,vi a23)]) Try.func62 rfl Try.ntmps62 (show 3≤(295) by decide) rfl fun a hF=>?_
 unfold M.node_Node_Take_vtC at H
 refine qr fun _ h24=>(wc (wbx hF hS [si a18.Kind,su a18.Id,su a18.N,su a18.TS,sg a18.Lo,sg a18.Hi,sl p19 (a18.Vers).length c20,sl p21 (a18.Vec).length c22,si a18.Cmd.Kind,si a18.Cmd.DC,si a18.Cmd.Shard,si a18.Cmd.Node,si a18.Cmd.Mode,sg a18.Cmd.Key] (sgN 14 sgNil) fun b25 a w hF hS=>wc (wal hF hS [si 0,su 0,su 0,su 0,sg ByteArray.empty,sg ByteArray.empty,sl none 0 0,sl none 0 0,si 0,si 0,si 0,si 0,si 0,sg ByteArray.empty] (sgN 14 sgNil) fun b26 a w hF hS=>?_)))
 refine wp 1 [0,2,4,6] hF fun a hF=>(h24 _ _ (qs fun _ h27=>qr fun _ h28=>(bd H fun v30 hv30 H=>wl_join (fun a w => ∃κ:Gh,Fr (295) [] [(0,pt b17 0),(2,vi a23),(4,pt b25 0),(6,pt b26 0),(27,vb v30)] a∧SS Ms κ0 w0 κ w [.box b26 93 [si 0,su 0,su 0,su 0,sg ByteArray.empty,sg ByteArray.empty,sl none 0 0,sl none 0 0,si 0,si 0,si 0,si 0,si 0,sg ByteArray.empty],.box b25 93 [si a18.Kind,su a18.Id,su a18.N,su a18.TS,sg a18.Lo,sg a18.Hi,sl p19 (a18.Vers).length c20,sl p21 (a18.Vec).length c22,si a18.Cmd.Kind,si a18.Cmd.DC,si a18.Cmd.Shard,si a18.Cmd.Node,si a18.Cmd.Mode,sg a18.Cmd.Key],.box b17 151 [si a1.dc,(1,[pt b2 0]),(1,[pt b6 0]),sm p10,sl p13 (a1.owned).length c14,sl p15 (a1.modes).length c16],.box b2 130 [sm p3,su a1.store.floor],.box b6 174 [su a1.part.clock,sm p7],.tok p13 157 3 (a1.owned).length c14,.tok p15 25 1 (a1.modes).length c16,.ext (ownX f_api_Ver 37 p19 c20 a18.Vers),.ext (ownX (fInt .u64) 25 p21 c22 a18.Vec),mx p3 m4 c5,mx p7 m8 c9,mx p10 m11 c12] [Map.mp kStr false (tSl f_api_Ver.ty) p3 m4 c5 a1.store.chains,Map.mp (kInt .u64) false (fInt .u64).ty p7 m8 c9 a1.part.open_,Map.mp (kInt .u64) false (tSl f_api_Ver.ty) p10 m11 c12 a1.writes,Ro.mp f_span_Shard.ty p13 c14 a1.owned,Ro.mp (fInt .u64).ty p15 c16 a1.modes]∧True) ?_ ?_)))
 refine wp 7 [0,2,4,6,24] hF fun a hF=>bs hv30 (fun hb hv30=>?_) fun hb hv30=>?_
 have hF:=hF.bv 24 hb
 refine wp 3 [0,2,4,6,27] hF fun a hF=>nl ?_
 cases hv30
 exact ⟨_,hF.kp [0,2,4,6,27],hS.sp [0,1,2,5,7,3,4,10,11,6,8,9] (rg 5),trivial⟩
 have hF:=hF.bv 24 hb
 refine wp 3 [0,2,4,6,27] hF fun a hF=>nl ?_
 cases hv30
 exact ⟨_,hF.kp [0,2,4,6,27],hS.sp [0,1,2,5,7,3,4,10,11,6,8,9] (rg 5),trivial⟩
 rintro a w ⟨κ,hF,hS,-⟩
 refine h28 _ _ (bc hF H (fun hb H=>?_) fun hb H=>?_)
 refine qs fun _ h31=>?_
 cases H
 refine sk (h27 _ _ (seq_join (fun a w => ∃κ:Gh,Fr (295) [] [(6,pt b26 0)] a∧SS Ms κ0 w0 κ w [.box b26 93 [si 0,su 0,su 0,su 0,sg ByteArray.empty,sg ByteArray.empty,sl none 0 0,sl none 0 0,si 0,si 0,si 0,si 0,si 0,sg ByteArray.empty],.box b17 151 [si a1.dc,(1,[pt b2 0]),(1,[pt b6 0]),sm p10,sl p13 (a1.owned).length c14,sl p15 (a1.modes).length c16],.box b2 130 [sm p3,su a1.store.floor],.box b6 174 [su a1.part.clock,sm p7],.tok p13 157 3 (a1.owned).length c14,.tok p15 25 1 (a1.modes).length c16,mx p3 m4 c5,mx p7 m8 c9,mx p10 m11 c12,.ext (ownX f_api_Ver 37 p19 c20 a18.Vers),.ext (ownX (fInt .u64) 25 p21 c22 a18.Vec)] [Map.mp kStr false (tSl f_api_Ver.ty) p3 m4 c5 a1.store.chains,Map.mp (kInt .u64) false (fInt .u64).ty p7 m8 c9 a1.part.open_,Map.mp (kInt .u64) false (tSl f_api_Ver.ty) p10 m11 c12 a1.writes,Ro.mp f_span_Shard.ty p13 c14 a1.owned,Ro.mp (fInt .u64).ty p15 c16 a1.modes]∧M.node_Node_Take_vtC_k1 N a1 a18=some r) ?_ ?_))
 refine qr fun _ h33=>(wp 1 [0,2,4,6,29] hF fun a hF=>wc (wld hF hS 1 0 0 fun a hF=>(h33 _ _ (bk (qr fun _ h34=>(wp 2 [0,2,4,6,30,31] hF fun a hF=>(h34 _ _ (bc hF H (fun hb H=>?_) fun hb H=>?_))))))))
 refine qs fun _ h35=>?_
 cases H
 refine qr fun _ h36=>(wp 2 [0,2,4,6,30,39] hF fun a hF=>(h36 _ _ (bc hF H (fun hb H=>?_) fun hb H=>?_)))
 refine qs fun _ h37=>qs fun _ h38=>?_
 cases H
 refine qr fun _ h39=>(wp 2 [0,4,6,30,93] hF fun a hF=>(h39 _ _ (bc hF H (fun hb H=>?_) fun hb H=>?_)))
 refine qs fun _ h40=>qs fun _ h41=>?_
 cases H
 refine qr fun _ h42=>(wp 2 [0,4,6,30,128] hF fun a hF=>(h42 _ _ (bc hF H (fun hb H=>?_) fun hb H=>?_)))
 refine qs fun _ h43=>?_
 cases H
 refine qr fun _ h44=>(wp 2 [0,4,6,30,136] hF fun a hF=>(h44 _ _ (bc hF H (fun hb H=>?_) fun hb H=>?_)))
 refine qs fun _ h45=>qs fun _ h46=>?_
 cases H
 refine qr fun _ h47=>(wp 2 [0,4,6,30,185] hF fun a hF=>(h47 _ _ (bc hF H (fun hb H=>?_) fun hb H=>?_)))
 refine qs fun _ h48=>?_
 cases H
 refine qr fun _ h49=>(wp 2 [0,4,6,30,224] hF fun a hF=>(h49 _ _ (bc hF H (fun hb H=>?_) fun hb H=>?_)))
 cases H
 refine qr fun _ h50=>(wp 2 [0,4,6,30,235] hF fun a hF=>(h50 _ _ (bc hF H (fun hb H=>?_) fun hb H=>?_)))
 refine qs fun _ h51=>?_
 cases H
 refine qr fun _ h52=>(wp 2 [0,4,6,30,265] hF fun a hF=>(h52 _ _ (bc hF H (fun hb H=>?_) fun hb H=>?_)))
 cases H
 refine qr fun _ h53=>(wp 2 [0,4,6,30,274] hF fun a hF=>(h53 _ _ (bc hF H (fun hb H=>?_) fun hb H=>?_)))
 refine qr fun _ h54=>(wl_pure (L':=[(4,pt b25 0),(6,pt b26 0),(276,pt b17 0),(277,pt b25 7)]) 2 [4,6,276,277] hF kr fun a hF=>wc (wld hF hS 1 7 0 fun a hF=>?_))
 have hS:=hS.add (m:=Ro.mp (fInt .u64).ty none 0 ([]:List Int)) (Ro.nil (fInt .u64).ty _ _)
 have hS:=hS.addNil 25 1
 refine bd H fun x55 hx55 H=>wc (wo_appendFO hF hS kr 0 0 9 dc rfl rfl rfl rfl rfl rfl rfl rfl hx55 kr (i:=Try.t25) (z:=vu 0) kr kr kr fun p56 c57 κ a w hF hS=>wp 2 [4,6,279,281] hF fun a hF=>wc (wst hF hS 3 5 1 [sl p56 x55.length c57] (sgN 1 sgNil) fun a w hF hS=>(h54 _ _ (qr fun _ h58=>(wp 1 [6,282] hF fun a hF=>wc (wld hF hS 2 1 0 fun a hF=>wp 1 [6,284] hF fun a hF=>wc (wst hF hS 1 0 14 [si 17,su a18.Id,su 0,su 0,sg ByteArray.empty,sg ByteArray.empty,sl none 0 0,sl none 0 0,si 0,si 0,si 0,si 0,si 0,sg ByteArray.empty] (sgN 14 sgNil) fun a w hF hS=>?_)))))))
 refine wp 1 [6,7] hF fun a hF=>(h58 _ _ (rt ?_))
 have hS':=hS
 have hS:=hS.addOwn f_api_Ver 37
 have hS:=hS.addOwn (fInt .u64) 25
 cases H
 exact ret_done0 hF hS (res2 Try.results62 (rvs hF hS' 1 0 14) (rvt hF)) ⟨none,0,none,0,b2,p3,m4,c5,b6,p7,m8,c9,p10,m11,c12,p13,c14,p56,c57,rfl,hS.sp [5,8,2,6,12,7,13,14,1,0,10,11] [2,3,4,5,0]⟩
 refine qr fun _ h59=>(wp 2 [0,4,6,285] hF fun a hF=>(h59 _ _ (bc hF H (fun hb H=>?_) fun hb H=>?_)))
 cases H
 refine sk ?_
 exact ⟨_,hF.kp [6],hS.sp [0,2,3,4,5,6,9,10,11,7,8] (rg 5),H⟩
 rintro a w ⟨κ,hF,hS,H⟩
 unfold M.node_Node_Take_vtC_k1 at H
 refine qs fun _ h32=>?_
 cases H
theorem C_law20_NodeOwns (N:Nat){κ0:Gh}{w0:World}(hfr:Fresh κ0 w0)(a1:(List T_api_Ver))(p2:Option Addr)(c3:Nat)(hR : ∀m∈([Ro.mp f_api_Ver.ty p2 c3 a1]:List MP),m.p κ0 w0){r:(Bool)}(H:M.law20_NodeOwns N a1=some r) :
    Calls Try.prog 16 #[.slice p2 a1.length c3] w0 (Post [] κ0 w0 fun v κ w=>v=vb r∧(∀m∈([]:List MP),m.p κ w)∧NewC w0 κ w []):=by
 have hS:=SS.start hfr hR
 refine en Try.func16 rfl Try.ntmps16 fun a hF=>?_
 unfold M.law20_NodeOwns at H
 refine qr fun _ h4=>(wp 1 [0] hF fun a hF=>(h4 _ _ (qr fun _ h5=>(bd H fun x6 hx6 H=>wc (wcS 0 [] hF hS (fun hS=>C_node_New N 0 ⟨rfl,hS.pick [] kr⟩ hx6) ?_)))))
 rintro _ κ w a ⟨b7,b8,p9,m10,c11,b12,p13,m14,c15,p16,m17,c18,p19,c20,p21,c22,rfl,h2⟩ hF hB
 have hS:=hB _ _ h2
 refine wp 1 [0,3] hF fun a hF=>(h5 _ _ (qs fun _ h23=>qr fun _ h24=>(wp 2 [0,3,14] hF fun a hF=>(h24 _ _ (cf hF rfl (sk (h23 _ _ (qr fun _ h25=>(wl_pure (L':=[(3,pt b7 0),(15,.slice p2 a1.length c3),(18,vi (if 20<(a1.length:Int) then 20 else (a1.length:Int)))]) 4 [3,15,18] hF kr fun a hF=>bd H fun x26 hx26 H=>wc (wo_slice hF hS kr 5 (E:=37) (lo:=0) (hi:=(if 20<(a1.length:Int) then 20 else (a1.length:Int))) rfl rfl rfl kr rfl ⟨_,rfl⟩ hx26 kr kr fun p27 c28 a hF hS=>wl_pure (L':=[(3,pt b7 0),(4,.slice p27 x26.length c28)]) 1 [3,4] hF kr fun a hF=>(h25 _ _ ?_)))))))))))
 refine qr fun _ h29=>(wc (wo_buildO0 hF hS kr f_api_Ver (E:=37) rfl kr kr fun p30 a w hF hS=>wl_pure (L':=[(3,pt b7 0),(20,.slice p30 (([]:List T_api_Ver)).length 0),(21,.slice p27 x26.length c28)]) 1 [3,20,21] hF kr fun a hF=>bd H fun x31 hx31 H=>wc (wo_appendOE hF hS kr 0 0 rfl rfl rfl rfl rfl rfl rfl hx31 kr (i:=Try.t37) (z := .agg (flat [sg ByteArray.empty,sg ByteArray.empty,sb false,su 0,si 0,si 0]).toArray) kr kr kr fun p32 c33 κ a w hF hS=>wp 1 [3,5] hF fun a hF=>(h29 _ _ (qr fun _ h34=>(wp 3 [3,5,23,25] hF fun a hF=>?_))))))
 have hS:=hS.addOwn (fInt .u64) 25
 refine bd H fun x35 hx35 H=>wc (wcS 10 [2,8,9,3,4,5,6,7,1,0] hF hS (fun hS=>C_node_Node_Take_vtA N (T_node_Node.mk x6.dc (T_store_Store.mk x6.store.chains x6.store.floor) (T_part_Part.mk x6.part.clock x6.part.open_) x6.writes x6.owned x6.modes) (T_api_Msg.mk 6 0 0 0 ByteArray.empty ByteArray.empty x31 ([]:List Int) (T_api_Cmd.mk 0 0 0 0 0 ByteArray.empty)) 0 b8 p9 m10 c11 b12 p13 m14 c15 p16 m17 c18 p19 c20 p21 c22 p32 c33 none 0 b7 ⟨rfl,hS.pick (ra 1 5) kr⟩ hx35) ?_)
 rintro _ κ w a ⟨p36,c37,p38,c39,b40,p41,m42,c43,b44,p45,m46,c47,p48,m49,c50,p51,c52,p53,c54,rfl,h2⟩ hF hB
 have hS:=(hB _ _ h2).cC (C':=[.box b7 151 [si x35.2.2.dc,(1,[pt b40 0]),(1,[pt b44 0]),sm p48,sl p51 (x35.2.2.owned).length c52,sl p53 (x35.2.2.modes).length c54],.tok p51 157 3 (x35.2.2.owned).length c52,.tok p53 25 1 (x35.2.2.modes).length c54,.box b40 130 [sm p41,su x35.2.2.store.floor],mx p41 m42 c43,.box b44 174 [su x35.2.2.part.clock,sm p45],mx p45 m46 c47,mx p48 m49 c50,.ext (ownX f_api_Ver 37 p36 c37 x35.1.Vers),.ext (ownX (fInt .u64) 25 p38 c39 x35.1.Vec),.ext (ownX f_api_Ver 37 p32 c33 x31),.ext (ownX (fInt .u64) 25 none 0 ([]:List Int))])
 refine h34 _ _ (qr fun _ h55=>(wp 1 [3,5,27] hF fun a hF=>bd H fun x56 hx56 H=>wc (wcS 6 [0,3,4,5,6,7,1,2,8,9,10,11] hF hS (fun hS=>C_law20_all N (T_node_Node.mk x35.2.2.dc (T_store_Store.mk x35.2.2.store.chains x35.2.2.store.floor) (T_part_Part.mk x35.2.2.part.clock x35.2.2.part.open_) x35.2.2.writes x35.2.2.owned x35.2.2.modes) (ByteArray.mk #[]) (ByteArray.mk #[]) b40 p41 m42 c43 b44 p45 m46 c47 p48 m49 c50 p51 c52 p53 c54 b7 ⟨rfl,hS.pick (rg 5) kr⟩ hx56) ?_)))
 rintro _ κ w a ⟨p57,c58,rfl,h2⟩ hF hB
 have hS:=hB _ _ h2
 refine wp 1 [3,5,6] hF fun a hF=>(h55 _ _ (qs fun _ h59=>qr fun _ h60=>(wp 3 [3,5,6,30,31] hF fun a hF=>(h60 _ _ (bk (loop_fuel (n:=N) (fun n a w => ∃(κ:Gh) (y111:List T_api_Ver) (y112:Int),Fr (89) [] [(3,pt b7 0),(5,.slice p32 y111.length c33),(6,.slice p57 x56.length c58),(30,vi (x31.length:Int)),(31,vi y112)] a∧SS [] κ0 w0 κ w [.box b7 151 [si x35.2.2.dc,(1,[pt b40 0]),(1,[pt b44 0]),sm p48,sl p51 (x35.2.2.owned).length c52,sl p53 (x35.2.2.modes).length c54],.box b40 130 [sm p41,su x35.2.2.store.floor],.box b44 174 [su x35.2.2.part.clock,sm p45],.tok p57 37 6 x56.length c58,.tok p51 157 3 (x35.2.2.owned).length c52,.tok p53 25 1 (x35.2.2.modes).length c54,mx p41 m42 c43,mx p45 m46 c47,mx p48 m49 c50,.ext (ownX f_api_Ver 37 p32 c33 y111)] [Map.mp kStr false (tSl f_api_Ver.ty) p41 m42 c43 x35.2.2.store.chains,Map.mp (kInt .u64) false (fInt .u64).ty p45 m46 c47 x35.2.2.part.open_,Map.mp (kInt .u64) false (tSl f_api_Ver.ty) p48 m49 c50 x35.2.2.writes,Ro.mp f_span_Shard.ty p51 c52 x35.2.2.owned,Ro.mp (fInt .u64).ty p53 c54 x35.2.2.modes,Ro.mp f_api_Ver.ty p57 c58 x56]∧M.law20_NodeOwns_L1 N n x31 x35 x56 y111 y112=some r) ?_ ?_))))))
 exact ⟨_,x31,0,hF.kp [3,5,6,30,31],hS.sp [0,1,3,6,7,8,2,4,5,11] [1,2,3,4,5,0],H⟩
 rintro n a w ⟨κ,y111,y112,hF,hS,H⟩
 rcases n with _|fuel1
 simp [M.law20_NodeOwns_L1] at H
 simp only [M.law20_NodeOwns_L1] at H
 refine qr fun _ h113=>(wp 1 [3,5,6,30,31,32] hF fun a hF=>(h113 _ _ (qs fun _ h114=>bc hF H (fun hb H=>?_) fun hb H=>?_)))
 refine sk (h114 _ _ (qs fun _ h115=>bk (qr fun _ h116=>(wp 2 [3,5,6,7,30,31] hF fun a hF=>(h116 _ _ (rl (wl_pure (L':=[(3,pt b7 0),(5,.slice p32 y111.length c33),(6,.slice p57 x56.length c58),(30,vi (x31.length:Int)),(31,vi y112),(34,.slice p32 y111.length c33),(35,vi y112),(36,.slice p32 y111.length c33),(37,vi y112)]) 4 [3,5,6,30,31,34,35,36,37] hF kr fun a hF=>bd H fun x117 hx117 H=>wc (wo_indexO hF hS kr 9 (sz:=6) rfl rfl rfl rfl rfl hx117 kr kr fun b118 f119 a hpx117 hF=>wl_pure (L':=[(3,pt b7 0),(5,.slice p32 y111.length c33),(6,.slice p57 x56.length c58),(30,vi (x31.length:Int)),(31,vi y112),(34,.slice p32 y111.length c33),(35,vi y112),(39,.pointer (some ⟨b118,(f119+Int.toNat y112*6)+2,none⟩))]) 1 [3,5,6,30,31,34,35,39] hF kr fun a hF=>?_))))))))
 refine wc (wo_loadOC hF hS kr 9 2 (v:=vb x117.Gone) rfl rfl hpx117 rfl hx117 rfl kr kr fun a hF=>wl_pure (L':=[(3,pt b7 0),(5,.slice p32 y111.length c33),(6,.slice p57 x56.length c58),(30,vi (x31.length:Int)),(31,vi y112),(34,.slice p32 y111.length c33),(35,vi y112),(41,vb (!x117.Gone))]) 1 [3,5,6,30,31,34,35,41] hF kr fun a hF=>bd H fun x120 hx120 H=>wc (wo_indexO hF hS kr 9 (sz:=6) rfl rfl rfl rfl rfl hx120 kr kr fun b121 f122 a hpx120 hF=>wl_pure (L':=[(3,pt b7 0),(5,.slice p32 y111.length c33),(6,.slice p57 x56.length c58),(30,vi (x31.length:Int)),(31,vi y112),(41,vb (!x117.Gone)),(43,.pointer (some ⟨b121,(f122+Int.toNat y112*6)+2,none⟩))]) 1 [3,5,6,30,31,41,43] hF kr fun a hF=>?_))
 refine wc (wo_storeOC hF hS kr 9 2 (y:=x120) (z:=(T_api_Ver.mk x120.Key x120.Val (!x117.Gone) x120.TS x120.DC x120.Tx)) (v:=vb (!x117.Gone)) (vs:=(flat [sb (!x117.Gone)])) (sz:=1) rfl rfl rfl rfl hpx120 hx120 rfl kr rfl rfl (show segGood [sb (!x117.Gone)] from (sgN 1 sgNil)).2 (Nat.le_of_ble_eq_true kr) rfl (Cf:=(fun nn=>[.box b7 151 [si x35.2.2.dc,(1,[pt b40 0]),(1,[pt b44 0]),sm p48,sl p51 (x35.2.2.owned).length c52,sl p53 (x35.2.2.modes).length c54],.box b40 130 [sm p41,su x35.2.2.store.floor],.box b44 174 [su x35.2.2.part.clock,sm p45],.tok p57 37 6 x56.length c58,.tok p51 157 3 (x35.2.2.owned).length c52,.tok p53 25 1 (x35.2.2.modes).length c54,mx p41 m42 c43,mx p45 m46 c47,mx p48 m49 c50,.ext (ownX f_api_Ver 37 p32 c33 (List.set y111 (Int.toNat y112) (T_api_Ver.mk x120.Key x120.Val (!x117.Gone) x120.TS x120.DC x120.Tx)))])) (Lf:=(fun nn=>[(3,pt b7 0),(5,.slice p32 nn c33),(6,.slice p57 x56.length c58),(30,vi (x31.length:Int)),(31,vi y112),(41,vb (!x117.Gone))])) [3,5,6,30,31,41] kr kr fun a w hF hS=>?_)
 refine h115 _ _ (rl (wp 2 [3,5,6,30,31] hF fun a hF=>nl ?_))
 exact ⟨fuel1,Nat.lt_succ_self _,_,(List.set y111 (Int.toNat y112) (T_api_Ver.mk x120.Key x120.Val (!x117.Gone) x120.TS x120.DC x120.Tx)),IntKind.i64.wrap (y112+1),hF.kp [3,5,6,30,31],hS.sp (rg 10) (rg 6),H⟩
 refine xt (h59 _ _ (qr fun _ h123=>(wp 2 [3,6,46,47] hF fun a hF=>?_)))
 have hS:=hS.addOwn f_api_Ver 37
 have hS:=hS.addOwn (fInt .u64) 25
 refine bd H fun x124 hx124 H=>wc (wcS 8 [2,3,8,4,9,10,1,0,5,6,7,11] hF hS (fun hS=>C_node_Node_Take_vtB N (T_node_Node.mk x35.2.2.dc (T_store_Store.mk x35.2.2.store.chains x35.2.2.store.floor) (T_part_Part.mk x35.2.2.part.clock x35.2.2.part.open_) x35.2.2.writes x35.2.2.owned x35.2.2.modes) (T_api_Msg.mk 5 0 0 0 ByteArray.empty ByteArray.empty ([]:List T_api_Ver) ([]:List Int) (T_api_Cmd.mk 0 0 0 0 0 ByteArray.empty)) 0 b40 p41 m42 c43 b44 p45 m46 c47 p48 m49 c50 p51 c52 p53 c54 none 0 none 0 b7 ⟨rfl,hS.pick (rg 5) kr⟩ hx124) ?_)
 rintro _ κ w a ⟨p125,c126,p127,c128,rfl,h2⟩ hF hB
 have hS:=(hB _ _ h2).cC (C':=[.box b7 151 [si x35.2.2.dc,(1,[pt b40 0]),(1,[pt b44 0]),sm p48,sl p51 (x35.2.2.owned).length c52,sl p53 (x35.2.2.modes).length c54],.box b40 130 [sm p41,su x35.2.2.store.floor],mx p41 m42 c43,.box b44 174 [su x35.2.2.part.clock,sm p45],mx p45 m46 c47,mx p48 m49 c50,.ext (ownX f_api_Ver 37 p125 c126 x124.1.Vers),.ext (ownX (fInt .u64) 25 p127 c128 x124.1.Vec),.ext (ownX f_api_Ver 37 none 0 ([]:List T_api_Ver)),.ext (ownX (fInt .u64) 25 none 0 ([]:List Int)),.tok p57 37 6 x56.length c58,.tok p51 157 3 (x35.2.2.owned).length c52,.tok p53 25 1 (x35.2.2.modes).length c54,.ext (ownX f_api_Ver 37 p32 c33 y111)])
 refine wp 3 [3,6,49,50] hF fun a hF=>wc (wal hF hS [si 0,su 0,su 0,su 0,sg ByteArray.empty,sg ByteArray.empty,sl none 0 0,sl none 0 0,si 0,si 0,si 0,si 0,si 0,sg ByteArray.empty] (sgN 14 sgNil) fun b129 a w hF hS=>wc (wst hF hS 0 0 14 [si x124.1.Kind,su x124.1.Id,su x124.1.N,su x124.1.TS,sg x124.1.Lo,sg x124.1.Hi,sl p125 (x124.1.Vers).length c126,sl p127 (x124.1.Vec).length c128,si x124.1.Cmd.Kind,si x124.1.Cmd.DC,si x124.1.Cmd.Shard,si x124.1.Cmd.Node,si x124.1.Cmd.Mode,sg x124.1.Cmd.Key] (sgN 14 sgNil) fun a w hF hS=>?_))
 refine wp 1 [3,6,8] hF fun a hF=>(h123 _ _ (qs fun _ h130=>qr fun _ h131=>(wp 1 [3,6,8,51] hF fun a hF=>wc (wld hF hS 0 6 0 fun a hF=>wp 2 [3,6,8,53,54] hF fun a hF=>(h131 _ _ (bk (loop_fuel (n:=N) (fun n a w => ∃(κ:Gh) (y182:List T_api_Ver) (y183:Int),Fr (89) [] [(3,pt b7 0),(6,.slice p57 x56.length c58),(8,pt b129 0),(53,vi ((x124.1.Vers).length:Int)),(54,vi y183)] a∧SS [] κ0 w0 κ w [.box b129 93 [si x124.1.Kind,su x124.1.Id,su x124.1.N,su x124.1.TS,sg x124.1.Lo,sg x124.1.Hi,sl p125 y182.length c126,sl p127 (x124.1.Vec).length c128,si x124.1.Cmd.Kind,si x124.1.Cmd.DC,si x124.1.Cmd.Shard,si x124.1.Cmd.Node,si x124.1.Cmd.Mode,sg x124.1.Cmd.Key],.box b7 151 [si x35.2.2.dc,(1,[pt b40 0]),(1,[pt b44 0]),sm p48,sl p51 (x35.2.2.owned).length c52,sl p53 (x35.2.2.modes).length c54],.box b40 130 [sm p41,su x35.2.2.store.floor],.box b44 174 [su x35.2.2.part.clock,sm p45],.tok p57 37 6 x56.length c58,.tok p51 157 3 (x35.2.2.owned).length c52,.tok p53 25 1 (x35.2.2.modes).length c54,.ext (ownX f_api_Ver 37 p125 c126 y182),.ext (ownX (fInt .u64) 25 p127 c128 x124.1.Vec),mx p41 m42 c43,mx p45 m46 c47,mx p48 m49 c50] [Map.mp kStr false (tSl f_api_Ver.ty) p41 m42 c43 x35.2.2.store.chains,Map.mp (kInt .u64) false (fInt .u64).ty p45 m46 c47 x35.2.2.part.open_,Map.mp (kInt .u64) false (tSl f_api_Ver.ty) p48 m49 c50 x35.2.2.writes,Ro.mp f_span_Shard.ty p51 c52 x35.2.2.owned,Ro.mp (fInt .u64).ty p53 c54 x35.2.2.modes,Ro.mp f_api_Ver.ty p57 c58 x56]∧M.law20_NodeOwns_L2 N n x35 x56 x124 y182 y183=some r) ?_ ?_)))))))
 exact ⟨_,x124.1.Vers,0,hF.kp [3,6,8,53,54],hS.sp [0,1,2,4,11,12,13,7,8,3,5,6] (rg 6),H⟩
 rintro n a w ⟨κ,y182,y183,hF,hS,H⟩
 rcases n with _|fuel2
 simp [M.law20_NodeOwns_L2] at H
 simp only [M.law20_NodeOwns_L2] at H
 refine qr fun _ h184=>(wl_pure (L':=[(3,pt b7 0),(6,.slice p57 x56.length c58),(8,pt b129 0),(53,vi ((x124.1.Vers).length:Int)),(54,vi y183),(55,vb (decide (y183<((x124.1.Vers).length:Int))))]) 1 [3,6,8,53,54,55] hF kr fun a hF=>(h184 _ _ (qs fun _ h185=>bc hF H (fun hb H=>?_) fun hb H=>?_)))
 refine sk (h185 _ _ (qs fun _ h186=>bk (qr fun _ h187=>(wp 2 [3,6,8,10,53,54] hF fun a hF=>(h187 _ _ (rgS hS [12] ?_))))))
 have hS:=hS.drew
 have hX:=hS.fx
 refine any_pure [0,2,3,5] [3,6,8,53,54,57,59,60,62] (L':=[(3,pt b7 0),(6,.slice p57 x56.length c58),(8,pt b129 0),(53,vi ((x124.1.Vers).length:Int)),(54,vi y183),(57,pt b129 6),(59,vi y183),(60,pt b129 6),(62,vi y183)]) (listed':=(bitA 13 45)) (fuel:=9) hF hX kr (by intro c a w t v h; cases t<;>exact h) kr rfl fun a hF=>atk 1 (some 58) hF hX rfl (vld 0 6 0) fun a hF=>atk 4 (some 61) hF hX rfl (vld 0 6 0) fun a hF=>bd H fun x188 hx188 H=>?_
 obtain ⟨b189,f190,hpx188⟩:=hS.ptrO 7 rfl hx188
 refine atk 6 (some 63) hF (hS.sx [0,1,2,3,7,8,9,10,11] (rg 6)) rfl (fun w _=>val_index (E:=37) (sz:=6) rfl hpx188 rfl kr rfl hx188 kr kr w) fun a hF=>any_pure [7] [3,6,8,53,54,58,59,64] (L':=[(3,pt b7 0),(6,.slice p57 x56.length c58),(8,pt b129 0),(53,vi ((x124.1.Vers).length:Int)),(54,vi y183),(58,.slice p125 y182.length c126),(59,vi y183),(64,.pointer (some ⟨b189,(f190+Int.toNat y183*6)+2,none⟩))]) (listed':=(bitA 13 255)) (fuel:=5) hF (hS.sx [0,1,2,3,7,8,9,10,11] (rg 6)) kr (by intro c a w t v h; cases t<;>exact h) kr rfl fun a hF=>?_
 refine atk 8 (some 65) hF (hS.sx [0,1,2,3,7,8,9,10,11] (rg 6)) rfl (val_loadOC 4 2 (v:=vb x188.Gone) rfl rfl hpx188 rfl hx188 rfl kr kr) fun a hF=>any_pure [9] [3,6,8,53,54,58,59,66] (L':=[(3,pt b7 0),(6,.slice p57 x56.length c58),(8,pt b129 0),(53,vi ((x124.1.Vers).length:Int)),(54,vi y183),(58,.slice p125 y182.length c126),(59,vi y183),(66,vb (!x188.Gone))]) (listed':=(bitA 13 1023)) (fuel:=3) hF (hS.sx [0,1,2,3,7,8,9,10,11] (rg 6)) kr (by intro c a w t v h; cases t<;>exact h) kr rfl fun a hF=>bd H fun x191 hx191 H=>?_
 obtain ⟨b192,f193,hpx191⟩:=hS.ptrO 7 rfl hx191
 refine atk 10 (some 67) hF (hS.sx [0,1,2,3,7,8,9,10,11] (rg 6)) rfl (fun w _=>val_index (E:=37) (sz:=6) rfl hpx191 rfl kr rfl hx191 kr kr w) fun a hF=>any_pure [11] [3,6,8,53,54,66,68] (L':=[(3,pt b7 0),(6,.slice p57 x56.length c58),(8,pt b129 0),(53,vi ((x124.1.Vers).length:Int)),(54,vi y183),(66,vb (!x188.Gone)),(68,.pointer (some ⟨b192,(f193+Int.toNat y183*6)+2,none⟩))]) (listed':=(bitA 13 4095)) (fuel:=1) hF (hS.sx [0,1,2,3,7,8,9,10,11] (rg 6)) kr (by intro c a w t v h; cases t<;>exact h) kr rfl fun a hF=>ago 12 hF rfl (wo_storeOC hF hS kr 7 2 (y:=x191) (z:=(T_api_Ver.mk x191.Key x191.Val (!x188.Gone) x191.TS x191.DC x191.Tx)) (v:=vb (!x188.Gone)) (vs:=(flat [sb (!x188.Gone)])) (sz:=1) rfl rfl rfl rfl hpx191 hx191 rfl kr rfl rfl (show segGood [sb (!x188.Gone)] from (sgN 1 sgNil)).2 (Nat.le_of_ble_eq_true kr) rfl (Cf:=(fun nn=>[.box b129 93 [si x124.1.Kind,su x124.1.Id,su x124.1.N,su x124.1.TS,sg x124.1.Lo,sg x124.1.Hi,sl p125 nn c126,sl p127 (x124.1.Vec).length c128,si x124.1.Cmd.Kind,si x124.1.Cmd.DC,si x124.1.Cmd.Shard,si x124.1.Cmd.Node,si x124.1.Cmd.Mode,sg x124.1.Cmd.Key],.box b7 151 [si x35.2.2.dc,(1,[pt b40 0]),(1,[pt b44 0]),sm p48,sl p51 (x35.2.2.owned).length c52,sl p53 (x35.2.2.modes).length c54],.box b40 130 [sm p41,su x35.2.2.store.floor],.box b44 174 [su x35.2.2.part.clock,sm p45],.tok p57 37 6 x56.length c58,.tok p51 157 3 (x35.2.2.owned).length c52,.tok p53 25 1 (x35.2.2.modes).length c54,.ext (ownX f_api_Ver 37 p125 c126 (List.set y182 (Int.toNat y183) (T_api_Ver.mk x191.Key x191.Val (!x188.Gone) x191.TS x191.DC x191.Tx))),.ext (ownX (fInt .u64) 25 p127 c128 x124.1.Vec),mx p41 m42 c43,mx p45 m46 c47,mx p48 m49 c50])) (Lf:=(fun nn=>[(3,pt b7 0),(6,.slice p57 x56.length c58),(8,pt b129 0),(53,vi ((x124.1.Vers).length:Int)),(54,vi y183),(66,vb (!x188.Gone))])) [3,6,8,53,54,66] kr kr fun a w hF hS=>?_)
 refine ⟨notE,?_⟩
 refine and_ (h186 _ _ (rl (wp 2 [3,6,8,53,54] hF fun a hF=>nl ?_)))
 exact ⟨fuel2,Nat.lt_succ_self _,_,(List.set y182 (Int.toNat y183) (T_api_Ver.mk x191.Key x191.Val (!x188.Gone) x191.TS x191.DC x191.Tx)),IntKind.i64.wrap (y183+1),hF.kp [3,6,8,53,54],hS.sp (rg 12) (rg 6),H⟩
 refine xt (h130 _ _ (qr fun _ h194=>(wc (wo_buildO (t:=(fInt .u64)) (z:=vu 0) (l:=[0,3]) (vs:=[(0,vu 0),(1,vu 3)]) (cells := #[vu 0,vu 3]) (E:=25) hF hS kr rfl kr kr rfl kr kr kr kr kr fun p195 a w hF hS=>wp 1 [3,6,11] hF fun a hF=>(h194 _ _ (qr fun _ h196=>(wp 3 [3,6,11,71,73] hF fun a hF=>?_)))))))
 have hS:=hS.addOwn f_api_Ver 37
 refine bd H fun x197 hx197 H=>wc (wcS 10 [3,7,8,4,11,5,12,13,0,1,2,6,9,10] hF hS (fun hS=>C_node_Node_Take_vtC N (T_node_Node.mk x35.2.2.dc (T_store_Store.mk x35.2.2.store.chains x35.2.2.store.floor) (T_part_Part.mk x35.2.2.part.clock x35.2.2.part.open_) x35.2.2.writes x35.2.2.owned x35.2.2.modes) (T_api_Msg.mk 10 0 0 0 ByteArray.empty ByteArray.empty ([]:List T_api_Ver) ([0,3]:List Int) (T_api_Cmd.mk 0 0 0 0 0 ByteArray.empty)) 0 b40 p41 m42 c43 b44 p45 m46 c47 p48 m49 c50 p51 c52 p53 c54 none 0 p195 2 b7 ⟨rfl,hS.pick (rg 5) kr⟩ hx197) ?_)
 rintro _ κ w a ⟨p198,c199,p200,c201,b202,p203,m204,c205,b206,p207,m208,c209,p210,m211,c212,p213,c214,p215,c216,rfl,h2⟩ hF hB
 have hS:=(hB _ _ h2).cC (C':=[.box b7 151 [si x197.2.2.dc,(1,[pt b202 0]),(1,[pt b206 0]),sm p210,sl p213 (x197.2.2.owned).length c214,sl p215 (x197.2.2.modes).length c216],.tok p213 157 3 (x197.2.2.owned).length c214,.tok p215 25 1 (x197.2.2.modes).length c216,.box b202 130 [sm p203,su x197.2.2.store.floor],mx p203 m204 c205,.box b206 174 [su x197.2.2.part.clock,sm p207],mx p207 m208 c209,mx p210 m211 c212,.ext (ownX f_api_Ver 37 p198 c199 x197.1.Vers),.ext (ownX (fInt .u64) 25 p200 c201 x197.1.Vec),.ext (ownX f_api_Ver 37 none 0 ([]:List T_api_Ver)),.ext (ownX (fInt .u64) 25 p195 2 ([0,3]:List Int)),.box b129 93 [si x124.1.Kind,su x124.1.Id,su x124.1.N,su x124.1.TS,sg x124.1.Lo,sg x124.1.Hi,sl p125 y182.length c126,sl p127 (x124.1.Vec).length c128,si x124.1.Cmd.Kind,si x124.1.Cmd.DC,si x124.1.Cmd.Shard,si x124.1.Cmd.Node,si x124.1.Cmd.Mode,sg x124.1.Cmd.Key],.tok p57 37 6 x56.length c58,.ext (ownX f_api_Ver 37 p125 c126 y182),.ext (ownX (fInt .u64) 25 p127 c128 x124.1.Vec)])
 refine h196 _ _ (qr fun _ h217=>(wl_pure (L':=[(3,pt b7 0),(6,.slice p57 x56.length c58),(75,.slice p195 (([0,3]:List Int)).length 2)]) 1 [3,6,75] hF kr fun a hF=>bd H fun x218 hx218 H=>wc (wo_indexO hF hS kr 11 (sz:=1) rfl rfl rfl rfl rfl hx218 kr kr fun b219 f220 a hpx218 hF=>wc (wo_storeOL hF hS kr 11 (z:=1) rfl rfl rfl rfl hpx218 hx218 rfl kr rfl kr (Cf:=(fun nn=>[.box b7 151 [si x197.2.2.dc,(1,[pt b202 0]),(1,[pt b206 0]),sm p210,sl p213 (x197.2.2.owned).length c214,sl p215 (x197.2.2.modes).length c216],.tok p213 157 3 (x197.2.2.owned).length c214,.tok p215 25 1 (x197.2.2.modes).length c216,.box b202 130 [sm p203,su x197.2.2.store.floor],mx p203 m204 c205,.box b206 174 [su x197.2.2.part.clock,sm p207],mx p207 m208 c209,mx p210 m211 c212,.ext (ownX f_api_Ver 37 p198 c199 x197.1.Vers),.ext (ownX (fInt .u64) 25 p200 c201 x197.1.Vec),.ext (ownX f_api_Ver 37 none 0 ([]:List T_api_Ver)),.ext (ownX (fInt .u64) 25 p195 2 (List.set ([0,3]:List Int) (Int.toNat 1) 1)),.box b129 93 [si x124.1.Kind,su x124.1.Id,su x124.1.N,su x124.1.TS,sg x124.1.Lo,sg x124.1.Hi,sl p125 y182.length c126,sl p127 (x124.1.Vec).length c128,si x124.1.Cmd.Kind,si x124.1.Cmd.DC,si x124.1.Cmd.Shard,si x124.1.Cmd.Node,si x124.1.Cmd.Mode,sg x124.1.Cmd.Key],.tok p57 37 6 x56.length c58,.ext (ownX f_api_Ver 37 p125 c126 y182),.ext (ownX (fInt .u64) 25 p127 c128 x124.1.Vec)])) (Lf:=(fun nn=>[(3,pt b7 0),(6,.slice p57 x56.length c58),(75,.slice p195 nn 2)])) [3,6,75] kr kr fun a w hF hS=>?_))))
 refine h217 _ _ (qr fun _ h221=>(bd H fun v223 hv223 H=>wl_join (fun a w => ∃κ:Gh,Fr (89) [] [(2,vb v223)] a∧SS [] κ0 w0 κ w [] []∧True) ?_ ?_))
 refine bd hv223 fun x224 hx224 hv223=>wc (wo_callP hF hS kr kr (C_law20_awake N hS.fresh ((hS.pick [] kr).ro) hx224) ?_)
 rintro _ κ w a ⟨rfl,hR,hN⟩ hF hS hO
 refine wp 1 [3,6,78] hF fun a hF=>bs hv223 (fun hb hv223=>?_) fun hb hv223=>?_
 have hF:=hF.bv 78 hb
 refine wp 1 [3,6,78,79] hF fun a hF=>bd hv223 fun x225 hx225 hv223=>wcg hF (wcS 6 [0,3,4,5,6,7,1,2,8,9,10,11,12,13,14,15] hF hS (fun hS=>C_law20_all N (T_node_Node.mk x197.2.2.dc (T_store_Store.mk x197.2.2.store.chains x197.2.2.store.floor) (T_part_Part.mk x197.2.2.part.clock x197.2.2.part.open_) x197.2.2.writes x197.2.2.owned x197.2.2.modes) (ByteArray.mk #[]) (ByteArray.mk #[]) b202 p203 m204 c205 b206 p207 m208 c209 p210 m211 c212 p213 c214 p215 c216 b7 ⟨rfl,hS.pick (rg 5) kr⟩ hx225) ?_)
 rintro _ κ w a ⟨p226,c227,rfl,h2⟩ hF hB
 have hS:=hB _ _ h2
 refine wp 1 [3,78,80,81] hF fun a hF=>bd hv223 fun x228 hx228 hv223=>wcg hF (wo_callP hF hS kr kr (C_ref04_SameVers N hS.fresh x225 x56 p226 c227 p57 c58 ((hS.pick [0,11] kr).ro) hx228) ?_)
 rintro _ κ w a ⟨rfl,hR,hN⟩ hF hS hO
 refine wp 2 [3,84] hF fun a hF=>bs hv223 (fun hb hv223=>?_) fun hb hv223=>?_
 have hF:=hF.bv 84 hb
 refine wp 1 [84,85] hF fun a hF=>bd hv223 fun x229 hx229 hv223=>wcg hF (wcS 6 (rg 17) hF hS (fun hS=>C_node_Node_Mode N (T_node_Node.mk x197.2.2.dc (T_store_Store.mk x197.2.2.store.chains x197.2.2.store.floor) (T_part_Part.mk x197.2.2.part.clock x197.2.2.part.open_) x197.2.2.writes x197.2.2.owned x197.2.2.modes) 0 b202 p203 m204 c205 b206 p207 m208 c209 p210 m211 c212 p213 c214 p215 c216 b7 ⟨rfl,hS.pick (ra 1 5) kr⟩ hx229) ?_)
 rintro _ κ w a ⟨rfl,h2⟩ hF hB
 have hS:=(hB _ _ h2).cC (C':=[.box b7 151 [si x197.2.2.dc,(1,[pt b202 0]),(1,[pt b206 0]),sm p210,sl p213 (x197.2.2.owned).length c214,sl p215 (x197.2.2.modes).length c216],.box b202 130 [sm p203,su x197.2.2.store.floor],mx p203 m204 c205,.box b206 174 [su x197.2.2.part.clock,sm p207],mx p207 m208 c209,mx p210 m211 c212,.tok p226 37 6 x225.length c227,.tok p213 157 3 (x197.2.2.owned).length c214,.tok p215 25 1 (x197.2.2.modes).length c216,.ext (ownX f_api_Ver 37 p198 c199 x197.1.Vers),.ext (ownX (fInt .u64) 25 p200 c201 x197.1.Vec),.ext (ownX f_api_Ver 37 none 0 ([]:List T_api_Ver)),.ext (ownX (fInt .u64) 25 p195 2 (List.set ([0,3]:List Int) (Int.toNat 1) 1)),.box b129 93 [si x124.1.Kind,su x124.1.Id,su x124.1.N,su x124.1.TS,sg x124.1.Lo,sg x124.1.Hi,sl p125 y182.length c126,sl p127 (x124.1.Vec).length c128,si x124.1.Cmd.Kind,si x124.1.Cmd.DC,si x124.1.Cmd.Shard,si x124.1.Cmd.Node,si x124.1.Cmd.Mode,sg x124.1.Cmd.Key],.tok p57 37 6 x56.length c58,.ext (ownX f_api_Ver 37 p125 c126 y182),.ext (ownX (fInt .u64) 25 p127 c128 x124.1.Vec)])
 refine wp 3 [2] hF fun a hF=>nl ?_
 cases hv223
 exact ⟨_,hF.kp [2],hS.sp [] [],trivial⟩
 have hF:=hF.bv 84 hb
 refine wp 5 [2] hF fun a hF=>nl ?_
 cases hv223
 exact ⟨_,hF.kp [2],hS.sp [] [],trivial⟩
 have hF:=hF.bv 78 hb
 refine wp 11 [2] hF fun a hF=>nl ?_
 cases hv223
 exact ⟨_,hF.kp [2],hS.sp [] [],trivial⟩
 rintro a w ⟨κ,hF,hS,-⟩
 refine h221 _ _ (rt ?_)
 cases H
 exact (ret_done hF hS (res1 Try.results16 (rvt hF)) ⟨rfl,(hS.pick [] kr).ro,hS.newC [] dc kr⟩)
end Go.Cf
