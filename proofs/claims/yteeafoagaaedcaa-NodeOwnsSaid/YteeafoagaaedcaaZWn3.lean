/- The walks: each function returns what its model says. Printed by a program of ours. -/
import Derived.Test.YteeafoagaaedcaaZM1
import Derived.Test.YteeafoagaaedcaaZWt2
import Derived.Test.YteeafoagaaedcaaZWt1
import Derived.Test.YteeafoagaaedcaaZWn1
import Derived.Test.YteeafoagaaedcaaZWn2
namespace Go.Cf
open Go Go.Proofs
set_option linter.unusedVariables false
set_option maxRecDepth 20000
set_option maxHeartbeats 8000000
theorem C_node_Node_Take (N:Nat){Ms:List Nat}{κ0:Gh}{w0:World}(a1:T_node_Node)(a18:T_api_Msg)(a23:Int)(b2:Nat)(p3:Option Nat)(m4:Array MapEntry)(c5:Nat)(b6:Nat)(p7:Option Nat)(m8:Array MapEntry)(c9:Nat)(p10:Option Nat)(m11:Array MapEntry)(c12:Nat)(p13:Option Addr)(c14:Nat)(p15:Option Addr)(c16:Nat)(p19:Option Addr)(c20:Nat)(p21:Option Addr)(c22:Nat)(b17:Nat)(hB:SB Ms κ0 w0 [.box b17 151 [si a1.dc,(1,[pt b2 0]),(1,[pt b6 0]),sm p10,sl p13 (a1.owned).length c14,sl p15 (a1.modes).length c16],.tok p13 157 3 (a1.owned).length c14,.tok p15 25 1 (a1.modes).length c16,.box b2 130 [sm p3,su a1.store.floor],mx p3 m4 c5,.box b6 174 [su a1.part.clock,sm p7],mx p7 m8 c9,mx p10 m11 c12] [Map.mp kStr false (tSl f_api_Ver.ty) p3 m4 c5 a1.store.chains,Map.mp (kInt .u64) false (fInt .u64).ty p7 m8 c9 a1.part.open_,Map.mp (kInt .u64) false (tSl f_api_Ver.ty) p10 m11 c12 a1.writes,Ro.mp f_span_Shard.ty p13 c14 a1.owned,Ro.mp (fInt .u64).ty p15 c16 a1.modes,Ro.mp f_api_Ver.ty p19 c20 a18.Vers,Ro.mp (fInt .u64).ty p21 c22 a18.Vec]){r:(T_api_Msg×Bool×T_node_Node)}(H:M.node_Node_Take N a1 a18 a23=some r) :
    Calls Try.prog 62 #[pt b17 0,.agg (flat [si a18.Kind,su a18.Id,su a18.N,su a18.TS,sg a18.Lo,sg a18.Hi,sl p19 (a18.Vers).length c20,sl p21 (a18.Vec).length c22,si a18.Cmd.Kind,si a18.Cmd.DC,si a18.Cmd.Shard,si a18.Cmd.Node,si a18.Cmd.Mode,sg a18.Cmd.Key]).toArray,vi a23] w0 (Post Ms κ0 w0 fun v κ w => ∃(p433:Option Addr) (c434:Nat) (p435:Option Addr) (c436 b437:Nat) (p438:Option Nat) (m439:Array MapEntry) (c440 b441:Nat) (p442:Option Nat) (m443:Array MapEntry) (c444:Nat) (p445:Option Nat) (m446:Array MapEntry) (c447:Nat) (p448:Option Addr) (c449:Nat) (p450:Option Addr) (c451:Nat),v = .tuple #[.agg (flat [si r.1.Kind,su r.1.Id,su r.1.N,su r.1.TS,sg r.1.Lo,sg r.1.Hi,sl p433 (r.1.Vers).length c434,sl p435 (r.1.Vec).length c436,si r.1.Cmd.Kind,si r.1.Cmd.DC,si r.1.Cmd.Shard,si r.1.Cmd.Node,si r.1.Cmd.Mode,sg r.1.Cmd.Key]).toArray,vb r.2.1]∧SS Ms κ0 w0 κ w [.box b17 151 [si r.2.2.dc,(1,[pt b437 0]),(1,[pt b441 0]),sm p445,sl p448 (r.2.2.owned).length c449,sl p450 (r.2.2.modes).length c451],.tok p448 157 3 (r.2.2.owned).length c449,.tok p450 25 1 (r.2.2.modes).length c451,.box b437 130 [sm p438,su r.2.2.store.floor],mx p438 m439 c440,.box b441 174 [su r.2.2.part.clock,sm p442],mx p442 m443 c444,mx p445 m446 c447,.tok p433 37 6 (r.1.Vers).length c434,.tok p435 25 1 (r.1.Vec).length c436] [Ro.mp f_api_Ver.ty p433 c434 r.1.Vers,Ro.mp (fInt .u64).ty p435 c436 r.1.Vec,Map.mp kStr false (tSl f_api_Ver.ty) p438 m439 c440 r.2.2.store.chains,Map.mp (kInt .u64) false (fInt .u64).ty p442 m443 c444 r.2.2.part.open_,Map.mp (kInt .u64) false (tSl f_api_Ver.ty) p445 m446 c447 r.2.2.writes,Ro.mp f_span_Shard.ty p448 c449 r.2.2.owned,Ro.mp (fInt .u64).ty p450 c451 r.2.2.modes]):=by
 have hS:=hB.hS
 have hfr:=hS.fresh
 refine enterM (N:=(295)) (L:=[(0,pt b17 0),(1,.agg (flat [si a18.Kind,su a18.Id,su a18.N,su a18.TS,sg a18.Lo,sg a18.Hi,sl p19 (a18.Vers).length c20,sl p21 (a18.Vec).length c22,si a18.Cmd.Kind,si a18.Cmd.DC,si a18.Cmd.Shard,si a18.Cmd.Node,si a18.Cmd.Mode,sg a18.Cmd.Key]).toArray),(2,vi a23)]) Try.func62 rfl Try.ntmps62 (show 3≤(295) by decide) rfl fun a hF=>?_
 unfold M.node_Node_Take at H
 refine qr fun _ h24=>(wc (wbx hF hS [si a18.Kind,su a18.Id,su a18.N,su a18.TS,sg a18.Lo,sg a18.Hi,sl p19 (a18.Vers).length c20,sl p21 (a18.Vec).length c22,si a18.Cmd.Kind,si a18.Cmd.DC,si a18.Cmd.Shard,si a18.Cmd.Node,si a18.Cmd.Mode,sg a18.Cmd.Key] (sgN 14 sgNil) fun b25 a w hF hS=>wc (wal hF hS [si 0,su 0,su 0,su 0,sg ByteArray.empty,sg ByteArray.empty,sl none 0 0,sl none 0 0,si 0,si 0,si 0,si 0,si 0,sg ByteArray.empty] (sgN 14 sgNil) fun b26 a w hF hS=>?_)))
 refine wp 1 [0,2,4,6] hF fun a hF=>(h24 _ _ (qs fun _ h27=>qr fun _ h28=>(bd H fun v30 hv30 H=>wl_join (fun a w => ∃κ:Gh,Fr (295) [] [(0,pt b17 0),(2,vi a23),(4,pt b25 0),(6,pt b26 0),(27,vb v30)] a∧SS Ms κ0 w0 κ w [.box b26 93 [si 0,su 0,su 0,su 0,sg ByteArray.empty,sg ByteArray.empty,sl none 0 0,sl none 0 0,si 0,si 0,si 0,si 0,si 0,sg ByteArray.empty],.box b25 93 [si a18.Kind,su a18.Id,su a18.N,su a18.TS,sg a18.Lo,sg a18.Hi,sl p19 (a18.Vers).length c20,sl p21 (a18.Vec).length c22,si a18.Cmd.Kind,si a18.Cmd.DC,si a18.Cmd.Shard,si a18.Cmd.Node,si a18.Cmd.Mode,sg a18.Cmd.Key],.box b17 151 [si a1.dc,(1,[pt b2 0]),(1,[pt b6 0]),sm p10,sl p13 (a1.owned).length c14,sl p15 (a1.modes).length c16],.box b2 130 [sm p3,su a1.store.floor],.box b6 174 [su a1.part.clock,sm p7],.tok p13 157 3 (a1.owned).length c14,.tok p15 25 1 (a1.modes).length c16,mx p3 m4 c5,mx p7 m8 c9,mx p10 m11 c12] [Map.mp kStr false (tSl f_api_Ver.ty) p3 m4 c5 a1.store.chains,Map.mp (kInt .u64) false (fInt .u64).ty p7 m8 c9 a1.part.open_,Map.mp (kInt .u64) false (tSl f_api_Ver.ty) p10 m11 c12 a1.writes,Ro.mp f_span_Shard.ty p13 c14 a1.owned,Ro.mp (fInt .u64).ty p15 c16 a1.modes,Ro.mp f_api_Ver.ty none 0 ([]:List T_api_Ver),Ro.mp (fInt .u64).ty none 0 ([]:List Int),Ro.mp f_api_Ver.ty p19 c20 a18.Vers,Ro.mp (fInt .u64).ty p21 c22 a18.Vec]∧True) ?_ ?_)))
 refine wp 7 [0,2,4,6,24] hF fun a hF=>bs hv30 (fun hb hv30=>?_) fun hb hv30=>?_
 have hF:=hF.bv 24 hb
 refine wp 3 [0,2,4,6,27] hF fun a hF=>nl ?_
 cases hv30
 have hS:=hS.add (m:=Ro.mp f_api_Ver.ty none 0 ([]:List T_api_Ver)) (Ro.nil f_api_Ver.ty _ _)
 have hS:=hS.add (m:=Ro.mp (fInt .u64).ty none 0 ([]:List Int)) (Ro.nil (fInt .u64).ty _ _)
 exact ⟨_,hF.kp [0,2,4,6,27],hS.sp [0,1,2,5,7,3,4,6,8,9] [2,3,4,5,6,1,0,7,8],trivial⟩
 have hF:=hF.bv 24 hb
 refine wp 3 [0,2,4,6,27] hF fun a hF=>nl ?_
 cases hv30
 have hS:=hS.add (m:=Ro.mp f_api_Ver.ty none 0 ([]:List T_api_Ver)) (Ro.nil f_api_Ver.ty _ _)
 have hS:=hS.add (m:=Ro.mp (fInt .u64).ty none 0 ([]:List Int)) (Ro.nil (fInt .u64).ty _ _)
 exact ⟨_,hF.kp [0,2,4,6,27],hS.sp [0,1,2,5,7,3,4,6,8,9] [2,3,4,5,6,1,0,7,8],trivial⟩
 rintro a w ⟨κ,hF,hS,-⟩
 refine h28 _ _ (bc hF H (fun hb H=>?_) fun hb H=>?_)
 refine qr fun _ h31=>(wp 1 [6,28] hF fun a hF=>wc (wst hF hS 0 0 14 [si 0,su 0,su 0,su 0,sg ByteArray.empty,sg ByteArray.empty,sl none 0 0,sl none 0 0,si 0,si 0,si 0,si 0,si 0,sg ByteArray.empty] (sgN 14 sgNil) fun a w hF hS=>wp 1 [6,7] hF fun a hF=>(h31 _ _ (rt ?_))))
 have hS':=hS
 have hS:=hS.addNil 37 6
 have hS:=hS.addNil 25 1
 cases H
 exact ret_done0 hF hS (res2 Try.results62 (rvs hF hS' 0 0 14) (rvt hF)) ⟨none,0,none,0,b2,p3,m4,c5,b6,p7,m8,c9,p10,m11,c12,p13,c14,p15,c16,rfl,hS.sp [4,7,8,5,9,6,10,11,1,0] [5,6,0,1,2,3,4]⟩
 refine sk (h27 _ _ (seq_join (fun a w => ∃(κ:Gh) (y32:Int) (b33:Nat) (p34:Option Nat) (m35:Array MapEntry) (c36:Nat) (y37:Mp ByteArray (List T_api_Ver)) (y38:Int) (b39:Nat) (y40:Int) (p41:Option Nat) (m42:Array MapEntry) (c43:Nat) (y44:Mp Int Int) (p45:Option Nat) (m46:Array MapEntry) (c47:Nat) (y48:Mp Int (List T_api_Ver)) (y49:List T_span_Shard) (p50:Option Addr) (c51:Nat),Fr (295) [] [(6,pt b26 0)] a∧SS Ms κ0 w0 κ w [.box b26 93 [si 0,su 0,su 0,su 0,sg ByteArray.empty,sg ByteArray.empty,sl none 0 0,sl none 0 0,si 0,si 0,si 0,si 0,si 0,sg ByteArray.empty],.box b17 151 [si y32,(1,[pt b33 0]),(1,[pt b39 0]),sm p45,sl p50 y49.length c51,sl p15 (a1.modes).length c16],.box b33 130 [sm p34,su y38],.box b39 174 [su y40,sm p41],.tok p50 157 3 y49.length c51,.tok p15 25 1 (a1.modes).length c16,mx p34 m35 c36,mx p41 m42 c43,mx p45 m46 c47] [Ro.mp f_api_Ver.ty none 0 ([]:List T_api_Ver),Ro.mp (fInt .u64).ty none 0 ([]:List Int),Map.mp kStr false (tSl f_api_Ver.ty) p34 m35 c36 y37,Map.mp (kInt .u64) false (fInt .u64).ty p41 m42 c43 y44,Map.mp (kInt .u64) false (tSl f_api_Ver.ty) p45 m46 c47 y48,Ro.mp f_span_Shard.ty p50 c51 y49,Ro.mp (fInt .u64).ty p15 c16 a1.modes]∧M.node_Node_Take_k1 N a1 y32 y37 y38 y40 y44 y48 y49=some r) ?_ ?_))
 refine qr fun _ h53=>(wp 1 [0,2,4,6,29] hF fun a hF=>wc (wld hF hS 1 0 0 fun a hF=>(h53 _ _ (bk (qr fun _ h54=>(wp 2 [0,2,4,6,30,31] hF fun a hF=>(h54 _ _ (bc hF H (fun hb H=>?_) fun hb H=>?_))))))))
 refine qr fun _ h55=>(wp 1 [2,4,6,33] hF fun a hF=>wc (wls hF hS 1 0 14 fun a hF=>wp 1 [6,33,34,35] hF fun a hF=>bd H fun x56 hx56 H=>wc (wcS 8 [2,5,6,3,7,4,8,9,0,1] hF hS (fun hS=>C_node_Node_prepare N (T_node_Node.mk a1.dc (T_store_Store.mk a1.store.chains a1.store.floor) (T_part_Part.mk a1.part.clock a1.part.open_) a1.writes a1.owned a1.modes) (T_api_Msg.mk a18.Kind a18.Id a18.N a18.TS a18.Lo a18.Hi a18.Vers a18.Vec (T_api_Cmd.mk a18.Cmd.Kind a18.Cmd.DC a18.Cmd.Shard a18.Cmd.Node a18.Cmd.Mode a18.Cmd.Key)) a23 b2 p3 m4 c5 b6 p7 m8 c9 p10 m11 c12 p13 c14 p15 c16 p19 c20 p21 c22 b17 ⟨rfl,hS.pick [0,1,2,3,4,7,8] kr⟩ hx56) ?_)))
 rintro _ κ w a ⟨p57,c58,p59,c60,b61,p62,m63,c64,b65,p66,m67,c68,p69,m70,c71,p72,c73,p74,c75,rfl,h2⟩ hF hB
 have hS:=hB _ _ h2
 refine wp 2 [6,37,38] hF fun a hF=>wc (wst hF hS 10 0 14 [si x56.1.Kind,su x56.1.Id,su x56.1.N,su x56.1.TS,sg x56.1.Lo,sg x56.1.Hi,sl p57 (x56.1.Vers).length c58,sl p59 (x56.1.Vec).length c60,si x56.1.Cmd.Kind,si x56.1.Cmd.DC,si x56.1.Cmd.Shard,si x56.1.Cmd.Node,si x56.1.Cmd.Mode,sg x56.1.Cmd.Key] (sgN 14 sgNil) fun a w hF hS=>wp 1 [6,7] hF fun a hF=>(h55 _ _ (rt ?_)))
 have hS':=hS
 cases H
 exact ret_done0 hF hS (res2 Try.results62 (rvs hF hS' 10 0 14) (rvt hF)) ⟨p57,c58,p59,c60,b61,p62,m63,c64,b65,p66,m67,c68,p69,m70,c71,p72,c73,p74,c75,rfl,hS.sp (rg 10) (rg 7)⟩
 refine qr fun _ h76=>(wp 2 [0,2,4,6,30,39] hF fun a hF=>(h76 _ _ (bc hF H (fun hb H=>?_) fun hb H=>?_)))
 refine qs fun _ h77=>qs fun _ h78=>rgX hS [0,1,2,3,7,9] ?_
 have hS:=hS.drew
 have hX:=hS.px [0,1,2,3,7,9]
 refine anp [0,1,2,4,6,8] [0,4,6,43,45,47,49] hF hX fun a hF=>atk 3 (some 44) hF hX rfl (vld 2 2 0) fun a hF=>atk 5 (some 46) hF hX rfl (vld 1 1 0) fun a hF=>atk 7 (some 48) hF hX rfl (vld 1 3 0) fun a hF=>ago 9 hF rfl (bd H fun x79 hx79 H=>wcS 2 [4,8,0,1,2,3,5,6,7,9] hF hS (fun hS=>C_part_Part_Commit N (T_part_Part.mk a1.part.clock a1.part.open_) a18.Id a18.TS a23 p7 m8 c9 b6 ⟨rfl,hS.pick [1] kr⟩ hx79) ?_)
 rintro _ κ w a ⟨p80,m81,c82,rfl,h2⟩ hF hB
 have hS:=hB _ _ h2
 refine ⟨fun _=>(hS.sx [2,3,4,5,8,9] (ra 1 9)),?_⟩
 refine anp [10] [0,4,6,51] hF (hS.sx [2,3,4,5,8,9] (ra 1 9)) fun a hF=>and_ (h78 _ _ (bc hF H (fun hb H=>?_) fun hb H=>?_))
 refine qr fun _ h83=>(wp 1 [6,52] hF fun a hF=>wc (wst hF hS 2 0 14 [si 0,su 0,su 0,su 0,sg ByteArray.empty,sg ByteArray.empty,sl none 0 0,sl none 0 0,si 0,si 0,si 0,si 0,si 0,sg ByteArray.empty] (sgN 14 sgNil) fun a w hF hS=>wp 1 [6,7] hF fun a hF=>(h83 _ _ (rt ?_))))
 have hS':=hS
 have hS:=hS.addNil 37 6
 have hS:=hS.addNil 25 1
 cases H
 exact ret_done0 hF hS (res2 Try.results62 (rvs hF hS' 2 0 14) (rvt hF)) ⟨none,0,none,0,b2,p3,m4,c5,b6,p80,m81,c82,p10,m11,c12,p13,c14,p15,c16,rfl,hS.sp [6,8,9,7,10,2,3,11,1,0] [6,7,1,0,3,4,5]⟩
 refine sk (h77 _ _ (qs fun _ h84=>qs fun _ h85=>rgS hS [] ?_))
 have hS:=hS.drew
 have hX:=hS.fx
 refine any_pure [0,1,2,4,8] [0,4,6,55,57,61] (L':=[(0,pt b17 0),(4,pt b25 0),(6,pt b26 0),(55,pt b17 3),(57,pt b25 1),(61,vi 0)]) (listed':=(bitA 9 279)) (fuel:=4) hF hX kr (by intro c a w t v h; cases t<;>exact h) kr rfl fun a hF=>atk 3 (some 56) hF hX rfl (vld 4 3 0) fun a hF=>atk 5 (some 58) hF hX rfl (vld 3 1 0) fun a hF=>bd H fun x86 hx86 H=>?_
 obtain ⟨_,⟨⟨p87,c88⟩,rfl,hR⟩,hvx86⟩:=lookup_val (P:=Try.prog) (KT:=25) (E:=39) (kt:=(kInt .u64)) (agg:=false) (t:=(tSl f_api_Ver.ty)) (L:=[(0,pt b17 0),(4,pt b25 0),(6,pt b26 0),(55,pt b17 3),(56,.map p10),(57,pt b25 1),(58,vu a18.Id),(61,vi 0)]) (o:=⟨(some 59),(Go.Op.lookup 148 (Go.Operand.tmp 56) (Go.Operand.tmp 58) false),39,"node.go:90",#[(Go.Edge.mk 3 Go.Ground.data),(Go.Edge.mk 5 Go.Ground.data)],none⟩) hS 3 (k:=a18.Id) (zc:=flat [sl none 0 0]) (zm:=([]:List T_api_Ver)) rfl kr kr rfl hx86 kr kr kr (ztSl _)
 have hS:=hS.adds hR
 refine atk 6 (some 59) hF (hS.sx [0,1,2,3,4,5,8,9] (ra 1 10)) rfl (fun w hw=>hvx86 7 rfl w hw) fun a hF=>anp [7] [0,4,6,59,60,61] hF (hS.sx [0,1,2,3,4,5,8,9] (ra 1 10)) fun a hF=>and_ (h85 _ _ (bk (loop_fuel (n:=N) (fun n a w => ∃(κ:Gh) (p139:Option Nat) (m140:Array MapEntry) (c141:Nat) (y142:Mp ByteArray (List T_api_Ver)) (y143 y144:Int),Fr (295) [] [(0,pt b17 0),(4,pt b25 0),(6,pt b26 0),(59,.slice p87 (x86.1).length c88),(60,vi ((x86.1).length:Int)),(61,vi y144)] a∧SS Ms κ0 w0 κ w [.box b6 174 [su x79.2.clock,sm p80],.box b26 93 [si 0,su 0,su 0,su 0,sg ByteArray.empty,sg ByteArray.empty,sl none 0 0,sl none 0 0,si 0,si 0,si 0,si 0,si 0,sg ByteArray.empty],.box b25 93 [si a18.Kind,su a18.Id,su a18.N,su a18.TS,sg a18.Lo,sg a18.Hi,sl p19 (a18.Vers).length c20,sl p21 (a18.Vec).length c22,si a18.Cmd.Kind,si a18.Cmd.DC,si a18.Cmd.Shard,si a18.Cmd.Node,si a18.Cmd.Mode,sg a18.Cmd.Key],.box b17 151 [si a1.dc,(1,[pt b2 0]),(1,[pt b6 0]),sm p10,sl p13 (a1.owned).length c14,sl p15 (a1.modes).length c16],.box b2 130 [sm p139,su y143],.tok p13 157 3 (a1.owned).length c14,.tok p15 25 1 (a1.modes).length c16,mx p139 m140 c141,mx p80 m81 c82,mx p10 m11 c12] [Map.mp kStr false (tSl f_api_Ver.ty) p139 m140 c141 y142,Map.mp (kInt .u64) false (fInt .u64).ty p80 m81 c82 x79.2.open_,Map.mp (kInt .u64) false (tSl f_api_Ver.ty) p10 m11 c12 a1.writes,Ro.mp f_span_Shard.ty p13 c14 a1.owned,Ro.mp (fInt .u64).ty p15 c16 a1.modes,Ro.mp f_api_Ver.ty p87 c88 x86.1,Ro.mp f_api_Ver.ty none 0 ([]:List T_api_Ver),Ro.mp (fInt .u64).ty none 0 ([]:List Int),Ro.mp f_api_Ver.ty p19 c20 a18.Vers,Ro.mp (fInt .u64).ty p21 c22 a18.Vec]∧M.node_Node_Take_L2 N n a1 a18 x79 x86 y142 y143 y144=some r) ?_ ?_)))
 exact ⟨_,p3,m4,c5,a1.store.chains,a1.store.floor,0,hF.kp [0,4,6,59,60,61],hS.sp [0,2,3,4,5,6,7,8,1,9] [2,1,4,5,6,0,7,8,9,10],H⟩
 rintro n a w ⟨κ,p139,m140,c141,y142,y143,y144,hF,hS,H⟩
 rcases n with _|fuel2
 simp [M.node_Node_Take_L2] at H
 simp only [M.node_Node_Take_L2] at H
 refine qr fun _ h145=>(wl_pure (L':=[(0,pt b17 0),(4,pt b25 0),(6,pt b26 0),(59,.slice p87 (x86.1).length c88),(60,vi ((x86.1).length:Int)),(61,vi y144),(62,vb (decide (y144<((x86.1).length:Int))))]) 1 [0,4,6,59,60,61,62] hF kr fun a hF=>(h145 _ _ (qs fun _ h146=>bc hF H (fun hb H=>?_) fun hb H=>?_)))
 refine sk (h146 _ _ (qs fun _ h147=>bk (qr fun _ h148=>(bd H fun x149 hx149 H=>wc (wo_index hF hS kr 5 (E:=37) (sz:=6) rfl rfl rfl kr rfl hx149 kr kr fun b150 f151 a hpx149 hF=>wc (wo_loadRoAgg (t:=f_api_Ver) hF hS kr 5 rfl rfl hpx149 rfl hx149 kr kr kr fun a hF=>wc (wal hF hS [sg ByteArray.empty,sg ByteArray.empty,sb false,su 0,si 0,si 0] (sgN 6 sgNil) fun b152 a w hF hS=>wc (wst hF hS 0 0 6 [sg x149.Key,sg x149.Val,sb x149.Gone,su x149.TS,si x149.DC,si x149.Tx] (sgN 6 sgNil) fun a w hF hS=>?_))))))))
 refine h148 _ _ (qs fun _ h153=>rgX hS [1,2,3,4,5,8,9,10] ?_)
 have hS:=hS.drew
 have hX:=hS.px [1,2,3,4,5,8,9,10]
 refine anp [0,2,3,4,6] [0,4,6,9,59,60,61,65,69,71] hF hX fun a hF=>atk 1 (some 66) hF hX rfl (vld 2 3 0) fun a hF=>anp [9] [0,4,6,9,59,60,61,66,69,71,74] hF hX fun a hF=>atk 5 (some 70) hF hX rfl (vld 3 0 0) fun a hF=>atk 7 (some 72) hF hX rfl (vld 2 1 0) fun a hF=>anp [8] [0,4,6,9,59,60,61,66,70,73,74] hF hX fun a hF=>ago 10 hF rfl (wst hF hS 0 3 1 [su a18.TS] (sgN 1 sgNil) fun a w hF hS=>⟨fun _=>(hS.sx [1,2,3,4,5,8,9,10] (rg 10)),?_⟩)
 refine anp [11] [0,4,6,9,59,60,61,70,73,75] hF (hS.sx [1,2,3,4,5,8,9,10] (rg 10)) fun a hF=>ago 12 hF rfl (wst hF hS 0 4 1 [si a1.dc] (sgN 1 sgNil) fun a w hF hS=>⟨fun _=>(hS.sx [1,2,3,4,5,8,9,10] (rg 10)),?_⟩)
 refine anp [13] [0,4,6,9,59,60,61,73,76] hF (hS.sx [1,2,3,4,5,8,9,10] (rg 10)) fun a hF=>ago 14 hF rfl (wst hF hS 0 5 1 [si (IntKind.i64.wrap a18.Id)] (sgN 1 sgNil) fun a w hF hS=>⟨fun _=>(hS.sx [1,2,3,4,5,8,9,10] (rg 10)),?_⟩)
 refine and_ (h153 _ _ (rgX hS [0,1,2,3,4,9,10] ?_))
 have hS:=hS.drew
 have hX:=hS.px [0,1,2,3,4,9,10]
 refine anp [0,1,2] [0,4,6,9,59,60,61,79] hF hX fun a hF=>atk 3 (some 80) hF hX rfl (vld 4 1 0) fun a hF=>atk 4 (some 81) hF hX rfl (vls 0 0 6) fun a hF=>ago 5 hF rfl (bd H fun x154 hx154 H=>wcS 2 [5,8,0,1,2,3,4,6,7,9,10] hF hS (fun hS=>C_store_Store_Put N (T_store_Store.mk y142 y143) (T_api_Ver.mk x149.Key x149.Val x149.Gone a18.TS a1.dc (IntKind.i64.wrap a18.Id)) p139 m140 c141 b2 ⟨rfl,hS.pick [0] kr⟩ hx154) ?_)
 rintro _ κ w a ⟨p155,m156,c157,rfl,h2⟩ hF hB
 have hS:=hB _ _ h2
 refine ⟨fun _=>(hS.sx [2,3,4,5,6,9,10] (ra 1 10)),?_⟩
 refine and_ (h147 _ _ (rl (wp 2 [0,4,6,59,60,61] hF fun a hF=>nl ?_)))
 exact ⟨fuel2,Nat.lt_succ_self _,_,p155,m156,c157,x154.2.chains,x154.2.floor,IntKind.i64.wrap (y144+1),hF.kp [0,4,6,59,60,61],hS.sp [3,4,5,6,0,7,8,1,9,10] [0,2,3,4,5,6,7,8,9,10],H⟩
 refine xt (h84 _ _ (qs fun _ h158=>rgX hS [0,1,2,3,4,7,8] ?_))
 have hS:=hS.drew
 have hX:=hS.px [0,1,2,3,4,7,8]
 refine any_pure [0,1,2,4] [4,6,86,88] (L':=[(4,pt b25 0),(6,pt b26 0),(86,pt b17 3),(88,pt b25 1)]) (listed':=(bitA 7 23)) (fuel:=3) hF hX kr (by intro c a w t v h; cases t<;>exact h) kr rfl fun a hF=>atk 3 (some 87) hF hX rfl (vld 3 3 0) fun a hF=>atk 5 (some 89) hF hX rfl (vld 2 1 0) fun a hF=>ago 6 hF rfl (wo_delete (KT:=25) (E:=39) (kt:=(kInt .u64)) (agg:=false) (t:=(tSl f_api_Ver.ty)) hF hS kr 9 2 (k:=a18.Id) rfl kr kr rfl rfl kr kr fun m159 a w hsub hF hS=>⟨fun _=>(hS.sx [0,1,2,3,4,7,8] (ra 1 10)),?_⟩)
 refine and_ (h158 _ _ (qr fun _ h160=>(wp 1 [6,90] hF fun a hF=>wc (wld hF hS 2 1 0 fun a hF=>wp 1 [6,92] hF fun a hF=>wc (wst hF hS 1 0 14 [si 12,su a18.Id,su 0,su 0,sg ByteArray.empty,sg ByteArray.empty,sl none 0 0,sl none 0 0,si 0,si 0,si 0,si 0,si 0,sg ByteArray.empty] (sgN 14 sgNil) fun a w hF hS=>wp 1 [6,7] hF fun a hF=>(h160 _ _ (rt ?_)))))))
 have hS':=hS
 have hS:=hS.addNil 37 6
 have hS:=hS.addNil 25 1
 cases H
 exact ret_done0 hF hS (res2 Try.results62 (rvs hF hS' 1 0 14) (rvt hF)) ⟨none,0,none,0,b2,p139,m140,c141,b6,p80,m81,c82,p10,m159,c12,p13,c14,p15,c16,rfl,hS.sp [5,7,8,6,9,2,10,11,1,0] [7,8,1,2,0,4,5]⟩
 refine qr fun _ h161=>(wp 2 [0,4,6,30,93] hF fun a hF=>(h161 _ _ (bc hF H (fun hb H=>?_) fun hb H=>?_)))
 refine qs fun _ h162=>qr fun _ h163=>(wp 2 [0,4,6,95,96] hF fun a hF=>wc (wld hF hS 1 4 0 fun a hF=>bd H fun x164 hx164 H=>wc (wcS 6 [2,3,7,4,8,9,0,1,5,6] hF hS (fun hS=>C_node_Node_Owns N (T_node_Node.mk a1.dc (T_store_Store.mk a1.store.chains a1.store.floor) (T_part_Part.mk a1.part.clock a1.part.open_) a1.writes a1.owned a1.modes) a18.Lo b2 p3 m4 c5 b6 p7 m8 c9 p10 m11 c12 p13 c14 p15 c16 b17 ⟨rfl,hS.pick (rg 5) kr⟩ hx164) ?_)))
 rintro _ κ w a ⟨rfl,h2⟩ hF hB
 have hS:=hB _ _ h2
 refine wp 1 [0,4,6,99] hF fun a hF=>(h163 _ _ (bc hF H (fun hb H=>?_) fun hb H=>?_))
 refine qr fun _ h165=>(wp 1 [6,100] hF fun a hF=>wc (wst hF hS 6 0 14 [si 0,su 0,su 0,su 0,sg ByteArray.empty,sg ByteArray.empty,sl none 0 0,sl none 0 0,si 0,si 0,si 0,si 0,si 0,sg ByteArray.empty] (sgN 14 sgNil) fun a w hF hS=>wp 1 [6,7] hF fun a hF=>(h165 _ _ (rt ?_))))
 have hS':=hS
 have hS:=hS.addNil 37 6
 have hS:=hS.addNil 25 1
 cases H
 exact ret_done0 hF hS (res2 Try.results62 (rvs hF hS' 6 0 14) (rvt hF)) ⟨none,0,none,0,b2,p3,m4,c5,b6,p7,m8,c9,p10,m11,c12,p13,c14,p15,c16,rfl,hS.sp [2,10,11,3,4,5,6,7,1,0] [5,6,0,1,2,3,4]⟩
 refine sk (h162 _ _ (qr fun _ h166=>(wp 1 [0,4,6,101] hF fun a hF=>wc (wld hF hS 7 1 0 fun a hF=>wp 1 [0,4,6,103] hF fun a hF=>wc (wal hF hS [si 0,su 0,su 0,su 0,sg ByteArray.empty,sg ByteArray.empty,sl none 0 0,sl none 0 0,si 0,si 0,si 0,si 0,si 0,sg ByteArray.empty] (sgN 14 sgNil) fun b167 a w hF hS=>wc (wst hF hS 0 0 14 [si 13,su a18.Id,su 0,su 0,sg ByteArray.empty,sg ByteArray.empty,sl none 0 0,sl none 0 0,si 0,si 0,si 0,si 0,si 0,sg ByteArray.empty] (sgN 14 sgNil) fun a w hF hS=>?_))))))
 refine h166 _ _ (qs fun _ h168=>bd H fun v178 hv178 H=>code_join (fun a w => ∃(κ:Gh) (b169:Nat),Fr (295) [] [(6,pt b26 0),(10,pt b167 0),(11,pt b169 0),(12,vb v178.u4.2.2.1),(13,vi v178.u4.2.2.2)] a∧SS Ms κ0 w0 κ w [.box b2 130 [sm p3,su a1.store.floor],.box b167 93 [si 13,su a18.Id,su 0,su 0,sg ByteArray.empty,sg ByteArray.empty,sl none 0 0,sl none 0 0,si 0,si 0,si 0,si 0,si 0,sg ByteArray.empty],.box b17 151 [si a1.dc,(1,[pt b2 0]),(1,[pt b6 0]),sm p10,sl p13 (a1.owned).length c14,sl p15 (a1.modes).length c16],.box b6 174 [su a1.part.clock,sm p7],.box b26 93 [si 0,su 0,su 0,su 0,sg ByteArray.empty,sg ByteArray.empty,sl none 0 0,sl none 0 0,si 0,si 0,si 0,si 0,si 0,sg ByteArray.empty],.box b169 37 [sg v178.1,sg v178.2.1,sb v178.2.2.1,su v178.2.2.2.1,si v178.u4.1,si v178.u4.2.1],.tok p13 157 3 (a1.owned).length c14,.tok p15 25 1 (a1.modes).length c16,mx p3 m4 c5,mx p7 m8 c9,mx p10 m11 c12] [Map.mp kStr false (tSl f_api_Ver.ty) p3 m4 c5 a1.store.chains,Ro.mp f_api_Ver.ty none 0 ([]:List T_api_Ver),Ro.mp (fInt .u64).ty none 0 ([]:List Int),Map.mp (kInt .u64) false (fInt .u64).ty p7 m8 c9 a1.part.open_,Map.mp (kInt .u64) false (tSl f_api_Ver.ty) p10 m11 c12 a1.writes,Ro.mp f_span_Shard.ty p13 c14 a1.owned,Ro.mp (fInt .u64).ty p15 c16 a1.modes]∧True) ?_ ?_)
 refine rgS hS [14] ?_
 have hS:=hS.drew
 have hX:=hS.fx
 refine bd hv178 fun x179 hx179 hv178=>anp [0,1,2,4,6] [6,10,107,109,111] hF hX fun a hF=>atk 3 (some 108) hF hX rfl (vld 1 1 0) fun a hF=>atk 5 (some 110) hF hX rfl (vld 8 4 0) fun a hF=>atk 7 (some 112) hF hX rfl (vld 8 3 0) fun a hF=>ago2 8 13 hF rfl rfl ?_ ?_
 refine wcS 2 [2,3,0,1,4,5,6,7,8,9,10] hF hS (fun hS=>C_store_Store_Get N (T_store_Store.mk a1.store.chains a1.store.floor) a18.Lo a18.TS p3 m4 c5 b2 ⟨rfl,hS.pick [0] kr⟩ hx179) ?_
 rintro _ κ w a ⟨rfl,h2⟩ hF hB
 have hS:=(hB _ _ h2).cC (C':=[.box b2 130 [sm p3,su a1.store.floor],mx p3 m4 c5,.box b167 93 [si 13,su a18.Id,su 0,su 0,sg ByteArray.empty,sg ByteArray.empty,sl none 0 0,sl none 0 0,si 0,si 0,si 0,si 0,si 0,sg ByteArray.empty],.box b17 151 [si a1.dc,(1,[pt b2 0]),(1,[pt b6 0]),sm p10,sl p13 (a1.owned).length c14,sl p15 (a1.modes).length c16],.box b6 174 [su a1.part.clock,sm p7],mx p7 m8 c9,mx p10 m11 c12,.box b26 93 [si 0,su 0,su 0,su 0,sg ByteArray.empty,sg ByteArray.empty,sl none 0 0,sl none 0 0,si 0,si 0,si 0,si 0,si 0,sg ByteArray.empty],.box b25 93 [si a18.Kind,su a18.Id,su a18.N,su a18.TS,sg a18.Lo,sg a18.Hi,sl p19 (a18.Vers).length c20,sl p21 (a18.Vec).length c22,si a18.Cmd.Kind,si a18.Cmd.DC,si a18.Cmd.Shard,si a18.Cmd.Node,si a18.Cmd.Mode,sg a18.Cmd.Key],.tok p13 157 3 (a1.owned).length c14,.tok p15 25 1 (a1.modes).length c16])
 refine ⟨fun _=>(hS.sx [2,3,0,1,4,5,6,7,8] (rg 9)),?_⟩
 refine anp [9,10] [6,10,104,114] hF (hS.sx [2,3,0,1,4,5,6,7,8] (rg 9)) fun a hF=>agn [11,12,13] ⟨op_go 11 hF rfl ?_,op_go 12 hF rfl ?_,op_go 13 hF rfl ?_,trivial⟩
 refine wo_pure (v:=vb x179.2.1) hF kr kr fun a hF=>⟨fun _=>(hS.sx [2,3,0,1,4,5,6,7,8] (rg 9)),?_⟩
 refine ago2 12 13 hF rfl rfl ?_ ?_
 refine wo_pure (v:=vi x179.2.2) hF kr kr fun a hF=>⟨fun _=>(hS.sx [2,3,0,1,4,5,6,7,8] (rg 9)),?_⟩
 refine ago 13 hF rfl (wal hF hS [sg ByteArray.empty,sg ByteArray.empty,sb false,su 0,si 0,si 0] (sgN 6 sgNil) fun b180 a w hF hS=>⟨fun _=>(hS.sx [3,4,1,2,5,6,7,8,9] (rg 9)),?_⟩)
 refine ago 14 hF rfl (wst hF hS 0 0 6 [sg x179.1.Key,sg x179.1.Val,sb x179.1.Gone,su x179.1.TS,si x179.1.DC,si x179.1.Tx] (sgN 6 sgNil) fun a w hF hS=>⟨notE,?_⟩)
 refine ago 15 hF rfl (wo_pure (v:=vb x179.2.1) hF kr kr fun a hF=>⟨notE,?_⟩)
 refine ago 16 hF rfl (wo_pure (v:=vi x179.2.2) hF kr kr fun a hF=>⟨notE,?_⟩)
 refine and_ ?_
 cases hv178
 exact ⟨_,b180,hF.kp [6,10,11,12,13],hS.sp [1,3,4,5,8,0,10,11,2,6,7] [0,5,6,1,2,3,4],trivial⟩
 refine wal hF hS [sg ByteArray.empty,sg ByteArray.empty,sb false,su 0,si 0,si 0] (sgN 6 sgNil) fun b180 a w hF hS=>⟨fun _=>(hS.sx [3,4,1,2,5,6,7,8,9] (rg 9)),?_⟩
 refine ago2 12 14 hF rfl rfl ?_ ?_
 refine wo_pure (v:=vi x179.2.2) hF kr kr fun a hF=>⟨fun _=>(hS.sx [3,4,1,2,5,6,7,8,9] (rg 9)),?_⟩
 refine ago 14 hF rfl (wst hF hS 0 0 6 [sg x179.1.Key,sg x179.1.Val,sb x179.1.Gone,su x179.1.TS,si x179.1.DC,si x179.1.Tx] (sgN 6 sgNil) fun a w hF hS=>⟨notE,?_⟩)
 refine ago 15 hF rfl (wo_pure (v:=vb x179.2.1) hF kr kr fun a hF=>⟨notE,?_⟩)
 refine ago 16 hF rfl (wo_pure (v:=vi x179.2.2) hF kr kr fun a hF=>⟨notE,?_⟩)
 refine and_ ?_
 cases hv178
 exact ⟨_,b180,hF.kp [6,10,11,12,13],hS.sp [1,3,4,5,8,0,10,11,2,6,7] [0,5,6,1,2,3,4],trivial⟩
 refine wst hF hS 0 0 6 [sg x179.1.Key,sg x179.1.Val,sb x179.1.Gone,su x179.1.TS,si x179.1.DC,si x179.1.Tx] (sgN 6 sgNil) fun a w hF hS=>⟨notE,?_⟩
 refine ago2 12 15 hF rfl rfl ?_ ?_
 refine wo_pure (v:=vi x179.2.2) hF kr kr fun a hF=>⟨notE,?_⟩
 refine ago 15 hF rfl (wo_pure (v:=vb x179.2.1) hF kr kr fun a hF=>⟨notE,?_⟩)
 refine ago 16 hF rfl (wo_pure (v:=vi x179.2.2) hF kr kr fun a hF=>⟨notE,?_⟩)
 refine and_ ?_
 cases hv178
 exact ⟨_,b180,hF.kp [6,10,11,12,13],hS.sp [1,3,4,5,8,0,10,11,2,6,7] [0,5,6,1,2,3,4],trivial⟩
 refine wo_pure (v:=vb x179.2.1) hF kr kr fun a hF=>⟨notE,?_⟩
 refine ago 12 hF rfl (wo_pure (v:=vi x179.2.2) hF kr kr fun a hF=>⟨notE,?_⟩)
 refine ago 16 hF rfl (wo_pure (v:=vi x179.2.2) hF kr kr fun a hF=>⟨notE,?_⟩)
 refine and_ ?_
 cases hv178
 exact ⟨_,b180,hF.kp [6,10,11,12,13],hS.sp [1,3,4,5,8,0,10,11,2,6,7] [0,5,6,1,2,3,4],trivial⟩
 refine wo_pure (v:=vi x179.2.2) hF kr kr fun a hF=>⟨fun _=>(hS.sx [2,3,0,1,4,5,6,7,8] (rg 9)),?_⟩
 refine ago2 11 13 hF rfl rfl ?_ ?_
 refine wo_pure (v:=vb x179.2.1) hF kr kr fun a hF=>⟨fun _=>(hS.sx [2,3,0,1,4,5,6,7,8] (rg 9)),?_⟩
 refine ago 13 hF rfl (wal hF hS [sg ByteArray.empty,sg ByteArray.empty,sb false,su 0,si 0,si 0] (sgN 6 sgNil) fun b180 a w hF hS=>⟨fun _=>(hS.sx [3,4,1,2,5,6,7,8,9] (rg 9)),?_⟩)
 refine ago 14 hF rfl (wst hF hS 0 0 6 [sg x179.1.Key,sg x179.1.Val,sb x179.1.Gone,su x179.1.TS,si x179.1.DC,si x179.1.Tx] (sgN 6 sgNil) fun a w hF hS=>⟨notE,?_⟩)
 refine ago 15 hF rfl (wo_pure (v:=vb x179.2.1) hF kr kr fun a hF=>⟨notE,?_⟩)
 refine ago 16 hF rfl (wo_pure (v:=vi x179.2.2) hF kr kr fun a hF=>⟨notE,?_⟩)
 refine and_ ?_
 cases hv178
 exact ⟨_,b180,hF.kp [6,10,11,12,13],hS.sp [1,3,4,5,8,0,10,11,2,6,7] [0,5,6,1,2,3,4],trivial⟩
 refine wal hF hS [sg ByteArray.empty,sg ByteArray.empty,sb false,su 0,si 0,si 0] (sgN 6 sgNil) fun b180 a w hF hS=>⟨fun _=>(hS.sx [3,4,1,2,5,6,7,8,9] (rg 9)),?_⟩
 refine ago2 11 14 hF rfl rfl ?_ ?_
 refine wo_pure (v:=vb x179.2.1) hF kr kr fun a hF=>⟨fun _=>(hS.sx [3,4,1,2,5,6,7,8,9] (rg 9)),?_⟩
 refine ago 14 hF rfl (wst hF hS 0 0 6 [sg x179.1.Key,sg x179.1.Val,sb x179.1.Gone,su x179.1.TS,si x179.1.DC,si x179.1.Tx] (sgN 6 sgNil) fun a w hF hS=>⟨notE,?_⟩)
 refine ago 15 hF rfl (wo_pure (v:=vb x179.2.1) hF kr kr fun a hF=>⟨notE,?_⟩)
 refine ago 16 hF rfl (wo_pure (v:=vi x179.2.2) hF kr kr fun a hF=>⟨notE,?_⟩)
 refine and_ ?_
 cases hv178
 exact ⟨_,b180,hF.kp [6,10,11,12,13],hS.sp [1,3,4,5,8,0,10,11,2,6,7] [0,5,6,1,2,3,4],trivial⟩
 refine wst hF hS 0 0 6 [sg x179.1.Key,sg x179.1.Val,sb x179.1.Gone,su x179.1.TS,si x179.1.DC,si x179.1.Tx] (sgN 6 sgNil) fun a w hF hS=>⟨notE,?_⟩
 refine ago 11 hF rfl (wo_pure (v:=vb x179.2.1) hF kr kr fun a hF=>⟨notE,?_⟩)
 refine ago 15 hF rfl (wo_pure (v:=vb x179.2.1) hF kr kr fun a hF=>⟨notE,?_⟩)
 refine ago 16 hF rfl (wo_pure (v:=vi x179.2.2) hF kr kr fun a hF=>⟨notE,?_⟩)
 refine and_ ?_
 cases hv178
 exact ⟨_,b180,hF.kp [6,10,11,12,13],hS.sp [1,3,4,5,8,0,10,11,2,6,7] [0,5,6,1,2,3,4],trivial⟩
 refine wal hF hS [sg ByteArray.empty,sg ByteArray.empty,sb false,su 0,si 0,si 0] (sgN 6 sgNil) fun b180 a w hF hS=>⟨fun _=>(hS.sx [3,4,1,2,5,6,7,8,9] (rg 9)),?_⟩
 refine agn [11,12,14] ⟨op_go 11 hF rfl ?_,op_go 12 hF rfl ?_,op_go 14 hF rfl ?_,trivial⟩
 refine wo_pure (v:=vb x179.2.1) hF kr kr fun a hF=>⟨fun _=>(hS.sx [3,4,1,2,5,6,7,8,9] (rg 9)),?_⟩
 refine ago2 12 14 hF rfl rfl ?_ ?_
 refine wo_pure (v:=vi x179.2.2) hF kr kr fun a hF=>⟨fun _=>(hS.sx [3,4,1,2,5,6,7,8,9] (rg 9)),?_⟩
 refine ago 14 hF rfl (wst hF hS 0 0 6 [sg x179.1.Key,sg x179.1.Val,sb x179.1.Gone,su x179.1.TS,si x179.1.DC,si x179.1.Tx] (sgN 6 sgNil) fun a w hF hS=>⟨notE,?_⟩)
 refine ago 15 hF rfl (wo_pure (v:=vb x179.2.1) hF kr kr fun a hF=>⟨notE,?_⟩)
 refine ago 16 hF rfl (wo_pure (v:=vi x179.2.2) hF kr kr fun a hF=>⟨notE,?_⟩)
 refine and_ ?_
 cases hv178
 exact ⟨_,b180,hF.kp [6,10,11,12,13],hS.sp [1,3,4,5,8,0,10,11,2,6,7] [0,5,6,1,2,3,4],trivial⟩
 refine wst hF hS 0 0 6 [sg x179.1.Key,sg x179.1.Val,sb x179.1.Gone,su x179.1.TS,si x179.1.DC,si x179.1.Tx] (sgN 6 sgNil) fun a w hF hS=>⟨notE,?_⟩
 refine ago2 12 15 hF rfl rfl ?_ ?_
 refine wo_pure (v:=vi x179.2.2) hF kr kr fun a hF=>⟨notE,?_⟩
 refine ago 15 hF rfl (wo_pure (v:=vb x179.2.1) hF kr kr fun a hF=>⟨notE,?_⟩)
 refine ago 16 hF rfl (wo_pure (v:=vi x179.2.2) hF kr kr fun a hF=>⟨notE,?_⟩)
 refine and_ ?_
 cases hv178
 exact ⟨_,b180,hF.kp [6,10,11,12,13],hS.sp [1,3,4,5,8,0,10,11,2,6,7] [0,5,6,1,2,3,4],trivial⟩
 refine wo_pure (v:=vb x179.2.1) hF kr kr fun a hF=>⟨notE,?_⟩
 refine ago 12 hF rfl (wo_pure (v:=vi x179.2.2) hF kr kr fun a hF=>⟨notE,?_⟩)
 refine ago 16 hF rfl (wo_pure (v:=vi x179.2.2) hF kr kr fun a hF=>⟨notE,?_⟩)
 refine and_ ?_
 cases hv178
 exact ⟨_,b180,hF.kp [6,10,11,12,13],hS.sp [1,3,4,5,8,0,10,11,2,6,7] [0,5,6,1,2,3,4],trivial⟩
 refine wo_pure (v:=vi x179.2.2) hF kr kr fun a hF=>⟨fun _=>(hS.sx [3,4,1,2,5,6,7,8,9] (rg 9)),?_⟩
 refine ago2 11 14 hF rfl rfl ?_ ?_
 refine wo_pure (v:=vb x179.2.1) hF kr kr fun a hF=>⟨fun _=>(hS.sx [3,4,1,2,5,6,7,8,9] (rg 9)),?_⟩
 refine ago 14 hF rfl (wst hF hS 0 0 6 [sg x179.1.Key,sg x179.1.Val,sb x179.1.Gone,su x179.1.TS,si x179.1.DC,si x179.1.Tx] (sgN 6 sgNil) fun a w hF hS=>⟨notE,?_⟩)
 refine ago 15 hF rfl (wo_pure (v:=vb x179.2.1) hF kr kr fun a hF=>⟨notE,?_⟩)
 refine ago 16 hF rfl (wo_pure (v:=vi x179.2.2) hF kr kr fun a hF=>⟨notE,?_⟩)
 refine and_ ?_
 cases hv178
 exact ⟨_,b180,hF.kp [6,10,11,12,13],hS.sp [1,3,4,5,8,0,10,11,2,6,7] [0,5,6,1,2,3,4],trivial⟩
 refine wst hF hS 0 0 6 [sg x179.1.Key,sg x179.1.Val,sb x179.1.Gone,su x179.1.TS,si x179.1.DC,si x179.1.Tx] (sgN 6 sgNil) fun a w hF hS=>⟨notE,?_⟩
 refine ago 11 hF rfl (wo_pure (v:=vb x179.2.1) hF kr kr fun a hF=>⟨notE,?_⟩)
 refine ago 15 hF rfl (wo_pure (v:=vb x179.2.1) hF kr kr fun a hF=>⟨notE,?_⟩)
 refine ago 16 hF rfl (wo_pure (v:=vi x179.2.2) hF kr kr fun a hF=>⟨notE,?_⟩)
 refine and_ ?_
 cases hv178
 exact ⟨_,b180,hF.kp [6,10,11,12,13],hS.sp [1,3,4,5,8,0,10,11,2,6,7] [0,5,6,1,2,3,4],trivial⟩
 refine wst hF hS 0 0 6 [sg x179.1.Key,sg x179.1.Val,sb x179.1.Gone,su x179.1.TS,si x179.1.DC,si x179.1.Tx] (sgN 6 sgNil) fun a w hF hS=>⟨notE,?_⟩
 refine ago2 11 12 hF rfl rfl ?_ ?_
 refine wo_pure (v:=vb x179.2.1) hF kr kr fun a hF=>⟨notE,?_⟩
 refine ago2 12 15 hF rfl rfl ?_ ?_
 refine wo_pure (v:=vi x179.2.2) hF kr kr fun a hF=>⟨notE,?_⟩
 refine ago 15 hF rfl (wo_pure (v:=vb x179.2.1) hF kr kr fun a hF=>⟨notE,?_⟩)
 refine ago 16 hF rfl (wo_pure (v:=vi x179.2.2) hF kr kr fun a hF=>⟨notE,?_⟩)
 refine and_ ?_
 cases hv178
 exact ⟨_,b180,hF.kp [6,10,11,12,13],hS.sp [1,3,4,5,8,0,10,11,2,6,7] [0,5,6,1,2,3,4],trivial⟩
 refine wo_pure (v:=vb x179.2.1) hF kr kr fun a hF=>⟨notE,?_⟩
 refine ago 12 hF rfl (wo_pure (v:=vi x179.2.2) hF kr kr fun a hF=>⟨notE,?_⟩)
 refine ago 16 hF rfl (wo_pure (v:=vi x179.2.2) hF kr kr fun a hF=>⟨notE,?_⟩)
 refine and_ ?_
 cases hv178
 exact ⟨_,b180,hF.kp [6,10,11,12,13],hS.sp [1,3,4,5,8,0,10,11,2,6,7] [0,5,6,1,2,3,4],trivial⟩
 refine wo_pure (v:=vi x179.2.2) hF kr kr fun a hF=>⟨notE,?_⟩
 refine ago 11 hF rfl (wo_pure (v:=vb x179.2.1) hF kr kr fun a hF=>⟨notE,?_⟩)
 refine ago 15 hF rfl (wo_pure (v:=vb x179.2.1) hF kr kr fun a hF=>⟨notE,?_⟩)
 refine ago 16 hF rfl (wo_pure (v:=vi x179.2.2) hF kr kr fun a hF=>⟨notE,?_⟩)
 refine and_ ?_
 cases hv178
 exact ⟨_,b180,hF.kp [6,10,11,12,13],hS.sp [1,3,4,5,8,0,10,11,2,6,7] [0,5,6,1,2,3,4],trivial⟩
 refine wal hF hS [sg ByteArray.empty,sg ByteArray.empty,sb false,su 0,si 0,si 0] (sgN 6 sgNil) fun b180 a w hF hS=>⟨fun _=>(hS.sx (ra 1 9) (rg 9)),?_⟩
 refine ago 8 hF rfl (wcS 2 [3,4,0,1,2,5,6,7,8,9,10,11] hF hS (fun hS=>C_store_Store_Get N (T_store_Store.mk a1.store.chains a1.store.floor) a18.Lo a18.TS p3 m4 c5 b2 ⟨rfl,hS.pick [0] kr⟩ hx179) ?_)
 rintro _ κ w a ⟨rfl,h2⟩ hF hB
 have hS:=(hB _ _ h2).cC (C':=[.box b2 130 [sm p3,su a1.store.floor],mx p3 m4 c5,.box b180 37 [sg ByteArray.empty,sg ByteArray.empty,sb false,su 0,si 0,si 0],.box b167 93 [si 13,su a18.Id,su 0,su 0,sg ByteArray.empty,sg ByteArray.empty,sl none 0 0,sl none 0 0,si 0,si 0,si 0,si 0,si 0,sg ByteArray.empty],.box b17 151 [si a1.dc,(1,[pt b2 0]),(1,[pt b6 0]),sm p10,sl p13 (a1.owned).length c14,sl p15 (a1.modes).length c16],.box b6 174 [su a1.part.clock,sm p7],mx p7 m8 c9,mx p10 m11 c12,.box b26 93 [si 0,su 0,su 0,su 0,sg ByteArray.empty,sg ByteArray.empty,sl none 0 0,sl none 0 0,si 0,si 0,si 0,si 0,si 0,sg ByteArray.empty],.box b25 93 [si a18.Kind,su a18.Id,su a18.N,su a18.TS,sg a18.Lo,sg a18.Hi,sl p19 (a18.Vers).length c20,sl p21 (a18.Vec).length c22,si a18.Cmd.Kind,si a18.Cmd.DC,si a18.Cmd.Shard,si a18.Cmd.Node,si a18.Cmd.Mode,sg a18.Cmd.Key],.tok p13 157 3 (a1.owned).length c14,.tok p15 25 1 (a1.modes).length c16])
 refine ⟨fun _=>(hS.sx [3,4,0,1,5,6,7,8,9] (rg 9)),?_⟩
 refine anp [9,10] [6,10,11,104,114] hF (hS.sx [3,4,0,1,5,6,7,8,9] (rg 9)) fun a hF=>agn [11,12,14] ⟨op_go 11 hF rfl ?_,op_go 12 hF rfl ?_,op_go 14 hF rfl ?_,trivial⟩
 refine wo_pure (v:=vb x179.2.1) hF kr kr fun a hF=>⟨fun _=>(hS.sx [3,4,0,1,5,6,7,8,9] (rg 9)),?_⟩
 refine ago2 12 14 hF rfl rfl ?_ ?_
 refine wo_pure (v:=vi x179.2.2) hF kr kr fun a hF=>⟨fun _=>(hS.sx [3,4,0,1,5,6,7,8,9] (rg 9)),?_⟩
 refine ago 14 hF rfl (wst hF hS 2 0 6 [sg x179.1.Key,sg x179.1.Val,sb x179.1.Gone,su x179.1.TS,si x179.1.DC,si x179.1.Tx] (sgN 6 sgNil) fun a w hF hS=>⟨notE,?_⟩)
 refine ago 15 hF rfl (wo_pure (v:=vb x179.2.1) hF kr kr fun a hF=>⟨notE,?_⟩)
 refine ago 16 hF rfl (wo_pure (v:=vi x179.2.2) hF kr kr fun a hF=>⟨notE,?_⟩)
 refine and_ ?_
 cases hv178
 exact ⟨_,b180,hF.kp [6,10,11,12,13],hS.sp [0,3,4,5,8,2,10,11,1,6,7] [0,5,6,1,2,3,4],trivial⟩
 refine wst hF hS 2 0 6 [sg x179.1.Key,sg x179.1.Val,sb x179.1.Gone,su x179.1.TS,si x179.1.DC,si x179.1.Tx] (sgN 6 sgNil) fun a w hF hS=>⟨notE,?_⟩
 refine ago2 12 15 hF rfl rfl ?_ ?_
 refine wo_pure (v:=vi x179.2.2) hF kr kr fun a hF=>⟨notE,?_⟩
 refine ago 15 hF rfl (wo_pure (v:=vb x179.2.1) hF kr kr fun a hF=>⟨notE,?_⟩)
 refine ago 16 hF rfl (wo_pure (v:=vi x179.2.2) hF kr kr fun a hF=>⟨notE,?_⟩)
 refine and_ ?_
 cases hv178
 exact ⟨_,b180,hF.kp [6,10,11,12,13],hS.sp [0,3,4,5,8,2,10,11,1,6,7] [0,5,6,1,2,3,4],trivial⟩
 refine wo_pure (v:=vb x179.2.1) hF kr kr fun a hF=>⟨notE,?_⟩
 refine ago 12 hF rfl (wo_pure (v:=vi x179.2.2) hF kr kr fun a hF=>⟨notE,?_⟩)
 refine ago 16 hF rfl (wo_pure (v:=vi x179.2.2) hF kr kr fun a hF=>⟨notE,?_⟩)
 refine and_ ?_
 cases hv178
 exact ⟨_,b180,hF.kp [6,10,11,12,13],hS.sp [0,3,4,5,8,2,10,11,1,6,7] [0,5,6,1,2,3,4],trivial⟩
 refine wo_pure (v:=vi x179.2.2) hF kr kr fun a hF=>⟨fun _=>(hS.sx [3,4,0,1,5,6,7,8,9] (rg 9)),?_⟩
 refine ago2 11 14 hF rfl rfl ?_ ?_
 refine wo_pure (v:=vb x179.2.1) hF kr kr fun a hF=>⟨fun _=>(hS.sx [3,4,0,1,5,6,7,8,9] (rg 9)),?_⟩
 refine ago 14 hF rfl (wst hF hS 2 0 6 [sg x179.1.Key,sg x179.1.Val,sb x179.1.Gone,su x179.1.TS,si x179.1.DC,si x179.1.Tx] (sgN 6 sgNil) fun a w hF hS=>⟨notE,?_⟩)
 refine ago 15 hF rfl (wo_pure (v:=vb x179.2.1) hF kr kr fun a hF=>⟨notE,?_⟩)
 refine ago 16 hF rfl (wo_pure (v:=vi x179.2.2) hF kr kr fun a hF=>⟨notE,?_⟩)
 refine and_ ?_
 cases hv178
 exact ⟨_,b180,hF.kp [6,10,11,12,13],hS.sp [0,3,4,5,8,2,10,11,1,6,7] [0,5,6,1,2,3,4],trivial⟩
 refine wst hF hS 2 0 6 [sg x179.1.Key,sg x179.1.Val,sb x179.1.Gone,su x179.1.TS,si x179.1.DC,si x179.1.Tx] (sgN 6 sgNil) fun a w hF hS=>⟨notE,?_⟩
 refine ago 11 hF rfl (wo_pure (v:=vb x179.2.1) hF kr kr fun a hF=>⟨notE,?_⟩)
 refine ago 15 hF rfl (wo_pure (v:=vb x179.2.1) hF kr kr fun a hF=>⟨notE,?_⟩)
 refine ago 16 hF rfl (wo_pure (v:=vi x179.2.2) hF kr kr fun a hF=>⟨notE,?_⟩)
 refine and_ ?_
 cases hv178
 exact ⟨_,b180,hF.kp [6,10,11,12,13],hS.sp [0,3,4,5,8,2,10,11,1,6,7] [0,5,6,1,2,3,4],trivial⟩
 refine wst hF hS 2 0 6 [sg x179.1.Key,sg x179.1.Val,sb x179.1.Gone,su x179.1.TS,si x179.1.DC,si x179.1.Tx] (sgN 6 sgNil) fun a w hF hS=>⟨notE,?_⟩
 refine ago2 11 12 hF rfl rfl ?_ ?_
 refine wo_pure (v:=vb x179.2.1) hF kr kr fun a hF=>⟨notE,?_⟩
 refine ago2 12 15 hF rfl rfl ?_ ?_
 refine wo_pure (v:=vi x179.2.2) hF kr kr fun a hF=>⟨notE,?_⟩
 refine ago 15 hF rfl (wo_pure (v:=vb x179.2.1) hF kr kr fun a hF=>⟨notE,?_⟩)
 refine ago 16 hF rfl (wo_pure (v:=vi x179.2.2) hF kr kr fun a hF=>⟨notE,?_⟩)
 refine and_ ?_
 cases hv178
 exact ⟨_,b180,hF.kp [6,10,11,12,13],hS.sp [0,3,4,5,8,2,10,11,1,6,7] [0,5,6,1,2,3,4],trivial⟩
 refine wo_pure (v:=vb x179.2.1) hF kr kr fun a hF=>⟨notE,?_⟩
 refine ago 12 hF rfl (wo_pure (v:=vi x179.2.2) hF kr kr fun a hF=>⟨notE,?_⟩)
 refine ago 16 hF rfl (wo_pure (v:=vi x179.2.2) hF kr kr fun a hF=>⟨notE,?_⟩)
 refine and_ ?_
 cases hv178
 exact ⟨_,b180,hF.kp [6,10,11,12,13],hS.sp [0,3,4,5,8,2,10,11,1,6,7] [0,5,6,1,2,3,4],trivial⟩
 refine wo_pure (v:=vi x179.2.2) hF kr kr fun a hF=>⟨notE,?_⟩
 refine ago 11 hF rfl (wo_pure (v:=vb x179.2.1) hF kr kr fun a hF=>⟨notE,?_⟩)
 refine ago 15 hF rfl (wo_pure (v:=vb x179.2.1) hF kr kr fun a hF=>⟨notE,?_⟩)
 refine ago 16 hF rfl (wo_pure (v:=vi x179.2.2) hF kr kr fun a hF=>⟨notE,?_⟩)
 refine and_ ?_
 cases hv178
 exact ⟨_,b180,hF.kp [6,10,11,12,13],hS.sp [0,3,4,5,8,2,10,11,1,6,7] [0,5,6,1,2,3,4],trivial⟩
 rintro a w ⟨κ,b169,hF,hS,-⟩
 refine h168 _ _ (seq_join (fun a w => ∃(κ:Gh) (y181:Int) (y182:List T_api_Ver) (p183:Option Addr) (c184:Nat),Fr (295) [] [(6,pt b26 0),(10,pt b167 0)] a∧SS Ms κ0 w0 κ w [.box b2 130 [sm p3,su a1.store.floor],.box b167 93 [si 13,su a18.Id,su y181,su 0,sg ByteArray.empty,sg ByteArray.empty,sl p183 y182.length c184,sl none 0 0,si 0,si 0,si 0,si 0,si 0,sg ByteArray.empty],.box b17 151 [si a1.dc,(1,[pt b2 0]),(1,[pt b6 0]),sm p10,sl p13 (a1.owned).length c14,sl p15 (a1.modes).length c16],.box b6 174 [su a1.part.clock,sm p7],.box b26 93 [si 0,su 0,su 0,su 0,sg ByteArray.empty,sg ByteArray.empty,sl none 0 0,sl none 0 0,si 0,si 0,si 0,si 0,si 0,sg ByteArray.empty],.tok p183 37 6 y182.length c184,.tok p13 157 3 (a1.owned).length c14,.tok p15 25 1 (a1.modes).length c16,mx p3 m4 c5,mx p7 m8 c9,mx p10 m11 c12] [Map.mp kStr false (tSl f_api_Ver.ty) p3 m4 c5 a1.store.chains,Ro.mp f_api_Ver.ty p183 c184 y182,Ro.mp (fInt .u64).ty none 0 ([]:List Int),Map.mp (kInt .u64) false (fInt .u64).ty p7 m8 c9 a1.part.open_,Map.mp (kInt .u64) false (tSl f_api_Ver.ty) p10 m11 c12 a1.writes,Ro.mp f_span_Shard.ty p13 c14 a1.owned,Ro.mp (fInt .u64).ty p15 c16 a1.modes,Ro.mp f_api_Ver.ty none 0 ([]:List T_api_Ver)]∧M.node_Node_Take_k3 N a1 a18 y181 y182=some r) ?_ ?_)
 refine bk (qr fun _ h186=>(wp 3 [6,10,11,12,117] hF fun a hF=>(h186 _ _ (bc hF H (fun hb H=>?_) fun hb H=>?_))))
 refine rl (wp 1 [6,10,120] hF fun a hF=>wc (wst hF hS 1 2 1 [su 2] (sgN 1 sgNil) fun a w hF hS=>nl ?_))
 have hS:=hS.addNil 37 6
 exact ⟨_,2,([]:List T_api_Ver),none,0,hF.kp [6,10],hS.sp [1,2,3,4,5,0,7,8,9,10,11] [0,1,2,3,4,5,6,1],H⟩
 refine qr fun _ h187=>(wp 2 [6,10,11,121] hF fun a hF=>(h187 _ _ (bc hF H (fun hb H=>?_) fun hb H=>?_)))
 refine bd H fun v191 hv191 H=>code_join (fun a w => ∃(κ:Gh) (p189:Option Addr) (c190:Nat),Fr (295) [] [(6,pt b26 0),(10,pt b167 0)] a∧SS Ms κ0 w0 κ w [.box b2 130 [sm p3,su a1.store.floor],.box b167 93 [si 13,su a18.Id,su 1,su 0,sg ByteArray.empty,sg ByteArray.empty,sl p189 v191.length c190,sl none 0 0,si 0,si 0,si 0,si 0,si 0,sg ByteArray.empty],.box b17 151 [si a1.dc,(1,[pt b2 0]),(1,[pt b6 0]),sm p10,sl p13 (a1.owned).length c14,sl p15 (a1.modes).length c16],.box b6 174 [su a1.part.clock,sm p7],.box b26 93 [si 0,su 0,su 0,su 0,sg ByteArray.empty,sg ByteArray.empty,sl none 0 0,sl none 0 0,si 0,si 0,si 0,si 0,si 0,sg ByteArray.empty],.tok p189 37 6 v191.length c190,.tok p13 157 3 (a1.owned).length c14,.tok p15 25 1 (a1.modes).length c16,mx p3 m4 c5,mx p7 m8 c9,mx p10 m11 c12] [Map.mp kStr false (tSl f_api_Ver.ty) p3 m4 c5 a1.store.chains,Ro.mp f_api_Ver.ty p189 c190 v191,Ro.mp (fInt .u64).ty none 0 ([]:List Int),Map.mp (kInt .u64) false (fInt .u64).ty p7 m8 c9 a1.part.open_,Map.mp (kInt .u64) false (tSl f_api_Ver.ty) p10 m11 c12 a1.writes,Ro.mp f_span_Shard.ty p13 c14 a1.owned,Ro.mp (fInt .u64).ty p15 c16 a1.modes,Ro.mp f_api_Ver.ty none 0 ([]:List T_api_Ver)]∧True) ?_ ?_
 refine rgS hS [3,5] ?_
 have hS:=hS.drew
 refine any_pure [2] [6,10,11,125] (L':=[(6,pt b26 0),(10,pt b167 0),(11,pt b169 0),(125,pt b167 2)]) (listed' := #[false,false,true,false,false,false]) (fuel:=5) hF (hS.sx [0,1,2,3,4,5,8,9,10] (rg 7)) kr (by intro c a w t v h; cases t<;>exact h) kr rfl fun a hF=>ago2 0 3 hF rfl rfl ?_ ?_
 refine wls hF hS 5 0 6 fun a hF=>⟨fun _=>(hS.sx [0,1,2,3,4,5,8,9,10] (rg 7)),?_⟩
 refine ago2 1 3 hF rfl rfl ?_ ?_
 refine wo_buildN (t:=f_api_Ver) (z := .agg (flat [sg ByteArray.empty,sg ByteArray.empty,sb false,su 0,si 0,si 0]).toArray) (l:=[(T_api_Ver.mk v178.1 v178.2.1 v178.2.2.1 v178.2.2.2.1 v178.u4.1 v178.u4.2.1)]) (vs:=[(0,.agg (flat [sg v178.1,sg v178.2.1,sb v178.2.2.1,su v178.2.2.2.1,si v178.u4.1,si v178.u4.2.1]).toArray)]) (cells := #[.string (v178.1),.string (v178.2.1),vb v178.2.2.1,vu v178.2.2.2.1,vi v178.u4.1,vi v178.u4.2.1]) (E:=37) hF hS kr rfl kr kr rfl kr kr kr kr kr fun p192 κ a w hF hS=>?_
 refine ⟨fun _=>(hS.sx [1,2,3,4,5,6,9,10,11] (ra 1 7)),?_⟩
 refine ago 3 hF rfl (wst hF hS 2 2 1 [su 1] (sgN 1 sgNil) fun a w hF hS=>⟨notE,?_⟩)
 refine ago 4 hF rfl (wo_pure (v:=pt b167 6) hF kr kr fun a hF=>⟨notE,?_⟩)
 refine ago 5 hF rfl (wst hF hS 2 6 1 [sl p192 ([(T_api_Ver.mk v178.1 v178.2.1 v178.2.2.1 v178.2.2.2.1 v178.u4.1 v178.u4.2.1)]).length 1] (sgN 1 sgNil) fun a w hF hS=>⟨notE,?_⟩)
 refine and_ ?_
 cases hv191
 exact ⟨_,p192,1,hF.kp [6,10],hS.sp [1,2,3,4,5,0,7,8,9,10,11] [1,0,3,4,5,6,7,2],trivial⟩
 refine wst hF hS 1 2 1 [su 1] (sgN 1 sgNil) fun a w hF hS=>⟨notE,?_⟩
 refine ago 1 hF rfl (wo_buildN (t:=f_api_Ver) (z := .agg (flat [sg ByteArray.empty,sg ByteArray.empty,sb false,su 0,si 0,si 0]).toArray) (l:=[(T_api_Ver.mk v178.1 v178.2.1 v178.2.2.1 v178.2.2.2.1 v178.u4.1 v178.u4.2.1)]) (vs:=[(0,.agg (flat [sg v178.1,sg v178.2.1,sb v178.2.2.1,su v178.2.2.2.1,si v178.u4.1,si v178.u4.2.1]).toArray)]) (cells := #[.string (v178.1),.string (v178.2.1),vb v178.2.2.1,vu v178.2.2.2.1,vi v178.u4.1,vi v178.u4.2.1]) (E:=37) hF hS kr rfl kr kr rfl kr kr kr kr kr fun p192 κ a w hF hS=>?_)
 refine ⟨notE,?_⟩
 refine ago 4 hF rfl (wo_pure (v:=pt b167 6) hF kr kr fun a hF=>⟨notE,?_⟩)
 refine ago 5 hF rfl (wst hF hS 2 6 1 [sl p192 ([(T_api_Ver.mk v178.1 v178.2.1 v178.2.2.1 v178.2.2.2.1 v178.u4.1 v178.u4.2.1)]).length 1] (sgN 1 sgNil) fun a w hF hS=>⟨notE,?_⟩)
 refine and_ ?_
 cases hv191
 exact ⟨_,p192,1,hF.kp [6,10],hS.sp [1,2,3,4,5,0,7,8,9,10,11] [1,0,3,4,5,6,7,2],trivial⟩
 refine wst hF hS 1 2 1 [su 1] (sgN 1 sgNil) fun a w hF hS=>⟨notE,?_⟩
 refine ago 0 hF rfl (wls hF hS 5 0 6 fun a hF=>⟨notE,?_⟩)
 refine ago 1 hF rfl (wo_buildN (t:=f_api_Ver) (z := .agg (flat [sg ByteArray.empty,sg ByteArray.empty,sb false,su 0,si 0,si 0]).toArray) (l:=[(T_api_Ver.mk v178.1 v178.2.1 v178.2.2.1 v178.2.2.2.1 v178.u4.1 v178.u4.2.1)]) (vs:=[(0,.agg (flat [sg v178.1,sg v178.2.1,sb v178.2.2.1,su v178.2.2.2.1,si v178.u4.1,si v178.u4.2.1]).toArray)]) (cells := #[.string (v178.1),.string (v178.2.1),vb v178.2.2.1,vu v178.2.2.2.1,vi v178.u4.1,vi v178.u4.2.1]) (E:=37) hF hS kr rfl kr kr rfl kr kr kr kr kr fun p192 κ a w hF hS=>?_)
 refine ⟨notE,?_⟩
 refine ago 4 hF rfl (wo_pure (v:=pt b167 6) hF kr kr fun a hF=>⟨notE,?_⟩)
 refine ago 5 hF rfl (wst hF hS 2 6 1 [sl p192 ([(T_api_Ver.mk v178.1 v178.2.1 v178.2.2.1 v178.2.2.2.1 v178.u4.1 v178.u4.2.1)]).length 1] (sgN 1 sgNil) fun a w hF hS=>⟨notE,?_⟩)
 refine and_ ?_
 cases hv191
 exact ⟨_,p192,1,hF.kp [6,10],hS.sp [1,2,3,4,5,0,7,8,9,10,11] [1,0,3,4,5,6,7,2],trivial⟩
 rintro a w ⟨κ,p189,c190,hF,hS,-⟩
 exact ⟨_,1,v191,p189,c190,hF.kp [6,10],hS.sp (rg 11) (rg 8),H⟩
 refine sk ?_
 have hS:=hS.addNil 37 6
 exact ⟨_,0,([]:List T_api_Ver),none,0,hF.kp [6,10],hS.sp [1,2,3,4,5,0,7,8,9,10,11] [0,1,2,3,4,5,6,1],H⟩
 rintro a w ⟨κ,y181,y182,p183,c184,hF,hS,H⟩
 unfold M.node_Node_Take_k3 at H
 refine qr fun _ h185=>(wc (wls hF hS 1 0 14 fun a hF=>wc (wst hF hS 4 0 14 [si 13,su a18.Id,su y181,su 0,sg ByteArray.empty,sg ByteArray.empty,sl p183 y182.length c184,sl none 0 0,si 0,si 0,si 0,si 0,si 0,sg ByteArray.empty] (sgN 14 sgNil) fun a w hF hS=>wp 1 [6,7] hF fun a hF=>(h185 _ _ (rt ?_)))))
 have hS':=hS
 have hS:=hS.addNil 25 1
 cases H
 exact ret_done0 hF hS (res2 Try.results62 (rvs hF hS' 4 0 14) (rvt hF)) ⟨p183,c184,none,0,b2,p3,m4,c5,b6,p7,m8,c9,p10,m11,c12,p13,c14,p15,c16,rfl,hS.sp [3,7,8,1,9,4,10,11,6,0] [1,2,0,3,4,5,6]⟩
 refine qr fun _ h193=>(wp 2 [0,4,6,30,128] hF fun a hF=>(h193 _ _ (bc hF H (fun hb H=>?_) fun hb H=>?_)))
 refine qr fun _ h194=>(wp 1 [4,6,130] hF fun a hF=>wc (wls hF hS 1 0 14 fun a hF=>bd H fun x195 hx195 H=>wc (wcS 8 [2,5,6,3,7,4,8,9,0,1] hF hS (fun hS=>C_node_Node_load N (T_node_Node.mk a1.dc (T_store_Store.mk a1.store.chains a1.store.floor) (T_part_Part.mk a1.part.clock a1.part.open_) a1.writes a1.owned a1.modes) (T_api_Msg.mk a18.Kind a18.Id a18.N a18.TS a18.Lo a18.Hi a18.Vers a18.Vec (T_api_Cmd.mk a18.Cmd.Kind a18.Cmd.DC a18.Cmd.Shard a18.Cmd.Node a18.Cmd.Mode a18.Cmd.Key)) b2 p3 m4 c5 b6 p7 m8 c9 p10 m11 c12 p13 c14 p15 c16 p19 c20 p21 c22 b17 ⟨rfl,hS.pick [0,1,2,3,4,7,8] kr⟩ hx195) ?_)))
 rintro _ κ w a ⟨b196,p197,m198,c199,b200,p201,m202,c203,p204,m205,c206,p207,c208,p209,c210,rfl,h2⟩ hF hB
 have hS:=hB _ _ h2
 refine h194 _ _ (qr fun _ h211=>(wp 1 [6,133] hF fun a hF=>wc (wld hF hS 9 1 0 fun a hF=>wp 1 [6,135] hF fun a hF=>wc (wst hF hS 8 0 14 [si 14,su a18.Id,su 0,su 0,sg ByteArray.empty,sg ByteArray.empty,sl none 0 0,sl none 0 0,si 0,si 0,si 0,si 0,si 0,sg ByteArray.empty] (sgN 14 sgNil) fun a w hF hS=>wp 1 [6,7] hF fun a hF=>(h211 _ _ (rt ?_))))))
 have hS':=hS
 have hS:=hS.addNil 37 6
 have hS:=hS.addNil 25 1
 cases H
 exact ret_done0 hF hS (res2 Try.results62 (rvs hF hS' 8 0 14) (rvt hF)) ⟨none,0,none,0,b196,p197,m198,c199,b200,p201,m202,c203,p204,m205,c206,p207,c208,p209,c210,rfl,hS.sp [2,3,4,5,6,7,8,9,1,0] [10,11,0,1,2,3,4]⟩
 refine qr fun _ h212=>(wp 2 [0,4,6,30,136] hF fun a hF=>(h212 _ _ (bc hF H (fun hb H=>?_) fun hb H=>?_)))
 refine seq_join (fun a w => ∃(κ:Gh) (y213:Int) (b214:Nat) (p215:Option Nat) (m216:Array MapEntry) (c217:Nat) (y218:Mp ByteArray (List T_api_Ver)) (y219:Int) (b220:Nat) (y221:Int) (p222:Option Nat) (m223:Array MapEntry) (c224:Nat) (y225:Mp Int Int) (p226:Option Nat) (m227:Array MapEntry) (c228:Nat) (y229:Mp Int (List T_api_Ver)) (y230:List T_span_Shard) (p231:Option Addr) (c232:Nat) (y233:List Int) (p234:Option Addr) (c235:Nat),Fr (295) [] [(0,pt b17 0),(4,pt b25 0),(6,pt b26 0)] a∧SS Ms κ0 w0 κ w [.box b17 151 [si y213,(1,[pt b214 0]),(1,[pt b220 0]),sm p226,sl p231 y230.length c232,sl p234 y233.length c235],.box b26 93 [si 0,su 0,su 0,su 0,sg ByteArray.empty,sg ByteArray.empty,sl none 0 0,sl none 0 0,si 0,si 0,si 0,si 0,si 0,sg ByteArray.empty],.box b25 93 [si a18.Kind,su a18.Id,su a18.N,su a18.TS,sg a18.Lo,sg a18.Hi,sl p19 (a18.Vers).length c20,sl p21 (a18.Vec).length c22,si a18.Cmd.Kind,si a18.Cmd.DC,si a18.Cmd.Shard,si a18.Cmd.Node,si a18.Cmd.Mode,sg a18.Cmd.Key],.box b214 130 [sm p215,su y219],.box b220 174 [su y221,sm p222],.tok p231 157 3 y230.length c232,.tok p234 25 1 y233.length c235,mx p215 m216 c217,mx p222 m223 c224,mx p226 m227 c228] [Map.mp kStr false (tSl f_api_Ver.ty) p215 m216 c217 y218,Map.mp (kInt .u64) false (fInt .u64).ty p222 m223 c224 y225,Map.mp (kInt .u64) false (tSl f_api_Ver.ty) p226 m227 c228 y229,Ro.mp f_span_Shard.ty p231 c232 y230,Ro.mp (fInt .u64).ty p234 c235 y233,Ro.mp f_api_Ver.ty none 0 ([]:List T_api_Ver),Ro.mp (fInt .u64).ty none 0 ([]:List Int),Ro.mp f_api_Ver.ty p19 c20 a18.Vers,Ro.mp (fInt .u64).ty p21 c22 a18.Vec]∧M.node_Node_Take_k4 N a18 y213 y218 y219 y221 y225 y229 y230 y233=some r) ?_ ?_
 refine qr fun _ h318=>(wp 1 [0,4,6,138] hF fun a hF=>wc (wld hF hS 1 2 0 fun a hF=>wp 1 [0,4,6,140] hF fun a hF=>(h318 _ _ (bc hF H (fun hb H=>?_) fun hb H=>?_))))
 refine rl (wp 2 [0,4,6,141,142] hF fun a hF=>wc (wld hF hS 1 4 0 fun a hF=>wp 1 [0,4,6,141,143,144] hF fun a hF=>wc (wld hF hS 1 5 0 fun a hF=>bd H fun x319 hx319 H=>wc (wcS 8 [2,5,6,3,7,4,8,9,0,1] hF hS (fun hS=>C_node_Node_leave N (T_node_Node.mk a1.dc (T_store_Store.mk a1.store.chains a1.store.floor) (T_part_Part.mk a1.part.clock a1.part.open_) a1.writes a1.owned a1.modes) a18.Lo a18.Hi b2 p3 m4 c5 b6 p7 m8 c9 p10 m11 c12 p13 c14 p15 c16 b17 ⟨rfl,hS.pick (rg 5) kr⟩ hx319) ?_))))
 rintro _ κ w a ⟨b320,p321,m322,c323,b324,p325,m326,c327,p328,m329,c330,p331,c332,p333,c334,rfl,h2⟩ hF hB
 have hS:=hB _ _ h2
 refine nl ?_
 exact ⟨_,x319.dc,b320,p321,m322,c323,x319.store.chains,x319.store.floor,b324,x319.part.clock,p325,m326,c327,x319.part.open_,p328,m329,c330,x319.writes,x319.owned,p331,c332,x319.modes,p333,c334,hF.kp [0,4,6],hS.sp [0,8,9,3,5,1,2,4,6,7] [0,1,2,3,4,10,11,12,13],H⟩
 refine sk ?_
 exact ⟨_,a1.dc,b2,p3,m4,c5,a1.store.chains,a1.store.floor,b6,a1.part.clock,p7,m8,c9,a1.part.open_,p10,m11,c12,a1.writes,a1.owned,p13,c14,a1.modes,p15,c16,hF.kp [0,4,6],hS.sp [2,0,1,3,4,5,6,7,8,9] (rg 9),H⟩
 rintro a w ⟨κ,y213,b214,p215,m216,c217,y218,y219,b220,y221,p222,m223,c224,y225,p226,m227,c228,y229,y230,p231,c232,y233,p234,c235,hF,hS,H⟩
 unfold M.node_Node_Take_k4 at H
 refine qs fun _ h236=>bd H fun v240 hv240 H=>code_join (fun a w => ∃(κ:Gh) (b237:Nat),Fr (295) [] [(0,pt b17 0),(4,pt b25 0),(6,pt b26 0),(14,pt b237 0)] a∧SS Ms κ0 w0 κ w [.box b214 130 [sm p215,su y219],.box b220 174 [su y221,sm p222],.box b17 151 [si y213,(1,[pt b214 0]),(1,[pt b220 0]),sm p226,sl p231 y230.length c232,sl p234 y233.length c235],.box b26 93 [si 0,su 0,su 0,su 0,sg ByteArray.empty,sg ByteArray.empty,sl none 0 0,sl none 0 0,si 0,si 0,si 0,si 0,si 0,sg ByteArray.empty],.box b25 93 [si a18.Kind,su a18.Id,su a18.N,su a18.TS,sg a18.Lo,sg a18.Hi,sl p19 (a18.Vers).length c20,sl p21 (a18.Vec).length c22,si a18.Cmd.Kind,si a18.Cmd.DC,si a18.Cmd.Shard,si a18.Cmd.Node,si a18.Cmd.Mode,sg a18.Cmd.Key],.box b237 93 [si 15,su v240.1,su a18.N,su v240.2,sg a18.Lo,sg a18.Hi,sl none 0 0,sl none 0 0,si 0,si 0,si 0,si 0,si 0,sg ByteArray.empty],.tok p231 157 3 y230.length c232,.tok p234 25 1 y233.length c235,mx p215 m216 c217,mx p222 m223 c224,mx p226 m227 c228] [Map.mp kStr false (tSl f_api_Ver.ty) p215 m216 c217 y218,Map.mp (kInt .u64) false (fInt .u64).ty p222 m223 c224 y225,Map.mp (kInt .u64) false (tSl f_api_Ver.ty) p226 m227 c228 y229,Ro.mp f_span_Shard.ty p231 c232 y230,Ro.mp (fInt .u64).ty p234 c235 y233,Ro.mp f_api_Ver.ty none 0 ([]:List T_api_Ver),Ro.mp (fInt .u64).ty none 0 ([]:List Int),Ro.mp f_api_Ver.ty p19 c20 a18.Vers,Ro.mp (fInt .u64).ty p21 c22 a18.Vec]∧True) ?_ ?_
 refine rgS hS [18] ?_
 have hS:=hS.drew
 have hX:=hS.fx
 refine bd hv240 fun x241 hx241 hv240=>bd hv240 fun x242 hx242 hv240=>anp [0,2,4,6,7,8,11,12,13] [0,4,6,147,149,151,155,160] hF hX fun a hF=>atk 1 (some 148) hF hX rfl (vld 2 2 0) fun a hF=>atk 3 (some 150) hF hX rfl (vld 2 4 0) fun a hF=>atk 5 (some 152) hF hX rfl (vld 2 5 0) fun a hF=>atk 9 (some 156) hF hX rfl (vld 0 2 0) fun a hF=>atk 14 (some 161) hF hX rfl (vld 0 1 0) fun a hF=>ago2 10 17 hF rfl rfl ?_ ?_
 refine wcS 2 [4,8,0,1,2,3,5,6,7,9] hF hS (fun hS=>C_part_Part_Clock N (T_part_Part.mk y221 y225) p222 m223 c224 b220 ⟨rfl,hS.pick [1] kr⟩ hx241) ?_
 rintro _ κ w a ⟨rfl,h2⟩ hF hB
 have hS:=hB _ _ h2
 refine ⟨fun _=>(hS.sx [2,3,4,5,0,8,1,9] (rg 9)),?_⟩
 refine ago2 15 17 hF rfl rfl ?_ ?_
 refine wcS 2 [5,8,0,1,2,3,4,6,7,9] hF hS (fun hS=>C_store_Store_Floor N (T_store_Store.mk y218 y219) p215 m216 c217 b214 ⟨rfl,hS.pick [0] kr⟩ hx242) ?_
 rintro _ κ w a ⟨rfl,h2⟩ hF hB
 have hS:=(hB _ _ h2).cC (C':=[.box b214 130 [sm p215,su y219],mx p215 m216 c217,.box b220 174 [su y221,sm p222],mx p222 m223 c224,.box b17 151 [si y213,(1,[pt b214 0]),(1,[pt b220 0]),sm p226,sl p231 y230.length c232,sl p234 y233.length c235],.box b26 93 [si 0,su 0,su 0,su 0,sg ByteArray.empty,sg ByteArray.empty,sl none 0 0,sl none 0 0,si 0,si 0,si 0,si 0,si 0,sg ByteArray.empty],.box b25 93 [si a18.Kind,su a18.Id,su a18.N,su a18.TS,sg a18.Lo,sg a18.Hi,sl p19 (a18.Vers).length c20,sl p21 (a18.Vec).length c22,si a18.Cmd.Kind,si a18.Cmd.DC,si a18.Cmd.Shard,si a18.Cmd.Node,si a18.Cmd.Mode,sg a18.Cmd.Key],.tok p231 157 3 y230.length c232,.tok p234 25 1 y233.length c235,mx p226 m227 c228])
 refine ⟨fun _=>(hS.sx [4,5,6,0,2,1,3,9] (rg 9)),?_⟩
 refine anp [16] [0,4,6,163] hF (hS.sx [4,5,6,0,2,1,3,9] (rg 9)) fun a hF=>ago 17 hF rfl (wal hF hS [si 0,su 0,su 0,su 0,sg ByteArray.empty,sg ByteArray.empty,sl none 0 0,sl none 0 0,si 0,si 0,si 0,si 0,si 0,sg ByteArray.empty] (sgN 14 sgNil) fun b243 a w hF hS=>⟨fun _=>(hS.sx [5,6,7,1,3,2,4,10] (rg 9)),?_⟩)
 refine ago 18 hF rfl (wst hF hS 0 0 14 [si 15,su x242,su a18.N,su x241,sg a18.Lo,sg a18.Hi,sl none 0 0,sl none 0 0,si 0,si 0,si 0,si 0,si 0,sg ByteArray.empty] (sgN 14 sgNil) fun a w hF hS=>⟨notE,?_⟩)
 refine and_ ?_
 cases hv240
 exact ⟨_,b243,hF.kp [0,4,6,14],hS.sp [1,3,5,6,7,0,8,9,2,4,10] (rg 9),trivial⟩
 refine wal hF hS [si 0,su 0,su 0,su 0,sg ByteArray.empty,sg ByteArray.empty,sl none 0 0,sl none 0 0,si 0,si 0,si 0,si 0,si 0,sg ByteArray.empty] (sgN 14 sgNil) fun b243 a w hF hS=>⟨fun _=>(hS.sx [3,4,5,6,1,9,2,10] (rg 9)),?_⟩
 refine ago 15 hF rfl (wcS 2 [6,9,0,1,2,3,4,5,7,8,10] hF hS (fun hS=>C_store_Store_Floor N (T_store_Store.mk y218 y219) p215 m216 c217 b214 ⟨rfl,hS.pick [0] kr⟩ hx242) ?_)
 rintro _ κ w a ⟨rfl,h2⟩ hF hB
 have hS:=(hB _ _ h2).cC (C':=[.box b214 130 [sm p215,su y219],mx p215 m216 c217,.box b243 93 [si 0,su 0,su 0,su 0,sg ByteArray.empty,sg ByteArray.empty,sl none 0 0,sl none 0 0,si 0,si 0,si 0,si 0,si 0,sg ByteArray.empty],.box b220 174 [su y221,sm p222],mx p222 m223 c224,.box b17 151 [si y213,(1,[pt b214 0]),(1,[pt b220 0]),sm p226,sl p231 y230.length c232,sl p234 y233.length c235],.box b26 93 [si 0,su 0,su 0,su 0,sg ByteArray.empty,sg ByteArray.empty,sl none 0 0,sl none 0 0,si 0,si 0,si 0,si 0,si 0,sg ByteArray.empty],.box b25 93 [si a18.Kind,su a18.Id,su a18.N,su a18.TS,sg a18.Lo,sg a18.Hi,sl p19 (a18.Vers).length c20,sl p21 (a18.Vec).length c22,si a18.Cmd.Kind,si a18.Cmd.DC,si a18.Cmd.Shard,si a18.Cmd.Node,si a18.Cmd.Mode,sg a18.Cmd.Key],.tok p231 157 3 y230.length c232,.tok p234 25 1 y233.length c235,mx p226 m227 c228])
 refine ⟨fun _=>(hS.sx [5,6,7,0,3,1,4,10] (rg 9)),?_⟩
 refine anp [16] [0,4,6,14,163] hF (hS.sx [5,6,7,0,3,1,4,10] (rg 9)) fun a hF=>ago 18 hF rfl (wst hF hS 2 0 14 [si 15,su x242,su a18.N,su x241,sg a18.Lo,sg a18.Hi,sl none 0 0,sl none 0 0,si 0,si 0,si 0,si 0,si 0,sg ByteArray.empty] (sgN 14 sgNil) fun a w hF hS=>⟨notE,?_⟩)
 refine and_ ?_
 cases hv240
 exact ⟨_,b243,hF.kp [0,4,6,14],hS.sp [0,3,5,6,7,2,8,9,1,4,10] (rg 9),trivial⟩
 refine wal hF hS [si 0,su 0,su 0,su 0,sg ByteArray.empty,sg ByteArray.empty,sl none 0 0,sl none 0 0,si 0,si 0,si 0,si 0,si 0,sg ByteArray.empty] (sgN 14 sgNil) fun b243 a w hF hS=>⟨fun _=>(hS.sx [1,2,3,4,5,8,9,10] (rg 9)),?_⟩
 refine ago 10 hF rfl (wcS 2 [5,9,0,1,2,3,4,6,7,8,10] hF hS (fun hS=>C_part_Part_Clock N (T_part_Part.mk y221 y225) p222 m223 c224 b220 ⟨rfl,hS.pick [1] kr⟩ hx241) ?_)
 rintro _ κ w a ⟨rfl,h2⟩ hF hB
 have hS:=hB _ _ h2
 refine ⟨fun _=>(hS.sx [3,4,5,6,0,9,1,10] (rg 9)),?_⟩
 refine ago 15 hF rfl (wcS 2 [6,9,0,1,2,3,4,5,7,8,10] hF hS (fun hS=>C_store_Store_Floor N (T_store_Store.mk y218 y219) p215 m216 c217 b214 ⟨rfl,hS.pick [0] kr⟩ hx242) ?_)
 rintro _ κ w a ⟨rfl,h2⟩ hF hB
 have hS:=(hB _ _ h2).cC (C':=[.box b214 130 [sm p215,su y219],mx p215 m216 c217,.box b220 174 [su y221,sm p222],mx p222 m223 c224,.box b243 93 [si 0,su 0,su 0,su 0,sg ByteArray.empty,sg ByteArray.empty,sl none 0 0,sl none 0 0,si 0,si 0,si 0,si 0,si 0,sg ByteArray.empty],.box b17 151 [si y213,(1,[pt b214 0]),(1,[pt b220 0]),sm p226,sl p231 y230.length c232,sl p234 y233.length c235],.box b26 93 [si 0,su 0,su 0,su 0,sg ByteArray.empty,sg ByteArray.empty,sl none 0 0,sl none 0 0,si 0,si 0,si 0,si 0,si 0,sg ByteArray.empty],.box b25 93 [si a18.Kind,su a18.Id,su a18.N,su a18.TS,sg a18.Lo,sg a18.Hi,sl p19 (a18.Vers).length c20,sl p21 (a18.Vec).length c22,si a18.Cmd.Kind,si a18.Cmd.DC,si a18.Cmd.Shard,si a18.Cmd.Node,si a18.Cmd.Mode,sg a18.Cmd.Key],.tok p231 157 3 y230.length c232,.tok p234 25 1 y233.length c235,mx p226 m227 c228])
 refine ⟨fun _=>(hS.sx [5,6,7,0,2,1,3,10] (rg 9)),?_⟩
 refine anp [16] [0,4,6,14,163] hF (hS.sx [5,6,7,0,2,1,3,10] (rg 9)) fun a hF=>ago 18 hF rfl (wst hF hS 4 0 14 [si 15,su x242,su a18.N,su x241,sg a18.Lo,sg a18.Hi,sl none 0 0,sl none 0 0,si 0,si 0,si 0,si 0,si 0,sg ByteArray.empty] (sgN 14 sgNil) fun a w hF hS=>⟨notE,?_⟩)
 refine and_ ?_
 cases hv240
 exact ⟨_,b243,hF.kp [0,4,6,14],hS.sp [0,2,5,6,7,4,8,9,1,3,10] (rg 9),trivial⟩
 rintro a w ⟨κ,b237,hF,hS,-⟩
 refine h236 _ _ (seq_join (fun a w => ∃(κ:Gh) (y244:List T_api_Ver) (p245:Option Addr) (c246 b247:Nat),Fr (295) [mark b247] [(6,pt b26 0),(14,pt b237 0)] a∧SS Ms κ0 w0 κ w [.box b220 174 [su y221,sm p222],.box b17 151 [si y213,(1,[pt b214 0]),(1,[pt b220 0]),sm p226,sl p231 y230.length c232,sl p234 y233.length c235],.box b26 93 [si 0,su 0,su 0,su 0,sg ByteArray.empty,sg ByteArray.empty,sl none 0 0,sl none 0 0,si 0,si 0,si 0,si 0,si 0,sg ByteArray.empty],.box b237 93 [si 15,su v240.1,su a18.N,su v240.2,sg a18.Lo,sg a18.Hi,sl p245 y244.length c246,sl none 0 0,si 0,si 0,si 0,si 0,si 0,sg ByteArray.empty],.box b214 130 [sm p215,su y219],.tok p245 37 6 y244.length c246,.tok p231 157 3 y230.length c232,.tok p234 25 1 y233.length c235,mx p215 m216 c217,mx p222 m223 c224,mx p226 m227 c228,.ext (defX b247)] [Map.mp (kInt .u64) false (fInt .u64).ty p222 m223 c224 y225,Map.mp kStr false (tSl f_api_Ver.ty) p215 m216 c217 y218,Map.mp (kInt .u64) false (tSl f_api_Ver.ty) p226 m227 c228 y229,Ro.mp f_span_Shard.ty p231 c232 y230,Ro.mp (fInt .u64).ty p234 c235 y233,Ro.mp f_api_Ver.ty none 0 ([]:List T_api_Ver),Ro.mp (fInt .u64).ty none 0 ([]:List Int),Ro.mp f_api_Ver.ty p245 c246 y244]∧M.node_Node_Take_k5 N a18 y213 y218 y219 y221 y225 y229 y230 y233 v240 y244=some r) ?_ ?_)
 refine qs fun _ h249=>rgS hS [] ?_
 have hS:=hS.drew
 have hX:=hS.fx
 refine any_pure [0,1,2,4,6] [6,14,166,168,170] (L':=[(6,pt b26 0),(14,pt b237 0),(166,pt b17 1),(168,pt b25 4),(170,pt b25 5)]) (listed':=(bitA 9 87)) (fuel:=4) hF hX kr (by intro c a w t v h; cases t<;>exact h) kr rfl fun a hF=>atk 3 (some 167) hF hX rfl (vld 2 1 0) fun a hF=>atk 5 (some 169) hF hX rfl (vld 4 4 0) fun a hF=>atk 7 (some 171) hF hX rfl (vld 4 5 0) fun a hF=>ago 8 hF rfl (bd H fun x250 hx250 H=>wcS 2 [0,8,1,2,3,4,5,6,7,9,10] hF hS (fun hS=>C_store_Store_All N (T_store_Store.mk y218 y219) a18.Lo a18.Hi p215 m216 c217 b214 ⟨rfl,hS.pick [0] kr⟩ hx250) ?_)
 rintro _ κ w a ⟨b251,b252,b253,rfl,h2⟩ hF hB
 have hS:=hB _ _ h2
 refine ⟨fun _=>(hS.sx [0,5,6,7,8,9,1,12,13] (rg 9)),?_⟩
 refine and_ (h249 _ _ (bk (bd H fun v317 hv317 H=>?_)))
 have hS:=hS.addNil 37 6
 have hS:SS Ms κ0 w0 _ _ [.box b220 174 [su y221,sm p222],.box b17 151 [si y213,(1,[pt b214 0]),(1,[pt b220 0]),sm p226,sl p231 y230.length c232,sl p234 y233.length c235],.box b26 93 [si 0,su 0,su 0,su 0,sg ByteArray.empty,sg ByteArray.empty,sl none 0 0,sl none 0 0,si 0,si 0,si 0,si 0,si 0,sg ByteArray.empty],.box b237 93 [si 15,su v240.1,su a18.N,su v240.2,sg a18.Lo,sg a18.Hi,sl none 0 0,sl none 0 0,si 0,si 0,si 0,si 0,si 0,sg ByteArray.empty],.tok none 37 6 0 0,.tok p231 157 3 y230.length c232,.tok p234 25 1 y233.length c235,mx p222 m223 c224,mx p226 m227 c228,.box b251 55 [(1,[pt b214 0])],.box b252 9 [sg a18.Lo],.box b253 9 [sg a18.Hi],.box b214 130 [sm p215,su y219],mx p215 m216 c217] _:=hS.selp [6,7,8,10,0,11,12,13,14,3,4,5,1,2] dc kr
 refine wp_rangeC' (C:=[.box b220 174 [su y221,sm p222],.box b17 151 [si y213,(1,[pt b214 0]),(1,[pt b220 0]),sm p226,sl p231 y230.length c232,sl p234 y233.length c235],.box b26 93 [si 0,su 0,su 0,su 0,sg ByteArray.empty,sg ByteArray.empty,sl none 0 0,sl none 0 0,si 0,si 0,si 0,si 0,si 0,sg ByteArray.empty],.box b237 93 [si 15,su v240.1,su a18.N,su v240.2,sg a18.Lo,sg a18.Hi,sl none 0 0,sl none 0 0,si 0,si 0,si 0,si 0,si 0,sg ByteArray.empty],.tok none 37 6 0 0,.tok p231 157 3 y230.length c232,.tok p234 25 1 y233.length c235,mx p222 m223 c224,mx p226 m227 c228]) (Cap:=[.box b251 55 [(1,[pt b214 0])],.box b252 9 [sg a18.Lo],.box b253 9 [sg a18.Hi],.box b214 130 [sm p215,su y219],mx p215 m216 c217]) (Cap2:=[.box b251 55 [(1,[pt b214 0])],.box b252 9 [sg a18.Lo],.box b253 9 [sg a18.Hi],.box b214 130 [sm p215,su y219],mx p215 m216 c217]) (Rc:=[Map.mp kStr false (tSl f_api_Ver.ty) p215 m216 c217 y218]) (R':=[Map.mp (kInt .u64) false (fInt .u64).ty p222 m223 c224 y225,Map.mp kStr false (tSl f_api_Ver.ty) p215 m216 c217 y218,Map.mp (kInt .u64) false (tSl f_api_Ver.ty) p226 m227 c228 y229,Ro.mp f_span_Shard.ty p231 c232 y230,Ro.mp (fInt .u64).ty p234 c235 y233,Ro.mp f_api_Ver.ty none 0 ([]:List T_api_Ver),Ro.mp (fInt .u64).ty none 0 ([]:List Int),Ro.mp f_api_Ver.ty none 0 ([]:List T_api_Ver)]) (caps := #[pt b251 0,pt b252 0,pt b253 0]) (f:=79) [.exit 4] (fun l => #[.func (.yield l) #[] #[],pt b251 0,pt b252 0,pt b253 0]) hF hS kr (fun _ _=>rfl) ((hS.pick [1,0,2,3,4,5,6,5] kr).ro) (fun l=>by kernel_rfl) fun b254 l rc w hrc hS=>?_
 refine ⟨fun x=>(fun (v309:((List T_api_Ver)×Nat)) (x:XF) => ∃(p307:Option Addr) (c308:Nat),x=mkX b254 l (lp rc [.exit 4] v309.2) [.box b220 174 [su y221,sm p222],.box b17 151 [si y213,(1,[pt b214 0]),(1,[pt b220 0]),sm p226,sl p231 y230.length c232,sl p234 y233.length c235],.box b26 93 [si 0,su 0,su 0,su 0,sg ByteArray.empty,sg ByteArray.empty,sl none 0 0,sl none 0 0,si 0,si 0,si 0,si 0,si 0,sg ByteArray.empty],.box b237 93 [si 15,su v240.1,su a18.N,su v240.2,sg a18.Lo,sg a18.Hi,sl p307 (v309.1).length c308,sl none 0 0,si 0,si 0,si 0,si 0,si 0,sg ByteArray.empty],.tok p307 37 6 (v309.1).length c308,.tok p231 157 3 y230.length c232,.tok p234 25 1 y233.length c235,mx p222 m223 c224,mx p226 m227 c228] [Map.mp (kInt .u64) false (fInt .u64).ty p222 m223 c224 y225,Map.mp kStr false (tSl f_api_Ver.ty) p215 m216 c217 y218,Map.mp (kInt .u64) false (tSl f_api_Ver.ty) p226 m227 c228 y229,Ro.mp f_span_Shard.ty p231 c232 y230,Ro.mp (fInt .u64).ty p234 c235 y233,Ro.mp f_api_Ver.ty none 0 ([]:List T_api_Ver),Ro.mp (fInt .u64).ty none 0 ([]:List Int),Ro.mp f_api_Ver.ty p307 c308 v309.1]) v317 x,?_,?_⟩
 have hS:=(hS.rebase.add (m:=MP.const ((fun (v309:((List T_api_Ver)×Nat)) (x:XF) => ∃(p307:Option Addr) (c308:Nat),x=mkX b254 l (lp rc [.exit 4] v309.2) [.box b220 174 [su y221,sm p222],.box b17 151 [si y213,(1,[pt b214 0]),(1,[pt b220 0]),sm p226,sl p231 y230.length c232,sl p234 y233.length c235],.box b26 93 [si 0,su 0,su 0,su 0,sg ByteArray.empty,sg ByteArray.empty,sl none 0 0,sl none 0 0,si 0,si 0,si 0,si 0,si 0,sg ByteArray.empty],.box b237 93 [si 15,su v240.1,su a18.N,su v240.2,sg a18.Lo,sg a18.Hi,sl p307 (v309.1).length c308,sl none 0 0,si 0,si 0,si 0,si 0,si 0,sg ByteArray.empty],.tok p307 37 6 (v309.1).length c308,.tok p231 157 3 y230.length c232,.tok p234 25 1 y233.length c235,mx p222 m223 c224,mx p226 m227 c228] [Map.mp (kInt .u64) false (fInt .u64).ty p222 m223 c224 y225,Map.mp kStr false (tSl f_api_Ver.ty) p215 m216 c217 y218,Map.mp (kInt .u64) false (tSl f_api_Ver.ty) p226 m227 c228 y229,Ro.mp f_span_Shard.ty p231 c232 y230,Ro.mp (fInt .u64).ty p234 c235 y233,Ro.mp f_api_Ver.ty none 0 ([]:List T_api_Ver),Ro.mp (fInt .u64).ty none 0 ([]:List Int),Ro.mp f_api_Ver.ty p307 c308 v309.1]) (([]:List T_api_Ver),0) (mkX b254 l (lp rc [.exit 4] 0) [.box b220 174 [su y221,sm p222],.box b17 151 [si y213,(1,[pt b214 0]),(1,[pt b220 0]),sm p226,sl p231 y230.length c232,sl p234 y233.length c235],.box b26 93 [si 0,su 0,su 0,su 0,sg ByteArray.empty,sg ByteArray.empty,sl none 0 0,sl none 0 0,si 0,si 0,si 0,si 0,si 0,sg ByteArray.empty],.box b237 93 [si 15,su v240.1,su a18.N,su v240.2,sg a18.Lo,sg a18.Hi,sl none 0 0,sl none 0 0,si 0,si 0,si 0,si 0,si 0,sg ByteArray.empty],.tok none 37 6 0 0,.tok p231 157 3 y230.length c232,.tok p234 25 1 y233.length c235,mx p222 m223 c224,mx p226 m227 c228] [Map.mp (kInt .u64) false (fInt .u64).ty p222 m223 c224 y225,Map.mp kStr false (tSl f_api_Ver.ty) p215 m216 c217 y218,Map.mp (kInt .u64) false (tSl f_api_Ver.ty) p226 m227 c228 y229,Ro.mp f_span_Shard.ty p231 c232 y230,Ro.mp (fInt .u64).ty p234 c235 y233,Ro.mp f_api_Ver.ty none 0 ([]:List T_api_Ver),Ro.mp (fInt .u64).ty none 0 ([]:List Int),Ro.mp f_api_Ver.ty none 0 ([]:List T_api_Ver)]))) ⟨none,0,rfl⟩).pick (R':=[Map.mp kStr false (tSl f_api_Ver.ty) p215 m216 c217 y218,MP.const ((fun (v309:((List T_api_Ver)×Nat)) (x:XF) => ∃(p307:Option Addr) (c308:Nat),x=mkX b254 l (lp rc [.exit 4] v309.2) [.box b220 174 [su y221,sm p222],.box b17 151 [si y213,(1,[pt b214 0]),(1,[pt b220 0]),sm p226,sl p231 y230.length c232,sl p234 y233.length c235],.box b26 93 [si 0,su 0,su 0,su 0,sg ByteArray.empty,sg ByteArray.empty,sl none 0 0,sl none 0 0,si 0,si 0,si 0,si 0,si 0,sg ByteArray.empty],.box b237 93 [si 15,su v240.1,su a18.N,su v240.2,sg a18.Lo,sg a18.Hi,sl p307 (v309.1).length c308,sl none 0 0,si 0,si 0,si 0,si 0,si 0,sg ByteArray.empty],.tok p307 37 6 (v309.1).length c308,.tok p231 157 3 y230.length c232,.tok p234 25 1 y233.length c235,mx p222 m223 c224,mx p226 m227 c228] [Map.mp (kInt .u64) false (fInt .u64).ty p222 m223 c224 y225,Map.mp kStr false (tSl f_api_Ver.ty) p215 m216 c217 y218,Map.mp (kInt .u64) false (tSl f_api_Ver.ty) p226 m227 c228 y229,Ro.mp f_span_Shard.ty p231 c232 y230,Ro.mp (fInt .u64).ty p234 c235 y233,Ro.mp f_api_Ver.ty none 0 ([]:List T_api_Ver),Ro.mp (fInt .u64).ty none 0 ([]:List Int),Ro.mp f_api_Ver.ty p307 c308 v309.1]) (([]:List T_api_Ver),0) (mkX b254 l (lp rc [.exit 4] 0) [.box b220 174 [su y221,sm p222],.box b17 151 [si y213,(1,[pt b214 0]),(1,[pt b220 0]),sm p226,sl p231 y230.length c232,sl p234 y233.length c235],.box b26 93 [si 0,su 0,su 0,su 0,sg ByteArray.empty,sg ByteArray.empty,sl none 0 0,sl none 0 0,si 0,si 0,si 0,si 0,si 0,sg ByteArray.empty],.box b237 93 [si 15,su v240.1,su a18.N,su v240.2,sg a18.Lo,sg a18.Hi,sl none 0 0,sl none 0 0,si 0,si 0,si 0,si 0,si 0,sg ByteArray.empty],.tok none 37 6 0 0,.tok p231 157 3 y230.length c232,.tok p234 25 1 y233.length c235,mx p222 m223 c224,mx p226 m227 c228] [Map.mp (kInt .u64) false (fInt .u64).ty p222 m223 c224 y225,Map.mp kStr false (tSl f_api_Ver.ty) p215 m216 c217 y218,Map.mp (kInt .u64) false (tSl f_api_Ver.ty) p226 m227 c228 y229,Ro.mp f_span_Shard.ty p231 c232 y230,Ro.mp (fInt .u64).ty p234 c235 y233,Ro.mp f_api_Ver.ty none 0 ([]:List T_api_Ver),Ro.mp (fInt .u64).ty none 0 ([]:List Int),Ro.mp f_api_Ver.ty none 0 ([]:List T_api_Ver)]))]) [1,0] kr
 refine C_store_Store_All_1 N (Y:=(fun (v309:((List T_api_Ver)×Nat)) (x:XF) => ∃(p307:Option Addr) (c308:Nat),x=mkX b254 l (lp rc [.exit 4] v309.2) [.box b220 174 [su y221,sm p222],.box b17 151 [si y213,(1,[pt b214 0]),(1,[pt b220 0]),sm p226,sl p231 y230.length c232,sl p234 y233.length c235],.box b26 93 [si 0,su 0,su 0,su 0,sg ByteArray.empty,sg ByteArray.empty,sl none 0 0,sl none 0 0,si 0,si 0,si 0,si 0,si 0,sg ByteArray.empty],.box b237 93 [si 15,su v240.1,su a18.N,su v240.2,sg a18.Lo,sg a18.Hi,sl p307 (v309.1).length c308,sl none 0 0,si 0,si 0,si 0,si 0,si 0,sg ByteArray.empty],.tok p307 37 6 (v309.1).length c308,.tok p231 157 3 y230.length c232,.tok p234 25 1 y233.length c235,mx p222 m223 c224,mx p226 m227 c228] [Map.mp (kInt .u64) false (fInt .u64).ty p222 m223 c224 y225,Map.mp kStr false (tSl f_api_Ver.ty) p215 m216 c217 y218,Map.mp (kInt .u64) false (tSl f_api_Ver.ty) p226 m227 c228 y229,Ro.mp f_span_Shard.ty p231 c232 y230,Ro.mp (fInt .u64).ty p234 c235 y233,Ro.mp f_api_Ver.ty none 0 ([]:List T_api_Ver),Ro.mp (fInt .u64).ty none 0 ([]:List Int),Ro.mp f_api_Ver.ty p307 c308 v309.1])) (B:=(fun (v309:((List T_api_Ver)×Nat)) x255=>bif (v309.2==0) then (bif (((v309.1).length:Int)==4096) then (some (((v309.1,1)),false)) else (Option.bind (apd v309.1 [(T_api_Ver.mk x255.Key x255.Val x255.Gone x255.TS x255.DC x255.Tx)]) fun x314=>(some (((x314,0)),true)))) else none)) (l:=l) ?_ (T_store_Store.mk y218 y219) a18.Lo a18.Hi b214 p215 m216 c217 hS hv317
 rintro v309 _ κ w x255 s' c ⟨p307,c308,rfl⟩ hp hf hnd hlt hR H
 refine bif_split H (fun hn H=>?_) (fun _ H=>by cases H)
 refine round_at (L:=[(6,pt b26 0),(14,pt b237 0),(173,.agg (flat [sg x255.Key,sg x255.Val,sb x255.Gone,su x255.TS,si x255.DC,si x255.Tx]).toArray)]) hp hf hnd hlt hn hrc rfl [6,14,173] hF kr kr fun a hF hS=>?_
 have hS:=hS.adds hR
 skip
 refine rl (wc (wal hF hS [sg ByteArray.empty,sg ByteArray.empty,sb false,su 0,si 0,si 0] (sgN 6 sgNil) fun b310 a w hF hS=>wc (wst hF hS 0 0 6 [sg x255.Key,sg x255.Val,sb x255.Gone,su x255.TS,si x255.DC,si x255.Tx] (sgN 6 sgNil) fun a w hF hS=>nl (⟨_,_,_,hS,fun wb hS=>?_⟩))))
 obtain ⟨κb,hκb⟩ : ∃κb,κb=κ:=⟨_,rfl⟩
 subst hκb
 refine bk (qs fun _ h311=>qr fun _ h312=>(wp 1 [6,14,15,174] hF fun a hF=>wc (wld hF hS 4 6 0 fun a hF=>wl_pure (L':=[(6,pt b26 0),(14,pt b237 0),(15,pt b310 0),(177,vb (((v309.1).length:Int)==4096))]) 2 [6,14,15,177] hF kr fun a hF=>(h312 _ _ (bc hF H (fun hb H=>?_) fun hb H=>?_)))))
 refine xt ?_
 cases H
 try dsimp only [Exit.inBlock,Exit.then]
 repeat rw [if_neg dc]
 refine re_exit [.exit 4] 0 rfl (C:=[.box b220 174 [su y221,sm p222],.box b17 151 [si y213,(1,[pt b214 0]),(1,[pt b220 0]),sm p226,sl p231 y230.length c232,sl p234 y233.length c235],.box b26 93 [si 0,su 0,su 0,su 0,sg ByteArray.empty,sg ByteArray.empty,sl none 0 0,sl none 0 0,si 0,si 0,si 0,si 0,si 0,sg ByteArray.empty],.box b237 93 [si 15,su v240.1,su a18.N,su v240.2,sg a18.Lo,sg a18.Hi,sl p307 (v309.1).length c308,sl none 0 0,si 0,si 0,si 0,si 0,si 0,sg ByteArray.empty],.tok p307 37 6 (v309.1).length c308,.tok p231 157 3 y230.length c232,.tok p234 25 1 y233.length c235,mx p222 m223 c224,mx p226 m227 c228]) (R:=[Map.mp (kInt .u64) false (fInt .u64).ty p222 m223 c224 y225,Map.mp kStr false (tSl f_api_Ver.ty) p215 m216 c217 y218,Map.mp (kInt .u64) false (tSl f_api_Ver.ty) p226 m227 c228 y229,Ro.mp f_span_Shard.ty p231 c232 y230,Ro.mp (fInt .u64).ty p234 c235 y233,Ro.mp f_api_Ver.ty none 0 ([]:List T_api_Ver),Ro.mp (fInt .u64).ty none 0 ([]:List Int),Ro.mp f_api_Ver.ty p307 c308 v309.1]) (hS.sp (ra 1 9) (rg 8)) ?_
 exact ⟨p307,c308,rfl⟩
 refine sk (h311 _ _ (rl (wl_pure (L':=[(6,pt b26 0),(14,pt b237 0),(15,pt b310 0),(178,pt b237 6)]) 1 [6,14,15,178] hF kr fun a hF=>wc (wld hF hS 4 6 0 fun a hF=>wc (wls hF hS 0 0 6 fun a hF=>wc (wo_buildN (t:=f_api_Ver) (z := .agg (flat [sg ByteArray.empty,sg ByteArray.empty,sb false,su 0,si 0,si 0]).toArray) (l:=[(T_api_Ver.mk x255.Key x255.Val x255.Gone x255.TS x255.DC x255.Tx)]) (vs:=[(0,.agg (flat [sg x255.Key,sg x255.Val,sb x255.Gone,su x255.TS,si x255.DC,si x255.Tx]).toArray)]) (cells := #[.string (x255.Key),.string (x255.Val),vb x255.Gone,vu x255.TS,vi x255.DC,vi x255.Tx]) (E:=37) hF hS kr rfl kr kr rfl kr kr kr kr kr fun p313 κ a w hF hS=>?_))))))
 refine bd H fun x314 hx314 H=>wc (wo_append (ty:=f_api_Ver.ty) hF hS kr 6 8 0 rfl rfl rfl kr kr rfl rfl rfl hx314 kr (i:=Try.t37) (z := .agg (flat [sg ByteArray.empty,sg ByteArray.empty,sb false,su 0,si 0,si 0]).toArray) kr kr kr fun p315 c316 κ a w hF hS=>wl_pure (L':=[(6,pt b26 0),(14,pt b237 0),(182,.slice p315 x314.length c316),(183,pt b237 6)]) 1 [6,14,182,183] hF kr fun a hF=>wc (wst hF hS 5 6 1 [sl p315 x314.length c316] (sgN 1 sgNil) fun a w hF hS=>nl ?_))
 cases H
 try dsimp only [Exit.inBlock,Exit.then]
 repeat rw [if_neg dc]
 refine re_normal [.exit 4] (C:=[.box b220 174 [su y221,sm p222],.box b17 151 [si y213,(1,[pt b214 0]),(1,[pt b220 0]),sm p226,sl p231 y230.length c232,sl p234 y233.length c235],.box b26 93 [si 0,su 0,su 0,su 0,sg ByteArray.empty,sg ByteArray.empty,sl none 0 0,sl none 0 0,si 0,si 0,si 0,si 0,si 0,sg ByteArray.empty],.box b237 93 [si 15,su v240.1,su a18.N,su v240.2,sg a18.Lo,sg a18.Hi,sl p315 x314.length c316,sl none 0 0,si 0,si 0,si 0,si 0,si 0,sg ByteArray.empty],.tok p315 37 6 x314.length c316,.tok p231 157 3 y230.length c232,.tok p234 25 1 y233.length c235,mx p222 m223 c224,mx p226 m227 c228]) (R:=[Map.mp (kInt .u64) false (fInt .u64).ty p222 m223 c224 y225,Map.mp kStr false (tSl f_api_Ver.ty) p215 m216 c217 y218,Map.mp (kInt .u64) false (tSl f_api_Ver.ty) p226 m227 c228 y229,Ro.mp f_span_Shard.ty p231 c232 y230,Ro.mp (fInt .u64).ty p234 c235 y233,Ro.mp f_api_Ver.ty none 0 ([]:List T_api_Ver),Ro.mp (fInt .u64).ty none 0 ([]:List Int),Ro.mp f_api_Ver.ty p315 c316 x314]) (hS.sp (ra 2 9) [2,3,4,5,6,7,8,0]) ?_
 exact ⟨p315,c316,rfl⟩
 rintro _ ⟨p307,c308,rfl⟩
 refine ⟨_,_,_,rfl,fun κ w a hF hS=>?_⟩
 refine bs H (fun hb H=>?_) fun hb H=>?_
 refine jumped0 hb ?_
 exact ⟨_,v317.1,p307,c308,b254,hF.kp [6,14],hS.sp [1,2,3,4,13,5,6,7,14,8,9,0] (rg 8),H⟩
 refine bs H (fun hb H=>?_) fun hb H=>?_
 refine jumpedS 0 hb rfl (xt ?_)
 exact ⟨_,v317.1,p307,c308,b254,hF.kp [6,14],hS.sp [1,2,3,4,13,5,6,7,14,8,9,0] (rg 8),H⟩
 cases H
 rintro a w ⟨κ,y244,p245,c246,b247,hF,hS,H⟩
 unfold M.node_Node_Take_k5 at H
 refine qr fun _ h248=>(wc (wls hF hS 3 0 14 fun a hF=>wc (wst hF hS 2 0 14 [si 15,su v240.1,su a18.N,su v240.2,sg a18.Lo,sg a18.Hi,sl p245 y244.length c246,sl none 0 0,si 0,si 0,si 0,si 0,si 0,sg ByteArray.empty] (sgN 14 sgNil) fun a w hF hS=>wl_pure (L':=[(6,pt b26 0),(7,vb true)]) 1 [6,7] hF kr fun a hF=>(h248 _ _ (rt (ret_doneM (C':=[.box b220 174 [su y221,sm p222],.box b17 151 [si y213,(1,[pt b214 0]),(1,[pt b220 0]),sm p226,sl p231 y230.length c232,sl p234 y233.length c235],.box b26 93 [si 15,su v240.1,su a18.N,su v240.2,sg a18.Lo,sg a18.Hi,sl p245 y244.length c246,sl none 0 0,si 0,si 0,si 0,si 0,si 0,sg ByteArray.empty],.box b237 93 [si 15,su v240.1,su a18.N,su v240.2,sg a18.Lo,sg a18.Hi,sl p245 y244.length c246,sl none 0 0,si 0,si 0,si 0,si 0,si 0,sg ByteArray.empty],.box b214 130 [sm p215,su y219],.tok p245 37 6 y244.length c246,.tok p231 157 3 y230.length c232,.tok p234 25 1 y233.length c235,mx p215 m216 c217,mx p222 m223 c224,mx p226 m227 c228]) hF hS 11 rfl kr fun w hS=>?_))))))
 have hS':=hS
 have hS:=hS.addNil 25 1
 cases H
 exact ⟨_,(res2 Try.results62 (rvs hF hS' 2 0 14) (rvt hF)),⟨p245,c246,none,0,b214,p215,m216,c217,b220,p222,m223,c224,p226,m227,c228,p231,c232,p234,c235,rfl,hS.sp [2,7,8,5,9,1,10,11,6,0] [7,6,1,0,2,3,4]⟩⟩
 refine qr fun _ h335=>(wp 2 [0,4,6,30,185] hF fun a hF=>(h335 _ _ (bc hF H (fun hb H=>?_) fun hb H=>?_)))
 refine qs fun _ h336=>rgX hS [0,1,2,4,8,9] ?_
 have hS:=hS.drew
 have hX:=hS.px [0,1,2,4,8,9]
 refine anp [0,1,2,4,6] [0,4,6,189,191,193] hF hX fun a hF=>atk 3 (some 190) hF hX rfl (vld 2 1 0) fun a hF=>atk 5 (some 192) hF hX rfl (vld 1 4 0) fun a hF=>atk 7 (some 194) hF hX rfl (vld 1 5 0) fun a hF=>ago 8 hF rfl (bd H fun x337 hx337 H=>wcS 2 [3,7,0,1,2,4,5,6,8,9] hF hS (fun hS=>C_store_Store_Drop N (T_store_Store.mk a1.store.chains a1.store.floor) a18.Lo a18.Hi p3 m4 c5 b2 ⟨rfl,hS.pick [0] kr⟩ hx337) ?_)
 rintro _ κ w a ⟨p338,m339,c340,rfl,h2⟩ hF hB
 have hS:=hB _ _ h2
 refine ⟨fun _=>(hS.sx [2,3,4,5,8,9] (ra 1 9)),?_⟩
 refine and_ (h336 _ _ (qr fun _ h341=>(wp 1 [0,4,6,196] hF fun a hF=>wc (wls hF hS 3 0 14 fun a hF=>bd H fun x342 hx342 H=>wc (wcS 8 [4,6,7,0,1,5,8,9,2,3] hF hS (fun hS=>C_node_Node_load N (T_node_Node.mk a1.dc (T_store_Store.mk x337.2.chains x337.2.floor) (T_part_Part.mk a1.part.clock a1.part.open_) a1.writes a1.owned a1.modes) (T_api_Msg.mk a18.Kind a18.Id a18.N a18.TS a18.Lo a18.Hi a18.Vers a18.Vec (T_api_Cmd.mk a18.Cmd.Kind a18.Cmd.DC a18.Cmd.Shard a18.Cmd.Node a18.Cmd.Mode a18.Cmd.Key)) b2 p338 m339 c340 b6 p7 m8 c9 p10 m11 c12 p13 c14 p15 c16 p19 c20 p21 c22 b17 ⟨rfl,hS.pick [0,2,3,4,5,8,9] kr⟩ hx342) ?_)))))
 rintro _ κ w a ⟨b343,p344,m345,c346,b347,p348,m349,c350,p351,m352,c353,p354,c355,p356,c357,rfl,h2⟩ hF hB
 have hS:=(hB _ _ h2).cC (C':=[.box b17 151 [si x342.dc,(1,[pt b343 0]),(1,[pt b347 0]),sm p351,sl p354 (x342.owned).length c355,sl p356 (x342.modes).length c357],.tok p354 157 3 (x342.owned).length c355,.tok p356 25 1 (x342.modes).length c357,.box b343 130 [sm p344,su x342.store.floor],mx p344 m345 c346,.box b347 174 [su x342.part.clock,sm p348],mx p348 m349 c350,mx p351 m352 c353,.box b26 93 [si 0,su 0,su 0,su 0,sg ByteArray.empty,sg ByteArray.empty,sl none 0 0,sl none 0 0,si 0,si 0,si 0,si 0,si 0,sg ByteArray.empty],.box b25 93 [si a18.Kind,su a18.Id,su a18.N,su a18.TS,sg a18.Lo,sg a18.Hi,sl p19 (a18.Vers).length c20,sl p21 (a18.Vec).length c22,si a18.Cmd.Kind,si a18.Cmd.DC,si a18.Cmd.Shard,si a18.Cmd.Node,si a18.Cmd.Mode,sg a18.Cmd.Key]])
 refine h341 _ _ (qs fun _ h358=>rgX hS [0,3,4,7,8,9] ?_)
 have hS:=hS.drew
 have hX:=hS.px [0,3,4,7,8,9]
 refine anp [0,1,2,4] [0,4,6,201,203] hF hX fun a hF=>atk 3 (some 202) hF hX rfl (vld 0 2 0) fun a hF=>atk 5 (some 204) hF hX rfl (vld 5 3 0) fun a hF=>ago 6 hF rfl (bd H fun x359 hx359 H=>wcS 2 [5,6,0,1,2,3,4,7,8,9] hF hS (fun hS=>C_part_Part_See N (T_part_Part.mk x342.part.clock x342.part.open_) a18.TS p348 m349 c350 b347 ⟨rfl,hS.pick [1] kr⟩ hx359) ?_)
 rintro _ κ w a ⟨p360,m361,c362,rfl,h2⟩ hF hB
 have hS:=hB _ _ h2
 refine ⟨fun _=>(hS.sx [2,5,6,7,8,9] (ra 1 15)),?_⟩
 refine and_ (h358 _ _ (qs fun _ h363=>rgX hS [0,1,2,7,8,9] ?_))
 have hS:=hS.drew
 have hX:=hS.px [0,1,2,7,8,9]
 refine anp [0,1,2,4] [0,4,6,208,210] hF hX fun a hF=>atk 3 (some 209) hF hX rfl (vld 2 1 0) fun a hF=>atk 5 (some 211) hF hX rfl (vld 5 1 0) fun a hF=>ago 6 hF rfl (bd H fun x364 hx364 H=>wcS 2 [5,6,0,1,2,3,4,7,8,9] hF hS (fun hS=>C_store_Store_Trim N (T_store_Store.mk x342.store.chains x342.store.floor) a18.Id p344 m345 c346 b343 ⟨rfl,hS.pick [1] kr⟩ hx364) ?_)
 rintro _ κ w a ⟨p365,m366,c367,rfl,h2⟩ hF hB
 have hS:=(hB _ _ h2).cC (C':=[.box b343 130 [sm p365,su x364.2.floor],mx p365 m366 c367,.box b347 174 [su x359.clock,sm p360],mx p360 m361 c362,.box b17 151 [si x342.dc,(1,[pt b343 0]),(1,[pt b347 0]),sm p351,sl p354 (x342.owned).length c355,sl p356 (x342.modes).length c357],.tok p354 157 3 (x342.owned).length c355,.tok p356 25 1 (x342.modes).length c357,mx p351 m352 c353,.box b26 93 [si 0,su 0,su 0,su 0,sg ByteArray.empty,sg ByteArray.empty,sl none 0 0,sl none 0 0,si 0,si 0,si 0,si 0,si 0,sg ByteArray.empty],.box b25 93 [si a18.Kind,su a18.Id,su a18.N,su a18.TS,sg a18.Lo,sg a18.Hi,sl p19 (a18.Vers).length c20,sl p21 (a18.Vec).length c22,si a18.Cmd.Kind,si a18.Cmd.DC,si a18.Cmd.Shard,si a18.Cmd.Node,si a18.Cmd.Mode,sg a18.Cmd.Key]])
 refine ⟨fun _=>(hS.sx [2,3,4,7,8,9] (ra 1 16)),?_⟩
 refine and_ (h363 _ _ (qr fun _ h368=>(wp 2 [4,6,213,214] hF fun a hF=>wc (wld hF hS 9 4 0 fun a hF=>wp 1 [4,6,213,215,216] hF fun a hF=>wc (wld hF hS 9 5 0 fun a hF=>bd H fun x369 hx369 H=>wc (wcS 8 [4,5,6,0,1,2,3,7,8,9] hF hS (fun hS=>C_node_Node_own N (T_node_Node.mk x342.dc (T_store_Store.mk x364.2.chains x364.2.floor) (T_part_Part.mk x359.clock x359.open_) x342.writes x342.owned x342.modes) a18.Lo a18.Hi b343 p365 m366 c367 b347 p360 m361 c362 p351 m352 c353 p354 c355 p356 c357 b17 ⟨rfl,hS.pick [0,1,4,5,6] kr⟩ hx369) ?_))))))
 rintro _ κ w a ⟨b370,p371,m372,c373,b374,p375,m376,c377,p378,m379,c380,p381,c382,p383,c384,rfl,h2⟩ hF hB
 have hS:=hB _ _ h2
 refine h368 _ _ (qr fun _ h385=>(wp 1 [4,6,219] hF fun a hF=>wc (wld hF hS 9 4 0 fun a hF=>wp 1 [6,220,221] hF fun a hF=>wc (wld hF hS 9 5 0 fun a hF=>wp 1 [6,223] hF fun a hF=>wc (wst hF hS 8 0 14 [si 16,su 0,su 0,su 0,sg a18.Lo,sg a18.Hi,sl none 0 0,sl none 0 0,si 0,si 0,si 0,si 0,si 0,sg ByteArray.empty] (sgN 14 sgNil) fun a w hF hS=>wp 1 [6,7] hF fun a hF=>(h385 _ _ (rt ?_)))))))
 have hS':=hS
 have hS:=hS.addNil 37 6
 have hS:=hS.addNil 25 1
 cases H
 exact ret_done0 hF hS (res2 Try.results62 (rvs hF hS' 8 0 14) (rvt hF)) ⟨none,0,none,0,b370,p371,m372,c373,b374,p375,m376,c377,p378,m379,c380,p381,c382,p383,c384,rfl,hS.sp [2,3,4,5,6,7,8,9,1,0] [18,19,0,1,2,3,4]⟩
 refine qr fun _ h386=>(wp 2 [0,4,6,30,224] hF fun a hF=>(h386 _ _ (bc hF H (fun hb H=>?_) fun hb H=>?_)))
 refine rgX hS [0,1,2,4,8,9] ?_
 have hS:=hS.drew
 have hX:=hS.px [0,1,2,4,8,9]
 refine anp [0,1,2,4,6] [6,228,230,232] hF hX fun a hF=>atk 3 (some 229) hF hX rfl (vld 2 1 0) fun a hF=>atk 5 (some 231) hF hX rfl (vld 1 4 0) fun a hF=>atk 7 (some 233) hF hX rfl (vld 1 5 0) fun a hF=>ago 8 hF rfl (bd H fun x387 hx387 H=>wcS 2 [3,7,0,1,2,4,5,6,8,9] hF hS (fun hS=>C_store_Store_Drop N (T_store_Store.mk a1.store.chains a1.store.floor) a18.Lo a18.Hi p3 m4 c5 b2 ⟨rfl,hS.pick [0] kr⟩ hx387) ?_)
 rintro _ κ w a ⟨p388,m389,c390,rfl,h2⟩ hF hB
 have hS:=hB _ _ h2
 refine ⟨fun _=>(hS.sx [2,3,4,5,8,9] (ra 1 9)),?_⟩
 refine and_ ?_
 exact ⟨_,a1.dc,b2,p388,m389,c390,x387.2.chains,x387.2.floor,b6,a1.part.clock,p7,m8,c9,a1.part.open_,p10,m11,c12,a1.writes,a1.owned,p13,c14,hF.kp [6],hS.sp [2,4,0,5,6,7,1,8,9] [6,7,0,2,3,4,5],H⟩
 refine qr fun _ h391=>(wp 2 [0,4,6,30,235] hF fun a hF=>(h391 _ _ (bc hF H (fun hb H=>?_) fun hb H=>?_)))
 refine qs fun _ h392=>rgS hS [] ?_
 have hS:=hS.drew
 have hX:=hS.fx
 refine anp [0,1,2,5,6,7] [0,6,239,244] hF hX fun a hF=>atk 3 (some 240) hF hX rfl (vld 2 2 0) fun a hF=>atk 8 (some 245) hF hX rfl (vld 2 5 0) fun a hF=>ago 4 hF rfl (bd H fun x393 hx393 H=>wcS 2 [4,8,0,1,2,3,5,6,7,9] hF hS (fun hS=>C_part_Part_Clock N (T_part_Part.mk a1.part.clock a1.part.open_) p7 m8 c9 b6 ⟨rfl,hS.pick [1] kr⟩ hx393) ?_)
 rintro _ κ w a ⟨rfl,h2⟩ hF hB
 have hS:=hB _ _ h2
 refine ⟨fun _=>(hS.sx [2,3,4,5,0,8,1,9] (rg 9)),?_⟩
 refine anp [9,10] [0,6,16,17] hF (hS.sx [2,3,4,5,0,8,1,9] (rg 9)) fun a hF=>and_ (h392 _ _ (qr fun _ h394=>(wp 4 [0,6,16,17,246,249] hF fun a hF=>wc (wld hF hS 4 0 0 fun a hF=>bd H fun x395 hx395 H=>wc (wcS 0 (rg 10) hF hS (fun hS=>C_node_New N a1.dc ⟨rfl,hS.pick [] kr⟩ hx395) ?_)))))
 rintro _ κ w a ⟨b396,b397,p398,m399,c400,b401,p402,m403,c404,p405,m406,c407,p408,c409,p410,c411,rfl,h2⟩ hF hB
 have hS:=(hB _ _ h2).cC (C':=[.box b396 151 [si x395.dc,(1,[pt b397 0]),(1,[pt b401 0]),sm p405,sl p408 (x395.owned).length c409,sl p410 (x395.modes).length c411],.box b397 130 [sm p398,su x395.store.floor],mx p398 m399 c400,.box b401 174 [su x395.part.clock,sm p402],mx p402 m403 c404,mx p405 m406 c407,.tok p408 157 3 (x395.owned).length c409,.tok p410 25 1 (x395.modes).length c411,.box b6 174 [su a1.part.clock,sm p7],mx p7 m8 c9,.box b26 93 [si 0,su 0,su 0,su 0,sg ByteArray.empty,sg ByteArray.empty,sl none 0 0,sl none 0 0,si 0,si 0,si 0,si 0,si 0,sg ByteArray.empty],.box b25 93 [si a18.Kind,su a18.Id,su a18.N,su a18.TS,sg a18.Lo,sg a18.Hi,sl p19 (a18.Vers).length c20,sl p21 (a18.Vec).length c22,si a18.Cmd.Kind,si a18.Cmd.DC,si a18.Cmd.Shard,si a18.Cmd.Node,si a18.Cmd.Mode,sg a18.Cmd.Key],.box b17 151 [si a1.dc,(1,[pt b2 0]),(1,[pt b6 0]),sm p10,sl p13 (a1.owned).length c14,sl p15 (a1.modes).length c16],.box b2 130 [sm p3,su a1.store.floor],.tok p13 157 3 (a1.owned).length c14,.tok p15 25 1 (a1.modes).length c16,mx p3 m4 c5,mx p10 m11 c12])
 refine wp 1 [0,6,16,17,246,252] hF fun a hF=>wc (wls hF hS 0 0 6 fun a hF=>wp 1 [0,6,16,17,253,254] hF fun a hF=>wc (wst hF hS 12 0 6 [si x395.dc,(1,[pt b397 0]),(1,[pt b401 0]),sm p405,sl p408 (x395.owned).length c409,sl p410 (x395.modes).length c411] (sgN 6 sgNil) fun a w hF hS=>(h394 _ _ (qr fun _ h412=>(wp 3 [0,6,16,17,257] hF fun a hF=>wc (wld hF hS 12 2 0 fun a hF=>wp 1 [0,6,17,258,259] hF fun a hF=>bd H fun x413 hx413 H=>wc (wcS 2 [3,4,0,1,2,5,6,7,8,9,10,11,12,13,14,15,16,17] hF hS (fun hS=>C_part_Part_See N (T_part_Part.mk x395.part.clock x395.part.open_) x393 p402 m403 c404 b401 ⟨rfl,hS.pick [1] kr⟩ hx413) ?_)))))))
 rintro _ κ w a ⟨p414,m415,c416,rfl,h2⟩ hF hB
 have hS:=hB _ _ h2
 refine h412 _ _ (rl (wp 4 [6,262,264] hF fun a hF=>wc (wst hF hS 12 5 1 [sl p15 (a1.modes).length c16] (sgN 1 sgNil) fun a w hF hS=>nl ?_)))
 exact ⟨_,x395.dc,b397,p398,m399,c400,x395.store.chains,x395.store.floor,b401,x413.clock,p414,m415,c416,x413.open_,p405,m406,c407,x395.writes,x395.owned,p408,c409,hF.kp [6],hS.sp [10,12,3,0,6,15,4,1,5] [11,12,1,0,3,4,10],H⟩
 refine qr fun _ h417=>(wp 2 [0,4,6,30,265] hF fun a hF=>(h417 _ _ (bc hF H (fun hb H=>?_) fun hb H=>?_)))
 refine rgX hS [0,1,2,4,8,9] ?_
 have hS:=hS.drew
 have hX:=hS.px [0,1,2,4,8,9]
 refine anp [0,1,2,4] [6,269,271] hF hX fun a hF=>atk 3 (some 270) hF hX rfl (vld 2 1 0) fun a hF=>atk 5 (some 272) hF hX rfl (vld 1 3 0) fun a hF=>ago 6 hF rfl (bd H fun x418 hx418 H=>wcS 2 [3,7,0,1,2,4,5,6,8,9] hF hS (fun hS=>C_store_Store_Trim N (T_store_Store.mk a1.store.chains a1.store.floor) a18.TS p3 m4 c5 b2 ⟨rfl,hS.pick [0] kr⟩ hx418) ?_)
 rintro _ κ w a ⟨p419,m420,c421,rfl,h2⟩ hF hB
 have hS:=hB _ _ h2
 refine ⟨fun _=>(hS.sx [2,3,4,5,8,9] (ra 1 9)),?_⟩
 refine and_ ?_
 exact ⟨_,a1.dc,b2,p419,m420,c421,x418.2.chains,x418.2.floor,b6,a1.part.clock,p7,m8,c9,a1.part.open_,p10,m11,c12,a1.writes,a1.owned,p13,c14,hF.kp [6],hS.sp [2,4,0,5,6,7,1,8,9] [6,7,0,2,3,4,5],H⟩
 refine qr fun _ h422=>(wp 2 [0,4,6,30,274] hF fun a hF=>(h422 _ _ (bc hF H (fun hb H=>?_) fun hb H=>?_)))
 refine qr fun _ h423=>(wl_pure (L':=[(4,pt b25 0),(6,pt b26 0),(276,pt b17 0),(277,pt b25 7)]) 2 [4,6,276,277] hF kr fun a hF=>wc (wld hF hS 1 7 0 fun a hF=>?_))
 have hS:=hS.addNil 25 1
 refine bd H fun x424 hx424 H=>wc (wo_append (ty:=(fInt .u64).ty) hF hS kr 0 6 8 rfl rfl rfl kr kr rfl rfl rfl hx424 kr (i:=Try.t25) (z:=vu 0) kr kr kr fun p425 c426 κ a w hF hS=>wp 2 [4,6,279,281] hF fun a hF=>wc (wst hF hS 3 5 1 [sl p425 x424.length c426] (sgN 1 sgNil) fun a w hF hS=>(h423 _ _ (qr fun _ h427=>(wp 1 [6,282] hF fun a hF=>wc (wld hF hS 2 1 0 fun a hF=>wp 1 [6,284] hF fun a hF=>wc (wst hF hS 1 0 14 [si 17,su a18.Id,su 0,su 0,sg ByteArray.empty,sg ByteArray.empty,sl none 0 0,sl none 0 0,si 0,si 0,si 0,si 0,si 0,sg ByteArray.empty] (sgN 14 sgNil) fun a w hF hS=>?_)))))))
 refine wp 1 [6,7] hF fun a hF=>(h427 _ _ (rt ?_))
 have hS':=hS
 have hS:=hS.addNil 37 6
 have hS:=hS.addNil 25 1
 cases H
 exact ret_done0 hF hS (res2 Try.results62 (rvs hF hS' 1 0 14) (rvt hF)) ⟨none,0,none,0,b2,p3,m4,c5,b6,p7,m8,c9,p10,m11,c12,p13,c14,p425,c426,rfl,hS.sp [5,8,2,6,10,7,11,12,1,0] [6,7,1,2,3,4,0]⟩
 refine qr fun _ h428=>(wp 2 [0,4,6,285] hF fun a hF=>(h428 _ _ (bc hF H (fun hb H=>?_) fun hb H=>?_)))
 refine rgX hS [0,1,2,3,7,9] ?_
 have hS:=hS.drew
 have hX:=hS.px [0,1,2,3,7,9]
 refine anp [0,1,2,4] [6,289,291] hF hX fun a hF=>atk 3 (some 290) hF hX rfl (vld 2 2 0) fun a hF=>atk 5 (some 292) hF hX rfl (vld 1 3 0) fun a hF=>ago 6 hF rfl (bd H fun x429 hx429 H=>wcS 2 [4,8,0,1,2,3,5,6,7,9] hF hS (fun hS=>C_part_Part_See N (T_part_Part.mk a1.part.clock a1.part.open_) a18.TS p7 m8 c9 b6 ⟨rfl,hS.pick [1] kr⟩ hx429) ?_)
 rintro _ κ w a ⟨p430,m431,c432,rfl,h2⟩ hF hB
 have hS:=hB _ _ h2
 refine ⟨fun _=>(hS.sx [2,3,4,5,8,9] (ra 1 9)),?_⟩
 refine and_ ?_
 exact ⟨_,a1.dc,b2,p3,m4,c5,a1.store.chains,a1.store.floor,b6,x429.clock,p430,m431,c432,x429.open_,p10,m11,c12,a1.writes,a1.owned,p13,c14,hF.kp [6],hS.sp [2,4,5,0,6,7,8,1,9] [6,7,1,0,3,4,5],H⟩
 refine sk ?_
 exact ⟨_,a1.dc,b2,p3,m4,c5,a1.store.chains,a1.store.floor,b6,a1.part.clock,p7,m8,c9,a1.part.open_,p10,m11,c12,a1.writes,a1.owned,p13,c14,hF.kp [6],hS.sp [0,2,3,4,5,6,7,8,9] [5,6,0,1,2,3,4],H⟩
 rintro a w ⟨κ,y32,b33,p34,m35,c36,y37,y38,b39,y40,p41,m42,c43,y44,p45,m46,c47,y48,y49,p50,c51,hF,hS,H⟩
 unfold M.node_Node_Take_k1 at H
 refine qr fun _ h52=>(wp 1 [6,294] hF fun a hF=>wc (wst hF hS 0 0 14 [si 0,su 0,su 0,su 0,sg ByteArray.empty,sg ByteArray.empty,sl none 0 0,sl none 0 0,si 0,si 0,si 0,si 0,si 0,sg ByteArray.empty] (sgN 14 sgNil) fun a w hF hS=>wp 1 [6,7] hF fun a hF=>(h52 _ _ (rt ?_))))
 have hS':=hS
 have hS:=hS.addNil 37 6
 have hS:=hS.addNil 25 1
 cases H
 exact ret_done0 hF hS (res2 Try.results62 (rvs hF hS' 0 0 14) (rvt hF)) ⟨none,0,none,0,b33,p34,m35,c36,b39,p41,m42,c43,p45,m46,c47,p50,c51,p15,c16,rfl,hS.sp [3,6,7,4,8,5,9,10,1,0] (rg 7)⟩
end Go.Cf
