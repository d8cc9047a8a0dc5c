/- The walks: each function returns what its model says. Printed by a program of ours. -/
import Derived.Test.YtgpgcfgejggolaaGreatDoorZM1
import Derived.Test.YtgpgcfgejggolaaGreatDoorZWp1
import Derived.Test.YtgpgcfgejggolaaGreatDoorZWq3
import Derived.Test.YtgpgcfgejggolaaGreatDoorZWp3
import Derived.Test.YtgpgcfgejggolaaGreatDoorZWq1
import Derived.Test.YtgpgcfgejggolaaGreatDoorZWBld
import Derived.Test.YtgpgcfgejggolaaGreatDoorZWq4
import Derived.Test.YtgpgcfgejggolaaGreatDoorZWk2
import Derived.Test.YtgpgcfgejggolaaGreatDoorZWk3
import Derived.Test.YtgpgcfgejggolaaGreatDoorZWp2
import Derived.Test.YtgpgcfgejggolaaGreatDoorZWLib
import Derived.Test.YtgpgcfgejggolaaGreatDoorZWw1
namespace Go.Cf
open Go Go.Proofs
set_option linter.unusedVariables false
set_option maxRecDepth 20000
set_option maxHeartbeats 8000000
theorem C_law24_ScriptLong (N:Nat){κ0:Gh}{w0:World}(hfr:Fresh κ0 w0)(a1:Int)(a2:Bool)(hR : ∀m∈([GL]:List MP),m.p κ0 w0){r:(Bool)}(H:M.law24_ScriptLong N a1 a2=some r) :
    Calls Tryz.prog 4 #[vi a1,vb a2] w0 (Post [] κ0 w0 fun v κ w=>v=vb r∧(∀m∈([]:List MP),m.p κ w)∧NewC w0 κ w []):=by
 have hS:=SS.start hfr hR
 refine en Tryz.func4 rfl Tryz.ntmps4 fun a hF=>?_
 unfold M.law24_ScriptLong at H
 refine qr fun _ h3=>(wp 1 [0,1] hF fun a hF=>(h3 _ _ (qr fun _ h4=>(bd H fun x5 hx5 H=>wc (wcS 0 [] hF hS (fun hS=>C_script_New N (hS.sbK []) hx5) ?_)))))
 rintro _ κ w a ⟨b6,p7,cs8,rfl,h2⟩ hF hB
 have hS:=hB _ _ h2
 refine wp 1 [0,1,5] hF fun a hF=>(h4 _ _ (qs fun _ h9=>qr fun _ h10=>(wp 2 [0,1,5,14] hF fun a hF=>(h10 _ _ (cf hF rfl (sk (h9 _ _ (qr fun _ h11=>(wp 6 [0,1,5] hF fun a hF=>(h11 _ _ (qr fun _ h12=>(wl_pure (L':=[(0,vi (IntKind.i64.wrap ((IntKind.i64.wrap (Int.tmod (IntKind.u64.wrap a1) 5))-2))),(1,vb a2),(5,pt b6 0),(21,vi (IntKind.i64.wrap (1023+(IntKind.i64.wrap ((IntKind.i64.wrap (Int.tmod (IntKind.u64.wrap a1) 5))-2)))))]) 2 [0,1,5,21] hF kr fun a hF=>bd H fun x13 hx13 H=>wc (wo_makeO (E:=5) (i:=Tryz.t5) (z := .int .u8 (0)) (zm:=0) (kl := .i64) (kc := .i64) hF hS kr (fInt .u8) rfl kr kr hx13 kr kr kr kr (Nat.le_of_ble_eq_true kr) kr fun p14 a w hF hS=>?_)))))))))))))
 refine wp 1 [0,1,5,6] hF fun a hF=>(h12 _ _ (qs fun _ h15=>qr fun _ h16=>(wp 3 [0,1,5,6,24,25] hF fun a hF=>(h16 _ _ (bk (loop_fuel (n:=N) (fun n a w => ∃(κ:Gh) (y67:List Int) (y68:Int),Fr (72) [] [(0,vi (IntKind.i64.wrap ((IntKind.i64.wrap (Int.tmod (IntKind.u64.wrap a1) 5))-2))),(1,vb a2),(5,pt b6 0),(6,.slice p14 y67.length x13.length),(24,vi (x13.length:Int)),(25,vi y68)] a∧SS [] κ0 w0 κ w [.box b6 37 [sp p7],ox o_cluster_Cluster p7 cs8 x5.c,.ext (ownX (fInt .u8) 5 p14 (x13.length) y67)] [GL]∧M.law24_ScriptLong_L1 N n a1 a2 x5 x13 y67 y68=some r) ?_ ?_))))))
 exact ⟨_,x13,0,hF.kp [0,1,5,6,24,25],hS.sp [1,2,0] [0],H⟩
 rintro n a w ⟨κ,y67,y68,hF,hS,H⟩
 rcases n with _|fuel1
 simp [M.law24_ScriptLong_L1] at H
 simp only [M.law24_ScriptLong_L1] at H
 refine qr fun _ h69=>(wp 1 [0,1,5,6,24,25,26] hF fun a hF=>(h69 _ _ (qs fun _ h70=>bc hF H (fun hb H=>?_) fun hb H=>?_)))
 refine sk (h70 _ _ (qs fun _ h71=>bk (qr fun _ h72=>(wp 2 [0,1,5,6,7,24,25] hF fun a hF=>(h72 _ _ (rl (wl_pure (L':=[(0,vi (IntKind.i64.wrap ((IntKind.i64.wrap (Int.tmod (IntKind.u64.wrap a1) 5))-2))),(1,vb a2),(5,pt b6 0),(6,.slice p14 y67.length x13.length),(24,vi (x13.length:Int)),(25,vi y68),(28,.slice p14 y67.length x13.length),(29,vi y68)]) 2 [0,1,5,6,24,25,28,29] hF kr fun a hF=>bd H fun x73 hx73 H=>wc (wo_indexO hF hS kr 2 (sz:=1) rfl rfl rfl rfl rfl hx73 kr kr fun b74 f75 a hpx73 hF=>wc (wo_storeOL hF hS kr 2 (z:=10) rfl rfl rfl rfl hpx73 hx73 rfl kr rfl kr (Cf:=(fun nn=>[.box b6 37 [sp p7],ox o_cluster_Cluster p7 cs8 x5.c,.ext (ownX (fInt .u8) 5 p14 (x13.length) (List.set y67 (Int.toNat y68) 10))])) (Lf:=(fun nn=>[(0,vi (IntKind.i64.wrap ((IntKind.i64.wrap (Int.tmod (IntKind.u64.wrap a1) 5))-2))),(1,vb a2),(5,pt b6 0),(6,.slice p14 nn x13.length),(24,vi (x13.length:Int)),(25,vi y68),(28,.slice p14 nn x13.length),(29,vi y68)])) [0,1,5,6,24,25,28,29] kr kr fun a w hF hS=>?_)))))))))
 refine h71 _ _ (rl (wp 2 [0,1,5,6,24,25] hF fun a hF=>nl ?_))
 exact ⟨fuel1,Nat.lt_succ_self _,_,(List.set y67 (Int.toNat y68) 10),IntKind.i64.wrap (y68+1),hF.kp [0,1,5,6,24,25],hS.sp [0,1,2] [0],H⟩
 refine xt (h15 _ _ (qr fun _ h76=>(wp 3 [0,1,5,6,8] hF fun a hF=>(h76 _ _ (seq_join (fun a w => ∃(κ:Gh) (p77:Option Addr) (c78:Nat) (y79:List Int),Fr (72) [] [(5,pt b6 0),(6,.slice p77 y79.length c78),(8,vb (decide (IntKind.i64.wrap ((IntKind.i64.wrap (Int.tmod (IntKind.u64.wrap a1) 5))-2) > 0)))] a∧SS [] κ0 w0 κ w [.box b6 37 [sp p7],ox o_cluster_Cluster p7 cs8 x5.c,.ext (ownX (fInt .u8) 5 p77 c78 y79)] [GL]∧M.law24_ScriptLong_k2 N a1 x5 y79=some r) ?_ ?_)))))
 refine qr fun _ h88=>(wp 1 [0,5,6,8,34] hF fun a hF=>(h88 _ _ (bc hF H (fun hb H=>?_) fun hb H=>?_)))
 refine qr fun _ h89=>(wl_pure (L':=[(5,pt b6 0),(8,vb (decide (IntKind.i64.wrap ((IntKind.i64.wrap (Int.tmod (IntKind.u64.wrap a1) 5))-2) > 0))),(36,vi (IntKind.i64.wrap (65536+(IntKind.i64.wrap ((IntKind.i64.wrap (Int.tmod (IntKind.u64.wrap a1) 5))-2)))))]) 2 [5,8,36] hF kr fun a hF=>bd H fun x90 hx90 H=>wc (wo_makeO (E:=5) (i:=Tryz.t5) (z := .int .u8 (0)) (zm:=0) (kl := .i64) (kc := .i64) hF hS kr (fInt .u8) rfl kr kr hx90 kr kr kr kr (Nat.le_of_ble_eq_true kr) kr fun p91 a w hF hS=>wp 1 [5,6,8] hF fun a hF=>(h89 _ _ (qr fun _ h92=>(wp 3 [5,6,8,39,40] hF fun a hF=>(h92 _ _ (bk (loop_fuel (n:=N) (fun n a w => ∃(κ:Gh) (y143:List Int) (y144:Int),Fr (72) [] [(5,pt b6 0),(6,.slice p91 y143.length x90.length),(8,vb (decide (IntKind.i64.wrap ((IntKind.i64.wrap (Int.tmod (IntKind.u64.wrap a1) 5))-2) > 0))),(39,vi (x90.length:Int)),(40,vi y144)] a∧SS [] κ0 w0 κ w [.box b6 37 [sp p7],ox o_cluster_Cluster p7 cs8 x5.c,.ext (ownX (fInt .u8) 5 p91 (x90.length) y143)] [GL]∧M.law24_ScriptLong_L3 N n a1 x5 x90 y143 y144=some r) ?_ ?_))))))))
 exact ⟨_,x90,0,hF.kp [5,6,8,39,40],hS.sp [1,2,0] [0],H⟩
 rintro n a w ⟨κ,y143,y144,hF,hS,H⟩
 rcases n with _|fuel3
 simp [M.law24_ScriptLong_L3] at H
 simp only [M.law24_ScriptLong_L3] at H
 refine qr fun _ h145=>(wp 1 [5,6,8,39,40,41] hF fun a hF=>(h145 _ _ (qs fun _ h146=>bc hF H (fun hb H=>?_) fun hb H=>?_)))
 refine sk (h146 _ _ (qs fun _ h147=>bk (qr fun _ h148=>(wp 2 [5,6,8,9,39,40] hF fun a hF=>(h148 _ _ (rl (wl_pure (L':=[(5,pt b6 0),(6,.slice p91 y143.length x90.length),(8,vb (decide (IntKind.i64.wrap ((IntKind.i64.wrap (Int.tmod (IntKind.u64.wrap a1) 5))-2) > 0))),(39,vi (x90.length:Int)),(40,vi y144),(43,.slice p91 y143.length x90.length),(44,vi y144)]) 2 [5,6,8,39,40,43,44] hF kr fun a hF=>bd H fun x149 hx149 H=>wc (wo_indexO hF hS kr 2 (sz:=1) rfl rfl rfl rfl rfl hx149 kr kr fun b150 f151 a hpx149 hF=>wc (wo_storeOL hF hS kr 2 (z:=35) rfl rfl rfl rfl hpx149 hx149 rfl kr rfl kr (Cf:=(fun nn=>[.box b6 37 [sp p7],ox o_cluster_Cluster p7 cs8 x5.c,.ext (ownX (fInt .u8) 5 p91 (x90.length) (List.set y143 (Int.toNat y144) 35))])) (Lf:=(fun nn=>[(5,pt b6 0),(6,.slice p91 nn x90.length),(8,vb (decide (IntKind.i64.wrap ((IntKind.i64.wrap (Int.tmod (IntKind.u64.wrap a1) 5))-2) > 0))),(39,vi (x90.length:Int)),(40,vi y144),(43,.slice p91 nn x90.length),(44,vi y144)])) [5,6,8,39,40,43,44] kr kr fun a w hF hS=>?_)))))))))
 refine h147 _ _ (rl (wp 2 [5,6,8,39,40] hF fun a hF=>nl ?_))
 exact ⟨fuel3,Nat.lt_succ_self _,_,(List.set y143 (Int.toNat y144) 35),IntKind.i64.wrap (y144+1),hF.kp [5,6,8,39,40],hS.sp [0,1,2] [0],H⟩
 refine xt ?_
 exact ⟨_,p91,x90.length,y143,hF.kp [5,6,8],hS.sp [0,1,2] [0],H⟩
 refine sk ?_
 exact ⟨_,p14,x13.length,y67,hF.kp [5,6,8],hS.sp [0,1,2] [0],H⟩
 rintro a w ⟨κ,p77,c78,y79,hF,hS,H⟩
 unfold M.law24_ScriptLong_k2 at H
 refine qr fun _ h80=>(wl_pure (L':=[(8,vb (decide (IntKind.i64.wrap ((IntKind.i64.wrap (Int.tmod (IntKind.u64.wrap a1) 5))-2) > 0))),(48,pt b6 0),(49,.slice p77 y79.length c78)]) 2 [8,48,49] hF kr fun a hF=>wc (wo_convO hF hS kr 2 rfl rfl rfl Tryz.underlying29 Tryz.underlying5 Tryz.underlying9 fun a hF=>bd H fun x81 hx81 H=>wc (wcS 2 [0,1,2] hF hS (fun hS=>C_script_Shell_Run N (T_script_Shell.mk x5.c) (strOfNums y79) p7 cs8 b6 (hS.sbK [0]) hx81) ?_)))
 rintro _ κ w a ⟨p82,cs83,rfl,h2⟩ hF hB
 have hS:=hB _ _ h2
 refine wp 5 [8,10,11] hF fun a hF=>(h80 _ _ (qr fun _ h84=>(bd H fun v86 hv86 H=>wl_join (fun a w => ∃κ:Gh,Fr (72) [] [(4,vb v86)] a∧SS [] κ0 w0 κ w [] [GL]∧True) ?_ ?_)))
 refine bd hv86 fun x87 hx87 hv86=>wc (wo_callP hF hS kr kr (C_law24_awake N hS.fresh ((hS.pick [0] kr).ro) hx87) ?_)
 rintro _ κ w a ⟨rfl,hR,hN⟩ hF hS hO
 refine wp 1 [8,10,11,55] hF fun a hF=>bs hv86 (fun hb hv86=>?_) fun hb hv86=>?_
 have hF:=hF.bv 55 hb
 refine wp 4 [8,11,59] hF fun a hF=>bs hv86 (fun hb hv86=>?_) fun hb hv86=>?_
 have hF:=hF.bv 59 hb
 refine wp 6 [8,11,65] hF fun a hF=>bs hv86 (fun hb hv86=>?_) fun hb hv86=>?_
 have hF:=hF.bv 65 hb
 refine wp 7 [4] hF fun a hF=>nl ?_
 cases hv86
 exact ⟨_,hF.kp [4],hS.sp [] [0],trivial⟩
 have hF:=hF.bv 65 hb
 refine wp 7 [4] hF fun a hF=>nl ?_
 cases hv86
 exact ⟨_,hF.kp [4],hS.sp [] [0],trivial⟩
 have hF:=hF.bv 59 hb
 refine wp 13 [4] hF fun a hF=>nl ?_
 cases hv86
 exact ⟨_,hF.kp [4],hS.sp [] [0],trivial⟩
 have hF:=hF.bv 55 hb
 refine wp 17 [4] hF fun a hF=>nl ?_
 cases hv86
 exact ⟨_,hF.kp [4],hS.sp [] [0],trivial⟩
 rintro a w ⟨κ,hF,hS,-⟩
 refine h84 _ _ (rt ?_)
 cases H
 exact (ret_done hF hS (res1 Tryz.results4 (rvt hF)) ⟨rfl,(hS.pick [] kr).ro,hS.newC [] dc kr⟩)
end Go.Cf
