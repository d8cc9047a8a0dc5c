/- The walks: each function returns what its model says. Printed by a program of ours. -/
import Derived.Test.YtcplebnnanjngaaGreatZM1
import Derived.Test.YtcplebnnanjngaaGreatZWhg1
import Derived.Test.YtcplebnnanjngaaGreatZWhg2
import Derived.Test.YtcplebnnanjngaaGreatZWhg9
import Derived.Test.YtcplebnnanjngaaGreatZWhgw
import Derived.Test.YtcplebnnanjngaaGreatZWhg8
import Derived.Test.YtcplebnnanjngaaGreatZWhr1
import Derived.Test.YtcplebnnanjngaaGreatZWhr3
namespace Go.Cf
open Go Go.Proofs
set_option linter.unusedVariables false
set_option maxRecDepth 20000 in
set_option maxHeartbeats 8000000 in
theorem C_law22_GateHolds (N:Nat){κ0:Gh}{w0:World}(hfr:Fresh κ0 w0)(a1:ByteArray)(a2:ByteArray)(a3:Bool)(a4:Int)(hR : ∀m∈([]:List MP),m.p κ0 w0){r:(Bool)}(H:M.law22_GateHolds N a1 a2 a3 a4=some r) :
    Calls Tryz.prog 4 #[.string (a1),.string (a2),vb a3,vu a4] w0 (Post [] κ0 w0 fun v κ w=>v=vb r∧(∀m∈([]:List MP),m.p κ w)∧NewC w0 κ w []):=by
 have hS:=SS.start hfr hR
 refine enter (N:=(151)) (L:=[(0,.string (a1)),(1,.string (a2)),(2,vb a3),(3,vu a4)]) Tryz.func4 rfl Tryz.ntmps4 (show 4≤(151) by decide) rfl fun a hF=>?_
 unfold M.law22_GateHolds at H
 refine wpIn_seq_k fun K5 hK5=>?_
 refine wpIn_region_lit ?_
 refine wl_pure (L':=[(0,.string (a1)),(1,.string (a2)),(2,vb a3),(3,vu a4)]) 1 (rg 4) hF (by kernel_rfl) fun a hF=>?_
 refine wpListIn_nil ?_
 refine hK5 _ _ ?_
 refine wpIn_seq_k fun K6 hK6=>?_
 refine wpIn_region_lit ?_
 refine wc (wo_val hF (by kernel_rfl) (v := .agg (flat [eb 4 ([true,false,false,false])]).toArray) (val_buildA (rows:=[[sb false],[sb false],[sb false],[sb false]]) (vals:=[(0,[sb true])]) (n:=4) (sz:=1) (s':=[sb true,sb false,sb false,sb false]) rfl (by kernel_rfl) (by kernel_rfl) (by kernel_rfl) (by kernel_rfl) (by kernel_rfl) (sgN 1 sgNil) (by kernel_rfl) (by kernel_rfl) _) fun a hF=>?_)
 refine bind_split H (fun x7 hx7 H=>?_)
 refine wc (wo_callP hF hS (by kernel_rfl) (by kernel_rfl) (C_law22_modes N hS.fresh ((hS.pick [] (by kernel_rfl)).ro) hx7) ?_)
 rintro _ κ w a ⟨p8,c9,rfl,hR,hN⟩ hF hS hO
 have hS:=hS.adds hR
 have hS:=hS.addC hO hN
 have hS:=hS.add (m:=ml ([true,false,false,false]) 4) rfl
 refine bind_split H (fun x10 hx10 H=>?_)
 refine wc (wcS 0 [0] hF hS (fun hS=>C_gate_New N 0 2 [true,false,false,false] x7 p8 c9 (hS.sbK [0,1]) hx10) ?_)
 rintro _ κ w a ⟨p11,cs12,rfl,h2⟩ hF hB
 have hS:=hB _ _ h2
 refine wl_pure (L':=[(0,.string (a1)),(1,.string (a2)),(2,vb a3),(3,vu a4),(9,.pointer (pa p11)),(10,vi x10.2)]) 5 [0,1,2,3,9,10] hF (by kernel_rfl) fun a hF=>?_
 refine wpListIn_nil ?_
 refine hK6 _ _ ?_
 refine wpIn_seq_k fun K13 hK13=>?_
 refine wpIn_seq_k fun K14 hK14=>?_
 refine bind_split H (fun v19 hv19 H=>?_)
 refine code_join (fun a w => ∃(κ:Gh) (p15:Option Nat) (cs16:List Nat),Fr (151) [] [(0,.string (a1)),(1,.string (a2)),(2,vb a3),(3,vu a4),(9,.pointer (pa p15)),(29,vb v19.2)] a∧SS [] κ0 w0 κ w [.ext (optX o_gate_Gate p15 cs16 v19.1)] []∧True) ?_ ?_
 refine opt_split hv19 (fun ho hv19=>?_) (fun x20 ho hv19=>?_)
 obtain ⟨hpq,hS⟩:=hS.optN 0 rfl ho
 rw [hpq] at hS
 try rw [hpq] at hF
 refine wpIn_region_lit ?_
 refine bind_split hv19 (fun v24 hv24 hv19=>?_)
 refine wl_join (fun a w => ∃κ:Gh,Fr (151) [] [(0,.string (a1)),(1,.string (a2)),(2,vb a3),(3,vu a4),(9,.pointer none),(29,vb true)] a∧SS [] κ0 w0 κ w [] []∧True) ?_ ?_
 refine wp 3 [0,1,2,3,9,26] hF fun a hF=>?_
 refine bif_split hv24 (fun hb hv24=>?_) (fun hb hv24=>?_)
 have hF:=hF.boolv 26 (by kernel_rfl) hb
 refine wp 3 [0,1,2,3,9,29] hF fun a hF=>?_
 refine wpListIn_nil ?_
 cases hv24
 exact ⟨_,hF.kp [0,1,2,3,9,29],hS.sp [] [],trivial⟩
 have hF:=hF.boolv 26 (by kernel_rfl) hb
 refine wp 3 [0,1,2,3,9,29] hF fun a hF=>?_
 refine wpListIn_nil ?_
 cases hv24
 exact ⟨_,hF.kp [0,1,2,3,9,29],hS.sp [] [],trivial⟩
 rintro a w ⟨κ,hF,hS,-⟩
 cases hv19
 have hS:=hS.addOpt o_gate_Gate
 exact ⟨_,none,[],hF.kp [0,1,2,3,9,29],hS.sp [0] [],trivial⟩
 obtain ⟨b21,hpq,hS⟩:=hS.optS 0 rfl ho
 rw [hpq] at hS
 try rw [hpq] at hF
 refine wpIn_region_lit ?_
 refine bind_split hv19 (fun v23 hv23 hv19=>?_)
 refine wl_join (fun a w => ∃κ:Gh,Fr (151) [] [(0,.string (a1)),(1,.string (a2)),(2,vb a3),(3,vu a4),(9,pt b21 0),(29,vb v23)] a∧SS [] κ0 w0 κ w [.ext (optX o_gate_Gate (some b21) cs12 (some x20))] []∧True) ?_ ?_
 refine wp 3 [0,1,2,3,9,26] hF fun a hF=>?_
 refine bif_split hv23 (fun hb hv23=>?_) (fun hb hv23=>?_)
 have hF:=hF.boolv 26 (by kernel_rfl) hb
 refine wp 3 [0,1,2,3,9,29] hF fun a hF=>?_
 refine wpListIn_nil ?_
 cases hv23
 exact ⟨_,hF.kp [0,1,2,3,9,29],hS.sp [0] [],trivial⟩
 have hF:=hF.boolv 26 (by kernel_rfl) hb
 refine wp 3 [0,1,2,3,9,29] hF fun a hF=>?_
 refine wpListIn_nil ?_
 cases hv23
 exact ⟨_,hF.kp [0,1,2,3,9,29],hS.sp [0] [],trivial⟩
 rintro a w ⟨κ,hF,hS,-⟩
 cases hv19
 exact ⟨_,(some b21),cs12,hF.kp [0,1,2,3,9,29],hS.sp [0] [],trivial⟩
 rintro a w ⟨κ,p15,cs16,hF,hS,-⟩
 refine hK14 _ _ ?_
 refine bif_split H (fun hb H=>?_) (fun hb H=>?_)
 refine cond_t hF (by kernel_rfl) hb ?_
 refine wpIn_seq_k fun K25 hK25=>?_
 refine wpIn_region_lit ?_
 refine wp 1 [8] hF fun a hF=>?_
 refine wpListIn_nil ?_
 refine hK25 _ _ ?_
 refine wpIn_ret ?_
 cases H
 exact (ret_done hF hS (res1 Tryz.results4 (rvt hF)) ⟨rfl,(hS.pick [] (by kernel_rfl)).ro,hS.newC [] (by decide) (by kernel_rfl)⟩)
 refine cond_f hF (by kernel_rfl) hb ?_
 refine wpIn_skip ?_
 refine hK13 _ _ ?_
 refine wpIn_seq_k fun K26 hK26=>?_
 refine wpIn_seq_k fun K27 hK27=>?_
 refine wpIn_region_lit ?_
 refine bind_split H (fun v29 hv29 H=>?_)
 refine wl_join (fun a w => ∃κ:Gh,Fr (151) [] [(0,.string (a1)),(1,.string (a2)),(2,vb a3),(3,vu a4),(9,.pointer (pa p15)),(45,vb v29)] a∧SS [] κ0 w0 κ w [.ext (optX o_gate_Gate p15 cs16 v19.1)] []∧True) ?_ ?_
 refine wp 4 [0,1,2,3,9,33] hF fun a hF=>?_
 refine bif_split hv29 (fun hb hv29=>?_) (fun hb hv29=>?_)
 have hF:=hF.boolv 33 (by kernel_rfl) hb
 refine wp 12 [0,1,2,3,9,45] hF fun a hF=>?_
 refine wpListIn_nil ?_
 cases hv29
 exact ⟨_,hF.kp [0,1,2,3,9,45],hS.sp [0] [],trivial⟩
 have hF:=hF.boolv 33 (by kernel_rfl) hb
 refine wp 4 [0,1,2,3,9,37] hF fun a hF=>?_
 refine bif_split hv29 (fun hb hv29=>?_) (fun hb hv29=>?_)
 have hF:=hF.boolv 37 (by kernel_rfl) hb
 refine wp 8 [0,1,2,3,9,45] hF fun a hF=>?_
 refine wpListIn_nil ?_
 cases hv29
 exact ⟨_,hF.kp [0,1,2,3,9,45],hS.sp [0] [],trivial⟩
 have hF:=hF.boolv 37 (by kernel_rfl) hb
 refine wp 5 [0,1,2,3,9,42] hF fun a hF=>?_
 refine bif_split hv29 (fun hb hv29=>?_) (fun hb hv29=>?_)
 have hF:=hF.boolv 42 (by kernel_rfl) hb
 refine wp 3 [0,1,2,3,9,45] hF fun a hF=>?_
 refine wpListIn_nil ?_
 cases hv29
 exact ⟨_,hF.kp [0,1,2,3,9,45],hS.sp [0] [],trivial⟩
 have hF:=hF.boolv 42 (by kernel_rfl) hb
 refine wp 3 [0,1,2,3,9,45] hF fun a hF=>?_
 refine wpListIn_nil ?_
 cases hv29
 exact ⟨_,hF.kp [0,1,2,3,9,45],hS.sp [0] [],trivial⟩
 rintro a w ⟨κ,hF,hS,-⟩
 refine hK27 _ _ ?_
 refine bif_split H (fun hb H=>?_) (fun hb H=>?_)
 refine cond_t hF (by kernel_rfl) hb ?_
 refine wpIn_seq_k fun K30 hK30=>?_
 refine wpIn_region_lit ?_
 refine bind_split H (fun x31 hx31 H=>?_)
 refine wc (wo_callP hF hS (by kernel_rfl) (by kernel_rfl) (C_law22_awake N hS.fresh ((hS.pick [] (by kernel_rfl)).ro) hx31) ?_)
 rintro _ κ w a ⟨rfl,hR,hN⟩ hF hS hO
 refine wp 1 [8] hF fun a hF=>?_
 refine wpListIn_nil ?_
 refine hK30 _ _ ?_
 refine wpIn_ret ?_
 cases H
 exact (ret_done hF hS (res1 Tryz.results4 (rvt hF)) ⟨rfl,(hS.pick [] (by kernel_rfl)).ro,hS.newC [] (by decide) (by kernel_rfl)⟩)
 refine cond_f hF (by kernel_rfl) hb ?_
 refine wpIn_skip ?_
 refine hK26 _ _ ?_
 refine wpIn_seq_k fun K32 hK32=>?_
 refine wpIn_region_lit ?_
 refine bind_split H (fun x33 hx33 H=>?_)
 refine wc (wo_makeO (E:=32) (i:=Tryz.t32) (z:=vu 0) (zm:=0) (kl := .i64) (kc := .i64) hF hS (by kernel_rfl) (fInt .u64) rfl (by kernel_rfl) (by kernel_rfl) hx33 (by kernel_rfl) (by kernel_rfl) (by kernel_rfl) (by kernel_rfl) (Nat.le_of_ble_eq_true (by kernel_rfl)) (by kernel_rfl) fun p34 a w hF hS=>?_)
 refine wp 1 [0,1,2,3,9,11] hF fun a hF=>?_
 refine wpListIn_nil ?_
 refine hK32 _ _ ?_
 refine wpIn_seq_k fun K35 hK35=>?_
 refine wpIn_seq_k fun K36 hK36=>?_
 refine wpIn_region_lit ?_
 refine wp 3 [0,1,2,3,9,11,49,50] hF fun a hF=>?_
 refine wpListIn_nil ?_
 refine hK36 _ _ ?_
 refine wpIn_block ?_
 refine loop_fuel (n:=N) (fun n a w => ∃(κ:Gh) (y87:List Int) (y88:Int),Fr (151) [] [(0,.string (a1)),(1,.string (a2)),(2,vb a3),(3,vu a4),(9,.pointer (pa p15)),(11,.slice p34 (y87).length (x33).length),(49,vi ((x33).length:Int)),(50,vi y88)] a∧SS [] κ0 w0 κ w [.ext (optX o_gate_Gate p15 cs16 v19.1),.ext (ownX (fInt .u64) 32 p34 ((x33).length) y87)] []∧M.law22_GateHolds_L1 N n a1 a2 a3 a4 v19 x33 y87 y88=some r) ?_ ?_
 exact ⟨_,x33,0,hF.kp [0,1,2,3,9,11,49,50],hS.sp [1,0] [],H⟩
 rintro n a w ⟨κ,y87,y88,hF,hS,H⟩
 rcases n with _|fuel1
 simp [M.law22_GateHolds_L1] at H
 simp only [M.law22_GateHolds_L1] at H
 refine wpIn_seq_k fun K89 hK89=>?_
 refine wpIn_region_lit ?_
 refine wp 1 [0,1,2,3,9,11,49,50,51] hF fun a hF=>?_
 refine wpListIn_nil ?_
 refine hK89 _ _ ?_
 refine wpIn_seq_k fun K90 hK90=>?_
 refine bif_split H (fun hb H=>?_) (fun hb H=>?_)
 refine cond_t hF (by kernel_rfl) hb ?_
 refine wpIn_skip ?_
 refine hK90 _ _ ?_
 refine wpIn_seq_k fun K91 hK91=>?_
 refine wpIn_block ?_
 refine wpIn_seq_k fun K92 hK92=>?_
 refine wpIn_region_lit ?_
 refine wp 2 [0,1,2,3,9,11,12,49,50] hF fun a hF=>?_
 refine wpListIn_nil ?_
 refine hK92 _ _ ?_
 refine wpIn_region_lit ?_
 refine wl_pure (L':=[(0,.string (a1)),(1,.string (a2)),(2,vb a3),(3,vu a4),(9,.pointer (pa p15)),(11,.slice p34 (y87).length (x33).length),(49,vi ((x33).length:Int)),(50,vi y88),(53,.slice p34 (y87).length (x33).length),(54,vi y88)]) 2 [0,1,2,3,9,11,49,50,53,54] hF (by kernel_rfl) fun a hF=>?_
 refine bind_split H (fun x93 hx93 H=>?_)
 refine wc (wo_indexO hF hS (by kernel_rfl) 1 (sz:=1) rfl rfl rfl rfl rfl hx93 (by kernel_rfl) (by kernel_rfl) fun b94 f95 a hpx93 hF=>?_)
 refine wc (wo_storeOL hF hS (by kernel_rfl) 1 (z:=2) rfl rfl rfl rfl hpx93 hx93 rfl (by kernel_rfl) rfl (by kernel_rfl) (Cf:=(fun nn=>[.ext (optX o_gate_Gate p15 cs16 v19.1),.ext (ownX (fInt .u64) 32 p34 ((x33).length) (List.set y87 (Int.toNat y88) 2))])) (Lf:=(fun nn=>[(0,.string (a1)),(1,.string (a2)),(2,vb a3),(3,vu a4),(9,.pointer (pa p15)),(11,.slice p34 nn (x33).length),(49,vi ((x33).length:Int)),(50,vi y88),(53,.slice p34 nn (x33).length),(54,vi y88)])) [0,1,2,3,9,11,49,50,53,54] (by kernel_rfl) (by kernel_rfl) fun a w hF hS=>?_)
 refine wpListIn_nil ?_
 refine hK91 _ _ ?_
 refine wpIn_region_lit ?_
 refine wp 2 [0,1,2,3,9,11,49,50] hF fun a hF=>?_
 refine wpListIn_nil ?_
 exact ⟨fuel1,Nat.lt_succ_self _,_,(List.set y87 (Int.toNat y88) 2),IntKind.i64.wrap (y88+1),hF.kp [0,1,2,3,9,11,49,50],hS.sp [0,1] [],H⟩
 refine cond_f hF (by kernel_rfl) hb ?_
 refine wpIn_exit ?_
 refine hK35 _ _ ?_
 refine wpIn_seq_k fun K96 hK96=>?_
 refine wpIn_region_lit ?_
 refine wl_pure (L':=[(0,.string (a1)),(1,.string (a2)),(2,vb a3),(3,vu a4),(9,.pointer (pa p15)),(11,.slice p34 (y87).length (x33).length),(57,.slice p34 (y87).length (x33).length)]) 1 [0,1,2,3,9,11,57] hF (by kernel_rfl) fun a hF=>?_
 refine bind_split H (fun x97 hx97 H=>?_)
 refine wc (wo_indexO hF hS (by kernel_rfl) 1 (sz:=1) rfl rfl rfl rfl rfl hx97 (by kernel_rfl) (by kernel_rfl) fun b98 f99 a hpx97 hF=>?_)
 refine wc (wo_storeOL hF hS (by kernel_rfl) 1 (z:=1) rfl rfl rfl rfl hpx97 hx97 rfl (by kernel_rfl) rfl (by kernel_rfl) (Cf:=(fun nn=>[.ext (optX o_gate_Gate p15 cs16 v19.1),.ext (ownX (fInt .u64) 32 p34 ((x33).length) (List.set y87 (Int.toNat 0) 1))])) (Lf:=(fun nn=>[(0,.string (a1)),(1,.string (a2)),(2,vb a3),(3,vu a4),(9,.pointer (pa p15)),(11,.slice p34 nn (x33).length),(57,.slice p34 nn (x33).length)])) [0,1,2,3,9,11,57] (by kernel_rfl) (by kernel_rfl) fun a w hF hS=>?_)
 refine wpListIn_nil ?_
 refine hK96 _ _ ?_
 refine wpIn_seq_k fun K100 hK100=>?_
 refine bind_split H (fun v104 hv104 H=>?_)
 refine code_join (fun a w => ∃(κ:Gh) (p101:Option Nat) (cs102:List Nat),Fr (151) [] [(0,.string (a1)),(1,.string (a2)),(2,vb a3),(3,vu a4),(9,.pointer (pa p101)),(11,.slice p34 ((List.set y87 (Int.toNat 0) 1)).length (x33).length)] a∧SS [] κ0 w0 κ w [.tok p34 32 1 ((List.set y87 (Int.toNat 0) 1)).length (x33).length,.ext (optX o_gate_Gate p101 cs102 v104)] [Ro.mp (fInt .u64).ty p34 ((x33).length) (List.set y87 (Int.toNat 0) 1)]∧True) ?_ ?_
 refine opt_split hv104 (fun ho hv104=>?_) (fun x105 ho hv104=>?_)
 obtain ⟨hpq,hS⟩:=hS.optN 0 rfl ho
 rw [hpq] at hS
 try rw [hpq] at hF
 refine wpIn_region_lit ?_
 refine wl_pure (L':=[(0,.string (a1)),(1,.string (a2)),(2,vb a3),(3,vu a4),(9,.pointer none),(11,.slice p34 ((List.set y87 (Int.toNat 0) 1)).length (x33).length),(59,.pointer none),(60,.slice p34 ((List.set y87 (Int.toNat 0) 1)).length (x33).length),(62,.agg (flat [si 3,si 0,si 0,si 0,si 0,sg a1]).toArray)]) 4 [0,1,2,3,9,11,59,60,62] hF (by kernel_rfl) fun a hF=>?_
 refine wc (wo_val hF (by kernel_rfl) (v := .agg (flat [si 21,su 1,su 1,su 0,sg ByteArray.empty,sg ByteArray.empty,sl none 0 0,sl p34 ((List.set y87 (Int.toNat 0) 1)).length (x33).length,si 3,si 0,si 0,si 0,si 0,sg a1]).toArray) (val_build (rows:=[[si 0],[su 0],[su 0],[su 0],[sg ByteArray.empty],[sg ByteArray.empty],[sl none 0 0],[sl none 0 0],[si 0,si 0,si 0,si 0,si 0,sg ByteArray.empty]]) (vals:=[(0,[si 21]),(1,[su 1]),(2,[su 1]),(7,[sl p34 ((List.set y87 (Int.toNat 0) 1)).length (x33).length]),(8,[si 3,si 0,si 0,si 0,si 0,sg a1])]) (sizes:=[1,1,1,1,1,1,1,1,6]) (s':=[si 21,su 1,su 1,su 0,sg ByteArray.empty,sg ByteArray.empty,sl none 0 0,sl p34 ((List.set y87 (Int.toNat 0) 1)).length (x33).length,si 3,si 0,si 0,si 0,si 0,sg a1]) rfl (by kernel_rfl) (by kernel_rfl) (by kernel_rfl) (by kernel_rfl) (by kernel_rfl) (sgN 10 sgNil) (by kernel_rfl) (by kernel_rfl) _) fun a hF=>?_)
 obtain ⟨κ,hS⟩:=hS.pubO 1 rfl
 have hS:=hS.add (m:=Ro.mp f_api_Ver.ty none 0 ([]:List T_api_Ver)) (Ro.nil f_api_Ver.ty _ _)
 refine bind_split hv104 (fun x179 hx179 hv104=>?_)
 refine wc (wcS 0 [0,1] hF hS (fun hS=>C_gate_Gate_Take_nil0 N 0 (T_api_Msg.mk 21 1 1 0 ByteArray.empty ByteArray.empty ([]:List T_api_Ver) (List.set y87 (Int.toNat 0) 1) (T_api_Cmd.mk 3 0 0 0 0 a1)) none 0 p34 ((x33).length) (hS.sbK [0,1]) hx179) ?_)
 rintro _ κ w a ⟨rfl,h2⟩ hF hB
 have hS:=hB _ _ h2
 refine wpListIn_nil ?_
 cases hv104
 exact ⟨_,none,[],hF.kp [0,1,2,3,9,11],hS.sp [1,0] [1],trivial⟩
 obtain ⟨b106,hpq,hS⟩:=hS.optS 0 rfl ho
 rw [hpq] at hS
 try rw [hpq] at hF
 obtain ⟨⟨p107,c108,p109,c110,p111,c112,p113,c114,p115,c116,p117,cs118,p119,cs120,p121,cs122,p123,cs124,p125,m126,c127,p128,m129,c130,p131,c132,p133,m134,c135,p136,cs137,p138,c139,p140,c141,p142,c143,p144,c145⟩,hS⟩:=hS.unfI (ck:=c_gate_Gate) (fs:=q_gate_Gate) 0 rfl
 refine wpIn_region_lit ?_
 refine wl_pure (L':=[(0,.string (a1)),(1,.string (a2)),(2,vb a3),(3,vu a4),(9,pt b106 0),(11,.slice p34 ((List.set y87 (Int.toNat 0) 1)).length (x33).length),(59,pt b106 0),(60,.slice p34 ((List.set y87 (Int.toNat 0) 1)).length (x33).length),(62,.agg (flat [si 3,si 0,si 0,si 0,si 0,sg a1]).toArray)]) 4 [0,1,2,3,9,11,59,60,62] hF (by kernel_rfl) fun a hF=>?_
 refine wc (wo_val hF (by kernel_rfl) (v := .agg (flat [si 21,su 1,su 1,su 0,sg ByteArray.empty,sg ByteArray.empty,sl none 0 0,sl p34 ((List.set y87 (Int.toNat 0) 1)).length (x33).length,si 3,si 0,si 0,si 0,si 0,sg a1]).toArray) (val_build (rows:=[[si 0],[su 0],[su 0],[su 0],[sg ByteArray.empty],[sg ByteArray.empty],[sl none 0 0],[sl none 0 0],[si 0,si 0,si 0,si 0,si 0,sg ByteArray.empty]]) (vals:=[(0,[si 21]),(1,[su 1]),(2,[su 1]),(7,[sl p34 ((List.set y87 (Int.toNat 0) 1)).length (x33).length]),(8,[si 3,si 0,si 0,si 0,si 0,sg a1])]) (sizes:=[1,1,1,1,1,1,1,1,6]) (s':=[si 21,su 1,su 1,su 0,sg ByteArray.empty,sg ByteArray.empty,sl none 0 0,sl p34 ((List.set y87 (Int.toNat 0) 1)).length (x33).length,si 3,si 0,si 0,si 0,si 0,sg a1]) rfl (by kernel_rfl) (by kernel_rfl) (by kernel_rfl) (by kernel_rfl) (by kernel_rfl) (sgN 10 sgNil) (by kernel_rfl) (by kernel_rfl) _) fun a hF=>?_)
 obtain ⟨κ,hS⟩:=hS.pubO 17 rfl
 have hS:=hS.add (m:=Ro.mp f_api_Ver.ty none 0 ([]:List T_api_Ver)) (Ro.nil f_api_Ver.ty _ _)
 refine bind_split hv104 (fun x146 hx146 hv104=>?_)
 refine wc (wcS 15 [0,1,4,5,6,7,8,9,10,11,12,13,14,15,16,2,3,17] hF hS (fun hS=>C_gate_Gate_Take N x105.dc x105.nodes x105.role x105.epoch x105.base x105.txs (T_api_Map.mk x105.m.Cuts x105.m.Nodes) x105.modes x105.agreed x105.old x105.owing x105.st x105.log x105.co x105.hi x105.boxes x105.cursor x105.heard x105.calls x105.reads x105.held x105.loads x105.last x105.mv x105.seedTo x105.seeds x105.cut x105.end_ x105.floor x105.floored x105.seeded x105.said x105.out x105.replies 0 (T_api_Msg.mk 21 1 1 0 ByteArray.empty ByteArray.empty ([]:List T_api_Ver) (List.set y87 (Int.toNat 0) 1) (T_api_Cmd.mk 3 0 0 0 0 a1)) p107 c108 p109 c110 p111 c112 p113 c114 p115 c116 p117 cs118 p119 cs120 p121 cs122 p123 cs124 p125 m126 c127 p128 m129 c130 p131 c132 p133 m134 c135 p136 cs137 p138 c139 p140 c141 p142 c143 p144 c145 none 0 p34 ((x33).length) b106 (hS.sbK [2,3,4,5,6,7,8,9,10,11,12,13,14,0,1]) hx146) ?_)
 rintro _ κ w a ⟨p147,c148,p149,c150,p151,c152,p153,c154,p155,c156,p157,cs158,p159,cs160,p161,cs162,p163,m164,c165,p166,m167,c168,p169,c170,p171,cs172,p173,c174,p175,c176,cs177,rfl,h2⟩ hF hB
 have hS:=hB _ _ h2
 refine wpListIn_nil ?_
 obtain ⟨cs178,hS⟩:=hS.foldI (ck:=c_gate_Gate) (fs:=q_gate_Gate) b106 (p147,c148,p149,c150,p151,c152,p153,c154,p155,c156,p157,cs158,p159,cs160,p161,cs162,p123,cs177,p163,m164,c165,p166,m167,c168,p169,c170,p133,m134,c135,p171,cs172,p138,c139,p140,c141,p173,c174,p175,c176) (T_gate_Gate.mk x105.dc x105.nodes x105.role x146.1 x105.base x146.2.1 (T_api_Map.mk x146.2.2.1.Cuts x146.2.2.1.Nodes) x146.2.2.2.1 x146.2.2.2.2.1 x146.2.2.2.2.2.1 x146.2.2.2.2.2.2.1 x146.2.2.2.2.2.2.2.1 x146.2.2.2.2.2.2.2.2.1 x146.2.2.2.2.2.2.2.2.2.1 x146.2.2.2.2.2.2.2.2.2.2.1 x105.boxes x105.cursor x105.heard x146.2.2.2.2.2.2.2.2.2.2.2.1 x146.2.2.2.2.2.2.2.2.2.2.2.2.1 x146.2.2.2.2.2.2.2.2.2.2.2.2.2.1 x105.loads x146.2.2.2.2.2.2.2.2.2.2.2.2.2.2.1 x146.2.2.2.2.2.2.2.2.2.2.2.2.2.2.2.1 x105.seedTo x105.seeds x105.cut x105.end_ x105.floor x105.floored x105.seeded x105.said x146.2.2.2.2.2.2.2.2.2.2.2.2.2.2.2.2.1 x146.2.2.2.2.2.2.2.2.2.2.2.2.2.2.2.2.2) [0,1,15,16,2,3,4,5,6,7,8,9,10,11,12,13,14] [17] [0,1,11,12,13,2,3,4,17,18,19,5,6] (by decide) (by kernel_rfl) (by kernel_rfl)
 cases hv104
 exact ⟨_,(some b106),cs178,hF.kp [0,1,2,3,9,11],hS.sp [1,0] [8],trivial⟩
 rintro a w ⟨κ,p101,cs102,hF,hS,-⟩
 refine hK100 _ _ ?_
 refine wpIn_seq_k fun K180 hK180=>?_
 refine bind_split H (fun v184 hv184 H=>?_)
 refine code_join (fun a w => ∃(κ:Gh) (p181:Option Nat) (cs182:List Nat),Fr (151) [] [(0,.string (a1)),(1,.string (a2)),(2,vb a3),(3,vu a4),(9,.pointer (pa p181))] a∧SS [] κ0 w0 κ w [.ext (optX o_gate_Gate p181 cs182 v184)] []∧True) ?_ ?_
 refine opt_split hv184 (fun ho hv184=>?_) (fun x185 ho hv184=>?_)
 obtain ⟨hpq,hS⟩:=hS.optN 1 rfl ho
 rw [hpq] at hS
 try rw [hpq] at hF
 refine wpIn_region_lit ?_
 refine wp 4 [0,1,2,3,9,65,68] hF fun a hF=>?_
 have hS:=hS.add (m:=Ro.mp f_api_Ver.ty none 0 ([]:List T_api_Ver)) (Ro.nil f_api_Ver.ty _ _)
 refine bind_split hv184 (fun x259 hx259 hv184=>?_)
 refine wc (wcS 0 [0,1] hF hS (fun hS=>C_gate_Gate_Take_nil0 N 0 (T_api_Msg.mk 21 2 1 0 ByteArray.empty ByteArray.empty ([]:List T_api_Ver) (List.set y87 (Int.toNat 0) 1) (T_api_Cmd.mk 5 0 1 1 0 ByteArray.empty)) none 0 p34 ((x33).length) (hS.sbK [0,1]) hx259) ?_)
 rintro _ κ w a ⟨rfl,h2⟩ hF hB
 have hS:=hB _ _ h2
 refine wpListIn_nil ?_
 cases hv184
 exact ⟨_,none,[],hF.kp [0,1,2,3,9],hS.sp [1] [],trivial⟩
 obtain ⟨b186,hpq,hS⟩:=hS.optS 1 rfl ho
 rw [hpq] at hS
 try rw [hpq] at hF
 obtain ⟨⟨p187,c188,p189,c190,p191,c192,p193,c194,p195,c196,p197,cs198,p199,cs200,p201,cs202,p203,cs204,p205,m206,c207,p208,m209,c210,p211,c212,p213,m214,c215,p216,cs217,p218,c219,p220,c221,p222,c223,p224,c225⟩,hS⟩:=hS.unfI (ck:=c_gate_Gate) (fs:=q_gate_Gate) 1 rfl
 refine wpIn_region_lit ?_
 refine wp 4 [0,1,2,3,9,65,68] hF fun a hF=>?_
 have hS:=hS.add (m:=Ro.mp f_api_Ver.ty none 0 ([]:List T_api_Ver)) (Ro.nil f_api_Ver.ty _ _)
 refine bind_split hv184 (fun x226 hx226 hv184=>?_)
 refine wc (wcS 15 [0,1,4,5,6,7,8,9,10,11,12,13,14,15,16,2,3,17] hF hS (fun hS=>C_gate_Gate_Take N x185.dc x185.nodes x185.role x185.epoch x185.base x185.txs (T_api_Map.mk x185.m.Cuts x185.m.Nodes) x185.modes x185.agreed x185.old x185.owing x185.st x185.log x185.co x185.hi x185.boxes x185.cursor x185.heard x185.calls x185.reads x185.held x185.loads x185.last x185.mv x185.seedTo x185.seeds x185.cut x185.end_ x185.floor x185.floored x185.seeded x185.said x185.out x185.replies 0 (T_api_Msg.mk 21 2 1 0 ByteArray.empty ByteArray.empty ([]:List T_api_Ver) (List.set y87 (Int.toNat 0) 1) (T_api_Cmd.mk 5 0 1 1 0 ByteArray.empty)) p187 c188 p189 c190 p191 c192 p193 c194 p195 c196 p197 cs198 p199 cs200 p201 cs202 p203 cs204 p205 m206 c207 p208 m209 c210 p211 c212 p213 m214 c215 p216 cs217 p218 c219 p220 c221 p222 c223 p224 c225 none 0 p34 ((x33).length) b186 (hS.sbK [1,2,3,4,5,6,7,8,9,10,11,12,13,0,14]) hx226) ?_)
 rintro _ κ w a ⟨p227,c228,p229,c230,p231,c232,p233,c234,p235,c236,p237,cs238,p239,cs240,p241,cs242,p243,m244,c245,p246,m247,c248,p249,c250,p251,cs252,p253,c254,p255,c256,cs257,rfl,h2⟩ hF hB
 have hS:=hB _ _ h2
 refine wpListIn_nil ?_
 obtain ⟨cs258,hS⟩:=hS.foldI (ck:=c_gate_Gate) (fs:=q_gate_Gate) b186 (p227,c228,p229,c230,p231,c232,p233,c234,p235,c236,p237,cs238,p239,cs240,p241,cs242,p203,cs257,p243,m244,c245,p246,m247,c248,p249,c250,p213,m214,c215,p251,cs252,p218,c219,p220,c221,p253,c254,p255,c256) (T_gate_Gate.mk x185.dc x185.nodes x185.role x226.1 x185.base x226.2.1 (T_api_Map.mk x226.2.2.1.Cuts x226.2.2.1.Nodes) x226.2.2.2.1 x226.2.2.2.2.1 x226.2.2.2.2.2.1 x226.2.2.2.2.2.2.1 x226.2.2.2.2.2.2.2.1 x226.2.2.2.2.2.2.2.2.1 x226.2.2.2.2.2.2.2.2.2.1 x226.2.2.2.2.2.2.2.2.2.2.1 x185.boxes x185.cursor x185.heard x226.2.2.2.2.2.2.2.2.2.2.2.1 x226.2.2.2.2.2.2.2.2.2.2.2.2.1 x226.2.2.2.2.2.2.2.2.2.2.2.2.2.1 x185.loads x226.2.2.2.2.2.2.2.2.2.2.2.2.2.2.1 x226.2.2.2.2.2.2.2.2.2.2.2.2.2.2.2.1 x185.seedTo x185.seeds x185.cut x185.end_ x185.floor x185.floored x185.seeded x185.said x226.2.2.2.2.2.2.2.2.2.2.2.2.2.2.2.2.1 x226.2.2.2.2.2.2.2.2.2.2.2.2.2.2.2.2.2) [0,1,15,16,2,3,4,5,6,7,8,9,10,11,12,13,14] [17] [0,1,10,11,12,2,3,4,16,17,18,5,6] (by decide) (by kernel_rfl) (by kernel_rfl)
 cases hv184
 exact ⟨_,(some b186),cs258,hF.kp [0,1,2,3,9],hS.sp [0] [],trivial⟩
 rintro a w ⟨κ,p181,cs182,hF,hS,-⟩
 refine hK180 _ _ ?_
 refine wpIn_seq_k fun K260 hK260=>?_
 refine bind_split H (fun v264 hv264 H=>?_)
 refine code_join (fun a w => ∃(κ:Gh) (p261:Option Nat) (cs262:List Nat),Fr (151) [] [(0,.string (a1)),(1,.string (a2)),(2,vb a3),(3,vu a4),(9,.pointer (pa p261))] a∧SS [] κ0 w0 κ w [.ext (optX o_gate_Gate p261 cs262 v264)] []∧True) ?_ ?_
 refine opt_split hv264 (fun ho hv264=>?_) (fun x265 ho hv264=>?_)
 obtain ⟨hpq,hS⟩:=hS.optN 0 rfl ho
 rw [hpq] at hS
 try rw [hpq] at hF
 refine wpIn_region_lit ?_
 refine wp 1 [0,1,2,3,9,70] hF fun a hF=>?_
 refine bind_split hv264 (fun x312 hx312 hv264=>?_)
 refine wc (wcS 0 [0] hF hS (fun hS=>C_gate_Gate_Sent_nil0 N (hS.sbK []) hx312) ?_)
 rintro _ κ w a ⟨p313,c314,rfl,h2⟩ hF hB
 have hS:=hB _ _ h2
 refine wpListIn_nil ?_
 cases hv264
 exact ⟨_,none,[],hF.kp [0,1,2,3,9],hS.sp [1] [],trivial⟩
 obtain ⟨b266,hpq,hS⟩:=hS.optS 0 rfl ho
 rw [hpq] at hS
 try rw [hpq] at hF
 obtain ⟨⟨p267,c268,p269,c270,p271,c272,p273,c274,p275,c276,p277,cs278,p279,cs280,p281,cs282,p283,cs284,p285,m286,c287,p288,m289,c290,p291,c292,p293,m294,c295,p296,cs297,p298,c299,p300,c301,p302,c303,p304,c305⟩,hS⟩:=hS.unfI (ck:=c_gate_Gate) (fs:=q_gate_Gate) 0 rfl
 refine wpIn_region_lit ?_
 refine wp 1 [0,1,2,3,9,70] hF fun a hF=>?_
 refine bind_split hv264 (fun x306 hx306 hv264=>?_)
 have hgx3060:=hS.segs 0 rfl
 refine wc (wcS 2 [0,4,1,2,3,5,6,7,8,9,10,11,12,13,14,15,16] hF hS (fun hS=>C_gate_Gate_Sent N x265.out (flat [si x265.dc,si x265.nodes,si x265.role,si x265.epoch,si x265.base,si x265.txs,sl p267 (x265.m.Cuts).length c268,sl p269 (x265.m.Nodes).length c270,sl p271 (x265.modes).length c272,sl p273 (x265.agreed).length c274,sl p275 (x265.old).length c276,sb x265.owing,(1,[.pointer (pa p277)]),(1,[.pointer (pa p279)]),(1,[.pointer (pa p281)]),su x265.hi,(4,(encs fPtr p283)),ei 4 x265.cursor,ei 4 x265.heard,(1,[.map p285]),(1,[.map p288]),sl p291 (x265.held).length c292,(1,[.map p293]),su x265.last,(1,[.pointer (pa p296)]),si x265.seedTo,si x265.seeds,sl p298 (x265.cut).length c299,sl p300 (x265.end_).length c301,su x265.floor,sb x265.floored,sb x265.seeded,sb x265.said]) p302 c303 [.slice p304 (x265.replies).length c305] b266 ((hS.regr 0 [(true,33),(false,2)] rfl).sbK [11]) hx306) ?_)
 rintro _ κ w a ⟨p307,c308,p309,c310,rfl,h2⟩ hF hB
 have hS:=(hB _ _ h2).unregrK 0 [(true,33),(false,2)] (s':=[si x265.dc,si x265.nodes,si x265.role,si x265.epoch,si x265.base,si x265.txs,sl p267 (x265.m.Cuts).length c268,sl p269 (x265.m.Nodes).length c270,sl p271 (x265.modes).length c272,sl p273 (x265.agreed).length c274,sl p275 (x265.old).length c276,sb x265.owing,(1,[.pointer (pa p277)]),(1,[.pointer (pa p279)]),(1,[.pointer (pa p281)]),su x265.hi,(4,(encs fPtr p283)),ei 4 x265.cursor,ei 4 x265.heard,(1,[.map p285]),(1,[.map p288]),sl p291 (x265.held).length c292,(1,[.map p293]),su x265.last,(1,[.pointer (pa p296)]),si x265.seedTo,si x265.seeds,sl p298 (x265.cut).length c299,sl p300 (x265.end_).length c301,su x265.floor,sb x265.floored,sb x265.seeded,sb x265.said,sl p309 (x306.2).length c310,sl p304 (x265.replies).length c305]) hgx3060 rfl
 refine wpListIn_nil ?_
 obtain ⟨cs311,hS⟩:=hS.foldI (ck:=c_gate_Gate) (fs:=q_gate_Gate) b266 (p267,c268,p269,c270,p271,c272,p273,c274,p275,c276,p277,cs278,p279,cs280,p281,cs282,p283,cs284,p285,m286,c287,p288,m289,c290,p291,c292,p293,m294,c295,p296,cs297,p298,c299,p300,c301,p309,c310,p304,c305) (T_gate_Gate.mk x265.dc x265.nodes x265.role x265.epoch x265.base x265.txs (T_api_Map.mk x265.m.Cuts x265.m.Nodes) x265.modes x265.agreed x265.old x265.owing x265.st x265.log x265.co x265.hi x265.boxes x265.cursor x265.heard x265.calls x265.reads x265.held x265.loads x265.last x265.mv x265.seedTo x265.seeds x265.cut x265.end_ x265.floor x265.floored x265.seeded x265.said x306.2 x265.replies) [0,3,4,5,1,6,7,8,9,10,11,12,13,14,15,16,17] [2] [2,3,4,5,6,7,8,9,10,11,12,1,14] (by decide) (by kernel_rfl) (by kernel_rfl)
 cases hv264
 exact ⟨_,(some b266),cs311,hF.kp [0,1,2,3,9],hS.sp [0] [],trivial⟩
 rintro a w ⟨κ,p261,cs262,hF,hS,-⟩
 refine hK260 _ _ ?_
 refine seq_join (fun a w => ∃(κ:Gh) (p315:Option Nat) (cs316:List Nat) (y317:Option T_gate_Gate) (y318:Int),Fr (151) [] [(0,.string (a1)),(1,.string (a2)),(9,.pointer (pa p315)),(10,vi y318)] a∧SS [] κ0 w0 κ w [.ext (optX o_gate_Gate p315 cs316 y317)] []∧M.law22_GateHolds_k2 N a1 a2 y317 y318=some r) ?_ ?_
 refine wpIn_seq_k fun K743 hK743=>?_
 refine wpIn_region_lit ?_
 refine wl_pure (L':=[(0,.string (a1)),(1,.string (a2)),(3,vu a4),(9,.pointer (pa p261)),(72,vb a3)]) 1 [0,1,3,9,72] hF (by kernel_rfl) fun a hF=>?_
 refine wpListIn_nil ?_
 refine hK743 _ _ ?_
 refine bif_split H (fun hb H=>?_) (fun hb H=>?_)
 refine cond_t hF (by kernel_rfl) hb ?_
 refine bind_split H (fun v748 hv748 H=>?_)
 refine code_join (fun a w => ∃(κ:Gh) (p744:Option Nat) (cs745:List Nat),Fr (151) [] [(0,.string (a1)),(1,.string (a2)),(9,.pointer (pa p744)),(10,vi v748.2)] a∧SS [] κ0 w0 κ w [.ext (optX o_gate_Gate p744 cs745 v748.1)] []∧True) ?_ ?_
 refine opt_split hv748 (fun ho hv748=>?_) (fun x749 ho hv748=>?_)
 obtain ⟨hpq,hS⟩:=hS.optN 0 rfl ho
 rw [hpq] at hS
 try rw [hpq] at hF
 refine wpIn_region_lit ?_
 refine wl_pure (L':=[(0,.string (a1)),(1,.string (a2)),(9,.pointer none),(73,.pointer none),(74,vu a4),(76,.agg (flat [sg a2,sg (ByteArray.mk #[120]),sb false,su 0,si 0,si 0]).toArray)]) 4 [0,1,9,73,74,76] hF (by kernel_rfl) fun a hF=>?_
 refine wc (wo_buildN (t:=f_api_Ver) (z := .agg (flat [sg ByteArray.empty,sg ByteArray.empty,sb false,su 0,si 0,si 0]).toArray) (l:=[(T_api_Ver.mk a2 (ByteArray.mk #[120]) false 0 0 0)]) (vs:=[(0,.agg (flat [sg a2,sg (ByteArray.mk #[120]),sb false,su 0,si 0,si 0]).toArray)]) (cells := #[.string (a2),.string ((ByteArray.mk #[120])),vb false,vu 0,vi 0,vi 0]) (E:=48) hF hS (by kernel_rfl) rfl (by kernel_rfl) (by kernel_rfl) rfl (by kernel_rfl) (by kernel_rfl) (by kernel_rfl) (by kernel_rfl) (by kernel_rfl) fun p812 κ a w hF hS=>?_)
 refine bind_split hv748 (fun x813 hx813 hv748=>?_)
 refine wc (wcS 0 [0,1] hF hS (fun hS=>C_gate_Gate_Commit_nil0 N 5 a4 [(T_api_Ver.mk a2 (ByteArray.mk #[120]) false 0 0 0)] p812 1 (hS.sbK [0]) hx813) ?_)
 rintro _ κ w a ⟨rfl,h2⟩ hF hB
 have hS:=hB _ _ h2
 refine wp 1 [0,1,9,10] hF fun a hF=>?_
 refine wpListIn_nil ?_
 cases hv748
 exact ⟨_,none,[],hF.kp [0,1,9,10],hS.sp [1] [],trivial⟩
 obtain ⟨b750,hpq,hS⟩:=hS.optS 0 rfl ho
 rw [hpq] at hS
 try rw [hpq] at hF
 obtain ⟨⟨p751,c752,p753,c754,p755,c756,p757,c758,p759,c760,p761,cs762,p763,cs764,p765,cs766,p767,cs768,p769,m770,c771,p772,m773,c774,p775,c776,p777,m778,c779,p780,cs781,p782,c783,p784,c785,p786,c787,p788,c789⟩,hS⟩:=hS.unfI (ck:=c_gate_Gate) (fs:=q_gate_Gate) 0 rfl
 refine wpIn_region_lit ?_
 refine wl_pure (L':=[(0,.string (a1)),(1,.string (a2)),(9,pt b750 0),(73,pt b750 0),(74,vu a4),(76,.agg (flat [sg a2,sg (ByteArray.mk #[120]),sb false,su 0,si 0,si 0]).toArray)]) 4 [0,1,9,73,74,76] hF (by kernel_rfl) fun a hF=>?_
 refine wc (wo_buildN (t:=f_api_Ver) (z := .agg (flat [sg ByteArray.empty,sg ByteArray.empty,sb false,su 0,si 0,si 0]).toArray) (l:=[(T_api_Ver.mk a2 (ByteArray.mk #[120]) false 0 0 0)]) (vs:=[(0,.agg (flat [sg a2,sg (ByteArray.mk #[120]),sb false,su 0,si 0,si 0]).toArray)]) (cells := #[.string (a2),.string ((ByteArray.mk #[120])),vb false,vu 0,vi 0,vi 0]) (E:=48) hF hS (by kernel_rfl) rfl (by kernel_rfl) (by kernel_rfl) rfl (by kernel_rfl) (by kernel_rfl) (by kernel_rfl) (by kernel_rfl) (by kernel_rfl) fun p790 κ a w hF hS=>?_)
 refine bind_split hv748 (fun x791 hx791 hv748=>?_)
 have hgx7910:=hS.segs 1 rfl
 refine wc (wcS 12 [1,2,5,8,10,11,12,13,14,15,16,17,0,3,4,6,7,9] hF hS (fun hS=>C_gate_Gate_Commit N x749.dc x749.role x749.epoch x749.base x749.txs (T_api_Map.mk x749.m.Cuts x749.m.Nodes) x749.agreed x749.owing x749.st x749.log x749.co x749.hi x749.boxes x749.cursor x749.heard x749.calls x749.reads x749.held x749.loads x749.last x749.mv x749.end_ x749.floor x749.floored x749.seeded x749.said x749.out 5 a4 [(T_api_Ver.mk a2 (ByteArray.mk #[120]) false 0 0 0)] [vi x749.nodes] p751 c752 p753 c754 [.slice p755 (x749.modes).length c756] p757 c758 [.slice p759 (x749.old).length c760] p761 cs762 p763 cs764 p765 cs766 p767 cs768 p769 m770 c771 p772 m773 c774 p775 c776 p777 m778 c779 p780 cs781 (flat [si x749.seedTo,si x749.seeds,sl p782 (x749.cut).length c783]) p784 c785 p786 c787 [.slice p788 (x749.replies).length c789] p790 1 b750 ((hS.regr 0 [(false,25),(true,3),(false,7)] rfl).sbK [1,2,3,4,5,6,7,8,9,11,12,0]) hx791) ?_)
 rintro _ κ w a ⟨p792,cs793,p794,cs795,p796,cs797,p798,m799,c800,p801,m802,c803,p804,c805,p806,cs807,p808,c809,cs810,rfl,h2⟩ hF hB
 have hS:=(hB _ _ h2).unregrK 0 [(false,25),(true,3),(false,7)] (s':=[si x749.dc,si x749.nodes,si x749.role,si x749.epoch,si x749.base,si x791.2.1,sl p751 (x749.m.Cuts).length c752,sl p753 (x749.m.Nodes).length c754,sl p755 (x749.modes).length c756,sl p757 (x749.agreed).length c758,sl p759 (x749.old).length c760,sb x749.owing,(1,[.pointer (pa p792)]),(1,[.pointer (pa p794)]),(1,[.pointer (pa p796)]),su x791.2.2.2.2.2.1,(4,(encs fPtr p767)),ei 4 x749.cursor,ei 4 x749.heard,(1,[.map p798]),(1,[.map p801]),sl p804 (x791.2.2.2.2.2.2.2.2.1).length c805,(1,[.map p777]),su x791.2.2.2.2.2.2.2.2.2.1,(1,[.pointer (pa p806)]),si x749.seedTo,si x749.seeds,sl p782 (x749.cut).length c783,sl p784 (x749.end_).length c785,su x749.floor,sb x749.floored,sb x749.seeded,sb x749.said,sl p808 (x791.2.2.2.2.2.2.2.2.2.2.2).length c809,sl p788 (x749.replies).length c789]) hgx7910 rfl
 refine wp 1 [0,1,9,10] hF fun a hF=>?_
 refine wpListIn_nil ?_
 obtain ⟨cs811,hS⟩:=hS.foldI (ck:=c_gate_Gate) (fs:=q_gate_Gate) b750 (p751,c752,p753,c754,p755,c756,p757,c758,p759,c760,p792,cs793,p794,cs795,p796,cs797,p767,cs810,p798,m799,c800,p801,m802,c803,p804,c805,p777,m778,c779,p806,cs807,p782,c783,p784,c785,p808,c809,p788,c789) (T_gate_Gate.mk x749.dc x749.nodes x749.role x749.epoch x749.base x791.2.1 (T_api_Map.mk x749.m.Cuts x749.m.Nodes) x749.modes x749.agreed x749.old x749.owing x791.2.2.1 x791.2.2.2.1 x791.2.2.2.2.1 x791.2.2.2.2.2.1 x749.boxes x749.cursor x749.heard x791.2.2.2.2.2.2.1 x791.2.2.2.2.2.2.2.1 x791.2.2.2.2.2.2.2.2.1 x749.loads x791.2.2.2.2.2.2.2.2.2.1 x791.2.2.2.2.2.2.2.2.2.2.1 x749.seedTo x749.seeds x749.cut x749.end_ x749.floor x749.floored x749.seeded x749.said x791.2.2.2.2.2.2.2.2.2.2.2 x749.replies) [0,1,13,14,2,15,16,3,17,4,5,6,7,8,9,10,11] [12] [5,6,7,8,9,0,1,2,13,14,15,3,17] (by decide) (by kernel_rfl) (by kernel_rfl)
 cases hv748
 exact ⟨_,(some b750),cs811,hF.kp [0,1,9,10],hS.sp [0] [],trivial⟩
 rintro a w ⟨κ,p744,cs745,hF,hS,-⟩
 exact ⟨_,p744,cs745,v748.1,v748.2,hF.kp [0,1,9,10],hS.sp [0] [],H⟩
 refine cond_f hF (by kernel_rfl) hb ?_
 refine bind_split H (fun v818 hv818 H=>?_)
 refine code_join (fun a w => ∃(κ:Gh) (p814:Option Nat) (cs815:List Nat),Fr (151) [] [(0,.string (a1)),(1,.string (a2)),(9,.pointer (pa p814)),(10,vi v818.2)] a∧SS [] κ0 w0 κ w [.ext (optX o_gate_Gate p814 cs815 v818.1)] []∧True) ?_ ?_
 refine opt_split hv818 (fun ho hv818=>?_) (fun x819 ho hv818=>?_)
 obtain ⟨hpq,hS⟩:=hS.optN 0 rfl ho
 rw [hpq] at hS
 try rw [hpq] at hF
 refine wpIn_region_lit ?_
 refine wp 3 [0,1,9,79,80,81] hF fun a hF=>?_
 refine bind_split hv818 (fun x876 hx876 hv818=>?_)
 refine wc (wcS 0 [0] hF hS (fun hS=>C_gate_Gate_Read_nil0 N 5 a2 a4 (hS.sbK []) hx876) ?_)
 rintro _ κ w a ⟨rfl,h2⟩ hF hB
 have hS:=hB _ _ h2
 refine wp 1 [0,1,9,10] hF fun a hF=>?_
 refine wpListIn_nil ?_
 cases hv818
 exact ⟨_,none,[],hF.kp [0,1,9,10],hS.sp [0] [],trivial⟩
 obtain ⟨b820,hpq,hS⟩:=hS.optS 0 rfl ho
 rw [hpq] at hS
 try rw [hpq] at hF
 obtain ⟨⟨p821,c822,p823,c824,p825,c826,p827,c828,p829,c830,p831,cs832,p833,cs834,p835,cs836,p837,cs838,p839,m840,c841,p842,m843,c844,p845,c846,p847,m848,c849,p850,cs851,p852,c853,p854,c855,p856,c857,p858,c859⟩,hS⟩:=hS.unfI (ck:=c_gate_Gate) (fs:=q_gate_Gate) 0 rfl
 refine wpIn_region_lit ?_
 refine wp 3 [0,1,9,79,80,81] hF fun a hF=>?_
 refine bind_split hv818 (fun x860 hx860 hv818=>?_)
 have hgx8600:=hS.segs 0 rfl
 refine wc (wcS 7 [0,1,4,11,13,14,16,2,3,5,6,7,8,9,10,12,15] hF hS (fun hS=>C_gate_Gate_Read N x819.dc x819.role x819.base x819.txs (T_api_Map.mk x819.m.Cuts x819.m.Nodes) x819.co x819.hi x819.calls x819.reads x819.held x819.last x819.mv x819.out 5 a2 a4 [vi x819.nodes] [vi x819.epoch] p821 c822 p823 c824 (flat [sl p825 (x819.modes).length c826,sl p827 (x819.agreed).length c828,sl p829 (x819.old).length c830,sb x819.owing,(1,[.pointer (pa p831)]),(1,[.pointer (pa p833)])]) p835 cs836 (flat [(4,(encs fPtr p837)),ei 4 x819.cursor,ei 4 x819.heard]) p839 m840 c841 p842 m843 c844 p845 c846 [.map p847] p850 cs851 (flat [si x819.seedTo,si x819.seeds,sl p852 (x819.cut).length c853,sl p854 (x819.end_).length c855,su x819.floor,sb x819.floored,sb x819.seeded,sb x819.said]) p856 c857 [.slice p858 (x819.replies).length c859] b820 ((hS.regr 0 [(false,8),(true,6),(false,2),(true,3),(false,6),(true,8),(false,2)] rfl).sbK [0,1,5,6,7,11]) hx860) ?_)
 rintro _ κ w a ⟨p861,cs862,p863,m864,c865,p866,m867,c868,p869,c870,p871,cs872,p873,c874,rfl,h2⟩ hF hB
 have hS:=(hB _ _ h2).unregrK 0 [(false,8),(true,6),(false,2),(true,3),(false,6),(true,8),(false,2)] (s':=[si x819.dc,si x819.nodes,si x819.role,si x819.epoch,si x819.base,si x860.2.1,sl p821 (x819.m.Cuts).length c822,sl p823 (x819.m.Nodes).length c824,sl p825 (x819.modes).length c826,sl p827 (x819.agreed).length c828,sl p829 (x819.old).length c830,sb x819.owing,(1,[.pointer (pa p831)]),(1,[.pointer (pa p833)]),(1,[.pointer (pa p861)]),su x860.2.2.2.1,(4,(encs fPtr p837)),ei 4 x819.cursor,ei 4 x819.heard,(1,[.map p863]),(1,[.map p866]),sl p869 (x860.2.2.2.2.2.2.1).length c870,(1,[.map p847]),su x860.2.2.2.2.2.2.2.1,(1,[.pointer (pa p871)]),si x819.seedTo,si x819.seeds,sl p852 (x819.cut).length c853,sl p854 (x819.end_).length c855,su x819.floor,sb x819.floored,sb x819.seeded,sb x819.said,sl p873 (x860.2.2.2.2.2.2.2.2.2).length c874,sl p858 (x819.replies).length c859]) hgx8600 rfl
 refine wp 1 [0,1,9,10] hF fun a hF=>?_
 refine wpListIn_nil ?_
 obtain ⟨cs875,hS⟩:=hS.foldI (ck:=c_gate_Gate) (fs:=q_gate_Gate) b820 (p821,c822,p823,c824,p825,c826,p827,c828,p829,c830,p831,cs832,p833,cs834,p861,cs862,p837,cs838,p863,m864,c865,p866,m867,c868,p869,c870,p847,m848,c849,p871,cs872,p852,c853,p854,c855,p873,c874,p858,c859) (T_gate_Gate.mk x819.dc x819.nodes x819.role x819.epoch x819.base x860.2.1 (T_api_Map.mk x819.m.Cuts x819.m.Nodes) x819.modes x819.agreed x819.old x819.owing x819.st x819.log x860.2.2.1 x860.2.2.2.1 x819.boxes x819.cursor x819.heard x860.2.2.2.2.1 x860.2.2.2.2.2.1 x860.2.2.2.2.2.2.1 x819.loads x860.2.2.2.2.2.2.2.1 x860.2.2.2.2.2.2.2.2.1 x819.seedTo x819.seeds x819.cut x819.end_ x819.floor x819.floored x819.seeded x819.said x860.2.2.2.2.2.2.2.2.2 x819.replies) [0,1,7,8,2,9,10,11,12,13,14,3,15,4,5,16,6] [] [4,5,6,7,8,0,1,2,12,13,14,3,16] (by decide) (by kernel_rfl) (by kernel_rfl)
 cases hv818
 exact ⟨_,(some b820),cs875,hF.kp [0,1,9,10],hS.sp [0] [],trivial⟩
 rintro a w ⟨κ,p814,cs815,hF,hS,-⟩
 exact ⟨_,p814,cs815,v818.1,v818.2,hF.kp [0,1,9,10],hS.sp [0] [],H⟩
 rintro a w ⟨κ,p315,cs316,y317,y318,hF,hS,H⟩
 unfold M.law22_GateHolds_k2 at H
 refine wpIn_seq_k fun K319 hK319=>?_
 refine wpIn_region_lit ?_
 refine wl_pure (L':=[(0,.string (a1)),(9,.pointer (pa p315)),(10,vi y318),(13,vb (!sLt a2 a1))]) 4 [0,9,10,13] hF (by kernel_rfl) fun a hF=>?_
 refine wpListIn_nil ?_
 refine hK319 _ _ ?_
 refine wpIn_seq_k fun K320 hK320=>?_
 refine bind_split H (fun v327 hv327 H=>?_)
 refine code_join (fun a w => ∃(κ:Gh) (p321:Option Nat) (cs322:List Nat) (p325:Option Addr) (c326:Nat),Fr (151) [] [(0,.string (a1)),(9,.pointer (pa p321)),(10,vi y318),(13,vb (!sLt a2 a1)),(14,.slice p325 (v327.2).length c326)] a∧SS [] κ0 w0 κ w [.tok p325 61 15 (v327.2).length c326,.ext (optX o_gate_Gate p321 cs322 v327.1)] [Ro.mp t_api_Mail p325 c326 v327.2]∧True) ?_ ?_
 refine opt_split hv327 (fun ho hv327=>?_) (fun x328 ho hv327=>?_)
 obtain ⟨hpq,hS⟩:=hS.optN 0 rfl ho
 rw [hpq] at hS
 try rw [hpq] at hF
 refine wpIn_region_lit ?_
 refine wp 1 [0,9,10,13,86] hF fun a hF=>?_
 refine bind_split hv327 (fun x375 hx375 hv327=>?_)
 refine wc (wcS 0 [0] hF hS (fun hS=>C_gate_Gate_Sent_nil0 N (hS.sbK []) hx375) ?_)
 rintro _ κ w a ⟨p376,c377,rfl,h2⟩ hF hB
 have hS:=hB _ _ h2
 refine wp 1 [0,9,10,13,14] hF fun a hF=>?_
 refine wpListIn_nil ?_
 cases hv327
 exact ⟨_,none,[],p376,c377,hF.kp [0,9,10,13,14],hS.sp [0,1] [0],trivial⟩
 obtain ⟨b329,hpq,hS⟩:=hS.optS 0 rfl ho
 rw [hpq] at hS
 try rw [hpq] at hF
 obtain ⟨⟨p330,c331,p332,c333,p334,c335,p336,c337,p338,c339,p340,cs341,p342,cs343,p344,cs345,p346,cs347,p348,m349,c350,p351,m352,c353,p354,c355,p356,m357,c358,p359,cs360,p361,c362,p363,c364,p365,c366,p367,c368⟩,hS⟩:=hS.unfI (ck:=c_gate_Gate) (fs:=q_gate_Gate) 0 rfl
 refine wpIn_region_lit ?_
 refine wp 1 [0,9,10,13,86] hF fun a hF=>?_
 refine bind_split hv327 (fun x369 hx369 hv327=>?_)
 have hgx3690:=hS.segs 0 rfl
 refine wc (wcS 2 [0,4,1,2,3,5,6,7,8,9,10,11,12,13,14,15,16] hF hS (fun hS=>C_gate_Gate_Sent N x328.out (flat [si x328.dc,si x328.nodes,si x328.role,si x328.epoch,si x328.base,si x328.txs,sl p330 (x328.m.Cuts).length c331,sl p332 (x328.m.Nodes).length c333,sl p334 (x328.modes).length c335,sl p336 (x328.agreed).length c337,sl p338 (x328.old).length c339,sb x328.owing,(1,[.pointer (pa p340)]),(1,[.pointer (pa p342)]),(1,[.pointer (pa p344)]),su x328.hi,(4,(encs fPtr p346)),ei 4 x328.cursor,ei 4 x328.heard,(1,[.map p348]),(1,[.map p351]),sl p354 (x328.held).length c355,(1,[.map p356]),su x328.last,(1,[.pointer (pa p359)]),si x328.seedTo,si x328.seeds,sl p361 (x328.cut).length c362,sl p363 (x328.end_).length c364,su x328.floor,sb x328.floored,sb x328.seeded,sb x328.said]) p365 c366 [.slice p367 (x328.replies).length c368] b329 ((hS.regr 0 [(true,33),(false,2)] rfl).sbK [11]) hx369) ?_)
 rintro _ κ w a ⟨p370,c371,p372,c373,rfl,h2⟩ hF hB
 have hS:=(hB _ _ h2).unregrK 0 [(true,33),(false,2)] (s':=[si x328.dc,si x328.nodes,si x328.role,si x328.epoch,si x328.base,si x328.txs,sl p330 (x328.m.Cuts).length c331,sl p332 (x328.m.Nodes).length c333,sl p334 (x328.modes).length c335,sl p336 (x328.agreed).length c337,sl p338 (x328.old).length c339,sb x328.owing,(1,[.pointer (pa p340)]),(1,[.pointer (pa p342)]),(1,[.pointer (pa p344)]),su x328.hi,(4,(encs fPtr p346)),ei 4 x328.cursor,ei 4 x328.heard,(1,[.map p348]),(1,[.map p351]),sl p354 (x328.held).length c355,(1,[.map p356]),su x328.last,(1,[.pointer (pa p359)]),si x328.seedTo,si x328.seeds,sl p361 (x328.cut).length c362,sl p363 (x328.end_).length c364,su x328.floor,sb x328.floored,sb x328.seeded,sb x328.said,sl p372 (x369.2).length c373,sl p367 (x328.replies).length c368]) hgx3690 rfl
 refine wp 1 [0,9,10,13,14] hF fun a hF=>?_
 refine wpListIn_nil ?_
 obtain ⟨cs374,hS⟩:=hS.foldI (ck:=c_gate_Gate) (fs:=q_gate_Gate) b329 (p330,c331,p332,c333,p334,c335,p336,c337,p338,c339,p340,cs341,p342,cs343,p344,cs345,p346,cs347,p348,m349,c350,p351,m352,c353,p354,c355,p356,m357,c358,p359,cs360,p361,c362,p363,c364,p372,c373,p367,c368) (T_gate_Gate.mk x328.dc x328.nodes x328.role x328.epoch x328.base x328.txs (T_api_Map.mk x328.m.Cuts x328.m.Nodes) x328.modes x328.agreed x328.old x328.owing x328.st x328.log x328.co x328.hi x328.boxes x328.cursor x328.heard x328.calls x328.reads x328.held x328.loads x328.last x328.mv x328.seedTo x328.seeds x328.cut x328.end_ x328.floor x328.floored x328.seeded x328.said x369.2 x328.replies) [0,3,4,5,1,6,7,8,9,10,11,12,13,14,15,16,17] [2] [2,3,4,5,6,7,8,9,10,11,12,1,14] (by decide) (by kernel_rfl) (by kernel_rfl)
 cases hv327
 exact ⟨_,(some b329),cs374,p370,c371,hF.kp [0,9,10,13,14],hS.sp [1,0] [0],trivial⟩
 rintro a w ⟨κ,p321,cs322,p325,c326,hF,hS,-⟩
 refine hK320 _ _ ?_
 refine wpIn_seq_k fun K378 hK378=>?_
 refine wpIn_seq_k fun K379 hK379=>?_
 refine bind_split H (fun v384 hv384 H=>?_)
 refine code_join (fun a w => ∃(κ:Gh) (p380:Option Nat) (cs381:List Nat),Fr (151) [] [(0,.string (a1)),(9,.pointer (pa p380)),(13,vb (!sLt a2 a1)),(14,.slice p325 (v327.2).length c326),(102,vb v384.2)] a∧SS [] κ0 w0 κ w [.tok p325 61 15 (v327.2).length c326,.ext (optX o_gate_Gate p380 cs381 v384.1)] [Ro.mp t_api_Mail p325 c326 v327.2]∧True) ?_ ?_
 refine opt_split hv384 (fun ho hv384=>?_) (fun x385 ho hv384=>?_)
 obtain ⟨hpq,hS⟩:=hS.optN 1 rfl ho
 rw [hpq] at hS
 try rw [hpq] at hF
 refine wpIn_region_lit ?_
 refine bind_split hv384 (fun v436 hv436 hv384=>?_)
 refine wl_join (fun a w => ∃κ:Gh,Fr (151) [] [(0,.string (a1)),(9,.pointer none),(13,vb (!sLt a2 a1)),(14,.slice p325 (v327.2).length c326),(102,vb v436)] a∧SS [] κ0 w0 κ w [.tok p325 61 15 (v327.2).length c326] [Ro.mp t_api_Mail p325 c326 v327.2]∧True) ?_ ?_
 refine wp 3 [0,9,13,14,90] hF fun a hF=>?_
 refine bif_split hv436 (fun hb hv436=>?_) (fun hb hv436=>?_)
 have hF:=hF.boolv 90 (by kernel_rfl) hb
 refine wp 12 [0,9,13,14,102] hF fun a hF=>?_
 refine wpListIn_nil ?_
 cases hv436
 exact ⟨_,hF.kp [0,9,13,14,102],hS.sp [0] [0],trivial⟩
 have hF:=hF.boolv 90 (by kernel_rfl) hb
 refine wp 7 [0,9,13,14,97] hF fun a hF=>?_
 refine bif_split hv436 (fun hb hv436=>?_) (fun hb hv436=>?_)
 have hF:=hF.boolv 97 (by kernel_rfl) hb
 refine wp 5 [0,9,13,14,102] hF fun a hF=>?_
 refine wpListIn_nil ?_
 cases hv436
 exact ⟨_,hF.kp [0,9,13,14,102],hS.sp [0] [0],trivial⟩
 have hF:=hF.boolv 97 (by kernel_rfl) hb
 refine wp 1 [0,9,13,14,97,98] hF fun a hF=>?_
 refine bind_split hv436 (fun x437 hx437 hv436=>?_)
 refine wcg hF (wcS 0 [0,1] hF hS (fun hS=>C_gate_Gate_Waits_nil0 N (hS.sbK []) hx437) ?_)
 rintro _ κ w a ⟨p438,c439,rfl,h2⟩ hF hB
 have hS:=hB _ _ h2
 refine wp 3 [0,9,13,14,102] hF fun a hF=>?_
 refine wpListIn_nil ?_
 cases hv436
 exact ⟨_,hF.kp [0,9,13,14,102],hS.sp [1] [1],trivial⟩
 rintro a w ⟨κ,hF,hS,-⟩
 cases hv384
 have hS:=hS.addOpt o_gate_Gate
 exact ⟨_,none,[],hF.kp [0,9,13,14,102],hS.sp [1,0] [0],trivial⟩
 obtain ⟨b386,hpq,hS⟩:=hS.optS 1 rfl ho
 rw [hpq] at hS
 try rw [hpq] at hF
 obtain ⟨⟨p387,c388,p389,c390,p391,c392,p393,c394,p395,c396,p397,cs398,p399,cs400,p401,cs402,p403,cs404,p405,m406,c407,p408,m409,c410,p411,c412,p413,m414,c415,p416,cs417,p418,c419,p420,c421,p422,c423,p424,c425⟩,hS⟩:=hS.unfI (ck:=c_gate_Gate) (fs:=q_gate_Gate) 1 rfl
 refine wpIn_region_lit ?_
 refine bind_split hv384 (fun v428 hv428 hv384=>?_)
 refine wl_join (fun a w => ∃(κ:Gh) (cs426:List Nat),Fr (151) [] [(0,.string (a1)),(9,pt b386 0),(13,vb (!sLt a2 a1)),(14,.slice p325 (v327.2).length c326),(102,vb v428)] a∧SS [] κ0 w0 κ w [.tok p325 61 15 (v327.2).length c326,.ext (optX o_gate_Gate (some b386) cs426 (some x385))] [Ro.mp t_api_Mail p325 c326 v327.2]∧True) ?_ ?_
 refine wp 3 [0,9,13,14,90] hF fun a hF=>?_
 refine bif_split hv428 (fun hb hv428=>?_) (fun hb hv428=>?_)
 have hF:=hF.boolv 90 (by kernel_rfl) hb
 refine wp 12 [0,9,13,14,102] hF fun a hF=>?_
 obtain ⟨cs429,hS⟩:=hS.foldI (ck:=c_gate_Gate) (fs:=q_gate_Gate) b386 (p387,c388,p389,c390,p391,c392,p393,c394,p395,c396,p397,cs398,p399,cs400,p401,cs402,p403,cs404,p405,m406,c407,p408,m409,c410,p411,c412,p413,m414,c415,p416,cs417,p418,c419,p420,c421,p422,c423,p424,c425) x385 (rg 17) [17] (rg 13) (by decide) (by kernel_rfl) (by kernel_rfl)
 refine wpListIn_nil ?_
 cases hv428
 exact ⟨_,cs429,hF.kp [0,9,13,14,102],hS.sp [1,0] [13],trivial⟩
 have hF:=hF.boolv 90 (by kernel_rfl) hb
 refine wp 7 [0,9,13,14,97] hF fun a hF=>?_
 refine bif_split hv428 (fun hb hv428=>?_) (fun hb hv428=>?_)
 have hF:=hF.boolv 97 (by kernel_rfl) hb
 refine wp 5 [0,9,13,14,102] hF fun a hF=>?_
 obtain ⟨cs430,hS⟩:=hS.foldI (ck:=c_gate_Gate) (fs:=q_gate_Gate) b386 (p387,c388,p389,c390,p391,c392,p393,c394,p395,c396,p397,cs398,p399,cs400,p401,cs402,p403,cs404,p405,m406,c407,p408,m409,c410,p411,c412,p413,m414,c415,p416,cs417,p418,c419,p420,c421,p422,c423,p424,c425) x385 (rg 17) [17] (rg 13) (by decide) (by kernel_rfl) (by kernel_rfl)
 refine wpListIn_nil ?_
 cases hv428
 exact ⟨_,cs430,hF.kp [0,9,13,14,102],hS.sp [1,0] [13],trivial⟩
 have hF:=hF.boolv 97 (by kernel_rfl) hb
 refine wp 1 [0,9,13,14,97,98] hF fun a hF=>?_
 refine bind_split hv428 (fun x431 hx431 hv428=>?_)
 have hgx4310:=hS.segs 0 rfl
 refine wcg hF (wcS 3 [0,13,14,1,2,3,4,5,6,7,8,9,10,11,12,15,16,17] hF hS (fun hS=>C_gate_Gate_Waits N x385.calls x385.reads x385.held (flat [si x385.dc,si x385.nodes,si x385.role,si x385.epoch,si x385.base,si x385.txs,sl p387 (x385.m.Cuts).length c388,sl p389 (x385.m.Nodes).length c390,sl p391 (x385.modes).length c392,sl p393 (x385.agreed).length c394,sl p395 (x385.old).length c396,sb x385.owing,(1,[.pointer (pa p397)]),(1,[.pointer (pa p399)]),(1,[.pointer (pa p401)]),su x385.hi,(4,(encs fPtr p403)),ei 4 x385.cursor,ei 4 x385.heard]) p405 m406 c407 p408 m409 c410 p411 c412 (flat [(1,[.map p413]),su x385.last,(1,[.pointer (pa p416)]),si x385.seedTo,si x385.seeds,sl p418 (x385.cut).length c419,sl p420 (x385.end_).length c421,su x385.floor,sb x385.floored,sb x385.seeded,sb x385.said,sl p422 (x385.out).length c423,sl p424 (x385.replies).length c425]) b386 ((hS.regr 0 [(true,19),(false,3),(true,13)] rfl).sbK [5,6,7]) hx431) ?_)
 rintro _ κ w a ⟨p432,c433,rfl,h2⟩ hF hB
 have hS:=(hB _ _ h2).unregrK 0 [(true,19),(false,3),(true,13)] (s':=[si x385.dc,si x385.nodes,si x385.role,si x385.epoch,si x385.base,si x385.txs,sl p387 (x385.m.Cuts).length c388,sl p389 (x385.m.Nodes).length c390,sl p391 (x385.modes).length c392,sl p393 (x385.agreed).length c394,sl p395 (x385.old).length c396,sb x385.owing,(1,[.pointer (pa p397)]),(1,[.pointer (pa p399)]),(1,[.pointer (pa p401)]),su x385.hi,(4,(encs fPtr p403)),ei 4 x385.cursor,ei 4 x385.heard,(1,[.map p405]),(1,[.map p408]),sl p411 (x385.held).length c412,(1,[.map p413]),su x385.last,(1,[.pointer (pa p416)]),si x385.seedTo,si x385.seeds,sl p418 (x385.cut).length c419,sl p420 (x385.end_).length c421,su x385.floor,sb x385.floored,sb x385.seeded,sb x385.said,sl p422 (x385.out).length c423,sl p424 (x385.replies).length c425]) hgx4310 rfl
 refine wp 3 [0,9,13,14,102] hF fun a hF=>?_
 obtain ⟨cs434,hS⟩:=hS.foldI (ck:=c_gate_Gate) (fs:=q_gate_Gate) b386 (p387,c388,p389,c390,p391,c392,p393,c394,p395,c396,p397,cs398,p399,cs400,p401,cs402,p403,cs404,p405,m406,c407,p408,m409,c410,p411,c412,p413,m414,c415,p416,cs417,p418,c419,p420,c421,p422,c423,p424,c425) x385 [0,4,5,6,7,8,9,10,11,12,13,14,15,1,2,16,17] [3,18] [1,2,3,4,5,6,7,8,9,10,11,12,13] (by decide) (by kernel_rfl) (by kernel_rfl)
 refine wpListIn_nil ?_
 cases hv428
 exact ⟨_,cs434,hF.kp [0,9,13,14,102],hS.sp [2,0] [14],trivial⟩
 rintro a w ⟨κ,cs426,hF,hS,-⟩
 cases hv384
 exact ⟨_,(some b386),cs426,hF.kp [0,9,13,14,102],hS.sp [0,1] [0],trivial⟩
 rintro a w ⟨κ,p380,cs381,hF,hS,-⟩
 refine hK379 _ _ ?_
 refine bif_split H (fun hb H=>?_) (fun hb H=>?_)
 refine cond_t hF (by kernel_rfl) hb ?_
 refine wpIn_seq_k fun K440 hK440=>?_
 refine wpIn_region_lit ?_
 refine wp 1 [8] hF fun a hF=>?_
 refine wpListIn_nil ?_
 refine hK440 _ _ ?_
 refine wpIn_ret ?_
 cases H
 exact (ret_done hF hS (res1 Tryz.results4 (rvt hF)) ⟨rfl,(hS.pick [] (by kernel_rfl)).ro,hS.newC [] (by decide) (by kernel_rfl)⟩)
 refine cond_f hF (by kernel_rfl) hb ?_
 refine wpIn_skip ?_
 refine hK378 _ _ ?_
 refine wpIn_seq_k fun K441 hK441=>?_
 refine wpIn_seq_k fun K442 hK442=>?_
 refine wpIn_region_lit ?_
 refine wl_pure (L':=[(0,.string (a1)),(9,.pointer (pa p380)),(14,.slice p325 (v327.2).length c326),(104,vb (!(!sLt a2 a1)))]) 2 [0,9,14,104] hF (by kernel_rfl) fun a hF=>?_
 refine wpListIn_nil ?_
 refine hK442 _ _ ?_
 refine bif_split H (fun hb H=>?_) (fun hb H=>?_)
 refine cond_t hF (by kernel_rfl) hb ?_
 refine wpIn_seq_k fun K443 hK443=>?_
 refine wpIn_region_lit ?_
 refine bind_split H (fun v445 hv445 H=>?_)
 refine wl_join (fun a w => ∃κ:Gh,Fr (151) [] [(8,vb v445)] a∧SS [] κ0 w0 κ w [] []∧True) ?_ ?_
 refine bind_split hv445 (fun x446 hx446 hv445=>?_)
 refine wc (wo_callP hF hS (by kernel_rfl) (by kernel_rfl) (C_law22_awake N hS.fresh ((hS.pick [] (by kernel_rfl)).ro) hx446) ?_)
 rintro _ κ w a ⟨rfl,hR,hN⟩ hF hS hO
 refine wp 1 [14,106] hF fun a hF=>?_
 refine bif_split hv445 (fun hb hv445=>?_) (fun hb hv445=>?_)
 have hF:=hF.boolv 106 (by kernel_rfl) hb
 refine wp 5 [14,111] hF fun a hF=>?_
 refine bif_split hv445 (fun hb hv445=>?_) (fun hb hv445=>?_)
 have hF:=hF.boolv 111 (by kernel_rfl) hb
 refine wl_pure (L':=[(111,vb true),(112,.slice p325 (v327.2).length c326)]) 1 [111,112] hF (by kernel_rfl) fun a hF=>?_
 refine bind_split hv445 (fun x447 hx447 hv445=>?_)
 refine wcg hF (wo_index hF hS (by kernel_rfl) 0 (E:=61) (sz:=15) rfl rfl rfl (by kernel_rfl) rfl hx447 (by kernel_rfl) (by kernel_rfl) fun b448 f449 a hpx447 hF=>?_)
 obtain ⟨_,⟨⟨p450,c451,p452,c453⟩,rfl,hR⟩,hc⟩:=hS.elem 0 rfl hpx447 hx447
 have hS:=(hS.adds hR).add hc
 refine wl_pure (L':=[(111,vb true),(114,.pointer (some ⟨b448,(f449+Int.toNat 0*15),none⟩))]) 1 [111,114] hF (by kernel_rfl) fun a hF=>?_
 refine wcg hF (wo_val hF (by kernel_rfl) (v:=vi x447.To) ((val_loadC 0 0 (s:=[si x447.To,si x447.Msg.Kind,su x447.Msg.Id,su x447.Msg.N,su x447.Msg.TS,sg x447.Msg.Lo,sg x447.Msg.Hi,sl p450 (x447.Msg.Vers).length c451,sl p452 (x447.Msg.Vec).length c453,si x447.Msg.Cmd.Kind,si x447.Msg.Cmd.DC,si x447.Msg.Cmd.Shard,si x447.Msg.Cmd.Node,si x447.Msg.Cmd.Mode,sg x447.Msg.Cmd.Key]) (v:=vi x447.To) rfl rfl rfl (show segGood [si x447.To,si x447.Msg.Kind,su x447.Msg.Id,su x447.Msg.N,su x447.Msg.TS,sg x447.Msg.Lo,sg x447.Msg.Hi,sl p450 (x447.Msg.Vers).length c451,sl p452 (x447.Msg.Vec).length c453,si x447.Msg.Cmd.Kind,si x447.Msg.Cmd.DC,si x447.Msg.Cmd.Shard,si x447.Msg.Cmd.Node,si x447.Msg.Cmd.Mode,sg x447.Msg.Cmd.Key] from (sgN 15 sgNil)) (by kernel_rfl) (by kernel_rfl) (by kernel_rfl) _ ⟨_,hS⟩)) fun a hF=>?_)
 refine wp 3 [8] hF fun a hF=>?_
 refine wpListIn_nil ?_
 cases hv445
 exact ⟨_,hF.kp [8],hS.sp [] [],trivial⟩
 have hF:=hF.boolv 111 (by kernel_rfl) hb
 refine wp 7 [8] hF fun a hF=>?_
 refine wpListIn_nil ?_
 cases hv445
 exact ⟨_,hF.kp [8],hS.sp [] [],trivial⟩
 have hF:=hF.boolv 106 (by kernel_rfl) hb
 refine wp 12 [8] hF fun a hF=>?_
 refine wpListIn_nil ?_
 cases hv445
 exact ⟨_,hF.kp [8],hS.sp [] [],trivial⟩
 rintro a w ⟨κ,hF,hS,-⟩
 refine hK443 _ _ ?_
 refine wpIn_ret ?_
 cases H
 exact (ret_done hF hS (res1 Tryz.results4 (rvt hF)) ⟨rfl,(hS.pick [] (by kernel_rfl)).ro,hS.newC [] (by decide) (by kernel_rfl)⟩)
 refine cond_f hF (by kernel_rfl) hb ?_
 refine wpIn_skip ?_
 refine hK441 _ _ ?_
 refine wpIn_seq_k fun K454 hK454=>?_
 refine bind_split H (fun v458 hv458 H=>?_)
 refine code_join (fun a w => ∃(κ:Gh) (p455:Option Nat) (cs456:List Nat),Fr (151) [] [(0,.string (a1)),(9,.pointer (pa p455))] a∧SS [] κ0 w0 κ w [.ext (optX o_gate_Gate p455 cs456 v458)] []∧True) ?_ ?_
 refine opt_split hv458 (fun ho hv458=>?_) (fun x459 ho hv458=>?_)
 obtain ⟨hpq,hS⟩:=hS.optN 1 rfl ho
 rw [hpq] at hS
 try rw [hpq] at hF
 refine wpIn_region_lit ?_
 refine wp 3 [0,9,118,120] hF fun a hF=>?_
 have hS:=hS.add (m:=Ro.mp f_api_Ver.ty none 0 ([]:List T_api_Ver)) (Ro.nil f_api_Ver.ty _ _)
 have hS:=hS.add (m:=Ro.mp (fInt .u64).ty none 0 ([]:List Int)) (Ro.nil (fInt .u64).ty _ _)
 refine bind_split hv458 (fun x533 hx533 hv458=>?_)
 refine wc (wcS 0 [0,1] hF hS (fun hS=>C_gate_Gate_Take_nil0 N 2 (T_api_Msg.mk 15 0 1 0 a1 ByteArray.empty ([]:List T_api_Ver) ([]:List Int) (T_api_Cmd.mk 0 0 0 0 0 ByteArray.empty)) none 0 none 0 (hS.sbK [1,0]) hx533) ?_)
 rintro _ κ w a ⟨rfl,h2⟩ hF hB
 have hS:=hB _ _ h2
 refine wpListIn_nil ?_
 cases hv458
 exact ⟨_,none,[],hF.kp [0,9],hS.sp [1] [],trivial⟩
 obtain ⟨b460,hpq,hS⟩:=hS.optS 1 rfl ho
 rw [hpq] at hS
 try rw [hpq] at hF
 obtain ⟨⟨p461,c462,p463,c464,p465,c466,p467,c468,p469,c470,p471,cs472,p473,cs474,p475,cs476,p477,cs478,p479,m480,c481,p482,m483,c484,p485,c486,p487,m488,c489,p490,cs491,p492,c493,p494,c495,p496,c497,p498,c499⟩,hS⟩:=hS.unfI (ck:=c_gate_Gate) (fs:=q_gate_Gate) 1 rfl
 refine wpIn_region_lit ?_
 refine wp 3 [0,9,118,120] hF fun a hF=>?_
 have hS:=hS.add (m:=Ro.mp f_api_Ver.ty none 0 ([]:List T_api_Ver)) (Ro.nil f_api_Ver.ty _ _)
 have hS:=hS.add (m:=Ro.mp (fInt .u64).ty none 0 ([]:List Int)) (Ro.nil (fInt .u64).ty _ _)
 refine bind_split hv458 (fun x500 hx500 hv458=>?_)
 refine wc (wcS 15 [0,1,4,5,6,7,8,9,10,11,12,13,14,15,16,2,3,17] hF hS (fun hS=>C_gate_Gate_Take N x459.dc x459.nodes x459.role x459.epoch x459.base x459.txs (T_api_Map.mk x459.m.Cuts x459.m.Nodes) x459.modes x459.agreed x459.old x459.owing x459.st x459.log x459.co x459.hi x459.boxes x459.cursor x459.heard x459.calls x459.reads x459.held x459.loads x459.last x459.mv x459.seedTo x459.seeds x459.cut x459.end_ x459.floor x459.floored x459.seeded x459.said x459.out x459.replies 2 (T_api_Msg.mk 15 0 1 0 a1 ByteArray.empty ([]:List T_api_Ver) ([]:List Int) (T_api_Cmd.mk 0 0 0 0 0 ByteArray.empty)) p461 c462 p463 c464 p465 c466 p467 c468 p469 c470 p471 cs472 p473 cs474 p475 cs476 p477 cs478 p479 m480 c481 p482 m483 c484 p485 c486 p487 m488 c489 p490 cs491 p492 c493 p494 c495 p496 c497 p498 c499 none 0 none 0 b460 (hS.sbK [2,3,4,5,6,7,8,9,10,11,12,13,14,1,0]) hx500) ?_)
 rintro _ κ w a ⟨p501,c502,p503,c504,p505,c506,p507,c508,p509,c510,p511,cs512,p513,cs514,p515,cs516,p517,m518,c519,p520,m521,c522,p523,c524,p525,cs526,p527,c528,p529,c530,cs531,rfl,h2⟩ hF hB
 have hS:=hB _ _ h2
 refine wpListIn_nil ?_
 obtain ⟨cs532,hS⟩:=hS.foldI (ck:=c_gate_Gate) (fs:=q_gate_Gate) b460 (p501,c502,p503,c504,p505,c506,p507,c508,p509,c510,p511,cs512,p513,cs514,p515,cs516,p477,cs531,p517,m518,c519,p520,m521,c522,p523,c524,p487,m488,c489,p525,cs526,p492,c493,p494,c495,p527,c528,p529,c530) (T_gate_Gate.mk x459.dc x459.nodes x459.role x500.1 x459.base x500.2.1 (T_api_Map.mk x500.2.2.1.Cuts x500.2.2.1.Nodes) x500.2.2.2.1 x500.2.2.2.2.1 x500.2.2.2.2.2.1 x500.2.2.2.2.2.2.1 x500.2.2.2.2.2.2.2.1 x500.2.2.2.2.2.2.2.2.1 x500.2.2.2.2.2.2.2.2.2.1 x500.2.2.2.2.2.2.2.2.2.2.1 x459.boxes x459.cursor x459.heard x500.2.2.2.2.2.2.2.2.2.2.2.1 x500.2.2.2.2.2.2.2.2.2.2.2.2.1 x500.2.2.2.2.2.2.2.2.2.2.2.2.2.1 x459.loads x500.2.2.2.2.2.2.2.2.2.2.2.2.2.2.1 x500.2.2.2.2.2.2.2.2.2.2.2.2.2.2.2.1 x459.seedTo x459.seeds x459.cut x459.end_ x459.floor x459.floored x459.seeded x459.said x500.2.2.2.2.2.2.2.2.2.2.2.2.2.2.2.2.1 x500.2.2.2.2.2.2.2.2.2.2.2.2.2.2.2.2.2) [0,1,15,16,2,3,4,5,6,7,8,9,10,11,12,13,14] [17] [0,1,11,12,13,2,3,4,17,18,19,5,6] (by decide) (by kernel_rfl) (by kernel_rfl)
 cases hv458
 exact ⟨_,(some b460),cs532,hF.kp [0,9],hS.sp [0] [],trivial⟩
 rintro a w ⟨κ,p455,cs456,hF,hS,-⟩
 refine hK454 _ _ ?_
 refine wpIn_seq_k fun K534 hK534=>?_
 refine bind_split H (fun v538 hv538 H=>?_)
 refine code_join (fun a w => ∃(κ:Gh) (p535:Option Nat) (cs536:List Nat),Fr (151) [] [(9,.pointer (pa p535))] a∧SS [] κ0 w0 κ w [.ext (optX o_gate_Gate p535 cs536 v538)] []∧True) ?_ ?_
 refine opt_split hv538 (fun ho hv538=>?_) (fun x539 ho hv538=>?_)
 obtain ⟨hpq,hS⟩:=hS.optN 0 rfl ho
 rw [hpq] at hS
 try rw [hpq] at hF
 refine wpIn_region_lit ?_
 refine wp 3 [9,122,124] hF fun a hF=>?_
 have hS:=hS.add (m:=Ro.mp f_api_Ver.ty none 0 ([]:List T_api_Ver)) (Ro.nil f_api_Ver.ty _ _)
 have hS:=hS.add (m:=Ro.mp (fInt .u64).ty none 0 ([]:List Int)) (Ro.nil (fInt .u64).ty _ _)
 refine bind_split hv538 (fun x613 hx613 hv538=>?_)
 refine wc (wcS 0 [0] hF hS (fun hS=>C_gate_Gate_Take_nil0 N 3 (T_api_Msg.mk 16 0 0 0 a1 ByteArray.empty ([]:List T_api_Ver) ([]:List Int) (T_api_Cmd.mk 0 0 0 0 0 ByteArray.empty)) none 0 none 0 (hS.sbK [1,0]) hx613) ?_)
 rintro _ κ w a ⟨rfl,h2⟩ hF hB
 have hS:=hB _ _ h2
 refine wpListIn_nil ?_
 cases hv538
 exact ⟨_,none,[],hF.kp [9],hS.sp [0] [],trivial⟩
 obtain ⟨b540,hpq,hS⟩:=hS.optS 0 rfl ho
 rw [hpq] at hS
 try rw [hpq] at hF
 obtain ⟨⟨p541,c542,p543,c544,p545,c546,p547,c548,p549,c550,p551,cs552,p553,cs554,p555,cs556,p557,cs558,p559,m560,c561,p562,m563,c564,p565,c566,p567,m568,c569,p570,cs571,p572,c573,p574,c575,p576,c577,p578,c579⟩,hS⟩:=hS.unfI (ck:=c_gate_Gate) (fs:=q_gate_Gate) 0 rfl
 refine wpIn_region_lit ?_
 refine wp 3 [9,122,124] hF fun a hF=>?_
 have hS:=hS.add (m:=Ro.mp f_api_Ver.ty none 0 ([]:List T_api_Ver)) (Ro.nil f_api_Ver.ty _ _)
 have hS:=hS.add (m:=Ro.mp (fInt .u64).ty none 0 ([]:List Int)) (Ro.nil (fInt .u64).ty _ _)
 refine bind_split hv538 (fun x580 hx580 hv538=>?_)
 refine wc (wcS 15 [0,1,4,5,6,7,8,9,10,11,12,13,14,15,16,2,3] hF hS (fun hS=>C_gate_Gate_Take N x539.dc x539.nodes x539.role x539.epoch x539.base x539.txs (T_api_Map.mk x539.m.Cuts x539.m.Nodes) x539.modes x539.agreed x539.old x539.owing x539.st x539.log x539.co x539.hi x539.boxes x539.cursor x539.heard x539.calls x539.reads x539.held x539.loads x539.last x539.mv x539.seedTo x539.seeds x539.cut x539.end_ x539.floor x539.floored x539.seeded x539.said x539.out x539.replies 3 (T_api_Msg.mk 16 0 0 0 a1 ByteArray.empty ([]:List T_api_Ver) ([]:List Int) (T_api_Cmd.mk 0 0 0 0 0 ByteArray.empty)) p541 c542 p543 c544 p545 c546 p547 c548 p549 c550 p551 cs552 p553 cs554 p555 cs556 p557 cs558 p559 m560 c561 p562 m563 c564 p565 c566 p567 m568 c569 p570 cs571 p572 c573 p574 c575 p576 c577 p578 c579 none 0 none 0 b540 (hS.sbK [2,3,4,5,6,7,8,9,10,11,12,13,14,1,0]) hx580) ?_)
 rintro _ κ w a ⟨p581,c582,p583,c584,p585,c586,p587,c588,p589,c590,p591,cs592,p593,cs594,p595,cs596,p597,m598,c599,p600,m601,c602,p603,c604,p605,cs606,p607,c608,p609,c610,cs611,rfl,h2⟩ hF hB
 have hS:=hB _ _ h2
 refine wpListIn_nil ?_
 obtain ⟨cs612,hS⟩:=hS.foldI (ck:=c_gate_Gate) (fs:=q_gate_Gate) b540 (p581,c582,p583,c584,p585,c586,p587,c588,p589,c590,p591,cs592,p593,cs594,p595,cs596,p557,cs611,p597,m598,c599,p600,m601,c602,p603,c604,p567,m568,c569,p605,cs606,p572,c573,p574,c575,p607,c608,p609,c610) (T_gate_Gate.mk x539.dc x539.nodes x539.role x580.1 x539.base x580.2.1 (T_api_Map.mk x580.2.2.1.Cuts x580.2.2.1.Nodes) x580.2.2.2.1 x580.2.2.2.2.1 x580.2.2.2.2.2.1 x580.2.2.2.2.2.2.1 x580.2.2.2.2.2.2.2.1 x580.2.2.2.2.2.2.2.2.1 x580.2.2.2.2.2.2.2.2.2.1 x580.2.2.2.2.2.2.2.2.2.2.1 x539.boxes x539.cursor x539.heard x580.2.2.2.2.2.2.2.2.2.2.2.1 x580.2.2.2.2.2.2.2.2.2.2.2.2.1 x580.2.2.2.2.2.2.2.2.2.2.2.2.2.1 x539.loads x580.2.2.2.2.2.2.2.2.2.2.2.2.2.2.1 x580.2.2.2.2.2.2.2.2.2.2.2.2.2.2.2.1 x539.seedTo x539.seeds x539.cut x539.end_ x539.floor x539.floored x539.seeded x539.said x580.2.2.2.2.2.2.2.2.2.2.2.2.2.2.2.2.1 x580.2.2.2.2.2.2.2.2.2.2.2.2.2.2.2.2.2) [0,1,15,16,2,3,4,5,6,7,8,9,10,11,12,13,14] [] [0,1,11,12,13,2,3,4,17,18,19,5,6] (by decide) (by kernel_rfl) (by kernel_rfl)
 cases hv538
 exact ⟨_,(some b540),cs612,hF.kp [9],hS.sp [0] [],trivial⟩
 rintro a w ⟨κ,p535,cs536,hF,hS,-⟩
 refine hK534 _ _ ?_
 refine wpIn_seq_k fun K614 hK614=>?_
 refine wpIn_region_lit ?_
 refine wl_pure (L':=[(9,.pointer (pa p535)),(15,vi (-1))]) 1 [9,15] hF (by kernel_rfl) fun a hF=>?_
 refine wpListIn_nil ?_
 refine hK614 _ _ ?_
 refine wpIn_seq_k fun K615 hK615=>?_
 refine wpIn_seq_k fun K616 hK616=>?_
 refine bind_split H (fun v621 hv621 H=>?_)
 refine code_join (fun a w => ∃(κ:Gh) (p618:Option Addr) (c619:Nat),Fr (151) [] [(15,vi (-1)),(127,.slice p618 (v621.1).length c619),(128,vi v621.2),(129,vi 0)] a∧SS [] κ0 w0 κ w [.tok p618 61 15 (v621.1).length c619] [Ro.mp t_api_Mail p618 c619 v621.1]∧True) ?_ ?_
 refine opt_split hv621 (fun ho hv621=>?_) (fun x622 ho hv621=>?_)
 obtain ⟨hpq,hS⟩:=hS.optN 0 rfl ho
 rw [hpq] at hS
 try rw [hpq] at hF
 refine wpIn_region_lit ?_
 refine wp 1 [15,126] hF fun a hF=>?_
 refine bind_split hv621 (fun x669 hx669 hv621=>?_)
 refine wc (wcS 0 [0] hF hS (fun hS=>C_gate_Gate_Sent_nil0 N (hS.sbK []) hx669) ?_)
 rintro _ κ w a ⟨p670,c671,rfl,h2⟩ hF hB
 have hS:=hB _ _ h2
 refine wp 2 [15,127,128,129] hF fun a hF=>?_
 refine wpListIn_nil ?_
 cases hv621
 exact ⟨_,p670,c671,hF.kp [15,127,128,129],hS.sp [0] [0],trivial⟩
 obtain ⟨b623,hpq,hS⟩:=hS.optS 0 rfl ho
 rw [hpq] at hS
 try rw [hpq] at hF
 obtain ⟨⟨p624,c625,p626,c627,p628,c629,p630,c631,p632,c633,p634,cs635,p636,cs637,p638,cs639,p640,cs641,p642,m643,c644,p645,m646,c647,p648,c649,p650,m651,c652,p653,cs654,p655,c656,p657,c658,p659,c660,p661,c662⟩,hS⟩:=hS.unfI (ck:=c_gate_Gate) (fs:=q_gate_Gate) 0 rfl
 refine wpIn_region_lit ?_
 refine wp 1 [15,126] hF fun a hF=>?_
 refine bind_split hv621 (fun x663 hx663 hv621=>?_)
 have hgx6630:=hS.segs 0 rfl
 refine wc (wcS 2 [0,4,1,2,3,5,6,7,8,9,10,11,12,13,14,15,16] hF hS (fun hS=>C_gate_Gate_Sent N x622.out (flat [si x622.dc,si x622.nodes,si x622.role,si x622.epoch,si x622.base,si x622.txs,sl p624 (x622.m.Cuts).length c625,sl p626 (x622.m.Nodes).length c627,sl p628 (x622.modes).length c629,sl p630 (x622.agreed).length c631,sl p632 (x622.old).length c633,sb x622.owing,(1,[.pointer (pa p634)]),(1,[.pointer (pa p636)]),(1,[.pointer (pa p638)]),su x622.hi,(4,(encs fPtr p640)),ei 4 x622.cursor,ei 4 x622.heard,(1,[.map p642]),(1,[.map p645]),sl p648 (x622.held).length c649,(1,[.map p650]),su x622.last,(1,[.pointer (pa p653)]),si x622.seedTo,si x622.seeds,sl p655 (x622.cut).length c656,sl p657 (x622.end_).length c658,su x622.floor,sb x622.floored,sb x622.seeded,sb x622.said]) p659 c660 [.slice p661 (x622.replies).length c662] b623 ((hS.regr 0 [(true,33),(false,2)] rfl).sbK [11]) hx663) ?_)
 rintro _ κ w a ⟨p664,c665,p666,c667,rfl,h2⟩ hF hB
 have hS:=(hB _ _ h2).unregrK 0 [(true,33),(false,2)] (s':=[si x622.dc,si x622.nodes,si x622.role,si x622.epoch,si x622.base,si x622.txs,sl p624 (x622.m.Cuts).length c625,sl p626 (x622.m.Nodes).length c627,sl p628 (x622.modes).length c629,sl p630 (x622.agreed).length c631,sl p632 (x622.old).length c633,sb x622.owing,(1,[.pointer (pa p634)]),(1,[.pointer (pa p636)]),(1,[.pointer (pa p638)]),su x622.hi,(4,(encs fPtr p640)),ei 4 x622.cursor,ei 4 x622.heard,(1,[.map p642]),(1,[.map p645]),sl p648 (x622.held).length c649,(1,[.map p650]),su x622.last,(1,[.pointer (pa p653)]),si x622.seedTo,si x622.seeds,sl p655 (x622.cut).length c656,sl p657 (x622.end_).length c658,su x622.floor,sb x622.floored,sb x622.seeded,sb x622.said,sl p666 (x663.2).length c667,sl p661 (x622.replies).length c662]) hgx6630 rfl
 refine wp 2 [15,127,128,129] hF fun a hF=>?_
 refine wpListIn_nil ?_
 obtain ⟨cs668,hS⟩:=hS.foldI (ck:=c_gate_Gate) (fs:=q_gate_Gate) b623 (p624,c625,p626,c627,p628,c629,p630,c631,p632,c633,p634,cs635,p636,cs637,p638,cs639,p640,cs641,p642,m643,c644,p645,m646,c647,p648,c649,p650,m651,c652,p653,cs654,p655,c656,p657,c658,p666,c667,p661,c662) (T_gate_Gate.mk x622.dc x622.nodes x622.role x622.epoch x622.base x622.txs (T_api_Map.mk x622.m.Cuts x622.m.Nodes) x622.modes x622.agreed x622.old x622.owing x622.st x622.log x622.co x622.hi x622.boxes x622.cursor x622.heard x622.calls x622.reads x622.held x622.loads x622.last x622.mv x622.seedTo x622.seeds x622.cut x622.end_ x622.floor x622.floored x622.seeded x622.said x663.2 x622.replies) [0,3,4,5,1,6,7,8,9,10,11,12,13,14,15,16,17] [2] [2,3,4,5,6,7,8,9,10,11,12,1,14] (by decide) (by kernel_rfl) (by kernel_rfl)
 cases hv621
 exact ⟨_,p664,c665,hF.kp [15,127,128,129],hS.sp [1] [0],trivial⟩
 rintro a w ⟨κ,p618,c619,hF,hS,-⟩
 refine hK616 _ _ ?_
 refine wpIn_block ?_
 refine loop_fuel (n:=N) (fun n a w => ∃(κ:Gh) (y722 y723:Int),Fr (151) [] [(15,vi y722),(127,.slice p618 (v621.1).length c619),(128,vi v621.2),(129,vi y723)] a∧SS [] κ0 w0 κ w [.tok p618 61 15 (v621.1).length c619] [Ro.mp t_api_Mail p618 c619 v621.1]∧M.law22_GateHolds_L3 N n v621 y722 y723=some r) ?_ ?_
 exact ⟨_,(-1),0,hF.kp [15,127,128,129],hS.sp [0] [0],H⟩
 rintro n a w ⟨κ,y722,y723,hF,hS,H⟩
 rcases n with _|fuel3
 simp [M.law22_GateHolds_L3] at H
 simp only [M.law22_GateHolds_L3] at H
 refine wpIn_seq_k fun K724 hK724=>?_
 refine wpIn_region_lit ?_
 refine wl_pure (L':=[(15,vi y722),(127,.slice p618 (v621.1).length c619),(128,vi v621.2),(129,vi y723),(130,vb (decide (y723<v621.2)))]) 1 [15,127,128,129,130] hF (by kernel_rfl) fun a hF=>?_
 refine wpListIn_nil ?_
 refine hK724 _ _ ?_
 refine wpIn_seq_k fun K725 hK725=>?_
 refine bif_split H (fun hb H=>?_) (fun hb H=>?_)
 refine cond_t hF (by kernel_rfl) hb ?_
 refine wpIn_skip ?_
 refine hK725 _ _ ?_
 refine seq_join (fun a w => ∃(κ:Gh) (y726:Int),Fr (151) [] [(15,vi y726),(127,.slice p618 (v621.1).length c619),(128,vi v621.2),(129,vi y723)] a∧SS [] κ0 w0 κ w [.tok p618 61 15 (v621.1).length c619] [Ro.mp t_api_Mail p618 c619 v621.1]∧M.law22_GateHolds_k4 N (M.law22_GateHolds_L3 N fuel3) v621 y723 y726=some r) ?_ ?_
 refine wpIn_block ?_
 refine wpIn_seq_k fun K727 hK727=>?_
 refine wpIn_region_lit ?_
 refine bind_split H (fun x728 hx728 H=>?_)
 refine wc (wo_index hF hS (by kernel_rfl) 0 (E:=61) (sz:=15) rfl rfl rfl (by kernel_rfl) rfl hx728 (by kernel_rfl) (by kernel_rfl) fun b729 f730 a hpx728 hF=>?_)
 obtain ⟨_,⟨⟨p731,c732,p733,c734⟩,rfl,hR⟩,hc⟩:=hS.elem 0 rfl hpx728 hx728
 have hS:=(hS.adds hR).add hc
 refine wc (wo_val hF (by kernel_rfl) (v := .agg (flat [si x728.To,si x728.Msg.Kind,su x728.Msg.Id,su x728.Msg.N,su x728.Msg.TS,sg x728.Msg.Lo,sg x728.Msg.Hi,sl p731 (x728.Msg.Vers).length c732,sl p733 (x728.Msg.Vec).length c734,si x728.Msg.Cmd.Kind,si x728.Msg.Cmd.DC,si x728.Msg.Cmd.Shard,si x728.Msg.Cmd.Node,si x728.Msg.Cmd.Mode,sg x728.Msg.Cmd.Key]).toArray) ((val_loadCs 0 0 15 (s:=[si x728.To,si x728.Msg.Kind,su x728.Msg.Id,su x728.Msg.N,su x728.Msg.TS,sg x728.Msg.Lo,sg x728.Msg.Hi,sl p731 (x728.Msg.Vers).length c732,sl p733 (x728.Msg.Vec).length c734,si x728.Msg.Cmd.Kind,si x728.Msg.Cmd.DC,si x728.Msg.Cmd.Shard,si x728.Msg.Cmd.Node,si x728.Msg.Cmd.Mode,sg x728.Msg.Cmd.Key]) (s':=[si x728.To,si x728.Msg.Kind,su x728.Msg.Id,su x728.Msg.N,su x728.Msg.TS,sg x728.Msg.Lo,sg x728.Msg.Hi,sl p731 (x728.Msg.Vers).length c732,sl p733 (x728.Msg.Vec).length c734,si x728.Msg.Cmd.Kind,si x728.Msg.Cmd.DC,si x728.Msg.Cmd.Shard,si x728.Msg.Cmd.Node,si x728.Msg.Cmd.Mode,sg x728.Msg.Cmd.Key]) (n:=15) rfl rfl rfl (show segGood [si x728.To,si x728.Msg.Kind,su x728.Msg.Id,su x728.Msg.N,su x728.Msg.TS,sg x728.Msg.Lo,sg x728.Msg.Hi,sl p731 (x728.Msg.Vers).length c732,sl p733 (x728.Msg.Vec).length c734,si x728.Msg.Cmd.Kind,si x728.Msg.Cmd.DC,si x728.Msg.Cmd.Shard,si x728.Msg.Cmd.Node,si x728.Msg.Cmd.Mode,sg x728.Msg.Cmd.Key] from (sgN 15 sgNil)) (by kernel_rfl) (by kernel_rfl) (by kernel_rfl) (by kernel_rfl) (by kernel_rfl) _ ⟨_,hS⟩)) fun a hF=>?_)
 refine wc (wal hF hS [si 0,si 0,su 0,su 0,su 0,sg ByteArray.empty,sg ByteArray.empty,sl none 0 0,sl none 0 0,si 0,si 0,si 0,si 0,si 0,sg ByteArray.empty] (sgN 15 sgNil) fun b735 a w hF hS=>?_)
 refine wc (wst hF hS 0 0 15 [si x728.To,si x728.Msg.Kind,su x728.Msg.Id,su x728.Msg.N,su x728.Msg.TS,sg x728.Msg.Lo,sg x728.Msg.Hi,sl p731 (x728.Msg.Vers).length c732,sl p733 (x728.Msg.Vec).length c734,si x728.Msg.Cmd.Kind,si x728.Msg.Cmd.DC,si x728.Msg.Cmd.Shard,si x728.Msg.Cmd.Node,si x728.Msg.Cmd.Mode,sg x728.Msg.Cmd.Key] (sgN 15 sgNil) fun a w hF hS=>?_)
 refine wpListIn_nil ?_
 refine hK727 _ _ ?_
 refine wpIn_seq_k fun K736 hK736=>?_
 refine wpIn_region_lit ?_
 refine bind_split H (fun v738 hv738 H=>?_)
 refine wl_join (fun a w => ∃κ:Gh,Fr (151) [] [(15,vi y722),(17,pt b735 0),(127,.slice p618 (v621.1).length c619),(128,vi v621.2),(129,vi y723),(142,vb v738)] a∧SS [] κ0 w0 κ w [.box b735 61 [si x728.To,si x728.Msg.Kind,su x728.Msg.Id,su x728.Msg.N,su x728.Msg.TS,sg x728.Msg.Lo,sg x728.Msg.Hi,sl p731 (x728.Msg.Vers).length c732,sl p733 (x728.Msg.Vec).length c734,si x728.Msg.Cmd.Kind,si x728.Msg.Cmd.DC,si x728.Msg.Cmd.Shard,si x728.Msg.Cmd.Node,si x728.Msg.Cmd.Mode,sg x728.Msg.Cmd.Key],.tok p618 61 15 (v621.1).length c619] [Ro.mp t_api_Mail p618 c619 v621.1,Ro.mp f_api_Ver.ty p731 c732 x728.Msg.Vers,Ro.mp (fInt .u64).ty p733 c734 x728.Msg.Vec]∧True) ?_ ?_
 refine wp 2 [15,17,127,128,129,134] hF fun a hF=>?_
 refine wc (wld hF hS 0 1 0 fun a hF=>?_)
 refine wp 2 [15,17,127,128,129,137] hF fun a hF=>?_
 refine bif_split hv738 (fun hb hv738=>?_) (fun hb hv738=>?_)
 have hF:=hF.boolv 137 (by kernel_rfl) hb
 refine wp 5 [15,17,127,128,129,142] hF fun a hF=>?_
 refine wpListIn_nil ?_
 cases hv738
 exact ⟨_,hF.kp [15,17,127,128,129,142],hS.sp [0,1] [3,1,2],trivial⟩
 have hF:=hF.boolv 137 (by kernel_rfl) hb
 refine wp 2 [15,17,127,128,129,137,139] hF fun a hF=>?_
 refine wcg hF (wld hF hS 0 1 0 fun a hF=>?_)
 refine wp 2 [15,17,127,128,129,142] hF fun a hF=>?_
 refine wpListIn_nil ?_
 cases hv738
 exact ⟨_,hF.kp [15,17,127,128,129,142],hS.sp [0,1] [3,1,2],trivial⟩
 rintro a w ⟨κ,hF,hS,-⟩
 refine hK736 _ _ ?_
 refine bif_split H (fun hb H=>?_) (fun hb H=>?_)
 refine cond_t hF (by kernel_rfl) hb ?_
 refine wpIn_region_lit ?_
 refine wp 1 [127,128,129,143] hF fun a hF=>?_
 refine wc (wld hF hS 0 0 0 fun a hF=>?_)
 refine wp 1 [15,127,128,129] hF fun a hF=>?_
 refine wpListIn_nil ?_
 exact ⟨_,x728.To,hF.kp [15,127,128,129],hS.sp [1] [0],H⟩
 refine cond_f hF (by kernel_rfl) hb ?_
 refine wpIn_skip ?_
 exact ⟨_,y722,hF.kp [15,127,128,129],hS.sp [1] [0],H⟩
 rintro a w ⟨κ,y726,hF,hS,H⟩
 unfold M.law22_GateHolds_k4 at H
 refine wpIn_region_lit ?_
 refine wp 2 [15,127,128,129] hF fun a hF=>?_
 refine wpListIn_nil ?_
 exact ⟨fuel3,Nat.lt_succ_self _,_,y726,IntKind.i64.wrap (y723+1),hF.kp [15,127,128,129],hS.sp [0] [0],H⟩
 refine cond_f hF (by kernel_rfl) hb ?_
 refine wpIn_exit ?_
 refine hK615 _ _ ?_
 refine wpIn_seq_k fun K739 hK739=>?_
 refine wpIn_region_lit ?_
 refine bind_split H (fun v741 hv741 H=>?_)
 refine wl_join (fun a w => ∃κ:Gh,Fr (151) [] [(8,vb v741)] a∧SS [] κ0 w0 κ w [] []∧True) ?_ ?_
 refine bind_split hv741 (fun x742 hx742 hv741=>?_)
 refine wc (wo_callP hF hS (by kernel_rfl) (by kernel_rfl) (C_law22_awake N hS.fresh ((hS.pick [] (by kernel_rfl)).ro) hx742) ?_)
 rintro _ κ w a ⟨rfl,hR,hN⟩ hF hS hO
 refine wp 1 [15,147] hF fun a hF=>?_
 refine bif_split hv741 (fun hb hv741=>?_) (fun hb hv741=>?_)
 have hF:=hF.boolv 147 (by kernel_rfl) hb
 refine wp 4 [8] hF fun a hF=>?_
 refine wpListIn_nil ?_
 cases hv741
 exact ⟨_,hF.kp [8],hS.sp [] [],trivial⟩
 have hF:=hF.boolv 147 (by kernel_rfl) hb
 refine wp 4 [8] hF fun a hF=>?_
 refine wpListIn_nil ?_
 cases hv741
 exact ⟨_,hF.kp [8],hS.sp [] [],trivial⟩
 rintro a w ⟨κ,hF,hS,-⟩
 refine hK739 _ _ ?_
 refine wpIn_ret ?_
 cases H
 exact (ret_done hF hS (res1 Tryz.results4 (rvt hF)) ⟨rfl,(hS.pick [] (by kernel_rfl)).ro,hS.newC [] (by decide) (by kernel_rfl)⟩)
end Go.Cf
