/- The walks: each function returns what its model says. Printed by a program of ours. -/
import Derived.Test.YtgpgcfgejggolaaGreatDoorZM1
import Derived.Test.YtgpgcfgejggolaaGreatDoorZWk2
import Derived.Test.YtgpgcfgejggolaaGreatDoorZWk3
import Derived.Test.YtgpgcfgejggolaaGreatDoorZWp1
import Derived.Test.YtgpgcfgejggolaaGreatDoorZWp2
import Derived.Test.YtgpgcfgejggolaaGreatDoorZWp3
import Derived.Test.YtgpgcfgejggolaaGreatDoorZWLib
namespace Go.Cf
open Go Go.Proofs
set_option linter.unusedVariables false
set_option maxRecDepth 20000
set_option maxHeartbeats 8000000
theorem C_script_Shell_Do_nil0 (N:Nat){Ms:List Nat}{κ0:Gh}{w0:World}(a1:ByteArray)(hB:SB Ms κ0 w0 [] [GL]){r:(ByteArray)}(H:M.script_Shell_Do_nil0 N a1=some r) :
    Calls Tryz.prog 7 #[.pointer none,.string (a1)] w0 (Post Ms κ0 w0 fun v κ w=>v = .string (r)∧SS Ms κ0 w0 κ w [] []):=by
 have hS:=hB.hS
 have hfr:=hS.fresh
 refine en Tryz.func7 rfl Tryz.ntmps7 fun a hF=>?_
 unfold M.script_Shell_Do_nil0 at H
 refine qs fun _ hz=>rl (wp 1 [0,1] hF fun a hF=>nl (hz _ _ (qs fun _ h3=>qr fun _ h4=>(bd H fun v6 hv6 H=>wl_join (fun a w => ∃κ:Gh,Fr (144) [] [(0,.pointer none),(1,.string (a1)),(25,vb v6)] a∧SS Ms κ0 w0 κ w [] [GL]∧True) ?_ ?_))))
 refine wp 3 [0,1,21] hF fun a hF=>bs hv6 (fun hb hv6=>?_) fun hb hv6=>?_
 have hF:=hF.bv 21 hb
 refine wp 4 [0,1,25] hF fun a hF=>nl ?_
 cases hv6
 exact ⟨_,hF.kp [0,1,25],hS.sp [] [0],trivial⟩
 have hF:=hF.bv 21 hb
 refine wl_pure (L':=[(0,.pointer none),(1,.string (a1)),(21,vb false),(22,.string (a1))]) 1 [0,1,21,22] hF kr fun a hF=>bd hv6 fun x7 hx7 hv6=>wcg hF (wo_val hF kr (v := .int .u8 (x7)) ((val_sIx rfl rfl rfl kr hx7) _) fun a hF=>wp 2 [0,1,25] hF fun a hF=>nl ?_)
 cases hv6
 exact ⟨_,hF.kp [0,1,25],hS.sp [] [0],trivial⟩
 rintro a w ⟨κ,hF,hS,-⟩
 refine h4 _ _ (bc hF H (fun hb H=>?_) fun hb H=>?_)
 refine qr fun _ h8=>(wp 1 [4] hF fun a hF=>(h8 _ _ (rt ?_)))
 cases H
 exact ret_done hF hS (res1 Tryz.results7 (rvt hF)) ⟨rfl,hS.sp [] []⟩
 refine sk (h3 _ _ (qr fun _ h9=>(bd H fun x10 hx10 H=>wc (wo_callP hF hS kr kr (C_script_said N hS.fresh 20 ((hS.pick [0] kr).ro) hx10) ?_))))
 rintro _ κ w a ⟨rfl,hR,hN⟩ hF hS hO
 refine wp 1 [0,1,5] hF fun a hF=>(h9 _ _ (qr fun _ h11=>(wp 1 [0,5,27] hF fun a hF=>bd H fun x12 hx12 H=>wc (wo_callP hF hS kr kr (C_strings_Split N hS.fresh a1 (ByteArray.mk #[32]) ((hS.pick [0] kr).ro) hx12) ?_))))
 rintro _ κ w a ⟨p13,c14,rfl,hR,hN⟩ hF hS hO
 have hS:=hS.adds hR
 refine wp 1 [0,5,6] hF fun a hF=>(h11 _ _ (qr fun _ h15=>(wl_pure (L':=[(0,.pointer none),(5,.string (x10)),(6,.slice p13 x12.length c14),(30,.slice p13 x12.length c14)]) 1 [0,5,6,30] hF kr fun a hF=>bd H fun x16 hx16 H=>wc (wo_index hF hS kr 0 (E:=9) (sz:=1) rfl rfl rfl kr rfl hx16 kr kr fun b17 f18 a hpx16 hF=>wc (wo_loadRo (t:=fStr) hF hS kr 0 0 (v := .string (x16)) rfl rfl hpx16 rfl hx16 kr kr kr fun a hF=>bd H fun x19 hx19 H=>wc (wo_callP hF hS kr kr (C_script_form N hS.fresh x16 ((hS.pick [] kr).ro) hx19) ?_))))))
 rintro _ κ w a ⟨rfl,hR,hN⟩ hF hS hO
 refine wp 5 [0,5,6,7,8] hF fun a hF=>(h15 _ _ (qs fun _ h20=>qr fun _ h21=>(bd H fun v23 hv23 H=>wl_join (fun a w => ∃κ:Gh,Fr (144) [] [(0,.pointer none),(5,.string (x10)),(6,.slice p13 x12.length c14),(7,.string (x19.1)),(45,vb v23)] a∧SS Ms κ0 w0 κ w [] [Ro.mp fStr.ty p13 c14 x12,GL]∧True) ?_ ?_)))
 refine wp 3 [0,5,6,7,38] hF fun a hF=>bs hv23 (fun hb hv23=>?_) fun hb hv23=>?_
 have hF:=hF.bv 38 hb
 refine wp 7 [0,5,6,7,45] hF fun a hF=>nl ?_
 cases hv23
 exact ⟨_,hF.kp [0,5,6,7,45],hS.sp [] [0,1],trivial⟩
 have hF:=hF.bv 38 hb
 refine wp 7 [0,5,6,7,45] hF fun a hF=>nl ?_
 cases hv23
 exact ⟨_,hF.kp [0,5,6,7,45],hS.sp [] [0,1],trivial⟩
 rintro a w ⟨κ,hF,hS,-⟩
 refine h21 _ _ (bc hF H (fun hb H=>?_) fun hb H=>?_)
 refine qr fun _ h24=>(wp 2 [4] hF fun a hF=>(h24 _ _ (rt ?_)))
 cases H
 exact ret_done hF hS (res1 Tryz.results7 (rvt hF)) ⟨rfl,hS.sp [] []⟩
 refine sk (h20 _ _ (qr fun _ h25=>(wp 1 [0,5,6,7,9] hF fun a hF=>(h25 _ _ (qr fun _ h26=>(wp 1 [0,5,6,7,9,10] hF fun a hF=>(h26 _ _ (qs fun _ h27=>qr fun _ h28=>(wl_pure (L':=[(0,.pointer none),(5,.string (x10)),(6,.slice p13 x12.length c14),(7,.string (x19.1)),(9,.slice none 0 0),(10,.slice none 0 0),(47,.slice p13 x12.length c14)]) 1 [0,5,6,7,9,10,47] hF kr fun a hF=>bd H fun x29 hx29 H=>wc (wo_slice hF hS kr 0 (E:=9) (lo:=1) (hi:=(x12.length:Int)) rfl rfl rfl kr ⟨_,rfl⟩ rfl hx29 kr kr fun p30 c31 a hF hS=>wp 2 [0,5,6,7,9,10,48,49,50] hF fun a hF=>(h28 _ _ (bk (loop_fuel (n:=N) (fun n a w => ∃(κ:Gh) (y82:List Int) (p83:Option Addr) (c84:Nat) (y85:List ByteArray) (p86:Option Addr) (c87:Nat) (y88:Int),Fr (144) [] [(0,.pointer none),(5,.string (x10)),(6,.slice p13 x12.length c14),(7,.string (x19.1)),(9,.slice p83 y82.length c84),(10,.slice p86 y85.length c87),(48,.slice p30 x29.length c31),(49,vi (x29.length:Int)),(50,vi y88)] a∧SS Ms κ0 w0 κ w [.tok p83 3 1 y82.length c84,.tok p86 9 1 y85.length c87] [Ro.mp fStr.ty p13 c14 x12,Ro.mp (fInt .i64).ty p83 c84 y82,Ro.mp fStr.ty p86 c87 y85,Ro.mp fStr.ty p30 c31 x29,GL]∧M.script_Shell_Do_nil0_L1 N n x10 x12 x19 x29 y82 y85 y88=some r) ?_ ?_)))))))))))))
 have hS:=hS.add (m:=Ro.mp (fInt .i64).ty none 0 ([]:List Int)) (Ro.nil (fInt .i64).ty _ _)
 have hS:=hS.add (m:=Ro.mp fStr.ty none 0 ([]:List ByteArray)) (Ro.nil fStr.ty _ _)
 have hS:=hS.addNil 3 1
 have hS:=hS.addNil 9 1
 exact ⟨_,([]:List Int),none,0,([]:List ByteArray),none,0,0,hF.kp [0,5,6,7,9,10,48,49,50],hS.sp [1,0] [3,1,0,2,4],H⟩
 rintro n a w ⟨κ,y82,p83,c84,y85,p86,c87,y88,hF,hS,H⟩
 rcases n with _|fuel1
 simp [M.script_Shell_Do_nil0_L1] at H
 simp only [M.script_Shell_Do_nil0_L1] at H
 refine qr fun _ h89=>(wp 1 [0,5,6,7,9,10,48,49,50,51] hF fun a hF=>(h89 _ _ (qs fun _ h90=>bc hF H (fun hb H=>?_) fun hb H=>?_)))
 refine sk (h90 _ _ (seq_join (fun a w => ∃(κ:Gh) (y91:List Int) (p92:Option Addr) (c93:Nat) (y94:List ByteArray) (p95:Option Addr) (c96:Nat),Fr (144) [] [(0,.pointer none),(5,.string (x10)),(6,.slice p13 x12.length c14),(7,.string (x19.1)),(9,.slice p92 y91.length c93),(10,.slice p95 y94.length c96),(48,.slice p30 x29.length c31),(49,vi (x29.length:Int)),(50,vi y88)] a∧SS Ms κ0 w0 κ w [.tok p92 3 1 y91.length c93,.tok p95 9 1 y94.length c96] [Ro.mp fStr.ty p13 c14 x12,Ro.mp (fInt .i64).ty p92 c93 y91,Ro.mp fStr.ty p95 c96 y94,Ro.mp fStr.ty p30 c31 x29,GL]∧M.script_Shell_Do_nil0_k2 N (M.script_Shell_Do_nil0_L1 N fuel1) x10 x12 x19 x29 y88 y91 y94=some r) ?_ ?_))
 refine bk (qr fun _ h97=>(wl_pure (L':=[(0,.pointer none),(5,.string (x10)),(6,.slice p13 x12.length c14),(7,.string (x19.1)),(9,.slice p83 y82.length c84),(10,.slice p86 y85.length c87),(48,.slice p30 x29.length c31),(49,vi (x29.length:Int)),(50,vi y88),(52,vi y88)]) 1 [0,5,6,7,9,10,48,49,50,52] hF kr fun a hF=>bd H fun x98 hx98 H=>wc (wo_index hF hS kr 3 (E:=9) (sz:=1) rfl rfl rfl kr rfl hx98 kr kr fun b99 f100 a hpx98 hF=>wc (wo_loadRo (t:=fStr) hF hS kr 3 0 (v := .string (x98)) rfl rfl hpx98 rfl hx98 kr kr kr fun a hF=>wp 2 [0,5,6,7,9,10,11,12,48,49,50] hF fun a hF=>(h97 _ _ (qs fun _ h101=>?_))))))
 refine qr fun _ h102=>(wl_pure (L':=[(0,.pointer none),(5,.string (x10)),(6,.slice p13 x12.length c14),(7,.string (x19.1)),(9,.slice p83 y82.length c84),(10,.slice p86 y85.length c87),(12,.string (x98)),(48,.slice p30 x29.length c31),(49,vi (x29.length:Int)),(50,vi y88),(55,.string (x19.1)),(56,vi y88)]) 2 [0,5,6,7,9,10,12,48,49,50,55,56] hF kr fun a hF=>bd H fun x103 hx103 H=>wc (wo_val hF kr (v := .int .u8 (x103)) ((val_sIx rfl rfl rfl kr hx103) _) fun a hF=>wp 1 [0,5,6,7,9,10,12,48,49,50,58] hF fun a hF=>(h102 _ _ (bc hF H (fun hb H=>?_) fun hb H=>?_))))
 refine qr fun _ h104=>(wp 1 [0,5,6,7,9,10,48,49,50,60] hF fun a hF=>bd H fun x105 hx105 H=>wc (wo_callP hF hS kr kr (C_script_number N hS.fresh x98 ((hS.pick [4] kr).ro) hx105) ?_))
 rintro _ κ w a ⟨rfl,hR,hN⟩ hF hS hO
 refine wp 5 [0,5,6,7,9,10,13,14,48,49,50] hF fun a hF=>(h104 _ _ (qs fun _ h106=>qr fun _ h107=>(wp 2 [0,5,6,7,9,10,13,48,49,50,65] hF fun a hF=>(h107 _ _ (bc hF H (fun hb H=>?_) fun hb H=>?_)))))
 refine qr fun _ h108=>(wp 2 [4] hF fun a hF=>(h108 _ _ (rt ?_)))
 cases H
 exact ret_done hF hS (res1 Tryz.results7 (rvt hF)) ⟨rfl,hS.sp [] []⟩
 refine sk (h106 _ _ (qr fun _ h109=>(wl_pure (L':=[(0,.pointer none),(5,.string (x10)),(6,.slice p13 x12.length c14),(7,.string (x19.1)),(10,.slice p86 y85.length c87),(48,.slice p30 x29.length c31),(49,vi (x29.length:Int)),(50,vi y88),(67,.slice p83 y82.length c84),(68,vi x105.1)]) 2 [0,5,6,7,10,48,49,50,67,68] hF kr fun a hF=>wc (wo_buildN (t:=(fInt .i64)) (z:=vi 0) (l:=[x105.1]) (vs:=[(0,vi x105.1)]) (cells := #[vi x105.1]) (E:=3) hF hS kr rfl kr kr rfl kr kr kr kr kr fun p110 κ a w hF hS=>bd H fun x111 hx111 H=>wc (wo_append (ty:=(fInt .i64).ty) hF hS kr 1 2 0 rfl rfl rfl kr kr rfl rfl rfl hx111 kr (i:=Tryz.t3) (z:=vi 0) kr kr kr fun p112 c113 κ a w hF hS=>?_)))))
 refine wp 1 [0,5,6,7,9,10,48,49,50] hF fun a hF=>(h109 _ _ (xt ?_))
 exact ⟨_,x111,p112,c113,y85,p86,c87,hF.kp [0,5,6,7,9,10,48,49,50],hS.sp [1,2] [2,0,4,5,6],H⟩
 refine sk (h101 _ _ (qs fun _ h114=>qr fun _ h115=>(wp 1 [0,5,6,7,9,10,12,48,49,50,71] hF fun a hF=>bd H fun x116 hx116 H=>wc (wo_callP hF hS kr kr (C_script_plain N hS.fresh x98 ((hS.pick [] kr).ro) hx116) ?_))))
 rintro _ κ w a ⟨rfl,hR,hN⟩ hF hS hO
 refine wp 1 [0,5,6,7,9,10,12,48,49,50,73] hF fun a hF=>(h115 _ _ (bc hF H (fun hb H=>?_) fun hb H=>?_))
 refine qr fun _ h117=>(wp 2 [4] hF fun a hF=>(h117 _ _ (rt ?_)))
 cases H
 exact ret_done hF hS (res1 Tryz.results7 (rvt hF)) ⟨rfl,hS.sp [] []⟩
 refine sk (h114 _ _ (rl (wl_pure (L':=[(0,.pointer none),(5,.string (x10)),(6,.slice p13 x12.length c14),(7,.string (x19.1)),(9,.slice p83 y82.length c84),(48,.slice p30 x29.length c31),(49,vi (x29.length:Int)),(50,vi y88),(75,.slice p86 y85.length c87),(76,.string (x98))]) 2 [0,5,6,7,9,48,49,50,75,76] hF kr fun a hF=>wc (wo_buildN (t:=fStr) (z := .string (ByteArray.empty)) (l:=[x98]) (vs:=[(0,.string (x98))]) (cells := #[.string (x98)]) (E:=9) hF hS kr rfl kr kr rfl kr kr kr kr kr fun p118 κ a w hF hS=>bd H fun x119 hx119 H=>wc (wo_append (ty:=fStr.ty) hF hS kr 2 3 0 rfl rfl rfl kr kr rfl rfl rfl hx119 kr (i:=Tryz.t9) (z := .string (ByteArray.empty)) kr kr kr fun p120 c121 κ a w hF hS=>?_)))))
 refine wp 1 [0,5,6,7,9,10,48,49,50] hF fun a hF=>nl ?_
 exact ⟨_,y82,p83,c84,x119,p120,c121,hF.kp [0,5,6,7,9,10,48,49,50],hS.sp [1,2] [2,3,0,5,6],H⟩
 rintro a w ⟨κ,y91,p92,c93,y94,p95,c96,hF,hS,H⟩
 unfold M.script_Shell_Do_nil0_k2 at H
 refine rl (wp 2 [0,5,6,7,9,10,48,49,50] hF fun a hF=>nl ?_)
 exact ⟨fuel1,Nat.lt_succ_self _,_,y91,p92,c93,y94,p95,c96,IntKind.i64.wrap (y88+1),hF.kp [0,5,6,7,9,10,48,49,50],hS.sp [0,1] (rg 5),H⟩
 refine xt (h27 _ _ (qs fun _ h122=>qr fun _ h123=>(wl_pure (L':=[(0,.pointer none),(6,.slice p13 x12.length c14),(9,.slice p83 y82.length c84),(10,.slice p86 y85.length c87),(80,.slice p13 x12.length c14)]) 1 [0,6,9,10,80] hF kr fun a hF=>bd H fun x124 hx124 H=>wc (wo_index hF hS kr 0 (E:=9) (sz:=1) rfl rfl rfl kr rfl hx124 kr kr fun b125 f126 a hpx124 hF=>wc (wo_loadRo (t:=fStr) hF hS kr 0 0 (v := .string (x124)) rfl rfl hpx124 rfl hx124 kr kr kr fun a hF=>wp 1 [0,6,9,10,83] hF fun a hF=>(h123 _ _ (bc hF H (fun hb H=>?_) fun hb H=>?_)))))))
 refine qs fun _ h127=>rgS hS [] ?_
 have hS:=hS.drew
 refine any_pure [0,3,6] [0,85,88,91] (L':=[(0,.pointer none),(85,.slice p83 y82.length c84),(88,.slice p83 y82.length c84),(91,.slice p83 y82.length c84)]) (listed':=(bitA 16 73)) (fuel:=13) hF (hS.sx [] (rg 5)) kr (by intro c a w t v h; cases t<;>exact h) kr rfl fun a hF=>bd H fun x128 hx128 H=>?_
 obtain ⟨b129,f130,hpx128⟩:=hS.ptr 1 rfl hx128
 refine atk 1 (some 86) hF (hS.sx [] (rg 5)) rfl (fun w _=>val_index (E:=3) (sz:=1) rfl hpx128 rfl kr rfl hx128 kr kr w) fun a hF=>atk 2 (some 87) hF (hS.sx [] (rg 5)) rfl (val_loadRo (t:=(fInt .i64)) 1 0 (v:=vi x128) rfl rfl hpx128 rfl hx128 kr kr kr) fun a hF=>bd H fun x131 hx131 H=>?_
 obtain ⟨b132,f133,hpx131⟩:=hS.ptr 1 rfl hx131
 refine atk 4 (some 89) hF (hS.sx [] (rg 5)) rfl (fun w _=>val_index (E:=3) (sz:=1) rfl hpx131 rfl kr rfl hx131 kr kr w) fun a hF=>atk 5 (some 90) hF (hS.sx [] (rg 5)) rfl (val_loadRo (t:=(fInt .i64)) 1 0 (v:=vi x131) rfl rfl hpx131 rfl hx131 kr kr kr) fun a hF=>bd H fun x134 hx134 H=>?_
 obtain ⟨b135,f136,hpx134⟩:=hS.ptr 1 rfl hx134
 refine atk 7 (some 92) hF (hS.sx [] (rg 5)) rfl (fun w _=>val_index (E:=3) (sz:=1) rfl hpx134 rfl kr rfl hx134 kr kr w) fun a hF=>atk 8 (some 93) hF (hS.sx [] (rg 5)) rfl (val_loadRo (t:=(fInt .i64)) 1 0 (v:=vi x134) rfl rfl hpx134 rfl hx134 kr kr kr) fun a hF=>anp [9] [0,94] hF (hS.sx [] (rg 5)) fun a hF=>ago 10 hF rfl (bd H fun x137 hx137 H=>wcS 0 [0,1] hF hS (fun hS=>C_cluster_New N (T_cluster_Setup.mk x128 x131 x134 false) (hS.sbK []) hx137) ?_)
 rintro _ κ w a ⟨p138,cs139,rfl,h2⟩ hF hB
 have hS:=hB _ _ h2
 refine ⟨fun _=>(hS.sx [] (rg 5)),?_⟩
 refine anp (ra 11 5) [0,15,16] hF (hS.sx [] (rg 5)) fun a hF=>and_ (h127 _ _ (seq_join (fun a w => ∃κ:Gh,Fr (144) [] [(16,vi x137.2)] a∧SS Ms κ0 w0 κ w [] [GL]∧M.script_Shell_Do_nil0_k3 N x137=some r) ?_ ?_))
 refine qr fun _ h142=>(bd H fun v143 hv143 H=>wl_join (fun a w => ∃κ:Gh,Fr (144) [] [(0,.pointer none),(15,.pointer (pa p138)),(16,vi x137.2),(103,vb false)] a∧SS Ms κ0 w0 κ w [ox o_cluster_Cluster p138 cs139 x137.1] [GL]∧True) ?_ ?_)
 refine wp 3 [0,15,16,100] hF fun a hF=>bs hv143 (fun hb hv143=>?_) fun hb hv143=>?_
 have hF:=hF.bv 100 hb
 refine wp 3 [0,15,16,103] hF fun a hF=>nl ?_
 cases hv143
 exact ⟨_,hF.kp [0,15,16,103],hS.sp [0] [4],trivial⟩
 have hF:=hF.bv 100 hb
 refine wp 3 [0,15,16,103] hF fun a hF=>nl ?_
 cases hv143
 exact ⟨_,hF.kp [0,15,16,103],hS.sp [0] [4],trivial⟩
 rintro a w ⟨κ,hF,hS,-⟩
 refine h142 _ _ (cf hF rfl (sk ?_))
 exact ⟨_,hF.kp [16],hS.sp [] [0],H⟩
 rintro a w ⟨κ,hF,hS,H⟩
 unfold M.script_Shell_Do_nil0_k3 at H
 refine qr fun _ h140=>(wp 1 [108] hF fun a hF=>bd H fun x141 hx141 H=>wc (wo_callP hF hS kr kr (C_script_said N hS.fresh x137.2 ((hS.pick [0] kr).ro) hx141) ?_))
 rintro _ κ w a ⟨rfl,hR,hN⟩ hF hS hO
 refine wp 1 [4] hF fun a hF=>(h140 _ _ (rt ?_))
 cases H
 exact ret_done hF hS (res1 Tryz.results7 (rvt hF)) ⟨rfl,hS.sp [] []⟩
 refine sk (h122 _ _ (qs fun _ h144=>qr fun _ h145=>(wp 9 [0,6,9,10,118] hF fun a hF=>(h145 _ _ (ct hF rfl (qr fun _ h146=>(bd H fun x147 hx147 H=>wc (wo_callP hF hS kr kr (C_script_said N hS.fresh 7 ((hS.pick [4] kr).ro) hx147) ?_))))))))
 rintro _ κ w a ⟨rfl,hR,hN⟩ hF hS hO
 refine wp 1 [4] hF fun a hF=>(h146 _ _ (rt ?_))
 cases H
 exact ret_done hF hS (res1 Tryz.results7 (rvt hF)) ⟨rfl,hS.sp [] []⟩
end Go.Cf
