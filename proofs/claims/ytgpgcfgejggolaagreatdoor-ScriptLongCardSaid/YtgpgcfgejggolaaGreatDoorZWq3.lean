/- The walks: each function returns what its model says. Printed by a program of ours. -/
import Derived.Test.YtgpgcfgejggolaaGreatDoorZM1
import Derived.Test.YtgpgcfgejggolaaGreatDoorZWp3
import Derived.Test.YtgpgcfgejggolaaGreatDoorZWq1
import Derived.Test.YtgpgcfgejggolaaGreatDoorZWBld
import Derived.Test.YtgpgcfgejggolaaGreatDoorZWq4
import Derived.Test.YtgpgcfgejggolaaGreatDoorZWLib
namespace Go.Cf
open Go Go.Proofs
set_option linter.unusedVariables false
set_option maxRecDepth 20000
set_option maxHeartbeats 8000000
theorem C_script_Shell_Run (N:Nat){Ms:List Nat}{κ0:Gh}{w0:World}(a1:T_script_Shell)(a5:ByteArray)(p2:Option Nat)(cs3:List Nat)(b4:Nat)(hB:SB Ms κ0 w0 [.box b4 37 [sp p2],ox o_cluster_Cluster p2 cs3 a1.c] [GL]){r:(ByteArray×Int×T_script_Shell)}(H:M.script_Shell_Run N a1 a5=some r) :
    Calls Tryz.prog 9 #[pt b4 0,.string (a5)] w0 (Post Ms κ0 w0 fun v κ w => ∃(p102:Option Nat) (cs103:List Nat),v = .tuple #[.string (r.1),vi r.2.1]∧SS Ms κ0 w0 κ w [.box b4 37 [sp p102],ox o_cluster_Cluster p102 cs103 r.2.2.c] []):=by
 have hS:=hB.hS
 have hfr:=hS.fresh
 refine enterM (N:=(29)) (L:=[(0,pt b4 0),(1,.string (a5))]) Tryz.func9 rfl Tryz.ntmps9 (show 2≤(29) by decide) rfl fun a hF=>?_
 unfold M.script_Shell_Run at H
 refine qr fun _ h6=>(wc (wbx hF hS [(1,[pt b4 0])] (sgN 1 sgNil) fun b7 a w hF hS=>wp 2 [1,2] hF fun a hF=>(h6 _ _ (qs fun _ h8=>qr fun _ h9=>(bd H fun v11 hv11 H=>wl_join (fun a w => ∃κ:Gh,Fr (29) [] [(1,.string (a5)),(2,pt b7 0),(16,vb v11)] a∧SS Ms κ0 w0 κ w [.box b7 22 [(1,[pt b4 0])],.box b4 37 [sp p2],ox o_cluster_Cluster p2 cs3 a1.c] [GL]∧True) ?_ ?_)))))
 refine wp 4 [1,2,12] hF fun a hF=>bs hv11 (fun hb hv11=>?_) fun hb hv11=>?_
 have hF:=hF.bv 12 hb
 refine wp 4 [1,2,16] hF fun a hF=>nl ?_
 cases hv11
 exact ⟨_,hF.kp [1,2,16],hS.sp [0,1,2] [0],trivial⟩
 have hF:=hF.bv 12 hb
 refine wp 1 [1,2,12,13] hF fun a hF=>bd hv11 fun x12 hx12 hv11=>wcg hF (wo_callP hF hS kr kr (C_strings_Count N hS.fresh a5 (ByteArray.mk #[10]) ((hS.pick [] kr).ro) hx12) ?_)
 rintro _ κ w a ⟨rfl,hR,hN⟩ hF hS hO
 refine wp 2 [1,2,16] hF fun a hF=>nl ?_
 cases hv11
 exact ⟨_,hF.kp [1,2,16],hS.sp [0,1,2] [0],trivial⟩
 rintro a w ⟨κ,hF,hS,-⟩
 refine h9 _ _ (bc hF H (fun hb H=>?_) fun hb H=>?_)
 refine qr fun _ h13=>(wp 2 [4,5] hF fun a hF=>(h13 _ _ (rt ?_)))
 cases H
 exact ret_done0 hF hS (res2 Tryz.results9 (rvt hF) (rvt hF)) ⟨p2,cs3,rfl,hS.sp [1,2] []⟩
 refine sk (h8 _ _ (qr fun _ h14=>(wc (wal hF hS [(1,[.pointer none]),sl none 0 0] (sgN 2 sgNil) fun b15 a w hF hS=>(h14 _ _ (qs fun _ h16=>qr fun _ h17=>(wl_pure (L':=[(2,pt b7 0),(6,pt b15 0),(17,.string (a5))]) 1 [2,6,17] hF kr fun a hF=>bd H fun x18 hx18 H=>wc (wo_callP hF hS kr kr (C_strings_SplitSeq N hS.fresh a5 (ByteArray.mk #[10]) ((hS.pick [] kr).ro) hx18) ?_))))))))
 rintro _ κ w a ⟨b19,b20,b21,rfl,hR,hN⟩ hF hS hO
 have hS:=hS.addC hO hN
 refine h17 _ _ (bk (bd H fun v99 hv99 H=>?_))
 have hS:=hS.add (m:=MP.const (SlfIs b15 (.pointer none) false)) rfl
 have hS:=hS.addOwn (fInt .u8) 5
 have hS:SS Ms κ0 w0 _ _ [.box b15 64 [(1,[.pointer none]),sl none 0 0],.box b7 22 [(1,[pt b4 0])],.box b4 37 [sp p2],.ext (ownX (fInt .u8) 5 none 0 ([]:List Int)),ox o_cluster_Cluster p2 cs3 a1.c,.box b19 9 [sg (ByteArray.mk #[10])],.box b20 9 [sg a5],.box b21 3 [si 0]] _:=hS.selp [4,5,6,0,7,1,2,3] dc kr
 refine wp_range' (C:=[.box b15 64 [(1,[.pointer none]),sl none 0 0],.box b7 22 [(1,[pt b4 0])],.box b4 37 [sp p2],.ext (ownX (fInt .u8) 5 none 0 ([]:List Int)),ox o_cluster_Cluster p2 cs3 a1.c]) (Cap:=[.box b19 9 [sg (ByteArray.mk #[10])],.box b20 9 [sg a5],.box b21 3 [si 0]]) (R':=[MP.const (SlfIs b15 (.pointer none) false),GL]) (caps := #[pt b19 0,pt b20 0,pt b21 0]) (f:=150) [] (fun l => #[.func (.yield l) #[] #[],pt b19 0,pt b20 0,pt b21 0]) hF hS kr (fun _ _=>rfl) ((hS.pick [0,1] kr).ro) (fun l=>by kernel_rfl) fun b22 l rc w hrc hS=>?_
 refine ⟨fun x=>(fun (v82:(Bool×(List Int)×(Option T_cluster_Cluster)×Nat)) (x:XF) => ∃(r74:Value) (p76:Option Addr) (c77:Nat) (p79:Option Nat) (cs80:List Nat),x=mkX b22 l (lp rc [] v82.2.2.2) [.box b15 64 [(1,[r74]),sl p76 (v82.2.1).length c77],.box b7 22 [(1,[pt b4 0])],.box b4 37 [sp p79],.ext (ownX (fInt .u8) 5 p76 c77 v82.2.1),ox o_cluster_Cluster p79 cs80 v82.2.2.1] [MP.const (SlfIs b15 r74 v82.1),GL]) v99 x,?_,?_⟩
 have hS:=(hS.rebase.add (m:=MP.const ((fun (v82:(Bool×(List Int)×(Option T_cluster_Cluster)×Nat)) (x:XF) => ∃(r74:Value) (p76:Option Addr) (c77:Nat) (p79:Option Nat) (cs80:List Nat),x=mkX b22 l (lp rc [] v82.2.2.2) [.box b15 64 [(1,[r74]),sl p76 (v82.2.1).length c77],.box b7 22 [(1,[pt b4 0])],.box b4 37 [sp p79],.ext (ownX (fInt .u8) 5 p76 c77 v82.2.1),ox o_cluster_Cluster p79 cs80 v82.2.2.1] [MP.const (SlfIs b15 r74 v82.1),GL]) (false,([]:List Int),a1.c,0) (mkX b22 l (lp rc [] 0) [.box b15 64 [(1,[.pointer none]),sl none 0 0],.box b7 22 [(1,[pt b4 0])],.box b4 37 [sp p2],.ext (ownX (fInt .u8) 5 none 0 ([]:List Int)),ox o_cluster_Cluster p2 cs3 a1.c] [MP.const (SlfIs b15 (.pointer none) false),GL]))) ⟨.pointer none,none,0,p2,cs3,rfl⟩).pick (R':=[GL,MP.const ((fun (v82:(Bool×(List Int)×(Option T_cluster_Cluster)×Nat)) (x:XF) => ∃(r74:Value) (p76:Option Addr) (c77:Nat) (p79:Option Nat) (cs80:List Nat),x=mkX b22 l (lp rc [] v82.2.2.2) [.box b15 64 [(1,[r74]),sl p76 (v82.2.1).length c77],.box b7 22 [(1,[pt b4 0])],.box b4 37 [sp p79],.ext (ownX (fInt .u8) 5 p76 c77 v82.2.1),ox o_cluster_Cluster p79 cs80 v82.2.2.1] [MP.const (SlfIs b15 r74 v82.1),GL]) (false,([]:List Int),a1.c,0) (mkX b22 l (lp rc [] 0) [.box b15 64 [(1,[.pointer none]),sl none 0 0],.box b7 22 [(1,[pt b4 0])],.box b4 37 [sp p2],.ext (ownX (fInt .u8) 5 none 0 ([]:List Int)),ox o_cluster_Cluster p2 cs3 a1.c] [MP.const (SlfIs b15 (.pointer none) false),GL]))]) [2,0] kr
 refine C_strings_splitSeq_1 N (Y:=(fun (v82:(Bool×(List Int)×(Option T_cluster_Cluster)×Nat)) (x:XF) => ∃(r74:Value) (p76:Option Addr) (c77:Nat) (p79:Option Nat) (cs80:List Nat),x=mkX b22 l (lp rc [] v82.2.2.2) [.box b15 64 [(1,[r74]),sl p76 (v82.2.1).length c77],.box b7 22 [(1,[pt b4 0])],.box b4 37 [sp p79],.ext (ownX (fInt .u8) 5 p76 c77 v82.2.1),ox o_cluster_Cluster p79 cs80 v82.2.2.1] [MP.const (SlfIs b15 r74 v82.1),GL])) (B:=(fun (v82:(Bool×(List Int)×(Option T_cluster_Cluster)×Nat)) x23=>bif (v82.2.2.2==0) then (Option.bind (M.script_Shell_Do N (T_script_Shell.mk v82.2.2.1) x23) fun x84=>(bif (!sEq x84.1 (ByteArray.mk #[])) then (Option.bind (M.strings_Builder_WriteString N (T_strings_Builder.mk v82.1 v82.2.1) x84.1) fun x89=>(Option.bind (M.strings_Builder_WriteByte N (T_strings_Builder.mk x89.2.2.addr x89.2.2.buf) 10) fun x94=>(some (((x94.2.addr,x94.2.buf,x84.2.c,0)),true)))) else (some (((v82.1,v82.2.1,x84.2.c,0)),true)))) else none)) (l:=l) ?_ (ByteArray.mk #[10]) a5 0 hS hv99
 rintro v82 _ κ w x23 s' c ⟨r74,p76,c77,p79,cs80,rfl⟩ hp hf hnd hlt hR H
 refine bif_split H (fun hn H=>?_) (fun _ H=>by cases H)
 refine round_at (L:=[(2,pt b7 0),(6,pt b15 0),(19,.string (x23))]) hp hf hnd hlt hn hrc rfl [2,6,19] hF kr kr fun a hF hS=>?_
 have hS:=hS.adds hR
 skip
 refine rl (wl_pure (L':=[(2,pt b7 0),(6,pt b15 0),(7,.string (x23))]) 1 [2,6,7] hF kr fun a hF=>nl (⟨_,_,_,hS,fun wb hS=>?_⟩))
 obtain ⟨κb,hκb⟩ : ∃κb,κb=κ:=⟨_,rfl⟩
 subst hκb
 refine bk (qr fun _ h83=>(wc (wld hF hS 1 0 0 fun a hF=>wp 1 [2,6,20,21] hF fun a hF=>bd H fun x84 hx84 H=>wc (wcS 2 [2,4,0,1,3] hF hS (fun hS=>C_script_Shell_Do N (T_script_Shell.mk v82.2.2.1) x23 p79 cs80 b4 (hS.sbK [1]) hx84) ?_))))
 rintro _ κ w a ⟨p85,cs86,rfl,h2⟩ hF hB
 have hS:=hB _ _ h2
 refine wp 1 [2,6,8] hF fun a hF=>(h83 _ _ (qr fun _ h87=>(wl_pure (L':=[(2,pt b7 0),(6,pt b15 0),(8,.string (x84.1)),(24,vb (!sEq x84.1 (ByteArray.mk #[])))]) 2 [2,6,8,24] hF kr fun a hF=>(h87 _ _ (bc hF H (fun hb H=>?_) fun hb H=>?_)))))
 refine qr fun _ h88=>(wl_pure (L':=[(2,pt b7 0),(6,pt b15 0),(25,.string (x84.1))]) 1 [2,6,25] hF kr fun a hF=>bd H fun x89 hx89 H=>wc (wcS 2 [2,4,0,1,3] hF hS (fun hS=>C_strings_Builder_WriteString N (T_strings_Builder.mk v82.1 v82.2.1) x84.1 r74 p76 c77 b15 (hS.sbK [0]) hx89) ?_))
 rintro _ κ w a ⟨r90,r91,p92,c93,rfl,h2⟩ hF hB
 have hS:=(hB _ _ h2).cC (C':=[.box b15 64 [(1,[r91]),sl p92 (x89.2.2.buf).length c93],.ext (ownX (fInt .u8) 5 p92 c93 x89.2.2.buf),.box b4 37 [sp p85],ox o_cluster_Cluster p85 cs86 x84.2.c,.box b7 22 [(1,[pt b4 0])]])
 refine h88 _ _ (rl (bd H fun x94 hx94 H=>wc (wcS 2 (rg 5) hF hS (fun hS=>C_strings_Builder_WriteByte N (T_strings_Builder.mk x89.2.2.addr x89.2.2.buf) 10 r91 p92 c93 b15 (hS.sbK [1]) hx94) ?_)))
 rintro _ κ w a ⟨r95,r96,p97,c98,rfl,h2⟩ hF hB
 have hS:=hB _ _ h2
 refine nl ?_
 cases H
 try dsimp only [Exit.inBlock,Exit.then]
 repeat rw [if_neg dc]
 refine re_normal [] (C:=[.box b15 64 [(1,[r96]),sl p97 (x94.2.buf).length c98],.box b7 22 [(1,[pt b4 0])],.box b4 37 [sp p85],.ext (ownX (fInt .u8) 5 p97 c98 x94.2.buf),ox o_cluster_Cluster p85 cs86 x84.2.c]) (R:=[MP.const (SlfIs b15 r96 x94.2.addr),GL]) (hS.sp [0,4,2,1,3] [1,5]) ?_
 exact ⟨r96,p97,c98,p85,cs86,rfl⟩
 refine sk ?_
 cases H
 try dsimp only [Exit.inBlock,Exit.then]
 repeat rw [if_neg dc]
 refine re_normal [] (C:=[.box b15 64 [(1,[r74]),sl p76 (v82.2.1).length c77],.box b7 22 [(1,[pt b4 0])],.box b4 37 [sp p85],.ext (ownX (fInt .u8) 5 p76 c77 v82.2.1),ox o_cluster_Cluster p85 cs86 x84.2.c]) (R:=[MP.const (SlfIs b15 r74 v82.1),GL]) (hS.sp [2,3,0,4,1] [0,1]) ?_
 exact ⟨r74,p76,c77,p85,cs86,rfl⟩
 rintro _ ⟨r74,p76,c77,p79,cs80,rfl⟩
 refine ⟨_,_,_,rfl,fun κ w a hF hS=>?_⟩
 refine bs H (fun hb H=>?_) fun hb H=>?_
 refine jumped0 hb (h16 _ _ (qr fun _ h100=>(bd H fun x101 hx101 H=>wc (wcS 2 [1,4,0,2,3,5] hF hS (fun hS=>C_strings_Builder_String N (T_strings_Builder.mk v99.1 v99.2.1) r74 p76 c77 b15 (hS.sbK [0]) hx101) ?_))))
 rintro _ κ w a ⟨rfl,h2⟩ hF hB
 have hS:=hB _ _ h2
 refine wl_pure (L':=[(4,.string (x101)),(5,vi 0)]) 2 [4,5] hF kr fun a hF=>(h100 _ _ (rt (ret_doneM (C':=[.box b7 22 [(1,[pt b4 0])],.box b4 37 [sp p79],ox o_cluster_Cluster p79 cs80 v99.2.2.1]) hF hS 0 rfl kr fun w hS=>?_)))
 cases H
 exact ⟨_,(res2 Tryz.results9 (rvt hF) (rvt hF)),⟨p79,cs80,rfl,hS.sp [1,2] []⟩⟩
 cases H
end Go.Cf
