/- The walks: each function returns what its model says. Printed by a program of ours. -/
import Derived.Test.YtgpgcfgejggolaaGreatDoorZM1
import Derived.Test.YtgpgcfgejggolaaGreatDoorZWp3
import Derived.Test.YtgpgcfgejggolaaGreatDoorZWq1
import Derived.Test.YtgpgcfgejggolaaGreatDoorZWBld
import Derived.Test.YtgpgcfgejggolaaGreatDoorZWq4
import Derived.Test.YtgpgcfgejggolaaGreatDoorZWLib
import Derived.Test.YtgpgcfgejggolaaGreatDoorZWp4
namespace Go.Cf
open Go Go.Proofs
set_option linter.unusedVariables false
set_option maxRecDepth 20000
set_option maxHeartbeats 8000000
theorem C_script_Shell_Run_nil0 (N:Nat){Ms:List Nat}{κ0:Gh}{w0:World}(a1:ByteArray)(hB:SB Ms κ0 w0 [] [GL]){r:(ByteArray×Int)}(H:M.script_Shell_Run_nil0 N a1=some r) :
    Calls Tryz.prog 9 #[.pointer none,.string (a1)] w0 (Post Ms κ0 w0 fun v κ w=>v = .tuple #[.string (r.1),vi r.2]∧SS Ms κ0 w0 κ w [] []):=by
 have hS:=hB.hS
 have hfr:=hS.fresh
 refine enterM (N:=(29)) (L:=[(0,.pointer none),(1,.string (a1))]) Tryz.func9 rfl Tryz.ntmps9 (show 2≤(29) by decide) rfl fun a hF=>?_
 unfold M.script_Shell_Run_nil0 at H
 refine qs fun _ hz=>rl (wc (wbx hF hS [(1,[.pointer none])] (sgN 1 sgNil) fun b3 a w hF hS=>wp 2 [1,2] hF fun a hF=>nl (hz _ _ (qs fun _ h4=>qr fun _ h5=>(bd H fun v7 hv7 H=>wl_join (fun a w => ∃κ:Gh,Fr (29) [] [(1,.string (a1)),(2,pt b3 0),(16,vb v7)] a∧SS Ms κ0 w0 κ w [.box b3 22 [(1,[.pointer none])]] [GL]∧True) ?_ ?_)))))
 refine wp 4 [1,2,12] hF fun a hF=>bs hv7 (fun hb hv7=>?_) fun hb hv7=>?_
 have hF:=hF.bv 12 hb
 refine wp 4 [1,2,16] hF fun a hF=>nl ?_
 cases hv7
 exact ⟨_,hF.kp [1,2,16],hS.sp [0] [0],trivial⟩
 have hF:=hF.bv 12 hb
 refine wp 1 [1,2,12,13] hF fun a hF=>bd hv7 fun x8 hx8 hv7=>wcg hF (wo_callP hF hS kr kr (C_strings_Count N hS.fresh a1 (ByteArray.mk #[10]) ((hS.pick [] kr).ro) hx8) ?_)
 rintro _ κ w a ⟨rfl,hR,hN⟩ hF hS hO
 refine wp 2 [1,2,16] hF fun a hF=>nl ?_
 cases hv7
 exact ⟨_,hF.kp [1,2,16],hS.sp [0] [0],trivial⟩
 rintro a w ⟨κ,hF,hS,-⟩
 refine h5 _ _ (bc hF H (fun hb H=>?_) fun hb H=>?_)
 refine qr fun _ h9=>(wp 2 [4,5] hF fun a hF=>(h9 _ _ (rt ?_)))
 cases H
 exact ret_done0 hF hS (res2 Tryz.results9 (rvt hF) (rvt hF)) ⟨rfl,hS.sp [] []⟩
 refine sk (h4 _ _ (qr fun _ h10=>(wc (wal hF hS [(1,[.pointer none]),sl none 0 0] (sgN 2 sgNil) fun b11 a w hF hS=>(h10 _ _ (qs fun _ h12=>qr fun _ h13=>(wl_pure (L':=[(2,pt b3 0),(6,pt b11 0),(17,.string (a1))]) 1 [2,6,17] hF kr fun a hF=>bd H fun x14 hx14 H=>wc (wo_callP hF hS kr kr (C_strings_SplitSeq N hS.fresh a1 (ByteArray.mk #[10]) ((hS.pick [] kr).ro) hx14) ?_))))))))
 rintro _ κ w a ⟨b15,b16,b17,rfl,hR,hN⟩ hF hS hO
 have hS:=hS.addC hO hN
 refine h13 _ _ (bk (bd H fun v90 hv90 H=>?_))
 have hS:=hS.add (m:=MP.const (SlfIs b11 (.pointer none) false)) rfl
 have hS:=hS.addOwn (fInt .u8) 5
 have hS:SS Ms κ0 w0 _ _ [.box b11 64 [(1,[.pointer none]),sl none 0 0],.box b3 22 [(1,[.pointer none])],.ext (ownX (fInt .u8) 5 none 0 ([]:List Int)),.box b15 9 [sg (ByteArray.mk #[10])],.box b16 9 [sg a1],.box b17 3 [si 0]] _:=hS.selp [4,5,0,1,2,3] dc kr
 refine wp_range' (C:=[.box b11 64 [(1,[.pointer none]),sl none 0 0],.box b3 22 [(1,[.pointer none])],.ext (ownX (fInt .u8) 5 none 0 ([]:List Int))]) (Cap:=[.box b15 9 [sg (ByteArray.mk #[10])],.box b16 9 [sg a1],.box b17 3 [si 0]]) (R':=[MP.const (SlfIs b11 (.pointer none) false),GL]) (caps := #[pt b15 0,pt b16 0,pt b17 0]) (f:=150) [] (fun l => #[.func (.yield l) #[] #[],pt b15 0,pt b16 0,pt b17 0]) hF hS kr (fun _ _=>rfl) ((hS.pick [0,1] kr).ro) (fun l=>by kernel_rfl) fun b18 l rc w hrc hS=>?_
 refine ⟨fun x=>(fun (v75:(Bool×(List Int)×Nat)) (x:XF) => ∃(r70:Value) (p72:Option Addr) (c73:Nat),x=mkX b18 l (lp rc [] v75.2.2) [.box b11 64 [(1,[r70]),sl p72 (v75.2.1).length c73],.box b3 22 [(1,[.pointer none])],.ext (ownX (fInt .u8) 5 p72 c73 v75.2.1)] [MP.const (SlfIs b11 r70 v75.1),GL]) v90 x,?_,?_⟩
 have hS:=(hS.rebase.add (m:=MP.const ((fun (v75:(Bool×(List Int)×Nat)) (x:XF) => ∃(r70:Value) (p72:Option Addr) (c73:Nat),x=mkX b18 l (lp rc [] v75.2.2) [.box b11 64 [(1,[r70]),sl p72 (v75.2.1).length c73],.box b3 22 [(1,[.pointer none])],.ext (ownX (fInt .u8) 5 p72 c73 v75.2.1)] [MP.const (SlfIs b11 r70 v75.1),GL]) (false,([]:List Int),0) (mkX b18 l (lp rc [] 0) [.box b11 64 [(1,[.pointer none]),sl none 0 0],.box b3 22 [(1,[.pointer none])],.ext (ownX (fInt .u8) 5 none 0 ([]:List Int))] [MP.const (SlfIs b11 (.pointer none) false),GL]))) ⟨.pointer none,none,0,rfl⟩).pick (R':=[GL,MP.const ((fun (v75:(Bool×(List Int)×Nat)) (x:XF) => ∃(r70:Value) (p72:Option Addr) (c73:Nat),x=mkX b18 l (lp rc [] v75.2.2) [.box b11 64 [(1,[r70]),sl p72 (v75.2.1).length c73],.box b3 22 [(1,[.pointer none])],.ext (ownX (fInt .u8) 5 p72 c73 v75.2.1)] [MP.const (SlfIs b11 r70 v75.1),GL]) (false,([]:List Int),0) (mkX b18 l (lp rc [] 0) [.box b11 64 [(1,[.pointer none]),sl none 0 0],.box b3 22 [(1,[.pointer none])],.ext (ownX (fInt .u8) 5 none 0 ([]:List Int))] [MP.const (SlfIs b11 (.pointer none) false),GL]))]) [2,0] kr
 refine C_strings_splitSeq_1 N (Y:=(fun (v75:(Bool×(List Int)×Nat)) (x:XF) => ∃(r70:Value) (p72:Option Addr) (c73:Nat),x=mkX b18 l (lp rc [] v75.2.2) [.box b11 64 [(1,[r70]),sl p72 (v75.2.1).length c73],.box b3 22 [(1,[.pointer none])],.ext (ownX (fInt .u8) 5 p72 c73 v75.2.1)] [MP.const (SlfIs b11 r70 v75.1),GL])) (B:=(fun (v75:(Bool×(List Int)×Nat)) x19=>bif (v75.2.2==0) then (Option.bind (M.script_Shell_Do_nil0 N x19) fun x77=>(bif (!sEq x77 (ByteArray.mk #[])) then (Option.bind (M.strings_Builder_WriteString N (T_strings_Builder.mk v75.1 v75.2.1) x77) fun x80=>(Option.bind (M.strings_Builder_WriteByte N (T_strings_Builder.mk x80.2.2.addr x80.2.2.buf) 10) fun x85=>(some (((x85.2.addr,x85.2.buf,0)),true)))) else (some (((v75.1,v75.2.1,0)),true)))) else none)) (l:=l) ?_ (ByteArray.mk #[10]) a1 0 hS hv90
 rintro v75 _ κ w x19 s' c ⟨r70,p72,c73,rfl⟩ hp hf hnd hlt hR H
 refine bif_split H (fun hn H=>?_) (fun _ H=>by cases H)
 refine round_at (L:=[(2,pt b3 0),(6,pt b11 0),(19,.string (x19))]) hp hf hnd hlt hn hrc rfl [2,6,19] hF kr kr fun a hF hS=>?_
 have hS:=hS.adds hR
 skip
 refine rl (wl_pure (L':=[(2,pt b3 0),(6,pt b11 0),(7,.string (x19))]) 1 [2,6,7] hF kr fun a hF=>nl (⟨_,_,_,hS,fun wb hS=>?_⟩))
 obtain ⟨κb,hκb⟩ : ∃κb,κb=κ:=⟨_,rfl⟩
 subst hκb
 refine bk (qr fun _ h76=>(wc (wld hF hS 1 0 0 fun a hF=>wp 1 [2,6,20,21] hF fun a hF=>bd H fun x77 hx77 H=>wc (wcS 0 [0,1,2] hF hS (fun hS=>C_script_Shell_Do_nil0 N x19 (hS.sbK [1]) hx77) ?_))))
 rintro _ κ w a ⟨rfl,h2⟩ hF hB
 have hS:=hB _ _ h2
 refine wp 1 [2,6,8] hF fun a hF=>(h76 _ _ (qr fun _ h78=>(wl_pure (L':=[(2,pt b3 0),(6,pt b11 0),(8,.string (x77)),(24,vb (!sEq x77 (ByteArray.mk #[])))]) 2 [2,6,8,24] hF kr fun a hF=>(h78 _ _ (bc hF H (fun hb H=>?_) fun hb H=>?_)))))
 refine qr fun _ h79=>(wl_pure (L':=[(2,pt b3 0),(6,pt b11 0),(25,.string (x77))]) 1 [2,6,25] hF kr fun a hF=>bd H fun x80 hx80 H=>wc (wcS 2 [0,2,1] hF hS (fun hS=>C_strings_Builder_WriteString N (T_strings_Builder.mk v75.1 v75.2.1) x77 r70 p72 c73 b11 (hS.sbK [0]) hx80) ?_))
 rintro _ κ w a ⟨r81,r82,p83,c84,rfl,h2⟩ hF hB
 have hS:=(hB _ _ h2).cC (C':=[.box b11 64 [(1,[r82]),sl p83 (x80.2.2.buf).length c84],.ext (ownX (fInt .u8) 5 p83 c84 x80.2.2.buf),.box b3 22 [(1,[.pointer none])]])
 refine h79 _ _ (rl (bd H fun x85 hx85 H=>wc (wcS 2 [0,1,2] hF hS (fun hS=>C_strings_Builder_WriteByte N (T_strings_Builder.mk x80.2.2.addr x80.2.2.buf) 10 r82 p83 c84 b11 (hS.sbK [1]) hx85) ?_)))
 rintro _ κ w a ⟨r86,r87,p88,c89,rfl,h2⟩ hF hB
 have hS:=hB _ _ h2
 refine nl ?_
 cases H
 try dsimp only [Exit.inBlock,Exit.then]
 repeat rw [if_neg dc]
 refine re_normal [] (C:=[.box b11 64 [(1,[r87]),sl p88 (x85.2.buf).length c89],.box b3 22 [(1,[.pointer none])],.ext (ownX (fInt .u8) 5 p88 c89 x85.2.buf)]) (R:=[MP.const (SlfIs b11 r87 x85.2.addr),GL]) (hS.sp [0,2,1] [1,5]) ?_
 exact ⟨r87,p88,c89,rfl⟩
 refine sk ?_
 cases H
 try dsimp only [Exit.inBlock,Exit.then]
 repeat rw [if_neg dc]
 refine re_normal [] (C:=[.box b11 64 [(1,[r70]),sl p72 (v75.2.1).length c73],.box b3 22 [(1,[.pointer none])],.ext (ownX (fInt .u8) 5 p72 c73 v75.2.1)]) (R:=[MP.const (SlfIs b11 r70 v75.1),GL]) (hS.sp [0,1,2] [0,1]) ?_
 exact ⟨r70,p72,c73,rfl⟩
 rintro _ ⟨r70,p72,c73,rfl⟩
 refine ⟨_,_,_,rfl,fun κ w a hF hS=>?_⟩
 refine bs H (fun hb H=>?_) fun hb H=>?_
 refine jumped0 hb (h12 _ _ (qr fun _ h91=>(bd H fun x92 hx92 H=>wc (wcS 2 [1,3,0,2] hF hS (fun hS=>C_strings_Builder_String N (T_strings_Builder.mk v90.1 v90.2.1) r70 p72 c73 b11 (hS.sbK [0]) hx92) ?_))))
 rintro _ κ w a ⟨rfl,h2⟩ hF hB
 have hS:=hB _ _ h2
 refine wl_pure (L':=[(4,.string (x92)),(5,vi 0)]) 2 [4,5] hF kr fun a hF=>(h91 _ _ (rt (ret_doneM (C':=[.box b3 22 [(1,[.pointer none])]]) hF hS 0 rfl kr fun w hS=>?_)))
 cases H
 exact ⟨_,(res2 Tryz.results9 (rvt hF) (rvt hF)),⟨rfl,hS.sp [] []⟩⟩
 cases H
end Go.Cf
