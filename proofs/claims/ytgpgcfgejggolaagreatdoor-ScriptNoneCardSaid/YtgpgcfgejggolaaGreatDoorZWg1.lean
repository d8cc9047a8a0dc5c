/- The walks: each function returns what its model says. Printed by a program of ours. -/
import Derived.Test.YtgpgcfgejggolaaGreatDoorZM1
import Derived.Test.YtgpgcfgejggolaaGreatDoorZWs
namespace Go.Cf
open Go Go.Proofs
set_option linter.unusedVariables false
set_option maxRecDepth 20000
set_option maxHeartbeats 8000000
theorem C_gate_Gate_Role (N:Nat){Ms:List Nat}{κ0:Gh}{w0:World}(a2:Int)(cs1:List Value)(cs3:List Value)(b4:Nat)(hB:SB Ms κ0 w0 [.box b4 184 [(2,cs1),si a2,(41,cs3)]] []){r:(Int)}(H:M.gate_Gate_Role N a2=some r) :
    Calls Tryz.prog 144 #[pt b4 0] w0 (Post Ms κ0 w0 fun v κ w=>v=vi r∧SS Ms κ0 w0 κ w [.box b4 184 [(2,cs1),si a2,(41,cs3)]] []):=by
 have hS:=hB.hS
 have hfr:=hS.fresh
 refine en Tryz.func144 rfl Tryz.ntmps144 fun a hF=>?_
 unfold M.gate_Gate_Role at H
 refine qr fun _ h5=>(wp 1 [0] hF fun a hF=>(h5 _ _ (qs fun _ h6=>qr fun _ h7=>(wp 2 [0,4] hF fun a hF=>(h7 _ _ (cf hF rfl (sk (h6 _ _ (qr fun _ h8=>(wp 3 [7] hF fun a hF=>wc (wld hF hS 0 1 0 fun a hF=>wp 1 [2] hF fun a hF=>(h8 _ _ (rt ?_)))))))))))))
 cases H
 exact ret_done hF hS (res1 Tryz.results144 (rvt hF)) ⟨rfl,hS.sp [0] []⟩
theorem C_gate_Gate_Stable (N:Nat){Ms:List Nat}{κ0:Gh}{w0:World}(a2:(Option T_stab_Table))(cs1:List Value)(p3:Option Nat)(cs4:List Nat)(cs5:List Value)(b6:Nat)(hB:SB Ms κ0 w0 [.box b6 184 [(12,cs1),sp p3,(31,cs5)],ox o_stab_Table p3 cs4 a2] []){r:(Int×(Option T_stab_Table))}(H:M.gate_Gate_Stable N a2=some r) :
    Calls Tryz.prog 143 #[pt b6 0] w0 (Post Ms κ0 w0 fun v κ w => ∃(p17:Option Nat) (cs18:List Nat),v=vu r.1∧SS Ms κ0 w0 κ w [.box b6 184 [(12,cs1),sp p17,(31,cs5)],ox o_stab_Table p17 cs18 r.2] []):=by
 have hS:=hB.hS
 have hfr:=hS.fresh
 refine en Tryz.func143 rfl Tryz.ntmps143 fun a hF=>?_
 unfold M.gate_Gate_Stable at H
 refine qr fun _ h7=>(wp 1 [0] hF fun a hF=>(h7 _ _ (qs fun _ h8=>qr fun _ h9=>(wl_pure (L':=[(0,pt b6 0),(4,vb false)]) 2 [0,4] hF kr fun a hF=>(h9 _ _ (cf hF rfl (sk (h8 _ _ (qs fun _ h10=>bd H fun x11 ho H=>?_)))))))))
 obtain ⟨b12,hpq,hS⟩:=hS.optS 1 rfl ho
 rw [hpq] at hS
 try rw [hpq] at hF
 obtain ⟨⟨p13,c14⟩,hS⟩:=hS.unfI (ck:=c_stab_Table) (fs:=q_stab_Table) 1 rfl
 refine rl (wp 3 [7] hF fun a hF=>wc (wld hF hS 2 1 0 fun a hF=>bd H fun x15 hx15 H=>wc (wcS 2 [0,1,2] hF hS (fun hS=>C_stab_Table_Stable N (T_stab_Table.mk x11.dc x11.beats (T_vec_Vec.mk x11.got.Epoch x11.got.Has x11.got.T) (T_vec_Vec.mk x11.known.Epoch x11.known.Has x11.known.T) x11.stable) p13 c14 b12 (hS.sbK (rg 4)) hx15) ?_)))
 rintro _ κ w a ⟨rfl,h2⟩ hF hB
 have hS:=hB _ _ h2
 refine wp 1 [2] hF fun a hF=>nl ?_
 obtain ⟨cs16,hS⟩:=hS.foldI (ck:=c_stab_Table) (fs:=q_stab_Table) b12 (p13,c14) x11 [0,1] [2] (rg 4) dc kr kr
 refine h10 _ _ (rt ?_)
 cases H
 exact ret_done hF hS (res1 Tryz.results143 (rvt hF)) ⟨(some b12),cs16,rfl,hS.sp [1,0] []⟩
end Go.Cf
