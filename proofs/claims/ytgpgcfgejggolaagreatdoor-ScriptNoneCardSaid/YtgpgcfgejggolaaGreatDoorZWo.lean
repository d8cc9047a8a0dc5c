/- The walks: each function returns what its model says. Printed by a program of ours. -/
import Derived.Test.YtgpgcfgejggolaaGreatDoorZM1
namespace Go.Cf
open Go Go.Proofs
set_option linter.unusedVariables false
set_option maxRecDepth 20000
set_option maxHeartbeats 8000000
theorem C_order_New (N:Nat){Ms:List Nat}{κ0:Gh}{w0:World}(hB:SB Ms κ0 w0 [] []){r:(T_order_Log)}(H:M.order_New N=some r) :
    Calls Tryz.prog 161 #[] w0 (Post Ms κ0 w0 fun v κ w => ∃(b4:Nat) (p5:Option Addr) (c6:Nat) (p7:Option Addr) (c8:Nat),v=pt b4 0∧SS Ms κ0 w0 κ w [.box b4 354 [sl p5 (r.list).length c6,sl p7 (r.waiting).length c8,su r.bound],.tok p5 425 4 (r.list).length c6,.tok p7 425 4 (r.waiting).length c8] [Ro.mp t_api_Rec p5 c6 r.list,Ro.mp t_api_Rec p7 c8 r.waiting]):=by
 have hS:=hB.hS
 have hfr:=hS.fresh
 refine en Tryz.func161 rfl Tryz.ntmps161 fun a hF=>?_
 unfold M.order_New at H
 refine qr fun _ h1=>(wp 1 [] hF fun a hF=>(h1 _ _ (qs fun _ hz=>rl (wp 1 [1] hF fun a hF=>wc (wbx hF hS [sl none 0 0,sl none 0 0,su 0] (sgN 3 sgNil) fun b3 a w hF hS=>wp 1 [0] hF fun a hF=>nl (hz _ _ (rt ?_)))))))
 have hS:=hS.add (m:=Ro.mp t_api_Rec none 0 ([]:List T_api_Rec)) (Ro.nil t_api_Rec _ _)
 have hS:=hS.addNil 425 4
 have hS:=hS.addNil 425 4
 cases H
 exact ret_done hF hS (res1 Tryz.results161 (rvt hF)) ⟨b3,none,0,none,0,rfl,hS.sp [2,1,0] [0,0]⟩
end Go.Cf
