/- The walks: each function returns what its model says. Printed by a program of ours. -/
import Derived.Test.YtgpgcfgejggolaaGreatDoorZM1
namespace Go.Cf
open Go Go.Proofs
set_option linter.unusedVariables false
set_option maxRecDepth 20000
set_option maxHeartbeats 8000000
theorem C_coord_New (N:Nat){Ms:List Nat}{κ0:Gh}{w0:World}(hB:SB Ms κ0 w0 [] []){r:(T_coord_Table)}(H:M.coord_New N=some r) :
    Calls Tryz.prog 162 #[] w0 (Post Ms κ0 w0 fun v κ w => ∃(b5:Nat) (p6:Option Nat) (m7:Array MapEntry) (c8:Nat) (p9:Mp Int (Option Nat)) (cs10:List Nat),v=pt b5 0∧SS Ms κ0 w0 κ w [.box b5 357 [sm p6],mx p6 m7 c8,.ext (mpX o_coord_entry p9 cs10 r.open_ none)] [Map.mp (kInt .u64) false fPtr.ty p6 m7 c8 p9]):=by
 have hS:=hB.hS
 have hfr:=hS.fresh
 refine en Tryz.func162 rfl Tryz.ntmps162 fun a hF=>?_
 unfold M.coord_New at H
 refine qr fun _ h1=>(wl_pure (L':=[]) 1 [] hF kr fun a hF=>(h1 _ _ (qs fun _ hz=>rl (wc (wo_makeMap hF hS kr (kInt .u64) false fPtr.ty rfl fun b3 a w hF hS=>?_)))))
 have hS:=hS.addMp (K:=Int) o_coord_entry
 refine wp 1 [2] hF fun a hF=>wc (wbx hF hS [(1,[.map (some b3)])] (sgN 1 sgNil) fun b4 a w hF hS=>wp 1 [0] hF fun a hF=>nl (hz _ _ (rt ?_)))
 cases H
 exact ret_done hF hS (res1 Tryz.results162 (rvt hF)) ⟨b4,(some b3),#[],0,(some []),[],rfl,hS.sp [0,2,1] [0]⟩
end Go.Cf
