/- The walks: each function returns what its model says. Printed by a program of ours. -/
import Derived.Test.YtgpgcfgejggolaaGreatDoorZM1
namespace Go.Cf
open Go Go.Proofs
set_option linter.unusedVariables false
set_option maxRecDepth 20000
set_option maxHeartbeats 8000000
theorem C_inbox_New (N:Nat){Ms:List Nat}{κ0:Gh}{w0:World}(a1:Int)(hB:SB Ms κ0 w0 [] []){r:(T_inbox_Box)}(H:M.inbox_New N a1=some r) :
    Calls Tryz.prog 86 #[vi a1] w0 (Post Ms κ0 w0 fun v κ w => ∃(b6:Nat) (p7:Option Addr) (c8:Nat) (p9:Option Addr) (c10:Nat) (p11:Option Nat) (m12:Array MapEntry) (c13:Nat),v=pt b6 0∧SS Ms κ0 w0 κ w [.box b6 290 [si r.base,sl p7 (r.list).length c8,si r.handed,sl p9 (r.done).length c10,sm p11,su r.got],.ext (ownX fBool 4 p9 c10 r.done),mx p11 m12 c13,.tok p7 425 4 (r.list).length c8] [Ro.mp t_api_Rec p7 c8 r.list,Map.mp (kInt .i64) false (fInt .u64).ty p11 m12 c13 r.hearts]):=by
 have hS:=hB.hS
 have hfr:=hS.fresh
 refine en Tryz.func86 rfl Tryz.ntmps86 fun a hF=>?_
 unfold M.inbox_New at H
 refine qs fun _ hz=>rl (wp 1 [0] hF fun a hF=>nl (hz _ _ (qr fun _ h3=>(wl_pure (L':=[(4,vi (if 0 > a1 then 0 else a1))]) 2 [4] hF kr fun a hF=>wc (wo_makeMap hF hS kr (kInt .i64) false (fInt .u64).ty rfl fun b4 a w hF hS=>wp 1 [6] hF fun a hF=>wc (wbx hF hS [si (if 0 > a1 then 0 else a1),sl none 0 0,si 0,sl none 0 0,(1,[.map (some b4)]),su 0] (sgN 6 sgNil) fun b5 a w hF hS=>wp 1 [2] hF fun a hF=>(h3 _ _ (rt ?_))))))))
 have hS:=hS.add (m:=Ro.mp t_api_Rec none 0 ([]:List T_api_Rec)) (Ro.nil t_api_Rec _ _)
 have hS:=hS.addOwn fBool 4
 have hS:=hS.addNil 425 4
 cases H
 exact ret_done hF hS (res1 Tryz.results86 (rvt hF)) ⟨b5,none,0,none,0,(some b4),#[],0,rfl,hS.sp [2,1,3,0] [0,1]⟩
end Go.Cf
