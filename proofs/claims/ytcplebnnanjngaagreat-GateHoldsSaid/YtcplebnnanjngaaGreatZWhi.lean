/- The walks: each function returns what its model says. Printed by a program of ours. -/
import Derived.Test.YtcplebnnanjngaaGreatZM1
import Derived.Test.YtcplebnnanjngaaGreatZWho
namespace Go.Cf
open Go Go.Proofs
set_option linter.unusedVariables false
set_option maxRecDepth 20000 in
set_option maxHeartbeats 8000000 in
theorem C_inbox_New (N:Nat){Ms:List Nat}{κ0:Gh}{w0:World}(a1:Int)(hB:SB Ms κ0 w0 [] []){r:(T_inbox_Box)}(H:M.inbox_New N a1=some r) :
    Calls Tryz.prog 26 #[vi a1] w0 (Post Ms κ0 w0 fun v κ w => ∃(b6:Nat) (p7:Option Addr) (c8:Nat) (p9:Option Addr) (c10:Nat) (p11:Option Nat) (m12:Array MapEntry) (c13:Nat),v=pt b6 0∧SS Ms κ0 w0 κ w [.box b6 114 [si r.base,sl p7 (r.list).length c8,si r.handed,sl p9 (r.done).length c10,(1,[.map p11]),su r.got],.ext (ownX fBool 4 p9 c10 r.done),.ext (objX p11 (.map m12 c13)),.tok p7 135 4 (r.list).length c8] [Ro.mp t_api_Rec p7 c8 r.list,Map.mp (kInt .i64) false (fInt .u64).ty p11 m12 c13 r.hearts]):=by
 have hS:=hB.hS
 have hfr:=hS.fresh
 refine enter (N:=(8)) (L:=[(0,vi a1)]) Tryz.func26 rfl Tryz.ntmps26 (show 1≤(8) by decide) rfl fun a hF=>?_
 unfold M.inbox_New at H
 refine wpIn_seq_k fun K2 hK2=>?_
 refine wpIn_region_lit ?_
 refine wp 1 [0] hF fun a hF=>?_
 refine wpListIn_nil ?_
 refine hK2 _ _ ?_
 refine wpIn_seq_k fun K3 hK3=>?_
 refine wpIn_region_lit ?_
 refine wl_pure (L':=[(4,vi (if 0 > a1 then 0 else a1))]) 2 [4] hF (by kernel_rfl) fun a hF=>?_
 refine wc (wo_makeMap hF hS (by kernel_rfl) (kInt .i64) false (fInt .u64).ty rfl fun b4 a w hF hS=>?_)
 refine wp 1 [6] hF fun a hF=>?_
 refine wc (wbx hF hS [si (if 0 > a1 then 0 else a1),sl none 0 0,si 0,sl none 0 0,(1,[.map (some b4)]),su 0] (sgN 6 sgNil) fun b5 a w hF hS=>?_)
 refine wp 1 [2] hF fun a hF=>?_
 refine wpListIn_nil ?_
 refine hK3 _ _ ?_
 refine wpIn_ret ?_
 have hS:=hS.add (m:=Ro.mp t_api_Rec none 0 ([]:List T_api_Rec)) (Ro.nil t_api_Rec _ _)
 have hS:=hS.addOwn fBool 4
 have hS:=hS.addNil 135 4
 cases H
 exact ret_done hF hS (res1 Tryz.results26 (rvt hF)) ⟨b5,none,0,none,0,(some b4),#[],0,rfl,hS.sp [2,1,3,0] [0,1]⟩
set_option maxRecDepth 20000 in
set_option maxHeartbeats 8000000 in
theorem C_inbox_Box_Peek_nil0 (N:Nat){Ms:List Nat}{κ0:Gh}{w0:World}(hB:SB Ms κ0 w0 [] []){r:(T_api_Rec×Bool)}(H:M.inbox_Box_Peek_nil0 N=some r) :
    Calls Tryz.prog 109 #[.pointer none] w0 (Post Ms κ0 w0 fun v κ w => ∃(p6:Option Addr) (c7:Nat),v = .tuple #[.agg (flat [su r.1.TS,si r.1.DC,si r.1.Tx,sl p6 (r.1.Vers).length c7]).toArray,vb r.2]∧SS Ms κ0 w0 κ w [.tok p6 48 6 (r.1.Vers).length c7] [Ro.mp f_api_Ver.ty p6 c7 r.1.Vers]):=by
 have hS:=hB.hS
 have hfr:=hS.fresh
 refine enter (N:=(30)) (L:=[(0,.pointer none)]) Tryz.func109 rfl Tryz.ntmps109 (show 1≤(30) by decide) rfl fun a hF=>?_
 unfold M.inbox_Box_Peek_nil0 at H
 refine wpIn_seq_k fun K1 hK1=>?_
 refine wpIn_region_lit ?_
 refine wc (wal hF hS [su 0,si 0,si 0,sl none 0 0] (sgN 4 sgNil) fun b2 a w hF hS=>?_)
 refine wp 1 [0,2] hF fun a hF=>?_
 refine wpListIn_nil ?_
 refine hK1 _ _ ?_
 refine wpIn_seq_k fun K3 hK3=>?_
 refine wpIn_seq_k fun K4 hK4=>?_
 refine rgS hS [] ?_
 have hS:=hS.drew
 refine anp (rg 14) [0,2,17] hF (hS.sx [0] []) fun a hF=>?_
 refine and_ ?_
 refine hK4 _ _ ?_
 refine cond_t hF (by kernel_rfl) rfl ?_
 refine wpIn_seq_k fun K5 hK5=>?_
 refine wpIn_region_lit ?_
 refine wp 1 [2,18] hF fun a hF=>?_
 refine wc (wst hF hS 0 0 4 [su 0,si 0,si 0,sl none 0 0] (sgN 4 sgNil) fun a w hF hS=>?_)
 refine wp 1 [2,3] hF fun a hF=>?_
 refine wpListIn_nil ?_
 refine hK5 _ _ ?_
 refine wpIn_ret ?_
 have hS':=hS
 have hS:=hS.add (m:=Ro.mp f_api_Ver.ty none 0 ([]:List T_api_Ver)) (Ro.nil f_api_Ver.ty _ _)
 have hS:=hS.addNil 48 6
 cases H
 exact ret_done hF hS (res2 Tryz.results109 (rvs hF hS' 0 0 4) (rvt hF)) ⟨none,0,rfl,hS.sp [0] [0]⟩
end Go.Cf
