/- The walks: each function returns what its model says. Printed by a program of ours. -/
import Derived.Test.YtcplebnnanjngaaGreatZM1
import Derived.Test.YtcplebnnanjngaaGreatZWhs
import Derived.Test.YtcplebnnanjngaaGreatZWhg1
namespace Go.Cf
open Go Go.Proofs
set_option linter.unusedVariables false
set_option maxRecDepth 20000 in
set_option maxHeartbeats 8000000 in
theorem C_gate_Gate_Take_nil0 (N:Nat){Ms:List Nat}{κ0:Gh}{w0:World}(a1:Int)(a2:T_api_Msg)(p3:Option Addr)(c4:Nat)(p5:Option Addr)(c6:Nat)(hB:SB Ms κ0 w0 [] [Ro.mp f_api_Ver.ty p3 c4 a2.Vers,Ro.mp (fInt .u64).ty p5 c6 a2.Vec]){r:Unit}(H:M.gate_Gate_Take_nil0 N a1 a2=some r) :
    Calls Tryz.prog 15 #[.pointer none,vi a1,.agg (flat [si a2.Kind,su a2.Id,su a2.N,su a2.TS,sg a2.Lo,sg a2.Hi,sl p3 (a2.Vers).length c4,sl p5 (a2.Vec).length c6,si a2.Cmd.Kind,si a2.Cmd.DC,si a2.Cmd.Shard,si a2.Cmd.Node,si a2.Cmd.Mode,sg a2.Cmd.Key]).toArray] w0 (Post Ms κ0 w0 fun v κ w=>v = .tuple #[]∧SS Ms κ0 w0 κ w [] []):=by
 have hS:=hB.hS
 have hfr:=hS.fresh
 refine enter (N:=(71)) (L:=[(0,.pointer none),(1,vi a1),(2,.agg (flat [si a2.Kind,su a2.Id,su a2.N,su a2.TS,sg a2.Lo,sg a2.Hi,sl p3 (a2.Vers).length c4,sl p5 (a2.Vec).length c6,si a2.Cmd.Kind,si a2.Cmd.DC,si a2.Cmd.Shard,si a2.Cmd.Node,si a2.Cmd.Mode,sg a2.Cmd.Key]).toArray)]) Tryz.func15 rfl Tryz.ntmps15 (show 3≤(71) by decide) rfl fun a hF=>?_
 unfold M.gate_Gate_Take_nil0 at H
 refine wpIn_seq_k fun K7 hK7=>?_
 refine wpIn_region_lit ?_
 refine wc (wbx hF hS [si a2.Kind,su a2.Id,su a2.N,su a2.TS,sg a2.Lo,sg a2.Hi,sl p3 (a2.Vers).length c4,sl p5 (a2.Vec).length c6,si a2.Cmd.Kind,si a2.Cmd.DC,si a2.Cmd.Shard,si a2.Cmd.Node,si a2.Cmd.Mode,sg a2.Cmd.Key] (sgN 14 sgNil) fun b8 a w hF hS=>?_)
 refine wpListIn_nil ?_
 refine hK7 _ _ ?_
 refine wpIn_seq_k fun K9 hK9=>?_
 refine wpIn_seq_k fun K10 hK10=>?_
 refine wpIn_region_lit ?_
 refine wp 10 [0,1,5,17] hF fun a hF=>?_
 refine wpListIn_nil ?_
 refine hK10 _ _ ?_
 refine cond_t hF (by kernel_rfl) rfl ?_
 refine wpIn_ret ?_
 cases H
 exact ret_done hF hS (res0 Tryz.results15) ⟨rfl,hS.sp [] []⟩
set_option maxRecDepth 20000 in
set_option maxHeartbeats 8000000 in
theorem C_gate_Gate_Read_nil0 (N:Nat){Ms:List Nat}{κ0:Gh}{w0:World}(a1:Int)(a2:ByteArray)(a3:Int)(hB:SB Ms κ0 w0 [] []){r:(Int)}(H:M.gate_Gate_Read_nil0 N a1 a2 a3=some r) :
    Calls Tryz.prog 18 #[.pointer none,vi a1,.string (a2),vu a3] w0 (Post Ms κ0 w0 fun v κ w=>v=vi r∧SS Ms κ0 w0 κ w [] []):=by
 have hS:=hB.hS
 have hfr:=hS.fresh
 refine enter (N:=(24)) (L:=[(0,.pointer none),(1,vi a1),(2,.string (a2)),(3,vu a3)]) Tryz.func18 rfl Tryz.ntmps18 (show 4≤(24) by decide) rfl fun a hF=>?_
 unfold M.gate_Gate_Read_nil0 at H
 refine wpIn_seq_k fun K4 hK4=>?_
 refine wpIn_region_lit ?_
 refine wp 1 (rg 4) hF fun a hF=>?_
 refine wpListIn_nil ?_
 refine hK4 _ _ ?_
 refine wpIn_seq_k fun K5 hK5=>?_
 refine wpIn_seq_k fun K6 hK6=>?_
 refine wpIn_region_lit ?_
 refine wp 9 [0,1,2,3,17] hF fun a hF=>?_
 refine wpListIn_nil ?_
 refine hK6 _ _ ?_
 refine cond_t hF (by kernel_rfl) rfl ?_
 refine wpIn_seq_k fun K7 hK7=>?_
 refine wpIn_region_lit ?_
 refine wp 1 [8] hF fun a hF=>?_
 refine wpListIn_nil ?_
 refine hK7 _ _ ?_
 refine wpIn_ret ?_
 cases H
 exact ret_done hF hS (res1 Tryz.results18 (rvt hF)) ⟨rfl,hS.sp [] []⟩
set_option maxRecDepth 20000 in
set_option maxHeartbeats 8000000 in
theorem C_gate_Gate_Commit_nil0 (N:Nat){Ms:List Nat}{κ0:Gh}{w0:World}(a1:Int)(a2:Int)(a3:(List T_api_Ver))(p4:Option Addr)(c5:Nat)(hB:SB Ms κ0 w0 [] [Ro.mp f_api_Ver.ty p4 c5 a3]){r:(Int)}(H:M.gate_Gate_Commit_nil0 N a1 a2 a3=some r) :
    Calls Tryz.prog 17 #[.pointer none,vi a1,vu a2,.slice p4 (a3).length c5] w0 (Post Ms κ0 w0 fun v κ w=>v=vi r∧SS Ms κ0 w0 κ w [] []):=by
 have hS:=hB.hS
 have hfr:=hS.fresh
 refine enter (N:=(41)) (L:=[(0,.pointer none),(1,vi a1),(2,vu a2),(3,.slice p4 (a3).length c5)]) Tryz.func17 rfl Tryz.ntmps17 (show 4≤(41) by decide) rfl fun a hF=>?_
 unfold M.gate_Gate_Commit_nil0 at H
 refine wpIn_seq_k fun K6 hK6=>?_
 refine wpIn_region_lit ?_
 refine wp 1 (rg 4) hF fun a hF=>?_
 refine wpListIn_nil ?_
 refine hK6 _ _ ?_
 refine wpIn_seq_k fun K7 hK7=>?_
 refine wpIn_seq_k fun K8 hK8=>?_
 refine wpIn_region_lit ?_
 refine wp 9 [0,1,2,3,17] hF fun a hF=>?_
 refine wpListIn_nil ?_
 refine hK8 _ _ ?_
 refine cond_t hF (by kernel_rfl) rfl ?_
 refine wpIn_seq_k fun K9 hK9=>?_
 refine wpIn_region_lit ?_
 refine wp 1 [8] hF fun a hF=>?_
 refine wpListIn_nil ?_
 refine hK9 _ _ ?_
 refine wpIn_ret ?_
 cases H
 exact ret_done hF hS (res1 Tryz.results17 (rvt hF)) ⟨rfl,hS.sp [] []⟩
set_option maxRecDepth 20000 in
set_option maxHeartbeats 8000000 in
theorem C_gate_Gate_Sent_nil0 (N:Nat){Ms:List Nat}{κ0:Gh}{w0:World}(hB:SB Ms κ0 w0 [] []){r:((List T_api_Mail))}(H:M.gate_Gate_Sent_nil0 N=some r) :
    Calls Tryz.prog 16 #[.pointer none] w0 (Post Ms κ0 w0 fun v κ w => ∃(p5:Option Addr) (c6:Nat),v = .slice p5 (r).length c6∧SS Ms κ0 w0 κ w [.tok p5 61 15 (r).length c6] [Ro.mp t_api_Mail p5 c6 r]):=by
 have hS:=hB.hS
 have hfr:=hS.fresh
 refine enter (N:=(14)) (L:=[(0,.pointer none)]) Tryz.func16 rfl Tryz.ntmps16 (show 1≤(14) by decide) rfl fun a hF=>?_
 unfold M.gate_Gate_Sent_nil0 at H
 refine wpIn_seq_k fun K1 hK1=>?_
 refine wpIn_region_lit ?_
 refine wp 1 [0] hF fun a hF=>?_
 refine wpListIn_nil ?_
 refine hK1 _ _ ?_
 refine wpIn_seq_k fun K2 hK2=>?_
 refine wpIn_seq_k fun K3 hK3=>?_
 refine wpIn_region_lit ?_
 refine wp 2 [0,5] hF fun a hF=>?_
 refine wpListIn_nil ?_
 refine hK3 _ _ ?_
 refine cond_t hF (by kernel_rfl) rfl ?_
 refine wpIn_seq_k fun K4 hK4=>?_
 refine wpIn_region_lit ?_
 refine wp 1 [2] hF fun a hF=>?_
 refine wpListIn_nil ?_
 refine hK4 _ _ ?_
 refine wpIn_ret ?_
 have hS:=hS.add (m:=Ro.mp t_api_Mail none 0 ([]:List T_api_Mail)) (Ro.nil t_api_Mail _ _)
 have hS:=hS.addNil 61 15
 cases H
 exact ret_done hF hS (res1 Tryz.results16 (rvt hF)) ⟨none,0,rfl,hS.sp [0] [0]⟩
set_option maxRecDepth 20000 in
set_option maxHeartbeats 8000000 in
theorem C_gate_Gate_Replies_nil0 (N:Nat){Ms:List Nat}{κ0:Gh}{w0:World}(hB:SB Ms κ0 w0 [] []){r:((List T_gate_Reply))}(H:M.gate_Gate_Replies_nil0 N=some r) :
    Calls Tryz.prog 13 #[.pointer none] w0 (Post Ms κ0 w0 fun v κ w => ∃(p5:Option Addr) (c6:Nat),v = .slice p5 (r).length c6∧SS Ms κ0 w0 κ w [.tok p5 52 13 (r).length c6] [Ro.mp f_gate_Reply.ty p5 c6 r]):=by
 have hS:=hB.hS
 have hfr:=hS.fresh
 refine enter (N:=(14)) (L:=[(0,.pointer none)]) Tryz.func13 rfl Tryz.ntmps13 (show 1≤(14) by decide) rfl fun a hF=>?_
 unfold M.gate_Gate_Replies_nil0 at H
 refine wpIn_seq_k fun K1 hK1=>?_
 refine wpIn_region_lit ?_
 refine wp 1 [0] hF fun a hF=>?_
 refine wpListIn_nil ?_
 refine hK1 _ _ ?_
 refine wpIn_seq_k fun K2 hK2=>?_
 refine wpIn_seq_k fun K3 hK3=>?_
 refine wpIn_region_lit ?_
 refine wp 2 [0,5] hF fun a hF=>?_
 refine wpListIn_nil ?_
 refine hK3 _ _ ?_
 refine cond_t hF (by kernel_rfl) rfl ?_
 refine wpIn_seq_k fun K4 hK4=>?_
 refine wpIn_region_lit ?_
 refine wp 1 [2] hF fun a hF=>?_
 refine wpListIn_nil ?_
 refine hK4 _ _ ?_
 refine wpIn_ret ?_
 have hS:=hS.add (m:=Ro.mp f_gate_Reply.ty none 0 ([]:List T_gate_Reply)) (Ro.nil f_gate_Reply.ty _ _)
 have hS:=hS.addNil 52 13
 cases H
 exact ret_done hF hS (res1 Tryz.results13 (rvt hF)) ⟨none,0,rfl,hS.sp [0] [0]⟩
set_option maxRecDepth 20000 in
set_option maxHeartbeats 8000000 in
theorem C_gate_Gate_Waits_nil0 (N:Nat){Ms:List Nat}{κ0:Gh}{w0:World}(hB:SB Ms κ0 w0 [] []){r:((List Int))}(H:M.gate_Gate_Waits_nil0 N=some r) :
    Calls Tryz.prog 19 #[.pointer none] w0 (Post Ms κ0 w0 fun v κ w => ∃(p5:Option Addr) (c6:Nat),v = .slice p5 (r).length c6∧SS Ms κ0 w0 κ w [.tok p5 3 1 (r).length c6] [Ro.mp (fInt .i64).ty p5 c6 r]):=by
 have hS:=hB.hS
 have hfr:=hS.fresh
 refine enter (N:=(48)) (L:=[(0,.pointer none)]) Tryz.func19 rfl Tryz.ntmps19 (show 1≤(48) by decide) rfl fun a hF=>?_
 unfold M.gate_Gate_Waits_nil0 at H
 refine wpIn_seq_k fun K1 hK1=>?_
 refine wpIn_region_lit ?_
 refine wp 1 [0] hF fun a hF=>?_
 refine wpListIn_nil ?_
 refine hK1 _ _ ?_
 refine wpIn_seq_k fun K2 hK2=>?_
 refine wpIn_seq_k fun K3 hK3=>?_
 refine wpIn_region_lit ?_
 refine wp 2 [0,9] hF fun a hF=>?_
 refine wpListIn_nil ?_
 refine hK3 _ _ ?_
 refine cond_t hF (by kernel_rfl) rfl ?_
 refine wpIn_seq_k fun K4 hK4=>?_
 refine wpIn_region_lit ?_
 refine wp 1 [2] hF fun a hF=>?_
 refine wpListIn_nil ?_
 refine hK4 _ _ ?_
 refine wpIn_ret ?_
 have hS:=hS.add (m:=Ro.mp (fInt .i64).ty none 0 ([]:List Int)) (Ro.nil (fInt .i64).ty _ _)
 have hS:=hS.addNil 3 1
 cases H
 exact ret_done hF hS (res1 Tryz.results19 (rvt hF)) ⟨none,0,rfl,hS.sp [0] [0]⟩
end Go.Cf
