/- The walks: each function returns what its model says. Printed by a program of ours. -/
import Derived.Test.YtcplebnnanjngaaGreatZM1
namespace Go.Cf
open Go Go.Proofs
set_option linter.unusedVariables false
set_option maxRecDepth 20000 in
set_option maxHeartbeats 8000000 in
theorem C_law22_modes (N:Nat){κ0:Gh}{w0:World}(hfr:Fresh κ0 w0)(hR : ∀m∈([]:List MP),m.p κ0 w0){r:((List Int))}(H:M.law22_modes N=some r) :
    Calls Tryz.prog 8 #[] w0 (Post [] κ0 w0 fun v κ w => ∃(p67:Option Addr) (c68:Nat),v = .slice p67 (r).length c68∧(∀m∈([Ro.mp (fInt .i64).ty p67 c68 r]:List MP),m.p κ w)∧NewC w0 κ w [.tok p67 3 1 (r).length c68]):=by
 have hS:=SS.start hfr hR
 refine enter (N:=(14)) (L:=[]) Tryz.func8 rfl Tryz.ntmps8 (show 0≤(14) by decide) rfl fun a hF=>?_
 unfold M.law22_modes at H
 refine wpIn_seq_k fun K1 hK1=>?_
 refine wpIn_region_lit ?_
 refine wl_pure (L':=[]) 1 [] hF (by kernel_rfl) fun a hF=>?_
 refine wpListIn_nil ?_
 refine hK1 _ _ ?_
 refine wpIn_seq_k fun K2 hK2=>?_
 refine wpIn_region_lit ?_
 refine bind_split H (fun x3 hx3 H=>?_)
 refine wc (wo_makeO (E:=3) (i:=Tryz.t3) (z:=vi 0) (zm:=0) (kl := .i64) (kc := .i64) hF hS (by kernel_rfl) (fInt .i64) rfl (by kernel_rfl) (by kernel_rfl) hx3 (by kernel_rfl) (by kernel_rfl) (by kernel_rfl) (by kernel_rfl) (Nat.le_of_ble_eq_true (by kernel_rfl)) (by kernel_rfl) fun p4 a w hF hS=>?_)
 refine wp 1 [1] hF fun a hF=>?_
 refine wpListIn_nil ?_
 refine hK2 _ _ ?_
 refine wpIn_seq_k fun K5 hK5=>?_
 refine wpIn_seq_k fun K6 hK6=>?_
 refine wpIn_region_lit ?_
 refine wp 3 [1,5,6] hF fun a hF=>?_
 refine wpListIn_nil ?_
 refine hK6 _ _ ?_
 refine wpIn_block ?_
 refine loop_fuel (n:=N) (fun n a w => ∃(κ:Gh) (y57:List Int) (y58:Int),Fr (14) [] [(1,.slice p4 (y57).length (x3).length),(5,vi ((x3).length:Int)),(6,vi y58)] a∧SS [] κ0 w0 κ w [.ext (ownX (fInt .i64) 3 p4 ((x3).length) y57)] []∧M.law22_modes_L1 N n x3 y57 y58=some r) ?_ ?_
 exact ⟨_,x3,0,hF.kp [1,5,6],hS.sp [0] [],H⟩
 rintro n a w ⟨κ,y57,y58,hF,hS,H⟩
 rcases n with _|fuel1
 simp [M.law22_modes_L1] at H
 simp only [M.law22_modes_L1] at H
 refine wpIn_seq_k fun K59 hK59=>?_
 refine wpIn_region_lit ?_
 refine wp 1 [1,5,6,7] hF fun a hF=>?_
 refine wpListIn_nil ?_
 refine hK59 _ _ ?_
 refine wpIn_seq_k fun K60 hK60=>?_
 refine bif_split H (fun hb H=>?_) (fun hb H=>?_)
 refine cond_t hF (by kernel_rfl) hb ?_
 refine wpIn_skip ?_
 refine hK60 _ _ ?_
 refine wpIn_seq_k fun K61 hK61=>?_
 refine wpIn_block ?_
 refine wpIn_seq_k fun K62 hK62=>?_
 refine wpIn_region_lit ?_
 refine wp 2 [1,2,5,6] hF fun a hF=>?_
 refine wpListIn_nil ?_
 refine hK62 _ _ ?_
 refine wpIn_region_lit ?_
 refine wl_pure (L':=[(1,.slice p4 (y57).length (x3).length),(5,vi ((x3).length:Int)),(6,vi y58),(9,.slice p4 (y57).length (x3).length),(10,vi y58)]) 2 [1,5,6,9,10] hF (by kernel_rfl) fun a hF=>?_
 refine bind_split H (fun x63 hx63 H=>?_)
 refine wc (wo_indexO hF hS (by kernel_rfl) 0 (sz:=1) rfl rfl rfl rfl rfl hx63 (by kernel_rfl) (by kernel_rfl) fun b64 f65 a hpx63 hF=>?_)
 refine wc (wo_storeOL hF hS (by kernel_rfl) 0 (z:=2) rfl rfl rfl rfl hpx63 hx63 rfl (by kernel_rfl) rfl (by kernel_rfl) (Cf:=(fun nn=>[.ext (ownX (fInt .i64) 3 p4 ((x3).length) (List.set y57 (Int.toNat y58) 2))])) (Lf:=(fun nn=>[(1,.slice p4 nn (x3).length),(5,vi ((x3).length:Int)),(6,vi y58),(9,.slice p4 nn (x3).length),(10,vi y58)])) [1,5,6,9,10] (by kernel_rfl) (by kernel_rfl) fun a w hF hS=>?_)
 refine wpListIn_nil ?_
 refine hK61 _ _ ?_
 refine wpIn_region_lit ?_
 refine wp 2 [1,5,6] hF fun a hF=>?_
 refine wpListIn_nil ?_
 exact ⟨fuel1,Nat.lt_succ_self _,_,(List.set y57 (Int.toNat y58) 2),IntKind.i64.wrap (y58+1),hF.kp [1,5,6],hS.sp [0] [],H⟩
 refine cond_f hF (by kernel_rfl) hb ?_
 refine wpIn_exit ?_
 refine hK5 _ _ ?_
 refine wpIn_seq_k fun K66 hK66=>?_
 refine wpIn_region_lit ?_
 refine wp 2 [0] hF fun a hF=>?_
 refine wpListIn_nil ?_
 refine hK66 _ _ ?_
 refine wpIn_ret ?_
 obtain ⟨κ,hS⟩:=hS.pubO 0 rfl
 cases H
 exact (ret_done hF hS (res1 Tryz.results8 (rvt hF)) ⟨p4,(x3).length,rfl,(hS.pick [0] (by kernel_rfl)).ro,hS.newC [0] (by decide) (by kernel_rfl)⟩)
end Go.Cf
