/- The walks: each function returns what its model says. Printed by a program of ours. -/
import Derived.Test.YteeafoagaaedcaaZM1
namespace Go.Cf
open Go Go.Proofs
set_option linter.unusedVariables false
set_option maxRecDepth 20000
set_option maxHeartbeats 8000000
theorem C_ref04_SameVers (N:Nat){κ0:Gh}{w0:World}(hfr:Fresh κ0 w0)(a1:(List T_api_Ver))(a4:(List T_api_Ver))(p2:Option Addr)(c3:Nat)(p5:Option Addr)(c6:Nat)(hR : ∀m∈([Ro.mp f_api_Ver.ty p2 c3 a1,Ro.mp f_api_Ver.ty p5 c6 a4]:List MP),m.p κ0 w0){r:(Bool)}(H:M.ref04_SameVers N a1 a4=some r) :
    Calls Try.prog 39 #[.slice p2 a1.length c3,.slice p5 a4.length c6] w0 (Post [] κ0 w0 fun v κ w=>v=vb r∧(∀m∈([]:List MP),m.p κ w)∧NewC w0 κ w []):=by
 have hS:=SS.start hfr hR
 refine en Try.func39 rfl Try.ntmps39 fun a hF=>?_
 unfold M.ref04_SameVers at H
 refine qr fun _ h7=>(wp 1 [0,1] hF fun a hF=>(h7 _ _ (qs fun _ h8=>qr fun _ h9=>(wp 5 [0,1,10] hF fun a hF=>(h9 _ _ (bc hF H (fun hb H=>?_) fun hb H=>?_))))))
 refine qr fun _ h10=>(wp 1 [4] hF fun a hF=>(h10 _ _ (rt ?_)))
 cases H
 exact (ret_done hF hS (res1 Try.results39 (rvt hF)) ⟨rfl,(hS.pick [] kr).ro,hS.newC [] dc kr⟩)
 refine sk (h8 _ _ (qs fun _ h11=>qr fun _ h12=>(wp 1 [0,1,5] hF fun a hF=>(h12 _ _ (bk (loop_fuel (n:=N) (fun n a w => ∃(κ:Gh) (y63:Int),Fr (26) [] [(0,.slice p2 a1.length c3),(1,.slice p5 a4.length c6),(5,vi y63)] a∧SS [] κ0 w0 κ w [] [Ro.mp f_api_Ver.ty p2 c3 a1,Ro.mp f_api_Ver.ty p5 c6 a4]∧M.ref04_SameVers_L1 N n a1 a4 y63=some r) ?_ ?_))))))
 exact ⟨_,0,hF.kp [0,1,5],hS.sp [] [0,1],H⟩
 rintro n a w ⟨κ,y63,hF,hS,H⟩
 rcases n with _|fuel1
 simp [M.ref04_SameVers_L1] at H
 simp only [M.ref04_SameVers_L1] at H
 refine qs fun _ h64=>qr fun _ h65=>(wp 4 [0,1,5,14] hF fun a hF=>(h65 _ _ (bc hF H (fun hb H=>?_) fun hb H=>?_)))
 refine sk (h64 _ _ (qs fun _ h66=>bk (qs fun _ h67=>rgS hS [] ?_)))
 have hS:=hS.drew
 refine any_pure [0,1,4,5] [0,1,5,17,18,21,22] (L':=[(0,.slice p2 a1.length c3),(1,.slice p5 a4.length c6),(5,vi y63),(17,.slice p2 a1.length c3),(18,vi y63),(21,.slice p5 a4.length c6),(22,vi y63)]) (listed':=(bitA 9 51)) (fuel:=5) hF (hS.sx [] [0,1]) kr (by intro c a w t v h; cases t<;>exact h) kr rfl fun a hF=>bd H fun x68 hx68 H=>?_
 obtain ⟨b69,f70,hpx68⟩:=hS.ptr 0 rfl hx68
 refine atk 2 (some 19) hF (hS.sx [] [0,1]) rfl (fun w _=>val_index (E:=37) (sz:=6) rfl hpx68 rfl kr rfl hx68 kr kr w) fun a hF=>atk 3 (some 20) hF (hS.sx [] [0,1]) rfl (val_loadRoAgg (t:=f_api_Ver) 0 rfl rfl hpx68 rfl hx68 kr kr kr) fun a hF=>bd H fun x71 hx71 H=>?_
 obtain ⟨b72,f73,hpx71⟩:=hS.ptr 1 rfl hx71
 refine atk 6 (some 23) hF (hS.sx [] [0,1]) rfl (fun w _=>val_index (E:=37) (sz:=6) rfl hpx71 rfl kr rfl hx71 kr kr w) fun a hF=>atk 7 (some 24) hF (hS.sx [] [0,1]) rfl (val_loadRoAgg (t:=f_api_Ver) 1 rfl rfl hpx71 rfl hx71 kr kr kr) fun a hF=>atk 8 (some 25) hF (hS.sx [] [0,1]) rfl (fun w _=>(val_eq (neg:=true) (xs:=(flat [sg x68.Key,sg x68.Val,sb x68.Gone,su x68.TS,si x68.DC,si x68.Tx])) (ys:=(flat [sg x71.Key,sg x71.Val,sb x71.Gone,su x71.TS,si x71.DC,si x71.Tx])) (ks:=[.str,.str,.bool,.int .u64,.int .i64,.int .i64]) 20 dc rfl kr kr kr kr kr kr kr) w) fun a hF=>?_
 refine and_ (h67 _ _ (bc hF H (fun hb H=>?_) fun hb H=>?_))
 refine qr fun _ h74=>(wp 1 [4] hF fun a hF=>(h74 _ _ (rt ?_)))
 cases H
 exact (ret_done hF hS (res1 Try.results39 (rvt hF)) ⟨rfl,(hS.pick [] kr).ro,hS.newC [] dc kr⟩)
 refine sk (h66 _ _ (rl (wp 3 [0,1,5] hF fun a hF=>nl ?_)))
 exact ⟨fuel1,Nat.lt_succ_self _,_,IntKind.i64.wrap (y63+1),hF.kp [0,1,5],hS.sp [] [0,1],H⟩
 refine xt (h11 _ _ (qr fun _ h75=>(wp 1 [4] hF fun a hF=>(h75 _ _ (rt ?_)))))
 cases H
 exact (ret_done hF hS (res1 Try.results39 (rvt hF)) ⟨rfl,(hS.pick [] kr).ro,hS.newC [] dc kr⟩)
end Go.Cf
