/- The walks: each function returns what its model says. Printed by a program of ours. -/
import Derived.Test.YtgpgcfgejggolaaGreatDoorZM1
namespace Go.Cf
open Go Go.Proofs
set_option linter.unusedVariables false
set_option maxRecDepth 20000
set_option maxHeartbeats 8000000
theorem C_cluster_split (N:Nat){κ0:Gh}{w0:World}(hfr:Fresh κ0 w0)(a1:Int)(hR : ∀m∈([]:List MP),m.p κ0 w0){r:(Int×Int)}(H:M.cluster_split N a1=some r) :
    Calls Tryz.prog 103 #[vi a1] w0 (Post [] κ0 w0 fun v κ w=>v = .tuple #[vi r.1,vi r.2]∧(∀m∈([]:List MP),m.p κ w)∧NewC w0 κ w []):=by
 have hS:=SS.start hfr hR
 refine en Tryz.func103 rfl Tryz.ntmps103 fun a hF=>?_
 unfold M.cluster_split at H
 refine qs fun _ hz=>rl (wp 2 [0] hF fun a hF=>nl (hz _ _ (qr fun _ h3=>(wp 9 [2,3] hF fun a hF=>(h3 _ _ (rt ?_))))))
 cases H
 exact (ret_done hF hS (res2 Tryz.results103 (rvt hF) (rvt hF)) ⟨rfl,(hS.pick [] kr).ro,hS.newC [] dc kr⟩)
theorem C_cluster_Cluster_there (N:Nat){Ms:List Nat}{κ0:Gh}{w0:World}(a1:T_cluster_Setup)(a4:Int)(cs2:List Value)(b3:Nat)(hB:SB Ms κ0 w0 [.box b3 103 [si a1.Pool,si a1.Members,si a1.Nodes,sb a1.Plain,(558,cs2)]] []){r:(Bool)}(H:M.cluster_Cluster_there N a1 a4=some r) :
    Calls Tryz.prog 42 #[pt b3 0,vi a4] w0 (Post Ms κ0 w0 fun v κ w=>v=vb r∧SS Ms κ0 w0 κ w [.box b3 103 [si a1.Pool,si a1.Members,si a1.Nodes,sb a1.Plain,(558,cs2)]] []):=by
 have hS:=hB.hS
 have hfr:=hS.fresh
 refine en Tryz.func42 rfl Tryz.ntmps42 fun a hF=>?_
 unfold M.cluster_Cluster_there at H
 refine qr fun _ h5=>(wp 1 [0,1] hF fun a hF=>(h5 _ _ (qs fun _ h6=>qr fun _ h7=>(wp 2 [0,1,8] hF fun a hF=>(h7 _ _ (bc hF H (fun hb H=>?_) fun hb H=>?_))))))
 refine qr fun _ h8=>(wp 1 [4] hF fun a hF=>(h8 _ _ (rt ?_)))
 cases H
 exact ret_done hF hS (res1 Tryz.results42 (rvt hF)) ⟨rfl,hS.sp [0] []⟩
 refine sk (h6 _ _ (qs fun _ h9=>qr fun _ h10=>(bd H fun v12 hv12 H=>wl_join (fun a w => ∃κ:Gh,Fr (36) [] [(0,pt b3 0),(1,vi a4),(14,vb v12)] a∧SS Ms κ0 w0 κ w [.box b3 103 [si a1.Pool,si a1.Members,si a1.Nodes,sb a1.Plain,(558,cs2)]] []∧True) ?_ ?_)))
 refine wp 3 [0,1,11] hF fun a hF=>bs hv12 (fun hb hv12=>?_) fun hb hv12=>?_
 have hF:=hF.bv 11 hb
 refine wp 3 [0,1,14] hF fun a hF=>nl ?_
 cases hv12
 exact ⟨_,hF.kp [0,1,14],hS.sp [0] [],trivial⟩
 have hF:=hF.bv 11 hb
 refine wp 3 [0,1,14] hF fun a hF=>nl ?_
 cases hv12
 exact ⟨_,hF.kp [0,1,14],hS.sp [0] [],trivial⟩
 rintro a w ⟨κ,hF,hS,-⟩
 refine h10 _ _ (bc hF H (fun hb H=>?_) fun hb H=>?_)
 refine qr fun _ h13=>(wp 1 [4] hF fun a hF=>(h13 _ _ (rt ?_)))
 cases H
 exact ret_done hF hS (res1 Tryz.results42 (rvt hF)) ⟨rfl,hS.sp [0] []⟩
 refine sk (h9 _ _ (qr fun _ h14=>(wp 1 [0,16] hF fun a hF=>bd H fun x15 hx15 H=>wc (wo_callP hF hS kr kr (C_cluster_split N hS.fresh a4 ((hS.pick [] kr).ro) hx15) ?_))))
 rintro _ κ w a ⟨rfl,hR,hN⟩ hF hS hO
 refine wp 5 [0,5,6] hF fun a hF=>(h14 _ _ (qr fun _ h16=>(bd H fun v18 hv18 H=>wl_join (fun a w => ∃κ:Gh,Fr (36) [] [(4,vb v18)] a∧SS Ms κ0 w0 κ w [.box b3 103 [si a1.Pool,si a1.Members,si a1.Nodes,sb a1.Plain,(558,cs2)]] []∧True) ?_ ?_)))
 refine wp 5 [0,6,20,24] hF fun a hF=>wc (wld hF hS 0 0 0 fun a hF=>wp 2 [0,6,27] hF fun a hF=>bs hv18 (fun hb hv18=>?_) fun hb hv18=>?_)
 have hF:=hF.bv 27 hb
 refine wp 5 [27,28,32] hF fun a hF=>wcg hF (wld hF hS 0 2 0 fun a hF=>wp 3 [4] hF fun a hF=>nl ?_)
 cases hv18
 exact ⟨_,hF.kp [4],hS.sp [0] [],trivial⟩
 have hF:=hF.bv 27 hb
 refine wp 9 [4] hF fun a hF=>nl ?_
 cases hv18
 exact ⟨_,hF.kp [4],hS.sp [0] [],trivial⟩
 rintro a w ⟨κ,hF,hS,-⟩
 refine h16 _ _ (rt ?_)
 cases H
 exact ret_done hF hS (res1 Tryz.results42 (rvt hF)) ⟨rfl,hS.sp [0] []⟩
theorem C_cluster_Cluster_peers (N:Nat){Ms:List Nat}{κ0:Gh}{w0:World}(a1:T_cluster_Setup)(a4:Int)(cs2:List Value)(b3:Nat)(hB:SB Ms κ0 w0 [.box b3 103 [si a1.Pool,si a1.Members,si a1.Nodes,sb a1.Plain,(558,cs2)]] []){r:((List Int))}(H:M.cluster_Cluster_peers N a1 a4=some r) :
    Calls Tryz.prog 35 #[pt b3 0,vi a4] w0 (Post Ms κ0 w0 fun v κ w => ∃(p105:Option Addr) (c106:Nat),v = .slice p105 r.length c106∧SS Ms κ0 w0 κ w [.box b3 103 [si a1.Pool,si a1.Members,si a1.Nodes,sb a1.Plain,(558,cs2)],.tok p105 3 1 r.length c106] [Ro.mp (fInt .i64).ty p105 c106 r]):=by
 have hS:=hB.hS
 have hfr:=hS.fresh
 refine en Tryz.func35 rfl Tryz.ntmps35 fun a hF=>?_
 unfold M.cluster_Cluster_peers at H
 refine qr fun _ h5=>(wp 1 [0,1] hF fun a hF=>(h5 _ _ (qs fun _ h6=>qr fun _ h7=>(wp 2 [0,1,11,12] hF fun a hF=>bd H fun x8 hx8 H=>wc (wcS 1 [0] hF hS (fun hS=>C_cluster_Cluster_there N (T_cluster_Setup.mk a1.Pool a1.Members a1.Nodes a1.Plain) a4 cs2 b3 (hS.sbK []) hx8) ?_)))))
 rintro _ κ w a ⟨rfl,h2⟩ hF hB
 have hS:=hB _ _ h2
 refine wp 1 [0,1,14] hF fun a hF=>(h7 _ _ (bc hF H (fun hb H=>?_) fun hb H=>?_))
 refine qr fun _ h9=>(wp 1 [4] hF fun a hF=>(h9 _ _ (rt ?_)))
 have hS:=hS.add (m:=Ro.mp (fInt .i64).ty none 0 ([]:List Int)) (Ro.nil (fInt .i64).ty _ _)
 have hS:=hS.addNil 3 1
 cases H
 exact ret_done hF hS (res1 Tryz.results35 (rvt hF)) ⟨none,0,rfl,hS.sp [1,0] [0]⟩
 refine sk (h6 _ _ (qr fun _ h10=>(wp 1 [0,1,5] hF fun a hF=>(h10 _ _ (qr fun _ h11=>(wp 1 [0,1,5,16] hF fun a hF=>bd H fun x12 hx12 H=>wc (wo_callP hF hS kr kr (C_cluster_split N hS.fresh a4 ((hS.pick [] kr).ro) hx12) ?_)))))))
 rintro _ κ w a ⟨rfl,hR,hN⟩ hF hS hO
 refine wp 5 [0,1,5,6,7] hF fun a hF=>(h11 _ _ (qs fun _ h13=>qr fun _ h14=>(wp 1 [0,1,5,6,7,20] hF fun a hF=>(h14 _ _ (bk (loop_fuel (n:=N) (fun n a w => ∃(κ:Gh) (y65:List Int) (p66:Option Addr) (c67:Nat) (y68:Int),Fr (89) [] [(0,pt b3 0),(1,vi a4),(5,.slice p66 y65.length c67),(6,vi x12.1),(7,vi x12.2),(20,vi y68)] a∧SS Ms κ0 w0 κ w [.box b3 103 [si a1.Pool,si a1.Members,si a1.Nodes,sb a1.Plain,(558,cs2)],.tok p66 3 1 y65.length c67] [Ro.mp (fInt .i64).ty p66 c67 y65]∧M.cluster_Cluster_peers_L1 N n a1 a4 x12 y65 y68=some r) ?_ ?_))))))
 have hS:=hS.add (m:=Ro.mp (fInt .i64).ty none 0 ([]:List Int)) (Ro.nil (fInt .i64).ty _ _)
 have hS:=hS.addNil 3 1
 exact ⟨_,([]:List Int),none,0,0,hF.kp [0,1,5,6,7,20],hS.sp [1,0] [0],H⟩
 rintro n a w ⟨κ,y65,p66,c67,y68,hF,hS,H⟩
 rcases n with _|fuel1
 simp [M.cluster_Cluster_peers_L1] at H
 simp only [M.cluster_Cluster_peers_L1] at H
 refine qr fun _ h69=>(wp 1 [0,1,5,6,7,20,21] hF fun a hF=>(h69 _ _ (qs fun _ h70=>bc hF H (fun hb H=>?_) fun hb H=>?_)))
 refine sk (h70 _ _ (seq_join (fun a w => ∃(κ:Gh) (y71:List Int) (p72:Option Addr) (c73:Nat),Fr (89) [] [(0,pt b3 0),(1,vi a4),(5,.slice p72 y71.length c73),(6,vi x12.1),(7,vi x12.2),(20,vi y68)] a∧SS Ms κ0 w0 κ w [.box b3 103 [si a1.Pool,si a1.Members,si a1.Nodes,sb a1.Plain,(558,cs2)],.tok p72 3 1 y71.length c73] [Ro.mp (fInt .i64).ty p72 c73 y71]∧M.cluster_Cluster_peers_k2 N (M.cluster_Cluster_peers_L1 N fuel1) a1 a4 x12 y68 y71=some r) ?_ ?_))
 refine bk (qr fun _ h74=>(wp 2 [0,1,5,6,7,8,20] hF fun a hF=>(h74 _ _ (qr fun _ h75=>(wp 1 [0,1,5,6,7,8,20,24] hF fun a hF=>bd H fun x76 hx76 H=>wc (wo_callP hF hS kr kr (C_cluster_split N hS.fresh y68 ((hS.pick [] kr).ro) hx76) ?_))))))
 rintro _ κ w a ⟨rfl,hR,hN⟩ hF hS hO
 refine wp 5 [0,1,5,6,7,8,9,10,20] hF fun a hF=>(h75 _ _ (bk (qr fun _ h77=>(bd H fun v79 hv79 H=>wl_join (fun a w => ∃κ:Gh,Fr (89) [] [(0,pt b3 0),(1,vi a4),(5,.slice p66 y65.length c67),(6,vi x12.1),(7,vi x12.2),(8,vi y68),(9,vi x76.1),(10,vi x76.2),(20,vi y68),(28,vb v79)] a∧SS Ms κ0 w0 κ w [.box b3 103 [si a1.Pool,si a1.Members,si a1.Nodes,sb a1.Plain,(558,cs2)],.tok p66 3 1 y65.length c67] [Ro.mp (fInt .i64).ty p66 c67 y65]∧True) ?_ ?_))))
 refine wp 4 [0,1,5,6,7,8,9,10,20,32] hF fun a hF=>bs hv79 (fun hb hv79=>?_) fun hb hv79=>?_
 have hF:=hF.bv 32 hb
 refine wp 6 [0,1,5,6,7,8,9,10,20,28] hF fun a hF=>nl ?_
 cases hv79
 exact ⟨_,hF.kp [0,1,5,6,7,8,9,10,20,28],hS.sp [0,1] [0],trivial⟩
 have hF:=hF.bv 32 hb
 refine wp 2 [0,1,5,6,7,8,9,10,20,32,33,34] hF fun a hF=>bd hv79 fun x80 hx80 hv79=>wcg hF (wcS 1 [0,1] hF hS (fun hS=>C_cluster_Cluster_there N (T_cluster_Setup.mk a1.Pool a1.Members a1.Nodes a1.Plain) y68 cs2 b3 (hS.sbK []) hx80) ?_)
 rintro _ κ w a ⟨rfl,h2⟩ hF hB
 have hS:=hB _ _ h2
 refine wp 3 [0,1,5,6,7,8,9,10,20,28] hF fun a hF=>nl ?_
 cases hv79
 exact ⟨_,hF.kp [0,1,5,6,7,8,9,10,20,28],hS.sp [0,1] [0],trivial⟩
 rintro a w ⟨κ,hF,hS,-⟩
 refine h77 _ _ (bc hF H (fun hb H=>?_) fun hb H=>?_)
 refine sk ?_
 exact ⟨_,y65,p66,c67,hF.kp [0,1,5,6,7,20],hS.sp [0,1] [0],H⟩
 refine seq_join (fun a w => ∃(κ:Gh) (y81:Bool),Fr (89) [] [(0,pt b3 0),(1,vi a4),(5,.slice p66 y65.length c67),(6,vi x12.1),(7,vi x12.2),(8,vi y68),(9,vi x76.1),(10,vi x76.2),(20,vi y68),(38,vb y81)] a∧SS Ms κ0 w0 κ w [.box b3 103 [si a1.Pool,si a1.Members,si a1.Nodes,sb a1.Plain,(558,cs2)],.tok p66 3 1 y65.length c67] [Ro.mp (fInt .i64).ty p66 c67 y65]∧M.cluster_Cluster_peers_k3 N (M.cluster_Cluster_peers_L1 N fuel1) a1 a4 x12 y65 y68 x76 y81=some r) ?_ ?_
 refine qr fun _ h99=>(bd H fun v101 hv101 H=>wl_join (fun a w => ∃κ:Gh,Fr (89) [] [(0,pt b3 0),(1,vi a4),(5,.slice p66 y65.length c67),(6,vi x12.1),(7,vi x12.2),(8,vi y68),(9,vi x76.1),(10,vi x76.2),(20,vi y68),(38,vb v101)] a∧SS Ms κ0 w0 κ w [.box b3 103 [si a1.Pool,si a1.Members,si a1.Nodes,sb a1.Plain,(558,cs2)],.tok p66 3 1 y65.length c67] [Ro.mp (fInt .i64).ty p66 c67 y65]∧True) ?_ ?_)
 refine wp 3 [0,1,5,6,7,8,9,10,20,41] hF fun a hF=>bs hv101 (fun hb hv101=>?_) fun hb hv101=>?_
 have hF:=hF.bv 41 hb
 refine wp 4 [0,1,5,6,7,8,9,10,20,38] hF fun a hF=>nl ?_
 cases hv101
 exact ⟨_,hF.kp [0,1,5,6,7,8,9,10,20,38],hS.sp [0,1] [0],trivial⟩
 have hF:=hF.bv 41 hb
 refine wp 4 [0,1,5,6,7,8,9,10,20,38] hF fun a hF=>nl ?_
 cases hv101
 exact ⟨_,hF.kp [0,1,5,6,7,8,9,10,20,38],hS.sp [0,1] [0],trivial⟩
 rintro a w ⟨κ,hF,hS,-⟩
 refine h99 _ _ (bc hF H (fun hb H=>?_) fun hb H=>?_)
 refine sk ?_
 exact ⟨_,v101,hF.kp [0,1,5,6,7,8,9,10,20,38],hS.sp [0,1] [0],H⟩
 refine rl (bd H fun v103 hv103 H=>wl_join (fun a w => ∃κ:Gh,Fr (89) [] [(0,pt b3 0),(1,vi a4),(5,.slice p66 y65.length c67),(6,vi x12.1),(7,vi x12.2),(8,vi y68),(9,vi x76.1),(10,vi x76.2),(20,vi y68),(38,vb v103)] a∧SS Ms κ0 w0 κ w [.box b3 103 [si a1.Pool,si a1.Members,si a1.Nodes,sb a1.Plain,(558,cs2)],.tok p66 3 1 y65.length c67] [Ro.mp (fInt .i64).ty p66 c67 y65]∧True) ?_ ?_)
 refine wp 3 [0,1,5,6,7,8,9,10,20,47] hF fun a hF=>bs hv103 (fun hb hv103=>?_) fun hb hv103=>?_
 have hF:=hF.bv 47 hb
 refine wp 4 [0,1,5,6,7,8,9,10,20,51] hF fun a hF=>bs hv103 (fun hb hv103=>?_) fun hb hv103=>?_
 have hF:=hF.bv 51 hb
 refine wp 4 [0,1,5,6,7,8,9,10,20,38] hF fun a hF=>nl ?_
 cases hv103
 exact ⟨_,hF.kp [0,1,5,6,7,8,9,10,20,38],hS.sp [0,1] [0],trivial⟩
 have hF:=hF.bv 51 hb
 refine wp 4 [0,1,5,6,7,8,9,10,20,38] hF fun a hF=>nl ?_
 cases hv103
 exact ⟨_,hF.kp [0,1,5,6,7,8,9,10,20,38],hS.sp [0,1] [0],trivial⟩
 have hF:=hF.bv 47 hb
 refine wp 8 [0,1,5,6,7,8,9,10,20,38] hF fun a hF=>nl ?_
 cases hv103
 exact ⟨_,hF.kp [0,1,5,6,7,8,9,10,20,38],hS.sp [0,1] [0],trivial⟩
 rintro a w ⟨κ,hF,hS,-⟩
 exact ⟨_,v103,hF.kp [0,1,5,6,7,8,9,10,20,38],hS.sp [0,1] [0],H⟩
 rintro a w ⟨κ,y81,hF,hS,H⟩
 unfold M.cluster_Cluster_peers_k3 at H
 refine bc hF H (fun hb H=>?_) fun hb H=>?_
 refine rl (wl_pure (L':=[(0,pt b3 0),(1,vi a4),(6,vi x12.1),(7,vi x12.2),(20,vi y68),(55,.slice p66 y65.length c67),(56,vi y68)]) 2 [0,1,6,7,20,55,56] hF kr fun a hF=>wc (wo_buildN (t:=(fInt .i64)) (z:=vi 0) (l:=[y68]) (vs:=[(0,vi y68)]) (cells := #[vi y68]) (E:=3) hF hS kr rfl kr kr rfl kr kr kr kr kr fun p82 κ a w hF hS=>bd H fun x83 hx83 H=>wc (wo_append (ty:=(fInt .i64).ty) hF hS kr 2 1 0 rfl rfl rfl kr kr rfl rfl rfl hx83 kr (i:=Tryz.t3) (z:=vi 0) kr kr kr fun p84 c85 κ a w hF hS=>wp 1 [0,1,5,6,7,20] hF fun a hF=>nl ?_)))
 exact ⟨_,x83,p84,c85,hF.kp [0,1,5,6,7,20],hS.sp [1,2] [0],H⟩
 refine qr fun _ h86=>(bd H fun v88 hv88 H=>wl_join (fun a w => ∃κ:Gh,Fr (89) [] [(0,pt b3 0),(1,vi a4),(5,.slice p66 y65.length c67),(6,vi x12.1),(7,vi x12.2),(8,vi y68),(9,vi x76.1),(10,vi x76.2),(20,vi y68),(59,vb v88)] a∧SS Ms κ0 w0 κ w [.box b3 103 [si a1.Pool,si a1.Members,si a1.Nodes,sb a1.Plain,(558,cs2)],.tok p66 3 1 y65.length c67] [Ro.mp (fInt .i64).ty p66 c67 y65]∧True) ?_ ?_)
 refine wp 3 [0,1,5,6,7,8,9,10,20,62] hF fun a hF=>bs hv88 (fun hb hv88=>?_) fun hb hv88=>?_
 have hF:=hF.bv 62 hb
 refine wp 4 [0,1,5,6,7,8,9,10,20,59] hF fun a hF=>nl ?_
 cases hv88
 exact ⟨_,hF.kp [0,1,5,6,7,8,9,10,20,59],hS.sp [0,1] [0],trivial⟩
 have hF:=hF.bv 62 hb
 refine wp 4 [0,1,5,6,7,8,9,10,20,59] hF fun a hF=>nl ?_
 cases hv88
 exact ⟨_,hF.kp [0,1,5,6,7,8,9,10,20,59],hS.sp [0,1] [0],trivial⟩
 rintro a w ⟨κ,hF,hS,-⟩
 refine h86 _ _ (bc hF H (fun hb H=>?_) fun hb H=>?_)
 refine sk ?_
 exact ⟨_,y65,p66,c67,hF.kp [0,1,5,6,7,20],hS.sp [0,1] [0],H⟩
 refine seq_join (fun a w => ∃(κ:Gh) (y89:Bool),Fr (89) [] [(0,pt b3 0),(1,vi a4),(5,.slice p66 y65.length c67),(6,vi x12.1),(7,vi x12.2),(8,vi y68),(20,vi y68),(66,vb y89)] a∧SS Ms κ0 w0 κ w [.box b3 103 [si a1.Pool,si a1.Members,si a1.Nodes,sb a1.Plain,(558,cs2)],.tok p66 3 1 y65.length c67] [Ro.mp (fInt .i64).ty p66 c67 y65]∧M.cluster_Cluster_peers_k4 N (M.cluster_Cluster_peers_L1 N fuel1) a1 a4 x12 y65 y68 y89=some r) ?_ ?_
 refine qr fun _ h94=>(bd H fun v96 hv96 H=>wl_join (fun a w => ∃κ:Gh,Fr (89) [] [(0,pt b3 0),(1,vi a4),(5,.slice p66 y65.length c67),(6,vi x12.1),(7,vi x12.2),(8,vi y68),(9,vi x76.1),(10,vi x76.2),(20,vi y68),(66,vb v96)] a∧SS Ms κ0 w0 κ w [.box b3 103 [si a1.Pool,si a1.Members,si a1.Nodes,sb a1.Plain,(558,cs2)],.tok p66 3 1 y65.length c67] [Ro.mp (fInt .i64).ty p66 c67 y65]∧True) ?_ ?_)
 refine wp 3 [0,1,5,6,7,8,9,10,20,69] hF fun a hF=>bs hv96 (fun hb hv96=>?_) fun hb hv96=>?_
 have hF:=hF.bv 69 hb
 refine wp 4 [0,1,5,6,7,8,9,10,20,66] hF fun a hF=>nl ?_
 cases hv96
 exact ⟨_,hF.kp [0,1,5,6,7,8,9,10,20,66],hS.sp [0,1] [0],trivial⟩
 have hF:=hF.bv 69 hb
 refine wp 4 [0,1,5,6,7,8,9,10,20,66] hF fun a hF=>nl ?_
 cases hv96
 exact ⟨_,hF.kp [0,1,5,6,7,8,9,10,20,66],hS.sp [0,1] [0],trivial⟩
 rintro a w ⟨κ,hF,hS,-⟩
 refine h94 _ _ (bc hF H (fun hb H=>?_) fun hb H=>?_)
 refine sk ?_
 exact ⟨_,v96,hF.kp [0,1,5,6,7,8,20,66],hS.sp [0,1] [0],H⟩
 refine rl (bd H fun v98 hv98 H=>wl_join (fun a w => ∃κ:Gh,Fr (89) [] [(0,pt b3 0),(1,vi a4),(5,.slice p66 y65.length c67),(6,vi x12.1),(7,vi x12.2),(8,vi y68),(20,vi y68),(66,vb v98)] a∧SS Ms κ0 w0 κ w [.box b3 103 [si a1.Pool,si a1.Members,si a1.Nodes,sb a1.Plain,(558,cs2)],.tok p66 3 1 y65.length c67] [Ro.mp (fInt .i64).ty p66 c67 y65]∧True) ?_ ?_)
 refine wp 4 [0,1,5,6,7,8,10,20,76] hF fun a hF=>bs hv98 (fun hb hv98=>?_) fun hb hv98=>?_
 have hF:=hF.bv 76 hb
 refine wp 7 [0,1,5,6,7,8,20,66] hF fun a hF=>nl ?_
 cases hv98
 exact ⟨_,hF.kp [0,1,5,6,7,8,20,66],hS.sp [0,1] [0],trivial⟩
 have hF:=hF.bv 76 hb
 refine wp 7 [0,1,5,6,7,8,20,66] hF fun a hF=>nl ?_
 cases hv98
 exact ⟨_,hF.kp [0,1,5,6,7,8,20,66],hS.sp [0,1] [0],trivial⟩
 rintro a w ⟨κ,hF,hS,-⟩
 exact ⟨_,v98,hF.kp [0,1,5,6,7,8,20,66],hS.sp [0,1] [0],H⟩
 rintro a w ⟨κ,y89,hF,hS,H⟩
 unfold M.cluster_Cluster_peers_k4 at H
 refine bc hF H (fun hb H=>?_) fun hb H=>?_
 refine rl (wl_pure (L':=[(0,pt b3 0),(1,vi a4),(6,vi x12.1),(7,vi x12.2),(20,vi y68),(83,.slice p66 y65.length c67),(84,vi y68)]) 2 [0,1,6,7,20,83,84] hF kr fun a hF=>wc (wo_buildN (t:=(fInt .i64)) (z:=vi 0) (l:=[y68]) (vs:=[(0,vi y68)]) (cells := #[vi y68]) (E:=3) hF hS kr rfl kr kr rfl kr kr kr kr kr fun p90 κ a w hF hS=>bd H fun x91 hx91 H=>wc (wo_append (ty:=(fInt .i64).ty) hF hS kr 2 1 0 rfl rfl rfl kr kr rfl rfl rfl hx91 kr (i:=Tryz.t3) (z:=vi 0) kr kr kr fun p92 c93 κ a w hF hS=>wp 1 [0,1,5,6,7,20] hF fun a hF=>nl ?_)))
 exact ⟨_,x91,p92,c93,hF.kp [0,1,5,6,7,20],hS.sp [1,2] [0],H⟩
 refine sk ?_
 exact ⟨_,y65,p66,c67,hF.kp [0,1,5,6,7,20],hS.sp [0,1] [0],H⟩
 rintro a w ⟨κ,y71,p72,c73,hF,hS,H⟩
 unfold M.cluster_Cluster_peers_k2 at H
 refine rl (wp 2 [0,1,5,6,7,20] hF fun a hF=>nl ?_)
 exact ⟨fuel1,Nat.lt_succ_self _,_,y71,p72,c73,IntKind.i64.wrap (y68+1),hF.kp [0,1,5,6,7,20],hS.sp [0,1] [0],H⟩
 refine xt (h13 _ _ (qr fun _ h104=>(wp 2 [4] hF fun a hF=>(h104 _ _ (rt ?_)))))
 cases H
 exact ret_done hF hS (res1 Tryz.results35 (rvt hF)) ⟨p66,c67,rfl,hS.sp [0,1] [0]⟩
end Go.Cf
