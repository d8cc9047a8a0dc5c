/- The walks: each function returns what its model says. Printed by a program of ours. -/
import Derived.Test.YtgpgcfgejggolaaGreatDoorZM1
namespace Go.Cf
open Go Go.Proofs
set_option linter.unusedVariables false
set_option maxRecDepth 20000
set_option maxHeartbeats 8000000
theorem C_net_New (N:Nat){Ms:List Nat}{κ0:Gh}{w0:World}(hB:SB Ms κ0 w0 [] []){r:(T_net_Net)}(H:M.net_New N=some r) :
    Calls Tryz.prog 30 #[] w0 (Post Ms κ0 w0 fun v κ w => ∃(b4:Nat) (cs5:List Value),v=pt b4 0∧SS Ms κ0 w0 κ w [.box b4 167 [(441,cs5),si r.lost]] []):=by
 have hS:=hB.hS
 have hfr:=hS.fresh
 refine en Tryz.func30 rfl Tryz.ntmps30 fun a hF=>?_
 unfold M.net_New at H
 refine qr fun _ h1=>(wp 1 [] hF fun a hF=>(h1 _ _ (qs fun _ hz=>rl (wp 1 [1] hF fun a hF=>wc (wbx hF hS [(441,(List.replicate 441 (.slice none 0 0))),si 0] (sgRep rfl (sgN 1 sgNil)) fun b3 a w hF hS=>wp 1 [0] hF fun a hF=>nl (hz _ _ (rt ?_)))))))
 cases H
 exact ret_done hF hS (res1 Tryz.results30 (rvt hF)) ⟨b3,(List.replicate 441 (.slice none 0 0)),rfl,hS.sp [0] []⟩
theorem C_link_New (N:Nat){Ms:List Nat}{κ0:Gh}{w0:World}(a1:Int)(hB:SB Ms κ0 w0 [] []){r:(T_link_End)}(H:M.link_New N a1=some r) :
    Calls Tryz.prog 36 #[vi a1] w0 (Post Ms κ0 w0 fun v κ w => ∃(b6:Nat) (p7:Option Addr) (c8:Nat) (p9:Option Nat) (m10:Array MapEntry) (c11:Nat),v=pt b6 0∧SS Ms κ0 w0 κ w [.box b6 212 [si r.epoch,sl p7 (r.waiting).length c8,si r.sent,si r.got,sm p9],mx p9 m10 c11,.tok p7 29 1 (r.waiting).length c8] [Ro.mp (tSl (fInt .u8).ty) p7 c8 r.waiting,Map.mp (kInt .i64) false (tSl (fInt .u8).ty) p9 m10 c11 r.kept]):=by
 have hS:=hB.hS
 have hfr:=hS.fresh
 refine en Tryz.func36 rfl Tryz.ntmps36 fun a hF=>?_
 unfold M.link_New at H
 refine qs fun _ hz=>rl (wp 1 [0] hF fun a hF=>nl (hz _ _ (qr fun _ h3=>(wl_pure (L':=[(3,vi a1)]) 1 [3] hF kr fun a hF=>wc (wo_makeMap hF hS kr (kInt .i64) false (tSl (fInt .u8).ty) rfl fun b4 a w hF hS=>wp 1 [5] hF fun a hF=>wc (wbx hF hS [si a1,sl none 0 0,si 0,si 0,(1,[.map (some b4)])] (sgN 5 sgNil) fun b5 a w hF hS=>wp 1 [2] hF fun a hF=>(h3 _ _ (rt ?_))))))))
 have hS:=hS.add (m:=Ro.mp (tSl (fInt .u8).ty) none 0 ([]:List (List Int))) (Ro.nil (tSl (fInt .u8).ty) _ _)
 have hS:=hS.addNil 29 1
 cases H
 exact ret_done hF hS (res1 Tryz.results36 (rvt hF)) ⟨b5,none,0,(some b4),#[],0,rfl,hS.sp [1,2,0] [0,1]⟩
theorem C_session_New (N:Nat){Ms:List Nat}{κ0:Gh}{w0:World}(hB:SB Ms κ0 w0 [] []){r:(T_session_Session)}(H:M.session_New N=some r) :
    Calls Tryz.prog 37 #[] w0 (Post Ms κ0 w0 fun v κ w => ∃(b5:Nat) (p6:Option Nat) (m7:Array MapEntry) (c8:Nat) (p9:Option Nat) (m10:Array MapEntry) (c11:Nat),v=pt b5 0∧SS Ms κ0 w0 κ w [.box b5 215 [su r.snap,su r.dep,sb r.open_,sm p6,sm p9],mx p6 m7 c8,mx p9 m10 c11] [Map.mp kStr true f_api_Ver.ty p6 m7 c8 r.writes,Map.mp kStr true f_api_Ver.ty p9 m10 c11 r.cache]):=by
 have hS:=hB.hS
 have hfr:=hS.fresh
 refine en Tryz.func37 rfl Tryz.ntmps37 fun a hF=>?_
 unfold M.session_New at H
 refine qr fun _ h1=>(wl_pure (L':=[]) 1 [] hF kr fun a hF=>(h1 _ _ (qs fun _ hz=>rl (wc (wo_makeMap hF hS kr kStr true f_api_Ver.ty rfl fun b3 a w hF hS=>wp 1 [2] hF fun a hF=>?_)))))
 have hS:=hS.add (m:=Map.mp kStr true f_api_Ver.ty none (#[]) 0 none) ⟨rfl,rfl⟩
 refine wc (wbx hF hS [su 0,su 0,sb false,sm none,(1,[.map (some b3)])] (sgN 5 sgNil) fun b4 a w hF hS=>wp 1 [0] hF fun a hF=>nl (hz _ _ (rt ?_)))
 have hS:=hS.addNone (.map (#[]) 0)
 cases H
 exact ret_done hF hS (res1 Tryz.results37 (rvt hF)) ⟨b4,none,#[],0,(some b3),#[],0,rfl,hS.sp [1,0,2] [0,1]⟩
theorem C_session_Session_Begin (N:Nat){Ms:List Nat}{κ0:Gh}{w0:World}(a1:T_session_Session)(a9:Int)(p2:Option Nat)(m3:Array MapEntry)(c4:Nat)(p5:Option Nat)(m6:Array MapEntry)(c7:Nat)(b8:Nat)(hB:SB Ms κ0 w0 [.box b8 215 [su a1.snap,su a1.dep,sb a1.open_,sm p2,sm p5],mx p2 m3 c4,mx p5 m6 c7] [Map.mp kStr true f_api_Ver.ty p2 m3 c4 a1.writes,Map.mp kStr true f_api_Ver.ty p5 m6 c7 a1.cache]){r:(Int×Int×T_session_Session)}(H:M.session_Session_Begin N a1 a9=some r) :
    Calls Tryz.prog 208 #[pt b8 0,vu a9] w0 (Post Ms κ0 w0 fun v κ w => ∃(p87:Option Nat) (m88:Array MapEntry) (c89:Nat) (p90:Option Nat) (m91:Array MapEntry) (c92:Nat),v = .tuple #[vu r.1,vi r.2.1]∧SS Ms κ0 w0 κ w [.box b8 215 [su r.2.2.snap,su r.2.2.dep,sb r.2.2.open_,sm p87,sm p90],mx p87 m88 c89,mx p90 m91 c92] [Map.mp kStr true f_api_Ver.ty p87 m88 c89 r.2.2.writes,Map.mp kStr true f_api_Ver.ty p90 m91 c92 r.2.2.cache]):=by
 have hS:=hB.hS
 have hfr:=hS.fresh
 refine en Tryz.func208 rfl Tryz.ntmps208 fun a hF=>?_
 unfold M.session_Session_Begin at H
 refine qr fun _ h10=>(wp 2 [0,1] hF fun a hF=>(h10 _ _ (qs fun _ h11=>qr fun _ h12=>(wp 2 [0,1,9] hF fun a hF=>(h12 _ _ (cf hF rfl (sk (h11 _ _ (qs fun _ h13=>qr fun _ h14=>(wp 3 [0,1,12] hF fun a hF=>wc (wld hF hS 0 2 0 fun a hF=>(h14 _ _ (bc hF H (fun hb H=>?_) fun hb H=>?_)))))))))))))
 refine qr fun _ h15=>(wp 2 [4,5] hF fun a hF=>(h15 _ _ (rt ?_)))
 cases H
 exact ret_done hF hS (res2 Tryz.results208 (rvt hF) (rvt hF)) ⟨p2,m3,c4,p5,m6,c7,rfl,hS.sp [0,1,2] [0,1]⟩
 refine sk (h13 _ _ (qr fun _ h16=>(wl_pure (L':=[(0,pt b8 0),(1,vu a9),(14,pt b8 0),(15,pt b8 0)]) 2 [0,1,14,15] hF kr fun a hF=>wc (wo_makeMap hF hS kr kStr true f_api_Ver.ty rfl fun b17 a w hF hS=>wp 2 [0,1,15,16,18] hF fun a hF=>wc (wst hF hS 1 2 1 [sb true] (sgN 1 sgNil) fun a w hF hS=>wp 2 [0,1,16,20] hF fun a hF=>wc (wst hF hS 1 3 1 [(1,[.map (some b17)])] (sgN 1 sgNil) fun a w hF hS=>(h16 _ _ (qr fun _ h18=>(wp 4 [0,1,21,24] hF fun a hF=>wc (wld hF hS 1 0 0 fun a hF=>wp 4 [0,27,29] hF fun a hF=>wc (wst hF hS 1 0 1 [su (if a9 > a1.snap then a9 else a1.snap)] (sgN 1 sgNil) fun a w hF hS=>?_)))))))))))
 refine h18 _ _ (qs fun _ h19=>qr fun _ h20=>(wl_pure (L':=[(0,pt b8 0),(32,pt b8 4)]) 3 [0,32] hF kr fun a hF=>wc (wld hF hS 1 4 0 fun a hF=>wc (wo_range (KT:=9) (E:=196) (kt:=kStr) (agg:=true) (t:=f_api_Ver.ty) hF hS kr 3 2 rfl kr rfl rfl kr fun b21 a w hF hS=>(h20 _ _ (bk (loop_fuel (n:=N) (fun n a w => ∃(κ:Gh) (m72:Array MapEntry) (y73:Mp ByteArray T_api_Ver) (m74:Array Nat) (y75:List ByteArray),Fr (56) [] [(0,pt b8 0),(34,pt b21 0)] a∧SS Ms κ0 w0 κ w [.box b8 215 [su (if a9 > a1.snap then a9 else a1.snap),su a1.dep,sb true,(1,[.map (some b17)]),sm p5],.ext (objX (some b17) (.map (#[]) 0)),mx p5 m72 c7,.ext (objX (some b21) (itO p5 c7 m74))] [Map.mp kStr true f_api_Ver.ty (some b17) (#[]) 0 (some []),Map.mp kStr true f_api_Ver.ty p5 m72 c7 y73,It.mp kStr m72 m74 y75]∧M.session_Session_Begin_L1 N n a1 a9 y73 y75=some r) ?_ ?_)))))))
 exact ⟨_,m6,a1.cache,#[],(mKeys a1.cache),hF.kp [0,34],hS.sp [2,1,4,0] [1,3,0],H⟩
 rintro n a w ⟨κ,m72,y73,m74,y75,hF,hS,H⟩
 rcases n with _|fuel1
 simp [M.session_Session_Begin_L1] at H
 simp only [M.session_Session_Begin_L1] at H
 refine qr fun _ h76=>(wc (wo_next (kt:=kStr) (agg:=true) (t:=f_api_Ver.ty) hF hS kr 2 3 1 2 rfl kr rfl rfl rfl rfl H ?_ ?_))
 intro H a hF
 refine wp 1 [0,34,36] hF fun a hF=>(h76 _ _ (qs fun _ h80=>cf hF rfl (xt (h19 _ _ (qr fun _ h81=>(wp 3 [54] hF fun a hF=>wc (wld hF hS 0 0 0 fun a hF=>wp 2 [4,5] hF fun a hF=>(h81 _ _ (rt ?_)))))))))
 cases H
 exact ret_done hF hS (res2 Tryz.results208 (rvt hF) (rvt hF)) ⟨(some b17),#[],0,p5,m72,c7,rfl,hS.sp [0,1,2] [0,1]⟩
 intro x77 cs78 m79 a w H hF hS
 refine wl_pure (L':=[(0,pt b8 0),(34,pt b21 0),(36,vb true)]) 1 [0,34,36] hF kr fun a hF=>(h76 _ _ (qs fun _ h82=>ct hF rfl (sk (h82 _ _ (bk (qr fun _ h83=>(wc (wo_entry (kt:=kStr) (agg:=true) (t:=f_api_Ver.ty) hF hS kr 2 3 3 0 rfl kr rfl rfl rfl rfl ?_))))))))
 rintro _ a rfl hF
 refine wp 2 [0,34,38,39] hF fun a hF=>wc (wal hF hS [sg ByteArray.empty,sg ByteArray.empty,sb false,su 0,si 0,si 0] (sgN 6 sgNil) fun b84 a w hF hS=>wp 1 [0,6,7,34,39] hF fun a hF=>wc (wst hF hS 0 0 6 [sg x77.2.Key,sg x77.2.Val,sb x77.2.Gone,su x77.2.TS,si x77.2.DC,si x77.2.Tx] (sgN 6 sgNil) fun a w hF hS=>(h83 _ _ (qs fun _ h85=>rgS hS [] ?_))))
 have hS:=hS.drew
 have hX:=hS.fx
 refine anp [0,2,3,4] [0,6,34,40,44] hF hX fun a hF=>atk 1 (some 41) hF hX rfl (vld 0 3 0) fun a hF=>atk 5 (some 45) hF hX rfl (vld 1 0 0) fun a hF=>anp [6] [0,6,34,46] hF hX fun a hF=>and_ (h85 _ _ (bc hF H (fun hb H=>?_) fun hb H=>?_))
 refine rl (wp 3 [0,6,34,49] hF fun a hF=>wc (wld hF hS 1 4 0 fun a hF=>wl_pure (L':=[(0,pt b8 0),(34,pt b21 0),(50,.map p5),(51,.string (x77.1))]) 1 [0,34,50,51] hF kr fun a hF=>wc (wo_delete (KT:=9) (E:=196) (kt:=kStr) (agg:=true) (t:=f_api_Ver.ty) hF hS kr 3 3 (k:=x77.1) rfl kr kr rfl rfl kr kr fun m86 a w hsub hF hS=>?_)))
 have hS:=hS.add (m:=It.mp kStr m86 m79 (kRem y75 x77.1)) (ItOk.sub (hS.get 2 rfl) hsub)
 refine nl ?_
 exact ⟨fuel1,Nat.lt_succ_self _,_,m86,(mDel y73 x77.1),m79,(kRem y75 x77.1),hF.kp [0,34],hS.sp (ra 1 4) [4,1,0],H⟩
 refine sk ?_
 exact ⟨fuel1,Nat.lt_succ_self _,_,m72,y73,m79,(kRem y75 x77.1),hF.kp [0,34],hS.sp (ra 1 4) [2,3,1],H⟩
end Go.Cf
