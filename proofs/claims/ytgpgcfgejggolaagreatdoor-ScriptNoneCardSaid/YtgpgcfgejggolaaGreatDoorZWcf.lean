/- The walks: each function returns what its model says. Printed by a program of ours. -/
import Derived.Test.YtgpgcfgejggolaaGreatDoorZM1
import Derived.Test.YtgpgcfgejggolaaGreatDoorZWp
namespace Go.Cf
open Go Go.Proofs
set_option linter.unusedVariables false
set_option maxRecDepth 20000
set_option maxHeartbeats 8000000
theorem C_config_Start (N:Nat){κ0:Gh}{w0:World}(hfr:Fresh κ0 w0)(a1:Int)(a2:Int)(a3:Int)(hR : ∀m∈([]:List MP),m.p κ0 w0){r:(T_config_State×Int)}(H:M.config_Start N a1 a2 a3=some r) :
    Calls Tryz.prog 28 #[vi a1,vi a2,vi a3] w0 (Post [] κ0 w0 fun v κ w => ∃cs201:List Value,v = .tuple #[.agg (flat [si r.1.Pool,si r.1.Nodes,eb 4 r.1.Members,(8,cs201),ei 21 r.1.Modes]).toArray,vi r.2]∧(∀m∈([ml r.1.Members 4,Arr.mp t_api_Map cs201 4 r.1.Maps,ml r.1.Modes 21]:List MP),m.p κ w)∧NewC w0 κ w []):=by
 have hS:=SS.start hfr hR
 refine en Tryz.func28 rfl Tryz.ntmps28 fun a hF=>?_
 unfold M.config_Start at H
 refine qr fun _ h4=>?_
 have hS:=hS.add (m:=ml (List.replicate 4 false) 4) (List.length_replicate)
 have hS:=hS.add (m:=Arr.mp t_api_Map ((List.replicate 4 (flat [sl none 0 0,sl none 0 0])).flatten) 4 (List.replicate 4 (T_api_Map.mk ([]:List ByteArray) ([]:List Int)))) (Arr.zero _ _ _ _ _ z_api_Map)
 have hS:=hS.add (m:=ml (List.replicate 21 0) 21) (List.length_replicate)
 refine wc (wal hF hS [si 0,si 0,eb 4 (List.replicate 4 false),(8,(List.replicate 4 (flat [sl none 0 0,sl none 0 0])).flatten),ei 21 (List.replicate 21 0)] (sgN 2 (sgEnc List.length_replicate (sgArr (hS.get 1 rfl) (sgEnc List.length_replicate sgNil)))) fun b5 a w hF hS=>wp 1 [0,1,2,6] hF fun a hF=>(h4 _ _ (qs fun _ h6=>qr fun _ h7=>(bd H fun v9 hv9 H=>wl_join (fun a w => ∃κ:Gh,Fr (69) [] [(0,vi a1),(1,vi a2),(2,vi a3),(6,pt b5 0),(34,vb v9)] a∧SS [] κ0 w0 κ w [.box b5 82 [si 0,si 0,eb 4 (List.replicate 4 false),(8,(List.replicate 4 (flat [sl none 0 0,sl none 0 0])).flatten),ei 21 (List.replicate 21 0)]] [ml (List.replicate 4 false) 4,Arr.mp t_api_Map ((List.replicate 4 (flat [sl none 0 0,sl none 0 0])).flatten) 4 (List.replicate 4 (T_api_Map.mk ([]:List ByteArray) ([]:List Int))),ml (List.replicate 21 0) 21]∧True) ?_ ?_))))
 refine wp 3 [0,1,2,6,14] hF fun a hF=>bs hv9 (fun hb hv9=>?_) fun hb hv9=>?_
 have hF:=hF.bv 14 hb
 refine wp 20 [0,1,2,6,34] hF fun a hF=>nl ?_
 cases hv9
 exact ⟨_,hF.kp [0,1,2,6,34],hS.sp [0] [2,1,0],trivial⟩
 have hF:=hF.bv 14 hb
 refine wp 4 [0,1,2,6,18] hF fun a hF=>bs hv9 (fun hb hv9=>?_) fun hb hv9=>?_
 have hF:=hF.bv 18 hb
 refine wp 16 [0,1,2,6,34] hF fun a hF=>nl ?_
 cases hv9
 exact ⟨_,hF.kp [0,1,2,6,34],hS.sp [0] [2,1,0],trivial⟩
 have hF:=hF.bv 18 hb
 refine wp 4 [0,1,2,6,22] hF fun a hF=>bs hv9 (fun hb hv9=>?_) fun hb hv9=>?_
 have hF:=hF.bv 22 hb
 refine wp 12 [0,1,2,6,34] hF fun a hF=>nl ?_
 cases hv9
 exact ⟨_,hF.kp [0,1,2,6,34],hS.sp [0] [2,1,0],trivial⟩
 have hF:=hF.bv 22 hb
 refine wp 5 [0,1,2,6,27] hF fun a hF=>bs hv9 (fun hb hv9=>?_) fun hb hv9=>?_
 have hF:=hF.bv 27 hb
 refine wp 7 [0,1,2,6,34] hF fun a hF=>nl ?_
 cases hv9
 exact ⟨_,hF.kp [0,1,2,6,34],hS.sp [0] [2,1,0],trivial⟩
 have hF:=hF.bv 27 hb
 refine wp 4 [0,1,2,6,31] hF fun a hF=>bs hv9 (fun hb hv9=>?_) fun hb hv9=>?_
 have hF:=hF.bv 31 hb
 refine wp 3 [0,1,2,6,34] hF fun a hF=>nl ?_
 cases hv9
 exact ⟨_,hF.kp [0,1,2,6,34],hS.sp [0] [2,1,0],trivial⟩
 have hF:=hF.bv 31 hb
 refine wp 3 [0,1,2,6,34] hF fun a hF=>nl ?_
 cases hv9
 exact ⟨_,hF.kp [0,1,2,6,34],hS.sp [0] [2,1,0],trivial⟩
 rintro a w ⟨κ,hF,hS,-⟩
 refine h7 _ _ (bc hF H (fun hb H=>?_) fun hb H=>?_)
 refine qr fun _ h10=>(wp 1 [6,35] hF fun a hF=>wc (wst hF hS 0 0 5 [si 0,si 0,eb 4 (List.replicate 4 false),(8,(List.replicate 4 (flat [sl none 0 0,sl none 0 0])).flatten),ei 21 (List.replicate 21 0)] (sgN 2 (sgEnc List.length_replicate (sgArr (hS.get 1 rfl) (sgEnc List.length_replicate sgNil)))) fun a w hF hS=>wp 1 [6,7] hF fun a hF=>(h10 _ _ (rt ?_))))
 have hS':=hS
 cases H
 exact (ret_done hF hS (res2 Tryz.results28 (rvs hF hS' 0 0 5) (rvt hF)) ⟨(List.replicate 4 (flat [sl none 0 0,sl none 0 0])).flatten,rfl,(hS.pick [0,1,2] kr).ro,hS.newC [] dc kr⟩)
 refine sk (h6 _ _ (qr fun _ h11=>(wp 3 [1,2,6,38] hF fun a hF=>wc (wal hF hS [si 0,si 0,eb 4 (List.replicate 4 false),(8,(List.replicate 4 (flat [sl none 0 0,sl none 0 0])).flatten),ei 21 (List.replicate 21 0)] (sgN 2 (sgEnc List.length_replicate (sgArr (hS.get 1 rfl) (sgEnc List.length_replicate sgNil)))) fun b12 a w hF hS=>wc (wst hF hS 0 0 5 [si a1,si a3,eb 4 (List.replicate 4 false),(8,(List.replicate 4 (flat [sl none 0 0,sl none 0 0])).flatten),ei 21 (List.replicate 21 0)] (sgN 2 (sgEnc List.length_replicate (sgArr (hS.get 1 rfl) (sgEnc List.length_replicate sgNil)))) fun a w hF hS=>?_)))))
 refine h11 _ _ (qs fun _ h13=>qr fun _ h14=>(wp 1 [1,2,6,8,39] hF fun a hF=>(h14 _ _ (bk (loop_fuel (n:=N) (fun n a w => ∃(κ:Gh) (y65:List Int) (y66:Int),Fr (69) [] [(1,vi a2),(2,vi a3),(6,pt b5 0),(8,pt b12 0),(39,vi y66)] a∧SS [] κ0 w0 κ w [.box b12 82 [si a1,si a3,eb 4 (List.replicate 4 false),(8,(List.replicate 4 (flat [sl none 0 0,sl none 0 0])).flatten),ei 21 y65],.box b5 82 [si 0,si 0,eb 4 (List.replicate 4 false),(8,(List.replicate 4 (flat [sl none 0 0,sl none 0 0])).flatten),ei 21 (List.replicate 21 0)]] [ml (List.replicate 4 false) 4,Arr.mp t_api_Map ((List.replicate 4 (flat [sl none 0 0,sl none 0 0])).flatten) 4 (List.replicate 4 (T_api_Map.mk ([]:List ByteArray) ([]:List Int))),ml y65 21,ml (List.replicate 21 0) 21]∧M.config_Start_L1 N n a1 a2 a3 y65 y66=some r) ?_ ?_)))))
 exact ⟨_,(List.replicate 21 0),0,hF.kp [1,2,6,8,39],hS.sp [0,1] [0,1,2,2],H⟩
 rintro n a w ⟨κ,y65,y66,hF,hS,H⟩
 rcases n with _|fuel1
 simp [M.config_Start_L1] at H
 simp only [M.config_Start_L1] at H
 refine qr fun _ h67=>(wp 1 [1,2,6,8,39,40] hF fun a hF=>(h67 _ _ (qs fun _ h68=>bc hF H (fun hb H=>?_) fun hb H=>?_)))
 refine sk (h68 _ _ (qs fun _ h69=>bk (qr fun _ h70=>(wp 2 [1,2,6,8,9,39] hF fun a hF=>(h70 _ _ (rl (wl_pure (L':=[(1,vi a2),(2,vi a3),(6,pt b5 0),(8,pt b12 0),(39,vi y66),(42,vi y66),(43,pt b12 14)]) 2 [1,2,6,8,39,42,43] hF kr fun a hF=>bd H fun x71 hx71 H=>wc (wo_indexArr hF kr (E:=3) (sz:=1) (n:=21) rfl rfl (i:=y66) rfl (idx_lt hx71 (hS.get 2 rfl)) kr kr fun a hF=>wc (wo_storeA1 (t:=(fInt .i64)) (y:=2) (v:=vi 2) hF hS kr 0 4 (s':=[si a1,si a3,eb 4 (List.replicate 4 false),(8,(List.replicate 4 (flat [sl none 0 0,sl none 0 0])).flatten),ei 21 (List.set y65 (Int.toNat y66) 2)]) (C':=[.box b12 82 [si a1,si a3,eb 4 (List.replicate 4 false),(8,(List.replicate 4 (flat [sl none 0 0,sl none 0 0])).flatten),ei 21 (List.set y65 (Int.toNat y66) 2)],.box b5 82 [si 0,si 0,eb 4 (List.replicate 4 false),(8,(List.replicate 4 (flat [sl none 0 0,sl none 0 0])).flatten),ei 21 (List.replicate 21 0)]]) rfl rfl kr rfl rfl hx71 rfl rfl kr kr kr kr fun a w hF hS=>?_)))))))))
 have hS:=hS.add (m:=ml (List.set y65 (Int.toNat y66) 2) 21) (List.length_set.trans (hS.get 2 rfl))
 refine h69 _ _ (rl (wp 2 [1,2,6,8,39] hF fun a hF=>nl ?_))
 exact ⟨fuel1,Nat.lt_succ_self _,_,(List.set y65 (Int.toNat y66) 2),IntKind.i64.wrap (y66+1),hF.kp [1,2,6,8,39],hS.sp [0,1] [1,2,0,4],H⟩
 refine xt (h13 _ _ (qs fun _ h72=>qr fun _ h73=>(wp 2 [2,6,8,46,47] hF fun a hF=>(h73 _ _ (bk (loop_fuel (n:=N) (fun n a w => ∃(κ:Gh) (y124:List Bool) (y125:List T_api_Map) (cs126:List Value) (y127:List Int) (y128:Int),Fr (69) [] [(2,vi a3),(6,pt b5 0),(8,pt b12 0),(46,vi a2),(47,vi y128)] a∧SS [] κ0 w0 κ w [.box b12 82 [si a1,si a3,eb 4 y124,(8,cs126),ei 21 y127],.box b5 82 [si 0,si 0,eb 4 (List.replicate 4 false),(8,(List.replicate 4 (flat [sl none 0 0,sl none 0 0])).flatten),ei 21 (List.replicate 21 0)]] [ml y124 4,Arr.mp t_api_Map cs126 4 y125,ml y127 21,ml (List.replicate 4 false) 4,Arr.mp t_api_Map ((List.replicate 4 (flat [sl none 0 0,sl none 0 0])).flatten) 4 (List.replicate 4 (T_api_Map.mk ([]:List ByteArray) ([]:List Int))),ml (List.replicate 21 0) 21]∧M.config_Start_L2 N n a1 a2 a3 y124 y125 y127 y128=some r) ?_ ?_))))))
 exact ⟨_,(List.replicate 4 false),(List.replicate 4 (T_api_Map.mk ([]:List ByteArray) ([]:List Int))),(List.replicate 4 (flat [sl none 0 0,sl none 0 0])).flatten,y65,0,hF.kp [2,6,8,46,47],hS.sp [0,1] [0,1,2,0,1,3],H⟩
 rintro n a w ⟨κ,y124,y125,cs126,y127,y128,hF,hS,H⟩
 rcases n with _|fuel2
 simp [M.config_Start_L2] at H
 simp only [M.config_Start_L2] at H
 refine qr fun _ h129=>(wp 1 [2,6,8,46,47,48] hF fun a hF=>(h129 _ _ (qs fun _ h130=>bc hF H (fun hb H=>?_) fun hb H=>?_)))
 refine sk (h130 _ _ (qs fun _ h131=>bk (qr fun _ h132=>(wp 2 [2,6,8,10,46,47] hF fun a hF=>(h132 _ _ (qr fun _ h133=>(wl_pure (L':=[(2,vi a3),(6,pt b5 0),(8,pt b12 0),(10,vi y128),(46,vi a2),(47,vi y128),(50,vi y128),(51,pt b12 2)]) 2 [2,6,8,10,46,47,50,51] hF kr fun a hF=>bd H fun x134 hx134 H=>wc (wo_indexArr hF kr (E:=4) (sz:=1) (n:=4) rfl rfl (i:=y128) rfl (idx_lt hx134 (hS.get 0 rfl)) kr kr fun a hF=>wc (wo_storeA1 (t:=fBool) (y:=true) (v:=vb true) hF hS kr 0 2 (s':=[si a1,si a3,eb 4 (List.set y124 (Int.toNat y128) true),(8,cs126),ei 21 y127]) (C':=[.box b12 82 [si a1,si a3,eb 4 (List.set y124 (Int.toNat y128) true),(8,cs126),ei 21 y127],.box b5 82 [si 0,si 0,eb 4 (List.replicate 4 false),(8,(List.replicate 4 (flat [sl none 0 0,sl none 0 0])).flatten),ei 21 (List.replicate 21 0)]]) rfl rfl kr rfl rfl hx134 rfl rfl kr kr kr kr fun a w hF hS=>?_)))))))))
 have hS:=hS.add (m:=ml (List.set y124 (Int.toNat y128) true) 4) (List.length_set.trans (hS.get 0 rfl))
 refine h133 _ _ (qr fun _ h135=>(wp 1 [2,6,8,10,46,47,53] hF fun a hF=>bd H fun x136 hx136 H=>wc (wo_callP hF hS kr kr (C_span_Whole N hS.fresh 0 ((hS.pick [] kr).ro) hx136) ?_)))
 rintro _ κ w a ⟨p137,c138,p139,c140,rfl,hR,hN⟩ hF hS hO
 have hS:=hS.adds hR
 have hS:=hS.addC hO hN
 refine wl_pure (L':=[(2,vi a3),(6,pt b5 0),(8,pt b12 0),(10,vi y128),(46,vi a2),(47,vi y128),(53,vi y128),(54,.agg (flat [sl p137 (x136.Cuts).length c138,sl p139 (x136.Nodes).length c140]).toArray),(55,pt b12 6)]) 1 [2,6,8,10,46,47,53,54,55] hF kr fun a hF=>bd H fun x141 hx141 H=>wc (wo_indexArr hF kr (E:=78) (sz:=2) (n:=4) rfl rfl (i:=y128) rfl (idx_lt hx141 ((hS.get 4 rfl:ArrP _ _ _ _ _ _).1)) kr kr fun a hF=>wc (wo_storeATy (t:=t_api_Map) (n:=4) (new:=(flat [sl p137 (x136.Cuts).length c138,sl p139 (x136.Nodes).length c140])) (y:=(T_api_Map.mk x136.Cuts x136.Nodes)) (v := .agg (flat [sl p137 (x136.Cuts).length c138,sl p139 (x136.Nodes).length c140]).toArray) hF hS kr 2 3 4 (s':=[si a1,si a3,eb 4 (List.set y124 (Int.toNat y128) true),(8,(splice cs126 (Int.toNat y128*2) (flat [sl p137 (x136.Cuts).length c138,sl p139 (x136.Nodes).length c140]))),ei 21 y127]) (C':=[.tok p137 9 1 (x136.Cuts).length c138,.tok p139 3 1 (x136.Nodes).length c140,.box b12 82 [si a1,si a3,eb 4 (List.set y124 (Int.toNat y128) true),(8,(splice cs126 (Int.toNat y128*2) (flat [sl p137 (x136.Cuts).length c138,sl p139 (x136.Nodes).length c140]))),ei 21 y127],.box b5 82 [si 0,si 0,eb 4 (List.replicate 4 false),(8,(List.replicate 4 (flat [sl none 0 0,sl none 0 0])).flatten),ei 21 (List.replicate 21 0)]]) rfl rfl kr kr rfl rfl rfl hx141 ⟨(p137,c138,p139,c140),rfl,(hS.pick [0,1] kr).ro⟩ kr kr kr kr kr fun a w hF hS=>?_))
 refine h135 _ _ (qr fun _ h142=>(wp 1 [2,6,8,10,11,46,47] hF fun a hF=>(h142 _ _ (bk (loop_fuel (n:=N) (fun n a w => ∃(κ:Gh) (y193:List Int) (y194:Int),Fr (69) [] [(2,vi a3),(6,pt b5 0),(8,pt b12 0),(10,vi y128),(11,vi y194),(46,vi a2),(47,vi y128)] a∧SS [] κ0 w0 κ w [.box b12 82 [si a1,si a3,eb 4 (List.set y124 (Int.toNat y128) true),(8,(splice cs126 (Int.toNat y128*2) (flat [sl p137 (x136.Cuts).length c138,sl p139 (x136.Nodes).length c140]))),ei 21 y193],.box b5 82 [si 0,si 0,eb 4 (List.replicate 4 false),(8,(List.replicate 4 (flat [sl none 0 0,sl none 0 0])).flatten),ei 21 (List.replicate 21 0)]] [ml (List.set y124 (Int.toNat y128) true) 4,Arr.mp t_api_Map (splice cs126 (Int.toNat y128*2) (flat [sl p137 (x136.Cuts).length c138,sl p139 (x136.Nodes).length c140])) 4 (List.set y125 (Int.toNat y128) (T_api_Map.mk x136.Cuts x136.Nodes)),ml y193 21,ml (List.replicate 4 false) 4,Arr.mp t_api_Map ((List.replicate 4 (flat [sl none 0 0,sl none 0 0])).flatten) 4 (List.replicate 4 (T_api_Map.mk ([]:List ByteArray) ([]:List Int))),ml (List.replicate 21 0) 21]∧M.config_Start_L3 N (M.config_Start_L2 N fuel2) n a1 a2 a3 y124 y125 y128 x136 y193 y194=some r) ?_ ?_)))))
 exact ⟨_,y127,(-1),hF.kp [2,6,8,10,11,46,47],hS.sp [2,3] [3,0,6,7,8,9],H⟩
 rintro n a w ⟨κ,y193,y194,hF,hS,H⟩
 rcases n with _|fuel3
 simp [M.config_Start_L3] at H
 simp only [M.config_Start_L3] at H
 refine qs fun _ h195=>qr fun _ h196=>(wp 3 [2,6,8,10,11,46,47,59] hF fun a hF=>(h196 _ _ (bc hF H (fun hb H=>?_) fun hb H=>?_)))
 refine sk (h195 _ _ (qs fun _ h197=>bk (rl (wp 2 [2,6,8,10,11,46,47,62,63] hF fun a hF=>bd H fun x198 hx198 H=>wc (wo_callP hF hS kr kr (C_api_Place N hS.fresh y128 y194 ((hS.pick [] kr).ro) hx198) ?_)))))
 rintro _ κ w a ⟨rfl,hR,hN⟩ hF hS hO
 refine wl_pure (L':=[(2,vi a3),(6,pt b5 0),(8,pt b12 0),(10,vi y128),(11,vi y194),(46,vi a2),(47,vi y128),(64,vi x198),(65,pt b12 14)]) 1 [2,6,8,10,11,46,47,64,65] hF kr fun a hF=>bd H fun x199 hx199 H=>wc (wo_indexArr hF kr (E:=3) (sz:=1) (n:=21) rfl rfl (i:=x198) rfl (idx_lt hx199 (hS.get 2 rfl)) kr kr fun a hF=>wc (wo_storeA1 (t:=(fInt .i64)) (y:=1) (v:=vi 1) hF hS kr 0 4 (s':=[si a1,si a3,eb 4 (List.set y124 (Int.toNat y128) true),(8,(splice cs126 (Int.toNat y128*2) (flat [sl p137 (x136.Cuts).length c138,sl p139 (x136.Nodes).length c140]))),ei 21 (List.set y193 (Int.toNat x198) 1)]) (C':=[.box b12 82 [si a1,si a3,eb 4 (List.set y124 (Int.toNat y128) true),(8,(splice cs126 (Int.toNat y128*2) (flat [sl p137 (x136.Cuts).length c138,sl p139 (x136.Nodes).length c140]))),ei 21 (List.set y193 (Int.toNat x198) 1)],.box b5 82 [si 0,si 0,eb 4 (List.replicate 4 false),(8,(List.replicate 4 (flat [sl none 0 0,sl none 0 0])).flatten),ei 21 (List.replicate 21 0)]]) rfl rfl kr rfl rfl hx199 rfl rfl kr kr kr kr fun a w hF hS=>?_))
 have hS:=hS.add (m:=ml (List.set y193 (Int.toNat x198) 1) 21) (List.length_set.trans (hS.get 2 rfl))
 refine h197 _ _ (rl (wp 3 [2,6,8,10,11,46,47] hF fun a hF=>nl ?_))
 exact ⟨fuel3,Nat.lt_succ_self _,_,(List.set y193 (Int.toNat x198) 1),IntKind.i64.wrap (y194+1),hF.kp [2,6,8,10,11,46,47],hS.sp [0,1] [1,2,0,4,5,6],H⟩
 refine xt (h131 _ _ (rl (wp 2 [2,6,8,46,47] hF fun a hF=>nl ?_)))
 exact ⟨fuel2,Nat.lt_succ_self _,_,(List.set y124 (Int.toNat y128) true),(List.set y125 (Int.toNat y128) (T_api_Map.mk x136.Cuts x136.Nodes)),(splice cs126 (Int.toNat y128*2) (flat [sl p137 (x136.Cuts).length c138,sl p139 (x136.Nodes).length c140])),y193,IntKind.i64.wrap (y128+1),hF.kp [2,6,8,46,47],hS.sp [0,1] (rg 6),H⟩
 refine xt (h72 _ _ (qr fun _ h200=>(wc (wls hF hS 0 0 5 fun a hF=>wc (wst hF hS 1 0 5 [si a1,si a3,eb 4 y124,(8,cs126),ei 21 y127] (sgN 2 (sgEnc (hS.get 0 rfl) (sgArr (hS.get 1 rfl) (sgEnc (hS.get 2 rfl) sgNil)))) fun a w hF hS=>wp 1 [6,7] hF fun a hF=>(h200 _ _ (rt ?_)))))))
 have hS':=hS
 cases H
 exact (ret_done hF hS (res2 Tryz.results28 (rvs hF hS' 1 0 5) (rvt hF)) ⟨cs126,rfl,(hS.pick [0,1,2] kr).ro,hS.newC [] dc kr⟩)
theorem C_config_Copy (N:Nat){κ0:Gh}{w0:World}(hfr:Fresh κ0 w0)(a1:T_config_State)(cs2:List Value)(hR : ∀m∈([ml a1.Members 4,Arr.mp t_api_Map cs2 4 a1.Maps,ml a1.Modes 21]:List MP),m.p κ0 w0){r:(T_config_State)}(H:M.config_Copy N a1=some r) :
    Calls Tryz.prog 83 #[.agg (flat [si a1.Pool,si a1.Nodes,eb 4 a1.Members,(8,cs2),ei 21 a1.Modes]).toArray] w0 (Post [] κ0 w0 fun v κ w => ∃cs78:List Value,v = .agg (flat [si r.Pool,si r.Nodes,eb 4 r.Members,(8,cs78),ei 21 r.Modes]).toArray∧(∀m∈([ml r.Members 4,Arr.mp t_api_Map cs78 4 r.Maps,ml r.Modes 21]:List MP),m.p κ w)∧NewC w0 κ w []):=by
 have hS:=SS.start hfr hR
 refine en Tryz.func83 rfl Tryz.ntmps83 fun a hF=>?_
 unfold M.config_Copy at H
 refine qr fun _ h3=>(wc (wbx hF hS [si a1.Pool,si a1.Nodes,eb 4 a1.Members,(8,cs2),ei 21 a1.Modes] (sgN 2 (sgEnc (hS.get 0 rfl) (sgArr (hS.get 1 rfl) (sgEnc (hS.get 2 rfl) sgNil)))) fun b4 a w hF hS=>?_))
 have hS:=hS.add (m:=ml (List.replicate 4 false) 4) (List.length_replicate)
 have hS:=hS.add (m:=Arr.mp t_api_Map ((List.replicate 4 (flat [sl none 0 0,sl none 0 0])).flatten) 4 (List.replicate 4 (T_api_Map.mk ([]:List ByteArray) ([]:List Int)))) (Arr.zero _ _ _ _ _ z_api_Map)
 have hS:=hS.add (m:=ml (List.replicate 21 0) 21) (List.length_replicate)
 refine wc (wal hF hS [si 0,si 0,eb 4 (List.replicate 4 false),(8,(List.replicate 4 (flat [sl none 0 0,sl none 0 0])).flatten),ei 21 (List.replicate 21 0)] (sgN 2 (sgEnc List.length_replicate (sgArr (hS.get 1 rfl) (sgEnc List.length_replicate sgNil)))) fun b5 a w hF hS=>(h3 _ _ (qs fun _ h6=>qr fun _ h7=>(wp 1 [1,2,5] hF fun a hF=>wc (wls hF hS 1 3 1 fun a hF=>wp 1 [1,2,6,7] hF fun a hF=>(h7 _ _ (bk (loop_fuel (n:=N) (fun n a w => ∃(κ:Gh) (y58:List T_api_Map) (cs59:List Value) (y60:Int),Fr (18) [] [(1,pt b4 0),(2,pt b5 0),(6,.agg (flat [(8,cs2)]).toArray),(7,vi y60)] a∧SS [] κ0 w0 κ w [.box b5 82 [si 0,si 0,eb 4 (List.replicate 4 false),(8,(List.replicate 4 (flat [sl none 0 0,sl none 0 0])).flatten),ei 21 (List.replicate 21 0)],.box b4 82 [si a1.Pool,si a1.Nodes,eb 4 a1.Members,(8,cs59),ei 21 a1.Modes]] [Arr.mp t_api_Map cs2 4 a1.Maps,ml (List.replicate 4 false) 4,Arr.mp t_api_Map ((List.replicate 4 (flat [sl none 0 0,sl none 0 0])).flatten) 4 (List.replicate 4 (T_api_Map.mk ([]:List ByteArray) ([]:List Int))),ml (List.replicate 21 0) 21,ml a1.Members 4,Arr.mp t_api_Map cs59 4 y58,ml a1.Modes 21]∧M.config_Copy_L1 N n a1 y58 y60=some r) ?_ ?_))))))))
 exact ⟨_,a1.Maps,cs2,0,hF.kp [1,2,6,7],hS.sp [0,1] [4,2,1,0,3,4,5],H⟩
 rintro n a w ⟨κ,y58,cs59,y60,hF,hS,H⟩
 rcases n with _|fuel1
 simp [M.config_Copy_L1] at H
 simp only [M.config_Copy_L1] at H
 refine qr fun _ h61=>(wp 1 [1,2,6,7,8] hF fun a hF=>(h61 _ _ (qs fun _ h62=>bc hF H (fun hb H=>?_) fun hb H=>?_)))
 refine sk (h62 _ _ (qs fun _ h63=>bk (qr fun _ h64=>(wl_pure (L':=[(1,pt b4 0),(2,pt b5 0),(6,.agg (flat [(8,cs2)]).toArray),(7,vi y60),(9,vi y60)]) 1 [1,2,6,7,9] hF kr fun a hF=>bd H fun x65 hx65 H=>wc (wo_val hF kr (val_indexATy (t:=t_api_Map) (E:=78) (n:=4) (m:=8) (cs:=cs2) rfl kr rfl (idx_lt hx65 (hS.get 0 rfl:ArrP _ _ _ _ _ _).1) kr kr kr _) ?_)))))
 obtain ⟨⟨p66,c67,p68,c69⟩,hq,hR⟩:=(hS.get 0 rfl:ArrP _ _ _ _ _ _).2.2.2 _ _ (idx_some hx65).2.2
 rw [show (List.take _ (List.drop _ _))=_ from hq]
 intro a hF
 have hS:=hS.adds hR
 refine wc (wal hF hS [sl none 0 0,sl none 0 0] (sgN 2 sgNil) fun b70 a w hF hS=>wp 1 [1,2,3,4,6,7,10] hF fun a hF=>wc (wst hF hS 0 0 2 [sl p66 (x65.Cuts).length c67,sl p68 (x65.Nodes).length c69] (sgN 2 sgNil) fun a w hF hS=>(h64 _ _ (rl (wp 1 [1,2,4,6,7,11] hF fun a hF=>wc (wls hF hS 0 0 2 fun a hF=>bd H fun x71 hx71 H=>wc (wo_callP hF hS kr kr (C_span_Copy N hS.fresh (T_api_Map.mk x65.Cuts x65.Nodes) p66 c67 p68 c69 ((hS.pick [0,1] kr).ro) hx71) ?_)))))))
 rintro _ κ w a ⟨p72,c73,p74,c75,rfl,hR,hN⟩ hF hS hO
 have hS:=hS.adds hR
 have hS:=hS.addC hO hN
 refine wl_pure (L':=[(1,pt b4 0),(2,pt b5 0),(6,.agg (flat [(8,cs2)]).toArray),(7,vi y60),(11,vi y60),(13,.agg (flat [sl p72 (x71.Cuts).length c73,sl p74 (x71.Nodes).length c75]).toArray),(14,pt b4 6)]) 1 [1,2,6,7,11,13,14] hF kr fun a hF=>bd H fun x76 hx76 H=>wc (wo_indexArr hF kr (E:=78) (sz:=2) (n:=4) rfl rfl (i:=y60) rfl (idx_lt hx76 ((hS.get 9 rfl:ArrP _ _ _ _ _ _).1)) kr kr fun a hF=>wc (wo_storeATy (t:=t_api_Map) (n:=4) (new:=(flat [sl p72 (x71.Cuts).length c73,sl p74 (x71.Nodes).length c75])) (y:=(T_api_Map.mk x71.Cuts x71.Nodes)) (v := .agg (flat [sl p72 (x71.Cuts).length c73,sl p74 (x71.Nodes).length c75]).toArray) hF hS kr 4 3 9 (s':=[si a1.Pool,si a1.Nodes,eb 4 a1.Members,(8,(splice cs59 (Int.toNat y60*2) (flat [sl p72 (x71.Cuts).length c73,sl p74 (x71.Nodes).length c75]))),ei 21 a1.Modes]) (C':=[.tok p72 9 1 (x71.Cuts).length c73,.tok p74 3 1 (x71.Nodes).length c75,.box b70 78 [sl p66 (x65.Cuts).length c67,sl p68 (x65.Nodes).length c69],.box b5 82 [si 0,si 0,eb 4 (List.replicate 4 false),(8,(List.replicate 4 (flat [sl none 0 0,sl none 0 0])).flatten),ei 21 (List.replicate 21 0)],.box b4 82 [si a1.Pool,si a1.Nodes,eb 4 a1.Members,(8,(splice cs59 (Int.toNat y60*2) (flat [sl p72 (x71.Cuts).length c73,sl p74 (x71.Nodes).length c75]))),ei 21 a1.Modes]]) rfl rfl kr kr rfl rfl rfl hx76 ⟨(p72,c73,p74,c75),rfl,(hS.pick [0,1] kr).ro⟩ kr kr kr kr kr fun a w hF hS=>?_))
 refine h63 _ _ (rl (wp 2 [1,2,6,7] hF fun a hF=>nl ?_))
 exact ⟨fuel1,Nat.lt_succ_self _,_,(List.set y58 (Int.toNat y60) (T_api_Map.mk x71.Cuts x71.Nodes)),(splice cs59 (Int.toNat y60*2) (flat [sl p72 (x71.Cuts).length c73,sl p74 (x71.Nodes).length c75])),IntKind.i64.wrap (y60+1),hF.kp [1,2,6,7],hS.sp [3,4] [5,6,7,8,9,0,11],H⟩
 refine xt (h6 _ _ (qr fun _ h77=>(wc (wls hF hS 1 0 5 fun a hF=>wc (wst hF hS 0 0 5 [si a1.Pool,si a1.Nodes,eb 4 a1.Members,(8,cs59),ei 21 a1.Modes] (sgN 2 (sgEnc (hS.get 4 rfl) (sgArr (hS.get 5 rfl) (sgEnc (hS.get 6 rfl) sgNil)))) fun a w hF hS=>(h77 _ _ (rt ?_)))))))
 have hS':=hS
 cases H
 exact (ret_done hF hS (res1 Tryz.results83 (rvs hF hS' 0 0 5)) ⟨cs59,rfl,(hS.pick [4,5,6] kr).ro,hS.newC [] dc kr⟩)
theorem C_warden_New (N:Nat){Ms:List Nat}{κ0:Gh}{w0:World}(a1:T_config_State)(cs2:List Value)(hB:SB Ms κ0 w0 [] [ml a1.Members 4,Arr.mp t_api_Map cs2 4 a1.Maps,ml a1.Modes 21]){r:(T_warden_Warden)}(H:M.warden_New N a1=some r) :
    Calls Tryz.prog 29 #[.agg (flat [si a1.Pool,si a1.Nodes,eb 4 a1.Members,(8,cs2),ei 21 a1.Modes]).toArray] w0 (Post Ms κ0 w0 fun v κ w => ∃(b11:Nat) (cs12 cs13:List Value) (p14:Option Addr) (c15:Nat) (p16:Option Addr) (c17:Nat),v=pt b11 0∧SS Ms κ0 w0 κ w [.box b11 162 [si r.now.Pool,si r.now.Nodes,eb 4 r.now.Members,(8,cs12),ei 21 r.now.Modes,si r.tail.Pool,si r.tail.Nodes,eb 4 r.tail.Members,(8,cs13),ei 21 r.tail.Modes,sl p14 (r.queue).length c15,si r.done,si r.epoch,si r.step_,eb 4 r.wait,su r.mark_,sb r.ready,sl p16 (r.out).length c17],.tok p14 50 6 (r.queue).length c15,.tok p16 329 15 (r.out).length c17] [ml r.now.Members 4,Arr.mp t_api_Map cs12 4 r.now.Maps,ml r.now.Modes 21,ml r.tail.Members 4,Arr.mp t_api_Map cs13 4 r.tail.Maps,ml r.tail.Modes 21,Ro.mp f_api_Cmd.ty p14 c15 r.queue,ml r.wait 4,Ro.mp t_api_Mail p16 c17 r.out]):=by
 have hS:=hB.hS
 have hfr:=hS.fresh
 refine en Tryz.func29 rfl Tryz.ntmps29 fun a hF=>?_
 unfold M.warden_New at H
 refine qr fun _ h3=>(wc (wbx hF hS [si a1.Pool,si a1.Nodes,eb 4 a1.Members,(8,cs2),ei 21 a1.Modes] (sgN 2 (sgEnc (hS.get 0 rfl) (sgArr (hS.get 1 rfl) (sgEnc (hS.get 2 rfl) sgNil)))) fun b4 a w hF hS=>wl_pure (L':=[(1,pt b4 0)]) 1 [1] hF kr fun a hF=>(h3 _ _ (qs fun _ h5=>rgS hS [] ?_))))
 have hS:=hS.drew
 have hX:=hS.fx
 refine bd H fun x6 hx6 H=>bd H fun x8 hx8 H=>atk 0 (some 3) hF hX rfl (vls 0 0 5) fun a hF=>atk 2 (some 5) hF hX rfl (vls 0 0 5) fun a hF=>ago 1 hF rfl (wo_callP hF hS kr kr (C_config_Copy N hS.fresh (T_config_State.mk a1.Pool a1.Nodes a1.Members a1.Maps a1.Modes) cs2 ((hS.pick [0,1,2] kr).ro) hx6) ?_)
 rintro _ κ w a ⟨cs7,rfl,hR,hN⟩ hF hS hO
 have hS:=hS.adds hR
 refine ⟨fun _=>(hS.sx [0] [3,4,5]),?_⟩
 refine ago 3 hF rfl (wo_callP hF hS kr kr (C_config_Copy N hS.fresh (T_config_State.mk a1.Pool a1.Nodes a1.Members a1.Maps a1.Modes) cs2 ((hS.pick [3,4,5] kr).ro) hx8) ?_)
 rintro _ κ w a ⟨cs9,rfl,hR,hN⟩ hF hS hO
 have hS:=hS.adds hR
 refine ⟨fun _=>(hS.sx [0] [6,7,8]),?_⟩
 refine ago 4 hF rfl (wo_val hF kr (v := .agg (flat [si x6.Pool,si x6.Nodes,eb 4 x6.Members,(8,cs7),ei 21 x6.Modes,si x8.Pool,si x8.Nodes,eb 4 x8.Members,(8,cs9),ei 21 x8.Modes,sl none 0 0,si 0,si 0,si 0,eb 4 (List.replicate 4 false),su 0,sb false,sl none 0 0]).toArray) (val_build (rows:=[[si 0,si 0,eb 4 (List.replicate 4 false),(8,(List.replicate 4 (flat [sl none 0 0,sl none 0 0])).flatten),ei 21 (List.replicate 21 0)],[si 0,si 0,eb 4 (List.replicate 4 false),(8,(List.replicate 4 (flat [sl none 0 0,sl none 0 0])).flatten),ei 21 (List.replicate 21 0)],[sl none 0 0],[si 0],[si 0],[si 0],[eb 4 (List.replicate 4 false)],[su 0],[sb false],[sl none 0 0]]) (vals:=[(0,[si x6.Pool,si x6.Nodes,eb 4 x6.Members,(8,cs7),ei 21 x6.Modes]),(1,[si x8.Pool,si x8.Nodes,eb 4 x8.Members,(8,cs9),ei 21 x8.Modes])]) (sizes:=[35,35,1,1,1,1,4,1,1,1]) (s':=[si x6.Pool,si x6.Nodes,eb 4 x6.Members,(8,cs7),ei 21 x6.Modes,si x8.Pool,si x8.Nodes,eb 4 x8.Members,(8,cs9),ei 21 x8.Modes,sl none 0 0,si 0,si 0,si 0,eb 4 (List.replicate 4 false),su 0,sb false,sl none 0 0]) rfl kr kr kr kr kr (sgN 2 (sgEnc (hS.get 3 rfl) (sgArr (hS.get 4 rfl) (sgEnc (hS.get 5 rfl) (sgN 2 (sgEnc (hS.get 0 rfl) (sgArr (hS.get 1 rfl) (sgEnc (hS.get 2 rfl) sgNil)))))))) kr kr _) fun a hF=>?_)
 refine ⟨fun _=>(hS.sx [0] [6,7,8]),?_⟩
 refine ago 5 hF rfl ?_
 have hS:=hS.add (m:=ml (List.replicate 4 false) 4) (List.length_replicate)
 refine wbx hF hS [si x6.Pool,si x6.Nodes,eb 4 x6.Members,(8,cs7),ei 21 x6.Modes,si x8.Pool,si x8.Nodes,eb 4 x8.Members,(8,cs9),ei 21 x8.Modes,sl none 0 0,si 0,si 0,si 0,eb 4 (List.replicate 4 false),su 0,sb false,sl none 0 0] (sgN 2 (sgEnc (hS.get 4 rfl) (sgArr (hS.get 5 rfl) (sgEnc (hS.get 6 rfl) (sgN 2 (sgEnc (hS.get 1 rfl) (sgArr (hS.get 2 rfl) (sgEnc (hS.get 3 rfl) (sgN 4 (sgEnc List.length_replicate (sgN 3 sgNil))))))))))) fun b10 a w hF hS=>?_
 refine ⟨fun _=>(hS.sx [1] [7,8,9]),?_⟩
 refine anp [6] [2] hF (hS.sx [1] [7,8,9]) fun a hF=>and_ (h5 _ _ (rt ?_))
 have hS:=hS.add (m:=Ro.mp f_api_Cmd.ty none 0 ([]:List T_api_Cmd)) (Ro.nil f_api_Cmd.ty _ _)
 have hS:=hS.add (m:=Ro.mp t_api_Mail none 0 ([]:List T_api_Mail)) (Ro.nil t_api_Mail _ _)
 have hS:=hS.addNil 50 6
 have hS:=hS.addNil 329 15
 cases H
 exact ret_done hF hS (res1 Tryz.results29 (rvt hF)) ⟨b10,cs7,cs9,none,0,none,0,rfl,hS.sp [2,1,0] [6,7,8,3,4,5,1,2,0]⟩
end Go.Cf
