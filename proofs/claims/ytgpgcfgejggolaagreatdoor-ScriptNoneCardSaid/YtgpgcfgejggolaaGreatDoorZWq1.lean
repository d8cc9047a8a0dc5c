/- The walks: each function returns what its model says. Printed by a program of ours. -/
import Derived.Test.YtgpgcfgejggolaaGreatDoorZM1
import Derived.Test.YtgpgcfgejggolaaGreatDoorZWLib
namespace Go.Cf
open Go Go.Proofs
set_option linter.unusedVariables false
set_option maxRecDepth 20000
set_option maxHeartbeats 8000000
theorem C_strings_splitSeq (N:Nat){κ0:Gh}{w0:World}(hfr:Fresh κ0 w0)(a1:ByteArray)(a2:ByteArray)(a3:Int)(hR : ∀m∈([]:List MP),m.p κ0 w0){r:Unit}(H:M.strings_splitSeq N a1 a2 a3=some r) :
    Calls Tryz.prog 76 #[.string (a1),.string (a2),vi a3] w0 (Post [] κ0 w0 fun v κ w => ∃(b900 b901 b902:Nat),v = .func (.func 150) #[] #[pt b900 0,pt b901 0,pt b902 0]∧(∀m∈([]:List MP),m.p κ w)∧NewC w0 κ w [.box b900 9 [sg a2],.box b901 9 [sg a1],.box b902 3 [si a3]]):=by
 have hS:=SS.start hfr hR
 refine en Tryz.func76 rfl Tryz.ntmps76 fun a hF=>?_
 unfold M.strings_splitSeq at H
 refine qr fun _ h4=>(wc (wbx hF hS [sg a1] (sgN 1 sgNil) fun b5 a w hF hS=>wc (wbx hF hS [sg a2] (sgN 1 sgNil) fun b6 a w hF hS=>wc (wbx hF hS [si a3] (sgN 1 sgNil) fun b7 a w hF hS=>wl_pure (L':=[(3,pt b5 0),(4,pt b6 0),(5,pt b7 0)]) 1 [3,4,5] hF kr fun a hF=>(h4 _ _ (qr fun _ h8=>(wc (wo_val hF kr (v := .func (.func 150) #[] #[pt b6 0,pt b5 0,pt b7 0]) (val_makeFunc (T':=0) (caps := #[pt b6 0,pt b5 0,pt b7 0]) rfl kr _) fun a hF=>?_))))))))
 refine wp 1 [6] hF fun a hF=>(h8 _ _ (rt ?_))
 cases H
 exact (ret_done hF hS (res1 Tryz.results76 (rvt hF)) ⟨b6,b5,b7,rfl,(hS.pick [] rfl).ro,hS.newC [1,2,0] dc kr⟩)
theorem C_strings_SplitSeq (N:Nat){κ0:Gh}{w0:World}(hfr:Fresh κ0 w0)(a1:ByteArray)(a2:ByteArray)(hR : ∀m∈([]:List MP),m.p κ0 w0){r:Unit}(H:M.strings_SplitSeq N a1 a2=some r) :
    Calls Tryz.prog 21 #[.string (a1),.string (a2)] w0 (Post [] κ0 w0 fun v κ w => ∃(b900 b901 b902:Nat),v = .func (.func 150) #[] #[pt b900 0,pt b901 0,pt b902 0]∧(∀m∈([]:List MP),m.p κ w)∧NewC w0 κ w [.box b900 9 [sg a2],.box b901 9 [sg a1],.box b902 3 [si 0]]):=by
 have hS:=SS.start hfr hR
 refine en Tryz.func21 rfl Tryz.ntmps21 fun a hF=>?_
 unfold M.strings_SplitSeq at H
 refine qr fun _ h3=>(wp 1 [0,1] hF fun a hF=>(h3 _ _ (qr fun _ h4=>(wp 2 [5,6] hF fun a hF=>bd H fun x5 hx5 H=>wc (wo_callP hF hS kr kr (C_strings_splitSeq N hS.fresh a1 a2 0 ((hS.pick [] kr).ro) hx5) ?_)))))
 rintro _ κ w a ⟨b6,b7,b8,rfl,hR,hN⟩ hF hS hO
 have hS:=hS.addC hO hN
 refine wp 1 [4] hF fun a hF=>(h4 _ _ (rt ?_))
 cases H
 exact (ret_done hF hS (res1 Tryz.results21 (rvt hF)) ⟨b6,b7,b8,rfl,(hS.pick [] rfl).ro,hS.newC [0,1,2] dc kr⟩)
theorem C_strings_splitSeq_1 (N:Nat){σ:Type}{B:σ→ByteArray→Option (σ×Bool)}{Y:σ→XF→Prop}{l:Nat}
    (hB : ∀ {s:σ} {x:XF} {κ:Gh} {w:World} (x900:ByteArray) {s':σ} {c:Bool},Y s x→x.p κ w→Fresh κ w→x.bs.Nodup→(∀b∈x.bs,b<w.heap.size)→(∀m∈([]:List MP),m.p κ w)→B s x900=some (s',c)→RoundOk Tryz.prog l Y #[.string (x900)] x s' c κ w)
    (a3:ByteArray) (a5:ByteArray) (a7:Int) {Ms:List Nat} {κ0:Gh} {w0:World} {p2:XF} {y1:σ} {b4:Nat} {b6:Nat} {b8:Nat} (hS:SS Ms κ0 w0 κ0 w0 [.ext p2,.box b4 9 [sg a3],.box b6 9 [sg a5],.box b8 3 [si a7]] [GL,MP.const (Y y1 p2)]) {r:σ} (H:M.strings_splitSeq_1 N B a3 a5 a7 y1=some r) :
    Calls Tryz.prog 150 #[.func (.yield l) #[] #[],pt b4 0,pt b6 0,pt b8 0] w0 (Post Ms κ0 w0 fun _ κ w => ∃x,Y r x∧SS Ms κ0 w0 κ w [.ext x] []):=by
 refine en Tryz.func150 rfl Tryz.ntmps150 fun a hF=>?_
 unfold M.strings_splitSeq_1 at H
 refine qs fun _ h9=>qr fun _ h10=>(wc (wld hF hS 1 0 0 fun a hF=>wp 2 [0,1,2,3,11] hF fun a hF=>(h10 _ _ (bc hF H (fun hb H=>?_) fun hb H=>?_))))
 refine qs fun _ h11=>bk (loop_fuel (n:=N) (fun n a w => ∃κ:Gh,Fr (52) [] [(0,.func (.yield l) #[] #[]),(2,pt b6 0)] a∧SS Ms κ0 w0 κ w [.box b6 9 [sg a5],.ext p2] [MP.const (Y y1 p2),GL]∧M.strings_splitSeq_1_L1 N B n y1 a5=some r) ?_ ?_)
 exact ⟨_,hF.kp [0,2],hS.sp [2,0] [1,0],H⟩
 rintro n a w ⟨κ,hF,hS,H⟩
 rcases n with _|fuel1
 simp [M.strings_splitSeq_1_L1] at H
 simp only [M.strings_splitSeq_1_L1] at H
 refine qs fun _ h12=>qr fun _ h13=>(wc (wld hF hS 0 0 0 fun a hF=>wp 2 [0,2,14] hF fun a hF=>(h13 _ _ (bc hF H (fun hb H=>?_) fun hb H=>?_))))
 refine sk (h12 _ _ (bk (qs fun _ h14=>?_)))
 cases H
 refine xt (h11 _ _ (rt ?_))
 cases H
 exact ret_done hF hS (res0 Tryz.results150) ⟨_,hS.get 0 rfl,(hS.selp [1] dc kr).pick [] rfl⟩
 refine sk (h9 _ _ (qs fun _ h15=>bk (loop_fuel (n:=N) (fun n a w => ∃(κ:Gh) (y66:ByteArray) (y67:σ) (p68:XF),Fr (52) [] [(0,.func (.yield l) #[] #[]),(1,pt b4 0),(2,pt b6 0),(3,pt b8 0)] a∧SS Ms κ0 w0 κ w [.box b4 9 [sg a3],.box b6 9 [sg y66],.box b8 3 [si a7],.ext p68] [MP.const (Y y67 p68),GL]∧M.strings_splitSeq_1_L2 N B n a3 a7 y66 y67=some r) ?_ ?_)))
 exact ⟨_,a5,y1,p2,hF.kp (rg 4),hS.sp [1,2,3,0] [1,0],H⟩
 rintro n a w ⟨κ,y66,y67,p68,hF,hS,H⟩
 rcases n with _|fuel2
 simp [M.strings_splitSeq_1_L2] at H
 simp only [M.strings_splitSeq_1_L2] at H
 refine bk (qr fun _ h69=>(wc (wld hF hS 1 0 0 fun a hF=>wc (wld hF hS 0 0 0 fun a hF=>bd H fun x70 hx70 H=>wc (wo_callP hF hS kr kr (C_strings_Index N hS.fresh y66 a3 ((hS.pick [1] kr).ro) hx70) ?_)))))
 rintro _ κ w a ⟨rfl,hR,hN⟩ hF hS hO
 refine wp 1 [0,1,2,3,7] hF fun a hF=>(h69 _ _ (qs fun _ h71=>qr fun _ h72=>(wp 2 [0,1,2,3,7,33] hF fun a hF=>(h72 _ _ (bc hF H (fun hb H=>?_) fun hb H=>?_)))))
 refine xt (h15 _ _ (rl (wl_pure (L':=[(2,pt b6 0),(49,.func (.yield l) #[] #[])]) 1 [2,49] hF kr fun a hF=>wc (wld hF hS 1 0 0 fun a hF=>bd H fun y73 hy73 H=>wc (wo_yield (Y:=Y) (s':=y73.1) (c:=y73.2) (x:=p68) (l:=l) (args := #[.string (y66)]) hF hS kr 3 rfl kr kr rfl (fun hp hf hn hl=>hB y66 (hS.get 0 rfl) hp hf hn hl ((hS.pick [] kr).ro) hy73) fun p74 κ w a hY hF hS=>?_)))))
 have hS:=hS.add (m:=MP.const (Y y73.1 p74)) hY
 refine nl ?_
 cases H
 exact ret_done hF hS (res0 Tryz.results150) ⟨_,hS.get 0 rfl,(hS.selp [3] dc kr).pick [] rfl⟩
 refine sk (h71 _ _ (qr fun _ h75=>(wc (wld hF hS 1 0 0 fun a hF=>wp 1 [0,1,2,3,7,34,35] hF fun a hF=>wc (wld hF hS 2 0 0 fun a hF=>wl_pure (L':=[(0,.func (.yield l) #[] #[]),(1,pt b4 0),(2,pt b6 0),(3,pt b8 0),(7,vi x70),(34,.string (y66)),(37,vi (IntKind.i64.wrap (x70+a7)))]) 1 [0,1,2,3,7,34,37] hF kr fun a hF=>bd H fun x76 hx76 H=>wc (wo_val hF kr (v := .string (x76)) ((val_sSl rfl rfl bnd0 (bnd1 rfl) kr hx76) _) fun a hF=>wp 1 [0,1,2,3,7,8] hF fun a hF=>(h75 _ _ (qs fun _ h77=>qr fun _ h78=>(wl_pure (L':=[(0,.func (.yield l) #[] #[]),(1,pt b4 0),(2,pt b6 0),(3,pt b8 0),(7,vi x70),(39,.func (.yield l) #[] #[]),(40,.string (x76))]) 2 [0,1,2,3,7,39,40] hF kr fun a hF=>?_)))))))))
 refine bd H fun y79 hy79 H=>wc (wo_yield (Y:=Y) (s':=y79.1) (c:=y79.2) (x:=p68) (l:=l) (args := #[.string (x76)]) hF hS kr 3 rfl kr kr rfl (fun hp hf hn hl=>hB x76 (hS.get 0 rfl) hp hf hn hl ((hS.pick [] kr).ro) hy79) fun p80 κ w a hY hF hS=>?_)
 have hS:=hS.add (m:=MP.const (Y y79.1 p80)) hY
 refine wp 1 [0,1,2,3,7,42] hF fun a hF=>(h78 _ _ (bc hF H (fun hb H=>?_) fun hb H=>?_))
 refine rt ?_
 cases H
 exact ret_done hF hS (res0 Tryz.results150) ⟨_,hS.get 0 rfl,(hS.selp [3] dc kr).pick [] rfl⟩
 refine sk (h77 _ _ (rl (wc (wld hF hS 1 0 0 fun a hF=>wp 1 [0,1,2,3,43,44] hF fun a hF=>wc (wld hF hS 0 0 0 fun a hF=>wl_pure (L':=[(0,.func (.yield l) #[] #[]),(1,pt b4 0),(2,pt b6 0),(3,pt b8 0),(43,.string (y66)),(47,vi (IntKind.i64.wrap (x70+((a3).size:Int))))]) 2 [0,1,2,3,43,47] hF kr fun a hF=>bd H fun x81 hx81 H=>wc (wo_val hF kr (v := .string (x81)) ((val_sSl rfl rfl (bnd1 rfl) bnd0 kr hx81) _) fun a hF=>wc (wst hF hS 1 0 1 [sg x81] (sgN 1 sgNil) fun a w hF hS=>nl ?_)))))))
 exact ⟨fuel2,Nat.lt_succ_self _,_,x81,y79.1,p80,hF.kp (rg 4),hS.sp (rg 4) [0,2],H⟩
end Go.Cf
