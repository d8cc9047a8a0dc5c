/- The walks: each function returns what its model says. Printed by a program of ours. -/
import Derived.Test.YtgpgcfgejggolaaGreatDoorZM1
namespace Go.Cf
open Go Go.Proofs
set_option linter.unusedVariables false
set_option maxRecDepth 20000
set_option maxHeartbeats 8000000
theorem C_api_Place (N:Nat){κ0:Gh}{w0:World}(hfr:Fresh κ0 w0)(a1:Int)(a2:Int)(hR : ∀m∈([]:List MP),m.p κ0 w0){r:(Int)}(H:M.api_Place N a1 a2=some r) :
    Calls Tryz.prog 34 #[vi a1,vi a2] w0 (Post [] κ0 w0 fun v κ w=>v=vi r∧(∀m∈([]:List MP),m.p κ w)∧NewC w0 κ w []):=by
 have hS:=SS.start hfr hR
 refine en Tryz.func34 rfl Tryz.ntmps34 fun a hF=>?_
 unfold M.api_Place at H
 refine qr fun _ h3=>(wp 1 [0,1] hF fun a hF=>(h3 _ _ (qr fun _ h4=>(wp 7 [4] hF fun a hF=>(h4 _ _ (rt ?_))))))
 cases H
 exact (ret_done hF hS (res1 Tryz.results34 (rvt hF)) ⟨rfl,(hS.pick [] kr).ro,hS.newC [] dc kr⟩)
theorem C_span_Within (N:Nat){κ0:Gh}{w0:World}(hfr:Fresh κ0 w0)(a1:ByteArray)(a2:ByteArray)(a3:ByteArray)(hR : ∀m∈([]:List MP),m.p κ0 w0){r:(Bool)}(H:M.span_Within N a1 a2 a3=some r) :
    Calls Tryz.prog 171 #[.string (a1),.string (a2),.string (a3)] w0 (Post [] κ0 w0 fun v κ w=>v=vb r∧(∀m∈([]:List MP),m.p κ w)∧NewC w0 κ w []):=by
 have hS:=SS.start hfr hR
 refine en Tryz.func171 rfl Tryz.ntmps171 fun a hF=>?_
 unfold M.span_Within at H
 refine qr fun _ h4=>(wp 1 [0,1,2] hF fun a hF=>(h4 _ _ (qr fun _ h5=>(bd H fun v7 hv7 H=>wl_join (fun a w => ∃κ:Gh,Fr (19) [] [(6,vb v7)] a∧SS [] κ0 w0 κ w [] []∧True) ?_ ?_))))
 refine wp 4 [0,2,10] hF fun a hF=>bs hv7 (fun hb hv7=>?_) fun hb hv7=>?_
 have hF:=hF.bv 10 hb
 refine wp 3 [0,2,10,13] hF fun a hF=>bs hv7 (fun hb hv7=>?_) fun hb hv7=>?_
 have hF:=hF.bv 13 hb
 refine wp 6 [6] hF fun a hF=>nl ?_
 cases hv7
 exact ⟨_,hF.kp [6],hS.sp [] [],trivial⟩
 have hF:=hF.bv 13 hb
 refine wp 6 [6] hF fun a hF=>nl ?_
 cases hv7
 exact ⟨_,hF.kp [6],hS.sp [] [],trivial⟩
 have hF:=hF.bv 10 hb
 refine wp 9 [6] hF fun a hF=>nl ?_
 cases hv7
 exact ⟨_,hF.kp [6],hS.sp [] [],trivial⟩
 rintro a w ⟨κ,hF,hS,-⟩
 refine h5 _ _ (rt ?_)
 cases H
 exact (ret_done hF hS (res1 Tryz.results171 (rvt hF)) ⟨rfl,(hS.pick [] kr).ro,hS.newC [] dc kr⟩)
theorem C_span_Whole (N:Nat){κ0:Gh}{w0:World}(hfr:Fresh κ0 w0)(a1:Int)(hR : ∀m∈([]:List MP),m.p κ0 w0){r:(T_api_Map)}(H:M.span_Whole N a1=some r) :
    Calls Tryz.prog 82 #[vi a1] w0 (Post [] κ0 w0 fun v κ w => ∃(p6:Option Addr) (c7:Nat) (p8:Option Addr) (c9:Nat),v = .agg (flat [sl p6 (r.Cuts).length c7,sl p8 (r.Nodes).length c9]).toArray∧(∀m∈([Ro.mp fStr.ty p6 c7 r.Cuts,Ro.mp (fInt .i64).ty p8 c9 r.Nodes]:List MP),m.p κ w)∧NewC w0 κ w [.tok p6 9 1 (r.Cuts).length c7,.tok p8 3 1 (r.Nodes).length c9]):=by
 have hS:=SS.start hfr hR
 refine en Tryz.func82 rfl Tryz.ntmps82 fun a hF=>?_
 unfold M.span_Whole at H
 refine qs fun _ hz=>rl (wc (wal hF hS [sl none 0 0,sl none 0 0] (sgN 2 sgNil) fun b3 a w hF hS=>nl (hz _ _ (qr fun _ h4=>(wl_pure (L':=[(2,pt b3 0),(3,vi a1)]) 1 [2,3] hF kr fun a hF=>wc (wo_buildN (t:=(fInt .i64)) (z:=vi 0) (l:=[a1]) (vs:=[(0,vi a1)]) (cells := #[vi a1]) (E:=3) hF hS kr rfl kr kr rfl kr kr kr kr kr fun p5 κ a w hF hS=>wp 1 [2,5] hF fun a hF=>wc (wst hF hS 1 0 2 [sl none 0 0,sl p5 ([a1]).length 1] (sgN 2 sgNil) fun a w hF hS=>(h4 _ _ (rt ?_)))))))))
 have hS':=hS
 have hS:=hS.add (m:=Ro.mp fStr.ty none 0 ([]:List ByteArray)) (Ro.nil fStr.ty _ _)
 have hS:=hS.addNil 9 1
 cases H
 exact (ret_done hF hS (res1 Tryz.results82 (rvs hF hS' 1 0 2)) ⟨none,0,p5,1,rfl,(hS.pick [0,1] kr).ro,hS.newC [0,1] dc kr⟩)
theorem C_span_Copy (N:Nat){κ0:Gh}{w0:World}(hfr:Fresh κ0 w0)(a1:T_api_Map)(p2:Option Addr)(c3:Nat)(p4:Option Addr)(c5:Nat)(hR : ∀m∈([Ro.mp fStr.ty p2 c3 a1.Cuts,Ro.mp (fInt .i64).ty p4 c5 a1.Nodes]:List MP),m.p κ0 w0){r:(T_api_Map)}(H:M.span_Copy N a1=some r) :
    Calls Tryz.prog 159 #[.agg (flat [sl p2 (a1.Cuts).length c3,sl p4 (a1.Nodes).length c5]).toArray] w0 (Post [] κ0 w0 fun v κ w => ∃(p16:Option Addr) (c17:Nat) (p18:Option Addr) (c19:Nat),v = .agg (flat [sl p16 (r.Cuts).length c17,sl p18 (r.Nodes).length c19]).toArray∧(∀m∈([Ro.mp fStr.ty p16 c17 r.Cuts,Ro.mp (fInt .i64).ty p18 c19 r.Nodes]:List MP),m.p κ w)∧NewC w0 κ w [.tok p16 9 1 (r.Cuts).length c17,.tok p18 3 1 (r.Nodes).length c19]):=by
 have hS:=SS.start hfr hR
 refine en Tryz.func159 rfl Tryz.ntmps159 fun a hF=>?_
 unfold M.span_Copy at H
 refine qr fun _ h6=>(wc (wbx hF hS [sl p2 (a1.Cuts).length c3,sl p4 (a1.Nodes).length c5] (sgN 2 sgNil) fun b7 a w hF hS=>wc (wal hF hS [sl none 0 0,sl none 0 0] (sgN 2 sgNil) fun b8 a w hF hS=>(h6 _ _ (qs fun _ h9=>rgS hS [7] ?_)))))
 have hS:=hS.drew
 have hX:=hS.fx
 refine bd H fun x10 hx10 H=>bd H fun x13 hx13 H=>any_pure [0,3] [2,3,6] (L':=[(2,pt b8 0),(3,pt b7 0),(6,pt b7 1)]) (listed':=(bitA 8 9)) (fuel:=6) hF hX kr (by intro c a w t v h; cases t<;>exact h) kr rfl fun a hF=>atk 1 (some 4) hF hX rfl (vld 1 0 0) fun a hF=>atk 4 (some 7) hF hX rfl (vld 1 1 0) fun a hF=>ago 2 hF rfl ?_
 have hS:=hS.add (m:=Ro.mp fStr.ty none 0 ([]:List ByteArray)) (Ro.nil fStr.ty _ _)
 have hS:=hS.addNil 9 1
 refine wo_append (ty:=fStr.ty) hF hS kr 0 0 1 rfl rfl rfl kr kr rfl rfl rfl hx10 kr (i:=Tryz.t9) (z := .string (ByteArray.empty)) kr kr kr fun p11 c12 κ a w hF hS=>⟨fun _=>(hS.sx [1,2] [2,3]),?_⟩
 refine ago 5 hF rfl ?_
 have hS:=hS.add (m:=Ro.mp (fInt .i64).ty none 0 ([]:List Int)) (Ro.nil (fInt .i64).ty _ _)
 have hS:=hS.addNil 3 1
 refine wo_append (ty:=(fInt .i64).ty) hF hS kr 0 0 4 rfl rfl rfl kr kr rfl rfl rfl hx13 kr (i:=Tryz.t3) (z:=vi 0) kr kr kr fun p14 c15 κ a w hF hS=>⟨fun _=>(hS.sx [2,3] [4,5]),?_⟩
 refine anp [6] [2,9] hF (hS.sx [2,3] [4,5]) fun a hF=>ago 7 hF rfl (wst hF hS 2 0 2 [sl p11 x10.length c12,sl p14 x13.length c15] (sgN 2 sgNil) fun a w hF hS=>⟨notE,?_⟩)
 refine and_ (h9 _ _ (rt ?_))
 have hS':=hS
 cases H
 exact (ret_done hF hS (res1 Tryz.results159 (rvs hF hS' 2 0 2)) ⟨p11,c12,p14,c15,rfl,(hS.pick [2,0] kr).ro,hS.newC [1,0] dc kr⟩)
end Go.Cf
