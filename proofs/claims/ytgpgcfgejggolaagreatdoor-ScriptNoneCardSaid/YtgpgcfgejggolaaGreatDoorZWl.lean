/- The walks: each function returns what its model says. Printed by a program of ours. -/
import Derived.Test.YtgpgcfgejggolaaGreatDoorZM1
import Derived.Test.YtgpgcfgejggolaaGreatDoorZWLib
namespace Go.Cf
open Go Go.Proofs
set_option linter.unusedVariables false
set_option maxRecDepth 20000
set_option maxHeartbeats 8000000
theorem C_internal_strconv_FormatUint (N:Nat){κ0:Gh}{w0:World}(hfr:Fresh κ0 w0)(a1:Int)(a2:Int)(hR : ∀m∈([]:List MP),m.p κ0 w0){r:(ByteArray)}(H:M.internal_strconv_FormatUint N a1 a2=some r) :
    Calls Tryz.prog 104 #[vu a1,vi a2] w0 (Post [] κ0 w0 fun v κ w=>v = .string (r)∧(∀m∈([]:List MP),m.p κ w)∧NewC w0 κ w []):=by
 have hS:=SS.start hfr hR
 refine en Tryz.func104 rfl Tryz.ntmps104 fun a hF=>?_
 unfold M.internal_strconv_FormatUint at H
 refine qr fun _ h3=>(wp 1 [0,1] hF fun a hF=>(h3 _ _ (qs fun _ h4=>qr fun _ h5=>(wp 2 [0,1,10] hF fun a hF=>(h5 _ _ (bc hF H (fun hb H=>?_) fun hb H=>?_))))))
 refine qs fun _ h6=>qr fun _ h7=>(wp 2 [0,12] hF fun a hF=>(h7 _ _ (bc hF H (fun hb H=>?_) fun hb H=>?_)))
 refine qr fun _ h8=>(wp 2 [14] hF fun a hF=>bd H fun x9 hx9 H=>wc (wo_callP hF hS kr kr (C_internal_small N hS.fresh (IntKind.i64.wrap a1) ((hS.pick [] kr).ro) hx9) ?_))
 rintro _ κ w a ⟨rfl,hR,hN⟩ hF hS hO
 refine wp 1 [4] hF fun a hF=>(h8 _ _ (rt ?_))
 cases H
 exact (ret_done hF hS (res1 Tryz.results104 (rvt hF)) ⟨rfl,(hS.pick [] kr).ro,hS.newC [] dc kr⟩)
 refine sk (h6 _ _ (qr fun _ h10=>?_))
 have hS:=hS.add (m:=ml (List.replicate 24 0) 24) (List.length_replicate)
 refine wc (wal hF hS [(24,(encs (fInt .u8) (List.replicate 24 0)))] (sgEnc List.length_replicate sgNil) fun b11 a w hF hS=>(h10 _ _ (qs fun _ h12=>?_)))
 cases H
 refine sk (h4 _ _ (qs fun _ h13=>?_))
 cases H
theorem C_strconv_FormatUint (N:Nat){κ0:Gh}{w0:World}(hfr:Fresh κ0 w0)(a1:Int)(a2:Int)(hR : ∀m∈([]:List MP),m.p κ0 w0){r:(ByteArray)}(H:M.strconv_FormatUint N a1 a2=some r) :
    Calls Tryz.prog 40 #[vu a1,vi a2] w0 (Post [] κ0 w0 fun v κ w=>v = .string (r)∧(∀m∈([]:List MP),m.p κ w)∧NewC w0 κ w []):=by
 have hS:=SS.start hfr hR
 refine en Tryz.func40 rfl Tryz.ntmps40 fun a hF=>?_
 unfold M.strconv_FormatUint at H
 refine qr fun _ h3=>(wp 1 [0,1] hF fun a hF=>(h3 _ _ (qr fun _ h4=>(wp 2 [5,6] hF fun a hF=>bd H fun x5 hx5 H=>wc (wo_callP hF hS kr kr (C_internal_strconv_FormatUint N hS.fresh a1 a2 ((hS.pick [] kr).ro) hx5) ?_)))))
 rintro _ κ w a ⟨rfl,hR,hN⟩ hF hS hO
 refine wp 1 [4] hF fun a hF=>(h4 _ _ (rt ?_))
 cases H
 exact (ret_done hF hS (res1 Tryz.results40 (rvt hF)) ⟨rfl,(hS.pick [] kr).ro,hS.newC [] dc kr⟩)
end Go.Cf
