/- The walks: each function returns what its model says. Printed by a program of ours. -/
import Derived.Test.YtgpgcfgejggolaaGreatDoorZM1
namespace Go.Cf
open Go Go.Proofs
set_option linter.unusedVariables false
set_option maxRecDepth 20000
set_option maxHeartbeats 8000000
theorem C_vec_New (N:Nat){κ0:Gh}{w0:World}(hfr:Fresh κ0 w0)(a1:Int)(a2:(List Bool))(hR : ∀m∈([ml a2 4]:List MP),m.p κ0 w0){r:(T_vec_Vec)}(H:M.vec_New N a1 a2=some r) :
    Calls Tryz.prog 160 #[vi a1,.agg (flat [eb 4 a2]).toArray] w0 (Post [] κ0 w0 fun v κ w=>v = .agg (flat [si r.Epoch,eb 4 r.Has,(4,(encs (fInt .u64) r.T))]).toArray∧(∀m∈([ml r.Has 4,ml r.T 4]:List MP),m.p κ w)∧NewC w0 κ w []):=by
 have hS:=SS.start hfr hR
 refine en Tryz.func160 rfl Tryz.ntmps160 fun a hF=>?_
 unfold M.vec_New at H
 refine qr fun _ h3=>(wc (wbx hF hS [eb 4 a2] (sgEnc (hS.get 0 rfl) sgNil) fun b4 a w hF hS=>?_))
 have hS:=hS.add (m:=ml (List.replicate 4 false) 4) (List.length_replicate)
 have hS:=hS.add (m:=ml (List.replicate 4 0) 4) (List.length_replicate)
 refine wc (wal hF hS [si 0,eb 4 (List.replicate 4 false),(4,(encs (fInt .u64) (List.replicate 4 0)))] (sgN 1 (sgEnc List.length_replicate (sgEnc List.length_replicate sgNil))) fun b5 a w hF hS=>(h3 _ _ (qr fun _ h6=>(wl_pure (L':=[(3,pt b4 0),(4,pt b5 0),(5,vi a1)]) 1 [3,4,5] hF kr fun a hF=>wc (wls hF hS 1 0 1 fun a hF=>wc (wo_val hF kr (v := .agg (flat [si a1,eb 4 a2,(4,(encs (fInt .u64) (List.replicate 4 0)))]).toArray) (val_build (rows:=[[si 0],[eb 4 (List.replicate 4 false)],[(4,(encs (fInt .u64) (List.replicate 4 0)))]]) (vals:=[(0,[si a1]),(1,[eb 4 a2])]) (sizes:=[1,4,4]) (s':=[si a1,eb 4 a2,(4,(encs (fInt .u64) (List.replicate 4 0)))]) rfl kr kr kr kr kr (sgN 1 (sgEnc (hS.get 2 rfl) sgNil)) kr kr _) fun a hF=>?_))))))
 refine wc (wst hF hS 0 0 3 [si a1,eb 4 a2,(4,(encs (fInt .u64) (List.replicate 4 0)))] (sgN 1 (sgEnc (hS.get 2 rfl) (sgEnc List.length_replicate sgNil))) fun a w hF hS=>(h6 _ _ (rt ?_)))
 have hS':=hS
 cases H
 exact (ret_done hF hS (res1 Tryz.results160 (rvs hF hS' 0 0 3)) ⟨rfl,(hS.pick [2,0] kr).ro,hS.newC [] dc kr⟩)
end Go.Cf
