/- The walks: each function returns what its model says. Printed by a program of ours. -/
import Derived.Test.YtjohablgnnbelaaZM1
import Derived.Test.YtjohablgnnbelaaZW3
import Derived.Test.YtjohablgnnbelaaZW8
namespace Go.Cf
open Go Go.Proofs
set_option linter.unusedVariables false
set_option maxRecDepth 20000 in
set_option maxHeartbeats 1000000 in
theorem C_law19_awake (N : Nat) {κ0 : Gh} {w0 : World} (hfr : Fresh κ0 w0)   (hR : ∀ m ∈ ([] : List MP), m.p κ0 w0) {r : (Bool)} (H : M.law19_awake N  = some r) :
    Calls Try.prog 63 #[] w0 (Post [] κ0 w0 fun v κ w => v = vb r ∧ (∀ m ∈ ([] : List MP), m.p κ w) ∧ NewC w0 κ w []) := by
 have hS := SS.start hfr hR
 refine enter (N := (34)) (L := []) Try.func63 rfl Try.ntmps63 (show 0 ≤ (34) by decide) rfl fun a hF => ?_
 unfold M.law19_awake at H
 refine wpIn_seq_k fun K1 hK1 => ?_
 refine wpIn_region_lit ?_
 refine wp 1 [] hF fun a hF => ?_
 refine wpListIn_nil ?_
 refine hK1 _ _ ?_
 refine wpIn_seq_k fun K2 hK2 => ?_
 refine wpIn_region_lit ?_
 refine bind_split H (fun x3 hx3 H => ?_)
 refine wc (wo_callP hF hS (by kernel_rfl) (by kernel_rfl) (C_config_Start N hS.fresh 1 1 1  ((hS.pick [] (by kernel_rfl)).ro) hx3) ?_)
 rintro _ κ w a ⟨cs4, rfl, hR, hN⟩ hF hS hO
 have hS := hS.adds hR
 refine wp 3 [8, 9] hF fun a hF => ?_
 have hS := hS.add (m := ml (List.replicate 4 false) 4) (List.length_replicate)
 have hS := hS.add (m := Arr.mp t_api_Map ((List.replicate 4 (flat [sl none 0 0, sl none 0 0])).flatten) 4 (List.replicate 4 (T_api_Map.mk ([] : List ByteArray) ([] : List Int)))) (Arr.zero _ _ _ _ _ z_api_Map)
 have hS := hS.add (m := ml (List.replicate 21 0) 21) (List.length_replicate)
 refine wc (wal hF hS [si 0, si 0, eb 4 (List.replicate 4 false), (8, (List.replicate 4 (flat [sl none 0 0, sl none 0 0])).flatten), ei 21 (List.replicate 21 0)] (sgN 2 (sgEnc List.length_replicate (sgArr (hS.get 1 rfl) (sgEnc List.length_replicate sgNil)))) fun b5 a w hF hS => ?_)
 refine wc (wst hF hS 0 0 5 [si x3.1.Pool, si x3.1.Nodes, eb 4 x3.1.Members, (8, cs4), ei 21 x3.1.Modes] (sgN 2 (sgEnc (hS.get 3 rfl) (sgArr (hS.get 4 rfl) (sgEnc (hS.get 5 rfl) sgNil)))) fun a w hF hS => ?_)
 refine wp 1 [1] hF fun a hF => ?_
 refine wpListIn_nil ?_
 refine hK2 _ _ ?_
 refine wpIn_seq_k fun K6 hK6 => ?_
 refine wpIn_region_lit ?_
 refine wc (wls hF hS 0 0 5 fun a hF => ?_)
 refine bind_split H (fun x7 hx7 H => ?_)
 refine wc (wcS 0 [0] hF hS (fun hS => C_warden_New N (T_config_State.mk x3.1.Pool x3.1.Nodes x3.1.Members x3.1.Maps x3.1.Modes) cs4  ⟨rfl, hS.pick [3, 4, 5] (by kernel_rfl)⟩ hx7) ?_)
 rintro _ κ w a ⟨b8, cs9, cs10, p11, c12, p13, c14, rfl, h2⟩ hF hB
 have hS := hB _ _ h2
 refine wp 1 [3] hF fun a hF => ?_
 refine wpListIn_nil ?_
 refine hK6 _ _ ?_
 refine wpIn_seq_k fun K15 hK15 => ?_
 refine wpIn_seq_k fun K16 hK16 => ?_
 refine wpIn_region_lit ?_
 refine wp 2 [3, 13] hF fun a hF => ?_
 refine wpListIn_nil ?_
 refine hK16 _ _ ?_
 refine cond_f hF (by kernel_rfl) rfl ?_
 refine wpIn_skip ?_
 refine hK15 _ _ ?_
 refine wpIn_seq_k fun K17 hK17 => ?_
 refine wpIn_region_lit ?_
 refine wp 2 [3, 15, 16] hF fun a hF => ?_
 refine bind_split H (fun x18 hx18 H => ?_)
 refine wc (wcS 3 (rg 4) hF hS (fun hS => C_warden_Warden_Ask N (T_warden_Warden.mk (T_config_State.mk x7.now.Pool x7.now.Nodes x7.now.Members x7.now.Maps x7.now.Modes) (T_config_State.mk x7.tail.Pool x7.tail.Nodes x7.tail.Members x7.tail.Maps x7.tail.Modes) x7.queue x7.done x7.epoch x7.step_ x7.wait x7.mark_ x7.ready x7.out) (T_api_Cmd.mk 3 0 0 0 0 (ByteArray.mk #[109])) cs9 cs10 p11 c12 p13 c14 b8 ⟨rfl, hS.pick (rg 9) (by kernel_rfl)⟩ hx18) ?_)
 rintro _ κ w a ⟨cs19, cs20, p21, c22, p23, c24, rfl, h2⟩ hF hB
 have hS := hB _ _ h2
 refine wp 5 [3, 4, 5] hF fun a hF => ?_
 refine wpListIn_nil ?_
 refine hK17 _ _ ?_
 refine wpIn_seq_k fun K25 hK25 => ?_
 refine wpIn_region_lit ?_
 refine wp 2 [3, 4, 5, 20, 21] hF fun a hF => ?_
 have hS := hS.add (m := Ro.mp f_api_Ver.ty none 0 ([] : List T_api_Ver)) (Ro.nil f_api_Ver.ty _ _)
 have hS := hS.add (m := Ro.mp (fInt .u64).ty none 0 ([] : List Int)) (Ro.nil (fInt .u64).ty _ _)
 refine bind_split H (fun x26 hx26 H => ?_)
 refine wc (wcS 3 (rg 4) hF hS (fun hS => C_warden_Warden_Take N (T_warden_Warden.mk (T_config_State.mk x18.2.2.now.Pool x18.2.2.now.Nodes x18.2.2.now.Members x18.2.2.now.Maps x18.2.2.now.Modes) (T_config_State.mk x18.2.2.tail.Pool x18.2.2.tail.Nodes x18.2.2.tail.Members x18.2.2.tail.Maps x18.2.2.tail.Modes) x18.2.2.queue x18.2.2.done x18.2.2.epoch x18.2.2.step_ x18.2.2.wait x18.2.2.mark_ x18.2.2.ready x18.2.2.out) 0 (T_api_Msg.mk 23 1 0 0 ByteArray.empty ByteArray.empty ([] : List T_api_Ver) ([] : List Int) (T_api_Cmd.mk 0 0 0 0 0 ByteArray.empty)) cs19 cs20 p21 c22 p23 c24 none 0 none 0 b8 ⟨rfl, hS.pick [2, 3, 4, 5, 6, 7, 8, 9, 10, 1, 0] (by kernel_rfl)⟩ hx26) ?_)
 rintro _ κ w a ⟨cs27, cs28, p29, c30, p31, c32, rfl, h2⟩ hF hB
 have hS := hB _ _ h2
 refine wpListIn_nil ?_
 refine hK25 _ _ ?_
 refine wpIn_seq_k fun K33 hK33 => ?_
 refine wpIn_region_lit ?_
 refine bind_split H (fun v35 hv35 H => ?_)
 refine wl_join (fun a w => ∃ κ : Gh, Fr (34) [] [(0, vb v35)] a ∧ SS [] κ0 w0 κ w [] [] ∧ True) ?_ ?_
 refine wp 3 [3, 5, 25] hF fun a hF => ?_
 refine bif_split hv35 (fun hb hv35 => ?_) (fun hb hv35 => ?_)
 have hF := hF.boolv 25 (by kernel_rfl) hb
 refine wp 4 [3, 29] hF fun a hF => ?_
 refine bif_split hv35 (fun hb hv35 => ?_) (fun hb hv35 => ?_)
 have hF := hF.boolv 29 (by kernel_rfl) hb
 refine wp 1 [29, 30] hF fun a hF => ?_
 refine bind_split hv35 (fun x36 hx36 hv35 => ?_)
 refine wcg hF (wcS 1 (rg 4) hF hS (fun hS => C_warden_Warden_Acked N (T_warden_Warden.mk (T_config_State.mk x26.now.Pool x26.now.Nodes x26.now.Members x26.now.Maps x26.now.Modes) (T_config_State.mk x26.tail.Pool x26.tail.Nodes x26.tail.Members x26.tail.Maps x26.tail.Modes) x26.queue x26.done x26.epoch x26.step_ x26.wait x26.mark_ x26.ready x26.out) cs27 cs28 p29 c30 p31 c32 b8 ⟨rfl, hS.pick (rg 9) (by kernel_rfl)⟩ hx36) ?_)
 rintro _ κ w a ⟨rfl, h2⟩ hF hB
 have hS := hB _ _ h2
 refine wp 3 [0] hF fun a hF => ?_
 refine wpListIn_nil ?_
 cases hv35
 exact ⟨_, hF.kp [0], hS.sp [] [], trivial⟩
 have hF := hF.boolv 29 (by kernel_rfl) hb
 refine wp 5 [0] hF fun a hF => ?_
 refine wpListIn_nil ?_
 cases hv35
 exact ⟨_, hF.kp [0], hS.sp [] [], trivial⟩
 have hF := hF.boolv 25 (by kernel_rfl) hb
 refine wp 9 [0] hF fun a hF => ?_
 refine wpListIn_nil ?_
 cases hv35
 exact ⟨_, hF.kp [0], hS.sp [] [], trivial⟩
 rintro a w ⟨κ, hF, hS, -⟩
 refine hK33 _ _ ?_
 refine wpIn_ret ?_
 cases H
 exact (ret_done hF hS (res1 Try.results63 (rvt hF)) ⟨rfl, (hS.pick [] (by kernel_rfl)).ro, hS.newC [] (by decide) (by kernel_rfl)⟩)
end Go.Cf
