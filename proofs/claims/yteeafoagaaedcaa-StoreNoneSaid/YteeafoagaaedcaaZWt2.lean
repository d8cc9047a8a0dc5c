/- The walks: each function returns what its model says. Printed by a program of ours. -/
import Derived.Test.YteeafoagaaedcaaZMt2
import Derived.Test.YteeafoagaaedcaaZWt1
import Derived.Test.YteeafoagaaedcaaZK2
namespace Go.Cf
open Go Go.Proofs
set_option linter.unusedVariables false
set_option maxRecDepth 20000 in
set_option maxHeartbeats 8000000 in
theorem C_store_Store_Put (N : Nat) {Ms : List Nat} {κ0 : Gh} {w0 : World} (a1 : T_store_Store) (a6 : T_api_Ver) (p2 : Option Nat) (m3 : Array MapEntry) (c4 : Nat) (b5 : Nat) (hB : SB Ms κ0 w0 [.box b5 130 [(1, [.map p2]), su a1.floor], .ext (objX p2 (.map m3 c4))] [Map.mp kStr false (tSl f_api_Ver.ty) p2 m3 c4 a1.chains]) {r : (Int × T_store_Store)} (H : M.store_Store_Put N a1 a6 = some r) :
    Calls Try.prog 49 #[pt b5 0, .agg (flat [sg a6.Key, sg a6.Val, sb a6.Gone, su a6.TS, si a6.DC, si a6.Tx]).toArray] w0 (Post Ms κ0 w0 fun v κ w => ∃ (p48 : Option Nat) (m49 : Array MapEntry) (c50 : Nat), v = vi r.1 ∧ SS Ms κ0 w0 κ w [.box b5 130 [(1, [.map p48]), su r.2.floor], .ext (objX p48 (.map m49 c50))] [Map.mp kStr false (tSl f_api_Ver.ty) p48 m49 c50 r.2.chains]) := by
 have hS := hB.hS
 have hfr := hS.fresh
 refine enter (N := (68)) (L := [(0, pt b5 0), (1, .agg (flat [sg a6.Key, sg a6.Val, sb a6.Gone, su a6.TS, si a6.DC, si a6.Tx]).toArray)]) Try.func49 rfl Try.ntmps49 (show 2 ≤ (68) by decide) rfl fun a hF => ?_
 unfold M.store_Store_Put at H
 refine wpIn_seq_k fun K7 hK7 => ?_
 refine wpIn_region_lit ?_
 refine wc (wbx hF hS [sg a6.Key, sg a6.Val, sb a6.Gone, su a6.TS, si a6.DC, si a6.Tx] (sgN 6 sgNil) fun b8 a w hF hS => ?_)
 refine wp 1 [0, 3] hF fun a hF => ?_
 refine wpListIn_nil ?_
 refine hK7 _ _ ?_
 refine wpIn_seq_k fun K9 hK9 => ?_
 refine wpIn_seq_k fun K10 hK10 => ?_
 refine wpIn_region_lit ?_
 refine wp 2 [0, 3, 12] hF fun a hF => ?_
 refine wpListIn_nil ?_
 refine hK10 _ _ ?_
 refine cond_f hF (by kernel_rfl) rfl ?_
 refine wpIn_skip ?_
 refine hK9 _ _ ?_
 refine wpIn_seq_k fun K11 hK11 => ?_
 refine wpIn_seq_k fun K12 hK12 => ?_
 refine wpIn_region_lit ?_
 refine wc (wls hF hS 0 0 6 fun a hF => ?_)
 refine bind_split H (fun x13 hx13 H => ?_)
 refine wc (wo_callP hF hS (by kernel_rfl) (by kernel_rfl) (C_store_Check N hS.fresh (T_api_Ver.mk a6.Key a6.Val a6.Gone a6.TS a6.DC a6.Tx)  ((hS.pick [] (by kernel_rfl)).ro) hx13) ?_)
 rintro _ κ w a ⟨rfl, hR, hN⟩ hF hS hO
 refine wp 1 [0, 3, 5] hF fun a hF => ?_
 refine wpListIn_nil ?_
 refine hK12 _ _ ?_
 refine wpIn_seq_k fun K14 hK14 => ?_
 refine wpIn_region_lit ?_
 refine wp 2 [0, 3, 5, 16] hF fun a hF => ?_
 refine wpListIn_nil ?_
 refine hK14 _ _ ?_
 refine bif_split H (fun hb H => ?_) (fun hb H => ?_)
 refine cond_t hF (by kernel_rfl) hb ?_
 refine wpIn_seq_k fun K15 hK15 => ?_
 refine wpIn_region_lit ?_
 refine wp 2 [4] hF fun a hF => ?_
 refine wpListIn_nil ?_
 refine hK15 _ _ ?_
 refine wpIn_ret ?_
 cases H
 exact ret_done hF hS (res1 Try.results49 (rvt hF)) ⟨p2, m3, c4, rfl, hS.sp [1, 2] [0]⟩
 refine cond_f hF (by kernel_rfl) hb ?_
 refine wpIn_skip ?_
 refine hK11 _ _ ?_
 refine wpIn_seq_k fun K16 hK16 => ?_
 refine rgS hS [] ?_
 have hS := hS.drew
 refine any_pure [0, 1, 2, 4] [0, 3, 20, 22] (L' := [(0, pt b5 0), (3, pt b8 0), (20, pt b5 0), (22, pt b8 0)]) (listed' := (bitA 8 23)) (fuel := 4) hF (hS.sx [0, 1, 2] [0]) (by kernel_rfl) (by intro c a w t v h; cases t <;> exact h) (by kernel_rfl) rfl fun a hF => ?_
 refine atk 3 (some 21) hF (hS.sx [0, 1, 2] [0]) rfl (vld 1 0 0) fun a hF => ?_
 refine atk 5 (some 23) hF (hS.sx [0, 1, 2] [0]) rfl (vld 0 0 0) fun a hF => ?_
 refine bind_split H (fun x17 hx17 H => ?_)
 obtain ⟨_, ⟨⟨p18, c19⟩, rfl, hR⟩, hvx17⟩ := lookup_val (P := Try.prog) (KT := 9) (E := 39) (kt := kStr) (agg := false) (t := (tSl f_api_Ver.ty)) (L := [(0, pt b5 0), (3, pt b8 0), (20, pt b5 0), (21, .map p2), (22, pt b8 0), (23, .string (a6.Key))]) (o := ⟨(some 24), (Go.Op.lookup 128 (Go.Operand.tmp 21) (Go.Operand.tmp 23) false), 39, "store.go:43", #[(Go.Edge.mk 3 Go.Ground.data), (Go.Edge.mk 5 Go.Ground.data)], none⟩) hS 0 (k := a6.Key) (zc := flat [sl none 0 0]) (zm := ([] : List T_api_Ver)) rfl (by kernel_rfl) (by kernel_rfl) rfl hx17 (by kernel_rfl) (by kernel_rfl) (by kernel_rfl) (ztSl _)
 have hS := hS.adds hR
 refine atk 6 (some 24) hF (hS.sx [0, 1, 2] [1]) rfl (fun w hw => hvx17 2 rfl w hw) fun a hF => ?_
 refine anp [7] [0, 3, 6] hF (hS.sx [0, 1, 2] [1]) fun a hF => ?_
 refine and_ ?_
 refine hK16 _ _ ?_
 refine wpIn_seq_k fun K20 hK20 => ?_
 refine wpIn_region_lit ?_
 refine wp 1 [0, 3, 6, 26] hF fun a hF => ?_
 refine wc (wls hF hS 0 0 6 fun a hF => ?_)
 refine bind_split H (fun x21 hx21 H => ?_)
 refine wc (wo_callP hF hS (by kernel_rfl) (by kernel_rfl) (C_chain_Put N hS.fresh x17.1 (T_api_Ver.mk a6.Key a6.Val a6.Gone a6.TS a6.DC a6.Tx) p18 c19 ((hS.pick [0] (by kernel_rfl)).ro) hx21) ?_)
 rintro _ κ w a ⟨p22, c23, rfl, hR, hN⟩ hF hS hO
 have hS := hS.adds hR
 have hS := hS.addC hO hN
 refine wp 5 [0, 3, 6, 7, 8] hF fun a hF => ?_
 refine wpListIn_nil ?_
 refine hK20 _ _ ?_
 refine wpIn_seq_k fun K24 hK24 => ?_
 refine wpIn_seq_k fun K25 hK25 => ?_
 refine wpIn_region_lit ?_
 refine wp 2 [0, 3, 6, 7, 8, 32] hF fun a hF => ?_
 refine wpListIn_nil ?_
 refine hK25 _ _ ?_
 refine bif_split H (fun hb H => ?_) (fun hb H => ?_)
 refine cond_t hF (by kernel_rfl) hb ?_
 refine wpIn_seq_k fun K26 hK26 => ?_
 refine wpIn_region_lit ?_
 refine wp 2 [4] hF fun a hF => ?_
 refine wpListIn_nil ?_
 refine hK26 _ _ ?_
 refine wpIn_ret ?_
 cases H
 exact ret_done hF hS (res1 Try.results49 (rvt hF)) ⟨p2, m3, c4, rfl, hS.sp [2, 3] [2]⟩
 refine cond_f hF (by kernel_rfl) hb ?_
 refine wpIn_skip ?_
 refine hK24 _ _ ?_
 refine wpIn_seq_k fun K27 hK27 => ?_
 refine wpIn_seq_k fun K28 hK28 => ?_
 refine wpIn_region_lit ?_
 refine wp 4 [0, 3, 7, 35, 38] hF fun a hF => ?_
 refine wc (wld hF hS 2 1 0 fun a hF => ?_)
 refine bind_split H (fun x29 hx29 H => ?_)
 refine wc (wo_callP hF hS (by kernel_rfl) (by kernel_rfl) (C_chain_At N hS.fresh x17.1 a1.floor p18 c19 ((hS.pick [1] (by kernel_rfl)).ro) hx29) ?_)
 rintro _ κ w a ⟨rfl, hR, hN⟩ hF hS hO
 refine wp 3 [0, 3, 7, 41, 42] hF fun a hF => ?_
 refine wc (wal hF hS [sg ByteArray.empty, sg ByteArray.empty, sb false, su 0, si 0, si 0] (sgN 6 sgNil) fun b30 a w hF hS => ?_)
 refine wc (wst hF hS 0 0 6 [sg x29.1.Key, sg x29.1.Val, sb x29.1.Gone, su x29.1.TS, si x29.1.DC, si x29.1.Tx] (sgN 6 sgNil) fun a w hF hS => ?_)
 refine wp 1 [0, 3, 7, 9, 10] hF fun a hF => ?_
 refine wpListIn_nil ?_
 refine hK28 _ _ ?_
 refine wpIn_seq_k fun K31 hK31 => ?_
 refine bind_split H (fun v33 hv33 H => ?_)
 refine code_join (fun a w => ∃ κ : Gh, Fr (68) [] [(0, pt b5 0), (3, pt b8 0), (7, .slice p22 (x21.1).length c23), (51, vb v33)] a ∧ SS Ms κ0 w0 κ w [.box b8 37 [sg a6.Key, sg a6.Val, sb a6.Gone, su a6.TS, si a6.DC, si a6.Tx], .box b5 130 [(1, [.map p2]), su a1.floor], .tok p22 37 6 (x21.1).length c23, .ext (objX p2 (.map m3 c4))] [Map.mp kStr false (tSl f_api_Ver.ty) p2 m3 c4 a1.chains, Ro.mp f_api_Ver.ty p22 c23 x21.1] ∧ True) ?_ ?_
 refine rgS hS [] ?_
 have hS := hS.drew
 refine bif_split hv33 (fun hb34 hv33 => ?_) (fun hb34 hv33 => ?_)
 refine bind_split hv33 (fun x35 hx35 hv33 => ?_)
 refine bind_split hv33 (fun x36 hx36 hv33 => ?_)
 refine bind_split hv33 (fun x37 hx37 hv33 => ?_)
 refine anp [0, 1] [0, 3, 7, 9, 44] hF (hS.sx [0, 2, 3, 4] [0, 1, 2]) fun a hF => ?_
 have hF := hF.boolv 44 (by kernel_rfl) hb34
 refine atk 2 (some 45) hF (hS.sx [0, 2, 3, 4] [0, 1, 2]) rfl (vls 1 0 6) fun a hF => ?_
 refine atk 4 (some 47) hF (hS.sx [0, 2, 3, 4] [0, 1, 2]) rfl (vls 0 0 6) fun a hF => ?_
 refine ago 3 hF rfl ?_
 refine wo_callP hF hS (by kernel_rfl) (by kernel_rfl) (C_hlc_Of N hS.fresh (T_api_Ver.mk a6.Key a6.Val a6.Gone a6.TS a6.DC a6.Tx)  ((hS.pick [] (by kernel_rfl)).ro) hx35) ?_
 rintro _ κ w a ⟨rfl, hR, hN⟩ hF hS hO
 refine ⟨fun _ => (hS.sx [0, 2, 3, 4] [0, 1, 2]), ?_⟩
 refine ago 5 hF rfl ?_
 refine wo_callP hF hS (by kernel_rfl) (by kernel_rfl) (C_hlc_Of N hS.fresh (T_api_Ver.mk x29.1.Key x29.1.Val x29.1.Gone x29.1.TS x29.1.DC x29.1.Tx)  ((hS.pick [] (by kernel_rfl)).ro) hx36) ?_
 rintro _ κ w a ⟨rfl, hR, hN⟩ hF hS hO
 refine ⟨fun _ => (hS.sx [0, 2, 3, 4] [0, 1, 2]), ?_⟩
 refine ago 6 hF rfl ?_
 refine wo_callP hF hS (by kernel_rfl) (by kernel_rfl) (C_hlc_Cmp N hS.fresh (T_api_Mark.mk x35.TS x35.DC x35.Tx) (T_api_Mark.mk x36.TS x36.DC x36.Tx)  ((hS.pick [] (by kernel_rfl)).ro) hx37) ?_
 rintro _ κ w a ⟨rfl, hR, hN⟩ hF hS hO
 refine ⟨fun _ => (hS.sx [0, 2, 3, 4] [0, 1, 2]), ?_⟩
 refine anp [7, 8] [0, 3, 7, 51] hF (hS.sx [0, 2, 3, 4] [0, 1, 2]) fun a hF => ?_
 refine and_ ?_
 cases hv33
 exact ⟨_, hF.kp [0, 3, 7, 51], hS.sp [2, 3, 1, 4] [2, 0], trivial⟩
 refine anp [0, 1] [0, 3, 7, 9, 44] hF (hS.sx [0, 2, 3, 4] [0, 1, 2]) fun a hF => ?_
 have hF := hF.boolv 44 (by kernel_rfl) hb34
 refine anp [2, 3, 4, 5, 6, 7, 8] [0, 3, 7, 51] hF (hS.sx [0, 2, 3, 4] [0, 1, 2]) fun a hF => ?_
 refine and_ ?_
 cases hv33
 exact ⟨_, hF.kp [0, 3, 7, 51], hS.sp [2, 3, 1, 4] [2, 0], trivial⟩
 rintro a w ⟨κ, hF, hS, -⟩
 refine hK31 _ _ ?_
 refine bif_split H (fun hb H => ?_) (fun hb H => ?_)
 refine cond_t hF (by kernel_rfl) hb ?_
 refine wpIn_seq_k fun K38 hK38 => ?_
 refine wpIn_region_lit ?_
 refine wp 1 [4] hF fun a hF => ?_
 refine wpListIn_nil ?_
 refine hK38 _ _ ?_
 refine wpIn_ret ?_
 cases H
 exact ret_done hF hS (res1 Try.results49 (rvt hF)) ⟨p2, m3, c4, rfl, hS.sp [1, 3] [0]⟩
 refine cond_f hF (by kernel_rfl) hb ?_
 refine wpIn_skip ?_
 refine hK27 _ _ ?_
 refine wpIn_seq_k fun K39 hK39 => ?_
 refine wpIn_region_lit ?_
 refine wp 4 [0, 3, 53, 56] hF fun a hF => ?_
 refine wc (wld hF hS 1 1 0 fun a hF => ?_)
 refine bind_split H (fun x40 hx40 H => ?_)
 refine wc (wo_callP hF hS (by kernel_rfl) (by kernel_rfl) (C_chain_Trim N hS.fresh x21.1 a1.floor p22 c23 ((hS.pick [1] (by kernel_rfl)).ro) hx40) ?_)
 rintro _ κ w a ⟨p41, c42, rfl, hR, hN⟩ hF hS hO
 have hS := hS.adds hR
 have hS := hS.addC hO hN
 refine wl_pure (L' := [(0, pt b5 0), (3, pt b8 0), (7, .slice p41 (x40.1).length c42)]) 4 [0, 3, 7] hF (by kernel_rfl) fun a hF => ?_
 refine wpListIn_nil ?_
 refine hK39 _ _ ?_
 refine wpIn_seq_k fun K43 hK43 => ?_
 refine rgX hS [1, 2] ?_
 have hS := hS.drew
 refine any_pure [0, 1, 2, 4, 6] [63, 65, 67] (L' := [(63, pt b5 0), (65, pt b8 0), (67, .slice p41 (x40.1).length c42)]) (listed' := (bitA 8 87)) (fuel := 3) hF (hS.sx [1, 2] [0, 1, 2]) (by kernel_rfl) (by intro c a w t v h; cases t <;> exact h) (by kernel_rfl) rfl fun a hF => ?_
 refine atk 3 (some 64) hF (hS.sx [1, 2] [0, 1, 2]) rfl (vld 1 0 0) fun a hF => ?_
 refine atk 5 (some 66) hF (hS.sx [1, 2] [0, 1, 2]) rfl (vld 0 0 0) fun a hF => ?_
 refine ago 7 hF rfl ?_
 refine bind_split H (fun x44 hx44 H => ?_)
 refine wo_mapUpdate (KT := 9) (E := 39) (kt := kStr) (agg := false) (t := (tSl f_api_Ver.ty)) hF hS (by kernel_rfl) 4 1 (k := a6.Key) (v := x40.1) (cs := flat [sl p41 (x40.1).length c42]) rfl (by kernel_rfl) (by kernel_rfl) (by kernel_rfl) ⟨(p41, c42), rfl, (hS.pick [0] (by kernel_rfl)).ro⟩ rfl rfl hx44 (by kernel_rfl) (by kernel_rfl) fun m45 c46 a w hF hS => ?_
 refine ⟨fun _ => (hS.sx [1, 2] [1, 2, 3]), ?_⟩
 refine and_ ?_
 refine hK43 _ _ ?_
 refine wpIn_seq_k fun K47 hK47 => ?_
 refine wpIn_region_lit ?_
 refine wp 1 [4] hF fun a hF => ?_
 refine wpListIn_nil ?_
 refine hK47 _ _ ?_
 refine wpIn_ret ?_
 cases H
 exact ret_done hF hS (res1 Try.results49 (rvt hF)) ⟨p2, m45, c46, rfl, hS.sp [2, 4] [0]⟩
set_option maxRecDepth 20000 in
set_option maxHeartbeats 8000000 in
theorem C_store_Store_Get (N : Nat) {Ms : List Nat} {κ0 : Gh} {w0 : World} (a1 : T_store_Store) (a6 : ByteArray) (a7 : Int) (p2 : Option Nat) (m3 : Array MapEntry) (c4 : Nat) (b5 : Nat) (hB : SB Ms κ0 w0 [.box b5 130 [(1, [.map p2]), su a1.floor], .ext (objX p2 (.map m3 c4))] [Map.mp kStr false (tSl f_api_Ver.ty) p2 m3 c4 a1.chains]) {r : (T_api_Ver × Bool × Int)} (H : M.store_Store_Get N a1 a6 a7 = some r) :
    Calls Try.prog 50 #[pt b5 0, .string (a6), vu a7] w0 (Post Ms κ0 w0 fun v κ w => v = .tuple #[.agg (flat [sg r.1.Key, sg r.1.Val, sb r.1.Gone, su r.1.TS, si r.1.DC, si r.1.Tx]).toArray, vb r.2.1, vi r.2.2] ∧ SS Ms κ0 w0 κ w [.box b5 130 [(1, [.map p2]), su a1.floor], .ext (objX p2 (.map m3 c4))] []) := by
 have hS := hB.hS
 have hfr := hS.fresh
 refine enter (N := (34)) (L := [(0, pt b5 0), (1, .string (a6)), (2, vu a7)]) Try.func50 rfl Try.ntmps50 (show 3 ≤ (34) by decide) rfl fun a hF => ?_
 unfold M.store_Store_Get at H
 refine wpIn_seq_k fun K8 hK8 => ?_
 refine wpIn_region_lit ?_
 refine wc (wal hF hS [sg ByteArray.empty, sg ByteArray.empty, sb false, su 0, si 0, si 0] (sgN 6 sgNil) fun b9 a w hF hS => ?_)
 refine wp 2 [0, 1, 2, 6] hF fun a hF => ?_
 refine wpListIn_nil ?_
 refine hK8 _ _ ?_
 refine wpIn_seq_k fun K10 hK10 => ?_
 refine wpIn_seq_k fun K11 hK11 => ?_
 refine wpIn_region_lit ?_
 refine wp 2 [0, 1, 2, 6, 12] hF fun a hF => ?_
 refine wpListIn_nil ?_
 refine hK11 _ _ ?_
 refine cond_f hF (by kernel_rfl) rfl ?_
 refine wpIn_skip ?_
 refine hK10 _ _ ?_
 refine wpIn_seq_k fun K12 hK12 => ?_
 refine wpIn_seq_k fun K13 hK13 => ?_
 refine wpIn_region_lit ?_
 refine wp 4 [0, 1, 2, 6, 14, 17] hF fun a hF => ?_
 refine wc (wld hF hS 1 1 0 fun a hF => ?_)
 refine wp 1 [0, 1, 2, 6, 19] hF fun a hF => ?_
 refine wpListIn_nil ?_
 refine hK13 _ _ ?_
 refine bif_split H (fun hb H => ?_) (fun hb H => ?_)
 refine cond_t hF (by kernel_rfl) hb ?_
 refine wpIn_seq_k fun K14 hK14 => ?_
 refine wpIn_region_lit ?_
 refine wp 1 [6, 20] hF fun a hF => ?_
 refine wc (wst hF hS 0 0 6 [sg ByteArray.empty, sg ByteArray.empty, sb false, su 0, si 0, si 0] (sgN 6 sgNil) fun a w hF hS => ?_)
 refine wp 2 [6, 7, 8] hF fun a hF => ?_
 refine wpListIn_nil ?_
 refine hK14 _ _ ?_
 refine wpIn_ret ?_
 have hS' := hS
 cases H
 exact ret_done hF hS (res3 Try.results50 (rvs hF hS' 0 0 6) (rvt hF) (rvt hF)) ⟨rfl, hS.sp [1, 2] []⟩
 refine cond_f hF (by kernel_rfl) hb ?_
 refine wpIn_skip ?_
 refine hK12 _ _ ?_
 refine wpIn_seq_k fun K15 hK15 => ?_
 refine wpIn_region_lit ?_
 refine wp 3 [1, 2, 6, 24] hF fun a hF => ?_
 refine wc (wld hF hS 1 0 0 fun a hF => ?_)
 refine wl_pure (L' := [(2, vu a7), (6, pt b9 0), (25, .map p2), (26, .string (a6))]) 1 [2, 6, 25, 26] hF (by kernel_rfl) fun a hF => ?_
 refine bind_split H (fun x16 hx16 H => ?_)
 refine wc (wo_lookup (KT := 9) (E := 39) (kt := kStr) (agg := false) (t := (tSl f_api_Ver.ty)) hF hS (by kernel_rfl) 2 0 (k := a6) (zc := flat [sl none 0 0]) (zm := ([] : List T_api_Ver)) rfl (by kernel_rfl) (by kernel_rfl) rfl rfl hx16 (by kernel_rfl) (by kernel_rfl) (by kernel_rfl) (ztSl _) ?_)
 rintro _ a ⟨⟨p17, c18⟩, rfl, hR⟩ hF
 have hS := hS.adds hR
 refine wp 1 [6, 27, 28] hF fun a hF => ?_
 refine bind_split H (fun x19 hx19 H => ?_)
 refine wc (wo_callP hF hS (by kernel_rfl) (by kernel_rfl) (C_chain_At N hS.fresh x16.1 a7 p17 c18 ((hS.pick [0] (by kernel_rfl)).ro) hx19) ?_)
 rintro _ κ w a ⟨rfl, hR, hN⟩ hF hS hO
 refine wp 3 [6, 30, 31] hF fun a hF => ?_
 refine wc (wal hF hS [sg ByteArray.empty, sg ByteArray.empty, sb false, su 0, si 0, si 0] (sgN 6 sgNil) fun b20 a w hF hS => ?_)
 refine wc (wst hF hS 0 0 6 [sg x19.1.Key, sg x19.1.Val, sb x19.1.Gone, su x19.1.TS, si x19.1.DC, si x19.1.Tx] (sgN 6 sgNil) fun a w hF hS => ?_)
 refine wp 1 [6, 9, 10] hF fun a hF => ?_
 refine wpListIn_nil ?_
 refine hK15 _ _ ?_
 refine wpIn_seq_k fun K21 hK21 => ?_
 refine wpIn_region_lit ?_
 refine wc (wls hF hS 0 0 6 fun a hF => ?_)
 refine wp 1 [6, 32, 33] hF fun a hF => ?_
 refine wc (wst hF hS 1 0 6 [sg x19.1.Key, sg x19.1.Val, sb x19.1.Gone, su x19.1.TS, si x19.1.DC, si x19.1.Tx] (sgN 6 sgNil) fun a w hF hS => ?_)
 refine wp 2 [6, 7, 8] hF fun a hF => ?_
 refine wpListIn_nil ?_
 refine hK21 _ _ ?_
 refine wpIn_ret ?_
 have hS' := hS
 cases H
 exact ret_done hF hS (res3 Try.results50 (rvs hF hS' 1 0 6) (rvt hF) (rvt hF)) ⟨rfl, hS.sp [2, 3] []⟩
end Go.Cf
