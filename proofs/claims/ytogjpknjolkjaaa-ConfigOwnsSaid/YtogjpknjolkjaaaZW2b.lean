/- The walks: each function returns what its model says. Printed by a program of ours. -/
import Derived.Test.YtogjpknjolkjaaaZM1
import Derived.Test.YtogjpknjolkjaaaZW1
import Derived.Test.YtogjpknjolkjaaaZW2
namespace Go.Cf
open Go Go.Proofs
set_option linter.unusedVariables false
set_option maxRecDepth 20000 in
set_option maxHeartbeats 8000000 in
theorem C_span_Merge (N : Nat) {κ0 : Gh} {w0 : World} (hfr : Fresh κ0 w0) (a1 : T_api_Map) (a6 : Int) (a7 : Int) (p2 : Option Addr) (c3 : Nat) (p4 : Option Addr) (c5 : Nat) (hR : ∀ m ∈ ([Ro.mp fStr.ty p2 c3 a1.Cuts, Ro.mp (fInt .i64).ty p4 c5 a1.Nodes] : List MP), m.p κ0 w0) {r : (T_api_Map × Int)} (H : M.span_Merge N a1 a6 a7 = some r) :
    Calls Try.prog 29 #[.agg (flat [sl p2 (a1.Cuts).length c3, sl p4 (a1.Nodes).length c5]).toArray, vi a6, vi a7] w0 (Post [] κ0 w0 fun v κ w => ∃ (p59 : Option Addr) (c60 : Nat) (p61 : Option Addr) (c62 : Nat), v = .tuple #[.agg (flat [sl p59 (r.1.Cuts).length c60, sl p61 (r.1.Nodes).length c62]).toArray, vi r.2] ∧ (∀ m ∈ ([Ro.mp fStr.ty p59 c60 r.1.Cuts, Ro.mp (fInt .i64).ty p61 c62 r.1.Nodes] : List MP), m.p κ w) ∧ NewC w0 κ w [.tok p59 9 1 (r.1.Cuts).length c60, .tok p61 3 1 (r.1.Nodes).length c62]) := by
 have hS := SS.start hfr hR
 refine enter (N := (70)) (L := [(0, .agg (flat [sl p2 (a1.Cuts).length c3, sl p4 (a1.Nodes).length c5]).toArray), (1, vi a6), (2, vi a7)]) Try.func29 rfl Try.ntmps29 (show 3 ≤ (70) by decide) rfl fun a hF => ?_
 unfold M.span_Merge at H
 refine wpIn_seq_k fun K8 hK8 => ?_
 refine wpIn_region_lit ?_
 refine wc (wbx hF hS [sl p2 (a1.Cuts).length c3, sl p4 (a1.Nodes).length c5] (sgN 2 sgNil) fun b9 a w hF hS => ?_)
 refine wc (wal hF hS [sl none 0 0, sl none 0 0] (sgN 2 sgNil) fun b10 a w hF hS => ?_)
 refine wp 1 [1, 2, 3, 6] hF fun a hF => ?_
 refine wpListIn_nil ?_
 refine hK8 _ _ ?_
 refine wpIn_seq_k fun K11 hK11 => ?_
 refine wpIn_seq_k fun K12 hK12 => ?_
 refine wpIn_region_lit ?_
 refine wc (wls hF hS 1 0 2 fun a hF => ?_)
 refine wp 1 [2, 3, 6, 10, 11] hF fun a hF => ?_
 refine bind_split H (fun x13 hx13 H => ?_)
 refine wc (wo_callP hF hS (by kernel_rfl) (by kernel_rfl) (C_span_Check N hS.fresh (T_api_Map.mk a1.Cuts a1.Nodes) a6 p2 c3 p4 c5 ((hS.pick [0, 1] (by kernel_rfl)).ro) hx13) ?_)
 rintro _ κ w a ⟨rfl, hR, hN⟩ hF hS hO
 refine wp 1 [2, 3, 6, 8] hF fun a hF => ?_
 refine wpListIn_nil ?_
 refine hK12 _ _ ?_
 refine wpIn_seq_k fun K14 hK14 => ?_
 refine wpIn_region_lit ?_
 refine wp 2 [2, 3, 6, 8, 14] hF fun a hF => ?_
 refine wpListIn_nil ?_
 refine hK14 _ _ ?_
 refine bif_split H (fun hb H => ?_) (fun hb H => ?_)
 refine cond_t hF (by kernel_rfl) hb ?_
 refine wpIn_seq_k fun K15 hK15 => ?_
 refine wpIn_region_lit ?_
 refine wp 2 [6, 15, 16] hF fun a hF => ?_
 refine wc (wst hF hS 0 0 2 [sl none 0 0, sl none 0 0] (sgN 2 sgNil) fun a w hF hS => ?_)
 refine wp 1 [6, 7] hF fun a hF => ?_
 refine wpListIn_nil ?_
 refine hK15 _ _ ?_
 refine wpIn_ret ?_
 have hS' := hS
 have hS := hS.add (m := Ro.mp fStr.ty none 0 ([] : List ByteArray)) (Ro.nil fStr.ty _ _)
 have hS := hS.add (m := Ro.mp (fInt .i64).ty none 0 ([] : List Int)) (Ro.nil (fInt .i64).ty _ _)
 have hS := hS.addNil 9 1
 have hS := hS.addNil 3 1
 cases H
 exact (ret_done hF hS (res2 Try.results29 (rvs hF hS' 0 0 2) (rvt hF)) ⟨none, 0, none, 0, rfl, (hS.pick [1, 0] (by kernel_rfl)).ro, hS.newC [1, 0] (by decide) (by kernel_rfl)⟩)
 refine cond_f hF (by kernel_rfl) hb ?_
 refine wpIn_skip ?_
 refine hK11 _ _ ?_
 refine wpIn_seq_k fun K16 hK16 => ?_
 refine wpIn_seq_k fun K17 hK17 => ?_
 refine wpIn_region_lit ?_
 refine bind_split H (fun v19 hv19 H => ?_)
 refine wl_join (fun a w => ∃ κ : Gh, Fr (70) [] [(2, vi a7), (3, pt b9 0), (6, pt b10 0), (25, vb v19)] a ∧ SS [] κ0 w0 κ w [.box b10 25 [sl none 0 0, sl none 0 0], .box b9 25 [sl p2 (a1.Cuts).length c3, sl p4 (a1.Nodes).length c5]] [Ro.mp fStr.ty none 0 ([] : List ByteArray), Ro.mp (fInt .i64).ty none 0 ([] : List Int), Ro.mp fStr.ty p2 c3 a1.Cuts, Ro.mp (fInt .i64).ty p4 c5 a1.Nodes] ∧ True) ?_ ?_
 refine wp 3 [2, 3, 6, 19] hF fun a hF => ?_
 refine bif_split hv19 (fun hb hv19 => ?_) (fun hb hv19 => ?_)
 have hF := hF.boolv 19 (by kernel_rfl) hb
 refine wp 6 [2, 3, 6, 25] hF fun a hF => ?_
 refine wpListIn_nil ?_
 cases hv19
 have hS := hS.add (m := Ro.mp fStr.ty none 0 ([] : List ByteArray)) (Ro.nil fStr.ty _ _)
 have hS := hS.add (m := Ro.mp (fInt .i64).ty none 0 ([] : List Int)) (Ro.nil (fInt .i64).ty _ _)
 exact ⟨_, hF.kp [2, 3, 6, 25], hS.sp [0, 1] [1, 0, 2, 3], trivial⟩
 have hF := hF.boolv 19 (by kernel_rfl) hb
 refine wp 2 [2, 3, 6, 19, 20, 21] hF fun a hF => ?_
 refine wcg hF (wld hF hS 1 0 0 fun a hF => ?_)
 refine wp 3 [2, 3, 6, 25] hF fun a hF => ?_
 refine wpListIn_nil ?_
 cases hv19
 have hS := hS.add (m := Ro.mp fStr.ty none 0 ([] : List ByteArray)) (Ro.nil fStr.ty _ _)
 have hS := hS.add (m := Ro.mp (fInt .i64).ty none 0 ([] : List Int)) (Ro.nil (fInt .i64).ty _ _)
 exact ⟨_, hF.kp [2, 3, 6, 25], hS.sp [0, 1] [1, 0, 2, 3], trivial⟩
 rintro a w ⟨κ, hF, hS, -⟩
 refine hK17 _ _ ?_
 refine bif_split H (fun hb H => ?_) (fun hb H => ?_)
 refine cond_t hF (by kernel_rfl) hb ?_
 refine wpIn_seq_k fun K20 hK20 => ?_
 refine wpIn_region_lit ?_
 refine wp 1 [6, 26] hF fun a hF => ?_
 refine wc (wst hF hS 0 0 2 [sl none 0 0, sl none 0 0] (sgN 2 sgNil) fun a w hF hS => ?_)
 refine wp 1 [6, 7] hF fun a hF => ?_
 refine wpListIn_nil ?_
 refine hK20 _ _ ?_
 refine wpIn_ret ?_
 have hS' := hS
 have hS := hS.addNil 9 1
 have hS := hS.addNil 3 1
 cases H
 exact (ret_done hF hS (res2 Try.results29 (rvs hF hS' 0 0 2) (rvt hF)) ⟨none, 0, none, 0, rfl, (hS.pick [0, 1] (by kernel_rfl)).ro, hS.newC [1, 0] (by decide) (by kernel_rfl)⟩)
 refine cond_f hF (by kernel_rfl) hb ?_
 refine wpIn_skip ?_
 refine hK16 _ _ ?_
 refine wpIn_seq_k fun K21 hK21 => ?_
 refine wpIn_seq_k fun K22 hK22 => ?_
 refine rgS hS [] ?_
 have hS := hS.drew
 refine any_pure [0, 2, 5, 7, 8] [2, 3, 6, 27, 29, 32, 35] (L' := [(2, vi a7), (3, pt b9 0), (6, pt b10 0), (27, pt b9 1), (29, vi a7), (32, pt b9 1), (35, vi (IntKind.i64.wrap (a7 + 1)))]) (listed' := (bitA 12 421)) (fuel := 7) hF (hS.sx [0, 1] (rg 4)) (by kernel_rfl) (by intro c a w t v h; cases t <;> exact h) (by kernel_rfl) rfl fun a hF => ?_
 refine atk 1 (some 28) hF (hS.sx [0, 1] (rg 4)) rfl (vld 1 1 0) fun a hF => ?_
 refine bind_split H (fun x23 hx23 H => ?_)
 obtain ⟨b24, f25, hpx23⟩ := hS.ptr 3 rfl hx23
 refine atk 3 (some 30) hF (hS.sx [0, 1] (rg 4)) rfl (fun w _ => val_index (E := 3) (sz := 1) rfl hpx23 rfl (by kernel_rfl) rfl hx23 (by kernel_rfl) (by kernel_rfl) w) fun a hF => ?_
 refine atk 4 (some 31) hF (hS.sx [0, 1] (rg 4)) rfl (val_loadRo (t := (fInt .i64)) 3 0 (v := vi x23) rfl rfl hpx23 rfl hx23 (by kernel_rfl) (by kernel_rfl) (by kernel_rfl)) fun a hF => ?_
 refine atk 6 (some 33) hF (hS.sx [0, 1] (rg 4)) rfl (vld 1 1 0) fun a hF => ?_
 refine bind_split H (fun x26 hx26 H => ?_)
 obtain ⟨b27, f28, hpx26⟩ := hS.ptr 3 rfl hx26
 refine atk 9 (some 36) hF (hS.sx [0, 1] (rg 4)) rfl (fun w _ => val_index (E := 3) (sz := 1) rfl hpx26 rfl (by kernel_rfl) rfl hx26 (by kernel_rfl) (by kernel_rfl) w) fun a hF => ?_
 refine atk 10 (some 37) hF (hS.sx [0, 1] (rg 4)) rfl (val_loadRo (t := (fInt .i64)) 3 0 (v := vi x26) rfl rfl hpx26 rfl hx26 (by kernel_rfl) (by kernel_rfl) (by kernel_rfl)) fun a hF => ?_
 refine anp [11] [2, 3, 6, 38] hF (hS.sx [0, 1] (rg 4)) fun a hF => ?_
 refine and_ ?_
 refine hK22 _ _ ?_
 refine bif_split H (fun hb H => ?_) (fun hb H => ?_)
 refine cond_t hF (by kernel_rfl) hb ?_
 refine wpIn_seq_k fun K29 hK29 => ?_
 refine wpIn_region_lit ?_
 refine wp 1 [6, 39] hF fun a hF => ?_
 refine wc (wst hF hS 0 0 2 [sl none 0 0, sl none 0 0] (sgN 2 sgNil) fun a w hF hS => ?_)
 refine wp 1 [6, 7] hF fun a hF => ?_
 refine wpListIn_nil ?_
 refine hK29 _ _ ?_
 refine wpIn_ret ?_
 have hS' := hS
 have hS := hS.addNil 9 1
 have hS := hS.addNil 3 1
 cases H
 exact (ret_done hF hS (res2 Try.results29 (rvs hF hS' 0 0 2) (rvt hF)) ⟨none, 0, none, 0, rfl, (hS.pick [0, 1] (by kernel_rfl)).ro, hS.newC [1, 0] (by decide) (by kernel_rfl)⟩)
 refine cond_f hF (by kernel_rfl) hb ?_
 refine wpIn_skip ?_
 refine hK21 _ _ ?_
 refine wpIn_seq_k fun K30 hK30 => ?_
 refine wpIn_region_lit ?_
 refine wp 1 [2, 3, 6, 40] hF fun a hF => ?_
 refine wc (wal hF hS [sl none 0 0, sl none 0 0] (sgN 2 sgNil) fun b31 a w hF hS => ?_)
 refine wc (wst hF hS 0 0 2 [sl none 0 0, sl none 0 0] (sgN 2 sgNil) fun a w hF hS => ?_)
 refine wpListIn_nil ?_
 refine hK30 _ _ ?_
 refine wpIn_seq_k fun K32 hK32 => ?_
 refine rgS hS [14] ?_
 have hS := hS.drew
 refine bind_split H (fun x33 hx33 H => ?_)
 refine bind_split H (fun x36 hx36 H => ?_)
 refine bind_split H (fun x39 hx39 H => ?_)
 refine bind_split H (fun x42 hx42 H => ?_)
 refine any_pure [0, 2, 4, 7, 9, 10] [2, 3, 6, 9, 41, 43, 45, 48, 51] (L' := [(2, vi a7), (3, pt b9 0), (6, pt b10 0), (9, pt b31 0), (41, pt b31 0), (43, pt b9 0), (45, vi a7), (48, pt b9 0), (51, vi (IntKind.i64.wrap (a7 + 1)))]) (listed' := (bitA 15 1685)) (fuel := 9) hF (hS.sx [0, 1, 2] (rg 4)) (by kernel_rfl) (by intro c a w t v h; cases t <;> exact h) (by kernel_rfl) rfl fun a hF => ?_
 refine atk 1 (some 42) hF (hS.sx [0, 1, 2] (rg 4)) rfl (vld 0 0 0) fun a hF => ?_
 refine atk 3 (some 44) hF (hS.sx [0, 1, 2] (rg 4)) rfl (vld 2 0 0) fun a hF => ?_
 obtain ⟨p34, c35, hvx33, hrx33⟩ := slice_val Try.prog fStr.ty (L := [(2, vi a7), (3, pt b9 0), (6, pt b10 0), (9, pt b31 0), (41, pt b31 0), (42, .slice none 0 0), (43, pt b9 0), (44, .slice p2 (a1.Cuts).length c3), (45, vi a7), (48, pt b9 0), (51, vi (IntKind.i64.wrap (a7 + 1)))]) (o := ⟨(some 46), (Go.Op.slice 22 (Go.Operand.tmp 44) none (some (Go.Operand.tmp 45)) none), 22, "span.go:137", #[(Go.Edge.mk 3 Go.Ground.data), (Go.Edge.mk 4 Go.Ground.data)], none⟩) (E := 9) (lo := 0) (hi := a7) rfl (hS.get 2 rfl : Ro fStr.ty _ _ p2 c3 a1.Cuts).1 rfl rfl rfl ⟨_, rfl⟩ hx33 (by kernel_rfl) (by kernel_rfl)
 have hS := hS.add (m := Ro.mp fStr.ty p34 c35 x33) (hrx33 _ _ (hS.get 2 rfl))
 refine atk 5 (some 46) hF (hS.sx [0, 1, 2] [1, 2, 3, 4]) rfl (fun w _ => hvx33 w) fun a hF => ?_
 refine atk 8 (some 49) hF (hS.sx [0, 1, 2] [1, 2, 3, 4]) rfl (vld 2 0 0) fun a hF => ?_
 obtain ⟨p40, c41, hvx39, hrx39⟩ := slice_val Try.prog fStr.ty (L := [(2, vi a7), (3, pt b9 0), (6, pt b10 0), (9, pt b31 0), (41, pt b31 0), (42, .slice none 0 0), (43, pt b9 0), (44, .slice p2 (a1.Cuts).length c3), (45, vi a7), (46, .slice p34 (x33).length c35), (48, pt b9 0), (49, .slice p2 (a1.Cuts).length c3), (51, vi (IntKind.i64.wrap (a7 + 1)))]) (o := ⟨(some 52), (Go.Op.slice 22 (Go.Operand.tmp 49) (some (Go.Operand.tmp 51)) none none), 22, "span.go:137", #[(Go.Edge.mk 8 Go.Ground.data), (Go.Edge.mk 10 Go.Ground.data)], none⟩) (E := 9) (lo := IntKind.i64.wrap (a7 + 1)) (hi := ((a1.Cuts).length : Int)) rfl (hS.get 3 rfl : Ro fStr.ty _ _ p2 c3 a1.Cuts).1 rfl rfl ⟨_, rfl⟩ rfl hx39 (by kernel_rfl) (by kernel_rfl)
 have hS := hS.add (m := Ro.mp fStr.ty p40 c41 x39) (hrx39 _ _ (hS.get 3 rfl))
 refine atk 11 (some 52) hF (hS.sx [0, 1, 2] [2, 3, 4, 5]) rfl (fun w _ => hvx39 w) fun a hF => ?_
 refine ago 6 hF rfl ?_
 have hS := hS.addNil 9 1
 refine wo_append (ty := fStr.ty) hF hS (by kernel_rfl) 0 2 1 rfl rfl rfl (by kernel_rfl) (by kernel_rfl) rfl rfl rfl hx36 (by kernel_rfl) (i := Try.t9) (z := .string (ByteArray.empty)) (by kernel_rfl) (by kernel_rfl) (by kernel_rfl) fun p37 c38 κ a w hF hS => ?_
 refine ⟨fun _ => (hS.sx [1, 2, 3] [3, 4, 5, 6]), ?_⟩
 refine ago 12 hF rfl ?_
 refine wo_append (ty := fStr.ty) hF hS (by kernel_rfl) 0 0 1 rfl rfl rfl (by kernel_rfl) (by kernel_rfl) rfl rfl rfl hx42 (by kernel_rfl) (i := Try.t9) (z := .string (ByteArray.empty)) (by kernel_rfl) (by kernel_rfl) (by kernel_rfl) fun p43 c44 κ a w hF hS => ?_
 refine ⟨fun _ => (hS.sx [1, 2, 3] [4, 5, 6, 7]), ?_⟩
 refine anp [13] [2, 3, 6, 9, 53, 54] hF (hS.sx [1, 2, 3] [4, 5, 6, 7]) fun a hF => ?_
 refine ago 14 hF rfl ?_
 refine wst hF hS 1 0 1 [sl p43 (x42).length c44] (sgN 1 sgNil) fun a w hF hS => ?_
 refine ⟨notE, ?_⟩
 refine and_ ?_
 refine hK32 _ _ ?_
 refine wpIn_seq_k fun K45 hK45 => ?_
 refine rgS hS [14] ?_
 have hS := hS.drew
 refine bind_split H (fun x46 hx46 H => ?_)
 refine bind_split H (fun x49 hx49 H => ?_)
 refine bind_split H (fun x52 hx52 H => ?_)
 refine bind_split H (fun x55 hx55 H => ?_)
 refine any_pure [0, 2, 4, 7, 9, 10] [6, 9, 55, 57, 59, 62, 65] (L' := [(6, pt b10 0), (9, pt b31 0), (55, pt b31 1), (57, pt b9 1), (59, vi a7), (62, pt b9 1), (65, vi (IntKind.i64.wrap (a7 + 1)))]) (listed' := (bitA 15 1685)) (fuel := 9) hF (hS.sx [1, 2, 3] (rg 8)) (by kernel_rfl) (by intro c a w t v h; cases t <;> exact h) (by kernel_rfl) rfl fun a hF => ?_
 refine atk 1 (some 56) hF (hS.sx [1, 2, 3] (rg 8)) rfl (vld 0 1 0) fun a hF => ?_
 refine atk 3 (some 58) hF (hS.sx [1, 2, 3] (rg 8)) rfl (vld 2 1 0) fun a hF => ?_
 obtain ⟨p47, c48, hvx46, hrx46⟩ := slice_val Try.prog (fInt .i64).ty (L := [(6, pt b10 0), (9, pt b31 0), (55, pt b31 1), (56, .slice none 0 0), (57, pt b9 1), (58, .slice p4 (a1.Nodes).length c5), (59, vi a7), (62, pt b9 1), (65, vi (IntKind.i64.wrap (a7 + 1)))]) (o := ⟨(some 60), (Go.Op.slice 23 (Go.Operand.tmp 58) none (some (Go.Operand.tmp 59)) none), 23, "span.go:138", #[(Go.Edge.mk 3 Go.Ground.data), (Go.Edge.mk 4 Go.Ground.data)], none⟩) (E := 3) (lo := 0) (hi := a7) rfl (hS.get 7 rfl : Ro (fInt .i64).ty _ _ p4 c5 a1.Nodes).1 rfl rfl rfl ⟨_, rfl⟩ hx46 (by kernel_rfl) (by kernel_rfl)
 have hS := hS.add (m := Ro.mp (fInt .i64).ty p47 c48 x46) (hrx46 _ _ (hS.get 7 rfl))
 refine atk 5 (some 60) hF (hS.sx [1, 2, 3] [1, 2, 3, 4, 5, 6, 7, 8]) rfl (fun w _ => hvx46 w) fun a hF => ?_
 refine atk 8 (some 63) hF (hS.sx [1, 2, 3] [1, 2, 3, 4, 5, 6, 7, 8]) rfl (vld 2 1 0) fun a hF => ?_
 obtain ⟨p53, c54, hvx52, hrx52⟩ := slice_val Try.prog (fInt .i64).ty (L := [(6, pt b10 0), (9, pt b31 0), (55, pt b31 1), (56, .slice none 0 0), (57, pt b9 1), (58, .slice p4 (a1.Nodes).length c5), (59, vi a7), (60, .slice p47 (x46).length c48), (62, pt b9 1), (63, .slice p4 (a1.Nodes).length c5), (65, vi (IntKind.i64.wrap (a7 + 1)))]) (o := ⟨(some 66), (Go.Op.slice 23 (Go.Operand.tmp 63) (some (Go.Operand.tmp 65)) none none), 23, "span.go:138", #[(Go.Edge.mk 8 Go.Ground.data), (Go.Edge.mk 10 Go.Ground.data)], none⟩) (E := 3) (lo := IntKind.i64.wrap (a7 + 1)) (hi := ((a1.Nodes).length : Int)) rfl (hS.get 8 rfl : Ro (fInt .i64).ty _ _ p4 c5 a1.Nodes).1 rfl rfl ⟨_, rfl⟩ rfl hx52 (by kernel_rfl) (by kernel_rfl)
 have hS := hS.add (m := Ro.mp (fInt .i64).ty p53 c54 x52) (hrx52 _ _ (hS.get 8 rfl))
 refine atk 11 (some 66) hF (hS.sx [1, 2, 3] [2, 3, 4, 5, 6, 7, 8, 9]) rfl (fun w _ => hvx52 w) fun a hF => ?_
 refine ago 6 hF rfl ?_
 have hS := hS.addNil 3 1
 refine wo_append (ty := (fInt .i64).ty) hF hS (by kernel_rfl) 0 7 1 rfl rfl rfl (by kernel_rfl) (by kernel_rfl) rfl rfl rfl hx49 (by kernel_rfl) (i := Try.t3) (z := vi 0) (by kernel_rfl) (by kernel_rfl) (by kernel_rfl) fun p50 c51 κ a w hF hS => ?_
 refine ⟨fun _ => (hS.sx [2, 3, 4] [3, 4, 5, 6, 7, 8, 9, 10]), ?_⟩
 refine ago 12 hF rfl ?_
 refine wo_append (ty := (fInt .i64).ty) hF hS (by kernel_rfl) 0 0 1 rfl rfl rfl (by kernel_rfl) (by kernel_rfl) rfl rfl rfl hx55 (by kernel_rfl) (i := Try.t3) (z := vi 0) (by kernel_rfl) (by kernel_rfl) (by kernel_rfl) fun p56 c57 κ a w hF hS => ?_
 refine ⟨fun _ => (hS.sx [2, 3, 4] [4, 5, 6, 7, 8, 9, 10, 11]), ?_⟩
 refine anp [13] [6, 9, 67, 68] hF (hS.sx [2, 3, 4] [4, 5, 6, 7, 8, 9, 10, 11]) fun a hF => ?_
 refine ago 14 hF rfl ?_
 refine wst hF hS 2 1 1 [sl p56 (x55).length c57] (sgN 1 sgNil) fun a w hF hS => ?_
 refine ⟨notE, ?_⟩
 refine and_ ?_
 refine hK45 _ _ ?_
 refine wpIn_seq_k fun K58 hK58 => ?_
 refine wpIn_region_lit ?_
 refine wc (wls hF hS 2 0 2 fun a hF => ?_)
 refine wc (wst hF hS 3 0 2 [sl p43 (x42).length c44, sl p56 (x55).length c57] (sgN 2 sgNil) fun a w hF hS => ?_)
 refine wp 1 [6, 7] hF fun a hF => ?_
 refine wpListIn_nil ?_
 refine hK58 _ _ ?_
 refine wpIn_ret ?_
 have hS' := hS
 cases H
 exact (ret_done hF hS (res2 Try.results29 (rvs hF hS' 3 0 2) (rvt hF)) ⟨p43, c44, p56, c57, rfl, (hS.pick [4, 0] (by kernel_rfl)).ro, hS.newC [1, 0] (by decide) (by kernel_rfl)⟩)
set_option maxRecDepth 20000 in
set_option maxHeartbeats 8000000 in
theorem C_span_Move (N : Nat) {κ0 : Gh} {w0 : World} (hfr : Fresh κ0 w0) (a1 : T_api_Map) (a6 : Int) (a7 : Int) (a8 : Int) (p2 : Option Addr) (c3 : Nat) (p4 : Option Addr) (c5 : Nat) (hR : ∀ m ∈ ([Ro.mp fStr.ty p2 c3 a1.Cuts, Ro.mp (fInt .i64).ty p4 c5 a1.Nodes] : List MP), m.p κ0 w0) {r : (T_api_Map × Int)} (H : M.span_Move N a1 a6 a7 a8 = some r) :
    Calls Try.prog 31 #[.agg (flat [sl p2 (a1.Cuts).length c3, sl p4 (a1.Nodes).length c5]).toArray, vi a6, vi a7, vi a8] w0 (Post [] κ0 w0 fun v κ w => ∃ (p46 : Option Addr) (c47 : Nat) (p48 : Option Addr) (c49 : Nat), v = .tuple #[.agg (flat [sl p46 (r.1.Cuts).length c47, sl p48 (r.1.Nodes).length c49]).toArray, vi r.2] ∧ (∀ m ∈ ([Ro.mp fStr.ty p46 c47 r.1.Cuts, Ro.mp (fInt .i64).ty p48 c49 r.1.Nodes] : List MP), m.p κ w) ∧ NewC w0 κ w [.tok p46 9 1 (r.1.Cuts).length c47, .tok p48 3 1 (r.1.Nodes).length c49]) := by
 have hS := SS.start hfr hR
 refine enter (N := (53)) (L := [(0, .agg (flat [sl p2 (a1.Cuts).length c3, sl p4 (a1.Nodes).length c5]).toArray), (1, vi a6), (2, vi a7), (3, vi a8)]) Try.func31 rfl Try.ntmps31 (show 4 ≤ (53) by decide) rfl fun a hF => ?_
 unfold M.span_Move at H
 refine wpIn_seq_k fun K9 hK9 => ?_
 refine wpIn_region_lit ?_
 refine wc (wbx hF hS [sl p2 (a1.Cuts).length c3, sl p4 (a1.Nodes).length c5] (sgN 2 sgNil) fun b10 a w hF hS => ?_)
 refine wc (wal hF hS [sl none 0 0, sl none 0 0] (sgN 2 sgNil) fun b11 a w hF hS => ?_)
 refine wp 1 [1, 2, 3, 4, 8] hF fun a hF => ?_
 refine wpListIn_nil ?_
 refine hK9 _ _ ?_
 refine wpIn_seq_k fun K12 hK12 => ?_
 refine wpIn_seq_k fun K13 hK13 => ?_
 refine wpIn_region_lit ?_
 refine wc (wls hF hS 1 0 2 fun a hF => ?_)
 refine wp 1 [1, 2, 3, 4, 8, 12, 13] hF fun a hF => ?_
 refine bind_split H (fun x14 hx14 H => ?_)
 refine wc (wo_callP hF hS (by kernel_rfl) (by kernel_rfl) (C_span_Check N hS.fresh (T_api_Map.mk a1.Cuts a1.Nodes) a6 p2 c3 p4 c5 ((hS.pick [0, 1] (by kernel_rfl)).ro) hx14) ?_)
 rintro _ κ w a ⟨rfl, hR, hN⟩ hF hS hO
 refine wp 1 [1, 2, 3, 4, 8, 10] hF fun a hF => ?_
 refine wpListIn_nil ?_
 refine hK13 _ _ ?_
 refine wpIn_seq_k fun K15 hK15 => ?_
 refine wpIn_region_lit ?_
 refine wp 2 [1, 2, 3, 4, 8, 10, 16] hF fun a hF => ?_
 refine wpListIn_nil ?_
 refine hK15 _ _ ?_
 refine bif_split H (fun hb H => ?_) (fun hb H => ?_)
 refine cond_t hF (by kernel_rfl) hb ?_
 refine wpIn_seq_k fun K16 hK16 => ?_
 refine wpIn_region_lit ?_
 refine wp 2 [8, 17, 18] hF fun a hF => ?_
 refine wc (wst hF hS 0 0 2 [sl none 0 0, sl none 0 0] (sgN 2 sgNil) fun a w hF hS => ?_)
 refine wp 1 [8, 9] hF fun a hF => ?_
 refine wpListIn_nil ?_
 refine hK16 _ _ ?_
 refine wpIn_ret ?_
 have hS' := hS
 have hS := hS.add (m := Ro.mp fStr.ty none 0 ([] : List ByteArray)) (Ro.nil fStr.ty _ _)
 have hS := hS.add (m := Ro.mp (fInt .i64).ty none 0 ([] : List Int)) (Ro.nil (fInt .i64).ty _ _)
 have hS := hS.addNil 9 1
 have hS := hS.addNil 3 1
 cases H
 exact (ret_done hF hS (res2 Try.results31 (rvs hF hS' 0 0 2) (rvt hF)) ⟨none, 0, none, 0, rfl, (hS.pick [1, 0] (by kernel_rfl)).ro, hS.newC [1, 0] (by decide) (by kernel_rfl)⟩)
 refine cond_f hF (by kernel_rfl) hb ?_
 refine wpIn_skip ?_
 refine hK12 _ _ ?_
 refine wpIn_seq_k fun K17 hK17 => ?_
 refine wpIn_seq_k fun K18 hK18 => ?_
 refine wpIn_region_lit ?_
 refine bind_split H (fun v20 hv20 H => ?_)
 refine wl_join (fun a w => ∃ κ : Gh, Fr (53) [] [(1, vi a6), (2, vi a7), (3, vi a8), (4, pt b10 0), (8, pt b11 0), (27, vb v20)] a ∧ SS [] κ0 w0 κ w [.box b11 25 [sl none 0 0, sl none 0 0], .box b10 25 [sl p2 (a1.Cuts).length c3, sl p4 (a1.Nodes).length c5]] [Ro.mp fStr.ty none 0 ([] : List ByteArray), Ro.mp (fInt .i64).ty none 0 ([] : List Int), Ro.mp fStr.ty p2 c3 a1.Cuts, Ro.mp (fInt .i64).ty p4 c5 a1.Nodes] ∧ True) ?_ ?_
 refine wp 3 [1, 2, 3, 4, 8, 21] hF fun a hF => ?_
 refine bif_split hv20 (fun hb hv20 => ?_) (fun hb hv20 => ?_)
 have hF := hF.boolv 21 (by kernel_rfl) hb
 refine wp 6 [1, 2, 3, 4, 8, 27] hF fun a hF => ?_
 refine wpListIn_nil ?_
 cases hv20
 have hS := hS.add (m := Ro.mp fStr.ty none 0 ([] : List ByteArray)) (Ro.nil fStr.ty _ _)
 have hS := hS.add (m := Ro.mp (fInt .i64).ty none 0 ([] : List Int)) (Ro.nil (fInt .i64).ty _ _)
 exact ⟨_, hF.kp [1, 2, 3, 4, 8, 27], hS.sp [0, 1] [1, 0, 2, 3], trivial⟩
 have hF := hF.boolv 21 (by kernel_rfl) hb
 refine wp 2 [1, 2, 3, 4, 8, 21, 22, 23] hF fun a hF => ?_
 refine wcg hF (wld hF hS 1 1 0 fun a hF => ?_)
 refine wp 3 [1, 2, 3, 4, 8, 27] hF fun a hF => ?_
 refine wpListIn_nil ?_
 cases hv20
 have hS := hS.add (m := Ro.mp fStr.ty none 0 ([] : List ByteArray)) (Ro.nil fStr.ty _ _)
 have hS := hS.add (m := Ro.mp (fInt .i64).ty none 0 ([] : List Int)) (Ro.nil (fInt .i64).ty _ _)
 exact ⟨_, hF.kp [1, 2, 3, 4, 8, 27], hS.sp [0, 1] [1, 0, 2, 3], trivial⟩
 rintro a w ⟨κ, hF, hS, -⟩
 refine hK18 _ _ ?_
 refine bif_split H (fun hb H => ?_) (fun hb H => ?_)
 refine cond_t hF (by kernel_rfl) hb ?_
 refine wpIn_seq_k fun K21 hK21 => ?_
 refine wpIn_region_lit ?_
 refine wp 1 [8, 28] hF fun a hF => ?_
 refine wc (wst hF hS 0 0 2 [sl none 0 0, sl none 0 0] (sgN 2 sgNil) fun a w hF hS => ?_)
 refine wp 1 [8, 9] hF fun a hF => ?_
 refine wpListIn_nil ?_
 refine hK21 _ _ ?_
 refine wpIn_ret ?_
 have hS' := hS
 have hS := hS.addNil 9 1
 have hS := hS.addNil 3 1
 cases H
 exact (ret_done hF hS (res2 Try.results31 (rvs hF hS' 0 0 2) (rvt hF)) ⟨none, 0, none, 0, rfl, (hS.pick [0, 1] (by kernel_rfl)).ro, hS.newC [1, 0] (by decide) (by kernel_rfl)⟩)
 refine cond_f hF (by kernel_rfl) hb ?_
 refine wpIn_skip ?_
 refine hK17 _ _ ?_
 refine wpIn_seq_k fun K22 hK22 => ?_
 refine wpIn_seq_k fun K23 hK23 => ?_
 refine wpIn_region_lit ?_
 refine bind_split H (fun v25 hv25 H => ?_)
 refine wl_join (fun a w => ∃ κ : Gh, Fr (53) [] [(2, vi a7), (3, vi a8), (4, pt b10 0), (8, pt b11 0), (35, vb v25)] a ∧ SS [] κ0 w0 κ w [.box b11 25 [sl none 0 0, sl none 0 0], .box b10 25 [sl p2 (a1.Cuts).length c3, sl p4 (a1.Nodes).length c5]] [Ro.mp fStr.ty none 0 ([] : List ByteArray), Ro.mp (fInt .i64).ty none 0 ([] : List Int), Ro.mp fStr.ty p2 c3 a1.Cuts, Ro.mp (fInt .i64).ty p4 c5 a1.Nodes] ∧ True) ?_ ?_
 refine wp 3 [1, 2, 3, 4, 8, 31] hF fun a hF => ?_
 refine bif_split hv25 (fun hb hv25 => ?_) (fun hb hv25 => ?_)
 have hF := hF.boolv 31 (by kernel_rfl) hb
 refine wp 4 [2, 3, 4, 8, 35] hF fun a hF => ?_
 refine wpListIn_nil ?_
 cases hv25
 exact ⟨_, hF.kp [2, 3, 4, 8, 35], hS.sp [0, 1] (rg 4), trivial⟩
 have hF := hF.boolv 31 (by kernel_rfl) hb
 refine wp 4 [2, 3, 4, 8, 35] hF fun a hF => ?_
 refine wpListIn_nil ?_
 cases hv25
 exact ⟨_, hF.kp [2, 3, 4, 8, 35], hS.sp [0, 1] (rg 4), trivial⟩
 rintro a w ⟨κ, hF, hS, -⟩
 refine hK23 _ _ ?_
 refine bif_split H (fun hb H => ?_) (fun hb H => ?_)
 refine cond_t hF (by kernel_rfl) hb ?_
 refine wpIn_seq_k fun K26 hK26 => ?_
 refine wpIn_region_lit ?_
 refine wp 1 [8, 36] hF fun a hF => ?_
 refine wc (wst hF hS 0 0 2 [sl none 0 0, sl none 0 0] (sgN 2 sgNil) fun a w hF hS => ?_)
 refine wp 1 [8, 9] hF fun a hF => ?_
 refine wpListIn_nil ?_
 refine hK26 _ _ ?_
 refine wpIn_ret ?_
 have hS' := hS
 have hS := hS.addNil 9 1
 have hS := hS.addNil 3 1
 cases H
 exact (ret_done hF hS (res2 Try.results31 (rvs hF hS' 0 0 2) (rvt hF)) ⟨none, 0, none, 0, rfl, (hS.pick [0, 1] (by kernel_rfl)).ro, hS.newC [1, 0] (by decide) (by kernel_rfl)⟩)
 refine cond_f hF (by kernel_rfl) hb ?_
 refine wpIn_skip ?_
 refine hK22 _ _ ?_
 refine wpIn_seq_k fun K27 hK27 => ?_
 refine wpIn_seq_k fun K28 hK28 => ?_
 refine wpIn_region_lit ?_
 refine wp 1 [2, 3, 4, 8, 37] hF fun a hF => ?_
 refine wc (wld hF hS 1 1 0 fun a hF => ?_)
 refine wl_pure (L' := [(2, vi a7), (3, vi a8), (4, pt b10 0), (8, pt b11 0), (38, .slice p4 (a1.Nodes).length c5), (39, vi a7)]) 1 [2, 3, 4, 8, 38, 39] hF (by kernel_rfl) fun a hF => ?_
 refine bind_split H (fun x29 hx29 H => ?_)
 refine wc (wo_index hF hS (by kernel_rfl) 3 (E := 3) (sz := 1) rfl rfl rfl (by kernel_rfl) rfl hx29 (by kernel_rfl) (by kernel_rfl) fun b30 f31 a hpx29 hF => ?_)
 refine wc (wo_loadRo (t := (fInt .i64)) hF hS (by kernel_rfl) 3 0 (v := vi x29) rfl rfl hpx29 rfl hx29 (by kernel_rfl) (by kernel_rfl) (by kernel_rfl) fun a hF => ?_)
 refine wl_pure (L' := [(2, vi a7), (3, vi a8), (4, pt b10 0), (8, pt b11 0), (43, vb (x29 == a8))]) 2 [2, 3, 4, 8, 43] hF (by kernel_rfl) fun a hF => ?_
 refine wpListIn_nil ?_
 refine hK28 _ _ ?_
 refine bif_split H (fun hb H => ?_) (fun hb H => ?_)
 refine cond_t hF (by kernel_rfl) hb ?_
 refine wpIn_seq_k fun K32 hK32 => ?_
 refine wpIn_region_lit ?_
 refine wp 1 [8, 44] hF fun a hF => ?_
 refine wc (wst hF hS 0 0 2 [sl none 0 0, sl none 0 0] (sgN 2 sgNil) fun a w hF hS => ?_)
 refine wp 1 [8, 9] hF fun a hF => ?_
 refine wpListIn_nil ?_
 refine hK32 _ _ ?_
 refine wpIn_ret ?_
 have hS' := hS
 have hS := hS.addNil 9 1
 have hS := hS.addNil 3 1
 cases H
 exact (ret_done hF hS (res2 Try.results31 (rvs hF hS' 0 0 2) (rvt hF)) ⟨none, 0, none, 0, rfl, (hS.pick [0, 1] (by kernel_rfl)).ro, hS.newC [1, 0] (by decide) (by kernel_rfl)⟩)
 refine cond_f hF (by kernel_rfl) hb ?_
 refine wpIn_skip ?_
 refine hK27 _ _ ?_
 refine wpIn_seq_k fun K33 hK33 => ?_
 refine wpIn_region_lit ?_
 refine wc (wls hF hS 1 0 2 fun a hF => ?_)
 refine snap hS fun κ39 w39 hR39 hf39 hw39 he39 hS => ?_
 have hsi := hS.get 0 rfl
 refine bind_split H (fun x34 hx34 H => ?_)
 refine wc (wo_callP hF hS (by kernel_rfl) (by kernel_rfl) (C_span_Copy N hS.fresh (T_api_Map.mk a1.Cuts a1.Nodes) p2 c3 p4 c5 ((hS.pick [3, 4] (by kernel_rfl)).ro) hx34) ?_)
 rintro _ κ w a ⟨p35, c36, p37, c38, rfl, hR, hN⟩ hF hS hO
 have hS := hS.adds hR
 have hS := hS.add (m := MP.old p35 w39) (MP.oldC hsi hN (List.mem_of_getElem? (i := 0) rfl))
 have hS := hS.add (m := MP.old p37 w39) (MP.oldC hsi hN (List.mem_of_getElem? (i := 1) rfl))
 have hS := hS.addC hO hN
 refine wc (wal hF hS [sl none 0 0, sl none 0 0] (sgN 2 sgNil) fun b40 a w hF hS => ?_)
 refine wc (wst hF hS 0 0 2 [sl p35 (x34.Cuts).length c36, sl p37 (x34.Nodes).length c38] (sgN 2 sgNil) fun a w hF hS => ?_)
 refine wpListIn_nil ?_
 refine hK33 _ _ ?_
 refine wpIn_seq_k fun K41 hK41 => ?_
 refine wpIn_region_lit ?_
 refine wp 1 [2, 3, 8, 11, 47] hF fun a hF => ?_
 refine wc (wld hF hS 0 1 0 fun a hF => ?_)
 refine wl_pure (L' := [(8, pt b11 0), (11, pt b40 0), (48, .slice p37 (x34.Nodes).length c38), (49, vi a7), (50, vi a8)]) 2 [8, 11, 48, 49, 50] hF (by kernel_rfl) fun a hF => ?_
 refine bind_split H (fun x42 hx42 H => ?_)
 refine wc (wo_index hF hS (by kernel_rfl) 3 (E := 3) (sz := 1) rfl rfl rfl (by kernel_rfl) rfl hx42 (by kernel_rfl) (by kernel_rfl) fun b43 f44 a hpx42 hF => ?_)
 refine wc (wo_storeTokS (t := (fInt .i64)) (y := x42) (z := a8) (v := vi a8) (vs := (flat [si a8])) (sz := 1) hF hS hfr hf39 hw39 hR39 (by kernel_rfl) 2 3 4 0 0 rfl rfl (by kernel_rfl) rfl rfl rfl hpx42 hx42 rfl (by kernel_rfl) (by kernel_rfl) rfl (show segGood [si a8] from (sgN 1 sgNil)).2 rfl (by decide) rfl rfl (nfC nfB (nfC nfT (nfC nfT (nfC nfB (nfC nfB nfN))))) (rg 4) [0, 1, 2] (Ra := [Ro.mp fStr.ty none 0 ([] : List ByteArray), Ro.mp (fInt .i64).ty none 0 ([] : List Int), Ro.mp fStr.ty p2 c3 a1.Cuts, Ro.mp (fInt .i64).ty p4 c5 a1.Nodes]) (Rb := [MP.old p37 w39, MP.old p35 w39, Ro.mp fStr.ty p35 c36 x34.Cuts]) rfl rfl (aK (aK (aC (apart_ro (hS.tokApart 2 1 hpx42 rfl rfl (by decide))) aN))) (Cf := (fun nn => [.box b40 25 [sl p35 (x34.Cuts).length c36, sl p37 nn c38], .tok p35 9 1 (x34.Cuts).length c36, .tok p37 3 1 nn c38, .box b11 25 [sl none 0 0, sl none 0 0], .box b10 25 [sl p2 (a1.Cuts).length c3, sl p4 (a1.Nodes).length c5]])) (Lf := (fun nn => [(8, pt b11 0), (11, pt b40 0), (48, .slice p37 nn c38), (49, vi a7), (50, vi a8), (51, .pointer (some ⟨b43, (f44 + Int.toNat a7 * 1), none⟩))])) [8, 11, 48, 49, 50, 51] rfl (by kernel_rfl) fun a w hF hS => ?_)
 refine wpListIn_nil ?_
 refine hK41 _ _ ?_
 refine wpIn_seq_k fun K45 hK45 => ?_
 refine wpIn_region_lit ?_
 refine wc (wls hF hS 0 0 2 fun a hF => ?_)
 refine wc (wst hF hS 3 0 2 [sl p35 (x34.Cuts).length c36, sl p37 ((List.set x34.Nodes (Int.toNat a7) a8)).length c38] (sgN 2 sgNil) fun a w hF hS => ?_)
 refine wp 1 [8, 9] hF fun a hF => ?_
 refine wpListIn_nil ?_
 refine hK45 _ _ ?_
 refine wpIn_ret ?_
 have hS' := hS
 cases H
 exact (ret_done hF hS (res2 Try.results31 (rvs hF hS' 3 0 2) (rvt hF)) ⟨p35, c36, p37, c38, rfl, (hS.pick [8, 0] (by kernel_rfl)).ro, hS.newC [1, 2] (by decide) (by kernel_rfl)⟩)
end Go.Cf
