/- The walks: each function returns what its model says. Printed by a program of ours. -/
import Derived.Test.YteeafoagaaedcaaZMt4
import Derived.Test.YteeafoagaaedcaaZWt1
import Derived.Test.YteeafoagaaedcaaZWt2
namespace Go.Cf
open Go Go.Proofs
set_option linter.unusedVariables false
set_option maxRecDepth 20000 in
set_option maxHeartbeats 8000000 in
theorem C_law10_awake (N : Nat) {κ0 : Gh} {w0 : World} (hfr : Fresh κ0 w0)   (hR : ∀ m ∈ ([] : List MP), m.p κ0 w0) {r : (Bool)} (H : M.law10_awake N  = some r) :
    Calls Try.prog 45 #[] w0 (Post [] κ0 w0 fun v κ w => v = vb r ∧ (∀ m ∈ ([] : List MP), m.p κ w) ∧ NewC w0 κ w []) := by
 have hS := SS.start hfr hR
 refine enter (N := (30)) (L := []) Try.func45 rfl Try.ntmps45 (show 0 ≤ (30) by decide) rfl fun a hF => ?_
 unfold M.law10_awake at H
 refine wpIn_seq_k fun K1 hK1 => ?_
 refine wpIn_region_lit ?_
 refine wp 1 [] hF fun a hF => ?_
 refine wpListIn_nil ?_
 refine hK1 _ _ ?_
 refine wpIn_seq_k fun K2 hK2 => ?_
 refine wpIn_region_lit ?_
 refine bind_split H (fun x3 hx3 H => ?_)
 refine wc (wcS 0 [] hF hS (fun hS => C_store_New N    ⟨rfl, hS.pick [] (by kernel_rfl)⟩ hx3) ?_)
 rintro _ κ w a ⟨b4, p5, m6, c7, rfl, h2⟩ hF hB
 have hS := hB _ _ h2
 refine wp 1 [1] hF fun a hF => ?_
 refine wpListIn_nil ?_
 refine hK2 _ _ ?_
 refine wpIn_seq_k fun K8 hK8 => ?_
 refine wpIn_seq_k fun K9 hK9 => ?_
 refine wpIn_region_lit ?_
 refine wp 5 [1, 8, 9, 10] hF fun a hF => ?_
 refine bind_split H (fun x10 hx10 H => ?_)
 refine wcg hF (wcS 2 [0, 1] hF hS (fun hS => C_store_Store_Put N (T_store_Store.mk x3.chains x3.floor) (T_api_Ver.mk (ByteArray.mk #[97]) ByteArray.empty false 3 0 0) p5 m6 c7 b4 ⟨rfl, hS.pick [0] (by kernel_rfl)⟩ hx10) ?_)
 rintro _ κ w a ⟨p11, m12, c13, rfl, h2⟩ hF hB
 have hS := (hB _ _ h2).cC (C' := [.box b4 130 [(1, [.map p11]), su x10.2.floor], .ext (objX p11 (.map m12 c13))])
 refine wp 2 [1, 13] hF fun a hF => ?_
 refine wpListIn_nil ?_
 refine hK9 _ _ ?_
 refine bif_split H (fun hb H => ?_) (fun hb H => ?_)
 refine cond_t hF (by kernel_rfl) hb ?_
 refine wpIn_seq_k fun K14 hK14 => ?_
 refine wpIn_region_lit ?_
 refine wp 1 [0] hF fun a hF => ?_
 refine wpListIn_nil ?_
 refine hK14 _ _ ?_
 refine wpIn_ret ?_
 cases H
 exact (ret_done hF hS (res1 Try.results45 (rvt hF)) ⟨rfl, (hS.pick [] (by kernel_rfl)).ro, hS.newC [] (by decide) (by kernel_rfl)⟩)
 refine cond_f hF (by kernel_rfl) hb ?_
 refine wpIn_skip ?_
 refine hK8 _ _ ?_
 refine wpIn_seq_k fun K15 hK15 => ?_
 refine wpIn_region_lit ?_
 refine wp 1 [15] hF fun a hF => ?_
 refine bind_split H (fun x16 hx16 H => ?_)
 refine wc (wcS 2 [0, 1] hF hS (fun hS => C_store_Store_Get N (T_store_Store.mk x10.2.chains x10.2.floor) (ByteArray.mk #[97]) 3 p11 m12 c13 b4 ⟨rfl, hS.pick [0] (by kernel_rfl)⟩ hx16) ?_)
 rintro _ κ w a ⟨rfl, h2⟩ hF hB
 have hS := hB _ _ h2
 refine wp 4 [17, 18, 19] hF fun a hF => ?_
 refine wc (wal hF hS [sg ByteArray.empty, sg ByteArray.empty, sb false, su 0, si 0, si 0] (sgN 6 sgNil) fun b17 a w hF hS => ?_)
 refine wc (wst hF hS 0 0 6 [sg x16.1.Key, sg x16.1.Val, sb x16.1.Gone, su x16.1.TS, si x16.1.DC, si x16.1.Tx] (sgN 6 sgNil) fun a w hF hS => ?_)
 refine wp 2 [2, 3, 4] hF fun a hF => ?_
 refine wpListIn_nil ?_
 refine hK15 _ _ ?_
 refine wpIn_seq_k fun K18 hK18 => ?_
 refine wpIn_region_lit ?_
 refine bind_split H (fun v20 hv20 H => ?_)
 refine wl_join (fun a w => ∃ κ : Gh, Fr (30) [] [(0, vb v20)] a ∧ SS [] κ0 w0 κ w [] [] ∧ True) ?_ ?_
 refine wp 2 [2, 4, 21] hF fun a hF => ?_
 refine bif_split hv20 (fun hb hv20 => ?_) (fun hb hv20 => ?_)
 have hF := hF.boolv 21 (by kernel_rfl) hb
 refine wp 4 [2, 25] hF fun a hF => ?_
 refine bif_split hv20 (fun hb hv20 => ?_) (fun hb hv20 => ?_)
 have hF := hF.boolv 25 (by kernel_rfl) hb
 refine wp 1 [25, 26] hF fun a hF => ?_
 refine wcg hF (wld hF hS 0 3 0 fun a hF => ?_)
 refine wp 3 [0] hF fun a hF => ?_
 refine wpListIn_nil ?_
 cases hv20
 exact ⟨_, hF.kp [0], hS.sp [] [], trivial⟩
 have hF := hF.boolv 25 (by kernel_rfl) hb
 refine wp 5 [0] hF fun a hF => ?_
 refine wpListIn_nil ?_
 cases hv20
 exact ⟨_, hF.kp [0], hS.sp [] [], trivial⟩
 have hF := hF.boolv 21 (by kernel_rfl) hb
 refine wp 9 [0] hF fun a hF => ?_
 refine wpListIn_nil ?_
 cases hv20
 exact ⟨_, hF.kp [0], hS.sp [] [], trivial⟩
 rintro a w ⟨κ, hF, hS, -⟩
 refine hK18 _ _ ?_
 refine wpIn_ret ?_
 cases H
 exact (ret_done hF hS (res1 Try.results45 (rvt hF)) ⟨rfl, (hS.pick [] (by kernel_rfl)).ro, hS.newC [] (by decide) (by kernel_rfl)⟩)
set_option maxRecDepth 20000 in
set_option maxHeartbeats 8000000 in
theorem C_law10_few (N : Nat) {κ0 : Gh} {w0 : World} (hfr : Fresh κ0 w0) (a1 : (List T_api_Ver)) (a4 : Int) (p2 : Option Addr) (c3 : Nat) (hR : ∀ m ∈ ([Ro.mp f_api_Ver.ty p2 c3 a1] : List MP), m.p κ0 w0) {r : ((List T_api_Ver))} (H : M.law10_few N a1 a4 = some r) :
    Calls Try.prog 42 #[.slice p2 (a1).length c3, vi a4] w0 (Post [] κ0 w0 fun v κ w => ∃ (p10 : Option Addr) (c11 : Nat), v = .slice p10 (r).length c11 ∧ (∀ m ∈ ([Ro.mp f_api_Ver.ty p10 c11 r] : List MP), m.p κ w) ∧ NewC w0 κ w []) := by
 have hS := SS.start hfr hR
 refine enter (N := (11)) (L := [(0, .slice p2 (a1).length c3), (1, vi a4)]) Try.func42 rfl Try.ntmps42 (show 2 ≤ (11) by decide) rfl fun a hF => ?_
 unfold M.law10_few at H
 refine wpIn_seq_k fun K5 hK5 => ?_
 refine wpIn_region_lit ?_
 refine wp 1 [0, 1] hF fun a hF => ?_
 refine wpListIn_nil ?_
 refine hK5 _ _ ?_
 refine wpIn_seq_k fun K6 hK6 => ?_
 refine wpIn_region_lit ?_
 refine wl_pure (L' := [(5, .slice p2 (a1).length c3), (9, vi (if a4 < ((a1).length : Int) then a4 else ((a1).length : Int)))]) 5 [5, 9] hF (by kernel_rfl) fun a hF => ?_
 refine bind_split H (fun x7 hx7 H => ?_)
 refine wc (wo_slice hF hS (by kernel_rfl) 0 (E := 37) (lo := 0) (hi := (if a4 < ((a1).length : Int) then a4 else ((a1).length : Int))) rfl rfl rfl (by kernel_rfl) rfl ⟨_, rfl⟩ hx7 (by kernel_rfl) (by kernel_rfl) fun p8 c9 a hF hS => ?_)
 refine wp 1 [4] hF fun a hF => ?_
 refine wpListIn_nil ?_
 refine hK6 _ _ ?_
 refine wpIn_ret ?_
 cases H
 exact (ret_done hF hS (res1 Try.results42 (rvt hF)) ⟨p8, c9, rfl, (hS.pick [0] (by kernel_rfl)).ro, hS.newC [] (by decide) (by kernel_rfl)⟩)
set_option maxRecDepth 20000 in
set_option maxHeartbeats 8000000 in
theorem C_law10_All (N : Nat) {Ms : List Nat} {κ0 : Gh} {w0 : World} (a1 : T_store_Store) (a6 : ByteArray) (a7 : ByteArray) (p2 : Option Nat) (m3 : Array MapEntry) (c4 : Nat) (b5 : Nat) (hB : SB Ms κ0 w0 [.box b5 130 [(1, [.map p2]), su a1.floor], .ext (objX p2 (.map m3 c4))] [Map.mp kStr false (tSl f_api_Ver.ty) p2 m3 c4 a1.chains]) {r : ((List T_api_Ver))} (H : M.law10_All N a1 a6 a7 = some r) :
    Calls Try.prog 43 #[pt b5 0, .string (a6), .string (a7)] w0 (Post Ms κ0 w0 fun v κ w => ∃ (p80 : Option Addr) (c81 : Nat), v = .slice p80 (r).length c81 ∧ SS Ms κ0 w0 κ w [.box b5 130 [(1, [.map p2]), su a1.floor], .ext (objX p2 (.map m3 c4)), .tok p80 37 6 (r).length c81] [Ro.mp f_api_Ver.ty p80 c81 r]) := by
 have hS := hB.hS
 have hfr := hS.fresh
 refine enterM (N := (19)) (L := [(0, pt b5 0), (1, .string (a6)), (2, .string (a7))]) Try.func43 rfl Try.ntmps43 (show 3 ≤ (19) by decide) rfl fun a hF => ?_
 unfold M.law10_All at H
 refine wpIn_seq_k fun K8 hK8 => ?_
 refine wpIn_region_lit ?_
 refine wp 1 [0, 1, 2] hF fun a hF => ?_
 refine wpListIn_nil ?_
 refine hK8 _ _ ?_
 refine wpIn_seq_k fun K9 hK9 => ?_
 refine wpIn_region_lit ?_
 refine wc (wal hF hS [sl none 0 0] (sgN 1 sgNil) fun b10 a w hF hS => ?_)
 refine wpListIn_nil ?_
 refine hK9 _ _ ?_
 refine wpIn_seq_k fun K11 hK11 => ?_
 refine wpIn_seq_k fun K12 hK12 => ?_
 refine wpIn_region_lit ?_
 refine wl_pure (L' := [(7, pt b10 0), (9, pt b5 0), (10, .string (a6)), (11, .string (a7))]) 3 [7, 9, 10, 11] hF (by kernel_rfl) fun a hF => ?_
 refine bind_split H (fun x13 hx13 H => ?_)
 refine wc (wcS 2 [1, 2, 0] hF hS (fun hS => C_store_Store_All N (T_store_Store.mk a1.chains a1.floor) a6 a7 p2 m3 c4 b5 ⟨rfl, hS.pick [0] (by kernel_rfl)⟩ hx13) ?_)
 rintro _ κ w a ⟨b14, b15, b16, rfl, h2⟩ hF hB
 have hS := hB _ _ h2
 refine wpListIn_nil ?_
 refine hK12 _ _ ?_
 refine wpIn_block ?_
 refine bind_split H (fun v78 hv78 H => ?_)
 have hS := hS.add (m := Ro.mp f_api_Ver.ty none 0 ([] : List T_api_Ver)) (Ro.nil f_api_Ver.ty _ _)
 have hS := hS.addNil 37 6
 have hS : SS Ms κ0 w0 _ _ [.box b10 39 [sl none 0 0], .tok none 37 6 0 0, .box b14 55 [(1, [pt b5 0])], .box b15 9 [sg a6], .box b16 9 [sg a7], .box b5 130 [(1, [.map p2]), su a1.floor], .ext (objX p2 (.map m3 c4))] _ := hS.selp [6, 0, 3, 4, 5, 1, 2] (by decide) (by kernel_rfl)
 refine wp_rangeC' (C := [.box b10 39 [sl none 0 0], .tok none 37 6 0 0]) (Cap := [.box b14 55 [(1, [pt b5 0])], .box b15 9 [sg a6], .box b16 9 [sg a7], .box b5 130 [(1, [.map p2]), su a1.floor], .ext (objX p2 (.map m3 c4))]) (Cap2 := [.box b14 55 [(1, [pt b5 0])], .box b15 9 [sg a6], .box b16 9 [sg a7], .box b5 130 [(1, [.map p2]), su a1.floor], .ext (objX p2 (.map m3 c4))]) (Rc := [Map.mp kStr false (tSl f_api_Ver.ty) p2 m3 c4 a1.chains]) (R' := [Ro.mp f_api_Ver.ty none 0 ([] : List T_api_Ver)]) (caps := #[pt b14 0, pt b15 0, pt b16 0]) (f := 79) [] (fun l => #[.func (.yield l) #[] #[], pt b14 0, pt b15 0, pt b16 0]) hF hS (by kernel_rfl) (fun _ _ => rfl) ((hS.pick [0] (by kernel_rfl)).ro) (fun l => by kernel_rfl) fun b17 l rc w hrc hS => ?_
 refine ⟨fun x => (fun (v72 : ((List T_api_Ver) × Nat)) (x : XF) => ∃ (p70 : Option Addr) (c71 : Nat), x = mkX b17 l (lp rc [] v72.2) [.box b10 39 [sl p70 (v72.1).length c71], .tok p70 37 6 (v72.1).length c71] [Ro.mp f_api_Ver.ty p70 c71 v72.1]) v78 x, ?_, ?_⟩
 have hS := (hS.rebase.add (m := MP.const ((fun (v72 : ((List T_api_Ver) × Nat)) (x : XF) => ∃ (p70 : Option Addr) (c71 : Nat), x = mkX b17 l (lp rc [] v72.2) [.box b10 39 [sl p70 (v72.1).length c71], .tok p70 37 6 (v72.1).length c71] [Ro.mp f_api_Ver.ty p70 c71 v72.1]) (([] : List T_api_Ver), 0) (mkX b17 l (lp rc [] 0) [.box b10 39 [sl none 0 0], .tok none 37 6 0 0] [Ro.mp f_api_Ver.ty none 0 ([] : List T_api_Ver)]))) ⟨none, 0, rfl⟩).pick (R' := [Map.mp kStr false (tSl f_api_Ver.ty) p2 m3 c4 a1.chains, MP.const ((fun (v72 : ((List T_api_Ver) × Nat)) (x : XF) => ∃ (p70 : Option Addr) (c71 : Nat), x = mkX b17 l (lp rc [] v72.2) [.box b10 39 [sl p70 (v72.1).length c71], .tok p70 37 6 (v72.1).length c71] [Ro.mp f_api_Ver.ty p70 c71 v72.1]) (([] : List T_api_Ver), 0) (mkX b17 l (lp rc [] 0) [.box b10 39 [sl none 0 0], .tok none 37 6 0 0] [Ro.mp f_api_Ver.ty none 0 ([] : List T_api_Ver)]))]) [2, 0] (by kernel_rfl)
 refine C_store_Store_All_1 N (Y := (fun (v72 : ((List T_api_Ver) × Nat)) (x : XF) => ∃ (p70 : Option Addr) (c71 : Nat), x = mkX b17 l (lp rc [] v72.2) [.box b10 39 [sl p70 (v72.1).length c71], .tok p70 37 6 (v72.1).length c71] [Ro.mp f_api_Ver.ty p70 c71 v72.1])) (B := (fun (v72 : ((List T_api_Ver) × Nat)) x18 => bif (v72.2 == 0) then (Option.bind (apd v72.1 [(T_api_Ver.mk x18.Key x18.Val x18.Gone x18.TS x18.DC x18.Tx)]) fun x75 => (some (((x75, 0)), true))) else none)) (l := l) ?_ (T_store_Store.mk a1.chains a1.floor) a6 a7 b5 p2 m3 c4 hS hv78
 rintro v72 _ κ w x18  s' c ⟨p70, c71, rfl⟩ hp hf hnd hlt hR H
 refine bif_split H (fun hn H => ?_) (fun _ H => by cases H)
 refine round_at (L := [(7, pt b10 0), (13, .agg (flat [sg x18.Key, sg x18.Val, sb x18.Gone, su x18.TS, si x18.DC, si x18.Tx]).toArray)]) hp hf hnd hlt hn hrc rfl [7, 13] hF (by kernel_rfl) (by kernel_rfl) fun a hF hS => ?_
 have hS := hS.adds hR
 skip
 refine wpIn_region_lit ?_
 refine wc (wal hF hS [sg ByteArray.empty, sg ByteArray.empty, sb false, su 0, si 0, si 0] (sgN 6 sgNil) fun b73 a w hF hS => ?_)
 refine wc (wst hF hS 0 0 6 [sg x18.Key, sg x18.Val, sb x18.Gone, su x18.TS, si x18.DC, si x18.Tx] (sgN 6 sgNil) fun a w hF hS => ?_)
 refine wpListIn_nil ?_
 refine ⟨_, _, _, hS, fun wb hS => ?_⟩
 obtain ⟨κb, hκb⟩ : ∃ κb, κb = κ := ⟨_, rfl⟩
 subst hκb
 refine wpIn_block ?_
 refine wpIn_region_lit ?_
 refine wc (wld hF hS 1 0 0 fun a hF => ?_)
 refine wc (wls hF hS 0 0 6 fun a hF => ?_)
 refine wc (wo_buildN (t := f_api_Ver) (z := .agg (flat [sg ByteArray.empty, sg ByteArray.empty, sb false, su 0, si 0, si 0]).toArray) (l := [(T_api_Ver.mk x18.Key x18.Val x18.Gone x18.TS x18.DC x18.Tx)]) (vs := [(0, .agg (flat [sg x18.Key, sg x18.Val, sb x18.Gone, su x18.TS, si x18.DC, si x18.Tx]).toArray)]) (cells := #[.string (x18.Key), .string (x18.Val), vb x18.Gone, vu x18.TS, vi x18.DC, vi x18.Tx]) (E := 37) hF hS (by kernel_rfl) rfl (by kernel_rfl) (by kernel_rfl) rfl (by kernel_rfl) (by kernel_rfl) (by kernel_rfl) (by kernel_rfl) (by kernel_rfl) fun p74 κ a w hF hS => ?_)
 refine bind_split H (fun x75 hx75 H => ?_)
 refine wc (wo_append (ty := f_api_Ver.ty) hF hS (by kernel_rfl) 3 1 0 rfl rfl rfl (by kernel_rfl) (by kernel_rfl) rfl rfl rfl hx75 (by kernel_rfl) (i := Try.t37) (z := .agg (flat [sg ByteArray.empty, sg ByteArray.empty, sb false, su 0, si 0, si 0]).toArray) (by kernel_rfl) (by kernel_rfl) (by kernel_rfl) fun p76 c77 κ a w hF hS => ?_)
 refine wc (wst hF hS 2 0 1 [sl p76 (x75).length c77] (sgN 1 sgNil) fun a w hF hS => ?_)
 refine wpListIn_nil ?_
 cases H
 try dsimp only [Exit.inBlock, Exit.then]
 repeat rw [if_neg (by decide)]
 refine re_normal [] (C := [.box b10 39 [sl p76 (x75).length c77], .tok p76 37 6 (x75).length c77]) (R := [Ro.mp f_api_Ver.ty p76 c77 x75]) (hS.sp [2, 3] [0]) ?_
 exact ⟨p76, c77, rfl⟩
 rintro _ ⟨p70, c71, rfl⟩
 refine ⟨_, _, _, rfl, fun κ w a hF hS => ?_⟩
 refine bif_split H (fun hb H => ?_) (fun hb H => ?_)
 refine jumped0 hb ?_
 refine hK11 _ _ ?_
 refine wpIn_seq_k fun K79 hK79 => ?_
 refine wpIn_region_lit ?_
 refine wc (wld hF hS 1 0 0 fun a hF => ?_)
 refine wl_pure (L' := [(6, .slice p70 (v78.1).length c71)]) 1 [6] hF (by kernel_rfl) fun a hF => ?_
 refine wpListIn_nil ?_
 refine hK79 _ _ ?_
 refine wpIn_ret ?_
 refine ret_doneM (C' := [.box b10 39 [sl p70 (v78.1).length c71], .tok p70 37 6 (v78.1).length c71, .box b14 55 [(1, [pt b5 0])], .box b15 9 [sg a6], .box b16 9 [sg a7], .box b5 130 [(1, [.map p2]), su a1.floor], .ext (objX p2 (.map m3 c4))]) hF hS 0 rfl (by kernel_rfl) fun w hS => ?_
 cases H
 exact ⟨_, (res1 Try.results43 (rvt hF)), ⟨p70, c71, rfl, hS.sp [5, 6, 1] [0]⟩⟩
 cases H
end Go.Cf
