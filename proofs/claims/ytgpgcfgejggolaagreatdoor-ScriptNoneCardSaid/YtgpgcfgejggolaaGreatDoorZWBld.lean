/- strings.Builder: what copyCheck and String come to, over a builder's box and its row. -/
import Derived.Shelf.Strings.Builder1
import Derived.Test.YtgpgcfgejggolaaGreatDoorZM1
import Derived.Test.YtgpgcfgejggolaaGreatDoorZLay
namespace Go.Cf
open Go Go.Proofs Go.Shelf Go.RowKit
section
variable {P:Program}{ρ:Ren}
set_option maxHeartbeats 2000000 in
set_option maxRecDepth 100000 in
theorem bldString (L:Lays.n169 P ρ)(X:Builder.Extra P ρ)(b n cap:Nat)(s:ByteArray)(ao q:Option Addr)(w w':World)(c1:w.drew.cell? ⟨b,1,none⟩=some (.slice ao n cap))
  (hSD:(Builtin.unsafeSliceData_ #[(ρ.t 37)] (ρ.t 127) #[.slice ao n cap]).run P w.drew = .ok (.pointer q) w.drew)
  (hUS:(Builtin.unsafeString_ #[(ρ.t 127),(ρ.t 3)] (ρ.t 9) #[.pointer q,.int .i64 n]).run P w.drew = .ok (.string s) w') :
  Calls P (ρ.f 169) #[.pointer (some ⟨b,0,none⟩)] w fun e w2=>e = .returned (.string s)∧w2=w':=by
 have mixed:=L.mixed
 have t72:=L.t72; have a72:=L.a72; have z72:=L.z72; have v72:=L.v72; have u72:=run_underlying L.t72
 have t70:=L.t70; have a70:=L.a70; have z70:=L.z70; have v70:=L.v70; have u70:=run_underlying L.t70
 have t37:=L.t37; have a37:=L.a37; have z37:=L.z37; have v37:=L.v37; have u37:=run_underlying L.t37
 have t127:=L.t127; have a127:=L.a127; have z127:=L.z127; have v127:=L.v127; have u127:=run_underlying L.t127
 have t3:=L.t3; have a3:=L.a3; have z3:=L.z3; have v3:=L.v3; have u3:=run_underlying L.t3
 have t9:=L.t9; have a9:=L.a9; have z9:=L.z9; have v9:=L.v9; have u9:=run_underlying L.t9
 have t5:=X.t5; have a5:=X.a5; have z5:=X.z5; have v5:=X.v5; have u5:=run_underlying X.t5
 go_enter L.f169,Body.n169_ntmps ρ
 go_wp2
 go_region_o
 all_goals (go_wp2; go_ret; exact ⟨rfl,rfl⟩)
set_option maxHeartbeats 2000000 in
set_option maxRecDepth 100000 in
theorem bldString0 (L:Lays.n169 P ρ)(X:Builder.Extra P ρ)(b g off:Nat)(p:Value)(cur:Array Value)(w:World)(hbk:w.heap[b]? = some (.cells #[p,.slice (some ⟨g,off,none⟩) 0 0] (ρ.t 72) (0,0)))(hg:w.heap[g]? = some (.cells cur (ρ.t 5) (0,0))) :
  Calls P (ρ.f 169) #[.pointer (some ⟨b,0,none⟩)] w fun e w'=>e = .returned (.string ⟨#[]⟩)∧Below w.heap.size w w':=by
 have hUS:=Any.unsafeString_none L X
 have hlt:b<w.heap.size:=by
  rcases Nat.lt_or_ge b w.heap.size with h'|h'
  ·exact h'
  ·simp [Array.getElem?_eq_none h'] at hbk
 have c1:w.drew.cell? ⟨b,1,none⟩=some (.slice (some ⟨g,off,none⟩) 0 0):=by
  have:w.drew.heap[b]? = some (.cells #[p,.slice (some ⟨g,off,none⟩) 0 0] (ρ.t 72) (0,0)):=hbk
  rw [Lib.cell_of_heap this]; rfl
 have hSD:(Builtin.unsafeSliceData_ #[(ρ.t 37)] (ρ.t 127) #[.slice (some ⟨g,off,none⟩) 0 0]).run P w.drew = .ok (.pointer (some ⟨w.drew.heap.size,0,none⟩)) (w.drew.alloc (.view ⟨g,off,none⟩ (ρ.t 5))):=
  Lib.run_unsafeSliceData_zero w.drew _ _ (ρ.t 5) L.t127 ⟨g,off,none⟩ 0 ((ρ.t 5),cur.size) (by have hg':w.drew.heap[g]? = some (.cells cur (ρ.t 5) (0,0)):=hg; simp [World.shape?,hg'])
 have c2:(w.drew.alloc (.view ⟨g,off,none⟩ (ρ.t 5))).cell? ⟨b,1,none⟩=some (.slice (some ⟨g,off,none⟩) 0 0):=by
  have:(w.drew.alloc (.view ⟨g,off,none⟩ (ρ.t 5))).heap[b]? = _:=(Lib.alloc_old w.drew _ b hlt).trans hbk
  rw [Lib.cell_of_heap this]; rfl
 have c3:(w.alloc (.view ⟨g,off,none⟩ (ρ.t 5))).drew.cell? ⟨b,1,none⟩=some (.slice (some ⟨g,off,none⟩) 0 0):=c2
 have c0:w.cell? ⟨b,1,none⟩=some (.slice (some ⟨g,off,none⟩) 0 0):=c1
 have mixed:=L.mixed
 have t72:=L.t72; have a72:=L.a72; have z72:=L.z72; have v72:=L.v72; have u72:=run_underlying L.t72
 have t70:=L.t70; have a70:=L.a70; have z70:=L.z70; have v70:=L.v70; have u70:=run_underlying L.t70
 have t37:=L.t37; have a37:=L.a37; have z37:=L.z37; have v37:=L.v37; have u37:=run_underlying L.t37
 have t127:=L.t127; have a127:=L.a127; have z127:=L.z127; have v127:=L.v127; have u127:=run_underlying L.t127
 have t3:=L.t3; have a3:=L.a3; have z3:=L.z3; have v3:=L.v3; have u3:=run_underlying L.t3
 have t9:=L.t9; have a9:=L.a9; have z9:=L.z9; have v9:=L.v9; have u9:=run_underlying L.t9
 have t5:=X.t5; have a5:=X.a5; have z5:=X.z5; have v5:=X.v5; have u5:=run_underlying X.t5
 go_enter L.f169,Body.n169_ntmps ρ
 go_wp2
 go_region_o
 all_goals (go_wp2; go_ret; exact ⟨rfl,(Below.drew (Below.refl _ w)).alloc (Nat.le_refl _) _⟩)
theorem liesAt_off {e:TypeId} (hc:P.cellsOf e=1) (count off n:Nat) (hn:off+n≤count):liesAt P P.depth e count off e n=true:=by
 have hd:P.depth=(2*(P.types.size+Made.depth)+1)+1:=rfl
 rw [hd]
 simp only [liesAt,Bool.or_eq_true]
 left
 rw [hd]
 simp [rowAt,hc,hn,sameLayout,Nat.mod_one]
theorem run_unsafeString_at (w:World)(pt it ty e:TypeId)(hp:P.underlying pt=some (.pointer e))(hc:P.cellsOf e=1)(g off cells:Nat)(hsh:w.shape? g=some (e,cells))(l:List UInt8)(h0:l≠[])(hn:off+l.length≤cells)(h63:l.length≤9223372036854775807)
  (hcell : ∀j x,l[j]? = some x→w.cell? ((⟨g,off,none⟩:Addr).add j)=some (.int .u8 x.toNat)) :
  (Builtin.unsafeString_ #[pt,it] ty #[.pointer (some ⟨g,off,none⟩),.int .i64 l.length]).run P w = .ok (.string ⟨l.toArray⟩) (w.freeze ⟨g,off,none⟩ l.length):=by
 have hl:l.length≠0:=by simpa using h0
 have hlb:=Lib.run_loadBytes (P:=P) w l ⟨g,off,none⟩ .empty hcell
 have hlies:=liesAt_off (P:=P) hc (cells / P.cellsOf e) off l.length (by rw [hc]; simpa using hn)
 have h63' : ¬(9223372036854775807:Int)<(l.length:Int):=by omega
 have hdef:Builtin.unsafeString_ #[pt,it] ty #[.pointer (some ⟨g,off,none⟩),.int .i64 l.length] =
   (do
    let n ← asInt (.int .i64 l.length)
    if n<0 then runtimePanic (.error "unsafe.String: len out of range")
    if n > IntKind.i64.max then unsupported (.unsafePointer "String: a length above the largest int")
    if n=0 then pure (.string .empty)
    else if ← variablesAt ⟨g,off,none⟩ (← elemOf pt) n.toNat then do
     let s ← loadBytes ⟨g,off,none⟩ .empty n.toNat
     freeze ⟨g,off,none⟩ n.toNat
     pure (.string s)
    else unsupported (.unsafePointer "String: not so many bytes at ptr")):=rfl
 rw [hdef]
 have hmax:IntKind.i64.max=9223372036854775807:=rfl
 have hneg : ¬(l.length:Int)<0:=by omega
 simp [asInt,asIntOf,hmax,h63',hneg,hl,variablesAt,hsh,elemOf,run_underlying hp,hlies,hlb]
end
section
variable {P:Program}{ρ:Ren}{Ms:List Nat}{κ0:Gh}{w0:World}
theorem ss_none (hf:Fresh κ0 w0) {w:World} (h:Below w0.heap.size w0 w):Ext Ms κ0 w0 κ0 w∧Fresh κ0 w∧SS Ms κ0 w0 κ0 w [] []:=by
 have he:Ext Ms κ0 w0 κ0 w:=by
  refine ⟨h.os,h.output,h.tape,h.size,fun b hb _=>⟨h.block b hb,rfl⟩,fun b n hn=>⟨n,hn,Nat.le_refl _,fun i _=>cell_of_heap (h.block b ?_)⟩⟩
  rcases Nat.lt_or_ge b w0.heap.size with h|h
  ·exact h
  ·rw [hf b h] at hn; cases hn
 have hf':Fresh κ0 w:=fun b hb=>hf b (Nat.le_trans h.size hb)
 exact ⟨he,hf',he,hf',(fun c hc=>by cases hc),(fun b hb=>by cases hb),List.nodup_nil,(fun b hb=>by cases hb),fun m hm=>by cases hm⟩
theorem ss_freeze (hf:Fresh κ0 w0) {g off n:Nat} (hg:g∈Ms) (hk:κ0 g=none):Ext Ms κ0 w0 κ0 (w0.drew.freeze ⟨g,off,none⟩ n)∧Fresh κ0 (w0.drew.freeze ⟨g,off,none⟩ n)∧SS Ms κ0 w0 κ0 (w0.drew.freeze ⟨g,off,none⟩ n) [] []:=by
 have hb : ∀b,b≠g→(w0.drew.freeze ⟨g,off,none⟩ n).heap[b]? = w0.heap[b]? := fun b hne=>by
  unfold World.freeze
  split
  ·rfl
  ·simp only [Array.getElem?_modify]
   rw [if_neg (fun e=>hne e.symm)]
   rfl
 have hs:(w0.drew.freeze ⟨g,off,none⟩ n).heap.size=w0.heap.size:=by
  unfold World.freeze
  split
  ·rfl
  ·simp only [Array.size_modify]
   rfl
 have he:Ext Ms κ0 w0 κ0 (w0.drew.freeze ⟨g,off,none⟩ n):=by
  refine ⟨by unfold World.freeze; split<;>rfl,by unfold World.freeze; split<;>rfl,by unfold World.freeze; split<;>rfl,by omega,fun b _ hm=>⟨hb b fun e=>hm (e▸hg),rfl⟩,fun b n hn=>⟨n,hn,Nat.le_refl _,fun i _=>cell_of_heap (hb b fun e=>?_)⟩⟩
  rw [e,hk] at hn; cases hn
 have hf':Fresh κ0 (w0.drew.freeze ⟨g,off,none⟩ n):=fun b hb=>hf b (by omega)
 exact ⟨he,hf',he,hf',(fun c hc=>by cases hc),(fun b hb=>by cases hb),List.nodup_nil,(fun b hb=>by cases hb),fun m hm=>by cases hm⟩
theorem bld_box {C:List Ck} {R:List MP} {b T:Nat} {e v:Value} (hS:SS Ms κ0 w0 κ0 w0 (.box b T [(1,[e]),(1,[v])]::C) R):w0.heap[b]? = some (.cells #[e,v] T (0,0)):=(hS.ck 0 rfl:(Ck.box b T _).ok κ0 w0).1
theorem bld_String {R:List MP}(L:Lays.n169 P ρ)(X:Builder.Extra P ρ)(b c:Nat)(e:Value)(p:Option Addr)(l:List Int)(hB:SB Ms κ0 w0 [.box b (ρ.t 72) [(1,[e]),(1,[.slice p l.length c])],.ext (ownX (fInt .u8) (ρ.t 5) p c l)] R)(hl : ∀x∈l,0≤x∧x<256) :
  Calls P (ρ.f 169) #[.pointer (some ⟨b,0,none⟩)] w0 (Post Ms κ0 w0 fun v κ w=>v = .string (strOfNums l)∧SS Ms κ0 w0 κ w [] []):=by
 have hS:=hB.hS
 have hbk:=bld_box hS
 have c1:w0.drew.cell? ⟨b,1,none⟩=some (.slice p l.length c):=by
  have:w0.drew.heap[b]? = some (.cells #[e,.slice p l.length c] (ρ.t 72) (0,0)):=hbk
  rw [Lib.cell_of_heap this]; rfl
 have hdr:Below w0.heap.size w0 w0.drew:=Below.drew (Below.refl _ w0)
 rcases (hS.ck 1 rfl:(ownX (fInt .u8) (ρ.t 5) p c l).p κ0 w0) with ⟨rfl,rfl,rfl⟩ | ⟨g,off,cells,rfl,h1,h2,h3,h4,h5,h6⟩
 ·refine (bldString L X b 0 0 _ none none w0 w0.drew c1 rfl (Any.unsafeString_none L X _ _)).mono ?_
  rintro e' w' ⟨rfl,rfl⟩
  obtain ⟨k1,k2,k3⟩:=ss_none (Ms:=Ms) hS.fresh hdr
  exact ⟨_,κ0,rfl,k1,k2,rfl,k3⟩
 ·by_cases hc0:c=0
  ·subst hc0
   obtain rfl:l=[]:=List.eq_nil_of_length_eq_zero (by omega)
   refine (bldString0 L X b g off e cells w0 hbk h4).mono ?_
   rintro e' w' ⟨rfl,hw⟩
   obtain ⟨k1,k2,k3⟩:=ss_none (Ms:=Ms) hS.fresh hw
   exact ⟨_,κ0,rfl,k1,k2,rfl,k3⟩
  ·have hSD:(Builtin.unsafeSliceData_ #[(ρ.t 37)] (ρ.t 127) #[.slice (some ⟨g,off,none⟩) l.length c]).run P w0.drew = .ok (.pointer (some ⟨g,off,none⟩)) w0.drew:=Lib.run_unsafeSliceData_row _ _ _ _ _ _ hc0
   by_cases hl0:l=[]
   ·subst hl0
    refine (bldString L X b 0 c _ _ _ w0 w0.drew c1 hSD (Any.unsafeString_none L X _ _)).mono ?_
    rintro e' w' ⟨rfl,rfl⟩
    obtain ⟨k1,k2,k3⟩:=ss_none (Ms:=Ms) hS.fresh hdr
    exact ⟨_,κ0,rfl,k1,k2,rfl,k3⟩
   ·have hlen:(l.map fun n=>UInt8.ofNat n.toNat).length=l.length:=List.length_map _
    have hsz:=h5 hc0
    have hUS:=run_unsafeString_at (P:=P) w0.drew (ρ.t 127) (ρ.t 3) (ρ.t 9) (ρ.t 5) L.t127 X.cellsByte g off cells.size (by have hg':w0.drew.heap[g]? = some (.cells cells (ρ.t 5) (0,0)):=h4; simp [World.shape?,hg']) (l.map fun n=>UInt8.ofNat n.toNat)
     (by simpa using hl0) (by rw [hlen,hsz]; simp only [fInt,Nat.mul_one]; omega) (by rw [hlen]; unfold maxLen at h3; omega) (fun j x hx=>by
      simp only [List.getElem?_map,Option.map_eq_some_iff] at hx
      obtain ⟨z,hz,rfl⟩:=hx
      obtain ⟨z0,z1⟩:=hl z (List.mem_of_getElem? hz)
      have:=h6 j z hz 0 (.int .u8 z) rfl
      simp only [fInt,Nat.mul_one,Nat.add_zero] at this
      have hg':w0.drew.heap[g]? = some (.cells cells (ρ.t 5) (0,0)):=h4
      rw [add_off]
      have e2:((UInt8.ofNat z.toNat).toNat:Int)=z:=by
       rw [UInt8.toNat_ofNat']
       omega
      rw [e2]
      simp [World.cell?,hg',this])
    rw [hlen] at hUS
    refine (bldString L X b l.length c _ _ _ w0 _ c1 hSD hUS).mono ?_
    rintro e' w' ⟨rfl,rfl⟩
    have hgm:g∈Ms:=by
     have hgb:g∈blksOf [.box b (ρ.t 72) [(1,[e]),(1,[.slice (some ⟨g,off,none⟩) l.length c])],.ext (ownX (fInt .u8) (ρ.t 5) (some ⟨g,off,none⟩) c l)]:=by simp [blksOf,Ck.blks,ownX,pblk]
     rcases hS.own g hgb with h|h
     ·have:=hS.lt g hgb; omega
     ·exact h
    obtain ⟨k1,k2,k3⟩:=ss_freeze (Ms:=Ms) (off:=off) (n:=l.length) hS.fresh hgm h1
    exact ⟨_,κ0,rfl,k1,k2,rfl,k3⟩
end
set_option maxHeartbeats 1000000 in
set_option maxRecDepth 100000 in
theorem cc_used (b:Nat)(w:World)(h0:w.cell? ⟨b,0,none⟩=some (.pointer (some ⟨b,0,none⟩))) :
  Calls Tryz.prog 77 #[.pointer (some ⟨b,0,none⟩)] w fun e w'=>e = .returned (.tuple #[])∧w'=w:=by
 obtain ⟨j,hj,_⟩:=Option.map_eq_some_iff.1 (show (Tryz.prog.info? 64).map (·.size)=some 2 by kernel_rfl)
 go_enter Tryz.func77,Tryz.ntmps77
 go_wp2
 rw [Lib.run_neq_ptr_same w _ Tryz.underlying62 hj]
 go_wp2
 go_end0
 exact ⟨rfl,rfl⟩
set_option maxHeartbeats 1000000 in
set_option maxRecDepth 100000 in
theorem cc_fresh (b:Nat)(w:World)(h0:w.cell? ⟨b,0,none⟩=some (.pointer none))(hsh:w.shape? b=some (64,2))(hfz:w.frozen? ⟨b,0,none⟩=false) :
  Calls Tryz.prog 77 #[.pointer (some ⟨b,0,none⟩)] w fun e w'=>e = .returned (.tuple #[])∧w'=w.setCell ⟨b,0,none⟩ (.pointer (some ⟨b,0,none⟩)):=by
 obtain ⟨j,hj,hjs⟩:=Option.map_eq_some_iff.1 (show (Tryz.prog.info? 64).map (·.size)=some 2 by kernel_rfl)
 go_enter Tryz.func77,Tryz.ntmps77
 go_wp2
 rw [Lib.run_to_unsafe w ⟨b,0,none⟩ Tryz.underlying62 Tryz.underlying269 hj (by rw [hjs]; decide) hsh (Nat.zero_lt_succ 1)]
 simp only [Result.andThen]
 rw [Oper.upon_value]
 go_wp2
 rw [run_callFunc_extern Tryz.func152 (by kernel_rfl) (by kernel_rfl) (by kernel_rfl) (e:=Extern.AbiNoEscape.same) (by kernel_rfl)]
 rw [Lib.run_noEscape]
 simp only [Result.andThen]
 rw [Oper.upon_value]
 go_wp2
 rw [Lib.run_from_unsafe w ⟨b,0,none⟩ Tryz.underlying269 Tryz.underlying62 hj hsh (by kernel_rfl)]
 simp only [Result.andThen]
 rw [Oper.upon_value]
 go_wp2
 go_end0
 exact ⟨rfl,rfl⟩
section
variable {Ms:List Nat}{κ0:Gh}{w0:World}
theorem bld_copyCheck {R:List MP}(b c:Nat)(e:Value)(u:Bool)(p:Option Addr)(l:List Int)(hu:SlfIs b e u)(hB:SB Ms κ0 w0 [.box b 64 [(1,[e]),(1,[.slice p l.length c])],.ext (ownX (fInt .u8) 5 p c l)] R) :
  Calls Tryz.prog 77 #[.pointer (some ⟨b,0,none⟩)] w0 (Post Ms κ0 w0 fun v κ w=>v = .tuple #[]∧SS Ms κ0 w0 κ w [.box b 64 [(1,[.pointer (some ⟨b,0,none⟩)]),(1,[.slice p l.length c])],.ext (ownX (fInt .u8) 5 p c l)] R):=by
 have hS:=hB.hS
 have hbk:=bld_box hS
 subst hu
 cases u with
 | true=>
  refine (cc_used b w0 (by rw [Lib.cell_of_heap hbk]; rfl)).mono ?_
  rintro e' w' ⟨rfl,rfl⟩
  exact ⟨_,κ0,rfl,hS.ext,hS.fresh,rfl,hS⟩
 | false=>
  refine (cc_fresh b w0 (by rw [Lib.cell_of_heap hbk]; rfl) (by simp [World.shape?,hbk]) (by simp [World.frozen?,hbk])).mono ?_
  rintro e' w' ⟨rfl,rfl⟩
  have h:=hS.write [] _ (s':=[(1,[.pointer (some ⟨b,0,none⟩)]),(1,[.slice p l.length c])]) rfl (segsOk_cons.2 ⟨rfl,segsOk_cons.2 ⟨rfl,segsOk_nil⟩⟩) (w':=w0.setCell ⟨b,0,none⟩ (.pointer (some ⟨b,0,none⟩))) (by
   rw [setCell_eq_setRow w0 b 0 _ _ _ _ hbk,setRow_eq w0 b 64 _ _ hbk]
   rfl)
  exact ⟨_,κ0,rfl,h.ext,h.fresh,rfl,h⟩
end
theorem C_strings_Builder_copyCheck (N:Nat){Ms:List Nat}{κ0:Gh}{w0:World}(a1:T_strings_Builder)(r2:Value)(p3:Option Addr)(c4:Nat)(b5:Nat)(hB:SB Ms κ0 w0 [.box b5 64 [(1,[r2]),(1,[.slice p3 (a1.buf).length c4])],.ext (ownX (fInt .u8) 5 p3 c4 a1.buf)] [MP.const (SlfIs b5 r2 a1.addr)]){r:T_strings_Builder}(H:M.strings_Builder_copyCheck N a1=some r) :
  Calls Tryz.prog 77 #[.pointer (some ⟨b5,0,none⟩)] w0 (Post Ms κ0 w0 fun v κ w => ∃r6:Value,∃p7:Option Addr,∃c8:Nat,v = .tuple #[]∧SS Ms κ0 w0 κ w [.box b5 64 [(1,[r6]),(1,[.slice p7 (r.buf).length c8])],.ext (ownX (fInt .u8) 5 p7 c8 r.buf)] [MP.const (SlfIs b5 r6 r.addr)]):=by
 cases H
 refine (bld_copyCheck b5 c4 r2 a1.addr p3 a1.buf (hB.hS.get 0 rfl) hB).mono ?_
 rintro e w ⟨v,κ,rfl,h1,h2,rfl,h3⟩
 exact ⟨_,κ,rfl,h1,h2,_,_,_,rfl,h3.facts fun m hm=>by
  obtain rfl:=List.mem_singleton.1 hm
  exact rfl⟩
theorem C_strings_Builder_String (N:Nat){Ms:List Nat}{κ0:Gh}{w0:World}(a1:T_strings_Builder)(r2:Value)(p3:Option Addr)(c4:Nat)(b5:Nat)(hB:SB Ms κ0 w0 [.box b5 64 [(1,[r2]),(1,[.slice p3 (a1.buf).length c4])],.ext (ownX (fInt .u8) 5 p3 c4 a1.buf)] [MP.const (SlfIs b5 r2 a1.addr)]){r:ByteArray}(H:M.strings_Builder_String N a1=some r) :
  Calls Tryz.prog 24 #[.pointer (some ⟨b5,0,none⟩)] w0 (Post Ms κ0 w0 fun v κ w=>v = .string r∧SS Ms κ0 w0 κ w [] []):=by
 unfold M.strings_Builder_String at H
 split at H
 ·rename_i h
  cases H
  exact bld_String Tryz.lays169 Tryz.Builder_Extra_169 b5 c4 r2 p3 a1.buf hB fun x hx=>of_decide_eq_true (List.all_eq_true.1 h x hx)
 ·cases H
end Go.Cf
