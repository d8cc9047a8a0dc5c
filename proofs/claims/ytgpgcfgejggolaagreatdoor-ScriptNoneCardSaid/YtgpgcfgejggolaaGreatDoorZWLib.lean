/- Functions of Go's library, by the shelf's contracts. -/
import Derived.Lib.AppendIntMem
import Derived.Test.YtgpgcfgejggolaaGreatDoorZMLib
import Derived.Test.YtgpgcfgejggolaaGreatDoorZLay
namespace Go.Cf
open Go Go.Proofs Go.Shelf Go.RowKit
theorem ext_below {κ0:Gh} {w0 w':World} (hfr:Fresh κ0 w0) (h:Below w0.heap.size w0 w'):Ext [] κ0 w0 κ0 w'∧Fresh κ0 w':=by
 refine ⟨⟨h.os,h.output,h.tape,h.size,fun b hb _=>⟨h.block b hb,rfl⟩,fun b n hn=>⟨n,hn,Nat.le_refl _,fun i _=>cell_of_heap (h.block b ?_)⟩⟩,fun b hb=>hfr b (Nat.le_trans h.size hb)⟩
 rcases Nat.lt_or_ge b w0.heap.size with h|h
 ·exact h
 ·rw [hfr b h] at hn; cases hn
theorem cell0 {κ:Gh} {w:World} {g:Nat} {v:Value} (h:(MP.cells g 0 [v]).p κ w):w.cell? ⟨g,0,none⟩=some v:=by
 obtain ⟨n,_,_,h⟩:=h
 simpa using h 0 v rfl
theorem tab_of {κ:Gh} {w:World} {P:Program} {name:String} {g:Nat} {k:IntKind} {zs:List Int} (h:(MP.whole g (zs.map fun z=>Value.int k z)).p κ w) (hg:P.globalNamed name=some g) (h0:0<zs.length):Lib.TabIs P w name k zs:=by
 obtain ⟨T,f,hb⟩:=whole_heap h (by simpa using h0)
 show w.var? P name=_
 unfold World.var?
 rw [hg]
 simp [hb]
theorem C_strings_Split (N:Nat){κ0:Gh}{w0:World}(hfr:Fresh κ0 w0)(s sep:ByteArray)(hR : ∀m∈[GL],m.p κ0 w0){r:List ByteArray}(H:M.strings_Split N s sep=some r) :
  Calls Tryz.prog 11 #[.string s,.string sep] w0 (Post [] κ0 w0 fun v κ w => ∃(p:Option Addr) (c:Nat),v = .slice p r.length c∧(∀m∈[Ro.mp fStr.ty p c r],m.p κ w)∧NewC w0 κ w [.tok p 9 1 r.length c]):=by
 unfold M.strings_Split at H
 split at H
 ·rename_i h
  split at H
  ·rename_i c hc
   have hsep:sep=⟨#[c]⟩:=by
    obtain ⟨⟨l⟩⟩:=sep
    simp only at hc
    subst hc; rfl
   subst hsep
   simp only [Option.some.injEq] at H
   have hlen:=words_len c s
   rw [H] at hlen
   obtain ⟨-,⟨m,hm⟩,-⟩:=hR _ (List.mem_singleton_self _)
   refine (Any.strings_Split Tryz.lays146 (by kernel_rfl) s ⟨#[c]⟩ m w0 (by omega) (cell0 hm) (Nat.le_refl 1)).mono fun e w' ⟨he,hw⟩=>?_
   subst hw
   rw [splitB_words,H]
   have hle:=Lib.countB_le ⟨#[c]⟩ (Nat.le_refl 1) s.size s (Nat.le_refl _)
   obtain ⟨κ',h1⟩:=(SS.start (R:=[]) hfr (fun _ h=>by cases h)).publish fStr.ty 9 (r.map Value.string) r (by simp [fStr,FT.ty]) (by unfold maxLen; omega) fun i x hi=>⟨[.string x],rfl,fun j v hj=>by
    cases j with
    | zero=>
     simp only [List.getElem?_cons_zero,Option.some.injEq] at hj
     subst hj
     show (r.map Value.string)[i*1+0]? = _
     simp [hi]
    | succ j=>simp at hj⟩
   rw [← hlen] at he
   exact ⟨_,κ',he,h1.ext,h1.fresh,_,_,rfl,(h1.pick [0] (by kernel_rfl)).ro,h1.newC [0] (by decide) (by kernel_rfl)⟩
  ·cases H
 ·cases H
theorem C_strconv_Atoi (N:Nat){κ0:Gh}{w0:World}(hfr:Fresh κ0 w0)(s:ByteArray)(hR : ∀m∈[GL],m.p κ0 w0){r:Int×Bool}(H:M.strconv_Atoi N s=some r) :
  Calls Tryz.prog 27 #[.string s] w0 (Post [] κ0 w0 fun v κ w => ∃(e:Value),v = .tuple #[.int .i64 r.1,e]∧(∀m∈[MP.const (ErrIs e r.2)],m.p κ w)∧NewC w0 κ w []):=by
 have hnew : ∀w:World,NewC w0 κ0 w []:=fun w=>⟨(fun c hc=>by cases hc),List.nodup_nil,(fun b hb=>by cases hb)⟩
 unfold M.strconv_Atoi at H
 split at H
 ·rename_i h
  simp only [Option.some.injEq] at H
  obtain ⟨-,-,⟨e1,b1,hm1,he1⟩,⟨e2,b2,hm2,he2⟩⟩:=hR _ (List.mem_singleton_self _)
  have hor : ∀ {e:Value} {b:Bool},ErrIs e b→e = .nilIface ∨ ∃te pe,e = .iface te pe:=fun {e b} h=>by
   cases b with
   | true=>exact .inl (by simpa [ErrIs] using h)
   | false=>exact .inr (by simpa [ErrIs] using h)
  cases ha:Lib.atoiAll s.data.toList with
  | ok v=>
   rw [ha] at H; subst H
   refine (Any.strconv_Atoi_ok Tryz.lays172 s (by omega) v ha w0).mono fun e w' ⟨he,hw⟩=>?_
   have hb:Below w0.heap.size w0 w':=by
    rcases hw with rfl | ⟨t,rfl⟩
    ·exact Below.refl _ _
    ·exact Lib.bytesWorld_below _ _ _
   obtain ⟨h1,h2⟩:=ext_below hfr hb
   exact ⟨_,κ0,he,h1,h2,_,rfl,fun m hm=>by simp only [List.mem_cons,List.not_mem_nil,or_false] at hm; subst hm; exact rfl,hnew _⟩
  | range=>
   rw [ha] at H; subst H
   refine (Any.strconv_Atoi_range Tryz.lays172 s (by omega) ha e2 w0 (cell0 hm2) (hor he2)).mono fun e w' ⟨n,he,_,_,hb⟩=>?_
   obtain ⟨h1,h2⟩:=ext_below hfr hb
   exact ⟨_,κ0,he,h1,h2,_,rfl,fun m hm=>by simp only [List.mem_cons,List.not_mem_nil,or_false] at hm; subst hm; exact ⟨_,_,rfl⟩,hnew _⟩
  | _=>
   rw [ha] at H; subst H
   refine (Any.strconv_Atoi_syntax Tryz.lays172 s (by omega) ha e1 w0 (cell0 hm1) (hor he1)).mono fun e w' ⟨n,he,_,_,hb⟩=>?_
   obtain ⟨h1,h2⟩:=ext_below hfr hb
   exact ⟨_,κ0,he,h1,h2,_,rfl,fun m hm=>by simp only [List.mem_cons,List.not_mem_nil,or_false] at hm; subst hm; exact ⟨_,_,rfl⟩,hnew _⟩
 ·cases H
theorem C_strings_Count (N:Nat){κ0:Gh}{w0:World}(hfr:Fresh κ0 w0)(s sep:ByteArray)(hR : ∀m∈([]:List MP),m.p κ0 w0){r:Int}(H:M.strings_Count N s sep=some r) :
  Calls Tryz.prog 20 #[.string s,.string sep] w0 (Post [] κ0 w0 fun v κ w=>v = .int .i64 r∧(∀m∈([]:List MP),m.p κ w)∧NewC w0 κ w []):=by
 unfold M.strings_Count at H
 split at H
 ·rename_i c hc
  have hsep:sep=⟨#[c]⟩:=by
   obtain ⟨⟨l⟩⟩:=sep
   simp only at hc
   subst hc; rfl
  subst hsep
  cases H
  refine (Any.strings_Count_one {Tryz.lays146 with} s c w0).mono fun e w' ⟨he,hw⟩=>?_
  subst hw
  exact ⟨_,κ0,he,Ext.refl _ _ _,hfr,rfl,(fun _ h=>by cases h),(fun c hc=>by cases hc),List.nodup_nil,(fun b hb=>by cases hb)⟩
 ·cases H
theorem C_strings_Index (N:Nat){κ0:Gh}{w0:World}(hfr:Fresh κ0 w0)(s sep:ByteArray)(hR : ∀m∈[GL],m.p κ0 w0){r:Int}(H:M.strings_Index N s sep=some r) :
  Calls Tryz.prog 75 #[.string s,.string sep] w0 (Post [] κ0 w0 fun v κ w=>v = .int .i64 r∧(∀m∈([]:List MP),m.p κ w)∧NewC w0 κ w []):=by
 unfold M.strings_Index at H
 split at H
 ·rename_i h
  cases H
  obtain ⟨-,⟨m,hm⟩,-⟩:=hR _ (List.mem_singleton_self _)
  refine (Any.strings_Index {Tryz.lays146 with} s sep m w0 (by omega) (cell0 hm)).mono fun e w' ⟨he,hw⟩=>?_
  subst hw
  exact ⟨_,κ0,he,Ext.refl _ _ _,hfr,rfl,(fun _ h=>by cases h),(fun c hc=>by cases hc),List.nodup_nil,(fun b hb=>by cases hb)⟩
 ·cases H
theorem C_strconv_Itoa (N:Nat){κ0:Gh}{w0:World}(hfr:Fresh κ0 w0)(n:Int)(hR : ∀m∈[GL],m.p κ0 w0){r:ByteArray}(H:M.strconv_Itoa N n=some r) :
  Calls Tryz.prog 25 #[.int .i64 n] w0 (Post [] κ0 w0 fun v κ w=>v = .string r∧(∀m∈([]:List MP),m.p κ w)∧NewC w0 κ w []):=by
 unfold M.strconv_Itoa at H
 split at H
 ·rename_i h
  cases H
  obtain ⟨h0,-⟩:=hR _ (List.mem_singleton_self _)
  refine (Any.strconv_Itoa Tryz.lays171 n h.1 h.2 w0 (tab_of h0 (by kernel_rfl) (by decide))).mono fun e w' ⟨he,k,os,hw⟩=>?_
  have hb:Below w0.heap.size w0 w':=by subst hw; exact Lib.below_grow _ _ (Nat.le_refl _) _ _
  obtain ⟨h1,h2⟩:=ext_below hfr hb
  exact ⟨_,κ0,he,h1,h2,rfl,(fun _ h=>by cases h),(fun c hc=>by cases hc),List.nodup_nil,(fun b hb=>by cases hb)⟩
 ·cases H
theorem C_internal_small (N:Nat){κ0:Gh}{w0:World}(hfr:Fresh κ0 w0)(n:Int)(hR : ∀m∈([]:List MP),m.p κ0 w0){r:ByteArray}(H:M.internal_strconv_small N n=some r) :
  Calls Tryz.prog 176 #[.int .i64 n] w0 (Post [] κ0 w0 fun v κ w=>v = .string r∧(∀m∈([]:List MP),m.p κ w)∧NewC w0 κ w []):=by
 unfold M.internal_strconv_small at H
 split at H
 ·rename_i h
  simp only [Option.some.injEq] at H
  subst H
  obtain ⟨k,rfl⟩:=Int.eq_ofNat_of_zero_le h.1
  refine (Any.internal_strconv_small Tryz.lays283 k (by omega) w0).mono fun e w' ⟨he,hw⟩=>?_
  subst hw
  exact ⟨_,κ0,he,Ext.refl _ _ _,hfr,rfl,(fun _ h=>by cases h),(fun c hc=>by cases hc),List.nodup_nil,(fun b hb=>by cases hb)⟩
 ·cases H
end Go.Cf
