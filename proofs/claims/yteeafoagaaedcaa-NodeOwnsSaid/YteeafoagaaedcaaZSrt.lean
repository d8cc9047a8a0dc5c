/- 'slices.Sorted(maps.Keys(m))' by the shelf's contracts, laid at this dump in plain declarations (lay-plain.mjs printed them). -/
import Derived.Shelf.SlIter.Nil
import Derived.Shelf.SortM.Plain
import Derived.Shelf.SortM.SortNone
import Derived.Ground.GgzProg
import Derived.Ground.SlgmProg
import Derived.Test.YteeafoagaaedcaaProg
import Derived.Test.YteeafoagaaedcaaZK2
namespace Go.Proofs
open Go.Shelf
def Try.keys80_ren:Go.Shelf.Ren:=⟨fun|7=>80|10=>114|n=>n,fun|23=>128|26=>9|3=>39|28=>124|0=>0|27=>123|33=>96|4=>4|n=>n,fun|n=>n⟩
theorem Try.keys80:Go.Proofs.SlLaysZ.n7 Try.prog Try.keys80_ren:={
  mixed:=by kernel_rfl
  f7:=⟨Try.f80.name,by decide,Try.func80.trans (congrArg some (by kernel_rfl))⟩
  f10:=⟨Try.f114.name,by decide,Try.func114.trans (congrArg some (by kernel_rfl))⟩
  t0:=Try.underlying0
  a0:=Try.isAgg0
  z0:=Try.sizeOf0
  v0:=Try.zeroValue0
  t4:=Try.underlying4
  a4:=Try.isAgg4
  z4:=Try.sizeOf4
  v4:=Try.zeroValue4
  t23:=Try.underlying128
  a23:=Try.isAgg128
  z23:=Try.sizeOf128
  v23:=Try.zeroValue128
  t26:=Try.underlying9
  a26:=Try.isAgg9
  z26:=Try.sizeOf9
  v26:=Try.zeroValue9
  t27:=Try.underlying123
  a27:=Try.isAgg123
  z27:=Try.sizeOf123
  v27:=Try.zeroValue123
  t28:=Try.underlying124
  a28:=Try.isAgg124
  z28:=Try.sizeOf124
  v28:=Try.zeroValue124
  t33:=Try.underlying96
  a33:=Try.isAgg96
  z33:=Try.sizeOf96
  v33:=Try.zeroValue96}
def Try.sorted75_ren:Go.Shelf.Ren:=⟨fun|6=>75|8=>111|9=>112|11=>125|13=>127|12=>126|23=>139|24=>140|14=>130|15=>131|16=>132|17=>133|18=>134|19=>135|20=>136|21=>137|22=>138|25=>142|26=>143|27=>144|28=>145|29=>146|30=>147|31=>148|n=>n,fun|26=>9|28=>124|24=>29|0=>0|3=>3|37=>69|48=>190|50=>25|4=>4|40=>183|39=>182|45=>187|5=>5|9=>9|51=>191|55=>194|57=>196|58=>197|33=>96|n=>n,fun|n=>n⟩
theorem Try.sorted75:Go.Proofs.SlLaysZ.n6 Try.prog Try.sorted75_ren:={
  mixed:=by kernel_rfl
  f6:=⟨Try.f75.name,by decide,Try.func75.trans (congrArg some (by kernel_rfl))⟩
  f8:=⟨Try.f111.name,by decide,Try.func111.trans (congrArg some (by kernel_rfl))⟩
  f11:=⟨Try.f125.name,by decide,Try.func125.trans (congrArg some (by kernel_rfl))⟩
  t0:=Try.underlying0
  a0:=Try.isAgg0
  z0:=Try.sizeOf0
  v0:=Try.zeroValue0
  t24:=Try.underlying29
  a24:=Try.isAgg29
  z24:=Try.sizeOf29
  v24:=Try.zeroValue29
  t26:=Try.underlying9
  a26:=Try.isAgg9
  z26:=Try.sizeOf9
  v26:=Try.zeroValue9
  t28:=Try.underlying124
  a28:=Try.isAgg124
  z28:=Try.sizeOf124
  v28:=Try.zeroValue124
  i26:=by kernel_rfl}
def Try.sort112_ren:Go.Shelf.Ren:=⟨fun|6=>112|8=>127|9=>126|19=>139|20=>140|21=>130|22=>131|23=>132|24=>133|25=>134|26=>135|27=>136|28=>137|29=>138|36=>142|31=>143|32=>144|37=>145|38=>146|39=>147|41=>148|n=>n,fun|27=>29|29=>9|3=>3|32=>69|26=>29|0=>0|44=>190|46=>25|4=>4|36=>183|35=>182|41=>187|5=>5|9=>9|53=>191|57=>194|63=>196|64=>197|n=>n,fun|n=>n⟩
theorem Try.sort112:Go.Proofs.SlLaysM.n6 Try.prog Try.sort112_ren:={
  mixed:=by kernel_rfl
  f6:=⟨Try.f112.name,by decide,Try.func112.trans (congrArg some (by kernel_rfl))⟩
  f8:=Try.func127.trans (congrArg some (by kernel_rfl))
  f9:=⟨Try.f126.name,by decide,Try.func126.trans (congrArg some (by kernel_rfl))⟩
  f19:=Try.func139.trans (congrArg some (by kernel_rfl))
  f20:=Try.func140.trans (congrArg some (by kernel_rfl))
  f21:=⟨Try.f130.name,by decide,Try.func130.trans (congrArg some (by kernel_rfl))⟩
  f22:=⟨Try.f131.name,by decide,Try.func131.trans (congrArg some (by kernel_rfl))⟩
  f23:=⟨Try.f132.name,by decide,Try.func132.trans (congrArg some (by kernel_rfl))⟩
  f24:=⟨Try.f133.name,by decide,Try.func133.trans (congrArg some (by kernel_rfl))⟩
  f25:=⟨Try.f134.name,by decide,Try.func134.trans (congrArg some (by kernel_rfl))⟩
  f26:=⟨Try.f135.name,by decide,Try.func135.trans (congrArg some (by kernel_rfl))⟩
  f27:=⟨Try.f136.name,by decide,Try.func136.trans (congrArg some (by kernel_rfl))⟩
  f28:=⟨Try.f137.name,by decide,Try.func137.trans (congrArg some (by kernel_rfl))⟩
  f29:=⟨Try.f138.name,by decide,Try.func138.trans (congrArg some (by kernel_rfl))⟩
  f31:=Try.func143.trans (congrArg some (by kernel_rfl))
  f32:=Try.func144.trans (congrArg some (by kernel_rfl))
  f36:=⟨Try.f142.name,by decide,Try.func142.trans (congrArg some (by kernel_rfl))⟩
  f37:=⟨Try.f145.name,by decide,Try.func145.trans (congrArg some (by kernel_rfl))⟩
  f38:=⟨Try.f146.name,by decide,Try.func146.trans (congrArg some (by kernel_rfl))⟩
  f39:=⟨Try.f147.name,by decide,Try.func147.trans (congrArg some (by kernel_rfl))⟩
  f41:=⟨Try.f148.name,by decide,Try.func148.trans (congrArg some (by kernel_rfl))⟩
  t0:=Try.underlying0
  a0:=Try.isAgg0
  z0:=Try.sizeOf0
  v0:=Try.zeroValue0
  t3:=Try.underlying3
  a3:=Try.isAgg3
  z3:=Try.sizeOf3
  v3:=Try.zeroValue3
  t4:=Try.underlying4
  a4:=Try.isAgg4
  z4:=Try.sizeOf4
  v4:=Try.zeroValue4
  t5:=Try.underlying5
  a5:=Try.isAgg5
  z5:=Try.sizeOf5
  v5:=Try.zeroValue5
  t9:=Try.underlying9
  a9:=Try.isAgg9
  z9:=Try.sizeOf9
  v9:=Try.zeroValue9
  t26:=Try.underlying29
  a26:=Try.isAgg29
  z26:=Try.sizeOf29
  v26:=Try.zeroValue29
  t27:=Try.underlying29
  a27:=Try.isAgg29
  z27:=Try.sizeOf29
  v27:=Try.zeroValue29
  t29:=Try.underlying9
  a29:=Try.isAgg9
  z29:=Try.sizeOf9
  v29:=Try.zeroValue9
  t32:=Try.underlying69
  a32:=Try.isAgg69
  z32:=Try.sizeOf69
  v32:=Try.zeroValue69
  t35:=Try.underlying182
  a35:=Try.isAgg182
  z35:=Try.sizeOf182
  v35:=Try.zeroValue182
  t36:=Try.underlying183
  a36:=Try.isAgg183
  z36:=Try.sizeOf183
  v36:=Try.zeroValue183
  t41:=Try.underlying187
  a41:=Try.isAgg187
  z41:=Try.sizeOf187
  v41:=Try.zeroValue187
  t44:=Try.underlying190
  a44:=Try.isAgg190
  z44:=Try.sizeOf190
  v44:=Try.zeroValue190
  t46:=Try.underlying25
  a46:=Try.isAgg25
  z46:=Try.sizeOf25
  v46:=Try.zeroValue25
  t53:=Try.underlying191
  a53:=Try.isAgg191
  z53:=Try.sizeOf191
  v53:=Try.zeroValue191
  t57:=Try.underlying194
  a57:=Try.isAgg194
  z57:=Try.sizeOf194
  v57:=Try.zeroValue194
  t63:=Try.underlying196
  a63:=Try.isAgg196
  z63:=Try.sizeOf196
  v63:=Try.zeroValue196
  t64:=Try.underlying197
  a64:=Try.isAgg197
  z64:=Try.sizeOf197
  v64:=Try.zeroValue197}
end Go.Proofs
namespace Go.Cf
open Go Go.Proofs Go.RowKit Go.Maps Go.Sort
theorem lt_of_bl : ∀a b:List UInt8,Op.bytesLess a b=true→a<b:=fun a=>by
  induction a with
  | nil=>
    intro b h
    cases b with
    | nil=>cases h
    | cons y b=>exact List.Lex.nil
  | cons x a ih=>
    intro b h
    cases b with
    | nil=>rw [bl_nil] at h; cases h
    | cons y b=>
      simp only [Op.bytesLess,Bool.or_eq_true,decide_eq_true_eq,Bool.and_eq_true,beq_iff_eq] at h
      rcases h with h | ⟨rfl,h⟩
      · exact List.Lex.rel h
      · exact List.Lex.cons (ih _ h)
abbrev byt (s:ByteArray):List UInt8:=s.data.toList
theorem byt_enc (s:ByteArray):encStr (byt s) = .string s:=by simp [byt,encStr]
section
variable {V:Type}{agg:Bool}{t:Ty V}{κ:Gh}{w:World}{es:Array MapEntry}{clk:Nat}{l l0:List (ByteArray×V)}
theorem fit_of {P:Program} {K:Nat} (hK:P.underlying K=some .string) (h:LAt kStr agg t κ w es clk l0) (hsz:es.size≤maxLen) (hk : ∀x∈l0,x.1.size≤maxLen):WideElems.Fit (H:=Unit) P K (fun _=>some (.nil,[])) es clk:=
  ⟨hsz,h.st,fun e he=>by
    obtain ⟨i,hi⟩:=List.mem_iff_getElem?.1 he
    obtain ⟨x,hx⟩:=h.other hi
    have h1:e.key = .string x.1:=h.keyAt hi hx
    refine ⟨(.string (byt x.1),.nil),?_⟩
    unfold WideElems.rd
    rw [h1,WideMaps.keyOf_string_mk hK (hk x (List.mem_of_getElem? hx))]
    rfl⟩
theorem rg_of {P:Program} {K:Nat} (hK:P.underlying K=some .string) (h:LAt kStr agg t κ w es clk l0) (hk : ∀x∈l0,x.1.size≤maxLen):(es.toList.map (WideElems.rg (H:=Unit) P K (fun _=>some (.nil,[])))).map (fun p=>strOf p.1)=l0.map fun x=>byt x.1:=by
  apply List.ext_getElem?
  intro i
  simp only [List.getElem?_map]
  cases hi:es.toList[i]? with
  | none=>
    have:l0[i]? = none:=by
      rw [List.getElem?_eq_none_iff] at hi ⊢
      rw [← h.len]; exact hi
    rw [this]; rfl
  | some e=>
    obtain ⟨x,hx⟩:=h.other hi
    have h1:e.key = .string x.1:=h.keyAt hi hx
    rw [hx]
    simp only [Option.map_some]
    unfold WideElems.rg WideElems.rd
    rw [h1,WideMaps.keyOf_string_mk hK (hk x (List.mem_of_getElem? hx))]
    rfl
end
theorem sorted_keys {P:Program}{f g K BT bx:Nat}{V:Type}{agg:Bool}{t:Ty V}{κ0:Gh}{w0:World}{es:Array MapEntry}{clk:Nat}{p:Option Nat}{m:Mp ByteArray V}(hK:P.underlying K=some .string)
    (hc : ∀(S:List (List UInt8)→Prop) (N:Nat),N≤maxLen→N*16≤140737488355328→SeqGives Fence.wide 2 P g #[.pointer (some ⟨bx,0,none⟩)] encStr S N w0→CallsIn Fence.wide 5 P f #[.func (.func g) #[] #[.pointer (some ⟨bx,0,none⟩)]] w0 fun e w' => ∃(v:Value) (ss:List (List UInt8)),e = .returned v∧S ss ∧
      w'.ownsRow w0.heap.size K 1 v ss.length ((ss.mergeSort (fun x y=>decide (x≤y))).map encStr)∧(v = .slice none 0 0↔ss=[])∧Below w0.heap.size w0 w')
    (hk : ∀(b nn:Nat) (D0:DataW Unit) (R:Value→Option (DataW Unit×List MemPlace)),bx<w0.heap.size→w0.cell? ⟨bx,0,none⟩=some (.map (some b))→w0.ownsMap P K R b nn D0→SeqGives Fence.wide 2 P g #[.pointer (some ⟨bx,0,none⟩)] encStr (fun ss=>ss.Perm (strKeys D0)) (Maps.size D0) w0)
    (hk0:bx<w0.heap.size→w0.cell? ⟨bx,0,none⟩=some (.map none)→SeqGives Fence.wide 2 P g #[.pointer (some ⟨bx,0,none⟩)] encStr (fun ss:List (List UInt8)=>ss=[]) 0 w0)
    (hfr:Fresh κ0 w0) (hbx:w0.heap[bx]? = some (.cells #[.map p] BT (0,0))) (hmp : ∀b,p=some b→w0.heap[b]? = some (.map es clk)) (hm:MapAt kStr agg t κ0 w0 p es clk m) {r:List ByteArray} (H:srtK m=some r) :
    Calls P f #[.func (.func g) #[] #[.pointer (some ⟨bx,0,none⟩)]] w0 (Post [] κ0 w0 fun v κ w => ∃(q:Option Addr) (c:Nat),v = .slice q r.length c∧(∀m∈[Ro.mp fStr.ty q c r],m.p κ w)∧NewC w0 κ w [.tok q K 1 r.length c]):=by
  have hbl:bx<w0.heap.size:=(Array.getElem?_eq_some_iff.1 hbx).1
  have hcell:w0.cell? ⟨bx,0,none⟩=some (.map p):=by simp [World.cell?,hbx]
  unfold srtK at H
  split at H
  · rename_i hcond
    simp only [Bool.and_eq_true,List.all_eq_true,decide_eq_true_eq] at hcond
    obtain ⟨hks,hlen⟩:=hcond
    simp only [Option.some.injEq] at H
    subst H
    obtain ⟨S,N,hN1,hN2,hseq,hS⟩ : ∃(S:List (List UInt8)→Prop) (N:Nat),N≤maxLen∧N*16≤140737488355328∧SeqGives Fence.wide 2 P g #[.pointer (some ⟨bx,0,none⟩)] encStr S N w0 ∧ ∀ss,S ss→ss.mergeSort (fun x y=>decide (x≤y))=(mKeys m).map byt:=by
      cases m with
      | none=>
        obtain ⟨rfl,rfl⟩:=hm
        exact ⟨_,_,Nat.zero_le _,by omega,hk0 hbl hcell,fun ss h=>by subst h; simp [mKeys]⟩
      | some l=>
        obtain ⟨hp,hs,l0,hl,hf⟩:=hm
        obtain ⟨b,rfl⟩:=Option.isSome_iff_exists.1 hp
        have hperm:l0.Perm l:=keys_of hl.nodup hs.nodup hf
        have hkk:mKeys (some l)=l.map (·.1):=rfl
        rw [hkk] at hks hlen
        have hk1 : ∀x∈l0,x.1.size≤maxLen:=fun x hx=>hks x.1 (List.mem_map.2 ⟨x,hperm.mem_iff.1 hx,rfl⟩)
        have hes:es.size=l.length:=by
          have h1:es.size=l0.length:=by simpa using hl.len
          rw [h1]; exact hperm.length_eq
        rw [List.length_map] at hlen
        have hsz:es.size≤maxLen:=by rw [hes]; unfold maxLen; omega
        have F:=fit_of (P:=P) hK hl hsz hk1
        have hsize:Maps.size (DataW.map ((es.toList.map (WideElems.rg (H:=Unit) P K (fun _=>some (.nil,[])))).foldr DataW.insert []))=es.size:=by simp [Maps.size,length_sorted]
        refine ⟨_,_,?_,?_,hk b es.size _ _ hbl hcell ⟨es,clk,hmp b rfl,F,Nat.le_refl _,rfl⟩,fun ss h=>?_⟩
        · rw [hsize]; exact hsz
        · rw [hsize,hes]; exact hlen
        · have h1:(strKeys (DataW.map ((es.toList.map (WideElems.rg (H:=Unit) P K (fun _=>some (.nil,[])))).foldr DataW.insert []))).Perm (l.map fun x=>byt x.1):=by
            show (List.map (fun p:Lit×DataW Unit=>strOf p.1) _).Perm _
            refine ((WideShapes.sorted_perm _).map _).trans ?_
            rw [rg_of hK hl hk1]
            exact hperm.map _
          rw [show ss.mergeSort (fun x y=>decide (x≤y))=_ from mergeSort_of_perm (h.trans h1),hkk,List.map_map]
          refine List.mergeSort_of_pairwise ?_
          rw [List.pairwise_map]
          refine List.Pairwise.imp (fun {x y} hxy=>?_) hs
          have hxy:Op.bytesLess x.1.toList y.1.toList=true:=hxy
          rw [ByteArray.toList_eq,ByteArray.toList_eq] at hxy
          simp only [decide_eq_true_eq]
          exact List.le_of_lt (lt_of_bl _ _ hxy)
    refine (callsIn_wide.1 (hc S N hN1 hN2 hseq)).mono fun e w' ⟨v,ss,he,hSs,hrow,hnil,hbel⟩=>?_
    have hsort:=hS ss hSs
    have hlen2:ss.length=(mKeys m).length:=by
      have:=congrArg List.length hsort
      simpa using this
    rw [hsort] at hrow
    obtain ⟨-,hrow⟩:=hrow
    have hκ' : ∀g0:Nat,w0.heap.size≤g0 → ∀n0:Nat,g0<w'.heap.size→Ext [] κ0 w0 (fun b=>if b=g0 then some n0 else κ0 b) w'∧Fresh (fun b=>if b=g0 then some n0 else κ0 b) w':=fun g0 hg0 n0 hlt=>by
      refine ⟨⟨hbel.os,hbel.output,hbel.tape,hbel.size,fun b hb _=>⟨hbel.block b hb,by show (if b=g0 then _ else _)=_; rw [if_neg (by omega)]⟩,fun b n hn=>?_⟩,fun b hb=>?_⟩
      · have hb:b<w0.heap.size:=by
          rcases Nat.lt_or_ge b w0.heap.size with h|h
          · exact h
          · rw [hfr b h] at hn; cases hn
        exact ⟨n,by show (if b=g0 then _ else _)=_; rw [if_neg (by omega)]; exact hn,Nat.le_refl _,fun i _=>cell_of_heap (hbel.block b hb)⟩
      · show (if b=g0 then _ else _)=_
        rw [if_neg (by omega)]; exact hfr b (Nat.le_trans hbel.size hb)
    rcases hrow with ⟨rfl,hz⟩ | ⟨g0,cap,cur,rfl,hg,hh,hcap,hcm,hcs,htk⟩
    · have hnil0:mKeys m=[]:=List.eq_nil_of_length_eq_zero (by rw [← hlen2]; exact hz)
      refine ⟨_,κ0,he,⟨hbel.os,hbel.output,hbel.tape,hbel.size,fun b hb _=>⟨hbel.block b hb,rfl⟩,fun b n hn=>⟨n,hn,Nat.le_refl _,fun i _=>cell_of_heap (hbel.block b ?_)⟩⟩,fun b hb=>hfr b (Nat.le_trans hbel.size hb),none,0,?_,?_,?_⟩
      · rcases Nat.lt_or_ge b w0.heap.size with h|h
        · exact h
        · rw [hfr b h] at hn; cases hn
      · rw [hnil0]; rfl
      · intro m hm
        simp only [List.mem_cons,List.not_mem_nil,or_false] at hm
        subst hm
        rw [hnil0]; exact Ro.nil _ _ _
      · rw [hnil0]
        refine ⟨fun c hc=>?_,by simp [blksOf,Ck.blks],fun b hb=>by simp [blksOf,Ck.blks] at hb⟩
        simp only [List.mem_cons,List.not_mem_nil,or_false] at hc
        subst hc
        exact .inl ⟨rfl,rfl⟩
    · have hglt:g0<w'.heap.size:=(Array.getElem?_eq_some_iff.1 hh).1
      rw [hlen2] at hcap htk
      obtain ⟨h1,h2⟩:=hκ' g0 hg (mKeys m).length hglt
      have hcell : ∀i x,(mKeys m)[i]? = some x→w'.cell? ⟨g0,i,none⟩=some (.string x):=fun i x hx=>by
        have h3:i<(mKeys m).length:=(List.getElem?_eq_some_iff.1 hx).1
        have h4:(cur.toList.take ((mKeys m).length*1))[i]? = some (.string x):=by
          rw [htk,List.map_map,List.getElem?_map,hx]
          show some (encStr (byt x))=_
          rw [byt_enc]
        rw [List.getElem?_take_of_lt (by omega)] at h4
        simp only [World.cell?,hh]
        simpa using h4
      refine ⟨_,_,he,h1,h2,some ⟨g0,0,none⟩,cap,by rw [hlen2],?_,?_⟩
      · intro m0 hm0
        simp only [List.mem_cons,List.not_mem_nil,or_false] at hm0
        subst hm0
        refine ⟨hcap,hcm,.inr ⟨g0,0,(mKeys m).length,rfl,by simp,by show 0+_*1≤_; omega,fun i x hx=>⟨[.string x],rfl,fun j v hj=>?_⟩⟩⟩
        cases j with
        | zero=>
          simp only [List.getElem?_cons_zero,Option.some.injEq] at hj
          subst hj
          have:=hcell i x hx
          simpa [fStr,FT.ty] using this
        | succ j=>simp at hj
      · refine ⟨fun c hc=>?_,by simp [blksOf,Ck.blks],fun b hb=>?_⟩
        · simp only [List.mem_cons,List.not_mem_nil,or_false] at hc
          subst hc
          exact .inr ⟨g0,0,cur,rfl,by simp,hcap,hcm,hh,by omega⟩
        · simp [blksOf,Ck.blks] at hb
          subst hb
          exact ⟨hg,hglt⟩
  · cases H
theorem sortsY (m:Nat):AnyZ.SortsIn Try.prog Try.sorted75_ren Fence.wide m:=
  ⟨fun blk off cap ss W hH hblk hsz=>callsIn_wide.2 (AnyM.slices_Sort_string Try.sort112 blk off cap ss W hH hblk hsz),
   fun p cap W=>callsIn_wide.2 (AnyM.slices_Sort_string_none Try.sort112 p cap W)⟩
theorem C_Sorted114 {V:Type}{agg:Bool}{t:Ty V}{κ0:Gh}{w0:World}(hfr:Fresh κ0 w0)(bx:Nat)(p:Option Nat)(es:Array MapEntry)(clk:Nat)(m:Mp ByteArray V)(hbx:w0.heap[bx]? = some (.cells #[.map p] 128 (0,0)))(hmp : ∀b,p=some b→w0.heap[b]? = some (.map es clk))(hm:MapAt kStr agg t κ0 w0 p es clk m){r:List ByteArray}(H:srtK m=some r) :
    Calls Try.prog 75 #[.func (.func 114) #[] #[.pointer (some ⟨bx,0,none⟩)]] w0 (Post [] κ0 w0 fun v κ w => ∃(q:Option Addr) (c:Nat),v = .slice q r.length c∧(∀m∈[Ro.mp fStr.ty q c r],m.p κ w)∧NewC w0 κ w [.tok q 9 1 r.length c]):=
  sorted_keys (f:=75) (g:=114) Try.underlying9
    (fun S N h1 h2 hseq=>AnyZ.sorted_in Try.sorted75 Fence.wide 5 trivial trivial trivial trivial rfl (by omega) (sortsY _) (enters_of Try.func112 (by kernel_rfl) rfl) 114 #[.pointer (some ⟨bx,0,none⟩)] trivial (enters_of Try.func114 (by kernel_rfl) rfl) S N h1 h2 w0 hseq)
    (fun b nn D0 R h1 h2 h3=>AnyZ.keys_gives (ρ:=Try.keys80_ren) {Try.keys80 with} Fence.wide _ trivial rfl (by omega) bx b nn D0 w0 h1 h2 h3)
    (fun h1 h2=>AnyZ.keys_gives_nil (ρ:=Try.keys80_ren) {Try.keys80 with} Fence.wide _ trivial rfl bx w0 h1 h2)
    hfr hbx hmp hm H
end Go.Cf
