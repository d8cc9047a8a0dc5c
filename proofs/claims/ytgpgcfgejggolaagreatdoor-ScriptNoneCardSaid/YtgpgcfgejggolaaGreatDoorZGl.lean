/- What the first world of a row of the scripts gives: three variables of the library. -/
import Derived.Test.YtgpgcfgejggolaaGreatDoorRows
import Derived.MakeChecks
import Derived.Shelf.Vars
import Derived.Lib.LaidTab
import Derived.Test.YtgpgcfgejggolaaGreatDoorZMLib
import Derived.Test.YtgpgcfgejggolaaGreatDoorZK2
import Derived.Test.YtgpgcfgejggolaaGreatDoorZLay
namespace Go.Cf
open Go Go.Proofs Go.Proofs.YtgpgcfgejggolaaGreatDoor
theorem iface_of_trod {H:Type}{enc:TypeId×Value→H}{P:Program}{w:World}{sp:Nat→Bool}{held:Bool}{n t:Nat}{ms:Array (String×TypeId)}{cs:List Value}{d:DataW H}{p:List MemPlace}
  (ht:P.underlying t=some (.interface ms)) (h:DataW.trod enc P w 0 sp held n t cs=some (d,p)) : ∃e b,cs=[e]∧ErrIs e b:=by
 cases n with
 | zero=>simp [DataW.trod] at h
 | succ n=>
  match cs,h with
  | [],h=>simp [DataW.trod,ht] at h
  | _::_::_,h=>simp [DataW.trod,ht] at h
  | [x],h=>
   cases x
   case nilIface=>exact ⟨_,true,rfl,rfl⟩
   case iface t v=>exact ⟨_,false,rfl,⟨t,v,rfl⟩⟩
   all_goals simp [DataW.trod,ht] at h
theorem var_of_laid {P:Program}{w:World} : ∀ {l:List (String×DataW Unit)}{ps:List MemPlace},DataW.LaidVars P w l ps → ∀x∈l,∃g t cs fuel p,P.globalNamed x.1=some g∧(P.globals[g]?).map (·.type)=some t∧w.var? P x.1=some cs∧DataW.trod (fun _=>()) P w 0 (fun _=>true) false fuel t cs.toList=some (x.2,p)
 | [],_,_,_,hx=>by cases hx
 | (n,d)::r,_,⟨g,t,cs,fuel,p,q,h1,h2,h3,h4,h5,_⟩,x,hx=>by
  rcases List.mem_cons.1 hx with rfl|hx
  ·exact ⟨g,t,cs,fuel,p,h1,h2,h3,h4⟩
  ·exact var_of_laid h5 x hx
theorem err_of_laid {P:Program}{W:World}{l:List (String×DataW Unit)}{ps:List MemPlace}(h:DataW.LaidVars P W l ps){nm:String}{d:DataW Unit}(hm:(nm,d)∈l){g t:Nat}{ms:Array (String×TypeId)}
  (hg:P.globalNamed nm=some g) (ht:(P.globals[g]?).map (·.type)=some t) (hu:P.underlying t=some (.interface ms)) : ∃e b,W.cell? ⟨g,0,none⟩=some e∧ErrIs e b:=by
 obtain ⟨g',t',cs,n,p,h1,h2,h3,h4⟩:=var_of_laid h _ hm
 obtain rfl:=Option.some.inj (hg.symm.trans h1)
 obtain rfl:=Option.some.inj (ht.symm.trans h2)
 obtain ⟨e,b,hc,hb⟩:=iface_of_trod hu h4
 refine ⟨e,b,?_,hb⟩
 have:=World.var?_cell hg h3 0
 obtain ⟨l⟩:=cs
 simp only at hc
 subst hc
 simpa using this
theorem cells_one {K:Nat} {W:World} {g:Nat} {v:Value} (hK:1≤K) (h:W.cell? ⟨g,0,none⟩=some v):(MP.cells g 0 [v]).p (gh K W) W:=
 ⟨K,by simp [gh,block_lt_of_cell h],by simpa using hK,fun j u hj=>by
  cases j with
  | zero=>simp only [List.getElem?_cons_zero,Option.some.injEq] at hj; subst hj; exact h
  | succ j=>simp at hj⟩
theorem tab_of_laid {P:Program}{W:World}{K:Nat}{l:List (String×DataW Unit)}{ps:List MemPlace}(h:DataW.LaidVars P W l ps){nm:String}{k:IntKind}{zs:List Int}(hm:(nm,Lib.tabData k zs)∈l){g t e n:Nat}(hK:zs.length<K)
  (hg:P.globalNamed nm=some g) (ht:(P.globals[g]?).map (·.type)=some t) (hu:P.underlying t=some (.array n e)) (he:P.underlying e=some (.int k)) (hce:P.cellsOf e=1) (hct:P.cellsOf t=n) (h0:0<zs.length):(MP.whole g (zs.map fun z=>Value.int k z)).p (gh K W) W:=by
 obtain ⟨g',t',cs,f,p,h1,h2,h3,h4⟩:=var_of_laid h _ hm
 obtain rfl:=Option.some.inj (hg.symm.trans h1)
 obtain rfl:=Option.some.inj (ht.symm.trans h2)
 have hcs:=Lib.cells_of_tab hu he hce hct h4
 have hc : ∀j,W.cell? ⟨g,j,none⟩=(zs.map fun z=>Value.int k z)[j]? := fun j=>by
  rw [World.var?_cell hg h3 j]
  obtain ⟨l⟩:=cs
  simp only at hcs
  subst hcs
  simp
 have hlt:g<W.heap.size:=by
  have:=hc 0
  rw [List.getElem?_eq_getElem (by simpa using h0)] at this
  exact block_lt_of_cell this
 exact ⟨K,by simp [gh,hlt],by simpa using hK,fun j _=>hc j⟩
theorem gl_of {W:World}{K:Nat}{l:List (String×DataW Unit)}(hK:21≤K)(hsh:W.ShapedOpen Tryz.prog)(hL:laidMetH Tryz.prog l W)(hp:(l.all fun x=>x.2.handleName?.isNone)=true)
  (h1:("strconv.ErrSyntax",Rows.laid_strconv_ErrSyntax)∈l) (h2:("strconv.ErrRange",Rows.laid_strconv_ErrRange)∈l) (h3:("internal/strconv.uint64pow10",Rows.laid_internal_strconv_uint64pow10)∈l):GL.p (gh K W) W:=by
 rw [MakeChecks.laidMetH_plain _ _ _ hp] at hL
 obtain ⟨ps,hl,_⟩:=hL
 obtain ⟨m,hm⟩:=cell_of_shapedOpen_int (P:=Tryz.prog) (g:=0) (t:=3) (zero := #[.int .i64 0]) (k := .i64) hsh (of_decide_eq_true (by kernel_rfl)) (by kernel_rfl) (by kernel_rfl) (by kernel_rfl) (by kernel_rfl) Tryz.underlying3
 obtain ⟨e,b,k1,k2⟩:=err_of_laid hl h1 (g:=1) (t:=69) (by kernel_rfl) (by kernel_rfl) Tryz.underlying69
 obtain ⟨e',b',k3,k4⟩:=err_of_laid hl h2 (g:=2) (t:=69) (by kernel_rfl) (by kernel_rfl) Tryz.underlying69
 exact ⟨tab_of_laid hl (k := .u64) (zs:=Lib.pow10Tab) (by rw [show Lib.tabData (H:=Unit) .u64 Lib.pow10Tab=Rows.laid_internal_strconv_uint64pow10 by kernel_rfl]; exact h3) (g:=3) (t:=361) (e:=56) (n:=20) (by show 20<K; omega) (by kernel_rfl) (by kernel_rfl) (Tryz.underlying361) (Tryz.underlying56) (by kernel_rfl) (by kernel_rfl) (by decide),⟨m,cells_one (by omega) hm⟩,⟨e,b,cells_one (by omega) k1,k2⟩,⟨e',b',cells_one (by omega) k3,k4⟩⟩
end Go.Cf
