/- What the arguments of the laws read as: the maps of shards. -/
import Derived.Test.YtjohablgnnbelaaTy
import Derived.Test.YtjohablgnnbelaaKit14
import Derived.Test.YtjohablgnnbelaaRows
namespace Go.Cf
open Go Go.Proofs
set_option maxRecDepth 100000 in
theorem rd_Map {H : Type} {enc : TypeId × Value → H} {W : World} {v : Value} {d : DataW H} {ps : List MemPlace} (h : DataW.Trod enc Try.prog W 0 (fun _ => true) true 26 v d ps) {base : Nat} (hok : Value.okWide Try.prog W .any base 26 v) :
    ∃ (x : T_api_Map) (p1 : Option Addr) (c1 : Nat) (p2 : Option Addr) (c2 : Nat) (K0 : Nat), v = .agg (flat [(1, [.slice p1 x.Cuts.length c1]), (1, [.slice p2 x.Nodes.length c2])]).toArray ∧ ∀ K, K0 ≤ K → ∀ m ∈ [Ro.mp fStr.ty p1 c1 x.Cuts, Ro.mp (fInt .i64).ty p2 c2 x.Nodes], m.p (gh K W) W := by
  obtain ⟨n, h⟩ := h
  have hu := Try.underlying26
  obtain ⟨hl, k, hf⟩ := rd_struct hu h
  obtain ⟨l, rfl, hcs, hrow⟩ := okWide_struct hu (ts := [23, 24]) (by kernel_rfl) hok
  have hc26 : Try.prog.cellsOf 26 = 2 := by kernel_rfl
  have hc23 : Try.prog.cellsOf 23 = 1 := by kernel_rfl
  have hc24 : Try.prog.cellsOf 24 = 1 := by kernel_rfl
  rw [hc26] at hcs
  match l, hcs with
  | [u1, u2], _ =>
    obtain ⟨d1, h1⟩ := hf _ (List.mem_cons_self)
    obtain ⟨d2, h2⟩ := hf _ (List.mem_cons_of_mem _ List.mem_cons_self)
    simp only [hc23, hc24, Value.cells, List.drop_zero, List.drop_succ_cons, List.take_succ_cons, List.take_zero] at h1 h2
    obtain ⟨t1, ht1, ho1⟩ := hrow 0 u1 rfl
    obtain ⟨t2, ht2, ho2⟩ := hrow 1 u2 rfl
    simp at ht1 ht2
    subst ht1 ht2
    obtain ⟨p1, c1, l1, K1, rfl, r1⟩ := rd_slice (t := fStr) Try.underlying23 (rd_str Try.underlying9) (by kernel_rfl) h1 ho1
    obtain ⟨p2, c2, l2, K2, rfl, r2⟩ := rd_slice (t := fInt .i64) Try.underlying24 (rd_int Try.underlying3) (by kernel_rfl) h2 ho2
    refine ⟨⟨l1, l2⟩, p1, c1, p2, c2, max K1 K2, rfl, fun K hK m hm => ?_⟩
    simp only [List.mem_cons, List.not_mem_nil, or_false] at hm
    rcases hm with rfl | rfl
    · exact r1 K (by omega)
    · exact r2 K (by omega)
end Go.Cf
