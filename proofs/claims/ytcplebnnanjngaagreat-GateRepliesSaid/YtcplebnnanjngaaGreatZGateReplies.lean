/- The proof of the statement 'GateReplies': the walk, its plain law, and the row's step (printed by joiner.py; it began as the shell that proof-skeleton.mjs writes). -/
import Derived.Test.YtcplebnnanjngaaGreatRows
import Derived.WalkKit
import Derived.ProofKit
import Derived.OpenShut
import Derived.Test.YtcplebnnanjngaaGreatZInit
import Derived.Test.YtcplebnnanjngaaGreatZRd
import Derived.Test.YtcplebnnanjngaaGreatZWgR
import Derived.Test.YtcplebnnanjngaaGreatZGc3
import Derived.Test.YtcplebnnanjngaaGreatZGc4
namespace Go.Proofs.YtcplebnnanjngaaGreat.gateReplies
open Go.ChangeShapes Go.WideShapes Go.ChangeAt Go.RowKit
set_option linter.unusedVariables false
theorem own:ownKnob Tryz.prog.godebug=none:=by kernel_rfl
theorem walk (x0:Int)(x1:(List Bool))(x2:(List Cf.kG))(p1:Option Addr)(c2:Nat)(ok0:Cf.inI .i64 x0)(ok1:(∀y∈x1,Cf.okB y))(ok2:(∀y∈x2,Cf.xZ y))(w:World)(K:Nat)(hR : ∀m∈([Cf.MP.const (List.length x1=4),Cf.Ro.mp Cf.lL p1 c2 x2]:List Cf.MP),m.p (Cf.gh K w) w) :
  Calls Tryz.prog 5 #[.int .i64 (x0),.agg (Cf.flat [(4,(Cf.encs Cf.jM x1))]).toArray,.slice p1 (x2).length c2] w fun e w'=>e = .returned (.bool true)∧w.keptBut w' (fun _=>False) ∧ ∀b,b<w.heap.size→w'.heap[b]? = w.heap[b]? := by
 exact Cf.JU rfl (Cf.yS (1000000) (Cf.JY K w) x0 x1 x2 p1 c2 hR (Cf.DO x0 x1 (hR _ (List.Mem.head _)) x2 (Cf.MJ ok2)))
set_option maxRecDepth 100000 in
set_option maxHeartbeats 1000000 in
theorem lifted (os:Os)(started:os.Started)(H:Type)(enc:TypeId×Value→H) :
  ReturnsInHanded {} Tryz.checked os 5 .any (Rows.gateRepliesSpec.pre6 enc Tryz.prog Tryz.f5 Rows.gateRepliesRow.domain false) (Rows.gateRepliesSpec.post enc Tryz.prog Tryz.f5 false true false false):=by
 refine returnsInHanded_of_change (C:=Tryz.checked) own started (by kernel_rfl) Tryz.func5
  (ChangeSpec.witness6 (enc:=enc) (C:=Tryz.checked) false ⟨#[],#[.int .i64 (0),.agg (Cf.flat [(4,(Cf.encs Cf.jM (List.replicate 4 false)))]).toArray,.slice none 0 0],[]⟩ 8 (by kernel_rfl) (by kernel_rfl) (by kernel_rfl) (by kernel_rfl)) ?_
 intro W base args ds gs before hval0 hW hcnd _
 have hval : ∀(j:Nat) t v,Tryz.f5.params[j]? = some t→args[j]? = some v→Value.okWide Tryz.prog W .any base t v:=hval0
 have hW':=hW
 obtain ⟨p,q,hA0,hV,rfl,hfz,hnd⟩:=hW
 have hA:DataW.TrodAll enc Tryz.prog W 0 (fun _=>true) true Tryz.f5.params.toList args.toList ds p:=hA0
 have hA1:=hA
 rw [Tryz.params5] at hA hval
 obtain ⟨v0,vs0,d0,ds0,p0,q0,hargs,rfl,rfl,h0,r0⟩:=trodAll_cons hA
 obtain ⟨v1,vs1,d1,ds1,p1,q1,rfl,rfl,rfl,h1,r1⟩:=trodAll_cons r0
 obtain ⟨v2,vs2,d2,ds2,p2,q2,rfl,rfl,rfl,h2,r2⟩:=trodAll_cons r1
 obtain ⟨rfl,rfl,rfl⟩:=trodAll_nil r2
 obtain rfl:args = #[v0,v1,v2]:=by cases args; simp_all
 obtain ⟨rfl,rfl⟩:=trodVars_none hV
 obtain ⟨x0,rfl,ok0⟩:=Cf.LM Tryz.underlying3 h0 (hval 0 3 v0 rfl rfl)
 obtain ⟨ce1,rfl,n1,e1,t1⟩:=Cf.LN Tryz.underlying22 h1 (hval 1 22 v1 rfl rfl)
 obtain ⟨x1,l1,a1,ok1⟩:=Cf.MG (t:=Cf.jM) Tryz.underlying22 (Cf.HC Tryz.underlying4) (by kernel_rfl) (by kernel_rfl) t1
 obtain rfl:ce1=Cf.flat [(4,Cf.encs Cf.jM x1)]:=a1.trans (List.append_nil _).symm
 obtain ⟨n2,e2,t2⟩:=Cf.IM Tryz.underlying23 h2 (hval 2 23 v2 rfl rfl)
 obtain ⟨p1,c2,x2,K2,q2,ok2,rr2⟩:=Cf.zS (t:=Cf.lL) Tryz.underlying23 Cf.EN (by kernel_rfl) (by decide) t2
 obtain rfl:v2=_:=List.head_eq_of_cons_eq q2
 have hlt:=hW'.lt
 simp only [List.append_nil] at hW' hlt hA1
 obtain ⟨K,hK⟩ : ∃K,(max K2 0)≤K:=⟨_,Nat.le_refl _⟩
 have hR : ∀m∈([Cf.MP.const (List.length x1=4),Cf.Ro.mp Cf.lL p1 c2 x2]:List Cf.MP),m.p (Cf.gh K W) W:=fun m hm=>by
  simp only [List.mem_cons,List.not_mem_nil,or_false] at hm
  rcases hm with rfl|rfl
  ·exact l1
  ·exact rr2 K (by omega)
 refine (walk x0 x1 x2 p1 c2 ok0 ok1 ok2 W K hR).mono fun e W' ⟨he,hg,hsame⟩=>?_
 subst he
 exact ⟨_,rfl,Cf.IB (pv:=[]) hW' (fun _ _ _=>(trodAll_cons_mk (shut_bool Tryz.underlying4 _) trodAll_mk0)) (fun sp hsp=>Cf.CH (by kernel_rfl) (by kernel_rfl) hA1 (fun p hp=>Cf.I8 hsame (hlt p hp)) hsp) (fun _ _=>rfl) (by simp)
  (World.keptBut_mono (fun _ f=>f.elim) hg)⟩
theorem joined:joinedFacts Tryz.pinned.checked.prog 5 Tryz.f5 Rows.gateRepliesSpec Rows.gateRepliesRow=true:=by
 unfold joinedFacts
 rw [Cf.mayEnter,Cf.liftsFinal,Cf.make]
 show _=true
 kernel_rfl
theorem over:Rows.gateRepliesRow.holds Tryz.pinned (OpenSpec.ofChange Rows.gateRepliesSpec):=
 OpenClaim.holds_of_wide 5 Tryz.f5 rfl rfl rfl rfl rfl rfl rfl ⟨rfl,rfl,rfl,rfl,rfl⟩ rfl rfl rfl rfl rfl (by kernel_rfl) Tryz.func5 joined
  (of_decide_eq_true (by kernel_rfl)) (by unfold Func.isWrapper; first|(rw [if_pos (by decide +kernel)]; kernel_rfl)|(rw [if_neg (by decide +kernel)]; exact ⟨rfl,rfl⟩))
  (fun os started H enc _=>lifted os started H enc)
theorem proved:Rows.GateRepliesSaid:=
 over
#print axioms proved
end Go.Proofs.YtcplebnnanjngaaGreat.gateReplies
