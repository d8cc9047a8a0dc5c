/- The walks: each function returns what its model says. Printed by a program of ours. -/
import Derived.Test.YtcplebnnanjngaaGreatZSh
import Derived.Test.YtcplebnnanjngaaGreatZM1
namespace Go.Cf
open Go Go.Proofs
open _root_.Int(toNat tdiv tmod)
open _root_.List(set replicate)
open _root_.ByteArray(empty)
open Go.IntKind(i64 u64)
set_option linter.unusedVariables false
set_option maxRecDepth 20000
set_option maxHeartbeats 8000000
theorem EY (N){y}{e}(B:lL y e)(b:jK)(j)(k)(l)(n)(I : ∀m∈([Ro.mp jF.ty j k b.Vers,Ro.mp (fInt .u64).ty l n b.Vec]:List MP),m.p y e){r}(H:M.yA N b=some r) :
    Calls Tryz.prog 27 #[.agg (flat (k07 b.Kind b.Id b.N b.TS b.Lo b.Hi j (b.Vers).length k l (b.Vec).length n b.Cmd.Kind b.Cmd.DC b.Cmd.Shard b.Cmd.Node b.Cmd.Mode b.Cmd.Key)).toArray] e (kQ [] y e λv κ w => ∃o q s t,v = .agg (flat (k07 r.Kind r.Id r.N r.TS r.Lo r.Hi o (r.Vers).length q s (r.Vec).length t r.Cmd.Kind r.Cmd.DC r.Cmd.Shard r.Cmd.Node r.Cmd.Mode r.Cmd.Key)).toArray∧(∀m∈([Ro.mp jF.ty o q r.Vers,Ro.mp (fInt .u64).ty s t r.Vec]:List MP),m.p κ w)∧t5 e κ w []):=by
 have d:=SS.start B I
 refine en Tryz.func27 rfl Tryz.ntmps27 λa c=>?_
 unfold M.yA at H
 refine qr λ_ J=>wc (wbx c d (k07 b.Kind b.Id b.N b.TS b.Lo b.Hi j (b.Vers).length k l (b.Vec).length n b.Cmd.Kind b.Cmd.DC b.Cmd.Shard b.Cmd.Node b.Cmd.Mode b.Cmd.Key) (sgN 14 jE) λC a w c d=>wc (wal c d [si 0,su 0,su 0,su 0,sg empty,sg empty,k2j,k2j,si 0,si 0,si 0,si 0,si 0,sg empty] (sgN 14 jE) λD a w c d=>?_))
 refine J _ _ (qr λ_ K=>(wp 1 [1,2,3] c λa c=>wc (wld c d 1 6 0 λa c=>wp 1 [1,2,4,5] c λa c=>wc (wld c d 1 6 0 λa c=>jG (L':=[k27 C,k28 D,(4,.slice j (b.Vers).length k),(8,vi (if 12<((b.Vers).length:Int) then 12 else ((b.Vers).length:Int)))]) 2 [1,2,4,8] c kr λa c=>bd H λu z H=>wc (z3 c d kr 0 (E:=48) (lo:=0) (hi:=(if 12<((b.Vers).length:Int) then 12 else ((b.Vers).length:Int))) rfl rfl rfl kr rfl ⟨_,rfl⟩ z kr kr λf g a c d=>wp 1 [1,2,9,10] c λa c=>wc (wst c d 1 6 1 [sl f u.length g] (sgN 1 jE) λa w c d=>?_))))))
 refine K _ _ (qr λ_ F=>(wp 1 [1,2,11] c λa c=>wc (wld c d 1 7 0 λa c=>wp 1 [1,2,12,13] c λa c=>wc (wld c d 1 7 0 λa c=>jG (L':=[k27 C,k28 D,(12,.slice l (b.Vec).length n),(16,vi (if 40<((b.Vec).length:Int) then 40 else ((b.Vec).length:Int)))]) 2 [1,2,12,16] c kr λa c=>bd H λx A H=>wc (z3 c d kr 2 (E:=32) (lo:=0) (hi:=(if 40<((b.Vec).length:Int) then 40 else ((b.Vec).length:Int))) rfl rfl rfl kr rfl ⟨_,rfl⟩ A kr kr λh i a c d=>wp 1 [1,2,17,18] c λa c=>wc (wst c d 1 7 1 [sl h x.length i] (sgN 1 jE) λa w c d=>?_))))))
 refine F _ _ (qr λ_ G=>wc (wls c d 1 0 14 λa c=>wc (wst c d 0 0 14 (k07 b.Kind b.Id b.N b.TS b.Lo b.Hi f u.length g h x.length i b.Cmd.Kind b.Cmd.DC b.Cmd.Shard b.Cmd.Node b.Cmd.Mode b.Cmd.Key) (sgN 14 jE) λa w c d=>G _ _ (rt ?_))))
 have hS':=d
 cases H
 exact (j7 c d (l3 Tryz.results27 (rvs c hS' 0 0 14)) ⟨f,g,h,i,rfl,(d.pick [1,0] kr).ro,d.newC [] dc kr⟩)
theorem EX (N){F}{f}(K:lL F f)(b:kP)(n)(o)(q)(s)(t)(u)(G : ∀m∈([Ro.mp jF.ty n o b.Msg.Vers,Ro.mp (fInt .u64).ty q s b.Msg.Vec,Ro.mp jF.ty t u b.Writes]:List MP),m.p F f){r}(H:M.wG N b=some r) :
    Calls Tryz.prog 9 #[.agg (flat (k23 b.Kind b.From b.Call b.Msg.Kind b.Msg.Id b.Msg.N b.Msg.TS b.Msg.Lo b.Msg.Hi n (b.Msg.Vers).length o q (b.Msg.Vec).length s b.Msg.Cmd.Kind b.Msg.Cmd.DC b.Msg.Cmd.Shard b.Msg.Cmd.Node b.Msg.Cmd.Mode b.Msg.Cmd.Key b.Key b.T t (b.Writes).length u)).toArray] f (kQ [] F f λv κ w => ∃x y z A B C,v = .agg (flat (k23 r.Kind r.From r.Call r.Msg.Kind r.Msg.Id r.Msg.N r.Msg.TS r.Msg.Lo r.Msg.Hi x (r.Msg.Vers).length y z (r.Msg.Vec).length A r.Msg.Cmd.Kind r.Msg.Cmd.DC r.Msg.Cmd.Shard r.Msg.Cmd.Node r.Msg.Cmd.Mode r.Msg.Cmd.Key r.Key r.T B (r.Writes).length C)).toArray∧(∀m∈([Ro.mp jF.ty x y r.Msg.Vers,Ro.mp (fInt .u64).ty z A r.Msg.Vec,Ro.mp jF.ty B C r.Writes]:List MP),m.p κ w)∧t5 f κ w []):=by
 have e:=SS.start K G
 refine en Tryz.func9 rfl Tryz.ntmps9 λa d=>?_
 unfold M.wG at H
 refine qr λ_ R=>wc (wbx d e (k23 b.Kind b.From b.Call b.Msg.Kind b.Msg.Id b.Msg.N b.Msg.TS b.Msg.Lo b.Msg.Hi n (b.Msg.Vers).length o q (b.Msg.Vec).length s b.Msg.Cmd.Kind b.Msg.Cmd.DC b.Msg.Cmd.Shard b.Msg.Cmd.Node b.Msg.Cmd.Mode b.Msg.Cmd.Key b.Key b.T t (b.Writes).length u) (sgN 20 jE) λS a w d e=>?_)
 refine wc (wal d e (k24 empty) (sgN 20 jE) λL a w d e=>R _ _ (qr λ_ O=>wp 1 [1,2,3] d λa d=>wc (wls d e 1 3 14 λa d=>bd H λc I H=>wc (jS d e kr kr (EY N e.fresh b.Msg n o q s ((e.pick [0,1] kr).ro) I) ?_))))
 rintro _ κ w a ⟨g,h,i,j,rfl,G,U⟩ d e V
 have e:=e.adds G
 refine wp 1 [1,2,5,6] d λa d=>wc (wst d e 1 3 14 (k07 c.Kind c.Id c.N c.TS c.Lo c.Hi g (c.Vers).length h i (c.Vec).length j c.Cmd.Kind c.Cmd.DC c.Cmd.Shard c.Cmd.Node c.Cmd.Mode c.Cmd.Key) (sgN 14 jE) λa w d e=>(O _ _ (qr λ_ P=>(wp 1 [1,2,7] d λa d=>wc (wld d e 1 19 0 λa d=>wp 1 [1,2,8,9] d λa d=>wc (wld d e 1 19 0 λa d=>jG (L':=[k27 S,k28 L,(8,.slice t (b.Writes).length u),(12,vi (if 12<((b.Writes).length:Int) then 12 else ((b.Writes).length:Int)))]) 2 [1,2,8,12] d kr λa d=>?_))))))
 refine bd H λD J H=>wc (z3 d e kr 4 (E:=48) (lo:=0) (hi:=(if 12<((b.Writes).length:Int) then 12 else ((b.Writes).length:Int))) rfl rfl rfl kr rfl ⟨_,rfl⟩ J kr kr λk l a d e=>wp 1 [1,2,13,14] d λa d=>wc (wst d e 1 19 1 [sl k D.length l] (sgN 1 jE) λa w d e=>P _ _ (qr λ_ Q=>wc (wls d e 1 0 20 λa d=>wc (wst d e 0 0 20 (k23 b.Kind b.From b.Call c.Kind c.Id c.N c.TS c.Lo c.Hi g (c.Vers).length h i (c.Vec).length j c.Cmd.Kind c.Cmd.DC c.Cmd.Shard c.Cmd.Node c.Cmd.Mode c.Cmd.Key b.Key b.T k D.length l) (sgN 20 jE) λa w d e=>?_)))))
 refine Q _ _ (rt ?_)
 have hS':=e
 cases H
 exact (j7 d e (l3 Tryz.results9 (rvs d hS' 0 0 20)) ⟨g,h,i,j,k,l,rfl,(e.pick [1,2,0] kr).ro,e.newC [] dc kr⟩)
theorem yM (N){o}{h}(t:lL o h)(D : ∀m∈([]:List MP),m.p o h){r}(H:M.tR N=some r) :
    Calls Tryz.prog 8 #[] h (kQ [] o h λv κ w => ∃j k,v = .slice j r.length k∧(∀m∈([Ro.mp (fInt .i64).ty j k r]:List MP),m.p κ w)∧t5 h κ w [.tok j 3 1 r.length k]):=by
 have d:=SS.start t D
 refine en Tryz.func8 rfl Tryz.ntmps8 λa b=>?_
 unfold M.tR at H
 refine qr λ_ F=>(jG (L':=[]) 1 [] b kr λa b=>(F _ _ (qs λ_ hz=>rl (bd H λe u H=>wc (wB (E:=3) (i:=Tryz.t3) (z:=vi 0) (zm:=0) (kl := .i64) (kc := .i64) b d kr (fInt .i64) rfl kr kr u kr kr kr kr (Nat.le_of_ble_eq_true kr) kr λg a w b d=>wp 1 [1] b λa b=>nl (hz _ _ (qs λ_ G=>qr λ_ I=>(wp 3 [1,5,6] b λa b=>(I _ _ (bk (jX (n:=N) (λn a w => ∃κ,∃f:List Int,∃c,Fr (14) [] [(1,.slice g f.length e.length),(5,vi (e.length:Int)),(6,vi c)] a∧SS [] o h κ w [.ext (ownX (fInt .i64) 3 g (e.length) f)] []∧M.qM N n e f c=some r) ?_ ?_)))))))))))
 exact ⟨_,e,0,b.kp [1,5,6],d.sp [0] [],H⟩
 rintro n a w ⟨κ,f,c,b,d,H⟩
 rcases n with _|q
 simp [M.qM] at H
 simp only [M.qM] at H
 refine qr λ_ x=>wp 1 [1,5,6,7] b λa b=>x _ _ (qs λ_ y=>bc b H (λhb H=>?_) λhb H=>?_)
 refine sk (y _ _ (qs λ_ A=>bk (qr λ_ B=>(wp 2 [1,2,5,6] b λa b=>(B _ _ (rl (jG (L':=[(1,.slice g f.length e.length),(5,vi (e.length:Int)),(6,vi c),(9,.slice g f.length e.length),k2b c]) 2 [1,5,6,9,10] b kr λa b=>bd H λJ l H=>wc (uA b d kr 0 (sz:=1) rfl rfl rfl rfl rfl l kr kr λK L a s b=>wc (sL b d kr 0 (z:=2) rfl rfl rfl rfl s l rfl kr rfl kr (Cf:=(λnn=>[.ext (ownX (fInt .i64) 3 g (e.length) (set f (toNat c) 2))])) (Lf:=(λnn=>[(1,.slice g nn e.length),(5,vi (e.length:Int)),(6,vi c),(9,.slice g nn e.length),(10,vi c)])) [1,5,6,9,10] kr kr λa w b d=>?_)))))))))
 refine A _ _ (rl (wp 2 [1,5,6] b λa b=>nl ?_))
 exact ⟨q,Nat.lt_succ_self _,_,(set f (toNat c) 2),i64.wrap (c+1),b.kp [1,5,6],d.sp [0] [],H⟩
 refine xt (G _ _ (qr λ_ C=>wp 2 [0] b λa b=>C _ _ (rt ?_)))
 obtain ⟨κ,d⟩:=d.pubO 0 rfl
 cases H
 exact (j7 b d (l3 Tryz.results8 (rvt b)) ⟨g,e.length,rfl,(d.pick [0] kr).ro,d.newC [0] dc kr⟩)
end Go.Cf
