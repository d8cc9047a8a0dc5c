/- The walks: each function returns what its model says. Printed by a program of ours. -/
import Derived.Test.YtcplebnnanjngaaGreatZSh
import Derived.Test.YtcplebnnanjngaaGreatZM1
namespace Go.Cf
open Go Go.Proofs Tryz
open _root_.Int(toNat tdiv tmod)
open _root_.List(set replicate)
open _root_.ByteArray(empty)
open Go.IntKind(i64 u64)
set_option linter.unusedVariables false
set_option maxRecDepth 20000
set_option maxHeartbeats 8000000
theorem FS (N){y}{e}(B:lG y e)(c:jF)(j)(k)(l)(n)(I : ∀m∈([Ro.mp jG.ty j k c.Vers,Ro.mp (fInt .u64).ty l n c.Vec]:List MP),m.p y e){r}(H:M.yN N c=some r) :
    Calls Tryz.prog 27 #[.agg (flat (k0c c j k l n)).toArray] e (kP [] y e λv κ w=>∃o q s t,v = .agg (flat (k0c r o q s t)).toArray∧(∀m∈([Ro.mp jG.ty o q r.Vers,Ro.mp (fInt .u64).ty s t r.Vec]:List MP),m.p κ w)∧sJ e κ w []):=by
 have d:=SS.start B I
 refine en func27 rfl ntmps27 λa b=>?_
 unfold M.yN at H
 refine qr λ_ J=>wc (wbx b d (k0c c j k l n) (sgN 14 jD) λC a w b d=>wc (wal b d [si 0,su 0,su 0,su 0,sg empty,sg empty,k37,k37,si 0,si 0,si 0,si 0,si 0,sg empty] (sgN 14 jD) λD a w b d=>?_))
 refine J _ _ (qr λ_ K=>(wp 1 [1,2,3] b λa b=>wc (wld b d 1 6 0 λa b=>wp 1 [1,2,4,5] b λa b=>wc (wld b d 1 6 0 λa b=>jE (L':=[k2w C,k2x D,(4,.slice j c.Vers.length k),(8,vi (if 12<(c.Vers.length:Int) then 12 else (c.Vers.length:Int)))]) 2 [1,2,4,8] b kr λa b=>bd H λu z H=>wc (zM b d kr 0 (E:=48) (lo:=0) (hi:=(if 12<(c.Vers.length:Int) then 12 else (c.Vers.length:Int))) rfl rfl rfl kr rfl ⟨_,rfl⟩ z kr kr λf g a b d=>wp 1 [1,2,9,10] b λa b=>wc (wst b d 1 6 1 [sl f u.length g] (sgN 1 jD) λa w b d=>?_))))))
 refine K _ _ (qr λ_ F=>(wp 1 [1,2,11] b λa b=>wc (wld b d 1 7 0 λa b=>wp 1 [1,2,12,13] b λa b=>wc (wld b d 1 7 0 λa b=>jE (L':=[k2w C,k2x D,(12,.slice l c.Vec.length n),(16,vi (if 40<(c.Vec.length:Int) then 40 else (c.Vec.length:Int)))]) 2 [1,2,12,16] b kr λa b=>bd H λx A H=>wc (zM b d kr 2 (E:=32) (lo:=0) (hi:=(if 40<(c.Vec.length:Int) then 40 else (c.Vec.length:Int))) rfl rfl rfl kr rfl ⟨_,rfl⟩ A kr kr λh i a b d=>wp 1 [1,2,17,18] b λa b=>wc (wst b d 1 7 1 [sl h x.length i] (sgN 1 jD) λa w b d=>?_))))))
 refine F _ _ (qr λ_ G=>wc (wls b d 1 0 14 λa b=>wc (wst b d 0 0 14 [si c.Kind,su c.Id,su c.N,su c.TS,sg c.Lo,sg c.Hi,sl f u.length g,sl h x.length i,si c.Cmd.Kind,si c.Cmd.DC,si c.Cmd.Shard,si c.Cmd.Node,si c.Cmd.Mode,sg c.Cmd.Key] (sgN 14 jD) λa w b d=>G _ _ (rt ?_))))
 have hS':=d
 cases H
 exact (j7 b d (l4 results27 (rvs b hS' 0 0 14)) ⟨f,g,h,i,rfl,(d.pick [1,0] kr).ro,d.newC [] dc kr⟩)
theorem FR (N){F}{f}(K:lG F f)(e:kG)(n)(o)(q)(s)(t)(u)(G : ∀m∈([Ro.mp jG.ty n o e.Msg.Vers,Ro.mp (fInt .u64).ty q s e.Msg.Vec,Ro.mp jG.ty t u e.Writes]:List MP),m.p F f){r}(H:M.wQ N e=some r) :
    Calls Tryz.prog 9 #[.agg (flat (k2p e n o q s t u)).toArray] f (kP [] F f λv κ w=>∃x y z A B C,v = .agg (flat (k2p r x y z A B C)).toArray∧(∀m∈([Ro.mp jG.ty x y r.Msg.Vers,Ro.mp (fInt .u64).ty z A r.Msg.Vec,Ro.mp jG.ty B C r.Writes]:List MP),m.p κ w)∧sJ f κ w []):=by
 have c:=SS.start K G
 refine en func9 rfl ntmps9 λa b=>?_
 unfold M.wQ at H
 refine qr λ_ R=>wc (wbx b c (k2p e n o q s t u) (sgN 20 jD) λS a w b c=>?_)
 refine wc (wal b c (k2q empty) (sgN 20 jD) λL a w b c=>R _ _ (qr λ_ O=>wp 1 [1,2,3] b λa b=>wc (wls b c 1 3 14 λa b=>bd H λd I H=>wc (jR b c kr kr (FS N c.fresh e.Msg n o q s ((c.pick [0,1] kr).ro) I) ?_))))
 rintro _ κ w a ⟨g,h,i,j,rfl,G,U⟩ b c V
 have c:=c.adds G
 refine wp 1 [1,2,5,6] b λa b=>wc (wst b c 1 3 14 (k0c d g h i j) (sgN 14 jD) λa w b c=>(O _ _ (qr λ_ P=>(wp 1 [1,2,7] b λa b=>wc (wld b c 1 19 0 λa b=>wp 1 [1,2,8,9] b λa b=>wc (wld b c 1 19 0 λa b=>jE (L':=[k2w S,k2x L,(8,.slice t e.Writes.length u),(12,vi (if 12<(e.Writes.length:Int) then 12 else (e.Writes.length:Int)))]) 2 [1,2,8,12] b kr λa b=>?_))))))
 refine bd H λD J H=>wc (zM b c kr 4 (E:=48) (lo:=0) (hi:=(if 12<(e.Writes.length:Int) then 12 else (e.Writes.length:Int))) rfl rfl rfl kr rfl ⟨_,rfl⟩ J kr kr λk l a b c=>wp 1 [1,2,13,14] b λa b=>wc (wst b c 1 19 1 [sl k D.length l] (sgN 1 jD) λa w b c=>P _ _ (qr λ_ Q=>wc (wls b c 1 0 20 λa b=>wc (wst b c 0 0 20 [si e.Kind,si e.From,si e.Call,si d.Kind,su d.Id,su d.N,su d.TS,sg d.Lo,sg d.Hi,sl g d.Vers.length h,sl i d.Vec.length j,si d.Cmd.Kind,si d.Cmd.DC,si d.Cmd.Shard,si d.Cmd.Node,si d.Cmd.Mode,sg d.Cmd.Key,sg e.Key,su e.T,sl k D.length l] (sgN 20 jD) λa w b c=>?_)))))
 refine Q _ _ (rt ?_)
 have hS':=c
 cases H
 exact (j7 b c (l4 results9 (rvs b hS' 0 0 20)) ⟨g,h,i,j,k,l,rfl,(c.pick [1,2,0] kr).ro,c.newC [] dc kr⟩)
theorem z2 (N){o}{h}(t:lG o h)(D : ∀m∈([]:List MP),m.p o h){r}(H:M.tY N=some r) :
    Calls Tryz.prog 8 #[] h (kP [] o h λv κ w=>∃j k,v = .slice j r.length k∧(∀m∈([Ro.mp (fInt .i64).ty j k r]:List MP),m.p κ w)∧sJ h κ w [.tok j 3 1 r.length k]):=by
 have d:=SS.start t D
 refine en func8 rfl ntmps8 λa b=>?_
 unfold M.tY at H
 refine qr λ_ F=>(jE (L':=[]) 1 [] b kr λa b=>(F _ _ (qs λ_ hz=>rl (bd H λe u H=>wc (wL (E:=3) (i:=Tryz.t3) (z:=vi 0) (zm:=0) (kl := .i64) (kc := .i64) b d kr (fInt .i64) rfl kr kr u kr kr kr kr (Nat.le_of_ble_eq_true kr) kr λg a w b d=>wp 1 [1] b λa b=>nl (hz _ _ (qs λ_ G=>qr λ_ I=>(wp 3 [1,5,6] b λa b=>(I _ _ (bk (jT (n:=N) (λn a w=>∃κ,∃f:List Int,∃c,Fr (14) [] [(1,.slice g f.length e.length),(5,vi (e.length:Int)),(6,vi c)] a∧SS [] o h κ w [.ext (ownX (fInt .i64) 3 g (e.length) f)] []∧M.qS N n e f c=some r) ?_ ?_)))))))))))
 exact ⟨_,e,0,b.kp [1,5,6],d.sp [0] [],H⟩
 rintro n a w ⟨κ,f,c,b,d,H⟩
 rcases n with _|q
 simp [M.qS] at H
 simp only [M.qS] at H
 refine qr λ_ x=>wp 1 [1,5,6,7] b λa b=>x _ _ (qs λ_ y=>bc b H (λhb H=>?_) λhb H=>?_)
 refine sk (y _ _ (qs λ_ A=>bk (qr λ_ B=>(wp 2 [1,2,5,6] b λa b=>(B _ _ (rl (jE (L':=[(1,.slice g f.length e.length),(5,vi (e.length:Int)),(6,vi c),(9,.slice g f.length e.length),k30 c]) 2 [1,5,6,9,10] b kr λa b=>bd H λJ l H=>wc (uJ b d kr 0 (sz:=1) rfl rfl rfl rfl rfl l kr kr λK L a s b=>wc (sR b d kr 0 (z:=2) rfl rfl rfl rfl s l rfl kr rfl kr (Cf:=(λnn=>[.ext (ownX (fInt .i64) 3 g (e.length) (set f (toNat c) 2))])) (Lf:=(λnn=>[(1,.slice g nn e.length),(5,vi (e.length:Int)),(6,vi c),(9,.slice g nn e.length),(10,vi c)])) [1,5,6,9,10] kr kr λa w b d=>?_)))))))))
 refine A _ _ (rl (wp 2 [1,5,6] b λa b=>nl ?_))
 exact ⟨q,jb _,_,(set f (toNat c) 2),i64.wrap (c+1),b.kp [1,5,6],d.sp [0] [],H⟩
 refine xt (G _ _ (qr λ_ C=>wp 2 [0] b λa b=>C _ _ (rt ?_)))
 obtain ⟨κ,d⟩:=d.pubO 0 rfl
 cases H
 exact (j7 b d (l4 results8 (rvt b)) ⟨g,e.length,rfl,(d.pick [0] kr).ro,d.newC [0] dc kr⟩)
end Go.Cf
