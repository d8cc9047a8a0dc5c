/- The walks: each function returns what its model says. Printed by a program of ours. -/
import Derived.Test.YtcplebnnanjngaaGreatZSh
import Derived.Test.YtcplebnnanjngaaGreatZM1
import Derived.Test.YtcplebnnanjngaaGreatZWv
namespace Go.Cf
open Go Go.Proofs Tryz
open _root_.Int(toNat tdiv tmod)
open _root_.List(set replicate)
open _root_.ByteArray(empty)
open Go.IntKind(i64 u64)
set_option linter.unusedVariables false
set_option maxRecDepth 20000
set_option maxHeartbeats 8000000
theorem zF (N){C}{D}{B}(n)(G)(o)(U:SB C D B [] [(ml o 4)]){r}(H:M.vT N n G o=some r) :
    Calls Tryz.prog 23 #[vi n,vi G,.agg (flat [eb 4 o]).toArray] B (kP C D B λv κ w=>∃K L,v = .tuple #[.pointer (pa K),vi r.2]∧SS C D B κ w [k31 K L r.1] []):=by
 have b:=U.hS
 have Z:=b.fresh
 refine en func23 rfl ntmps23 λa d=>?_
 unfold M.vT at H
 refine qr λ_ V=>wc (wbx d b [eb 4 o] (kS (b.get 0 rfl) jD) λO a w d b=>wp 2 [0,1,5] d λa d=>V _ _ (qs λ_ W=>qr λ_ X=>bd H λY l H=>k8 (λa w=>∃κ,Fr (31) [] [(0,vi n),k2z G,k32 O,(21,vb Y)] a∧SS C D B κ w [k33 O o] [(ml o 4)]∧True) ?_ ?_))
 refine wp 3 [0,1,5,10] d λa d=>bs l (λhb l=>?_) λhb l=>?_
 have d:=d.bv 10 hb
 refine wp 11 [0,1,5,21] d λa d=>nl ?_
 cases l
 exact ⟨_,d.kp [0,1,5,21],b.sp [0] [0],ja⟩
 have d:=d.bv 10 hb
 refine wp 4 [0,1,5,14] d λa d=>bs l (λhb l=>?_) λhb l=>?_
 have d:=d.bv 14 hb
 refine wp 7 [0,1,5,21] d λa d=>nl ?_
 cases l
 exact ⟨_,d.kp [0,1,5,21],b.sp [0] [0],ja⟩
 have d:=d.bv 14 hb
 refine wp 4 [0,1,5,18] d λa d=>bs l (λhb l=>?_) λhb l=>?_
 have d:=d.bv 18 hb
 refine wp 3 [0,1,5,21] d λa d=>nl ?_
 cases l
 exact ⟨_,d.kp [0,1,5,21],b.sp [0] [0],ja⟩
 have d:=d.bv 18 hb
 refine wp 3 [0,1,5,21] d λa d=>nl ?_
 cases l
 exact ⟨_,d.kp [0,1,5,21],b.sp [0] [0],ja⟩
 rintro a w ⟨κ,d,b,-⟩
 refine X _ _ (bc d H (λhb H=>?_) λhb H=>?_)
 refine qr λ_ R=>wp 2 [6,7] d λa d=>R _ _ (rt ?_)
 have b:=b.addOpt o_stab_Table
 cases H
 exact j7 d b (tB results23 (rvt d) (rvt d)) ⟨none,[],rfl,b.sp [0] []⟩
 refine sk (W _ _ (qs λ_ S=>bd H λe m H=>kL (λa w=>∃κ q y A,Fr (31) [] [k2y q,(7,vi 0)] a∧SS C D B κ w [.box q 109 [si n,sl y e.1.length A,si e.2.1,eb 4 e.2.2.1,k2t e.2.2.2.1,si e.u4.1,eb 4 e.u4.2.1,k2t e.u4.2.2,su 0],.ext (ownX (fInt .u64) 32 y A e.1)] [(ml e.2.2.1 4),(ml e.2.2.2.1 4),(ml e.u4.2.1 4),(ml e.u4.2.2 4)]∧True) ?_ ?_))
 refine rgS b [] ?_
 have b:=b.drew
 have P:=b.fx
 refine bd m λf u m=>bd m λg F m=>bd m λj x m=>jN [0,1] [5,22,23] (L':=[k32 O,(22,vi n),(23,vi G)]) (listed':=(mV 11 3)) (fuel:=9) d P kr (by intro c a w t v h; cases t<;>exact h) kr rfl λa d=>atk 3 (some 25) d P rfl (vls 0 0 1) λa d=>atk 5 (some 27) d P rfl (vls 0 0 1) λa d=>H2 2 4 d rfl rfl ?_ ?_
 refine wL (E:=32) (i:=Tryz.t32) (z:=vu 0) (zm:=0) (kl := .i64) (kc := .i64) d b kr (fInt .u64) rfl kr kr u kr kr kr kr (Nat.le_of_ble_eq_true kr) kr λk a w d b=>⟨λ_=>(b.sx [1] [0]),?_⟩
 refine ago 4 d rfl (jR d b kr kr (vS N b.fresh 0 o ((b.pick [0] kr).ro) F) ?_)
 rintro _ κ w a ⟨rfl,p,I⟩ d b J
 have b:=b.adds p
 refine ⟨λ_=>(b.sx [1] [2]),?_⟩
 refine ago 6 d rfl (jR d b kr kr (vS N b.fresh 0 o ((b.pick [2] kr).ro) x) ?_)
 rintro _ κ w a ⟨rfl,p,I⟩ d b J
 have b:=b.adds p
 refine ⟨λ_=>(b.sx [1] [4]),?_⟩
 refine ago 7 d rfl (kQ d kr (v := .agg (flat (k04 n k f.length g j)).toArray) (yD (rows:=[[si 0],[sl none 0 0],[si 0,eb 4 (replicate 4 false),(4,(encs (fInt .u64) (replicate 4 0)))],[si 0,eb 4 (replicate 4 false),(4,(encs (fInt .u64) (replicate 4 0)))],[su 0]]) (vals:=[(0,[si n]),(1,[sl k f.length f.length]),(2,[si g.Epoch,eb 4 g.Has,(4,(encs (fInt .u64) g.T))]),(3,[si j.Epoch,eb 4 j.Has,(4,(encs (fInt .u64) j.T))])]) (sizes:=[1,1,9,9,1]) (s':=k04 n k f.length g j) rfl kr kr kr kr kr (sgN 3 (kS (b.get 2 rfl) (kS (b.get 3 rfl) (sgN 1 (kS (b.get 0 rfl) (kS (b.get 1 rfl) jD)))))) kr kr _) λa d=>?_)
 refine ⟨λ_=>(b.sx [1] [4]),?_⟩
 refine ago 8 d rfl (wbx d b (k04 n k f.length g j) (sgN 3 (kS (b.get 2 rfl) (kS (b.get 3 rfl) (sgN 1 (kS (b.get 0 rfl) (kS (b.get 1 rfl) (sgN 1 jD))))))) λs a w d b=>⟨λ_=>(b.sx [2] [4]),?_⟩)
 refine anp [9,10] [6,7] d (b.sx [2] [4]) λa d=>kN ?_
 cases m
 exact ⟨_,s,k,f.length,d.kp [6,7],b.sp [0,1] [2,3,0,1],ja⟩
 refine jR d b kr kr (vS N b.fresh 0 o ((b.pick [0] kr).ro) F) ?_
 rintro _ κ w a ⟨rfl,p,I⟩ d b J
 have b:=b.adds p
 refine ⟨λ_=>(b.sx [0] [2]),?_⟩
 refine H2 2 6 d rfl rfl ?_ ?_
 refine wL (E:=32) (i:=Tryz.t32) (z:=vu 0) (zm:=0) (kl := .i64) (kc := .i64) d b kr (fInt .u64) rfl kr kr u kr kr kr kr (Nat.le_of_ble_eq_true kr) kr λk a w d b=>⟨λ_=>(b.sx [1] [2]),?_⟩
 refine ago 6 d rfl (jR d b kr kr (vS N b.fresh 0 o ((b.pick [2] kr).ro) x) ?_)
 rintro _ κ w a ⟨rfl,p,I⟩ d b J
 have b:=b.adds p
 refine ⟨λ_=>(b.sx [1] [4]),?_⟩
 refine ago 7 d rfl (kQ d kr (v := .agg (flat (k04 n k f.length g j)).toArray) (yD (rows:=[[si 0],[sl none 0 0],[si 0,eb 4 (replicate 4 false),(4,(encs (fInt .u64) (replicate 4 0)))],[si 0,eb 4 (replicate 4 false),(4,(encs (fInt .u64) (replicate 4 0)))],[su 0]]) (vals:=[(0,[si n]),(1,[sl k f.length f.length]),(2,[si g.Epoch,eb 4 g.Has,(4,(encs (fInt .u64) g.T))]),(3,[si j.Epoch,eb 4 j.Has,(4,(encs (fInt .u64) j.T))])]) (sizes:=[1,1,9,9,1]) (s':=k04 n k f.length g j) rfl kr kr kr kr kr (sgN 3 (kS (b.get 2 rfl) (kS (b.get 3 rfl) (sgN 1 (kS (b.get 0 rfl) (kS (b.get 1 rfl) jD)))))) kr kr _) λa d=>?_)
 refine ⟨λ_=>(b.sx [1] [4]),?_⟩
 refine ago 8 d rfl (wbx d b (k04 n k f.length g j) (sgN 3 (kS (b.get 2 rfl) (kS (b.get 3 rfl) (sgN 1 (kS (b.get 0 rfl) (kS (b.get 1 rfl) (sgN 1 jD))))))) λs a w d b=>⟨λ_=>(b.sx [2] [4]),?_⟩)
 refine anp [9,10] [6,7] d (b.sx [2] [4]) λa d=>kN ?_
 cases m
 exact ⟨_,s,k,f.length,d.kp [6,7],b.sp [0,1] [2,3,0,1],ja⟩
 refine jR d b kr kr (vS N b.fresh 0 o ((b.pick [2] kr).ro) x) ?_
 rintro _ κ w a ⟨rfl,p,I⟩ d b J
 have b:=b.adds p
 refine ⟨λ_=>(b.sx [0] [4]),?_⟩
 refine ago 2 d rfl (wL (E:=32) (i:=Tryz.t32) (z:=vu 0) (zm:=0) (kl := .i64) (kc := .i64) d b kr (fInt .u64) rfl kr kr u kr kr kr kr (Nat.le_of_ble_eq_true kr) kr λk a w d b=>⟨λ_=>(b.sx [1] [4]),?_⟩)
 refine ago 7 d rfl (kQ d kr (v := .agg (flat (k04 n k f.length g j)).toArray) (yD (rows:=[[si 0],[sl none 0 0],[si 0,eb 4 (replicate 4 false),(4,(encs (fInt .u64) (replicate 4 0)))],[si 0,eb 4 (replicate 4 false),(4,(encs (fInt .u64) (replicate 4 0)))],[su 0]]) (vals:=[(0,[si n]),(1,[sl k f.length f.length]),(2,[si g.Epoch,eb 4 g.Has,(4,(encs (fInt .u64) g.T))]),(3,[si j.Epoch,eb 4 j.Has,(4,(encs (fInt .u64) j.T))])]) (sizes:=[1,1,9,9,1]) (s':=k04 n k f.length g j) rfl kr kr kr kr kr (sgN 3 (kS (b.get 2 rfl) (kS (b.get 3 rfl) (sgN 1 (kS (b.get 0 rfl) (kS (b.get 1 rfl) jD)))))) kr kr _) λa d=>?_)
 refine ⟨λ_=>(b.sx [1] [4]),?_⟩
 refine ago 8 d rfl (wbx d b (k04 n k f.length g j) (sgN 3 (kS (b.get 2 rfl) (kS (b.get 3 rfl) (sgN 1 (kS (b.get 0 rfl) (kS (b.get 1 rfl) (sgN 1 jD))))))) λs a w d b=>⟨λ_=>(b.sx [2] [4]),?_⟩)
 refine anp [9,10] [6,7] d (b.sx [2] [4]) λa d=>kN ?_
 cases m
 exact ⟨_,s,k,f.length,d.kp [6,7],b.sp [0,1] [2,3,0,1],ja⟩
 rintro a w ⟨κ,q,y,A,d,b,-⟩
 refine S _ _ (rt ?_)
 obtain ⟨Q,b⟩:=b.foldI (ck:=jP) (fs:=jO) q (y,A) (j4.mk n e.1 (jY.mk e.2.1 e.2.2.1 e.2.2.2.1) (jY.mk e.u4.1 e.u4.2.1 e.u4.2.2) 0) [0,1] [] (rg 4) dc kr kr
 cases H
 exact j7 d b (tB results23 (rvt d) (rvt d)) ⟨(some q),Q,rfl,b.sp [0] []⟩
theorem tI (N){h}{i}{d}(c:j4)(e)(f)(j)(k:SB h i d (k05 j c e f (ownX (fInt .u64) 32 e f c.beats)) [(ml c.got.Has 4),(ml c.got.T 4),(ml c.known.Has 4),(ml c.known.T 4)]){r}(H:M.nX N c=some r) :
    Calls Tryz.prog 28 #[pt j 0] d (kP h i d λv κ w=>v=vu r∧SS h i d κ w (k05 j c e f (ownX (fInt .u64) 32 e f c.beats)) []):=by
 have g:=k.hS
 have p:=g.fresh
 refine en func28 rfl ntmps28 λa b=>?_
 unfold M.nX at H
 refine qr λ_ l=>wp 1 [0] b λa b=>l _ _ (qs λ_ m=>qr λ_ n=>wp 2 [0,4] b λa b=>n _ _ (cf b rfl (sk (m _ _ (qr λ_ o=>wp 3 [7] b λa b=>wc (wld b g 0 8 0 λa b=>wp 1 [2] b λa b=>o _ _ (rt ?_)))))))
 cases H
 exact j7 b g (l4 results28 (rvt b)) ⟨rfl,g.sp [0,1] []⟩
theorem w6 (N){m}{o}{j}(c:j4)(g)(h)(i)(E:SB m o j (k05 i c g h (ownX (fInt .u64) 32 g h c.beats)) [(ml c.got.Has 4),(ml c.got.T 4),(ml c.known.Has 4),(ml c.known.T 4)]){r}(H:M.qJ N c=some r) :
    Calls Tryz.prog 40 #[pt i 0] j (kP m o j λv κ w=>v=vu r∧SS m o j κ w (k05 i c g h (ownX (fInt .u64) 32 g h c.beats)) []):=by
 have d:=E.hS
 have K:=d.fresh
 refine en func40 rfl ntmps40 λa b=>?_
 unfold M.qJ at H
 refine qr λ_ F=>(wp 1 [0] b λa b=>(F _ _ (qs λ_ G=>qr λ_ I=>(wp 2 [0,7] b λa b=>(I _ _ (cf b rfl (sk (G _ _ (qr λ_ J=>(jE (L':=[k35 i,(10,pt i 1)]) 3 [0,10] b kr λa b=>wc (wld b d 0 1 0 λa b=>bd H λu s H=>wc (uJ b d kr 1 (sz:=1) rfl rfl rfl rfl rfl s kr kr λL O a t b=>wc (zP b d kr 1 (v:=vu u) rfl rfl t rfl s rfl kr kr λa b=>wp 1 [0,3] b λa b=>J _ _ (qs λ_ x=>qr λ_ y=>wp 3 [3,16] b λa b=>wc (wld b d 0 1 0 λa b=>wp 2 [3,17,18,19] b λa b=>?_)))))))))))))))
 refine y _ _ (bk (jT (n:=N) (λn a w=>∃κ e f,Fr (28) [] [(3,vu e),(17,.slice g c.beats.length h),(18,vi (c.beats.length:Int)),(19,vi f)] a∧SS m o j κ w (k05 i c g h (ownX (fInt .u64) 32 g h c.beats)) [(ml c.got.Has 4),(ml c.got.T 4),(ml c.known.Has 4),(ml c.known.T 4)]∧M.nS N n c e f=some r) ?_ ?_))
 exact ⟨_,u,0,b.kp [3,17,18,19],d.sp [0,1] (rg 4),H⟩
 rintro n a w ⟨κ,e,f,b,d,H⟩
 rcases n with _|p
 simp [M.nS] at H
 simp only [M.nS] at H
 refine qr λ_ z=>(jE (L':=[(3,vu e),(17,.slice g c.beats.length h),(18,vi (c.beats.length:Int)),(19,vi f),(20,vb (decide (f<(c.beats.length:Int))))]) 1 [3,17,18,19,20] b kr λa b=>z _ _ (qs λ_ A=>bc b H (λhb H=>?_) λhb H=>?_))
 refine sk (A _ _ (qs λ_ B=>bk (qr λ_ C=>(bd H λk l H=>wc (uJ b d kr 1 (sz:=1) rfl rfl rfl rfl rfl l kr kr λP Q a q b=>wc (zP b d kr 1 (v:=vu k) rfl rfl q rfl l rfl kr kr λa b=>wp 1 [3,5,17,18,19] b λa b=>C _ _ (rl (wp 4 [3,17,18,19] b λa b=>B _ _ (rl (wp 2 [3,17,18,19] b λa b=>nl ?_))))))))))
 exact ⟨p,jb _,_,(if k<e then k else e),i64.wrap (f+1),b.kp [3,17,18,19],d.sp [0,1] (rg 4),H⟩
 refine xt (x _ _ (qr λ_ D=>wp 2 [2] b λa b=>D _ _ (rt ?_)))
 cases H
 exact j7 b d (l4 results40 (rvt b)) ⟨rfl,d.sp [0,1] []⟩
theorem pN (N){h}{i}{e}(d:j4)(f)(g)(j)(k:SB h i e (k05 j d f g (ownX (fInt .u64) 32 f g d.beats)) [(ml d.got.Has 4),(ml d.got.T 4),(ml d.known.Has 4),(ml d.known.T 4)]){r}(H:M.m0 N d=some r) :
    Calls Tryz.prog 39 #[pt j 0] e (kP h i e λv κ w=>v = .agg (flat [eb 4 r]).toArray∧SS h i e κ w (k05 j d f g (ownX (fInt .u64) 32 f g d.beats)) [(ml r 4)]):=by
 have c:=k.hS
 have q:=c.fresh
 refine en func39 rfl ntmps39 λa b=>?_
 unfold M.m0 at H
 refine qr λ_ l=>?_
 have c:=c.add (m:=ml (replicate 4 false) 4) (List.length_replicate)
 refine wc (wal b c [eb 4 (replicate 4 false)] (kS List.length_replicate jD) λs a w b c=>l _ _ (qs λ_ n=>qr λ_ o=>wp 2 [0,2,4] b λa b=>o _ _ (cf b rfl (sk (n _ _ (qr λ_ p=>wp 4 [2,9] b λa b=>wc (wls b c 1 3 1 λa b=>wc (wst b c 0 0 1 [eb 4 d.got.Has] (kS (c.get 1 rfl) jD) λa w b c=>p _ _ (rt ?_)))))))))
 have hS':=c
 cases H
 exact j7 b c (l4 results39 (rvs b hS' 0 0 1)) ⟨rfl,c.sp [1,2] [1]⟩
theorem vC (N){i}{j}{g}(d:j4)(e)(f)(h)(k:SB i j g (k05 h d e f (ownX (fInt .u64) 32 e f d.beats)) [(ml d.got.Has 4),(ml d.got.T 4),(ml d.known.Has 4),(ml d.known.T 4)]){r}(H:M.pE N d=some r) :
    Calls Tryz.prog 42 #[pt h 0] g (kP i j g λv κ w=>v=vu r∧SS i j g κ w (k05 h d e f (ownX (fInt .u64) 32 e f d.beats)) []):=by
 have c:=k.hS
 have D:=c.fresh
 refine en func42 rfl ntmps42 λa b=>?_
 unfold M.pE at H
 refine qr λ_ t=>wp 1 [0] b λa b=>t _ _ (qs λ_ u=>qr λ_ x=>wp 2 [0,6] b λa b=>x _ _ (cf b rfl (sk (u _ _ (qs λ_ y=>rgS c [] ?_)))))
 have c:=c.drew
 have l:=c.fx
 refine bd H λz o H=>bd H λp m H=>bd H λE n H=>anp [0,1,2,4,5,6,8] [10,14,16] b l λa b=>atk 3 (some 11) b l rfl (vls 0 2 3) λa b=>atk 7 (some 15) b l rfl (vld 0 0 0) λa b=>ago 9 b rfl (wcS 2 [0,1] b c (λc=>w6 N d e f h (c.sbK (rg 4)) o) ?_)
 rintro _ κ w a ⟨rfl,A⟩ b k
 have c:=k _ _ A
 refine ⟨λ_=>(c.sx [0,1] (rg 4)),?_⟩
 refine ago 10 b rfl (jR b c kr kr (wC N c.fresh d.got d.dc z ((c.pick [0,1] kr).ro) m) ?_)
 rintro _ κ w a ⟨rfl,q,B⟩ b c C
 have c:=c.adds q
 refine ⟨λ_=>(c.sx [0,1] (ra 2 4)),?_⟩
 refine ago 11 b rfl (jR b c kr kr (BA N c.fresh p ((c.pick [0,1] kr).ro) n) ?_)
 rintro _ κ w a ⟨rfl,q,B⟩ b c C
 refine ⟨λ_=>(c.sx [0,1] (ra 2 4)),?_⟩
 refine anp (ra 12 5) [3] b (c.sx [0,1] (ra 2 4)) λa b=>kN (y _ _ (qr λ_ s=>wp 2 [2] b λa b=>s _ _ (rt ?_)))
 cases H
 exact j7 b c (l4 results42 (rvt b)) ⟨rfl,c.sp [0,1] []⟩
theorem rJ (N){j}{k}{e}(d:j4)(f)(g)(h)(l:SB j k e (k05 h d f g (ownX (fInt .u64) 32 f g d.beats)) [(ml d.got.Has 4),(ml d.got.T 4),(ml d.known.Has 4),(ml d.known.T 4)]){r}(H:M.mW N d=some r) :
    Calls Tryz.prog 96 #[pt h 0] e (kP j k e λv κ w=>∃n i,v = .tuple #[]∧SS j k e κ w (k05 h r n i (ownX (fInt .u64) 32 n i r.beats)) [(ml r.got.Has 4),(ml r.got.T 4),(ml r.known.Has 4),(ml r.known.T 4)]):=by
 have b:=l.hS
 have C:=b.fresh
 refine en func96 rfl ntmps96 λa c=>?_
 unfold M.mW at H
 refine qs λ_ u=>rgS b [] ?_
 have b:=b.drew
 have m:=b.fx
 refine bd H λx o H=>bd H λy p H=>bd H λq s H=>anp [0,1,2,4,5,6,8] [0,7,11,13] c m λa c=>atk 3 (some 8) c m rfl (vls 0 5 3) λa c=>atk 7 (some 12) c m rfl (vld 0 0 0) λa c=>ago 9 c rfl (wcS 2 [0,1] c b (λb=>vC N d f g h (b.sbK (rg 4)) o) ?_)
 rintro _ κ w a ⟨rfl,z⟩ c l
 have b:=l _ _ z
 refine ⟨λ_=>(b.sx [0,1] (rg 4)),?_⟩
 refine ago 10 c rfl (jR c b kr kr (wC N b.fresh d.known d.dc x ((b.pick [2,3] kr).ro) p) ?_)
 rintro _ κ w a ⟨rfl,t,A⟩ c b B
 have b:=b.adds t
 refine ⟨λ_=>(b.sx [0,1] (ra 2 4)),?_⟩
 refine ago 11 c rfl (jR c b kr kr (BA N b.fresh y ((b.pick [0,1] kr).ro) s) ?_)
 rintro _ κ w a ⟨rfl,t,A⟩ c b B
 refine ⟨λ_=>(b.sx [0,1] (ra 2 4)),?_⟩
 refine anp (ra 12 5) [0,2] c (b.sx [0,1] (ra 2 4)) λa c=>kN (u _ _ (rl (wp 4 [2,19,22] c λa c=>wc (wld c b 0 8 0 λa c=>wp 4 [25,27] c λa c=>wc (wst c b 0 8 1 [su (if q.1 > d.stable then q.1 else d.stable)] (sgN 1 jD) λa w c b=>nl ?_)))))
 cases H
 exact j7 c b (mL results96) ⟨f,g,rfl,b.sp [0,1] (ra 2 4)⟩
theorem A2 (N){u}{x}{s}(d:j4)(m)(g)(k)(l)(i)(B:SB u x s (k05 i d k l (ownX (fInt .u64) 32 k l d.beats)) [(ml d.got.Has 4),(ml d.got.T 4),(ml d.known.Has 4),(ml d.known.T 4)]){r}(H:M.s6 N d m g=some r) :
    Calls Tryz.prog 75 #[pt i 0,vi m,vu g] s (kP u x s λv κ w=>∃y A,v = .tuple #[]∧SS u x s κ w (k05 i r y A (ownX (fInt .u64) 32 y A r.beats)) [(ml r.got.Has 4),(ml r.got.T 4),(ml r.known.Has 4),(ml r.known.T 4)]):=by
 have e:=B.hS
 have P:=e.fresh
 refine en func75 rfl ntmps75 λa b=>?_
 unfold M.s6 at H
 refine qs λ_ K=>qr λ_ L=>bd H λF j H=>k8 (λa w=>∃κ,Fr (38) [] [k35 i,k2z m,(2,vu g),(20,vb F)] a∧SS u x s κ w (k05 i d k l (ownX (fInt .u64) 32 k l d.beats)) [(ml d.got.Has 4),(ml d.got.T 4),(ml d.known.Has 4),(ml d.known.T 4)]∧True) ?_ ?_
 refine wp 7 [0,1,2,12] b λa b=>bs j (λhb j=>?_) λhb j=>?_
 have b:=b.bv 12 hb
 refine wp 8 [0,1,2,20] b λa b=>nl ?_
 cases j
 exact ⟨_,b.kp [0,1,2,20],e.sp [0,1] (rg 4),ja⟩
 have b:=b.bv 12 hb
 refine wp 4 [0,1,2,12,13,16] b λa b=>wcg b (wld b e 0 1 0 λa b=>wp 3 [0,1,2,20] b λa b=>nl ?_)
 cases j
 exact ⟨_,b.kp [0,1,2,20],e.sp [0,1] (rg 4),ja⟩
 rintro a w ⟨κ,b,e,-⟩
 refine L _ _ (bc b H (λhb H=>?_) λhb H=>?_)
 refine rt ?_
 cases H
 exact j7 b e (mL results75) ⟨k,l,rfl,e.sp [0,1] (rg 4)⟩
 refine sk (K _ _ (qs λ_ G=>rgS e [15] ?_))
 have e:=e.drew
 have C:=e.fx
 refine jN [0,1,2,4,5,6,7,9,12] [0,23,25,28,30,33] (L':=[k35 i,(23,pt i 1),(25,vi m),(28,pt i 1),(30,vi m),(33,vu g)]) (listed':=(mV 16 4855)) (fuel:=7) b C kr (by intro c a w t v h; cases t<;>exact h) kr rfl λa b=>atk 3 (some 24) b C rfl (vld 0 1 0) λa b=>atk 8 (some 29) b C rfl (vld 0 1 0) λa b=>bd H λf n H=>?_
 obtain ⟨Q,R,p⟩:=e.ptrO 1 rfl n
 refine atk 10 (some 31) b (e.sx [0,1] (rg 4)) rfl (λw _=>mP (E:=32) (sz:=1) rfl p rfl kr rfl n kr kr w) λa b=>atk 11 (some 32) b (e.sx [0,1] (rg 4)) rfl (yC 1 (v:=vu f) rfl rfl p rfl n rfl kr kr) λa b=>jN [13] [0,24,25,34] (L':=[k35 i,(24,.slice k d.beats.length l),(25,vi m),(34,vu (if g > f then g else f))]) (listed':=(mV 16 16383)) (fuel:=2) b (e.sx [0,1] (rg 4)) kr (by intro c a w t v h; cases t<;>exact h) kr rfl λa b=>bd H λS o H=>?_
 obtain ⟨U,V,q⟩:=e.ptrO 1 rfl o
 refine atk 14 (some 35) b (e.sx [0,1] (rg 4)) rfl (λw _=>mP (E:=32) (sz:=1) rfl q rfl kr rfl o kr kr w) λa b=>ago 15 b rfl (sR b e kr 1 (z:=(if g > f then g else f)) rfl rfl rfl rfl q o rfl kr rfl kr (Cf:=(λnn=>[.box i 109 [si d.dc,sl k nn l,si d.got.Epoch,eb 4 d.got.Has,(4,(encs (fInt .u64) d.got.T)),si d.known.Epoch,eb 4 d.known.Has,(4,(encs (fInt .u64) d.known.T)),su d.stable],.ext (ownX (fInt .u64) 32 k l (set d.beats (toNat m) (if g > f then g else f)))])) (Lf:=(λnn=>[(0,pt i 0),(24,.slice k nn l),(25,vi m),(34,vu (if g > f then g else f))])) [0,24,25,34] kr kr λa w b e=>?_)
 refine ⟨notE,?_⟩
 refine kN (G _ _ (rl (wp 1 [36] b λa b=>bd H λW D H=>wc (wcS 2 [0,1] b e (λe=>rJ N (j4.mk d.dc (set d.beats (toNat m) (if g > f then g else f)) d.got d.known d.stable) k l i (e.sbK (rg 4)) D) ?_))))
 rintro _ κ w a ⟨I,J,rfl,O⟩ b B
 have e:=B _ _ O
 refine nl ?_
 cases H
 exact j7 b e (mL results75) ⟨I,J,rfl,e.sp [0,1] (rg 4)⟩
theorem wZ (N){l}{m}{e}(d:j4)(n)(o)(f)(g)(h)(p:SB l m e (k05 h d f g (ownX (fInt .u64) 32 f g d.beats)) [(ml d.got.Has 4),(ml d.got.T 4),(ml d.known.Has 4),(ml d.known.T 4)]){r}(H:M.rM N d n o=some r) :
    Calls Tryz.prog 51 #[pt h 0,vi n,vu o] e (kP l m e λv κ w=>∃i j,v = .tuple #[]∧SS l m e κ w (k05 h r i j (ownX (fInt .u64) 32 i j r.beats)) [(ml r.got.Has 4),(ml r.got.T 4),(ml r.known.Has 4),(ml r.known.T 4)]):=by
 have c:=p.hS
 have C:=c.fresh
 refine en func51 rfl ntmps51 λa b=>?_
 unfold M.rM at H
 refine qs λ_ x=>qr λ_ y=>wp 7 [0,1,2,8,9,12] b λa b=>wcg b (wld b c 0 0 0 λa b=>wp 2 [0,1,2,15] b λa b=>y _ _ (bc b H (λhb H=>?_) λhb H=>?_))
 refine rt ?_
 cases H
 exact j7 b c (mL results51) ⟨f,g,rfl,c.sp [0,1] (rg 4)⟩
 refine sk (x _ _ (qr λ_ z=>wp 4 [0,1,2,16,19] b λa b=>wc (wls b c 0 2 3 λa b=>wp 2 [0,16,20,21,22] b λa b=>bd H λk q H=>wc (jR b c kr kr (wC N c.fresh d.got n o ((c.pick [0,1] kr).ro) q) ?_))))
 rintro _ κ w a ⟨rfl,A,E⟩ b c F
 have c:=c.adds A
 refine wp 2 [0,23,25] b λa b=>wc (wst b c 0 2 3 (k00 k) (sgN 1 (kS (c.get 0 rfl) (kS (c.get 1 rfl) jD))) λa w b c=>z _ _ (rl (wp 1 [26] b λa b=>bd H λD s H=>wc (wcS 2 [0,1] b c (λc=>rJ N (j4.mk d.dc d.beats k d.known d.stable) f g h (c.sbK [0,1,4,5]) s) ?_))))
 rintro _ κ w a ⟨t,u,rfl,B⟩ b p
 have c:=p _ _ B
 refine nl ?_
 cases H
 exact j7 b c (mL results51) ⟨t,u,rfl,c.sp [0,1] (rg 4)⟩
theorem A0 (N){j}{k}{i}(d:j4)(l)(u)(m)(f)(g)(h)(q:SB j k i (k05 h d f g (ownX (fInt .u64) 32 f g d.beats)) [(ml d.got.Has 4),(ml d.got.T 4),(ml d.known.Has 4),(ml d.known.T 4)]){r}(H:M.s5 N d l u m=some r) :
    Calls Tryz.prog 53 #[pt h 0,vi l,vi u,vu m] i (kP j k i λv κ w=>∃n o,v = .tuple #[]∧SS j k i κ w (k05 h r n o (ownX (fInt .u64) 32 n o r.beats)) [(ml r.got.Has 4),(ml r.got.T 4),(ml r.known.Has 4),(ml r.known.T 4)]):=by
 have c:=q.hS
 have F:=c.fresh
 refine en func53 rfl ntmps53 λa b=>?_
 unfold M.s5 at H
 refine qs λ_ B=>qr λ_ C=>bd H λx e H=>k8 (λa w=>∃κ,Fr (39) [] [k35 h,k2z l,(3,vu m),(26,vb x)] a∧SS j k i κ w (k05 h d f g (ownX (fInt .u64) 32 f g d.beats)) [(ml d.got.Has 4),(ml d.got.T 4),(ml d.known.Has 4),(ml d.known.T 4)]∧True) ?_ ?_
 refine wp 7 [0,1,2,3,10,11,14] b λa b=>wcg b (wld b c 0 0 0 λa b=>wp 3 [0,1,2,3,18] b λa b=>bs e (λhb e=>?_) λhb e=>?_)
 have b:=b.bv 18 hb
 refine wp 8 [0,1,3,26] b λa b=>nl ?_
 cases e
 exact ⟨_,b.kp [0,1,3,26],c.sp [0,1] (rg 4),ja⟩
 have b:=b.bv 18 hb
 refine wp 5 [0,1,3,18,19,23] b λa b=>wcg b (wld b c 0 5 0 λa b=>wp 2 [0,1,3,26] b λa b=>nl ?_)
 cases e
 exact ⟨_,b.kp [0,1,3,26],c.sp [0,1] (rg 4),ja⟩
 rintro a w ⟨κ,b,c,-⟩
 refine C _ _ (bc b H (λhb H=>?_) λhb H=>?_)
 refine rt ?_
 cases H
 exact j7 b c (mL results53) ⟨f,g,rfl,c.sp [0,1] (rg 4)⟩
 refine sk (B _ _ (qr λ_ y=>wp 4 [0,1,3,27,30] b λa b=>wc (wls b c 0 5 3 λa b=>wp 2 [0,27,31,32,33] b λa b=>bd H λp s H=>wc (jR b c kr kr (wC N c.fresh d.known l m ((c.pick [2,3] kr).ro) s) ?_))))
 rintro _ κ w a ⟨rfl,D,I⟩ b c J
 have c:=c.adds D
 refine wp 2 [0,34,36] b λa b=>wc (wst b c 0 5 3 (k00 p) (sgN 1 (kS (c.get 0 rfl) (kS (c.get 1 rfl) jD))) λa w b c=>y _ _ (rl (wp 1 [37] b λa b=>bd H λG t H=>wc (wcS 2 [0,1] b c (λc=>rJ N (j4.mk d.dc d.beats d.got p d.stable) f g h (c.sbK [2,3,0,1]) t) ?_))))
 rintro _ κ w a ⟨z,A,rfl,E⟩ b q
 have c:=q _ _ E
 refine nl ?_
 cases H
 exact j7 b c (mL results53) ⟨z,A,rfl,c.sp [0,1] (rg 4)⟩
theorem A1 (N){g}{h}{e}(c:j4)(f)(i)(j)(k)(n:SB g h e (k05 k c i j (ownX (fInt .u64) 32 i j c.beats)) [(ml c.got.Has 4),(ml c.got.T 4),(ml c.known.Has 4),(ml c.known.T 4)]){r}(H:M.tS N c f=some r) :
    Calls Tryz.prog 57 #[pt k 0,vu f] e (kP g h e λv κ w=>∃l m,v = .tuple #[]∧SS g h e κ w (k05 k r l m (ownX (fInt .u64) 32 l m r.beats)) [(ml r.got.Has 4),(ml r.got.T 4),(ml r.known.Has 4),(ml r.known.T 4)]):=by
 have d:=n.hS
 have p:=d.fresh
 refine en func57 rfl ntmps57 λa b=>?_
 unfold M.tS at H
 refine qr λ_ o=>wp 2 [0,1,5] b λa b=>o _ _ (ct b rfl (rl (wp 4 [1,6,9] b λa b=>wc (wld b d 0 8 0 λa b=>wp 4 [12,14] b λa b=>wc (wst b d 0 8 1 [su (if f > c.stable then f else c.stable)] (sgN 1 jD) λa w b d=>nl ?_)))))
 cases H
 exact j7 b d (mL results57) ⟨i,j,rfl,d.sp [0,1] (rg 4)⟩
theorem wE (N){u}{x}{o}(d:j4)(e)(k)(h)(j)(f)(Z:SB u x o (k05 f d h j (ownX (fInt .u64) 32 h j d.beats)) [(ml d.got.Has 4),(ml d.got.T 4),(ml d.known.Has 4),(ml d.known.T 4)]){r}(H:M.qV N d e k=some r) :
    Calls Tryz.prog 97 #[pt f 0,vi e,vi k] o (kP u x o λv κ w=>∃z A,v=vi r.1∧SS u x o κ w (k05 f r.2 z A (ownX (fInt .u64) 32 z A r.2.beats)) [(ml r.2.got.Has 4),(ml r.2.got.T 4),(ml r.2.known.Has 4),(ml r.2.known.T 4)]):=by
 have c:=Z.hS
 have ah:=c.fresh
 refine en func97 rfl ntmps97 λa b=>?_
 unfold M.qV at H
 refine qr λ_ h7=>wp 1 [0,1,2] b λa b=>h7 _ _ (qs λ_ h8=>qr λ_ h9=>bd H λG g H=>k8 (λa w=>∃κ,Fr (58) [] [k35 f,k2z e,k36 k,(17,vb G)] a∧SS u x o κ w (k05 f d h j (ownX (fInt .u64) 32 h j d.beats)) [(ml d.got.Has 4),(ml d.got.T 4),(ml d.known.Has 4),(ml d.known.T 4)]∧True) ?_ ?_)
 refine wp 7 [0,1,2,14] b λa b=>bs g (λhb g=>?_) λhb g=>?_
 have b:=b.bv 14 hb
 refine wp 3 [0,1,2,17] b λa b=>nl ?_
 cases g
 exact ⟨_,b.kp [0,1,2,17],c.sp [0,1] (rg 4),ja⟩
 have b:=b.bv 14 hb
 refine wp 3 [0,1,2,17] b λa b=>nl ?_
 cases g
 exact ⟨_,b.kp [0,1,2,17],c.sp [0,1] (rg 4),ja⟩
 rintro a w ⟨κ,b,c,-⟩
 refine h9 _ _ (bc b H (λhb H=>?_) λhb H=>?_)
 refine qr λ_ I=>wp 1 [6] b λa b=>I _ _ (rt ?_)
 cases H
 exact j7 b c (l4 results97 (rvt b)) ⟨h,j,rfl,c.sp [0,1] (rg 4)⟩
 refine sk (h8 _ _ (qs λ_ J=>qr λ_ K=>(jE (L':=[k35 f,k2z e,k36 k,(19,vi e),(22,pt f 3)]) 5 [0,1,2,19,22] b kr λa b=>bd H λL p H=>wc (l7 b kr (E:=4) (sz:=1) (n:=4) rfl rfl (i:=e) rfl (m4 p (c.get 0 rfl)) kr kr λa b=>wc (rK (t:=jM) b c kr 0 3 (v:=vb L) rfl rfl rfl rfl p rfl rfl kr kr λa b=>K _ _ (bc b H (λhb H=>?_) λhb H=>?_))))))
 refine qr λ_ O=>wp 1 [6] b λa b=>O _ _ (rt ?_)
 cases H
 exact j7 b c (l4 results97 (rvt b)) ⟨h,j,rfl,c.sp [0,1] (rg 4)⟩
 refine sk (J _ _ (qs λ_ P=>qr λ_ Q=>wp 5 [0,1,2,25,29] b λa b=>wc (wld b c 0 2 0 λa b=>wp 1 [0,1,2,31] b λa b=>Q _ _ (bc b H (λhb H=>?_) λhb H=>?_))))
 refine qr λ_ R=>wp 1 [6] b λa b=>R _ _ (rt ?_)
 cases H
 exact j7 b c (l4 results97 (rvt b)) ⟨h,j,rfl,c.sp [0,1] (rg 4)⟩
 refine sk (P _ _ (qr λ_ S=>wp 4 [0,1,2,35] b λa b=>wc (wls b c 0 3 1 λa b=>?_)))
 have c:=c.add (m:=ml (replicate 4 false) 4) (List.length_replicate)
 refine wc (wal b c [eb 4 (replicate 4 false)] (kS List.length_replicate jD) λq a w b c=>wc (wst b c 0 0 1 [eb 4 d.got.Has] (kS (c.get 1 rfl) jD) λa w b c=>(S _ _ (qr λ_ U=>(jE (L':=[k35 f,k36 k,(7,pt q 0),(37,vi e)]) 1 [0,2,7,37] b kr λa b=>bd H λai s H=>wc (l7 b kr (E:=4) (sz:=1) (n:=4) rfl rfl (i:=e) rfl (m4 s (c.get 1 rfl)) kr kr λa b=>wc (lK (t:=jM) (y:=true) (v:=vb true) b c kr 0 0 (s':=[eb 4 (set d.got.Has (toNat e) true)]) (C':=k06 q (set d.got.Has (toNat e) true) f d h j (ownX (fInt .u64) 32 h j d.beats)) rfl rfl kr rfl rfl s rfl rfl kr kr kr kr λa w b c=>?_)))))))
 have c:=c.add (m:=ml (set d.got.Has (toNat e) true) 4) (List.length_set.trans (c.get 1 rfl))
 refine U _ _ (qs λ_ V=>rgS c [13] ?_)
 have c:=c.drew
 have B:=c.fx
 refine anp [0,1,2,3,5] [0,2,7,40,43,45] b B λa b=>atk 4 (some 44) b B rfl (vls 1 2 3) λa b=>atk 6 (some 46) b B rfl (vls 0 0 1) λa b=>ago 7 b rfl (bd H λl C H=>jR b c kr kr (zZ N c.fresh d.got k (set d.got.Has (toNat e) true) ((c.pick [2,3,0] kr).ro) C) ?_)
 rintro _ κ w a ⟨rfl,D,hN⟩ b c hO
 have c:=c.adds D
 refine ⟨λ_=>(c.sx [0,1,2] (ra 2 6)),?_⟩
 refine anp [8,9,11,12] [0,2,7,39,48,51] b (c.sx [0,1,2] (ra 2 6)) λa b=>u1 [10] [0,2,7,48,51] b (λ_=>c.sx [0,1,2] (ra 2 6)) λa b=>?_
 have b:Fr (58) _ [k35 f,k36 k,(7,pt q 0),(48,.agg (flat [si l.1.Epoch,eb 4 l.1.Has,(4,(encs (fInt .u64) l.1.T))]).toArray),(51,pt f 2)] a:=b.kp [0,2,7,48,51]
 refine ago 13 b rfl (wst b c 1 2 3 (k00 l.1) (sgN 1 (kS (c.get 0 rfl) (kS (c.get 1 rfl) jD))) λa w b c=>⟨notE,?_⟩)
 refine kN (V _ _ (qr λ_ W=>wp 2 [7,52,53] b λa b=>wc (wls b c 0 0 1 λa b=>bd H λX F H=>wc (jR b c kr kr (vS N c.fresh k (set d.got.Has (toNat e) true) ((c.pick [2] kr).ro) F) ?_))))
 rintro _ κ w a ⟨rfl,D,hN⟩ b c hO
 have c:=c.adds D
 refine wp 2 [55,57] b λa b=>wc (wst b c 1 5 3 (k00 X) (sgN 1 (kS (c.get 0 rfl) (kS (c.get 1 rfl) jD))) λa w b c=>W _ _ (qr λ_ Y=>wp 1 [6] b λa b=>Y _ _ (rt ?_)))
 cases H
 exact j7 b c (l4 results97 (rvt b)) ⟨h,j,rfl,c.sp [1,2] [2,3,0,1]⟩
theorem zE (N){x}{z}{o}(d:j4)(e)(l)(h)(j)(f)(C:SB x z o (k05 f d h j (ownX (fInt .u64) 32 h j d.beats)) [(ml d.got.Has 4),(ml d.got.T 4),(ml d.known.Has 4),(ml d.known.T 4)]){r}(H:M.rL N d e l=some r) :
    Calls Tryz.prog 58 #[pt f 0,vi e,vi l] o (kP x z o λv κ w=>∃A B,v=vi r.1∧SS x z o κ w (k05 f r.2 A B (ownX (fInt .u64) 32 A B r.2.beats)) [(ml r.2.got.Has 4),(ml r.2.got.T 4),(ml r.2.known.Has 4),(ml r.2.known.T 4)]):=by
 have c:=C.hS
 have aq:=c.fresh
 refine en func58 rfl ntmps58 λa b=>?_
 unfold M.rL at H
 refine qr λ_ h7=>wp 1 [0,1,2] b λa b=>h7 _ _ (qs λ_ h8=>qr λ_ h9=>bd H λK g H=>k8 (λa w=>∃κ,Fr (79) [] [k35 f,k2z e,k36 l,(18,vb K)] a∧SS x z o κ w (k05 f d h j (ownX (fInt .u64) 32 h j d.beats)) [(ml d.got.Has 4),(ml d.got.T 4),(ml d.known.Has 4),(ml d.known.T 4)]∧True) ?_ ?_)
 refine wp 7 [0,1,2,15] b λa b=>bs g (λhb g=>?_) λhb g=>?_
 have b:=b.bv 15 hb
 refine wp 3 [0,1,2,18] b λa b=>nl ?_
 cases g
 exact ⟨_,b.kp [0,1,2,18],c.sp [0,1] (rg 4),ja⟩
 have b:=b.bv 15 hb
 refine wp 3 [0,1,2,18] b λa b=>nl ?_
 cases g
 exact ⟨_,b.kp [0,1,2,18],c.sp [0,1] (rg 4),ja⟩
 rintro a w ⟨κ,b,c,-⟩
 refine h9 _ _ (bc b H (λhb H=>?_) λhb H=>?_)
 refine qr λ_ L=>wp 1 [6] b λa b=>L _ _ (rt ?_)
 cases H
 exact j7 b c (l4 results58 (rvt b)) ⟨h,j,rfl,c.sp [0,1] (rg 4)⟩
 refine sk (h8 _ _ (qs λ_ O=>qr λ_ P=>(jE (L':=[k35 f,k2z e,k36 l,(20,vi e),(23,pt f 3)]) 5 [0,1,2,20,23] b kr λa b=>bd H λQ p H=>wc (l7 b kr (E:=4) (sz:=1) (n:=4) rfl rfl (i:=e) rfl (m4 p (c.get 0 rfl)) kr kr λa b=>wc (rK (t:=jM) b c kr 0 3 (v:=vb Q) rfl rfl rfl rfl p rfl rfl kr kr λa b=>wp 1 [0,1,2,26] b λa b=>P _ _ (bc b H (λhb H=>?_) λhb H=>?_))))))
 refine qr λ_ R=>wp 1 [6] b λa b=>R _ _ (rt ?_)
 cases H
 exact j7 b c (l4 results58 (rvt b)) ⟨h,j,rfl,c.sp [0,1] (rg 4)⟩
 refine sk (O _ _ (qs λ_ S=>qr λ_ U=>wp 5 [0,1,2,27,31] b λa b=>wc (wld b c 0 2 0 λa b=>wp 1 [0,1,2,33] b λa b=>U _ _ (bc b H (λhb H=>?_) λhb H=>?_))))
 refine qr λ_ V=>wp 1 [6] b λa b=>V _ _ (rt ?_)
 cases H
 exact j7 b c (l4 results58 (rvt b)) ⟨h,j,rfl,c.sp [0,1] (rg 4)⟩
 refine sk (S _ _ (qr λ_ W=>wp 4 [0,1,2,37] b λa b=>wc (wls b c 0 3 1 λa b=>?_)))
 have c:=c.add (m:=ml (replicate 4 false) 4) (List.length_replicate)
 refine wc (wal b c [eb 4 (replicate 4 false)] (kS List.length_replicate jD) λq a w b c=>wc (wst b c 0 0 1 [eb 4 d.got.Has] (kS (c.get 1 rfl) jD) λa w b c=>(W _ _ (qr λ_ X=>(jE (L':=[k35 f,k36 l,(7,pt q 0),(39,vi e)]) 1 [0,2,7,39] b kr λa b=>bd H λar s H=>wc (l7 b kr (E:=4) (sz:=1) (n:=4) rfl rfl (i:=e) rfl (m4 s (c.get 1 rfl)) kr kr λa b=>wc (lK (t:=jM) (y:=false) (v:=vb false) b c kr 0 0 (s':=[eb 4 (set d.got.Has (toNat e) false)]) (C':=k06 q (set d.got.Has (toNat e) false) f d h j (ownX (fInt .u64) 32 h j d.beats)) rfl rfl kr rfl rfl s rfl rfl kr kr kr kr λa w b c=>?_)))))))
 have c:=c.add (m:=ml (set d.got.Has (toNat e) false) 4) (List.length_set.trans (c.get 1 rfl))
 refine X _ _ (qr λ_ Y=>wp 4 [0,2,7,44] b λa b=>wc (wld b c 1 5 0 λa b=>wp 1 [0,2,7,8] b λa b=>Y _ _ (qs λ_ Z=>rgS c [13] ?_)))
 have c:=c.drew
 have D:=c.fx
 refine anp [0,1,2,3,5] [0,7,8,47,50,52] b D λa b=>atk 4 (some 51) b D rfl (vls 1 2 3) λa b=>atk 6 (some 53) b D rfl (vls 0 0 1) λa b=>ago 7 b rfl (bd H λk F H=>jR b c kr kr (zZ N c.fresh d.got l (set d.got.Has (toNat e) false) ((c.pick [2,3,0] kr).ro) F) ?_)
 rintro _ κ w a ⟨rfl,G,hN⟩ b c hO
 have c:=c.adds G
 refine ⟨λ_=>(c.sx [0,1,2] (ra 2 6)),?_⟩
 refine anp [8,9,11,12] [0,7,8,46,55,58] b (c.sx [0,1,2] (ra 2 6)) λa b=>u1 [10] [0,7,8,55,58] b (λ_=>c.sx [0,1,2] (ra 2 6)) λa b=>?_
 have b:Fr (79) _ [k35 f,(7,pt q 0),(8,vi d.known.Epoch),(55,.agg (flat [si k.1.Epoch,eb 4 k.1.Has,(4,(encs (fInt .u64) k.1.T))]).toArray),(58,pt f 2)] a:=b.kp [0,7,8,55,58]
 refine ago 13 b rfl (wst b c 1 2 3 (k00 k.1) (sgN 1 (kS (c.get 0 rfl) (kS (c.get 1 rfl) jD))) λa w b c=>⟨notE,?_⟩)
 refine kN (Z _ _ (qr λ_ aa=>wp 1 [0,7,8,59] b λa b=>wc (wls b c 0 0 1 λa b=>wp 3 [0,8,60,63] b λa b=>wc (wst b c 1 6 1 [eb 4 (set d.got.Has (toNat e) false)] (kS (c.get 2 rfl) jD) λa w b c=>aa _ _ (qr λ_ ab=>wp 4 [0,8,64,67] b λa b=>wc (wls b c 1 5 3 λa b=>bd H λu I H=>wc (jR b c kr kr (wD N c.fresh (jY.mk d.known.Epoch (set d.got.Has (toNat e) false) d.known.T) ((c.pick [2,7] kr).ro) I) ?_)))))))
 rintro _ κ w a ⟨rfl,G,hN⟩ b c hO
 have c:=c.adds G
 refine wp 2 [0,8,69,71] b λa b=>wc (wst b c 1 5 3 (k00 u) (sgN 1 (kS (c.get 0 rfl) (kS (c.get 1 rfl) jD))) λa w b c=>ab _ _ (qr λ_ ad=>wp 5 [0,73,76] b λa b=>wc (wst b c 1 5 1 [si d.known.Epoch] (sgN 1 jD) λa w b c=>ad _ _ (qr λ_ ae=>wp 1 [77] b λa b=>bd H λau J H=>wc (wcS 2 [1,2,0] b c (λc=>rJ N (j4.mk d.dc d.beats k.1 (jY.mk d.known.Epoch u.Has u.T) d.stable) h j f (c.sbK [2,3,0,1]) J) ?_)))))
 rintro _ κ w a ⟨af,ah,rfl,h2⟩ b C
 have c:=C _ _ h2
 refine ae _ _ (qr λ_ ai=>wp 1 [6] b λa b=>ai _ _ (rt ?_))
 cases H
 exact j7 b c (l4 results58 (rvt b)) ⟨af,ah,rfl,c.sp [0,1] (rg 4)⟩
end Go.Cf
