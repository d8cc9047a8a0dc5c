/- The walks: each function returns what its model says. Printed by a program of ours. -/
import Derived.Test.YtcplebnnanjngaaGreatZSh
import Derived.Test.YtcplebnnanjngaaGreatZM1
import Derived.Test.YtcplebnnanjngaaGreatZWv
namespace Go.Cf
open Go Go.Proofs
open _root_.Int(toNat tdiv tmod)
open _root_.List(set replicate)
open _root_.ByteArray(empty)
open Go.IntKind(i64 u64)
set_option linter.unusedVariables false
set_option maxRecDepth 20000
set_option maxHeartbeats 8000000
theorem yU (N){C}{D}{B}(n)(G)(o)(U:SB C D B [] [(ml o 4)]){r}(H:M.vG N n G o=some r) :
    Calls Tryz.prog 23 #[vi n,vi G,.agg (flat [eb 4 o]).toArray] B (kQ C D B λv κ w => ∃K L,v = .tuple #[.pointer (pa K),vi r.2]∧SS C D B κ w [k2c K L r.1] []):=by
 have b:=U.hS
 have Z:=b.fresh
 refine en Tryz.func23 rfl Tryz.ntmps23 λa d=>?_
 unfold M.vG at H
 refine qr λ_ V=>wc (wbx d b [eb 4 o] (kO (b.get 0 rfl) jE) λO a w d b=>wp 2 [0,1,5] d λa d=>V _ _ (qs λ_ W=>qr λ_ X=>bd H λY l H=>kA (λa w => ∃κ:Gh,Fr (31) [] [(0,vi n),k2a G,k2d O,(21,vb Y)] a∧SS C D B κ w [k2e O o] [(ml o 4)]∧True) ?_ ?_))
 refine wp 3 [0,1,5,10] d λa d=>bs l (λhb l=>?_) λhb l=>?_
 have d:=d.bv 10 hb
 refine wp 11 [0,1,5,21] d λa d=>nl ?_
 cases l
 exact ⟨_,d.kp [0,1,5,21],b.sp [0] [0],trivial⟩
 have d:=d.bv 10 hb
 refine wp 4 [0,1,5,14] d λa d=>bs l (λhb l=>?_) λhb l=>?_
 have d:=d.bv 14 hb
 refine wp 7 [0,1,5,21] d λa d=>nl ?_
 cases l
 exact ⟨_,d.kp [0,1,5,21],b.sp [0] [0],trivial⟩
 have d:=d.bv 14 hb
 refine wp 4 [0,1,5,18] d λa d=>bs l (λhb l=>?_) λhb l=>?_
 have d:=d.bv 18 hb
 refine wp 3 [0,1,5,21] d λa d=>nl ?_
 cases l
 exact ⟨_,d.kp [0,1,5,21],b.sp [0] [0],trivial⟩
 have d:=d.bv 18 hb
 refine wp 3 [0,1,5,21] d λa d=>nl ?_
 cases l
 exact ⟨_,d.kp [0,1,5,21],b.sp [0] [0],trivial⟩
 rintro a w ⟨κ,d,b,-⟩
 refine X _ _ (bc d H (λhb H=>?_) λhb H=>?_)
 refine qr λ_ R=>wp 2 [6,7] d λa d=>R _ _ (rt ?_)
 have b:=b.addOpt o_stab_Table
 cases H
 exact j7 d b (sZ Tryz.results23 (rvt d) (rvt d)) ⟨none,[],rfl,b.sp [0] []⟩
 refine sk (W _ _ (qs λ_ S=>bd H λg m H=>kJ (λa w => ∃κ q y A,Fr (31) [] [k29 q,(7,vi 0)] a∧SS C D B κ w [.box q 109 [si n,sl y (g.1).length A,si g.2.1,eb 4 g.2.2.1,k49 g.2.2.2.1,si g.u4.1,eb 4 g.u4.2.1,k49 g.u4.2.2,su 0],.ext (ownX (fInt .u64) 32 y A g.1)] [(ml g.2.2.1 4),(ml g.2.2.2.1 4),(ml g.u4.2.1 4),(ml g.u4.2.2 4)]∧True) ?_ ?_))
 refine rgS b [] ?_
 have b:=b.drew
 have P:=b.fx
 refine bd m λj u m=>bd m λe F m=>bd m λf x m=>jO [0,1] [5,22,23] (L':=[k2d O,(22,vi n),(23,vi G)]) (listed':=(mU 11 3)) (fuel:=9) d P kr (by intro c a w t v h; cases t<;>exact h) kr rfl λa d=>atk 3 (some 25) d P rfl (vls 0 0 1) λa d=>atk 5 (some 27) d P rfl (vls 0 0 1) λa d=>G7 2 4 d rfl rfl ?_ ?_
 refine wB (E:=32) (i:=Tryz.t32) (z:=vu 0) (zm:=0) (kl := .i64) (kc := .i64) d b kr (fInt .u64) rfl kr kr u kr kr kr kr (Nat.le_of_ble_eq_true kr) kr λk a w d b=>⟨λ_=>(b.sx [1] [0]),?_⟩
 refine ago 4 d rfl (jS d b kr kr (vF N b.fresh 0 o ((b.pick [0] kr).ro) F) ?_)
 rintro _ κ w a ⟨rfl,p,I⟩ d b J
 have b:=b.adds p
 refine ⟨λ_=>(b.sx [1] [2]),?_⟩
 refine ago 6 d rfl (jS d b kr kr (vF N b.fresh 0 o ((b.pick [2] kr).ro) x) ?_)
 rintro _ κ w a ⟨rfl,p,I⟩ d b J
 have b:=b.adds p
 refine ⟨λ_=>(b.sx [1] [4]),?_⟩
 refine ago 7 d rfl (kR d kr (v := .agg (flat (k02 n k j.length e.Epoch e.Has e.T f.Epoch f.Has f.T)).toArray) (xU (rows:=[[si 0],[sl none 0 0],[si 0,eb 4 (replicate 4 false),(4,(encs (fInt .u64) (replicate 4 0)))],[si 0,eb 4 (replicate 4 false),(4,(encs (fInt .u64) (replicate 4 0)))],[su 0]]) (vals:=[(0,[si n]),(1,[sl k j.length j.length]),(2,[si e.Epoch,eb 4 e.Has,(4,(encs (fInt .u64) e.T))]),(3,[si f.Epoch,eb 4 f.Has,(4,(encs (fInt .u64) f.T))])]) (sizes:=[1,1,9,9,1]) (s':=k02 n k j.length e.Epoch e.Has e.T f.Epoch f.Has f.T) rfl kr kr kr kr kr (sgN 3 (kO (b.get 2 rfl) (kO (b.get 3 rfl) (sgN 1 (kO (b.get 0 rfl) (kO (b.get 1 rfl) jE)))))) kr kr _) λa d=>?_)
 refine ⟨λ_=>(b.sx [1] [4]),?_⟩
 refine ago 8 d rfl (wbx d b (k02 n k j.length e.Epoch e.Has e.T f.Epoch f.Has f.T) (sgN 3 (kO (b.get 2 rfl) (kO (b.get 3 rfl) (sgN 1 (kO (b.get 0 rfl) (kO (b.get 1 rfl) (sgN 1 jE))))))) λs a w d b=>⟨λ_=>(b.sx [2] [4]),?_⟩)
 refine anp [9,10] [6,7] d (b.sx [2] [4]) λa d=>kM ?_
 cases m
 exact ⟨_,s,k,j.length,d.kp [6,7],b.sp [0,1] [2,3,0,1],trivial⟩
 refine jS d b kr kr (vF N b.fresh 0 o ((b.pick [0] kr).ro) F) ?_
 rintro _ κ w a ⟨rfl,p,I⟩ d b J
 have b:=b.adds p
 refine ⟨λ_=>(b.sx [0] [2]),?_⟩
 refine G7 2 6 d rfl rfl ?_ ?_
 refine wB (E:=32) (i:=Tryz.t32) (z:=vu 0) (zm:=0) (kl := .i64) (kc := .i64) d b kr (fInt .u64) rfl kr kr u kr kr kr kr (Nat.le_of_ble_eq_true kr) kr λk a w d b=>⟨λ_=>(b.sx [1] [2]),?_⟩
 refine ago 6 d rfl (jS d b kr kr (vF N b.fresh 0 o ((b.pick [2] kr).ro) x) ?_)
 rintro _ κ w a ⟨rfl,p,I⟩ d b J
 have b:=b.adds p
 refine ⟨λ_=>(b.sx [1] [4]),?_⟩
 refine ago 7 d rfl (kR d kr (v := .agg (flat (k02 n k j.length e.Epoch e.Has e.T f.Epoch f.Has f.T)).toArray) (xU (rows:=[[si 0],[sl none 0 0],[si 0,eb 4 (replicate 4 false),(4,(encs (fInt .u64) (replicate 4 0)))],[si 0,eb 4 (replicate 4 false),(4,(encs (fInt .u64) (replicate 4 0)))],[su 0]]) (vals:=[(0,[si n]),(1,[sl k j.length j.length]),(2,[si e.Epoch,eb 4 e.Has,(4,(encs (fInt .u64) e.T))]),(3,[si f.Epoch,eb 4 f.Has,(4,(encs (fInt .u64) f.T))])]) (sizes:=[1,1,9,9,1]) (s':=k02 n k j.length e.Epoch e.Has e.T f.Epoch f.Has f.T) rfl kr kr kr kr kr (sgN 3 (kO (b.get 2 rfl) (kO (b.get 3 rfl) (sgN 1 (kO (b.get 0 rfl) (kO (b.get 1 rfl) jE)))))) kr kr _) λa d=>?_)
 refine ⟨λ_=>(b.sx [1] [4]),?_⟩
 refine ago 8 d rfl (wbx d b (k02 n k j.length e.Epoch e.Has e.T f.Epoch f.Has f.T) (sgN 3 (kO (b.get 2 rfl) (kO (b.get 3 rfl) (sgN 1 (kO (b.get 0 rfl) (kO (b.get 1 rfl) (sgN 1 jE))))))) λs a w d b=>⟨λ_=>(b.sx [2] [4]),?_⟩)
 refine anp [9,10] [6,7] d (b.sx [2] [4]) λa d=>kM ?_
 cases m
 exact ⟨_,s,k,j.length,d.kp [6,7],b.sp [0,1] [2,3,0,1],trivial⟩
 refine jS d b kr kr (vF N b.fresh 0 o ((b.pick [2] kr).ro) x) ?_
 rintro _ κ w a ⟨rfl,p,I⟩ d b J
 have b:=b.adds p
 refine ⟨λ_=>(b.sx [0] [4]),?_⟩
 refine ago 2 d rfl (wB (E:=32) (i:=Tryz.t32) (z:=vu 0) (zm:=0) (kl := .i64) (kc := .i64) d b kr (fInt .u64) rfl kr kr u kr kr kr kr (Nat.le_of_ble_eq_true kr) kr λk a w d b=>⟨λ_=>(b.sx [1] [4]),?_⟩)
 refine ago 7 d rfl (kR d kr (v := .agg (flat (k02 n k j.length e.Epoch e.Has e.T f.Epoch f.Has f.T)).toArray) (xU (rows:=[[si 0],[sl none 0 0],[si 0,eb 4 (replicate 4 false),(4,(encs (fInt .u64) (replicate 4 0)))],[si 0,eb 4 (replicate 4 false),(4,(encs (fInt .u64) (replicate 4 0)))],[su 0]]) (vals:=[(0,[si n]),(1,[sl k j.length j.length]),(2,[si e.Epoch,eb 4 e.Has,(4,(encs (fInt .u64) e.T))]),(3,[si f.Epoch,eb 4 f.Has,(4,(encs (fInt .u64) f.T))])]) (sizes:=[1,1,9,9,1]) (s':=k02 n k j.length e.Epoch e.Has e.T f.Epoch f.Has f.T) rfl kr kr kr kr kr (sgN 3 (kO (b.get 2 rfl) (kO (b.get 3 rfl) (sgN 1 (kO (b.get 0 rfl) (kO (b.get 1 rfl) jE)))))) kr kr _) λa d=>?_)
 refine ⟨λ_=>(b.sx [1] [4]),?_⟩
 refine ago 8 d rfl (wbx d b (k02 n k j.length e.Epoch e.Has e.T f.Epoch f.Has f.T) (sgN 3 (kO (b.get 2 rfl) (kO (b.get 3 rfl) (sgN 1 (kO (b.get 0 rfl) (kO (b.get 1 rfl) (sgN 1 jE))))))) λs a w d b=>⟨λ_=>(b.sx [2] [4]),?_⟩)
 refine anp [9,10] [6,7] d (b.sx [2] [4]) λa d=>kM ?_
 cases m
 exact ⟨_,s,k,j.length,d.kp [6,7],b.sp [0,1] [2,3,0,1],trivial⟩
 rintro a w ⟨κ,q,y,A,d,b,-⟩
 refine S _ _ (rt ?_)
 obtain ⟨Q,b⟩:=b.foldI (ck:=jR) (fs:=jP) q (y,A) (j4.mk n g.1 (kC.mk g.2.1 g.2.2.1 g.2.2.2.1) (kC.mk g.u4.1 g.u4.2.1 g.u4.2.2) 0) [0,1] [] (rg 4) dc kr kr
 cases H
 exact j7 d b (sZ Tryz.results23 (rvt d) (rvt d)) ⟨(some q),Q,rfl,b.sp [0] []⟩
theorem rE (N){h}{i}{d}(b:j4)(e)(f)(j)(k:SB h i d (k03 j b.dc e (b.beats).length f b.got.Epoch b.got.Has b.got.T b.known.Epoch b.known.Has b.known.T b.stable (ownX (fInt .u64) 32 e f b.beats)) [(ml b.got.Has 4),(ml b.got.T 4),(ml b.known.Has 4),(ml b.known.T 4)]){r}(H:M.mC N b=some r) :
    Calls Tryz.prog 28 #[pt j 0] d (kQ h i d λv κ w=>v=vu r∧SS h i d κ w (k03 j b.dc e (b.beats).length f b.got.Epoch b.got.Has b.got.T b.known.Epoch b.known.Has b.known.T b.stable (ownX (fInt .u64) 32 e f b.beats)) []):=by
 have g:=k.hS
 have p:=g.fresh
 refine en Tryz.func28 rfl Tryz.ntmps28 λa c=>?_
 unfold M.mC at H
 refine qr λ_ l=>wp 1 [0] c λa c=>l _ _ (qs λ_ m=>qr λ_ n=>wp 2 [0,4] c λa c=>n _ _ (cf c rfl (sk (m _ _ (qr λ_ o=>wp 3 [7] c λa c=>wc (wld c g 0 8 0 λa c=>wp 1 [2] c λa c=>o _ _ (rt ?_)))))))
 cases H
 exact j7 c g (l3 Tryz.results28 (rvt c)) ⟨rfl,g.sp [0,1] []⟩
theorem vP (N){m}{o}{j}(b:j4)(g)(h)(i)(E:SB m o j (k03 i b.dc g (b.beats).length h b.got.Epoch b.got.Has b.got.T b.known.Epoch b.known.Has b.known.T b.stable (ownX (fInt .u64) 32 g h b.beats)) [(ml b.got.Has 4),(ml b.got.T 4),(ml b.known.Has 4),(ml b.known.T 4)]){r}(H:M.qB N b=some r) :
    Calls Tryz.prog 40 #[pt i 0] j (kQ m o j λv κ w=>v=vu r∧SS m o j κ w (k03 i b.dc g (b.beats).length h b.got.Epoch b.got.Has b.got.T b.known.Epoch b.known.Has b.known.T b.stable (ownX (fInt .u64) 32 g h b.beats)) []):=by
 have d:=E.hS
 have K:=d.fresh
 refine en Tryz.func40 rfl Tryz.ntmps40 λa c=>?_
 unfold M.qB at H
 refine qr λ_ F=>(wp 1 [0] c λa c=>(F _ _ (qs λ_ G=>qr λ_ I=>(wp 2 [0,7] c λa c=>(I _ _ (cf c rfl (sk (G _ _ (qr λ_ J=>(jG (L':=[k2g i,(10,pt i 1)]) 3 [0,10] c kr λa c=>wc (wld c d 0 1 0 λa c=>bd H λu s H=>wc (uA c d kr 1 (sz:=1) rfl rfl rfl rfl rfl s kr kr λL O a t c=>wc (z7 c d kr 1 (v:=vu u) rfl rfl t rfl s rfl kr kr λa c=>wp 1 [0,3] c λa c=>J _ _ (qs λ_ x=>qr λ_ y=>wp 3 [3,16] c λa c=>wc (wld c d 0 1 0 λa c=>wp 2 [3,17,18,19] c λa c=>?_)))))))))))))))
 refine y _ _ (bk (jX (n:=N) (λn a w => ∃κ e f,Fr (28) [] [(3,vu e),(17,.slice g (b.beats).length h),(18,vi ((b.beats).length:Int)),(19,vi f)] a∧SS m o j κ w (k03 i b.dc g (b.beats).length h b.got.Epoch b.got.Has b.got.T b.known.Epoch b.known.Has b.known.T b.stable (ownX (fInt .u64) 32 g h b.beats)) [(ml b.got.Has 4),(ml b.got.T 4),(ml b.known.Has 4),(ml b.known.T 4)]∧M.nM N n b e f=some r) ?_ ?_))
 exact ⟨_,u,0,c.kp [3,17,18,19],d.sp [0,1] (rg 4),H⟩
 rintro n a w ⟨κ,e,f,c,d,H⟩
 rcases n with _|p
 simp [M.nM] at H
 simp only [M.nM] at H
 refine qr λ_ z=>(jG (L':=[(3,vu e),(17,.slice g (b.beats).length h),(18,vi ((b.beats).length:Int)),(19,vi f),(20,vb (decide (f<((b.beats).length:Int))))]) 1 [3,17,18,19,20] c kr λa c=>z _ _ (qs λ_ A=>bc c H (λhb H=>?_) λhb H=>?_))
 refine sk (A _ _ (qs λ_ B=>bk (qr λ_ C=>(bd H λk l H=>wc (uA c d kr 1 (sz:=1) rfl rfl rfl rfl rfl l kr kr λP Q a q c=>wc (z7 c d kr 1 (v:=vu k) rfl rfl q rfl l rfl kr kr λa c=>wp 1 [3,5,17,18,19] c λa c=>C _ _ (rl (wp 4 [3,17,18,19] c λa c=>B _ _ (rl (wp 2 [3,17,18,19] c λa c=>nl ?_))))))))))
 exact ⟨p,Nat.lt_succ_self _,_,(if k<e then k else e),i64.wrap (f+1),c.kp [3,17,18,19],d.sp [0,1] (rg 4),H⟩
 refine xt (x _ _ (qr λ_ D=>wp 2 [2] c λa c=>D _ _ (rt ?_)))
 cases H
 exact j7 c d (l3 Tryz.results40 (rvt c)) ⟨rfl,d.sp [0,1] []⟩
theorem pE (N){h}{i}{e}(b:j4)(f)(g)(j)(k:SB h i e (k03 j b.dc f (b.beats).length g b.got.Epoch b.got.Has b.got.T b.known.Epoch b.known.Has b.known.T b.stable (ownX (fInt .u64) 32 f g b.beats)) [(ml b.got.Has 4),(ml b.got.T 4),(ml b.known.Has 4),(ml b.known.T 4)]){r}(H:M.lZ N b=some r) :
    Calls Tryz.prog 39 #[pt j 0] e (kQ h i e λv κ w=>v = .agg (flat [eb 4 r]).toArray∧SS h i e κ w (k03 j b.dc f (b.beats).length g b.got.Epoch b.got.Has b.got.T b.known.Epoch b.known.Has b.known.T b.stable (ownX (fInt .u64) 32 f g b.beats)) [(ml r 4)]):=by
 have d:=k.hS
 have q:=d.fresh
 refine en Tryz.func39 rfl Tryz.ntmps39 λa c=>?_
 unfold M.lZ at H
 refine qr λ_ l=>?_
 have d:=d.add (m:=ml (replicate 4 false) 4) (List.length_replicate)
 refine wc (wal c d [eb 4 (replicate 4 false)] (kO List.length_replicate jE) λs a w c d=>l _ _ (qs λ_ n=>qr λ_ o=>wp 2 [0,2,4] c λa c=>o _ _ (cf c rfl (sk (n _ _ (qr λ_ p=>wp 4 [2,9] c λa c=>wc (wls c d 1 3 1 λa c=>wc (wst c d 0 0 1 [eb 4 b.got.Has] (kO (d.get 1 rfl) jE) λa w c d=>p _ _ (rt ?_)))))))))
 have hS':=d
 cases H
 exact j7 c d (l3 Tryz.results39 (rvs c hS' 0 0 1)) ⟨rfl,d.sp [1,2] [1]⟩
theorem uS (N){i}{j}{g}(b:j4)(e)(f)(h)(k:SB i j g (k03 h b.dc e (b.beats).length f b.got.Epoch b.got.Has b.got.T b.known.Epoch b.known.Has b.known.T b.stable (ownX (fInt .u64) 32 e f b.beats)) [(ml b.got.Has 4),(ml b.got.T 4),(ml b.known.Has 4),(ml b.known.T 4)]){r}(H:M.oV N b=some r) :
    Calls Tryz.prog 42 #[pt h 0] g (kQ i j g λv κ w=>v=vu r∧SS i j g κ w (k03 h b.dc e (b.beats).length f b.got.Epoch b.got.Has b.got.T b.known.Epoch b.known.Has b.known.T b.stable (ownX (fInt .u64) 32 e f b.beats)) []):=by
 have d:=k.hS
 have D:=d.fresh
 refine en Tryz.func42 rfl Tryz.ntmps42 λa c=>?_
 unfold M.oV at H
 refine qr λ_ t=>wp 1 [0] c λa c=>t _ _ (qs λ_ u=>qr λ_ x=>wp 2 [0,6] c λa c=>x _ _ (cf c rfl (sk (u _ _ (qs λ_ y=>rgS d [] ?_)))))
 have d:=d.drew
 have l:=d.fx
 refine bd H λz o H=>bd H λp m H=>bd H λE n H=>anp [0,1,2,4,5,6,8] [10,14,16] c l λa c=>atk 3 (some 11) c l rfl (vls 0 2 3) λa c=>atk 7 (some 15) c l rfl (vld 0 0 0) λa c=>ago 9 c rfl (wcS 2 [0,1] c d (λd=>vP N b e f h (d.sbK (rg 4)) o) ?_)
 rintro _ κ w a ⟨rfl,A⟩ c k
 have d:=k _ _ A
 refine ⟨λ_=>(d.sx [0,1] (rg 4)),?_⟩
 refine ago 10 c rfl (jS c d kr kr (vX N d.fresh b.got b.dc z ((d.pick [0,1] kr).ro) m) ?_)
 rintro _ κ w a ⟨rfl,q,B⟩ c d C
 have d:=d.adds q
 refine ⟨λ_=>(d.sx [0,1] (ra 2 4)),?_⟩
 refine ago 11 c rfl (jS c d kr kr (AQ N d.fresh p ((d.pick [0,1] kr).ro) n) ?_)
 rintro _ κ w a ⟨rfl,q,B⟩ c d C
 refine ⟨λ_=>(d.sx [0,1] (ra 2 4)),?_⟩
 refine anp (ra 12 5) [3] c (d.sx [0,1] (ra 2 4)) λa c=>kM (y _ _ (qr λ_ s=>wp 2 [2] c λa c=>s _ _ (rt ?_)))
 cases H
 exact j7 c d (l3 Tryz.results42 (rvt c)) ⟨rfl,d.sp [0,1] []⟩
theorem rD (N){j}{k}{e}(d:j4)(f)(g)(h)(l:SB j k e (k03 h d.dc f (d.beats).length g d.got.Epoch d.got.Has d.got.T d.known.Epoch d.known.Has d.known.T d.stable (ownX (fInt .u64) 32 f g d.beats)) [(ml d.got.Has 4),(ml d.got.T 4),(ml d.known.Has 4),(ml d.known.T 4)]){r}(H:M.mV N d=some r) :
    Calls Tryz.prog 96 #[pt h 0] e (kQ j k e λv κ w => ∃n i,v = .tuple #[]∧SS j k e κ w (k03 h r.dc n (r.beats).length i r.got.Epoch r.got.Has r.got.T r.known.Epoch r.known.Has r.known.T r.stable (ownX (fInt .u64) 32 n i r.beats)) [(ml r.got.Has 4),(ml r.got.T 4),(ml r.known.Has 4),(ml r.known.T 4)]):=by
 have b:=l.hS
 have C:=b.fresh
 refine en Tryz.func96 rfl Tryz.ntmps96 λa c=>?_
 unfold M.mV at H
 refine qs λ_ u=>rgS b [] ?_
 have b:=b.drew
 have m:=b.fx
 refine bd H λx o H=>bd H λy p H=>bd H λq s H=>anp [0,1,2,4,5,6,8] [0,7,11,13] c m λa c=>atk 3 (some 8) c m rfl (vls 0 5 3) λa c=>atk 7 (some 12) c m rfl (vld 0 0 0) λa c=>ago 9 c rfl (wcS 2 [0,1] c b (λb=>uS N d f g h (b.sbK (rg 4)) o) ?_)
 rintro _ κ w a ⟨rfl,z⟩ c l
 have b:=l _ _ z
 refine ⟨λ_=>(b.sx [0,1] (rg 4)),?_⟩
 refine ago 10 c rfl (jS c b kr kr (vX N b.fresh d.known d.dc x ((b.pick [2,3] kr).ro) p) ?_)
 rintro _ κ w a ⟨rfl,t,A⟩ c b B
 have b:=b.adds t
 refine ⟨λ_=>(b.sx [0,1] (ra 2 4)),?_⟩
 refine ago 11 c rfl (jS c b kr kr (AQ N b.fresh y ((b.pick [0,1] kr).ro) s) ?_)
 rintro _ κ w a ⟨rfl,t,A⟩ c b B
 refine ⟨λ_=>(b.sx [0,1] (ra 2 4)),?_⟩
 refine anp (ra 12 5) [0,2] c (b.sx [0,1] (ra 2 4)) λa c=>kM (u _ _ (rl (wp 4 [2,19,22] c λa c=>wc (wld c b 0 8 0 λa c=>wp 4 [25,27] c λa c=>wc (wst c b 0 8 1 [su (if q.1 > d.stable then q.1 else d.stable)] (sgN 1 jE) λa w c b=>nl ?_)))))
 cases H
 exact j7 c b (mI Tryz.results96) ⟨f,g,rfl,b.sp [0,1] (ra 2 4)⟩
theorem zL (N){u}{x}{s}(b:j4)(m)(g)(k)(l)(i)(B:SB u x s (k03 i b.dc k (b.beats).length l b.got.Epoch b.got.Has b.got.T b.known.Epoch b.known.Has b.known.T b.stable (ownX (fInt .u64) 32 k l b.beats)) [(ml b.got.Has 4),(ml b.got.T 4),(ml b.known.Has 4),(ml b.known.T 4)]){r}(H:M.rZ N b m g=some r) :
    Calls Tryz.prog 75 #[pt i 0,vi m,vu g] s (kQ u x s λv κ w => ∃y A,v = .tuple #[]∧SS u x s κ w (k03 i r.dc y (r.beats).length A r.got.Epoch r.got.Has r.got.T r.known.Epoch r.known.Has r.known.T r.stable (ownX (fInt .u64) 32 y A r.beats)) [(ml r.got.Has 4),(ml r.got.T 4),(ml r.known.Has 4),(ml r.known.T 4)]):=by
 have e:=B.hS
 have P:=e.fresh
 refine en Tryz.func75 rfl Tryz.ntmps75 λa d=>?_
 unfold M.rZ at H
 refine qs λ_ K=>qr λ_ L=>bd H λF j H=>kA (λa w => ∃κ:Gh,Fr (38) [] [k2g i,k2a m,(2,vu g),(20,vb F)] a∧SS u x s κ w (k03 i b.dc k (b.beats).length l b.got.Epoch b.got.Has b.got.T b.known.Epoch b.known.Has b.known.T b.stable (ownX (fInt .u64) 32 k l b.beats)) [(ml b.got.Has 4),(ml b.got.T 4),(ml b.known.Has 4),(ml b.known.T 4)]∧True) ?_ ?_
 refine wp 7 [0,1,2,12] d λa d=>bs j (λhb j=>?_) λhb j=>?_
 have d:=d.bv 12 hb
 refine wp 8 [0,1,2,20] d λa d=>nl ?_
 cases j
 exact ⟨_,d.kp [0,1,2,20],e.sp [0,1] (rg 4),trivial⟩
 have d:=d.bv 12 hb
 refine wp 4 [0,1,2,12,13,16] d λa d=>wcg d (wld d e 0 1 0 λa d=>wp 3 [0,1,2,20] d λa d=>nl ?_)
 cases j
 exact ⟨_,d.kp [0,1,2,20],e.sp [0,1] (rg 4),trivial⟩
 rintro a w ⟨κ,d,e,-⟩
 refine L _ _ (bc d H (λhb H=>?_) λhb H=>?_)
 refine rt ?_
 cases H
 exact j7 d e (mI Tryz.results75) ⟨k,l,rfl,e.sp [0,1] (rg 4)⟩
 refine sk (K _ _ (qs λ_ G=>rgS e [15] ?_))
 have e:=e.drew
 have C:=e.fx
 refine jO [0,1,2,4,5,6,7,9,12] [0,23,25,28,30,33] (L':=[k2g i,(23,pt i 1),(25,vi m),(28,pt i 1),(30,vi m),(33,vu g)]) (listed':=(mU 16 4855)) (fuel:=7) d C kr (by intro c a w t v h; cases t<;>exact h) kr rfl λa d=>atk 3 (some 24) d C rfl (vld 0 1 0) λa d=>atk 8 (some 29) d C rfl (vld 0 1 0) λa d=>bd H λf n H=>?_
 obtain ⟨Q,R,p⟩:=e.ptrO 1 rfl n
 refine atk 10 (some 31) d (e.sx [0,1] (rg 4)) rfl (λw _=>mN (E:=32) (sz:=1) rfl p rfl kr rfl n kr kr w) λa d=>atk 11 (some 32) d (e.sx [0,1] (rg 4)) rfl (xT 1 (v:=vu f) rfl rfl p rfl n rfl kr kr) λa d=>jO [13] [0,24,25,34] (L':=[k2g i,(24,.slice k (b.beats).length l),(25,vi m),(34,vu (if g > f then g else f))]) (listed':=(mU 16 16383)) (fuel:=2) d (e.sx [0,1] (rg 4)) kr (by intro c a w t v h; cases t<;>exact h) kr rfl λa d=>bd H λS o H=>?_
 obtain ⟨U,V,q⟩:=e.ptrO 1 rfl o
 refine atk 14 (some 35) d (e.sx [0,1] (rg 4)) rfl (λw _=>mN (E:=32) (sz:=1) rfl q rfl kr rfl o kr kr w) λa d=>ago 15 d rfl (sL d e kr 1 (z:=(if g > f then g else f)) rfl rfl rfl rfl q o rfl kr rfl kr (Cf:=(λnn=>[.box i 109 [si b.dc,sl k nn l,si b.got.Epoch,eb 4 b.got.Has,(4,(encs (fInt .u64) b.got.T)),si b.known.Epoch,eb 4 b.known.Has,(4,(encs (fInt .u64) b.known.T)),su b.stable],.ext (ownX (fInt .u64) 32 k l (set b.beats (toNat m) (if g > f then g else f)))])) (Lf:=(λnn=>[(0,pt i 0),(24,.slice k nn l),(25,vi m),(34,vu (if g > f then g else f))])) [0,24,25,34] kr kr λa w d e=>?_)
 refine ⟨notE,?_⟩
 refine kM (G _ _ (rl (wp 1 [36] d λa d=>bd H λW D H=>wc (wcS 2 [0,1] d e (λe=>rD N (j4.mk b.dc (set b.beats (toNat m) (if g > f then g else f)) b.got b.known b.stable) k l i (e.sbK (rg 4)) D) ?_))))
 rintro _ κ w a ⟨I,J,rfl,O⟩ d B
 have e:=B _ _ O
 refine nl ?_
 cases H
 exact j7 d e (mI Tryz.results75) ⟨I,J,rfl,e.sp [0,1] (rg 4)⟩
theorem wP (N){l}{m}{f}(d:j4)(n)(o)(g)(h)(i)(p:SB l m f (k03 i d.dc g (d.beats).length h d.got.Epoch d.got.Has d.got.T d.known.Epoch d.known.Has d.known.T d.stable (ownX (fInt .u64) 32 g h d.beats)) [(ml d.got.Has 4),(ml d.got.T 4),(ml d.known.Has 4),(ml d.known.T 4)]){r}(H:M.rH N d n o=some r) :
    Calls Tryz.prog 51 #[pt i 0,vi n,vu o] f (kQ l m f λv κ w => ∃j k,v = .tuple #[]∧SS l m f κ w (k03 i r.dc j (r.beats).length k r.got.Epoch r.got.Has r.got.T r.known.Epoch r.known.Has r.known.T r.stable (ownX (fInt .u64) 32 j k r.beats)) [(ml r.got.Has 4),(ml r.got.T 4),(ml r.known.Has 4),(ml r.known.T 4)]):=by
 have c:=p.hS
 have C:=c.fresh
 refine en Tryz.func51 rfl Tryz.ntmps51 λa b=>?_
 unfold M.rH at H
 refine qs λ_ x=>qr λ_ y=>wp 7 [0,1,2,8,9,12] b λa b=>wcg b (wld b c 0 0 0 λa b=>wp 2 [0,1,2,15] b λa b=>y _ _ (bc b H (λhb H=>?_) λhb H=>?_))
 refine rt ?_
 cases H
 exact j7 b c (mI Tryz.results51) ⟨g,h,rfl,c.sp [0,1] (rg 4)⟩
 refine sk (x _ _ (qr λ_ z=>wp 4 [0,1,2,16,19] b λa b=>wc (wls b c 0 2 3 λa b=>wp 2 [0,16,20,21,22] b λa b=>bd H λe q H=>wc (jS b c kr kr (vX N c.fresh d.got n o ((c.pick [0,1] kr).ro) q) ?_))))
 rintro _ κ w a ⟨rfl,A,E⟩ b c F
 have c:=c.adds A
 refine wp 2 [0,23,25] b λa b=>wc (wst b c 0 2 3 (k00 e.Epoch e.Has e.T) (sgN 1 (kO (c.get 0 rfl) (kO (c.get 1 rfl) jE))) λa w b c=>z _ _ (rl (wp 1 [26] b λa b=>bd H λD s H=>wc (wcS 2 [0,1] b c (λc=>rD N (j4.mk d.dc d.beats e d.known d.stable) g h i (c.sbK [0,1,4,5]) s) ?_))))
 rintro _ κ w a ⟨t,u,rfl,B⟩ b p
 have c:=p _ _ B
 refine nl ?_
 cases H
 exact j7 b c (mI Tryz.results51) ⟨t,u,rfl,c.sp [0,1] (rg 4)⟩
theorem zJ (N){k}{l}{j}(c:j4)(m)(u)(n)(g)(h)(i)(q:SB k l j (k03 i c.dc g (c.beats).length h c.got.Epoch c.got.Has c.got.T c.known.Epoch c.known.Has c.known.T c.stable (ownX (fInt .u64) 32 g h c.beats)) [(ml c.got.Has 4),(ml c.got.T 4),(ml c.known.Has 4),(ml c.known.T 4)]){r}(H:M.rY N c m u n=some r) :
    Calls Tryz.prog 53 #[pt i 0,vi m,vi u,vu n] j (kQ k l j λv κ w => ∃o p,v = .tuple #[]∧SS k l j κ w (k03 i r.dc o (r.beats).length p r.got.Epoch r.got.Has r.got.T r.known.Epoch r.known.Has r.known.T r.stable (ownX (fInt .u64) 32 o p r.beats)) [(ml r.got.Has 4),(ml r.got.T 4),(ml r.known.Has 4),(ml r.known.T 4)]):=by
 have d:=q.hS
 have F:=d.fresh
 refine en Tryz.func53 rfl Tryz.ntmps53 λa b=>?_
 unfold M.rY at H
 refine qs λ_ B=>qr λ_ C=>bd H λx e H=>kA (λa w => ∃κ:Gh,Fr (39) [] [k2g i,k2a m,(3,vu n),(26,vb x)] a∧SS k l j κ w (k03 i c.dc g (c.beats).length h c.got.Epoch c.got.Has c.got.T c.known.Epoch c.known.Has c.known.T c.stable (ownX (fInt .u64) 32 g h c.beats)) [(ml c.got.Has 4),(ml c.got.T 4),(ml c.known.Has 4),(ml c.known.T 4)]∧True) ?_ ?_
 refine wp 7 [0,1,2,3,10,11,14] b λa b=>wcg b (wld b d 0 0 0 λa b=>wp 3 [0,1,2,3,18] b λa b=>bs e (λhb e=>?_) λhb e=>?_)
 have b:=b.bv 18 hb
 refine wp 8 [0,1,3,26] b λa b=>nl ?_
 cases e
 exact ⟨_,b.kp [0,1,3,26],d.sp [0,1] (rg 4),trivial⟩
 have b:=b.bv 18 hb
 refine wp 5 [0,1,3,18,19,23] b λa b=>wcg b (wld b d 0 5 0 λa b=>wp 2 [0,1,3,26] b λa b=>nl ?_)
 cases e
 exact ⟨_,b.kp [0,1,3,26],d.sp [0,1] (rg 4),trivial⟩
 rintro a w ⟨κ,b,d,-⟩
 refine C _ _ (bc b H (λhb H=>?_) λhb H=>?_)
 refine rt ?_
 cases H
 exact j7 b d (mI Tryz.results53) ⟨g,h,rfl,d.sp [0,1] (rg 4)⟩
 refine sk (B _ _ (qr λ_ y=>wp 4 [0,1,3,27,30] b λa b=>wc (wls b d 0 5 3 λa b=>wp 2 [0,27,31,32,33] b λa b=>bd H λf s H=>wc (jS b d kr kr (vX N d.fresh c.known m n ((d.pick [2,3] kr).ro) s) ?_))))
 rintro _ κ w a ⟨rfl,D,I⟩ b d J
 have d:=d.adds D
 refine wp 2 [0,34,36] b λa b=>wc (wst b d 0 5 3 (k00 f.Epoch f.Has f.T) (sgN 1 (kO (d.get 0 rfl) (kO (d.get 1 rfl) jE))) λa w b d=>y _ _ (rl (wp 1 [37] b λa b=>bd H λG t H=>wc (wcS 2 [0,1] b d (λd=>rD N (j4.mk c.dc c.beats c.got f c.stable) g h i (d.sbK [2,3,0,1]) t) ?_))))
 rintro _ κ w a ⟨z,A,rfl,E⟩ b q
 have d:=q _ _ E
 refine nl ?_
 cases H
 exact j7 b d (mI Tryz.results53) ⟨z,A,rfl,d.sp [0,1] (rg 4)⟩
theorem zK (N){g}{h}{e}(b:j4)(f)(i)(j)(k)(n:SB g h e (k03 k b.dc i (b.beats).length j b.got.Epoch b.got.Has b.got.T b.known.Epoch b.known.Has b.known.T b.stable (ownX (fInt .u64) 32 i j b.beats)) [(ml b.got.Has 4),(ml b.got.T 4),(ml b.known.Has 4),(ml b.known.T 4)]){r}(H:M.tK N b f=some r) :
    Calls Tryz.prog 57 #[pt k 0,vu f] e (kQ g h e λv κ w => ∃l m,v = .tuple #[]∧SS g h e κ w (k03 k r.dc l (r.beats).length m r.got.Epoch r.got.Has r.got.T r.known.Epoch r.known.Has r.known.T r.stable (ownX (fInt .u64) 32 l m r.beats)) [(ml r.got.Has 4),(ml r.got.T 4),(ml r.known.Has 4),(ml r.known.T 4)]):=by
 have d:=n.hS
 have p:=d.fresh
 refine en Tryz.func57 rfl Tryz.ntmps57 λa c=>?_
 unfold M.tK at H
 refine qr λ_ o=>wp 2 [0,1,5] c λa c=>o _ _ (ct c rfl (rl (wp 4 [1,6,9] c λa c=>wc (wld c d 0 8 0 λa c=>wp 4 [12,14] c λa c=>wc (wst c d 0 8 1 [su (if f > b.stable then f else b.stable)] (sgN 1 jE) λa w c d=>nl ?_)))))
 cases H
 exact j7 c d (mI Tryz.results57) ⟨i,j,rfl,d.sp [0,1] (rg 4)⟩
theorem vZ (N){x}{z}{o}(d:j4)(e)(l)(h)(j)(f)(Z:SB x z o (k03 f d.dc h (d.beats).length j d.got.Epoch d.got.Has d.got.T d.known.Epoch d.known.Has d.known.T d.stable (ownX (fInt .u64) 32 h j d.beats)) [(ml d.got.Has 4),(ml d.got.T 4),(ml d.known.Has 4),(ml d.known.T 4)]){r}(H:M.qR N d e l=some r) :
    Calls Tryz.prog 97 #[pt f 0,vi e,vi l] o (kQ x z o λv κ w => ∃A B,v=vi r.1∧SS x z o κ w (k03 f r.2.dc A (r.2.beats).length B r.2.got.Epoch r.2.got.Has r.2.got.T r.2.known.Epoch r.2.known.Has r.2.known.T r.2.stable (ownX (fInt .u64) 32 A B r.2.beats)) [(ml r.2.got.Has 4),(ml r.2.got.T 4),(ml r.2.known.Has 4),(ml r.2.known.T 4)]):=by
 have c:=Z.hS
 have ah:=c.fresh
 refine en Tryz.func97 rfl Tryz.ntmps97 λa b=>?_
 unfold M.qR at H
 refine qr λ_ h7=>wp 1 [0,1,2] b λa b=>h7 _ _ (qs λ_ h8=>qr λ_ h9=>bd H λI g H=>kA (λa w => ∃κ:Gh,Fr (58) [] [k2g f,k2a e,k2h l,(17,vb I)] a∧SS x z o κ w (k03 f d.dc h (d.beats).length j d.got.Epoch d.got.Has d.got.T d.known.Epoch d.known.Has d.known.T d.stable (ownX (fInt .u64) 32 h j d.beats)) [(ml d.got.Has 4),(ml d.got.T 4),(ml d.known.Has 4),(ml d.known.T 4)]∧True) ?_ ?_)
 refine wp 7 [0,1,2,14] b λa b=>bs g (λhb g=>?_) λhb g=>?_
 have b:=b.bv 14 hb
 refine wp 3 [0,1,2,17] b λa b=>nl ?_
 cases g
 exact ⟨_,b.kp [0,1,2,17],c.sp [0,1] (rg 4),trivial⟩
 have b:=b.bv 14 hb
 refine wp 3 [0,1,2,17] b λa b=>nl ?_
 cases g
 exact ⟨_,b.kp [0,1,2,17],c.sp [0,1] (rg 4),trivial⟩
 rintro a w ⟨κ,b,c,-⟩
 refine h9 _ _ (bc b H (λhb H=>?_) λhb H=>?_)
 refine qr λ_ J=>wp 1 [6] b λa b=>J _ _ (rt ?_)
 cases H
 exact j7 b c (l3 Tryz.results97 (rvt b)) ⟨h,j,rfl,c.sp [0,1] (rg 4)⟩
 refine sk (h8 _ _ (qs λ_ K=>qr λ_ L=>(jG (L':=[k2g f,k2a e,k2h l,(19,vi e),(22,pt f 3)]) 5 [0,1,2,19,22] b kr λa b=>bd H λO p H=>wc (l5 b kr (E:=4) (sz:=1) (n:=4) rfl rfl (i:=e) rfl (m1 p (c.get 0 rfl)) kr kr λa b=>wc (rF (t:=jN) b c kr 0 3 (v:=vb O) rfl rfl rfl rfl p rfl rfl kr kr λa b=>L _ _ (bc b H (λhb H=>?_) λhb H=>?_))))))
 refine qr λ_ P=>wp 1 [6] b λa b=>P _ _ (rt ?_)
 cases H
 exact j7 b c (l3 Tryz.results97 (rvt b)) ⟨h,j,rfl,c.sp [0,1] (rg 4)⟩
 refine sk (K _ _ (qs λ_ Q=>qr λ_ R=>wp 5 [0,1,2,25,29] b λa b=>wc (wld b c 0 2 0 λa b=>wp 1 [0,1,2,31] b λa b=>R _ _ (bc b H (λhb H=>?_) λhb H=>?_))))
 refine qr λ_ S=>wp 1 [6] b λa b=>S _ _ (rt ?_)
 cases H
 exact j7 b c (l3 Tryz.results97 (rvt b)) ⟨h,j,rfl,c.sp [0,1] (rg 4)⟩
 refine sk (Q _ _ (qr λ_ U=>wp 4 [0,1,2,35] b λa b=>wc (wls b c 0 3 1 λa b=>?_)))
 have c:=c.add (m:=ml (replicate 4 false) 4) (List.length_replicate)
 refine wc (wal b c [eb 4 (replicate 4 false)] (kO List.length_replicate jE) λq a w b c=>wc (wst b c 0 0 1 [eb 4 d.got.Has] (kO (c.get 1 rfl) jE) λa w b c=>(U _ _ (qr λ_ V=>(jG (L':=[k2g f,k2h l,k2i q,(37,vi e)]) 1 [0,2,7,37] b kr λa b=>bd H λai s H=>wc (l5 b kr (E:=4) (sz:=1) (n:=4) rfl rfl (i:=e) rfl (m1 s (c.get 1 rfl)) kr kr λa b=>wc (lM (t:=jN) (y:=true) (v:=vb true) b c kr 0 0 (s':=[eb 4 (set d.got.Has (toNat e) true)]) (C':=[k2e q (set d.got.Has (toNat e) true),k2f f d.dc h (d.beats).length j d.got.Epoch d.got.Has d.got.T d.known.Epoch d.known.Has d.known.T d.stable,.ext (ownX (fInt .u64) 32 h j d.beats)]) rfl rfl kr rfl rfl s rfl rfl kr kr kr kr λa w b c=>?_)))))))
 have c:=c.add (m:=ml (set d.got.Has (toNat e) true) 4) (List.length_set.trans (c.get 1 rfl))
 refine V _ _ (qs λ_ W=>rgS c [13] ?_)
 have c:=c.drew
 have C:=c.fx
 refine anp [0,1,2,3,5] [0,2,7,40,43,45] b C λa b=>atk 4 (some 44) b C rfl (vls 1 2 3) λa b=>atk 6 (some 46) b C rfl (vls 0 0 1) λa b=>ago 7 b rfl (bd H λk D H=>jS b c kr kr (zI N c.fresh d.got l (set d.got.Has (toNat e) true) ((c.pick [2,3,0] kr).ro) D) ?_)
 rintro _ κ w a ⟨rfl,F,hN⟩ b c hO
 have c:=c.adds F
 refine ⟨λ_=>(c.sx [0,1,2] (ra 2 6)),?_⟩
 refine anp [8,9,11,12] [0,2,7,39,48,51] b (c.sx [0,1,2] (ra 2 6)) λa b=>tU [10] [0,2,7,48,51] b (λ_=>c.sx [0,1,2] (ra 2 6)) λa b=>?_
 have b:Fr (58) _ [k2g f,k2h l,k2i q,(48,.agg (flat [si k.1.Epoch,eb 4 k.1.Has,(4,(encs (fInt .u64) k.1.T))]).toArray),(51,pt f 2)] a:=b.kp [0,2,7,48,51]
 refine ago 13 b rfl (wst b c 1 2 3 (k00 k.1.Epoch k.1.Has k.1.T) (sgN 1 (kO (c.get 0 rfl) (kO (c.get 1 rfl) jE))) λa w b c=>⟨notE,?_⟩)
 refine kM (W _ _ (qr λ_ X=>wp 2 [7,52,53] b λa b=>wc (wls b c 0 0 1 λa b=>bd H λu G H=>wc (jS b c kr kr (vF N c.fresh l (set d.got.Has (toNat e) true) ((c.pick [2] kr).ro) G) ?_))))
 rintro _ κ w a ⟨rfl,F,hN⟩ b c hO
 have c:=c.adds F
 refine wp 2 [55,57] b λa b=>wc (wst b c 1 5 3 (k00 u.Epoch u.Has u.T) (sgN 1 (kO (c.get 0 rfl) (kO (c.get 1 rfl) jE))) λa w b c=>X _ _ (qr λ_ Y=>wp 1 [6] b λa b=>Y _ _ (rt ?_)))
 cases H
 exact j7 b c (l3 Tryz.results97 (rvt b)) ⟨h,j,rfl,c.sp [1,2] [2,3,0,1]⟩
theorem yT (N){x}{z}{p}(d:j4)(e)(o)(j)(k)(f)(C:SB x z p (k03 f d.dc j (d.beats).length k d.got.Epoch d.got.Has d.got.T d.known.Epoch d.known.Has d.known.T d.stable (ownX (fInt .u64) 32 j k d.beats)) [(ml d.got.Has 4),(ml d.got.T 4),(ml d.known.Has 4),(ml d.known.T 4)]){r}(H:M.rG N d e o=some r) :
    Calls Tryz.prog 58 #[pt f 0,vi e,vi o] p (kQ x z p λv κ w => ∃A B,v=vi r.1∧SS x z p κ w (k03 f r.2.dc A (r.2.beats).length B r.2.got.Epoch r.2.got.Has r.2.got.T r.2.known.Epoch r.2.known.Has r.2.known.T r.2.stable (ownX (fInt .u64) 32 A B r.2.beats)) [(ml r.2.got.Has 4),(ml r.2.got.T 4),(ml r.2.known.Has 4),(ml r.2.known.T 4)]):=by
 have c:=C.hS
 have aq:=c.fresh
 refine en Tryz.func58 rfl Tryz.ntmps58 λa b=>?_
 unfold M.rG at H
 refine qr λ_ h7=>wp 1 [0,1,2] b λa b=>h7 _ _ (qs λ_ h8=>qr λ_ h9=>bd H λK g H=>kA (λa w => ∃κ:Gh,Fr (79) [] [k2g f,k2a e,k2h o,(18,vb K)] a∧SS x z p κ w (k03 f d.dc j (d.beats).length k d.got.Epoch d.got.Has d.got.T d.known.Epoch d.known.Has d.known.T d.stable (ownX (fInt .u64) 32 j k d.beats)) [(ml d.got.Has 4),(ml d.got.T 4),(ml d.known.Has 4),(ml d.known.T 4)]∧True) ?_ ?_)
 refine wp 7 [0,1,2,15] b λa b=>bs g (λhb g=>?_) λhb g=>?_
 have b:=b.bv 15 hb
 refine wp 3 [0,1,2,18] b λa b=>nl ?_
 cases g
 exact ⟨_,b.kp [0,1,2,18],c.sp [0,1] (rg 4),trivial⟩
 have b:=b.bv 15 hb
 refine wp 3 [0,1,2,18] b λa b=>nl ?_
 cases g
 exact ⟨_,b.kp [0,1,2,18],c.sp [0,1] (rg 4),trivial⟩
 rintro a w ⟨κ,b,c,-⟩
 refine h9 _ _ (bc b H (λhb H=>?_) λhb H=>?_)
 refine qr λ_ L=>wp 1 [6] b λa b=>L _ _ (rt ?_)
 cases H
 exact j7 b c (l3 Tryz.results58 (rvt b)) ⟨j,k,rfl,c.sp [0,1] (rg 4)⟩
 refine sk (h8 _ _ (qs λ_ O=>qr λ_ P=>(jG (L':=[k2g f,k2a e,k2h o,(20,vi e),(23,pt f 3)]) 5 [0,1,2,20,23] b kr λa b=>bd H λQ q H=>wc (l5 b kr (E:=4) (sz:=1) (n:=4) rfl rfl (i:=e) rfl (m1 q (c.get 0 rfl)) kr kr λa b=>wc (rF (t:=jN) b c kr 0 3 (v:=vb Q) rfl rfl rfl rfl q rfl rfl kr kr λa b=>wp 1 [0,1,2,26] b λa b=>P _ _ (bc b H (λhb H=>?_) λhb H=>?_))))))
 refine qr λ_ R=>wp 1 [6] b λa b=>R _ _ (rt ?_)
 cases H
 exact j7 b c (l3 Tryz.results58 (rvt b)) ⟨j,k,rfl,c.sp [0,1] (rg 4)⟩
 refine sk (O _ _ (qs λ_ S=>qr λ_ U=>wp 5 [0,1,2,27,31] b λa b=>wc (wld b c 0 2 0 λa b=>wp 1 [0,1,2,33] b λa b=>U _ _ (bc b H (λhb H=>?_) λhb H=>?_))))
 refine qr λ_ V=>wp 1 [6] b λa b=>V _ _ (rt ?_)
 cases H
 exact j7 b c (l3 Tryz.results58 (rvt b)) ⟨j,k,rfl,c.sp [0,1] (rg 4)⟩
 refine sk (S _ _ (qr λ_ W=>wp 4 [0,1,2,37] b λa b=>wc (wls b c 0 3 1 λa b=>?_)))
 have c:=c.add (m:=ml (replicate 4 false) 4) (List.length_replicate)
 refine wc (wal b c [eb 4 (replicate 4 false)] (kO List.length_replicate jE) λs a w b c=>wc (wst b c 0 0 1 [eb 4 d.got.Has] (kO (c.get 1 rfl) jE) λa w b c=>(W _ _ (qr λ_ X=>(jG (L':=[k2g f,k2h o,k2i s,(39,vi e)]) 1 [0,2,7,39] b kr λa b=>bd H λar u H=>wc (l5 b kr (E:=4) (sz:=1) (n:=4) rfl rfl (i:=e) rfl (m1 u (c.get 1 rfl)) kr kr λa b=>wc (lM (t:=jN) (y:=false) (v:=vb false) b c kr 0 0 (s':=[eb 4 (set d.got.Has (toNat e) false)]) (C':=[k2e s (set d.got.Has (toNat e) false),k2f f d.dc j (d.beats).length k d.got.Epoch d.got.Has d.got.T d.known.Epoch d.known.Has d.known.T d.stable,.ext (ownX (fInt .u64) 32 j k d.beats)]) rfl rfl kr rfl rfl u rfl rfl kr kr kr kr λa w b c=>?_)))))))
 have c:=c.add (m:=ml (set d.got.Has (toNat e) false) 4) (List.length_set.trans (c.get 1 rfl))
 refine X _ _ (qr λ_ Y=>wp 4 [0,2,7,44] b λa b=>wc (wld b c 1 5 0 λa b=>wp 1 [0,2,7,8] b λa b=>Y _ _ (qs λ_ Z=>rgS c [13] ?_)))
 have c:=c.drew
 have D:=c.fx
 refine anp [0,1,2,3,5] [0,7,8,47,50,52] b D λa b=>atk 4 (some 51) b D rfl (vls 1 2 3) λa b=>atk 6 (some 53) b D rfl (vls 0 0 1) λa b=>ago 7 b rfl (bd H λh F H=>jS b c kr kr (zI N c.fresh d.got o (set d.got.Has (toNat e) false) ((c.pick [2,3,0] kr).ro) F) ?_)
 rintro _ κ w a ⟨rfl,G,hN⟩ b c hO
 have c:=c.adds G
 refine ⟨λ_=>(c.sx [0,1,2] (ra 2 6)),?_⟩
 refine anp [8,9,11,12] [0,7,8,46,55,58] b (c.sx [0,1,2] (ra 2 6)) λa b=>tU [10] [0,7,8,55,58] b (λ_=>c.sx [0,1,2] (ra 2 6)) λa b=>?_
 have b:Fr (79) _ [k2g f,k2i s,(8,vi d.known.Epoch),(55,.agg (flat [si h.1.Epoch,eb 4 h.1.Has,(4,(encs (fInt .u64) h.1.T))]).toArray),(58,pt f 2)] a:=b.kp [0,7,8,55,58]
 refine ago 13 b rfl (wst b c 1 2 3 (k00 h.1.Epoch h.1.Has h.1.T) (sgN 1 (kO (c.get 0 rfl) (kO (c.get 1 rfl) jE))) λa w b c=>⟨notE,?_⟩)
 refine kM (Z _ _ (qr λ_ aa=>wp 1 [0,7,8,59] b λa b=>wc (wls b c 0 0 1 λa b=>wp 3 [0,8,60,63] b λa b=>wc (wst b c 1 6 1 [eb 4 (set d.got.Has (toNat e) false)] (kO (c.get 2 rfl) jE) λa w b c=>aa _ _ (qr λ_ ab=>wp 4 [0,8,64,67] b λa b=>wc (wls b c 1 5 3 λa b=>bd H λl I H=>wc (jS b c kr kr (vY N c.fresh (kC.mk d.known.Epoch (set d.got.Has (toNat e) false) d.known.T) ((c.pick [2,7] kr).ro) I) ?_)))))))
 rintro _ κ w a ⟨rfl,G,hN⟩ b c hO
 have c:=c.adds G
 refine wp 2 [0,8,69,71] b λa b=>wc (wst b c 1 5 3 (k00 l.Epoch l.Has l.T) (sgN 1 (kO (c.get 0 rfl) (kO (c.get 1 rfl) jE))) λa w b c=>ab _ _ (qr λ_ ad=>wp 5 [0,73,76] b λa b=>wc (wst b c 1 5 1 [si d.known.Epoch] (sgN 1 jE) λa w b c=>ad _ _ (qr λ_ ae=>wp 1 [77] b λa b=>bd H λau J H=>wc (wcS 2 [1,2,0] b c (λc=>rD N (j4.mk d.dc d.beats h.1 (kC.mk d.known.Epoch l.Has l.T) d.stable) j k f (c.sbK [2,3,0,1]) J) ?_)))))
 rintro _ κ w a ⟨af,ah,rfl,h2⟩ b C
 have c:=C _ _ h2
 refine ae _ _ (qr λ_ ai=>wp 1 [6] b λa b=>ai _ _ (rt ?_))
 cases H
 exact j7 b c (l3 Tryz.results58 (rvt b)) ⟨af,ah,rfl,c.sp [0,1] (rg 4)⟩
end Go.Cf
