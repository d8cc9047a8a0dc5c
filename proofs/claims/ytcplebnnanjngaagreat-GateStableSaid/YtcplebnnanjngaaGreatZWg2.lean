/- The walks: each function returns what its model says. Printed by a program of ours. -/
import Derived.Test.YtcplebnnanjngaaGreatZSh
import Derived.Test.YtcplebnnanjngaaGreatZM1
import Derived.Test.YtcplebnnanjngaaGreatZWs
import Derived.Test.YtcplebnnanjngaaGreatZWo
import Derived.Test.YtcplebnnanjngaaGreatZWi
import Derived.Test.YtcplebnnanjngaaGreatZWp
import Derived.Test.YtcplebnnanjngaaGreatZWc
namespace Go.Cf
open Go Go.Proofs
open _root_.Int(toNat tdiv tmod)
open _root_.List(set replicate)
open _root_.ByteArray(empty)
open Go.IntKind(i64 u64)
set_option linter.unusedVariables false
set_option maxRecDepth 20000
set_option maxHeartbeats 8000000
theorem u7 (N){Ms}{κ0}{w0}(a2)(L)(a4)(a5)(a6:jA)(aL)(aM)(aO)(ak)(al)(aA)(aB)(k:(List j3))(aD)(aa)(O)(l:(List Int))(o:(List Int))(P)(Q)(R)(S)(W)(p7)(c8)(p9)(bu)(u)(aE)(aP)(aF)(aQ)(x)(am)(aR)(p)(ab)(X)(q)(ad)(Y)(z)(A)(s)(ae)(Z)(B)(T)(af)(C)(D)(F)(G)(I)(J)(f)(hB:SB Ms κ0 w0 [.box f 87 [(2,W),si a2,si L,si a4,si a5,sl p7 (a6.Cuts).length c8,sl p9 (a6.Nodes).length bu,(5,u),sp aE,sp aF,(1,x),k3l am,ei 4 ak,ei 4 al,sm p,sm q,sl z k.length A,sm s,(1,B),sp T,(1,C),si O,sl D l.length F,sl G o.length I,su P,sb Q,sb R,sb S,(2,J)],k3d z k.length A,k3e D l.length F,k3e G o.length I,k3f aE aP aL,k3g aF aQ aM,.ext (arrX j6 am aR aO),mx p ab X,mx q ad Y,mx s ae Z,k2y T af aa] [k2l p7 c8 a6.Cuts,k2m p9 bu a6.Nodes,(ml am 4),(ml ak 4),(ml al 4),k3h p ab X aA,k3i q ad Y aB,k3j z A k,k3k s ae Z aD,k2v D F l,k2v G I o]){r}(H:M.pQ N a2 L a4 a5 a6 aL aM aO ak al aA aB k aD aa O l o P Q R S=some r) :
    Calls Tryz.prog 24 #[pt f 0] w0 (kQ Ms κ0 w0 λv κ w => ∃aT aU aV aW aX bn aY bo an bq ao aZ a0 aq a1 a7 ar au av a8 a9 ba br aw ax ay az,v = .tuple #[]∧SS Ms κ0 w0 κ w [.box f 87 [(2,W),si r.1,si L,si r.2.1,si r.2.2.1,sl aT (r.2.2.2.1.Cuts).length aU,sl aV (r.2.2.2.1.Nodes).length aW,(5,u),sp aX,sp aY,(1,x),k3l an,ei 4 r.u4.2.2.2.1,ei 4 r.u8.1,sm ao,sm aq,sl ar (r.u8.2.2.2.1).length au,sm av,(1,B),sp ba,(1,C),si r.u8.u4.2.2.1,sl aw (r.u8.u4.2.2.2.1).length ax,sl ay (r.u8.u8.1).length az,su r.u8.u8.2.1,sb r.u8.u8.2.2.1,sb r.u8.u8.2.2.2.1,sb r.u8.u8.u4,(2,J)],k3d ar (r.u8.2.2.2.1).length au,k3e aw (r.u8.u4.2.2.2.1).length ax,k3e ay (r.u8.u8.1).length az,k3f aX bn r.u4.1,k3g aY bo r.u4.2.1,.ext (arrX j6 an bq r.u4.2.2.1),mx ao aZ a0,mx aq a1 a7,mx av a8 a9,k2y ba br r.u8.u4.2.1] [k2l aT aU r.2.2.2.1.Cuts,k2m aV aW r.2.2.2.1.Nodes,(ml an 4),(ml r.u4.2.2.2.1 4),(ml r.u8.1 4),k3h ao aZ a0 r.u8.2.1,k3i aq a1 a7 r.u8.2.2.1,k3j ar au r.u8.2.2.2.1,k3k av a8 a9 r.u8.u4.1,k2v aw ax r.u8.u4.2.2.2.1,k2v ay az r.u8.u8.1]):=by
 have d:=hB.hS
 have b0:=d.fresh
 refine en Tryz.func24 rfl Tryz.ntmps24 λa b=>?_
 unfold M.pQ at H
 refine qr λ_ bS=>wp 7 [0,3,4,5,6,9] b λa b=>wc (wld b d 0 2 0 λa b=>wp 3 [0,4,5,6,10,11,13] b λa b=>wc (wst b d 0 1 1 [si 0] (sgN 1 jE) λa w b d=>wp 2 [0,5,6,10,11,15] b λa b=>wc (wst b d 0 3 1 [si L] (sgN 1 jE) λa w b d=>wp 2 [0,6,11,17] b λa b=>wc (wst b d 0 4 1 [si 0] (sgN 1 jE) λa w b d=>wp 2 [0,11,19] b λa b=>wc (wst b d 0 5 2 k05 (sgN 2 jE) λa w b d=>bS _ _ (qr λ_ bT=>wp 2 [0,20,21] b λa b=>bd H λK bA H=>wc (wcS 0 (rg 11) b d (λd=>EW N (d.sbK []) bA) ?_)))))))
 rintro _ κ w a ⟨U,be,bf,bg,bh,rfl,h2⟩ b hB
 have d:=hB _ _ h2
 refine bd H λah bC H=>wc (wcS 0 (rg 14) b d (λd=>EZ N (d.sbK []) bC) ?_)
 rintro _ κ w a ⟨V,bi,bw,bx,bz,bj,rfl,h2⟩ b hB
 have d:=(hB _ _ h2).cC (C':=[k39 V bi,mx bi bw bx,.ext (mpX jW bz bj ah.open_ none),k2z U be (K.list).length bf bg (K.waiting).length bh K.bound,k30 be (K.list).length bf,k30 bg (K.waiting).length bh,.box f 87 [(2,W),si 0,si L,si L,si 0,k2j,k2j,(5,u),sp aE,sp aF,(1,x),k3l am,ei 4 ak,ei 4 al,sm p,sm q,sl z k.length A,sm s,(1,B),sp T,(1,C),si O,sl D l.length F,sl G o.length I,su P,sb Q,sb R,sb S,(2,J)],k3d z k.length A,k3e D l.length F,k3e G o.length I,k3f aE aP aL,k3g aF aQ aM,.ext (arrX j6 am aR aO),mx p ab X,mx q ad Y,mx s ae Z,k2y T af aa])
 refine wp 2 [0,21,22,23,25] b λa b=>wc (wst b d 6 8 1 [k34 U] (sgN 1 jE) λa w b d=>wp 2 [0,23,27] b λa b=>wc (wst b d 6 9 1 [k34 V] (sgN 1 jE) λa w b d=>nl ?_))
 obtain ⟨ai,d⟩:=d.foldI (ck:=kV) (fs:=kT) U (be,bf,bg,bh) K [3,4,5] [0,1,2,6,7,8,9,10,11,12,13,14,15,16] [1,2] dc kr kr
 obtain ⟨aj,d⟩:=d.foldI (ck:=kZ) (fs:=kY) V (bi,bw,bx,bz,bj) ah [1,2,3] [0,4,5,6,7,8,9,10,11,12,13,14] [0] dc kr kr
 refine bT _ _ (qr λ_ bU=>wp 4 [0,29,31] b λa b=>?_)
 have d:=d.add (m:=ml (replicate 4 (none:Option Nat)) 4) (List.length_replicate)
 refine wc (wst b d 2 11 1 [k3l (replicate 4 (none:Option Nat))] (kO List.length_replicate jE) λa w b d=>(bU _ _ (qs λ_ bV=>qr λ_ bW=>(wp 1 [0,32] b λa b=>(bW _ _ (bk (jX (n:=N) (λn a w => ∃κ g j e,Fr (85) [] [k2g f,(32,vi e)] a∧SS Ms κ0 w0 κ w (k0p f W L u U V x (replicate 4 (none:Option Nat)) g j p q z k.length A s B T C O D l.length F G o.length I P Q R S J ai K aj ah (arrX j6 (replicate 4 (none:Option Nat)) [] (replicate 4 none)) ab X ad Y ae Z af aa) [Ro.mp lB.ty none 0 ([]:List ByteArray),Ro.mp (fInt .i64).ty none 0 ([]:List Int),(ml (replicate 4 (none:Option Nat)) 4),(ml g 4),(ml j 4),k3h p ab X aA,k3i q ad Y aB,k3j z A k,k3k s ae Z aD,k2v D F l,k2v G I o]∧M.nZ N n L aA aB k aD aa O l o P Q R S K ah g j e=some r) ?_ ?_)))))))
 have d:=d.add (m:=Ro.mp lB.ty none 0 ([]:List ByteArray)) (Ro.nil lB.ty _ _)
 have d:=d.add (m:=Ro.mp (fInt .i64).ty none 0 ([]:List Int)) (Ro.nil (fInt .i64).ty _ _)
 have d:=d.addArr j6 4
 exact ⟨_,ak,al,0,b.kp [0,32],d.sp [3,4,5,6,2,1,0,10,11,12,13] [1,0,2,9,10,11,12,13,14,15,16],H⟩
 rintro n a w ⟨κ,g,j,e,b,d,H⟩
 rcases n with _|bt
 simp [M.nZ] at H
 simp only [M.nZ] at H
 refine qr λ_ bD=>wp 1 [0,32,33] b λa b=>bD _ _ (qs λ_ bE=>bc b H (λhb H=>?_) λhb H=>?_)
 refine sk (bE _ _ (qs λ_ bF=>bk (qr λ_ bG=>wp 2 [0,2,32] b λa b=>bG _ _ (rgS d [7,11] ?_))))
 have d:=d.drew
 have hX:=d.fx
 refine jO [0,1,4,5] [0,2,32,36,40] (L':=[k2g f,k2h e,(32,vi e),(36,vi e),(40,pt f 20)]) (listed':=(mU 12 51)) (fuel:=8) b hX kr (by intro c a w t v h; cases t<;>exact h) kr rfl λa b=>tU [2,3,8,9] [0,32,36,38,40,43] b (λ_=>hX) λa b=>?_
 have b:Fr (85) _ [k2g f,(32,vi e),(36,vi e),(38,vi e),(40,pt f 20),(43,pt f 24)] a:=b.kp [0,32,36,38,40,43]
 refine bd H λbY aG H=>atk 6 (some 41) b (d.sx [0,4,5,6,7,8,9,10] (rg 11)) rfl (λw _=>lU (E:=3) (sz:=1) (n:=4) rfl rfl (i:=e) rfl (m1 aG (d.get 3 rfl)) kr kr w) λa b=>ago 7 b rfl (lM (t:=(fInt .i64)) (y:=(-1)) (v:=vi (-1)) b d kr 0 12 (s':=[(2,W),si 0,si L,si L,si 0,k2j,k2j,(5,u),k34 U,k34 V,(1,x),k3l (replicate 4 (none:Option Nat)),ei 4 (set g (toNat e) (-1)),ei 4 j,sm p,sm q,sl z k.length A,sm s,(1,B),sp T,(1,C),si O,sl D l.length F,sl G o.length I,su P,sb Q,sb R,sb S,(2,J)]) (C':=k0p f W L u U V x (replicate 4 (none:Option Nat)) (set g (toNat e) (-1)) j p q z k.length A s B T C O D l.length F G o.length I P Q R S J ai K aj ah (arrX j6 (replicate 4 (none:Option Nat)) [] (replicate 4 none)) ab X ad Y ae Z af aa) rfl rfl kr rfl rfl aG rfl rfl kr kr kr kr λa w b d=>?_)
 have d:=d.add (m:=ml (set g (toNat e) (-1)) 4) (List.length_set.trans (d.get 3 rfl))
 refine ⟨notE,?_⟩
 refine ago 10 b rfl (bd H λbZ aH H=>l5 b kr (E:=3) (sz:=1) (n:=4) rfl rfl (i:=e) rfl (m1 aH (d.get 5 rfl)) kr kr λa b=>⟨notE,?_⟩)
 refine ago 11 b rfl (lM (t:=(fInt .i64)) (y:=0) (v:=vi 0) b d kr 0 13 (s':=[(2,W),si 0,si L,si L,si 0,k2j,k2j,(5,u),k34 U,k34 V,(1,x),k3l (replicate 4 (none:Option Nat)),ei 4 (set g (toNat e) (-1)),ei 4 (set j (toNat e) 0),sm p,sm q,sl z k.length A,sm s,(1,B),sp T,(1,C),si O,sl D l.length F,sl G o.length I,su P,sb Q,sb R,sb S,(2,J)]) (C':=k0p f W L u U V x (replicate 4 (none:Option Nat)) (set g (toNat e) (-1)) (set j (toNat e) 0) p q z k.length A s B T C O D l.length F G o.length I P Q R S J ai K aj ah (arrX j6 (replicate 4 (none:Option Nat)) [] (replicate 4 none)) ab X ad Y ae Z af aa) rfl rfl kr rfl rfl aH rfl rfl kr kr kr kr λa w b d=>?_)
 have d:=d.add (m:=ml (set j (toNat e) 0) 4) (List.length_set.trans (d.get 5 rfl))
 refine ⟨notE,?_⟩
 refine kM (bF _ _ (rl (wp 2 [0,32] b λa b=>nl ?_)))
 exact ⟨bt,Nat.lt_succ_self _,_,(set g (toNat e) (-1)),(set j (toNat e) 0),i64.wrap (e+1),b.kp [0,32],d.sp (rg 11) [2,3,4,1,0,7,8,9,10,11,12],H⟩
 refine xt (bV _ _ (qr λ_ bH=>(jG (L':=[k2g f,(48,pt f 28)]) 3 [0,48] b kr λa b=>wc (wld b d 0 14 0 λa b=>wc (B0 (KT:=32) (E:=3) (kt:=(kInt .u64)) (agg:=false) (t:=(fInt .i64).ty) b d kr 7 5 rfl kr rfl rfl kr λa w b d=>(bH _ _ (qr λ_ bI=>(jG (L':=[k2g f,(52,pt f 29)]) 3 [0,52] b kr λa b=>wc (wld b d 0 15 0 λa b=>wc (B0 (KT:=32) (E:=95) (kt:=(kInt .u64)) (agg:=true) (t:=kX) b d kr 8 7 rfl kr rfl rfl kr λa w b d=>bI _ _ (qs λ_ bJ=>?_)))))))))))
 refine rl (jG (L':=[k2g f,(56,pt f 31)]) 3 [0,56] b kr λa b=>wc (wld b d 0 17 0 λa b=>wc (B0 (KT:=32) (E:=138) (kt:=(kInt .u64)) (agg:=true) (t:=mD) b d kr 9 10 rfl kr rfl rfl kr λa w b d=>bJ _ _ (qr λ_ bK=>wp 3 [0,60] b λa b=>wc (wst b d 0 16 1 [k2j] (sgN 1 jE) λa w b d=>bK _ _ (rl (wp 10 [62,63,64,65,66,67,68,70] b λa b=>wc (wst b d 0 19 1 [k3o] (sgN 1 jE) λa w b d=>wp 2 [63,64,65,66,67,68,72] b λa b=>wc (wst b d 0 22 1 [k2j] (sgN 1 jE) λa w b d=>?_)))))))))
 refine wp 2 [64,65,66,67,68,74] b λa b=>wc (wst b d 0 23 1 [k2j] (sgN 1 jE) λa w b d=>wp 2 [65,66,67,68,76] b λa b=>wc (wst b d 0 21 1 [si 0] (sgN 1 jE) λa w b d=>wp 2 [66,67,68,78] b λa b=>wc (wst b d 0 24 1 [su 0] (sgN 1 jE) λa w b d=>wp 2 [67,68,80] b λa b=>wc (wst b d 0 25 1 [k2p] (sgN 1 jE) λa w b d=>wp 2 [68,82] b λa b=>wc (wst b d 0 26 1 [k2p] (sgN 1 jE) λa w b d=>wp 2 [84] b λa b=>wc (wst b d 0 27 1 [k2p] (sgN 1 jE) λa w b d=>nl ?_))))))
 have d:=d.add (m:=Ro.mp kX none 0 ([]:List j3)) (Ro.nil kX _ _)
 have d:=d.add (m:=Ro.mp (fInt .u64).ty none 0 ([]:List Int)) (Ro.nil (fInt .u64).ty _ _)
 have d:=d.addNil 95 5
 have d:=d.addNil 32 1
 have d:=d.addNil 32 1
 have d:=d.addOpt o_gate_move
 cases H
 exact j7 b d (mI Tryz.results24) ⟨none,0,none,0,(some U),ai,(some V),aj,(replicate 4 (none:Option Nat)),[],p,#[],X,q,#[],Y,none,0,s,#[],Z,none,[],none,0,none,0,rfl,d.sp [4,3,2,1,8,9,10,11,12,13,0] [5,6,7,8,9,4,3,1,2,0,0]⟩
theorem BR (N){Ms}{κ0}{w0}(J)(a2)(a3)(a4)(p5)(c6)(hB:SB Ms κ0 w0 [] [(ml a3 4),k2m p5 c6 a4]){r}(H:M.wJ N J a2 a3 a4=some r) :
    Calls Tryz.prog 7 #[vi J,vi a2,.agg (flat [eb 4 a3]).toArray,.slice p5 a4.length c6] w0 (kQ Ms κ0 w0 λv κ w => ∃bu bD,v = .tuple #[.pointer (pa bu),vi r.2]∧SS Ms κ0 w0 κ w [ox l7 bu bD r.1] []):=by
 have g:=hB.hS
 have cE:=g.fresh
 refine en Tryz.func7 rfl Tryz.ntmps7 λa e=>?_
 unfold M.wJ at H
 refine qr λ_ h7=>wc (wbx e g [eb 4 a3] (kO (g.get 0 rfl) jE) λb8 a w e g=>wp 2 [0,1,3,6] e λa e=>h7 _ _ (qr λ_ h9=>wp 2 [0,1,3,6,17,18] e λa e=>wc (wls e g 0 0 1 λa e=>bd H λao bN H=>wc (wcS 0 [0] e g (λg=>yU N J a2 a3 (g.sbK [0]) bN) ?_))))
 rintro _ κ w a ⟨O,an,rfl,h2⟩ e hB
 have g:=hB _ _ h2
 refine wp 5 [0,1,3,6,10,11] e λa e=>h9 _ _ (qs λ_ cd=>qr λ_ ce=>bd H λcg aP H=>kA (λa w => ∃κ:Gh,Fr (98) [] [(0,vi J),k2a a2,k3c p5 a4.length c6,k29 b8,k3p O,(29,vb cg)] a∧SS Ms κ0 w0 κ w [k2e b8 a3,k2c O an ao.1] [k2m p5 c6 a4,(ml a3 4)]∧True) ?_ ?_)
 refine wp 3 [0,1,3,6,10,25] e λa e=>bs aP (λhb aP=>?_) λhb aP=>?_
 have e:=e.bv 25 hb
 refine wp 4 [0,1,3,6,10,29] e λa e=>nl ?_
 cases aP
 exact ⟨_,e.kp [0,1,3,6,10,29],g.sp [1,0] [1,0],trivial⟩
 have e:=e.bv 25 hb
 refine wp 4 [0,1,3,6,10,29] e λa e=>nl ?_
 cases aP
 exact ⟨_,e.kp [0,1,3,6,10,29],g.sp [1,0] [1,0],trivial⟩
 rintro a w ⟨κ,e,g,-⟩
 refine ce _ _ (bc e H (λhb H=>?_) λhb H=>?_)
 refine qr λ_ ch=>wp 2 [8,9] e λa e=>ch _ _ (rt ?_)
 have g:=g.addOpt l7
 cases H
 exact j7 e g (sZ Tryz.results7 (rvt e) (rvt e)) ⟨none,[],rfl,g.sp [0] []⟩
 refine sk (cd _ _ (qs λ_ ci=>rga (λ_=>True) [] ?_))
 have g:=g.drew
 refine bd H λcF cu H=>bd H λcG cv H=>bd H λcH cw H=>jO [0,1,2,4,6] [0,6,10,30,31,32,34,36] (L':=[(0,vi J),k29 b8,k3p O,(30,vi J),(31,vi a2),(32,.slice p5 a4.length c6),(34,vi a2),(36,vi a2)]) (listed':=(mU 14 87)) (fuel:=9) e trivial kr (by intro c a w t v h; cases t<;>exact h) kr rfl λa e=>bd H λu bO H=>bd H λq bP H=>bd H λj bQ H=>KF [⟨3,33,λv A F => ∃B D,v = .slice B u.length D∧A=[.ext (ownX (fInt .i64) 3 B D u)]∧F=[]⟩,⟨5,35,λv A F => ∃x:Option Addr,v = .slice x q.length q.length∧A=[.ext (ownX jN 4 x (q.length) q)]∧F=[]⟩,⟨7,37,λv A F => ∃G:Option Addr,v = .slice G j.length j.length∧A=[.ext (ownX (fInt .i64) 3 G (j.length) j)]∧F=[]⟩,⟨8,38,λv A F => ∃az:Nat,v = .map (some az)∧A=[.ext (objX (some az) (.map (#[]) 0))]∧F=[Map.mp (kInt .u64) false (fInt .i64).ty (some az) (#[]) 0 (some [])]⟩,⟨9,39,λv A F => ∃aA:Nat,v = .map (some aA)∧A=[.ext (objX (some aA) (.map (#[]) 0))]∧F=[Map.mp (kInt .u64) true kX (some aA) (#[]) 0 (some [])]⟩,⟨10,40,λv A F => ∃aB:Nat,v = .map (some aB)∧A=[.ext (objX (some aB) (.map (#[]) 0))]∧F=[Map.mp (kInt .u64) true mD (some aB) (#[]) 0 (some [])]⟩] 3 (L:=[(0,vi J),k29 b8,k3p O,(30,vi J),(31,vi a2),(32,.slice p5 a4.length c6),(34,vi a2),(36,vi a2)]) (R:=[Ro.mp (fInt .i64).ty p5 c6 a4,ml a3 4]) (C:=[.box b8 22 [eb 4 a3],ox o_stab_Table O an ao.1]) e g (λs hs=>?_) (show List.Nodup [33,35,37,38,39,40] by decide) (show List.Nodup [3,5,7,8,9,10] by decide) (λs hs=>?_) kr rfl ?_
 simp only [List.mem_cons,List.not_mem_nil,or_false] at hs
 rcases hs with rfl|rfl|rfl|rfl|rfl|rfl
 exact ⟨_,rfl,rfl,rfl,λL1 R1 C κ a w K e g k=>B1 e (g.addOwn (fInt .i64) 3) kr 0 0 rfl kr kr rfl rfl rfl rfl bO kr (i:=Tryz.t3) (z:=vi 0) kr kr kr λp c κ a w e g=>k _ _ _ _ _ _ ⟨p,c,rfl,rfl,rfl⟩ e g⟩
 exact ⟨_,rfl,rfl,rfl,λL1 R1 C κ a w K e g k=>wB (E:=4) (i:=Tryz.t4) (z:=vb false) (zm:=false) (kl := .i64) (kc := .i64) e g kr jN rfl kr kr bP kr kr kr kr (Nat.le_of_ble_eq_true kr) kr λp a w e g=>k _ _ _ _ _ _ ⟨p,rfl,rfl,rfl⟩ e g⟩
 exact ⟨_,rfl,rfl,rfl,λL1 R1 C κ a w K e g k=>wB (E:=3) (i:=Tryz.t3) (z:=vi 0) (zm:=0) (kl := .i64) (kc := .i64) e g kr (fInt .i64) rfl kr kr bQ kr kr kr kr (Nat.le_of_ble_eq_true kr) kr λp a w e g=>k _ _ _ _ _ _ ⟨p,rfl,rfl,rfl⟩ e g⟩
 exact ⟨_,rfl,rfl,rfl,λL1 R1 C κ a w K e g k=>sM e g kr (kInt .u64) false (fInt .i64).ty rfl λb a w e g=>k _ _ _ _ _ _ ⟨b,rfl,rfl,rfl⟩ e g⟩
 exact ⟨_,rfl,rfl,rfl,λL1 R1 C κ a w K e g k=>sM e g kr (kInt .u64) true kX rfl λb a w e g=>k _ _ _ _ _ _ ⟨b,rfl,rfl,rfl⟩ e g⟩
 exact ⟨_,rfl,rfl,rfl,λL1 R1 C κ a w K e g k=>sM e g kr (kInt .u64) true mD rfl λb a w e g=>k _ _ _ _ _ _ ⟨b,rfl,rfl,rfl⟩ e g⟩
 simp only [List.mem_cons,List.not_mem_nil,or_false] at hs
 rcases hs with rfl|rfl|rfl|rfl|rfl|rfl<;>rfl
 intro f κ a w hΦ e g
 obtain ⟨B,D,ev0,ea0,ef0⟩:=hΦ _ (List.mem_of_getElem? (i:=0) rfl)
 obtain ⟨x,ev1,ea1,ef1⟩:=hΦ _ (List.mem_of_getElem? (i:=1) rfl)
 obtain ⟨G,ev2,ea2,ef2⟩:=hΦ _ (List.mem_of_getElem? (i:=2) rfl)
 obtain ⟨az,ev3,ea3,ef3⟩:=hΦ _ (List.mem_of_getElem? (i:=3) rfl)
 obtain ⟨aA,ev4,ea4,ef4⟩:=hΦ _ (List.mem_of_getElem? (i:=4) rfl)
 obtain ⟨aB,ev5,ea5,ef5⟩:=hΦ _ (List.mem_of_getElem? (i:=5) rfl)
 simp only [List.map_cons,List.map_nil,List.flatMap_cons,List.flatMap_nil,List.append_nil,ev0,ea0,ef0,ev1,ea1,ef1,ev2,ea2,ef2,ev3,ea3,ef3,ev4,ea4,ef4,ev5,ea5,ef5] at e g
 have e:Fr (98) _ [(0,vi J),k29 b8,k3p O,(30,vi J),(31,vi a2),(32,.slice p5 a4.length c6),(33,.slice B u.length D),(34,vi a2),(35,.slice x q.length q.length),(36,vi a2),(37,.slice G j.length j.length),(38,.map (some az)),(39,.map (some aA)),(40,.map (some aB))] a:=e.kp [0,6,10,30,31,32,33,34,35,36,37,38,39,40]
 have g:SS Ms κ0 w0 κ w [.ext (ownX (fInt .i64) 3 B D u),.ext (ownX jN 4 x (q.length) q),.ext (ownX (fInt .i64) 3 G (j.length) j),.ext (objX (some az) (.map (#[]) 0)),.ext (objX (some aA) (.map (#[]) 0)),.ext (objX (some aB) (.map (#[]) 0)),k2e b8 a3,k2c O an ao.1] [k2m p5 c6 a4,(ml a3 4),Map.mp (kInt .u64) false (fInt .i64).ty (some az) (#[]) 0 (some []),Map.mp (kInt .u64) true kX (some aA) (#[]) 0 (some []),Map.mp (kInt .u64) true mD (some aB) (#[]) 0 (some [])]:=g
 refine mG g [] (anp [11] [0,6,10,41] e (g.sx (rg 8) (rg 5)) λa e=>ago 12 e rfl ?_)
 have g:=g.add (m:=ml (replicate 4 (none:Option Nat)) 4) (List.length_replicate)
 have g:=g.add (m:=ml (replicate 4 0) 4) (List.length_replicate)
 refine wbx e g [si J,si a2,si 0,si 0,si 0,si 0,k2j,k2j,sl B u.length D,sl x q.length q.length,sl G j.length j.length,k2p,k3o,k3o,k3o,su 0,k3l (replicate 4 (none:Option Nat)),ei 4 (replicate 4 0),ei 4 (replicate 4 0),k37 az,k37 aA,k2j,k37 aB,su 0,k3o,si 0,si 0,k2j,k2j,su 0,k2p,k2p,k2p,k2j,k2j] (sgN 16 (kO List.length_replicate (kO List.length_replicate (kO List.length_replicate (sgN 16 jE))))) λP a w e g=>?_
 refine ⟨λ_=>(g.sx (ra 1 8) (ra 2 5)),?_⟩
 refine anp [13] [0,6,10,12] e (g.sx (ra 1 8) (ra 2 5)) λa e=>kM (ci _ _ (qs λ_ cj=>qr λ_ cl=>(wp 3 [0,6,10,12,45] e λa e=>wc (wld e g 0 9 0 λa e=>wp 2 [0,6,10,12,47,48] e λa e=>(cl _ _ (bk (jX (n:=N) (λn a w => ∃κ,∃I:List Bool,∃aJ,Fr (98) [] [(0,vi J),k29 b8,k3p O,(12,pt P 0),(47,vi (q.length:Int)),(48,vi aJ)] a∧SS Ms κ0 w0 κ w [.box P 87 [si J,si a2,si 0,si 0,si 0,si 0,k2j,k2j,sl B u.length D,sl x I.length q.length,sl G j.length j.length,k2p,k3o,k3o,k3o,su 0,k3l (replicate 4 (none:Option Nat)),ei 4 (replicate 4 0),ei 4 (replicate 4 0),k37 az,k37 aA,k2j,k37 aB,su 0,k3o,si 0,si 0,k2j,k2j,su 0,k2p,k2p,k2p,k2j,k2j],k2e b8 a3,.ext (ownX (fInt .i64) 3 B D u),.ext (ownX jN 4 x (q.length) I),.ext (ownX (fInt .i64) 3 G (j.length) j),.ext (arrX j6 (replicate 4 (none:Option Nat)) [] (replicate 4 none)),.ext (objX (some az) (.map (#[]) 0)),.ext (objX (some aA) (.map (#[]) 0)),.ext (objX (some aB) (.map (#[]) 0)),k2c O an ao.1] [Ro.mp lB.ty none 0 ([]:List ByteArray),Ro.mp (fInt .i64).ty none 0 ([]:List Int),(ml (replicate 4 (none:Option Nat)) 4),(ml (replicate 4 0) 4),Map.mp (kInt .u64) false (fInt .i64).ty (some az) (#[]) 0 (some []),Map.mp (kInt .u64) true kX (some aA) (#[]) 0 (some []),Ro.mp kX none 0 ([]:List j3),Map.mp (kInt .u64) true mD (some aB) (#[]) 0 (some []),Ro.mp (fInt .u64).ty none 0 ([]:List Int),Ro.mp mZ none 0 ([]:List i9),Ro.mp kN.ty none 0 ([]:List jM),(ml a3 4)]∧M.sS N n J a2 a3 ao u q j I aJ=some r) ?_ ?_)))))))
 have g:=g.add (m:=Ro.mp lB.ty none 0 ([]:List ByteArray)) (Ro.nil lB.ty _ _)
 have g:=g.add (m:=Ro.mp (fInt .i64).ty none 0 ([]:List Int)) (Ro.nil (fInt .i64).ty _ _)
 have g:=g.add (m:=Ro.mp kX none 0 ([]:List j3)) (Ro.nil kX _ _)
 have g:=g.add (m:=Ro.mp (fInt .u64).ty none 0 ([]:List Int)) (Ro.nil (fInt .u64).ty _ _)
 have g:=g.add (m:=Ro.mp mZ none 0 ([]:List i9)) (Ro.nil mZ _ _)
 have g:=g.add (m:=Ro.mp kN.ty none 0 ([]:List jM)) (Ro.nil kN.ty _ _)
 have g:=g.addArr j6 4
 exact ⟨_,q,0,e.kp [0,6,10,12,47,48],g.sp [1,8,2,3,4,0,5,6,7,9] [5,4,7,6,10,11,3,12,2,1,0,9],H⟩
 rintro n a w ⟨κ,I,aJ,e,g,H⟩
 rcases n with _|bE
 simp [M.sS] at H
 simp only [M.sS] at H
 refine qr λ_ cm=>wp 1 [0,6,10,12,47,48,49] e λa e=>cm _ _ (qs λ_ cn=>bc e H (λhb H=>?_) λhb H=>?_)
 refine sk (cn _ _ (qs λ_ co=>bk (qr λ_ cp=>(wp 2 [0,6,10,12,13,47,48] e λa e=>(cp _ _ (rl (wp 3 [0,6,10,12,13,47,48,53] e λa e=>wc (wld e g 0 9 0 λa e=>jG (L':=[(0,vi J),k29 b8,k3p O,(12,pt P 0),(47,vi (q.length:Int)),(48,vi aJ),(54,.slice x I.length q.length),(55,vi aJ)]) 1 [0,6,10,12,47,48,54,55] e kr λa e=>bd H λcI bx H=>wc (uA e g kr 3 (sz:=1) rfl rfl rfl rfl rfl bx kr kr λcJ cx a bF e=>wc (sL e g kr 3 (z:=true) rfl rfl rfl rfl bF bx rfl kr rfl kr (Cf:=(λnn=>[.box P 87 [si J,si a2,si 0,si 0,si 0,si 0,sl none 0 0,sl none 0 0,sl B u.length D,sl x nn q.length,sl G j.length j.length,sb false,(1,[.pointer none]),(1,[.pointer none]),(1,[.pointer none]),su 0,(4,(encs pF (replicate 4 (none:Option Nat)))),ei 4 (replicate 4 0),ei 4 (replicate 4 0),(1,[.map (some az)]),(1,[.map (some aA)]),sl none 0 0,(1,[.map (some aB)]),su 0,(1,[.pointer none]),si 0,si 0,sl none 0 0,sl none 0 0,su 0,sb false,sb false,sb false,sl none 0 0,sl none 0 0],.box b8 22 [eb 4 a3],.ext (ownX (fInt .i64) 3 B D u),.ext (ownX jN 4 x (q.length) (set I (toNat aJ) true)),.ext (ownX (fInt .i64) 3 G (j.length) j),.ext (arrX j6 (replicate 4 (none:Option Nat)) [] (replicate 4 none)),.ext (objX (some az) (.map (#[]) 0)),.ext (objX (some aA) (.map (#[]) 0)),.ext (objX (some aB) (.map (#[]) 0)),ox o_stab_Table O an ao.1])) (Lf:=(λnn=>[(0,vi J),(6,pt b8 0),(10,.pointer (pa O)),(12,pt P 0),(47,vi (q.length:Int)),(48,vi aJ),(54,.slice x nn q.length),(55,vi aJ)])) [0,6,10,12,47,48,54,55] kr kr λa w e g=>?_))))))))))
 refine co _ _ (rl (wp 2 [0,6,10,12,47,48] e λa e=>nl ?_))
 exact ⟨bE,Nat.lt_succ_self _,_,(set I (toNat aJ) true),i64.wrap (aJ+1),e.kp [0,6,10,12,47,48],g.sp (rg 10) (rg 12),H⟩
 refine xt (cj _ _ (qr λ_ bR=>wp 1 [0,6,10,12,58] e λa e=>?_))
 have g:=g.addNil 95 5
 have g:=g.addNil 32 1
 have g:=g.addNil 32 1
 have g:=g.addOpt o_order_Log
 have g:=g.addOpt o_coord_Table
 have g:=g.addOpt o_gate_move
 refine bd H λd bG H=>?_
 have bt:=g.segs 6 rfl
 refine wc (wcS 11 [6,5,4,3,2,1,11,12,13,14,0,7,8,9,10,15] e g (λg=>u7 N 0 0 0 0 (jA.mk ([]:List ByteArray) ([]:List Int)) none none (replicate 4 none) (replicate 4 0) (replicate 4 0) (some []) (some []) ([]:List j3) (some []) none 0 ([]:List Int) ([]:List Int) 0 false false false (flat [si J,si a2]) none 0 none 0 (flat [sl B u.length D,sl x I.length q.length,sl G j.length j.length,k2p,k3o]) none [] none [] [vu 0] (replicate 4 (none:Option Nat)) [] (some az) (#[]) 0 (some aA) (#[]) 0 none 0 (some aB) (#[]) 0 [vu 0] none [] [vi 0] none 0 none 0 (flat k05) P ((g.regr 0 [(true,2),(false,6),(true,5),(false,20),(true,2)] rfl).sbK [0,1,2,3,3,4,5,6,7,8,8]) bG) ?_)
 rintro _ κ w a ⟨bz,bA,bB,bC,aj,aD,ak,aE,bl,bm,S,aq,ar,T,au,av,U,V,W,aw,ax,al,aF,X,Y,Z,aa,rfl,h2⟩ e hB
 have g:=(hB _ _ h2).unregrK 0 [(true,2),(false,6),(true,5),(false,20),(true,2)] (s':=[si J,si a2,si d.1,si 0,si d.2.1,si d.2.2.1,sl bz (d.2.2.2.1.Cuts).length bA,sl bB (d.2.2.2.1.Nodes).length bC,sl B u.length D,sl x I.length q.length,sl G j.length j.length,k2p,k3o,sp aj,sp ak,su 0,k3l bl,ei 4 d.u4.2.2.2.1,ei 4 d.u8.1,sm S,sm T,sl U (d.u8.2.2.2.1).length V,sm W,su 0,sp al,si 0,si d.u8.u4.2.2.1,sl X (d.u8.u4.2.2.2.1).length Y,sl Z (d.u8.u8.1).length aa,su d.u8.u8.2.1,sb d.u8.u8.2.2.1,sb d.u8.u8.2.2.2.1,sb d.u8.u8.u4,k2j,k2j]) bt rfl
 refine bR _ _ (qr λ_ bS=>wp 4 [0,6,12,61,63] e λa e=>wc (wst e g 0 12 1 [sp O] (sgN 1 jE) λa w e g=>bS _ _ (m9 (λa w => ∃κ a6,∃aQ:List ByteArray,∃a7 a8,∃aR:List Int,∃a9 ba aS be bf aT,Fr (98) [] [(12,pt P 0)] a∧SS Ms κ0 w0 κ w [.box P 87 [si J,si a2,si a6,si 0,si d.2.1,si d.2.2.1,sl a7 aQ.length a8,sl a9 aR.length ba,sl B u.length D,sl x I.length q.length,sl G j.length j.length,k2p,sp O,sp aj,sp ak,su 0,k3l aS,ei 4 aT,ei 4 d.u8.1,sm S,sm T,sl U (d.u8.2.2.2.1).length V,sm W,su 0,sp al,si 0,si d.u8.u4.2.2.1,sl X (d.u8.u4.2.2.2.1).length Y,sl Z (d.u8.u8.1).length aa,su d.u8.u8.2.1,sb d.u8.u8.2.2.1,sb d.u8.u8.2.2.2.1,sb d.u8.u8.u4,k2j,k2j],k3d U (d.u8.2.2.2.1).length V,k3e X (d.u8.u4.2.2.2.1).length Y,k3e Z (d.u8.u8.1).length aa,.ext (ownX (fInt .i64) 3 B D u),.ext (ownX jN 4 x (q.length) I),.ext (ownX (fInt .i64) 3 G (j.length) j),k2c O an ao.1,k3f aj aD d.u4.1,k3g ak aE d.u4.2.1,.ext (arrX j6 aS be bf),mx S aq ar,mx T au av,mx W aw ax,k2y al aF d.u8.u4.2.1] [k2l a7 a8 aQ,k2m a9 ba aR,(ml aS 4),(ml aT 4),(ml d.u8.1 4),k3h S aq ar d.u8.2.1,k3i T au av d.u8.2.2.1,k3j U V d.u8.2.2.2.1,k3k W aw ax d.u8.u4.1,k2v X Y d.u8.u4.2.2.2.1,k2v Z aa d.u8.u8.1,Ro.mp mZ none 0 ([]:List i9),Ro.mp kN.ty none 0 ([]:List jM)]∧M.tS N J a2 ao u j I d a6 aQ aR bf aT=some r) ?_ ?_)))
 refine qr λ_ bT=>(jG (L':=[(0,vi J),k29 b8,(12,pt P 0),(64,vi J)]) 1 [0,6,12,64] e kr λa e=>bd H λbU bn H=>wc (l5 e kr (E:=4) (sz:=1) (n:=4) rfl rfl (i:=J) rfl (m1 bn (g.get 22 rfl)) kr kr λa e=>wc (rF (t:=jN) e g kr 11 0 (v:=vb bU) rfl rfl rfl rfl bn rfl rfl kr kr λa e=>bT _ _ (bc e H (λhb H=>?_) λhb H=>?_))))
 refine qr λ_ bV=>wp 2 [0,6,12,67,68] e λa e=>bd H λo bH H=>wc (jS e g kr kr (zM N g.fresh 0 ((g.pick [] kr).ro) bH) ?_)
 rintro _ κ w a ⟨ad,ae,af,ah,rfl,hR,hN⟩ e g hO
 have g:=g.adds hR
 have g:=g.addC hO hN
 refine wp 2 [0,6,12,68,69,71] e λa e=>wc (wst e g 2 2 1 [si 2] (sgN 1 jE) λa w e g=>wp 2 [0,6,12,69,73] e λa e=>wc (wst e g 2 6 2 (k04 ad (o.Cuts).length ae af (o.Nodes).length ah) (sgN 2 jE) λa w e g=>(bV _ _ (qr λ_ bW=>(wc (wls e g 13 0 1 λa e=>wp 1 [0,12,74,75] e λa e=>(bW _ _ (bk (jX (n:=N) (λn a w => ∃κ Q aH aG ai l,Fr (98) [] [(0,vi J),(12,pt P 0),(74,.agg (flat [eb 4 a3]).toArray),(75,vi l)] a∧SS Ms κ0 w0 κ w (k0q P J a2 d.2.1 d.2.2.1 ad (o.Cuts).length ae af (o.Nodes).length ah B u.length D x I.length q.length G j.length O aj ak Q ai d.u8.1 S T U (d.u8.2.2.2.1).length V W al d.u8.u4.2.2.1 X (d.u8.u4.2.2.2.1).length Y Z (d.u8.u8.1).length aa d.u8.u8.2.1 d.u8.u8.2.2.1 d.u8.u8.2.2.2.1 d.u8.u8.u4 (ownX (fInt .i64) 3 B D u) (ownX jN 4 x (q.length) I) (ownX (fInt .i64) 3 G (j.length) j) an ao.1 aD d.u4.1 aE d.u4.2.1 (arrX j6 Q aH aG) aq ar au av aw ax aF d.u8.u4.2.1) (k0r ad ae o.Cuts af ah o.Nodes (ml Q 4) (ml ai 4) (ml d.u8.1 4) S aq ar d.u8.2.1 T au av d.u8.2.2.1 U V d.u8.2.2.2.1 W aw ax d.u8.u4.1 X Y d.u8.u4.2.2.2.1 Z aa d.u8.u8.1 ([]:List i9) ([]:List jM) (ml a3 4))∧M.qV N n J a2 a3 ao u j I d o aG ai l=some r) ?_ ?_)))))))))
 exact ⟨_,bl,bm,d.u4.2.2.1,d.u4.2.2.2.1,0,e.kp [0,12,74,75],g.sp [2,0,1,3,4,5,14,15,16,17,6,7,8,9,10,11,12] [0,1,4,5,6,7,8,9,10,11,12,22,23,24],H⟩
 rintro n a w ⟨κ,Q,aH,aG,ai,l,e,g,H⟩
 rcases n with _|bo
 simp [M.qV] at H
 simp only [M.qV] at H
 refine qr λ_ bX=>wp 1 [0,12,74,75,76] e λa e=>bX _ _ (qs λ_ bY=>bc e H (λhb H=>?_) λhb H=>?_)
 refine sk (bY _ _ (m9 (λa w => ∃κ aU bg bh aV,Fr (98) [] [(0,vi J),(12,pt P 0),(74,.agg (flat [eb 4 a3]).toArray),(75,vi l)] a∧SS Ms κ0 w0 κ w (k0q P J a2 d.2.1 d.2.2.1 ad (o.Cuts).length ae af (o.Nodes).length ah B u.length D x I.length q.length G j.length O aj ak aU aV d.u8.1 S T U (d.u8.2.2.2.1).length V W al d.u8.u4.2.2.1 X (d.u8.u4.2.2.2.1).length Y Z (d.u8.u8.1).length aa d.u8.u8.2.1 d.u8.u8.2.2.1 d.u8.u8.2.2.2.1 d.u8.u8.u4 (ownX (fInt .i64) 3 B D u) (ownX jN 4 x (q.length) I) (ownX (fInt .i64) 3 G (j.length) j) an ao.1 aD d.u4.1 aE d.u4.2.1 (arrX j6 aU bg bh) aq ar au av aw ax aF d.u8.u4.2.1) (k0r ad ae o.Cuts af ah o.Nodes (ml aU 4) (ml aV 4) (ml d.u8.1 4) S aq ar d.u8.2.1 T au av d.u8.2.2.1 U V d.u8.2.2.2.1 W aw ax d.u8.u4.1 X Y d.u8.u4.2.2.2.1 Z aa d.u8.u8.1 ([]:List i9) ([]:List jM) (ml a3 4))∧M.uR N (M.qV N bo) J a2 a3 ao u j I d o l bh aV=some r) ?_ ?_))
 refine bk (qr λ_ bZ=>(jG (L':=[(0,vi J),(12,pt P 0),(74,.agg (flat [eb 4 a3]).toArray),(75,vi l),(77,vi l)]) 1 [0,12,74,75,77] e kr λa e=>bd H λb0 bI H=>wc (kR e kr (v:=vb b0) (pA (t:=jN) (E:=4) (n:=4) (m:=4) rfl kr rfl bI (g.get 13 rfl) rfl rfl kr kr kr _) λa e=>wp 2 [0,12,14,15,74,75] e λa e=>bZ _ _ (qr λ_ b1=>bd H λb2 aL H=>kA (λa w => ∃κ:Gh,Fr (98) [] [(0,vi J),(12,pt P 0),(14,vi l),(74,.agg (flat [eb 4 a3]).toArray),(75,vi l),(84,vb b2)] a∧SS Ms κ0 w0 κ w (k0q P J a2 d.2.1 d.2.2.1 ad (o.Cuts).length ae af (o.Nodes).length ah B u.length D x I.length q.length G j.length O aj ak Q ai d.u8.1 S T U (d.u8.2.2.2.1).length V W al d.u8.u4.2.2.1 X (d.u8.u4.2.2.2.1).length Y Z (d.u8.u8.1).length aa d.u8.u8.2.1 d.u8.u8.2.2.1 d.u8.u8.2.2.2.1 d.u8.u8.u4 (ownX (fInt .i64) 3 B D u) (ownX jN 4 x (q.length) I) (ownX (fInt .i64) 3 G (j.length) j) an ao.1 aD d.u4.1 aE d.u4.2.1 (arrX j6 Q aH aG) aq ar au av aw ax aF d.u8.u4.2.1) (k0r ad ae o.Cuts af ah o.Nodes (ml Q 4) (ml ai 4) (ml d.u8.1 4) S aq ar d.u8.2.1 T au av d.u8.2.2.1 U V d.u8.2.2.2.1 W aw ax d.u8.u4.1 X Y d.u8.u4.2.2.2.1 Z aa d.u8.u8.1 ([]:List i9) ([]:List jM) (ml a3 4))∧True) ?_ ?_))))
 refine wp 2 [0,12,14,74,75,80] e λa e=>bs aL (λhb aL=>?_) λhb aL=>?_
 have e:=e.bv 80 hb
 refine wp 4 [0,12,14,74,75,84] e λa e=>nl ?_
 cases aL
 exact ⟨_,e.kp [0,12,14,74,75,84],g.sp (rg 17) (rg 14),trivial⟩
 have e:=e.bv 80 hb
 refine wp 4 [0,12,14,74,75,84] e λa e=>nl ?_
 cases aL
 exact ⟨_,e.kp [0,12,14,74,75,84],g.sp (rg 17) (rg 14),trivial⟩
 rintro a w ⟨κ,e,g,-⟩
 refine b1 _ _ (bc e H (λhb H=>?_) λhb H=>?_)
 refine bd H λcB bJ H=>?_
 obtain ⟨b3,aW⟩:=g.arrIdx 12 rfl bJ
 have g:=g.add (m:=MP.const (idx Q l=some b3)) aW
 refine rgS g [8,12] ?_
 have g:=g.drew
 have hX:=g.fx
 refine jO [0,1,5,6] [0,12,14,74,75,86,91] (L':=[(0,vi J),(12,pt P 0),(14,vi l),(74,.agg (flat [eb 4 a3]).toArray),(75,vi l),(86,vi l),(91,pt P 16)]) (listed':=(mU 13 99)) (fuel:=9) e hX kr (by intro c a w t v h; cases t<;>exact h) kr rfl λa e=>tU [2,3,9,10] [0,12,74,75,86,88,91,94] e (λ_=>hX) λa e=>?_
 have e:Fr (98) _ [(0,vi J),(12,pt P 0),(74,.agg (flat [eb 4 a3]).toArray),(75,vi l),(86,vi l),(88,vi l),(91,pt P 16),(94,pt P 20)] a:=e.kp [0,12,74,75,86,88,91,94]
 refine ago 4 e rfl (bd H λbi bK H=>wcS 0 (rg 17) e g (λg=>xP N 0 (g.sbK []) bK) ?_)
 rintro _ κ w a ⟨ay,b4,b5,b6,b7,b9,ca,cb,rfl,h2⟩ e hB
 have g:=hB _ _ h2
 refine ⟨λ_=>(g.sx [4,10,11,12,13,14,15,16,17,18,19,20] (ra 2 15)),?_⟩
 refine atk 7 (some 92) e (g.sx [4,10,11,12,13,14,15,16,17,18,19,20] (ra 2 15)) rfl (λw _=>lU (E:=81) (sz:=1) (n:=4) rfl rfl (i:=l) rfl (m1 aW (g.get 5 rfl)) kr kr w) λa e=>ago 8 e rfl ?_
 obtain ⟨bL,g⟩:=g.foldI (ck:=lO) (fs:=lN) ay (b4,b5,b6,b7,b9,ca,cb) bi [0,3,1,2] (ra 4 17) [0,1] dc kr kr
 refine lM (t:=pF) (y:=(some ay)) (v:=pt ay 0) e g kr 1 16 (s':=[si J,si a2,si 2,si 0,si d.2.1,si d.2.2.1,sl ad (o.Cuts).length ae,sl af (o.Nodes).length ah,sl B u.length D,sl x I.length q.length,sl G j.length j.length,k2p,sp O,sp aj,sp ak,su 0,k3l (set Q (toNat l) (some ay)),ei 4 ai,ei 4 d.u8.1,sm S,sm T,sl U (d.u8.2.2.2.1).length V,sm W,su 0,sp al,si 0,si d.u8.u4.2.2.1,sl X (d.u8.u4.2.2.2.1).length Y,sl Z (d.u8.u8.1).length aa,su d.u8.u8.2.1,sb d.u8.u8.2.2.1,sb d.u8.u8.2.2.2.1,sb d.u8.u8.u4,k2j,k2j]) (C':=[ox j6 (some ay) bL (some bi),k3q P J a2 d.2.1 d.2.2.1 ad (o.Cuts).length ae af (o.Nodes).length ah B u.length D x I.length q.length G j.length O aj ak (set Q (toNat l) (some ay)) ai d.u8.1 S T U (d.u8.2.2.2.1).length V W al d.u8.u4.2.2.1 X (d.u8.u4.2.2.2.1).length Y Z (d.u8.u8.1).length aa d.u8.u8.2.1 d.u8.u8.2.2.1 d.u8.u8.2.2.2.1 d.u8.u8.u4,.tok ad 9 1 (o.Cuts).length ae,.tok af 3 1 (o.Nodes).length ah,k3d U (d.u8.2.2.2.1).length V,k3e X (d.u8.u4.2.2.2.1).length Y,k3e Z (d.u8.u8.1).length aa,.ext (ownX (fInt .i64) 3 B D u),.ext (ownX jN 4 x (q.length) I),.ext (ownX (fInt .i64) 3 G (j.length) j),k2c O an ao.1,k3f aj aD d.u4.1,k3g ak aE d.u4.2.1,.ext (arrX j6 Q aH aG),mx S aq ar,mx T au av,mx W aw ax,k2y al aF d.u8.u4.2.1]) rfl rfl kr rfl rfl aW rfl rfl kr kr kr kr λa w e g=>?_
 have g:=g.add (m:=ml (set Q (toNat l) (some ay)) 4) (List.length_set.trans (g.get 5 rfl))
 obtain ⟨bq,g⟩:=g.arrSetI 0 13 [1,2,3,4,5,6,7,8,9,10,11,12,14,15,16,17] dc (toNat l) rfl rfl
 refine ⟨notE,?_⟩
 refine ago 11 e rfl (bd H λcD br H=>l5 e kr (E:=3) (sz:=1) (n:=4) rfl rfl (i:=l) rfl (m1 br (g.get 7 rfl)) kr kr λa e=>⟨notE,?_⟩)
 refine ago 12 e rfl (lM (t:=(fInt .i64)) (y:=0) (v:=vi 0) e g kr 1 17 (s':=[si J,si a2,si 2,si 0,si d.2.1,si d.2.2.1,sl ad (o.Cuts).length ae,sl af (o.Nodes).length ah,sl B u.length D,sl x I.length q.length,sl G j.length j.length,k2p,sp O,sp aj,sp ak,su 0,k3l (set Q (toNat l) (some ay)),ei 4 (set ai (toNat l) 0),ei 4 d.u8.1,sm S,sm T,sl U (d.u8.2.2.2.1).length V,sm W,su 0,sp al,si 0,si d.u8.u4.2.2.1,sl X (d.u8.u4.2.2.2.1).length Y,sl Z (d.u8.u8.1).length aa,su d.u8.u8.2.1,sb d.u8.u8.2.2.1,sb d.u8.u8.2.2.2.1,sb d.u8.u8.u4,k2j,k2j]) (C':=[.ext (arrX j6 (set Q (toNat l) (some ay)) bq (set aG (toNat l) (some bi))),k3q P J a2 d.2.1 d.2.2.1 ad (o.Cuts).length ae af (o.Nodes).length ah B u.length D x I.length q.length G j.length O aj ak (set Q (toNat l) (some ay)) (set ai (toNat l) 0) d.u8.1 S T U (d.u8.2.2.2.1).length V W al d.u8.u4.2.2.1 X (d.u8.u4.2.2.2.1).length Y Z (d.u8.u8.1).length aa d.u8.u8.2.1 d.u8.u8.2.2.1 d.u8.u8.2.2.2.1 d.u8.u8.u4,.tok ad 9 1 (o.Cuts).length ae,.tok af 3 1 (o.Nodes).length ah,k3d U (d.u8.2.2.2.1).length V,k3e X (d.u8.u4.2.2.2.1).length Y,k3e Z (d.u8.u8.1).length aa,.ext (ownX (fInt .i64) 3 B D u),.ext (ownX jN 4 x (q.length) I),.ext (ownX (fInt .i64) 3 G (j.length) j),k2c O an ao.1,k3f aj aD d.u4.1,k3g ak aE d.u4.2.1,mx S aq ar,mx T au av,mx W aw ax,k2y al aF d.u8.u4.2.1]) rfl rfl kr rfl rfl br rfl rfl kr kr kr kr λa w e g=>?_)
 have g:=g.add (m:=ml (set ai (toNat l) 0) 4) (List.length_set.trans (g.get 7 rfl))
 refine ⟨notE,?_⟩
 refine kM ?_
 exact ⟨_,(set Q (toNat l) (some ay)),bq,(set aG (toNat l) (some bi)),(set ai (toNat l) 0),e.kp [0,12,74,75],g.sp [1,2,3,4,5,6,7,8,9,10,11,12,0,13,14,15,16] [5,6,1,0,9,10,11,12,13,14,15,16,17,18],H⟩
 refine sk ?_
 exact ⟨_,Q,aH,aG,ai,e.kp [0,12,74,75],g.sp (rg 17) (rg 14),H⟩
 rintro a w ⟨κ,aU,bg,bh,aV,e,g,H⟩
 unfold M.uR at H
 refine rl (wp 2 [0,12,74,75] e λa e=>nl ?_)
 exact ⟨bo,Nat.lt_succ_self _,_,aU,bg,bh,aV,i64.wrap (l+1),e.kp [0,12,74,75],g.sp (rg 17) (rg 14),H⟩
 refine xt ?_
 exact ⟨_,2,o.Cuts,ad,ae,o.Nodes,af,ah,Q,aH,aG,ai,e.kp [12],g.sp [0,3,4,5,6,7,8,9,10,11,12,13,14,15,16] (rg 13),H⟩
 refine sk ?_
 exact ⟨_,d.1,d.2.2.2.1.Cuts,bz,bA,d.2.2.2.1.Nodes,bB,bC,bl,bm,d.u4.2.2.1,d.u4.2.2.2.1,e.kp [12],g.sp [0,1,2,3,12,13,14,15,4,5,6,7,8,9,10] [0,1,2,3,4,5,6,7,8,9,10,20,21],H⟩
 rintro a w ⟨κ,a6,aQ,a7,a8,aR,a9,ba,aS,be,bf,aT,e,g,H⟩
 unfold M.tS at H
 refine qr λ_ cc=>wp 3 [8,9] e λa e=>cc _ _ (rt ?_)
 have g:=g.addNil 61 15
 have g:=g.addNil 52 13
 obtain ⟨bM,g⟩:=g.foldI (ck:=lD) (fs:=lC) P (a7,a8,a9,ba,B,D,x,q.length,G,j.length,O,an,aj,aD,ak,aE,aS,be,S,aq,ar,T,au,av,U,V,W,aw,ax,al,aF,X,Y,Z,aa,none,0,none,0) (jV.mk J a2 a6 0 d.2.1 d.2.2.1 (jA.mk aQ aR) u I j false ao.1 d.u4.1 d.u4.2.1 0 bf aT d.u8.1 d.u8.2.1 d.u8.2.2.1 d.u8.2.2.2.1 d.u8.u4.1 0 d.u8.u4.2.1 0 d.u8.u4.2.2.1 d.u8.u4.2.2.2.1 d.u8.u8.1 d.u8.u8.2.1 d.u8.u8.2.2.1 d.u8.u8.2.2.2.1 d.u8.u8.u4 ([]:List i9) ([]:List jM)) [2,3,4,5,1,0,6,7,8,9,10,11,12,13,14,15,16] [] (rg 13) dc kr kr
 cases H
 exact j7 e g (sZ Tryz.results7 (rvt e) (rvt e)) ⟨(some P),bM,rfl,g.sp [0] []⟩
end Go.Cf
