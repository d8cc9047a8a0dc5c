/- The walks: each function returns what its model says. Printed by a program of ours. -/
import Derived.Test.YtcplebnnanjngaaGreatZSh
import Derived.Test.YtcplebnnanjngaaGreatZM1
import Derived.Test.YtcplebnnanjngaaGreatZWs
import Derived.Test.YtcplebnnanjngaaGreatZWo
import Derived.Test.YtcplebnnanjngaaGreatZWi
import Derived.Test.YtcplebnnanjngaaGreatZWp
import Derived.Test.YtcplebnnanjngaaGreatZWc
namespace Go.Cf
open Go Go.Proofs Tryz
open _root_.Int(toNat tdiv tmod)
open _root_.List(set replicate)
open _root_.ByteArray(empty)
open Go.IntKind(i64 u64)
set_option linter.unusedVariables false
set_option maxRecDepth 20000
set_option maxHeartbeats 8000000
theorem uH (N){Ms}{κ0}{w0}(a2)(K)(a4)(a5)(a6:j5)(ax)(ay)(az)(ak)(al)(ao)(aq)(k:(List i8))(ar)(aa)(L)(l:(List Int))(o:(List Int))(O)(P)(Q)(R)(U)(p7)(c8)(p9)(bq)(p)(aA)(aB)(aD)(aE)(q)(am)(aF)(s)(ab)(V)(u)(ad)(W)(C)(D)(x)(ae)(X)(z)(Y)(af)(A)(F)(G)(I)(J)(B)(f)(hB:SB Ms κ0 w0 (k0z f U a2 K a4 a5 p7 a6 c8 p9 bq p aA aD q am ak al s u C k.length D x z Y A L F l.length G I o.length J O P Q R B aB ax aE ay (arrX j6 am aF az) ab V ad W ae X af aa) [k3a p7 c8 a6.Cuts,k3b p9 bq a6.Nodes,(ml am 4),(ml ak 4),(ml al 4),k49 s ab V ao,k4a u ad W aq,k4b C D k,k4c x ae X ar,k3m F G l,k3m I J o]){r}(H:M.pZ N a2 K a4 a5 a6 ax ay az ak al ao aq k ar aa L l o O P Q R=some r) :
    Calls Tryz.prog 24 #[pt f 0] w0 (kP Ms κ0 w0 λv κ w=>∃aH aI aJ aL bw bj bx bl an bm aM aO aP aQ aR aS aT aU aV aW aX bz bn aY aZ a0 a1,v = .tuple #[]∧SS Ms κ0 w0 κ w (k0z f U r.1 K r.2.1 r.2.2.1 aH r.2.2.2.1 aI aJ aL p bw bx q an r.u4.2.2.2.1 r.u8.1 aM aQ aT r.u8.2.2.2.1.length aU aV z bz A r.u8.u4.2.2.1 aY r.u8.u4.2.2.2.1.length aZ a0 r.u8.u8.1.length a1 r.u8.u8.2.1 r.u8.u8.2.2.1 r.u8.u8.2.2.2.1 r.u8.u8.u4 B bj r.u4.1 bl r.u4.2.1 (arrX j6 an bm r.u4.2.2.1) aO aP aR aS aW aX bn r.u8.u4.2.1) [k3a aH aI r.2.2.2.1.Cuts,k3b aJ aL r.2.2.2.1.Nodes,(ml an 4),(ml r.u4.2.2.2.1 4),(ml r.u8.1 4),k49 aM aO aP r.u8.2.1,k4a aQ aR aS r.u8.2.2.1,k4b aT aU r.u8.2.2.2.1,k4c aV aW aX r.u8.u4.1,k3m aY aZ r.u8.u4.2.2.2.1,k3m a0 a1 r.u8.u8.1]):=by
 have d:=hB.hS
 have b0:=d.fresh
 refine en func24 rfl ntmps24 λa b=>?_
 unfold M.pZ at H
 refine qr λ_ bS=>wp 7 [0,3,4,5,6,9] b λa b=>wc (wld b d 0 2 0 λa b=>wp 3 [0,4,5,6,10,11,13] b λa b=>wc (wst b d 0 1 1 [si 0] (sgN 1 jD) λa w b d=>wp 2 [0,5,6,10,11,15] b λa b=>wc (wst b d 0 3 1 [si K] (sgN 1 jD) λa w b d=>wp 2 [0,6,11,17] b λa b=>wc (wst b d 0 4 1 [si 0] (sgN 1 jD) λa w b d=>wp 2 [0,11,19] b λa b=>wc (wst b d 0 5 2 k08 (sgN 2 jD) λa w b d=>bS _ _ (qr λ_ bT=>wp 2 [0,20,21] b λa b=>bd H λZ bA H=>wc (wcS 0 (rg 11) b d (λd=>FQ N (d.sbK []) bA) ?_)))))))
 rintro _ κ w a ⟨S,a7,a8,a9,ba,rfl,h2⟩ b hB
 have d:=hB _ _ h2
 refine bd H λah bC H=>wc (wcS 0 (rg 14) b d (λd=>FU N (d.sbK []) bC) ?_)
 rintro _ κ w a ⟨T,be,br,bt,bu,bf,rfl,h2⟩ b hB
 have d:=(hB _ _ h2).cC (C':=[k40 T be,mx be br bt,.ext (mpX jW bu bf ah.open_ none),k3q S a7 Z a8 a9 ba,k3r a7 Z.list.length a8,k3r a9 Z.waiting.length ba,.box f 87 [(2,U),si 0,si K,si K,si 0,k37,k37,(5,p),sp aA,sp aD,(1,q),k4d am,ei 4 ak,ei 4 al,sm s,sm u,sl C k.length D,sm x,(1,z),sp Y,(1,A),si L,sl F l.length G,sl I o.length J,su O,sb P,sb Q,sb R,(2,B)],k45 C k.length D,k46 F l.length G,k46 I o.length J,k47 aA aB ax,k48 aD aE ay,.ext (arrX j6 am aF az),mx s ab V,mx u ad W,mx x ae X,k3p Y af aa])
 refine wp 2 [0,21,22,23,25] b λa b=>wc (wst b d 6 8 1 [k3v S] (sgN 1 jD) λa w b d=>wp 2 [0,23,27] b λa b=>wc (wst b d 6 9 1 [k3v T] (sgN 1 jD) λa w b d=>nl ?_))
 obtain ⟨ai,d⟩:=d.foldI (ck:=kW) (fs:=kT) S (a7,a8,a9,ba) Z [3,4,5] [0,1,2,6,7,8,9,10,11,12,13,14,15,16] [1,2] dc kr kr
 obtain ⟨aj,d⟩:=d.foldI (ck:=l3) (fs:=kZ) T (be,br,bt,bu,bf) ah [1,2,3] [0,4,5,6,7,8,9,10,11,12,13,14] [0] dc kr kr
 refine bT _ _ (qr λ_ bU=>wp 4 [0,29,31] b λa b=>?_)
 have d:=d.add (m:=ml (replicate 4 (none:Option Nat)) 4) (List.length_replicate)
 refine wc (wst b d 2 11 1 [k4d (replicate 4 (none:Option Nat))] (kS List.length_replicate jD) λa w b d=>(bU _ _ (qs λ_ bV=>qr λ_ bW=>(wp 1 [0,32] b λa b=>(bW _ _ (bk (jT (n:=N) (λn a w=>∃κ g j e,Fr (85) [] [k35 f,(32,vi e)] a∧SS Ms κ0 w0 κ w (k10 f U K p S T q (replicate 4 (none:Option Nat)) g j s u C k.length D x z Y A L F l.length G I o.length J O P Q R B ai Z aj ah (arrX j6 (replicate 4 (none:Option Nat)) [] (replicate 4 none)) ab V ad W ae X af aa) [Ro.mp lC.ty none 0 ([]:List ByteArray),Ro.mp (fInt .i64).ty none 0 ([]:List Int),(ml (replicate 4 (none:Option Nat)) 4),(ml g 4),(ml j 4),k49 s ab V ao,k4a u ad W aq,k4b C D k,k4c x ae X ar,k3m F G l,k3m I J o]∧M.oG N n K ao aq k ar aa L l o O P Q R Z ah g j e=some r) ?_ ?_)))))))
 have d:=d.add (m:=Ro.mp lC.ty none 0 ([]:List ByteArray)) (Ro.nil lC.ty _ _)
 have d:=d.add (m:=Ro.mp (fInt .i64).ty none 0 ([]:List Int)) (Ro.nil (fInt .i64).ty _ _)
 have d:=d.addArr j6 4
 exact ⟨_,ak,al,0,b.kp [0,32],d.sp [3,4,5,6,2,1,0,10,11,12,13] [1,0,2,9,10,11,12,13,14,15,16],H⟩
 rintro n a w ⟨κ,g,j,e,b,d,H⟩
 rcases n with _|bo
 simp [M.oG] at H
 simp only [M.oG] at H
 refine qr λ_ bD=>wp 1 [0,32,33] b λa b=>bD _ _ (qs λ_ bE=>bc b H (λhb H=>?_) λhb H=>?_)
 refine sk (bE _ _ (qs λ_ bF=>bk (qr λ_ bG=>wp 2 [0,2,32] b λa b=>bG _ _ (rgS d [7,11] ?_))))
 have d:=d.drew
 have hX:=d.fx
 refine jN [0,1,4,5] [0,2,32,36,40] (L':=[k35 f,k36 e,(32,vi e),(36,vi e),(40,pt f 20)]) (listed':=(mV 12 51)) (fuel:=8) b hX kr (by intro c a w t v h; cases t<;>exact h) kr rfl λa b=>u1 [2,3,8,9] [0,32,36,38,40,43] b (λ_=>hX) λa b=>?_
 have b:Fr (85) _ [k35 f,(32,vi e),(36,vi e),(38,vi e),(40,pt f 20),(43,pt f 24)] a:=b.kp [0,32,36,38,40,43]
 refine bd H λbY au H=>atk 6 (some 41) b (d.sx [0,4,5,6,7,8,9,10] (rg 11)) rfl (λw _=>lU (E:=3) (sz:=1) (n:=4) rfl rfl (i:=e) rfl (m4 au (d.get 3 rfl)) kr kr w) λa b=>ago 7 b rfl (lK (t:=(fInt .i64)) (y:=(-1)) (v:=vi (-1)) b d kr 0 12 (s':=[(2,U),si 0,si K,si K,si 0,k37,k37,(5,p),k3v S,k3v T,(1,q),k4d (replicate 4 (none:Option Nat)),ei 4 (set g (toNat e) (-1)),ei 4 j,sm s,sm u,sl C k.length D,sm x,(1,z),sp Y,(1,A),si L,sl F l.length G,sl I o.length J,su O,sb P,sb Q,sb R,(2,B)]) (C':=k10 f U K p S T q (replicate 4 (none:Option Nat)) (set g (toNat e) (-1)) j s u C k.length D x z Y A L F l.length G I o.length J O P Q R B ai Z aj ah (arrX j6 (replicate 4 (none:Option Nat)) [] (replicate 4 none)) ab V ad W ae X af aa) rfl rfl kr rfl rfl au rfl rfl kr kr kr kr λa w b d=>?_)
 have d:=d.add (m:=ml (set g (toNat e) (-1)) 4) (List.length_set.trans (d.get 3 rfl))
 refine ⟨notE,?_⟩
 refine ago 10 b rfl (bd H λbZ av H=>l7 b kr (E:=3) (sz:=1) (n:=4) rfl rfl (i:=e) rfl (m4 av (d.get 5 rfl)) kr kr λa b=>⟨notE,?_⟩)
 refine ago 11 b rfl (lK (t:=(fInt .i64)) (y:=0) (v:=vi 0) b d kr 0 13 (s':=[(2,U),si 0,si K,si K,si 0,k37,k37,(5,p),k3v S,k3v T,(1,q),k4d (replicate 4 (none:Option Nat)),ei 4 (set g (toNat e) (-1)),ei 4 (set j (toNat e) 0),sm s,sm u,sl C k.length D,sm x,(1,z),sp Y,(1,A),si L,sl F l.length G,sl I o.length J,su O,sb P,sb Q,sb R,(2,B)]) (C':=k10 f U K p S T q (replicate 4 (none:Option Nat)) (set g (toNat e) (-1)) (set j (toNat e) 0) s u C k.length D x z Y A L F l.length G I o.length J O P Q R B ai Z aj ah (arrX j6 (replicate 4 (none:Option Nat)) [] (replicate 4 none)) ab V ad W ae X af aa) rfl rfl kr rfl rfl av rfl rfl kr kr kr kr λa w b d=>?_)
 have d:=d.add (m:=ml (set j (toNat e) 0) 4) (List.length_set.trans (d.get 5 rfl))
 refine ⟨notE,?_⟩
 refine kN (bF _ _ (rl (wp 2 [0,32] b λa b=>nl ?_)))
 exact ⟨bo,jb _,_,(set g (toNat e) (-1)),(set j (toNat e) 0),i64.wrap (e+1),b.kp [0,32],d.sp (rg 11) [2,3,4,1,0,7,8,9,10,11,12],H⟩
 refine xt (bV _ _ (qr λ_ bH=>(jE (L':=[k35 f,(48,pt f 28)]) 3 [0,48] b kr λa b=>wc (wld b d 0 14 0 λa b=>wc (BK (KT:=32) (E:=3) (kt:=(kInt .u64)) (agg:=false) (t:=(fInt .i64).ty) b d kr 7 5 rfl kr rfl rfl kr λa w b d=>(bH _ _ (qr λ_ bI=>(jE (L':=[k35 f,(52,pt f 29)]) 3 [0,52] b kr λa b=>wc (wld b d 0 15 0 λa b=>wc (BK (KT:=32) (E:=95) (kt:=(kInt .u64)) (agg:=true) (t:=kO) b d kr 8 7 rfl kr rfl rfl kr λa w b d=>bI _ _ (qs λ_ bJ=>?_)))))))))))
 refine rl (jE (L':=[k35 f,(56,pt f 31)]) 3 [0,56] b kr λa b=>wc (wld b d 0 17 0 λa b=>wc (BK (KT:=32) (E:=138) (kt:=(kInt .u64)) (agg:=true) (t:=mE) b d kr 9 10 rfl kr rfl rfl kr λa w b d=>bJ _ _ (qr λ_ bK=>wp 3 [0,60] b λa b=>wc (wst b d 0 16 1 [k37] (sgN 1 jD) λa w b d=>bK _ _ (rl (wp 10 [62,63,64,65,66,67,68,70] b λa b=>wc (wst b d 0 19 1 [k4g] (sgN 1 jD) λa w b d=>wp 2 [63,64,65,66,67,68,72] b λa b=>wc (wst b d 0 22 1 [k37] (sgN 1 jD) λa w b d=>?_)))))))))
 refine wp 2 [64,65,66,67,68,74] b λa b=>wc (wst b d 0 23 1 [k37] (sgN 1 jD) λa w b d=>wp 2 [65,66,67,68,76] b λa b=>wc (wst b d 0 21 1 [si 0] (sgN 1 jD) λa w b d=>wp 2 [66,67,68,78] b λa b=>wc (wst b d 0 24 1 [su 0] (sgN 1 jD) λa w b d=>wp 2 [67,68,80] b λa b=>wc (wst b d 0 25 1 [k3e] (sgN 1 jD) λa w b d=>wp 2 [68,82] b λa b=>wc (wst b d 0 26 1 [k3e] (sgN 1 jD) λa w b d=>wp 2 [84] b λa b=>wc (wst b d 0 27 1 [k3e] (sgN 1 jD) λa w b d=>nl ?_))))))
 have d:=d.add (m:=Ro.mp kO none 0 ([]:List i8)) (Ro.nil kO _ _)
 have d:=d.add (m:=Ro.mp (fInt .u64).ty none 0 ([]:List Int)) (Ro.nil (fInt .u64).ty _ _)
 have d:=d.addNil 95 5
 have d:=d.addNil 32 1
 have d:=d.addNil 32 1
 have d:=d.addOpt o_gate_move
 cases H
 exact j7 b d (mL results24) ⟨none,0,none,0,(some S),ai,(some T),aj,(replicate 4 (none:Option Nat)),[],s,#[],V,u,#[],W,none,0,x,#[],X,none,[],none,0,none,0,rfl,d.sp [4,3,2,1,8,9,10,11,12,13,0] [5,6,7,8,9,4,3,1,2,0,0]⟩
theorem CF (N){Ms}{κ0}{w0}(J)(a2)(a3)(a4)(p5)(c6)(hB:SB Ms κ0 w0 [] [(ml a3 4),k3b p5 c6 a4]){r}(H:M.wT N J a2 a3 a4=some r) :
    Calls Tryz.prog 7 #[vi J,vi a2,.agg (flat [eb 4 a3]).toArray,.slice p5 a4.length c6] w0 (kP Ms κ0 w0 λv κ w=>∃bu bD,v = .tuple #[.pointer (pa bu),vi r.2]∧SS Ms κ0 w0 κ w [ox l9 bu bD r.1] []):=by
 have g:=hB.hS
 have cE:=g.fresh
 refine en func7 rfl ntmps7 λa e=>?_
 unfold M.wT at H
 refine qr λ_ h7=>wc (wbx e g [eb 4 a3] (kS (g.get 0 rfl) jD) λb8 a w e g=>wp 2 [0,1,3,6] e λa e=>h7 _ _ (qr λ_ h9=>wp 2 [0,1,3,6,17,18] e λa e=>wc (wls e g 0 0 1 λa e=>bd H λao bN H=>wc (wcS 0 [0] e g (λg=>zF N J a2 a3 (g.sbK [0]) bN) ?_))))
 rintro _ κ w a ⟨O,an,rfl,h2⟩ e hB
 have g:=hB _ _ h2
 refine wp 5 [0,1,3,6,10,11] e λa e=>h9 _ _ (qs λ_ cd=>qr λ_ ce=>bd H λcg aP H=>k8 (λa w=>∃κ,Fr (98) [] [(0,vi J),k2z a2,k43 p5 a4.length c6,k2y b8,k4h O,(29,vb cg)] a∧SS Ms κ0 w0 κ w [k33 b8 a3,k31 O an ao.1] [k3b p5 c6 a4,(ml a3 4)]∧True) ?_ ?_)
 refine wp 3 [0,1,3,6,10,25] e λa e=>bs aP (λhb aP=>?_) λhb aP=>?_
 have e:=e.bv 25 hb
 refine wp 4 [0,1,3,6,10,29] e λa e=>nl ?_
 cases aP
 exact ⟨_,e.kp [0,1,3,6,10,29],g.sp [1,0] [1,0],ja⟩
 have e:=e.bv 25 hb
 refine wp 4 [0,1,3,6,10,29] e λa e=>nl ?_
 cases aP
 exact ⟨_,e.kp [0,1,3,6,10,29],g.sp [1,0] [1,0],ja⟩
 rintro a w ⟨κ,e,g,-⟩
 refine ce _ _ (bc e H (λhb H=>?_) λhb H=>?_)
 refine qr λ_ ch=>wp 2 [8,9] e λa e=>ch _ _ (rt ?_)
 have g:=g.addOpt l9
 cases H
 exact j7 e g (tB results7 (rvt e) (rvt e)) ⟨none,[],rfl,g.sp [0] []⟩
 refine sk (cd _ _ (qs λ_ ci=>rga (λ_=>True) [] ?_))
 have g:=g.drew
 refine bd H λcF cu H=>bd H λcG cv H=>bd H λcH cw H=>jN [0,1,2,4,6] [0,6,10,30,31,32,34,36] (L':=[(0,vi J),k2y b8,k4h O,(30,vi J),(31,vi a2),(32,.slice p5 a4.length c6),(34,vi a2),(36,vi a2)]) (listed':=(mV 14 87)) (fuel:=9) e ja kr (by intro c a w t v h; cases t<;>exact h) kr rfl λa e=>bd H λq bO H=>bd H λo bP H=>bd H λj bQ H=>LO [⟨3,33,λv A F=>∃B D,v = .slice B q.length D∧A=[.ext (ownX (fInt .i64) 3 B D q)]∧F=[]⟩,⟨5,35,λv A F=>∃u:Option Addr,v = .slice u o.length o.length∧A=[.ext (ownX jM 4 u (o.length) o)]∧F=[]⟩,⟨7,37,λv A F=>∃G:Option Addr,v = .slice G j.length j.length∧A=[.ext (ownX (fInt .i64) 3 G (j.length) j)]∧F=[]⟩,⟨8,38,λv A F=>∃az:Nat,v = .map (some az)∧A=[.ext (objX (some az) (.map (#[]) 0))]∧F=[Map.mp (kInt .u64) false (fInt .i64).ty (some az) (#[]) 0 (some [])]⟩,⟨9,39,λv A F=>∃aA:Nat,v = .map (some aA)∧A=[.ext (objX (some aA) (.map (#[]) 0))]∧F=[Map.mp (kInt .u64) true kO (some aA) (#[]) 0 (some [])]⟩,⟨10,40,λv A F=>∃aB:Nat,v = .map (some aB)∧A=[.ext (objX (some aB) (.map (#[]) 0))]∧F=[Map.mp (kInt .u64) true mE (some aB) (#[]) 0 (some [])]⟩] 3 (L:=[(0,vi J),k2y b8,k4h O,(30,vi J),(31,vi a2),(32,.slice p5 a4.length c6),(34,vi a2),(36,vi a2)]) (R:=[Ro.mp (fInt .i64).ty p5 c6 a4,ml a3 4]) (C:=[.box b8 22 [eb 4 a3],ox o_stab_Table O an ao.1]) e g (λs hs=>?_) (show List.Nodup [33,35,37,38,39,40] by decide) (show List.Nodup [3,5,7,8,9,10] by decide) (λs hs=>?_) kr rfl ?_
 simp only [List.mem_cons,List.not_mem_nil,or_false] at hs
 rcases hs with rfl|rfl|rfl|rfl|rfl|rfl
 exact ⟨_,rfl,rfl,rfl,λL1 R1 C κ a w K e g k=>xD e (g.addOwn (fInt .i64) 3) kr 0 0 rfl kr kr rfl rfl rfl rfl bO kr (i:=Tryz.t3) (z:=vi 0) kr kr kr λp c κ a w e g=>k _ _ _ _ _ _ ⟨p,c,rfl,rfl,rfl⟩ e g⟩
 exact ⟨_,rfl,rfl,rfl,λL1 R1 C κ a w K e g k=>wL (E:=4) (i:=Tryz.t4) (z:=vb false) (zm:=false) (kl := .i64) (kc := .i64) e g kr jM rfl kr kr bP kr kr kr kr (Nat.le_of_ble_eq_true kr) kr λp a w e g=>k _ _ _ _ _ _ ⟨p,rfl,rfl,rfl⟩ e g⟩
 exact ⟨_,rfl,rfl,rfl,λL1 R1 C κ a w K e g k=>wL (E:=3) (i:=Tryz.t3) (z:=vi 0) (zm:=0) (kl := .i64) (kc := .i64) e g kr (fInt .i64) rfl kr kr bQ kr kr kr kr (Nat.le_of_ble_eq_true kr) kr λp a w e g=>k _ _ _ _ _ _ ⟨p,rfl,rfl,rfl⟩ e g⟩
 exact ⟨_,rfl,rfl,rfl,λL1 R1 C κ a w K e g k=>sS e g kr (kInt .u64) false (fInt .i64).ty rfl λb a w e g=>k _ _ _ _ _ _ ⟨b,rfl,rfl,rfl⟩ e g⟩
 exact ⟨_,rfl,rfl,rfl,λL1 R1 C κ a w K e g k=>sS e g kr (kInt .u64) true kO rfl λb a w e g=>k _ _ _ _ _ _ ⟨b,rfl,rfl,rfl⟩ e g⟩
 exact ⟨_,rfl,rfl,rfl,λL1 R1 C κ a w K e g k=>sS e g kr (kInt .u64) true mE rfl λb a w e g=>k _ _ _ _ _ _ ⟨b,rfl,rfl,rfl⟩ e g⟩
 simp only [List.mem_cons,List.not_mem_nil,or_false] at hs
 rcases hs with rfl|rfl|rfl|rfl|rfl|rfl<;>rfl
 intro f κ a w hΦ e g
 obtain ⟨B,D,ev0,ea0,ef0⟩:=hΦ _ (List.mem_of_getElem? (i:=0) rfl)
 obtain ⟨u,ev1,ea1,ef1⟩:=hΦ _ (List.mem_of_getElem? (i:=1) rfl)
 obtain ⟨G,ev2,ea2,ef2⟩:=hΦ _ (List.mem_of_getElem? (i:=2) rfl)
 obtain ⟨az,ev3,ea3,ef3⟩:=hΦ _ (List.mem_of_getElem? (i:=3) rfl)
 obtain ⟨aA,ev4,ea4,ef4⟩:=hΦ _ (List.mem_of_getElem? (i:=4) rfl)
 obtain ⟨aB,ev5,ea5,ef5⟩:=hΦ _ (List.mem_of_getElem? (i:=5) rfl)
 simp only [List.map_cons,List.map_nil,List.flatMap_cons,List.flatMap_nil,List.append_nil,ev0,ea0,ef0,ev1,ea1,ef1,ev2,ea2,ef2,ev3,ea3,ef3,ev4,ea4,ef4,ev5,ea5,ef5] at e g
 have e:Fr (98) _ [(0,vi J),k2y b8,k4h O,(30,vi J),(31,vi a2),(32,.slice p5 a4.length c6),k44 B q.length D,(34,vi a2),(35,.slice u o.length o.length),(36,vi a2),(37,.slice G j.length j.length),(38,.map (some az)),(39,.map (some aA)),(40,.map (some aB))] a:=e.kp [0,6,10,30,31,32,33,34,35,36,37,38,39,40]
 have g:SS Ms κ0 w0 κ w [.ext (ownX (fInt .i64) 3 B D q),.ext (ownX jM 4 u (o.length) o),.ext (ownX (fInt .i64) 3 G (j.length) j),.ext (objX (some az) (.map (#[]) 0)),.ext (objX (some aA) (.map (#[]) 0)),.ext (objX (some aB) (.map (#[]) 0)),k33 b8 a3,k31 O an ao.1] [k3b p5 c6 a4,(ml a3 4),Map.mp (kInt .u64) false (fInt .i64).ty (some az) (#[]) 0 (some []),Map.mp (kInt .u64) true kO (some aA) (#[]) 0 (some []),Map.mp (kInt .u64) true mE (some aB) (#[]) 0 (some [])]:=g
 refine mI g [] (anp [11] [0,6,10,41] e (g.sx (rg 8) (rg 5)) λa e=>ago 12 e rfl ?_)
 have g:=g.add (m:=ml (replicate 4 (none:Option Nat)) 4) (List.length_replicate)
 have g:=g.add (m:=ml (replicate 4 0) 4) (List.length_replicate)
 refine wbx e g [si J,si a2,si 0,si 0,si 0,si 0,k37,k37,sl B q.length D,sl u o.length o.length,sl G j.length j.length,k3e,k4g,k4g,k4g,su 0,k4d (replicate 4 (none:Option Nat)),ei 4 (replicate 4 0),ei 4 (replicate 4 0),k3y az,k3y aA,k37,k3y aB,su 0,k4g,si 0,si 0,k37,k37,su 0,k3e,k3e,k3e,k37,k37] (sgN 16 (kS List.length_replicate (kS List.length_replicate (kS List.length_replicate (sgN 16 jD))))) λP a w e g=>?_
 refine ⟨λ_=>(g.sx (ra 1 8) (ra 2 5)),?_⟩
 refine anp [13] [0,6,10,12] e (g.sx (ra 1 8) (ra 2 5)) λa e=>kN (ci _ _ (qs λ_ cj=>qr λ_ cl=>(wp 3 [0,6,10,12,45] e λa e=>wc (wld e g 0 9 0 λa e=>wp 2 [0,6,10,12,47,48] e λa e=>(cl _ _ (bk (jT (n:=N) (λn a w=>∃κ,∃I:List Bool,∃aJ,Fr (98) [] [(0,vi J),k2y b8,k4h O,(12,pt P 0),(47,vi (o.length:Int)),(48,vi aJ)] a∧SS Ms κ0 w0 κ w [.box P 87 [si J,si a2,si 0,si 0,si 0,si 0,k37,k37,sl B q.length D,sl u I.length o.length,sl G j.length j.length,k3e,k4g,k4g,k4g,su 0,k4d (replicate 4 (none:Option Nat)),ei 4 (replicate 4 0),ei 4 (replicate 4 0),k3y az,k3y aA,k37,k3y aB,su 0,k4g,si 0,si 0,k37,k37,su 0,k3e,k3e,k3e,k37,k37],k33 b8 a3,.ext (ownX (fInt .i64) 3 B D q),.ext (ownX jM 4 u (o.length) I),.ext (ownX (fInt .i64) 3 G (j.length) j),.ext (arrX j6 (replicate 4 (none:Option Nat)) [] (replicate 4 none)),.ext (objX (some az) (.map (#[]) 0)),.ext (objX (some aA) (.map (#[]) 0)),.ext (objX (some aB) (.map (#[]) 0)),k31 O an ao.1] [Ro.mp lC.ty none 0 ([]:List ByteArray),Ro.mp (fInt .i64).ty none 0 ([]:List Int),(ml (replicate 4 (none:Option Nat)) 4),(ml (replicate 4 0) 4),Map.mp (kInt .u64) false (fInt .i64).ty (some az) (#[]) 0 (some []),Map.mp (kInt .u64) true kO (some aA) (#[]) 0 (some []),Ro.mp kO none 0 ([]:List i8),Map.mp (kInt .u64) true mE (some aB) (#[]) 0 (some []),Ro.mp (fInt .u64).ty none 0 ([]:List Int),Ro.mp n9 none 0 ([]:List i9),Ro.mp kK.ty none 0 ([]:List jL),(ml a3 4)]∧M.sX N n J a2 a3 ao q o j I aJ=some r) ?_ ?_)))))))
 have g:=g.add (m:=Ro.mp lC.ty none 0 ([]:List ByteArray)) (Ro.nil lC.ty _ _)
 have g:=g.add (m:=Ro.mp (fInt .i64).ty none 0 ([]:List Int)) (Ro.nil (fInt .i64).ty _ _)
 have g:=g.add (m:=Ro.mp kO none 0 ([]:List i8)) (Ro.nil kO _ _)
 have g:=g.add (m:=Ro.mp (fInt .u64).ty none 0 ([]:List Int)) (Ro.nil (fInt .u64).ty _ _)
 have g:=g.add (m:=Ro.mp n9 none 0 ([]:List i9)) (Ro.nil n9 _ _)
 have g:=g.add (m:=Ro.mp kK.ty none 0 ([]:List jL)) (Ro.nil kK.ty _ _)
 have g:=g.addArr j6 4
 exact ⟨_,o,0,e.kp [0,6,10,12,47,48],g.sp [1,8,2,3,4,0,5,6,7,9] [5,4,7,6,10,11,3,12,2,1,0,9],H⟩
 rintro n a w ⟨κ,I,aJ,e,g,H⟩
 rcases n with _|bE
 simp [M.sX] at H
 simp only [M.sX] at H
 refine qr λ_ cm=>wp 1 [0,6,10,12,47,48,49] e λa e=>cm _ _ (qs λ_ cn=>bc e H (λhb H=>?_) λhb H=>?_)
 refine sk (cn _ _ (qs λ_ co=>bk (qr λ_ cp=>(wp 2 [0,6,10,12,13,47,48] e λa e=>(cp _ _ (rl (wp 3 [0,6,10,12,13,47,48,53] e λa e=>wc (wld e g 0 9 0 λa e=>jE (L':=[(0,vi J),k2y b8,k4h O,(12,pt P 0),(47,vi (o.length:Int)),(48,vi aJ),(54,.slice u I.length o.length),(55,vi aJ)]) 1 [0,6,10,12,47,48,54,55] e kr λa e=>bd H λcI bx H=>wc (uJ e g kr 3 (sz:=1) rfl rfl rfl rfl rfl bx kr kr λcJ cx a bF e=>wc (sR e g kr 3 (z:=true) rfl rfl rfl rfl bF bx rfl kr rfl kr (Cf:=(λnn=>[.box P 87 [si J,si a2,si 0,si 0,si 0,si 0,sl none 0 0,sl none 0 0,sl B q.length D,sl u nn o.length,sl G j.length j.length,sb false,(1,[.pointer none]),(1,[.pointer none]),(1,[.pointer none]),su 0,(4,(encs pO (replicate 4 (none:Option Nat)))),ei 4 (replicate 4 0),ei 4 (replicate 4 0),(1,[.map (some az)]),(1,[.map (some aA)]),sl none 0 0,(1,[.map (some aB)]),su 0,(1,[.pointer none]),si 0,si 0,sl none 0 0,sl none 0 0,su 0,sb false,sb false,sb false,sl none 0 0,sl none 0 0],.box b8 22 [eb 4 a3],.ext (ownX (fInt .i64) 3 B D q),.ext (ownX jM 4 u (o.length) (set I (toNat aJ) true)),.ext (ownX (fInt .i64) 3 G (j.length) j),.ext (arrX j6 (replicate 4 (none:Option Nat)) [] (replicate 4 none)),.ext (objX (some az) (.map (#[]) 0)),.ext (objX (some aA) (.map (#[]) 0)),.ext (objX (some aB) (.map (#[]) 0)),ox o_stab_Table O an ao.1])) (Lf:=(λnn=>[(0,vi J),(6,pt b8 0),(10,.pointer (pa O)),(12,pt P 0),(47,vi (o.length:Int)),(48,vi aJ),(54,.slice u nn o.length),(55,vi aJ)])) [0,6,10,12,47,48,54,55] kr kr λa w e g=>?_))))))))))
 refine co _ _ (rl (wp 2 [0,6,10,12,47,48] e λa e=>nl ?_))
 exact ⟨bE,jb _,_,(set I (toNat aJ) true),i64.wrap (aJ+1),e.kp [0,6,10,12,47,48],g.sp (rg 10) (rg 12),H⟩
 refine xt (cj _ _ (qr λ_ bR=>wp 1 [0,6,10,12,58] e λa e=>?_))
 have g:=g.addNil 95 5
 have g:=g.addNil 32 1
 have g:=g.addNil 32 1
 have g:=g.addOpt o_order_Log
 have g:=g.addOpt o_coord_Table
 have g:=g.addOpt o_gate_move
 refine bd H λd bG H=>?_
 have bt:=g.segs 6 rfl
 refine wc (wcS 11 [6,5,4,3,2,1,11,12,13,14,0,7,8,9,10,15] e g (λg=>uH N 0 0 0 0 (j5.mk ([]:List ByteArray) ([]:List Int)) none none (replicate 4 none) (replicate 4 0) (replicate 4 0) (some []) (some []) ([]:List i8) (some []) none 0 ([]:List Int) ([]:List Int) 0 false false false (flat [si J,si a2]) none 0 none 0 (flat [sl B q.length D,sl u I.length o.length,sl G j.length j.length,k3e,k4g]) none [] none [] [vu 0] (replicate 4 (none:Option Nat)) [] (some az) (#[]) 0 (some aA) (#[]) 0 none 0 (some aB) (#[]) 0 [vu 0] none [] [vi 0] none 0 none 0 (flat k08) P ((g.regr 0 [(true,2),(false,6),(true,5),(false,20),(true,2)] rfl).sbK [0,1,2,3,3,4,5,6,7,8,8]) bG) ?_)
 rintro _ κ w a ⟨bz,bA,bB,bC,aj,aD,ak,aE,bl,bm,S,aq,ar,T,au,av,U,V,W,aw,ax,al,aF,X,Y,Z,aa,rfl,h2⟩ e hB
 have g:=(hB _ _ h2).unregrK 0 [(true,2),(false,6),(true,5),(false,20),(true,2)] (s':=[si J,si a2,si d.1,si 0,si d.2.1,si d.2.2.1,sl bz d.2.2.2.1.Cuts.length bA,sl bB d.2.2.2.1.Nodes.length bC,sl B q.length D,sl u I.length o.length,sl G j.length j.length,k3e,k4g,sp aj,sp ak,su 0,k4d bl,ei 4 d.u4.2.2.2.1,ei 4 d.u8.1,sm S,sm T,sl U d.u8.2.2.2.1.length V,sm W,su 0,sp al,si 0,si d.u8.u4.2.2.1,sl X d.u8.u4.2.2.2.1.length Y,sl Z d.u8.u8.1.length aa,su d.u8.u8.2.1,sb d.u8.u8.2.2.1,sb d.u8.u8.2.2.2.1,sb d.u8.u8.u4,k37,k37]) bt rfl
 refine bR _ _ (qr λ_ bS=>wp 4 [0,6,12,61,63] e λa e=>wc (wst e g 0 12 1 [sp O] (sgN 1 jD) λa w e g=>bS _ _ (m2 (λa w=>∃κ a6,∃aQ:List ByteArray,∃a7 a8,∃aR:List Int,∃a9 ba aS be bf aT,Fr (98) [] [(12,pt P 0)] a∧SS Ms κ0 w0 κ w [.box P 87 [si J,si a2,si a6,si 0,si d.2.1,si d.2.2.1,sl a7 aQ.length a8,sl a9 aR.length ba,sl B q.length D,sl u I.length o.length,sl G j.length j.length,k3e,sp O,sp aj,sp ak,su 0,k4d aS,ei 4 aT,ei 4 d.u8.1,sm S,sm T,sl U d.u8.2.2.2.1.length V,sm W,su 0,sp al,si 0,si d.u8.u4.2.2.1,sl X d.u8.u4.2.2.2.1.length Y,sl Z d.u8.u8.1.length aa,su d.u8.u8.2.1,sb d.u8.u8.2.2.1,sb d.u8.u8.2.2.2.1,sb d.u8.u8.u4,k37,k37],k45 U d.u8.2.2.2.1.length V,k46 X d.u8.u4.2.2.2.1.length Y,k46 Z d.u8.u8.1.length aa,.ext (ownX (fInt .i64) 3 B D q),.ext (ownX jM 4 u (o.length) I),.ext (ownX (fInt .i64) 3 G (j.length) j),k31 O an ao.1,k47 aj aD d.u4.1,k48 ak aE d.u4.2.1,.ext (arrX j6 aS be bf),mx S aq ar,mx T au av,mx W aw ax,k3p al aF d.u8.u4.2.1] [k3a a7 a8 aQ,k3b a9 ba aR,(ml aS 4),(ml aT 4),(ml d.u8.1 4),k49 S aq ar d.u8.2.1,k4a T au av d.u8.2.2.1,k4b U V d.u8.2.2.2.1,k4c W aw ax d.u8.u4.1,k3m X Y d.u8.u4.2.2.2.1,k3m Z aa d.u8.u8.1,Ro.mp n9 none 0 ([]:List i9),Ro.mp kK.ty none 0 ([]:List jL)]∧M.tZ N J a2 ao q j I d a6 aQ aR bf aT=some r) ?_ ?_)))
 refine qr λ_ bT=>(jE (L':=[(0,vi J),k2y b8,(12,pt P 0),(64,vi J)]) 1 [0,6,12,64] e kr λa e=>bd H λbU bn H=>wc (l7 e kr (E:=4) (sz:=1) (n:=4) rfl rfl (i:=J) rfl (m4 bn (g.get 22 rfl)) kr kr λa e=>wc (rK (t:=jM) e g kr 11 0 (v:=vb bU) rfl rfl rfl rfl bn rfl rfl kr kr λa e=>bT _ _ (bc e H (λhb H=>?_) λhb H=>?_))))
 refine qr λ_ bV=>wp 2 [0,6,12,67,68] e λa e=>bd H λx bH H=>wc (jR e g kr kr (A3 N g.fresh 0 ((g.pick [] kr).ro) bH) ?_)
 rintro _ κ w a ⟨ad,ae,af,ah,rfl,hR,hN⟩ e g hO
 have g:=g.adds hR
 have g:=g.addC hO hN
 refine wp 2 [0,6,12,68,69,71] e λa e=>wc (wst e g 2 2 1 [si 2] (sgN 1 jD) λa w e g=>wp 2 [0,6,12,69,73] e λa e=>wc (wst e g 2 6 2 (k07 ad x ae af ah) (sgN 2 jD) λa w e g=>(bV _ _ (qr λ_ bW=>(wc (wls e g 13 0 1 λa e=>wp 1 [0,12,74,75] e λa e=>(bW _ _ (bk (jT (n:=N) (λn a w=>∃κ Q aH aG ai l,Fr (98) [] [(0,vi J),(12,pt P 0),(74,.agg (flat [eb 4 a3]).toArray),(75,vi l)] a∧SS Ms κ0 w0 κ w (k11 P J a2 d.2.1 d.2.2.1 ad x ae af ah B q.length D u I.length o.length G j.length O aj ak Q ai d.u8.1 S T U d.u8.2.2.2.1.length V W al d.u8.u4.2.2.1 X d.u8.u4.2.2.2.1.length Y Z d.u8.u8.1.length aa d.u8.u8.2.1 d.u8.u8.2.2.1 d.u8.u8.2.2.2.1 d.u8.u8.u4 (ownX (fInt .i64) 3 B D q) (ownX jM 4 u (o.length) I) (ownX (fInt .i64) 3 G (j.length) j) an ao.1 aD d.u4.1 aE d.u4.2.1 (arrX j6 Q aH aG) aq ar au av aw ax aF d.u8.u4.2.1) (k12 ad ae x af ah (ml Q 4) (ml ai 4) (ml d.u8.1 4) S aq ar d.u8.2.1 T au av d.u8.2.2.1 U V d.u8.2.2.2.1 W aw ax d.u8.u4.1 X Y d.u8.u4.2.2.2.1 Z aa d.u8.u8.1 ([]:List i9) ([]:List jL) (ml a3 4))∧M.rA N n J a2 a3 ao q j I d x aG ai l=some r) ?_ ?_)))))))))
 exact ⟨_,bl,bm,d.u4.2.2.1,d.u4.2.2.2.1,0,e.kp [0,12,74,75],g.sp [2,0,1,3,4,5,14,15,16,17,6,7,8,9,10,11,12] [0,1,4,5,6,7,8,9,10,11,12,22,23,24],H⟩
 rintro n a w ⟨κ,Q,aH,aG,ai,l,e,g,H⟩
 rcases n with _|bo
 simp [M.rA] at H
 simp only [M.rA] at H
 refine qr λ_ bX=>wp 1 [0,12,74,75,76] e λa e=>bX _ _ (qs λ_ bY=>bc e H (λhb H=>?_) λhb H=>?_)
 refine sk (bY _ _ (m2 (λa w=>∃κ aU bg bh aV,Fr (98) [] [(0,vi J),(12,pt P 0),(74,.agg (flat [eb 4 a3]).toArray),(75,vi l)] a∧SS Ms κ0 w0 κ w (k11 P J a2 d.2.1 d.2.2.1 ad x ae af ah B q.length D u I.length o.length G j.length O aj ak aU aV d.u8.1 S T U d.u8.2.2.2.1.length V W al d.u8.u4.2.2.1 X d.u8.u4.2.2.2.1.length Y Z d.u8.u8.1.length aa d.u8.u8.2.1 d.u8.u8.2.2.1 d.u8.u8.2.2.2.1 d.u8.u8.u4 (ownX (fInt .i64) 3 B D q) (ownX jM 4 u (o.length) I) (ownX (fInt .i64) 3 G (j.length) j) an ao.1 aD d.u4.1 aE d.u4.2.1 (arrX j6 aU bg bh) aq ar au av aw ax aF d.u8.u4.2.1) (k12 ad ae x af ah (ml aU 4) (ml aV 4) (ml d.u8.1 4) S aq ar d.u8.2.1 T au av d.u8.2.2.1 U V d.u8.2.2.2.1 W aw ax d.u8.u4.1 X Y d.u8.u4.2.2.2.1 Z aa d.u8.u8.1 ([]:List i9) ([]:List jL) (ml a3 4))∧M.v8 N (M.rA N bo) J a2 a3 ao q j I d x l bh aV=some r) ?_ ?_))
 refine bk (qr λ_ bZ=>(jE (L':=[(0,vi J),(12,pt P 0),(74,.agg (flat [eb 4 a3]).toArray),(75,vi l),(77,vi l)]) 1 [0,12,74,75,77] e kr λa e=>bd H λb0 bI H=>wc (kQ e kr (v:=vb b0) (pJ (t:=jM) (E:=4) (n:=4) (m:=4) rfl kr rfl bI (g.get 13 rfl) rfl rfl kr kr kr _) λa e=>wp 2 [0,12,14,15,74,75] e λa e=>bZ _ _ (qr λ_ b1=>bd H λb2 aL H=>k8 (λa w=>∃κ,Fr (98) [] [(0,vi J),(12,pt P 0),(14,vi l),(74,.agg (flat [eb 4 a3]).toArray),(75,vi l),(84,vb b2)] a∧SS Ms κ0 w0 κ w (k11 P J a2 d.2.1 d.2.2.1 ad x ae af ah B q.length D u I.length o.length G j.length O aj ak Q ai d.u8.1 S T U d.u8.2.2.2.1.length V W al d.u8.u4.2.2.1 X d.u8.u4.2.2.2.1.length Y Z d.u8.u8.1.length aa d.u8.u8.2.1 d.u8.u8.2.2.1 d.u8.u8.2.2.2.1 d.u8.u8.u4 (ownX (fInt .i64) 3 B D q) (ownX jM 4 u (o.length) I) (ownX (fInt .i64) 3 G (j.length) j) an ao.1 aD d.u4.1 aE d.u4.2.1 (arrX j6 Q aH aG) aq ar au av aw ax aF d.u8.u4.2.1) (k12 ad ae x af ah (ml Q 4) (ml ai 4) (ml d.u8.1 4) S aq ar d.u8.2.1 T au av d.u8.2.2.1 U V d.u8.2.2.2.1 W aw ax d.u8.u4.1 X Y d.u8.u4.2.2.2.1 Z aa d.u8.u8.1 ([]:List i9) ([]:List jL) (ml a3 4))∧True) ?_ ?_))))
 refine wp 2 [0,12,14,74,75,80] e λa e=>bs aL (λhb aL=>?_) λhb aL=>?_
 have e:=e.bv 80 hb
 refine wp 4 [0,12,14,74,75,84] e λa e=>nl ?_
 cases aL
 exact ⟨_,e.kp [0,12,14,74,75,84],g.sp (rg 17) (rg 14),ja⟩
 have e:=e.bv 80 hb
 refine wp 4 [0,12,14,74,75,84] e λa e=>nl ?_
 cases aL
 exact ⟨_,e.kp [0,12,14,74,75,84],g.sp (rg 17) (rg 14),ja⟩
 rintro a w ⟨κ,e,g,-⟩
 refine b1 _ _ (bc e H (λhb H=>?_) λhb H=>?_)
 refine bd H λcB bJ H=>?_
 obtain ⟨b3,aW⟩:=g.arrIdx 12 rfl bJ
 have g:=g.add (m:=MP.const (idx Q l=some b3)) aW
 refine rgS g [8,12] ?_
 have g:=g.drew
 have hX:=g.fx
 refine jN [0,1,5,6] [0,12,14,74,75,86,91] (L':=[(0,vi J),(12,pt P 0),(14,vi l),(74,.agg (flat [eb 4 a3]).toArray),(75,vi l),(86,vi l),(91,pt P 16)]) (listed':=(mV 13 99)) (fuel:=9) e hX kr (by intro c a w t v h; cases t<;>exact h) kr rfl λa e=>u1 [2,3,9,10] [0,12,74,75,86,88,91,94] e (λ_=>hX) λa e=>?_
 have e:Fr (98) _ [(0,vi J),(12,pt P 0),(74,.agg (flat [eb 4 a3]).toArray),(75,vi l),(86,vi l),(88,vi l),(91,pt P 16),(94,pt P 20)] a:=e.kp [0,12,74,75,86,88,91,94]
 refine ago 4 e rfl (bd H λbi bK H=>wcS 0 (rg 17) e g (λg=>y9 N 0 (g.sbK []) bK) ?_)
 rintro _ κ w a ⟨ay,b4,b5,b6,b7,b9,ca,cb,rfl,h2⟩ e hB
 have g:=hB _ _ h2
 refine ⟨λ_=>(g.sx [4,10,11,12,13,14,15,16,17,18,19,20] (ra 2 15)),?_⟩
 refine atk 7 (some 92) e (g.sx [4,10,11,12,13,14,15,16,17,18,19,20] (ra 2 15)) rfl (λw _=>lU (E:=81) (sz:=1) (n:=4) rfl rfl (i:=l) rfl (m4 aW (g.get 5 rfl)) kr kr w) λa e=>ago 8 e rfl ?_
 obtain ⟨bL,g⟩:=g.foldI (ck:=lO) (fs:=lN) ay (b4,b5,b6,b7,b9,ca,cb) bi [0,3,1,2] (ra 4 17) [0,1] dc kr kr
 refine lK (t:=pO) (y:=(some ay)) (v:=pt ay 0) e g kr 1 16 (s':=[si J,si a2,si 2,si 0,si d.2.1,si d.2.2.1,sl ad x.Cuts.length ae,sl af x.Nodes.length ah,sl B q.length D,sl u I.length o.length,sl G j.length j.length,k3e,sp O,sp aj,sp ak,su 0,k4d (set Q (toNat l) (some ay)),ei 4 ai,ei 4 d.u8.1,sm S,sm T,sl U d.u8.2.2.2.1.length V,sm W,su 0,sp al,si 0,si d.u8.u4.2.2.1,sl X d.u8.u4.2.2.2.1.length Y,sl Z d.u8.u8.1.length aa,su d.u8.u8.2.1,sb d.u8.u8.2.2.1,sb d.u8.u8.2.2.2.1,sb d.u8.u8.u4,k37,k37]) (C':=[ox j6 (some ay) bL (some bi),k4i P J a2 d.2.1 d.2.2.1 ad x ae af ah B q.length D u I.length o.length G j.length O aj ak (set Q (toNat l) (some ay)) ai d.u8.1 S T U d.u8.2.2.2.1.length V W al d.u8.u4.2.2.1 X d.u8.u4.2.2.2.1.length Y Z d.u8.u8.1.length aa d.u8.u8.2.1 d.u8.u8.2.2.1 d.u8.u8.2.2.2.1 d.u8.u8.u4,.tok ad 9 1 x.Cuts.length ae,.tok af 3 1 x.Nodes.length ah,k45 U d.u8.2.2.2.1.length V,k46 X d.u8.u4.2.2.2.1.length Y,k46 Z d.u8.u8.1.length aa,.ext (ownX (fInt .i64) 3 B D q),.ext (ownX jM 4 u (o.length) I),.ext (ownX (fInt .i64) 3 G (j.length) j),k31 O an ao.1,k47 aj aD d.u4.1,k48 ak aE d.u4.2.1,.ext (arrX j6 Q aH aG),mx S aq ar,mx T au av,mx W aw ax,k3p al aF d.u8.u4.2.1]) rfl rfl kr rfl rfl aW rfl rfl kr kr kr kr λa w e g=>?_
 have g:=g.add (m:=ml (set Q (toNat l) (some ay)) 4) (List.length_set.trans (g.get 5 rfl))
 obtain ⟨bq,g⟩:=g.arrSetI 0 13 [1,2,3,4,5,6,7,8,9,10,11,12,14,15,16,17] dc (toNat l) rfl rfl
 refine ⟨notE,?_⟩
 refine ago 11 e rfl (bd H λcD br H=>l7 e kr (E:=3) (sz:=1) (n:=4) rfl rfl (i:=l) rfl (m4 br (g.get 7 rfl)) kr kr λa e=>⟨notE,?_⟩)
 refine ago 12 e rfl (lK (t:=(fInt .i64)) (y:=0) (v:=vi 0) e g kr 1 17 (s':=[si J,si a2,si 2,si 0,si d.2.1,si d.2.2.1,sl ad x.Cuts.length ae,sl af x.Nodes.length ah,sl B q.length D,sl u I.length o.length,sl G j.length j.length,k3e,sp O,sp aj,sp ak,su 0,k4d (set Q (toNat l) (some ay)),ei 4 (set ai (toNat l) 0),ei 4 d.u8.1,sm S,sm T,sl U d.u8.2.2.2.1.length V,sm W,su 0,sp al,si 0,si d.u8.u4.2.2.1,sl X d.u8.u4.2.2.2.1.length Y,sl Z d.u8.u8.1.length aa,su d.u8.u8.2.1,sb d.u8.u8.2.2.1,sb d.u8.u8.2.2.2.1,sb d.u8.u8.u4,k37,k37]) (C':=[.ext (arrX j6 (set Q (toNat l) (some ay)) bq (set aG (toNat l) (some bi))),k4i P J a2 d.2.1 d.2.2.1 ad x ae af ah B q.length D u I.length o.length G j.length O aj ak (set Q (toNat l) (some ay)) (set ai (toNat l) 0) d.u8.1 S T U d.u8.2.2.2.1.length V W al d.u8.u4.2.2.1 X d.u8.u4.2.2.2.1.length Y Z d.u8.u8.1.length aa d.u8.u8.2.1 d.u8.u8.2.2.1 d.u8.u8.2.2.2.1 d.u8.u8.u4,.tok ad 9 1 x.Cuts.length ae,.tok af 3 1 x.Nodes.length ah,k45 U d.u8.2.2.2.1.length V,k46 X d.u8.u4.2.2.2.1.length Y,k46 Z d.u8.u8.1.length aa,.ext (ownX (fInt .i64) 3 B D q),.ext (ownX jM 4 u (o.length) I),.ext (ownX (fInt .i64) 3 G (j.length) j),k31 O an ao.1,k47 aj aD d.u4.1,k48 ak aE d.u4.2.1,mx S aq ar,mx T au av,mx W aw ax,k3p al aF d.u8.u4.2.1]) rfl rfl kr rfl rfl br rfl rfl kr kr kr kr λa w e g=>?_)
 have g:=g.add (m:=ml (set ai (toNat l) 0) 4) (List.length_set.trans (g.get 7 rfl))
 refine ⟨notE,?_⟩
 refine kN ?_
 exact ⟨_,(set Q (toNat l) (some ay)),bq,(set aG (toNat l) (some bi)),(set ai (toNat l) 0),e.kp [0,12,74,75],g.sp [1,2,3,4,5,6,7,8,9,10,11,12,0,13,14,15,16] [5,6,1,0,9,10,11,12,13,14,15,16,17,18],H⟩
 refine sk ?_
 exact ⟨_,Q,aH,aG,ai,e.kp [0,12,74,75],g.sp (rg 17) (rg 14),H⟩
 rintro a w ⟨κ,aU,bg,bh,aV,e,g,H⟩
 unfold M.v8 at H
 refine rl (wp 2 [0,12,74,75] e λa e=>nl ?_)
 exact ⟨bo,jb _,_,aU,bg,bh,aV,i64.wrap (l+1),e.kp [0,12,74,75],g.sp (rg 17) (rg 14),H⟩
 refine xt ?_
 exact ⟨_,2,x.Cuts,ad,ae,x.Nodes,af,ah,Q,aH,aG,ai,e.kp [12],g.sp [0,3,4,5,6,7,8,9,10,11,12,13,14,15,16] (rg 13),H⟩
 refine sk ?_
 exact ⟨_,d.1,d.2.2.2.1.Cuts,bz,bA,d.2.2.2.1.Nodes,bB,bC,bl,bm,d.u4.2.2.1,d.u4.2.2.2.1,e.kp [12],g.sp [0,1,2,3,12,13,14,15,4,5,6,7,8,9,10] [0,1,2,3,4,5,6,7,8,9,10,20,21],H⟩
 rintro a w ⟨κ,a6,aQ,a7,a8,aR,a9,ba,aS,be,bf,aT,e,g,H⟩
 unfold M.tZ at H
 refine qr λ_ cc=>wp 3 [8,9] e λa e=>cc _ _ (rt ?_)
 have g:=g.addNil 61 15
 have g:=g.addNil 52 13
 obtain ⟨bM,g⟩:=g.foldI (ck:=lZ) (fs:=lV) P (a7,a8,a9,ba,B,D,u,o.length,G,j.length,O,an,aj,aD,ak,aE,aS,be,S,aq,ar,T,au,av,U,V,W,aw,ax,al,aF,X,Y,Z,aa,none,0,none,0) (jV.mk J a2 a6 0 d.2.1 d.2.2.1 (j5.mk aQ aR) q I j false ao.1 d.u4.1 d.u4.2.1 0 bf aT d.u8.1 d.u8.2.1 d.u8.2.2.1 d.u8.2.2.2.1 d.u8.u4.1 0 d.u8.u4.2.1 0 d.u8.u4.2.2.1 d.u8.u4.2.2.2.1 d.u8.u8.1 d.u8.u8.2.1 d.u8.u8.2.2.1 d.u8.u8.2.2.2.1 d.u8.u8.u4 ([]:List i9) ([]:List jL)) [2,3,4,5,1,0,6,7,8,9,10,11,12,13,14,15,16] [] (rg 13) dc kr kr
 cases H
 exact j7 e g (tB results7 (rvt e) (rvt e)) ⟨(some P),bM,rfl,g.sp [0] []⟩
end Go.Cf
